/- Texts put behind one another: SState, SState2, SState3, SState4, SState5. Conditions: none. -/
import Derived.Test.YtohgndhnndeijaaGreatZTh
import Derived.Test.YtohgndhnndeijaaGreatMStateZ
set_option linter.all false
set_option maxHeartbeats 9999999
open List renaming append_nil -> Qa, range -> Qc, take_length -> Qf, take_of_length_le -> Qg, length -> Qj
open Go.Proofs.Tryz renaming prog -> Qb
open Bool renaming or_self -> Qd, and_false -> Qe, false_and -> Qh, and_self -> Qi
namespace Go.Proofs.YtohgndhnndeijaaGreat.Ax
open Go Go.Ax Go.Ax.M
section
variable {H:AP}{K:AH->AP->Prop}{s:State}{oS oT:Nat}{fS fT rS rT:Bool}
theorem HG{t:Int}(hT:jU H oT s rT)(h:K (.bool (BD s t)) H):AF Qb 159 [stA s oS oT fS fT,nS t] H K:=by
 have kT:=AL.of hT
 have hg:0<=t->t<s.AB.length->_:=λh1 h2=>BI (s:=s) (k:=t.toNat) (by omega)
 refine AF.tidy ?_
 refine Aa ok159 ?_;repeat' first|simp only[*,go_sem]|apply orR|(apply sp<;>intro hc)|fail
 all_goals (refine tb h (by first|exact⟨_,rfl⟩|exact⟨[],(Qa _).symm⟩|exact hx|exact hx.app _) ?_;first|(simp only[BD, *,bs,go_sem];done)|(simp_all[BD]<;>omega)|grind[BD])
theorem PR(hS:jI H oS s rS)(hT:jU H oT s rT)(hlen:s.AE.length<=1000)(h:K (.bool (Lb s)) H):AF Qb 106 [stA s oS oT fS fT] H K:=by
 have kT:=AL.of hT
 have kS:=AL.of hS
 refine AF.tidy ?_
 refine Aa ok106 ?_;repeat' first|simp only[*,go_sem]|apply orR|(apply sp<;>intro hc)|fail
 refine AK.Az [9,1,7,8] ?_;simp only[mpC,go_sem]
 refine AK.acc (λk W=>[(9,nS (k:Int))]) (λk W=>W) (λk W=>Ex H W/\AL W H.length _/\(s.AE.take k).all (Ic s)=true) s.AE.length ?_ (a0:=_) ⟨.mk _,AL.of BH,by simp⟩
 rintro k W hk ⟨hx,kst,hI⟩ next
 have kT:AL W oT _:=kT.ex hx
 have kS:AL W oS _:=kS.ex hx
 have kT0:=kT.at
 have kS0:=kS.at
 have kst0:=kst.at
 refine AK.unfold ?_
 have hw:=AY (k:=k) (by omega)
 have hg:k<s.AE.length->_:=λh=>A4 (s:=s) (k:=k) h
 have hgT:=@Dt s
 repeat' first|simp only[*,AA b106_9.eq_1,AR,AX,apC,go_sem]|apply orR|(apply sp<;>intro hc)|refine Mj ?_|refine Dx ?_|refine HG (kT _) ?_
 all_goals try(refine tb h (hx.app _) ?_;have e:s.AE.all (Ic s)=false:=Rq (k:=k) ‹_› (by simp[Ic, *];try omega);simp[Lb,e];done)
 all_goals try((refine AK.Az [9,1,7,8] ?_;simp only[mpC,go_sem];refine next _ ‹_› ⟨hx.app _,kst.app _,?_⟩);rw[Vo ‹_›,hI];simp[Ic, *];try omega;done)
 refine tb h hx ?_
 have hk:k=s.AE.length:=by omega
 subst hk
 rw[Qf]at hI
 simp[Lb,hI]
theorem Mw{t:Int}(hS:jI H oS s rS)(hlen:s.AE.length<=1000)(h:K (.slice H.length (BM s t).length 0 (BM s t).length false) (H++[.AU 1 (ints (BM s t)) false])):AF Qb 160 [stA s oS oT fS fT,nS t] H K:=by
 have kS:=AL.of hS
 refine AF.gc ?_
 refine Aa ok160 ?_;repeat' first|simp only[*,go_sem]|refine orR ?_|(refine sp ?_ ?_<;>intro hc)|fail
 refine AK.Az [5,11,1,9,10] ?_;simp only[mpC,go_sem]
 refine AK.lay 1 ?_
 simp only[go_sem]
 refine AK.acc (λk G=>[(5,.slice (H.length+1) (pick (DV s t) k).length 0 (pick (DV s t) k).length false),(11,nS (k:Int))]) (λk G=>H++_:: .AU 1 (ints (pick (DV s t) k)) false::G) (λk G=>True) s.AE.length ?_ (a0:=[]) trivial
 intro k G hk _ next
 refine AK.Jn λW hW=> ?_
 have kS:=kS.ex hW.ex
 have kst:=hW.EQ
 have ko:=hW.Hx
 have kS0:=kS.at
 have kst0:=kst.at
 have ko0:=ko.at
 have kos:=ko.set
 have hb:((pick (DV s t) k).length+1)* 8<=140737488355328:=by have:=GO (p:=DV s t) (k:=k);omega
 refine AK.unfold ?_
 have hw:=AY (k:=k) (by omega)
 have hg:k<s.AE.length->_:=λh=>A4 (s:=s) (k:=k) h
 repeat' first|simp only[*,AA b160_3.eq_1,AR,AX,apC,go_sem]|refine orR ?_|(refine sp ?_ ?_<;>intro hc)|refine Dx ?_
 case' refine_2=>
  have hk':k=s.AE.length:=by omega
  have hW:W=_:=hW
  subst hk' hW
  exact Gc.slice (i:=1) rfl Ca (by simpa only[BM] using h)
 case' refine_1.refine_1.refine_1=>have e:=UG (p:=DV s t) (k:=k) (by simp[DV, *])
 case' refine_1.refine_1.refine_2=>have e:=OL (p:=DV s t) (k:=k) (by simp[DV, *])
 case' refine_1.refine_2=>have e:=OL (p:=DV s t) (k:=k) (by simp[DV, *])
 all_goals
  have hW:W=_:=hW
  subst hW
  simp only[e,Dn,GI,go_sem]at next
  (refine AK.Az [5,11,1,9,10] ?_;simp only[mpC,go_sem];refine next _ ‹_›)
theorem Nh(hS:jI H oS s rS)(hT:jU H oT s rT)(hg:Ee s.AS=true)(hlS:s.AE.length<=1000)(hlT:s.AB.length<=1000)(h:K (.bool (F5 s)) H):AF Qb 107 [stA s oS oT fS fT] H K:=by
 have kT:=AL.of hT
 have kS:=AL.of hS
 have hgb:=HQ hg
 have hw2:IntKind.wrap .i64 (2+s.AS.AI)=2+s.AS.AI:=w64 (by omega) (by omega)
 clear hgb
 refine AF.tidy ?_
 refine Aa ok107 ?_;repeat' first|simp only[*,go_sem]|apply orR|(apply sp<;>intro hc)|fail
 refine AK.Az [9,1,7,8] ?_;simp only[mpC,go_sem]
 refine AK.acc (λk W=>[(9,nS (k:Int))]) (λk W=>W) (λk W=>Ex H W/\AL W H.length _/\((Qc k).all (DE s))=true) s.AB.length ?_ (a0:=_) ⟨.mk _,AL.of BH,by simp⟩
 rintro k W hk ⟨hx,kst,hI⟩ next
 have kT:AL W oT _:=kT.ex hx
 have kS:AL W oS _:=kS.ex hx
 have kT0:=kT.at
 have kS0:=kS.at
 have kst0:=kst.at
 refine AK.unfold ?_
 have hw:=AY (k:=k) (by omega)
 have hw3:IntKind.wrap .i64 ((k:Int)-2)=k-2:=w64 (by omega) (by omega)
 have hg:k<s.AB.length->_:=λh=>BI (s:=s) (k:=k) h
 have hf:0<(s.AG k).from_->¬(s.AE.length:Int)<(s.AG k).from_->IntKind.wrap .i64 ((s.AG k).from_-1)=(s.AG k).from_-1/\(0<=(s.AG k).from_-1)=True/\((s.AG k).from_-1<(s.AE.length:Int))=True:=λh1 h2=>
  ⟨w64 (by omega) (by omega),by simp;omega,by simp;omega⟩
 have hf2:0<(s.AG k).from_->¬(s.AE.length:Int)<(s.AG k).from_->_:=λh1 h2=>A4 (s:=s) (k:=((s.AG k).from_-1).toNat) (by omega)
 repeat' first|simp only[*,AA b107_10.eq_1,AR,AX,apC,go_sem]|apply orR|(apply sp<;>intro hc)|refine Nm ?_|refine Dx ?_|refine WO ?_|refine Mw (kS _) hlS ?_
 all_goals try(refine tb h (by first|exact⟨_,rfl⟩|exact⟨[],(Qa _).symm⟩|exact hx|exact hx.app _) ?_;have e:(Qc s.AB.length).all (DE s)=false:=Cv (k:=k) ‹_› (by(first|(simp only[DE,Hs,Bc,EY,F4, *,bs,go_sem];done)|(simp_all[DE,Hs,Bc,EY,F4]<;>omega)|grind[DE,Hs,Bc,EY,F4]));simp[F5,e];done)
 all_goals try((refine AK.Az [9,1,7,8] ?_;simp only[mpC,go_sem];refine next _ ‹_› ⟨(by first|exact⟨_,rfl⟩|exact⟨[],(Qa _).symm⟩|exact hx|exact hx.app _),kst.app _,?_⟩);rw[Da (N:=0),hI];(first|(simp only[DE,Hs,Bc,EY,F4, *,bs,go_sem];done)|(simp_all[DE,Hs,Bc,EY,F4]<;>omega)|grind[DE,Hs,Bc,EY,F4]);done)
 refine tb h hx ?_
 have hk:k=s.AB.length:=by omega
 subst hk
 simp[F5,hI]
theorem Mv(hS:jI H oS s rS)(hlS:s.AE.length<=1000)(hu:∀k,k<s.AE.length->(s.slot k).up<s.AE.length)(h:K (.bool (Hh s)) H):AF Qb 112 [stA s oS oT fS fT] H K:=by
 have kS:=AL.of hS
 refine AF.tidy ?_
 refine Aa ok112 ?_;repeat' first|simp only[*,go_sem]|apply orR|(apply sp<;>intro hc)|fail
 refine AK.Az [9,1,7,8] ?_;simp only[mpC,go_sem]
 refine AK.acc (λk W=>[(9,nS (k:Int))]) (λk W=>W) (λk W=>Ex H W/\AL W H.length _/\(s.AE.take k).all (Dv s)=true) s.AE.length ?_ (a0:=_) ⟨.mk _,AL.of BH,by simp⟩
 rintro k W hk ⟨hx,kst,hI⟩ next
 have kS:AL W oS _:=kS.ex hx
 have kS0:=kS.at
 have kst0:=kst.at
 refine AK.unfold ?_
 have hw:=AY (k:=k) (by omega)
 have hg:k<s.AE.length->_:=λh=>A4 (s:=s) (k:=k) h
 have hf:¬(s.slot k).up<0->k<s.AE.length->(0<=(s.slot k).up)=True/\((s.slot k).up<(s.AE.length:Int))=True:=λh1 h2=>⟨by simp;omega,by simp[hu k h2]⟩
 have hf2:¬(s.slot k).up<0->k<s.AE.length->_:=λh1 h2=>A4 (s:=s) (k:=(s.slot k).up.toNat) (by have:=hu k h2;omega)
 clear hu
 repeat' first|simp only[*,AA b112_5.eq_1,AR,AX,apC,go_sem]|apply orR|(apply sp<;>intro hc)|refine Px ?_
 all_goals try(refine tb h (by first|exact⟨_,rfl⟩|exact⟨[],(Qa _).symm⟩|exact hx|exact hx.app _) ?_;have e:s.AE.all (Dv s)=false:=Rq (k:=k) ‹_› (by(first|(simp only[Dv, *,bs,go_sem];done)|(simp_all[Dv]<;>omega)|grind[Dv]));simp[Hh,e];done)
 all_goals try((refine AK.Az [9,1,7,8] ?_;simp only[mpC,go_sem];refine next _ ‹_› ⟨(by first|exact⟨_,rfl⟩|exact⟨[],(Qa _).symm⟩|exact hx|exact hx.app _),kst.app _,?_⟩);rw[Vo ‹_›,hI];(first|(simp only[Dv, *,bs,go_sem];done)|(simp_all[Dv]<;>omega)|grind[Dv]);done)
 refine tb h hx ?_
 have hk:k=s.AE.length:=by omega
 subst hk
 rw[Qf]at hI
 simp[Hh,hI]
end
section
variable {H:AP}{K:AH->AP->Prop}{s:State}{oS oT:Nat}{fS fT rS rT:Bool}
theorem Dd(hS:jI H oS s rS)(hlS:s.AE.length<=1000)(h:K (.agg [.slice H.length s.AE.length 0 s.AE.length false]) (H++[.AU 1 (ints (As s)) false])):AF Qb 111 [stA s oS oT fS fT] H K:=by
 have kS:=AL.of hS
 refine AF.gc ?_
 refine Aa ok111 ?_;repeat' first|simp only[*,go_sem]|refine orR ?_|(refine sp ?_ ?_<;>intro hc)|fail
 refine AK.Az [9,2,3,7,8] ?_;simp only[mpC,go_sem]
 refine AK.Kg (i:=H.length+2) 1 [.slice (H.length+3) 0 0 0 false] BO rfl rfl (λj a b ha hb=> ?_) ?_
 ·cases j with
  |zero=>simp at ha hb;subst ha hb;exact .inr ⟨rfl,by simp⟩
  |succ j=>simp at ha
 simp only[go_sem]
 refine AK.acc (λk G=>[(9,nS (k:Int))]) (λk G=>H++_::_:: .AU 1 [[.slice (H.length+3) k 0 k false]] false:: .AU 1 (ints ((s.AE.take k).map FE)) false::G) (λk G=>True) s.AE.length ?_ (a0:=[]) trivial
 intro k G hk _ next
 refine AK.Jn λW hW=> ?_
 have kS:=kS.ex hW.ex
 have kr:=hW.Hx
 have kf:=hW.Hy
 have ko:=hW.NS
 have kS0:=kS.at
 have kf0:=kf.at
 have ko0:=ko.at
 have kr0:=kr.at
 have krs:=kr.Eu
 have kos:=ko.set
 have kfo:=kf.other (i:=H.length+3) (by omega)
 have kfs:=@AL.OR _ _ (H.length+3) _ kf
 have hl:(ints ((s.AE.take k).map FE)).length=k:=by rw[LJ,List.length_map,List.length_take];omega
 have hb:(k+1)* 8<=140737488355328:=by omega
 refine AK.unfold ?_
 have hw:=AY (k:=k) (by omega)
 have hg:k<s.AE.length->_:=λh=>A4 (s:=s) (k:=k) h
 repeat' first|simp only[*,AA b111_4.eq_1,AR,AX,apC,go_sem]|refine orR ?_|(refine sp ?_ ?_<;>intro hc)|refine Dx ?_
 case' refine_2.refine_2=>
  have hk':k=s.AE.length:=by omega
  have hW:W=_:=hW
  subst hk' hW
  simp only[go_sem]
  refine Gc.Uk (i:=3) rfl Ca ?_
  simpa only[As,Qf] using h
 case' refine_2.refine_1.refine_1=>have e:(s.AE.take (k+1)).map FE=(s.AE.take k).map FE++[-2]:=by rw[Fk ‹_›];simp[FE, *]
 case' refine_2.refine_1.refine_2=>have e:(s.AE.take (k+1)).map FE=(s.AE.take k).map FE++[(s.slot k).up]:=by rw[Fk ‹_›];simp[FE, *]
 all_goals
  have hW:W=_:=hW
  subst hW
  simp only[e,Dn,GI,go_sem]at next
  (refine AK.Az [9,2,3,7,8] ?_;simp only[mpC,go_sem];refine next _ ‹_›)
end
section
variable {H:AP}{K:AH->AP->Prop}{s:State}{oS oT:Nat}{fS fT rS rT:Bool}
theorem Lf{t:AN}{n:Int}(hg:BB t=true)(h:K (.bool (Bx t n)) H):AF Qb 243 [.agg t.cells,nS n] H K:=by
 have hsh:t.ty=2->Dl .shl .i64 1 t.bits=some (nS (p2 t.bits)):=λh2=>I3 (CO hg h2).1
 have hw:t.ty=2->IntKind.wrap .i64 (t.base+p2 t.bits)=t.base+p2 t.bits:=λh2=>by
  have:=CO hg h2
  have:=C4 this.1
  exact w64 (by omega) (by omega)
 refine AF.tidy ?_
 unfold AN.cells
 refine Aa ok243 ?_;repeat' first|simp only[*,go_sem]|apply orR|(apply sp<;>intro hc)|fail
 all_goals (refine tb h (by first|exact⟨_,rfl⟩|exact⟨[],(Qa _).symm⟩|exact hx|exact hx.app _) ?_;first|(simp only[Bx, *,bs,go_sem];done)|(simp_all[Bx]<;>omega)|grind[Bx])
theorem Vq{x0 x1 x2 x3 x4 x5 x6:Int}{x7:Bool}{x8 x9 x10 x11 x12:Int}{n:Int}(hg:BB ⟨x0,x1,x2,x3,x4,x5,x6,x7,x8,x9,x10,x11,x12⟩=true)(h:K (.bool (Bx ⟨x0,x1,x2,x3,x4,x5,x6,x7,x8,x9,x10,x11,x12⟩ n)) H):AF Qb 243 [.agg [nS x0,nS x1,nS x2,nS x3,nS x4,nS x5,nS x6,.bool x7,nT x8,nT x9,nT x10,nT x11,nT x12],nS n] H K:=Lf (t:=⟨x0,x1,x2,x3,x4,x5,x6,x7,x8,x9,x10,x11,x12⟩) hg h
theorem Gy{g:FuncId}{cap:List AH}{p:Nat->Bool}(hT:jU H oT s rT)(hl:s.AB.length<=1000)(hc:Di Qb g=true)
 (hp:∀k,k<s.AB.length->∀K':AH->AP->Prop,K' (.bool (p k)) H->AF Qb g (.agg (s.AG k).cells::cap) H K') (h:K (nS (Gx p s.AB.length)) H):
 AF Qb 232 [.slice oT s.AB.length 0 s.AB.length fT,.func g cap] H K:=by
 refine Aa ok232 ?_;repeat' first|simp only[*,go_sem]|apply orR|(apply sp<;>intro hc)|fail
 refine AK.Az [8,0,1,7] ?_;simp only[mpC,go_sem]
 refine AK.aB (λk=>(Qc k).all (λj=>!p j)=true) s.AB.length (by simp) λk hk hI next=> ?_
 refine AK.unfold ?_
 have hw:=AY (k:=k) (by omega)
 have hg:k<s.AB.length->_:=λh=>BI (s:=s) (k:=k) h
 have hp':k<s.AB.length->∀K':AH->AP->Prop,K' (.bool (p k)) H->AF Qb g (.agg (s.AG k).cells::cap) H K':=hp k
 clear hp
 repeat' first|simp only[*,AA b232_3.eq_1,AR,AX,go_sem]|apply orR|(apply sp<;>intro hc)|refine hp' ‹_› _ ?_
 ·exact ki h (Jl ‹_› hI ‹_›).symm
 ·(refine AK.Az [8,0,1,7] ?_;simp only[mpC,go_sem];refine next ‹_› ?_)
  rw[Da (N:=0),hI];simp[*]
 ·have hk:k=s.AB.length:=by omega
  subst hk
  exact ki h (G4 hI).symm
theorem Mx{t:AN}{n:Int}{o:Nat}(hb:H[o]?=some (.AU 1 [[nS n]] false))(hg:BB t=true)(h:K (.bool (Bx t n)) H):AF Qb 244 [.agg t.cells,.ptr o 1 0 0] H K:=by
 have kb:=AL.of hb
 refine AF.tidy ?_
 unfold AN.cells
 refine Aa ok244 ?_;repeat' first|simp only[*,kb,go_sem]|apply orR|(apply sp<;>intro hc)|refine Lf (t:=t) hg ?_
 exact⟨rfl,_,rfl⟩
theorem HF{n:Int}(hT:jU H oT s rT)(hlT:s.AB.length<=1000)(hok:DT s)(h:K (nS (A0 s n)) H):AF Qb 213 [stA s oS oT fS fT,nS n] H K:=by
 have kT:=AL.of hT
 refine AF.tidy ?_
 refine Aa ok213 ?_;repeat' first|simp only[*,go_sem]|apply orR|(apply sp<;>intro hc)|refine Gy (p:=λk=>Bx (s.AG k) n) (kT _) hlT (HZ ok244) (λk hk K' hK'=>Mx BP (hok k hk) hK') ?_
 refine ti h ⟨_,rfl⟩ (by rw[A0])
theorem JS(hlS:s.AE.length<=1000)(hlT:s.AB.length<=1000)(hok:DT s):∀(fuel:Nat) (node:Int) (had:List Int) {H:AP} {K:AH->AP->Prop} {oS oT m:Nat} {fS fT rS rT:Bool},
 Jp s had<fuel->0<=node->node<s.AB.length->H[oS]?=some (.AU 5 (s.AE.map Slot.cells) rS)->H[oT]?=some (.AU 13 (s.AB.map AN.cells) rT)->H[m]?=some (.map (LH had))->
 (∀L,K (.Bj []) (H.set m (.map (LH (B7 s fuel node had)))++L))->AF Qb 212 [stA s oS oT fS fT,nS node,.map m] H K
 |0,_,_,_,_,_,_,_,_,_,_,_,hl,_,_,_,_,_,_=>by omega
 |fuel+1,node,had,H,K,oS,oT,m,fS,fT,rS,rT,hl,KD,hn1,hS,hT,hm,h=>by
  have kT:=AL.of hT
  have kS:=AL.of hS
  have km:=AL.of hm
  have kms:=km.set
  have hmf:=@OE node had
  cases hcn:had.contains node with
  |true=>
   rw[hcn,cond_true]at hmf
   refine Aa ok212 ?_;repeat' first|simp only[*,go_sem]|refine orR ?_|(refine sp ?_ ?_<;>intro hc)|fail
   have:=h [Au.AU 5 [[nS s.AS.AI,nS s.AS.AE,nS s.AS.AB,.slice oS s.AE.length 0 s.AE.length fS,.slice oT s.AB.length 0 s.AB.length fT]] false]
   rw[B7,hcn,cond_true,I1 hm]at this
   exact this
  |false=>
   rw[hcn,cond_false]at hmf
   have hmp:=VK hcn
   have hmo:m≠oS:=by rintro rfl;rw[hm]at hS;cases hS
   have hmt:m≠oT:=by rintro rfl;rw[hm]at hT;cases hT
   refine Aa ok212 ?_;repeat' first|simp only[*,go_sem]|refine orR ?_|(refine sp ?_ ?_<;>intro hc)|fail
   refine AK.Az [16,1,2,3,14,15] ?_;simp only[mpC,go_sem]
   refine AK.acc (λk G=>[(16,nS (k:Int))]) (λk G=>H.set m (.map (LH ((Qc k).foldl (Bk s (B7 s fuel) node) (had++[node]))))++_::G) (λk G=>True) s.AE.length ?_ (a0:=[]) trivial
   intro k G hk _ next
   refine AK.Jn λW hW=> ?_
   have kS:=hW.YU hS hmo
   have kT:=hW.YU hT hmt
   have km:=hW.U8 hm
   have kst:=hW.U9
   have kS0:=kS.at
   have kT0:=kT.at
   have km0:=km.at
   have kst0:=kst.at
   have kms:=km.set
   refine AK.unfold ?_
   have hw:=AY (k:=k) (by omega)
   have hg:k<s.AE.length->_:=λh=>A4 (s:=s) (k:=k) h
   have hgn:=BI (s:=s) (k:=node.toNat) (by omega)
   have hn2:node.toNat<s.AB.length:=by omega
   have stp:(Qc (k+1)).foldl (Bk s (B7 s fuel) node) (had++[node])=Bk s (B7 s fuel) node ((Qc k).foldl (Bk s (B7 s fuel) node) (had++[node])) k:=by
    rw[List.range_succ,List.foldl_append];rfl
   repeat' first|simp only[*,AA b212_3.eq_1,AR,AX,apC,go_sem]|refine orR ?_|(refine sp ?_ ?_<;>intro hc)|refine Vq (hok _ hn2) ?_|refine HG (kT _) ?_
   case' false.refine_2=>
    have hk':k=s.AE.length:=by omega
    have hW:W=_:=hW
    subst hk' hW
    rw[B7,hcn,cond_false]at h
    exact h _
   case' false.refine_1.refine_1.refine_1.refine_1=>
    have DS:0<=(s.slot k).cap.th/\(s.slot k).cap.th<s.AB.length:=by
     have hc:BD s (s.slot k).cap.th=true:=by assumption
     simp[BD]at hc;exact⟨hc.1,hc.2.1⟩
    refine JS hlS hlT hok fuel (s.slot k).cap.th _ (m:=m) ?_ DS.1 DS.2 (kS _) (kT _) (km _) λL=> ?_
    ·have:=VC (s:=s) (l:=had) (l':=(Qc k).foldl (Bk s (B7 s fuel) node) (had++[node])) (n:=node) (λx hx=>P6 _ _ (by simp[hx])) KD hn1 hcn (P6 _ _ (by simp))
     omega
    have hms:=Hj hm
    have e:=stp.trans (show _=B7 s fuel (s.slot k).cap.th ((Qc k).foldl (Bk s (B7 s fuel) node) (had++[node])) by simp only[Bk, *,go_sem,cond_true,Bool.and_true])
    repeat' first|simp only[*,go_sem]|refine orR ?_|(refine sp ?_ ?_<;>intro hc)|fail
   case' false.refine_1.refine_1.refine_1.refine_2=>have e:=stp.trans (show _=(Qc k).foldl (Bk s (B7 s fuel) node) (had++[node]) by simp only[Bk, *,go_sem,cond_false,Qe])
   case' false.refine_1.refine_1.refine_2=>have e:=stp.trans (show _=(Qc k).foldl (Bk s (B7 s fuel) node) (had++[node]) by simp only[Bk, *,go_sem,cond_false,Qe,Qh])
   case' false.refine_1.refine_2=>have e:=stp.trans (show _=(Qc k).foldl (Bk s (B7 s fuel) node) (had++[node]) by simp only[Bk, *,go_sem,cond_false,Qe,Qh])
   all_goals
    have hW:W=_:=hW
    subst hW
    have hms:=Hj hm
    rw[e]at next
    simp only[go_sem]at next
    simp only[hms,go_sem]
    (refine AK.Az [16,1,2,3,14,15] ?_;simp only[mpC,go_sem];refine next _ ‹_›)
end
section
variable {H:AP}{K:AH->AP->Prop}{s:State}{oS oT:Nat}{fS fT rS rT:Bool}
theorem JR{node n:Int}(hS:jI H oS s rS)(hT:jU H oT s rT)(hlS:s.AE.length<=1000)(hlT:s.AB.length<=1000)(hok:DT s)
 (h:K (.bool (Ch s node n)) H):AF Qb 161 [stA s oS oT fS fT,nS node,nS n] H K:=by
 have kT:=AL.of hT
 have kS:=AL.of hS
 have hgT:=@Dt s node
 have hmf:=@OE (A0 s n) (B7 s (s.AB.length+1) node [])
 refine AF.tidy ?_
 refine Aa ok161 ?_;repeat' first|simp only[*,go_sem]|refine orR ?_|(refine sp ?_ ?_<;>intro hc)|refine HG (kT _) ?_
 case' refine_1.refine_2=>
  have DS:0<=node/\node<s.AB.length:=by
   have hc:BD s node=true:=by assumption
   simp[BD]at hc;exact⟨hc.1,hc.2.1⟩
  refine JS hlS hlT hok (s.AB.length+1) node [] (by have:=VB (s:=s) (l:=[]);omega) DS.1 DS.2 (kS _) (kT _) (show _=some (Au.map (LH [])) from BP) λL=> ?_
  cases hcn:(B7 s (s.AB.length+1) node []).contains (A0 s n)<;>(rw[hcn]at hmf;simp only[cond_true,cond_false]at hmf)
  all_goals repeat' first|simp only[*,go_sem]|refine orR ?_|(refine sp ?_ ?_<;>intro hc)|refine HF (kT _) hlT hok ?_
 all_goals (refine tb h (by first|exact⟨_,rfl⟩|exact⟨[],(Qa _).symm⟩|exact hx|exact hx.app _) ?_;first|(simp only[Ch, *,bs,go_sem];done)|(simp_all[Ch]<;>omega)|grind[Ch])
theorem PS(hS:jI H oS s rS)(hT:jU H oT s rT)(hlS:s.AE.length<=1000)(hlT:s.AB.length<=1000)(hok:DT s)
 (h:K (.bool (Oy s)) H):AF Qb 109 [stA s oS oT fS fT] H K:=by
 have kT:=AL.of hT
 have kS:=AL.of hS
 refine AF.tidy ?_
 refine Aa ok109 ?_;repeat' first|simp only[*,go_sem]|apply orR|(apply sp<;>intro hc)|fail
 refine AK.Az [8,1,6,7] ?_;simp only[mpC,go_sem]
 refine AK.acc (λk W=>[(8,nS (k:Int))]) (λk W=>W) (λk W=>Ex H W/\AL W H.length _/\((Qc k).all λi=>!Hg s i)=true) s.AE.length ?_ (a0:=_) ⟨.mk _,AL.of BH,by simp⟩
 rintro k W hk ⟨hx,kst,hI⟩ next
 have kS:AL W oS _:=kS.ex hx
 have kT:AL W oT _:=kT.ex hx
 have kS0:=kS.at
 have kst0:=kst.at
 refine AK.unfold ?_
 have hw:=AY (k:=k) (by omega)
 have hg:k<s.AE.length->_:=λh=>A4 (s:=s) (k:=k) h
 repeat' first|simp only[*,AA b109_3.eq_1,AR,AX,apC,go_sem]|apply orR|(apply sp<;>intro hc)|refine JR (kS _) (kT _) hlS hlT hok ?_
 all_goals try(refine tb h (by first|exact⟨_,rfl⟩|exact⟨[],(Qa _).symm⟩|exact hx|exact hx.app _) ?_;have e:((Qc s.AE.length).all λi=>!Hg s i)=false:=Cv (k:=k) ‹_› (by(first|(simp only[Hg, *,bs,go_sem];done)|(simp_all[Hg]<;>omega)|grind[Hg]));simp[Oy,e];done)
 all_goals try((refine AK.Az [8,1,6,7] ?_;simp only[mpC,go_sem];refine next _ ‹_› ⟨(by first|exact⟨_,rfl⟩|exact⟨[],(Qa _).symm⟩|exact hx|exact hx.app _),kst.app _,?_⟩);rw[Da (N:=0),hI];(first|(simp only[Hg, *,bs,go_sem];done)|(simp_all[Hg]<;>omega)|grind[Hg]);done)
 refine tb h hx ?_
 have hk:k=s.AE.length:=by omega
 subst hk
 simp[Oy,hI]
theorem OV(hS:jI H oS s rS)(hT:jU H oT s rT)(hlS:s.AE.length<=1000)(hlT:s.AB.length<=1000)(hok:DT s)
 (h:K (.bool (Iz s)) H):AF Qb 108 [stA s oS oT fS fT] H K:=by
 have kT:=AL.of hT
 have kS:=AL.of hS
 have hb1:(s.AE.length:Int)* 1<=140737488355328:=by omega
 have hb2:(s.AE.length:Int)<=9223372036854775807:=by omega
 have hb3:(s.AE.length:Int)<=140737488355328:=by omega
 refine AF.tidy ?_
 refine Aa ok108 ?_;repeat' first|simp only[*,AX,Int.le_refl,Int.mul_one,go_sem]|refine orR ?_|(refine sp ?_ ?_<;>intro hc)|fail
 rw[<-Lu]
 refine AK.Az [17,1,3,15,16] ?_;simp only[mpC,go_sem]
 refine AK.acc (λk a=>[(17,nS (k:Int))]) (λk a=>H++_:: .AU 1 (C6 a.1) false::a.2) (λk a=>Cs s k=some a.1/\a.1.length=s.AE.length) s.AB.length ?_ (a0:=(_,[])) ⟨rfl,by simp⟩
 rintro k ⟨had,G⟩ hk ⟨hI,hlen⟩ next
 simp only at hI hlen
 refine AK.Jn λW hW=> ?_
 have kS:=kS.ex hW.ex
 have kT:=kT.ex hW.ex
 have kst:=hW.EQ
 have ko:=hW.Hx
 have kS0:=kS.at
 have kT0:=kT.at
 have kst0:=kst.at
 have ko0:=ko.at
 refine AK.unfold ?_
 have hw:=AY (k:=k) (by omega)
 have hg:k<s.AB.length->_:=λh=>BI (s:=s) (k:=k) h
 have hnode:k<s.AB.length->(s.AG k).ty=2->_:=λh h2=>CO (hok k h) h2
 have hsh:k<s.AB.length->(s.AG k).ty=2->Dl .shl .i64 1 (s.AG k).bits=some (nS (((p2 (s.AG k).bits).toNat:Nat):Int)):=λh h2=>by
  rw[I3 (hnode h h2).1,Int.toNat_of_nonneg (by have:=C4 (hnode h h2).1;omega)]
 clear hnode
 repeat' first|simp only[*,AA b108_9.eq_1,AR,AX,apC,go_sem]|refine orR ?_|(refine sp ?_ ?_<;>intro hc)|fail
 case' refine_1.refine_1=>
  have e:Cs s (k+1)=some had:=by rw[EL,hI];(first|(simp only[C8, *,bs,go_sem];done)|(simp_all[C8]<;>omega)|grind[C8])
  have hW:W=_:=hW
  subst hW
  simp only[go_sem]
  (refine AK.Az [17,1,3,15,16] ?_;simp only[mpC,go_sem];refine next (had,_) ‹_› ⟨e,hlen⟩)
 case' refine_2=>
  have hk:k=s.AB.length:=by omega
  subst hk
  clear next hw hg hsh
  have ho1:=hW.ex
  clear hW
  refine AK.Az [52,3,50,51] ?_;simp only[mpC,go_sem]
  refine AK.acc (λk W'=>[(52,nS (k:Int))]) (λk W'=>W') (λk W'=>Ex W W'/\((Qc k).all λi=>had.getD i false||Aq (s.slot i).cap)=true) s.AE.length ?_ (a0:=_) ⟨⟨[],(Qa _).symm⟩,by simp⟩
  rintro k W' hk ⟨hx',hI2⟩ next
  have kS:AL W' oS _:=kS.ex hx'
  have ko:AL W' (H.length+1) _:=ko.ex hx'
  have kS0:=kS.at
  have ko0:=ko.at
  have hx:Ex H W':=ho1.trans hx'
  refine AK.unfold ?_
  have hw:=AY (k:=k) (by omega)
  have hg:k<s.AE.length->_:=λh=>A4 (s:=s) (k:=k) h
  have hgb:k<s.AE.length->(C6 had)[k]?=some [.bool (had.getD k false)]:=λh=>DJ (by omega)
  repeat' first|simp only[*,AA b108_13.eq_1,AR,AX,apC,go_sem]|refine orR ?_|(refine sp ?_ ?_<;>intro hc)|refine Dx ?_
  all_goals try(refine tb h (by first|exact⟨_,rfl⟩|exact⟨[],(Qa _).symm⟩|exact hx|exact hx.app _) ?_;have e:((Qc s.AE.length).all λi=>had.getD i false||Aq (s.slot i).cap)=false:=Cv (k:=k) ‹_› (by(first|(simp only[Qd, *,bs,go_sem];done)|(simp_all[Qd]<;>omega)|grind[Qd]));simp only[Iz,hI,e];done)
  all_goals try((refine AK.Az [52,3,50,51] ?_;simp only[mpC,go_sem];refine next _ ‹_› ⟨hx'.app _,?_⟩);rw[Da (N:=0),hI2];(first|(simp only[Qd, *,bs,go_sem];done)|(simp_all[Qd]<;>omega)|grind[Qd]);done)
  refine tb h hx ?_
  have hk:k=s.AE.length:=by omega
  subst hk
  simp only[Iz,hI,hI2]
 case' refine_1.refine_2=>
  obtain⟨hb0,hb4,hb5⟩:=CO (hok k ‹_›) ‹_›
  have hN:(p2 (s.AG k).bits).toNat<=16/\(s.AG k).base+((p2 (s.AG k).bits).toNat:Int)<=96:=by have:=C4 hb0;omega
  generalize hNe:(p2 (s.AG k).bits).toNat=N at*
  clear hb0 hb5 hsh hg
  have hko1:H.length+1<W.length:=ko.lt
  refine AK.heap (congrArg (·++[_]) (I1 ko0).symm) ?_
  refine AK.Az [27,1,3,5,15,16,17,26] ?_;simp only[mpC,go_sem]
  refine AK.acc (λi (had':List Bool)=>[(27,nS (i:Int))]) (λi had'=>W.set (H.length+1) (.AU 1 (C6 had') false)++[_]) (λi had'=>marks (s.AG k).base had i=some had') N ?_ (a0:=had) rfl
  intro i had' hi hI2 next2
  have hlen':=(OC hI2).trans hlen
  refine AK.Jn λW2 hW2=> ?_
  have kt:=hW2.U9
  have ko2:=hW2.U8 ko0
  have kt0:=kt.at
  have ko20:=ko2.at
  refine AK.unfold ?_
  have hwi:=AY (k:=i) (by omega)
  have hwb:IntKind.wrap .i64 ((s.AG k).base+i)=(s.AG k).base+i:=w64 (by omega) (by omega)
  have hb0:0<=(s.AG k).base+(i:Int):=by omega
  have hgb:(s.AG k).base+(i:Int)<s.AE.length->(C6 had')[((s.AG k).base+(i:Int)).toNat]?=some [.bool (had'.getD ((s.AG k).base+(i:Int)).toNat false)]:=λh=>DJ (by omega)
  have hlt:¬(s.AE.length:Int)<=(s.AG k).base+(i:Int)->(s.AG k).base+(i:Int)<s.AE.length:=λh=>by omega
  repeat' first|simp only[*,AA b108_5.eq_1,AR,AX,apC,go_sem]|refine orR ?_|(refine sp ?_ ?_<;>intro hc)|fail
  case' refine_1.refine_2.refine_1.refine_1.refine_1=>
   have em:marks (s.AG k).base had (i+1)=none:=by
    rw[GA,hI2];simp only[FN, *,Bool.not_true,Qe,cond_false]
  case' refine_1.refine_2.refine_1.refine_2=>
   have em:marks (s.AG k).base had (i+1)=none:=by
    have hn:¬(s.AG k).base+(i:Int)<s.AE.length:=by omega
    rw[GA,hI2];simp only[FN,hlen',hn,decide_false,Qh,cond_false]
  case' refine_1.refine_2.refine_1.refine_1.refine_2=>
   have em:marks (s.AG k).base had (i+1)=some (had'.set ((s.AG k).base+(i:Int)).toNat true):=by
    have hn:(s.AG k).base+(i:Int)<s.AE.length:=by omega
    rw[GA,hI2];simp only[FN,hlen',hn,decide_true,Bool.true_and, *,Bool.not_false,cond_true]
   have hW2:W2=_:=hW2
   subst hW2
   have hms:=Hj ko0
   simp only[hms,Ey,go_sem]
   (refine AK.Az [27,1,3,5,15,16,17,26] ?_;simp only[mpC,go_sem];refine next2 _ ‹_› em)
  case' refine_1.refine_2.refine_2=>
   have hiN:i=N:=by omega
   subst hiN
   have e:=Vg hI ‹_› hNe hI2
   have hW2:W2=_:=hW2
   have hW:W=_:=hW
   subst hW2 hW
   simp only[go_sem]
   (refine AK.Az [17,1,3,15,16] ?_;simp only[mpC,go_sem];refine next (had',_) ‹_› ⟨e,hlen'⟩)
  all_goals
   have hx:Ex H W2:=by
    have hW2:W2=_:=hW2
    rw[hW2];exact(hW.ex.set (by omega) _).app _
   have e:=Vf hI ‹_› hNe em ‹_› ‹_›
   refine tb h hx ?_
   simp only[Iz,e]
theorem SM{up:List Int}{n o:Nat}{fl ro:Bool}(hn:up.length=n)(ho:H[o]?=some (.AU 1 (ints up) ro))(h:K (.bool (Cm up)) H):AF Qb 110 [.agg [.slice o n 0 n fl]] H K:=by
 subst hn;exact Jm ho h
theorem AW(hS:jI H oS s rS)(hT:jU H oT s rT)
 (h:K (.bool (BN s)) H):AF Qb 64 [stA s oS oT fS fT] H K:=by
 have kT:=AL.of hT
 have kS:=AL.of hS
 refine AF.tidy ?_
 refine Aa ok64 ?_;repeat' first|simp only[*,go_sem]|refine orR ?_|(refine sp ?_ ?_<;>intro hc)|refine WN ?_
 case' refine_1.refine_1.refine_2=>
  have hgd:Ee s.AS=true:=by assumption
  have hlS:s.AE.length<=1000:=by have:=HQ hgd;omega
  have hlT:s.AB.length<=1000:=by have:=HQ hgd;omega
  repeat' first|simp only[*,go_sem]|refine orR ?_|(refine sp ?_ ?_<;>intro hc)|refine PR (kS _) (kT _) hlS ?_|refine Nh (kS _) (kT _) hgd hlS hlT ?_|refine OV (kS _) (kT _) hlS hlT (Lk ‹_›) ?_|refine PS (kS _) (kT _) hlS hlT (Lk ‹_›) ?_|refine Dd (kS _) hlS ?_|refine SM A8 BP ?_|refine Mv (kS _) hlS (uc ‹_› ‹_›) ?_
 all_goals (refine tb h (by first|exact⟨_,rfl⟩|exact⟨[],(Qa _).symm⟩|exact hx|exact hx.app _) ?_;first|(simp only[BN, *,bs,go_sem];done)|(simp_all[BN]<;>omega)|grind[BN])
end
section
variable {H:AP}{K:AH->AP->Prop}{s:State}{oS oT:Nat}{fS fT rS rT:Bool}
theorem FL{s:State}(h:BN s=true):s.AE.length<=1000:=by have:=(F7 h).lS;omega
theorem Gm{s:State}(h:BN s=true):s.AB.length<=1000:=by have:=(F7 h).lT;omega
theorem bK{s:State}(h:BN s=true):DT s:=(F7 h).ok
theorem OS{o:Nat}{f r:Bool}(h1:jI H o s r)(hl:s.AE.length<=1000)(h0:0<s.AE.length)
 (h:K (.slice H.length s.AE.length 0 s.AE.length false) (H++[.AU 5 (s.AE.map Slot.cells) false])):AF Qb 210 [.slice o s.AE.length 0 s.AE.length f] H K:=by
 have hn:(s.AE.length=0)=False:=eq_false (by omega)
 have he:(s.AE.map Slot.cells=[])=False:=eq_false (by intro e;have:=congrArg Qj e;simp at this;rw[this]at h0;exact absurd h0 (by simp))
 have hb:(0+s.AE.length)* 40<=140737488355328:=by omega
 have hb2:s.AE.length* 40<=140737488355328:=by omega
 have k1:=AL.of h1
 have ht:(s.AE.map Slot.cells).take s.AE.length=s.AE.map Slot.cells:=by rw[Qg (by simp)]
 refine AF.gc ?_
 refine Aa ok210 ?_;(try simp only[hn,he,hb,hb2,h1,k1,ht,go_sem]);repeat' ((first|apply orR|(apply sp<;>intro hc)|fail)<;>try simp only[*,go_sem])
 exact Gc.slice (i:=1) rfl JQ h
theorem Np{o:Nat}{f r:Bool}(h1:jU H o s r)(hl:s.AB.length<=1000)(h0:0<s.AB.length)
 (h:K (.slice H.length s.AB.length 0 s.AB.length false) (H++[.AU 13 (s.AB.map AN.cells) false])):AF Qb 211 [.slice o s.AB.length 0 s.AB.length f] H K:=by
 have hn:(s.AB.length=0)=False:=eq_false (by omega)
 have he:(s.AB.map AN.cells=[])=False:=eq_false (by intro e;have:=congrArg Qj e;simp at this;rw[this]at h0;exact absurd h0 (by simp))
 have hb:(0+s.AB.length)* 104<=140737488355328:=by omega
 have hb2:s.AB.length* 104<=140737488355328:=by omega
 have k1:=AL.of h1
 have ht:(s.AB.map AN.cells).take s.AB.length=s.AB.map AN.cells:=by rw[Qg (by simp)]
 refine AF.gc ?_
 refine Aa ok211 ?_;(try simp only[hn,he,hb,hb2,h1,k1,ht,go_sem]);repeat' ((first|apply orR|(apply sp<;>intro hc)|fail)<;>try simp only[*,go_sem])
 exact Gc.slice (i:=1) rfl IH h
theorem A3(hS:jI H oS s rS)(hT:jU H oT s rT)(hlS:s.AE.length<=1000)(hlT:s.AB.length<=1000)(h0:0<s.AE.length)(h1:0<s.AB.length)
 (h:K (BT s H.length (H.length+1) false false) (H++[AM s,AJ s])):AF Qb 156 [stA s oS oT fS fT] H K:=by
 have kT:=AL.of hT
 have kS:=AL.of hS
 refine AF.gc ?_
 refine Aa ok156 ?_;(try simp only[kS,kT,go_sem]);repeat' ((first|apply orR|(apply sp<;>intro hc)|refine OS (kS _) hlS h0 ?_|refine Np (kT _) hlT h1 ?_)<;>try simp only[*,go_sem])
 exact Gc.state (i:=2) (j:=3) rfl rfl (by decide) h
theorem Nf{t:AN}(h:K (.bool (decide (t.ty=0))) H):AF Qb 233 [.agg t.cells] H K:=by
 refine AF.tidy ?_
 unfold AN.cells
 refine Aa ok233 ?_;repeat' first|simp only[*,go_sem]|apply orR|(apply sp<;>intro hc)|fail
 all_goals first|exact⟨rfl,_,rfl⟩|exact tb h ⟨_,rfl⟩ rfl
theorem PQ(hS:jI H oS s rS)(hT:jU H oT s rT)(h:K (nS (CU s)) H):AF Qb 196 [stA s oS oT fS fT] H K:=by
 have kT:=AL.of hT
 have kS:=AL.of hS
 refine AF.tidy ?_
 refine Aa ok196 ?_;repeat' first|simp only[*,go_sem]|apply orR|(apply sp<;>intro hc)|refine AW (kS _) (kT _) ?_|refine Gy (p:=λk=>decide ((s.AG k).ty=0)) (kT _) (Gm ‹_›) (HZ ok233) (λk hk K' hK'=>Nf hK') ?_
 all_goals (refine ti h (by first|exact⟨_,rfl⟩|exact⟨[],(Qa _).symm⟩|exact hx|exact hx.app _) ?_;first|(simp only[CU, *,bs,go_sem];done)|(simp_all[CU]<;>omega)|grind[CU])
theorem OU{n:Int}(hS:jI H oS s rS)(hT:jU H oT s rT)(h:K (nS (FD s n)) H):AF Qb 235 [stA s oS oT fS fT,nS n] H K:=by
 have kT:=AL.of hT
 have kS:=AL.of hS
 refine AF.tidy ?_
 refine Aa ok235 ?_;repeat' first|simp only[*,go_sem]|apply orR|(apply sp<;>intro hc)|refine AW (kS _) (kT _) ?_|refine HF (kT _) (Gm ‹_›) (bK ‹_›) ?_
 all_goals (refine ti h (by first|exact⟨_,rfl⟩|exact⟨[],(Qa _).symm⟩|exact hx|exact hx.app _) ?_;first|(simp only[FD, *,bs,go_sem];done)|(simp_all[FD]<;>omega)|grind[FD])
theorem Ng{node n:Int}(hS:jI H oS s rS)(hT:jU H oT s rT)(h:K (.bool (Et s node n)) H):AF Qb 236 [stA s oS oT fS fT,nS node,nS n] H K:=by
 have kT:=AL.of hT
 have kS:=AL.of hS
 refine AF.tidy ?_
 refine Aa ok236 ?_;repeat' first|simp only[*,go_sem]|apply orR|(apply sp<;>intro hc)|refine AW (kS _) (kT _) ?_|refine JR (kS _) (kT _) (FL ‹_›) (Gm ‹_›) (bK ‹_›) ?_
 all_goals (refine tb h (by first|exact⟨_,rfl⟩|exact⟨[],(Qa _).symm⟩|exact hx|exact hx.app _) ?_;first|(simp only[Et, *,bs,go_sem];done)|(simp_all[Et]<;>omega)|grind[Et])
theorem Rs{b:Int}(hS:jI H oS s rS)(hT:jU H oT s rT)(h:K (.Bj [nS (F3 s b).1,.bool (F3 s b).2]) H):AF Qb 197 [stA s oS oT fS fT,nS b] H K:=by
 have kT:=AL.of hT
 have kS:=AL.of hS
 refine AF.tidy ?_
 refine Aa ok197 ?_;repeat' first|simp only[*,go_sem]|refine orR ?_|(refine sp ?_ ?_<;>intro hc)|refine AW (kS _) (kT _) ?_
 case' refine_1.refine_1.refine_2=>
  have hb:Bv b 1 4=true:=by rw[BX];omega
  have hp:=C4 hb
  have hsh:=I3 hb
  have hp0:((0:Int)=p2 b)=False:=eq_false (by omega)
  have hlS:=FL (s:=s) ‹_›
  refine AK.Az [22,6,1,2,21] ?_;simp only[mpC,go_sem]
  refine AK.acc (λk (many:Int)=>[(22,nS (k:Int)),(6,nS many)]) (λk many=>_) (λk many=>0<=many/\many<=k/\JH s (p2 b) s.AE.length 0 0=JH s (p2 b) (s.AE.length-k) k many) s.AE.length ?_ (a0:=0) ⟨by omega,by omega,rfl⟩
  rintro k many hk ⟨hm1,hm2,hI⟩ next
  refine AK.unfold ?_
  have hw:=AY (k:=k) (by omega)
  have hw1:IntKind.wrap .i64 (many+1)=many+1:=w64 (by omega) (by omega)
  have hw2:IntKind.wrap .i64 (((k+1:Nat):Int)-(many+1))=((k+1:Nat):Int)-(many+1):=w64 (by omega) (by omega)
  have hw3:IntKind.wrap .i64 (((k+1:Nat):Int)-p2 b)=((k+1:Nat):Int)-p2 b:=w64 (by omega) (by omega)
  repeat' first|simp only[*,AA b197_6.eq_1,AR,AX,apC,go_sem]|refine orR ?_|(refine sp ?_ ?_<;>intro hc)|refine HF (kT _) (Gm ‹_›) (bK ‹_›) ?_
 case' refine_1.refine_1.refine_2.refine_1.refine_1=>
  (refine AK.Az [22,6,1,2,21] ?_;simp only[mpC,go_sem];refine next 0 ‹_› ⟨by omega,by omega,?_⟩)
  rw[hI,show s.AE.length-k=(s.AE.length-(k+1))+1 by omega,JH]
  (first|(simp only[Qd, *,bs,go_sem];done)|(simp_all[Qd]<;>omega)|grind[Qd])
 case' refine_1.refine_1.refine_2.refine_1.refine_2.refine_2=>
  (refine AK.Az [22,6,1,2,21] ?_;simp only[mpC,go_sem];refine next (many+1) ‹_› ⟨by omega,by omega,?_⟩)
  rw[hI,show s.AE.length-k=(s.AE.length-(k+1))+1 by omega,JH]
  (first|(simp only[Qd, *,bs,go_sem];done)|(simp_all[Qd]<;>omega)|grind[Qd])
 case' refine_1.refine_1.refine_2.refine_1.refine_2.refine_1=>
  have e:F3 s b=(((k+1:Nat):Int)-p2 b,true):=by
   have h1:decide (1<=b)=true:=by simp;omega
   have h2:decide (b<=4)=true:=by simp;omega
   simp only[F3,h1,h2, *,Qi,cond_true]
   rw[show s.AE.length-k=(s.AE.length-(k+1))+1 by omega,JH]
   simp only[*,decide_true,cond_true,Int.natCast_add,Int.cast_ofNat_Int]
 case' refine_1.refine_1.refine_2.refine_2=>
  have e:F3 s b=(0,false):=by
   have h1:decide (1<=b)=true:=by simp;omega
   have h2:decide (b<=4)=true:=by simp;omega
   simp only[F3,h1,h2, *,Qi,cond_true]
   rw[show s.AE.length-k=0 by omega,JH]
 case' refine_1.refine_1.refine_1=>have e:F3 s b=(0,false):=by(first|(simp only[F3, *,bs,go_sem];done)|(simp_all[F3]<;>omega)|grind[F3])
 case' refine_1.refine_2=>have e:F3 s b=(0,false):=by(first|(simp only[F3, *,bs,go_sem];done)|(simp_all[F3]<;>omega)|grind[F3])
 case' refine_2=>have e:F3 s b=(0,false):=by(first|(simp only[F3, *,bs,go_sem];done)|(simp_all[F3]<;>omega)|grind[F3])
 all_goals (rw[e]at h;refine tv h (by first|exact⟨_,rfl⟩|exact⟨[],(Qa _).symm⟩|exact hx|exact hx.app _) ⟨rfl,rfl⟩)
end
end Go.Proofs.YtohgndhnndeijaaGreat.Ax
