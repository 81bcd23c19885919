/- Texts put behind one another: SGive, SDo, SForest2, SGive2. Conditions: none. -/
import Derived.Test.YtohgndhnndeijaaGreatZFi
import Derived.Test.YtohgndhnndeijaaGreatZPu
set_option linter.all false
set_option maxHeartbeats 9999999
open Nat renaming add_assoc -> Qa
open List renaming length_set -> Qb, getElem?_eq_none -> Qd, getElem?_set_ne -> Qf, getElem?_set_self -> Qg, ext_getElem -> Qh, length_map -> Qi, ext_getElem? -> Ql, getD -> Qm, getElem_set -> Qn, append_nil -> Qo, mem_range -> Qp, map_set -> Qq, range -> Qr
open Go.Proofs.Tryz renaming prog -> Qc
open Int renaming toNat_natCast -> Qe
open Bool renaming and_eq_true -> Qj, not_eq_true' -> Qk
namespace Go.Proofs.YtohgndhnndeijaaGreat.Ax
open Go Go.Ax Go.Ax.M
section
variable {H:AP}{K:AH->AP->Prop}{s:State}{oS oT:Nat}{fS fT rS rT:Bool}
theorem DL{s:State}(h:BN s=true):0<s.AE.length:=by have:=(F7 h).lS;omega
theorem DM{s:State}(h:BN s=true):0<s.AB.length:=by have:=(F7 h).lT;omega
theorem LG{c:Bh}{to:Int}(hS:jI H oS s rS)(hT:jU H oT s rT)(h:K (.bool (FC s c to)) H):AF Qc 201 [stA s oS oT fS fT,.agg c.cells,nS to] H K:=by
 have kT:=AL.of hT
 have kS:=AL.of hS
 refine AF.tidy ?_
 unfold Bh.cells
 refine Aa ok201 ?_;repeat' first|simp only[*,go_sem]|apply orR|(apply sp<;>intro hc)|refine Ng (kS _) (kT _) ?_
 all_goals (refine tb h (by first|exact⟨_,rfl⟩|exact⟨[],(Qo _).symm⟩|exact hx|exact hx.app _) ?_;first|(simp only[FC, *,bs,go_sem];done)|(simp_all[FC]<;>omega)|grind[FC])
theorem SO{c:Bh}{fr to:Int}(hS:jI H oS s rS)(hT:jU H oT s rT)
 (h:Dj s fr to c≠0->K (.Bj [stA s oS oT fS fT,nS (Dj s fr to c)]) H) (h':Dj s fr to c=0->K (.Bj [BT (CW s fr to c) H.length (H.length+1) false false,nS 0]) (H++[AM (CW s fr to c),AJ (CW s fr to c)])):
 AF Qc 200 [stA s oS oT fS fT,nS fr,nS to,.agg c.cells] H K:=by
 have kT:=AL.of hT
 have kS:=AL.of hS
 have hg:¬fr<0->¬(s.AE.length:Int)<=fr->(0<=fr)=True/\(fr<(s.AE.length:Int))=True:=λh1 h2=>⟨eq_true (by omega),eq_true (by omega)⟩
 have hg1:¬fr<0->¬(s.AE.length:Int)<=fr->_:=λh1 h2=>A4 (s:=s) (k:=fr.toNat) (by omega)
 have hg2:¬to<0->¬(s.AE.length:Int)<=to->(0<=to)=True/\(to<(s.AE.length:Int))=True:=λh1 h2=>⟨eq_true (by omega),eq_true (by omega)⟩
 have hg3:¬to<0->¬(s.AE.length:Int)<=to->_:=λh1 h2=>A4 (s:=s) (k:=to.toNat) (by omega)
 have key:∀e,Dj s fr to c=e->e≠0->K (.Bj [stA s oS oT fS fT,nS e]) H:=λe he hn=>he▸h (he▸hn)
 have hv:=λe=>show(AH.Bj [stA s oS oT fS fT,nS e]).refs (λo=>o<H.length) by simp[AH.refs,Ay];exact⟨Am hS,Am hT⟩
 clear h
 refine AF.gc ?_
 unfold Bh.cells
 refine Aa ok200 ?_;repeat' first|simp only[*,go_sem]|refine orR ?_|(refine sp ?_ ?_<;>intro hc)|refine AW (kS _) (kT _) ?_|refine Mj ?_|refine Dx ?_|refine OU (kS _) (kT _) ?_|refine Px ?_|refine LG (c:=c) (kS _) (kT _) ?_
 case' refine_2.refine_1.refine_1.refine_1.refine_1.refine_1.refine_2.refine_2.refine_2.refine_2.refine_2.refine_2.refine_2=>
  have e:Dj s fr to c=0:=by(first|(simp only[Dj, *,bs,go_sem];done)|(simp_all[Dj]<;>omega)|grind[Dj])
  have h':=h' e
  clear key
  repeat' first|simp only[*,BT,AM,AJ,Qb,go_sem]|refine orR ?_|(refine sp ?_ ?_<;>intro hc)|refine A3 (kS _) (kT _) (FL ‹_›) (Gm ‹_›) (DL ‹_›) (DM ‹_›) ?_
  have el:(CW s fr to c).AE.length=s.AE.length:=by simp[CW]
  rw[<-el]
  exact Gc.stateT (s:=CW s fr to c) (i:=3) (j:=4) (by simp only[AM,CW,<-Jx];rfl) rfl (by decide) (by simp[AH.plain]) h'
 all_goals exact Gc.Cd (hv _) (key _ (by(first|(simp only[Dj, *,bs,go_sem];done)|(simp_all[Dj]<;>omega)|grind[Dj])) (by decide))
theorem P9{x0 x1 x2 x3 fr to:Int}(hS:jI H oS s rS)(hT:jU H oT s rT)
 (h:Dj s fr to ⟨x0,x1,x2,x3⟩≠0->K (.Bj [stA s oS oT fS fT,nS (Dj s fr to ⟨x0,x1,x2,x3⟩)]) H)
 (h':Dj s fr to ⟨x0,x1,x2,x3⟩=0->K (.Bj [BT (CW s fr to ⟨x0,x1,x2,x3⟩) H.length (H.length+1) false false,nS 0]) (H++[AM (CW s fr to ⟨x0,x1,x2,x3⟩),AJ (CW s fr to ⟨x0,x1,x2,x3⟩)])):
 AF Qc 200 [stA s oS oT fS fT,nS fr,nS to,.agg [nS x0,nS x1,nS x2,nS x3]] H K:=SO (c:=⟨x0,x1,x2,x3⟩) hS hT h h'
theorem DX{fr to:Int}{c:Bh}:(CW s fr to c).AB=s.AB:=rfl
theorem F1{fr to:Int}{c:Bh}:(CW s fr to c).AS=s.AS:=rfl
theorem D0{fr to:Int}{c:Bh}:(CW s fr to c).AE.length=s.AE.length:=by simp[CW]
end
end Go.Proofs.YtohgndhnndeijaaGreat.Ax
namespace Go.Ax.M
open Go Go.Ax
theorem Gc.Jg{H L:AP}{K:AH->AP->Prop}{r:Option State}{s':State}{i j n m:Nat}{x0 x1 x2:Int}{l:List AH}(hi:L[i]?=some (AM s'))(hj:L[j]?=some (AJ s'))
 (h:∀s',r=some s'->K (.Bj (BT s' H.length (H.length+1) false false::l)) (H++[AM s',AJ s'])) (hij:i≠j:=by decide) (hl:∀a∈l,a.plain=true:=by simp[AH.plain,Ah])
 (hn:n=s'.AE.length) (hm:m=s'.AB.length) (hg:x0=s'.AS.AI/\x1=s'.AS.AE/\x2=s'.AS.AB:=by exact⟨rfl,rfl,rfl⟩) (e:r=some s'):
 Gc H K (.Bj (.agg [nS x0,nS x1,nS x2,.slice (H.length+i) n 0 n false,.slice (H.length+j) m 0 m false]::l)) (H++L):=by
 subst hn hm
 obtain⟨rfl,rfl,rfl⟩:=hg
 exact Gc.stateT hi hj hij hl (h _ e)
end Go.Ax.M
namespace Go.Proofs.YtohgndhnndeijaaGreat.Ax
open Go Go.Ax Go.Ax.M
def CF(f:FuncId)(D:State->Int->M.Call->CD):Prop:=∀{H:AP} {K:AH->AP->Prop} {s:State} {th:Int} {c:M.Call} {oS oT oA oB:Nat} {fS fT rS rT fA fB rA rB:Bool},
 jI H oS s rS->jU H oT s rT->H[oA]?=some (.AU 1 (ints c.a) rA)->H[oB]?=some (.AU 1 (ints c.b) rB)->
 ((D s th c).st=none->K (.Bj [.agg [nS s.AS.AI,nS s.AS.AE,nS s.AS.AB,.slice oS s.AE.length 0 s.AE.length fS,.slice oT s.AB.length 0 s.AB.length fT],(D s th c).Ap]) H)->(∀s',(D s th c).st=some s'->K (.Bj [BT s' H.length (H.length+1) false false,(D s th c).Ap]) (H++[AM s',AJ s']))->
 AF Qc f [.agg [nS s.AS.AI,nS s.AS.AE,nS s.AS.AB,.slice oS s.AE.length 0 s.AE.length fS,.slice oT s.AB.length 0 s.AB.length fT],nS th,.agg [nS c.op,.slice oA c.a.length 0 c.a.length fA,.slice oB c.b.length 0 c.b.length fB,nS c.x,nS c.y,nT c.w]] H K
section
variable {f:FuncId}{D:State->Int->M.Call->CD}{H:AP}{K:AH->AP->Prop}{s:State}{th:Int}{c:M.Call}{oS oT oA oB:Nat}{fS fT rS rT fA fB rA rB:Bool}
theorem CF.Zy(d:CF f D){e w n:Int}{s':State}(hr:D s th c=⟨e,w,n,some s'⟩)(hS:jI H oS s rS)(hT:jU H oT s rT)(hA:H[oA]?=some (.AU 1 (ints c.a) rA))(hB:H[oB]?=some (.AU 1 (ints c.b) rB))
 (h:K (.Bj [BT s' H.length (H.length+1) false false,.agg [nS e,nT w,nS n]]) (H++[AM s',AJ s'])):AF Qc f [.agg [nS s.AS.AI,nS s.AS.AE,nS s.AS.AB,.slice oS s.AE.length 0 s.AE.length fS,.slice oT s.AB.length 0 s.AB.length fT],nS th,.agg [nS c.op,.slice oA c.a.length 0 c.a.length fA,.slice oB c.b.length 0 c.b.length fB,nS c.x,nS c.y,nT c.w]] H K:=
 d hS hT hA hB (by rw[hr];intro h;cases h) (by rw[hr];intro s2 h2;injection h2 with h2;subst h2;exact h)
theorem CF.B8(d:CF f D){e w n:Int}(hr:D s th c=⟨e,w,n,none⟩)(hS:jI H oS s rS)(hT:jU H oT s rT)(hA:H[oA]?=some (.AU 1 (ints c.a) rA))(hB:H[oB]?=some (.AU 1 (ints c.b) rB))
 (h:K (.Bj [.agg [nS s.AS.AI,nS s.AS.AE,nS s.AS.AB,.slice oS s.AE.length 0 s.AE.length fS,.slice oT s.AB.length 0 s.AB.length fT],.agg [nS e,nT w,nS n]]) H):AF Qc f [.agg [nS s.AS.AI,nS s.AS.AE,nS s.AS.AB,.slice oS s.AE.length 0 s.AE.length fS,.slice oT s.AB.length 0 s.AB.length fT],nS th,.agg [nS c.op,.slice oA c.a.length 0 c.a.length fA,.slice oB c.b.length 0 c.b.length fB,nS c.x,nS c.y,nT c.w]] H K:=
 d hS hT hA hB (by rw[hr];intro _;exact h) (by rw[hr];intro s2 h2;cases h2)
theorem CF.nil(d:CF f D){op x y w:Int}{a:List Int}(hS:jI H oS s rS)(hT:jU H oT s rT)(hA:H[oA]?=some (.AU 1 (ints a) rA))
 (h:(D s th ⟨op,a,[],x,y,w⟩).st=none->K (.Bj [.agg [nS s.AS.AI,nS s.AS.AE,nS s.AS.AB,.slice oS s.AE.length 0 s.AE.length fS,.slice oT s.AB.length 0 s.AB.length fT],(D s th ⟨op,a,[],x,y,w⟩).Ap]) H)
 (h':∀s',(D s th ⟨op,a,[],x,y,w⟩).st=some s'->K (.Bj [BT s' H.length (H.length+1) false false,(D s th ⟨op,a,[],x,y,w⟩).Ap]) (H++[AM s',AJ s'])):
 AF Qc f [.agg [nS s.AS.AI,nS s.AS.AE,nS s.AS.AB,.slice oS s.AE.length 0 s.AE.length fS,.slice oT s.AB.length 0 s.AB.length fT],nS th,.agg [nS op,.slice oA a.length 0 a.length fA,.lit (.slice none 0 0),nS x,nS y,nT w]] H K:=by
 refine AF.gc (AF.lay 1 ?_)
 simp only[Go.Ax.D9,Go.Ax.E9,go_sem]
 have kS:=AL.of hS
 have kT:=AL.of hT
 have kA:=AL.of hA
 refine d (c:=⟨op,a,[],x,y,w⟩) (oB:=H.length) (rB:=false) (kS _) (kT _) (kA _) BH (λe=>Gc.Cd ?_ (h e)) (λs' e=> ?_)
 ·simp only[CD.Ap,AH.refs,Ay]
  exact⟨⟨trivial,trivial,trivial,Am hS,Am hT,trivial⟩,⟨trivial,trivial,trivial,trivial⟩,trivial⟩
 ·have:=Gc.stateT (H:=H) (L:= .AU 1 [] false::[AM s',AJ s']) (K:=K) (i:=1) (j:=2) (s:=s') (f:=false) (f':=false) (l:=[(D s th ⟨op,a,[],x,y,w⟩).Ap]) rfl rfl (by decide) (by simp[AH.plain,Ah,CD.Ap]) (h' s' e)
  simpa [List.append_assoc,Qa] using this
end
end Go.Proofs.YtohgndhnndeijaaGreat.Ax
namespace Go.Ax
theorem Gc.cK{H L:AP}{K:AH->AP->Prop}{i n s:Nat}{f ro:Bool}{xs:List (List AH)}{l:List AH}(hi:L[i]?=some (.AU s xs ro))(hp:∀x∈xs,∀a∈x,a.plain=true)(hl:∀a∈l,a.plain=true:=by simp[AH.plain])(h:K (.Bj (.agg [.slice H.length n 0 n f]::l)) (H++[.AU s xs ro])):
 Gc H K (.Bj (.agg [.slice (H.length+i) n 0 n f]::l)) (H++L):=
 ⟨[i],L,[.AU s xs ro],_,rfl,Tf.one hi (.plain hp),⟨_,rfl,_,_,rfl,⟨_,rfl,_,_,rfl,⟨H.length,rfl,.inr ⟨i,0,rfl,rfl,rfl⟩⟩,rfl⟩,CY.refl (EF hl)⟩,h⟩
end Go.Ax
namespace Go.Proofs.YtohgndhnndeijaaGreat.Ax
open Go Go.Ax Go.Ax.M
section
variable {H:AP}{K:AH->AP->Prop}{up:List Int}{o:Nat}{fl ro:Bool}
theorem Dh{i:Int}(ho:H[o]?=some (.AU 1 (ints up) ro))(h:K (.bool (GU up i)) H):AF Qc 204 [.agg [.slice o up.length 0 up.length fl],nS i] H K:=by
 have k1:=AL.of ho
 refine AF.tidy ?_
 refine Aa ok204 ?_;repeat' first|simp only[*,go_sem]|apply orR|(apply sp<;>intro hc)|refine Jm (k1 _) ?_|refine EV (k1 _) ?_
 all_goals (refine tb h (by first|exact⟨_,rfl⟩|exact⟨[],(Qo _).symm⟩|exact hx|exact hx.app _) ?_;first|(simp only[GU, *,bs,go_sem];done)|(simp_all[GU]<;>omega)|grind[GU])
theorem FJ{i:Int}(ho:H[o]?=some (.AU 1 (ints up) ro))(hlen:up.length<=1000)(h:K (.slice H.length (GV up i).length 0 (GV up i).length false) (H++[.AU 1 (ints (GV up i)) false])):AF Qc 206 [.agg [.slice o up.length 0 up.length fl],nS i] H K:=by
 have k1:=AL.of ho
 refine AF.gc ?_
 obtain⟨p,hp⟩:∃p:Nat->Bool,∀k,p k=decide (up.getD k 0=i):=⟨λk=>decide (up.getD k 0=i),λ_=>rfl⟩
 have hfo:GV up i=pick p up.length:=by simp only[GV];congr 1;funext k;exact(hp k).symm
 rw[hfo]at h
 refine Aa ok206 ?_;repeat' first|simp only[*,go_sem]|refine orR ?_|(refine sp ?_ ?_<;>intro hc)|fail
 refine AK.Az [5,11,1,9,10] ?_;simp only[mpC,go_sem]
 refine AK.lay 1 ?_
 simp only[go_sem]
 refine AK.acc (λk G=>[(5,.slice (H.length+1) (pick p k).length 0 (pick p k).length false),(11,nS (k:Int))]) (λk G=>H++_:: .AU 1 (ints (pick p k)) false::G) (λk G=>True) up.length ?_ (a0:=[]) trivial
 intro k G hk _ next
 refine AK.Jn λW hW=> ?_
 have k1:=k1.ex hW.ex
 have kst:=hW.EQ
 have ko:=hW.Hx
 have k10:=k1.at
 have kst0:=kst.at
 have ko0:=ko.at
 have kos:=ko.set
 have hb:((pick p k).length+1)* 8<=140737488355328:=by have:=GO (p:=p) (k:=k);omega
 refine AK.unfold ?_
 have hw:=AY (k:=k) (by omega)
 have hg:k<up.length->_:=λh=>Bt (l:=up) (k:=k) h
 clear hfo
 repeat' first|simp only[*,AA b206_3.eq_1,AR,AX,apC,go_sem]|refine orR ?_|(refine sp ?_ ?_<;>intro hc)|fail
 case' refine_2=>
  have hk':k=up.length:=by omega
  have hW:W=_:=hW
  subst hk' hW
  exact Gc.slice (i:=1) rfl Ca h
 case' refine_1.refine_1=>have e:=UG (p:=p) (k:=k) (by rw[hp];exact decide_eq_true ‹_›)
 case' refine_1.refine_2=>have e:=OL (p:=p) (k:=k) (by rw[hp];exact decide_eq_false ‹_›)
 all_goals
  have hW:W=_:=hW
  subst hW
  simp only[e,Dn,GI,go_sem]at next
  (refine AK.Az [5,11,1,9,10] ?_;simp only[mpC,go_sem];refine next _ ‹_›)
theorem N7{i:Int}(ho:H[o]?=some (.AU 1 (ints up) ro))(hlen:up.length<=1000)(h:GU up i=false->K (.lit (.slice none 0 0)) H)(h':GU up i=true->K (.slice H.length (GV up i).length 0 (GV up i).length false) (H++[.AU 1 (ints (GV up i)) false])):AF Qc 231 [.agg [.slice o up.length 0 up.length fl],nS i] H K:=by
 have k1:=AL.of ho
 refine AF.gc ?_
 refine Aa ok231 ?_;repeat' first|simp only[*,Qa,go_sem]|apply orR|(apply sp<;>intro hc)|refine Dh (k1 _) ?_|refine FJ (k1 _) hlen ?_
 ·exact Gc.Cd (by simp[AH.refs]) (h ‹_›)
 ·exact Gc.slice (i:=1) rfl Ca (h' ‹_›)
theorem PJ(h1:H[o]?=some (.AU 1 (ints up) ro))(hl:up.length<=1000)(h0:0<up.length)
 (h:K (.slice H.length up.length 0 up.length false) (H++[.AU 1 (ints up) false])):AF Qc 263 [.slice o up.length 0 up.length fl] H K:=by
 have hn:(up.length=0)=False:=eq_false (by omega)
 have he:(ints up=[])=False:=eq_false (by intro e;have:=congrArg List.length e;simp[ints]at this;rw[this]at h0;exact absurd h0 (by simp))
 have hb:(0+up.length)* 8<=140737488355328:=by omega
 have hb2:up.length* 8<=140737488355328:=by omega
 have k1:=AL.of h1
 have ht:(ints up).take up.length=ints up:=by rw[List.take_of_length_le (by simp[ints])]
 refine AF.gc ?_
 refine Aa ok263 ?_;(try simp only[hn,he,hb,hb2,h1,k1,ht,go_sem]);repeat' ((first|apply orR|(apply sp<;>intro hc)|fail)<;>try simp only[*,go_sem])
 exact Gc.slice (i:=1) rfl Ca h
theorem NO(h1:H[o]?=some (.AU 1 (ints up) ro))(hl:up.length<=1000)(h0:0<up.length)
 (h:K (.agg [.slice H.length up.length 0 up.length false]) (H++[.AU 1 (ints up) false])):AF Qc 255 [.agg [.slice o up.length 0 up.length fl]] H K:=by
 have k1:=AL.of h1
 refine AF.gc ?_
 refine Aa ok255 ?_;(try simp only[Qa,go_sem]);repeat' ((first|apply orR|(apply sp<;>intro hc)|refine PJ (k1 _) hl h0 ?_)<;>try simp only[*,Qa,go_sem])
 exact Gc.Uk (i:=2) rfl Ca h
theorem ints_set{l:List Int}{i:Nat}{v:Int}:(ints l).set i [nS v]=ints (l.set i v):=by simp[ints,Qq]
theorem N8{fr to:Int}(h1:H[o]?=some (.AU 1 (ints up) ro))(hl:up.length<=1000)(h0:0<up.length)(hm:P2 up fr to=true)
 (h:K (.Bj [.agg [.slice H.length up.length 0 up.length false],.bool true]) (H++[.AU 1 (ints (MJ up fr to)) false])):AF Qc 237 [.agg [.slice o up.length 0 up.length fl],nS fr,nS to] H K:=by
 have k1:=AL.of h1
 simp only[P2,Qj,decide_eq_true_eq,Qk]at hm
 obtain⟨m1,m2,m3,m4⟩:=hm
 have m2':(to<0)=False:=eq_false (by omega)
 have m3':((up.length:Int)<=to)=False:=eq_false (by omega)
 refine AF.gc ?_
 refine Aa ok237 ?_;repeat' first|simp only[*,Qa,go_sem]|apply orR|(apply sp<;>intro hc)|refine Dh (k1 _) ?_|refine EV (k1 _) ?_|refine NO (k1 _) hl h0 ?_|refine FJ (up:=up) BO hl ?_
 obtain⟨L,hL⟩:∃L,Hid (L=GV up fr):=NQ _
 have hLr:∀k,k<L.length->0<=L.getD k 0/\L.getD k 0<up.length:=by
  intro k hk
  have e:L=GV up fr:=hL
  have hm:L.getD k 0∈GV up fr:=by rw[<-e];simp[Qm,hk]
  simp only[GV,pick,List.mem_map,List.mem_filter,Qp]at hm
  obtain⟨j,⟨hj,-⟩,e2⟩:=hm
  have e2:(j:Int)=L.getD k 0:=e2
  omega
 obtain⟨S,hS⟩:∃S:Nat->List Int,∀k,S k=(L.take k).foldl (λl k=>l.set k.toNat to) up:=⟨λk=>(L.take k).foldl (λl k=>l.set k.toNat to) up,λ_=>rfl⟩
 have hSl:∀k,(S k).length=up.length:=λk=>by rw[hS];exact(NL _ _).1
 have e:L=GV up fr:=hL
 rw[<-e]
 have e0:up=S 0:=by rw[hS];simp
 refine AK.Az [37,1,2,3,6,35,36] ?_;simp only[mpC,go_sem]
 refine AK.heap (H':=H++_::_:: .AU 1 (ints (S 0)) false::[.AU 1 (ints L) false]) (by rw[<-e0]) ?_
 refine AK.acc (λk (_:Unit)=>[(37,nS (k:Int))]) (λk _=>H++_::_:: .AU 1 (ints (S k)) false::[.AU 1 (ints L) false]) (λk _=>True) L.length ?_ (a0:=()) trivial
 have hLl:L.length<=up.length:=by rw[e];simp only[GV];exact GO
 clear e e0
 have hSh:Hid (∀k,S k=(L.take k).foldl (λl k=>l.set k.toNat to) up):=hS
 clear hS
 rintro k-hk-next
 refine AK.unfold ?_
 have hw:=AY (k:=k) (by omega)
 have hr:k<L.length->(0<=L.getD k 0)=True/\(L.getD k 0<(up.length:Int))=True:=λh=>⟨eq_true (hLr k h).1,eq_true (hLr k h).2⟩
 have hg:k<L.length->(ints L)[k]?=some [nS (L.getD k 0)]:=λh=>Bt h
 have hgs:k<L.length->(ints (S k))[(L.getD k 0).toNat]?=some [nS ((S k).getD (L.getD k 0).toNat 0)]:=λh=>Bt (by rw[hSl];have:=hLr k h;omega)
 have hfi:E0 up fr=true:=by simp only[GU,Qj]at m1;exact m1.2
 rw[D7]at hfi
 have hf:(0<=fr)=True/\(fr<(up.length:Int))=True:=⟨eq_true hfi.1,eq_true hfi.2.1⟩
 have hf2:(0<=to)=True/\(to<(up.length:Int))=True:=⟨eq_true m2,eq_true m3⟩
 have hgf:(ints (S k))[fr.toNat]?=some [nS ((S k).getD fr.toNat 0)]:=Bt (by rw[hSl];omega)
 have hgt:(ints (S k))[to.toNat]?=some [nS ((S k).getD to.toNat 0)]:=Bt (by rw[hSl];omega)
 have hgf2:∀v:Int,(ints ((S k).set to.toNat v))[fr.toNat]?=some [nS (((S k).set to.toNat v).getD fr.toNat 0)]:=λv=>Bt (by rw[Qb,hSl];omega)
 clear hfi
 repeat' first|simp only[*,ints_set,Qb,AA b237_3.eq_1,AR,AX,apC,go_sem]|apply orR|(apply sp<;>intro hc)|fail
 ·have e1:(S k).set (L.getD k 0).toNat to=S (k+1):=by
   have hS:∀k,S k=_:=hSh
   have hk:k<L.length:=by assumption
   rw[hS,hS,List.take_succ_eq_append_getElem hk,List.foldl_append]
   simp[Qm,hk]
  rw[e1]
  (refine AK.Az [37,1,2,3,6,35,36] ?_;simp only[mpC,go_sem];refine next () ‹_› trivial)
 ·have e1:((S k).set to.toNat ((S k).getD fr.toNat 0)).set fr.toNat (-2)=MJ up fr to:=by
   have hS:∀k,S k=_:=hSh
   have e:L=GV up fr:=hL
   have hk:k=L.length:=by omega
   rw[hS,hk,List.take_length,e]
   simp only[MJ]
  rw[e1]
  exact Gc.cK (i:=2) rfl Ca (h:=h)
end
end Go.Proofs.YtohgndhnndeijaaGreat.Ax
namespace Go.Ax.M
open Go Go.Ax
def Im(s:State)(fr to:Int)(k:Nat):List Slot:=(Qr s.AE.length).map λi=>⟨(EK s fr to i).cap,if i<k then(EK s fr to i).up else(s.slot i).up⟩
def ER(s:State)(fr to:Int)(k:Nat):List AN:=(Qr s.AB.length).map λi=>if i<k then C3 fr to (s.AG i)else s.AG i
theorem Ip{s:State}{fr to:Int}{k:Nat}:(Im s fr to k).length=s.AE.length:=by simp[Im]
theorem TS{s:State}{fr to:Int}{k:Nat}:(ER s fr to k).length=s.AB.length:=by simp[ER]
theorem Io{s:State}{fr to:Int}{k i:Nat}(h:i<s.AE.length):((Im s fr to k).map Slot.cells)[i]?=some [nS (EK s fr to i).cap.ty,nS (EK s fr to i).cap.th,nS (EK s fr to i).cap.ri,nS (EK s fr to i).cap.ba,nS (if i<k then(EK s fr to i).up else(s.slot i).up)]:=by
 simp[Im,h,Slot.cells]
theorem We{s:State}{fr to:Int}{k:Nat}(h:k<s.AE.length):((Im s fr to k).map Slot.cells).set k [nS (EK s fr to k).cap.ty,nS (EK s fr to k).cap.th,nS (EK s fr to k).cap.ri,nS (EK s fr to k).cap.ba,nS (EK s fr to k).up]=(Im s fr to (k+1)).map Slot.cells:=by
 apply Ql
 intro i
 by_cases hi:i<s.AE.length
 ·by_cases e:k=i
  ·subst e
   rw[Qg (by rw[Qi,Ip];exact hi),Io hi,if_pos (by omega)]
  ·rw[Qf e,Io hi,Io hi]
   by_cases e2:i<k
   ·rw[if_pos e2,if_pos (by omega)]
   ·rw[if_neg e2,if_neg (by omega)]
 ·rw[Qd (by rw[Qb,Qi,Ip];omega),Qd (by rw[Qi,Ip];omega)]
theorem VL{s:State}{fr to:Nat}(hf:fr<s.AE.length)(ht:to<s.AE.length)(hne:fr≠to):
 ((s.AE.map Slot.cells).set to [nS (s.slot fr).cap.ty,nS (s.slot fr).cap.th,nS (s.slot fr).cap.ri,nS (s.slot fr).cap.ba,nS (s.slot to).up]).set fr [nS 0,nS 0,nS 0,nS 0,nS (s.slot fr).up]=(Im s fr to 0).map Slot.cells:=by
 apply Ql
 intro i
 by_cases hi:i<s.AE.length
 ·rw[Io hi,if_neg (by omega)]
  by_cases e:fr=i
  ·subst e
   rw[Qg (by simpa using hi)]
   simp[EK,Bh.zero]
  ·rw[Qf e]
   have e':¬((i:Int)=(fr:Int)):=by omega
   by_cases e2:to=i
   ·subst e2
    rw[Qg (by simpa using hi)]
    simp only[EK,if_neg e',if_true,Qe]
   ·have e2':¬((i:Int)=(to:Int)):=by omega
    rw[Qf e2,A4 hi]
    simp only[EK,if_neg e',if_neg e2']
 ·rw[Qd (by simp;omega),Qd (by rw[Qi,Ip];omega)]
theorem Wd{s:State}{fr to:Int}:Im s fr to s.AE.length=(B9 s fr to).AE:=by
 simp only[Im,B9]
 refine List.map_congr_left λi hi=> ?_
 rw[if_pos (Qp.1 hi)]
theorem Rx{s:State}{fr to:Int}:ER s fr to 0=s.AB:=by
 apply Qh (by simp[ER])
 intro i h1 h2
 simp[ER,State.AG,Qm,h2]
theorem TQ{s:State}{fr to:Int}:ER s fr to s.AB.length=(B9 s fr to).AB:=by
 apply Qh (by simp[ER,B9])
 intro i h1 h2
 have h3:i<s.AB.length:=by simpa [ER] using h1
 simp[ER,B9,State.AG,Qm,h3]
theorem TR{s:State}{fr to:Int}{k:Nat}(h:k<s.AB.length):((ER s fr to k).map AN.cells)[k]?=some [nS (s.AG k).ty,nS (s.AG k).bits,nS (s.AG k).base,nS (s.AG k).size,nS (s.AG k).used,nS (s.AG k).from_,nS (s.AG k).BF,.bool (s.AG k).full,nT (s.AG k).word,nT (s.AG k).d0,nT (s.AG k).d1,nT (s.AG k).d2,nT (s.AG k).d3]:=by
 simp[ER,h,AN.cells]
theorem Rw{s:State}{fr to:Int}{k:Nat}(h:k<s.AB.length):ER s fr to (k+1)=(ER s fr to k).set k (C3 fr to (s.AG k)):=by
 apply Qh (by simp[ER])
 intro i h1 h2
 have h3:i<s.AB.length:=by simpa [ER] using h1
 rw[Qn]
 by_cases e:k=i
 ·subst e;simp[ER]
 ·rw[if_neg e]
  simp only[ER,List.getElem_map,List.getElem_range]
  by_cases e2:i<k
  ·rw[if_pos e2,if_pos (by omega)]
  ·rw[if_neg e2,if_neg (by omega)]
theorem Rv{s:State}{fr to:Int}{k:Nat}(h:k<s.AB.length)(hn:¬(s.AG k).from_=fr+1):ER s fr to (k+1)=ER s fr to k:=by
 rw[Rw h,show C3 fr to (s.AG k)=s.AG k by simp[C3,hn]]
 apply Qh (by simp)
 intro i h1 h2
 rw[Qn]
 by_cases e:k=i
 ·subst e;simp[ER]
 ·rw[if_neg e]
theorem TT{s:State}{fr to:Int}{k:Nat}(h:k<s.AB.length)(hn:(s.AG k).from_=fr+1):((ER s fr to k).map AN.cells).set k [nS (s.AG k).ty,nS (s.AG k).bits,nS (s.AG k).base,nS (s.AG k).size,nS (s.AG k).used,nS (to+1),nS (s.AG k).BF,.bool (s.AG k).full,nT (s.AG k).word,nT (s.AG k).d0,nT (s.AG k).d1,nT (s.AG k).d2,nT (s.AG k).d3]=(ER s fr to (k+1)).map AN.cells:=by
 rw[Rw h,Qq]
 congr 1
 simp[C3,hn,AN.cells]
end Go.Ax.M
namespace Go.Proofs.YtohgndhnndeijaaGreat.Ax
open Go Go.Ax Go.Ax.M
section
variable {H:AP}{K:AH->AP->Prop}{s:State}{oS oT:Nat}{fS fT rS rT:Bool}
theorem PH{fr to:Int}(hS:jI H oS s rS)(hT:jU H oT s rT)(m:GF s fr.toNat to.toNat)(f0:0<=fr)(t0:0<=to)
 (h:K (BT (B9 s fr to) H.length (H.length+1) false false) (H++[AM (B9 s fr to),AJ (B9 s fr to)])):AF Qc 202 [stA s oS oT fS fT,nS fr,nS to] H K:=by
 obtain⟨fr,rfl⟩:∃n:Nat,fr=n:=⟨fr.toNat,by omega⟩
 obtain⟨to,rfl⟩:∃n:Nat,to=n:=⟨to.toNat,by omega⟩
 simp only[Qe]at m
 have kT:=AL.of hT
 have kS:=AL.of hS
 have hg:=m.inv.ok.DR
 have hlS:=FL hg
 have hf:=m.hf
 have ht:=m.ht
 have hne:=m.ne
 have hup:P2 (As s) fr to=true:=by
  have hu:∀i,i<s.AE.length->s.B8 i->-1<=(s.slot i).up:=λi hi hn=>by rcases m.inv.up i hi hn with h|h<;>omega
  simp only[P2,GU,m.inv.ok.Ii,Bool.true_and,Qj,decide_eq_true_eq,A8,Qk]
  refine⟨(Lw hu).2 ⟨by omega,by omega,by simpa using m.J4⟩,by omega,by omega,?_⟩
  cases hi:E0 (As s) to with
  |false=>rfl
  |true=>
   have:=((Lw hu).1 hi).2.2
   simp only[State.B8,Qe,m.Jo]at this;cases this
 have hl2:(As s).length<=1000:=by rw[A8];exact hlS
 have hl3:0<(As s).length:=by rw[A8];omega
 have hgF:=A4 (s:=s) hf
 have hgT:=A4 (s:=s) ht
 have hgF2:∀X,((s.AE.map Slot.cells).set to X)[fr]?=some [nS (s.slot fr).cap.ty,nS (s.slot fr).cap.th,nS (s.slot fr).cap.ri,nS (s.slot fr).cap.ba,nS (s.slot fr).up]:=λX=>by rw[Qf (Ne.symm hne)];exact A4 hf
 have hr:(0<=(fr:Int))=True/\((fr:Int)<(s.AE.length:Int))=True/\(0<=(to:Int))=True/\((to:Int)<(s.AE.length:Int))=True:=⟨by simp,eq_true (by omega),by simp,eq_true (by omega)⟩
 refine AF.gc ?_
 refine Aa ok202 ?_;repeat' first|simp only[*,BT,AM,AJ,Qa,A8,Qe,Qb,go_sem]|apply orR|(apply sp<;>intro hc)|refine Dd (kS _) hlS ?_|(rw[<-A8];refine N8 (up:=As s) (by first|exact BH|exact Bb rfl) hl2 hl3 hup ?_)|refine A3 (kS _) (kT _) (FL hg) (Gm hg) (DL hg) (DM hg) ?_
 rw[VL hf ht hne]
 have hfl:(MJ (As s) fr to).length=s.AE.length:=by simp only[MJ,Qb];rw[(NL _ _).1,A8]
 have hlT:=Gm hg
 obtain⟨F,hF⟩:∃F,Hid (F=MJ (As s) fr to):=NQ _
 have hF':F=_:=hF
 rw[<-hF']at hfl ⊢
 clear hF' hgF hgT hgF2 hup
 refine AK.Az [42,1,2,3,6,40,41] ?_;simp only[mpC,go_sem]
 refine AK.acc (λk (_:Unit)=>[(42,nS (k:Int))]) (λk _=>H++_::_::_::_::_:: .AU 5 ((Im s fr to k).map Slot.cells) false::[_]) (λk _=>True) s.AE.length ?_ (a0:=()) trivial
 rintro k-hk-next
 refine AK.unfold ?_
 have hw:=AY (k:=k) (by omega)
 have hgp:k<s.AE.length->_:=λh=>Io (s:=s) (fr:=fr) (to:=to) (k:=k) h
 have hgf:k<s.AE.length->(ints F)[k]?=some [nS (F.getD k 0)]:=λh=>Bt (by rw[hfl];exact h)
 have hmp:(Im s fr to k).length=s.AE.length:=Ip
 repeat' first|simp only[*,AA b202_2.eq_1,AR,AX,BT,AM,AJ,Qa,Qb,apC,go_sem]|apply orR|(apply sp<;>intro hc)|fail
 ·have hk:k<s.AE.length:=by assumption
  have eu:(if-1>F.getD k 0 then-1 else F.getD k 0)=(EK s fr to k).up:=by
   have hF:F=_:=hF
   simp only[EK,<-hF]
   split<;>omega
  rw[eu,We hk]
  (refine AK.Az [42,1,2,3,6,40,41] ?_;simp only[mpC,go_sem];refine next () hk trivial)
 ·have hk:k=s.AE.length:=by omega
  subst hk
  rw[Wd]
  have hml:(B9 s fr to).AE.length=s.AE.length:=Cb
  refine AK.heap (H':=H++_::_::_::_::_::_:: .AU 13 ((ER s fr to 0).map AN.cells) false::[]) (by rw[Rx]) ?_
  clear next hw hgp hgf hmp
  refine AK.Az [58,1,2,3,6,57] ?_;simp only[mpC,go_sem]
  refine AK.acc (λk (_:Unit)=>[(58,nS (k:Int))]) (λk _=>H++_::_::_::_::_::_:: .AU 13 ((ER s fr to k).map AN.cells) false::[]) (λk _=>True) s.AB.length ?_ (a0:=()) trivial
  rintro k-hk-next
  refine AK.unfold ?_
  have hw:=AY (k:=k) (by omega)
  have hw1:=AY (k:=fr) (by omega)
  have hw2:=AY (k:=to) (by omega)
  have hgp:k<s.AB.length->_:=λh=>TR (s:=s) (fr:=fr) (to:=to) (k:=k) h
  have hmp:(ER s fr to k).length=s.AB.length:=TS
  repeat' first|simp only[*,AA b202_6.eq_1,AR,AX,BT,AM,AJ,Qa,Qb,apC,go_sem]|apply orR|(apply sp<;>intro hc)|fail
  ·have hk:k<s.AB.length:=by assumption
   have hn:(s.AG k).from_=((fr+1:Nat):Int):=by assumption
   rw[show((to+1:Nat):Int)=(to:Int)+1 from rfl,TT hk (by omega)]
   (refine AK.Az [58,1,2,3,6,57] ?_;simp only[mpC,go_sem];refine next () hk trivial)
  ·have hk:k<s.AB.length:=by assumption
   have hn:¬(s.AG k).from_=((fr+1:Nat):Int):=by assumption
   rw[<-Rv (fr:=fr) (to:=to) hk (by omega)]
   (refine AK.Az [58,1,2,3,6,57] ?_;simp only[mpC,go_sem];refine next () hk trivial)
  ·have hk:k=s.AB.length:=by omega
   subst hk
   have hmt:(B9 s fr to).AB.length=s.AB.length:=Cn
   rw[TQ,<-hml,<-hmt]
   exact Gc.state (s:=B9 s fr to) (i:=5) (j:=6) rfl rfl (by decide) h
theorem RO{fr to:Int}:(B9 s fr to).AS=s.AS:=rfl
theorem U2{x0 x1 x2 x3 to:Int}(hS:jI H oS s rS)(hT:jU H oT s rT)(h:K (.bool (FC s ⟨x0,x1,x2,x3⟩ to)) H):AF Qc 201 [stA s oS oT fS fT,.agg [nS x0,nS x1,nS x2,nS x3],nS to] H K:=LG (c:=⟨x0,x1,x2,x3⟩) hS hT h
theorem RA{th:Int}{c:M.Call}{oA oB:Nat}{fA fB rA rB:Bool}(hS:jI H oS s rS)(hT:jU H oT s rT)(hA:H[oA]?=some (.AU 1 (ints c.a) rA))(hB:H[oB]?=some (.AU 1 (ints c.b) rB))
 (h:(A5 s th c).st=none->K (.Bj [stA s oS oT fS fT,nS (A5 s th c).err]) H)
 (h':∀s',(A5 s th c).st=some s'->K (.Bj [BT s' H.length (H.length+1) false false,nS 0]) (H++[AM s',AJ s'])):
 AF Qc 149 [stA s oS oT fS fT,nS th,.agg [nS c.op,.slice oA c.a.length 0 c.a.length fA,.slice oB c.b.length 0 c.b.length fB,nS c.x,nS c.y,nT c.w]] H K:=by
 have kT:=AL.of hT
 have kS:=AL.of hS
 have kA:=AL.of hA
 have kB:=AL.of hB
 have key:∀e,A5 s th c= .bad e->K (.Bj [stA s oS oT fS fT,nS e]) H:=λe he=>by rw[he]at h;exact h rfl
 have hv:=λe=>show(AH.Bj [stA s oS oT fS fT,nS e]).refs (λo=>o<H.length) by simp[AH.refs,Ay];exact⟨Am hS,Am hT⟩
 clear h
 refine AF.gc ?_
 refine Aa ok149 ?_;repeat' first|simp only[*,BT,AM,AJ,Qa,Bh.cells,F1,D0,DX,RO,Cb,Cn,go_sem]|apply orR|(apply sp<;>intro hc)|refine Aw (kA _) (kB _) ?_|refine CN (kS _) (kT _) (kA _) ?_|refine Hr (kS _) (kT _) (kB _) ?_|refine Yw ?_|refine Us ?_|refine U2 (kS _) (kT _) ?_|refine P9 (kS _) (kT _) (λhc=> ?_) (λhc=> ?_)|refine PH (kS _) (kT _) (LL ‹_› ‹_› ‹_›) (CA ‹_›).1 (EC ‹_›).2.1 ?_
 all_goals try exact Gc.Cd (hv _) (key _ (by(first|(simp only[A5,Bo,B4, *,bs,go_sem];done)|(simp_all[A5,Bo,B4]<;>omega)|grind[A5,Bo,B4])))
 all_goals clear key hv
 ·exact Gc.Jg (i:=4) (j:=5) rfl rfl h' (hn:=Cb.symm) (hm:=Cn.symm) (e:=by clear h';(first|(simp only[A5,Bo,B4, *,bs,go_sem];done)|(simp_all[A5,Bo,B4]<;>omega)|grind[A5,Bo,B4]))
 ·exact Gc.Jg (i:=4) (j:=5) rfl rfl h' (hn:=D0.symm) (hm:=rfl) (e:=by clear h';(first|(simp only[A5,Bo,B4, *,bs,go_sem];done)|(simp_all[A5,Bo,B4]<;>omega)|grind[A5,Bo,B4]))
 ·exact Gc.Jg (i:=4) (j:=5) rfl rfl h' (hn:=D0.symm) (hm:=rfl) (e:=by clear h';(first|(simp only[A5,Bo,B4, *,bs,go_sem];done)|(simp_all[A5,Bo,B4]<;>omega)|grind[A5,Bo,B4]))
theorem Cg:CF 101 A5:=by
 intro H K s th c oS oT oA oB fS fT rS rT fA fB rA rB hS hT hA hB h h'
 have kT:=AL.of hT
 have kS:=AL.of hS
 have kA:=AL.of hA
 have kB:=AL.of hB
 have hn:(A5 s th c).st=none->((A5 s th c).err=0)=False:=λh=>eq_false (WV h)
 refine AF.gc ?_
 refine Aa ok101 ?_;repeat' first|simp only[*,BT,AM,AJ,Qa,go_sem]|apply orR|(apply sp<;>intro hc)|refine RA (kS _) (kT _) (kA _) (kB _) (λhc=> ?_) (λs' hc=>(λe=> ?_) (El hc).2.2.2.1)
 ·obtain⟨e,-,he⟩:=S1 (s:=s) (th:=th) (c:=c) ‹_›
  have h:=h (by rw[he];rfl)
  rw[he]at h ⊢
  exact Gc.Cd (by simp[AH.refs,Ay];exact⟨Am hS,Am hT⟩) h
 ·exact Gc.Jg (i:=4) (j:=5) rfl rfl (r:=(A5 s th c).st) (λs' e=>by have:=h' s' e;have e2:=(El e).2.2.2.1;rw[e2]at this;exact this) (hn:=rfl) (hm:=rfl) (e:=by assumption)
end
end Go.Proofs.YtohgndhnndeijaaGreat.Ax
