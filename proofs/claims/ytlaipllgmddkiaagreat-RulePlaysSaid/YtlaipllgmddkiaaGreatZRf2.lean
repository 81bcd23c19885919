/- Texts put behind one another: SRefJ, PRMove, SRefK, PBelowX, SRefL2, SRefM2, SRefN2, SRefP, SRefN3, SRefQ, SRefR, PNewS. Conditions: none. -/
import Derived.Test.YtlaipllgmddkiaaGreatZRf1
import Derived.Test.YtlaipllgmddkiaaGreatSNewXZ
set_option linter.all false
set_option maxHeartbeats 9999999
open Nat renaming add_assoc -> Qa, sub_self -> QT
open List renaming length_set -> Qb, length_append -> Qc, replicate -> Qd, getElem?_set_ne -> Qe, map_set -> Qh, getD -> Qi, getElem?_eq_none -> Ql, length_replicate -> Qm, getElem?_set_self -> Qn, set_cons_zero -> Qp, length_map -> Qs, getElem?_map -> Qt, getElem?_range -> Qu, getElem?_eq_getElem -> Qv, ext_getElem? -> Qw, getElem?_append_right -> QB, append_assoc -> QC, getElem?_replicate -> QD, range_succ -> QF, length_singleton -> QG, mem_cons_of_mem -> QI, mem_cons_self -> QM, map_replicate -> QN, take_add_one -> QO, take_length -> QP, set_set -> QV
open Go.Proofs.Tryz renaming prog -> Qf
open Bool renaming and_eq_true -> Qg, not_true -> Qy, or_eq_true -> Qz, or_self -> QE, and_eq_false_iff -> QH, and_self -> QK, or_assoc -> QL, not_false -> QQ, false_or -> QR, true_and -> QS
open Int renaming tdiv_eq_ediv_of_nonneg -> Qj, tmod_eq_emod_of_nonneg -> Qk, toNat_natCast -> Qq, le_refl -> Qr, mul_one -> QJ, le_of_lt -> QU, pow_pos -> QW
open Option renaming getD_some -> Qo, map_some -> QA
open BitVec renaming ofInt -> Qx
namespace Go.Proofs.YtlaipllgmddkiaaGreat.Ax
open Go Go.Ax Go.Ax.M
section
variable {H:AP}{K:AH->AP->Prop}{s:State}{oS oT:Nat}{fS fT rS rT:Bool}
theorem bZ{up:List Int}{o:Nat}{f r:Bool}{i:Int}{n:Nat}(hn:up.length=n)(hg:Cm up=true)(hx:E0 up i=true)(ho:H[o]?=some (.AU 1 (ints up) r))
 (h:K (.slice H.length (Jk up i).length 0 (Jk up i).length false) (H++[.AU 1 (ints (Jk up i)) false])):AF Qf 218 [.slice o n 0 n f,nS i] H K:=by
 subst hn
 have kO:=AL.of ho
 have hlen:=Lv hg
 have hf:Jk up i=pick (λk=>decide (up.getD k 0=i)) up.length:=by simp only[Jk,GU,hg,hx,QK,cond_true,GV]
 rw[hf]at h
 clear hf
 refine AF.gc ?_
 refine Aa ok218 ?_;repeat' first|simp only[*,go_sem]|refine orR ?_|(refine sp ?_ ?_<;>intro hc)|fail
 refine AK.Az [5,6,0,1] ?_;simp only[mpC,go_sem]
 refine AK.lay 1 ?_
 refine AK.acc (λk G=>[(5,.slice H.length (pick (λk=>decide (up.getD k 0=i)) k).length 0 (pick (λk=>decide (up.getD k 0=i)) k).length false),(6,nS (k:Int))]) (λk G=>H++ .AU 1 (ints (pick (λk=>decide (up.getD k 0=i)) k)) false::G) (λk G=>True) up.length ?_ (a0:=[]) trivial
 intro k G hk _ next
 refine AK.Jn λW hW=> ?_
 have kO:=kO.ex hW.ex
 have ko:=hW.EQ
 have kO0:=kO.at
 have ko0:=ko.at
 have kos:=ko.set
 have hb:((pick (λk=>decide (up.getD k 0=i)) k).length+1)* 8<=140737488355328:=by have:=GO (p:=λk=>decide (up.getD k 0=i)) (k:=k);omega
 refine AK.unfold ?_
 have hw:=AY (k:=k) (by omega)
 have hgk:k<up.length->_:=λh=>Bt (l:=up) h
 repeat' first|simp only[*,AA b218_2.eq_1,AR,AX,apC,go_sem]|refine orR ?_|(refine sp ?_ ?_<;>intro hc)|refine OO rfl hg kO0 ?_
 case' refine_2=>
  have hk':k=up.length:=by omega
  have hW:W=_:=hW
  subst hk' hW
  exact Gc.slice (i:=0) rfl Ca h
 case' refine_1.refine_1=>have e:=UG (p:=λk=>decide (up.getD k 0=i)) (k:=k) (decide_eq_true ‹_›)
 case' refine_1.refine_2=>have e:=OL (p:=λk=>decide (up.getD k 0=i)) (k:=k) (decide_eq_false ‹_›)
 all_goals
  have hW:W=_:=hW
  subst hW
  simp only[e,Dn,GI,go_sem]at next
  (refine AK.Az [5,6,0,1] ?_;simp only[mpC,go_sem];refine next _ ‹_›)
theorem bc{i:Int}(hi:Inv s)(h0:0<=i)(h1:i<s.AE.length)(h2:(s.slot i.toNat).cap.ty=1)(hS:nA H oS s rS)(hT:nB H oT s rT)(h:K (nS (Df s i)) H):
 AF Qf 162 [stA s oS oT fS fT,nS i] H K:=by
 have kS:=AL.of hS
 have kT:=AL.of hT
 have hn:s.B8 i.toNat:=C9 (by rw[h2];decide)
 have DS:=hi.th (i:=i.toNat) (by omega) hn
 have g0:(0<=i)=True:=eq_true h0
 have g1:(i<(s.AE.length:Int))=True:=eq_true h1
 have g2:(i<0)=False:=eq_false (by omega)
 have g3:((s.AE.length:Int)<=i)=False:=eq_false (by omega)
 have t0:(0<=(s.slot i.toNat).cap.th)=True:=eq_true DS.1
 have t1:((s.slot i.toNat).cap.th<(s.AB.length:Int))=True:=eq_true DS.2
 have gs:=A4 (s:=s) (k:=i.toNat) (by omega)
 have gt:=BI (s:=s) (k:=(s.slot i.toNat).cap.th.toNat) (by omega)
 have hx:E0 (As s) i=true:=by
  rw[D7]
  refine⟨h0,by rw[A8];exact h1,?_⟩
  rw[EG (by omega)]
  have hu:=hi.up i.toNat (by omega) hn
  have hn':Aq (s.slot i.toNat).cap=false:=hn
  simp only[FE,hn',cond_false]
  omega
 have hu:Df s i=bif decide (((Jk (As s) i).length:Int)=0)then 0 else(s.AG (s.slot i.toNat).cap.th.toNat).used:=by
  simp only[Df,hi.ok.DR,h2,g2,g3,decide_true,decide_false,Qy,QE,cond_false]
 rw[hu]at h
 clear hu hn DS
 refine AF.tidy ?_
 refine Aa ok162 ?_;repeat' first|simp only[*,go_sem]|apply orR|(apply sp<;>intro hc)|refine B3 hi (kS _) (kT _) ?_|refine Pf hi (kS _) ?_|refine bZ A8 hi.ok.Ii hx (by first|exact BH|exact Bb rfl) ?_
 all_goals (refine ti h (by first|exact⟨_,rfl⟩|exact⟨[],(List.append_nil _).symm⟩|exact hx|exact hx.app _) ?_;first|(simp only[QE, *,bs,go_sem];done)|(simp_all[QE]<;>omega)|grind[QE])
set_option maxHeartbeats 1000000 in
theorem Zp:J5 86 (λ_ c=>c.op=1) Be:=by
 intro H K s th c oS oT oA oB fS fT rS rT fA fB rA rB hi hcg hop hS hT hA hB h h'
 have kT:=AL.of hT
 have kS:=AL.of hS
 have kA:=AL.of hA
 have kB:=AL.of hB
 have hl:=II hcg
 have hl1:=hl.1
 have hl2:=hl.2
 clear hl
 have key:∀e,Be s th c= .bad e->K (.Bj [stA s oS oT fS fT,.agg [nS e,nT 0,nS 0]]) H:=λe he=>by rw[he]at h;exact h rfl
 have hv:=λe=>show(AH.Bj [stA s oS oT fS fT,.agg [nS e,nT 0,nS 0]]).refs (λo=>o<H.length) by simp[AH.refs,Ay];exact⟨Am hS,Am hT⟩
 clear h
 have iS:∀L:AP,oS<(H++L).length:=λL=>by have:=Am hS;rw[Qc];omega
 have iT:∀L:AP,oT<(H++L).length:=λL=>by have:=Am hT;rw[Qc];omega
 have hroom:(AO s th c.a).2.2=0->_:=λh=>Dt (Cx h)
 have hri:(AO s th c.a).2.2=0->0<=(AO s th c.a).2.1.ri/\(AO s th c.a).2.1.ri<=7:=λh=>by
  have:=CA h;rw[this.2.2.2.1];exact hi.ri (by omega)
 have hr2:(AO s th c.a).2.2=0->_:=λh=>MA (hri h).1 (hri h).2
 have hq2:(AO s th c.a).2.2=0->IntKind.wrap .i64 ((AO s th c.a).2.1.ri.tdiv 2)=(AO s th c.a).2.1.ri.tdiv 2:=λh=>by have:=hri h;rw[Qj (by omega)];exact w64 (by omega) (by omega)
 clear hri
 have w2:IntKind.wrap .i64 2=2:=by decide
 have hwu:(AO s th c.a).2.2=0->(AO s th c.a).2.1.ty=1->IntKind.wrap .i64 (Df s (AO s th c.a).1+(CE c.x c.y).1)=Df s (AO s th c.a).1+(CE c.x c.y).1:=λh1 h2=>by
  obtain⟨i1,i2,i3,i4,i5,i6⟩:=Ek h1
  have:=R6 i1 i2 i3 (by rw[<-i4];exact h2)
  have:=Vr (k:=c.x) (n:=c.y)
  exact w64 (by omega) (by omega)
 have KC:¬CU s<0->(0<=CU s)=True/\(CU s<(s.AB.length:Int))=True:=λh=>by
  have:=Lc (s:=s) (by omega)
  exact⟨eq_true (by omega),eq_true (by omega)⟩
 have u0:(AO s th c.a).2.2=0->_:=λh=>(CA h).1
 have u1:(AO s th c.a).2.2=0->_:=λh=>(CA h).2.1
 have u2:(AO s th c.a).2.2=0->(AO s th c.a).2.1.ty=1->(s.slot (AO s th c.a).1.toNat).cap.ty=1:=λh h1=>by rw[<-(CA h).2.2.2.1];exact h1
 refine AF.gc ?_
 refine Aa ok86 ?_;repeat' first|simp only[*,BT,AM,AJ,Qa,Bh.cells,AN.cells,Qb,go_sem]|apply orR|(apply sp<;>intro hc)|refine EX hi (kA _) hl1 (kS _) (kT _) ?_|refine Jt hi (kB _) hl2 (kS _) (kT _) ?_|refine CS ?_ (iS _) (iT _)|refine VW ?_|refine bc hi (u0 ‹_›) (u1 ‹_›) (u2 ‹_› ‹_›) (kS _) (kT _) ?_|refine si hi (kT _) ?_|refine dL hi (kT _) ?_
 all_goals try exact Gc.Cd (hv _) (key _ (by(first|(simp only[Be,Dc,Bs, *,bs,go_sem];done)|(simp_all[Be,Dc,Bs]<;>omega)|grind[Be,Dc,Bs])))
 all_goals
  have he:∃b,Be s th c=⟨0,0,CU s,some (Fq s c (AO s th c.a).1 (Ak s th c.b).1 (Df s (AO s th c.a).1+(CE c.x c.y).1) (CU s) b (AO s th c.a).2.1)⟩/\b=(Bs c s).1:=⟨_,by clear h' key hv;(first|(simp only[Be,Dc,Bs, *,bs,go_sem];done)|(simp_all[Be,Dc,Bs]<;>omega)|grind[Be,Dc,Bs]),rfl⟩
  clear key hv
  obtain⟨bs,he,hbs⟩:=he
  have h':=h' _ (by rw[he])
  rw[he]at h'
  simp only[CD.Ap]at h'
  obtain⟨y,hy⟩:∃y,Hid (y=Fq s c (AO s th c.a).1 (Ak s th c.b).1 (Df s (AO s th c.a).1+(CE c.x c.y).1) (CU s) bs (AO s th c.a).2.1):=NQ _
  have hy':y=_:=hy
  rw[<-hy']at h'
  obtain⟨i1,i2,i3,i4,i5,i6⟩:=Ek (s:=s) (th:=th) (p:=c.a) ‹_›
  obtain⟨-,j2,j3,j4,j5,j6⟩:=EC (s:=s) (th:=th) (p:=c.b) ‹_›
  have ET:=UP (s:=s) j2 j3
  have hsf:=Lc (s:=s) (by omega)
  have hrt:=Cx (s:=s) (th:=th) (p:=c.a) ‹_›
  rw[DP]at hrt
  have T4:(s.AG (AO s th c.a).2.1.th.toNat).ty=1:=by
   have:=(i1.E8 _ (by omega) i5).2
   rw[<-i4]at this;rw[this];assumption
  have hne:(CU s).toNat≠(AO s th c.a).2.1.th.toNat:=by intro e;rw[e]at hsf;omega
  have hgn:=BI (s:=s) hsf.1
  have hgr:∀X,((s.AB.map AN.cells).set (CU s).toNat X)[(AO s th c.a).2.1.th.toNat]?=some (s.AG (AO s th c.a).2.1.th.toNat).cells:=λX=>by
   rw[Qe hne];exact BI (by omega)
  have hgood:=i1.ok.DR
  have hct:=aS (s:=s) (T:=(HH c.x c.y bs).1) (used:=Df s (AO s th c.a).1+(CE c.x c.y).1) (show(AO s th c.a).2.1.th.toNat<s.AB.length by omega) hne
  have hyS:y.AE.length=s.AE.length:=by rw[hy'];simp[Fq]
  have hyT:y.AB.length=s.AB.length:=by rw[hy'];simp[Fq]
  have hyg:y.AS=s.AS:=by rw[hy'];rfl
  have hy1:y.AE.map Slot.cells=(s.AE.map Slot.cells).set (Ak s th c.b).1.toNat [nS c.x,nS (CU s),nS 7,nS 0,nS (AO s th c.a).1]:=by rw[hy'];simp only[Fq,<-Jx];rfl
  have hy2:=(hct.trans (show _=y.AB.map AN.cells by rw[hy'];rfl)).symm
  have hyh:=And.intro hy1 hy2
  have hyh:Hid _:=hyh
  have hyl:=And.intro hyS (And.intro hyT hyg)
  have hyl:Hid _:=hyl
  clear hct hy' hy1 hy2 hyS hyT hyg he i1 i2 i3 i4 i5 i6 j2 j3 j4 j5 j6 hsf hrt T4
 all_goals
  repeat' first|simp only[*,BT,AM,AJ,Qa,Bh.cells,AN.cells,Qb,go_sem]|apply orR|(apply sp<;>intro hc)|refine Fi hi (kS _) (kT _) ?_|refine UI ?_
  obtain⟨hy1,hy2⟩:=hyh
  obtain⟨hyS,hyT,hyg⟩:=hyl
  first
   |(
    have hx:c.x=2:=by assumption
    simp only[hbs,Bs,hx,AN.cells,decide_true,cond_true]at hy1 hy2
    rw[<-hyS,<-hyT,<-hyg]
    refine Gc.stateT (s:=y) (i:=5) (j:=6) ?_ ?_ (by decide) (by simp[AH.plain,Ah]) h'
    ·simp only[AM];rw[hy1];rfl
    ·simp only[AJ];rw[hy2];rfl)
   |(
    have hx:¬c.x=2:=by assumption
    simp only[hbs,Bs,hx,AN.cells,decide_false,cond_false]at hy1 hy2
    rw[<-hyS,<-hyT,<-hyg]
    refine Gc.stateT (s:=y) (i:=5) (j:=6) ?_ ?_ (by decide) (by simp[AH.plain,Ah]) h'
    ·simp only[AM];rw[hy1];rfl
    ·simp only[AJ];rw[hy2];rfl)
end
end Go.Proofs.YtlaipllgmddkiaaGreat.Ax
namespace Go.Ax.M
open Go Go.Ax
def Hz(s:State)(fr to k:Nat):Slot:=if k=fr then⟨.zero,-1⟩else if k=to then s.slot fr else s.slot k
def Ix(s:State)(fr to k:Nat):List Slot:=(List.range s.AE.length).map λi=>if i<k then(B9 s fr to).slot i else Hz s fr to i
theorem G9{s:State}{fr to k:Nat}:(Ix s fr to k).length=s.AE.length:=by simp[Ix]
theorem IN{s:State}{fr to k i:Nat}(hi:i<s.AE.length):(Ix s fr to k)[i]?=some (if i<k then(B9 s fr to).slot i else Hz s fr to i):=by simp[Ix,hi]
theorem TN {s:State}{i:Nat}(hi:i<s.AE.length):s.AE[i]?=some (s.slot i):=by simp[State.slot,Qi,hi]
theorem Wp{s:State}{fr to:Nat}(hf:fr<s.AE.length)(ht:to<s.AE.length):(s.AE.set to (s.slot fr)).set fr ⟨.zero,-1⟩=Ix s fr to 0:=by
 apply Qw
 intro i
 by_cases hi:i<s.AE.length
 ·rw[IN hi,if_neg (by omega),Hz]
  by_cases e:i=fr
  ·subst e;rw[if_pos rfl,Qn (by rw[Qb];exact hi)]
  ·rw[if_neg e,Qe (Ne.symm e)]
   by_cases e2:i=to
   ·subst e2;rw[if_pos rfl,Qn hi]
   ·rw[if_neg e2,Qe (Ne.symm e2),TN hi]
 ·rw[Ql (by rw[Qb,Qb];omega),Ql (by rw[G9];omega)]
theorem Zl{s:State}{fr to:Nat}:Ix s fr to s.AE.length=(B9 s fr to).AE:=by
 apply Qw
 intro i
 by_cases hi:i<s.AE.length
 ·rw[IN hi,if_pos hi,TN (by rw[Cb];exact hi)]
 ·rw[Ql (by rw[G9];omega),Ql (by rw[Cb];omega)]
theorem Wo{s:State}{fr to k:Nat}(m:GF s fr to)(hk:k<s.AE.length):
 Ix s fr to (k+1)=if ¬(Hz s fr to k).cap.ty=0/\(Hz s fr to k).up=fr then(Ix s fr to k).set k ⟨(Hz s fr to k).cap,to⟩else Ix s fr to k:=by
 have hs:=m.slot hk
 have hu:=m.oM
 have key:(B9 s fr to).slot k=if ¬(Hz s fr to k).cap.ty=0/\(Hz s fr to k).up=fr then⟨(Hz s fr to k).cap,to⟩else Hz s fr to k:=by
  rw[hs,Hz]
  by_cases e:k=fr
  ·simp[e,Bh.zero]
  ·by_cases e2:k=to
   ·rw[if_neg e,if_neg e,if_pos e2,if_pos e2,if_neg (λh=>hu h.2)]
   ·rw[if_neg e,if_neg e,if_neg e2,if_neg e2]
    by_cases h3:(s.slot k).up=(fr:Int)
    ·rw[if_pos h3]
     by_cases h4:(s.slot k).cap.ty=0
     ·have hz:Aq (s.slot k).cap=true:=by
       have:=m.inv.Ib k hk
       simp only[Bq,Qz,Qg,BX]at this
       rcases this with a|a
       ·exact a
       ·omega
      have:=m.inv.SX k hk hz
      omega
     ·rw[if_pos ⟨h4,h3⟩]
    ·rw[if_neg h3,if_neg (λh=>h3 h.2)]
 have hset:∀x:Slot,(B9 s fr to).slot k=x->Ix s fr to (k+1)=(Ix s fr to k).set k x:=by
  intro x hx
  apply Qw
  intro i
  by_cases hi:i<s.AE.length
  ·rw[IN hi]
   by_cases e:i=k
   ·subst e;rw[if_pos (by omega),Qn (by rw[G9];exact hi),hx]
   ·rw[Qe (Ne.symm e),IN hi]
    by_cases e2:i<k
    ·rw[if_pos e2,if_pos (by omega)]
    ·rw[if_neg e2,if_neg (by omega)]
  ·rw[Ql (by rw[G9];omega),Ql (by rw[Qb,G9];omega)]
 split
 ·rename_i h
  rw[if_pos h]at key
  exact hset _ key
 ·rename_i h
  rw[if_neg h]at key
  rw[hset _ key]
  apply Qw
  intro i
  by_cases e:i=k
  ·subst e;rw[Qn (by rw[G9];exact hk),IN hk,if_neg (by omega)]
  ·rw[Qe (Ne.symm e)]
theorem Yu:∀x y:Fin 8,IntKind.wrap .i64 ((Qx (IntKind.bits .i64) (IntKind.wrap .i64 ((Qx (IntKind.bits .i64) (x.val:Int)&&&Qx (IntKind.bits .i64) (y.val:Int)).toNat))&&&Qx (IntKind.bits .i64) (y.val:Int)).toNat)=
 IntKind.wrap .i64 ((Qx (IntKind.bits .i64) (x.val:Int)&&&Qx (IntKind.bits .i64) (y.val:Int)).toNat):=by decide+kernel
theorem Wm(a b:Int):D3 (D3 a b) b=D3 a b:=by
 have hin:=RV a b
 have e:I8 (D3 a b)=D3 a b:=by simp only[I8,C2,BX.2 hin,cond_true]
 obtain⟨x,hx⟩:=KP a
 obtain⟨y,hy⟩:=KP b
 rw[D3.eq_1 (D3 a b) b,e,hy]
 simp only[D3,hx,hy]
 exact Yu x y
theorem Oe{c:Bh}(h:Bq c=true)(hn:Aq c=false):Bv c.ty 1 5=true/\Bv c.th 0 47=true/\C2 c.ri=true/\DO c.ba=true/\(c.ba=0\/Db c.ty=true):=by
 simp only[Bq,hn,QR,Qg,Qz,decide_eq_true_eq]at h
 exact h
theorem Uo{c:Bh}(h1:Bv c.ty 1 5=true)(h2:Bv c.th 0 47=true)(h3:C2 c.ri=true)(h4:DO c.ba=true)(h5:c.ba=0\/Db c.ty=true):Bq c=true/\Aq c=false:=by
 constructor
 ·simp only[Bq,h1,h2,h3,h4,QS,Qz,decide_eq_true_eq];exact .inr h5
 ·have:=BX.1 h1
  simp only[Aq,show ¬c.ty=0 by omega,decide_false,Bool.false_and]
theorem JE{c:Bh}{x:Int}(h:Bq c=true)(hn:Aq c=false):ES c x={c with ri:=D3 c.ri x}/\Bq (ES c x)=true/\Aq (ES c x)=false:=by
 obtain⟨h1,h2,h3,h4,h5⟩:=Oe h hn
 have e:ES c x={c with ri:=D3 c.ri x}:=by simp only[ES,h,cond_true]
 have:=Uo (c:={c with ri:=D3 c.ri x}) h1 h2 (by simp only[C2,BX];exact RV _ _) h4 h5
 rw[e];exact⟨rfl,this.1,this.2⟩
theorem N3{c:Bh}{b:Int}(h:Bq c=true)(hn:Aq c=false)(he:(CK c b).2=0):(CK c b).1={c with ba:=b}/\Bq (CK c b).1=true/\Aq (CK c b).1=false:=by
 obtain⟨h1,h2,h3,h4,h5⟩:=Oe h hn
 rw[Pt]at he ⊢
 rw[h]at he ⊢
 simp only[Qy,QR]at he ⊢
 cases e1:(decide (b<1)||decide (65535<b))with
 |true=>rw[e1]at he;simp at he
 |false=>
  rw[e1]at he
  simp only[cond_false]at he ⊢
  cases e2:(!decide (c.ty=3)&&!decide (c.ty=4))with
  |true=>rw[e2]at he;simp at he
  |false=>
   rw[e2]at he
   simp only[cond_false]at he ⊢
   cases e3:decide (c.ba≠0)with
   |true=>rw[e3]at he;simp at he
   |false=>
    simp only[cond_false]
    simp at e1 e2
    have:=Uo (c:={c with ba:=b}) h1 h2 h3 (by simp only[DO,BX];omega) (.inr (by simp only[Db,Qz,decide_eq_true_eq];omega))
    exact⟨trivial,this.1,this.2⟩
theorem Z0{c:Bh}{x b:Int}(h:Bq c=true)(hn:Aq c=false)(he:(CK (ES c x) b).2=0):ES (CK (ES c x) b).1 x=(CK (ES c x) b).1:=by
 obtain⟨e1,g1,n1⟩:=JE (x:=x) h hn
 obtain⟨e2,g2,n2⟩:=N3 g1 n1 he
 rw[(JE g2 n2).1,e2,e1]
 simp only[Wm]
end Go.Ax.M
namespace Go.Proofs.YtlaipllgmddkiaaGreat.Ax
open Go Go.Ax Go.Ax.M
section
variable {H:AP}{K:AH->AP->Prop}{s:State}{oS oT:Nat}{fS fT rS rT:Bool}
section
variable {x0 x1 x2 x3 n:Int}
end
theorem Zm{c:Bh}{x:Int}(e:ES c x=c)(h:K (.agg c.cells) H):AF Qf 168 [.agg c.cells,nS x] H K:=Pe (by rw[e];exact h)
theorem RZ:J5 87 (λ_ c=>c.op=2\/c.op=3) A5:=by
 intro H K s th c oS oT oA oB fS fT rS rT fA fB rA rB hi hcg hop hS hT hA hB h h'
 have kT:=AL.of hT
 have kS:=AL.of hS
 have kA:=AL.of hA
 have kB:=AL.of hB
 have hl:=II hcg
 have hl1:=hl.1
 have hl2:=hl.2
 clear hl
 have key:∀e,A5 s th c= .bad e->K (.Bj [stA s oS oT fS fT,.agg [nS e,nT 0,nS 0]]) H:=λe he=>by rw[he]at h;exact h rfl
 have hv:=λe=>show(AH.Bj [stA s oS oT fS fT,.agg [nS e,nT 0,nS 0]]).refs (λo=>o<H.length) by simp[AH.refs,Ay];exact⟨Am hS,Am hT⟩
 clear h
 have iS:∀L:AP,oS<(H++L).length:=λL=>by have:=Am hS;rw[Qc];omega
 have iT:∀L:AP,oT<(H++L).length:=λL=>by have:=Am hT;rw[Qc];omega
 have u0:(AO s th c.a).2.2=0->_:=λh=>(CA h).1
 have u1:(AO s th c.a).2.2=0->_:=λh=>(CA h).2.1
 have cg:(AO s th c.a).2.2=0->Bq (AO s th c.a).2.1=true/\Aq (AO s th c.a).2.1=false:=λh=>by
  have:=CA h;rw[this.2.2.2.1];exact⟨hi.Ib _ (by omega),by rw[<-this.2.2.2.1];exact this.2.2.2.2⟩
 rcases hop with hop|hop
 ·refine AF.gc ?_
  refine Aa ok87 ?_;repeat' first|simp only[*,BT,AM,AJ,Qa,Bh.cells,F1,D0,DX,go_sem]|refine orR ?_|(refine sp ?_ ?_<;>intro hc)|refine EX hi (kA _) hl1 (kS _) (kT _) ?_|refine Jt hi (kB _) hl2 (kS _) (kT _) ?_|refine CS ?_ (iS _) (iT _)|refine Pe (c:=(AO s th c.a).2.1) ?_|refine UK hi (u0 ‹_›) (u1 ‹_›) (CZ ‹_›).1 (CZ ‹_›).2.1 (CZ ‹_›).2.2.1 (JE (cg ‹_›).1 (cg ‹_›).2).2.1 (JE (cg ‹_›).1 (cg ‹_›).2).2.2 (kS _) (kT _) (λhc=> ?_) (λhc=> ?_)
  case' inl.refine_2.refine_2.refine_2=>
   obtain⟨u,hu⟩:∃u,u=CW s (AO s th c.a).1 (Ak s th c.b).1 (ES (AO s th c.a).2.1 c.x):=⟨_,rfl⟩
   have e:A5 s th c=⟨0,0,0,some u⟩:=by rw[hu];clear h' key;(first|(simp only[A5,Bo,B4, *,bs,go_sem];done)|(simp_all[A5,Bo,B4]<;>omega)|grind[A5,Bo,B4])
   rw[e]at h'
   have h':=h' _ rfl
   exact Gc.Jg (s':=u) (i:=6) (j:=7) (by rw[hu];rfl) (by rw[hu];rfl) (λs' e=>by injection e with e;subst e;exact h') (by decide) (by simp[AH.plain,Ah]) (by rw[hu];exact D0.symm) (by rw[hu];rfl) (by rw[hu];exact⟨rfl,rfl,rfl⟩) rfl
  all_goals exact Gc.Cd (hv _) (key _ (by(first|(simp only[A5,Bo,B4, *,bs,go_sem];done)|(simp_all[A5,Bo,B4]<;>omega)|grind[A5,Bo,B4])))
 ·refine AF.gc ?_
  refine Aa ok87 ?_;repeat' first|simp only[*,BT,AM,AJ,Qa,Bh.cells,F1,D0,DX,go_sem]|refine orR ?_|(refine sp ?_ ?_<;>intro hc)|refine EX hi (kA _) hl1 (kS _) (kT _) ?_|refine Jt hi (kB _) hl2 (kS _) (kT _) ?_|refine CS ?_ (iS _) (iT _)|refine Pe (c:=(AO s th c.a).2.1) ?_|refine TG (c:=ES (AO s th c.a).2.1 c.x) ?_|refine Zm (c:=(CK (ES (AO s th c.a).2.1 c.x) c.y).1) (Z0 (cg ‹_›).1 (cg ‹_›).2 ‹_›) ?_|refine UK hi (u0 ‹_›) (u1 ‹_›) (CZ ‹_›).1 (CZ ‹_›).2.1 (CZ ‹_›).2.2.1 (N3 (JE (cg ‹_›).1 (cg ‹_›).2).2.1 (JE (cg ‹_›).1 (cg ‹_›).2).2.2 ‹_›).2.1 (N3 (JE (cg ‹_›).1 (cg ‹_›).2).2.1 (JE (cg ‹_›).1 (cg ‹_›).2).2.2 ‹_›).2.2 (kS _) (kT _) (λhc=> ?_) (λhc=> ?_)
  case' inr.refine_2.refine_2.refine_2.refine_2=>
   obtain⟨u,hu⟩:∃u,u=CW s (AO s th c.a).1 (Ak s th c.b).1 ((CK (ES (AO s th c.a).2.1 c.x) c.y).1):=⟨_,rfl⟩
   have e:A5 s th c=⟨0,0,0,some u⟩:=by rw[hu];clear h' key;(first|(simp only[A5,Bo,B4, *,bs,go_sem];done)|(simp_all[A5,Bo,B4]<;>omega)|grind[A5,Bo,B4])
   rw[e]at h'
   have h':=h' _ rfl
   exact Gc.Jg (s':=u) (i:=6) (j:=7) (by rw[hu];rfl) (by rw[hu];rfl) (λs' e=>by injection e with e;subst e;exact h') (by decide) (by simp[AH.plain,Ah]) (by rw[hu];exact D0.symm) (by rw[hu];rfl) (by rw[hu];exact⟨rfl,rfl,rfl⟩) rfl
  all_goals exact Gc.Cd (hv _) (key _ (by(first|(simp only[A5,Bo,B4, *,bs,go_sem];done)|(simp_all[A5,Bo,B4]<;>omega)|grind[A5,Bo,B4])))
set_option maxHeartbeats 1000000 in
theorem Zo:J5 87 (λ_ c=>c.op=4) A5:=by
 intro H K s th c oS oT oA oB fS fT rS rT fA fB rA rB hi hcg hop hS hT hA hB h h'
 have kT:=AL.of hT
 have kS:=AL.of hS
 have kA:=AL.of hA
 have kB:=AL.of hB
 have hl:=II hcg
 have hl1:=hl.1
 have hl2:=hl.2
 clear hl
 have key:∀e,A5 s th c= .bad e->K (.Bj [stA s oS oT fS fT,.agg [nS e,nT 0,nS 0]]) H:=λe he=>by rw[he]at h;exact h rfl
 have hv:=λe=>show(AH.Bj [stA s oS oT fS fT,.agg [nS e,nT 0,nS 0]]).refs (λo=>o<H.length) by simp[AH.refs,Ay];exact⟨Am hS,Am hT⟩
 clear h
 have iS:∀L:AP,oS<(H++L).length:=λL=>by have:=Am hS;rw[Qc];omega
 have iT:∀L:AP,oT<(H++L).length:=λL=>by have:=Am hT;rw[Qc];omega
 have u0:(AO s th c.a).2.2=0->_:=λh=>(CA h).1
 have u1:(AO s th c.a).2.2=0->_:=λh=>(CA h).2.1
 have cg:(AO s th c.a).2.2=0->Bq (AO s th c.a).2.1=true/\Aq (AO s th c.a).2.1=false:=λh=>by
  have:=CA h;rw[this.2.2.2.1];exact⟨hi.Ib _ (by omega),by rw[<-this.2.2.2.1];exact this.2.2.2.2⟩
 have b0:(AO s th c.a).2.2=0->(0<=(AO s th c.a).1)=True/\((AO s th c.a).1<(s.AE.length:Int))=True:=λh=>⟨eq_true (CA h).1,eq_true (CA h).2.1⟩
 have b1:(Ak s th c.b).2=0->(0<=(Ak s th c.b).1)=True/\((Ak s th c.b).1<(s.AE.length:Int))=True:=λh=>⟨eq_true (CZ h).1,eq_true (CZ h).2.1⟩
 have gF:(AO s th c.a).2.2=0->_:=λh=>A4 (s:=s) (k:=(AO s th c.a).1.toNat) (by have:=CA h;omega)
 have gE:(Ak s th c.b).2=0->_:=λh=>A4 (s:=s) (k:=(Ak s th c.b).1.toNat) (by have:=CZ h;omega)
 have hne:(AO s th c.a).2.2=0->(Ak s th c.b).2=0->(Ak s th c.b).1.toNat≠(AO s th c.a).1.toNat:=λh1 h2 e=>by
  have q:=CA h1
  have r:=CZ h2
  have q1:=q.2.2.2.2
  rw[q.2.2.2.1,<-e,r.2.2.2]at q1;cases q1
 have gF2:(AO s th c.a).2.2=0->(Ak s th c.b).2=0->∀X,((s.AE.map Slot.cells).set (Ak s th c.b).1.toNat X)[(AO s th c.a).1.toNat]?=some [nS (s.slot (AO s th c.a).1.toNat).cap.ty,nS (s.slot (AO s th c.a).1.toNat).cap.th,nS (s.slot (AO s th c.a).1.toNat).cap.ri,nS (s.slot (AO s th c.a).1.toNat).cap.ba,nS (s.slot (AO s th c.a).1.toNat).up]:=λh1 h2 X=>by
  rw[Qe (hne h1 h2)];exact A4 (by have:=CA h1;omega)
 have hrm:(Ak s th c.b).2=0->∀x:Bh,FC s x (Ak s th c.b).1=(decide (x.ty=2)&&Ch s x.th (Ak s th c.b).1):=λh x=>by
  have q:=CZ h
  simp[FC,Et,hi.ok.DR,q.1,q.2.1]
 refine AF.gc ?_
 refine Aa ok87 ?_;repeat' first|simp only[*,BT,AM,AJ,Qa,Bh.cells,gF,Qb,go_sem]|refine orR ?_|(refine sp ?_ ?_<;>intro hc)|refine EX hi (kA _) hl1 (kS _) (kT _) ?_|refine Jt hi (kB _) hl2 (kS _) (kT _) ?_|refine CS ?_ (iS _) (iT _)|refine Ra hi (kS _) (kT _) ?_|refine Fi hi (kS _) (kT _) ?_
 case' refine_1|refine_2.refine_1|refine_2.refine_2.refine_1.refine_1=>exact Gc.Cd (hv _) (key _ (by clear gF gE gF2 hne b0 b1 u0 u1 cg;first|((first|(simp only[A5,Bo,B4, *,bs,go_sem];done)|(simp_all[A5,Bo,B4]<;>omega)|grind[A5,Bo,B4]))|(have e:=hrm ‹_› (AO s th c.a).2.1;(first|(simp only[A5,Bo,B4, *,bs,go_sem];done)|(simp_all[A5,Bo,B4]<;>omega)|grind[A5,Bo,B4]))))
 all_goals
  have h1:(AO s th c.a).2.2=0:=by assumption
  have h2:(Ak s th c.b).2=0:=by assumption
  have hrf:FC s (AO s th c.a).2.1 (Ak s th c.b).1=false:=by rw[hrm h2];simp[*]
  have m:=LL h1 h2 hrf
  have e:A5 s th c=⟨0,0,0,some (B9 s (AO s th c.a).1 (Ak s th c.b).1)⟩:=by clear gF gE gF2 hne b0 b1 u0 u1 cg h' key hrm m;(first|(simp only[A5,Bo,B4, *,bs,go_sem];done)|(simp_all[A5,Bo,B4]<;>omega)|grind[A5,Bo,B4])
  rw[e]at h'
  have h':=h' _ rfl
  have f0:=(CA h1).1
  have t0:=(CZ h2).1
  clear e key cg u0 u1 b0 b1 gF gE gF2 hne hrm hrf
  generalize (AO s th c.a).1=F at*
  generalize (Ak s th c.b).1=T at*
  obtain⟨fr,rfl⟩:∃n:Nat,F=n:=⟨F.toNat,by omega⟩
  obtain⟨to,rfl⟩:∃n:Nat,T=n:=⟨T.toNat,by omega⟩
  simp only[Qq]at m
  have hf:=m.hf
  have ht:=m.ht
  refine AK.heap (H':=H++_::_::_::_::_:: .AU 5 ((Ix s fr to 0).map Slot.cells) false:: .AU 13 (s.AB.map AN.cells) false::[_]) (by rw[<-Wp hf ht,Qh,Qh];rfl) ?_
  refine AK.Az [15,6,7,8,11,14] ?_;simp only[mpC,go_sem]
  refine AK.acc (λk (_:Unit)=>[(15,nS (k:Int))]) (λk _=>H++_::_::_::_::_:: .AU 5 ((Ix s fr to k).map Slot.cells) false:: .AU 13 (s.AB.map AN.cells) false::[_]) (λk _=>True) s.AE.length ?_ (a0:=()) trivial
  rintro k-hk-next
  refine AK.unfold ?_
  have hlS:s.AE.length<=96:=by have:=hi.ok.lS;omega
  have hw:=AY (k:=k) (by omega)
  have hgp:k<s.AE.length->((Ix s fr to k).map Slot.cells)[k]?=some [nS (Hz s fr to k).cap.ty,nS (Hz s fr to k).cap.th,nS (Hz s fr to k).cap.ri,nS (Hz s fr to k).cap.ba,nS (Hz s fr to k).up]:=λh=>by
   rw[Qt,IN h,if_neg (by omega)];rfl
  have hmp:(Ix s fr to k).length=s.AE.length:=G9
  have hsu:k<s.AE.length->_:=λh=>Wo (k:=k) m h
  clear hlS
  repeat' first|simp only[*,AA b87_10.eq_1,AR,AX,BT,AM,AJ,Qa,Qb,apC,go_sem]|refine orR ?_|(refine sp ?_ ?_<;>intro hc)|fail
  ·have hk2:k<s.AE.length:=by assumption
   have e:=(hsu hk2).trans (if_pos ⟨by assumption,by assumption⟩)
   rw[e]at next
   simp only[Qh,Slot.cells]at next
   (refine AK.Az [15,6,7,8,11,14] ?_;simp only[mpC,go_sem];refine next () hk2 trivial)
  ·have hk2:k<s.AE.length:=by assumption
   have e:=(hsu hk2).trans (if_neg λq=>absurd q.2 ‹_›)
   rw[e]at next
   (refine AK.Az [15,6,7,8,11,14] ?_;simp only[mpC,go_sem];refine next () hk2 trivial)
  ·have hk2:k<s.AE.length:=by assumption
   have e:=(hsu hk2).trans (if_neg λq=>absurd ‹_› q.1)
   rw[e]at next
   (refine AK.Az [15,6,7,8,11,14] ?_;simp only[mpC,go_sem];refine next () hk2 trivial)
  ·have hk2:k=s.AE.length:=by omega
   subst hk2
   rw[Zl]
   have hml:(B9 s fr to).AE.length=s.AE.length:=Cb
   refine AK.heap (H':=H++_::_::_::_::_::_:: .AU 13 ((ER s fr to 0).map AN.cells) false::[_]) (by rw[Rx]) ?_
   clear next hw hgp hmp hsu
   have hlS:s.AE.length<=96:=by have:=hi.ok.lS;omega
   have hlT:s.AB.length<=96:=by have:=hi.ok.lT;omega
   refine AK.Az [16,6,7,8,11,14] ?_;simp only[mpC,go_sem]
   refine AK.acc (λk (_:Unit)=>[(16,nS (k:Int))]) (λk _=>H++_::_::_::_::_::_:: .AU 13 ((ER s fr to k).map AN.cells) false::[_]) (λk _=>True) s.AB.length ?_ (a0:=()) trivial
   rintro k-hk-next
   refine AK.unfold ?_
   have hw:=AY (k:=k) (by omega)
   have hw1:=AY (k:=fr) (by omega)
   have hw2:=AY (k:=to) (by omega)
   have hgp:k<s.AB.length->_:=λh=>TR (s:=s) (fr:=fr) (to:=to) (k:=k) h
   have hmp:(ER s fr to k).length=s.AB.length:=TS
   clear hlS hlT
   repeat' first|simp only[*,AA b87_13.eq_1,AR,AX,BT,AM,AJ,Qa,Qb,apC,go_sem]|refine orR ?_|(refine sp ?_ ?_<;>intro hc)|fail
   ·have hk:k<s.AB.length:=by assumption
    have hn:(s.AG k).from_=((fr+1:Nat):Int):=by assumption
    rw[show((to+1:Nat):Int)=(to:Int)+1 from rfl,TT hk (by omega)]
    (refine AK.Az [16,6,7,8,11,14] ?_;simp only[mpC,go_sem];refine next () hk trivial)
   ·have hk:k<s.AB.length:=by assumption
    have hn:¬(s.AG k).from_=((fr+1:Nat):Int):=by assumption
    rw[<-Rv (fr:=fr) (to:=to) hk (by omega)]
    (refine AK.Az [16,6,7,8,11,14] ?_;simp only[mpC,go_sem];refine next () hk trivial)
   ·have hk:k=s.AB.length:=by omega
    subst hk
    rw[TQ]
    exact Gc.Jg (s':=B9 s fr to) (i:=5) (j:=6) rfl rfl (λs' e=>by injection e with e;subst e;exact h') (by decide) (by simp[AH.plain,Ah]) Cb.symm Cn.symm ⟨rfl,rfl,rfl⟩ rfl
theorem RY:J5 87 (λ_ c=>c.op=2\/c.op=3\/c.op=4) A5:=by
 intro H K s th c oS oT oA oB fS fT rS rT fA fB rA rB hi hcg hop hS hT hA hB h h'
 rcases hop with e|e|e
 ·exact RZ hi hcg (.inl e) hS hT hA hB h h'
 ·exact RZ hi hcg (.inr e) hS hT hA hB h h'
 ·exact Zo hi hcg e hS hT hA hB h h'
end
end Go.Proofs.YtlaipllgmddkiaaGreat.Ax
namespace Go.Ax.M
open Go Go.Ax
theorem aD.down{s:State}{k:Nat}{i:Int}(h:aD s k i):i=(s.slot k).up\/(0<=(s.slot k).up/\aD s (s.slot k).up.toNat i):=by
 induction h with
 |one=>exact .inl rfl
 |more _ h0 ih=>
  rcases ih with rfl|⟨a,b⟩
  ·exact .inr ⟨h0,.one⟩
  ·exact .inr ⟨a,.more b h0⟩
def pP(s:State)(n x:Int):Prop:=∃k:Nat,x=k/\k<s.AE.length/\s.B8 k/\aD s k n
theorem sA{s:State}{i x:Int}(h:x∈GV (As s) i)(hi:0<=i):∃k:Nat,x=k/\k<s.AE.length/\s.B8 k/\(s.slot k).up=i:=by
 obtain⟨x0,x1,x2⟩:=H6.1 h
 have hl:(As s).length=s.AE.length:=by simp[As]
 rw[hl]at x1
 rw[WM (by omega)]at x2
 refine⟨x.toNat,by omega,by omega,?_⟩
 split at x2
 ·omega
 ·rename_i hn;exact⟨by simpa [State.B8] using hn,x2⟩
theorem sT{s:State}:∀(m:Nat) {l:List Int} {n x:Int},(∀y∈l,pP s n y)->x∈bh (As s) m l->pP s n x
 |0,_,_,_,_,h=>by simp[bh]at h
 |m+1,l,n,x,hl,h=>by
  simp only[bh,List.mem_flatMap]at h
  obtain⟨i,hi,h⟩:=h
  rcases List.mem_cons.1 h with rfl|h
  ·exact hl _ hi
  ·refine sT m (λy hy=> ?_) h
   obtain⟨k,rfl,_,_,k3⟩:=hl i hi
   obtain⟨j,rfl,j1,j2,j3⟩:=sA hy (by omega)
   refine⟨j,rfl,j1,j2,?_⟩
   have:aD s j (k:Int):=by rw[<-j3];exact .one
   exact this.trans (by omega) (by rw[Qq];exact k3)
theorem rq{s:State}(h:Inv s){n:Int}(hm:GU (As s) n=true){x:Int}:x∈CP (As s) n↔pP s n x:=by
 have hm':=hm
 simp only[GU,Qg]at hm'
 obtain⟨hg,hs⟩:=hm'
 have KD:0<=n:=by simp[E0]at hs;omega
 have hends:∀k:Nat,k<(As s).length->CH (As s) ((As s).length+1) (k:Int)=true:=λk hk=>by
  simp only[Cm,Qg]at hg
  exact List.all_eq_true.1 hg.2.2 k (List.mem_range.2 hk)
 have hd:Deep (As s) ((As s).length+2) (GV (As s) n):=by
  refine Ts hends _ 0 _ (by omega) λi hi=> ?_
  obtain⟨i0,i1,i2⟩:=H6.1 hi
  have:E0 (As s) i=true:=by simp[E0];exact⟨i0,i1,by rw[<-List.getD_eq_getElem?_getD,i2];omega⟩
  exact⟨this,by simp[CH,this]⟩
 simp only[CP,hm,cond_true,F6,List.mem_mergeSort]
 constructor
 ·refine sT _ λy hy=> ?_
  obtain⟨k,rfl,a,b,c⟩:=sA hy KD
  exact⟨k,rfl,a,b,c▸ .one⟩
 ·rintro⟨k,rfl,a,b,c⟩;exact aO hd (Yp h KD a b c)
theorem rW{s:State}(l:List Int)(k:Nat):(l.foldl (pB s) (Qd s.AE.length false)).getD k false=true↔∃x∈l,CC s x=true/\x.toNat=k:=by
 have m:=p6 (s:=s) (l:=l)
 refine⟨λh=> ?_,fun⟨x,hx,hb,e⟩=>e▸m.tD x hx hb⟩
 -- (the least one: those of the list, and what goes with them, never marked yet)
 have key:∀(q:List Int) (g:List Bool),(q.foldl (pB s) g).getD k false=true->g.getD k false=true\/∃x∈q,CC s x=true/\x.toNat=k:=by
  intro q
  induction q with
  |nil=>exact λg h=> .inl h
  |cons y q ih=>
   intro g h
   rcases ih _ h with h|⟨x,hx,r⟩
   ·rw[pB]at h
    cases hb:CC s y with
    |false=>rw[hb]at h;exact .inl h
    |true=>
     rw[hb,cond_true]at h
     by_cases e:k=y.toNat
     ·exact .inr ⟨y,QM,hb,e.symm⟩
     ·left;simp only[Qi,Qe (λh=>e h.symm)]at h ⊢;exact h
   ·exact .inr ⟨x,QI _ hx,r⟩
 rcases key l _ h with h|h
 ·simp[Qi,QD]at h;split at h<;>simp at h
 ·exact h
theorem rn{s:State}(h:Inv s)(o:Es s){l l':List Int}(e:∀x,x∈l↔x∈l'):DD s l=DD s l':=by
 rw[<-rK h o,<-rK h o]
 have:l.foldl (pB s) (Qd s.AE.length false)=l'.foldl (pB s) (Qd s.AE.length false):=by
  refine pn (d:=false) (by rw[p6.len,p6.len]) λk _=> ?_
  rw[Bool.eq_iff_iff,rW,rW]
  simp only[e]
 simp only[rE,po,this]
structure Met (s:State) (n:Int) (k:Nat) (l l2:List Int) (a:Int):Prop where
 Cd:∀x∈l,x∈l2
 new:∀x∈l2,x∈l\/(x=k/\s.B8 k/\aD s k n)
 rest:s.B8 k->aD s k n->(k:Int)∈l2\/a=n\/(0<=a/\aD s a.toNat n)
 here:0<=a->s.B8 k/\aD s k a
theorem Met.first{s:State}(h:Inv s){n:Int}{k:Nat}(hk:k<s.AE.length)(l:List Int):Met s n k l l ((As s).getD k 0):=by
 rw[WM hk]
 refine⟨λ_ h=>h,λ_ h=> .inl h,λhn g=> ?_,λh0=> ?_⟩
 ·rw[if_neg (by rw[show Aq (s.slot k).cap=false from hn];simp)]
  rcases g.down with e|e
  ·exact .inr (.inl e.symm)
  ·exact .inr (.inr e)
 ·split at h0
  ·omega
  ·rename_i hn;rw[if_neg hn];exact⟨by simpa [State.B8] using hn,.one⟩
theorem Met.up{s:State}(h:Inv s){n:Int}{k:Nat}(hk:k<s.AE.length){l l2:List Int}{a:Int}(m:Met s n k l l2 a)(h0:0<=a):(As s).getD a.toNat 0=(s.slot a.toNat).up:=by
 obtain⟨hn,g⟩:=m.here h0
 rcases YL h hk hn g with e|⟨_,h1,h2⟩
 ·omega
 ·rw[WM (by omega),if_neg (by rw[show Aq (s.slot a.toNat).cap=false from h2];simp)]
theorem Met.n5{s:State}(h:Inv s){n:Int}{k:Nat}(hk:k<s.AE.length){l l2:List Int}{a:Int}(m:Met s n k l l2 a)(h0:0<=a)(e:a=n):Met s n k l (l2++[(k:Int)]) ((As s).getD a.toNat 0):=by
 rw[m.up h hk h0]
 obtain⟨hn,g⟩:=m.here h0
 refine⟨λx hx=>List.mem_append_left _ (m.Cd x hx),λx hx=> ?_,λ_ _=> .inl (by simp),λ_=>⟨hn,.more g h0⟩⟩
 rcases List.mem_append.1 hx with hx|hx
 ·exact m.new x hx
 ·exact .inr ⟨List.mem_singleton.1 hx,hn,e▸g⟩
theorem Met.tR{s:State}(h:Inv s){n:Int}{k:Nat}(hk:k<s.AE.length){l l2:List Int}{a:Int}(m:Met s n k l l2 a)(h0:0<=a)(e:¬a=n):Met s n k l l2 ((As s).getD a.toNat 0):=by
 rw[m.up h hk h0]
 obtain⟨hn,g⟩:=m.here h0
 refine⟨m.Cd,m.new,λh1 h2=> ?_,λ_=>⟨hn,.more g h0⟩⟩
 rcases m.rest h1 h2 with r|r|⟨_,r⟩
 ·exact .inl r
 ·exact absurd r e
 ·rcases r.down with q|q
  ·exact .inr (.inl q.symm)
  ·exact .inr (.inr q)
theorem Met.end_{s:State}{n:Int}(KD:0<=n){k:Nat}(hk:k<s.AE.length){l l2:List Int}{a:Int}(m:Met s n k l l2 a)(h0:¬0<=a)(hl:∀x,x∈l↔pP s n x/\x<k):∀x,x∈l2↔pP s n x/\x<((k+1:Nat):Int):=by
 intro x
 constructor
 ·intro hx
  rcases m.new x hx with h|⟨rfl,a,b⟩
  ·have:=(hl x).1 h;exact⟨this.1,by omega⟩
  ·exact⟨⟨k,rfl,hk,a,b⟩,by omega⟩
 ·rintro⟨hb,hx⟩
  by_cases e:x=k
  ·subst e
   obtain⟨j,e,_,a,b⟩:=hb
   obtain rfl:k=j:=by omega
   rcases m.rest a b with r|r|r
   ·exact r
   ·omega
   ·omega
  ·exact m.Cd x ((hl x).2 ⟨hb,by omega⟩)
end Go.Ax.M
namespace Go.Proofs.YtlaipllgmddkiaaGreat.Ax
open Go Go.Ax Go.Ax.M
section
variable {H:AP}{K:AH->AP->Prop}{s:State}{oS oT:Nat}{fS fT rS rT:Bool}
theorem rO{o:Nat}{f r:Bool}{i:Int}{n:Nat}(hi:Inv s)(hn:s.AE.length=n)(hm:GU (As s) i=true)(ho:H[o]?=some (.AU 1 (ints (As s)) r))
 (h:∀l:List Int,l.length<=100000->(∀x,x∈l↔pP s i x)->K (.slice H.length l.length 0 l.length false) (H++[.AU 1 (ints l) false])):AF Qf 89 [.slice o n 0 n f,nS i] H K:=by
 have hul:(As s).length=s.AE.length:=A8
 have hm':=hm
 simp only[GU,Qg]at hm'
 obtain⟨hg,his⟩:=hm'
 rw[D7]at his
 have hi0:0<=i:=by omega
 have mf:=λk (hk:k<s.AE.length) (l:List Int)=>Met.first hi (n:=i) hk l
 have mh:=λk (hk:k<s.AE.length) (l l2:List Int) (a:Int)=>@Met.n5 s hi i k hk l l2 a
 have mm:=λk (hk:k<s.AE.length) (l l2:List Int) (a:Int)=>@Met.tR s hi i k hk l l2 a
 have me:=λk (hk:k<s.AE.length) (l l2:List Int) (a:Int)=>@Met.end_ s i hi0 k hk l l2 a
 generalize hup:As s=up at*
 rw[<-hul]at hn
 subst hn
 have kOH:=AL.of ho
 have hlen:=Lv hg
 have hcl:=λk n a=>@Md.step up hg k n a
 rw[<-hul]at mf mh mm me
 have hb0:∀x,x∈([]:List Int)↔pP s i x/\x<((0:Nat):Int):=λx=>⟨λh=>by simp at h,fun⟨⟨k,e,_⟩,h⟩=>by omega⟩
 have hbN:∀l:List Int,(∀x,x∈l↔pP s i x/\x<((up.length:Nat):Int))->∀x,x∈l↔pP s i x:=λl hl x=>(hl x).trans ⟨λh=>h.1,λh=>⟨h,by obtain⟨k,e,hk,_⟩:=h;omega⟩⟩
 have hmm:GU up i=true:=hm
 refine AF.gc ?_
 clear hul his
 refine Aa ok89 ?_;repeat' first|simp only[*,go_sem]|refine orR ?_|(refine sp ?_ ?_<;>intro hc)|fail
 refine AK.Az [5,6,0,1] ?_;simp only[mpC,go_sem]
 refine AK.lay 1 ?_
 refine AK.acc (λk (a:List Int×List Au)=>[(5,.slice H.length a.1.length 0 a.1.length false),(6,nS (k:Int))]) (λk a=>H++ .AU 1 (ints a.1) false::a.2) (λk a=>a.1.length<=k* 100/\Hid (∀x,x∈a.1↔pP s i x/\x<(k:Int))) up.length ?_ (a0:=([],[])) ⟨by simp,hb0⟩
 rintro k ⟨l,G⟩ hk ⟨hll,hmem⟩ next
 simp only at hll hmem
 refine AK.Jn λW hW=> ?_
 have kO:=kOH.ex hW.ex
 have ko:=hW.EQ
 have kO0:=kO.at
 have ko0:=ko.at
 refine AK.unfold ?_
 have hw:=AY (k:=k) (by omega)
 have hgk:k<up.length->_:=λh=>Bt (l:=up) h
 have hfi:E0 up i=true:=by simp only[GU,Qg]at hmm;exact hmm.2
 have mf':Hid (∀k,k<up.length->∀l,Met s i k l l (up.getD k 0)):=mf
 have mh':Hid (∀k,k<up.length->∀(l l2:List Int) (a:Int),Met s i k l l2 a->0<=a->a=i->Met s i k l (l2++[(k:Int)]) (up.getD a.toNat 0)):=mh
 have mm':Hid (∀k,k<up.length->∀(l l2:List Int) (a:Int),Met s i k l l2 a->0<=a->¬a=i->Met s i k l l2 (up.getD a.toNat 0)):=mm
 have me':Hid (∀k,k<up.length->∀(l l2:List Int) (a:Int),Met s i k l l2 a->¬0<=a->(∀x,x∈l↔pP s i x/\x<k)->∀x,x∈l2↔pP s i x/\x<((k+1:Nat):Int)):=me
 have hbN':Hid (∀l:List Int,(∀x,x∈l↔pP s i x/\x<((up.length:Nat):Int))->∀x,x∈l↔pP s i x):=hbN
 clear mf mh mm me hbN hb0
 repeat' first|simp only[*,AA b89_5.eq_1,AR,AX,apC,go_sem]|refine orR ?_|(refine sp ?_ ?_<;>intro hc)|refine OO rfl hg kO0 ?_
 case' refine_1=>
  have hk2:k<up.length:=by assumption
  have hW:W=_:=hW
  subst hW
  clear kO0 ko0 ko
  refine AK.Az [5,7,0,1,6] ?_;simp only[mpC,go_sem]
  refine AK.acc (λj (a:List Int×Int×List Au)=>[(5,.slice H.length a.1.length 0 a.1.length false),(7,nS a.2.1)]) (λj a=>H++ .AU 1 (ints a.1) false::a.2.2) (λj a=>a.1.length<=k* 100+j/\Md up k (j+1) a.2.1/\Hid (Met s i k l a.1 a.2.1)) (up.length+1) ?_ (a0:=(l,up.getD k 0,G)) ⟨by omega,by have:=(hcl k 0 k hk2 (.inl ⟨rfl,rfl⟩) (by omega)).2.2;simpa using this,mf' k hk2 l⟩
  rintro j ⟨l2,a,G2⟩ hj ⟨hl2,hc2,hmt⟩ next2
  simp only at hl2 hc2 hmt
  refine AK.Jn λW hW=> ?_
  have kO:=kOH.ex hW.ex
  have ko:=hW.EQ
  have kO0:=kO.at
  have ko0:=ko.at
  have kos:=ko.set
  have kOo:=kO.other (i:=H.length) (by have:=Am ho;omega)
  have hst:0<=a->_:=λh0=>hcl k (j+1) a hk2 hc2 h0
  have hgg:0<=a->(a<(up.length:Int))=True/\(ints up)[a.toNat]?=some [nS (up.getD a.toNat 0)]:=λh0=>⟨eq_true (hst h0).1,Bt (by have:=(hst h0).1;omega)⟩
  have hgi:(0<=i)=True/\(i<(up.length:Int))=True/\(ints up)[i.toNat]?=some [nS (up.getD i.toNat 0)]:=by
   rw[D7]at hfi;exact⟨eq_true hfi.1,eq_true hfi.2.1,Bt (by omega)⟩
  have hb:(l2.length+1)* 8<=140737488355328:=by omega
  clear hcl
  refine AK.unfold ?_
  repeat' first|simp only[*,AA b89_3.eq_1,AR,AX,apC,go_sem]|refine orR ?_|(refine sp ?_ ?_<;>intro hc)|fail
 case' refine_2=>
  have hW:W=_:=hW
  subst hW
  have hk3:k=up.length:=by omega
  subst hk3
  exact Gc.slice (i:=0) rfl Ca (h _ (by omega) (hbN' _ hmem))
 case' refine_1.refine_2=>
  have hW:W=_:=hW
  subst hW
  have hj2:=hc2.le
  (refine AK.Az [5,6,0,1] ?_;simp only[mpC,go_sem];refine next (l2,G2) ‹_› ⟨by simp only;omega,me' k hk2 l l2 a hmt ‹_› hmem⟩)
 case' refine_1.refine_1.refine_1=>
  have hW:W=_:=hW
  subst hW
  have q:=hst ‹_›
  have ea:a=i:=by assumption
  have mt:Met s i k l (l2++[(k:Int)]) (up.getD a.toNat 0):=mh' k hk2 l l2 a hmt ‹_› ea
  rw[ea]at q mt
  simp only[go_sem]
  have e:ints l2++[[nS (k:Int)]]=ints (l2++[(k:Int)]):=by rw[Dn];rfl
  rw[e]
  have n2:=next2 (l2++[(k:Int)],up.getD i.toNat 0,G2++[.AU 1 [[nS (k:Int)]] false]) (by omega) ⟨by simp only[Qc,QG];omega,q.2.2,mt⟩
  simp only[Qc,QG,go_sem]at n2
  (refine AK.Az [5,7,0,1,6] ?_;simp only[mpC,go_sem];refine n2)
 case' refine_1.refine_1.refine_2=>
  have hW:W=_:=hW
  subst hW
  have q:=hst ‹_›
  (refine AK.Az [5,7,0,1,6] ?_;simp only[mpC,go_sem];refine next2 (l2,_,_) (by omega) ⟨by simp only;omega,q.2.2,mm' k hk2 l l2 a hmt ‹_› ‹_›⟩)
end
end Go.Proofs.YtlaipllgmddkiaaGreat.Ax
namespace Go.Ax.M
open Go Go.Ax
theorem sD{s:State}(h:Inv s){k:Nat}(hk:k<s.AE.length)(e:(s.slot k).cap.ty=0):Aq (s.slot k).cap=true:=by
 have:=h.Ib k hk
 cases hn:Aq (s.slot k).cap with
 |true=>rfl
 |false=>obtain⟨a,b⟩:=h.E8 k hk hn;rw[e]at b;simp[BD,b]at a
theorem sH{s:State}{l:List Int}{g:List Bool}{k:Nat}(h:k<l.length):(l.take (k+1)).foldl (pB s) g=pB s ((l.take k).foldl (pB s) g) (l.getD k 0):=by
 rw[QO,List.foldl_append];simp[Qi,h]
theorem sc{s:State}{g:List Bool}{x:Int}(h0:0<=x)(h1:x<s.AE.length)(h2:¬(s.slot x.toNat).cap.ty=0):pB s g x=g.set x.toNat true:=by
 rw[pB,pJ.2 ⟨h0,h1,Uq h2⟩];rfl
theorem s4{s:State}(h:Inv s){g:List Bool}{x:Int}(hx:0<=x->x<s.AE.length->(s.slot x.toNat).cap.ty=0):pB s g x=g:=by
 have:CC s x=false:=by
  cases e:CC s x with
  |false=>rfl
  |true=>
   obtain⟨a,b,c⟩:=pJ.1 e
   have:=sD h (k:=x.toNat) (by omega) (hx a b)
   simp only[State.B8]at c;rw[this]at c;cases c
 rw[pB,this];rfl
theorem any_succ{l:List Int}{p:Int->Bool}{j:Nat}(h:j<l.length):(l.take (j+1)).any p=((l.take j).any p||p (l.getD j 0)):=by
 rw[QO,List.any_append];simp[Qi,h]
theorem rU{s:State}{p:List Bool×List Bool}{k:Nat}:pA s p (k+1)=pV s (pA s p k) k:=by rw[pA,fold_succ,<-pA]
theorem p8{s:State}{t:Nat}{g:List Bool}{k:Nat}:pD s t g (k+1)=bif pE s t k then(pD s t g k).set k true else pD s t g k:=by rw[pD,fold_succ,<-pD]
theorem sK{s:State}{t i:Nat}(h:Bx (s.AG t) i=true)(h2:¬(s.slot i).cap.ty=0):pE s t i=true:=by rw[pE,h,Uq h2];rfl
theorem sd{s:State}(hi:Inv s){t i:Nat}(hk:i<s.AE.length)(h:Bx (s.AG t) i=true->(s.slot i).cap.ty=0):pE s t i=false:=by
 rw[pE]
 cases e:Bx (s.AG t) i with
 |false=>rfl
 |true=>rw[sD hi hk (h e)];rfl
theorem sC{s:State}{g2 g3:List Bool}{t i:Nat}(hg:g3=bif Dp s g2 t then pD s t g2 i else g2)(hl:Dp s g2 t=true):(pE s t i=true->g3.set i true=bif Dp s g2 t then pD s t g2 (i+1)else g2)/\(pE s t i=false->g3=bif Dp s g2 t then pD s t g2 (i+1)else g2):=by
 rw[hl,cond_true]at hg ⊢
 subst hg
 exact⟨λh=>by rw[p8,h];rfl,λh=>by rw[p8,h];rfl⟩
theorem sO{s:State}{g2 q2 g3 q3:List Bool}{t i:Nat}(hg:g3=bif Dp s g2 t then pD s t g2 i else g2)(hq:q2.set t (Dp s g2 t)=q3)(h:i=s.AE.length\/Dp s g2 t=false):(g3,q3)=pV s (g2,q2) t:=by
 simp only[pV,<-hq,hg]
 rcases h with rfl|h
 ·rfl
 ·rw[h];rfl
theorem rJ{s:State}{g:List Bool}{k:Nat}:pN s g (k+1)=rI s g (pN s g k) k:=by rw[pN,fold_succ,<-pN]
theorem pq{s:State}{g q:List Bool}{k:Nat}:pU s g q (k+1)=rZ s g q (pU s g q k) k:=by rw[pU,fold_succ,<-pU]
theorem sV{s:State}{g:List Bool}{m:Nat}{a:Int}(h0:0<=a)(h:g.getD a.toNat false=true):pM s g (m+1) a=pM s g m (s.slot a.toNat).up:=by rw[pM,h,decide_eq_true h0];rfl
theorem sG{s:State}{g:List Bool}{m:Nat}{a:Int}(h:0<=a->g.getD a.toNat false=false):pM s g m a=a:=by
 cases m with
 |zero=>rfl
 |succ m=>
  rw[pM]
  by_cases h0:0<=a
  ·rw[h h0];simp
  ·simp[h0]
end Go.Ax.M
namespace Go.Proofs.YtlaipllgmddkiaaGreat.Ax
open Go Go.Ax Go.Ax.M
section
variable {H:AP}{K:AH->AP->Prop}{s:State}{oS oT:Nat}{fS fT rS rT:Bool}
set_option maxHeartbeats 4000000 in
theorem pt{l:List Int}{oL:Nat}{fL rL:Bool}(hi:Inv s)(hlL:l.length<=100000)(hS:nA H oS s rS)(hT:nB H oT s rT)(hL:H[oL]?=some (.AU 1 (ints l) rL))
 (h:K (.Bj [BT (rE s l).1 H.length (H.length+1) false false,nS (rE s l).2]) (H++[AM (rE s l).1,AJ (rE s l).1])):
 AF Qf 91 [stA s oS oT fS fT,.slice oL l.length 0 l.length fL] H K:=by
 have kSH:=AL.of hS
 have kTH:=AL.of hT
 have kLH:=AL.of hL
 have hlS:=hi.ok.lS
 have hlT:=hi.ok.lT
 have hb2:(s.AE.length:Int)<=9223372036854775807:=by omega
 have hb3:(s.AE.length:Int)<=140737488355328:=by omega
 have hb4:(s.AB.length:Int)<=9223372036854775807:=by omega
 have hb5:(s.AB.length:Int)<=140737488355328:=by omega
 refine AF.gc ?_
 refine Aa ok91 ?_;repeat' first|simp only[*,AX,Qr,QJ,Qm,go_sem]|refine orR ?_|(refine sp ?_ ?_<;>intro hc)|refine B3 hi (kSH _) (kTH _) ?_
 rw[<-Lu]
 refine AK.Az [7,1,2,4,6] ?_;simp only[mpC,go_sem]
 refine AK.acc (λk (g:List Bool)=>[(7,nS (k:Int))]) (λk g=>H++_::_:: .AU 1 (C6 g) false::[]) (λk g=>g.length=s.AE.length/\Hid (g=(l.take k).foldl (pB s) (Qd s.AE.length false))) l.length ?_ (a0:=Qd s.AE.length false) ⟨by simp,rfl⟩
 rintro k g hk ⟨hgl,hge⟩ next
 refine AK.unfold ?_
 have hw:=AY (k:=k) (by omega)
 have hgk:k<l.length->_:=λh=>Bt (l:=l) h
 have hgs:0<=l.getD k 0->l.getD k 0<(s.AE.length:Int)->_:=λh1 h2=>A4 (s:=s) (k:=(l.getD k 0).toNat) (by omega)
 have hgb:0<=l.getD k 0->l.getD k 0<(s.AE.length:Int)->(C6 g)[(l.getD k 0).toNat]?=some [.bool (g.getD (l.getD k 0).toNat false)]:=λh1 h2=>DJ (by omega)
 have hms:Hid (k<l.length->(l.take (k+1)).foldl (pB s) (Qd s.AE.length false)=pB s g (l.getD k 0)):=λh=>by rw[show g=_ from hge];exact sH h
 generalize l.getD k 0=x at*
 repeat' first|simp only[*,Ey,Qp,AA b91_3.eq_1,AR,AX,Qr,QJ,Qm,apC,go_sem]|refine orR ?_|(refine sp ?_ ?_<;>intro hc)|fail
 case' refine_1.refine_1.refine_1.refine_1=>
  (refine AK.Az [7,1,2,4,6] ?_;simp only[mpC,go_sem];refine next (g.set x.toNat true) ‹_› ⟨by rw[Qb];exact hgl,by rw[hms ‹_›,sc ‹_› ‹_› ‹_›];exact rfl⟩)
 case' refine_1.refine_1.refine_1.refine_2|refine_1.refine_1.refine_2|refine_1.refine_2=>
  (refine AK.Az [7,1,2,4,6] ?_;simp only[mpC,go_sem];refine next g ‹_› ⟨hgl,by rw[hms ‹_›,s4 hi (by omega)];exact rfl⟩)
 have hk1:k=l.length:=by omega
 have hge':Hid (g=l.foldl (pB s) (Qd s.AE.length false)):=by rw[hk1,QP]at hge;exact hge
 clear next hw hgk hgs hgb hms hge
 obtain⟨g0,hg0⟩:∃x,x=g:=⟨g,rfl⟩
 subst hg0
 rw[<-Lu]
 refine AK.Az [9,2,4,6,8] ?_;simp only[mpC,go_sem]
 refine AK.acc (λk (a:List Bool×List Bool×List Au)=>[(9,nS (k:Int))]) (λk a=>H++_::_:: .AU 1 (C6 a.1) false:: .AU 1 (C6 a.2.1) false::a.2.2) (λk a=>a.1.length=s.AE.length/\a.2.1.length=s.AB.length/\Hid ((a.1,a.2.1)=pH s (g0,Qd s.AB.length false) k)) (s.AB.length+1) ?_ (a0:=(g0,Qd s.AB.length false,[])) ⟨hgl,by simp,rfl⟩
 clear hgl
 rintro r ⟨g,q,G⟩ hr ⟨hgl,hql,hgq⟩ next
 simp only at hgl hql hgq
 refine AK.Jn λW hW=> ?_
 have kst:=hW.EQ
 have kst0:=kst.at
 refine AK.unfold ?_
 have hwr:=AY (k:=r) (by omega)
 have hle:((r:Int)<=(s.AB.length:Int))=(r<=s.AB.length):=propext ⟨by omega,by omega⟩
 repeat' first|simp only[*,AA b91_16.eq_1,AR,AX,apC,go_sem]|refine orR ?_|(refine sp ?_ ?_<;>intro hc)|fail
 case' refine_2.refine_1=>
  have hrl:r<s.AB.length+1:=by omega
  have hW:W=_:=hW
  subst hW
  clear kst kst0
  refine AK.Az [10,2,4,6,8,9] ?_;simp only[mpC,go_sem]
  refine AK.acc (λk (a:List Bool×List Bool×List Au)=>[(10,nS (k:Int))]) (λk a=>H++_::_:: .AU 1 (C6 a.1) false:: .AU 1 (C6 a.2.1) false::a.2.2) (λk a=>a.1.length=s.AE.length/\a.2.1.length=s.AB.length/\Hid ((a.1,a.2.1)=pA s (g,q) k)) s.AB.length ?_ (a0:=(g,q,G)) ⟨hgl,hql,rfl⟩
  rintro t ⟨g2,q2,G2⟩ ht ⟨hgl2,hql2,hgq2⟩ next2
  simp only at hgl2 hql2 hgq2
  refine AK.Jn λW hW=> ?_
  have kS:=kSH.ex hW.ex
  have kT:=kTH.ex hW.ex
  have kst:=hW.EQ
  have kg:=hW.Hy
  have kq:=hW.NS
  have kS0:=kS.at
  have kT0:=kT.at
  have kst0:=kst.at
  have kg0:=kg.at
  have kq0:=kq.at
  have kqs:=kq.set
  refine AK.unfold ?_
  have hwt:=AY (k:=t) (by omega)
  have hgt:t<s.AB.length->_:=λh=>BI (s:=s) (k:=t) h
  have hwth:IntKind.wrap .i64 (2+s.AS.AI)=2+s.AS.AI:=by have:=HQ hi.AS;exact w64 (by omega) (by omega)
  repeat' first|simp only[*,AA b91_14.eq_1,AR,AX,apC,go_sem]|refine orR ?_|(refine sp ?_ ?_<;>intro hc)|refine JM hi kS0 ?_|refine JM hi (kS _) ?_
 case' refine_2.refine_1.refine_2=>
  have hW:W=_:=hW
  subst hW
  (refine AK.Az [9,2,4,6,8] ?_;simp only[mpC,go_sem];refine next (g2,q2,G2) hrl ⟨hgl2,hql2,by rw[show t=s.AB.length by omega]at hgq2;exact hgq2.trans (by rw[pH,<-hgq])⟩)
 case' refine_2.refine_1.refine_1.refine_1.refine_1|refine_2.refine_1.refine_1.refine_1.refine_2|refine_2.refine_1.refine_1.refine_2=>
  have htl:t<s.AB.length:=by assumption
  have ko:AL (W++[.AU 1 (ints (BM s t)) false]) W.length _:=AL.of BH
  have kg:=kg.app [.AU 1 (ints (BM s t)) false]
  have kq:=kq.app [.AU 1 (ints (BM s t)) false]
  have kS:=kS.app [.AU 1 (ints (BM s t)) false]
  have kT:=kT.app [.AU 1 (ints (BM s t)) false]
  have kst:=kst.app [.AU 1 (ints (BM s t)) false]
  have hlh:=U4 (s:=s) (t:=t)
  have hih:=λj (h:j<(BM s t).length)=>WW h
  have hgi:=λj (h:j<(BM s t).length)=>Bt (l:=BM s t) h
  clear kS0 kT0 kst0 kg0 kq0
  refine AK.Az [14,13,2,4,6,8,9,10,12] ?_;simp only[mpC,go_sem]
  refine AK.acc (λj (lf:Bool)=>[(14,nS (j:Int)),(13,.bool lf)]) (λ_ _=>W++[.AU 1 (ints (BM s t)) false]) (λj lf=>Hid (lf=(Bc s t||decide ((s.AG t).ty=0)||((BM s t).take j).any λh=>!g2.getD h.toNat false))) (BM s t).length ?_ (a0:=_) ?_
  rotate_left
  ·show(_:Bool)=_
   simp[Bc, *]
  intro j lf hj hlf next3
  have kS0:=kS.at
  have kT0:=kT.at
  have kst0:=kst.at
  have kg0:=kg.at
  have kq0:=kq.at
  have ko0:=ko.at
  refine AK.unfold ?_
  have hwj:=AY (k:=j) (by omega)
  have hij:j<(BM s t).length->_:=hgi j
  have hib:j<(BM s t).length->(0<=(BM s t).getD j 0)=True/\((BM s t).getD j 0<(s.AE.length:Int))=True/\(C6 g2)[((BM s t).getD j 0).toNat]?=some [.bool (g2.getD ((BM s t).getD j 0).toNat false)]:=λh=>by
   have:=hih j h;exact⟨eq_true this.1,eq_true this.2,DJ (by omega)⟩
  have htt:(t<s.AB.length)=True:=eq_true htl
  have hqt:(C6 q2)[t]?=some [.bool (q2.getD t false)]:=DJ (by omega)
  clear hih hgi
  have hsx:Hid (j<(BM s t).length->(Bc s t||decide ((s.AG t).ty=0)||((BM s t).take (j+1)).any λh=>!g2.getD h.toNat false)=(lf||!g2.getD ((BM s t).getD j 0).toNat false)):=λh=>by rw[any_succ h,show lf=_ from hlf,QL,QL,QL]
  generalize (BM s t).getD j 0=x at*
  repeat' first|simp only[*,Ey,Qp,AA b91_5.eq_1,AR,AX,apC,go_sem]|refine orR ?_|(refine sp ?_ ?_<;>intro hc)|fail
  ·(refine AK.Az [14,13,2,4,6,8,9,10,12] ?_;simp only[mpC,go_sem];refine next3 _ ‹_› (by rw[hsx ‹_›];first|(rw[show lf=true by assumption];exact rfl)|(rw[show lf=false by assumption];exact rfl)))
  ·(refine AK.Az [14,13,2,4,6,8,9,10,12] ?_;simp only[mpC,go_sem];refine next3 _ ‹_› (by rw[hsx ‹_›];first|(rw[show lf=true by assumption];exact rfl)|(rw[show lf=false by assumption];exact rfl)))
  ·have hW:W=_:=hW
   subst hW
   clear kS kT kst kg kq ko kS0 kT0 kst0 kg0 kq0 ko0 kqs hij hib hqt hwj next3 htt
   simp only[go_sem]
   have hle:(!lf)=Dp s g2 t:=by rw[show lf=_ from hlf,show j=(BM s t).length by omega,QP];rfl
   simp only[hle]
   have hql3:(q2.set t (Dp s g2 t)).length=s.AB.length:=by rw[Qb];exact hql2
   have hqt3:(q2.set t (Dp s g2 t)).getD t false=Dp s g2 t:=by rw[pR (by omega),if_pos rfl]
   generalize hq3e:q2.set t (Dp s g2 t)=q3 at hqt3 hql3 ⊢
   have hq3:Hid (q2.set t (Dp s g2 t)=q3):=hq3e
   have hqt4:Hid (q3.getD t false=Dp s g2 t):=hqt3
   clear hqt3 hq3e hle
   refine AK.Az [15,2,4,6,8,9,10] ?_;simp only[mpC,go_sem]
   refine AK.acc (λi (a:List Bool×List Au)=>[(15,nS (i:Int))]) (λi a=>H++_::_:: .AU 1 (C6 a.1) false:: .AU 1 (C6 q3) false::a.2) (λi a=>a.1.length=s.AE.length/\Hid (a.1=bif Dp s g2 t then pD s t g2 i else g2)) s.AE.length ?_ (a0:=(g2,_)) ⟨hgl2,by show _=_;cases Dp s g2 t<;>rfl⟩
   rintro i ⟨g3,G3⟩ hil ⟨hgl3,hg3⟩ next3
   simp only at hgl3 hg3
   refine AK.Jn λW hW=> ?_
   have kS:=kSH.ex hW.ex
   have kT:=kTH.ex hW.ex
   have kst:=hW.EQ
   have kg:=hW.Hy
   have kq:=hW.NS
   have kS0:=kS.at
   have kT0:=kT.at
   have kst0:=kst.at
   have kg0:=kg.at
   have kq0:=kq.at
   have kgs:=kg.set
   refine AK.unfold ?_
   have hwi:=AY (k:=i) (by omega)
   have hgs:i<s.AE.length->_:=λh=>A4 (s:=s) (k:=i) h
   have htt:(t<s.AB.length)=True:=eq_true htl
   have hgt:=BI (s:=s) htl
   have hqt:(C6 q3)[t]?=some [.bool (q3.getD t false)]:=DJ (by omega)
   have hgi:i<s.AE.length->(C6 g3)[i]?=some [.bool (g3.getD i false)]:=λh=>DJ (by omega)
   repeat' first|simp only[*,Ey,Qp,AA b91_8.eq_1,AR,AX,apC,go_sem]|refine orR ?_|(refine sp ?_ ?_<;>intro hc)|refine TH (hi.BB _ htl) ?_
   all_goals
    have hW:W=_:=hW
    subst hW
    first
     |(
      try simp only[go_sem]
      (refine AK.Az [15,2,4,6,8,9,10] ?_;simp only[mpC,go_sem];refine next3 (g3.set i true,_) ‹_› ⟨by rw[Qb];exact hgl3,(sC hg3 (hqt4.symm.trans ‹_›)).1 (sK ‹_› ‹_›)⟩)
      done)
     |((refine AK.Az [15,2,4,6,8,9,10] ?_;simp only[mpC,go_sem];refine next3 (g3,_) ‹_› ⟨hgl3,(sC hg3 (hqt4.symm.trans ‹_›)).2 (sd hi ‹_› λh=>by first|assumption|(rw[show Bx (s.AG t) i=false by assumption]at h;cases h))⟩);done)
     |((refine AK.Az [10,2,4,6,8,9] ?_;simp only[mpC,go_sem];refine next2 (g3,q3,G3) htl ⟨hgl3,hql3,(sO hg3 hq3 (by first|exact .inl (by omega)|exact .inr (hqt4.symm.trans ‹_›))).trans (by rw[rU,<-hgq2])⟩);done)
 clear next hwr hle kst kst0 hb2 hb3 hb4 hb5
 have kS:=kSH.ex hW.ex
 have kT:=kTH.ex hW.ex
 have kst:=hW.EQ
 have kg:=hW.Hy
 have kq:=hW.NS
 have kr:=hW.Hx
 have kst0:=kst.at
 have kS0:=kS.at
 have kT0:=kT.at
 have hWx:Ex H W:=hW.ex
 clear hW
 repeat' first|simp only[*,BT,AM,AJ,Qa,AR,AX,apC,go_sem]|refine orR ?_|(refine sp ?_ ?_<;>intro hc)|refine Fi hi kS0 kT0 ?_
 clear kS0 kT0 kst0
 refine AK.Az [18,17,2,4,6,8,16] ?_;simp only[mpC,go_sem]
 refine AK.acc (λi (a:List Slot×Nat)=>[(18,nS (i:Int)),(17,nS (a.2:Int))]) (λi a=>W++ .AU 5 (a.1.map Slot.cells) false:: .AU 13 (s.AB.map AN.cells) false::[_]) (λi a=>a.1.length=s.AE.length/\a.2<=i/\Hid (a=pN s g i)) s.AE.length ?_ (a0:=(s.AE,0)) ⟨rfl,by simp,rfl⟩
 rintro i ⟨us,n⟩ hil ⟨hul,hni,hue⟩ next
 simp only at hul hni hue
 refine AK.unfold ?_
 have hwi:=AY (k:=i) (by omega)
 have hwn:=AY (k:=n) (by omega)
 have hgu:i<s.AE.length->_:=λh=>Rr (l:=us) (k:=i) (by omega)
 have hgs:i<s.AE.length->_:=λh=>A4 (s:=s) (k:=i) h
 have hgi:i<s.AE.length->(C6 g)[i]?=some [.bool (g.getD i false)]:=λh=>DJ (by omega)
 have hum:(us.map Slot.cells).length=s.AE.length:=by rw[Qs];exact hul
 repeat' first|simp only[*,AA b91_24.eq_1,AR,AX,Qb,apC,go_sem]|refine orR ?_|(refine sp ?_ ?_<;>intro hc)|fail
 case' refine_2.refine_2.refine_1.refine_1=>
  have e:(us.map Slot.cells).set i [nS 0,nS 0,nS 0,nS 0,nS (-1)]=(us.set i ⟨.zero,-1⟩).map Slot.cells:=by rw[Qh];rfl
  rw[e]
  (refine AK.Az [18,17,2,4,6,8,16] ?_;simp only[mpC,go_sem];refine next (us.set i ⟨.zero,-1⟩,n+1) ‹_› ⟨by rw[Qb];exact hul,by simp only;omega,by rw[rJ,<-hue,rI,show g.getD i false=true by assumption];exact rfl⟩)
 case' refine_2.refine_2.refine_1.refine_2=>
  have hil2:i<s.AE.length:=by assumption
  refine AK.Az [19,2,4,6,8,16,17,18] ?_;simp only[mpC,go_sem]
  refine AK.acc (λj (a:Int)=>[(19,nS a)]) (λ_ _=>W++ .AU 5 (us.map Slot.cells) false:: .AU 13 (s.AB.map AN.cells) false::[_]) (λj a=>Uh s i j a/\Hid (pM s g (s.AE.length+2) (s.slot i).up=pM s g (s.AE.length+2-j) a)) (s.AE.length+1) ?_ (a0:=(s.slot i).up) ⟨Uh.first hi hil2,rfl⟩
  rintro j a hj ⟨hua,hcl⟩ next2
  refine AK.unfold ?_
  have hst:0<=a->_:=λh0=>Uh.step hi hil2 hua h0
  have ha1:0<=a->(a<(s.AE.length:Int))=True:=λh0=>eq_true (hst h0).1
  have hag:0<=a->(C6 g)[a.toNat]?=some [.bool (g.getD a.toNat false)]:=λh0=>DJ (by have:=(hst h0).1;omega)
  have has:0<=a->_:=λh0=>A4 (s:=s) (k:=a.toNat) (by have:=(hst h0).1;omega)
  have hi0:(i<s.AE.length)=True:=eq_true hil2
  have hgu:=Rr (l:=us) (k:=i) (by omega)
  have hus:Hid ((us.getD i .zero).cap=(s.slot i).cap):=by have:=(rF (s:=s) (g:=g) i (by omega)).2 i;rw[<-hue,if_neg (by omega)]at this;exact congrArg Slot.cap this
  repeat' first|simp only[*,AA b91_20.eq_1,AR,AX,Qb,apC,go_sem]|refine orR ?_|(refine sp ?_ ?_<;>intro hc)|fail
  ·(refine AK.Az [19,2,4,6,8,16,17,18] ?_;simp only[mpC,go_sem];refine next2 _ (hst ‹_›).2.1 ⟨(hst ‹_›).2.2,by rw[show pM s g (s.AE.length+2) (s.slot i).up=_ from hcl,show s.AE.length+2-j=(s.AE.length+2-(j+1))+1 by omega,sV ‹_› ‹_›];exact rfl⟩)
  all_goals
   have e:(us.map Slot.cells).set i [nS (us.getD i .zero).cap.ty,nS (us.getD i .zero).cap.th,nS (us.getD i .zero).cap.ri,nS (us.getD i .zero).cap.ba,nS a]=(us.set i ⟨(us.getD i .zero).cap,a⟩).map Slot.cells:=by rw[Qh];rfl
   rw[e]
   (refine AK.Az [18,17,2,4,6,8,16] ?_;simp only[mpC,go_sem];refine next (us.set i ⟨(us.getD i .zero).cap,a⟩,n) hil2 ⟨by rw[Qb];exact hul,by simp only;omega,by rw[rJ,<-hue,rI,show g.getD i false=false by assumption,cond_false,show pM s g (s.AE.length+2) (s.slot i).up=_ from hcl,sG (λh=>by first|omega|assumption),<-hus];exact rfl⟩)
 clear next hwi hwn hgu hgs hgi
 refine AK.Az [20,4,6,8,16,17] ?_;simp only[mpC,go_sem]
 refine AK.acc (λt (ts:List AN)=>[(20,nS (t:Int))]) (λt ts=>W++ .AU 5 (us.map Slot.cells) false:: .AU 13 (ts.map AN.cells) false::[_]) (λt ts=>ts.length=s.AB.length/\(∀j,t<=j->j<s.AB.length->ts.getD j .zero=s.AG j)/\Hid (ts=pU s g q t)) s.AB.length ?_ (a0:=s.AB) ⟨rfl,λj _ _=>rfl,rfl⟩
 rintro t ts htl ⟨htl2,hsame,Jo⟩ next
 refine AK.unfold ?_
 have hwt:=AY (k:=t) (by omega)
 have hgt:t<s.AB.length->(ts.map AN.cells)[t]?=some [nS (s.AG t).ty,nS (s.AG t).bits,nS (s.AG t).base,nS (s.AG t).size,nS (s.AG t).used,nS (s.AG t).from_,nS (s.AG t).BF,.bool (s.AG t).full,nT (s.AG t).word,nT (s.AG t).d0,nT (s.AG t).d1,nT (s.AG t).d2,nT (s.AG t).d3]:=λh=>by
  rw[V0 (by omega),hsame t (Nat.le_refl _) h]
 have hqt:t<s.AB.length->(C6 q)[t]?=some [.bool (q.getD t false)]:=λh=>DJ (by omega)
 have krs:=kr.set
 have krf:=kr.FV
 have kr0:=kr.Eu
 have htm:(ts.map AN.cells).length=s.AB.length:=by rw[Qs];exact htl2
 have KC:t<s.AB.length->0<(s.AG t).from_->IntKind.wrap .i64 ((s.AG t).from_-1)=(s.AG t).from_-1/\(0<=(s.AG t).from_-1)=True/\((s.AG t).from_-1<(s.AE.length:Int))=True/\(C6 g)[((s.AG t).from_-1).toNat]?=some [.bool (g.getD ((s.AG t).from_-1).toNat false)]:=λh h0=>by
  have:=(hi.from_ t h h0).1
  exact⟨w64 (by omega) (by omega),eq_true (by omega),eq_true (by omega),DJ (by omega)⟩
 repeat' first|simp only[*,AA b91_29.eq_1,AR,AX,Qb,apC,go_sem]|refine orR ?_|(refine sp ?_ ?_<;>intro hc)|fail
 case' refine_2.refine_2.refine_2.refine_1.refine_1=>
  have e:(ts.map AN.cells).set t [nS 0,nS 0,nS 0,nS 0,nS 0,nS 0,nS 0,.bool false,nT 0,nT 0,nT 0,nT 0,nT 0]=(ts.set t .zero).map AN.cells:=by rw[Qh];rfl
  rw[e]
  (refine AK.Az [20,4,6,8,16,17] ?_;simp only[mpC,go_sem];refine next (ts.set t .zero) ‹_› ⟨by rw[Qb];exact htl2,λj h1 h2=>by rw[<-hsame j (by omega) h2];simp only[Qi,Qe (show t≠j by omega)],by rw[pq,<-Jo,rZ,show q.getD t false=true by assumption];exact rfl⟩)
 case' refine_2.refine_2.refine_2.refine_1.refine_2.refine_1.refine_1=>
  have e:(ts.map AN.cells).set t [nS (s.AG t).ty,nS (s.AG t).bits,nS (s.AG t).base,nS (s.AG t).size,nS (s.AG t).used,nS 0,nS (s.AG t).BF,.bool (s.AG t).full,nT (s.AG t).word,nT (s.AG t).d0,nT (s.AG t).d1,nT (s.AG t).d2,nT (s.AG t).d3]=(ts.set t {s.AG t with from_:=0}).map AN.cells:=by rw[Qh];rfl
  rw[e]
  (refine AK.Az [20,4,6,8,16,17] ?_;simp only[mpC,go_sem];refine next (ts.set t {s.AG t with from_:=0}) ‹_› ⟨by rw[Qb];exact htl2,λj h1 h2=>by rw[<-hsame j (by omega) h2];simp only[Qi,Qe (show t≠j by omega)],by rw[pq,<-Jo,rZ,show q.getD t false=false by assumption,show g.getD ((s.AG t).from_-1).toNat false=true by assumption,decide_eq_true ‹_›];exact rfl⟩)
 case' refine_2.refine_2.refine_2.refine_1.refine_2.refine_1.refine_2|refine_2.refine_2.refine_2.refine_1.refine_2.refine_2=>
  (refine AK.Az [20,4,6,8,16,17] ?_;simp only[mpC,go_sem];refine next ts ‹_› ⟨htl2,λj h1 h2=>hsame j (by omega) h2,by rw[pq,<-Jo,rZ,show q.getD t false=false by assumption];first|(rw[decide_eq_false ‹_›];exact rfl)|(rw[show g.getD ((s.AG t).from_-1).toNat false=false by assumption,Bool.and_false];exact rfl)⟩)
 have n5:i=s.AE.length/\t=s.AB.length/\r=s.AB.length+1:=by omega
 have e1:(us,n)=pN s (po s l).1 s.AE.length:=by rw[<-n5.1,po,<-hge',<-n5.2.2,<-hgq];exact hue
 have e2:ts=pU s (po s l).1 (po s l).2 s.AB.length:=by rw[<-n5.2.1,po,<-hge',<-n5.2.2,<-hgq];exact Jo
 have eR:rE s l=(⟨s.AS,us,ts⟩,(n:Int)):=by simp only[rE,<-e1,<-e2]
 rw[eR]at h
 have hh:=h
 clear krs krf kr0 kr kS kT kst kg kq next hsame hgt hqt KC
 obtain⟨L0,rfl⟩:=hWx
 generalize hX:Au.AU 5 [[nS s.AS.AI,nS s.AS.AE,nS s.AS.AB,.slice (H++L0).length s.AE.length 0 s.AE.length false,.slice ((H++L0).length+1) s.AB.length 0 s.AB.length false]] false=X
 rw[List.set_append_right _ _ (by omega),QC,Qc,<-hul,<-htl2]
 have h1:(L0.set (H.length+1-H.length) X++[Au.AU 5 (us.map Slot.cells) false,Au.AU 13 (ts.map AN.cells) false,X])[L0.length]?=some (AM ⟨s.AS,us,ts⟩):=by
  rw[QB (by rw[Qb];omega),Qb,QT];rfl
 have h2:(L0.set (H.length+1-H.length) X++[Au.AU 5 (us.map Slot.cells) false,Au.AU 13 (ts.map AN.cells) false,X])[L0.length+1]?=some (AJ ⟨s.AS,us,ts⟩):=by
  rw[QB (by rw[Qb];omega),Qb,show L0.length+1-L0.length=1 by omega];rfl
 exact Gc.stateT (s:=⟨s.AS,us,ts⟩) (i:=L0.length) (j:=L0.length+1) h1 h2 (by omega) (by simp[AH.plain]) hh
end
end Go.Proofs.YtlaipllgmddkiaaGreat.Ax
namespace Go.Ax.M
open Go Go.Ax
theorem sB{s:State}(hi:Inv s){th:Int}{p:List Int}(h:(AO s th p).2.2=0):GU (As s) (AO s th p).1=true:=by
 obtain⟨_,h0,h1,_,hn,_⟩:=Ek h
 have:=(bJ hi (i:=(AO s th p).1.toNat) (by omega) hn).1
 rw[Int.toNat_of_nonneg h0]at this
 rw[GU,this,hi.ok.Ii];rfl
theorem rH{s:State}(hi:Inv s){th:Int}{c:Call}(hb:AT c=false\/¬(0<=th/\th<s.AS.AI)):takeN s th c= .bad 1:=by
 cases hc:AT c with
 |false=>simp[takeN,hc]
 |true=>
  have hb:¬(0<=th/\th<s.AS.AI):=by
   rcases hb with a|a
   ·rw[hc]at a;cases a
   ·exact a
  have hw:=Pg (p:=c.a) hi (.inl hb)
  have e:(AO s th c.a).2.2=1:=by simp only[AO,hw];rfl
  simp only[takeN,hc,e]
  cases !decide (c.op=5)&&!decide (c.op=6)<;>rfl
theorem re{s:State}{th:Int}{c:Call}(h:c.op=5\/c.op=6)(hc:AT c=true)(he:¬(AO s th c.a).2.2=0):takeN s th c= .bad (AO s th c.a).2.2:=by
 rcases h with h|h<;>simp[takeN,hc,he,h]
theorem r5{s:State}(hi:Inv s)(o:Es s){th:Int}{c:Call}(h:c.op=5)(hc:AT c=true)(he:(AO s th c.a).2.2=0):takeN s th c=⟨0,0,(rE s [(AO s th c.a).1]).2,some (rE s [(AO s th c.a).1]).1⟩:=by
 rw[rK hi o];simp[takeN,hc,he,h]
theorem sQ{s:State}(hi:Inv s)(o:Es s){th:Int}{c:Call}(h:c.op=6)(hc:AT c=true)(he:(AO s th c.a).2.2=0){l:List Int}(hl:∀x,x∈l↔pP s (AO s th c.a).1 x)(hm:GU (As s) (AO s th c.a).1=true):takeN s th c=⟨0,0,(rE s l).2,some (rE s l).1⟩:=by
 rw[rK hi o,rn hi o (l:=l) (l':=CP (As s) (AO s th c.a).1) λx=>(hl x).trans (rq hi hm).symm];simp[takeN,hc,he,h]
end Go.Ax.M
namespace Go.Proofs.YtlaipllgmddkiaaGreat.Ax
open Go Go.Ax Go.Ax.M
section
variable {H:AP}{K:AH->AP->Prop}{s:State}{oS oT:Nat}{fS fT rS rT:Bool}
set_option maxHeartbeats 8000000 in
theorem s6{th x y w:Int}{a b:List Int}{oA oB:Nat}{fA fB rA rB:Bool}(hi:Inv s)(o:Es s)(hla:a.length<=100000)(hlb:b.length<=100000)
 (hS:nA H oS s rS) (hT:nB H oT s rT) (hA:H[oA]?=some (.AU 1 (ints a) rA)) (hB:H[oB]?=some (.AU 1 (ints b) rB))
 (h:(takeN s th ⟨5,a,b,x,y,w⟩).st=none->K (.Bj [stA s oS oT fS fT,(takeN s th ⟨5,a,b,x,y,w⟩).Ap]) H)
 (h':∀s',(takeN s th ⟨5,a,b,x,y,w⟩).st=some s'->K (.Bj [BT s' H.length (H.length+1) false false,(takeN s th ⟨5,a,b,x,y,w⟩).Ap]) (H++[AM s',AJ s'])):
 AF Qf 18 [stA s oS oT fS fT,nS th,.agg [nS 5,.slice oA a.length 0 a.length fA,.slice oB b.length 0 b.length fB,nS x,nS y,nT w]] H K:=by
 have kT:=AL.of hT
 have kS:=AL.of hS
 have kA:=AL.of hA
 have kB:=AL.of hB
 have iS:∀L:AP,oS<(H++L).length:=λL=>by have:=Am hS;rw[Qc];omega
 have iT:∀L:AP,oT<(H++L).length:=λL=>by have:=Am hT;rw[Qc];omega
 have hv:=fun(e n:Int)=>show(AH.Bj [stA s oS oT fS fT,.agg [nS e,nT 0,nS n]]).refs (λo=>o<H.length) by simp[AH.refs,Ay];exact⟨Am hS,Am hT⟩
 refine AF.gc ?_
 refine Aa ok18 ?_;repeat' first|simp only[*,BT,AM,AJ,Qa,CD.Ap,Bh.cells,go_sem]|apply orR|(apply sp<;>intro hc)|refine B3 hi (kS _) (kT _) ?_|refine CR (kA _) (kB _) hla hlb ?_|refine CS ?_ (iS _) (iT _)|refine EX hi (kA _) hla (kS _) (kT _) ?_|refine pt (l:=[(AO s th a).1]) hi (by simp) (kS _) (kT _) (by first|exact BH|exact Bb rfl) ?_
 all_goals first
  |(
   rw[rH hi (by first|exact .inl ‹_›|exact .inr (by omega))]at h
   exact Gc.Cd (hv _ _) (h rfl))
  |(
   rw[re (c:=⟨5,a,b,x,y,w⟩) (.inl rfl) ‹_› ‹_›]at h
   exact Gc.Cd (hv _ _) (h rfl))
  |(
   have eT:=r5 (c:=⟨5,a,b,x,y,w⟩) (th:=th) hi o rfl ‹_› ‹_›
   rw[eT]at h'
   exact Gc.stateT (i:=6) (j:=7) rfl rfl (by decide) (by simp[AH.plain,Ah]) (h' _ rfl))
  |trace_state
set_option maxHeartbeats 8000000 in
theorem s7{th x y w:Int}{a b:List Int}{oA oB:Nat}{fA fB rA rB:Bool}(hi:Inv s)(o:Es s)(hla:a.length<=100000)(hlb:b.length<=100000)
 (hS:nA H oS s rS) (hT:nB H oT s rT) (hA:H[oA]?=some (.AU 1 (ints a) rA)) (hB:H[oB]?=some (.AU 1 (ints b) rB))
 (h:(takeN s th ⟨6,a,b,x,y,w⟩).st=none->K (.Bj [stA s oS oT fS fT,(takeN s th ⟨6,a,b,x,y,w⟩).Ap]) H)
 (h':∀s',(takeN s th ⟨6,a,b,x,y,w⟩).st=some s'->K (.Bj [BT s' H.length (H.length+1) false false,(takeN s th ⟨6,a,b,x,y,w⟩).Ap]) (H++[AM s',AJ s'])):
 AF Qf 18 [stA s oS oT fS fT,nS th,.agg [nS 6,.slice oA a.length 0 a.length fA,.slice oB b.length 0 b.length fB,nS x,nS y,nT w]] H K:=by
 have kT:=AL.of hT
 have kS:=AL.of hS
 have kA:=AL.of hA
 have kB:=AL.of hB
 have iS:∀L:AP,oS<(H++L).length:=λL=>by have:=Am hS;rw[Qc];omega
 have iT:∀L:AP,oT<(H++L).length:=λL=>by have:=Am hT;rw[Qc];omega
 have hv:=fun(e n:Int)=>show(AH.Bj [stA s oS oT fS fT,.agg [nS e,nT 0,nS n]]).refs (λo=>o<H.length) by simp[AH.refs,Ay];exact⟨Am hS,Am hT⟩
 refine AF.gc ?_
 refine Aa ok18 ?_;repeat' first|simp only[*,BT,AM,AJ,Qa,CD.Ap,Bh.cells,go_sem]|apply orR|(apply sp<;>intro hc)|refine B3 hi (kS _) (kT _) ?_|refine CR (kA _) (kB _) hla hlb ?_|refine CS ?_ (iS _) (iT _)|refine EX hi (kA _) hla (kS _) (kT _) ?_|refine Pf hi (kS _) ?_|refine rO hi rfl (sB hi ‹_›) (by first|exact BH|exact Bb rfl) (λl hl hbl=> ?_)|refine pt hi ‹_› (kS _) (kT _) (by first|exact BH|exact Bb rfl) ?_
 all_goals first
  |(
   rw[rH hi (by first|exact .inl ‹_›|exact .inr (by omega))]at h
   exact Gc.Cd (hv _ _) (h rfl))
  |(
   rw[re (c:=⟨6,a,b,x,y,w⟩) (.inr rfl) ‹_› ‹_›]at h
   exact Gc.Cd (hv _ _) (h rfl))
  |(
   have eT:=sQ (c:=⟨6,a,b,x,y,w⟩) (th:=th) hi o rfl ‹_› ‹_› ‹_› (sB hi ‹_›)
   rw[eT]at h'
   exact Gc.stateT (i:=8) (j:=9) rfl rfl (by decide) (by simp[AH.plain,Ah]) (h' _ rfl))
  |trace_state
end
end Go.Proofs.YtlaipllgmddkiaaGreat.Ax
namespace Go.Ax.M
open Go Go.Ax
theorem sh{w:Int}(w0:0<=w){N:Nat}(hN:N=(w%16).toNat):(BJ (FG w N)=true/\w/2^(4*(N+1))=0->Ep w=FG w N/\Ep w≠[])/\(¬(BJ (FG w N)=true/\w/2^(4*(N+1))=0)->Ep w=[]):=by
 have hl:(FG w N).length=N:=by simp[FG]
 have h16:0<=w%16/\w%16<16:=by omega
 constructor
 ·rintro⟨h1,h2⟩
  have hn:1<=N/\N<=3:=by simp[BJ,hl]at h1;omega
  have e:F0 w=N:=by simp only[F0];omega
  have ep:C1 (FG w N)=w:=by
   rcases(by omega:N=1\/N=2\/N=3)with q|q|q<;>rw[q]at h2 ⊢<;>simp[FG,C1,MP,QF]at h2 ⊢<;>omega
  have:Ep w=FG w N:=by rw[Ep,e,h1,ep];simp
  exact⟨this,by rw[this];intro c;rw[c]at hl;simp at hl;omega⟩
 ·intro h
  by_cases hz:Ep w=[]
  ·exact hz
  ·exfalso
   obtain⟨a,b,c⟩:=gw hz
   have hp:(FG w (F0 w)).length=F0 w:=by simp[FG]
   rw[c]at a b
   have hn:1<=F0 w/\F0 w<=3:=by simp[BJ,hp]at a;omega
   have e:F0 w=N:=by
    have:w%16=F0 w:=by
     rw[C1,hp]at b
     omega
    omega
   refine h ⟨e▸a,?_⟩
   rw[e]at hn b
   have bd:∀i:Nat,0<=w/2^(4*(i+1))%16/\w/2^(4*(i+1))%16<16:=λi=>by omega
   rcases(by omega:N=1\/N=2\/N=3)with q|q|q<;>rw[q]at b ⊢<;>simp[FG,C1,MP,QF]at b ⊢<;>omega
theorem rv{p:List Int}{k:Nat}(h:k<p.length):MP (p.drop k)=p.getD k 0+16* MP (p.drop (k+1)):=by
 rw[List.drop_eq_getElem_cons h,MP];simp[Qi,h]
theorem sg{p:List Int}(h:∀x∈p,0<=x/\x<=15):0<=MP p/\MP p<16^p.length:=by
 induction p with
 |nil=>simp[MP]
 |cons a p ih=>
  obtain⟨a1,a2⟩:=ih λx hx=>h x (QI _ hx)
  have:=h a QM
  rw[MP,List.length_cons,Int.pow_succ];omega
theorem Gc.tU{H L:AP}{K:AH->AP->Prop}{i n s:Nat}{f ro:Bool}{xs:List (List AH)}{l:List AH}(hi:L[i]?=some (.AU s xs ro))(hp:∀x∈xs,∀a∈x,a.plain=true)(h:K (.Bj (.slice H.length n 0 n f::l)) (H++[.AU s xs ro]))(hl:∀a∈l,a.plain=true:=by simp[AH.plain,Ah]):
 Gc H K (.Bj (.slice (H.length+i) n 0 n f::l)) (H++L):=
 ⟨[i],L,[.AU s xs ro],_,rfl,Tf.one hi (.plain hp),⟨_,rfl,_,_,rfl,⟨H.length,rfl,.inr ⟨i,0,rfl,rfl,rfl⟩⟩,CY.refl (EF hl)⟩,h⟩
end Go.Ax.M
namespace Go.Proofs.YtlaipllgmddkiaaGreat.Ax
open Go Go.Ax Go.Ax.M
section
variable {H:AP}{K:AH->AP->Prop}
theorem rQ{p:List Int}{o n:Nat}{f r:Bool}(hn:p.length=n)(ho:H[o]?=some (.AU 1 (ints p) r))(hl:n<=100000)(h:K (.bool (BJ p)) H):AF Qf 158 [.slice o n 0 n f] H K:=by subst hn;exact Fj ho hl h
theorem pC{w:Int}(w0:0<=w)(w1:w<2^64)(h:Ep w=[]->K (.Bj [.lit (.slice none 0 0),.bool false]) H)
 (h':Ep w≠[]->K (.Bj [.slice H.length (Ep w).length 0 (Ep w).length false,.bool true]) (H++[.AU 1 (ints (Ep w)) false])):
 AF Qf 200 [nT w] H K:=by
 obtain⟨N,hN⟩:∃N,N=(w%16).toNat:=⟨_,rfl⟩
 obtain⟨pr1,pr2⟩:=sh w0 hN
 have a1:w.tmod 16=(N:Int):=by rw[Qk w0];omega
 have a2:w.tdiv 16=w/16:=Qj w0
 have a3:IntKind.wrap .u64 (w/16)=w/16:=HM (by omega) (by omega)
 have a4:IntKind.wrap .u64 (N:Int)=N:=HM (by omega) (by omega)
 have a5:IntKind.wrap .i64 (N:Int)=N:=w64 (by omega) (by omega)
 have hN15:N<=15:=by omega
 clear hN
 refine AF.gc ?_
 refine Aa ok200 ?_;repeat' first|simp only[*,go_sem]|refine orR ?_|(refine sp ?_ ?_<;>intro hc)|fail
 refine AK.Az [4,6,7,5] ?_;simp only[mpC,go_sem]
 refine AK.lay 1 ?_
 refine AK.heap (H':=H++ .AU 1 (ints (FG w 0)) false::[]) (by simp[FG,ints]) ?_
 refine AK.acc (λk (a:Int×List Au)=>[(4,.slice H.length k 0 k false),(6,nT a.1),(7,nS (k:Int))]) (λk a=>H++ .AU 1 (ints (FG w k)) false::a.2) (λk a=>Hid (a.1=w/2^(4*(k+1)))) N ?_ (a0:=(w/16,[])) (show w/16=w/2^(4*(0+1)) from rfl)
 rintro k ⟨v,G⟩ hk hv next
 simp only at hv
 have pr1:Hid (_->_):=pr1
 have pr2:Hid (_->_):=pr2
 refine AK.Jn λW hW=> ?_
 have ko:=hW.EQ
 have ko0:=ko.at
 have kos:=ko.set
 have hl:(ints (FG w k)).length=k:=by rw[LJ];simp[FG]
 have hl2:(FG w k).length=k:=by simp[FG]
 have hb:(k+1)* 8<=140737488355328:=by omega
 have hw:=AY (k:=k) (by omega)
 have v0:0<=v:=by rw[show v=_ from hv];exact Int.ediv_nonneg w0 (QU (QW (by omega)))
 have v1:v<2^64:=by rw[show v=_ from hv];exact Int.lt_of_le_of_lt (Int.ediv_le_self _ w0) w1
 have vn:Hid (v/16=w/2^(4*(k+1+1))):=by rw[show v=_ from hv];show _=_;rw[Int.ediv_ediv_of_nonneg (QU (QW (by omega))),show 4*(k+1+1)=4*(k+1)+4 by omega,Int.pow_add,show((2:Int)^4)=16 from rfl]
 have ed:Hid (ints (FG w (k+1))=ints (FG w k)++[[nS (v%16)]]):=by rw[show v=_ from hv];show _=_;simp[FG,QF,ints]
 have b1:v.tmod 16=v%16:=Qk v0
 have b2:v.tdiv 16=v/16:=Qj v0
 have b3:IntKind.wrap .u64 (v/16)=v/16:=HM (by omega) (by omega)
 have b4:IntKind.wrap .u64 (v%16)=v%16:=HM (by omega) (by omega)
 have b5:IntKind.wrap .i64 (v%16)=v%16:=w64 (by omega) (by omega)
 refine AK.unfold ?_
 repeat' first|simp only[*,AA b200_1.eq_1,AR,AX,apC,go_sem]|refine orR ?_|(refine sp ?_ ?_<;>intro hc)|refine rQ hl2 ko0 (by omega) ?_
 case' refine_1=>
  have hW:W=_:=hW
  subst hW
  rw[show ints (FG w (k+1))=_ from ed]at next
  simp only[go_sem]at next ⊢
  (refine AK.Az [4,6,7,5] ?_;simp only[mpC,go_sem];refine next (v/16,_) ‹_› vn)
 case' refine_2.refine_1.refine_1=>
  have hk3:k=N:=by omega
  have vk:v=_:=hv
  obtain⟨L0,hL0⟩:=hW.ex
  rw[hL0]
  exact Gc.Cd (by simp[AH.refs,Ay]) (h (pr2 λq=>(show ¬v=0 by assumption) (by rw[vk,hk3];exact q.2)))
 case' refine_2.refine_1.refine_2=>
  have hk3:k=N:=by omega
  have hW:W=_:=hW
  subst hW
  have vk:v=_:=hv
  obtain⟨p1,p2⟩:=pr1 ⟨by rw[<-hk3];assumption,by rw[<-hk3,<-vk];assumption⟩
  have h':=h' p2
  rw[p1,<-hk3,hl2]at h'
  exact Gc.tU (i:=0) rfl Ca h'
 case' refine_2.refine_2=>
  have hk3:k=N:=by omega
  have e:BJ (FG w k)=false:=by assumption
  obtain⟨L0,hL0⟩:=hW.ex
  rw[hL0]
  exact Gc.Cd (by simp[AH.refs,Ay]) (h (pr2 λq=>by rw[<-hk3,e]at q;exact absurd q.1 (by decide)))
theorem rD{p:List Int}{o:Nat}{f r:Bool}(ho:H[o]?=some (.AU 1 (ints p) r))(hl:p.length<=100000)(h:K (.Bj [nT (bif BJ p then C1 p else 0),.bool (BJ p)]) H):
 AF Qf 239 [.slice o p.length 0 p.length f] H K:=by
 have kO:=AL.of ho
 refine AF.tidy ?_
 cases hp:BJ p with
 |false=>
  rw[hp]at h
  refine Aa ok239 ?_;(try simp only[kO,hp,go_sem]);repeat' ((first|apply orR|(apply sp<;>intro hc)|refine Fj ho hl ?_)<;>try simp only[*,go_sem])
  exact⟨rfl,⟨[],by simp⟩,h⟩
 |true=>
  rw[hp]at h
  have hx:p.length<=3/\∀x∈p,0<=x/\x<=15:=by
   rcases KL hp with⟨a,rfl,q⟩|⟨a,b,rfl,q⟩|⟨a,b,c,rfl,q⟩<;>simp<;>omega
  refine Aa ok239 ?_;repeat' first|simp only[*,go_sem]|apply orR|(apply sp<;>intro hc)|refine Fj ho hl ?_
  refine AK.Az [4,5,0] ?_;simp only[mpC,go_sem]
  have hw1:IntKind.wrap .i64 ((p.length:Int)-1)=(p.length:Int)-1-((0:Nat):Int):=by rw[w64 (by omega) (by omega)];omega
  rw[hw1,show(0:Int)=MP (p.drop (p.length-0)) by rw[List.drop_of_length_le (by omega)];rfl]
  refine AK.acc (λk (_:Unit)=>[(4,nT (MP (p.drop (p.length-k)))),(5,nS ((p.length:Int)-1-(k:Int)))]) (λ_ _=>H) (λ_ _=>True) p.length ?_ (a0:=()) trivial
  intro k _ hk _ next
  refine AK.unfold ?_
  have hge:(0<=(p.length:Int)-1-(k:Int))=(k<p.length):=propext ⟨by omega,by omega⟩
  have hlt:k<p.length->((p.length:Int)-1-(k:Int)<(p.length:Int))=True/\(ints p)[((p.length:Int)-1-(k:Int)).toNat]?=some [nS (p.getD (p.length-(k+1)) 0)]:=λh=>by
   refine⟨eq_true (by omega),?_⟩
   rw[show((p.length:Int)-1-(k:Int)).toNat=p.length-(k+1) by omega];exact Bt (by omega)
  have hin:∀j:Nat,0<=MP (p.drop j)/\MP (p.drop j)<16^3:=λj=>by
   have:=sg (p:=p.drop j) λx hx'=>hx.2 x (List.mem_of_mem_drop hx')
   refine⟨this.1,Int.lt_of_lt_of_le this.2 ?_⟩
   rw[List.length_drop]
   have:p.length-j<=3:=by omega
   rcases(by omega:p.length-j=0\/p.length-j=1\/p.length-j=2\/p.length-j=3)with e|e|e|e<;>rw[e]<;>decide
  have hin0:=hin (p.length-k)
  have hx0:k<p.length->0<=p.getD (p.length-(k+1)) 0/\p.getD (p.length-(k+1)) 0<=15:=λh=>by
   refine hx.2 _ ?_
   simp[Qi,show p.length-(k+1)<p.length by omega]
  have m1:IntKind.wrap .u64 (MP (p.drop (p.length-k))* 16)=MP (p.drop (p.length-k))* 16:=HM (by omega) (by omega)
  have m2:k<p.length->IntKind.wrap .u64 (p.getD (p.length-(k+1)) 0)=p.getD (p.length-(k+1)) 0:=λh=>by have:=hx0 h;exact HM (by omega) (by omega)
  have m3:k<p.length->IntKind.wrap .u64 (MP (p.drop (p.length-k))* 16+p.getD (p.length-(k+1)) 0)=MP (p.drop (p.length-(k+1))):=λh=>by
   have:=hx0 h
   rw[HM (by omega) (by omega),rv (k:=p.length-(k+1)) (by omega),show p.length-(k+1)+1=p.length-k by omega];omega
  have m4:k<p.length->IntKind.wrap .i64 ((p.length:Int)-1-(k:Int)-1)=(p.length:Int)-1-((k+1:Nat):Int):=λh=>by rw[w64 (by omega) (by omega)];omega
  have m5:IntKind.wrap .u64 (p.length:Int)=p.length:=HM (by omega) (by omega)
  have m6:k=p.length->IntKind.wrap .u64 (MP (p.drop (p.length-k))* 16+(p.length:Int))=C1 p:=λh=>by
   rw[HM (by omega) (by omega),h,QT,List.drop_zero,C1];omega
  have hnk:¬k<p.length->k=p.length:=λh=>by omega
  clear hin hin0 hx0 hx
  repeat' first|simp only[*,AA b239_2.eq_1,apC,go_sem]|apply orR|(apply sp<;>intro hc)|fail
  ·(refine AK.Az [4,5,0] ?_;simp only[mpC,go_sem];refine next () ‹_› trivial)
  ·have:=m6 (hnk ‹_›)
   rw[this]
   exact⟨rfl,⟨[],by simp⟩,h⟩
theorem pK{op x y w:Int}{a b:List Int}{oA oB:Nat}{fA fB rA rB:Bool}(hA:H[oA]?=some (.AU 1 (ints a) rA))(hB:H[oB]?=some (.AU 1 (ints b) rB))(hla:a.length<=100000)(hlb:b.length<=100000)
 (h:AT ⟨op,a,b,x,y,w⟩=false->K (.lit (.slice none 0 0)) H)
 (h':AT ⟨op,a,b,x,y,w⟩=true->K (.slice H.length 4 0 4 true) (H++[.AU 1 (Cc (K0 ⟨op,a,b,x,y,w⟩)) false])):
 AF Qf 201 [.agg [nS op,.slice oA a.length 0 a.length fA,.slice oB b.length 0 b.length fB,nS x,nS y,nT w]] H K:=by
 have kA:=AL.of hA
 have kB:=AL.of hB
 refine AF.gc ?_
 cases hg:AT ⟨op,a,b,x,y,w⟩with
 |false=>
  have h:=h hg
  clear h'
  refine Aa ok201 ?_;(try simp only[kA,kB,hg,go_sem]);repeat' ((first|apply orR|(apply sp<;>intro hc)|refine CR (kA _) (kB _) hla hlb ?_)<;>try simp only[*,go_sem])
  exact Gc.Cd (by simp[AH.refs]) h
 |true=>
  have h':=h' hg
  have hi:=JF hg
  simp only at hi
  have pa:(bif BJ a then C1 a else 0)=C1 a:=Yc (.inr hi.2.2.2.2.2.2.1)
  have pb:(bif BJ b then C1 b else 0)=C1 b:=Yc hi.2.2.2.2.2.2.2
  have w1:IntKind.wrap .i64 (x* 256)=x* 256:=w64 (by omega) (by omega)
  have w2:IntKind.wrap .i64 (op+x* 256)=op+x* 256:=w64 (by omega) (by omega)
  have w3:IntKind.wrap .i64 (y* 256)=y* 256:=w64 (by omega) (by omega)
  have w4:IntKind.wrap .i64 (y* 256* 65536)=y* 256* 65536:=w64 (by omega) (by omega)
  have w5:IntKind.wrap .i64 (op+x* 256+y* 256* 65536)=op+x* 256+y* 256* 65536:=w64 (by omega) (by omega)
  have w6:IntKind.wrap .u64 (op+x* 256+y* 256* 65536)=op+x* 256+y* 16777216:=by rw[HM (by omega) (by omega)];omega
  clear hi h
  refine Aa ok201 ?_;repeat' first|simp only[*,go_sem]|apply orR|(apply sp<;>intro hc)|refine CR (kA _) (kB _) hla hlb ?_|refine rD (kA _) hla ?_|refine rD (kB _) hlb ?_
  have e:([[nT (op+x* 256+y* 16777216)],[nT (C1 a)],[nT (C1 b)],[nT w]]:List (List AH))=Cc (K0 ⟨op,a,b,x,y,w⟩):=rfl
  rw[e]
  exact Gc.slice (n:=4) (i:=1) rfl Ka h'
section
variable {oA oB:Nat}{fA fB rA rB:Bool}{op x y w:Int}{a b:List Int}
theorem rC(hA:H[oA]?=some (.AU 1 (ints a) rA))(hla:a.length<=100000)(hg:AT ⟨op,a,[],x,y,w⟩=true)
 (h:K (.slice H.length 4 0 4 true) (H++[.AU 1 (Cc (K0 ⟨op,a,[],x,y,w⟩)) false])):AF Qf 201 [.agg [nS op,.slice oA a.length 0 a.length fA,.lit (.slice none 0 0),nS x,nS y,nT w]] H K:=by
 refine AF.gc (AF.lay 1 ?_)
 simp only[Go.Ax.D9,Go.Ax.E9,go_sem]
 have kA:=AL.of hA
 refine pK (b:=[]) (oB:=H.length) (rB:=false) (kA _) BH hla (by simp) (λe=>by rw[hg]at e;cases e) λ_=> ?_
 rw[QC]
 have:=Gc.slice (H:=H) (L:=[.AU 1 [] false,.AU 1 (Cc (K0 ⟨op,a,[],x,y,w⟩)) false]) (K:=K) (i:=1) (n:=4) (f:=true) rfl Ka h
 simpa using this
theorem p5(hA:H[oA]?=some (.AU 1 (ints a) rA))(hla:a.length<=100000)(hg:AT ⟨op,a,[],x,y,w⟩=false)(h:K (.lit (.slice none 0 0)) H):
 AF Qf 201 [.agg [nS op,.slice oA a.length 0 a.length fA,.lit (.slice none 0 0),nS x,nS y,nT w]] H K:=by
 refine AF.gc (AF.lay 1 ?_)
 simp only[Go.Ax.D9,Go.Ax.E9,go_sem]
 have kA:=AL.of hA
 exact pK (b:=[]) (oB:=H.length) (rB:=false) (kA _) BH hla (by simp) (λ_=>Gc.Cd (by simp[AH.refs]) h) λe=>by rw[hg]at e;cases e
theorem p4(hB:H[oB]?=some (.AU 1 (ints b) rB))(hlb:b.length<=100000)(h:K (.lit (.slice none 0 0)) H):
 AF Qf 201 [.agg [nS op,.lit (.slice none 0 0),.slice oB b.length 0 b.length fB,nS x,nS y,nT w]] H K:=by
 refine AF.gc (AF.lay 1 ?_)
 simp only[Go.Ax.D9,Go.Ax.E9,go_sem]
 have kB:=AL.of hB
 exact pK (a:=[]) (oA:=H.length) (rA:=false) BH (kB _) (by simp) hlb (λ_=>Gc.Cd (by simp[AH.refs]) h) λe=>by rw[bH]at e;cases e
theorem pv(h:K (.lit (.slice none 0 0)) H):
 AF Qf 201 [.agg [nS op,.lit (.slice none 0 0),.lit (.slice none 0 0),nS x,nS y,nT w]] H K:=by
 refine AF.gc (AF.lay 1 ?_)
 simp only[Go.Ax.D9,Go.Ax.E9,go_sem]
 exact pK (a:=[]) (b:=[]) (oA:=H.length) (rA:=false) (oB:=H.length) (rB:=false) BH BH (by simp) (by simp) (λ_=>Gc.Cd (by simp[AH.refs]) h) λe=>by rw[bH]at e;cases e
end
set_option maxHeartbeats 4000000 in
theorem pr{l0 l1 l2 l3:Int}{oL nL iL jL sL:Nat}{xsL:List (List AH)}{csL:List AH}{rL:Bool}(hL:H[oL]?=some (.AU sL xsL rL))(hnL:xsL.length=nL)(hcL:xsL[iL]?=some csL)(heL:∀k,k<4->csL[jL+k]?=some (nT ([l0,l1,l2,l3].getD k 0)))(u0:0<=l0/\l0<2^64)(u1:0<=l1/\l1<2^64)(u2:0<=l2/\l2<2^64)(h:fI l0 l1 l2 l3=false->K (.Bj [Lq,.bool false]) H)
 (
  hn:fI l0 l1 l2 l3=true->(EP l0 l1 l2 l3).b=[]->K (.Bj [.agg [nS (EP l0 l1 l2 l3).op,.slice H.length (EP l0 l1 l2 l3).a.length 0 (EP l0 l1 l2 l3).a.length false,.lit (.slice none 0 0),nS (EP l0 l1 l2 l3).x,nS (EP l0 l1 l2 l3).y,nT (EP l0 l1 l2 l3).w],.bool true])
  (H++[.AU 1 (ints (EP l0 l1 l2 l3).a) false]))
 (
  h':fI l0 l1 l2 l3=true->(EP l0 l1 l2 l3).b≠[]->K (.Bj [.agg [nS (EP l0 l1 l2 l3).op,.slice H.length (EP l0 l1 l2 l3).a.length 0 (EP l0 l1 l2 l3).a.length false,.slice (H.length+1) (EP l0 l1 l2 l3).b.length 0 (EP l0 l1 l2 l3).b.length false,nS (EP l0 l1 l2 l3).x,nS (EP l0 l1 l2 l3).y,nT (EP l0 l1 l2 l3).w],.bool true])
  (H++[.AU 1 (ints (EP l0 l1 l2 l3).a) false,.AU 1 (ints (EP l0 l1 l2 l3).b) false])):
 AF Qf 132 [.Kl oL nL iL jL 4] H K:=by
 have kL:=AL.of hL
 have e0:csL[jL]?=some (nT l0):=heL 0 (by decide)
 have e1:csL[jL+1]?=some (nT l1):=heL 1 (by decide)
 have e2:csL[jL+2]?=some (nT l2):=heL 2 (by decide)
 have e3:csL[jL+3]?=some (nT l3):=heL 3 (by decide)
 have m1:l0.tmod 256=l0%256:=Qk u0.1
 have m2:l0.tdiv 256=l0/256:=Qj u0.1
 have m3:(l0/256).tmod 65536=l0/256%65536:=Qk (by omega)
 have m4:(l0/256).tdiv 65536=l0/16777216:=by rw[Qj (by omega)];omega
 have m5:(l0/16777216).tmod 65536=l0/16777216%65536:=Qk (by omega)
 have v1:IntKind.wrap .u64 (l0%256)=l0%256:=HM (by omega) (by omega)
 have v2:IntKind.wrap .u64 (l0/256)=l0/256:=HM (by omega) (by omega)
 have v3:IntKind.wrap .u64 (l0/256%65536)=l0/256%65536:=HM (by omega) (by omega)
 have v4:IntKind.wrap .u64 (l0/16777216)=l0/16777216:=HM (by omega) (by omega)
 have v5:IntKind.wrap .u64 (l0/16777216%65536)=l0/16777216%65536:=HM (by omega) (by omega)
 have w1:IntKind.wrap .i64 (l0%256)=l0%256:=w64 (by omega) (by omega)
 have w2:IntKind.wrap .i64 (l0/256%65536)=l0/256%65536:=w64 (by omega) (by omega)
 have w3:IntKind.wrap .i64 (l0/16777216%65536)=l0/16777216%65536:=w64 (by omega) (by omega)
 refine AF.gc ?_
 simp only[fI,EP]at h h' hn
 have hlen:(K0 ⟨l0%256,Ep l1,Ep l2,l0/256%65536,l0/16777216%65536,l3⟩).length=4:=rfl
 have la:∀v,(Ep v).length<=100000:=λv=>by
  by_cases e:Ep v=[]
  ·simp[e]
  ·have:=(gw e).1;simp[BJ]at this;omega
 cases hg:AT ⟨l0%256,Ep l1,Ep l2,l0/256%65536,l0/16777216%65536,l3⟩with
 |false=>
  have h:=h (by rw[hg];rfl)
  clear h' hn
  by_cases ha:Ep l1=[]
  ·by_cases hb:Ep l2=[]
   ·rw[ha,hb]at hg
    refine Aa ok132 ?_;(try simp only[kL,hnL,hcL,e0,e1,e2,e3,m1,m2,m3,m4,m5,v1,v2,v3,v4,v5,w1,w2,w3,mpC,go_sem]);repeat' ((first|apply orR|(apply sp<;>intro hc)|refine pC u1.1 u1.2 (λe=> ?_) (λ_=>absurd ha ‹_›)|refine pC u2.1 u2.2 (λe=> ?_) (λ_=>absurd hb ‹_›)|refine pv ?_)<;>try simp only[*,mpC,go_sem])
    exact Gc.Cd (by simp[Lq,AH.refs,Ay]) h
   ·rw[ha]at hg
    refine Aa ok132 ?_;(try simp only[kL,hnL,hcL,e0,e1,e2,e3,m1,m2,m3,m4,m5,v1,v2,v3,v4,v5,w1,w2,w3,mpC,go_sem]);repeat' ((first|apply orR|(apply sp<;>intro hc)|refine pC u1.1 u1.2 (λe=> ?_) (λ_=>absurd ha ‹_›)|refine pC u2.1 u2.2 (λe=>absurd e hb) (λ_=> ?_)|refine p4 (b:=Ep l2) (by first|exact BH|exact Bb rfl) (la _) ?_)<;>try simp only[*,mpC,go_sem])
    exact Gc.Cd (by simp[Lq,AH.refs,Ay]) h
  ·by_cases hb:Ep l2=[]
   ·rw[hb]at hg
    refine Aa ok132 ?_;(try simp only[kL,hnL,hcL,e0,e1,e2,e3,m1,m2,m3,m4,m5,v1,v2,v3,v4,v5,w1,w2,w3,mpC,go_sem]);repeat' ((first|apply orR|(apply sp<;>intro hc)|refine pC u1.1 u1.2 (λe=>absurd e ha) (λ_=> ?_)|refine pC u2.1 u2.2 (λe=> ?_) (λ_=>absurd hb ‹_›)|refine p5 (a:=Ep l1) (by first|exact BH|exact Bb rfl) (la _) hg ?_)<;>try simp only[*,mpC,go_sem])
    exact Gc.Cd (by simp[Lq,AH.refs,Ay]) h
   ·skip
    refine Aa ok132 ?_;(try simp only[kL,hnL,hcL,e0,e1,e2,e3,m1,m2,m3,m4,m5,v1,v2,v3,v4,v5,w1,w2,w3,mpC,go_sem]);repeat' ((first|apply orR|(apply sp<;>intro hc)|refine pC u1.1 u1.2 (λe=>absurd e ha) (λ_=> ?_)|refine pC u2.1 u2.2 (λe=>absurd e hb) (λ_=> ?_)|refine pK (a:=Ep l1) (b:=Ep l2) (by first|exact BH|exact Bb rfl) (by first|exact BH|exact Bb rfl) (la _) (la _) (λ_=> ?_) (λe=>absurd (hg.symm.trans e) (by decide)))<;>try simp only[*,mpC,go_sem])
    exact Gc.Cd (by simp[Lq,AH.refs,Ay]) h
 |true=>
  have ha:¬Ep l1=[]:=λe=>by rw[e,bH]at hg;cases hg
  simp only[hg,QS]at h h' hn
  by_cases hb:Ep l2=[]
  ·clear h'
   simp only[hb]at hg h hn hlen
   refine Aa ok132 ?_;repeat' first|simp only[*,mpC,go_sem]|apply orR|(apply sp<;>intro hc)|refine pC u1.1 u1.2 (λe=>absurd e ha) (λ_=> ?_)|refine pC u2.1 u2.2 (λe=> ?_) (λ_=>absurd hb ‹_›)|refine rC (a:=Ep l1) (by first|exact BH|exact Bb rfl) (la _) hg ?_
   refine AK.Az [6,0,2,4,5] ?_;simp only[mpC,go_sem]
   have hlsl:[l0,l1,l2,l3].length=4:=rfl
   generalize K0 _=cw at h hn hlen ⊢
   generalize [l0,l1,l2,l3]=ls at heL hn h hlsl
   have hlsl:Hid (ls.length=4):=hlsl
   clear e0 e1 e2 e3 m1 m2 m3 m4 m5 v1 v2 v3 v4 v5 w1 w2 w3 la
   refine AK.acc (λk (_:Unit)=>[(6,nS (k:Int))]) (λ_ _=>H++[_,_,_,_]) (λk _=>Hid (∀j,j<k->cw.getD j 0=ls.getD j 0)) 4 ?_ (a0:=()) (λj h=>absurd h (by omega))
   intro k _ hk hI next
   refine AK.Jn λW hW=> ?_
   have kL':=kL.ex hW.ex
   have kw:=hW.NS
   have kr:=hW.EQ
   have kc:=hW.Hx
   refine AK.unfold ?_
   have kL0:=kL'.at
   have kw0:=kw.at
   have kr0:=kr.at
   have kc0:=kc.at
   have hwk:=AY (k:=k) (by omega)
   have hk4:((k:Int)<4)=(k<4):=propext ⟨by omega,by omega⟩
   have hcw:k<4->(Cc cw)[k]?=some [nT (cw.getD k 0)]:=λh=>M0 (by omega)
   have hce:k<4->csL[jL+k]?=some (nT (ls.getD k 0)):=heL k
   have heL':Hid (∀k,k<4->csL[jL+k]?=some (nT (ls.getD k 0))):=heL
   clear heL
   repeat' first|simp only[*,AX,AA b132_4.eq_1,apC,go_sem]|apply orR|(apply sp<;>intro hc)|fail
   ·have hW:W=_:=hW
    subst hW
    simp only[go_sem]
    exact Gc.Cd (by simp[Lq,AH.refs,Ay]) (h (decide_eq_false λe=>absurd (by rw[e]) (show ¬cw.getD k 0=ls.getD k 0 by assumption)))
   ·have hW:W=_:=hW
    subst hW
    have hI2:∀j,j<k->cw.getD j 0=ls.getD j 0:=hI
    (refine AK.Az [6,0,2,4,5] ?_;simp only[mpC,go_sem];refine next () ‹_› (λj hj=>if e:j=k then by rw[e];assumption else hI2 j (by omega)))
   ·have hW:W=_:=hW
    subst hW
    simp only[go_sem]
    have hI2:∀j,j<k->cw.getD j 0=ls.getD j 0:=hI
    have hk4':k=4:=by omega
    have e:cw=ls:=pn (d:=0) (hlen.trans (show ls.length=4 from hlsl).symm) λj hj=>hI2 j (by omega)
    exact Gc.iV (i:=2) rfl (hn (decide_eq_true e) trivial)
  ·clear hn
   refine Aa ok132 ?_;repeat' first|simp only[*,mpC,go_sem]|apply orR|(apply sp<;>intro hc)|refine pC u1.1 u1.2 (λe=>absurd e ha) (λ_=> ?_)|refine pC u2.1 u2.2 (λe=>absurd e hb) (λ_=> ?_)|refine pK (a:=Ep l1) (b:=Ep l2) (by first|exact BH|exact Bb rfl) (by first|exact BH|exact Bb rfl) (la _) (la _) (λe=>absurd (hg.symm.trans e) (by decide)) (λ_=> ?_)
   refine AK.Az [6,0,2,4,5] ?_;simp only[mpC,go_sem]
   have hlsl:[l0,l1,l2,l3].length=4:=rfl
   have h0:=h
   have h0':=h'
   clear h h'
   obtain⟨h,h'⟩:(∀cw,cw=K0 ⟨l0%256,Ep l1,Ep l2,l0/256%65536,l0/16777216%65536,l3⟩->decide (cw=[l0,l1,l2,l3])=false->K (.Bj [Lq,.bool false]) H)/\∀cw,cw=K0 ⟨l0%256,Ep l1,Ep l2,l0/256%65536,l0/16777216%65536,l3⟩->decide (cw=[l0,l1,l2,l3])=true->_:=⟨λcw e=>by rw[e];exact h0,λcw e=>by rw[e];exact λq=>h0' q hb⟩
   clear h0 h0'
   generalize hcwe:K0 ⟨l0%256,Ep l1,Ep l2,l0/256%65536,l0/16777216%65536,l3⟩=cw at hlen ⊢
   have h:=h cw hcwe.symm
   have h':=h' cw hcwe.symm
   clear hcwe
   generalize [l0,l1,l2,l3]=ls at heL h' h hlsl
   have hlsl:Hid (ls.length=4):=hlsl
   clear e0 e1 e2 e3 m1 m2 m3 m4 m5 v1 v2 v3 v4 v5 w1 w2 w3 la
   refine AK.acc (λk (_:Unit)=>[(6,nS (k:Int))]) (λ_ _=>H++[_,_,_,_,_]) (λk _=>Hid (∀j,j<k->cw.getD j 0=ls.getD j 0)) 4 ?_ (a0:=()) (λj h=>absurd h (by omega))
   intro k _ hk hI next
   refine AK.Jn λW hW=> ?_
   have kL':=kL.ex hW.ex
   have kw:=hW.n6
   have kr:=hW.EQ
   have kc:=hW.Hx
   refine AK.unfold ?_
   have kL0:=kL'.at
   have kw0:=kw.at
   have kr0:=kr.at
   have kc0:=kc.at
   have hwk:=AY (k:=k) (by omega)
   have hk4:((k:Int)<4)=(k<4):=propext ⟨by omega,by omega⟩
   have hcw:k<4->(Cc cw)[k]?=some [nT (cw.getD k 0)]:=λh=>M0 (by omega)
   have hce:k<4->csL[jL+k]?=some (nT (ls.getD k 0)):=heL k
   have heL':Hid (∀k,k<4->csL[jL+k]?=some (nT (ls.getD k 0))):=heL
   clear heL
   repeat' first|simp only[*,AX,AA b132_4.eq_1,apC,go_sem]|apply orR|(apply sp<;>intro hc)|fail
   ·have hW:W=_:=hW
    subst hW
    simp only[go_sem]
    exact Gc.Cd (by simp[Lq,AH.refs,Ay]) (h (decide_eq_false λe=>absurd (by rw[e]) (show ¬cw.getD k 0=ls.getD k 0 by assumption)))
   ·have hW:W=_:=hW
    subst hW
    have hI2:∀j,j<k->cw.getD j 0=ls.getD j 0:=hI
    (refine AK.Az [6,0,2,4,5] ?_;simp only[mpC,go_sem];refine next () ‹_› (λj hj=>if e:j=k then by rw[e];assumption else hI2 j (by omega)))
   ·have hW:W=_:=hW
    subst hW
    simp only[go_sem]
    have hI2:∀j,j<k->cw.getD j 0=ls.getD j 0:=hI
    have hk4':k=4:=by omega
    have e:cw=ls:=pn (d:=0) (hlen.trans (show ls.length=4 from hlsl).symm) λj hj=>hI2 j (by omega)
    exact Gc.call2 (i:=2) (j:=3) rfl rfl (by decide) (h' (decide_eq_true e))
end
end Go.Proofs.YtlaipllgmddkiaaGreat.Ax
namespace Go.Ax.M
open Go Go.Ax
def I7(s:State)(th:Int)(c:Call):CD:=
 if c.op=1 then Be s th c else if c.op=2\/c.op=3\/c.op=4 then A5 s th c else if c.op=7\/c.op=8 then BC s th c else if c.op=9\/c.op=10 then BG s th c else if c.op=11\/c.op=12\/c.op=13 then Bg s th c else .bad 1
theorem YQ{s:State}(hi:Inv s){th:Int}{c:Call}(hb:AT c=false\/¬(0<=th/\th<s.AS.AI)):I7 s th c= .bad 1:=by
 cases hc:AT c with
 |false=>
  unfold I7
  repeat' split
  all_goals first|rfl|simp only[Be,A5,BC,BG,Bg,hc,QQ,Bool.true_or,cond_true]
 |true=>
  have hb:¬(0<=th/\th<s.AS.AI):=by
   rcases hb with a|a
   ·rw[hc]at a;cases a
   ·exact a
  have hw:=Pg (p:=c.a) hi (.inl hb)
  have e:(AO s th c.a).2.2=1:=by simp only[AO,hw];rfl
  unfold I7
  repeat' split
  all_goals rename_i h
  all_goals first|rfl|skip
  ·simp[Be,hc,h,e]
  ·rcases h with h|h|h<;>simp[A5,hc,h,e]
  ·rcases h with h|h<;>simp[BC,hc,h,e]
  ·rcases h with h|h<;>simp[BG,hc,h,e]
  ·rcases h with h|h|h<;>simp[Bg,hc,h,e]
end Go.Ax.M
namespace Go.Proofs.YtlaipllgmddkiaaGreat.Ax
open Go Go.Ax Go.Ax.M
section
variable {H:AP}{K:AH->AP->Prop}{s:State}{oS oT:Nat}{fS fT rS rT:Bool}
set_option maxHeartbeats 8000000 in
theorem Wr{th op x y w:Int}{a b:List Int}{oA oB:Nat}{fA fB rA rB:Bool}(h56:¬(op=5\/op=6))(hi:Inv s)(hw64:∀k,k<s.AB.length->0<=(s.AG k).word/\(s.AG k).word<2^64)(hla:a.length<=100000)(hlb:b.length<=100000)
 (hS:nA H oS s rS) (hT:nB H oT s rT) (hA:H[oA]?=some (.AU 1 (ints a) rA)) (hB:H[oB]?=some (.AU 1 (ints b) rB))
 (h:(I7 s th ⟨op,a,b,x,y,w⟩).st=none->K (.Bj [stA s oS oT fS fT,(I7 s th ⟨op,a,b,x,y,w⟩).Ap]) H)
 (h':∀s',(I7 s th ⟨op,a,b,x,y,w⟩).st=some s'->K (.Bj [BT s' H.length (H.length+1) false false,(I7 s th ⟨op,a,b,x,y,w⟩).Ap]) (H++[AM s',AJ s'])):
 AF Qf 18 [stA s oS oT fS fT,nS th,.agg [nS op,.slice oA a.length 0 a.length fA,.slice oB b.length 0 b.length fB,nS x,nS y,nT w]] H K:=by
 have kT:=AL.of hT
 have kS:=AL.of hS
 have kA:=AL.of hA
 have kB:=AL.of hB
 have iS:∀L:AP,oS<(H++L).length:=λL=>by have:=Am hS;rw[Qc];omega
 have iT:∀L:AP,oT<(H++L).length:=λL=>by have:=Am hT;rw[Qc];omega
 have hbad:=λhb=>YQ (c:=⟨op,a,b,x,y,w⟩) (th:=th) hi hb
 have hv:=fun(e n:Int)=>show(AH.Bj [stA s oS oT fS fT,.agg [nS e,nT 0,nS n]]).refs (λo=>o<H.length) by simp[AH.refs,Ay];exact⟨Am hS,Am hT⟩
 have hv3:=fun(e v n:Int)=>show(AH.Bj [stA s oS oT fS fT,.agg [nS e,nT v,nS n]]).refs (λo=>o<H.length) by simp[AH.refs,Ay];exact⟨Am hS,Am hT⟩
 rcases Js op with(rfl|rfl|rfl|rfl|rfl|rfl|rfl|rfl|rfl|rfl|rfl|rfl|rfl)|e
 ·clear h56
  have ed:I7 s th ⟨1,a,b,x,y,w⟩=Be s th ⟨1,a,b,x,y,w⟩:=by simp[I7]
  refine AF.gc ?_
  refine Aa ok18 ?_;repeat' first|simp only[*,BT,AM,AJ,Qa,CD.Ap,go_sem]|apply orR|(apply sp<;>intro hc)|refine B3 hi (kS _) (kT _) ?_|refine CR (kA _) (kB _) hla hlb ?_|refine CS ?_ (iS _) (iT _)|refine Zp (c:=⟨1,a,b,x,y,w⟩) hi ‹_› rfl (kS _) (kT _) (kA _) (kB _) (λhc=> ?_) (λs' hc=> ?_)
  all_goals first
   |(
    rw[ed]at h'
    exact Gc.Jg (i:=4) (j:=5) rfl rfl h' (by decide) (by simp[AH.plain,Ah]) rfl rfl ⟨rfl,rfl,rfl⟩ ‹_›)
   |(
    rw[ed]at h
    exact Gc.Cd (hv3 _ _ _) (h ‹_›))
   |(
    rw[hbad (by first|exact .inl ‹_›|exact .inr (by omega))]at h
    exact Gc.Cd (hv _ _) (h rfl))
 ·clear h56
  have ed:I7 s th ⟨2,a,b,x,y,w⟩=A5 s th ⟨2,a,b,x,y,w⟩:=by simp[I7]
  refine AF.gc ?_
  refine Aa ok18 ?_;repeat' first|simp only[*,BT,AM,AJ,Qa,CD.Ap,go_sem]|apply orR|(apply sp<;>intro hc)|refine B3 hi (kS _) (kT _) ?_|refine CR (kA _) (kB _) hla hlb ?_|refine CS ?_ (iS _) (iT _)|refine RY (c:=⟨2,a,b,x,y,w⟩) hi ‹_› (.inl rfl) (kS _) (kT _) (kA _) (kB _) (λhc=> ?_) (λs' hc=> ?_)
  all_goals first
   |(
    rw[ed]at h'
    exact Gc.Jg (i:=4) (j:=5) rfl rfl h' (by decide) (by simp[AH.plain,Ah]) rfl rfl ⟨rfl,rfl,rfl⟩ ‹_›)
   |(
    rw[ed]at h
    exact Gc.Cd (hv3 _ _ _) (h ‹_›))
   |(
    rw[hbad (by first|exact .inl ‹_›|exact .inr (by omega))]at h
    exact Gc.Cd (hv _ _) (h rfl))
 ·clear h56
  have ed:I7 s th ⟨3,a,b,x,y,w⟩=A5 s th ⟨3,a,b,x,y,w⟩:=by simp[I7]
  refine AF.gc ?_
  refine Aa ok18 ?_;repeat' first|simp only[*,BT,AM,AJ,Qa,CD.Ap,go_sem]|apply orR|(apply sp<;>intro hc)|refine B3 hi (kS _) (kT _) ?_|refine CR (kA _) (kB _) hla hlb ?_|refine CS ?_ (iS _) (iT _)|refine RY (c:=⟨3,a,b,x,y,w⟩) hi ‹_› (.inr (.inl rfl)) (kS _) (kT _) (kA _) (kB _) (λhc=> ?_) (λs' hc=> ?_)
  all_goals first
   |(
    rw[ed]at h'
    exact Gc.Jg (i:=4) (j:=5) rfl rfl h' (by decide) (by simp[AH.plain,Ah]) rfl rfl ⟨rfl,rfl,rfl⟩ ‹_›)
   |(
    rw[ed]at h
    exact Gc.Cd (hv3 _ _ _) (h ‹_›))
   |(
    rw[hbad (by first|exact .inl ‹_›|exact .inr (by omega))]at h
    exact Gc.Cd (hv _ _) (h rfl))
 ·clear h56
  have ed:I7 s th ⟨4,a,b,x,y,w⟩=A5 s th ⟨4,a,b,x,y,w⟩:=by simp[I7]
  refine AF.gc ?_
  refine Aa ok18 ?_;repeat' first|simp only[*,BT,AM,AJ,Qa,CD.Ap,go_sem]|apply orR|(apply sp<;>intro hc)|refine B3 hi (kS _) (kT _) ?_|refine CR (kA _) (kB _) hla hlb ?_|refine CS ?_ (iS _) (iT _)|refine RY (c:=⟨4,a,b,x,y,w⟩) hi ‹_› (.inr (.inr rfl)) (kS _) (kT _) (kA _) (kB _) (λhc=> ?_) (λs' hc=> ?_)
  all_goals first
   |(
    rw[ed]at h'
    exact Gc.Jg (i:=4) (j:=5) rfl rfl h' (by decide) (by simp[AH.plain,Ah]) rfl rfl ⟨rfl,rfl,rfl⟩ ‹_›)
   |(
    rw[ed]at h
    exact Gc.Cd (hv3 _ _ _) (h ‹_›))
   |(
    rw[hbad (by first|exact .inl ‹_›|exact .inr (by omega))]at h
    exact Gc.Cd (hv _ _) (h rfl))
 ·exact absurd (.inl rfl) h56
 ·exact absurd (.inr rfl) h56
 ·clear h56
  have ed:I7 s th ⟨7,a,b,x,y,w⟩=BC s th ⟨7,a,b,x,y,w⟩:=by simp[I7]
  refine AF.gc ?_
  refine Aa ok18 ?_;repeat' first|simp only[*,BT,AM,AJ,Qa,CD.Ap,go_sem]|apply orR|(apply sp<;>intro hc)|refine B3 hi (kS _) (kT _) ?_|refine CR (kA _) (kB _) hla hlb ?_|refine CS ?_ (iS _) (iT _)|refine Vc (c:=⟨7,a,b,x,y,w⟩) hi ‹_› (.inl rfl) (kS _) (kT _) (kA _) (kB _) (λhc=> ?_) (λs' hc=> ?_)
  all_goals first
   |(
    rw[ed]at h'
    exact Gc.Jg (i:=4) (j:=5) rfl rfl h' (by decide) (by simp[AH.plain,Ah]) rfl rfl ⟨rfl,rfl,rfl⟩ ‹_›)
   |(
    rw[ed]at h
    exact Gc.Cd (hv3 _ _ _) (h ‹_›))
   |(
    rw[hbad (by first|exact .inl ‹_›|exact .inr (by omega))]at h
    exact Gc.Cd (hv _ _) (h rfl))
 ·clear h56
  have ed:I7 s th ⟨8,a,b,x,y,w⟩=BC s th ⟨8,a,b,x,y,w⟩:=by simp[I7]
  refine AF.gc ?_
  refine Aa ok18 ?_;repeat' first|simp only[*,BT,AM,AJ,Qa,CD.Ap,go_sem]|apply orR|(apply sp<;>intro hc)|refine B3 hi (kS _) (kT _) ?_|refine CR (kA _) (kB _) hla hlb ?_|refine CS ?_ (iS _) (iT _)|refine Vc (c:=⟨8,a,b,x,y,w⟩) hi ‹_› (.inr rfl) (kS _) (kT _) (kA _) (kB _) (λhc=> ?_) (λs' hc=> ?_)
  all_goals first
   |(
    rw[ed]at h'
    exact Gc.Jg (i:=4) (j:=5) rfl rfl h' (by decide) (by simp[AH.plain,Ah]) rfl rfl ⟨rfl,rfl,rfl⟩ ‹_›)
   |(
    rw[ed]at h
    exact Gc.Cd (hv3 _ _ _) (h ‹_›))
   |(
    rw[hbad (by first|exact .inl ‹_›|exact .inr (by omega))]at h
    exact Gc.Cd (hv _ _) (h rfl))
 ·clear h56
  have ed:I7 s th ⟨9,a,b,x,y,w⟩=BG s th ⟨9,a,b,x,y,w⟩:=by simp[I7]
  refine AF.gc ?_
  refine Aa ok18 ?_;repeat' first|simp only[*,BT,AM,AJ,Qa,CD.Ap,go_sem]|apply orR|(apply sp<;>intro hc)|refine B3 hi (kS _) (kT _) ?_|refine CR (kA _) (kB _) hla hlb ?_|refine CS ?_ (iS _) (iT _)|refine Va (c:=⟨9,a,b,x,y,w⟩) hi ‹_› ⟨.inl rfl,hw64⟩ (kS _) (kT _) (kA _) (kB _) (λhc=> ?_) (λs' hc=> ?_)
  all_goals first
   |(
    rw[ed]at h'
    exact Gc.Jg (i:=4) (j:=5) rfl rfl h' (by decide) (by simp[AH.plain,Ah]) rfl rfl ⟨rfl,rfl,rfl⟩ ‹_›)
   |(
    rw[ed]at h
    exact Gc.Cd (hv3 _ _ _) (h ‹_›))
   |(
    rw[hbad (by first|exact .inl ‹_›|exact .inr (by omega))]at h
    exact Gc.Cd (hv _ _) (h rfl))
 ·clear h56
  have ed:I7 s th ⟨10,a,b,x,y,w⟩=BG s th ⟨10,a,b,x,y,w⟩:=by simp[I7]
  refine AF.gc ?_
  refine Aa ok18 ?_;repeat' first|simp only[*,BT,AM,AJ,Qa,CD.Ap,go_sem]|apply orR|(apply sp<;>intro hc)|refine B3 hi (kS _) (kT _) ?_|refine CR (kA _) (kB _) hla hlb ?_|refine CS ?_ (iS _) (iT _)|refine Va (c:=⟨10,a,b,x,y,w⟩) hi ‹_› ⟨.inr rfl,hw64⟩ (kS _) (kT _) (kA _) (kB _) (λhc=> ?_) (λs' hc=> ?_)
  all_goals first
   |(
    rw[ed]at h'
    exact Gc.Jg (i:=4) (j:=5) rfl rfl h' (by decide) (by simp[AH.plain,Ah]) rfl rfl ⟨rfl,rfl,rfl⟩ ‹_›)
   |(
    rw[ed]at h
    exact Gc.Cd (hv3 _ _ _) (h ‹_›))
   |(
    rw[hbad (by first|exact .inl ‹_›|exact .inr (by omega))]at h
    exact Gc.Cd (hv _ _) (h rfl))
 ·clear h56
  have ed:I7 s th ⟨11,a,b,x,y,w⟩=Bg s th ⟨11,a,b,x,y,w⟩:=by simp[I7]
  refine AF.gc ?_
  refine Aa ok18 ?_;repeat' first|simp only[*,BT,AM,AJ,Qa,CD.Ap,go_sem]|apply orR|(apply sp<;>intro hc)|refine B3 hi (kS _) (kT _) ?_|refine CR (kA _) (kB _) hla hlb ?_|refine CS ?_ (iS _) (iT _)|refine Rb (c:=⟨11,a,b,x,y,w⟩) hi ‹_› (.inl rfl) (kS _) (kT _) (kA _) (kB _) (λhc=> ?_) (λs' hc=> ?_)
  all_goals first
   |(
    rw[ed]at h'
    exact Gc.Jg (i:=4) (j:=5) rfl rfl h' (by decide) (by simp[AH.plain,Ah]) rfl rfl ⟨rfl,rfl,rfl⟩ ‹_›)
   |(
    rw[ed]at h
    exact Gc.Cd (hv3 _ _ _) (h ‹_›))
   |(
    rw[hbad (by first|exact .inl ‹_›|exact .inr (by omega))]at h
    exact Gc.Cd (hv _ _) (h rfl))
 ·clear h56
  have ed:I7 s th ⟨12,a,b,x,y,w⟩=Bg s th ⟨12,a,b,x,y,w⟩:=by simp[I7]
  refine AF.gc ?_
  refine Aa ok18 ?_;repeat' first|simp only[*,BT,AM,AJ,Qa,CD.Ap,go_sem]|apply orR|(apply sp<;>intro hc)|refine B3 hi (kS _) (kT _) ?_|refine CR (kA _) (kB _) hla hlb ?_|refine CS ?_ (iS _) (iT _)|refine Rb (c:=⟨12,a,b,x,y,w⟩) hi ‹_› (.inr (.inl rfl)) (kS _) (kT _) (kA _) (kB _) (λhc=> ?_) (λs' hc=> ?_)
  all_goals first
   |(
    rw[ed]at h'
    exact Gc.Jg (i:=4) (j:=5) rfl rfl h' (by decide) (by simp[AH.plain,Ah]) rfl rfl ⟨rfl,rfl,rfl⟩ ‹_›)
   |(
    rw[ed]at h
    exact Gc.Cd (hv3 _ _ _) (h ‹_›))
   |(
    rw[hbad (by first|exact .inl ‹_›|exact .inr (by omega))]at h
    exact Gc.Cd (hv _ _) (h rfl))
 ·clear h56
  have ed:I7 s th ⟨13,a,b,x,y,w⟩=Bg s th ⟨13,a,b,x,y,w⟩:=by simp[I7]
  refine AF.gc ?_
  refine Aa ok18 ?_;repeat' first|simp only[*,BT,AM,AJ,Qa,CD.Ap,go_sem]|apply orR|(apply sp<;>intro hc)|refine B3 hi (kS _) (kT _) ?_|refine CR (kA _) (kB _) hla hlb ?_|refine CS ?_ (iS _) (iT _)|refine Rb (c:=⟨13,a,b,x,y,w⟩) hi ‹_› (.inr (.inr rfl)) (kS _) (kT _) (kA _) (kB _) (λhc=> ?_) (λs' hc=> ?_)
  all_goals first
   |(
    rw[ed]at h'
    exact Gc.Jg (i:=4) (j:=5) rfl rfl h' (by decide) (by simp[AH.plain,Ah]) rfl rfl ⟨rfl,rfl,rfl⟩ ‹_›)
   |(
    rw[ed]at h
    exact Gc.Cd (hv3 _ _ _) (h ‹_›))
   |(
    rw[hbad (by first|exact .inl ‹_›|exact .inr (by omega))]at h
    exact Gc.Cd (hv _ _) (h rfl))
 ·refine AF.gc ?_
  have cg:AT ⟨op,a,b,x,y,w⟩=false:=K1.2.2.2.2.2.2.2.2.2 e
  refine Aa ok18 ?_;(try simp only[kS,kT,kA,kB,cg,go_sem]);repeat' ((first|apply orR|(apply sp<;>intro hc)|refine B3 hi (kS _) (kT _) ?_|refine CR (kA _) (kB _) hla hlb ?_|refine CS ?_ (iS _) (iT _))<;>try simp only[*,go_sem])
  rw[hbad (.inl cg)]at h
  exact Gc.Cd (hv _ _) (h rfl)
end
end Go.Proofs.YtlaipllgmddkiaaGreat.Ax
namespace Go.Ax.M
open Go Go.Ax
theorem sk{s:State}(hi:Inv s){th:Int}{c:Call}:DY s th c=if c.op=5\/c.op=6 then takeN s th c else I7 s th c:=by
 by_cases hb:AT c=false\/¬(0<=th/\th<s.AS.AI)
 ·have e:DY s th c= .bad 1:=by
   have:(BN s&&(AT c&&Bv th 0 (s.AS.AI-1)))=false:=by
    rcases hb with h|h
    ·rw[h];simp
    ·have:Bv th 0 (s.AS.AI-1)=false:=by simp only[Bv,QH,decide_eq_false_iff_not];omega
     rw[this];simp
   rw[DY,this];rfl
  rw[e,rH hi hb,YQ hi hb];simp
 ·have h1:AT c=true:=by
   cases h:AT c with
   |true=>rfl
   |false=>exact absurd (.inl h) hb
  have h2:0<=th/\th<s.AS.AI:=Classical.not_not.1 λh=>hb (.inr h)
  have h3:Bv th 0 (s.AS.AI-1)=true:=by simp only[Bv,Qg,decide_eq_true_eq];omega
  have hop:=JF h1
  simp only[DY,hi.ok.DR,h1,h3,QK,Qy,cond_false,I7]
  rcases(by omega:c.op=1\/c.op=2\/c.op=3\/c.op=4\/c.op=5\/c.op=6\/c.op=7\/c.op=8\/c.op=9\/c.op=10\/c.op=11\/c.op=12\/c.op=13)with e|e|e|e|e|e|e|e|e|e|e|e|e<;>simp[e]
end Go.Ax.M
namespace Go.Proofs.YtlaipllgmddkiaaGreat.Ax
open Go Go.Ax Go.Ax.M
section
variable {H:AP}{K:AH->AP->Prop}{s:State}{oS oT oA oB:Nat}{fS fT rS rT fA fB rA rB:Bool}{th op x y w:Int}{a b:List Int}
theorem sE(d:rk s)(hla:a.length<=100000)(hlb:b.length<=100000)
 (hS:nA H oS s rS) (hT:nB H oT s rT) (hA:H[oA]?=some (.AU 1 (ints a) rA)) (hB:H[oB]?=some (.AU 1 (ints b) rB))
 (h:(DY s th ⟨op,a,b,x,y,w⟩).st=none->K (.Bj [stA s oS oT fS fT,(DY s th ⟨op,a,b,x,y,w⟩).Ap]) H)
 (h':∀s',(DY s th ⟨op,a,b,x,y,w⟩).st=some s'->K (.Bj [BT s' H.length (H.length+1) false false,(DY s th ⟨op,a,b,x,y,w⟩).Ap]) (H++[AM s',AJ s'])):
 AF Qf 18 [stA s oS oT fS fT,nS th,.agg [nS op,.slice oA a.length 0 a.length fA,.slice oB b.length 0 b.length fB,nS x,nS y,nT w]] H K:=by
 rw[sk d.inv]at h h'
 simp only at h h'
 by_cases h5:op=5
 ·subst h5
  rw[if_pos (.inl rfl)]at h h'
  exact s6 d.inv d.ZY hla hlb hS hT hA hB h h'
 by_cases h6:op=6
 ·subst h6
  rw[if_pos (.inr rfl)]at h h'
  exact s7 d.inv d.ZY hla hlb hS hT hA hB h h'
 rw[if_neg (by omega)]at h h'
 exact Wr (by omega) d.inv d.word hla hlb hS hT hA hB h h'
theorem rm(d:rk s)(hla:a.length<=100000)
 (hS:nA H oS s rS) (hT:nB H oT s rT) (hA:H[oA]?=some (.AU 1 (ints a) rA))
 (h:(DY s th ⟨op,a,[],x,y,w⟩).st=none->K (.Bj [stA s oS oT fS fT,(DY s th ⟨op,a,[],x,y,w⟩).Ap]) H)
 (h':∀s',(DY s th ⟨op,a,[],x,y,w⟩).st=some s'->K (.Bj [BT s' H.length (H.length+1) false false,(DY s th ⟨op,a,[],x,y,w⟩).Ap]) (H++[AM s',AJ s'])):
 AF Qf 18 [stA s oS oT fS fT,nS th,.agg [nS op,.slice oA a.length 0 a.length fA,.lit (.slice none 0 0),nS x,nS y,nT w]] H K:=by
 refine AF.gc (AF.lay 1 ?_)
 simp only[Go.Ax.D9,Go.Ax.E9,go_sem]
 have kS:=AL.of hS
 have kT:=AL.of hT
 have kA:=AL.of hA
 refine sE (b:=[]) (oB:=H.length) (rB:=false) d hla (by simp) (kS _) (kT _) (kA _) BH (λe=>Gc.Cd ?_ (h e)) (λs' e=> ?_)
 ·simp only[CD.Ap,AH.refs,Ay]
  exact⟨⟨trivial,trivial,trivial,Am hS,Am hT,trivial⟩,⟨trivial,trivial,trivial,trivial⟩,trivial⟩
 ·have:=Gc.stateT (H:=H) (L:= .AU 1 [] false::[AM s',AJ s']) (K:=K) (i:=1) (j:=2) (s:=s') (f:=false) (f':=false) (l:=[(DY s th ⟨op,a,[],x,y,w⟩).Ap]) rfl rfl (by decide) (by simp[AH.plain,Ah,CD.Ap]) (h' s' e)
  simpa [QC,Qa] using this
end
section
variable {H:AP}{K:AH->AP->Prop}{s:State}{oS oT:Nat}{fS fT rS rT:Bool}{th l0 l1 l2 l3:Int}{oL nL iL jL sL:Nat}{xsL:List (List AH)}{csL:List AH}{rL:Bool}
set_option maxHeartbeats 1000000 in
theorem tG(d:rk s)(hS:nA H oS s rS)(hT:nB H oT s rT)(hL:H[oL]?=some (.AU sL xsL rL))(hnL:xsL.length=nL)(hcL:xsL[iL]?=some csL)(heL:∀k,k<4->csL[jL+k]?=some (nT ([l0,l1,l2,l3].getD k 0)))(u0:0<=l0/\l0<2^64)(u1:0<=l1/\l1<2^64)(u2:0<=l2/\l2<2^64)
 (h:(oC s th l0 l1 l2 l3).st=none->K (.Bj [stA s oS oT fS fT,(oC s th l0 l1 l2 l3).Ap]) H) (h':∀s',(oC s th l0 l1 l2 l3).st=some s'->K (.Bj [BT s' H.length (H.length+1) false false,(oC s th l0 l1 l2 l3).Ap]) (H++[AM s',AJ s'])):
 AF Qf 62 [stA s oS oT fS fT,nS th,.Kl oL nL iL jL 4] H K:=by
 have kT:=AL.of hT
 have kS:=AL.of hS
 have kL:=AL.of hL
 have hi:=d.inv
 have hg:=hi.ok.DR
 have iS:∀L:AP,oS<(H++L).length:=λL=>by have:=Am hS;rw[Qc];omega
 have iT:∀L:AP,oT<(H++L).length:=λL=>by have:=Am hT;rw[Qc];omega
 have hv:=fun(e v n:Int)=>show(AH.Bj [stA s oS oT fS fT,.agg [nS e,nT v,nS n]]).refs (λo=>o<H.length) by simp[AH.refs,Ay];exact⟨Am hS,Am hT⟩
 have la:∀v,(Ep v).length<=100000:=λv=>by
  by_cases e:Ep v=[]
  ·simp[e]
  ·have:=(gw e).1;simp[BJ]at this;omega
 have lc:(EP l0 l1 l2 l3).a.length<=100000/\(EP l0 l1 l2 l3).b.length<=100000:=⟨la _,la _⟩
 clear la
 refine AF.gc ?_
 cases hok:fI l0 l1 l2 l3 with
 |false=>
  have e:oC s th l0 l1 l2 l3= .bad 2:=by simp only[oC,hg,hok,QQ,Qy,cond_true,cond_false]
  rw[e]at h
  have h:=h rfl
  clear h' e
  refine Aa ok62 ?_;(try simp only[kS,kT,BT,Qa,Lq,go_sem]);repeat' ((first|apply orR|(apply sp<;>intro hc)|refine B3 hi (kS _) (kT _) ?_|refine pr (kL _) hnL hcL heL u0 u1 u2 (λ_=> ?_) (λe=>absurd (hok.symm.trans e) (by decide)) (λe=>absurd (hok.symm.trans e) (by decide))|refine CS ?_ (iS _) (iT _))<;>try simp only[*,BT,Qa,Lq,go_sem])
  exact Gc.Cd (hv _ _ _) h
 |true=>
  have e:oC s th l0 l1 l2 l3=DY s th (EP l0 l1 l2 l3):=by simp only[oC,hg,hok,Qy,cond_false]
  rw[e]at h h'
  clear e
  by_cases hb:(EP l0 l1 l2 l3).b=[]
  ·generalize hc:EP l0 l1 l2 l3=c at*
   obtain⟨op,a,b,x,y,w⟩:=c
   simp only at hb lc
   subst hb
   have call:=fun(H':AP) (hk:H'[oL]?=some (.AU sL xsL rL)) (K:AH->AP->Prop) (h1) (h2)=>pr (K:=K) hk hnL hcL heL u0 u1 u2 (λe=>absurd (hok.symm.trans e) (by decide)) h1 h2
   rw[hc]at call
   have call:=fun(H':AP) (hk:H'[oL]?=some (.AU sL xsL rL)) (K:AH->AP->Prop) (h1)=>call H' hk K (λ_ _=>h1) (λ_ e=>absurd rfl e)
   simp only at call
   clear hc
   refine Aa ok62 ?_;repeat' first|simp only[*,BT,Qa,AM,AJ,CD.Ap,go_sem]|apply orR|(apply sp<;>intro hc)|refine B3 hi (kS _) (kT _) ?_|refine call _ (kL _) _ ?_|refine rm d lc.1 (kS _) (kT _) (by first|exact BH|exact Bb rfl) (λhc=> ?_) (λs' hc=> ?_)
   ·exact Gc.Cd (hv _ _ _) (h ‹_›)
   ·exact Gc.Jg (i:=5) (j:=6) rfl rfl (r:=(DY s th ⟨op,a,[],x,y,w⟩).st) (λs' e=>h' s' e) (hn:=rfl) (hm:=rfl) (e:=by assumption)
  ·generalize hc:EP l0 l1 l2 l3=c at*
   obtain⟨op,a,b,x,y,w⟩:=c
   simp only at hb lc
   have call:=fun(H':AP) (hk:H'[oL]?=some (.AU sL xsL rL)) (K:AH->AP->Prop) (h1) (h2)=>pr (K:=K) hk hnL hcL heL u0 u1 u2 (λe=>absurd (hok.symm.trans e) (by decide)) h1 h2
   rw[hc]at call
   have call:=fun(H':AP) (hk:H'[oL]?=some (.AU sL xsL rL)) (K:AH->AP->Prop) (h1)=>call H' hk K (λ_ e=>absurd e hb) (λ_ _=>h1)
   simp only at call
   clear hc
   refine Aa ok62 ?_;repeat' first|simp only[*,BT,Qa,AM,AJ,CD.Ap,go_sem]|apply orR|(apply sp<;>intro hc)|refine B3 hi (kS _) (kT _) ?_|refine call _ (kL _) _ ?_|refine sE d lc.1 lc.2 (kS _) (kT _) (by first|exact BH|exact Bb rfl) (by first|exact BH|exact Bb rfl) (λhc=> ?_) (λs' hc=> ?_)
   ·exact Gc.Cd (hv _ _ _) (h ‹_›)
   ·exact Gc.Jg (i:=6) (j:=7) rfl rfl (r:=(DY s th ⟨op,a,b,x,y,w⟩).st) (λs' e=>h' s' e) (hn:=rfl) (hm:=rfl) (e:=by assumption)
theorem uC{e v m:Int}{u:State}(d:rk s)(hr:oC s th l0 l1 l2 l3=⟨e,v,m,some u⟩)(hS:nA H oS s rS)(hT:nB H oT s rT)(hL:H[oL]?=some (.AU sL xsL rL))(hnL:xsL.length=nL)(hcL:xsL[iL]?=some csL)(heL:∀k,k<4->csL[jL+k]?=some (nT ([l0,l1,l2,l3].getD k 0)))(u0:0<=l0/\l0<2^64)(u1:0<=l1/\l1<2^64)(u2:0<=l2/\l2<2^64)
 (h:K (.Bj [BT u H.length (H.length+1) false false,.agg [nS e,nT v,nS m]]) (H++[AM u,AJ u])):
 AF Qf 62 [stA s oS oT fS fT,nS th,.Kl oL nL iL jL 4] H K:=
 tG d hS hT hL hnL hcL heL u0 u1 u2 (by rw[hr];intro h;cases h) (by rw[hr];intro s2 h2;injection h2 with h2;subst h2;exact h)
theorem uB{e v m:Int}(d:rk s)(hr:oC s th l0 l1 l2 l3=⟨e,v,m,none⟩)(hS:nA H oS s rS)(hT:nB H oT s rT)(hL:H[oL]?=some (.AU sL xsL rL))(hnL:xsL.length=nL)(hcL:xsL[iL]?=some csL)(heL:∀k,k<4->csL[jL+k]?=some (nT ([l0,l1,l2,l3].getD k 0)))(u0:0<=l0/\l0<2^64)(u1:0<=l1/\l1<2^64)(u2:0<=l2/\l2<2^64)
 (h:K (.Bj [stA s oS oT fS fT,.agg [nS e,nT v,nS m]]) H):
 AF Qf 62 [stA s oS oT fS fT,nS th,.Kl oL nL iL jL 4] H K:=
 tG d hS hT hL hnL hcL heL u0 u1 u2 (by rw[hr];intro _;exact h) (by rw[hr];intro s2 h2;cases h2)
end
end Go.Proofs.YtlaipllgmddkiaaGreat.Ax
namespace Go.Ax.M
open Go Go.Ax
theorem sX{room:Int}:Bw 1 room 0=⟨1,0,0,room,0,0,0,false,0,0,0,0,0⟩:=by unfold Bw;rfl
theorem s9:Bw 3 0 0=⟨3,0,0,0,0,0,0,false,0,0,0,0,0⟩:=by unfold Bw;rfl
theorem rY{g:SY}{room:Int}:pk g room=(Ee g&&Bv room 1 4096):=by
 have:(HH 1 room 0).2=Bv room 1 4096:=by
  have e:BB (Bw 1 room 0)=Bv room 1 4096:=by
   rw[sX];simp[BB,DI,F4,AN.zero,Bv];omega
  simp only[HH,e];cases Bv room 1 4096<;>rfl
 rw[pk,this]
end Go.Ax.M
namespace Go.Proofs.YtlaipllgmddkiaaGreat.Ax
open Go Go.Ax Go.Ax.M
section
variable {H:AP}{K:AH->AP->Prop}
theorem s8{g:SY}{room:Int}(h:pk g room=false->K (.Bj [rh,nS 1]) H)(h':pk g room=true->K (.Bj [BT (pI g room) H.length (H.length+1) true true,nS 0]) (H++[AM (pI g room),AJ (pI g room)])):
 AF Qf 61 [.agg g.cells,nS room] H K:=by
 refine AF.gc ?_
 cases hn:pk g room with
 |false=>
  have h:=h hn
  clear h'
  rw[rY]at hn
  have hc:Ee g=true->Bv room 1 4096=false:=λe=>by simpa [e] using hn
  unfold SY.cells
  refine Aa ok61 ?_;(try simp only[hc,go_sem]);repeat' ((first|apply orR|(apply sp<;>intro hc)|refine VZ (g:=g) ?_|refine KR ?_)<;>try simp only[*,go_sem])
  all_goals exact Gc.Cd (by simp[AH.refs,Ay]) h
 |true=>
  have h':=h' hn
  clear h
  rw[rY]at hn
  simp only[Qg]at hn
  obtain⟨hg,ht⟩:=hn
  have hb:=HQ hg
  obtain⟨x0,x1,x2⟩:=g
  simp only at hb
  obtain⟨T,rfl⟩:∃T:Nat,x0=(T:Int):=⟨x0.toNat,by omega⟩
  obtain⟨N,rfl⟩:∃N:Nat,x1=(N:Int):=⟨x1.toNat,by omega⟩
  obtain⟨M,rfl⟩:∃M:Nat,x2=(M:Int):=⟨x2.toNat,by omega⟩
  have b1:(0<=(N:Int))=True:=eq_true (by omega)
  have hN:8* T<=N/\N<=96:=by omega
  have hM:T+2<=M/\M<=48:=by omega
  have hT:1<=T/\T<=4:=by omega
  have m1:(N:Int)<=9223372036854775807:=by omega
  have m2:(N:Int)* 40<=140737488355328:=by omega
  have m3:(M:Int)<=9223372036854775807:=by omega
  have m4:(M:Int)* 104<=140737488355328:=by omega
  clear hb
  unfold SY.cells
  refine Aa ok61 ?_;repeat' first|simp only[*,Qa,AX,Qr,Qm,go_sem]|apply orR|(apply sp<;>intro hc)|refine VZ (g:=⟨(T:Int),(N:Int),(M:Int)⟩) ?_|refine KR ?_
  have z0:(0<(M:Int))=True:=eq_true (by omega)
  have z1:(1<(M:Int))=True:=eq_true (by omega)
  have z2:(0<(N:Int))=True:=eq_true (by omega)
  rw[show Qd N [nS 0,nS 0,nS 0,nS 0,nS 0]=(Qd N Slot.zero).map Slot.cells by rw[QN];rfl,
   show Qd M [nS 0,nS 0,nS 0,nS 0,nS 0,nS 0,nS 0,.bool false,nT 0,nT 0,nT 0,nT 0,nT 0]=(Qd M AN.zero).map AN.cells by rw[QN];rfl]
  refine AK.Az [7,1,2,4,6] ?_;simp only[mpC,go_sem]
  refine AK.acc (λk (us:List Slot)=>[(7,nS (k:Int))]) (λk us=>H++[_,_,.AU 5 (us.map Slot.cells) false,_,_]) (λk us=>us.length=N/\Hid (∀j,us.getD j .zero=if j<k then⟨.zero,-1⟩else .zero)) N ?_ (a0:=Qd N Slot.zero) ⟨by simp,λj=>by rw[if_neg (by omega)];simp[Qi,QD];split<;>rfl⟩
  rintro k us hk ⟨hul,hus⟩ next
  have row:∀j,j<N->∀x,us.getD j .zero=x->(us.map Slot.cells)[j]?=some x.cells:=λj h x e=>by
   have hlt:j<us.length:=by omega
   simp only[Qi,Qv hlt,Qo]at e
   simp[hlt,e]
  refine AK.unfold ?_
  have hw:=AY (k:=k) (by omega)
  have hrow:k<N->(us.map Slot.cells)[k]?=some [nS 0,nS 0,nS 0,nS 0,nS 0]:=λh=>row k h .zero ((show ∀j,us.getD j .zero=if j<k then⟨.zero,-1⟩else .zero from hus) k|>.trans (if_neg (by omega)))
  have hrow0:¬k<N->(us.map Slot.cells)[0]?=some [nS 0,nS 0,nS 0,nS 0,nS (-1)]:=λh=>row 0 (by omega) ⟨.zero,-1⟩ ((show ∀j,us.getD j .zero=if j<k then⟨.zero,-1⟩else .zero from hus) 0|>.trans (if_pos (by omega)))
  clear row
  have hum:(us.map Slot.cells).length=N:=by rw[Qs];exact hul
  have htm:((Qd M AN.zero).map AN.cells).length=M:=by simp
  have htz:∀j,j<M->((Qd M AN.zero).map AN.cells)[j]?=some AN.zero.cells:=λj h=>by simp[h]
  have ht0:((Qd M AN.zero).map AN.cells)[0]?=some [nS 0,nS 0,nS 0,nS 0,nS 0,nS 0,nS 0,.bool false,nT 0,nT 0,nT 0,nT 0,nT 0]:=htz 0 (by omega)
  have ht1:∀x,(((Qd M AN.zero).map AN.cells).set 0 x)[1]?=some [nS 0,nS 0,nS 0,nS 0,nS 0,nS 0,nS 0,.bool false,nT 0,nT 0,nT 0,nT 0,nT 0]:=λx=>by rw[Qe (by omega)];exact htz 1 (by omega)
  clear htz
  repeat' first|simp only[*,AX,AR,Qr,AA b61_2.eq_1,Qb,apC,go_sem]|apply orR|(apply sp<;>intro hc)|fail
  ·have hus2:∀j,us.getD j .zero=if j<k then⟨.zero,-1⟩else .zero:=hus
   have e:(us.map Slot.cells).set k [nS 0,nS 0,nS 0,nS 0,nS (-1)]=(us.set k ⟨.zero,-1⟩).map Slot.cells:=by rw[Qh];rfl
   rw[e]
   (refine AK.Az [7,1,2,4,6] ?_;simp only[mpC,go_sem];refine next (us.set k ⟨.zero,-1⟩) ‹_› ⟨by rw[Qb];exact hul,λj=>by rw[pL (by omega),hus2 j];by_cases q:j=k<;>by_cases q2:j<k<;>simp[q,q2]<;>omega⟩)
  have hk2:N=k:=by omega
  subst hk2
  have hus2:∀j,us.getD j .zero=if j<N then⟨.zero,-1⟩else .zero:=hus
  have e1:(us.map Slot.cells).set 0 [nS 1,nS 0,nS 7,nS 0,nS (-1)]=(us.set 0 ⟨⟨1,0,7,0⟩,-1⟩).map Slot.cells:=by rw[Qh];rfl
  have e2:(((Qd M AN.zero).map AN.cells).set 0 (Bw 1 room 0).cells).set 1 (Bw 3 0 0).cells=(((Qd M AN.zero).set 0 (Bw 1 room 0)).set 1 (Bw 3 0 0)).map AN.cells:=by rw[Qh,Qh]
  rw[sX,s9]at e2
  simp only[AN.cells]at e2
  rw[e1,e2]
  have i1:∀j,j<N->(us.set 0 ⟨⟨1,0,7,0⟩,-1⟩).getD j .zero=pO 0 j:=λj hj=>by
   rw[pL (by omega),hus2 j,if_pos hj,pO]
   by_cases q:j=0
   ·rw[if_pos q,if_pos q]
   ·rw[if_neg q,if_neg q,if_neg (by omega)]
  have i2:∀j,j<M->(((Qd M AN.zero).set 0 (⟨1,0,0,room,0,0,0,false,0,0,0,0,0⟩:AN)).set 1 (⟨3,0,0,0,0,0,0,false,0,0,0,0,0⟩:AN)).getD j .zero=pF room 0 j:=λj hj=>by
   rw[pL (by simp;omega),pL (by simp;omega),pF,sX,s9]
   by_cases q:j=0
   ·subst q;simp
   ·by_cases q1:j=1
    ·subst q1;simp
    ·rw[if_neg q1,if_neg q,if_neg q,if_neg q1,if_neg (by omega)];simp[Qi,hj]
  clear next hw hrow hrow0 hum htm ht0 ht1 e1 e2 hus hus2
  refine AK.Az [8,2,4,6] ?_;simp only[mpC,go_sem]
  refine AK.acc (λk (a:List Slot×List AN)=>[(8,nS (k:Int))]) (λk a=>H++[_,_,.AU 5 (a.1.map Slot.cells) false,.AU 13 (a.2.map AN.cells) false,_]) (λk a=>a.1.length=N/\a.2.length=M/\Hid (∀j,j<N->a.1.getD j .zero=pO k j)/\Hid (∀j,j<M->a.2.getD j .zero=pF room k j)) T ?_ (a0:=(us.set 0 ⟨⟨1,0,7,0⟩,-1⟩,((Qd M AN.zero).set 0 (⟨1,0,0,room,0,0,0,false,0,0,0,0,0⟩:AN)).set 1 (⟨3,0,0,0,0,0,0,false,0,0,0,0,0⟩:AN))) ⟨by simp[hul],by simp,i1,i2⟩
  clear hul i1 i2
  rintro k ⟨us,ts⟩ hk ⟨hul,htl,hus,hts⟩ next
  simp only at hul htl hus hts
  have srow:∀j,j<N->∀x,pO k j=x->(us.map Slot.cells)[j]?=some x.cells:=λj h x e=>by
   have hlt:j<us.length:=by omega
   have:=(show ∀j,j<N->us.getD j .zero=pO k j from hus) j h
   rw[e]at this
   simp only[Qi,Qv hlt,Qo]at this
   simp[hlt,this]
  have trow:∀j,j<M->∀x,pF room k j=x->(ts.map AN.cells)[j]?=some x.cells:=λj h x e=>by
   have hlt:j<ts.length:=by omega
   have:=(show ∀j,j<M->ts.getD j .zero=pF room k j from hts) j h
   rw[e]at this
   simp only[Qi,Qv hlt,Qo]at this
   simp[hlt,this]
  refine AK.unfold ?_
  have hw:=AY (k:=k) (by omega)
  have w0:IntKind.wrap .i64 (8*(k:Int))=((8* k:Nat):Int):=by rw[w64 (by omega) (by omega)];omega
  have w1:IntKind.wrap .i64 (((8* k:Nat):Int)+1)=((8* k+1:Nat):Int):=by rw[w64 (by omega) (by omega)];omega
  have w2:IntKind.wrap .i64 (2+(k:Int))=((2+k:Nat):Int):=by rw[w64 (by omega) (by omega)];omega
  have hs1:k<T->(((8* k+1:Nat):Int)<(N:Int))=True/\(us.map Slot.cells)[8* k+1]?=some [nS 0,nS 0,nS 0,nS 0,nS (-1)]:=λh=>⟨eq_true (by omega),srow _ (by omega) ⟨.zero,-1⟩ (by rw[pO,if_neg (by omega),if_neg (by omega)])⟩
  have ht1:k<T->(((2+k:Nat):Int)<(M:Int))=True/\(ts.map AN.cells)[2+k]?=some [nS 0,nS 0,nS 0,nS 0,nS 0,nS 0,nS 0,.bool false,nT 0,nT 0,nT 0,nT 0,nT 0]:=λh=>⟨eq_true (by omega),trow _ (by omega) .zero (by rw[pF,if_neg (by omega),if_neg (by omega),if_neg (by omega)])⟩
  have hs3:k<T->∀x,((us.map Slot.cells).set (8* k+1) x)[8* k+1]?=some x:=λh x=>Qn (by rw[Qs];omega)
  have hum:(us.map Slot.cells).length=N:=by rw[Qs];exact hul
  have htm:(ts.map AN.cells).length=M:=by rw[Qs];exact htl
  clear srow trow
  have e2:(ts.map AN.cells).set (2+k) [nS 2,nS 3,nS ((8* k:Nat):Int),nS 0,nS 0,nS 0,nS 0,.bool false,nT 0,nT 0,nT 0,nT 0,nT 0]=(ts.set (2+k) ⟨2,3,((8* k:Nat):Int),0,0,0,0,false,0,0,0,0,0⟩).map AN.cells:=by rw[Qh];rfl
  have i1:k<T->∀j,j<N->(us.set (8* k+1) (Pn (if k=0 then-1 else 1))).getD j .zero=pO (k+1) j:=λhkT j hj=>by
   rw[pL (by omega),(show ∀j,j<N->us.getD j .zero=pO k j from hus) j hj,pO,pO]
   by_cases q:j=8* k+1
   ·rw[if_pos q,if_neg (show ¬j=0 by omega),if_pos (show j%8=1/\j<8*(k+1) by omega)]
    by_cases q0:k=0
    ·rw[if_pos q0,if_pos (show j=1 by omega)]
    ·rw[if_neg q0,if_neg (show ¬j=1 by omega)]
   ·rw[if_neg q]
    by_cases q2:j=0
    ·rw[if_pos q2,if_pos q2]
    ·rw[if_neg q2,if_neg q2]
     by_cases q3:j%8=1/\j<8* k
     ·rw[if_pos q3,if_pos (show j%8=1/\j<8*(k+1) by omega)]
     ·rw[if_neg q3,if_neg (show ¬(j%8=1/\j<8*(k+1)) by omega)]
  have i2:k<T->∀j,j<M->(ts.set (2+k) ⟨2,3,((8* k:Nat):Int),0,0,0,0,false,0,0,0,0,0⟩).getD j .zero=pF room (k+1) j:=λhkT j hj=>by
   rw[pL (by omega),(show ∀j,j<M->ts.getD j .zero=pF room k j from hts) j hj,pF,pF]
   by_cases q:j=2+k
   ·rw[if_pos q,if_neg (by omega),if_neg (by omega),if_pos (by omega)]
    subst q
    simp only[AN.mk.injEq,true_and,and_true];omega
   ·rw[if_neg q]
    by_cases q2:j=0
    ·rw[if_pos q2,if_pos q2]
    ·rw[if_neg q2,if_neg q2]
     by_cases q3:j=1
     ·rw[if_pos q3,if_pos q3]
     ·rw[if_neg q3,if_neg q3]
      by_cases q4:j<2+k
      ·rw[if_pos q4,if_pos (by omega)]
      ·rw[if_neg q4,if_neg (by omega)]
  have i1':Hid (k<T->_):=i1
  have i2':Hid (k<T->_):=i2
  have e2':Hid (_=_):=e2
  clear i1 i2 e2
  have h0k:(0<(k:Int))=(0<k):=propext ⟨by omega,by omega⟩
  repeat' first|simp only[*,AX,AR,Qr,AA b61_7.eq_1,Qb,QV,apC,go_sem]|apply orR|(apply sp<;>intro hc)|fail
  ·have hkT:k<T:=by assumption
   have e1:(us.map Slot.cells).set (8* k+1) [nS 3,nS 1,nS 7,nS 0,nS 1]=(us.set (8* k+1) (Pn (if k=0 then-1 else 1))).map Slot.cells:=by rw[Qh,if_neg (by omega)];rfl
   rw[e1,show _=_ from e2']
   (refine AK.Az [8,2,4,6] ?_;simp only[mpC,go_sem];refine next (us.set (8* k+1) (Pn (if k=0 then-1 else 1)),ts.set (2+k) ⟨2,3,((8* k:Nat):Int),0,0,0,0,false,0,0,0,0,0⟩) hkT ⟨by simp only[Qb];exact hul,by simp only[Qb];exact htl,i1' hkT,i2' hkT⟩)
  ·have hkT:k<T:=by assumption
   have e1:(us.map Slot.cells).set (8* k+1) [nS 3,nS 1,nS 7,nS 0,nS (-1)]=(us.set (8* k+1) (Pn (if k=0 then-1 else 1))).map Slot.cells:=by rw[Qh,if_pos (by omega)];rfl
   rw[e1,show _=_ from e2']
   (refine AK.Az [8,2,4,6] ?_;simp only[mpC,go_sem];refine next (us.set (8* k+1) (Pn (if k=0 then-1 else 1)),ts.set (2+k) ⟨2,3,((8* k:Nat):Int),0,0,0,0,false,0,0,0,0,0⟩) hkT ⟨by simp only[Qb];exact hul,by simp only[Qb];exact htl,i1' hkT,i2' hkT⟩)
  ·have hkT:T=k:=by omega
   subst hkT
   have hus:∀j,j<N->us.getD j .zero=pO T j:=hus
   have hts:∀j,j<M->ts.getD j .zero=pF room T j:=hts
   have e1:us.map Slot.cells=(pI ⟨T,N,M⟩ room).AE.map Slot.cells:=by
    congr 1
    refine pu (d:= .zero) (by simp[pI,hul]) λj hj=> ?_
    have hj:j<N:=by omega
    rw[hus j hj]
    simp only[pI,Qi,Qt,Qq,Qu hj,QA,Qo]
   have e2:ts.map AN.cells=(pI ⟨T,N,M⟩ room).AB.map AN.cells:=by
    congr 1
    refine pu (d:= .zero) (by simp[pI,htl]) λj hj=> ?_
    have hj:j<M:=by omega
    rw[hts j hj]
    simp only[pI,Qi,Qt,Qq,Qu hj,QA,Qo]
   have l1:(pI ⟨T,N,M⟩ room).AE.length=N:=by simp[pI]
   have l2:(pI ⟨T,N,M⟩ room).AB.length=M:=by simp[pI]
   have:=Gc.stateT (H:=H) (s:=pI ⟨T,N,M⟩ room) (i:=2) (j:=3) (f:=true) (f':=true) (l:=[nS 0]) (K:=K) (L:=[.AU 3 [[nS T,nS N,nS M]] false,.AU 5 [[nS T,nS N,nS M,.slice (H.length+2) N 0 N true,.slice (H.length+3) M 0 M true]] false,AM (pI ⟨T,N,M⟩ room),AJ (pI ⟨T,N,M⟩ room),.AU 5 [[nS T,nS N,nS M,.slice (H.length+2) N 0 N true,.slice (H.length+3) M 0 M true]] false]) rfl rfl (by decide) (by simp[AH.plain]) h'
   simp only[BT,AM,AJ,l1,l2,AN.cells]at this
   rw[e1,e2]
   exact this
end
end Go.Proofs.YtlaipllgmddkiaaGreat.Ax
namespace Go.Ax.M
open Go Go.Ax
section
variable {T N M:Nat}{room:Int}
theorem sJ{i:Nat}(h:i<N):(pI ⟨T,N,M⟩ room).slot i=pO T i:=by
 simp only[pI,State.slot,Qi,Qt,Qq,Qu h,QA,Qo]
theorem ru{i:Nat}(h:i<M):(pI ⟨T,N,M⟩ room).AG i=pF room T i:=by
 simp only[pI,State.AG,Qi,Qt,Qq,Qu h,QA,Qo]
theorem sI:(pI ⟨T,N,M⟩ room).AE.length=N/\(pI ⟨T,N,M⟩ room).AB.length=M:=by simp[pI]
theorem Gz(T i:Nat):(i=0/\pO T i=⟨⟨1,0,7,0⟩,-1⟩)\/(i%8=1/\i<8* T/\pO T i=Pn (if i=1 then-1 else 1))\/(i≠0/\¬(i%8=1/\i<8* T)/\pO T i=⟨.zero,-1⟩):=by
 by_cases h:i=0
 ·left;exact⟨h,by rw[pO,if_pos h]⟩
 ·by_cases h2:i%8=1/\i<8* T
  ·right;left;exact⟨h2.1,h2.2,by rw[pO,if_neg h,if_pos h2]⟩
  ·right;right;exact⟨h,h2,by rw[pO,if_neg h,if_neg h2]⟩
theorem pG(T i:Nat):(i=0/\pF room T i=⟨1,0,0,room,0,0,0,false,0,0,0,0,0⟩)\/(i=1/\pF room T i=⟨3,0,0,0,0,0,0,false,0,0,0,0,0⟩)\/(2<=i/\i<2+T/\pF room T i=⟨2,3,8*((i:Int)-2),0,0,0,0,false,0,0,0,0,0⟩)\/(2+T<=i/\2<=i/\pF room T i= .zero):=by
 by_cases h:i=0
 ·left;refine⟨h,?_⟩;rw[pF,if_pos h];unfold Bw;rfl
 ·by_cases h1:i=1
  ·right;left;refine⟨h1,?_⟩;rw[pF,if_neg h,if_pos h1];unfold Bw;rfl
  ·by_cases h2:i<2+T
   ·right;right;left;exact⟨by omega,h2,by rw[pF,if_neg h,if_neg h1,if_pos h2]⟩
   ·right;right;right;exact⟨by omega,by omega,by rw[pF,if_neg h,if_neg h1,if_neg h2]⟩
theorem sw:Bq ⟨1,0,7,0⟩=true:=by kernel_rfl
theorem sv:Bq ⟨3,1,7,0⟩=true:=by kernel_rfl
theorem sx:Bq .zero=true:=by kernel_rfl
theorem r8:Aq ⟨1,0,7,0⟩=false:=by kernel_rfl
theorem rl:Aq ⟨3,1,7,0⟩=false:=by kernel_rfl
theorem r9:Aq .zero=true:=by kernel_rfl
theorem sz:Dw ⟨3,1,7,0⟩ ⟨3,1,7,0⟩=true:=by kernel_rfl
theorem tF(hn:pk ⟨T,N,M⟩ room=true):rk (pI ⟨T,N,M⟩ room):=by
 simp only[pk,Qg]at hn
 obtain⟨hg,ht⟩:=hn
 have hb:=Hb hg
 simp only at hb
 have hr:1<=room/\room<=4096:=by
  have e:Bw 1 room 0=⟨1,0,0,room,0,0,0,false,0,0,0,0,0⟩:=by unfold Bw;rfl
  simp only[HH]at ht
  cases h:BB (Bw 1 room 0)with
  |false=>rw[h]at ht;simp at ht
  |true=>rw[e]at h;simp[BB,DI,F4,AN.zero,Bv]at h;omega
 obtain⟨lS,lT⟩:=@sI T N M room
 have sl:=λi (h:i<(pI ⟨T,N,M⟩ room).AE.length)=>sJ (T:=T) (N:=N) (M:=M) (room:=room) (i:=i) (by omega)
 have th:=λi (h:i<(pI ⟨T,N,M⟩ room).AB.length)=>ru (T:=T) (N:=N) (M:=M) (room:=room) (i:=i) (by omega)
 have gS:(pI ⟨T,N,M⟩ room).AS=⟨T,N,M⟩:=rfl
 have hT:1<=T/\T<=4/\8* T<=N/\N<=96/\T+2<=M/\M<=48:=by omega
 generalize pI ⟨T,N,M⟩ room=s at*
 have has2:∀n i:Nat,n<M->Bx (s.AG n) (i:Int)=true->2<=n/\n<2+T/\8*(n-2)<=i/\i<8*(n-2)+8:=λn i hn h=>by
  rw[th n (by omega)]at h
  rcases pG (room:=room) T n with⟨_,e⟩|⟨_,e⟩|⟨h1,h2,e⟩|⟨_,_,e⟩<;>rw[e]at h<;>simp[Bx,AN.zero,p2]at h
  omega
 have ty2:∀i,i<N->(s.slot i).cap.ty≠2:=λi hi h=>by
  rw[sl i (by omega)]at h
  rcases Gz T i with⟨_,e⟩|⟨_,_,e⟩|⟨_,_,e⟩<;>rw[e]at h<;>simp[Pn,Bh.zero]at h
 refine⟨⟨by rw[gS];exact hg,by rw[lS,gS],by rw[lT,gS],?_,?_,?_,?_,?_,?_,?_,?_,?_,?_,?_,?_,?_,?_⟩,?_,?_⟩
 ·intro i hi
  rw[sl i hi]
  rcases Gz T i with⟨_,e⟩|⟨_,_,e⟩|⟨_,_,e⟩<;>rw[e]
  ·exact sw
  ·exact sv
  ·exact sx
 ·intro i hi hn
  rw[sl i hi]at hn ⊢
  rcases Gz T i with⟨_,e⟩|⟨_,_,e⟩|⟨_,_,e⟩
  ·rw[e]
  ·rw[e]at hn;exact absurd (rl.symm.trans hn) (by decide)
  ·rw[e]
 ·intro i hi hn
  simp only[State.B8]at hn
  rw[sl i hi]at hn ⊢
  rcases Gz T i with⟨_,e⟩|⟨_,_,e⟩|⟨_,_,e⟩<;>rw[e]at hn ⊢
  ·have e0:=th 0 (by omega)
   rcases pG (room:=room) T 0 with⟨_,q⟩|⟨h,_⟩|⟨h,_⟩|⟨_,h,_⟩<;>try omega
   rw[q]at e0
   simp[BD,e0,lT];omega
  ·have e0:=th 1 (by omega)
   rcases pG (room:=room) T 1 with⟨h,_⟩|⟨_,q⟩|⟨h,_⟩|⟨_,h,_⟩<;>try omega
   rw[q]at e0
   simp[BD,Pn,e0,lT];omega
  ·exact absurd (r9.symm.trans hn) (by decide)
 ·intro k hk
  rw[th k hk]
  rcases pG (room:=room) T k with⟨_,e⟩|⟨_,e⟩|⟨h1,h2,e⟩|⟨_,_,e⟩<;>rw[e]
  ·simp[BB,DI,F4,AN.zero,Bv];omega
  ·kernel_rfl
  ·simp[BB,DI,F4,AN.zero,Bv,p2];omega
  ·kernel_rfl
 ·intro k hk h
  rw[th k hk]at h
  rcases pG (room:=room) T k with⟨_,e⟩|⟨_,e⟩|⟨h1,h2,e⟩|⟨_,_,e⟩<;>rw[e]at h<;>simp[AN.zero]at h
 ·intro k hk h
  simp only[Bc,gS,Qg,decide_eq_true_eq]at h
  rw[th k hk,gS]
  rcases pG (room:=room) T k with⟨_,_⟩|⟨_,_⟩|⟨h1,h2,e⟩|⟨_,_,_⟩<;>try omega
  rw[e]
  have hi:Bv ((k:Int)-2) 0 ((T:Int)-1)=true:=by simp[Bv];omega
  simp only[EY,LD,hg,hi,QK,cond_true]
 ·intro k hk h h0
  rw[th k hk]at h0
  rcases pG (room:=room) T k with⟨q,e⟩|⟨q,e⟩|⟨h1,h2,e⟩|⟨_,_,e⟩
  ·refine⟨0,by omega,?_,?_⟩
   ·simp only[State.B8];rw[sl 0 (by omega)]
    rcases Gz T 0 with⟨_,e⟩|⟨h,_⟩|⟨h,_⟩<;>try omega
    rw[e];exact r8
   ·rw[sl 0 (by omega)]
    rcases Gz T 0 with⟨_,e⟩|⟨h,_⟩|⟨h,_⟩<;>try omega
    rw[e,q];rfl
  ·refine⟨1,by omega,?_,?_⟩
   ·simp only[State.B8];rw[sl 1 (by omega)]
    rcases Gz T 1 with⟨h,_⟩|⟨_,_,e⟩|⟨_,h,_⟩<;>try omega
    rw[e];exact rl
   ·rw[sl 1 (by omega)]
    rcases Gz T 1 with⟨h,_⟩|⟨_,_,e⟩|⟨_,h,_⟩<;>try omega
    rw[e,q];rfl
  ·simp only[Bc,gS,QH,decide_eq_false_iff_not]at h;omega
  ·rw[e]at h0;exact absurd rfl h0
 ·intro k hk h2
  rw[th k hk]at h2 ⊢
  rcases pG (room:=room) T k with⟨_,e⟩|⟨_,e⟩|⟨h1,h3,e⟩|⟨_,_,e⟩<;>rw[e]at h2 ⊢<;>simp[AN.zero]at h2
  simp[p2];omega
 ·intro n hn m hm i h1 h2
  have a:=has2 n i (by omega) h1
  have b:=has2 m i (by omega) h2
  omega
 ·intro i hi hn
  simp only[State.B8]at hn
  rw[sl i hi]at hn
  have h8:i<8* T:=by
   rcases Gz T i with⟨h,e⟩|⟨_,h,e⟩|⟨_,_,e⟩
   ·omega
   ·exact h
   ·rw[e]at hn;exact absurd (r9.symm.trans hn) (by decide)
  refine⟨2+i/8,by omega,?_⟩
  rw[th _ (by omega)]
  rcases pG (room:=room) T (2+i/8)with⟨_,_⟩|⟨_,_⟩|⟨h1,h3,e⟩|⟨_,_,_⟩<;>try omega
  rw[e];simp[Bx,p2];omega
 ·rintro n hn m ⟨_,i,hi,h2,_⟩
  exact absurd h2 (ty2 i (by omega))
 ·intro i hi hn
  simp only[State.B8]at hn ⊢
  rw[sl i hi]at hn ⊢
  rcases Gz T i with⟨h,e⟩|⟨_,h,e⟩|⟨_,_,e⟩<;>rw[e]at hn ⊢
  ·left;rfl
  ·by_cases h1:i=1
   ·left;simp[Pn,h1]
   ·right
    simp only[Pn,if_neg h1]
    refine⟨by omega,by omega,?_⟩
    rw[show(1:Int).toNat=1 from rfl,sl 1 (by omega)]
    rcases Gz T 1 with⟨h,_⟩|⟨_,_,e⟩|⟨_,h,_⟩<;>try omega
    rw[e];exact rl
  ·left;rfl
 ·refine⟨λi=>if i=1 then 0 else 1,λi hi hn h0=> ?_⟩
  rw[sl i hi]at h0 ⊢
  rcases Gz T i with⟨h,e⟩|⟨_,h,e⟩|⟨_,_,e⟩<;>rw[e]at h0 ⊢
  ·simp at h0
  ·by_cases h1:i=1
   ·simp[Pn,h1]at h0
   ·simp[Pn,h1]
  ·simp at h0
 ·intro i hi hn h0
  left
  rw[sl i hi]at h0 ⊢
  rcases Gz T i with⟨h,e⟩|⟨_,h,e⟩|⟨_,_,e⟩<;>rw[e]at h0 ⊢
  ·simp at h0
  ·by_cases h1:i=1
   ·simp[Pn,h1]at h0
   ·simp only[Pn,if_neg h1]
    rw[show(1:Int).toNat=1 from rfl,sl 1 (by omega)]
    rcases Gz T 1 with⟨h,_⟩|⟨_,_,e⟩|⟨_,h,_⟩<;>try omega
    rw[e];exact sz
  ·simp at h0
 ·intro i j hi hj h1 h2 _
  rw[sl i hi]at h1
  rw[sl j hj]at h2
  have:∀i,(pO T i).cap.ty=1->i=0:=λi h=>by
   rcases Gz T i with⟨h,_⟩|⟨_,_,e⟩|⟨_,_,e⟩
   ·exact h
   ·rw[e]at h;simp[Pn]at h
   ·rw[e]at h;simp[Bh.zero]at h
  rw[this i h1,this j h2]
 ·intro k hk
  rw[th k hk]
  rcases pG (room:=room) T k with⟨_,e⟩|⟨_,e⟩|⟨h1,h3,e⟩|⟨_,_,e⟩<;>rw[e]<;>exact pX
end
end Go.Ax.M
