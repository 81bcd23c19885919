/- Texts put behind one another: STake, STake2, STake3, STake5, STakeE, STake4, SBelow, SBelow2, STake6. Conditions: none. -/
import Derived.Test.YtohgndhnndeijaaGreatZGv
import Derived.Test.YtohgndhnndeijaaGreatAxShelfZ
set_option linter.all false
set_option maxHeartbeats 9999999
open Nat renaming add_assoc -> Qa, mul_le_mul -> QE, lt_irrefl -> QF
open List renaming length_set -> Qb, append_assoc -> Qd, getElem?_eq_some_iff -> Qe, take_of_length_le -> Qg, getElem?_append_left -> Qh, getD -> Qi, take_succ_eq_append_getElem -> Qk, set_append_left -> Ql, map_set -> Qm, append_eq -> Qn, range -> Qo, length_append -> Qp, getElem?_set -> Qq, getElem?_map -> Qs, length_cons -> Qt, getElem?_set_self -> Qu, length_nil -> Qv, getElem?_eq_none -> Qw, ext_getElem? -> Qx, set_set -> Qy, length_take -> Qz, cons_append -> QA, take_length -> QB, append_nil -> QC, map_nil -> QH
open Go.Proofs.Tryz renaming prog -> Qc
open Bool renaming and_eq_true -> Qf, not_eq_true' -> Qr, not_false -> QD
open Int renaming toNat_natCast -> Qj, add_zero -> QG
namespace Go.Ax
theorem AL.UF{W:AP}{o i:Nat}{x:Au}(h:AL W o x)(ne:i≠o)(y:Au):(W.set i y)[o]?=some x:=by
 have:=h.other ne y []
 rw[QC]at this;exact this
end Go.Ax
namespace Go.Ax.M
open Go Go.Ax
def Cl{α:Type}(f:α->α)(l:List α)(k:Nat):List α:=(l.take k).map f++l.drop k
section
variable {α:Type}{f:α->α}{l:List α}{k:Nat}
theorem O4:Cl f l 0=l:=by simp[Cl]
theorem R3:Cl f l l.length=l.map f:=by simp[Cl]
theorem E5:(Cl f l k).length=l.length:=by simp[Cl];omega
theorem HJ{j:Nat}(hj:j<l.length):(Cl f l k)[j]?=some (if j<k then f l[j]else l[j]):=by
 simp only[Cl]
 by_cases h:j<k
 ·rw[Qh (by simp;omega)];simp[h,hj]
 ·rw[List.getElem?_append_right (by simp;omega)];simp[h]
  rw[List.getElem?_eq_getElem (by omega)];congr 1;congr 1;omega
theorem Lm{x:α}(h:l[k]?=some x):Cl f l (k+1)=(Cl f l k).set k (f x):=by
 have hk:=(Qe.1 h).1
 have hx:=(Qe.1 h).2
 apply Qx
 intro j
 by_cases hj:j<l.length
 ·rw[HJ hj,Qq]
  rw[E5]
  by_cases e:k=j
  ·subst e;simp[hk,hx]
  ·rw[if_neg e,HJ hj]
   by_cases h1:j<k
   ·rw[if_pos h1,if_pos (by omega)]
   ·rw[if_neg h1,if_neg (by omega)]
 ·rw[Qw (by rw[E5];omega),Qw (by rw[Qb,E5];omega)]
theorem O3{x:α}(h:l[k]?=some x)(e:f x=x):Cl f l (k+1)=Cl f l k:=by
 have hk:=(Qe.1 h).1
 have hx:=(Qe.1 h).2
 rw[Lm h,e]
 apply Qx
 intro j
 rw[Qq]
 split
 ·rename_i e2;subst e2;rw[E5,if_pos hk,HJ hk];simp[hx]
 ·rfl
end
end Go.Ax.M
namespace Go.Proofs.YtohgndhnndeijaaGreat.Ax
open Go Go.Ax Go.Ax.M
section
variable {H:AP}{K:AH->AP->Prop}{s:State}{i:Int}{oS oT:Nat}{fS fT:Bool}
theorem Tt{k:Nat}(h:(k:Int)=i):B6 s i (s.slot k)=s.slot k:=by
 have:i.toNat=k:=by omega
 simp only[B6,this];split<;>rfl
theorem TO{s:State}{k:Nat}(h:k<s.AE.length):s.AE[k]?=some (s.slot k):=by simp[State.slot,h,Qi]
theorem R2{s:State}{k:Nat}(h:k<s.AB.length):s.AB[k]?=some (s.AG k):=by simp[State.AG,h,Qi]
theorem PU(hS:H[oS]?=some (.AU 5 (s.AE.map Slot.cells) false))(hT:H[oT]?=some (.AU 13 (s.AB.map AN.cells) false))(hlS:s.AE.length<=1000)(hlT:s.AB.length<=1000)
 (hn:CC s i=false->K (.bool false) H)
 (h:CC s i=true->∀L,K (.bool true) ((H.set oS (AM (Bf s i))).set oT (AJ (Bf s i))++L)):
 AF Qc 207 [stA s oS oT fS fT,nS i] H K:=by
 have kT:=AL.of hT
 have kS:=AL.of hS
 have hne:oS≠oT:=by rintro rfl;rw[hS]at hT;cases hT
 cases he:CC s i with
 |false=>
  have hn:=hn he
  clear h
  refine AF.tidy ?_
  by_cases i0:i<0
  ·refine Aa ok207 ?_;repeat' first|simp only[*,go_sem]|refine orR ?_|(refine sp ?_ ?_<;>intro hc)|fail
   all_goals first|exact⟨rfl,_,rfl⟩|exact⟨rfl,⟨_,rfl⟩,hn⟩
  by_cases i1:(s.AE.length:Int)<=i
  ·refine Aa ok207 ?_;repeat' first|simp only[*,go_sem]|refine orR ?_|(refine sp ?_ ?_<;>intro hc)|fail
   all_goals first|exact⟨rfl,_,rfl⟩|exact⟨rfl,⟨_,rfl⟩,hn⟩
  have j2:(i<(s.AE.length:Int))=True:=eq_true (by omega)
  have j3:(0<=i)=True:=eq_true (by omega)
  have hgi:=A4 (s:=s) (k:=i.toNat) (by omega)
  have i3:Aq ⟨(s.slot i.toNat).cap.ty,(s.slot i.toNat).cap.th,(s.slot i.toNat).cap.ri,(s.slot i.toNat).cap.ba⟩=true:=by
   simp only[CC,decide_eq_false i0,decide_eq_false i1,QD,Bool.true_and,Bool.not_eq_false']at he
   exact he
  refine Aa ok207 ?_;repeat' first|simp only[*,go_sem]|refine orR ?_|(refine sp ?_ ?_<;>intro hc)|refine Dx ?_
  all_goals first|exact⟨rfl,_,rfl⟩|exact⟨rfl,⟨_,rfl⟩,hn⟩
 |true=>
  have h:=h he
  clear hn
  have hb:=he
  simp only[CC,Qf,Qr,decide_eq_false_iff_not,Int.not_lt,Int.not_le]at hb
  obtain⟨i0,i1,i2⟩:=hb
  have j0:(i<0)=False:=eq_false (by omega)
  have j1:((s.AE.length:Int)<=i)=False:=eq_false (by omega)
  have j2:(i<(s.AE.length:Int))=True:=eq_true (by omega)
  have j3:(0<=i)=True:=eq_true i0
  have hgi:=A4 (s:=s) (k:=i.toNat) (by omega)
  have i3:Aq ⟨(s.slot i.toNat).cap.ty,(s.slot i.toNat).cap.th,(s.slot i.toNat).cap.ri,(s.slot i.toNat).cap.ba⟩=false:=i2
  refine Aa ok207 ?_;repeat' first|simp only[*,go_sem]|refine orR ?_|(refine sp ?_ ?_<;>intro hc)|refine Dx ?_
  have e0:H=H.set oS (.AU 5 ((Cl (B6 s i) s.AE 0).map Slot.cells) false):=by rw[O4,I1 hS]
  refine AK.Az [28,1,2,27] ?_;simp only[mpC,go_sem]
  refine AK.heap (H':=H.set oS (.AU 5 ((Cl (B6 s i) s.AE 0).map Slot.cells) false)++[_]) (congrArg (·++[_]) e0) ?_
  refine AK.acc (λk G=>[(28,nS (k:Int))]) (λk G=>H.set oS (.AU 5 ((Cl (B6 s i) s.AE k).map Slot.cells) false)++_::G) (λk G=>True) s.AE.length ?_ (a0:=[]) trivial
  intro k G hk _ next
  refine AK.Jn λW hW=> ?_
  have kT:=hW.YU hT hne
  have kS:=hW.U8 hS
  have kst:=hW.U9
  have kS0:=kS.at
  have kT0:=kT.at
  have kst0:=kst.at
  have kss:=kS.set
  refine AK.unfold ?_
  have hw:=AY (k:=k) (by omega)
  have hl:(Cl (B6 s i) s.AE k).length=s.AE.length:=E5
  have hg1:k<s.AE.length->((Cl (B6 s i) s.AE k).map Slot.cells)[k]?=some [nS (s.slot k).cap.ty,nS (s.slot k).cap.th,nS (s.slot k).cap.ri,nS (s.slot k).cap.ba,nS (s.slot k).up]:=λh=>by
   rw[Qs,HJ h,if_neg (QF _)];simp[State.slot,Qi,h,Slot.cells]
  have hg2:((Cl (B6 s i) s.AE k).map Slot.cells)[i.toNat]?=some [nS (s.slot i.toNat).cap.ty,nS (s.slot i.toNat).cap.th,nS (s.slot i.toNat).cap.ri,nS (s.slot i.toNat).cap.ba,nS (s.slot i.toNat).up]:=by
   have hi:i.toNat<s.AE.length:=by omega
   have es:s.AE[i.toNat]=s.slot i.toNat:=by simp[State.slot,Qi,hi]
   rw[Qs,HJ hi,es,Tt (by omega)];simp[Slot.cells]
  have hg3:k<s.AE.length->(((Cl (B6 s i) s.AE k).map Slot.cells).set k [nS (s.slot k).cap.ty,nS (s.slot k).cap.th,nS (s.slot k).cap.ri,nS (s.slot k).cap.ba,nS (s.slot i.toNat).up])[i.toNat]?=some [nS (s.slot i.toNat).cap.ty,nS (s.slot i.toNat).cap.th,nS (s.slot i.toNat).cap.ri,nS (s.slot i.toNat).cap.ba,nS (s.slot i.toNat).up]:=λh=>by
   rw[Qq]
   split
   ·rename_i e;rw[<-e,if_pos (by rw[List.length_map,hl];exact h)]
   ·exact hg2
  have hneB:oS≠H.length:=λe=>by have:=Am hS;omega
  have ko0:=λy=>kst.UF hneB y
  have ks0:=λy=>kS.Eu y
  have kt0:=λy=>kT.UF hne y
  clear e0 hgi
  repeat' first|simp only[*,AA b207_4.eq_1,AR,AX,apC,Qb,go_sem]|refine orR ?_|(refine sp ?_ ?_<;>intro hc)|fail
  case' true.refine_1.refine_1=>
   have e:((Cl (B6 s i) s.AE k).map Slot.cells).set k [nS (s.slot k).cap.ty,nS (s.slot k).cap.th,nS (s.slot k).cap.ri,nS (s.slot k).cap.ba,nS (s.slot i.toNat).up]=(Cl (B6 s i) s.AE (k+1)).map Slot.cells:=by
    rw[Lm (TO ‹_›),Qm]
    congr 1
    simp only[B6,if_pos (show(s.slot k).up=i by assumption),Slot.cells,Bh.cells,apC]
   rw[e]
  case' true.refine_1.refine_2=>
   have e:Cl (B6 s i) s.AE (k+1)=Cl (B6 s i) s.AE k:=O3 (TO ‹_›) (by simp only[B6,if_neg (show ¬(s.slot k).up=i by assumption)])
   rw[e]at next
  case' true.refine_2=>
   have hk':k=s.AE.length:=by omega
   have e:((Cl (B6 s i) s.AE k).map Slot.cells).set i.toNat [nS 0,nS 0,nS 0,nS 0,nS (-1)]=(Bf s i).AE.map Slot.cells:=by
    rw[hk',R3];simp only[Bf,Qm];rfl
   rw[e]
  all_goals
   have hW:W=_:=hW
   subst hW
   have hms:=Hj hS
   try simp only[hms,Qn]
  case true.refine_1.refine_1=>(refine AK.Az [28,1,2,27] ?_;simp only[mpC,go_sem];refine next _ ‹_› trivial)
  case true.refine_1.refine_2=>(refine AK.Az [28,1,2,27] ?_;simp only[mpC,go_sem];refine next _ ‹_› trivial)
  clear next kT kS kst kS0 kT0 kst0 kss ko0 ks0 kt0 hg1 hg2 hg3 hms e hw hl
  generalize hH2:H.set oS (.AU 5 ((Bf s i).AE.map Slot.cells) false)=H2 at*
  have hlen:H2.length=H.length:=by rw[<-hH2,Qb]
  have hS2:H2[oS]?=some (AM (Bf s i)):=by rw[<-hH2];exact(AL.of hS).Eu _
  have cT:H2[oT]?=some (.AU 13 (s.AB.map AN.cells) false):=by rw[<-hH2];exact(AL.of hT).UF hne _
  have e0:H2=H2.set oT (.AU 13 ((Cl (CX i) s.AB 0).map AN.cells) false):=by rw[O4,I1 cT]
  refine AK.Az [59,1,2,58] ?_;simp only[mpC,go_sem]
  refine AK.heap (H':=H2.set oT (.AU 13 ((Cl (CX i) s.AB 0).map AN.cells) false)++_::_) (congrArg (·++_::_) e0) ?_
  refine AK.acc (λk G=>[(59,nS (k:Int))]) (λk G=>H2.set oT (.AU 13 ((Cl (CX i) s.AB k).map AN.cells) false)++_::G) (λk G=>True) s.AB.length ?_ (a0:=G) trivial
  clear e0 hk' hc
  intro k G hk _ next
  refine AK.Jn λW hW=> ?_
  have kS:=hW.YU hS2 hne.symm
  have kT:=hW.U8 cT
  have kst:=hW.U9
  rw[hlen]at kst
  have kT0:=kT.at
  have kst0:=kst.at
  have kts:=kT.set
  refine AK.unfold ?_
  have hw:=AY (k:=k) (by omega)
  have hwi:IntKind.wrap .i64 (i+1)=i+1:=w64 (by omega) (by omega)
  have hl:(Cl (CX i) s.AB k).length=s.AB.length:=E5
  have hg1:k<s.AB.length->((Cl (CX i) s.AB k).map AN.cells)[k]?=some [nS (s.AG k).ty,nS (s.AG k).bits,nS (s.AG k).base,nS (s.AG k).size,nS (s.AG k).used,nS (s.AG k).from_,nS (s.AG k).BF,.bool (s.AG k).full,nT (s.AG k).word,nT (s.AG k).d0,nT (s.AG k).d1,nT (s.AG k).d2,nT (s.AG k).d3]:=λh=>by
   rw[Qs,HJ h,if_neg (QF _)];simp[State.AG,Qi,h,AN.cells]
  repeat' first|simp only[*,AA b207_8.eq_1,AR,AX,apC,Qb,go_sem]|refine orR ?_|(refine sp ?_ ?_<;>intro hc)|fail
  case' true.refine_2.refine_1.refine_1=>
   have e:((Cl (CX i) s.AB k).map AN.cells).set k [nS (s.AG k).ty,nS (s.AG k).bits,nS (s.AG k).base,nS (s.AG k).size,nS (s.AG k).used,nS 0,nS (s.AG k).BF,.bool (s.AG k).full,nT (s.AG k).word,nT (s.AG k).d0,nT (s.AG k).d1,nT (s.AG k).d2,nT (s.AG k).d3]=(Cl (CX i) s.AB (k+1)).map AN.cells:=by
    rw[Lm (R2 ‹_›),Qm]
    congr 1
    simp only[CX,if_pos (show(s.AG k).from_=i+1 by assumption),AN.cells]
   rw[e]
  case' true.refine_2.refine_1.refine_2=>
   have e:Cl (CX i) s.AB (k+1)=Cl (CX i) s.AB k:=O3 (R2 ‹_›) (by simp only[CX,if_neg (show ¬(s.AG k).from_=i+1 by assumption)])
   rw[e]at next
  all_goals
   have hW:W=_:=hW
   subst hW
   have hms:=Hj cT
   try simp only[hms,Qn]
  case true.refine_2.refine_1.refine_1=>(refine AK.Az [59,1,2,58] ?_;simp only[mpC,go_sem];refine next _ ‹_› trivial)
  case true.refine_2.refine_1.refine_2=>(refine AK.Az [59,1,2,58] ?_;simp only[mpC,go_sem];refine next _ ‹_› trivial)
  have hk':k=s.AB.length:=by omega
  rw[hk',R3,<-hH2]
  exact h _
end
end Go.Proofs.YtohgndhnndeijaaGreat.Ax
namespace Go.Ax
theorem ac{p:Nat->Bool}{n:Nat}:decide (0<=Gx p n)=!(Qo n).all λk=>!p k:=by
 cases h:(Qo n).all λk=>!p k with
 |true=>rw[G4 h];rfl
 |false=>
  rw[List.all_eq_false]at h
  obtain⟨k,hk,hp⟩:=h
  have hp:p k=true:=by simpa using hp
  obtain⟨j,hj⟩:∃j,(Qo n).find? p=some j:=by
   cases hf:(Qo n).find? p with
   |none=>rw[List.find?_eq_none]at hf;exact absurd hp (hf k hk)
   |some j=>exact⟨j,rfl⟩
  have e:Gx p n=(j:Int):=by simp[Gx,hj]
  rw[e];simp
end Go.Ax
namespace Go.Proofs.YtohgndhnndeijaaGreat.Ax
open Go Go.Ax Go.Ax.M
section
variable {H:AP}{K:AH->AP->Prop}{s:State}{i:Int}{oS oT:Nat}{fS fT rS rT:Bool}
theorem Le{g:FuncId}{cap:List AH}{p:Nat->Bool}(hS:jI H oS s rS)(hl:s.AE.length<=1000)(hc:Di Qc g=true)
 (hp:∀k,k<s.AE.length->∀K':AH->AP->Prop,K' (.bool (p k)) H->AF Qc g (.agg (s.slot k).cells::cap) H K') (h:K (nS (Gx p s.AE.length)) H):
 AF Qc 264 [.slice oS s.AE.length 0 s.AE.length fS,.func g cap] H K:=by
 refine Aa ok264 ?_;repeat' first|simp only[*,go_sem]|apply orR|(apply sp<;>intro hc)|fail
 refine AK.Az [8,0,1,7] ?_;simp only[mpC,go_sem]
 refine AK.aB (λk=>(Qo k).all (λj=>!p j)=true) s.AE.length (by simp) λk hk hI next=> ?_
 refine AK.unfold ?_
 have hw:=AY (k:=k) (by omega)
 have hg:k<s.AE.length->_:=λh=>A4 (s:=s) (k:=k) h
 have hp':k<s.AE.length->∀K':AH->AP->Prop,K' (.bool (p k)) H->AF Qc g (.agg (s.slot k).cells::cap) H K':=hp k
 clear hp
 repeat' first|simp only[*,AA b264_3.eq_1,AR,AX,go_sem]|apply orR|(apply sp<;>intro hc)|refine hp' ‹_› _ ?_
 ·exact ki h (Jl ‹_› hI ‹_›).symm
 ·(refine AK.Az [8,0,1,7] ?_;simp only[mpC,go_sem];refine next ‹_› ?_)
  rw[Da (N:=0),hI];simp[*]
 ·have hk:k=s.AE.length:=by omega
  subst hk
  exact ki h (G4 hI).symm
theorem Jw{g:FuncId}{cap:List AH}{p:Nat->Bool}(hS:jI H oS s rS)(hl:s.AE.length<=1000)(hc:Di Qc g=true)
 (hp:∀k,k<s.AE.length->∀K':AH->AP->Prop,K' (.bool (p k)) H->AF Qc g (.agg (s.slot k).cells::cap) H K') (h:K (.bool (!(Qo s.AE.length).all λk=>!p k)) H):
 AF Qc 256 [.slice oS s.AE.length 0 s.AE.length fS,.func g cap] H K:=by
 rw[<-ac]at h
 refine Aa ok256 ?_;repeat' first|simp only[*,go_sem]|apply orR|(apply sp<;>intro hc)|refine Le (p:=p) hS hl hc hp ?_
theorem OX{t:Nat}{k:Nat}{o:Nat}(hb:H[o]?=some (.AU 1 [[nS (t:Int)]] false))(h:K (.bool (DV s t k)) H):AF Qc 257 [.agg (s.slot k).cells,.ptr o 1 0 0] H K:=by
 have kb:=AL.of hb
 refine AF.tidy ?_
 unfold Slot.cells
 refine Aa ok257 ?_;repeat' first|simp only[*,kb,apC,go_sem]|apply orR|(apply sp<;>intro hc)|refine Dx ?_
 all_goals exact tb h ⟨_,rfl⟩ (by simp only[DV];rw[show Aq (s.slot k).cap=_ by assumption];rfl)
theorem Rz{t:Nat}(hS:jI H oS s rS)(hlS:s.AE.length<=1000)(h:K (.bool (Kf s t)) H):AF Qc 241 [stA s oS oT fS fT,nS (t:Int)] H K:=by
 have kS:=AL.of hS
 refine AF.tidy ?_
 refine Aa ok241 ?_;repeat' first|simp only[*,go_sem]|apply orR|(apply sp<;>intro hc)|refine Jw (p:=λk=>DV s t k) (kS _) hlS (HZ ok257) (λk hk K' hK'=>OX BP hK') ?_
 exact tb h ⟨_,rfl⟩ (by simp only[Kf])
theorem KY{x0 x1 x2:Int}{n m:Nat}(hS:H[oS]?=some (AM s))(hT:H[oT]?=some (AJ s))(en:s.AE.length=n)(em:s.AB.length=m)(eg:s.AS.AI=x0/\s.AS.AE=x1/\s.AS.AB=x2)(hlS:n<=1000)(hlT:m<=1000)
 (hn:CC s i=false->K (.bool false) H)
 (h:CC s i=true->∀L,K (.bool true) ((H.set oS (AM (Bf s i))).set oT (AJ (Bf s i))++L)):
 AF Qc 207 [.agg [nS x0,nS x1,nS x2,.slice oS n 0 n fS,.slice oT m 0 m fT],nS i] H K:=by
 obtain⟨rfl,rfl,rfl⟩:=eg
 subst en em
 exact PU hS hT hlS hlT hn h
end
section
variable {H:AP}{K:AH->AP->Prop}{s:State}{i:Int}{oS oT oL:Nat}{fS fT fL rS rT rL:Bool}
theorem O1{x0 x1 x2:Int}{n m t:Nat}(hS:jI H oS s rS)(en:s.AE.length=n)(em:s.AB.length=m)(eg:s.AS.AI=x0/\s.AS.AE=x1/\s.AS.AB=x2)(hlS:n<=1000)(h:K (.bool (Kf s t)) H):
 AF Qc 241 [.agg [nS x0,nS x1,nS x2,.slice oS n 0 n fS,.slice oT m 0 m fT],nS (t:Int)] H K:=by
 obtain⟨rfl,rfl,rfl⟩:=eg
 subst en em
 exact Rz hS hlS h
theorem Nk{x0 x1 x2:Int}{n m t:Nat}(hS:jI H oS s rS)(hT:jU H oT s rT)(en:s.AE.length=n)(em:s.AB.length=m)(eg:s.AS.AI=x0/\s.AS.AE=x1/\s.AS.AB=x2)(hlS:n<=1000)(hlT:m<=1000)(hg:0<=s.AS.AI/\s.AS.AI<=1000)
 (ht:t<m) (hlost:DG s t=false) (h:K (.Bj [nS 0,.bool false]) H):
 AF Qc 208 [.agg [nS x0,nS x1,nS x2,.slice oS n 0 n fS,.slice oT m 0 m fT],nS (t:Int)] H K:=by
 obtain⟨rfl,rfl,rfl⟩:=eg
 subst en em
 have kS:=AL.of hS
 have kT:=AL.of hT
 have hgt:=BI (s:=s) ht
 have hw:IntKind.wrap .i64 (2+s.AS.AI)=2+s.AS.AI:=w64 (by omega) (by omega)
 have ht':((t:Int)<(s.AB.length:Int))=True:=eq_true (by omega)
 refine AF.tidy ?_
 refine Aa ok208 ?_;repeat' first|simp only[*,AX,Qj,go_sem]|apply orR|(apply sp<;>intro hc)|refine O1 (kS _) rfl rfl ⟨rfl,rfl,rfl⟩ hlS ?_
 all_goals first|exact⟨rfl,_,rfl⟩|exact⟨rfl,⟨_,rfl⟩,h⟩|(exfalso;simp[DG,Bc, *]at hlost;done)|(exfalso;simp_all[DG,Bc];done)
theorem K4{l:List Int}:∀(s:State) (n:Int),(AZ s n l).1.AE.length=s.AE.length/\(AZ s n l).1.AB.length=s.AB.length/\(AZ s n l).1.AS=s.AS:=by
 induction l with
 |nil=>exact λs n=>⟨rfl,rfl,rfl⟩
 |cons i l ih=>
  intro s n
  have e:AZ s n (i::l)=AZ (BA (s,n) i).1 (BA (s,n) i).2 l:=rfl
  rw[e]
  have:=ih (BA (s,n) i).1 (BA (s,n) i).2
  have h2:(BA (s,n) i).1.AE.length=s.AE.length/\(BA (s,n) i).1.AB.length=s.AB.length/\(BA (s,n) i).1.AS=s.AS:=by
   simp only[BA];cases CC s i<;>simp[Bf]
  exact⟨this.1.trans h2.1,this.2.1.trans h2.2.1,this.2.2.trans h2.2.2⟩
theorem KA{l:List Int}{k:Nat}{s:State}{n:Int}(hk:k<l.length):AZ s n (l.take (k+1))=BA (AZ s n (l.take k)) (l.getD k 0):=by
 rw[Qk hk,AZ,List.foldl_append];simp[AZ,Qi,hk]
theorem K5{l:List Int}:∀(s:State) (n:Int),n<=(AZ s n l).2/\(AZ s n l).2<=n+l.length:=by
 induction l with
 |nil=>exact λs n=>⟨Int.le_refl _,by simp[AZ]⟩
 |cons i l ih=>
  intro s n
  have e:AZ s n (i::l)=AZ (BA (s,n) i).1 (BA (s,n) i).2 l:=rfl
  rw[e]
  have:=ih (BA (s,n) i).1 (BA (s,n) i).2
  have h2:n<=(BA (s,n) i).2/\(BA (s,n) i).2<=n+1:=by
   simp only[BA];cases CC s i<;>simp<;>omega
  simp only[Qt]
  omega
end
end Go.Proofs.YtohgndhnndeijaaGreat.Ax
namespace Go.Ax
theorem dl{H G L:AP}{o p:Nat}{a b y z:Au}(h1:o<H.length)(h2:p<H.length)(hne:o≠p):
 ((((H.set o a).set p b++G).set o y).set p z)++L=(H.set o y).set p z++(G++L):=by
 rw[Ql _ _ (by simpa using h1),Ql _ _ (by simpa using h2),Qd]
 congr 1
 rw[List.set_comm b y hne.symm,Qy,Qy]
theorem ag{H G:AP}{o p:Nat}{a b:Au}(h1:o<H.length)(hne:o≠p):((H.set o a).set p b++G)[o]?=some a:=by
 rw[Qh (by simpa using h1),List.getElem?_set_ne hne.symm,Qu h1]
theorem ah{H G:AP}{o p:Nat}{a b:Au}(h2:p<H.length):((H.set o a).set p b++G)[p]?=some b:=by
 rw[Qh (by simpa using h2),Qu (by simpa using h2)]
theorem Vj{H G:AP}{o p:Nat}{a b z:Au}(h2:p<H.length):((H.set o a).set p b++G).set p z=(H.set o a).set p z++G:=by
 rw[Ql _ _ (by simpa using h2),Qy]
theorem Hid.two1{W H L:AP}{o p:Nat}{a b:Au}(h:Hid (W=(H.set o a).set p b++L))(h1:o<H.length)(hne:o≠p):AL W o a:=by
 have h:W=_:=h;rw[h];exact .of (ag h1 hne)
theorem Hid.nD{W H L:AP}{o p:Nat}{a b:Au}(h:Hid (W=(H.set o a).set p b++L))(h2:p<H.length):AL W p b:=by
 have h:W=_:=h;rw[h];exact .of (ah h2)
theorem Hid.nE{W H L:AP}{o p:Nat}{a b c:Au}(h:Hid (W=(H.set o a).set p b++c::L)):AL W H.length c:=by
 have h:W=_:=h;rw[h]
 have:=BH (H:=(H.set o a).set p b) (a:=c) (L:=L)
 rw[Qb,Qb]at this;exact .of this
theorem Hid.nF{W H L:AP}{o p:Nat}{a b c d:Au}(h:Hid (W=(H.set o a).set p b++c::d::L)):AL W (H.length+1) d:=by
 have h:W=_:=h;rw[h]
 have:=BP (H:=(H.set o a).set p b) (a:=c) (b:=d) (L:=L)
 rw[Qb,Qb]at this;exact .of this
end Go.Ax
namespace Go.Ax.M
open Go Go.Ax
theorem bQ{b:Int}(h:0<=b/\b<=4):Dl .shl .i64 1 b=some (nS (p2 b))/\1<=p2 b/\p2 b<=16:=by
 have:b=0\/Bv b 1 4=true:=by simp[Bv];omega
 rcases this with rfl|h
 ·have e:p2 0=1:=by simp[p2]
  rw[e];exact⟨rfl,by decide,by decide⟩
 ·have:=C4 h
  exact⟨I3 h,by omega,by omega⟩
theorem bI{x:AN}(h:x.ty≠2):Cr x=[]:=by simp[Cr,h]
theorem ZT{x:AN}(h:x.ty=2):(Cr x).length=(p2 x.bits).toNat:=by simp[Cr,h]
theorem ZS{x:AN}(h:x.ty=2){k:Nat}(hk:k<(p2 x.bits).toNat):(Cr x).getD k 0=x.base+k:=by
 simp[Cr,h,Qi,hk]
end Go.Ax.M
namespace Go.Proofs.YtohgndhnndeijaaGreat.Ax
open Go Go.Ax Go.Ax.M
section
variable {H:AP}{K:AH->AP->Prop}{s:State}{i:Int}{oS oT oL:Nat}{fS fT fL rS rT rL:Bool}
theorem Vt{x0 x1 x2:Int}{n m t:Nat}(hS:H[oS]?=some (AM s))(hT:H[oT]?=some (AJ s))(en:s.AE.length=n)(em:s.AB.length=m)(eg:s.AS.AI=x0/\s.AS.AE=x1/\s.AS.AB=x2)(hlS:n<=1000)(hlT:m<=1000)(hg:0<=s.AS.AI/\s.AS.AI<=1000)
 (ht:t<m) (hb:E7 s) (hn:DG s t=false->K (.Bj [nS 0,.bool false]) H)
 (h:DG s t=true->∀L,K (.Bj [nS (FM s t).2,.bool true]) ((H.set oS (AM (FM s t).1)).set oT (AJ (FM s t).1)++L)):
 AF Qc 208 [.agg [nS x0,nS x1,nS x2,.slice oS n 0 n fS,.slice oT m 0 m fT],nS (t:Int)] H K:=by
 cases hl:DG s t with
 |false=>exact Nk hS hT en em eg hlS hlT hg ht hl (hn hl)
 |true=>
 have h:=h hl
 clear hn
 obtain⟨rfl,rfl,rfl⟩:=eg
 subst en em
 have kS:AL H oS (.AU 5 (s.AE.map Slot.cells) false):=AL.of hS
 have kT:AL H oT (.AU 13 (s.AB.map AN.cells) false):=AL.of hT
 have hne:oS≠oT:=by rintro rfl;rw[hS]at hT;cases hT
 have lS:=Am hS
 have lT:=Am hT
 have hgt:=BI (s:=s) ht
 have hw:IntKind.wrap .i64 (2+s.AS.AI)=2+s.AS.AI:=w64 (by omega) (by omega)
 have ht':((t:Int)<(s.AB.length:Int))=True:=eq_true (by omega)
 have hbt:=hb.at ht
 obtain⟨hsh,hp1,hp2⟩:=bQ ⟨hbt.1,hbt.2.1⟩
 have hN:(((p2 (s.AG t).bits).toNat:Nat):Int)=p2 (s.AG t).bits:=by omega
 have hN':(p2 (s.AG t).bits).toNat<=16:=by omega
 have hlos:FM s t=({(AZ s 0 (Cr (s.AG t))).1 with AB:=(AZ s 0 (Cr (s.AG t))).1.AB.set t .zero},(AZ s 0 (Cr (s.AG t))).2):=rfl
 have lnb:=hl
 simp only[DG,Qf,Qr,decide_eq_false_iff_not]at lnb
 obtain⟨hty,hroot,hheld⟩:=lnb
 have hty:((s.AG t).ty=0)=False:=eq_false hty
 refine Aa ok208 ?_;repeat' first|simp only[*,AX,Qj,go_sem]|refine orR ?_|(refine sp ?_ ?_<;>intro hc)|refine O1 (kS _) rfl rfl ⟨rfl,rfl,rfl⟩ hlS ?_
 case' true.refine_1.refine_2=>exfalso;simp[Bc]at hroot;omega
 all_goals
  have e0:H=(H.set oS (AM (AZ s 0 ((Cr (s.AG t)).take 0)).1)).set oT (AJ (AZ s 0 ((Cr (s.AG t)).take 0)).1):=by
   simp only[List.take_zero]
   show H=(H.set oS (AM s)).set oT (AJ s)
   rw[I1 hS,I1 hT]
  refine AK.Az [39,8,1,2,6,38] ?_;simp only[mpC,go_sem]
  refine AK.heap (H':=(H.set oS (AM (AZ s 0 ((Cr (s.AG t)).take 0)).1)).set oT (AJ (AZ s 0 ((Cr (s.AG t)).take 0)).1)++[_,_]) (congrArg (·++[_,_]) e0) ?_
  refine AK.acc (λk G=>[(39,nS (k:Int)),(8,nS (AZ s 0 ((Cr (s.AG t)).take k)).2)]) (λk G=>(H.set oS (AM (AZ s 0 ((Cr (s.AG t)).take k)).1)).set oT (AJ (AZ s 0 ((Cr (s.AG t)).take k)).1)++_::_::G) (λk G=>True) (p2 (s.AG t).bits).toNat ?_ (a0:=[]) trivial
  clear e0 kS kT
  intro k G hk _ next
  refine AK.Jn λW hW=> ?_
  have hlen:=K4 (l:=(Cr (s.AG t)).take k) s 0
  have hnum:=K5 (l:=(Cr (s.AG t)).take k) s 0
  rw[Qz]at hnum
  have hsucc:=λh=>KA (l:=Cr (s.AG t)) (k:=k) (s:=s) (n:=0) h
  have hlast:(Cr (s.AG t)).length<=k->AZ s 0 ((Cr (s.AG t)).take k)=AZ s 0 (Cr (s.AG t)):=λh=>by rw[Qg h]
  have hstay:(Cr (s.AG t)).length<=k->AZ s 0 ((Cr (s.AG t)).take (k+1))=AZ s 0 ((Cr (s.AG t)).take k):=λh=>by rw[Qg h,Qg (by omega)]
  generalize hE:AZ s 0 ((Cr (s.AG t)).take k)=E at*
  obtain⟨u,n⟩:=E
  simp only at hlen hnum hsucc hW hlast hstay ⊢
  obtain⟨en,em,eg⟩:=hlen
  have hgg:u.AS.AI=s.AS.AI/\u.AS.AE=s.AS.AE/\u.AS.AB=s.AS.AB:=by rw[eg];exact⟨rfl,rfl,rfl⟩
  have kS:AL W oS (.AU 5 (u.AE.map Slot.cells) false):=hW.two1 lS hne
  have kT:AL W oT (.AU 13 (u.AB.map AN.cells) false):=hW.nD lT
  have kb:=hW.nE
  have kx:=hW.nF
  have kb0:=kb.at
  have kx0:=kx.at
  have kS0:=kS.at
  have kT0:=kT.at
  have hgu:=BI (s:=u) (k:=t) (by rw[em];exact ht)
  have en':=NQ en
  have em':=NQ em
  have hwk:=AY (k:=k) (by omega)
  have hwn:IntKind.wrap .i64 (n+1)=n+1:=w64 (by omega) (by omega)
  have hwb:IntKind.wrap .i64 ((s.AG t).base+k)=(s.AG t).base+k:=w64 (by omega) (by omega)
  have hlt:((k:Int)<p2 (s.AG t).bits)=(k<(p2 (s.AG t).bits).toNat):=by rw[<-hN];simp
  refine AK.unfold ?_
  by_cases h2:(s.AG t).ty=2
  ·have hln:=ZT h2
   have hgn:k<(p2 (s.AG t).bits).toNat->_:=λh=>ZS h2 h
   have hts:=kT.set
   repeat' first|simp only[*,kb,AA b208_4.eq_1,AX,apC,Qb,go_sem]|refine orR ?_|(refine sp ?_ ?_<;>intro hc)|refine KY (s:=u) kS0 kT0 en em hgg hlS hlT (λhc=> ?_) (λhc L=> ?_)
   case pos.refine_1.refine_1=>
    have e:=hsucc (by omega)
    rw[hgn ‹_›]at e
    simp only[BA,show CC u ((s.AG t).base+k)=false by assumption,cond_false]at e
    simp only[e]at next
    have hW:W=_:=hW
    subst hW
    (refine AK.Az [39,8,1,2,6,38] ?_;simp only[mpC,go_sem];refine next _ ‹_› trivial)
   case pos.refine_1.refine_2=>
    have e:=hsucc (by omega)
    rw[hgn ‹_›]at e
    simp only[BA,show CC u ((s.AG t).base+k)=true by assumption,cond_true]at e
    simp only[e]at next
    have hW:W=_:=hW
    subst hW
    rw[dl lS lT hne,QA,QA]
    (refine AK.Az [39,8,1,2,6,38] ?_;simp only[mpC,go_sem];refine next _ ‹_› trivial)
   have hk':k=(p2 (s.AG t).bits).toNat:=by omega
   have e:=hlast (by omega)
   rw[hlos,<-e]at h
   have hW:W=_:=hW
   subst hW
   try simp only[Qn]
   rw[Vj lT]
   simp only[AM,AJ,Qm,AN.cells,AN.zero]at h ⊢
   exact h _
  ·have hln:=bI h2
   have h2:((s.AG t).ty=2)=False:=eq_false h2
   have hts:=kT.set
   repeat' first|simp only[*,kb,AA b208_4.eq_1,AX,apC,Qb,go_sem]|refine orR ?_|(refine sp ?_ ?_<;>intro hc)|fail
   case neg.refine_1=>
    have e:=hstay (by rw[hln];simp)
    simp only[e]at next
    have hW:W=_:=hW
    subst hW
    (refine AK.Az [39,8,1,2,6,38] ?_;simp only[mpC,go_sem];refine next _ ‹_› trivial)
   have e:=hlast (by rw[hln];simp)
   rw[hlos,<-e]at h
   have hW:W=_:=hW
   subst hW
   try simp only[Qn]
   rw[Vj lT]
   simp only[AM,AJ,Qm,AN.cells,AN.zero]at h ⊢
   exact h _
end
end Go.Proofs.YtohgndhnndeijaaGreat.Ax
namespace Go.Ax.M
open Go Go.Ax
theorem Zd{k:Nat}{u v:State}{n m:Int}(h:pass u n=(v,m,true)):DN (k+1) u n=DN k v m:=by rw[DN,h];rfl
theorem Wj{k:Nat}{u v:State}{n m:Int}(h:pass u n=(v,m,false)):DN (k+1) u n=(v,m):=by rw[DN,h];rfl
end Go.Ax.M
namespace Go.Proofs.YtohgndhnndeijaaGreat.Ax
open Go Go.Ax Go.Ax.M
section
variable {H:AP}{K:AH->AP->Prop}{s:State}{i:Int}{oS oT oL:Nat}{fS fT fL rS rT rL:Bool}
theorem Hu{l:List Int}(hL:H[oL]?=some (.AU 1 (ints l) rL))(hS:jI H oS s rS)(hT:jU H oT s rT)(DR:BN s=true)(hl:l.length<=10000)
 (h:K (.Bj [BT (DD s l).1 H.length (H.length+1) false false,nS (DD s l).2]) (H++[AM (DD s l).1,AJ (DD s l).1])):
 AF Qc 152 [stA s oS oT fS fT,.slice oL l.length 0 l.length fL] H K:=by
 have kS:=AL.of hS
 have kT:=AL.of hT
 have kL:=AL.of hL
 have hlS:=FL DR
 have hlT:=Gm DR
 have inv:=D8.1 DR
 have hg:0<=s.AS.AI/\s.AS.AI<=1000:=by
  have:=inv.AS
  simp[Ee,Bv]at this;omega
 have hbits:=Lt inv
 refine AF.gc ?_
 refine Aa ok152 ?_;repeat' first|simp only[*,DR,BT,AM,AJ,Qa,go_sem]|refine orR ?_|(refine sp ?_ ?_<;>intro hc)|refine A3 (kS _) (kT _) hlS hlT (DL DR) (DM DR) ?_|refine AW (by first|exact BH|exact Bb rfl) (by first|exact BH|exact Bb rfl) ?_
 refine AK.Az [21,6,2,4,19,20] ?_;simp only[mpC,go_sem]
 refine AK.acc (λk G=>[(21,nS (k:Int)),(6,nS (AZ s 0 (l.take k)).2)]) (λk G=>H++_::_::AM (AZ s 0 (l.take k)).1::AJ (AZ s 0 (l.take k)).1::G) (λk G=>True) l.length ?_ (a0:=[]) trivial
 intro k G hk _ next
 have hlen:=K4 (l:=l.take k) s 0
 have hnum:=K5 (l:=l.take k) s 0
 rw[Qz]at hnum
 have hsucc:=λh=>KA (l:=l) (k:=k) (s:=s) (n:=0) h
 have hall:k=l.length->l.take k=l:=λh=>by rw[h,QB]
 generalize hE:AZ s 0 (l.take k)=E at*
 obtain⟨u,n⟩:=E
 simp only at hlen hnum hsucc ⊢
 obtain⟨en,em,eg⟩:=hlen
 have hgg:u.AS.AI=s.AS.AI/\u.AS.AE=s.AS.AE/\u.AS.AB=s.AS.AB:=by rw[eg];exact⟨rfl,rfl,rfl⟩
 refine AK.unfold ?_
 have hw:=AY (k:=k) (by omega)
 have hwn:IntKind.wrap .i64 (n+1)=n+1:=w64 (by omega) (by omega)
 have hgl:k<l.length->_:=λh=>Bt (l:=l) (k:=k) h
 have en':=NQ en
 have em':=NQ em
 repeat' first|simp only[*,AA b152_4.eq_1,AR,AX,AM,AJ,Qa,apC,go_sem]|refine orR ?_|(refine sp ?_ ?_<;>intro hc)|refine KY (s:=u) BO BR en em hgg hlS hlT (λhc=> ?_) (λhc L=> ?_)
 case refine_1.refine_1=>
  have e:=hsucc ‹_›
  simp only[BA,show CC u (l.getD k 0)=false by assumption,cond_false]at e
  simp only[e]at next
  (refine AK.Az [21,6,2,4,19,20] ?_;simp only[mpC,go_sem];refine next _ ‹_› trivial)
 case refine_1.refine_2=>
  have e:=hsucc ‹_›
  simp only[BA,show CC u (l.getD k 0)=true by assumption,cond_true]at e
  simp only[e]at next
  (refine AK.Az [21,6,2,4,19,20] ?_;simp only[mpC,go_sem];refine next _ ‹_› trivial)
 have hk':k=l.length:=by omega
 rw[hall hk']at hE
 have less:Kp s u:=by have:=Gj (s:=s) (n:=0) (l:=l);rw[hE]at this;exact this
 have hpas:DD s l=DN (s.AB.length+1) u n:=by simp only[DD,hE]
 rw[hpas]at h
 have hku:kinds u+0<=s.AB.length:=by have:=VA (u:=u);omega
 have KD:0<=n/\n<=10000+16000*((0:Nat):Int):=by omega
 clear next hsucc hall hE hw hwn hgl hk' hk hpas hnum en em eg hgg en' em' kS kT kL
 refine AK.Az [9,6,2,4] ?_;simp only[mpC,go_sem]
 refine AK.acc (α:=(State×Int)×AP) (λk a=>[(9,.bool true),(6,nS a.1.2)]) (λk a=>H++_::_::AM a.1.1::AJ a.1.1::a.2) (λk a=>Kp s a.1.1/\kinds a.1.1+k<=s.AB.length/\0<=a.1.2/\a.1.2<=10000+16000*(k:Int)/\DN (s.AB.length+1-k) a.1.1 a.1.2=DN (s.AB.length+1) u n) s.AB.length ?_ (a0:=((u,n),G)) ⟨less,hku,KD.1,KD.2,rfl⟩
 clear less hku KD
 intro k a hk I next
 obtain⟨⟨v,m⟩,G⟩:=a
 obtain⟨lv,hkk,m0,m1,hps⟩:=I
 simp only at lv hkk m0 m1 hps next ⊢
 refine AK.unfold ?_
 repeat' first|simp only[*,AA b152_11.eq_1,AM,AJ,Qa,apC,go_sem]|refine orR ?_|(refine sp ?_ ?_<;>intro hc)|fail
 refine AK.Az [35,6,9,2,4,34] ?_;simp only[mpC,go_sem]
 refine AK.acc (λj G=>[(35,nS (j:Int)),(6,nS (rounds v m j).2.1),(9,.bool (rounds v m j).2.2)]) (λj G=>H++_::_::AM (rounds v m j).1::AJ (rounds v m j).1::G) (λj G=>True) s.AB.length ?_ (a0:=G) trivial
 intro j G hj _ next2
 have hst:=HD (u:=v) (n:=m) (lv.bits hbits) j (by rw[lv.lT];exact hj)
 have hsucc:rounds v m (j+1)=FB (rounds v m j) j:=KV
 have hall:j=s.AB.length->pass v m=rounds v m j:=λe=>by rw[JK,lv.lT,e]
 generalize rounds v m j=p at*
 obtain⟨w,q,f⟩:=p
 simp only at hst hsucc ⊢
 obtain⟨lw,hkw,q0,q1⟩:=hst
 have lsw:=lv.trans lw
 have hbw:=lsw.bits hbits
 have en:=lsw.lS
 have em:=lsw.lT
 have eg:=lsw.AS
 have hgg:w.AS.AI=s.AS.AI/\w.AS.AE=s.AS.AE/\w.AS.AB=s.AS.AB:=by rw[eg];exact⟨rfl,rfl,rfl⟩
 have hgc:0<=w.AS.AI/\w.AS.AI<=1000:=by rw[eg];exact hg
 have hlost:j<s.AB.length->DG w j=true->0<=(FM w j).2/\(FM w j).2<=16:=λhj hl=>by
  have:=S3 hl (by rw[em];exact hj)
  exact⟨this.2.2.1,this.2.2.2 hbw⟩
 have en':=NQ en
 have em':=NQ em
 refine AK.unfold ?_
 have hw:=AY (k:=j) (by omega)
 have hwq:IntKind.wrap .i64 q=q:=w64 (by omega) (by omega)
 have hwr:j<s.AB.length->DG w j=true->IntKind.wrap .i64 (q+(FM w j).2)=q+(FM w j).2:=λh1 h2=>by
  have:=hlost h1 h2
  exact w64 (by omega) (by omega)
 clear hlost
 repeat' first|simp only[*,AA b152_9.eq_1,AR,AX,AM,AJ,Qa,QG,apC,go_sem]|refine orR ?_|(refine sp ?_ ?_<;>intro hc)|refine Vt (s:=w) BO BR en em hgg hlS hlT hgc ‹_› hbw (λhc=> ?_) (λhc L=> ?_)
 case refine_2.refine_1.refine_1=>
  simp only[FB,show DG w j=false by assumption,cond_false]at hsucc
  simp only[hsucc]at next2
  (refine AK.Az [35,6,9,2,4,34] ?_;simp only[mpC,go_sem];refine next2 _ ‹_› trivial)
 case refine_2.refine_1.refine_2=>
  simp only[FB,show DG w j=true by assumption,cond_true]at hsucc
  simp only[hsucc]at next2
  (refine AK.Az [35,6,9,2,4,34] ?_;simp only[mpC,go_sem];refine next2 _ ‹_› trivial)
 have hp:=hall (by omega)
 have eN:s.AB.length+1-k=(s.AB.length-k)+1:=by omega
 rw[eN]at hps
 clear next2 hsucc hall hw hwq hwr
 cases f with
 |true=>
  rw[Zd hp]at hps
  simp only[cond_true]at hkw
  (refine AK.Az [9,6,2,4] ?_;simp only[mpC,go_sem];refine next ((w,q),G) (by omega) ⟨lsw,by simp only;omega,by simp only;omega,by simp only;omega,by simp only;rw[<-hps];congr 1;omega⟩)
 |false=>
  rw[Wj hp]at hps
  rw[<-hps]at h
  simp only at h
  clear hps next
  refine AK.Az [9,6,2,4] ?_;simp only[mpC,go_sem]
  refine AK.unfold ?_
  repeat' first|simp only[*,AA b152_11.eq_1,AM,AJ,Qa,apC,go_sem]|refine orR ?_|(refine sp ?_ ?_<;>intro hc)|fail
  refine Gc.Jg (s':=w) (r:=some w) (i:=2) (j:=3) rfl rfl (λs' e=> ?_) (by decide) (by simp[AH.plain,Ah]) en.symm em.symm ⟨hgg.1.symm,hgg.2.1.symm,hgg.2.2.symm⟩ rfl
  injection e with e
  subst e
  exact h
end
end Go.Proofs.YtohgndhnndeijaaGreat.Ax
namespace Go.Ax.M
open Go Go.Ax
end Go.Ax.M
namespace Go.Proofs.YtohgndhnndeijaaGreat.Ax
open Go Go.Ax Go.Ax.M
section
variable {H:AP}{K:AH->AP->Prop}{s u:State}{th n:Int}{a b:List Int}{oS oT oA oB:Nat}{fS fT fA fB rS rT rA rB:Bool}
end
set_option maxRecDepth 100000
section
variable {H:AP}{K:AH->AP->Prop}{up:List Int}{o:Nat}{f ro fl:Bool}
theorem Kx{oX:Nat}{fX:Bool}(ho:H[o]?=some (.AU 1 (ints up) ro))(h:K (.lit (.slice none 0 0)) H):AF Qc 205 [.agg [.slice o up.length 0 up.length fl],.slice oX 0 0 0 fX] H K:=by
 refine AF.gc ?_
 refine Aa ok205 ?_;repeat' first|simp only[*,go_sem]|apply orR|(apply sp<;>intro hc)|fail
 refine AK.unfold ?_
 (try simp only[AA b205_3.eq_1,go_sem]);repeat' ((first|apply orR|(apply sp<;>intro hc)|fail)<;>try simp only[*,AA b205_3.eq_1,go_sem])
 exact Gc.Cd (by simp[AH.refs]) h
theorem Ul:∀(n:Nat) (l:List Int) (H:AP) (K:AH->AP->Prop) (oX:Nat) (fX rX:Bool),Deep up n l->(bh up n l).length<=1000000->up.length<=1000->H[o]?=some (.AU 1 (ints up) ro)->H[oX]?=some (.AU 1 (ints l) rX)->
 (l=[]->K (.lit (.slice none 0 0)) H)->(l≠[]->K (.slice H.length (bh up n l).length 0 (bh up n l).length false) (H++[.AU 1 (ints (bh up n l)) false]))->
 AF Qc 205 [.agg [.slice o up.length 0 up.length fl],.slice oX l.length 0 l.length fX] H K:=by
 intro n
 induction n with
 |zero=>
  intro l H K oX fX rX hd hlen hup ho hX hn h
  have hd:l=[]:=hd
  subst hd
  exact Kx ho (hn rfl)
 |succ n ih=>
  intro l H K oX fX rX hd hlen hup ho hX hn h
  by_cases hl0:l=[]
  ·subst hl0;exact Kx ho (hn rfl)
  have h:=h hl0
  have kO:=AL.of ho
  have kX:=AL.of hX
  refine AF.gc ?_
  refine Aa ok205 ?_;repeat' first|simp only[*,go_sem]|refine orR ?_|(refine sp ?_ ?_<;>intro hc)|fail
  refine AK.Az [5,10,2,8,9] ?_;simp only[mpC,go_sem]
  refine AK.lay 1 ?_
  simp only[go_sem]
  refine AK.acc (λk G=>[(5,.slice (H.length+1) (bh up (n+1) (l.take k)).length 0 (bh up (n+1) (l.take k)).length false),(10,nS (k:Int))]) (λk G=>H++_:: .AU 1 (ints (bh up (n+1) (l.take k))) false::G) (λk G=>True) l.length ?_ (a0:=[]) trivial
  intro k G hk _ next
  refine AK.Jn λW hW=> ?_
  have hl1:l.length<=1000000:=by rw[Ps]at hlen;omega
  have kO:=kO.ex hW.ex
  have kX:=kX.ex hW.ex
  have kst:=hW.EQ
  have ko:=hW.Hx
  have kst0:=kst.at
  have ko0:=ko.at
  have kX0:=kX.at
  have kO0:=kO.at
  have kos:=ko.set
  have hw:=AY (k:=k) (by omega)
  refine AK.unfold ?_
  by_cases hkl:k<l.length
  ·have hg:=Bt (l:=l) (k:=k) hkl
   have hmem:l.getD k 0∈l:=by simp[Qi,hkl]
   have hdeep:=hd _ hmem
   have hpart:=cj (up:=up) (n:=n) hmem
   have hsucc:bh up (n+1) (l.take (k+1))=bh up (n+1) (l.take k)++l.getD k 0::bh up n (GV up (l.getD k 0)):=by
    rw[Qk hkl,N1,Tk,Tl,QC];simp[Qi,hkl]
   have hlen2:(bh up (n+1) (l.take (k+1))).length<=(bh up (n+1) l).length:=by
    conv=>rhs;rw[<-List.take_append_drop (k+1) l,N1,Qp]
    omega
   rw[hsucc,Qp,Qt]at hlen2
   have hlen2:=hlen2
   generalize l.getD k 0=i at*
   generalize bh up (n+1) (l.take k)=A at*
   have hb:(A.length+1)* 8<=140737488355328:=by omega
   have fO:=kO.other (i:=H.length+1) (by have:=Am ho;omega)
   have fX:=kX.other (i:=H.length+1) (by have:=Am hX;omega)
   have fst:=kst.other (i:=H.length+1) (by omega)
   have hself:=ko.FV
   clear hmem hlen2 hd
   repeat' first|simp only[*,AA b205_3.eq_1,AR,AX,apC,go_sem]|refine orR ?_|(refine sp ?_ ?_<;>intro hc)|fail
   obtain⟨V,hV⟩:∃V,List.set W (H.length+1) (.AU 1 (ints A++[[nS i]]) false)++[.AU 1 [[nS i]] false]=V:=⟨_,rfl⟩
   have vO:AL V o (.AU 1 (ints up) ro):=λL=>by rw[<-hV,Qd];exact fO _ _
   have vst:=λL=>show(V++L)[H.length]?=some _ by rw[<-hV,Qd];exact fst _ _
   have vo:AL V (H.length+1) (.AU 1 (ints A++[[nS i]]) false):=λL=>by rw[<-hV,Qd];exact hself _ _
   have vos:=vo.set
   rw[hV]
   have hV:Hid (_=V):=hV
   clear kO kX kst ko kst0 ko0 kX0 kO0 kos fO fX fst hself hg
   refine FJ (up:=up) vO.at hup ?_
   simp only[go_sem]
   have hb2:(A.length+1+(bh up n (GV up i)).length)* 8<=140737488355328:=by omega
   have hti:List.take (bh up n (GV up i)).length (ints (bh up n (GV up i)))=ints (bh up n (GV up i)):=Qg (by simp[ints])
   have hne:GV up i≠[]->(ints (bh up n (GV up i))=[])=False:=λh=>eq_false (by have:=YN hdeep h;simp[ints];exact this)
   repeat' first|simp only[*,go_sem]|refine orR ?_|(refine sp ?_ ?_<;>intro hc)|refine ih (GV up i) _ _ V.length false false hdeep (by omega) hup (vO _) BH (λhc=> ?_) (λhc=> ?_)
   case pos.refine_1=>
    have e:bh up n (GV up i)=[]:=by rw[show GV up i=[] by assumption,Tl]
    have hV:_=V:=hV
    subst hV
    have hW:W=_:=hW
    subst hW
    rw[hsucc,e]at next
    simp only[go_sem,Dn,GI,U6,Qp,Qt,Qv,Qd,apC]at next ⊢
    (refine AK.Az [5,10,2,8,9] ?_;simp only[mpC,go_sem];refine next _ hkl)
   case pos.refine_2=>
    have hV:_=V:=hV
    subst hV
    have hW:W=_:=hW
    subst hW
    have e2:(A++i::bh up n (GV up i)).length=A.length+1+(bh up n (GV up i)).length:=by simp;omega
    rw[hsucc,e2]at next
    simp only[go_sem,Dn,GI,U6,Qd,apC]at next ⊢
    (refine AK.Az [5,10,2,8,9] ?_;simp only[mpC,go_sem];refine next _ hkl)
  ·have hk':k=l.length:=by omega
   subst hk'
   repeat' first|simp only[*,AA b205_3.eq_1,AR,AX,apC,go_sem]|refine orR ?_|(refine sp ?_ ?_<;>intro hc)|fail
   have hW:W=_:=hW
   subst hW
   rw[QB]
   exact Gc.slice (i:=1) rfl Ca h
end
end Go.Proofs.YtohgndhnndeijaaGreat.Ax
namespace Go.Ax.M
open Go Go.Ax
theorem Vp:F6 []=[]:=by simp[F6]
theorem W6{l:List Int}(h:l≠[]):F6 l≠[]:=by
 intro e
 have:=congrArg List.length e
 rw[Gu]at this
 exact h (List.length_eq_zero_iff.1 this)
theorem WD{up:List Int}{i:Int}(hm:GU up i=true):Deep up (up.length+2) (GV up i):=by
 have hg:Cm up=true/\E0 up i=true:=by simpa [GU] using hm
 have hends:∀k:Nat,k<up.length->CH up (up.length+1) (k:Int)=true:=λk hk=>by
  have:=hg.1
  simp only[Cm,Qf]at this
  exact List.all_eq_true.1 this.2.2 k (List.mem_range.2 hk)
 have hi0:0<=i:=by have:=hg.2;simp[E0]at this;omega
 refine Ts hends _ 0 _ (by omega) λk hk=> ?_
 obtain⟨k0,k1,k2⟩:=H6.1 hk
 have:E0 up k=true:=by
  simp only[E0,Qf,decide_eq_true_eq,Qr,decide_eq_false_iff_not]
  exact⟨k0,k1,by rw[k2];omega⟩
 exact⟨this,by simp[CH,this]⟩
theorem Se{up:List Int}{i:Int}:(bh up (up.length+2) (GV up i)).length<=(up.length+2)* up.length:=
 aQ _ _ Sq λk hk=>⟨(H6.1 hk).1,(H6.1 hk).2.1⟩
end Go.Ax.M
namespace Go.Proofs.YtohgndhnndeijaaGreat.Ax
open Go Go.Ax Go.Ax.M
set_option maxRecDepth 100000
section
variable {H:AP}{K:AH->AP->Prop}{up l:List Int}{o:Nat}{f ro fl:Bool}{i:Int}
theorem Zz(ho:H[o]?=some (.AU 1 (ints l) false))(h0:0<l.length)(hl:l.length<=1000000)(h:K (.Bj []) (H.set o (.AU 1 (ints (F6 l)) false))):
 AF Qc 73 [.slice o l.length 0 l.length fl] H K:=
 AF.bw (λCG off cap zs w h1 h2 h3=>Any.slices_Sort_int Tryz.YV CG off cap zs w h1 h2 h3) ho h0 hl h
theorem bz(h:K (.Bj []) H):AF Qc 73 [.lit (.slice none 0 0)] H K:=
 AF.bx (λp cap w=>Any.slices_Sort_int_none Tryz.YV p cap w) h
theorem NM(ho:H[o]?=some (.AU 1 (ints up) ro))(hlen:up.length<=900)(hn:CP up i=[]->K (.lit (.slice none 0 0)) H)
 (h:CP up i≠[]->K (.slice H.length (CP up i).length 0 (CP up i).length false) (H++[.AU 1 (ints (CP up i)) false])):
 AF Qc 151 [.agg [.slice o up.length 0 up.length fl],nS i] H K:=by
 have kO:=AL.of ho
 cases hm:GU up i with
 |false=>
  have e:CP up i=[]:=by simp only[CP,hm,cond_false]
  refine AF.gc ?_
  refine Aa ok151 ?_;repeat' first|simp only[*,go_sem]|apply orR|(apply sp<;>intro hc)|refine Dh (up:=up) (kO _) ?_
  exact Gc.Cd (by simp[AH.refs]) (hn e)
 |true=>
  have hd:=WD hm
  have hlb:=Se (up:=up) (i:=i)
  have hlb2:(up.length+2)* up.length<=902* 900:=QE (by omega) hlen
  have e:CP up i=F6 (bh up (up.length+2) (GV up i)):=by simp only[CP,hm,cond_true]
  by_cases hz:GV up i=[]
  ·have e2:CP up i=[]:=by rw[e,hz,Tl,Vp]
   refine AF.gc ?_
   refine Aa ok151 ?_;repeat' first|simp only[*,ints,QH,Qv,go_sem]|apply orR|(apply sp<;>intro hc)|refine Dh (up:=up) (kO _) ?_|refine FJ (up:=up) (kO _) (by omega) ?_|refine Kx (up:=up) (kO _) ?_|refine bz ?_
   exact Gc.Cd (by simp[AH.refs]) (hn e2)
  ·have hb:=YN hd hz
   have hlen0:0<(bh up (up.length+2) (GV up i)).length:=List.length_pos_iff.2 hb
   have h:=h (by rw[e];exact W6 hb)
   rw[e,Gu]at h
   refine AF.gc ?_
   refine Aa ok151 ?_;(try simp only[kO,hm,go_sem]);repeat' ((first|apply orR|(apply sp<;>intro hc)|refine Dh (up:=up) (kO _) ?_|refine FJ (up:=up) (kO _) (by omega) ?_|refine Ul (up:=up) _ (GV up i) _ _ _ false false hd (by omega) (by omega) (kO _) (by first|exact BH|exact Bb rfl) (λhc=>absurd hc hz) (λhc=> ?_)|refine Zz (l:=bh up (up.length+2) (GV up i)) (by first|exact BH|exact Bb rfl) hlen0 (by omega) ?_)<;>try simp only[*,go_sem])
   exact Gc.slice (i:=2) rfl Ca h
theorem LC{n:Nat}(en:up.length=n)(ho:H[o]?=some (.AU 1 (ints up) ro))(hlen:n<=900)(hn:CP up i=[]->K (.lit (.slice none 0 0)) H)
 (h:CP up i≠[]->K (.slice H.length (CP up i).length 0 (CP up i).length false) (H++[.AU 1 (ints (CP up i)) false])):
 AF Qc 151 [.agg [.slice o n 0 n fl],nS i] H K:=by
 subst en;exact NM ho hlen hn h
end
end Go.Proofs.YtohgndhnndeijaaGreat.Ax
namespace Go.Ax.M
open Go Go.Ax
theorem aP{s:State}{i:Int}(h:Inv s):(CP (As s) i).length<=10000:=by
 cases hm:GU (As s) i with
 |false=>simp[CP,hm]
 |true=>
  have hl:(As s).length<=96:=by
   have:=h.ok.Ii
   simp only[Cm,Qf,decide_eq_true_eq]at this;exact this.1
  simp only[CP,hm,cond_true,Gu]
  have h1:=Se (up:=As s) (i:=i)
  have h2:((As s).length+2)*(As s).length<=98* 96:=QE (by omega) hl
  omega
end Go.Ax.M
namespace Go.Proofs.YtohgndhnndeijaaGreat.Ax
open Go Go.Ax Go.Ax.M
section
variable {H:AP}{K:AH->AP->Prop}{s:State}{th x y w:Int}{a b:List Int}{oS oT oA oB:Nat}{fS fT rS rT fA fB rA rB:Bool}
theorem Ry(hS:jI H oS s rS)(hT:jU H oT s rT)(DR:BN s=true)
 (h:K (.Bj [BT (DD s []).1 H.length (H.length+1) false false,nS (DD s []).2]) (H++[AM (DD s []).1,AJ (DD s []).1])):
 AF Qc 152 [stA s oS oT fS fT,.lit (.slice none 0 0)] H K:=by
 refine AF.gc (AF.lay 1 ?_)
 simp only[Go.Ax.D9,Go.Ax.E9,go_sem]
 have kS:=AL.of hS
 have kT:=AL.of hT
 refine Hu (l:=[]) (oL:=H.length) (rL:=false) (fL:=false) BH (kS _) (kT _) DR (by decide) ?_
 have:=Gc.stateT (H:=H) (L:= .AU 1 [] false::[AM (DD s []).1,AJ (DD s []).1]) (K:=K) (i:=1) (j:=2) (s:=(DD s []).1) (f:=false) (f':=false) (l:=[nS (DD s []).2]) rfl rfl (by decide) (by simp[AH.plain,Ah]) h
 simpa [Qd,Qa] using this
theorem Nj:CF 102 takeN:=by
 intro H K s th c oS oT oA oB fS fT rS rT fA fB rA rB hS hT hA hB h h'
 obtain⟨op,a,b,x,y,w⟩:=c
 have kT:=AL.of hT
 have kS:=AL.of hS
 have kA:=AL.of hA
 have kB:=AL.of hB
 have key:∀e:Int,takeN s th ⟨op,a,b,x,y,w⟩=⟨e,0,0,none⟩->K (.Bj [stA s oS oT fS fT,.agg [nS e,nT 0,nS 0]]) H:=λe he=>by rw[he]at h;exact h rfl
 have hv:=fun(e v n:Int)=>show(AH.Bj [stA s oS oT fS fT,.agg [nS e,nT v,nS n]]).refs (λo=>o<H.length) by simp[AH.refs,Ay];exact⟨Am hS,Am hT⟩
 clear h
 cases hcg:AT ⟨op,a,b,x,y,w⟩with
 |false=>
  refine AF.gc ?_
  refine Aa ok102 ?_;repeat' first|simp only[*,BT,AM,AJ,Qa,go_sem]|apply orR|(apply sp<;>intro hc)|refine Aw (c:=⟨op,a,b,x,y,w⟩) (kA _) (kB _) ?_
  exact Gc.Cd (hv _ _ _) (key _ (by simp only[takeN,hcg,QD,Bool.true_or,cond_true,CD.bad]))
 |true=>
 by_cases hf:(AO s th a).2.2=0
 ·have hgood:BN s=true:=(Ek hf).1.ok.DR
  have hlF:(As s).length=s.AE.length:=by simp[As]
  have hl9:s.AE.length<=900:=by
   have:=(Ek hf).1.ok.Ii
   simp only[Cm,Qf,decide_eq_true_eq,hlF]at this;omega
  have hlb:(CP (As s) (AO s th a).1).length<=10000:=aP (Ek hf).1
  by_cases h5:op=5
  ·subst h5
   have e:takeN s th ⟨5,a,b,x,y,w⟩=⟨0,0,(DD s [(AO s th a).1]).2,some (DD s [(AO s th a).1]).1⟩:=by simp[takeN,hcg,hf]
   have h':=h' _ (by rw[e])
   rw[e]at h'
   clear key hl9 hlb hlF
   refine AF.gc ?_
   refine Aa ok102 ?_;repeat' first|simp only[*,BT,AM,AJ,Qa,Bh.cells,go_sem]|apply orR|(apply sp<;>intro hc)|refine Aw (c:=⟨5,a,b,x,y,w⟩) (kA _) (kB _) ?_|refine CN (kS _) (kT _) (kA _) ?_|refine Hu (l:=[(AO s th a).1]) (s:=s) (by first|exact BH|exact Bb rfl) (kS _) (kT _) hgood (by simp) ?_
   exact Gc.stateT (i:=6) (j:=7) rfl rfl (by decide) (by simp[AH.plain,Ah]) h'
  by_cases h6:op=6
  ·subst h6
   have e:takeN s th ⟨6,a,b,x,y,w⟩=⟨0,0,(DD s (CP (As s) (AO s th a).1)).2,some (DD s (CP (As s) (AO s th a).1)).1⟩:=by simp[takeN,hcg,hf]
   have h':=h' _ (by rw[e])
   rw[e]at h'
   clear key h5
   by_cases hz:CP (As s) (AO s th a).1=[]
   ·rw[hz]at h'
    refine AF.gc ?_
    refine Aa ok102 ?_;repeat' first|simp only[*,BT,AM,AJ,Qa,Bh.cells,go_sem]|apply orR|(apply sp<;>intro hc)|refine Aw (c:=⟨6,a,b,x,y,w⟩) (kA _) (kB _) ?_|refine CN (kS _) (kT _) (kA _) ?_|refine Dd (s:=s) (kS _) (FL hgood) ?_|refine LC (up:=As s) hlF (by first|exact BH|exact Bb rfl) hl9 (λhc=> ?_) (λhc=>absurd hz hc)|refine Ry (s:=s) (kS _) (kT _) hgood ?_
    exact Gc.stateT (i:=7) (j:=8) rfl rfl (by decide) (by simp[AH.plain,Ah]) h'
   ·refine AF.gc ?_
    refine Aa ok102 ?_;repeat' first|simp only[*,BT,AM,AJ,Qa,Bh.cells,go_sem]|apply orR|(apply sp<;>intro hc)|refine Aw (c:=⟨6,a,b,x,y,w⟩) (kA _) (kB _) ?_|refine CN (kS _) (kT _) (kA _) ?_|refine Dd (s:=s) (kS _) (FL hgood) ?_|refine LC (up:=As s) hlF (by first|exact BH|exact Bb rfl) hl9 (λhc=>absurd hc hz) (λhc=> ?_)|refine Hu (l:=CP (As s) (AO s th a).1) (s:=s) (by first|exact BH|exact Bb rfl) (kS _) (kT _) hgood hlb ?_
    exact Gc.stateT (i:=8) (j:=9) rfl rfl (by decide) (by simp[AH.plain,Ah]) h'
  have e:takeN s th ⟨op,a,b,x,y,w⟩=⟨1,0,0,none⟩:=by simp[takeN,h5,h6,CD.bad]
  clear hlb hl9 hlF
  refine AF.gc ?_
  refine Aa ok102 ?_;repeat' first|simp only[*,BT,AM,AJ,Qa,Bh.cells,go_sem]|apply orR|(apply sp<;>intro hc)|refine Aw (c:=⟨op,a,b,x,y,w⟩) (kA _) (kB _) ?_
  exact Gc.Cd (hv _ _ _) (key _ e)
 ·by_cases h56:op=5\/op=6
  ·have e:takeN s th ⟨op,a,b,x,y,w⟩=⟨(AO s th a).2.2,0,0,none⟩:=by
    rcases h56 with h|h<;>(subst h;simp[takeN,hcg,hf,CD.bad])
   rcases h56 with rfl|rfl
   all_goals
    refine AF.gc ?_
    refine Aa ok102 ?_;repeat' first|simp only[*,BT,AM,AJ,Qa,Bh.cells,go_sem]|apply orR|(apply sp<;>intro hc)|refine Aw (c:=⟨_,a,b,x,y,w⟩) (kA _) (kB _) ?_|refine CN (kS _) (kT _) (kA _) ?_
    exact Gc.Cd (hv _ _ _) (key _ e)
  ·have h5:¬op=5:=λh=>h56 (.inl h)
   have h6:¬op=6:=λh=>h56 (.inr h)
   have e:takeN s th ⟨op,a,b,x,y,w⟩=⟨1,0,0,none⟩:=by simp[takeN,h5,h6,CD.bad]
   refine AF.gc ?_
   refine Aa ok102 ?_;repeat' first|simp only[*,BT,AM,AJ,Qa,Bh.cells,go_sem]|apply orR|(apply sp<;>intro hc)|refine Aw (c:=⟨op,a,b,x,y,w⟩) (kA _) (kB _) ?_
   exact Gc.Cd (hv _ _ _) (key _ e)
end
end Go.Proofs.YtohgndhnndeijaaGreat.Ax
