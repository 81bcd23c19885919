/- Texts put behind one another: PUnder, PGap, PRef, PUp, PRefE, PDeed, SRefA, SRefB, SRefC, SRefD, SRefE, SRefF, SRefG, SRefH, SRefI. Conditions: none. -/
import Derived.Test.YtlaipllgmddkiaaGreatZSw
import Derived.Test.YtlaipllgmddkiaaGreatZSa
set_option linter.all false
set_option maxHeartbeats 9999999
open List renaming append_nil -> Qa, length_set -> Qf, range -> Qg, mem_range -> Qi, getD -> Qm, replicate -> Qo, length_append -> Qs, getElem?_eq_none -> Qt, length_replicate -> Qv, all_eq_true -> Qx, getElem?_eq_getElem -> QA, set_cons_zero -> QC, getElem?_replicate -> QD, mem_map -> QG, getElem?_set_self -> QH, contains_iff_mem -> QJ, getElem?_set_ne -> QM, mem_filter -> QN, mem_singleton -> QP, set_eq_of_length_le -> QQ, take_of_length_le -> QU, countP_le_length -> QW, mem_cons_of_mem -> QZ, mem_append_left -> Q0, getElem?_set -> Q4, ext_getElem -> Q6, take_length -> Q8, range_succ -> Q9, mem_append -> Xb, length -> Xf
open Int renaming toNat_natCast -> Qb, tdiv_eq_ediv_of_nonneg -> Qe, tmod_eq_emod_of_nonneg -> QO, ediv_nonneg -> QV, toNat_of_nonneg -> Q2, tdiv_one -> Q5, natCast_inj -> Xc, le_refl -> Xd, mul_one -> Xe
open Go.Proofs.Tryz renaming prog -> Qc
open Bool renaming and_eq_true -> Qd, not_eq_true' -> Qh, or_eq_true -> Qj, and_false -> Qn, eq_iff_iff -> Qu, false_and -> Qw, or_self -> Qy, true_and -> Qz, eq_false_iff -> QE, and_self -> QK, not_true -> QR, and_true -> QS, not_false -> QX, not_eq_false' -> Q3
open Nat renaming add_assoc -> Qk, le_refl -> Ql, mod_eq_of_lt -> Qq, pow_lt_pow_right -> QL, lt_succ_iff_lt_or_eq -> QT, eq_of_testBit_eq -> QY, testBit_two_pow -> Q1
open BitVec renaming ofInt -> Qp, toNat_ofNat -> Qr, ofNat -> QF, toNat_or -> Xa
open Option renaming map_some -> QB, getD_some -> Q7
open Option.some renaming injEq -> QI
namespace Go.Ax.M
open Go Go.Ax
def I4(s:State)(L:List Bool)(i:Nat):List Bool:=
 bif decide ((s.slot i).cap.ty=2)&&(decide (0<=A0 s i)&&L.getD (A0 s i).toNat false)then L.set (s.slot i).cap.th.toNat true else L
def GD(s:State)(L:List Bool)(i:Nat):List Bool:=(Qg i).foldl (I4 s) L
def Ci(s:State)(L:List Bool):Nat->List Bool
 |0=>L
 |n+1=>GD s (Ci s L n) s.AE.length
def D5(s:State)(node:Int):List Bool:=(Qo s.AB.length false).set node.toNat true
def I5(s:State)(node:Int):List Bool:=(Qg s.AB.length).map fun(j:Nat)=>(B7 s (s.AB.length+1) node []).contains (j:Int)
theorem GR{s:State}{L:List Bool}{i:Nat}:GD s L (i+1)=I4 s (GD s L i) i:=by simp[GD,Q9]
theorem UZ{s:State}{L:List Bool}{i:Nat}:(I4 s L i).length=L.length:=by
 simp only[I4];cases (decide ((s.slot i).cap.ty=2)&&(decide (0<=A0 s i)&&L.getD (A0 s i).toNat false))<;>simp
theorem HV{s:State}{L:List Bool}:∀i,(GD s L i).length=L.length
 |0=>rfl
 |i+1=>by rw[GR,UZ,HV i]
theorem FX{s:State}{L:List Bool}:∀n,(Ci s L n).length=L.length
 |0=>rfl
 |n+1=>by rw[Ci,HV,FX n]
theorem HU{s:State}{node:Int}:(D5 s node).length=s.AB.length:=by simp[D5]
def J1(L:List Bool):Nat:=L.countP id
theorem TV{L:List Bool}:∀{k:Nat},k<L.length->(L.getD k false=true/\L.set k true=L)\/(L.getD k false=false/\J1 (L.set k true)=J1 L+1):=by
 induction L with
 |nil=>intro k h;simp at h
 |cons x L ih=>
  intro k hk
  cases k with
  |zero=>cases x<;>simp[J1]
  |succ k=>
   rcases ih (k:=k) (by simpa using hk)with⟨a,b⟩|⟨a,b⟩
   ·left;refine⟨by simpa using a,by simp[b]⟩
   ·right;refine⟨by simpa using a,?_⟩
    simp only[J1,List.set_cons_succ,List.countP_cons]at b ⊢
    omega
def V3(s:State)(L:List Bool)(i:Nat):Prop:=(s.slot i).cap.ty=2/\0<=A0 s i/\L.getD (A0 s i).toNat false=true
def V5(s:State)(L:List Bool)(n:Nat):Prop:=∀i,i<n->V3 s L i->L.getD (s.slot i).cap.th.toNat false=true
theorem JT(s:State)(L:List Bool)(i:Nat):(V3 s L i/\I4 s L i=L.set (s.slot i).cap.th.toNat true)\/(¬V3 s L i/\I4 s L i=L):=by
 simp only[I4,V3]
 cases h:(decide ((s.slot i).cap.ty=2)&&(decide (0<=A0 s i)&&L.getD (A0 s i).toNat false))with
 |true=>left;simp only[Qd,decide_eq_true_eq]at h;exact⟨h,rfl⟩
 |false=>
  right;refine⟨?_,rfl⟩
  rintro⟨a,b,c⟩
  rw[c]at h
  simp[a,b]at h
theorem Inv.th{s:State}(h:Inv s){i:Nat}(hi:i<s.AE.length)(hn:s.B8 i):0<=(s.slot i).cap.th/\(s.slot i).cap.th<s.AB.length:=by
 have:=(h.E8 i hi hn).1
 rw[DP]at this;omega
theorem R4{s:State}(h:Inv s){L:List Bool}(hL:L.length=s.AB.length){i:Nat}(hi:i<s.AE.length):
 (I4 s L i=L/\(V3 s L i->L.getD (s.slot i).cap.th.toNat false=true))\/J1 (I4 s L i)=J1 L+1:=by
 rcases JT s L i with⟨a,b⟩|⟨a,b⟩
 ·have DS:=h.th hi (C9 (by rw[a.1];decide))
  rcases TV (L:=L) (k:=(s.slot i).cap.th.toNat) (by omega)with⟨c,d⟩|⟨c,d⟩
  ·exact .inl ⟨by rw[b,d],λ_=>c⟩
  ·exact .inr (by rw[b,d])
 ·exact .inl ⟨b,λc=>absurd c a⟩
theorem O5{s:State}(h:Inv s){L:List Bool}(hL:L.length=s.AB.length):∀n,n<=s.AE.length->
 (GD s L n=L/\V5 s L n)\/J1 L<J1 (GD s L n)
 |0,_=> .inl ⟨rfl,λi hi=>by omega⟩
 |n+1,hn=>by
  rw[GR]
  rcases O5 h hL n (by omega)with⟨a,b⟩|a
  ·rw[a]
   rcases R4 h hL (i:=n) (by omega)with⟨c,d⟩|c
   ·refine .inl ⟨c,λi hi hc=> ?_⟩
    by_cases e:i=n
    ·subst e;exact d hc
    ·exact b i (by omega) hc
   ·right;omega
  ·right
   rcases R4 h (L:=GD s L n) (by rw[HV,hL]) (i:=n) (by omega)with⟨c,d⟩|c
   ·rw[c];exact a
   ·omega
theorem O7{s:State}{L:List Bool}(hL:V5 s L s.AE.length)(hl:∀i,i<s.AE.length->(s.slot i).cap.ty=2->(s.slot i).cap.th.toNat<L.length):∀n,n<=s.AE.length->GD s L n=L
 |0,_=>rfl
 |n+1,hn=>by
  rw[GR,O7 hL hl n (by omega)]
  rcases JT s L n with⟨a,b⟩|⟨a,b⟩
  ·rw[b]
   have:=hL n (by omega) a
   rcases TV (hl n (by omega) a.1)with⟨c,d⟩|⟨c,d⟩
   ·exact d
   ·rw[this]at c;cases c
  ·exact b
theorem Ns{s:State}(h:Inv s){L:List Bool}(hL:L.length=s.AB.length):∀n,V5 s (Ci s L n) s.AE.length\/n+J1 L<=J1 (Ci s L n)
 |0=> .inr (by simp[Ci])
 |n+1=>by
  have hl:(Ci s L n).length=s.AB.length:=by rw[FX,hL]
  rw[Ci]
  rcases Ns h hL n with a|a
  ·left
   rw[O7 a (λi hi h2=>by have:=h.th hi (C9 (by rw[h2];decide));omega) _ (Ql _)];exact a
  ·rcases O5 h hl s.AE.length (Ql _)with⟨b,c⟩|b
   ·left;rw[b];exact c
   ·right;omega
theorem cJ{L:List Bool}:J1 L<=L.length:=QW
theorem V4{s:State}(h:Inv s){node:Int}(h0:0<=node)(h1:node<s.AB.length):V5 s (Ci s (D5 s node) s.AB.length) s.AE.length:=by
 rcases Ns h (L:=D5 s node) HU s.AB.length with a|a
 ·exact a
 ·have:=cJ (L:=Ci s (D5 s node) s.AB.length)
  rw[FX,HU]at this
  have h2:0<J1 (D5 s node):=by
   simp only[J1,D5]
   rw[List.countP_pos_iff]
   refine⟨true,?_,rfl⟩
   exact List.mem_iff_getElem.2 ⟨node.toNat,by simp;omega,by simp⟩
  omega
theorem Sz{h:List Bool}{k i:Nat}:(h.set k true).getD i false=true->h.getD i false=true\/i=k:=by
 intro e
 by_cases hk:k<h.length
 ·rw[NP hk]at e;simpa using e
 ·rw[QQ (by omega)]at e;exact .inl e
theorem Zv{h:List Bool}{k i:Nat}(e:h.getD i false=true):(h.set k true).getD i false=true:=by
 by_cases hk:k<h.length
 ·rw[NP hk,e];rfl
 ·rw[QQ (by omega)];exact e
theorem V6{s:State}{L:List Bool}{i j:Nat}(e:L.getD j false=true):(I4 s L i).getD j false=true:=by
 rcases JT s L i with⟨_,b⟩|⟨_,b⟩
 ·rw[b];exact Zv e
 ·rw[b];exact e
theorem Nr{s:State}{L:List Bool}{j:Nat}(e:L.getD j false=true):∀n,(GD s L n).getD j false=true
 |0=>e
 |n+1=>by rw[GR];exact V6 (Nr e n)
theorem Ma{s:State}{L:List Bool}{j:Nat}(e:L.getD j false=true):∀n,(Ci s L n).getD j false=true
 |0=>e
 |n+1=>by rw[Ci];exact Nr (Ma e n) _
def TX(s:State)(node:Int)(L:List Bool):Prop:=∀j:Nat,L.getD j false=true->Reach s node j
theorem YR{s:State}(h:Inv s){i:Nat}(hi:i<s.AE.length)(h2:(s.slot i).cap.ty=2)(ho:0<=A0 s i):Edge s (A0 s i) (s.slot i).cap.th:=by
 obtain⟨n,hn,hh,e⟩:=IM (s:=s) (i:=i) (by omega)
 exact⟨ho,i,hi,h2,by rw[e];exact hh,(h.E8 i hi (C9 (by rw[h2];decide))).1,rfl⟩
theorem YC{s:State}(h:Inv s){node:Int}{L:List Bool}(hL:TX s node L){i:Nat}(hi:i<s.AE.length):TX s node (I4 s L i):=by
 rcases JT s L i with⟨a,b⟩|⟨_,b⟩
 ·rw[b]
  intro j hj
  rcases Sz hj with c|c
  ·exact hL j c
  ·have DS:=h.th hi (C9 (by rw[a.1];decide))
   have:=hL _ a.2.2
   rw[show(((A0 s i).toNat:Nat):Int)=A0 s i by have:=a.2.1;omega]at this
   have e:=this.trans (.one (YR h hi a.1 a.2.1))
   rw[c,show(((s.slot i).cap.th.toNat:Nat):Int)=(s.slot i).cap.th by omega]
   exact e
 ·rw[b];exact hL
theorem O6{s:State}(h:Inv s){node:Int}{L:List Bool}(hL:TX s node L):∀n,n<=s.AE.length->TX s node (GD s L n)
 |0,_=>hL
 |n+1,hn=>by rw[GR];exact YC h (O6 h hL n (by omega)) (by omega)
theorem Nt{s:State}(h:Inv s){node:Int}{L:List Bool}(hL:TX s node L):∀n,TX s node (Ci s L n)
 |0=>hL
 |n+1=>by rw[Ci];exact O6 h (Nt h hL n) _ (Ql _)
theorem UH{s:State}{n m:Int}(r:Reach s n m)(h0:0<=n):0<=m:=by
 induction r with
 |refl=>exact h0
 |step e _ ih=>
  obtain⟨_,i,_,_,_,c,rfl⟩:=e
  rw[DP]at c
  exact ih c.1
theorem Wq{s:State}(h:Inv s){L:List Bool}(hL:V5 s L s.AE.length){n m:Int}(r:Reach s n m):L.getD n.toNat false=true->L.getD m.toNat false=true:=by
 induction r with
 |refl=>exact id
 |@step n m k e _ ih=>
  intro hn
  refine ih ?_
  obtain⟨h0,i,hi,h2,hh,_,rfl⟩:=e
  have hl:n.toNat<s.AB.length:=by
   by_cases hx:n.toNat<s.AB.length
   ·exact hx
   ·rw[show s.AG n.toNat=AN.zero by simp[State.AG,Qm,Qt (Nat.le_of_not_lt hx)]]at hh
    simp[Bx,AN.zero]at hh
  have eo:=Fz h.apart hl hh
  exact hL i hi ⟨h2,by rw[eo];omega,by rw[eo];exact hn⟩
theorem Z4{s:State}(h:Inv s){node:Int}(ht:BD s node=true):Ci s (D5 s node) s.AB.length=I5 s node:=by
 have ht':=DP.1 ht
 have hlen:(Ci s (D5 s node) s.AB.length).length=s.AB.length:=by rw[FX,HU]
 apply Q6
 ·rw[hlen];simp[I5]
 intro j h1 h2
 have hj:j<s.AB.length:=by omega
 have e1:(Ci s (D5 s node) s.AB.length)[j]=(Ci s (D5 s node) s.AB.length).getD j false:=by simp[Qm,h1]
 rw[e1]
 simp only[I5,List.getElem_map,List.getElem_range]
 rw[Qu,QJ,within_iff ht]
 constructor
 ·refine Nt h (L:=D5 s node) (λk hk=> ?_) _ j
  simp only[D5]at hk
  rcases Sz hk with c|c
  ·simp only[Qm,QD]at c
   split at c<;>simp at c
  ·rw[c,show((node.toNat:Nat):Int)=node by omega];exact .refl
 ·intro r
  have:=Wq h (V4 h ht'.1 ht'.2.1) r (Ma (by simp only[D5];rw[NP (by simp;omega)];simp) _)
  simpa using this
theorem R5{s:State}{node:Int}{j:Nat}(hj:j<s.AB.length):(I5 s node).getD j false=(B7 s (s.AB.length+1) node []).contains (j:Int):=by
 simp[I5,Qm,hj]
theorem E6{s:State}{node:Int}:(I5 s node).length=s.AB.length:=by simp[I5]
theorem dN{s:State}(h:Inv s){n:Nat}(hn:n<s.AB.length){i:Nat}(hi:i<s.AE.length)(h2:(s.slot i).cap.ty=2)(ho:A0 s i=n):(I5 s (s.slot i).cap.th).getD n false=false:=by
 rw[R5 hn]
 have DS:=(h.E8 i hi (C9 (by rw[h2];decide))).1
 rw[QE]
 intro e
 rw[QJ,within_iff DS]at e
 have ed:=YR h hi h2 (by omega)
 rw[ho]at ed
 exact h.ring n hn _ ed e
theorem WX{s:State}{node:Int}(ht:BD s node=true){x:Int}(hx:x<0):(B7 s (s.AB.length+1) node []).contains x=false:=by
 rw[QE]
 intro e
 rw[QJ,within_iff ht]at e
 have:=UH e (DP.1 ht).1
 omega
theorem aW{up:List Int}(h:Td up){i:Nat}(hi:i<up.length):CH up up.length i=true:=by
 obtain⟨r,hr⟩:=h
 have hc:∀i:Nat,i<up.length->E0 up i=true->E0 up (up.getD i 0)=true->(Qg up.length).countP (λk=>decide (r k<r (up.getD i 0).toNat))<(Qg up.length).countP λk=>decide (r k<r i):=by
  intro i hi h1 h2
  have hlt:=hr i hi h1 h2
  have h2':=h2
  rw[D7]at h2'
  refine Jj (λk _ hk=> ?_) ⟨(up.getD i 0).toNat,Qi.2 (by omega),?_,?_⟩
  ·simp only[decide_eq_true_eq]at hk ⊢;omega
  ·simp only[decide_eq_true_eq];exact hlt
  ·simp
 have key:∀(n:Nat) (i:Nat),i<up.length->(Qg up.length).countP (λk=>decide (r k<r i))<=n->CH up (n+1) i=true:=by
  intro n
  induction n with
  |zero=>
   intro i hi hn
   rw[CH]
   cases h1:E0 up i with
   |false=>rfl
   |true=>
    cases h2:E0 up (up.getD i 0)with
    |false=>simp only[CH,Qb,h2];rfl
    |true=>have:=hc i hi h1 h2;omega
  |succ n ih=>
   intro i hi hn
   rw[CH]
   cases h1:E0 up i with
   |false=>rfl
   |true=>
    cases h2:E0 up (up.getD i 0)with
    |false=>rw[CH];simp only[Qb,h2];rfl
    |true=>
     have h3:=hc i hi h1 h2
     have h2':=h2
     rw[D7]at h2'
     have e:(((up.getD i 0).toNat:Nat):Int)=up.getD i 0:=by omega
     have:=ih (up.getD i 0).toNat (by omega) (by omega)
     rw[e]at this
     simp only[Qb,this,Bool.or_true]
 have hlt:(Qg up.length).countP (λk=>decide (r k<r i))<(Qg up.length).countP λ_=>true:=
  Jj (λ_ _ _=>rfl) ⟨i,Qi.2 hi,rfl,by simp⟩
 simp at hlt
 have:=key (up.length-1) i hi (by omega)
 rwa [show up.length-1+1=up.length by omega]at this
theorem K7{up:List Int}(h:Cm up=true){i:Nat}(hi:i<up.length):up.getD i 0=-2\/up.getD i 0=-1\/E0 up (up.getD i 0)=true:=by
 simp only[Cm,Qd,Qx]at h
 have:=h.2.1 (up.getD i 0) (by simp[Qm,hi])
 simp only[ZA,Qj,decide_eq_true_eq]at this
 exact this
theorem Tu{up:List Int}(h:Cm up=true):Td up:=TF (by simp only[Cm,Qd]at h;exact h.2.2)
theorem Lv{up:List Int}(h:Cm up=true):up.length<=96:=by simp only[Cm,Qd,decide_eq_true_eq]at h;exact h.1
def Md(up:List Int)(i:Nat)(n:Nat)(k:Int):Prop:=(n=0/\k=i)\/(1<=n/\n<=up.length/\((k<0/\-2<=k)\/E0 up k=true)/\CH up (up.length-n) k=true)
theorem Md.step{up:List Int}(h:Cm up=true){i n:Nat}{k:Int}(hi:i<up.length)(c:Md up i n k)(h0:0<=k):k<up.length/\n<up.length/\Md up i (n+1) (up.getD k.toNat 0):=by
 rcases c with⟨rfl,rfl⟩|⟨h1,h2,h3,h4⟩
 ·refine⟨by omega,by omega,.inr ⟨by omega,by omega,?_,?_⟩⟩
  ·rcases K7 h hi with a|a|a
   ·left;simp only[Qb,a];decide
   ·left;simp only[Qb,a];decide
   ·right;simpa using a
  ·have:=aW (Tu h) hi
   rw[show up.length=(up.length-(0+1))+1 by omega,CH]at this
   simp only[Qb,Qj,Qh]at this ⊢
   rcases this with a|a
   ·have:up.getD i 0=-2:=by
     by_cases e:up.getD i 0=-2
     ·exact e
     ·have:E0 up (i:Int)=true:=D7.2 ⟨by omega,by omega,by simpa using e⟩
      rw[a]at this;cases this
    rw[this]
    cases up.length-(0+1)<;>simp[CH,E0]
   ·exact a
 ·rcases h3 with h3|h3
  ·omega
  have h3':=D7.1 h3
  have hn:n<up.length:=by
   by_cases e:n=up.length
   ·subst e;simp only[Nat.sub_self,CH,h3]at h4;cases h4
   ·omega
  refine⟨by omega,hn,.inr ⟨by omega,by omega,?_,?_⟩⟩
  ·have hk:k.toNat<up.length:=by omega
   rcases K7 h hk with a|a|a
   ·left;rw[a];decide
   ·left;rw[a];decide
   ·exact .inr a
  ·rw[show up.length-n=(up.length-(n+1))+1 by omega,CH,h3]at h4
   simpa using h4
theorem Md.le{up:List Int}{i n:Nat}{k:Int}(c:Md up i n k):n<=up.length:=by
 rcases c with⟨rfl,_⟩|⟨_,h,_⟩<;>omega
def cQ(s:State)(m:Int)(b:Nat):Prop:=∀j:Nat,b<=j->(j:Int)<b+m->A0 s j<0
def YJ(s:State)(m:Int)(len:Nat)(r:Int×Bool):Prop:=
 (r.2=true/\∃b:Nat,r.1=b/\(b:Int)+m<=len/\cQ s m b/\∀k,k<b->¬cQ s m k)\/(r=(0,false)/\∀b:Nat,(b:Int)+m<=len->¬cQ s m b)
theorem S9{s:State}{i:Int}:A0 s i<0↔A0 s i=-1:=by
 constructor
 ·intro h
  by_cases e:A0 s i=-1
  ·exact e
  ·obtain⟨n,_,_,hn⟩:=IM e
   omega
 ·intro h;omega
theorem T1{s:State}{m:Int}(hm:1<=m){len:Nat}:∀(r i:Nat) (many:Int),i+r=len->0<=many->many<m->many<=i->(∀j:Nat,(i:Int)-many<=j->j<i->A0 s j<0)->((i:Int)=many\/∃j:Nat,(j:Int)=i-many-1/\¬A0 s j<0)->
 (∀b:Nat,(b:Int)+m<=i->¬cQ s m b)->YJ s m len (JH s m r i many)
 |0,i,many,hl,h0,h1,h2,h3,h4,h5=>by
  right
  refine⟨rfl,λb hb=>h5 b (by omega)⟩
 |r+1,i,many,hl,h0,h1,h2,h3,h4,h5=>by
  rw[JH]
  by_cases ho:A0 s i<0
  ·have ho':=S9.1 ho
   simp only[ho',decide_true,cond_true]
   by_cases hn:many+1=m
   ·simp only[hn,decide_true,cond_true]
    left
    refine⟨rfl,(i+1-m).toNat,by simp only;omega,by omega,λj hj1 hj2=> ?_,λk hk=>h5 k (by omega)⟩
    by_cases e:j=i
    ·subst e;exact ho
    ·exact h3 j (by omega) (by omega)
   ·simp only[hn,decide_false,cond_false]
    refine T1 hm r (i+1) (many+1) (by omega) (by omega) (by omega) (by omega) (λj hj1 hj2=> ?_) ?_ (λb hb=> ?_)
    ·by_cases e:j=i
     ·subst e;exact ho
     ·exact h3 j (by omega) (by omega)
    ·rcases h4 with h4|⟨j,hj,h4⟩
     ·left;omega
     ·right;exact⟨j,by omega,h4⟩
    ·by_cases e:(b:Int)+m<=i
     ·exact h5 b e
     ·rcases h4 with h4|⟨j,hj,h4⟩
      ·omega
      ·exact λhr=>h4 (hr j (by omega) (by omega))
  ·have ho':¬A0 s i=-1:=λe=>ho (S9.2 e)
   simp only[ho',decide_false,cond_false]
   have hn:¬(0:Int)=m:=by omega
   simp only[hn,decide_false,cond_false]
   refine T1 hm r (i+1) 0 (by omega) (by omega) (by omega) (by omega) (λj hj1 hj2=>by omega) (.inr ⟨i,by omega,ho⟩) (λb hb hr=> ?_)
   by_cases e:(b:Int)+m<=i
   ·exact h5 b e hr
   ·exact ho (hr i (by omega) (by omega))
theorem TL{s:State}{b:Int}(hg:BN s=true)(hb:Bv b 1 4=true):YJ s (p2 b) s.AE.length (F3 s b):=by
 have h:=BX.1 hb
 have hp:=C4 hb
 simp only[F3,hg,h.1,h.2,decide_true,QK,cond_true]
 refine T1 (by omega) _ 0 0 (by omega) (by omega) (by omega) (by omega) (λj h1 h2=>by omega) (.inl rfl) (λb hb=>by omega)
theorem bq{s:State}{b:Int}(hg:BN s=true)(hb:Bv b 1 4=true){k:Nat}(hk:(k:Int)+p2 b<=s.AE.length)(hr:cQ s (p2 b) k)(hn:∀j,j<k->¬cQ s (p2 b) j):F3 s b=((k:Int),true):=by
 rcases TL hg hb with⟨h1,c,h2,h3,h4,h5⟩|⟨_,h⟩
 ·have:c=k:=by
   rcases Nat.lt_trichotomy c k with h|h|h
   ·exact absurd h4 (hn c h)
   ·exact h
   ·exact absurd hr (h5 k h)
  rw[<-this];exact Prod.ext h2 h1
 ·exact absurd hr (h k hk)
theorem Zu{s:State}{b:Int}(hg:BN s=true)(hb:Bv b 1 4=true){k:Nat}(hk:¬(k:Int)+p2 b<=s.AE.length)(hn:∀j,j<k->¬cQ s (p2 b) j):F3 s b=(0,false):=by
 rcases TL hg hb with⟨h1,c,h2,h3,h4,h5⟩|⟨h,_⟩
 ·exact absurd h4 (hn c (by omega))
 ·exact h
theorem bW:∀x:Fin 8,(IntKind.wrap .i64 ((Qp (IntKind.bits .i64) (1:Int)&&&~~~Qp (IntKind.bits .i64) (x.val:Int)).toNat)=0)↔¬(x.val:Int).tmod 2=0:=by decide+kernel
theorem NY{r:Int}(h0:0<=r)(h7:r<=7):Bd 1 r=!decide (r.tmod 2=0):=by
 have e1:I8 1=1:=by simp[I8,C2,Bv]
 have e2:I8 r=r:=by simp[I8,C2,Bv,h0,h7]
 obtain⟨x,hx⟩:∃x:Fin 8,r=(x.val:Int):=⟨⟨r.toNat,by omega⟩,by simp;omega⟩
 have:=bW x
 simp only[Bd,LU,e1,e2]
 rw[hx,Qu]
 simp only[decide_eq_true_eq,Qh,decide_eq_false_iff_not]
 exact this
theorem Inv.ri{s:State}(h:Inv s){i:Nat}(hi:i<s.AE.length):0<=(s.slot i).cap.ri/\(s.slot i).cap.ri<=7:=by
 have:=h.Ib i hi
 simp only[Bq,Qj,Qd]at this
 rcases this with h|⟨_,_,h,_⟩
 ·simp only[Aq,Qd,decide_eq_true_eq]at h;omega
 ·simp only[C2,BX]at h;exact h
theorem drop_cons{p:List Int}{k:Nat}(hk:k<p.length):p.drop k=p.getD k 0::p.drop (k+1):=by
 rw[List.drop_eq_getElem_cons hk];simp[Qm,hk]
theorem Z6{s:State}(h:Inv s){th:Int}{p:List Int}(hin:Bv th 0 (s.AS.AI-1)=true)(hp:BJ p=true):A7 s th p=Hq s th p:=by
 simp only[A7,h.ok.DR,hin,hp,QK,cond_true]
theorem cL{s:State}(h:Inv s){th:Int}{p r:List Int}{q:Nat}(hq:q<s.AB.length)(h2:(s.AG q).ty=2){n:Int}(hn:0<=n)
 (e:A7 s th p=bif !decide (CL (s.AG q) n<0)then DU s r (CL (s.AG q) n)else(0,3)):
 (p2 (s.AG q).bits<=n->A7 s th p=(0,3))/\(¬p2 (s.AG q).bits<=n->0<=(s.AG q).base+n/\(s.AG q).base+n<s.AE.length/\A7 s th p=DU s r ((s.AG q).base+n)):=by
 have hg:=CO (h.BB q hq) h2
 have hf:=h.fit q hq h2
 constructor
 ·intro hc
  rw[e]
  simp[CL,hc]
 ·intro hc
  have hb:CL (s.AG q) n=(s.AG q).base+n:=by simp[CL,hc]
  have h0:¬((s.AG q).base+n<0):=by omega
  rw[e,hb]
  simp only[h0,decide_false,QX,cond_true]
  exact⟨by omega,by omega,trivial⟩
theorem V8{s:State}(h:Inv s){th:Int}{p:List Int}(hin:Bv th 0 (s.AS.AI-1)=true)(hp:BJ p=true):
 (p2 (s.AG (2+th).toNat).bits<=p.getD 0 0->A7 s th p=(0,3))/\(¬p2 (s.AG (2+th).toNat).bits<=p.getD 0 0->0<=(s.AG (2+th).toNat).base+p.getD 0 0/\(s.AG (2+th).toNat).base+p.getD 0 0<s.AE.length/\A7 s th p=DU s (p.drop 1) ((s.AG (2+th).toNat).base+p.getD 0 0)):=by
 have hb:=BX.1 hin
 have hr:=EZ h.ok hb.1 hb.2
 have hl:=G7 hp
 refine cL h hr.1 hr.2 (GN hp (by omega)).1 ?_
 rw[Z6 h hin hp]
 conv=>lhs;rw[show p=p.getD 0 0::p.drop 1 from by have:=drop_cons (p:=p) (k:=0) (by omega);simpa using this]
 rfl
theorem V7{s:State}(h:Inv s){th:Int}{p:List Int}(hp:BJ p=true){k:Nat}(hk:k<p.length){a:Int}(h0:0<=a)(h1:a<s.AE.length)(e:A7 s th p=DU s (p.drop k) a):
 (
  ¬(s.slot a.toNat).cap.ty=2\/(s.slot a.toNat).cap.ri.tmod 2=0->A7 s th p=(0,3))/\((s.slot a.toNat).cap.ty=2->¬(s.slot a.toNat).cap.ri.tmod 2=0->
  (p2 (s.AG (s.slot a.toNat).cap.th.toNat).bits<=p.getD k 0->A7 s th p=(0,3))/\(¬p2 (s.AG (s.slot a.toNat).cap.th.toNat).bits<=p.getD k 0->0<=(s.AG (s.slot a.toNat).cap.th.toNat).base+p.getD k 0/\(s.AG (s.slot a.toNat).cap.th.toNat).base+p.getD k 0<s.AE.length/\A7 s th p=DU s (p.drop (k+1)) ((s.AG (s.slot a.toNat).cap.th.toNat).base+p.getD k 0))):=by
 have hri:=h.ri (i:=a.toNat) (by omega)
 have hro:=NY hri.1 hri.2
 rw[drop_cons hk,DU]at e
 constructor
 ·intro hc
  have:CV s a=false:=by
   simp only[CV,hro]
   rcases hc with hc|hc<;>simp[hc]
  rw[e,this];rfl
 ·intro h2 h3
  have ht:CV s a=true:=by simp only[CV,hro,h2,h3,decide_true,decide_false,QX,QK]
  rw[ht,Qz]at e
  have DS:=h.th (i:=a.toNat) (by omega) (C9 (by rw[h2];decide))
  exact cL h (by omega) (by rw[(h.E8 a.toNat (by omega) (C9 (by rw[h2];decide))).2,h2]) (GN hp hk).1 e
theorem Yj{s:State}{th:Int}{p:List Int}{k:Nat}(hk:k=p.length){a:Int}(e:A7 s th p=DU s (p.drop k) a):A7 s th p=(a,0):=by
 rw[e,hk,List.drop_length];rfl
theorem Pg{s:State}(h:Inv s){th:Int}{p:List Int}(hb:¬(0<=th/\th<s.AS.AI)\/BJ p=false):A7 s th p=(0,1):=by
 have:(Bv th 0 (s.AS.AI-1)&&BJ p)=false:=by
  rcases hb with hb|hb
  ·have:Bv th 0 (s.AS.AI-1)=false:=by
    rw[QE];intro e;rw[BX]at e;exact hb (by omega)
   rw[this];rfl
  ·rw[hb,Qn]
 simp only[A7,h.ok.DR,this,Qn,cond_false]
theorem NW{s:State}(h:Inv s){n:Nat}(hn:n<s.AB.length){a:Int}(h0:0<=a)(hh:Bx (s.AG n) a=true):0<=A0 s a:=by
 have:=Fz h.apart (i:=a.toNat) hn (by rw[show((a.toNat:Nat):Int)=a by omega];exact hh)
 rw[show((a.toNat:Nat):Int)=a by omega]at this
 omega
theorem Yk{s:State}(h:Inv s){th:Int}{p:List Int}(hp:BJ p=true):∀(j k:Nat) (a:Int),k+j=p.length->0<=a->a<s.AE.length->0<=A0 s a->A7 s th p=DU s (p.drop k) a->(A7 s th p).2=0->0<=A0 s (A7 s th p).1
 |0,k,a,hk,h0,h1,ho,e,_=>by rw[Yj (by omega) e];exact ho
 |j+1,k,a,hk,h0,h1,ho,e,h2=>by
  have hkl:k<p.length:=by omega
  obtain⟨m1,m2⟩:=V7 h hp hkl h0 h1 e
  by_cases c:¬(s.slot a.toNat).cap.ty=2\/(s.slot a.toNat).cap.ri.tmod 2=0
  ·rw[m1 c]at h2;exact absurd h2 (by decide)
  ·have c1:(s.slot a.toNat).cap.ty=2:=by
    by_cases e:(s.slot a.toNat).cap.ty=2
    ·exact e
    ·exact absurd (.inl e) c
   have c2:¬(s.slot a.toNat).cap.ri.tmod 2=0:=λe=>c (.inr e)
   obtain⟨m3,m4⟩:=m2 c1 c2
   by_cases d:p2 (s.AG (s.slot a.toNat).cap.th.toNat).bits<=p.getD k 0
   ·rw[m3 d]at h2;exact absurd h2 (by decide)
   ·obtain⟨q0,q1,q2⟩:=m4 d
    have hn:=C9 (s:=s) (i:=a.toNat) (by rw[c1];decide)
    have DS:=h.th (i:=a.toNat) (by omega) hn
    have hty:=(h.E8 a.toNat (by omega) hn).2
    have hpg:=GN hp hkl
    exact Yk h hp j (k+1) _ (by omega) q0 q1 (NW h (n:=(s.slot a.toNat).cap.th.toNat) (by omega) q0 (DZ.2 ⟨by rw[hty,c1],by omega,by omega⟩)) q2 h2
theorem Z7{s:State}{th:Int}{p:List Int}(h2:(A7 s th p).2=0):0<=A0 s (A7 s th p).1:=by
 obtain⟨ok,hin,hp,_,_⟩:=C7 h2
 have h:=Inv.of ok
 obtain⟨z1,z2⟩:=V8 h hin hp
 have hl:=G7 hp
 have hr:=EZ ok (BX.1 hin).1 (BX.1 hin).2
 by_cases d:p2 (s.AG (2+th).toNat).bits<=p.getD 0 0
 ·rw[z1 d]at h2;exact absurd h2 (by decide)
 ·obtain⟨q0,q1,q2⟩:=z2 d
  have hpg:=GN hp (k:=0) (by omega)
  exact Yk h hp (p.length-1) 1 _ (by omega) q0 q1 (NW h hr.1 q0 (DZ.2 ⟨hr.2,by omega,by omega⟩)) q2 h2
theorem CZ{s:State}{th:Int}{p:List Int}(h2:(Ak s th p).2=0):0<=(Ak s th p).1/\(Ak s th p).1<s.AE.length/\0<=A0 s (Ak s th p).1/\Aq (s.slot (Ak s th p).1.toNat).cap=true:=by
 unfold Ak at h2 ⊢
 cases h1:decide ((A7 s th p).2=0)with
 |false=>rw[h1]at h2;simp at h2 h1;exact absurd h2 h1
 |true=>
  rw[h1]at h2
  simp only[QR,cond_false]at h2 ⊢
  cases h3:Aq (s.slot (A7 s th p).1.toNat).cap with
  |false=>rw[h3]at h2;simp at h2
  |true=>
   simp only[QR,cond_false]
   have:=C7 (of_decide_eq_true h1)
   exact⟨this.2.2.2.1,this.2.2.2.2,Z7 (of_decide_eq_true h1),h3⟩
theorem Z8:∀x:Fin 8,(IntKind.wrap .i64 ((Qp (IntKind.bits .i64) (2:Int)&&&~~~Qp (IntKind.bits .i64) (x.val:Int)).toNat)=0)↔¬((x.val:Int).tdiv 2).tmod 2=0:=by decide+kernel
theorem ZG:∀x:Fin 8,(IntKind.wrap .i64 ((Qp (IntKind.bits .i64) (4:Int)&&&~~~Qp (IntKind.bits .i64) (x.val:Int)).toNat)=0)↔¬(x.val:Int).tdiv 4=0:=by decide+kernel
theorem MA{r:Int}(h0:0<=r)(h7:r<=7):Bd 2 r=!decide ((r.tdiv 2).tmod 2=0):=by
 have e1:I8 2=2:=by simp[I8,C2,Bv]
 have e2:I8 r=r:=by simp[I8,C2,Bv,h0,h7]
 obtain⟨x,hx⟩:∃x:Fin 8,r=(x.val:Int):=⟨⟨r.toNat,by omega⟩,by simp;omega⟩
 have:=Z8 x
 simp only[Bd,LU,e1,e2]
 rw[hx,Qu]
 simp only[decide_eq_true_eq,Qh,decide_eq_false_iff_not]
 exact this
theorem ZH{r:Int}(h0:0<=r)(h7:r<=7):Bd 4 r=!decide (r.tdiv 4=0):=by
 have e1:I8 4=4:=by simp[I8,C2,Bv]
 have e2:I8 r=r:=by simp[I8,C2,Bv,h0,h7]
 obtain⟨x,hx⟩:∃x:Fin 8,r=(x.val:Int):=⟨⟨r.toNat,by omega⟩,by simp;omega⟩
 have:=ZG x
 simp only[Bd,LU,e1,e2]
 rw[hx,Qu]
 simp only[decide_eq_true_eq,Qh,decide_eq_false_iff_not]
 exact this
theorem bU{s:State}(h:Inv s){fr to:Int}{c:Bh}(f0:0<=fr)(f1:fr<s.AE.length)(t0:0<=to)(t1:to<s.AE.length)(ho:0<=A0 s to)(hg:Bq c=true)(hn:Aq c=false):
 Dj s fr to c=bif Aq (s.slot fr.toNat).cap then 4 else bif !Aq (s.slot to.toNat).cap then 5 else bif decide ((s.slot fr.toNat).cap.ty=1)then 7 else bif !Dw c (s.slot fr.toNat).cap then 1 else bif decide (c.ty=2)&&Ch s c.th to then 1 else 0:=by
 have e1:decide (fr<0)=false:=by simp;omega
 have e2:decide ((s.AE.length:Int)<=fr)=false:=by simp;omega
 have e3:decide (to<0)=false:=by simp;omega
 have e4:decide ((s.AE.length:Int)<=to)=false:=by simp;omega
 have e5:FD s to=A0 s to:=by simp[FD,h.ok.DR,t0,t1]
 have e6:decide (FD s to<0)=false:=by rw[e5];simp;omega
 have e7:FC s c to=(decide (c.ty=2)&&Ch s c.th to):=by simp[FC,Et,h.ok.DR,t0,t1]
 simp only[Dj,h.ok.DR,e1,e2,e3,e4,e6,e7,hg,hn,QR,Qy,cond_false]
theorem bN{n k:Nat}(hn:n<2^64)(hk:k<64):Ud (n:Int) (p2 k)=((n|||2^k:Nat):Int)/\n|||2^k<2^64:=by
 have hp:(2:Nat)^k<2^64:=QL (by decide) hk
 have ep:p2 (k:Int)=((2^k:Nat):Int):=by simp[p2]
 have hor:n|||2^k<2^64:=Nat.or_lt_two_pow hn hp
 refine⟨?_,hor⟩
 rw[ep]
 have e:(QF 64 n|||QF 64 (2^k)).toNat=n|||2^k:=by rw[Xa,Qr,Qr,Qq hn,Qq hp]
 simp only[Ud,BitVec.ofInt_natCast]
 show IntKind.wrap .u64 (((QF 64 n|||QF 64 (2^k)).toNat:Nat):Int)=_
 rw[e]
 generalize n|||2^k=m at*
 simp[IntKind.wrap,IntKind.bits,IntKind.signed];omega
theorem dH{w:Int}(h0:0<=w)(h1:w<2^64){k:Nat}(hk:k<64):Ud w (p2 k)=if(w/p2 k)%2=1 then w else w+p2 k:=by
 obtain⟨n,rfl⟩:∃n:Nat,w=n:=⟨w.toNat,by omega⟩
 have hn:n<2^64:=by omega
 have hp:(2:Nat)^k<2^64:=QL (by decide) hk
 have ep:p2 (k:Int)=((2^k:Nat):Int):=by simp[p2]
 have e1:=(bN hn hk).1
 rw[e1,ep]
 have e2:((n:Int)/((2^k:Nat):Int))%2=((n/2^k%2:Nat):Int):=by omega
 rw[e2]
 have hb:n.testBit k=decide (n/2^k%2=1):=Nat.testBit_eq_decide_div_mod_eq
 by_cases hc:n/2^k%2=1
 ·rw[if_pos (by omega)]
  congr 1
  apply QY
  intro i
  rw[Nat.testBit_or,Q1]
  by_cases e:k=i
  ·subst e;rw[hb];simp[hc]
  ·simp[e]
 ·rw[if_neg (by omega)]
  have hz:n&&&2^k=0:=by
   apply QY
   intro i
   rw[Nat.testBit_and,Q1,Nat.zero_testBit]
   by_cases e:k=i
   ·subst e;rw[hb];simp[hc]
   ·simp[e]
  have:=BitVec.add_eq_or_of_and_eq_zero (QF 65 n) (QF 65 (2^k)) (by
   apply BitVec.eq_of_toNat_eq
   rw[BitVec.toNat_and,Qr,Qr,Qq (by omega),Qq (by omega),hz];rfl)
  have:=congrArg BitVec.toNat this
  rw[BitVec.toNat_add,Xa,Qr,Qr,Qq (show n<2^65 by omega),Qq (show 2^k<2^65 by omega),Qq (by omega)]at this
  omega
theorem ck{w k:Int}(h0:0<=w)(h1:w<2^64)(k0:0<=k)(k1:k<64):Ud w (p2 k)=(if(w.tdiv (p2 k)).tmod 2=1 then w else w+p2 k)/\(¬(w.tdiv (p2 k)).tmod 2=1->IntKind.wrap .u64 (w+p2 k)=w+p2 k):=by
 obtain⟨m,rfl⟩:∃m:Nat,k=m:=⟨k.toNat,by omega⟩
 obtain⟨n,rfl⟩:∃n:Nat,w=n:=⟨w.toNat,by omega⟩
 have hn:n<2^64:=by omega
 have ep:p2 (m:Int)=((2^m:Nat):Int):=by simp[p2]
 have e:=dH (w:=n) (by omega) (by omega) (k:=m) (by omega)
 have hd:((n:Int).tdiv (p2 m))=(n:Int)/p2 m:=Qe (by omega)
 have hm:(((n:Int)/p2 m).tmod 2)=((n:Int)/p2 m)%2:=QO (QV (by omega) (by rw[ep];exact Int.natCast_nonneg _))
 rw[hd,hm]
 refine⟨e,λhc=> ?_⟩
 rw[if_neg hc]at e
 have:=bN hn (k:=m) (by omega)
 rw[e]at this
 rw[this.1]
 have h2:=this.2
 generalize n|||2^m=q at*
 simp[IntKind.wrap,IntKind.bits,IntKind.signed];omega
def IT(up:List Int)(i:Nat)(n:Nat)(k:Int):Prop:=(k=-1\/E0 up k=true)/\Md up i (n+1) k/\DK.stepsD up (up.length+1) (up.getD i 0)=n+DK.stepsD up (up.length+1-n) k
theorem IT.first{up:List Int}(h:Cm up=true){i:Nat}(hi:i<up.length)(hx:E0 up i=true):IT up i 0 (up.getD i 0):=by
 have hx':=D7.1 hx
 simp only[Qb]at hx'
 refine⟨?_,?_,by simp⟩
 ·rcases K7 h hi with a|a|a
  ·exact absurd a hx'.2.2
  ·exact .inl a
  ·exact .inr a
 ·have:=(Md.step h hi (.inl ⟨rfl,rfl⟩) (by omega)).2.2
  simpa using this
theorem IT.step{up:List Int}(h:Cm up=true){i:Nat}(hi:i<up.length){n:Nat}{k:Int}(d:IT up i n k)(h0:0<=k):k<up.length/\n+1<up.length+1/\IT up i (n+1) (up.getD k.toNat 0):=by
 obtain⟨d1,d2,d3⟩:=d
 have c:=Md.step h hi d2 h0
 have hk:E0 up k=true:=by
  rcases d1 with a|a; ·omega
  ·exact a
 have hk':=D7.1 hk
 refine⟨c.1,by have:=c.2.1;omega,?_,c.2.2,?_⟩
 ·rcases K7 h (i:=k.toNat) (by omega)with a|a|a
  ·exact absurd a hk'.2.2
  ·exact .inl a
  ·exact .inr a
 ·rw[d3,show up.length+1-n=(up.length+1-(n+1))+1 by have:=c.2.1;omega]
  have hne:¬k=-1:=by omega
  simp only[DK.stepsD,hne,if_false]
  omega
theorem IT.done{up:List Int}(h:Cm up=true){i:Nat}(hi:i<up.length)(hx:E0 up i=true){n:Nat}{k:Int}(d:IT up i n k)(h0:¬0<=k):DK up i=n:=by
 obtain⟨d1,d2,d3⟩:=d
 have hk:k=-1:=by
  rcases d1 with a|a
  ·exact a
  ·have:=D7.1 a;omega
 have hn:=d2.le
 have hm:GU up i=true:=by simp only[GU,h,hx,QK]
 simp only[DK,hm,cond_true,Qb]
 rw[d3,hk,show up.length+1-n=(up.length-n)+1 by omega]
 simp[DK.stepsD]
theorem WW{s:State}{t:Int}{k:Nat}(hk:k<(BM s t).length):0<=(BM s t).getD k 0/\(BM s t).getD k 0<s.AE.length:=by
 have:(BM s t).getD k 0∈BM s t:=by simp[Qm,hk]
 simp only[BM,pick,QG,QN,Qi]at this
 obtain⟨i,⟨hi,_⟩,e⟩:=this
 simp only[BM,pick]
 rw[<-e];exact⟨by simp,by simp;exact hi⟩
theorem U4{s:State}{t:Int}:(BM s t).length<=s.AE.length:=by simp only[BM];exact GO
theorem bJ{s:State}(h:Inv s){i:Nat}(hi:i<s.AE.length)(hn:s.B8 i):E0 (As s) (i:Int)=true/\(As s).getD i 0=(s.slot i).up:=by
 have hu:=h.up i hi hn
 have hn':Aq (s.slot i).cap=false:=hn
 have e:(As s).getD i 0=(s.slot i).up:=by rw[EG hi];simp only[FE,hn',cond_false]
 refine⟨?_,e⟩
 rw[D7,Qb,e,A8]
 omega
def Uh(s:State)(i j:Nat)(a:Int):Prop:=a<0\/(0<=a/\a<s.AE.length/\s.B8 a.toNat/\Md (As s) i (j+1) a)
theorem Uh.first{s:State}(h:Inv s){i:Nat}(hi:i<s.AE.length):Uh s i 0 (s.slot i).up:=by
 cases hn:Aq (s.slot i).cap with
 |true=>left;have:=h.SX i hi hn;omega
 |false=>
  rcases h.up i hi hn with a|⟨a,b,c⟩
  ·left;omega
  ·right
   have:=(Md.step h.ok.Ii (i:=i) (n:=0) (k:=i) (by rw[A8];exact hi) (.inl ⟨rfl,rfl⟩) (by omega)).2.2
   rw[Qb,(bJ h hi hn).2]at this
   exact⟨a,b,c,this⟩
theorem Uh.step{s:State}(h:Inv s){i j:Nat}(hi:i<s.AE.length){a:Int}(u:Uh s i j a)(h0:0<=a):a<s.AE.length/\j<s.AE.length+1/\Uh s i (j+1) (s.slot a.toNat).up:=by
 rcases u with u|⟨_,b,c,d⟩
 ·omega
 have st:=Md.step h.ok.Ii (by rw[A8];exact hi) d h0
 rw[A8]at st
 refine⟨b,by have:=st.2.1;omega,?_⟩
 have e:=(bJ h (i:=a.toNat) (by omega) c).2
 rcases h.up a.toNat (by omega) c with q|⟨q1,q2,q3⟩
 ·left;omega
 ·right;refine⟨q1,q2,q3,?_⟩
  rw[<-e];exact st.2.2
theorem Rr{l:List Slot}{k:Nat}(h:k<l.length):(l.map Slot.cells)[k]?=some [nS (l.getD k .zero).cap.ty,nS (l.getD k .zero).cap.th,nS (l.getD k .zero).cap.ri,nS (l.getD k .zero).cap.ba,nS (l.getD k .zero).up]:=by
 simp[h,Slot.cells,Qm]
theorem V0{l:List AN}{k:Nat}(h:k<l.length):(l.map AN.cells)[k]?=some [nS (l.getD k .zero).ty,nS (l.getD k .zero).bits,nS (l.getD k .zero).base,nS (l.getD k .zero).size,nS (l.getD k .zero).used,nS (l.getD k .zero).from_,nS (l.getD k .zero).BF,.bool (l.getD k .zero).full,nT (l.getD k .zero).word,nT (l.getD k .zero).d0,nT (l.getD k .zero).d1,nT (l.getD k .zero).d2,nT (l.getD k .zero).d3]:=by
 simp[h,AN.cells,Qm]
inductive tZ (s:State) (P:Nat->Prop):Int->Int->Prop
 |stop {a:Int} (h:0<=a->¬P a.toNat):tZ s P a a
 |go {a b:Int} (h0:0<=a) (hp:P a.toNat) (h:tZ s P (s.slot a.toNat).up b):tZ s P a b
theorem tZ.sS{s:State}{P:Nat->Prop}{a b:Int}{i:Nat}(h:tZ s P a b)(hb:b≠(i:Int)):tZ s (λk=>P k\/k=i) a b:=by
 induction h with
 |stop h=>exact .stop λh0 hp=>hp.elim (h h0) λe=>hb (by omega)
 |go h0 hp _ ih=>exact .go h0 (.inl hp) (ih hb)
theorem tZ.add_eq{s:State}{P:Nat->Prop}{a b c:Int}{i:Nat}(h:tZ s P a b)(hb:b=(i:Int))(k:tZ s (λk=>P k\/k=i) (s.slot i).up c):tZ s (λk=>P k\/k=i) a c:=by
 induction h with
 |stop h=>subst hb;exact .go (by omega) (.inr (by simp)) (by simpa using k)
 |go h0 hp _ ih=>exact .go h0 (.inl hp) (ih hb)
theorem tZ.PK{s:State}(hi:Inv s){r:Nat->Nat}(hr:∀i,i<s.AE.length->s.B8 i->0<=(s.slot i).up->r (s.slot i).up.toNat<r i){P:Nat->Prop}{a b:Int}(h:tZ s P a b)
 (h1:a<s.AE.length) (hn:0<=a->s.B8 a.toNat) (hb:0<=b):r b.toNat<=r a.toNat/\0<=a:=by
 induction h with
 |stop h=>exact⟨Ql _,hb⟩
 |@go a b h0 hp _ ih=>
  have hn:=hn h0
  rcases hi.up a.toNat (by omega) hn with e|⟨e1,e2,e3⟩
  ·have:=(ih (by omega) (λh=>by omega) hb).2;omega
  ·have:=(ih e2 (λ_=>e3) hb).1
   have:=hr a.toNat (by omega) hn e1
   exact⟨by omega,h0⟩
structure sR (s u:State) (P L:Nat->Prop):Prop where
 AS:u.AS=s.AS
 lS:u.AE.length=s.AE.length
 lT:u.AB.length=s.AB.length
 sub:∀k,P k->k<s.AE.length/\s.B8 k
 gone:∀k,P k->u.slot k=⟨.zero,-1⟩
 none:∀k,k<s.AE.length->¬s.B8 k->u.slot k=s.slot k
 cap:∀k,k<s.AE.length->¬P k->(u.slot k).cap=(s.slot k).cap
 up:∀k,k<s.AE.length->s.B8 k->¬P k->tZ s P (s.slot k).up (u.slot k).up
 lost:∀t,L t->u.AG t= .zero
 th:∀t,t<s.AB.length->¬L t->(u.AG t=s.AG t/\¬(0<(s.AG t).from_/\P ((s.AG t).from_-1).toNat))\/(u.AG t={s.AG t with from_:=0}/\0<(s.AG t).from_/\P ((s.AG t).from_-1).toNat)
 sY:∀t,L t->t<s.AB.length/\Bc s t=false/\(s.AG t).ty≠0/\(∀k,k<s.AE.length->s.B8 k->(s.slot k).cap.th=t->P k)/\∀i:Nat,i<s.AE.length->Bx (s.AG t) i=true->s.B8 i->P i
def rj(s:State)(C:Nat->Prop):Prop:=∀t,t<s.AB.length->Bc s t=false->(s.AG t).ty≠0->(∀k,k<s.AE.length->s.B8 k->(s.slot k).cap.th=t->C k)->∀i:Nat,i<s.AE.length->Bx (s.AG t) i=true->s.B8 i->C i
def r6(s:State)(l:List Int)(C:Nat->Prop):Prop:=∀x∈l,CC s x=true->C x.toNat
def pw(u:State):Nat:=Ij u u.AE.length
theorem sR.refl(s:State):sR s s (λ_=>False) (λ_=>False):=
 ⟨rfl,rfl,rfl,λ_ h=>h.elim,λ_ h=>h.elim,λ_ _ _=>rfl,λ_ _ _=>rfl,λ_ _ _ _=> .stop λ_ h=>h,λ_ h=>h.elim,λ_ _ _=> .inl ⟨rfl,λh=>h.2⟩,λ_ h=>h.elim⟩
theorem p7{u:State}{k:Nat}:¬u.B8 k↔Aq (u.slot k).cap=true:=by simp[State.B8]
theorem sR.B8{s u:State}{P L:Nat->Prop}(m:sR s u P L){k:Nat}(hk:k<s.AE.length):u.B8 k↔s.B8 k/\¬P k:=by
 constructor
 ·intro h
  have hp:¬P k:=λhp=>by have:=m.gone k hp;simp[State.B8,this,Aq,Bh.zero]at h
  refine⟨?_,hp⟩
  simp only[State.B8]at h ⊢;rw[<-m.cap k hk hp];exact h
 ·rintro⟨h,hp⟩;simp only[State.B8]at h ⊢;rw[m.cap k hk hp];exact h
theorem rV{u v:State}{i:Nat}(hu:Aq (u.slot i).cap=false)(hv:Aq (v.slot i).cap=true)(h:∀k,k≠i->Aq (v.slot k).cap=Aq (u.slot k).cap):∀n,Ij u n=Ij v n+if i<n then 1 else 0
 |0=>rfl
 |n+1=>by
  rw[Ik,Ik,rV hu hv h n]
  by_cases e:n=i
  ·subst e;simp[hu,hv]
  ·rw[h n e]
   by_cases h2:i<n
   ·rw[if_pos h2,if_pos (by omega:i<n+1)];omega
   ·rw[if_neg h2,if_neg (by omega:¬i<n+1)];omega
theorem pJ{u:State}{i:Int}:CC u i=true↔0<=i/\i<u.AE.length/\u.B8 i.toNat:=by
 simp only[CC,Qd,Qh,decide_eq_false_iff_not,Int.not_lt,Int.not_le,State.B8]
theorem sR.empty{s u:State}{P L:Nat->Prop}(hi:Inv s)(m:sR s u P L){i:Nat}(h:CC u (i:Int)=true):sR s (Bf u i) (λk=>P k\/k=i) L/\pw u=pw (Bf u i)+1:=by
 obtain⟨_,h1,h2⟩:=pJ.1 h
 rw[Qb]at h2
 have hiu:i<u.AE.length:=by omega
 have his:i<s.AE.length:=by rw[<-m.lS];exact hiu
 obtain⟨hin,hip⟩:=(m.B8 his).1 h2
 obtain⟨r,hr⟩:=hi.PK
 have sl:∀k,k<s.AE.length->(Bf u (i:Int)).slot k=if k=i then⟨.zero,-1⟩else B6 u (i:Int) (u.slot k):=λk hk=>GH hiu (by rw[m.lS];exact hk)
 have cl:tZ s P (s.slot i).up (u.slot i).up:=m.up i his hin hip
 have hne:(u.slot i).up≠(i:Int):=λe=>by
  rcases hi.up i his hin with q|⟨q1,q2,q3⟩
  ·have:=(cl.PK hi hr (by omega) (λh=>by omega) (by omega)).2;omega
  ·have:=(cl.PK hi hr q2 (λ_=>q3) (by omega)).1
   have:=hr i his hin q1
   rw[e,Qb]at*;omega
 refine⟨⟨m.AS,by simp[Bf,m.lS],by simp[Bf,m.lT],?_,?_,?_,?_,?_,?_,?_,?_⟩,?_⟩
 ·rintro k (h|rfl)
  ·exact m.sub k h
  ·exact⟨his,hin⟩
 ·rintro k (h|rfl)
  ·rw[sl k (m.sub k h).1]
   by_cases e:k=i
   ·rw[if_pos e]
   ·rw[if_neg e,m.gone k h,B6,if_neg (by simp only;omega)]
  ·rw[sl k his,if_pos rfl]
 ·intro k hk hn
  rw[sl k hk,if_neg (λe=>hn (by rw[e];exact hin)),m.none k hk hn]
  have:=hi.SX k hk (p7.1 hn)
  rw[B6,if_neg (by omega)]
 ·intro k hk hp
  rw[sl k hk,if_neg (λe=>hp (.inr e)),<-m.cap k hk λe=>hp (.inl e),B6]
  split<;>rfl
 ·intro k hk hn hp
  rw[sl k hk,if_neg (λe=>hp (.inr e)),B6]
  have c:=m.up k hk hn λe=>hp (.inl e)
  split
  ·rename_i e
   rw[Qb]
   exact c.add_eq e (cl.sS hne)
  ·rename_i e;exact c.sS e
 ·intro t ht
  rw[Gk (by rw[m.lT];exact(m.sY t ht).1),m.lost t ht,CX,if_neg (by simp[AN.zero];omega)]
 ·intro t ht hl
  rw[Gk (by rw[m.lT];exact ht)]
  rcases m.th t ht hl with⟨a,b⟩|⟨a,b,c⟩
  ·rw[a,CX]
   by_cases e:(s.AG t).from_=(i:Int)+1
   ·rw[if_pos e];exact .inr ⟨rfl,by omega,.inr (by omega)⟩
   ·rw[if_neg e];exact .inl ⟨rfl,fun⟨x,y⟩=>y.elim (λy=>b ⟨x,y⟩) λy=>e (by omega)⟩
  ·rw[a,CX,if_neg (by simp only;omega)];exact .inr ⟨rfl,b,.inl c⟩
 ·intro t ht
  obtain⟨a,b,c,d,e⟩:=m.sY t ht
  exact⟨a,b,c,λk x y z=> .inl (d k x y z),λk x y z=> .inl (e k x y z)⟩
 ·have:=rV (u:=u) (v:=Bf u (i:Int)) (i:=i) h2 (by rw[sl i his,if_pos rfl];simp[Aq,Bh.zero]) (λk hk=>by
   by_cases hks:k<s.AE.length
   ·rw[sl k hks,if_neg hk,B6];split<;>rfl
   ·have hl:(Bf u (i:Int)).AE.length=s.AE.length:=by simp[Bf,m.lS]
    simp only[State.slot,Qm];rw[Qt (by omega),Qt (by rw[m.lS];omega)]) u.AE.length
  rw[if_pos hiu]at this
  simp only[pw];rw[this];simp[Bf]
def Way(s:State)(l:List Int)(u:State)(n:Int):Prop:=∃P L,sR s u P L/\r6 s l P/\(∀C,r6 s l C->rj s C->∀k,P k->C k)/\n+pw u=pw s
theorem pZ{s:State}(hi:Inv s):∀(q:List Int) {u:State} {P L:Nat->Prop} (n:Int),sR s u P L->∃P',sR s (AZ u n q).1 P' L/\(∀k,P k->P' k)/\(∀C:Nat->Prop,(∀k,P k->C k)->(∀x∈q,CC s x=true->C x.toNat)->∀k,P' k->C k)/\(AZ u n q).2+pw (AZ u n q).1=n+pw u
 |[],u,P,L,n,m=>⟨P,m,λ_ h=>h,λC h _=>h,rfl⟩
 |x::q,u,P,L,n,m=>by
  have e:AZ u n (x::q)=AZ (BA (u,n) x).1 (BA (u,n) x).2 q:=rfl
  rw[e]
  cases hb:CC u x with
  |false=>
   simp only[BA,hb,cond_false]
   obtain⟨P',a,b,c,d⟩:=pZ hi q n m
   exact⟨P',a,b,λC h1 h2=>c C h1 λy hy=>h2 y (QZ _ hy),d⟩
  |true=>
   simp only[BA,hb,cond_true]
   obtain⟨h0,h1,h2⟩:=pJ.1 hb
   have ex:((x.toNat:Nat):Int)=x:=by omega
   have:=m.empty hi (i:=x.toNat) (by rw[ex];exact hb)
   rw[ex]at this
   obtain⟨m',f⟩:=this
   obtain⟨P',a,b,c,d⟩:=pZ hi q (n+1) m'
   refine⟨P',a,λk hk=>b k (.inl hk),λC h1' h2'=>c C ?_ λy hy=>h2' y (QZ _ hy),by rw[d,f];omega⟩
   rintro k (hk|rfl)
   ·exact h1' k hk
   ·refine h2' x List.mem_cons_self (pJ.2 ⟨h0,by rw[<-m.lS];exact h1,?_⟩)
    exact((m.B8 (by rw[<-m.lS];omega)).1 h2).1
theorem sM{t:AN}{x:Int}(h:x∈Cr t):Bx t x=true:=by
 simp only[Cr]at h
 cases h2:decide (t.ty=2)with
 |false=>rw[h2]at h;simp at h
 |true=>
  rw[h2]at h
  simp only[cond_true,QG,Qi]at h
  obtain⟨k,hk,rfl⟩:=h
  simp only[Bx,h2,Qz,Qd,decide_eq_true_eq]
  omega
theorem rc{v:State}{t k:Nat}(ht:t<v.AB.length):({v with AB:=v.AB.set t .zero}:State).AG k=if k=t then .zero else v.AG k:=by
 simp only[State.AG,Qm]
 by_cases e:k=t
 ·subst e;rw[if_pos rfl,QH ht];rfl
 ·rw[if_neg e,QM λh=>e h.symm]
theorem Way.lost{s:State}(hi:Inv s){l:List Int}{u:State}{n:Int}(w:Way s l u n){t:Nat}(ht:t<s.AB.length)(hl:DG u t=true):Way s l (FM u t).1 (n+(FM u t).2):=by
 obtain⟨P,L,m,hs,hm,hf⟩:=w
 simp only[DG,Qd,Qh,decide_eq_false_iff_not]at hl
 obtain⟨l1,l2,l3⟩:=hl
 have hL:¬L t:=λh=>l1 (by rw[m.lost t h];rfl)
 have hroot:Bc s t=false:=by simp only[Bc]at l2 ⊢;rw[<-m.AS];exact l2
 have ht3:(u.AG t).ty=(s.AG t).ty/\Cr (u.AG t)=Cr (s.AG t):=by
  rcases m.th t ht hL with⟨a,_⟩|⟨a,_⟩
  ·rw[a];exact⟨rfl,rfl⟩
  ·rw[a];exact⟨rfl,rfl⟩
 have hold:∀k,k<s.AE.length->s.B8 k->(s.slot k).cap.th=t->P k:=λk hk hn he=>by
  by_cases hp:P k
  ·exact hp
  ·have:=(m.B8 hk).2 ⟨hn,hp⟩
   rw[PZ (by rw[m.lS];exact hk) this (by rw[m.cap k hk hp];exact he)]at l3;cases l3
 obtain⟨P',a,b,c,d⟩:=pZ hi (Cr (u.AG t)) 0 m
 have hkn:∀i:Nat,i<s.AE.length->Bx (s.AG t) i=true->s.B8 i->P' i:=λi hi' hh hn=>by
  have h1:=LI (Cr (u.AG t)) (s:=u) (n:=0) (k:=i) (by rw[m.lS];exact hi') (by rw[ht3.2];exact ZU hh)
  by_cases hp:P' i
  ·exact hp
  ·have:=(a.B8 hi').2 ⟨hn,hp⟩
   simp only[State.B8]at this;rw[h1]at this;cases this
 refine⟨P',λk=>L k\/k=t,⟨a.AS,a.lS,by simp only[FM,Qf];exact a.lT,a.sub,a.gone,a.none,a.cap,a.up,?_,?_,?_⟩,λx h1 h2=>b _ (hs x h1 h2),λC h1 h2=>c C (hm C h1 h2) ?_,?_⟩
 ·have hz:∀k,(FM u t).1.AG k=_:=λk=>rc (v:=(AZ u 0 (Cr (u.AG t))).1) (k:=k) (by rw[a.lT];exact ht)
  intro k hk
  rw[hz]
  by_cases e:k=t
  ·rw[if_pos e]
  ·rw[if_neg e];exact a.lost k (hk.resolve_right e)
 ·intro k hk hn
  have e:k≠t:=λe=>hn (.inr e)
  have hz:(FM u t).1.AG k=_:=rc (v:=(AZ u 0 (Cr (u.AG t))).1) (k:=k) (by rw[a.lT];exact ht)
  rw[if_neg e]at hz
  rw[hz]
  exact a.th k hk λh=>hn (.inl h)
 ·rintro k (hk|rfl)
  ·exact a.sY k hk
  ·exact⟨ht,hroot,by rw[<-ht3.1];exact l1,λk x y z=>b k (hold k x y z),hkn⟩
 ·intro x hx hb
  obtain⟨x0,x1,x2⟩:=pJ.1 hb
  rw[ht3.2]at hx
  refine h2 t ht hroot (by rw[<-ht3.1];exact l1) (λk p q r=>hm C h1 h2 k (hold k p q r)) x.toNat (by omega) ?_ x2
  rw[Q2 x0];exact sM hx
 ·have e:pw (FM u t).1=pw (AZ u 0 (Cr (u.AG t))).1:=rfl
  rw[e]
  have:(FM u t).2=(AZ u 0 (Cr (u.AG t))).2:=rfl
  rw[this];omega
theorem Way.lT{s:State}{l:List Int}{u:State}{n:Int}(w:Way s l u n):u.AB.length=s.AB.length:=by obtain⟨_,_,m,_⟩:=w;exact m.lT
theorem Way.rounds{s:State}(hi:Inv s){l:List Int}{u:State}{n:Int}(w:Way s l u n):∀k,k<=s.AB.length->Way s l (rounds u n k).1 (rounds u n k).2.1
 |0,_=>w
 |k+1,hk=>by
  have ih:=Way.rounds hi w k (by omega)
  rw[KV]
  simp only[FB]
  cases h:DG (M.rounds u n k).1 k with
  |false=>exact ih
  |true=>exact ih.lost hi (by omega) h
theorem Way.DN{s:State}(hi:Inv s){l:List Int}:∀(k:Nat) {u:State} {n:Int},Way s l u n->Way s l (DN k u n).1 (DN k u n).2
 |0,_,_,w=>w
 |k+1,u,n,w=>by
  have h:=w.rounds hi u.AB.length (by rw[w.lT];exact Ql _)
  rw[M.DN,JK]
  cases (M.rounds u n u.AB.length).2.2 with
  |true=>exact Way.DN hi k h
  |false=>exact h
theorem rG{s:State}(hi:Inv s)(l:List Int):Way s l (DD s l).1 (DD s l).2:=by
 obtain⟨P',a,b,c,d⟩:=pZ hi l 0 (sR.refl s)
 refine Way.DN hi _ ⟨P',_,a,λx h1 h2=> ?_,λC h1 _=>c C (λ_ h=>h.elim) h1,by omega⟩
 obtain⟨x0,x1,x2⟩:=pJ.1 h2
 have h3:=LI l (s:=s) (n:=0) (k:=x.toNat) (by omega) (by rw[Q2 x0];exact h1)
 by_cases hp:P' x.toNat
 ·exact hp
 ·have:=(a.B8 (k:=x.toNat) (by omega)).2 ⟨x2,hp⟩
  simp only[State.B8]at this;rw[h3]at this;cases this
def pB(s:State)(g:List Bool)(x:Int):List Bool:=bif CC s x then g.set x.toNat true else g
def Dp(s:State)(g:List Bool)(t:Nat):Bool:=!(Bc s t||decide ((s.AG t).ty=0)||(BM s t).any λh=>!g.getD h.toNat false)
def pE(s:State)(t i:Nat):Bool:=Bx (s.AG t) i&&!Aq (s.slot i).cap
def pD(s:State)(t:Nat)(g:List Bool)(k:Nat):List Bool:=(Qg k).foldl (λg i=>bif pE s t i then g.set i true else g) g
def pV(s:State)(p:List Bool×List Bool)(t:Nat):List Bool×List Bool:=(bif Dp s p.1 t then pD s t p.1 s.AE.length else p.1,p.2.set t (Dp s p.1 t))
def pA(s:State)(p:List Bool×List Bool)(k:Nat):List Bool×List Bool:=(Qg k).foldl (pV s) p
def pH(s:State)(p:List Bool×List Bool):Nat->List Bool×List Bool
 |0=>p
 |k+1=>pA s (pH s p k) s.AB.length
def pM(s:State)(g:List Bool):Nat->Int->Int
 |0,a=>a
 |n+1,a=>bif decide (0<=a)&&g.getD a.toNat false then pM s g n (s.slot a.toNat).up else a
def rI(s:State)(g:List Bool)(p:List Slot×Nat)(i:Nat):List Slot×Nat:=bif g.getD i false then(p.1.set i ⟨.zero,-1⟩,p.2+1)else(p.1.set i ⟨(s.slot i).cap,pM s g (s.AE.length+2) (s.slot i).up⟩,p.2)
def pN(s:State)(g:List Bool)(k:Nat):List Slot×Nat:=(Qg k).foldl (rI s g) (s.AE,0)
def rZ(s:State)(g q:List Bool)(ts:List AN)(t:Nat):List AN:=bif q.getD t false then ts.set t .zero else bif decide (0<(s.AG t).from_)&&g.getD ((s.AG t).from_-1).toNat false then ts.set t {s.AG t with from_:=0}else ts
def pU(s:State)(g q:List Bool)(k:Nat):List AN:=(Qg k).foldl (rZ s g q) s.AB
def po(s:State)(l:List Int):List Bool×List Bool:=pH s (l.foldl (pB s) (Qo s.AE.length false),Qo s.AB.length false) (s.AB.length+1)
def rE(s:State)(l:List Int):State×Int:=(⟨s.AS,(pN s (po s l).1 s.AE.length).1,pU s (po s l).1 (po s l).2 s.AB.length⟩,((pN s (po s l).1 s.AE.length).2:Int))
theorem fold_succ{α:Type}{f:α->Nat->α}{a:α}{k:Nat}:(Qg (k+1)).foldl f a=f ((Qg k).foldl f a) k:=by rw[Q9,List.foldl_append];rfl
theorem pR{α:Type}{l:List α}{i j:Nat}{a d:α}(h:i<l.length):(l.set i a).getD j d=if j=i then a else l.getD j d:=by
 simp only[Qm]
 by_cases e:j=i
 ·subst e;rw[if_pos rfl,QH h];rfl
 ·rw[if_neg e,QM λh=>e h.symm]
theorem pQ{s:State}{t:Nat}{g:List Bool}:∀k,(pD s t g k).length=g.length
 |0=>rfl
 |k+1=>by
  rw[pD,fold_succ,<-pD]
  cases pE s t k with
  |false=>exact pQ k
  |true=>rw[cond_true,Qf];exact pQ k
theorem pW{s:State}{t:Nat}{g:List Bool}{j:Nat}:∀k,k<=g.length->(pD s t g k).getD j false=(g.getD j false||(decide (j<k)&&pE s t j))
 |0,_=>by simp[pD]
 |k+1,hk=>by
  have ih:=pW (s:=s) (t:=t) (g:=g) (j:=j) k (by omega)
  have hl:=pQ (s:=s) (t:=t) (g:=g) k
  rw[pD,fold_succ,<-pD]
  by_cases e:j=k
  ·subst e
   cases h:pE s t j with
   |false=>rw[cond_false,ih,h];simp
   |true=>rw[cond_true,pR (by omega),if_pos rfl];simp
  ·have e2:decide (j<k+1)=decide (j<k):=by simp;omega
   rw[e2]
   cases h:pE s t k with
   |false=>rw[cond_false,ih]
   |true=>rw[cond_true,pR (by omega),if_neg e,ih]
structure Mk (s:State) (l:List Int) (g:List Bool):Prop where
 len:g.length=s.AE.length
 B8:∀k,g.getD k false=true->s.B8 k
 tD:r6 s l λk=>g.getD k false=true
 least:∀C,r6 s l C->rj s C->∀k,g.getD k false=true->C k
theorem pd{s:State}{g:List Bool}{t:Nat}:Dp s g t=true↔Bc s t=false/\(s.AG t).ty≠0/\∀k,k<s.AE.length->s.B8 k->(s.slot k).cap.th=t->g.getD k false=true:=by
 simp only[Dp,Qh,Bool.or_eq_false_iff,decide_eq_false_iff_not,List.any_eq_false,Q3,Bool.not_eq_false,and_assoc]
 refine and_congr_right λ_=>and_congr_right λ_=>⟨λh k hk hn he=> ?_,λh x hx=> ?_⟩
 ·have:=h (k:Int) (by simp only[BM,pick,QG,QN,Qi];exact⟨k,⟨hk,by simp[DV,he];exact hn⟩,rfl⟩)
  simpa using this
 ·simp only[BM,pick,QG,QN,Qi,DV,Qd,Qh,decide_eq_true_eq]at hx
  obtain⟨k,⟨hk,hn,he⟩,rfl⟩:=hx
  simpa using h k hk hn he
theorem p6{s:State}{l:List Int}:Mk s l (l.foldl (pB s) (Qo s.AE.length false)):=by
 have key:∀(q p:List Int) (g:List Bool),g.length=s.AE.length->(∀k,g.getD k false=true↔∃x∈p,CC s x=true/\x.toNat=k)->
  (q.foldl (pB s) g).length=s.AE.length/\∀k,(q.foldl (pB s) g).getD k false=true↔∃x∈p++q,CC s x=true/\x.toNat=k:=by
  intro q
  induction q with
  |nil=>intro p g h1 h2;rw[Qa];exact⟨h1,h2⟩
  |cons y q ih=>
   intro p g h1 h2
   rw[List.foldl_cons,show p++y::q=(p++[y])++q by simp]
   refine ih (p++[y]) _ (by rw[pB];cases CC s y<;>simp[h1]) λk=> ?_
   rw[pB]
   cases hb:CC s y with
   |false=>
    rw[cond_false,h2 k]
    constructor
    ·rintro⟨x,hx,r⟩;exact⟨x,Q0 _ hx,r⟩
    ·rintro⟨x,hx,r⟩
     rcases Xb.1 hx with hx|hx
     ·exact⟨x,hx,r⟩
     ·rw[QP.1 hx,hb]at r;cases r.1
   |true=>
    obtain⟨y0,y1,_⟩:=pJ.1 hb
    rw[cond_true,pR (by omega)]
    by_cases e:k=y.toNat
    ·rw[if_pos e];exact⟨λ_=>⟨y,by simp,hb,e.symm⟩,λ_=>rfl⟩
    ·rw[if_neg e,h2 k]
     constructor
     ·rintro⟨x,hx,r⟩;exact⟨x,Q0 _ hx,r⟩
     ·rintro⟨x,hx,r⟩
      rcases Xb.1 hx with hx|hx
      ·exact⟨x,hx,r⟩
      ·rw[QP.1 hx]at r;exact absurd r.2.symm e
 obtain⟨a,b⟩:=key l [] (Qo s.AE.length false) (by simp) (λk=>by simp[Qm,QD];split<;>simp)
 simp only[List.nil_append]at b
 refine⟨a,λk hk=> ?_,λx hx hb=>(b _).2 ⟨x,hx,hb,rfl⟩,λC h1 _ k hk=> ?_⟩
 ·obtain⟨x,_,hb,rfl⟩:=(b k).1 hk;exact(pJ.1 hb).2.2
 ·obtain⟨x,hx,hb,rfl⟩:=(b k).1 hk;exact h1 x hx hb
theorem Mk.node{s:State}{l:List Int}{g:List Bool}(m:Mk s l g){t:Nat}(ht:t<s.AB.length)(hl:Dp s g t=true):Mk s l (pD s t g s.AE.length):=by
 have e:=λj=>pW (s:=s) (t:=t) (g:=g) (j:=j) s.AE.length (by rw[m.len];exact Ql _)
 have hb:∀j,pE s t j=true↔Bx (s.AG t) j=true/\s.B8 j:=λj=>by simp[pE,State.B8]
 refine⟨by rw[pQ];exact m.len,λk hk=> ?_,λx hx hb=> ?_,λC h1 h2 k hk=> ?_⟩
 ·rw[e,Qj,Qd]at hk
  rcases hk with hk|⟨_,hk⟩
  ·exact m.B8 k hk
  ·exact((hb k).1 hk).2
 ·show _=true
  rw[e,m.tD x hx hb];rfl
 ·rw[e,Qj,Qd,decide_eq_true_eq]at hk
  rcases hk with hk|⟨hk1,hk⟩
  ·exact m.least C h1 h2 k hk
  ·obtain⟨a,b,c⟩:=pd.1 hl
   exact h2 t ht a b (λj p q r=>m.least C h1 h2 j (c j p q r)) k hk1 ((hb k).1 hk).1 ((hb k).1 hk).2
theorem Mk.step{s:State}{l:List Int}{p:List Bool×List Bool}(m:Mk s l p.1){t:Nat}(ht:t<s.AB.length):Mk s l (pV s p t).1/\(pV s p t).2.length=p.2.length/\∀j,p.1.getD j false=true->(pV s p t).1.getD j false=true:=by
 simp only[pV]
 refine⟨?_,Qf,?_⟩
 ·cases h:Dp s p.1 t with
  |false=>exact m
  |true=>exact m.node ht h
 ·intro j hj
  cases h:Dp s p.1 t with
  |false=>exact hj
  |true=>rw[cond_true,pW _ (by rw[m.len];exact Ql _),hj];rfl
theorem Mk.round{s:State}{l:List Int}{p:List Bool×List Bool}(m:Mk s l p.1):∀k,k<=s.AB.length->Mk s l (pA s p k).1/\(pA s p k).2.length=p.2.length/\∀j,p.1.getD j false=true->(pA s p k).1.getD j false=true
 |0,_=>⟨m,rfl,λ_ h=>h⟩
 |k+1,hk=>by
  obtain⟨a,b,c⟩:=m.round k (by omega)
  rw[pA,fold_succ,<-pA]
  obtain⟨d,e,f⟩:=a.step (t:=k) (by omega)
  exact⟨d,e.trans b,λj h=>f j (c j h)⟩
def pY(s:State)(g:List Bool)(t:Nat):Bool:=Dp s g t&&(Qg s.AE.length).all λi=>!pE s t i||g.getD i false
theorem pg{s:State}{g g':List Bool}(h:∀j,g.getD j false=true->g'.getD j false=true){t:Nat}(hl:Dp s g t=true):Dp s g' t=true:=by
 rw[pd]at hl ⊢;exact⟨hl.1,hl.2.1,λk a b c=>h k (hl.2.2 k a b c)⟩
theorem rM{s:State}{g g':List Bool}(h:∀j,g.getD j false=true->g'.getD j false=true){t:Nat}(hl:pY s g t=true):pY s g' t=true:=by
 simp only[pY,Qd,Qx,Qi,Qj]at hl ⊢
 exact⟨pg h hl.1,λi hi=>(hl.2 i hi).imp id (h i)⟩
theorem sN{s:State}{l:List Int}{g:List Bool}(m:Mk s l g){t:Nat}(hd:pY s g t=true):pD s t g s.AE.length=g:=by
 simp only[pY,Qd,Qx,Qi,Qj,Qh]at hd
 refine List.ext_getElem? λj=> ?_
 by_cases hj:j<s.AE.length
 ·have h1:=pW (s:=s) (t:=t) (g:=g) (j:=j) s.AE.length (by rw[m.len];exact Ql _)
  have h2:(pD s t g s.AE.length).getD j false=g.getD j false:=by
   rw[h1]
   rcases hd.2 j hj with h|h
   ·rw[h];simp
   ·rw[h];simp
  simp only[Qm]at h2
  have l1:j<(pD s t g s.AE.length).length:=by rw[pQ,m.len];exact hj
  have l2:j<g.length:=by rw[m.len];exact hj
  rw[QA l1,QA l2]at h2 ⊢
  simp only[Q7]at h2;rw[h2]
 ·rw[Qt (by rw[pQ,m.len];omega),Qt (by rw[m.len];omega)]
def px(s:State)(g:List Bool):Prop:=∀t,t<s.AB.length->Dp s g t=true->pY s g t=true
theorem ph{s:State}{l:List Int}{p:List Bool×List Bool}(m:Mk s l p.1)(st:px s p.1)(hq:p.2.length=s.AB.length):∀k,k<=s.AB.length->(pA s p k).1=p.1/\(pA s p k).2.length=s.AB.length/\∀t,t<k->(pA s p k).2.getD t false=Dp s p.1 t
 |0,_=>⟨rfl,hq,λt h=>by omega⟩
 |k+1,hk=>by
  obtain⟨a,b,c⟩:=ph m st hq k (by omega)
  rw[pA,fold_succ,<-pA]
  simp only[pV,a]
  refine⟨?_,by rw[Qf];exact b,λt ht=> ?_⟩
  ·cases h:Dp s p.1 k with
   |false=>rfl
   |true=>exact sN m (st k (by omega) h)
  ·rw[pR (by omega)]
   by_cases e:t=k
   ·rw[if_pos e,e]
   ·rw[if_neg e];exact c t (by omega)
theorem ry{s:State}{l:List Int}{p:List Bool×List Bool}(m:Mk s l p.1)(st:¬px s p.1):(Qg s.AB.length).countP (pY s p.1)<(Qg s.AB.length).countP (pY s (pA s p s.AB.length).1):=by
 obtain⟨t,h⟩:=Classical.not_forall.1 st
 obtain⟨ht,h⟩:=Classical.not_imp.1 h
 obtain⟨hl,hd⟩:=Classical.not_imp.1 h
 have mono:=(m.round s.AB.length (Ql _)).2.2
 refine Jj (λx _ hx=>rM mono hx) ⟨t,Qi.2 ht,?_,by simpa using hd⟩
 -- (at its turn the thing is lost, and its slots are marked)
 have key:∀k,t<k->k<=s.AB.length->pY s (pA s p k).1 t=true:=by
  intro k
  induction k with
  |zero=>intro h;omega
  |succ k ih=>
   intro h1 h2
   obtain⟨a,_,c⟩:=m.round k (by omega)
   obtain⟨d,_,f⟩:=a.step (t:=k) (by omega)
   rw[pA,fold_succ,<-pA]
   by_cases e:t=k
   ·subst e
    have hl':=pg c hl
    have hf:=pg f hl'
    simp only[pY,Qd,Qx,Qi,Qj,Qh]
    refine⟨hf,λi hi=> ?_⟩
    cases hb:pE s t i with
    |false=>exact .inl rfl
    |true=>right;simp only[pV,hl',cond_true];rw[pW _ (by rw[a.len];exact Ql _),hb];simp[hi]
   ·exact rM f (ih (by omega) (by omega))
 exact key _ ht (Ql _)
theorem rb{s:State}{l:List Int}{p:List Bool×List Bool}(m:Mk s l p.1)(hq:p.2.length=s.AB.length):∀k,Mk s l (pH s p k).1/\(pH s p k).2.length=s.AB.length/\(px s (pH s p k).1\/k<=(Qg s.AB.length).countP (pY s (pH s p k).1))
 |0=>⟨m,hq,.inr (Nat.zero_le _)⟩
 |k+1=>by
  obtain⟨a,b,c⟩:=rb m hq k
  obtain⟨d,e,_⟩:=a.round s.AB.length (Ql _)
  refine⟨d,e.trans b,?_⟩
  by_cases st:px s (pH s p k).1
  ·left
   have:=(ph a st b s.AB.length (Ql _)).1
   rw[pH,this];exact st
  ·right
   have:=ry a st
   have:=c.resolve_left st
   rw[pH];omega
theorem r4{s:State}{g:List Bool}(h:s.AB.length<=(Qg s.AB.length).countP (pY s g)):px s g:=by
 have e:(Qg s.AB.length).countP (pY s g)=(Qg s.AB.length).length:=Nat.le_antisymm QW (by simpa using h)
 rw[List.countP_eq_length]at e
 exact λt ht _=>e t (Qi.2 ht)
theorem s5{s:State}{l:List Int}:Mk s l (po s l).1/\px s (po s l).1/\(po s l).2.length=s.AB.length/\∀t,t<s.AB.length->(po s l).2.getD t false=Dp s (po s l).1 t:=by
 have q:(Qo s.AB.length false).length=s.AB.length:=by simp
 obtain⟨a,b,c⟩:=rb (s:=s) (l:=l) (p:=(l.foldl (pB s) (Qo s.AE.length false),Qo s.AB.length false)) p6 q s.AB.length
 have st:px s _:=c.elim id r4
 obtain⟨d,e,f⟩:=ph a st b s.AB.length (Ql _)
 simp only[po,pH]
 rw[d];exact⟨a,st,e,f⟩
theorem sU{s:State}(h:Inv s){g:List Bool}{i:Nat}(hi:i<s.AE.length){a b:Int}(c:tZ s (λk=>g.getD k false=true) a b):∀{j f:Nat},Uh s i j a->s.AE.length+2<=f+j->pM s g f a=b:=by
 induction c with
 |@stop a hs=>
  intro j f _ _
  cases f with
  |zero=>rfl
  |succ f=>
   rw[pM]
   by_cases h0:0<=a
   ·have:=hs h0
    simp only[Bool.not_eq_true]at this;rw[this];simp
   ·simp[h0]
 |@go a b h0 hp _ ih=>
  intro j f u hf
  have st:=u.step h hi h0
  cases f with
  |zero=>omega
  |succ f=>
   rw[pM,hp,decide_eq_true h0,QS,cond_true]
   exact ih st.2.2 (by omega)
theorem rF{s:State}{g:List Bool}:∀k,k<=s.AE.length->(pN s g k).1.length=s.AE.length/\∀j,(pN s g k).1.getD j .zero=if j<k then(if g.getD j false=true then⟨.zero,-1⟩else⟨(s.slot j).cap,pM s g (s.AE.length+2) (s.slot j).up⟩)else s.slot j
 |0,_=>⟨rfl,λj=>rfl⟩
 |k+1,hk=>by
  obtain⟨a,b⟩:=rF (s:=s) (g:=g) k (by omega)
  rw[pN,fold_succ,<-pN]
  cases h:g.getD k false with
  |true=>
   simp only[rI,h,cond_true]
   refine⟨by rw[Qf];exact a,λj=> ?_⟩
   rw[pR (by omega),b j]
   by_cases e:j=k
   ·subst e;rw[if_pos rfl,if_pos (by omega),if_pos h]
   ·rw[if_neg e];by_cases e2:j<k
    ·rw[if_pos e2,if_pos (show j<k+1 by omega)]
    ·rw[if_neg e2,if_neg (show ¬j<k+1 by omega)]
  |false=>
   simp only[rI,h,cond_false]
   refine⟨by rw[Qf];exact a,λj=> ?_⟩
   rw[pR (by omega),b j]
   by_cases e:j=k
   ·subst e;rw[if_pos rfl,if_pos (by omega),if_neg (by rw[h];simp)]
   ·rw[if_neg e];by_cases e2:j<k
    ·rw[if_pos e2,if_pos (show j<k+1 by omega)]
    ·rw[if_neg e2,if_neg (show ¬j<k+1 by omega)]
theorem rN{s u:State}{g:List Bool}(h:∀k,k<s.AE.length->(u.B8 k↔s.B8 k/\¬g.getD k false=true))(hn:∀k,g.getD k false=true->s.B8 k):∀k,k<=s.AE.length->(pN s g k).2+Ij u k=Ij s k
 |0,_=>rfl
 |k+1,hk=>by
  have ih:=rN h hn k (by omega)
  rw[pN,fold_succ,<-pN,Ik,Ik]
  have hu:=h k (by omega)
  cases hg:g.getD k false with
  |true=>
   have h1:Aq (s.slot k).cap=false:=hn k hg
   have h2:Aq (u.slot k).cap=true:=p7.1 λq=>(hu.1 q).2 hg
   simp only[rI,hg,cond_true,h1,h2];simp;omega
  |false=>
   have e:Aq (u.slot k).cap=Aq (s.slot k).cap:=by
    cases hs:Aq (s.slot k).cap with
    |false=>exact hu.2 ⟨hs,by rw[hg];simp⟩
    |true=>exact p7.1 λq=>p7.2 hs (hu.1 q).1
   simp only[rI,hg,cond_false,e];omega
theorem ra{s:State}{g q:List Bool}:∀k,k<=s.AB.length->(pU s g q k).length=s.AB.length/\∀j,(pU s g q k).getD j .zero=if j<k then(if q.getD j false=true then .zero else if 0<(s.AG j).from_/\g.getD ((s.AG j).from_-1).toNat false=true then{s.AG j with from_:=0}else s.AG j)else s.AG j
 |0,_=>⟨rfl,λj=>rfl⟩
 |k+1,hk=>by
  obtain⟨a,b⟩:=ra (s:=s) (g:=g) (q:=q) k (by omega)
  rw[pU,fold_succ,<-pU]
  have fin:∀(x:AN) (j:Nat),x=(if q.getD k false=true then .zero else if 0<(s.AG k).from_/\g.getD ((s.AG k).from_-1).toNat false=true then{s.AG k with from_:=0}else s.AG k)->
   ((pU s g q k).set k x).getD j .zero=if j<k+1 then(if q.getD j false=true then .zero else if 0<(s.AG j).from_/\g.getD ((s.AG j).from_-1).toNat false=true then{s.AG j with from_:=0}else s.AG j)else s.AG j:=λx j hx=>by
   rw[pR (by omega),b j]
   by_cases e:j=k
   ·subst e;rw[if_pos rfl,if_pos (by omega),hx]
   ·rw[if_neg e];by_cases e2:j<k
    ·rw[if_pos e2,if_pos (show j<k+1 by omega)]
    ·rw[if_neg e2,if_neg (show ¬j<k+1 by omega)]
  simp only[rZ]
  cases hq:q.getD k false with
  |true=>exact⟨by rw[cond_true,Qf];exact a,λj=>by rw[cond_true];exact fin _ j (by rw[hq,if_pos rfl])⟩
  |false=>
   rw[cond_false]
   by_cases h0:0<(s.AG k).from_/\g.getD ((s.AG k).from_-1).toNat false=true
   ·rw[decide_eq_true h0.1,h0.2,QS,cond_true]
    exact⟨by rw[Qf];exact a,λj=>fin _ j (by rw[hq,if_neg (by simp),if_pos h0])⟩
   ·have:(decide (0<(s.AG k).from_)&&g.getD ((s.AG k).from_-1).toNat false)=false:=by
     rw[Bool.and_eq_false_iff,decide_eq_false_iff_not]
     by_cases h1:0<(s.AG k).from_
     ·right;simpa using λh2=>h0 ⟨h1,h2⟩
     ·exact .inl h1
    rw[this,cond_false]
    refine⟨a,λj=> ?_⟩
    rw[b j]
    by_cases e:j=k
    ·subst e;rw[if_neg (by omega),if_pos (by omega),hq,if_neg (by simp),if_neg h0]
    ·by_cases e2:j<k
     ·rw[if_pos e2,if_pos (show j<k+1 by omega)]
     ·rw[if_neg e2,if_neg (show ¬j<k+1 by omega)]
theorem pn{α:Type}{d:α}{a b:List α}(hl:a.length=b.length)(h:∀i,i<a.length->a.getD i d=b.getD i d):a=b:=by
 refine Q6 hl λi h1 h2=> ?_
 have:=h i h1
 simpa [Qm,h1,h2] using this
theorem rK{s:State}(hi:Inv s)(o:Es s)(l:List Int):rE s l=DD s l:=by
 have hlost:∀t,t<s.AB.length->DG (DD s l).1 t=false:=by
  have hl:=Gj (s:=s) (n:=0) (l:=l)
  have:=(RT (s.AB.length+1) (n:=(AZ s 0 l).2) (pc l (n:=0) (hi.pre o)) (hl.bits (Lt hi)) (by have:=VA (u:=(AZ s 0 l).1);have:=hl.lT;omega)).2
  intro t ht
  exact this t (by have:=(rG hi l).lT;simp only[DD]at this;omega)
 obtain⟨P,L,m,hs,hm,hf⟩:=rG hi l
 obtain⟨mk,st,hq,hql⟩:=s5 (s:=s) (l:=l)
 simp only[rE]
 generalize po s l=p at*
 obtain⟨g,q⟩:=p
 simp only at mk st hq hql ⊢
 have cG:rj s λk=>g.getD k false=true:=λt ht h1 h2 h3 i hil hh hn=>by
  have:=st t ht (pd.2 ⟨h1,h2,h3⟩)
  simp only[pY,Qd,Qx,Qi,Qj,Qh]at this
  refine(this.2 i hil).resolve_left λe=> ?_
  have hn':Aq (s.slot i).cap=false:=hn
  rw[pE,hh,hn']at e;cases e
 have nL:∀t,t<s.AB.length->Bc s t=false->(s.AG t).ty≠0->(∀k,k<s.AE.length->s.B8 k->(s.slot k).cap.th=t->P k)->L t:=λt ht h1 h2 h3=>by
  by_cases hl:L t
  ·exact hl
  have e:(((DD s l).1).AG t).ty=(s.AG t).ty:=by rcases m.th t ht hl with⟨a,_⟩|⟨a,_⟩<;>rw[a]
  have:=hlost t ht
  have hr:Bc (DD s l).1 t=false:=by simp only[Bc]at h1 ⊢;rw[m.AS];exact h1
  simp only[DG,e,h2,hr,decide_false,QX,Qz,Q3]at this
  obtain⟨k,k1,k2,k3⟩:=U3.1 this
  rw[m.lS]at k1
  obtain⟨a,b⟩:=(m.B8 k1).1 k2
  exact absurd (h3 k k1 a (by rw[<-m.cap k k1 b];exact k3)) b
 have cP:rj s P:=λt ht h1 h2 h3 i hil hh hn=>(m.sY t (nL t ht h1 h2 h3)).2.2.2.2 i hil hh hn
 obtain rfl:P=λk=>g.getD k false=true:=funext λk=>propext ⟨hm _ mk.tD cG k,mk.least P hs cP k⟩
 have LQ:∀t,t<s.AB.length->(L t↔q.getD t false=true):=λt ht=>by
  rw[hql t ht,pd]
  exact⟨λh=>let⟨_,b,c,d,_⟩:=m.sY t h;⟨b,c,d⟩,fun⟨a,b,c⟩=>nL t ht a b c⟩
 obtain⟨u1,u2⟩:=rF (s:=s) (g:=g) s.AE.length (Ql _)
 obtain⟨t1,t2⟩:=ra (s:=s) (g:=g) (q:=q) s.AB.length (Ql _)
 have un:=rN (u:=(DD s l).1) (λk hk=>m.B8 hk) mk.B8 s.AE.length (Ql _)
 refine Prod.ext ?_ ?_
 ·have e1:(pN s g s.AE.length).1=(DD s l).1.AE:=by
   refine pn (d:= .zero) (by rw[u1,m.lS]) λk hk=> ?_
   rw[u2 k,if_pos (by omega)]
   have hk:k<s.AE.length:=by omega
   show _=(DD s l).1.slot k
   by_cases hg:g.getD k false=true
   ·rw[if_pos hg,m.gone k hg]
   ·rw[if_neg hg]
    cases hn:Aq (s.slot k).cap with
    |true=>
     rw[m.none k hk (p7.2 hn)]
     have hu:=hi.SX k hk hn
     rw[hu,pM]
     generalize s.slot k=x at*
     obtain⟨xc,xu⟩:=x
     simp only at hu ⊢;rw[hu];rfl
    |false=>
     rw[sU hi hk (m.up k hk hn hg) (Uh.first hi hk) (by omega),<-m.cap k hk hg]
  have e2:pU s g q s.AB.length=(DD s l).1.AB:=by
   refine pn (d:= .zero) (by rw[t1,m.lT]) λk hk=> ?_
   rw[t2 k,if_pos (by omega)]
   have hk:k<s.AB.length:=by omega
   show _=(DD s l).1.AG k
   by_cases hg:q.getD k false=true
   ·rw[if_pos hg,m.lost k ((LQ k hk).2 hg)]
   ·rw[if_neg hg]
    rcases m.th k hk (λh=>hg ((LQ k hk).1 h))with⟨a,b⟩|⟨a,b⟩
    ·rw[if_neg b,a]
    ·rw[if_pos b,a]
  simp only[e1,e2,<-m.AS]
 ·simp only[pw,m.lS]at hf ⊢;omega
def pj(n:Int):Prop:=0<=n/\n<2^64
structure rk (s:State):Prop where
 inv:Inv s
 ZY:Es s
 word:∀k,k<s.AB.length->pj (s.AG k).word
theorem rf{s:State}{i k:Nat}{t:AN}(hi:i<s.AB.length):({s with AB:=s.AB.set i t}:State).AG k=if k=i then t else s.AG k:=by
 simp only[State.AG,Qm]
 by_cases e:k=i
 ·subst e;rw[if_pos rfl,QH hi];rfl
 ·rw[if_neg e,QM λh=>e h.symm]
theorem tc{s:State}{i:Int}{t:AN}(h:∀k,k<s.AB.length->pj (s.AG k).word)(ht:pj t.word)(k:Nat)(hk:k<(boxed s i t).AB.length):pj ((boxed s i t).AG k).word:=by
 have hl:(boxed s i t).AB.length=s.AB.length:=by simp[boxed]
 rw[hl]at hk
 by_cases hi:i.toNat<s.AB.length
 ·have e:(boxed s i t).AG k=_:=rf (t:=t) hi
  rw[e];split
  ·exact ht
  ·exact h k hk
 ·have e:(boxed s i t).AG k=s.AG k:=by simp only[boxed,State.AG,Qm,Q4];rw[if_neg (by omega)]
  rw[e];exact h k hk
theorem pX:pj 0:=⟨by decide,by decide⟩
theorem sf{a b:Int}:pj (Ud a b):=by
 unfold Ud pj;simp only[IntKind.wrap,IntKind.bits,IntKind.signed];simp;omega
theorem sP{a b c:Int}:(HH a b c).1.word=0:=by
 have h:(Bw a b c).word=0:=by unfold Bw;cases decide (a=1)<;>cases decide (a=2)<;>rfl
 simp only[HH]
 cases decide (a=1)||(decide (a=2)||(decide (a=3)||(decide (a=4)||decide (a=5))))with
 |false=>rfl
 |true=>cases BB (Bw a b c)with
  |false=>rfl
  |true=>exact h
theorem rR{s:State}(hi:Inv s)(h:∀k,k<s.AB.length->pj (s.AG k).word)(l:List Int):∀k,k<(DD s l).1.AB.length->pj ((DD s l).1.AG k).word:=by
 obtain⟨P,L,m,_⟩:=rG hi l
 intro k hk
 rw[m.lT]at hk
 by_cases hl:L k
 ·rw[m.lost k hl];exact pX
 ·rcases m.th k hk hl with⟨a,_⟩|⟨a,_⟩<;>rw[a]<;>exact h k hk
theorem rz{s u:State}{th:Int}{c:Call}(d:rk s)(hw:pj c.w)(h:(DY s th c).st=some u):rk u:=by
 obtain⟨_,t⟩:=fk d.ZY h
 refine⟨t.inv,t.ZY,?_⟩
 clear t
 have inv:=d.inv
 have W:=d.word
 simp only[DY]at h
 cases hg:(BN s&&(AT c&&Bv th 0 (s.AS.AI-1)))with
 |false=>rw[hg]at h;simp[CD.bad]at h
 |true=>
 rw[hg]at h
 simp only[QR,cond_false]at h
 by_cases h1:c.op=1
 ·rw[decide_eq_true h1]at h
  simp only[cond_true]at h
  obtain⟨_,_,_,_,_,_,_,f0,_,_,rfl⟩:=JG h
  obtain⟨f1,_⟩:=Lc f0
  intro k hk
  have hl:(Fq s c (AO s th c.a).1 (Ak s th c.b).1 (Df s (AO s th c.a).1+(CE c.x c.y).1) (CU s) (Bs c s).1 (AO s th c.a).2.1).AB.length=s.AB.length:=by simp[Fq]
  rw[hl]at hk
  have w1:∀j,j<s.AB.length->pj ((s.AB.set (CU s).toNat (HH c.x c.y (Bs c s).1).1).getD j .zero).word:=λj hj=>by
   have e:(s.AB.set (CU s).toNat (HH c.x c.y (Bs c s).1).1).getD j .zero=_:=rf (s:=s) (t:=(HH c.x c.y (Bs c s).1).1) f1
   rw[e];split
   ·rw[sP];exact pX
   ·exact W j hj
  simp only[Fq,State.AG]
  by_cases hr:(AO s th c.a).2.1.th.toNat<s.AB.length
  ·rw[pR (by rw[Qf];exact hr)]
   split
   ·exact w1 _ hr
   ·exact w1 k hk
  ·have e:∀(l:List AN) (t:AN),l.length=s.AB.length->(l.set (AO s th c.a).2.1.th.toNat t).getD k .zero=l.getD k .zero:=λl t hl=>by
    simp only[Qm,Q4];rw[if_neg (by omega)]
   rw[e _ _ (by simp)];exact w1 k hk
 rw[decide_eq_false h1]at h
 simp only[cond_false]at h
 cases h2:(decide (c.op=2)||(decide (c.op=3)||decide (c.op=4)))with
 |true=>
  rw[h2]at h
  simp only[cond_true]at h
  obtain⟨_,g2,g3,g4,g5⟩:=El h
  rcases g5 with⟨_,g6,rfl⟩|⟨_,x,g6,rfl,_⟩
  ·intro k hk
   rw[Cn]at hk
   have e:((B9 s (AO s th c.a).1 (Ak s th c.b).1).AG k).word=(s.AG k).word:=by
    simp only[B9,State.AG,Qm,List.getElem?_map,QA hk,QB,Q7,C3]
    cases decide (s.AB[k].from_=(AO s th c.a).1+1)<;>rfl
   rw[e];exact W k hk
  ·exact W
 |false=>
 rw[h2]at h
 simp only[cond_false]at h
 cases h5:(decide (c.op=5)||decide (c.op=6))with
 |true=>
  rw[h5]at h
  simp only[cond_true]at h
  simp only[takeN]at h
  cases k1:(!AT c||!decide (c.op=5)&&!decide (c.op=6))with
  |true=>rw[k1]at h;simp[CD.bad]at h
  |false=>
  rw[k1]at h
  cases k2:(!decide ((AO s th c.a).2.2=0))with
  |true=>rw[k2]at h;simp[CD.bad]at h
  |false=>
  rw[k2]at h
  cases k3:decide (c.op=6)with
  |true=>rw[k3]at h;simp only[cond_false,cond_true,QI]at h;subst h;exact rR inv W _
  |false=>rw[k3]at h;simp only[cond_false,QI]at h;subst h;exact rR inv W _
 |false=>
 rw[h5]at h
 simp only[cond_false]at h
 cases h7:(decide (c.op=7)||decide (c.op=8))with
 |true=>
  rw[h7]at h
  simp only[cond_true]at h
  obtain⟨_,_,_,q⟩:=KI h
  rcases q with⟨_,_,e⟩|⟨_,_,e⟩
  ·rw[e]at h
   obtain⟨_,fr,rfl,_⟩:=Wy h
   exact tc W hw
  ·rw[e]at h
   obtain⟨_,q⟩:=RW h
   rcases q with⟨e,_⟩|⟨_,_,_,e⟩
   ·rw[e]at h
    simp only[GB,QI]at h;subst h
    exact tc W pX
   ·rw[e]at h
    simp only[GB,QI]at h;subst h
    exact tc (s:=CW _ _ _ _) W pX
 |false=>
 rw[h7]at h
 simp only[cond_false]at h
 cases h9:(decide (c.op=9)||decide (c.op=10))with
 |true=>
  rw[h9]at h
  simp only[cond_true]at h
  obtain⟨_,g2,g4,g5,g6⟩:=J8 h
  rcases g6 with⟨_,_,_,rfl⟩|⟨_,rfl⟩
  ·exact tc W sf
  ·exact tc W pX
 |false=>
  rw[h9]at h
  simp only[cond_false]at h
  obtain⟨_,_,g2,g5,g6,rfl⟩:=KG h
  have ht:=Cx g2
  refine tc W ?_
  have e:(My (s.AG (AO s th c.a).2.1.th.toNat) c.x c.w).word=(s.AG (AO s th c.a).2.1.th.toNat).word:=by
   simp only[My];cases decide (c.x=0)<;>cases decide (c.x=1)<;>cases decide (c.x=2)<;>rfl
  rw[e]
  simp only[BD,Qd,decide_eq_true_eq]at ht
  exact W _ (by omega)
theorem tC{s u:State}{th l0 l1 l2 l3:Int}(d:rk s)(hw:pj l3)(h:(oC s th l0 l1 l2 l3).st=some u):rk u:=by
 simp only[oC]at h
 cases h1:BN s with
 |false=>rw[h1]at h;simp[CD.bad]at h
 |true=>
  cases h2:fI l0 l1 l2 l3 with
  |false=>rw[h1,h2]at h;simp[CD.bad]at h
  |true=>rw[h1,h2]at h;exact rz d hw h
def N2(x k:Int):Bool:=decide ((x.tdiv k).tmod 2=1)
theorem KP(r:Int):∃k:Fin 8,I8 r=(k.val:Int):=by
 cases h:C2 r with
 |false=>exact⟨0,by simp[I8,h]⟩
 |true=>
  have h':=h
  simp only[C2,BX]at h'
  exact⟨⟨r.toNat,by omega⟩,by simp only[I8,h,cond_true];omega⟩
theorem aR:∀x y:Fin 8,IntKind.wrap .i64 ((Qp (IntKind.bits .i64) (x.val:Int)&&&Qp (IntKind.bits .i64) (y.val:Int)).toNat)=
 (if N2 (x.val:Int) 1&&N2 (y.val:Int) 1 then 1 else 0)+(if N2 (x.val:Int) 2&&N2 (y.val:Int) 2 then 2 else 0)+(if N2 (x.val:Int) 4&&N2 (y.val:Int) 4 then 4 else 0):=by decide+kernel
theorem ax:∀x y:Fin 8,IntKind.wrap .i64 ((Qp (IntKind.bits .i64) (x.val:Int)&&&~~~Qp (IntKind.bits .i64) (y.val:Int)).toNat)=
 (x.val:Int)-IntKind.wrap .i64 ((Qp (IntKind.bits .i64) (x.val:Int)&&&Qp (IntKind.bits .i64) (y.val:Int)).toNat):=by decide+kernel
theorem TD(a b:Int):D3 a b=(if N2 (I8 a) 1&&N2 (I8 b) 1 then 1 else 0)+(if N2 (I8 a) 2&&N2 (I8 b) 2 then 2 else 0)+(if N2 (I8 a) 4&&N2 (I8 b) 4 then 4 else 0):=by
 obtain⟨x,hx⟩:=KP a
 obtain⟨y,hy⟩:=KP b
 simp only[D3,hx,hy,aR]
theorem TE(a b:Int):LU a b=I8 a-D3 a b:=by
 obtain⟨x,hx⟩:=KP a
 obtain⟨y,hy⟩:=KP b
 simp only[LU,D3,hx,hy,ax]
theorem RV(a b:Int):0<=D3 a b/\D3 a b<=7:=by
 rw[TD]
 repeat' split
 all_goals omega
theorem Wn(a:Int):0<=I8 a/\I8 a<=7:=by
 obtain⟨x,hx⟩:=KP a
 rw[hx];omega
theorem Pt{c:Bh}{b:Int}:CK c b=bif !Bq c||(decide (b<1)||decide (65535<b))then(.zero,1)else bif !decide (c.ty=3)&&!decide (c.ty=4)then(.zero,7)else bif decide (c.ba≠0)then(.zero,5)else({c with ba:=b},0):=by
 have e:(!DO b||decide (b=0))=(decide (b<1)||decide (65535<b)):=by
  rw[Qu];simp[DO,Bv];omega
 simp only[CK,e,Db,Bool.not_or]
end Go.Ax.M
namespace Go.Proofs.YtlaipllgmddkiaaGreat.Ax
open Go Go.Ax Go.Ax.M
set_option maxRecDepth 100000
section
variable {H:AP}{K:AH->AP->Prop}
theorem Vb{r:Int}(h:K (nS (I8 r)) H):AF Qc 254 [nS r] H K:=by
 refine Aa ok254 ?_;repeat' first|simp only[*,go_sem]|apply orR|(apply sp<;>intro hc)|fail
 all_goals (refine ki h ?_;simp only[I8,C2,Bv];clear h;by_cases h1:0<=r<;>by_cases h2:r<=7<;>simp[h1,h2]<;>omega)
theorem VU{a b:Int}(h:K (nS (D3 a b)) H):AF Qc 219 [nS a,nS b] H K:=by
 have e:=TD a b
 rw[e]at h
 clear e
 have w1:IntKind.wrap .i64 1=1:=by decide
 have w2:IntKind.wrap .i64 2=2:=by decide
 have w3:IntKind.wrap .i64 3=3:=by decide
 have w4:IntKind.wrap .i64 4=4:=by decide
 have w5:IntKind.wrap .i64 5=5:=by decide
 have w6:IntKind.wrap .i64 6=6:=by decide
 have w7:IntKind.wrap .i64 7=7:=by decide
 have w8:IntKind.wrap .i64 8=8:=by decide
 have xa:=Wn a
 have xb:=Wn b
 refine Aa ok219 ?_;(try simp only[go_sem]);repeat' ((first|apply orR|(apply sp<;>intro hc)|refine Vb ?_)<;>try simp only[*,go_sem])
 simp only[N2]at h
 generalize I8 a=x at*
 generalize I8 b=y at*
 have q1:((1:Int)=0)=False:=by decide
 have q2:((2:Int)=0)=False:=by decide
 have q4:((4:Int)=0)=False:=by decide
 have k1:IntKind.wrap .i64 (x.tdiv 1)=x.tdiv 1:=by rw[Q5];exact w64 (by omega) (by omega)
 have k2:IntKind.wrap .i64 (x.tdiv 2)=x.tdiv 2:=by rw[Qe (by omega)];exact w64 (by omega) (by omega)
 have k4:IntKind.wrap .i64 (x.tdiv 4)=x.tdiv 4:=by rw[Qe (by omega)];exact w64 (by omega) (by omega)
 have m1:IntKind.wrap .i64 (y.tdiv 1)=y.tdiv 1:=by rw[Q5];exact w64 (by omega) (by omega)
 have m2:IntKind.wrap .i64 (y.tdiv 2)=y.tdiv 2:=by rw[Qe (by omega)];exact w64 (by omega) (by omega)
 have m4:IntKind.wrap .i64 (y.tdiv 4)=y.tdiv 4:=by rw[Qe (by omega)];exact w64 (by omega) (by omega)
 clear xa xb
 refine AK.unfold ?_
 repeat' first|simp only[*,AA b219_2.eq_1,go_sem]|apply orR|(apply sp<;>intro hc)|fail
 all_goals refine AK.unfold ?_
 all_goals ((try simp only[AA b219_2.eq_1,w1,w2,w3,w4,w5,w6,w7,w8,q1,q2,q4,k1,k2,k4,m1,m2,m4,go_sem]);repeat' ((first|apply orR|(apply sp<;>intro hc)|fail)<;>try simp only[*,AA b219_2.eq_1,go_sem]))
 all_goals refine AK.unfold ?_
 all_goals ((try simp only[AA b219_2.eq_1,w1,w2,w3,w4,w5,w6,w7,w8,q1,q2,q4,k1,k2,k4,m1,m2,m4,go_sem]);repeat' ((first|apply orR|(apply sp<;>intro hc)|fail)<;>try simp only[*,AA b219_2.eq_1,go_sem]))
 all_goals refine AK.unfold ?_
 all_goals ((try simp only[AA b219_2.eq_1,w1,w2,w3,w4,w5,w6,w7,w8,go_sem]);repeat' ((first|apply orR|(apply sp<;>intro hc)|fail)<;>try simp only[*,AA b219_2.eq_1,go_sem]))
 all_goals (refine ki h ?_;clear h;simp only[Q5]at*;simp[*])
theorem bb{a b:Int}(h:K (nS (LU a b)) H):AF Qc 253 [nS a,nS b] H K:=by
 rw[TE]at h
 have w:IntKind.wrap .i64 (I8 a-D3 a b)=I8 a-D3 a b:=by have:=Wn a;have:=RV a b;exact w64 (by omega) (by omega)
 refine Aa ok253 ?_;repeat' first|simp only[*,go_sem]|apply orR|(apply sp<;>intro hc)|refine Vb ?_|refine VU ?_
theorem Ws{a b:Int}(h:K (.bool (Bd a b)) H):AF Qc 216 [nS a,nS b] H K:=by
 refine Aa ok216 ?_;(try simp only[go_sem]);repeat' ((first|apply orR|(apply sp<;>intro hc)|refine bb ?_)<;>try simp only[*,go_sem])
 simpa [Bd] using h
theorem VY{c:Bh}(h:K (.bool (Bq c)) H):AF Qc 152 [.agg c.cells] H K:=by
 refine AF.tidy ?_
 unfold Bh.cells
 refine Aa ok152 ?_;repeat' first|simp only[*,go_sem]|apply orR|(apply sp<;>intro hc)|fail
 all_goals (refine tb h (by first|exact⟨_,rfl⟩|exact⟨[],(Qa _).symm⟩|exact hx|exact hx.app _) ?_;first|(simp only[Bq,Aq,Bv,C2,DO,Db, *,bs,go_sem];done)|(simp_all[Bq,Aq,Bv,C2,DO,Db]<;>omega)|grind[Bq,Aq,Bv,C2,DO,Db])
theorem HS{x0 x1 x2 x3:Int}(h:K (.bool (Bq ⟨x0,x1,x2,x3⟩)) H):AF Qc 152 [.agg [nS x0,nS x1,nS x2,nS x3]] H K:=VY (c:=⟨x0,x1,x2,x3⟩) h
theorem Pe{c:Bh}{r:Int}(h:K (.agg (ES c r).cells) H):AF Qc 168 [.agg c.cells,nS r] H K:=by
 refine AF.tidy ?_
 unfold Bh.cells
 refine Aa ok168 ?_;repeat' first|simp only[*,go_sem]|apply orR|(apply sp<;>intro hc)|refine HS ?_|refine VU ?_
 all_goals (refine tv h (by first|exact⟨_,rfl⟩|exact⟨[],(Qa _).symm⟩|exact hx|exact hx.app _) ?_;first|(simp only[ES,Bh.cells,Bh.zero,AH.plain,Ah, *,bs,go_sem];done)|(simp_all[ES,Bh.cells,Bh.zero,AH.plain,Ah]<;>omega)|grind[ES,Bh.cells,Bh.zero,AH.plain,Ah])
theorem TG{c:Bh}{b:Int}(h:K (.Bj [.agg (CK c b).1.cells,nS (CK c b).2]) H):AF Qc 167 [.agg c.cells,nS b] H K:=by
 rw[Pt]at h
 refine AF.tidy ?_
 unfold Bh.cells
 refine Aa ok167 ?_;repeat' first|simp only[*,go_sem]|apply orR|(apply sp<;>intro hc)|refine HS ?_
 all_goals (refine tv h (by first|exact⟨_,rfl⟩|exact⟨[],(Qa _).symm⟩|exact hx|exact hx.app _) ?_;first|(simp only[Bh.cells,Bh.zero,AH.plain,Ah, *,bs,go_sem];done)|(simp_all[Bh.cells,Bh.zero,AH.plain,Ah]<;>omega)|grind[Bh.cells,Bh.zero,AH.plain,Ah])
theorem Ox{a b:Bh}(h:K (.bool (Dw a b)) H):AF Qc 155 [.agg a.cells,.agg b.cells] H K:=by
 refine AF.tidy ?_
 unfold Bh.cells
 refine Aa ok155 ?_;repeat' first|simp only[*,go_sem]|apply orR|(apply sp<;>intro hc)|refine Ws ?_
 all_goals (refine tb h (by first|exact⟨_,rfl⟩|exact⟨[],(Qa _).symm⟩|exact hx|exact hx.app _) ?_;first|(simp only[Dw,Aq, *,bs,go_sem];done)|(simp_all[Dw,Aq]<;>omega)|grind[Dw,Aq])
theorem VV{c:Bh}(hg:Bq c=true)(h:K (.Bj [nT (Hv c),.bool true]) H):AF Qc 175 [.agg c.cells] H K:=by
 have hi:0<=c.ty/\c.ty<=5/\0<=c.ri/\c.ri<=7/\0<=c.ba/\c.ba<=65535/\0<=c.th/\c.th<=47:=by
  have h:=hg
  simp only[Bq,Qj,Qd]at h
  rcases h with h|⟨h1,h2,h3,h4,-⟩
  ·simp only[Aq,Qd,decide_eq_true_eq]at h;omega
  ·simp only[BX,C2,DO]at h1 h2 h3 h4
   omega
 have wu:∀n:Int,0<=n->n<2^64->IntKind.wrap .u64 n=n:=λn a b=>by simp[IntKind.wrap,IntKind.bits,IntKind.signed];omega
 have w1:=wu c.ty (by omega) (by omega)
 have w2:=wu c.ri (by omega) (by omega)
 have w3:=wu c.ba (by omega) (by omega)
 have w4:=wu c.th (by omega) (by omega)
 have w5:=wu (c.ri* 256) (by omega) (by omega)
 have w6:=wu (c.ty+c.ri* 256) (by omega) (by omega)
 have w7:=wu (c.ba* 65536) (by omega) (by omega)
 have w8:=wu (c.ty+c.ri* 256+c.ba* 65536) (by omega) (by omega)
 have w9:=wu (c.th* 4294967296) (by omega) (by omega)
 have w0:=wu (c.ty+c.ri* 256+c.ba* 65536+c.th* 4294967296) (by omega) (by omega)
 have e:Hv c=c.ty+c.ri* 256+c.ba* 65536+c.th* 4294967296:=by simp[Hv,hg]
 rw[e]at h
 clear e wu hi
 refine AF.tidy ?_
 unfold Bh.cells
 refine Aa ok175 ?_;repeat' first|simp only[*,go_sem]|apply orR|(apply sp<;>intro hc)|refine HS ?_
 exact⟨rfl,⟨_,rfl⟩⟩
theorem Fj{p:List Int}{o:Nat}{f r:Bool}(ho:H[o]?=some (.AU 1 (ints p) r))(hl:p.length<=100000)(h:K (.bool (BJ p)) H):AF Qc 158 [.slice o p.length 0 p.length f] H K:=by
 refine Aa ok158 ?_;repeat' first|simp only[*,go_sem]|apply orR|(apply sp<;>intro hc)|fail
 refine AK.Az [3,0] ?_;simp only[mpC,go_sem]
 refine AK.aB (λk=>((p.take k).all λn=>decide (0<=n)&&decide (n<=15))=true) p.length (by simp) λk hk hI next=> ?_
 refine AK.unfold ?_
 have hw:=AY (k:=k) (by omega)
 by_cases hkp:k<p.length
 ·have hg:=Bt hkp
  have hs:((p.take (k+1)).all λn=>decide (0<=n)&&decide (n<=15))=((p.take k).all (λn=>decide (0<=n)&&decide (n<=15))&&(decide (0<=p.getD k 0)&&decide (p.getD k 0<=15))):=J6 hkp
  have hf:(decide (0<=p.getD k 0)&&decide (p.getD k 0<=15))=false->BJ p=false:=λhh=>by
   have:(p.all λn=>decide (0<=n)&&decide (n<=15))=false:=all_false (d:=0) hkp hh
   simp only[BJ,this,Qn]
  generalize p.getD k 0=x at*
  repeat' first|simp only[*,AA b158_2.eq_1,AR,AX,go_sem]|apply orR|(apply sp<;>intro hc)|fail
  ·exact kb h (by rw[hf];simp;omega)
  ·(refine AK.Az [3,0] ?_;simp only[mpC,go_sem];refine next hkp ?_)
   rw[hs,hI];simp;omega
  ·exact kb h (by rw[hf];simp;omega)
 ·have hk':k=p.length:=by omega
  subst hk'
  rw[Q8]at hI
  repeat' first|simp only[*,AA b158_2.eq_1,AR,AX,go_sem]|apply orR|(apply sp<;>intro hc)|fail
  all_goals (refine kb h ?_;simp only[BJ,hI,QS];simp[*])
theorem KR{n lo hi:Int}(h:K (.bool (Bv n lo hi)) H):AF Qc 131 [nS n,nS lo,nS hi] H K:=by
 refine Aa ok131 ?_;repeat' first|simp only[*,go_sem]|apply orR|(apply sp<;>intro hc)|fail
 all_goals (refine kb h ?_;first|(simp only[Bv, *,bs,go_sem];done)|(simp_all[Bv]<;>omega)|grind[Bv])
theorem HT{n:Int}(h0:0<=n)(h4:n<=4)(h:K (nS (p2 n)) H):AF Qc 151 [nS n] H K:=by
 have w1:IntKind.wrap .i64 1=1:=by decide
 have w2:IntKind.wrap .i64 2=2:=by decide
 have w3:IntKind.wrap .i64 3=3:=by decide
 have w4:IntKind.wrap .i64 4=4:=by decide
 have w8:IntKind.wrap .i64 8=8:=by decide
 have w16:IntKind.wrap .i64 16=16:=by decide
 have:n=0\/n=1\/n=2\/n=3\/n=4:=by omega
 rcases this with rfl|rfl|rfl|rfl|rfl
 all_goals
  refine Aa ok151 ?_;repeat' first|simp only[*,go_sem]|apply orR|(apply sp<;>intro hc)|fail
  repeat (refine AK.unfold ?_;(try simp only[AA b151_1.eq_1,w1,w2,w3,w4,w8,w16,go_sem]);repeat' ((first|apply orR|(apply sp<;>intro hc)|fail)<;>try simp only[*,AA b151_1.eq_1,go_sem]))
  simpa [p2] using h
theorem VZ{g:SY}(h:K (.bool (Ee g)) H):AF Qc 130 [.agg g.cells] H K:=by
 have e:1<=g.AI->g.AI<=4->IntKind.wrap .i64 (8* g.AI)=8* g.AI/\IntKind.wrap .i64 (g.AI+2)=g.AI+2:=λa b=>⟨w64 (by omega) (by omega),w64 (by omega) (by omega)⟩
 refine AF.tidy ?_
 unfold SY.cells
 refine Aa ok130 ?_;repeat' first|simp only[*,go_sem]|apply orR|(apply sp<;>intro hc)|fail
 all_goals (refine tb h (by first|exact⟨_,rfl⟩|exact⟨[],(Qa _).symm⟩|exact hx|exact hx.app _) ?_;first|(simp only[Ee,Bv, *,bs,go_sem];done)|(simp_all[Ee,Bv]<;>omega)|grind[Ee,Bv])
end
end Go.Proofs.YtlaipllgmddkiaaGreat.Ax
namespace Go.Ax.M
open Go Go.Ax
theorem Inv.Yx{s:State}(h:Inv s){k:Nat}(hk:k<s.AE.length):decide ((s.slot k).cap.ty=0)=Aq (s.slot k).cap:=by
 have:=h.Ib k hk
 rw[Qu]
 simp only[decide_eq_true_eq]
 constructor
 ·intro e
  simp only[Bq,Qj,Qd,BX]at this
  rcases this with a|a
  ·exact a
  ·omega
 ·intro e
  simp only[Aq,Qd,decide_eq_true_eq]at e
  exact e.1
theorem Inv.bits{s:State}(h:Inv s){k:Nat}(hk:k<s.AB.length)(h2:(s.AG k).ty=2):0<=(s.AG k).bits/\(s.AG k).bits<=4:=by
 have:=(CO (h.BB k hk) h2).1
 simp only[BX]at this;omega
end Go.Ax.M
namespace Go.Proofs.YtlaipllgmddkiaaGreat.Ax
open Go Go.Ax Go.Ax.M
section
variable {H:AP}{K:AH->AP->Prop}{s:State}{oS oT:Nat}{fS fT rS rT:Bool}
theorem dM{t:AN}{n:Int}(hg:BB t=true)(h:K (.bool (Bx t n)) H):AF Qc 173 [.agg t.cells,nS n] H K:=by
 have hb:t.ty=2->0<=t.bits/\t.bits<=4:=λh2=>by have:=(CO hg h2).1;simp only[BX]at this;omega
 have hw:t.ty=2->IntKind.wrap .i64 (t.base+p2 t.bits)=t.base+p2 t.bits:=λh2=>by
  have:=CO hg h2
  have:=C4 this.1
  exact w64 (by omega) (by omega)
 refine AF.tidy ?_
 unfold AN.cells
 refine Aa ok173 ?_;repeat' first|simp only[*,go_sem]|apply orR|(apply sp<;>intro hc)|refine HT (hb ‹_›).1 (hb ‹_›).2 ?_
 all_goals (refine tb h (by first|exact⟨_,rfl⟩|exact⟨[],(Qa _).symm⟩|exact hx|exact hx.app _) ?_;first|(simp only[Bx, *,bs,go_sem];done)|(simp_all[Bx]<;>omega)|grind[Bx])
theorem TH{x0 x1 x2 x3 x4 x5 x6:Int}{x7:Bool}{x8 x9 x10 x11 x12:Int}{n:Int}(hg:BB ⟨x0,x1,x2,x3,x4,x5,x6,x7,x8,x9,x10,x11,x12⟩=true)(h:K (.bool (Bx ⟨x0,x1,x2,x3,x4,x5,x6,x7,x8,x9,x10,x11,x12⟩ n)) H):AF Qc 173 [.agg [nS x0,nS x1,nS x2,nS x3,nS x4,nS x5,nS x6,.bool x7,nT x8,nT x9,nT x10,nT x11,nT x12],nS n] H K:=dM (t:=⟨x0,x1,x2,x3,x4,x5,x6,x7,x8,x9,x10,x11,x12⟩) hg h
theorem IP{n:Int}(hT:nB H oT s rT)(hlT:s.AB.length<=1000)(hok:DT s)(h:K (nS (A0 s n)) H):AF Qc 153 [stA s oS oT fS fT,nS n] H K:=by
 have kT:=AL.of hT
 refine AF.tidy ?_
 refine Aa ok153 ?_;repeat' first|simp only[*,go_sem]|apply orR|(apply sp<;>intro hc)|fail
 refine AK.Az [5,1,2] ?_;simp only[mpC,go_sem]
 refine AK.acc (λk W=>[(5,nS (k:Int))]) (λk W=>W) (λk W=>Ex H W/\AL W H.length _/\(Qg k).all (λj=>!Bx (s.AG j) n)=true) s.AB.length ?_ (a0:=_) ⟨.mk _,AL.of BH,by simp⟩
 rintro k W hk ⟨hx,kst,hI⟩ next
 have kT:AL W oT _:=kT.ex hx
 have kT0:=kT.at
 have kst0:=kst.at
 refine AK.unfold ?_
 have hw:=AY (k:=k) (by omega)
 have hg:k<s.AB.length->_:=λh=>BI (s:=s) (k:=k) h
 repeat' first|simp only[*,AA b153_2.eq_1,AR,AX,apC,go_sem]|apply orR|(apply sp<;>intro hc)|refine TH (hok _ ‹_›) ?_
 ·exact ti h (by first|exact⟨_,rfl⟩|exact⟨[],(Qa _).symm⟩|exact hx|exact hx.app _) (by rw[A0];exact(Jl ‹_› hI ‹_›).symm)
 ·(refine AK.Az [5,1,2] ?_;simp only[mpC,go_sem];refine next _ ‹_› ⟨(by first|exact⟨_,rfl⟩|exact⟨[],(Qa _).symm⟩|exact hx|exact hx.app _),kst,?_⟩)
  rw[Da (N:=0),hI];simp[*]
 ·have hk:k=s.AB.length:=by omega
  subst hk
  exact ti h (by first|exact⟨_,rfl⟩|exact⟨[],(Qa _).symm⟩|exact hx|exact hx.app _) (by rw[A0];exact(G4 hI).symm)
theorem JM{t:Int}(hi:Inv s)(hS:nA H oS s rS)(h:K (.slice H.length (BM s t).length 0 (BM s t).length false) (H++[.AU 1 (ints (BM s t)) false])):AF Qc 156 [stA s oS oT fS fT,nS t] H K:=by
 have kS:=AL.of hS
 have hlen:s.AE.length<=1000:=by have:=hi.ok.lS;omega
 have hcz:∀k,k<s.AE.length->_:=λk hk=>hi.Yx (k:=k) hk
 clear hi
 refine AF.gc ?_
 refine Aa ok156 ?_;repeat' first|simp only[*,go_sem]|refine orR ?_|(refine sp ?_ ?_<;>intro hc)|fail
 refine AK.Az [5,6,1,2] ?_;simp only[mpC,go_sem]
 refine AK.lay 1 ?_
 simp only[go_sem]
 refine AK.acc (λk G=>[(5,.slice (H.length+1) (pick (DV s t) k).length 0 (pick (DV s t) k).length false),(6,nS (k:Int))]) (λk G=>H++_:: .AU 1 (ints (pick (DV s t) k)) false::G) (λk G=>True) s.AE.length ?_ (a0:=[]) trivial
 intro k G hk _ next
 refine AK.Jn λW hW=> ?_
 have kS:=kS.ex hW.ex
 have kst:=hW.EQ
 have ko:=hW.Hx
 have kS0:=kS.at
 have kst0:=kst.at
 have ko0:=ko.at
 have kos:=ko.set
 have hb:((pick (DV s t) k).length+1)* 8<=140737488355328:=by have:=GO (p:=DV s t) (k:=k);omega
 refine AK.unfold ?_
 have hw:=AY (k:=k) (by omega)
 have hg:k<s.AE.length->_:=λh=>A4 (s:=s) (k:=k) h
 have hz:k<s.AE.length->_:=λh=>hcz k h
 clear hcz
 repeat' first|simp only[*,AA b156_2.eq_1,AR,AX,apC,go_sem]|refine orR ?_|(refine sp ?_ ?_<;>intro hc)|fail
 case' refine_2=>
  have hk':k=s.AE.length:=by omega
  have hW:W=_:=hW
  subst hk' hW
  exact Gc.slice (i:=1) rfl Ca (by simpa only[BM] using h)
 case' refine_1.refine_1.refine_1=>have e:=UG (p:=DV s t) (k:=k) (by simp[DV, *])
 case' refine_1.refine_1.refine_2=>have e:=OL (p:=DV s t) (k:=k) (by simp[DV, *])
 case' refine_1.refine_2=>have e:=OL (p:=DV s t) (k:=k) (by simp[DV, *])
 all_goals
  have hW:W=_:=hW
  subst hW
  simp only[e,Dn,GI,go_sem]at next
  (refine AK.Az [5,6,1,2] ?_;simp only[mpC,go_sem];refine next _ ‹_›)
theorem Pf(hi:Inv s)(hS:nA H oS s rS)(h:K (.slice H.length s.AE.length 0 s.AE.length false) (H++[.AU 1 (ints (As s)) false])):AF Qc 90 [stA s oS oT fS fT] H K:=by
 have kS:=AL.of hS
 have hlS:s.AE.length<=1000:=by have:=hi.ok.lS;omega
 clear hi
 refine AF.gc ?_
 refine Aa ok90 ?_;repeat' first|simp only[*,go_sem]|refine orR ?_|(refine sp ?_ ?_<;>intro hc)|fail
 refine AK.Az [3,4,1] ?_;simp only[mpC,go_sem]
 refine AK.lay 1 ?_
 simp only[go_sem]
 refine AK.acc (λk G=>[(3,.slice (H.length+1) k 0 k false),(4,nS (k:Int))]) (λk G=>H++_:: .AU 1 (ints ((s.AE.take k).map FE)) false::G) (λk G=>True) s.AE.length ?_ (a0:=[]) trivial
 intro k G hk _ next
 refine AK.Jn λW hW=> ?_
 have kS:=kS.ex hW.ex
 have kst:=hW.EQ
 have ko:=hW.Hx
 have kS0:=kS.at
 have kst0:=kst.at
 have ko0:=ko.at
 have kos:=ko.set
 have hl:(ints ((s.AE.take k).map FE)).length=k:=by rw[LJ,List.length_map,List.length_take];omega
 have hb:(k+1)* 8<=140737488355328:=by omega
 refine AK.unfold ?_
 have hw:=AY (k:=k) (by omega)
 have hg:k<s.AE.length->_:=λh=>A4 (s:=s) (k:=k) h
 repeat' first|simp only[*,AA b90_3.eq_1,AR,AX,apC,go_sem]|refine orR ?_|(refine sp ?_ ?_<;>intro hc)|fail
 case' refine_2=>
  have hk':k=s.AE.length:=by omega
  have hW:W=_:=hW
  subst hk' hW
  refine Gc.slice (i:=1) rfl Ca ?_
  simpa only[As,Q8] using h
 case' refine_1.refine_1=>
  have e:(s.AE.take (k+1)).map FE=(s.AE.take k).map FE++[-2]:=by
   have hn:Aq (s.slot k).cap=true:=by clear next;simp_all[Aq]
   rw[Fk ‹_›];simp[FE,hn]
 case' refine_1.refine_2=>
  have e:(s.AE.take (k+1)).map FE=(s.AE.take k).map FE++[(s.slot k).up]:=by
   have hn:Aq (s.slot k).cap=false:=by
    clear next;rw[QE];intro e;simp_all[Aq]
   rw[Fk ‹_›];simp[FE,hn]
 all_goals
  have hW:W=_:=hW
  subst hW
  simp only[e,Dn,GI,go_sem]at next
  (refine AK.Az [3,4,1] ?_;simp only[mpC,go_sem];refine next _ ‹_›)
theorem MS{t:AN}(h:K (.bool (BB t)) H):AF Qc 150 [.agg t.cells] H K:=by
 have hb:Bv t.bits 1 4=true->0<=t.bits/\t.bits<=4:=λh=>by simp only[BX]at h;omega
 have e:Bv t.bits 1 4=true->IntKind.wrap .i64 (96-p2 t.bits)=96-p2 t.bits:=λh=>w64 (by have:=C4 h;omega) (by have:=C4 h;omega)
 refine AF.tidy ?_
 unfold AN.cells
 refine Aa ok150 ?_;repeat' first|simp only[*,go_sem]|apply orR|(apply sp<;>intro hc)|refine KR ?_|refine HT (hb ‹_›).1 (hb ‹_›).2 ?_
 all_goals (refine tb h (by first|exact⟨_,rfl⟩|exact⟨[],(Qa _).symm⟩|exact hx|exact hx.app _) ?_;first|(simp only[BB,DI,F4,AN.zero, *,bs,go_sem];done)|(simp_all[BB,DI,F4,AN.zero]<;>omega)|grind[BB,DI,F4,AN.zero])
end
section
variable {H:AP}{K:AH->AP->Prop}{s:State}{oS oT:Nat}{fS fT rS rT:Bool}
theorem Um{l:List Bool}:∀x∈C6 l,∀a∈x,a.plain=true:=by
 intro x hx a ha
 simp only[C6,QG]at hx
 obtain⟨b,_,rfl⟩:=hx
 simp only[QP]at ha
 subst ha;rfl
theorem LV{up:List Int}{n o:Nat}{f r:Bool}(hn:up.length=n)(hg:Cm up=true)(ho:H[o]?=some (.AU 1 (ints up) r))(h:K (.bool true) H):AF Qc 154 [.slice o n 0 n f] H K:=by
 subst hn
 have hlen:=Lv hg
 have hup:∀i,i<up.length->_:=λi hi=>K7 hg (i:=i) hi
 have hcl:∀i n k,_:=λi n k=>@Md.step up hg i n k
 clear hg
 have g96:¬(96<(up.length:Int)):=by omega
 refine Aa ok154 ?_;repeat' first|simp only[*,go_sem]|refine orR ?_|(refine sp ?_ ?_<;>intro hc)|fail
 refine AK.Az [3,0] ?_;simp only[mpC,go_sem]
 refine AK.aB (λk=>True) up.length trivial λk hk _ next=> ?_
 refine AK.unfold ?_
 have hw:=AY (k:=k) (by omega)
 have hg:k<up.length->(ints up)[k]?=some [nS (up.getD k 0)]:=λh=>Bt h
 have hu1:k<up.length->(up.getD k 0< -2)=False:=λh=>by
  refine eq_false λe=> ?_
  rcases hup k h with a|a|a
  ·omega
  ·omega
  ·rw[D7]at a;omega
 have hu2:k<up.length->(up.length:Int)<=up.getD k 0->False:=λh e=>by
  rcases hup k h with a|a|a
  ·omega
  ·omega
  ·rw[D7]at a;omega
 have hu3:k<up.length->0<=up.getD k 0->(up.getD k 0<(up.length:Int))=True/\(ints up)[(up.getD k 0).toNat]?=some [nS (up.getD (up.getD k 0).toNat 0)]/\(up.getD (up.getD k 0).toNat 0=-2)=False:=λh e=>by
  rcases hup k h with a|a|a
  ·omega
  ·omega
  ·rw[D7]at a;exact⟨eq_true a.2.1,Bt (by omega),eq_false a.2.2⟩
 clear hup
 generalize up.getD k 0=x at*
 repeat' first|simp only[*,AA b154_3.eq_1,AR,AX,go_sem]|refine orR ?_|(refine sp ?_ ?_<;>intro hc)|fail
 case' refine_2=>
  clear next hw hg hu1 hu2 hu3 hk
  refine AK.Az [4,0] ?_;simp only[mpC,go_sem]
  refine AK.aB (λk=>True) up.length trivial λi hi _ next=> ?_
  refine AK.unfold ?_
  have hw:=AY (k:=i) (by omega)
  repeat' first|simp only[*,AA b154_11.eq_1,AR,AX,go_sem]|refine orR ?_|(refine sp ?_ ?_<;>intro hc)|fail
  have hil:i<up.length:=by assumption
  refine AK.Az [6,5,0,4] ?_;simp only[mpC,go_sem]
  refine AK.acc (λs a=>[(6,nS a),(5,nS (s:Int))]) (λ_ _=>H) (λs a=>Md up i s a) up.length ?_ (a0:=(i:Int)) (.inl ⟨rfl,rfl⟩)
  intro n a hn hI next2
  refine AK.unfold ?_
  have hws:=AY (k:=n) (by omega)
  have hle:((n:Int)<=(up.length:Int))=True:=eq_true (by omega)
  have hgt:((up.length:Int)<(n:Int))=False:=eq_false (by omega)
  have hst:0<=a->_:=λh0=>hcl i n a hil hI h0
  have hgg:0<=a->(a<(up.length:Int))=True/\(ints up)[a.toNat]?=some [nS (up.getD a.toNat 0)]:=λh0=>⟨eq_true (hst h0).1,Bt (by have:=(hst h0).1;omega)⟩
  clear hcl
  repeat' first|simp only[*,AA b154_6.eq_1,AR,AX,go_sem]|refine orR ?_|(refine sp ?_ ?_<;>intro hc)|fail
 case' refine_2.refine_1.refine_1=>(refine AK.Az [6,5,0,4] ?_;simp only[mpC,go_sem];refine next2 _ (hst ‹_›).2.1 (hst ‹_›).2.2)
 case' refine_2.refine_1.refine_2=>(refine AK.Az [4,0] ?_;simp only[mpC,go_sem];refine next ‹_› trivial)
 case' refine_1.refine_2=>exact absurd ‹_› (hu2 ‹_›)
 all_goals ((refine AK.Az [3,0] ?_;simp only[mpC,go_sem];refine next ‹_› trivial))
theorem TI{node:Int}(hi:Inv s)(ht:BD s node=true)(hS:nA H oS s rS)(hT:nB H oT s rT)
 (h:K (.slice H.length s.AB.length 0 s.AB.length true) (H++[.AU 1 (C6 (I5 s node)) false])):AF Qc 217 [stA s oS oT fS fT,nS node] H K:=by
 have kS:=AL.of hS
 have kT:=AL.of hT
 have hlS:s.AE.length<=1000:=by have:=hi.ok.lS;omega
 have hlT:s.AB.length<=1000:=by have:=hi.ok.lT;omega
 have hok:DT s:=hi.BB
 have eL:=Z4 hi ht
 rw[DP]at ht
 obtain⟨KD,hn1,_⟩:=ht
 have hn0':(0<=node)=True:=eq_true KD
 have hn1':(node<(s.AB.length:Int))=True:=eq_true hn1
 have DS:∀i,i<s.AE.length->(s.slot i).cap.ty=2->_:=λi hi' h2=>hi.th (i:=i) hi' (C9 (by rw[h2];decide))
 have hb2:(s.AB.length:Int)<=9223372036854775807:=by omega
 have hb3:(s.AB.length:Int)<=140737488355328:=by omega
 have hrg:(Qo s.AB.length [AH.bool false])[node.toNat]?=some [.bool false]:=by rw[QD,if_pos (by omega)]
 have hrs:(Qo s.AB.length [AH.bool false]).set node.toNat [.bool true]=C6 (D5 s node):=by rw[<-Lu,Ey];rfl
 refine AF.gc ?_
 refine Aa ok217 ?_;repeat' first|simp only[*,AX,Xd,Xe,QC,Qv,go_sem]|refine orR ?_|(refine sp ?_ ?_<;>intro hc)|fail
 refine AK.Az [6,2,5] ?_;simp only[mpC,go_sem]
 refine AK.acc (λk G=>[(6,nS (k:Int))]) (λk G=>H++_:: .AU 1 (C6 (Ci s (D5 s node) k)) false::G) (λk G=>True) s.AB.length ?_ (a0:=[]) trivial
 intro r G hr _ next
 refine AK.Jn λW hW=> ?_
 have kst:=hW.EQ
 have ko:=hW.Hx
 have kst0:=kst.at
 have ko0:=ko.at
 have hlr:(Ci s (D5 s node) r).length=s.AB.length:=by rw[FX,HU]
 refine AK.unfold ?_
 have hwr:=AY (k:=r) (by omega)
 repeat' first|simp only[*,AA b217_6.eq_1,AR,AX,go_sem]|refine orR ?_|(refine sp ?_ ?_<;>intro hc)|fail
 case' refine_2=>
  have hk':r=s.AB.length:=by omega
  have hW:W=_:=hW
  subst hk' hW
  rw[eL]
  exact Gc.slice (i:=1) rfl Um h
 have hW:W=_:=hW
 subst hW
 clear kst0 ko0 kst ko
 refine AK.Az [7,2,5,6] ?_;simp only[mpC,go_sem]
 refine AK.acc (λk G=>[(7,nS (k:Int))]) (λk G=>H++_:: .AU 1 (C6 (GD s (Ci s (D5 s node) r) k)) false::G) (λk G=>True) s.AE.length ?_ (a0:=G) trivial
 intro k G2 hk _ next2
 refine AK.Jn λW hW=> ?_
 have kS:=kS.ex hW.ex
 have kT:=kT.ex hW.ex
 have kst:=hW.EQ
 have ko:=hW.Hx
 have kS0:=kS.at
 have kT0:=kT.at
 have kst0:=kst.at
 have stp:=GR (s:=s) (L:=Ci s (D5 s node) r) (i:=k)
 have hl2:(GD s (Ci s (D5 s node) r) k).length=s.AB.length:=by rw[HV,hlr]
 obtain⟨L,hL⟩:=NQ (GD s (Ci s (D5 s node) r) k)
 have hLe:L=GD s (Ci s (D5 s node) r) k:=hL
 rw[<-hLe]at hl2 stp ko hW
 have ko0:=ko.at
 have kos:=ko.set
 clear hLe
 refine AK.unfold ?_
 have hw:=AY (k:=k) (by omega)
 have hg:k<s.AE.length->_:=λh=>A4 (s:=s) (k:=k) h
 have hbs:k<s.AE.length->(s.slot k).cap.ty=2->(0<=(s.slot k).cap.th)=True/\((s.slot k).cap.th<(s.AB.length:Int))=True/\(C6 L)[(s.slot k).cap.th.toNat]?=some [.bool (L.getD (s.slot k).cap.th.toNat false)]:=λh h2=>by
  have:=DS k h h2
  exact⟨eq_true this.1,eq_true this.2,DJ (by omega)⟩
 have hbo:0<=A0 s k->(A0 s k<(s.AB.length:Int))=True/\(C6 L)[(A0 s k).toNat]?=some [.bool (L.getD (A0 s k).toNat false)]:=λh=>by
  obtain⟨n,hn,_,e⟩:=IM (s:=s) (i:=k) (by omega)
  rw[e];exact⟨eq_true (by omega),DJ (by omega)⟩
 clear DS
 generalize ho:A0 s k=o at*
 repeat' first|simp only[*,Ey,QC,Qv,AA b217_4.eq_1,AR,AX,apC,go_sem]|refine orR ?_|(refine sp ?_ ?_<;>intro hc)|refine IP (kT _) hlT hok ?_
 case' refine_1.refine_2=>
  have hk':k=s.AE.length:=by omega
  have hW:W=_:=hW
  have hL:L=_:=hL
  have e:Ci s (D5 s node) (r+1)=L:=by rw[Ci,hL,hk']
  subst hW
  rw[e]at next
  (refine AK.Az [6,2,5] ?_;simp only[mpC,go_sem];refine next _ ‹_› trivial)
 case' refine_1.refine_1.refine_1.refine_1.refine_1=>have e:=stp.trans (show _=L.set (s.slot k).cap.th.toNat true by simp only[I4,ho, *,decide_true,Qz,QS,cond_true])
 case' refine_1.refine_1.refine_1.refine_1.refine_2=>have e:=stp.trans (show _=L by simp only[I4,ho, *,Qn,cond_false])
 case' refine_1.refine_1.refine_1.refine_2=>have e:=stp.trans (show _=L by simp only[I4,ho, *,decide_false,Qn,Qw,cond_false])
 case' refine_1.refine_1.refine_2=>have e:=stp.trans (show _=L by simp only[I4,ho, *,decide_false,Qn,Qw,cond_false])
 all_goals
  have hW:W=_:=hW
  subst hW
  rw[e]at next2
  simp only[go_sem]at next2
  simp only[go_sem]
  (refine AK.Az [7,2,5,6] ?_;simp only[mpC,go_sem];refine next2 _ ‹_›)
theorem Vd{n:Nat}(hi:Inv s)(hn:n<s.AB.length)(hS:nA H oS s rS)(hT:nB H oT s rT)
 (h:K (.bool false) H):AF Qc 157 [stA s oS oT fS fT,nS n] H K:=by
 have kS:=AL.of hS
 have kT:=AL.of hT
 have hlS:s.AE.length<=1000:=by have:=hi.ok.lS;omega
 have hlT:s.AB.length<=1000:=by have:=hi.ok.lT;omega
 have hok:DT s:=hi.BB
 have hn':(0<=(n:Int))=True:=eq_true (by omega)
 have hn2:((n:Int)<(s.AB.length:Int))=True:=eq_true (by omega)
 refine AF.tidy ?_
 refine Aa ok157 ?_;repeat' first|simp only[*,go_sem]|refine orR ?_|(refine sp ?_ ?_<;>intro hc)|fail
 refine AK.Az [5,1,2] ?_;simp only[mpC,go_sem]
 refine AK.acc (λk W=>[(5,nS (k:Int))]) (λk W=>W) (λk W=>Ex H W/\AL W H.length _) s.AE.length ?_ (a0:=_) ⟨.mk _,AL.of BH⟩
 rintro k W hk ⟨hx,kst⟩ next
 have kT:AL W oT _:=kT.ex hx
 have kS:AL W oS _:=kS.ex hx
 have kT0:=kT.at
 have kS0:=kS.at
 have kst0:=kst.at
 refine AK.unfold ?_
 have hw:=AY (k:=k) (by omega)
 have hg:k<s.AE.length->_:=λh=>A4 (s:=s) (k:=k) h
 have hr:k<s.AE.length->(s.slot k).cap.ty=2->A0 s k=n->(C6 (I5 s (s.slot k).cap.th))[n]?=some [.bool false]:=λh h2 h3=>by
  rw[DJ (by rw[E6];exact hn),dN hi hn h h2 h3]
 have DS:k<s.AE.length->(s.slot k).cap.ty=2->BD s (s.slot k).cap.th=true:=λh h2=>(hi.E8 k h (C9 (by rw[h2];decide))).1
 repeat' first|simp only[*,AA b157_4.eq_1,AR,AX,E6,Qb,apC,go_sem]|refine orR ?_|(refine sp ?_ ?_<;>intro hc)|refine IP (kT _) hlT hok ?_|refine TI hi (DS ‹_› ‹_›) (kS _) (kT _) ?_
 case' refine_2=>exact⟨rfl,hx⟩
 all_goals ((refine AK.Az [5,1,2] ?_;simp only[mpC,go_sem];refine next _ ‹_› ⟨(by first|exact⟨_,rfl⟩|exact⟨[],(Qa _).symm⟩|exact hx|exact hx.app _),kst.app _⟩))
theorem Ra{node slot:Int}(hi:Inv s)(hS:nA H oS s rS)(hT:nB H oT s rT)
 (h:K (.bool (Ch s node slot)) H):AF Qc 170 [stA s oS oT fS fT,nS node,nS slot] H K:=by
 have kS:=AL.of hS
 have kT:=AL.of hT
 have hlS:s.AE.length<=1000:=by have:=hi.ok.lS;omega
 have hlT:s.AB.length<=1000:=by have:=hi.ok.lT;omega
 have hok:DT s:=hi.BB
 have hg:¬node<0->¬(s.AB.length:Int)<=node->_:=λh1 h2=>BI (s:=s) (k:=node.toNat) (by omega)
 have hg1:¬node<0->(0<=node)=True:=λh=>eq_true (by omega)
 have hg2:¬(s.AB.length:Int)<=node->(node<(s.AB.length:Int))=True:=λh=>eq_true (by omega)
 have DS:0<=node->node<s.AB.length->(s.AG node.toNat).ty=2->BD s node=true:=λa b c=>DP.2 ⟨a,b,by rw[c];decide⟩
 have ho:0<=A0 s slot->(A0 s slot<(s.AB.length:Int))=True/\(C6 (I5 s node))[(A0 s slot).toNat]?=some [.bool ((B7 s (s.AB.length+1) node []).contains (A0 s slot))]:=λh=>by
  obtain⟨n,hn,_,e⟩:=IM (s:=s) (i:=slot) (by omega)
  rw[e];exact⟨eq_true (by omega),by rw[DJ (by rw[E6];omega),Qb,R5 hn]⟩
 refine AF.tidy ?_
 refine Aa ok170 ?_;repeat' first|simp only[*,E6,go_sem]|refine orR ?_|(refine sp ?_ ?_<;>intro hc)|refine IP (kT _) hlT hok ?_|refine TI hi (DS (by omega) (by omega) ‹_›) (kS _) (kT _) ?_
 case' refine_1.refine_1.refine_2.refine_1=>
  have e:Ch s node slot=(B7 s (s.AB.length+1) node []).contains (A0 s slot):=by
   have ht:=DS (by omega) (by omega) ‹_›
   have h2:(s.AG node.toNat).ty=2:=by assumption
   simp only[Ch,ht,h2,decide_true,Qz]
 case' refine_1.refine_1.refine_2.refine_2=>
  have e:Ch s node slot=false:=by
   have ht:=DS (by omega) (by omega) ‹_›
   simp only[Ch,WX ht (show A0 s slot<0 by omega),Qn]
 case' refine_1.refine_1.refine_1=>
  have e:Ch s node slot=false:=by
   have h2:¬(s.AG node.toNat).ty=2:=by assumption
   simp only[Ch,h2,decide_false,Qn,Qw]
 case' refine_1.refine_2=>
  have e:Ch s node slot=false:=by
   have h2:¬node<(s.AB.length:Int):=by omega
   simp only[Ch,BD,h2,decide_false,Qn,Qw]
 case' refine_2=>
  have e:Ch s node slot=false:=by
   have h2:¬0<=node:=by omega
   simp only[Ch,BD,h2,decide_false,Qn,Qw]
 all_goals (rw[e]at h;exact⟨rfl,by first|exact⟨_,rfl⟩|exact⟨[],(Qa _).symm⟩|exact hx|exact hx.app _,h⟩)
end
end Go.Proofs.YtlaipllgmddkiaaGreat.Ax
namespace Go.Ax.M
open Go Go.Ax
theorem Inv.fZ{s:State}(h:Inv s){i k:Nat}(hi:i<s.AB.length)(hk:k<i)(h2:(s.AG i).ty=2)(h3:(s.AG k).ty=2)(a:(s.AG i).base<(s.AG k).base+p2 (s.AG k).bits):
 ((s.AG k).base<(s.AG i).base+p2 (s.AG i).bits)=False:=by
 refine eq_false λb=> ?_
 have g1:=CO (h.BB i hi) h2
 have g2:=CO (h.BB k (by omega)) h3
 by_cases e:(s.AG i).base<=(s.AG k).base
 ·refine h.apart i hi k hk (s.AG k).base.toNat (DZ.2 ⟨h2,by omega,by omega⟩) (DZ.2 ⟨h3,by omega,by have:=C4 g2.1;omega⟩)
 ·refine h.apart i hi k hk (s.AG i).base.toNat (DZ.2 ⟨h2,by omega,by have:=C4 g1.1;omega⟩) (DZ.2 ⟨h3,by omega,by omega⟩)
theorem Inv.EY{s:State}(h:Inv s){t:Nat}(ht:(t:Int)<s.AS.AI):s.AG (2+t)=⟨2,3,8* t,0,0,0,0,false,0,0,0,0,0⟩:=by
 have hb:=Hb h.AS
 have hl:=h.ME
 rw[h.root (2+t) (by omega) (by simp[Bc];omega)]
 have e:Bv (((2+t:Nat):Int)-2) 0 (s.AS.AI-1)=true:=by rw[BX];omega
 simp only[M.EY,LD,h.AS,e,QK,cond_true]
 congr 1
 omega
end Go.Ax.M
namespace Go.Proofs.YtlaipllgmddkiaaGreat.Ax
open Go Go.Ax Go.Ax.M
section
variable {H:AP}{K:AH->AP->Prop}{s:State}{oS oT:Nat}{fS fT rS rT:Bool}
theorem B3(hi:Inv s)(hS:nA H oS s rS)(hT:nB H oT s rT)(h:K (.bool true) H):AF Qc 83 [stA s oS oT fS fT] H K:=by
 have kS:=AL.of hS
 have kT:=AL.of hT
 have hlS:s.AE.length<=96:=by have:=hi.ok.lS;omega
 have hlT:s.AB.length<=48:=by have:=hi.ok.lT;omega
 have hok:DT s:=hi.BB
 have hgg:=hi.AS
 have hgS:=hi.Mn
 have hgT:=hi.ME
 refine AF.tidy ?_
 refine Aa ok83 ?_;repeat' first|simp only[*,go_sem]|refine orR ?_|(refine sp ?_ ?_<;>intro hc)|refine VZ (g:=s.AS) ?_
 clear hgS hgT
 refine AK.Az [4,1,3] ?_;simp only[mpC,go_sem]
 refine AK.acc (λk W=>[(4,nS (k:Int))]) (λk W=>W) (λk W=>Ex H W/\AL W H.length _/\AL W (H.length+1) _) s.AB.length ?_ (a0:=_) ⟨.mk _,AL.of BH,AL.of BP⟩
 rintro i W hil ⟨hx,kst,kge⟩ next
 have kT:AL W oT _:=kT.ex hx
 have kS:AL W oS _:=kS.ex hx
 have kT0:=kT.at
 have kS0:=kS.at
 have kst0:=kst.at
 have kge0:=kge.at
 refine AK.unfold ?_
 have hw:=AY (k:=i) (by omega)
 have hg:i<s.AB.length->_:=λh=>BI (s:=s) (k:=i) h
 have hgd:i<s.AB.length->BB (s.AG i)=true:=λh=>hok i h
 have hbi:i<s.AB.length->(s.AG i).ty=2->_:=λh h2=>hi.bits h h2
 have hfit:i<s.AB.length->(s.AG i).ty=2->IntKind.wrap .i64 ((s.AG i).base+p2 (s.AG i).bits)=(s.AG i).base+p2 (s.AG i).bits/\(s.AS.AE<(s.AG i).base+p2 (s.AG i).bits)=False:=λh h2=>by
  have:=hi.fit i h h2
  have:=hi.Mn
  have:=CO (hi.BB i h) h2
  have:=C4 this.1
  exact⟨w64 (by omega) (by omega),eq_false (by omega)⟩
 repeat' first|simp only[*,AA b83_11.eq_1,AR,AX,apC,go_sem]|refine orR ?_|(refine sp ?_ ?_<;>intro hc)|refine MS (t:=s.AG i) ?_|refine HT (hbi ‹_› ‹_›).1 (hbi ‹_› ‹_›).2 ?_
 case' refine_2=>
  clear next hw hg hgd hbi hfit hil
  have hgb:=HQ hi.AS
  have hthr:s.AS.AI<=4:=by omega
  have hth0:1<=s.AS.AI:=by omega
  have hthl:s.AS.AI+2<=s.AB.length:=by have:=hi.ME;omega
  clear hgb
  refine AK.Az [8,1,3] ?_;simp only[mpC,go_sem]
  refine AK.acc (λk X=>[(8,nS (k:Int))]) (λk X=>X) (λk X=>Ex W X/\(k:Int)<=s.AS.AI) s.AS.AI.toNat ?_ (a0:=_) ⟨⟨[],by simp⟩,by omega⟩
  rintro k X hk ⟨hxx,hkt⟩ next
  have kT:=kT.ex hxx
  have kS:=kS.ex hxx
  have kst:=kst.ex hxx
  have kge:=kge.ex hxx
  have kT0:=kT.at
  have kS0:=kS.at
  have kst0:=kst.at
  have kge0:=kge.at
  refine AK.unfold ?_
  have hw2:=AY (k:=k) (by omega)
  have hw3:IntKind.wrap .i64 (2+(k:Int))=((2+k:Nat):Int):=by rw[w64 (by omega) (by omega)];omega
  have hw4:IntKind.wrap .i64 (8*(k:Int))=8*(k:Int):=w64 (by omega) (by omega)
  have hlk:(k:Int)<s.AS.AI->(2+k<s.AB.length)=True:=λh=>eq_true (by omega)
  have hgk:(k:Int)<s.AS.AI->(s.AB.map AN.cells)[2+k]?=some [nS 2,nS 3,nS (8* k),nS 0,nS 0,nS 0,nS 0,.bool false,nT 0,nT 0,nT 0,nT 0,nT 0]:=λh=>by
   rw[BI (s:=s) (k:=2+k) (by omega),hi.EY h]
  repeat' first|simp only[*,AA b83_14.eq_1,AR,AX,Qb,apC,go_sem]|refine orR ?_|(refine sp ?_ ?_<;>intro hc)|fail
 case' refine_2.refine_1=>
  (refine AK.Az [8,1,3] ?_;simp only[mpC,go_sem];refine next _ (by omega) ⟨hxx,by omega⟩)
 case' refine_2.refine_2=>
  have hxy:=hx.trans hxx
  clear hxx next hw2 hw3 hw4 hgk hlk hk hkt kT0 kS0 kst0 kge0 hthr hthl hth0
  refine AK.Az [9,1,3] ?_;simp only[mpC,go_sem]
  refine AK.acc (λk Y=>[(9,nS (k:Int))]) (λk Y=>Y) (λk Y=>Ex X Y) s.AE.length ?_ (a0:=_) ⟨[],by simp⟩
  rintro i Y hil hyy next
  have kT:=kT.ex hyy
  have kS:=kS.ex hyy
  have kst:=kst.ex hyy
  have kge:=kge.ex hyy
  have kT0:=kT.at
  have kS0:=kS.at
  have kst0:=kst.at
  have kge0:=kge.at
  refine AK.unfold ?_
  have hw2:=AY (k:=i) (by omega)
  have hg:i<s.AE.length->_:=λh=>A4 (s:=s) (k:=i) h
  have hcg:i<s.AE.length->Bq (s.slot i).cap=true:=λh=>hi.Ib i h
  have hup:i<s.AE.length->(s.slot i).cap.ty=0->(s.slot i).up=-1:=λh h0=>hi.SX i h (by rw[<-hi.Yx h];simp[h0])
  have hnn:i<s.AE.length->¬(s.slot i).cap.ty=0->(0<=(s.slot i).cap.th)=True/\((s.slot i).cap.th<(s.AB.length:Int))=True/\((s.AB.length:Int)<=(s.slot i).cap.th)=False/\(s.AG (s.slot i).cap.th.toNat).ty=(s.slot i).cap.ty/\(A0 s i<0)=False:=λh h0=>by
   have a:=hi.th h (C9 h0)
   refine⟨eq_true a.1,eq_true a.2,eq_false (by omega),(hi.E8 i h (C9 h0)).2,eq_false ?_⟩
   obtain⟨n,hn,hh⟩:=hi.has i h (C9 h0)
   rw[Fz hi.apart hn hh];omega
  have hng:i<s.AE.length->¬(s.slot i).cap.ty=0->_:=λh h0=>BI (s:=s) (k:=(s.slot i).cap.th.toNat) (by have:=hi.th h (C9 h0);omega)
  have hlT2:s.AB.length<=1000:=by omega
  repeat' first|simp only[*,AA b83_23.eq_1,AR,AX,apC,go_sem]|refine orR ?_|(refine sp ?_ ?_<;>intro hc)|refine HS ?_|refine IP (kT _) hlT2 hok ?_|refine Pf hi kS0 ?_|refine LV (up:=As s) A8 hi.ok.Ii BH ?_
 case' refine_2.refine_2.refine_1.refine_1=>(refine AK.Az [9,1,3] ?_;simp only[mpC,go_sem];refine next _ ‹_› (by first|exact hyy.app _|exact hyy))
 case' refine_2.refine_2.refine_1.refine_2=>(refine AK.Az [9,1,3] ?_;simp only[mpC,go_sem];refine next _ ‹_› (by first|exact hyy.app _|exact hyy))
 case' refine_2.refine_2.refine_2=>
  have hxz:=hxy.trans (hyy.app [.AU 1 (ints (As s)) false])
  have kT:=kT.app [.AU 1 (ints (As s)) false]
  have kS:=kS.app [.AU 1 (ints (As s)) false]
  have kst:=kst.app [.AU 1 (ints (As s)) false]
  have kge:=kge.app [.AU 1 (ints (As s)) false]
  clear next hw2 hg hcg hup hnn hng hyy kT0 kS0 kst0 kge0
  refine AK.Az [11,1,3] ?_;simp only[mpC,go_sem]
  refine AK.acc (λk Z=>[(11,nS (k:Int))]) (λk Z=>Z) (λk Z=>Ex (Y++[.AU 1 (ints (As s)) false]) Z) s.AE.length ?_ (a0:=_) ⟨[],by simp⟩
  rintro j Z hjl hzz next
  have kT:=kT.ex hzz
  have kS:=kS.ex hzz
  have kst:=kst.ex hzz
  have kge:=kge.ex hzz
  have kT0:=kT.at
  have kS0:=kS.at
  have kst0:=kst.at
  have kge0:=kge.at
  refine AK.unfold ?_
  have hw2:=AY (k:=j) (by omega)
  have hg:j<s.AE.length->_:=λh=>A4 (s:=s) (k:=j) h
  have hnu:j<s.AE.length->¬(s.slot j).cap.ty=0->¬(s.slot j).up<0->(0<=(s.slot j).up)=True/\((s.slot j).up<(s.AE.length:Int))=True:=λh h0 hu=>by
   rcases hi.up j h (C9 h0)with a|a
   ·omega
   ·exact⟨eq_true a.1,eq_true a.2.1⟩
  have hnp:j<s.AE.length->¬(s.slot j).cap.ty=0->¬(s.slot j).up<0->_:=λh h0 hu=>A4 (s:=s) (k:=(s.slot j).up.toNat) (by rcases hi.up j h (C9 h0)with a|a<;>omega)
  have hal:j<s.AE.length->¬(s.slot j).cap.ty=0->¬(s.slot j).up<0->_:=λh h0 hu=>hi.allow j h (C9 h0) (by omega)
  repeat' first|simp only[*,AA b83_30.eq_1,AR,AX,apC,go_sem]|refine orR ?_|(refine sp ?_ ?_<;>intro hc)|refine Ox (a:=(s.slot j).cap) (b:=(s.slot (s.slot j).up.toNat).cap) ?_
 case' refine_2.refine_2.refine_2.refine_1.refine_1.refine_1|refine_2.refine_2.refine_2.refine_1.refine_1.refine_2.refine_1.refine_1.refine_2|refine_2.refine_2.refine_2.refine_1.refine_1.refine_2.refine_2|refine_2.refine_2.refine_2.refine_1.refine_2=>((refine AK.Az [11,1,3] ?_;simp only[mpC,go_sem];refine next _ ‹_› (by first|exact hzz.app _|exact hzz)))
 case' refine_2.refine_2.refine_2.refine_1.refine_1.refine_2.refine_1.refine_1.refine_1|refine_2.refine_2.refine_2.refine_1.refine_1.refine_2.refine_1.refine_2=>(exfalso;rcases hal ‹_› ‹_› ‹_›with e|⟨e1,e2⟩<;>simp_all)
 case' refine_2.refine_2.refine_2.refine_2=>
  have hxa:=hxz.trans hzz
  clear next hw2 hg hnu hnp hal hzz kT0 kS0 kst0 kge0
  have hwt:IntKind.wrap .i64 (2+s.AS.AI)=2+s.AS.AI:=by have:=HQ hi.AS;exact w64 (by omega) (by omega)
  refine AK.Az [14,1,3] ?_;simp only[mpC,go_sem]
  refine AK.acc (λk Y=>[(14,nS (k:Int))]) (λk Y=>Y) (λk Y=>Ex Z Y) s.AB.length ?_ (a0:=_) ⟨[],by simp⟩
  rintro m U hml huu next
  have kT:=kT.ex huu
  have kS:=kS.ex huu
  have kst:=kst.ex huu
  have kge:=kge.ex huu
  have kT0:=kT.at
  have kS0:=kS.at
  have kst0:=kst.at
  have kge0:=kge.at
  refine AK.unfold ?_
  have hw2:=AY (k:=m) (by omega)
  have hg:m<s.AB.length->_:=λh=>BI (s:=s) (k:=m) h
  have hhl:m<s.AB.length->Bc s m=false->¬(s.AG m).ty=0->(((BM s m).length:Int)=0)=False:=λh hr h0=>by
   obtain⟨i,hi1,hi2,hi3⟩:=hi.held m h hr h0
   refine eq_false λe=> ?_
   have:(i:Int)∈BM s m:=by
    simp only[BM,pick,QG,QN,Qi]
    exact⟨i,⟨hi1,by simp only[State.B8]at hi2;simp[DV,hi2,hi3]⟩,rfl⟩
   have e':BM s m=[]:=List.length_eq_zero_iff.1 (by omega)
   rw[e']at this;cases this
  have hh1:m<s.AB.length->¬2<=(m:Int)->_:=λh hr h0=>hhl h (by simp only[Bc,hr,decide_false,Qw]) h0
  have hh2:m<s.AB.length->¬(m:Int)<2+s.AS.AI->_:=λh hr h0=>hhl h (by simp only[Bc,hr,decide_false,Qn]) h0
  clear hhl
  repeat' first|simp only[*,AA b83_34.eq_1,AR,AX,apC,go_sem]|refine orR ?_|(refine sp ?_ ?_<;>intro hc)|refine JM hi kS0 ?_|refine JM hi (kS _) ?_|refine Vd hi ‹_› kS0 kT0 ?_|refine Vd hi ‹_› (kS _) (kT _) ?_
  all_goals first
   |((refine AK.Az [14,1,3] ?_;simp only[mpC,go_sem];refine next _ ‹_› (by first|exact huu.app _|exact huu));done)
   |exact⟨rfl,hxa.trans huu⟩
 all_goals
  have hil2:i<s.AB.length:=by assumption
  refine AK.Az [6,1,3,4,5] ?_;simp only[mpC,go_sem]
  refine AK.acc (λk X=>[(6,nS (k:Int))]) (λk X=>X) (λk X=>Ex W X/\AL X W.length _) i ?_ (a0:=_) ⟨.mk _,AL.of BH⟩
  rintro k X hk ⟨hxx,kt⟩ next2
  have kT:=kT.ex hxx
  have kS:=kS.ex hxx
  have kst:=kst.ex hxx
  have kge:=kge.ex hxx
  have kT0:=kT.at
  have kS0:=kS.at
  have kst0:=kst.at
  have kge0:=kge.at
  have kt0:=kt.at
  refine AK.unfold ?_
  have hw2:=AY (k:=k) (by omega)
  have hgk:k<i->_:=λh=>BI (s:=s) (k:=k) (by omega)
  have hkl:k<i->(k<s.AB.length)=True:=λh=>eq_true (by omega)
  have hbk:k<i->(s.AG k).ty=2->_:=λh h2=>hi.bits (k:=k) (by omega) h2
  have hwk:k<i->(s.AG k).ty=2->IntKind.wrap .i64 ((s.AG k).base+p2 (s.AG k).bits)=(s.AG k).base+p2 (s.AG k).bits:=λh h2=>by
   have:=CO (hi.BB k (by omega)) h2
   have:=C4 this.1
   exact w64 (by omega) (by omega)
  have hov:k<i->(s.AG i).ty=2->(s.AG k).ty=2->_:=λh h2 h3=>hi.fZ hil2 h h2 h3
  have KC:0<(s.AG i).from_->(s.AS.AE<(s.AG i).from_)=False/\IntKind.wrap .i64 ((s.AG i).from_-1)=(s.AG i).from_-1/\(0<=(s.AG i).from_-1)=True/\((s.AG i).from_-1<(s.AE.length:Int))=True:=λh=>by
   have:=hi.from_ i hil2 h
   have:=hi.Mn
   exact⟨eq_false (by omega),w64 (by omega) (by omega),eq_true (by omega),eq_true (by omega)⟩
  have hfg:0<(s.AG i).from_->_:=λh=>A4 (s:=s) (k:=((s.AG i).from_-1).toNat) (by have:=hi.from_ i hil2 h;omega)
  have J4:0<(s.AG i).from_->Aq (s.slot ((s.AG i).from_-1).toNat).cap=false:=λh=>(hi.from_ i hil2 h).2
  repeat' first|simp only[*,AA b83_5.eq_1,AR,AX,apC,go_sem]|refine orR ?_|(refine sp ?_ ?_<;>intro hc)|refine HT (hbk ‹_› ‹_›).1 (hbk ‹_› ‹_›).2 ?_|refine HT (hbi ‹_› ‹_›).1 (hbi ‹_› ‹_›).2 ?_
  all_goals first
   |((refine AK.Az [6,1,3,4,5] ?_;simp only[mpC,go_sem];refine next2 _ ‹_› ⟨hxx.app _,kt.app _⟩);done)
   |((refine AK.Az [6,1,3,4,5] ?_;simp only[mpC,go_sem];refine next2 _ ‹_› ⟨hxx,kt⟩);done)
   |((refine AK.Az [4,1,3] ?_;simp only[mpC,go_sem];refine next _ hil2 ⟨(hx.trans hxx).app _,kst.app _,kge.app _⟩);done)
   |((refine AK.Az [4,1,3] ?_;simp only[mpC,go_sem];refine next _ hil2 ⟨hx.trans hxx,kst,kge⟩);done)
   |(exfalso;have e:=J4 ‹_›;simp only[Aq]at e;simp_all;done)
end
section
variable {H:AP}{K:AH->AP->Prop}{s:State}{oS oT:Nat}{fS fT rS rT:Bool}
theorem si(hi:Inv s)(hT:nB H oT s rT)(h:K (nS (CU s)) H):AF Qc 164 [stA s oS oT fS fT] H K:=by
 have kT:=AL.of hT
 have hlT:s.AB.length<=1000:=by have:=hi.ok.lT;omega
 simp only[CU,hi.ok.DR,cond_true]at h
 clear hi
 refine AF.tidy ?_
 refine Aa ok164 ?_;repeat' first|simp only[*,go_sem]|apply orR|(apply sp<;>intro hc)|fail
 refine AK.Az [3,1] ?_;simp only[mpC,go_sem]
 refine AK.acc (λk W=>[(3,nS (k:Int))]) (λk W=>W) (λk W=>Ex H W/\AL W H.length _/\(Qg k).all (λj=>!decide ((s.AG j).ty=0))=true) s.AB.length ?_ (a0:=_) ⟨.mk _,AL.of BH,by simp⟩
 rintro k W hk ⟨hx,kst,hI⟩ next
 have kT:AL W oT _:=kT.ex hx
 have kT0:=kT.at
 have kst0:=kst.at
 refine AK.unfold ?_
 have hw:=AY (k:=k) (by omega)
 have hg:k<s.AB.length->_:=λh=>BI (s:=s) (k:=k) h
 repeat' first|simp only[*,AA b164_2.eq_1,AR,AX,apC,go_sem]|apply orR|(apply sp<;>intro hc)|fail
 ·exact ti h (by first|exact⟨_,rfl⟩|exact⟨[],(Qa _).symm⟩|exact hx|exact hx.app _) (Jl ‹_› hI (by simp[*])).symm
 ·(refine AK.Az [3,1] ?_;simp only[mpC,go_sem];refine next _ ‹_› ⟨(by first|exact⟨_,rfl⟩|exact⟨[],(Qa _).symm⟩|exact hx|exact hx.app _),kst,?_⟩)
  rw[Da (N:=0),hI];simp[*]
 ·have hk:k=s.AB.length:=by omega
  subst hk
  exact ti h (by first|exact⟨_,rfl⟩|exact⟨[],(Qa _).symm⟩|exact hx|exact hx.app _) (G4 hI).symm
theorem dL{b:Int}(hi:Inv s)(hT:nB H oT s rT)(h:K (.Bj [nS (F3 s b).1,.bool (F3 s b).2]) H):AF Qc 163 [stA s oS oT fS fT,nS b] H K:=by
 have kT:=AL.of hT
 have hlT:s.AB.length<=1000:=by have:=hi.ok.lT;omega
 have hlS:s.AE.length<=1000:=by have:=hi.ok.lS;omega
 have hok:DT s:=hi.BB
 have hgd:=hi.ok.DR
 have hbb:Bv b 1 4=true->0<=b/\b<=4:=λh=>by rw[BX]at h;omega
 refine AF.tidy ?_
 refine Aa ok163 ?_;repeat' first|simp only[*,go_sem]|refine orR ?_|(refine sp ?_ ?_<;>intro hc)|refine KR ?_
 case' refine_1=>
  have hb:Bv b 1 4=false:=by assumption
  have e:F3 s b=(0,false):=by
   have:¬(1<=b/\b<=4):=λe=>by rw[BX.2 e]at hb;cases hb
   simp only[F3]
   by_cases h1:1<=b<;>by_cases h2:b<=4<;>simp[h1,h2]<;>omega
  rw[e]at h
  exact⟨rfl,by first|exact⟨_,rfl⟩|exact⟨[],(Qa _).symm⟩|exact hx|exact hx.app _,h⟩
 have hb:Bv b 1 4=true:=by assumption
 have hp:=C4 hb
 obtain⟨m,hm⟩:∃m:Nat,Hid (p2 b=m):=⟨(p2 b).toNat,by show p2 b=_;omega⟩
 have hme:p2 b=m:=hm
 rw[hme]at hp
 have h4:=hbb hb
 refine AK.Az [6,1,2] ?_;simp only[mpC,go_sem]
 refine AK.acc (λk W=>[(6,nS (k:Int))]) (λk W=>W) (λk W=>Ex H W/\AL W H.length _/\∀j,j<k->¬cQ s (p2 b) j) (s.AE.length+1) ?_ (a0:=_) ⟨.mk _,AL.of BH,by simp⟩
 rintro k W hk ⟨hx,kst,hI⟩ next
 have kT:AL W oT _:=kT.ex hx
 have kT0:=kT.at
 have kst0:=kst.at
 refine AK.unfold ?_
 have hw:=AY (k:=k) (by omega)
 have hwm:IntKind.wrap .i64 ((k:Int)+p2 b)=((k+m:Nat):Int):=by rw[hme];rw[w64 (by omega) (by omega)];omega
 clear hme
 repeat' first|simp only[*,AA b163_7.eq_1,AR,AX,apC,go_sem]|refine orR ?_|(refine sp ?_ ?_<;>intro hc)|refine HT h4.1 h4.2 ?_
 case' refine_2.refine_2=>
  rw[Zu hgd hb (k:=k) (by have hme:p2 b=m:=hm;omega) hI]at h
  exact⟨rfl,hx,h⟩
 refine AK.Az [8,7,1,2,6] ?_;simp only[mpC,go_sem]
 refine AK.acc (λt (a:Bool)=>[(8,nS ((k+t:Nat):Int)),(7,.bool a)]) (λt a=>W) (λt a=>a=true↔∀j:Nat,k<=j->j<k+t->A0 s j<0) m ?_ (a0:=true) ⟨λ_ j h1 h2=>by omega,λ_=>rfl⟩
 intro t a ht hI2 next2
 refine AK.unfold ?_
 have hw2:IntKind.wrap .i64 (((k+t:Nat):Int)+1)=((k+(t+1):Nat):Int):=AY (by omega)
 repeat' first|simp only[*,AA b163_2.eq_1,AR,AX,apC,go_sem]|refine orR ?_|(refine sp ?_ ?_<;>intro hc)|refine HT h4.1 h4.2 ?_|refine IP kT0 hlT hok ?_
 case' refine_2.refine_1.refine_2.refine_1=>
  have hrun:cQ s (p2 b) k:=λj h1 h2=>by
   have hme:p2 b=m:=hm
   exact(hI2.1 ‹_›) j h1 (by omega)
  rw[bq hgd hb (k:=k) (by have hme:p2 b=m:=hm;omega) hrun hI]at h
  exact⟨rfl,hx,h⟩
 case' refine_2.refine_1.refine_2.refine_2=>
  have hno:¬cQ s (p2 b) k:=λhr=>by
   have hme:p2 b=m:=hm
   have:a=true:=hI2.2 λj h1 h2=>hr j h1 (by omega)
   simp_all
  (refine AK.Az [6,1,2] ?_;simp only[mpC,go_sem];refine next _ (by omega) ⟨hx,kst,λj hj=>(QT.1 hj).elim (hI j) λe=>e▸hno⟩)
 case' refine_2.refine_1.refine_1.refine_1=>
  (refine AK.Az [8,7,1,2,6] ?_;simp only[mpC,go_sem];refine next2 (decide (A0 s ((k+t:Nat):Int)<0)) (by omega) ?_)
  have ha:a=true:=by assumption
  simp only[decide_eq_true_eq]
  exact⟨λh j h1 h2=>(QT.1 h2).elim ((hI2.1 ha) j h1) λe=>e▸h,λh=>h _ (by omega) (by omega)⟩
 case' refine_2.refine_1.refine_1.refine_2=>
  (refine AK.Az [8,7,1,2,6] ?_;simp only[mpC,go_sem];refine next2 false (by omega) ?_)
  have ha:a=false:=by assumption
  exact⟨λh=>by simp at h,λh=>by rw[<-ha];exact hI2.2 λj h1 h2=>h j h1 (by omega)⟩
theorem Fi(hi:Inv s)(hS:nA H oS s rS)(hT:nB H oT s rT)
 (h:K (BT s H.length (H.length+1) false false) (H++[AM s,AJ s])):AF Qc 165 [stA s oS oT fS fT] H K:=by
 have kT:=AL.of hT
 have kS:=AL.of hS
 have l1:=hi.ok.lS
 have l2:=hi.ok.lT
 have hn:(s.AE.length=0)=False:=eq_false (by omega)
 have hn2:(s.AB.length=0)=False:=eq_false (by omega)
 have hb:(0+s.AE.length)* 40<=140737488355328:=by omega
 have hb2:s.AE.length* 40<=140737488355328:=by omega
 have hb3:(0+s.AB.length)* 104<=140737488355328:=by omega
 have hb4:s.AB.length* 104<=140737488355328:=by omega
 have ht:(s.AE.map Slot.cells).take s.AE.length=s.AE.map Slot.cells:=by rw[QU (by simp)]
 have ht2:(s.AB.map AN.cells).take s.AB.length=s.AB.map AN.cells:=by rw[QU (by simp)]
 have he:(s.AE.map Slot.cells=[])=False:=eq_false (by intro e;have:=congrArg Xf e;simp at this;rw[this]at l1;simp at l1)
 have he2:(s.AB.map AN.cells=[])=False:=eq_false (by intro e;have:=congrArg Xf e;simp at this;rw[this]at l2;simp at l2)
 clear l1 l2
 refine AF.gc ?_
 refine Aa ok165 ?_;(try simp only[kS,kT,he,he2,hn,hn2,hb,hb2,hb3,hb4,ht,ht2,go_sem]);repeat' ((first|apply orR|(apply sp<;>intro hc)|fail)<;>try simp only[*,go_sem])
 exact Gc.state (i:=4) (j:=5) rfl rfl (by decide) h
theorem DH{u:State}{oS2 oT2:Nat}{fS2 fT2 rS2 rT2:Bool}(hS:nA H oS s rS)(hT:nB H oT s rT)
 (hS2:nA H oS2 u rS2) (cT:nB H oT2 u rT2) (hlS:s.AE.length<=1000) (hlT:s.AB.length<=1000)
 (h:K (.bool (Gs s u)) H):AF Qc 22 [stA s oS oT fS fT,stA u oS2 oT2 fS2 fT2] H K:=by
 have kT:=AL.of hT
 have kS:=AL.of hS
 have kT2:=AL.of cT
 have kS2:=AL.of hS2
 refine AF.tidy ?_
 refine Aa ok22 ?_;repeat' first|simp only[*,AR,Xc,go_sem]|refine orR ?_|(refine sp ?_ ?_<;>intro hc)|fail
 case' refine_1.refine_1.refine_2=>
  have hle:s.AE.length=u.AE.length:=by assumption
  have hle2:s.AB.length=u.AB.length:=by assumption
  have eS:Gs s u=((Qg s.AE.length).all (λk=>Gt (s.slot k) (u.slot k))&&(Qg s.AB.length).all λk=>F4 (s.AG k) (u.AG k)):=by
   have hgq:ZD s.AS u.AS=true:=by simp only[ZD];assumption
   simp only[Gs,Dm,hgq,hle,hle2,decide_true,Qz];rfl
  have hg2:∀k,k<s.AE.length->_:=λk h=>A4 (s:=u) (k:=k) (hle▸h)
  have hg3:∀k,k<s.AB.length->_:=λk h=>BI (s:=u) (k:=k) (hle2▸h)
  have hlu:∀k,k<s.AE.length->k<u.AE.length:=λk h=>hle▸h
  have hlu2:∀k,k<s.AB.length->k<u.AB.length:=λk h=>hle2▸h
  clear hle hle2
  refine AK.Az [5,2,3] ?_;simp only[mpC,go_sem]
  refine AK.acc (λk W=>[(5,nS (k:Int))]) (λk W=>W) (λk W=>Ex H W/\AL W H.length _/\AL W (H.length+1) _/\((Qg k).all λk=>Gt (s.slot k) (u.slot k))=true) s.AE.length ?_ (a0:=_) ⟨.mk _,AL.of BH,AL.of BP,by simp⟩
  rintro k W hk ⟨hx,ka,kb,hI⟩ next
  have kT:=kT.ex hx
  have kS:=kS.ex hx
  have kT2:=kT2.ex hx
  have kS2:=kS2.ex hx
  have kT0:=kT.at
  have kS0:=kS.at
  have kT20:=kT2.at
  have kS20:=kS2.at
  have ka0:=ka.at
  have kb0:=kb.at
  refine AK.unfold ?_
  have hw:=AY (k:=k) (by omega)
  have hg1:k<s.AE.length->_:=λh=>A4 (s:=s) (k:=k) h
  have hg2:k<s.AE.length->_:=hg2 k
  have hlu:k<s.AE.length->k<u.AE.length:=hlu k
  repeat' first|simp only[*,AA b22_3.eq_1,AR,AX,apC,go_sem]|refine orR ?_|(refine sp ?_ ?_<;>intro hc)|fail
 case' refine_1.refine_1.refine_2.refine_1.refine_1=>
  have ef:Gt (s.slot k) (u.slot k)=false:=by simp only[Gt];assumption
  exact tb h (by first|exact⟨_,rfl⟩|exact⟨[],(Qa _).symm⟩|exact hx|exact hx.app _) (by rw[eS,Cv (k:=k) (by omega) ef];rfl)
 case' refine_1.refine_1.refine_2.refine_1.refine_2=>
  have ef:Gt (s.slot k) (u.slot k)=true:=by simp only[Gt];assumption
  (refine AK.Az [5,2,3] ?_;simp only[mpC,go_sem];refine next _ (by omega) ⟨(by first|exact⟨_,rfl⟩|exact⟨[],(Qa _).symm⟩|exact hx|exact hx.app _),ka,kb,by rw[Da (N:=0),hI,ef];rfl⟩)
 case' refine_1.refine_1.refine_2.refine_2=>
  have hk':k=s.AE.length:=by omega
  rw[hk']at hI
  clear next hw hg1 hg2 hlu kT0 kS0 kT20 kS20 ka0 kb0
  refine AK.Az [6,2,3] ?_;simp only[mpC,go_sem]
  refine AK.acc (λk W=>[(6,nS (k:Int))]) (λk X=>X) (λk X=>Ex W X/\((Qg k).all λk=>F4 (s.AG k) (u.AG k))=true) s.AB.length ?_ (a0:=_) ⟨⟨[],by simp⟩,by simp⟩
  rintro j X hj ⟨hxx,hI2⟩ next
  have kT:=kT.ex hxx
  have kS:=kS.ex hxx
  have kT2:=kT2.ex hxx
  have kS2:=kS2.ex hxx
  have ka:=ka.ex hxx
  have kb:=kb.ex hxx
  have kT0:=kT.at
  have kS0:=kS.at
  have kT20:=kT2.at
  have kS20:=kS2.at
  have ka0:=ka.at
  have kb0:=kb.at
  refine AK.unfold ?_
  have hw:=AY (k:=j) (by omega)
  have hg1:j<s.AB.length->_:=λh=>BI (s:=s) (k:=j) h
  have hg2:j<s.AB.length->_:=hg3 j
  have hlu:j<s.AB.length->j<u.AB.length:=hlu2 j
  repeat' first|simp only[*,AA b22_6.eq_1,AR,AX,apC,go_sem]|refine orR ?_|(refine sp ?_ ?_<;>intro hc)|fail
 case' refine_1.refine_1.refine_2.refine_2.refine_1.refine_1=>
  have ef:F4 (s.AG j) (u.AG j)=false:=by simp only[F4];assumption
  exact tb h (hx.trans hxx) (by rw[eS,hI,Cv (k:=j) (by omega) ef];rfl)
 case' refine_1.refine_1.refine_2.refine_2.refine_1.refine_2=>
  have ef:F4 (s.AG j) (u.AG j)=true:=by simp only[F4];assumption
  (refine AK.Az [6,2,3] ?_;simp only[mpC,go_sem];refine next _ (by omega) ⟨by first|exact hxx|exact hxx.app _,by rw[Da (N:=0),hI2,ef];rfl⟩)
 case' refine_1.refine_1.refine_2.refine_2.refine_2=>
  have hj':j=s.AB.length:=by omega
  rw[hj']at hI2
  exact tb h (hx.trans hxx) (by rw[eS,hI,hI2];rfl)
 case' refine_1.refine_1.refine_1|refine_1.refine_2|refine_2=>(refine tb h (by first|exact⟨_,rfl⟩|exact⟨[],(Qa _).symm⟩|exact hx|exact hx.app _) ?_;simp only[Gs,Dm,ZD];simp_all)
theorem VW{k n:Int}(h:K (.Bj [nS (CE k n).1,.bool (CE k n).2]) H):AF Qc 161 [nS k,nS n] H K:=by
 have hb:Bv n 1 4=true->0<=n/\n<=4:=λh=>by rw[BX]at h;omega
 refine AF.tidy ?_
 refine Aa ok161 ?_;repeat' first|simp only[*,go_sem]|apply orR|(apply sp<;>intro hc)|refine KR ?_|refine HT (hb ‹_›).1 (hb ‹_›).2 ?_
 all_goals (refine tv h (by first|exact⟨_,rfl⟩|exact⟨[],(Qa _).symm⟩|exact hx|exact hx.app _) ?_;first|(simp only[CE,AH.plain,Ah, *,bs,go_sem];done)|(simp_all[CE,AH.plain,Ah]<;>omega)|grind[CE,AH.plain,Ah])
end
section
variable {H:AP}{K:AH->AP->Prop}{s:State}{oS oT:Nat}{fS fT rS rT:Bool}
section
variable {x0 x1 x2 x3 x4 x5 x6:Int}{x7:Bool}{x8 x9 x10 x11 x12:Int}
theorem PL(h:K (.bool (BB ⟨x0,x1,x2,x3,x4,x5,x6,x7,x8,x9,x10,x11,x12⟩)) H):AF Qc 150 [.agg [nS x0,nS x1,nS x2,nS x3,nS x4,nS x5,nS x6,.bool x7,nT x8,nT x9,nT x10,nT x11,nT x12]] H K:=MS (t:=⟨x0,x1,x2,x3,x4,x5,x6,x7,x8,x9,x10,x11,x12⟩) h
end
theorem b6{k n b:Int}:HH k n b=bif (CE k n).2&&BB (Bw k n b)then(Bw k n b,true)else(.zero,false):=by
 by_cases h1:k=1
 ·subst h1
  cases h:Bv n 1 4096<;>simp[HH,CE,Bw,BB,h]
 by_cases h2:k=2
 ·subst h2
  cases h:Bv n 1 4<;>simp[HH,CE,Bw,BB,h]
 by_cases h3:k=3
 ·subst h3;simp[HH,CE]
 by_cases h4:k=4
 ·subst h4;simp[HH,CE]
 by_cases h5:k=5
 ·subst h5;simp[HH,CE]
 simp[HH,CE,h1,h2,h3,h4,h5]
theorem UI{k n b:Int}(h:K (.Bj [.agg (HH k n b).1.cells,.bool (HH k n b).2]) H):AF Qc 166 [nS k,nS n,nS b] H K:=by
 rw[b6]at h
 refine AF.tidy ?_
 refine Aa ok166 ?_;repeat' first|simp only[*,go_sem]|apply orR|(apply sp<;>intro hc)|refine VW ?_|refine PL ?_
 all_goals (refine tv h (by first|exact⟨_,rfl⟩|exact⟨[],(Qa _).symm⟩|exact hx|exact hx.app _) ?_;first|(simp only[Bw,AN.cells,AN.zero,AH.plain,Ah, *,bs,go_sem];done)|(simp_all[Bw,AN.cells,AN.zero,AH.plain,Ah]<;>omega)|grind[Bw,AN.cells,AN.zero,AH.plain,Ah])
theorem Yf{th:Int}{p:List Int}{oP:Nat}{fP rP:Bool}(hi:Inv s)(hP:H[oP]?=some (.AU 1 (ints p) rP))(hlp:p.length<=100000)(hS:nA H oS s rS)(hT:nB H oT s rT)
 (h:K (.Bj [nS (A7 s th p).1,nS (A7 s th p).2]) H):AF Qc 171 [stA s oS oT fS fT,nS th,.slice oP p.length 0 p.length fP] H K:=by
 have kT:=AL.of hT
 have kS:=AL.of hS
 have kP:=AL.of hP
 have hgb:=HQ hi.AS
 have hlt:=hi.ME
 have hw:¬th<0->¬s.AS.AI<=th->IntKind.wrap .i64 (2+th)=2+th:=λa b=>w64 (by omega) (by omega)
 clear hgb hlt
 refine AF.tidy ?_
 refine Aa ok171 ?_;repeat' first|simp only[*,go_sem]|refine orR ?_|(refine sp ?_ ?_<;>intro hc)|refine Fj (kP _) hlp ?_
 case' refine_1.refine_1.refine_1=>have e:=Pg (th:=th) (p:=p) hi (.inr ‹_›)
 case' refine_1.refine_2=>have e:=Pg (th:=th) (p:=p) hi (.inl (by omega))
 case' refine_2=>have e:=Pg (th:=th) (p:=p) hi (.inl (by omega))
 case' refine_1.refine_1.refine_1|refine_1.refine_2|refine_2=>(rw[e]at h;exact⟨rfl,by first|exact⟨_,rfl⟩|exact⟨[],(Qa _).symm⟩|exact hx|exact hx.app _,h⟩)
 have hin:Bv th 0 (s.AS.AI-1)=true:=by rw[BX];omega
 have hp:BJ p=true:=by assumption
 have hro:=EZ hi.ok (BX.1 hin).1 (BX.1 hin).2
 have hl:=G7 hp
 refine AK.Az [8,9,10,2,3] ?_;simp only[mpC,go_sem]
 refine AK.acc (λk (a:Int×Int×AP)=>[(8,nS a.1),(9,nS a.2.1),(10,nS (k:Int))]) (λk a=>a.2.2) (λk a=>Ex H a.2.2/\AL a.2.2 H.length _/\((k=0/\a.1=2+th)\/(1<=k/\0<=a.2.1/\a.2.1<s.AE.length/\A7 s th p=DU s (p.drop k) a.2.1))) p.length ?_ (a0:=(2+th,0,_)) ⟨.mk _,AL.of BH,.inl ⟨rfl,rfl⟩⟩
 rintro k ⟨node,slot,W⟩ hk ⟨hx,kst,hI⟩ next
 simp only at hx kst hI
 have kT:=kT.ex hx
 have kS:=kS.ex hx
 have kP:=kP.ex hx
 have kT0:=kT.at
 have kS0:=kS.at
 have kP0:=kP.at
 have kst0:=kst.at
 refine AK.unfold ?_
 have hw:=AY (k:=k) (by omega)
 have hgp:k<p.length->_:=λh=>Bt (l:=p) h
 rcases hI with⟨rfl,rfl⟩|⟨h1,h2,h3,h4⟩
 ·have hz:=V8 hi hin hp
  have KD:(0<=2+th)=True:=eq_true (by have:=BX.1 hin;omega)
  have hn1:(2+th<(s.AB.length:Int))=True:=eq_true (by have:=BX.1 hin;omega)
  have hg:=BI (s:=s) (k:=(2+th).toNat) hro.1
  have hb:=hi.bits hro.1 hro.2
  have hpl:(0<(p.length:Int))=True:=eq_true (by omega)
  have hgp0:(ints p)[0]?=some [nS (p.getD 0 0)]:=Bt (by omega)
  have hwz:¬p2 (s.AG (2+th).toNat).bits<=p.getD 0 0->IntKind.wrap .i64 ((s.AG (2+th).toNat).base+p.getD 0 0)=(s.AG (2+th).toNat).base+p.getD 0 0:=λh=>by
   have:=hz.2 h
   have:=hi.ok.lS
   exact w64 (by omega) (by omega)
  (try simp only[hgp0,hg,KD,hn1,hpl,hwz,hw,kT,kS,kP,kst,kT0,kS0,kP0,kst0,AA b171_9.eq_1,AR,AX,apC,go_sem]);repeat' ((first|refine orR ?_|(refine sp ?_ ?_<;>intro hc)|refine HT hb.1 hb.2 ?_)<;>try simp only[*,AA b171_9.eq_1,AR,AX,apC,go_sem])
  ·rw[hz.1 ‹_›]at h
   exact⟨rfl,by first|exact⟨_,rfl⟩|exact⟨[],(Qa _).symm⟩|exact hx|exact hx.app _,h⟩
  ·have q:=hz.2 ‹_›
   (refine AK.Az [8,9,10,2,3] ?_;simp only[mpC,go_sem];refine next (2+th,_,_) (by omega) ⟨hx.app _,kst.app _,.inr ⟨by omega,q.1,q.2.1,q.2.2⟩⟩)
 ·have hk0:(0<(k:Int))=True:=eq_true (by omega)
  have hs0:(0<=slot)=True:=eq_true h2
  have hs1:(slot<(s.AE.length:Int))=True:=eq_true h3
  have hg:=A4 (s:=s) (k:=slot.toNat) (by omega)
  have hm:k<p.length->_:=λh=>V7 hi hp h h2 h3 h4
  have DS:(s.slot slot.toNat).cap.ty=2->(0<=(s.slot slot.toNat).cap.th)=True/\((s.slot slot.toNat).cap.th<(s.AB.length:Int))=True:=λh=>by
   have:=hi.th (i:=slot.toNat) (by omega) (C9 (by rw[h];decide))
   exact⟨eq_true this.1,eq_true this.2⟩
  have hgt:(s.slot slot.toNat).cap.ty=2->_:=λh=>BI (s:=s) (k:=(s.slot slot.toNat).cap.th.toNat) (by have:=hi.th (i:=slot.toNat) (by omega) (C9 (by rw[h];decide));omega)
  have hb:(s.slot slot.toNat).cap.ty=2->_:=λh=>hi.bits (k:=(s.slot slot.toNat).cap.th.toNat) (by have:=hi.th (i:=slot.toNat) (by omega) (C9 (by rw[h];decide));omega) (by rw[(hi.E8 slot.toNat (by omega) (C9 (by rw[h];decide))).2,h])
  have hwz:k<p.length->(s.slot slot.toNat).cap.ty=2->¬(s.slot slot.toNat).cap.ri.tmod 2=0->¬p2 (s.AG (s.slot slot.toNat).cap.th.toNat).bits<=p.getD k 0->IntKind.wrap .i64 ((s.AG (s.slot slot.toNat).cap.th.toNat).base+p.getD k 0)=(s.AG (s.slot slot.toNat).cap.th.toNat).base+p.getD k 0:=λa b c d=>by
   have:=((hm a).2 b c).2 d
   have:=hi.ok.lS
   exact w64 (by omega) (by omega)
  have w2:IntKind.wrap .i64 2=2:=by decide
  have q2:((2:Int)=0)=False:=by decide
  (try simp only[hgp,hg,hk0,hs0,hs1,DS,hgt,hwz,hw,w2,q2,kT,kS,kP,kst,kT0,kS0,kP0,kst0,AA b171_9.eq_1,AR,AX,apC,go_sem]);repeat' ((first|refine orR ?_|(refine sp ?_ ?_<;>intro hc)|refine HT (hb ‹_›).1 (hb ‹_›).2 ?_)<;>try simp only[*,AA b171_9.eq_1,AR,AX,apC,go_sem])
  ·rw[(hm ‹_›).1 (.inr ‹_›)]at h
   exact⟨rfl,by first|exact⟨_,rfl⟩|exact⟨[],(Qa _).symm⟩|exact hx|exact hx.app _,h⟩
  ·rw[((hm ‹_›).2 ‹_› ‹_›).1 ‹_›]at h
   exact⟨rfl,by first|exact⟨_,rfl⟩|exact⟨[],(Qa _).symm⟩|exact hx|exact hx.app _,h⟩
  ·have q:=((hm ‹_›).2 ‹_› ‹_›).2 ‹_›
   (refine AK.Az [8,9,10,2,3] ?_;simp only[mpC,go_sem];refine next (_,_,_) ‹_› ⟨by first|exact⟨_,rfl⟩|exact⟨[],(Qa _).symm⟩|exact hx|exact hx.app _,kst.app _,.inr ⟨by omega,q.1,q.2.1,q.2.2⟩⟩)
  ·rw[(hm ‹_›).1 (.inl ‹_›)]at h
   exact⟨rfl,by first|exact⟨_,rfl⟩|exact⟨[],(Qa _).symm⟩|exact hx|exact hx.app _,h⟩
  ·rw[Yj (by omega) h4]at h
   exact⟨rfl,by first|exact⟨_,rfl⟩|exact⟨[],(Qa _).symm⟩|exact hx|exact hx.app _,h⟩
theorem EX{th:Int}{p:List Int}{oP:Nat}{fP rP:Bool}(hi:Inv s)(hP:H[oP]?=some (.AU 1 (ints p) rP))(hlp:p.length<=100000)(hS:nA H oS s rS)(hT:nB H oT s rT)
 (h:K (.Bj [nS (AO s th p).1,.agg (AO s th p).2.1.cells,nS (AO s th p).2.2]) H):AF Qc 88 [stA s oS oT fS fT,nS th,.slice oP p.length 0 p.length fP] H K:=by
 have kT:=AL.of hT
 have kS:=AL.of hS
 have kP:=AL.of hP
 have hb:(A7 s th p).2=0->(0<=(A7 s th p).1)=True/\((A7 s th p).1<(s.AE.length:Int))=True:=λe=>by
  have:=C7 e;exact⟨eq_true this.2.2.2.1,eq_true this.2.2.2.2⟩
 have hg:(A7 s th p).2=0->_:=λe=>A4 (s:=s) (k:=(A7 s th p).1.toNat) (by have:=C7 e;omega)
 have hz:(A7 s th p).2=0->_:=λe=>hi.Yx (k:=(A7 s th p).1.toNat) (by have:=C7 e;omega)
 refine AF.tidy ?_
 refine Aa ok88 ?_;repeat' first|simp only[*,go_sem]|apply orR|(apply sp<;>intro hc)|refine Yf hi (kP _) hlp (kS _) (kT _) ?_
 all_goals (refine tv h (by first|exact⟨_,rfl⟩|exact⟨[],(Qa _).symm⟩|exact hx|exact hx.app _) ?_;first|(simp only[AO,Bh.cells,Bh.zero,AH.plain,Ah, *,bs,go_sem];done)|(simp_all[AO,Bh.cells,Bh.zero,AH.plain,Ah]<;>omega)|grind[AO,Bh.cells,Bh.zero,AH.plain,Ah])
theorem Jt{th:Int}{p:List Int}{oP:Nat}{fP rP:Bool}(hi:Inv s)(hP:H[oP]?=some (.AU 1 (ints p) rP))(hlp:p.length<=100000)(hS:nA H oS s rS)(hT:nB H oT s rT)
 (h:K (.Bj [nS (Ak s th p).1,nS (Ak s th p).2]) H):AF Qc 160 [stA s oS oT fS fT,nS th,.slice oP p.length 0 p.length fP] H K:=by
 have kT:=AL.of hT
 have kS:=AL.of hS
 have kP:=AL.of hP
 have hb:(A7 s th p).2=0->(0<=(A7 s th p).1)=True/\((A7 s th p).1<(s.AE.length:Int))=True:=λe=>by
  have:=C7 e;exact⟨eq_true this.2.2.2.1,eq_true this.2.2.2.2⟩
 have hg:(A7 s th p).2=0->_:=λe=>A4 (s:=s) (k:=(A7 s th p).1.toNat) (by have:=C7 e;omega)
 have hz:(A7 s th p).2=0->_:=λe=>hi.Yx (k:=(A7 s th p).1.toNat) (by have:=C7 e;omega)
 refine AF.tidy ?_
 refine Aa ok160 ?_;repeat' first|simp only[*,go_sem]|apply orR|(apply sp<;>intro hc)|refine Yf hi (kP _) hlp (kS _) (kT _) ?_
 all_goals (refine tv h (by first|exact⟨_,rfl⟩|exact⟨[],(Qa _).symm⟩|exact hx|exact hx.app _) ?_;first|(simp only[Ak,AH.plain,Ah, *,bs,go_sem];done)|(simp_all[Ak,AH.plain,Ah]<;>omega)|grind[Ak,AH.plain,Ah])
end
end Go.Proofs.YtlaipllgmddkiaaGreat.Ax
namespace Go.Ax.M
open Go Go.Ax
theorem K1{op:Int}{a b:List Int}{x y w:Int}:
 (op=1->AT ⟨op,a,b,x,y,w⟩=(BJ a&&(BJ b&&((Bv x 1 5&&Bv y 0 4096)&&decide (w=0)))))/\
 (op=2->AT ⟨op,a,b,x,y,w⟩=(BJ a&&(BJ b&&((Bv x 0 7&&decide (y=0))&&decide (w=0)))))/\
 (op=3->AT ⟨op,a,b,x,y,w⟩=(BJ a&&(BJ b&&((Bv x 0 7&&Bv y 1 65535)&&decide (w=0)))))/\
 (op=4->AT ⟨op,a,b,x,y,w⟩=(BJ a&&(BJ b&&((decide (x=0)&&decide (y=0))&&decide (w=0)))))/\
 (op=7->AT ⟨op,a,b,x,y,w⟩=(BJ a&&((decide ((b.length:Int)=0)||BJ b)&&(decide (x=0)&&decide (y=0)))))/\
 (op=8->AT ⟨op,a,b,x,y,w⟩=(BJ a&&((decide ((b.length:Int)=0)||BJ b)&&((decide (x=0)&&decide (y=0))&&decide (w=0)))))/\
 (op=11->AT ⟨op,a,b,x,y,w⟩=(BJ a&&(decide ((b.length:Int)=0)&&(Bv x 0 3&&decide (y=0)))))/\
 (op=12->AT ⟨op,a,b,x,y,w⟩=(BJ a&&(decide ((b.length:Int)=0)&&((Bv x 0 3&&decide (y=0))&&decide (w=0)))))/\
 (op=5\/op=6\/op=9\/op=10\/op=13->AT ⟨op,a,b,x,y,w⟩=(BJ a&&(decide ((b.length:Int)=0)&&((decide (x=0)&&decide (y=0))&&decide (w=0)))))/\
 (op<1\/13<op->AT ⟨op,a,b,x,y,w⟩=false):=by
 refine⟨?_,?_,?_,?_,?_,?_,?_,?_,?_,λh=>by simp only[AT,(IJ h).2];rfl⟩
 all_goals intro h
 all_goals try rcases h with rfl|rfl|rfl|rfl|rfl
 all_goals try subst h
 all_goals simp[AT,CB,C0,C2]
end Go.Ax.M
namespace Go.Proofs.YtlaipllgmddkiaaGreat.Ax
open Go Go.Ax Go.Ax.M
section
variable {H:AP}{K:AH->AP->Prop}
theorem UJ{p:List Int}{o:Nat}{f r:Bool}(ho:H[o]?=some (.AU 1 (ints p) r))(hl:p.length<=100000)(h:K (.bool (decide ((p.length:Int)=0)||BJ p)) H):AF Qc 159 [.slice o p.length 0 p.length f] H K:=by
 refine Aa ok159 ?_;repeat' first|simp only[*,go_sem]|apply orR|(apply sp<;>intro hc)|refine Fj ho hl ?_
 all_goals (refine kb h ?_;first|(simp only[BJ, *,bs,go_sem];done)|(simp_all[BJ]<;>omega)|grind[BJ])
theorem CR{op x y w:Int}{a b:List Int}{oA oB:Nat}{fA fB rA rB:Bool}(hA:H[oA]?=some (.AU 1 (ints a) rA))(hB:H[oB]?=some (.AU 1 (ints b) rB))(hla:a.length<=100000)(hlb:b.length<=100000)(h:K (.bool (AT ⟨op,a,b,x,y,w⟩)) H):
 AF Qc 84 [.agg [nS op,.slice oA a.length 0 a.length fA,.slice oB b.length 0 b.length fB,nS x,nS y,nT w]] H K:=by
 have kA:=AL.of hA
 have kB:=AL.of hB
 obtain⟨c1,c2,c3,c4,c7,c8,c11,c12,cr,cn⟩:=@K1 op a b x y w
 refine AF.tidy ?_
 rcases Js op with(e|e|e|e|e|e|e|e|e|e|e|e|e)|e
 case inr=>
  rw[cn e]at h
  clear c1 c2 c3 c4 c7 c8 c11 c12 cr cn
  rcases e with e|e
  ·refine Aa ok84 ?_;(try simp only[kA,kB,e,go_sem]);repeat' ((first|apply orR|(apply sp<;>intro hc)|refine Fj (kA _) hla ?_)<;>try simp only[*,go_sem])
   all_goals (refine tb h (by first|exact⟨_,rfl⟩|exact⟨[],(Qa _).symm⟩|exact hx|exact hx.app _) ?_;first|(simp only[Qy, *,bs,go_sem];done)|(simp_all[Qy]<;>omega)|grind[Qy])
  ·have e':¬op<1:=by omega
   refine Aa ok84 ?_;(try simp only[kA,kB,e,e',go_sem]);repeat' ((first|apply orR|(apply sp<;>intro hc)|refine Fj (kA _) hla ?_)<;>try simp only[*,go_sem])
   all_goals (refine tb h (by first|exact⟨_,rfl⟩|exact⟨[],(Qa _).symm⟩|exact hx|exact hx.app _) ?_;first|(simp only[Qy, *,bs,go_sem];done)|(simp_all[Qy]<;>omega)|grind[Qy])
 all_goals first
  |rw[c1 e]at h
  |rw[c2 e]at h
  |rw[c3 e]at h
  |rw[c4 e]at h
  |rw[c7 e]at h
  |rw[c8 e]at h
  |rw[c11 e]at h
  |rw[c12 e]at h
  |rw[cr (by omega)]at h
 all_goals
  clear c1 c2 c3 c4 c7 c8 c11 c12 cr cn
  subst e
  refine Aa ok84 ?_;(try simp only[kA,kB,go_sem]);repeat' ((first|apply orR|(apply sp<;>intro hc)|refine Fj (kA _) hla ?_|refine Fj (kB _) hlb ?_|refine UJ (kB _) hlb ?_|refine KR ?_)<;>try simp only[*,go_sem])
 all_goals first
  |exact⟨rfl,by first|exact⟨_,rfl⟩|exact⟨[],(Qa _).symm⟩|exact hx|exact hx.app _,h⟩
  |(refine tb h (by first|exact⟨_,rfl⟩|exact⟨[],(Qa _).symm⟩|exact hx|exact hx.app _) ?_;simp_all;done)
end
def J5(f:FuncId)(Q:State->M.Call->Prop)(D:State->Int->M.Call->CD):Prop:=∀{H:AP} {K:AH->AP->Prop} {s:State} {th:Int} {c:M.Call} {oS oT oA oB:Nat} {fS fT rS rT fA fB rA rB:Bool},
 Inv s->AT c=true->Q s c->nA H oS s rS->nB H oT s rT->H[oA]?=some (.AU 1 (ints c.a) rA)->H[oB]?=some (.AU 1 (ints c.b) rB)->
 ((D s th c).st=none->K (.Bj [stA s oS oT fS fT,(D s th c).Ap]) H)->(∀s',(D s th c).st=some s'->K (.Bj [BT s' H.length (H.length+1) false false,(D s th c).Ap]) (H++[AM s',AJ s']))->
 AF Qc f [stA s oS oT fS fT,nS th,.agg [nS c.op,.slice oA c.a.length 0 c.a.length fA,.slice oB c.b.length 0 c.b.length fB,nS c.x,nS c.y,nT c.w]] H K
theorem II{c:M.Call}(h:AT c=true):c.a.length<=100000/\c.b.length<=100000:=by
 simp only[AT,Qd,Qj,decide_eq_true_eq]at h
 have h1:=G7 h.2.1
 rcases h.2.2.1 with h2|h2
 ·omega
 ·have:=G7 h2.1;omega
section
variable {H:AP}{K:AH->AP->Prop}{s:State}{oS oT:Nat}{fS fT rS rT:Bool}
theorem CS{e:Int}(h:K (.Bj [stA s oS oT fS fT,.agg [nS e,nT 0,nS 0]]) H)(hS:oS<H.length)(hT:oT<H.length):AF Qc 85 [stA s oS oT fS fT,nS e] H K:=by
 refine AF.gc ?_
 refine Aa ok85 ?_;(try simp only[go_sem]);repeat' ((first|apply orR|(apply sp<;>intro hc)|fail)<;>try simp only[*,go_sem])
 exact Gc.Cd (by simp[AH.refs,Ay];exact⟨hS,hT⟩) h
theorem UK{c:Bh}{fr to:Int}(hi:Inv s)(f0:0<=fr)(f1:fr<s.AE.length)(t0:0<=to)(t1:to<s.AE.length)(ho:0<=A0 s to)(hcg:Bq c=true)(hcn:Aq c=false)
 (hS:nA H oS s rS) (hT:nB H oT s rT)
 (h:Dj s fr to c≠0->K (.Bj [stA s oS oT fS fT,nS (Dj s fr to c)]) H) (h':Dj s fr to c=0->K (.Bj [BT (CW s fr to c) H.length (H.length+1) false false,nS 0]) (H++[AM (CW s fr to c),AJ (CW s fr to c)])):
 AF Qc 169 [stA s oS oT fS fT,nS fr,nS to,.agg c.cells] H K:=by
 have kT:=AL.of hT
 have kS:=AL.of hS
 have hE:=bU hi f0 f1 t0 t1 ho hcg hcn
 have f0':(0<=fr)=True:=eq_true f0
 have f1':(fr<(s.AE.length:Int))=True:=eq_true f1
 have t0':(0<=to)=True:=eq_true t0
 have t1':(to<(s.AE.length:Int))=True:=eq_true t1
 have ho':(A0 s to<0)=False:=eq_false (by omega)
 have gf:=A4 (s:=s) (k:=fr.toNat) (by omega)
 have gt:=A4 (s:=s) (k:=to.toNat) (by omega)
 have zf:=hi.Yx (k:=fr.toNat) (by omega)
 have zt:=hi.Yx (k:=to.toNat) (by omega)
 have hlT:s.AB.length<=1000:=by have:=hi.ok.lT;omega
 have hok:DT s:=hi.BB
 have key:∀e,Dj s fr to c=e->e≠0->K (.Bj [stA s oS oT fS fT,nS e]) H:=λe he hn=>he▸h (he▸hn)
 have hv:=λe=>show(AH.Bj [stA s oS oT fS fT,nS e]).refs (λo=>o<H.length) by simp[AH.refs,Ay];exact⟨Am hS,Am hT⟩
 clear h
 refine AF.gc ?_
 unfold Bh.cells
 refine Aa ok169 ?_;repeat' first|simp only[*,BT,AM,AJ,Qf,Qk,go_sem]|refine orR ?_|(refine sp ?_ ?_<;>intro hc)|refine Ox (a:=c) (b:=(s.slot fr.toNat).cap) ?_|refine Ra hi (kS _) (kT _) ?_|refine IP (kT _) hlT hok ?_|refine Fi hi (kS _) (kT _) ?_
 case' refine_2.refine_2.refine_2.refine_2.refine_1.refine_2=>
  have e:Dj s fr to c=0:=by rw[hE];simp[*]
  have h':=h' e
  have e2:c.ty=2:=by assumption
  have el:(CW s fr to c).AE.length=s.AE.length:=by simp[CW]
  rw[<-el]
  exact Gc.stateT (s:=CW s fr to c) (i:=4) (j:=5) (by simp only[AM,CW,<-Jx,Slot.cells,e2];rfl) rfl (by decide) (by simp[AH.plain]) h'
 case' refine_2.refine_2.refine_2.refine_2.refine_2=>
  have e:Dj s fr to c=0:=by rw[hE];simp[*]
  have h':=h' e
  have el:(CW s fr to c).AE.length=s.AE.length:=by simp[CW]
  rw[<-el]
  exact Gc.stateT (s:=CW s fr to c) (i:=4) (j:=5) (by simp only[AM,CW,<-Jx];rfl) rfl (by decide) (by simp[AH.plain]) h'
 all_goals exact Gc.Cd (hv _) (key _ (by rw[hE];simp[*]) (by decide))
theorem Zq{x0 x1 x2 x3 fr to:Int}(hi:Inv s)(f0:0<=fr)(f1:fr<s.AE.length)(t0:0<=to)(t1:to<s.AE.length)(ho:0<=A0 s to)(hcg:Bq ⟨x0,x1,x2,x3⟩=true)(hcn:Aq ⟨x0,x1,x2,x3⟩=false)
 (hS:nA H oS s rS) (hT:nB H oT s rT)
 (h:Dj s fr to ⟨x0,x1,x2,x3⟩≠0->K (.Bj [stA s oS oT fS fT,nS (Dj s fr to ⟨x0,x1,x2,x3⟩)]) H)
 (h':Dj s fr to ⟨x0,x1,x2,x3⟩=0->K (.Bj [BT (CW s fr to ⟨x0,x1,x2,x3⟩) H.length (H.length+1) false false,nS 0]) (H++[AM (CW s fr to ⟨x0,x1,x2,x3⟩),AJ (CW s fr to ⟨x0,x1,x2,x3⟩)])):
 AF Qc 169 [stA s oS oT fS fT,nS fr,nS to,.agg [nS x0,nS x1,nS x2,nS x3]] H K:=UK (c:=⟨x0,x1,x2,x3⟩) hi f0 f1 t0 t1 ho hcg hcn hS hT h h'
theorem Vc:J5 92 (λ_ c=>c.op=7\/c.op=8) BC:=by
 intro H K s th c oS oT oA oB fS fT rS rT fA fB rA rB hi hcg hop hS hT hA hB h h'
 have kT:=AL.of hT
 have kS:=AL.of hS
 have kA:=AL.of hA
 have kB:=AL.of hB
 have hl:=II hcg
 have hl1:=hl.1
 have hl2:=hl.2
 clear hl
 have key:∀e,BC s th c= .bad e->K (.Bj [stA s oS oT fS fT,.agg [nS e,nT 0,nS 0]]) H:=λe he=>by rw[he]at h;exact h rfl
 have hv:=λe=>show(AH.Bj [stA s oS oT fS fT,.agg [nS e,nT 0,nS 0]]).refs (λo=>o<H.length) by simp[AH.refs,Ay];exact⟨Am hS,Am hT⟩
 clear h
 have iS:∀L:AP,oS<(H++L).length:=λL=>by have:=Am hS;rw[Qs];omega
 have iT:∀L:AP,oT<(H++L).length:=λL=>by have:=Am hT;rw[Qs];omega
 have hroom:(AO s th c.a).2.2=0->_:=λh=>Dt (Cx h)
 have hri:(AO s th c.a).2.2=0->0<=(AO s th c.a).2.1.ri/\(AO s th c.a).2.1.ri<=7:=λh=>by
  have:=CA h;rw[this.2.2.2.1];exact hi.ri (by omega)
 have T4:(AO s th c.a).2.2=0->_:=λh=>NY (hri h).1 (hri h).2
 have hr2:(AO s th c.a).2.2=0->_:=λh=>MA (hri h).1 (hri h).2
 have hr4:(AO s th c.a).2.2=0->_:=λh=>ZH (hri h).1 (hri h).2
 have hq2:(AO s th c.a).2.2=0->IntKind.wrap .i64 ((AO s th c.a).2.1.ri.tdiv 2)=(AO s th c.a).2.1.ri.tdiv 2:=λh=>by have:=hri h;rw[Qe (by omega)];exact w64 (by omega) (by omega)
 have hq4:(AO s th c.a).2.2=0->IntKind.wrap .i64 ((AO s th c.a).2.1.ri.tdiv 4)=(AO s th c.a).2.1.ri.tdiv 4:=λh=>by have:=hri h;rw[Qe (by omega)];exact w64 (by omega) (by omega)
 clear hri
 have w2:IntKind.wrap .i64 2=2:=by decide
 have w4:IntKind.wrap .i64 4=4:=by decide
 have hwf:(AO s th c.b).2.2=0->IntKind.wrap .i64 ((AO s th c.b).1+1)=(AO s th c.b).1+1:=λh=>by have:=CA h;have:=hi.ok.lS;exact w64 (by omega) (by omega)
 rcases hop with hop|hop
 ·refine AF.gc ?_
  refine Aa ok92 ?_;repeat' first|simp only[*,BT,AM,AJ,Qk,Bh.cells,go_sem]|refine orR ?_|(refine sp ?_ ?_<;>intro hc)|refine EX hi (kA _) hl1 (kS _) (kT _) ?_|refine EX hi (kB _) hl2 (kS _) (kT _) ?_|refine CS ?_ (iS _) (iT _)|refine Fi hi (kS _) (kT _) ?_
  case' inl.refine_2.refine_2.refine_1.refine_1.refine_2.refine_2.refine_2.refine_2=>
   obtain⟨t,ht⟩:∃t,t=Fo ((AO s th c.b).1+1) (AO s th c.a).2.1.ba c.w:=⟨_,rfl⟩
   have e:BC s th c=⟨0,0,0,some (boxed s (AO s th c.a).2.1.th t)⟩:=by rw[ht];clear h' key;(first|(simp only[BC,Cj,Cu, *,bs,go_sem];done)|(simp_all[BC,Cj,Cu]<;>omega)|grind[BC,Cj,Cu])
  case' inl.refine_2.refine_2.refine_1.refine_2.refine_2=>
   obtain⟨t,ht⟩:∃t,t=Fo 0 (AO s th c.a).2.1.ba c.w:=⟨_,rfl⟩
   have e:BC s th c=⟨0,0,0,some (boxed s (AO s th c.a).2.1.th t)⟩:=by rw[ht];clear h' key;(first|(simp only[BC,Cj,Cu, *,bs,go_sem];done)|(simp_all[BC,Cj,Cu]<;>omega)|grind[BC,Cj,Cu])
  case' inl.refine_2.refine_2.refine_1.refine_1.refine_2.refine_2.refine_2.refine_2|inl.refine_2.refine_2.refine_1.refine_2.refine_2=>
   rw[e]at h'
   have h':=h' _ rfl
   refine Gc.Jg (s':=boxed s (AO s th c.a).2.1.th t) (i:=6) (j:=7) rfl ?_ (λs' e=>by injection e with e;subst e;exact h') (by decide) (by simp[AH.plain,Ah]) rfl (by simp[boxed]) ⟨rfl,rfl,rfl⟩ rfl
   rw[ht]
   simp only[AJ,boxed,<-DQ];rfl
  all_goals exact Gc.Cd (hv _) (key _ (by(first|(simp only[BC,Cj,Cu, *,bs,go_sem];done)|(simp_all[BC,Cj,Cu]<;>omega)|grind[BC,Cj,Cu])))
 ·have hbx:(AO s th c.a).2.2=0->(AO s th c.a).2.1.th.toNat<s.AB.length:=λh=>by have:=DP.1 (Cx h);omega
  have hf:(AO s th c.a).2.2=0->0<(s.AG (AO s th c.a).2.1.th.toNat).from_->IntKind.wrap .i64 ((s.AG (AO s th c.a).2.1.th.toNat).from_-1)=(s.AG (AO s th c.a).2.1.th.toNat).from_-1/\(0<=(s.AG (AO s th c.a).2.1.th.toNat).from_-1)=True/\((s.AG (AO s th c.a).2.1.th.toNat).from_-1<(s.AE.length:Int))=True:=λh1 h=>by
   have:=(Lx hi.ok (hbx h1) h).1
   have:=hi.ok.lS
   exact⟨w64 (by omega) (by omega),eq_true (by omega),eq_true (by omega)⟩
  have hf2:(AO s th c.a).2.2=0->0<(s.AG (AO s th c.a).2.1.th.toNat).from_->_:=λh1 h=>A4 (s:=s) (k:=((s.AG (AO s th c.a).2.1.th.toNat).from_-1).toNat) (by have:=(Lx hi.ok (hbx h1) h).1;omega)
  have pf:(AO s th c.a).2.2=0->0<(s.AG (AO s th c.a).2.1.th.toNat).from_->(s.AG (AO s th c.a).2.1.th.toNat).from_<=s.AE.length/\Aq (s.slot ((s.AG (AO s th c.a).2.1.th.toNat).from_-1).toNat).cap=false:=λh1 h=>Lx hi.ok (hbx h1) h
  refine AF.gc ?_
  refine Aa ok92 ?_;repeat' first|simp only[*,BT,AM,AJ,Qk,Bh.cells,DX,F1,D0,go_sem]|refine orR ?_|(refine sp ?_ ?_<;>intro hc)|refine EX hi (kA _) hl1 (kS _) (kT _) ?_|refine Jt hi (kB _) hl2 (kS _) (kT _) ?_|refine CS ?_ (iS _) (iT _)|refine Fi hi (kS _) (kT _) ?_|refine Zq hi (by have:=pf ‹_› ‹_›;omega) (by have:=pf ‹_› ‹_›;omega) (CZ ‹_›).1 (CZ ‹_›).2.1 (CZ ‹_›).2.2.1 (hi.Ib _ (by have:=pf ‹_› ‹_›;omega)) (pf ‹_› ‹_›).2 (kS _) (kT _) (λhc=> ?_) (λhc=> ?_)
  case' inr.refine_2.refine_2.refine_2.refine_2.refine_1.refine_1.refine_2.refine_2=>
   obtain⟨u,hu⟩:∃u,u=CW s ((s.AG (AO s th c.a).2.1.th.toNat).from_-1) (Ak s th c.b).1 (s.slot ((s.AG (AO s th c.a).2.1.th.toNat).from_-1).toNat).cap:=⟨_,rfl⟩
   have e:BC s th c=GB s u (AO s th c.a).2.1:=by rw[hu];clear h' key;(first|(simp only[BC,CI, *,bs,go_sem];done)|(simp_all[BC,CI]<;>omega)|grind[BC,CI])
   rw[e]at h'
   have h':=h' _ rfl
   refine Gc.Jg (s':=boxed u (AO s th c.a).2.1.th GK) (i:=9) (j:=10) (by rw[hu];rfl) (by rw[hu];simp only[AJ,boxed,<-DQ];rfl) (λs' e=>by injection e with e;subst e;exact h') (by decide) (by simp[AH.plain,Ah]) (by simp[boxed,hu,CW]) (by simp[boxed,hu,CW]) (by rw[hu];exact⟨rfl,rfl,rfl⟩) rfl
  case' inr.refine_2.refine_2.refine_2.refine_2.refine_1.refine_2|inr.refine_2.refine_2.refine_2.refine_2.refine_2=>
   have e:BC s th c=GB s s (AO s th c.a).2.1:=by clear h' key;(first|(simp only[BC,CI, *,bs,go_sem];done)|(simp_all[BC,CI]<;>omega)|grind[BC,CI])
   rw[e]at h'
   have h':=h' _ rfl
   refine Gc.Jg (s':=boxed s (AO s th c.a).2.1.th GK) (i:=6) (j:=7) rfl (by simp only[AJ,boxed,<-DQ];rfl) (λs' e=>by injection e with e;subst e;exact h') (by decide) (by simp[AH.plain,Ah]) rfl (by simp[boxed]) ⟨rfl,rfl,rfl⟩ rfl
  all_goals exact Gc.Cd (hv _) (key _ (by(first|(simp only[BC,CI, *,bs,go_sem];done)|(simp_all[BC,CI]<;>omega)|grind[BC,CI])))
end
section
variable {H:AP}{K:AH->AP->Prop}{s:State}{oS oT:Nat}{fS fT rS rT:Bool}
theorem bY{n:Int}(h0:0<=n)(h1:n<64)(h:K (nT (p2 n)) H):AF Qc 220 [nS n] H K:=by
 obtain⟨m,rfl⟩:∃m:Nat,n=m:=⟨n.toNat,by omega⟩
 have w1:IntKind.wrap .u64 1=1:=by decide
 refine Aa ok220 ?_;repeat' first|simp only[*,go_sem]|apply orR|(apply sp<;>intro hc)|fail
 refine AK.Az [3,4,0] ?_;simp only[mpC,go_sem]
 refine AK.acc (λk (a:Int)=>[(3,nT a),(4,nS (k:Int))]) (λ_ _=>H) (λk a=>a=p2 k) m ?_ (a0:=1) (by simp[p2])
 intro k a hk ha next
 refine AK.unfold ?_
 have hw:=AY (k:=k) (by omega)
 have hp:k<m->IntKind.wrap .u64 (2* a)=p2 ((k+1:Nat):Int):=λh=>by
  rw[ha]
  have:(2:Nat)^(k+1)<2^64:=QL (by decide) (by omega)
  have e:(2:Int)* p2 k=((2^(k+1):Nat):Int):=by simp only[p2,Qb,Nat.pow_succ];omega
  have e2:p2 ((k+1:Nat):Int)=((2^(k+1):Nat):Int):=by simp only[p2,Qb]
  rw[e,e2]
  generalize (2:Nat)^(k+1)=q at*
  simp[IntKind.wrap,IntKind.bits,IntKind.signed];omega
 repeat' first|simp only[*,AA b220_1.eq_1,AR,AX,go_sem]|apply orR|(apply sp<;>intro hc)|fail
 ·(refine AK.Az [3,4,0] ?_;simp only[mpC,go_sem];refine next _ ‹_› (by first|rfl|exact hp ‹_›|(have e:=hp ‹_›;rw[ha]at e;exact e)))
 ·have:k=m:=by omega
  subst this;first|exact h|(rw[ha];exact h)
theorem bX{w n:Int}(h0:0<=n)(h1:n<64)(hw0:0<=w)(hw1:w<2^64)(h:K (.bool (decide ((w.tdiv (p2 n)).tmod 2=1))) H):AF Qc 174 [nT w,nS n] H K:=by
 have hp:1<=p2 n:=by simp only[p2];have:=Nat.two_pow_pos n.toNat;omega
 have hz:(p2 n=0)=False:=eq_false (by omega)
 have hd:w.tdiv (p2 n)=w/p2 n:=Qe hw0
 have hq:IntKind.wrap .u64 (w.tdiv (p2 n))=w.tdiv (p2 n):=by
  rw[hd]
  have a:=QV hw0 (show 0<=p2 n by omega)
  have b:=Int.ediv_le_self (p2 n) hw0
  generalize w/p2 n=q at*
  simp[IntKind.wrap,IntKind.bits,IntKind.signed];omega
 have hr:IntKind.wrap .u64 ((w.tdiv (p2 n)).tmod 2)=(w.tdiv (p2 n)).tmod 2:=by
  rw[hd]
  have a:=QV hw0 (show 0<=p2 n by omega)
  rw[QO a]
  generalize w/p2 n=q at*
  simp[IntKind.wrap,IntKind.bits,IntKind.signed];omega
 have q2:((2:Int)=0)=False:=by decide
 clear hd
 refine Aa ok174 ?_;repeat' first|simp only[*,go_sem]|apply orR|(apply sp<;>intro hc)|refine bY h0 h1 ?_
 trace_state
theorem OO{up:List Int}{o:Nat}{f r:Bool}{i:Int}{n:Nat}(hn:up.length=n)(hg:Cm up=true)(ho:H[o]?=some (.AU 1 (ints up) r))(h:K (.bool (E0 up i)) H):AF Qc 172 [.slice o n 0 n f,nS i] H K:=by
 subst hn
 have hgi:0<=i->i<up.length->(ints up)[i.toNat]?=some [nS (up.getD i.toNat 0)]:=λh1 h2=>Bt (by omega)
 refine Aa ok172 ?_;repeat' first|simp only[*,go_sem]|apply orR|(apply sp<;>intro hc)|refine LV rfl hg ho ?_
 all_goals (refine kb h ?_;first|(simp only[E0, *,bs,go_sem];done)|(simp_all[E0]<;>omega)|grind[E0])
theorem Zn{up:List Int}{o:Nat}{f r:Bool}{i n:Nat}(hn:up.length=n)(hg:Cm up=true)(hi:i<up.length)(hx:E0 up i=true)(ho:H[o]?=some (.AU 1 (ints up) r))(h:K (nS (DK up i)) H):AF Qc 176 [.slice o n 0 n f,nS i] H K:=by
 subst hn
 have hl:=Lv hg
 have hgi:(ints up)[i]?=some [nS (up.getD i 0)]:=Bt hi
 have hi0:(i<up.length)=True:=eq_true hi
 have d0:=IT.first hg hi hx
 have dst:=λn k=>@IT.step up hg i hi n k
 have dend:=λn k=>@IT.done up hg i hi hx n k
 refine Aa ok176 ?_;repeat' first|simp only[*,AR,AX,Qb,go_sem]|apply orR|(apply sp<;>intro hc)|refine OO rfl hg ho ?_
 clear hgi hx
 refine AK.Az [6,5,0] ?_;simp only[mpC,go_sem]
 refine AK.acc (λn a=>[(6,nS a),(5,nS (n:Int))]) (λ_ _=>H) (λn a=>IT up i n a) (up.length+1) ?_ (a0:=up.getD i 0) d0
 intro n a hn hd next
 refine AK.unfold ?_
 have hw:=AY (k:=n) (by omega)
 have hst:0<=a->_:=λh0=>dst n a hd h0
 have hgg:0<=a->(a<(up.length:Int))=True/\(ints up)[a.toNat]?=some [nS (up.getD a.toNat 0)]:=λh0=>⟨eq_true (hst h0).1,Bt (by have:=(hst h0).1;omega)⟩
 clear dst
 repeat' first|simp only[*,AA b176_3.eq_1,AR,AX,go_sem]|apply orR|(apply sp<;>intro hc)|fail
 ·(refine AK.Az [6,5,0] ?_;simp only[mpC,go_sem];refine next _ (Nat.lt_of_succ_lt (hst ‹_›).2.1) (hst ‹_›).2.2)
 ·exact ki h (dend _ _ hd ‹_›).symm
theorem VX{up:List Int}{o:Nat}{f r:Bool}{z:Int}{n:Nat}(hn:up.length=n)(hg:Cm up=true)(h0:0<=z)(hi:z<up.length)(hx:E0 up z=true)(ho:H[o]?=some (.AU 1 (ints up) r))(h:K (nS (DK up z)) H):AF Qc 176 [.slice o n 0 n f,nS z] H K:=by
 obtain⟨i,rfl⟩:∃i:Nat,z=i:=⟨z.toNat,by omega⟩
 exact Zn hn hg (by omega) hx ho h
theorem Va:J5 93 (λs c=>(c.op=9\/c.op=10)/\∀k,k<s.AB.length->0<=(s.AG k).word/\(s.AG k).word<2^64) BG:=by
 intro H K s th c oS oT oA oB fS fT rS rT fA fB rA rB hi hcg hop hS hT hA hB h h'
 obtain⟨hop,hw64⟩:=hop
 have kT:=AL.of hT
 have kS:=AL.of hS
 have kA:=AL.of hA
 have kB:=AL.of hB
 have hl:=II hcg
 have hl1:=hl.1
 clear hl
 have key:∀e,BG s th c= .bad e->K (.Bj [stA s oS oT fS fT,.agg [nS e,nT 0,nS 0]]) H:=λe he=>by rw[he]at h;exact h rfl
 have hv:=λe=>show(AH.Bj [stA s oS oT fS fT,.agg [nS e,nT 0,nS 0]]).refs (λo=>o<H.length) by simp[AH.refs,Ay];exact⟨Am hS,Am hT⟩
 clear h
 have iS:∀L:AP,oS<(H++L).length:=λL=>by have:=Am hS;rw[Qs];omega
 have iT:∀L:AP,oT<(H++L).length:=λL=>by have:=Am hT;rw[Qs];omega
 have hroom:(AO s th c.a).2.2=0->_:=λh=>Dt (Cx h)
 have hri:(AO s th c.a).2.2=0->0<=(AO s th c.a).2.1.ri/\(AO s th c.a).2.1.ri<=7:=λh=>by
  have:=CA h;rw[this.2.2.2.1];exact hi.ri (by omega)
 have T4:(AO s th c.a).2.2=0->_:=λh=>NY (hri h).1 (hri h).2
 have hr2:(AO s th c.a).2.2=0->_:=λh=>MA (hri h).1 (hri h).2
 have hq2:(AO s th c.a).2.2=0->IntKind.wrap .i64 ((AO s th c.a).2.1.ri.tdiv 2)=(AO s th c.a).2.1.ri.tdiv 2:=λh=>by have:=hri h;rw[Qe (by omega)];exact w64 (by omega) (by omega)
 clear hri
 have hwt:(AO s th c.a).2.2=0->0<=(s.AG (AO s th c.a).2.1.th.toNat).word/\(s.AG (AO s th c.a).2.1.th.toNat).word<2^64:=λh=>hw64 _ (by have:=DP.1 (Cx h);omega)
 have hba:(AO s th c.a).2.2=0->0<=(AO s th c.a).2.1.ba.tmod 64/\(AO s th c.a).2.1.ba.tmod 64<64:=λh=>by
  have hba:=NA (FI h).2.2.2
  have:=Int.tmod_lt_of_pos (AO s th c.a).2.1.ba (show(0:Int)<64 by decide)
  exact⟨Int.tmod_nonneg _ hba.1,this⟩
 have hsh:(AO s th c.a).2.2=0->Dl .shl .u64 1 ((AO s th c.a).2.1.ba.tmod 64)=some (nT (p2 ((AO s th c.a).2.1.ba.tmod 64))):=λh=>tB (hba h).1 (hba h).2
 have hwb:(AO s th c.a).2.2=0->IntKind.wrap .i64 ((AO s th c.a).2.1.ba.tmod 64)=(AO s th c.a).2.1.ba.tmod 64/\IntKind.wrap .u64 ((AO s th c.a).2.1.ba.tmod 64)=(AO s th c.a).2.1.ba.tmod 64:=λh=>by
  have:=hba h
  generalize (AO s th c.a).2.1.ba.tmod 64=q at*
  refine⟨w64 (by omega) (by omega),?_⟩
  simp[IntKind.wrap,IntKind.bits,IntKind.signed];omega
 have hbr:(AO s th c.a).2.2=0->_:=λh=>ck (hwt h).1 (hwt h).2 (hba h).1 (hba h).2
 have hba1:(AO s th c.a).2.2=0->_:=λh=>(hba h).1
 have hba2:(AO s th c.a).2.2=0->_:=λh=>(hba h).2
 have hwt1:(AO s th c.a).2.2=0->_:=λh=>(hwt h).1
 have hwt2:(AO s th c.a).2.2=0->_:=λh=>(hwt h).2
 clear hba hwt hw64
 obtain⟨B,hB64⟩:=NQ ((AO s th c.a).2.1.ba.tmod 64)
 have w2:IntKind.wrap .i64 2=2:=by decide
 have q64:((64:Int)=0)=False:=by decide
 rcases hop with hop|hop
 ·refine AF.gc ?_
  refine Aa ok93 ?_;repeat' first|simp only[*,BT,AM,AJ,Qk,Bh.cells,QB,Qf,go_sem]|refine orR ?_|(refine sp ?_ ?_<;>intro hc)|refine EX hi (kA _) hl1 (kS _) (kT _) ?_|refine CS ?_ (iS _) (iT _)|refine Fi hi (kS _) (kT _) ?_|refine bX (hba1 ‹_›) (hba2 ‹_›) (hwt1 ‹_›) (hwt2 ‹_›) ?_
  case' inl.refine_2.refine_2.refine_2.refine_1=>
   have eo:=(hbr ‹_›).1
   rw[if_neg ‹_›]at eo
   obtain⟨t,ht⟩:∃t,t={s.AG (AO s th c.a).2.1.th.toNat with word:=(s.AG (AO s th c.a).2.1.th.toNat).word+p2 ((AO s th c.a).2.1.ba.tmod 64)}:=⟨_,rfl⟩
   have e:BG s th c=⟨0,0,0,some (boxed s (AO s th c.a).2.1.th t)⟩:=by rw[ht,<-eo];clear h' key eo hbr;(first|(simp only[BG, *,bs,go_sem];done)|(simp_all[BG]<;>omega)|grind[BG])
   rw[e]at h'
   have h':=h' _ rfl
   refine Gc.Jg (s':=boxed s (AO s th c.a).2.1.th t) (i:=5) (j:=6) rfl ?_ (λs' e=>by injection e with e;subst e;exact h') (by decide) (by simp[AH.plain,Ah]) rfl (by simp[boxed]) ⟨rfl,rfl,rfl⟩ rfl
   rw[ht]
   simp only[AJ,boxed,<-DQ];rfl
  case' inl.refine_2.refine_2.refine_2.refine_2=>
   have eo:=(hbr ‹_›).1
   rw[if_pos ‹_›]at eo
   have DS:=DP.1 (Cx (s:=s) (th:=th) (p:=c.a) ‹_›)
   have es:boxed s (AO s th c.a).2.1.th {s.AG (AO s th c.a).2.1.th.toNat with word:=Ud (s.AG (AO s th c.a).2.1.th.toNat).word (p2 ((AO s th c.a).2.1.ba.tmod 64))}=s:=by
    rw[eo]
    have hl:(AO s th c.a).2.1.th.toNat<s.AB.length:=by omega
    have e3:s.AG (AO s th c.a).2.1.th.toNat=s.AB[(AO s th c.a).2.1.th.toNat]:=by simp[State.AG,Qm,hl]
    simp only[boxed,e3]
    rw[List.set_getElem_self]
   have e:BG s th c=⟨0,0,0,some (boxed s (AO s th c.a).2.1.th {s.AG (AO s th c.a).2.1.th.toNat with word:=Ud (s.AG (AO s th c.a).2.1.th.toNat).word (p2 ((AO s th c.a).2.1.ba.tmod 64))})⟩:=by clear es;clear h' key eo hbr;(first|(simp only[BG, *,bs,go_sem];done)|(simp_all[BG]<;>omega)|grind[BG])
   rw[es]at e
   rw[e]at h'
   have h':=h' _ rfl
   refine Gc.Jg (s':=s) (i:=5) (j:=6) rfl rfl (λs' e=>by injection e with e;subst e;exact h') (by decide) (by simp[AH.plain,Ah]) rfl rfl ⟨rfl,rfl,rfl⟩ rfl
  all_goals exact Gc.Cd (hv _) (key _ (by clear hbr;(first|(simp only[BG, *,bs,go_sem];done)|(simp_all[BG]<;>omega)|grind[BG])))
 ·refine AF.gc ?_
  refine Aa ok93 ?_;repeat' first|simp only[*,BT,AM,AJ,Qk,Bh.cells,QB,Qf,go_sem]|refine orR ?_|(refine sp ?_ ?_<;>intro hc)|refine EX hi (kA _) hl1 (kS _) (kT _) ?_|refine CS ?_ (iS _) (iT _)|refine Fi hi (kS _) (kT _) ?_
  case' inr.refine_2.refine_2.refine_2.refine_2=>
   obtain⟨t,ht⟩:∃t,t={s.AG (AO s th c.a).2.1.th.toNat with word:=0}:=⟨_,rfl⟩
   have e:BG s th c=⟨0,(s.AG (AO s th c.a).2.1.th.toNat).word,0,some (boxed s (AO s th c.a).2.1.th t)⟩:=by rw[ht];clear h' key hbr;(first|(simp only[BG, *,bs,go_sem];done)|(simp_all[BG]<;>omega)|grind[BG])
   rw[e]at h'
   have h':=h' _ rfl
   refine Gc.Jg (s':=boxed s (AO s th c.a).2.1.th t) (i:=5) (j:=6) rfl ?_ (λs' e=>by injection e with e;subst e;exact h') (by decide) (by simp[AH.plain,Ah]) rfl (by simp[boxed]) ⟨rfl,rfl,rfl⟩ rfl
   rw[ht]
   simp only[AJ,boxed,<-DQ];rfl
  all_goals exact Gc.Cd (hv _) (key _ (by clear hbr;(first|(simp only[BG, *,bs,go_sem];done)|(simp_all[BG]<;>omega)|grind[BG])))
theorem Rb:J5 94 (λs c=>c.op=11\/c.op=12\/c.op=13) Bg:=by
 intro H K s th c oS oT oA oB fS fT rS rT fA fB rA rB hi hcg hop hS hT hA hB h h'
 have kT:=AL.of hT
 have kS:=AL.of hS
 have kA:=AL.of hA
 have kB:=AL.of hB
 have hl:=II hcg
 have hl1:=hl.1
 clear hl
 obtain⟨op,a,b,x,y,w⟩:=c
 simp only at hA hB h h' hop kA kB hl1
 have key:∀e v n:Int,Bg s th ⟨op,a,b,x,y,w⟩=⟨e,v,n,none⟩->K (.Bj [stA s oS oT fS fT,.agg [nS e,nT v,nS n]]) H:=λe v n he=>by rw[he]at h;exact h rfl
 have hv:=fun(e v n:Int)=>show(AH.Bj [stA s oS oT fS fT,.agg [nS e,nT v,nS n]]).refs (λo=>o<H.length) by simp[AH.refs,Ay];exact⟨Am hS,Am hT⟩
 clear h
 have iS:∀L:AP,oS<(H++L).length:=λL=>by have:=Am hS;rw[Qs];omega
 have iT:∀L:AP,oT<(H++L).length:=λL=>by have:=Am hT;rw[Qs];omega
 have hroom:(AO s th a).2.2=0->_:=λh=>Dt (Cx h)
 have hri:(AO s th a).2.2=0->0<=(AO s th a).2.1.ri/\(AO s th a).2.1.ri<=7:=λh=>by
  have:=CA h;rw[this.2.2.2.1];exact hi.ri (by omega)
 have T4:(AO s th a).2.2=0->_:=λh=>NY (hri h).1 (hri h).2
 have hr2:(AO s th a).2.2=0->_:=λh=>MA (hri h).1 (hri h).2
 have hq2:(AO s th a).2.2=0->IntKind.wrap .i64 ((AO s th a).2.1.ri.tdiv 2)=(AO s th a).2.1.ri.tdiv 2:=λh=>by have:=hri h;rw[Qe (by omega)];exact w64 (by omega) (by omega)
 clear hri
 have hcg1:(AO s th a).2.2=0->Bq (AO s th a).2.1=true:=λh=>by
  have:=CA h;rw[this.2.2.2.1];exact hi.Ib _ (by omega)
 have hlt0:(AO s th a).2.2=0->0<=(AO s th a).1:=λh=>(CA h).1
 have hlt1:(AO s th a).2.2=0->(AO s th a).1<((As s).length:Int):=λh=>by
  have:=CA h;rw[A8];omega
 have hcn1:(AO s th a).2.2=0->E0 (As s) (AO s th a).1=true:=λh=>by
  have q:=CA h
  rw[D7]
  refine⟨by omega,by rw[A8];omega,?_⟩
  have hz:Aq (s.slot (AO s th a).1.toNat).cap=false:=by rw[<-q.2.2.2.1];exact q.2.2.2.2
  rw[EG (by omega)]
  have hu:=hi.up (AO s th a).1.toNat (by omega) hz
  simp only[FE,hz,cond_false]
  omega
 have w2:IntKind.wrap .i64 2=2:=by decide
 rcases hop with rfl|rfl|rfl
 case inr.inr=>
  refine AF.gc ?_
  refine Aa ok94 ?_;repeat' first|simp only[*,BT,AM,AJ,Qk,Bh.cells,go_sem]|refine orR ?_|(refine sp ?_ ?_<;>intro hc)|refine EX hi (kA _) hl1 (kS _) (kT _) ?_|refine CS ?_ (iS _) (iT _)|refine VV (c:=(AO s th a).2.1) (hcg1 ‹_›) ?_|refine Pf hi (kS _) ?_|refine VX A8 hi.ok.Ii (hlt0 ‹_›) (hlt1 ‹_›) (hcn1 ‹_›) (by first|exact BH|exact Bb rfl) ?_
  case' refine_2=>
   have e:Bg s th ⟨13,a,b,x,y,w⟩=⟨0,Hv (AO s th a).2.1,DK (As s) (AO s th a).1,none⟩:=by simp only[Bg,hcg];simp[*]
   exact Gc.Cd (hv _ _ _) (key _ _ _ e)
  exact Gc.Cd (hv _ _ _) (key _ _ _ (by simp only[Bg,hcg,CD.bad];simp[*]))
 all_goals
  have hx:=S2 (by first|exact .inl rfl|exact .inr rfl) hcg
  rcases hx with rfl|rfl|rfl|rfl
 all_goals
  refine AF.gc ?_
  refine Aa ok94 ?_;repeat' first|simp only[*,BT,AM,AJ,Qk,Bh.cells,Qf,go_sem]|refine orR ?_|(refine sp ?_ ?_<;>intro hc)|refine EX hi (kA _) hl1 (kS _) (kT _) ?_|refine CS ?_ (iS _) (iT _)|refine Fi hi (kS _) (kT _) ?_
 all_goals clear hroom
 all_goals try exact Gc.Cd (hv _ _ _) (key _ _ _ (by
  first|rw[RE hcg]|rw[aq hcg]
  simp[*,CD.bad,Lg]))
 all_goals
  clear key
  rw[RE hcg]at h'
  have h':=h' _ (by simp[*];rfl)
  generalize ht:My (s.AG (AO s th a).2.1.th.toNat) _ w=t at h'
  refine Gc.Jg (s':=boxed s (AO s th a).2.1.th t) (r:=some (boxed s (AO s th a).2.1.th t)) (i:=5) (j:=6) rfl (by rw[<-ht];simp only[AJ,boxed,<-DQ,My];rfl) (λs' e=> ?_) (by decide) (by simp[AH.plain,Ah]) rfl (by simp[boxed]) ⟨rfl,rfl,rfl⟩ rfl
  injection e with e
  subst e
  simpa [*,CD.Ap] using h'
end
end Go.Proofs.YtlaipllgmddkiaaGreat.Ax
