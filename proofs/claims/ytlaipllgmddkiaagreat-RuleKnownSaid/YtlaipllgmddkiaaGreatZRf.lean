/- Texts put behind one another: PUnder, PGap, PRef, PUp, PRefE, PDeed, PNewS. Conditions: none. -/
import Derived.Test.YtlaipllgmddkiaaGreatSNewXZ
set_option linter.all false
open Int renaming toNat_natCast -> Qa, toNat_of_nonneg -> Qr
open Bool renaming and_eq_true -> Qb, not_eq_true' -> Qc, or_eq_true -> Qf, and_self -> Qw
open List renaming range -> Qd, getD -> Qe, mem_range -> Qg, getElem?_set_self -> Qh, getElem?_set_ne -> Qj, length_set -> Qk, getElem?_map -> Ql, getElem?_eq_none -> Qo, mem_cons_of_mem -> Qq, getElem?_range -> Qs, mem_map -> Qt, getElem?_set -> Qu, mem_filter -> Qv
open Option.some renaming injEq -> Qi
open Option renaming getD_some -> Qm, map_some -> Qn
open Nat renaming le_refl -> Qp
namespace Go.Ax.M
open Go Go.Ax
theorem Inv.th{s:State}(h:Inv s){i:Nat}(hi:i<s.AE.length)(hn:s.B8 i):0<=(s.slot i).cap.th/\(s.slot i).cap.th<s.AB.length:=by
 have:=(h.E8 i hi hn).1
 rw[DP]at this;omega
theorem aW{up:List Int}(h:Td up){i:Nat}(hi:i<up.length):CH up up.length i=true:=by
 obtain⟨r,hr⟩:=h
 have hc:∀i:Nat,i<up.length->E0 up i=true->E0 up (up.getD i 0)=true->(Qd up.length).countP (λk=>decide (r k<r (up.getD i 0).toNat))<(Qd up.length).countP λk=>decide (r k<r i):=by
  intro i hi h1 h2
  have hlt:=hr i hi h1 h2
  have h2':=h2
  rw[D7]at h2'
  refine Jj (λk _ hk=> ?_) ⟨(up.getD i 0).toNat,Qg.2 (by omega),?_,?_⟩
  ·simp only[decide_eq_true_eq]at hk ⊢;omega
  ·simp only[decide_eq_true_eq];exact hlt
  ·simp
 have key:∀(n:Nat) (i:Nat),i<up.length->(Qd up.length).countP (λk=>decide (r k<r i))<=n->CH up (n+1) i=true:=by
  intro n
  induction n with
  |zero=>
   intro i hi hn
   rw[CH]
   cases h1:E0 up i with
   |false=>rfl
   |true=>
    cases h2:E0 up (up.getD i 0)with
    |false=>simp only[CH,Qa,h2];rfl
    |true=>have:=hc i hi h1 h2;omega
  |succ n ih=>
   intro i hi hn
   rw[CH]
   cases h1:E0 up i with
   |false=>rfl
   |true=>
    cases h2:E0 up (up.getD i 0)with
    |false=>rw[CH];simp only[Qa,h2];rfl
    |true=>
     have h3:=hc i hi h1 h2
     have h2':=h2
     rw[D7]at h2'
     have e:(((up.getD i 0).toNat:Nat):Int)=up.getD i 0:=by omega
     have:=ih (up.getD i 0).toNat (by omega) (by omega)
     rw[e]at this
     simp only[Qa,this,Bool.or_true]
 have hlt:(Qd up.length).countP (λk=>decide (r k<r i))<(Qd up.length).countP λ_=>true:=
  Jj (λ_ _ _=>rfl) ⟨i,Qg.2 hi,rfl,by simp⟩
 simp at hlt
 have:=key (up.length-1) i hi (by omega)
 rwa [show up.length-1+1=up.length by omega]at this
theorem K7{up:List Int}(h:Cm up=true){i:Nat}(hi:i<up.length):up.getD i 0=-2\/up.getD i 0=-1\/E0 up (up.getD i 0)=true:=by
 simp only[Cm,Qb,List.all_eq_true]at h
 have:=h.2.1 (up.getD i 0) (by simp[Qe,hi])
 simp only[ZA,Qf,decide_eq_true_eq]at this
 exact this
theorem Tu{up:List Int}(h:Cm up=true):Td up:=TF (by simp only[Cm,Qb]at h;exact h.2.2)
def Md(up:List Int)(i:Nat)(n:Nat)(k:Int):Prop:=(n=0/\k=i)\/(1<=n/\n<=up.length/\((k<0/\-2<=k)\/E0 up k=true)/\CH up (up.length-n) k=true)
theorem Md.step{up:List Int}(h:Cm up=true){i n:Nat}{k:Int}(hi:i<up.length)(c:Md up i n k)(h0:0<=k):k<up.length/\n<up.length/\Md up i (n+1) (up.getD k.toNat 0):=by
 rcases c with⟨rfl,rfl⟩|⟨h1,h2,h3,h4⟩
 ·refine⟨by omega,by omega,.inr ⟨by omega,by omega,?_,?_⟩⟩
  ·rcases K7 h hi with a|a|a
   ·left;simp only[Qa,a];decide
   ·left;simp only[Qa,a];decide
   ·right;simpa using a
  ·have:=aW (Tu h) hi
   rw[show up.length=(up.length-(0+1))+1 by omega,CH]at this
   simp only[Qa,Qf,Qc]at this ⊢
   rcases this with a|a
   ·have:up.getD i 0=-2:=by
     by_cases e:up.getD i 0=-2
     ·exact e
     ·have:E0 up (i:Int)=true:=D7.2 ⟨by omega,by omega,by simpa using e⟩
      rw[a]at this;cases this
    rw[this]
    cases up.length-(0+1)<;>simp[CH,E0]
   ·exact a
 ·rcases h3 with h3|h3
  ·omega
  have h3':=D7.1 h3
  have hn:n<up.length:=by
   by_cases e:n=up.length
   ·subst e;simp only[Nat.sub_self,CH,h3]at h4;cases h4
   ·omega
  refine⟨by omega,hn,.inr ⟨by omega,by omega,?_,?_⟩⟩
  ·have hk:k.toNat<up.length:=by omega
   rcases K7 h hk with a|a|a
   ·left;rw[a];decide
   ·left;rw[a];decide
   ·exact .inr a
  ·rw[show up.length-n=(up.length-(n+1))+1 by omega,CH,h3]at h4
   simpa using h4
theorem Md.le{up:List Int}{i n:Nat}{k:Int}(c:Md up i n k):n<=up.length:=by
 rcases c with⟨rfl,_⟩|⟨_,h,_⟩<;>omega
theorem Inv.ri{s:State}(h:Inv s){i:Nat}(hi:i<s.AE.length):0<=(s.slot i).cap.ri/\(s.slot i).cap.ri<=7:=by
 have:=h.Ib i hi
 simp only[Bq,Qf,Qb]at this
 rcases this with h|⟨_,_,h,_⟩
 ·simp only[Aq,Qb,decide_eq_true_eq]at h;omega
 ·simp only[C2,BX]at h;exact h
def IT(up:List Int)(i:Nat)(n:Nat)(k:Int):Prop:=(k=-1\/E0 up k=true)/\Md up i (n+1) k/\DK.stepsD up (up.length+1) (up.getD i 0)=n+DK.stepsD up (up.length+1-n) k
theorem IT.first{up:List Int}(h:Cm up=true){i:Nat}(hi:i<up.length)(hx:E0 up i=true):IT up i 0 (up.getD i 0):=by
 have hx':=D7.1 hx
 simp only[Qa]at hx'
 refine⟨?_,?_,by simp⟩
 ·rcases K7 h hi with a|a|a
  ·exact absurd a hx'.2.2
  ·exact .inl a
  ·exact .inr a
 ·have:=(Md.step h hi (.inl ⟨rfl,rfl⟩) (by omega)).2.2
  simpa using this
theorem IT.step{up:List Int}(h:Cm up=true){i:Nat}(hi:i<up.length){n:Nat}{k:Int}(d:IT up i n k)(h0:0<=k):k<up.length/\n+1<up.length+1/\IT up i (n+1) (up.getD k.toNat 0):=by
 obtain⟨d1,d2,d3⟩:=d
 have c:=Md.step h hi d2 h0
 have hk:E0 up k=true:=by
  rcases d1 with a|a; ·omega
  ·exact a
 have hk':=D7.1 hk
 refine⟨c.1,by have:=c.2.1;omega,?_,c.2.2,?_⟩
 ·rcases K7 h (i:=k.toNat) (by omega)with a|a|a
  ·exact absurd a hk'.2.2
  ·exact .inl a
  ·exact .inr a
 ·rw[d3,show up.length+1-n=(up.length+1-(n+1))+1 by have:=c.2.1;omega]
  have hne:¬k=-1:=by omega
  simp only[DK.stepsD,hne,if_false]
  omega
theorem IT.done{up:List Int}(h:Cm up=true){i:Nat}(hi:i<up.length)(hx:E0 up i=true){n:Nat}{k:Int}(d:IT up i n k)(h0:¬0<=k):DK up i=n:=by
 obtain⟨d1,d2,d3⟩:=d
 have hk:k=-1:=by
  rcases d1 with a|a
  ·exact a
  ·have:=D7.1 a;omega
 have hn:=d2.le
 have hm:GU up i=true:=by simp only[GU,h,hx,Qw]
 simp only[DK,hm,cond_true,Qa]
 rw[d3,hk,show up.length+1-n=(up.length-n)+1 by omega]
 simp[DK.stepsD]
theorem bJ{s:State}(h:Inv s){i:Nat}(hi:i<s.AE.length)(hn:s.B8 i):E0 (As s) (i:Int)=true/\(As s).getD i 0=(s.slot i).up:=by
 have hu:=h.up i hi hn
 have hn':Aq (s.slot i).cap=false:=hn
 have e:(As s).getD i 0=(s.slot i).up:=by rw[EG hi];simp only[FE,hn',cond_false]
 refine⟨?_,e⟩
 rw[D7,Qa,e,A8]
 omega
def Uh(s:State)(i j:Nat)(a:Int):Prop:=a<0\/(0<=a/\a<s.AE.length/\s.B8 a.toNat/\Md (As s) i (j+1) a)
theorem Uh.first{s:State}(h:Inv s){i:Nat}(hi:i<s.AE.length):Uh s i 0 (s.slot i).up:=by
 cases hn:Aq (s.slot i).cap with
 |true=>left;have:=h.SX i hi hn;omega
 |false=>
  rcases h.up i hi hn with a|⟨a,b,c⟩
  ·left;omega
  ·right
   have:=(Md.step h.ok.Ii (i:=i) (n:=0) (k:=i) (by rw[A8];exact hi) (.inl ⟨rfl,rfl⟩) (by omega)).2.2
   rw[Qa,(bJ h hi hn).2]at this
   exact⟨a,b,c,this⟩
theorem Uh.step{s:State}(h:Inv s){i j:Nat}(hi:i<s.AE.length){a:Int}(u:Uh s i j a)(h0:0<=a):a<s.AE.length/\j<s.AE.length+1/\Uh s i (j+1) (s.slot a.toNat).up:=by
 rcases u with u|⟨_,b,c,d⟩
 ·omega
 have st:=Md.step h.ok.Ii (by rw[A8];exact hi) d h0
 rw[A8]at st
 refine⟨b,by have:=st.2.1;omega,?_⟩
 have e:=(bJ h (i:=a.toNat) (by omega) c).2
 rcases h.up a.toNat (by omega) c with q|⟨q1,q2,q3⟩
 ·left;omega
 ·right;refine⟨q1,q2,q3,?_⟩
  rw[<-e];exact st.2.2
inductive tZ (s:State) (P:Nat->Prop):Int->Int->Prop
 |stop {a:Int} (h:0<=a->¬P a.toNat):tZ s P a a
 |go {a b:Int} (h0:0<=a) (hp:P a.toNat) (h:tZ s P (s.slot a.toNat).up b):tZ s P a b
theorem tZ.sS{s:State}{P:Nat->Prop}{a b:Int}{i:Nat}(h:tZ s P a b)(hb:b≠(i:Int)):tZ s (λk=>P k\/k=i) a b:=by
 induction h with
 |stop h=>exact .stop λh0 hp=>hp.elim (h h0) λe=>hb (by omega)
 |go h0 hp _ ih=>exact .go h0 (.inl hp) (ih hb)
theorem tZ.add_eq{s:State}{P:Nat->Prop}{a b c:Int}{i:Nat}(h:tZ s P a b)(hb:b=(i:Int))(k:tZ s (λk=>P k\/k=i) (s.slot i).up c):tZ s (λk=>P k\/k=i) a c:=by
 induction h with
 |stop h=>subst hb;exact .go (by omega) (.inr (by simp)) (by simpa using k)
 |go h0 hp _ ih=>exact .go h0 (.inl hp) (ih hb)
theorem tZ.PK{s:State}(hi:Inv s){r:Nat->Nat}(hr:∀i,i<s.AE.length->s.B8 i->0<=(s.slot i).up->r (s.slot i).up.toNat<r i){P:Nat->Prop}{a b:Int}(h:tZ s P a b)
 (h1:a<s.AE.length) (hn:0<=a->s.B8 a.toNat) (hb:0<=b):r b.toNat<=r a.toNat/\0<=a:=by
 induction h with
 |stop h=>exact⟨Qp _,hb⟩
 |@go a b h0 hp _ ih=>
  have hn:=hn h0
  rcases hi.up a.toNat (by omega) hn with e|⟨e1,e2,e3⟩
  ·have:=(ih (by omega) (λh=>by omega) hb).2;omega
  ·have:=(ih e2 (λ_=>e3) hb).1
   have:=hr a.toNat (by omega) hn e1
   exact⟨by omega,h0⟩
structure sR (s u:State) (P L:Nat->Prop):Prop where
 AS:u.AS=s.AS
 lS:u.AE.length=s.AE.length
 lT:u.AB.length=s.AB.length
 sub:∀k,P k->k<s.AE.length/\s.B8 k
 gone:∀k,P k->u.slot k=⟨.zero,-1⟩
 none:∀k,k<s.AE.length->¬s.B8 k->u.slot k=s.slot k
 cap:∀k,k<s.AE.length->¬P k->(u.slot k).cap=(s.slot k).cap
 up:∀k,k<s.AE.length->s.B8 k->¬P k->tZ s P (s.slot k).up (u.slot k).up
 lost:∀t,L t->u.AG t= .zero
 th:∀t,t<s.AB.length->¬L t->(u.AG t=s.AG t/\¬(0<(s.AG t).from_/\P ((s.AG t).from_-1).toNat))\/(u.AG t={s.AG t with from_:=0}/\0<(s.AG t).from_/\P ((s.AG t).from_-1).toNat)
 sY:∀t,L t->t<s.AB.length/\Bc s t=false/\(s.AG t).ty≠0/\(∀k,k<s.AE.length->s.B8 k->(s.slot k).cap.th=t->P k)/\∀i:Nat,i<s.AE.length->Bx (s.AG t) i=true->s.B8 i->P i
def rj(s:State)(C:Nat->Prop):Prop:=∀t,t<s.AB.length->Bc s t=false->(s.AG t).ty≠0->(∀k,k<s.AE.length->s.B8 k->(s.slot k).cap.th=t->C k)->∀i:Nat,i<s.AE.length->Bx (s.AG t) i=true->s.B8 i->C i
def r6(s:State)(l:List Int)(C:Nat->Prop):Prop:=∀x∈l,CC s x=true->C x.toNat
def pw(u:State):Nat:=Ij u u.AE.length
theorem sR.refl(s:State):sR s s (λ_=>False) (λ_=>False):=
 ⟨rfl,rfl,rfl,λ_ h=>h.elim,λ_ h=>h.elim,λ_ _ _=>rfl,λ_ _ _=>rfl,λ_ _ _ _=> .stop λ_ h=>h,λ_ h=>h.elim,λ_ _ _=> .inl ⟨rfl,λh=>h.2⟩,λ_ h=>h.elim⟩
theorem p7{u:State}{k:Nat}:¬u.B8 k↔Aq (u.slot k).cap=true:=by simp[State.B8]
theorem sR.B8{s u:State}{P L:Nat->Prop}(m:sR s u P L){k:Nat}(hk:k<s.AE.length):u.B8 k↔s.B8 k/\¬P k:=by
 constructor
 ·intro h
  have hp:¬P k:=λhp=>by have:=m.gone k hp;simp[State.B8,this,Aq,Bh.zero]at h
  refine⟨?_,hp⟩
  simp only[State.B8]at h ⊢;rw[<-m.cap k hk hp];exact h
 ·rintro⟨h,hp⟩;simp only[State.B8]at h ⊢;rw[m.cap k hk hp];exact h
theorem rV{u v:State}{i:Nat}(hu:Aq (u.slot i).cap=false)(hv:Aq (v.slot i).cap=true)(h:∀k,k≠i->Aq (v.slot k).cap=Aq (u.slot k).cap):∀n,Ij u n=Ij v n+if i<n then 1 else 0
 |0=>rfl
 |n+1=>by
  rw[Ik,Ik,rV hu hv h n]
  by_cases e:n=i
  ·subst e;simp[hu,hv]
  ·rw[h n e]
   by_cases h2:i<n
   ·rw[if_pos h2,if_pos (by omega:i<n+1)];omega
   ·rw[if_neg h2,if_neg (by omega:¬i<n+1)];omega
theorem pJ{u:State}{i:Int}:CC u i=true↔0<=i/\i<u.AE.length/\u.B8 i.toNat:=by
 simp only[CC,Qb,Qc,decide_eq_false_iff_not,Int.not_lt,Int.not_le,State.B8]
theorem sR.empty{s u:State}{P L:Nat->Prop}(hi:Inv s)(m:sR s u P L){i:Nat}(h:CC u (i:Int)=true):sR s (Bf u i) (λk=>P k\/k=i) L/\pw u=pw (Bf u i)+1:=by
 obtain⟨_,h1,h2⟩:=pJ.1 h
 rw[Qa]at h2
 have hiu:i<u.AE.length:=by omega
 have his:i<s.AE.length:=by rw[<-m.lS];exact hiu
 obtain⟨hin,hip⟩:=(m.B8 his).1 h2
 obtain⟨r,hr⟩:=hi.PK
 have sl:∀k,k<s.AE.length->(Bf u (i:Int)).slot k=if k=i then⟨.zero,-1⟩else B6 u (i:Int) (u.slot k):=λk hk=>GH hiu (by rw[m.lS];exact hk)
 have cl:tZ s P (s.slot i).up (u.slot i).up:=m.up i his hin hip
 have hne:(u.slot i).up≠(i:Int):=λe=>by
  rcases hi.up i his hin with q|⟨q1,q2,q3⟩
  ·have:=(cl.PK hi hr (by omega) (λh=>by omega) (by omega)).2;omega
  ·have:=(cl.PK hi hr q2 (λ_=>q3) (by omega)).1
   have:=hr i his hin q1
   rw[e,Qa]at*;omega
 refine⟨⟨m.AS,by simp[Bf,m.lS],by simp[Bf,m.lT],?_,?_,?_,?_,?_,?_,?_,?_⟩,?_⟩
 ·rintro k (h|rfl)
  ·exact m.sub k h
  ·exact⟨his,hin⟩
 ·rintro k (h|rfl)
  ·rw[sl k (m.sub k h).1]
   by_cases e:k=i
   ·rw[if_pos e]
   ·rw[if_neg e,m.gone k h,B6,if_neg (by simp only;omega)]
  ·rw[sl k his,if_pos rfl]
 ·intro k hk hn
  rw[sl k hk,if_neg (λe=>hn (by rw[e];exact hin)),m.none k hk hn]
  have:=hi.SX k hk (p7.1 hn)
  rw[B6,if_neg (by omega)]
 ·intro k hk hp
  rw[sl k hk,if_neg (λe=>hp (.inr e)),<-m.cap k hk λe=>hp (.inl e),B6]
  split<;>rfl
 ·intro k hk hn hp
  rw[sl k hk,if_neg (λe=>hp (.inr e)),B6]
  have c:=m.up k hk hn λe=>hp (.inl e)
  split
  ·rename_i e
   rw[Qa]
   exact c.add_eq e (cl.sS hne)
  ·rename_i e;exact c.sS e
 ·intro t ht
  rw[Gk (by rw[m.lT];exact(m.sY t ht).1),m.lost t ht,CX,if_neg (by simp[AN.zero];omega)]
 ·intro t ht hl
  rw[Gk (by rw[m.lT];exact ht)]
  rcases m.th t ht hl with⟨a,b⟩|⟨a,b,c⟩
  ·rw[a,CX]
   by_cases e:(s.AG t).from_=(i:Int)+1
   ·rw[if_pos e];exact .inr ⟨rfl,by omega,.inr (by omega)⟩
   ·rw[if_neg e];exact .inl ⟨rfl,fun⟨x,y⟩=>y.elim (λy=>b ⟨x,y⟩) λy=>e (by omega)⟩
  ·rw[a,CX,if_neg (by simp only;omega)];exact .inr ⟨rfl,b,.inl c⟩
 ·intro t ht
  obtain⟨a,b,c,d,e⟩:=m.sY t ht
  exact⟨a,b,c,λk x y z=> .inl (d k x y z),λk x y z=> .inl (e k x y z)⟩
 ·have:=rV (u:=u) (v:=Bf u (i:Int)) (i:=i) h2 (by rw[sl i his,if_pos rfl];simp[Aq,Bh.zero]) (λk hk=>by
   by_cases hks:k<s.AE.length
   ·rw[sl k hks,if_neg hk,B6];split<;>rfl
   ·have hl:(Bf u (i:Int)).AE.length=s.AE.length:=by simp[Bf,m.lS]
    simp only[State.slot,Qe];rw[Qo (by omega),Qo (by rw[m.lS];omega)]) u.AE.length
  rw[if_pos hiu]at this
  simp only[pw];rw[this];simp[Bf]
def Way(s:State)(l:List Int)(u:State)(n:Int):Prop:=∃P L,sR s u P L/\r6 s l P/\(∀C,r6 s l C->rj s C->∀k,P k->C k)/\n+pw u=pw s
theorem pZ{s:State}(hi:Inv s):∀(q:List Int) {u:State} {P L:Nat->Prop} (n:Int),sR s u P L->∃P',sR s (AZ u n q).1 P' L/\(∀k,P k->P' k)/\(∀C:Nat->Prop,(∀k,P k->C k)->(∀x∈q,CC s x=true->C x.toNat)->∀k,P' k->C k)/\(AZ u n q).2+pw (AZ u n q).1=n+pw u
 |[],u,P,L,n,m=>⟨P,m,λ_ h=>h,λC h _=>h,rfl⟩
 |x::q,u,P,L,n,m=>by
  have e:AZ u n (x::q)=AZ (BA (u,n) x).1 (BA (u,n) x).2 q:=rfl
  rw[e]
  cases hb:CC u x with
  |false=>
   simp only[BA,hb,cond_false]
   obtain⟨P',a,b,c,d⟩:=pZ hi q n m
   exact⟨P',a,b,λC h1 h2=>c C h1 λy hy=>h2 y (Qq _ hy),d⟩
  |true=>
   simp only[BA,hb,cond_true]
   obtain⟨h0,h1,h2⟩:=pJ.1 hb
   have ex:((x.toNat:Nat):Int)=x:=by omega
   have:=m.empty hi (i:=x.toNat) (by rw[ex];exact hb)
   rw[ex]at this
   obtain⟨m',f⟩:=this
   obtain⟨P',a,b,c,d⟩:=pZ hi q (n+1) m'
   refine⟨P',a,λk hk=>b k (.inl hk),λC h1' h2'=>c C ?_ λy hy=>h2' y (Qq _ hy),by rw[d,f];omega⟩
   rintro k (hk|rfl)
   ·exact h1' k hk
   ·refine h2' x List.mem_cons_self (pJ.2 ⟨h0,by rw[<-m.lS];exact h1,?_⟩)
    exact((m.B8 (by rw[<-m.lS];omega)).1 h2).1
theorem sM{t:AN}{x:Int}(h:x∈Cr t):Bx t x=true:=by
 simp only[Cr]at h
 cases h2:decide (t.ty=2)with
 |false=>rw[h2]at h;simp at h
 |true=>
  rw[h2]at h
  simp only[cond_true,Qt,Qg]at h
  obtain⟨k,hk,rfl⟩:=h
  simp only[Bx,h2,Bool.true_and,Qb,decide_eq_true_eq]
  omega
theorem rc{v:State}{t k:Nat}(ht:t<v.AB.length):({v with AB:=v.AB.set t .zero}:State).AG k=if k=t then .zero else v.AG k:=by
 simp only[State.AG,Qe]
 by_cases e:k=t
 ·subst e;rw[if_pos rfl,Qh ht];rfl
 ·rw[if_neg e,Qj λh=>e h.symm]
theorem Way.lost{s:State}(hi:Inv s){l:List Int}{u:State}{n:Int}(w:Way s l u n){t:Nat}(ht:t<s.AB.length)(hl:DG u t=true):Way s l (FM u t).1 (n+(FM u t).2):=by
 obtain⟨P,L,m,hs,hm,hf⟩:=w
 simp only[DG,Qb,Qc,decide_eq_false_iff_not]at hl
 obtain⟨l1,l2,l3⟩:=hl
 have hL:¬L t:=λh=>l1 (by rw[m.lost t h];rfl)
 have hroot:Bc s t=false:=by simp only[Bc]at l2 ⊢;rw[<-m.AS];exact l2
 have ht3:(u.AG t).ty=(s.AG t).ty/\Cr (u.AG t)=Cr (s.AG t):=by
  rcases m.th t ht hL with⟨a,_⟩|⟨a,_⟩
  ·rw[a];exact⟨rfl,rfl⟩
  ·rw[a];exact⟨rfl,rfl⟩
 have hold:∀k,k<s.AE.length->s.B8 k->(s.slot k).cap.th=t->P k:=λk hk hn he=>by
  by_cases hp:P k
  ·exact hp
  ·have:=(m.B8 hk).2 ⟨hn,hp⟩
   rw[PZ (by rw[m.lS];exact hk) this (by rw[m.cap k hk hp];exact he)]at l3;cases l3
 obtain⟨P',a,b,c,d⟩:=pZ hi (Cr (u.AG t)) 0 m
 have hkn:∀i:Nat,i<s.AE.length->Bx (s.AG t) i=true->s.B8 i->P' i:=λi hi' hh hn=>by
  have h1:=LI (Cr (u.AG t)) (s:=u) (n:=0) (k:=i) (by rw[m.lS];exact hi') (by rw[ht3.2];exact ZU hh)
  by_cases hp:P' i
  ·exact hp
  ·have:=(a.B8 hi').2 ⟨hn,hp⟩
   simp only[State.B8]at this;rw[h1]at this;cases this
 refine⟨P',λk=>L k\/k=t,⟨a.AS,a.lS,by simp only[FM,Qk];exact a.lT,a.sub,a.gone,a.none,a.cap,a.up,?_,?_,?_⟩,λx h1 h2=>b _ (hs x h1 h2),λC h1 h2=>c C (hm C h1 h2) ?_,?_⟩
 ·have hz:∀k,(FM u t).1.AG k=_:=λk=>rc (v:=(AZ u 0 (Cr (u.AG t))).1) (k:=k) (by rw[a.lT];exact ht)
  intro k hk
  rw[hz]
  by_cases e:k=t
  ·rw[if_pos e]
  ·rw[if_neg e];exact a.lost k (hk.resolve_right e)
 ·intro k hk hn
  have e:k≠t:=λe=>hn (.inr e)
  have hz:(FM u t).1.AG k=_:=rc (v:=(AZ u 0 (Cr (u.AG t))).1) (k:=k) (by rw[a.lT];exact ht)
  rw[if_neg e]at hz
  rw[hz]
  exact a.th k hk λh=>hn (.inl h)
 ·rintro k (hk|rfl)
  ·exact a.sY k hk
  ·exact⟨ht,hroot,by rw[<-ht3.1];exact l1,λk x y z=>b k (hold k x y z),hkn⟩
 ·intro x hx hb
  obtain⟨x0,x1,x2⟩:=pJ.1 hb
  rw[ht3.2]at hx
  refine h2 t ht hroot (by rw[<-ht3.1];exact l1) (λk p q r=>hm C h1 h2 k (hold k p q r)) x.toNat (by omega) ?_ x2
  rw[Qr x0];exact sM hx
 ·have e:pw (FM u t).1=pw (AZ u 0 (Cr (u.AG t))).1:=rfl
  rw[e]
  have:(FM u t).2=(AZ u 0 (Cr (u.AG t))).2:=rfl
  rw[this];omega
theorem Way.lT{s:State}{l:List Int}{u:State}{n:Int}(w:Way s l u n):u.AB.length=s.AB.length:=by obtain⟨_,_,m,_⟩:=w;exact m.lT
theorem Way.rounds{s:State}(hi:Inv s){l:List Int}{u:State}{n:Int}(w:Way s l u n):∀k,k<=s.AB.length->Way s l (rounds u n k).1 (rounds u n k).2.1
 |0,_=>w
 |k+1,hk=>by
  have ih:=Way.rounds hi w k (by omega)
  rw[KV]
  simp only[FB]
  cases h:DG (M.rounds u n k).1 k with
  |false=>exact ih
  |true=>exact ih.lost hi (by omega) h
theorem Way.DN{s:State}(hi:Inv s){l:List Int}:∀(k:Nat) {u:State} {n:Int},Way s l u n->Way s l (DN k u n).1 (DN k u n).2
 |0,_,_,w=>w
 |k+1,u,n,w=>by
  have h:=w.rounds hi u.AB.length (by rw[w.lT];exact Qp _)
  rw[M.DN,JK]
  cases (M.rounds u n u.AB.length).2.2 with
  |true=>exact Way.DN hi k h
  |false=>exact h
theorem rG{s:State}(hi:Inv s)(l:List Int):Way s l (DD s l).1 (DD s l).2:=by
 obtain⟨P',a,b,c,d⟩:=pZ hi l 0 (sR.refl s)
 refine Way.DN hi _ ⟨P',_,a,λx h1 h2=> ?_,λC h1 _=>c C (λ_ h=>h.elim) h1,by omega⟩
 obtain⟨x0,x1,x2⟩:=pJ.1 h2
 have h3:=LI l (s:=s) (n:=0) (k:=x.toNat) (by omega) (by rw[Qr x0];exact h1)
 by_cases hp:P' x.toNat
 ·exact hp
 ·have:=(a.B8 (k:=x.toNat) (by omega)).2 ⟨x2,hp⟩
  simp only[State.B8]at this;rw[h3]at this;cases this
def Dp(s:State)(g:List Bool)(t:Nat):Bool:=!(Bc s t||decide ((s.AG t).ty=0)||(BM s t).any λh=>!g.getD h.toNat false)
def pE(s:State)(t i:Nat):Bool:=Bx (s.AG t) i&&!Aq (s.slot i).cap
def pD(s:State)(t:Nat)(g:List Bool)(k:Nat):List Bool:=(Qd k).foldl (λg i=>bif pE s t i then g.set i true else g) g
def pV(s:State)(p:List Bool×List Bool)(t:Nat):List Bool×List Bool:=(bif Dp s p.1 t then pD s t p.1 s.AE.length else p.1,p.2.set t (Dp s p.1 t))
def pA(s:State)(p:List Bool×List Bool)(k:Nat):List Bool×List Bool:=(Qd k).foldl (pV s) p
theorem fold_succ{α:Type}{f:α->Nat->α}{a:α}{k:Nat}:(Qd (k+1)).foldl f a=f ((Qd k).foldl f a) k:=by rw[List.range_succ,List.foldl_append];rfl
theorem pR{α:Type}{l:List α}{i j:Nat}{a d:α}(h:i<l.length):(l.set i a).getD j d=if j=i then a else l.getD j d:=by
 simp only[Qe]
 by_cases e:j=i
 ·subst e;rw[if_pos rfl,Qh h];rfl
 ·rw[if_neg e,Qj λh=>e h.symm]
theorem pQ{s:State}{t:Nat}{g:List Bool}:∀k,(pD s t g k).length=g.length
 |0=>rfl
 |k+1=>by
  rw[pD,fold_succ,<-pD]
  cases pE s t k with
  |false=>exact pQ k
  |true=>rw[cond_true,Qk];exact pQ k
theorem pW{s:State}{t:Nat}{g:List Bool}{j:Nat}:∀k,k<=g.length->(pD s t g k).getD j false=(g.getD j false||(decide (j<k)&&pE s t j))
 |0,_=>by simp[pD]
 |k+1,hk=>by
  have ih:=pW (s:=s) (t:=t) (g:=g) (j:=j) k (by omega)
  have hl:=pQ (s:=s) (t:=t) (g:=g) k
  rw[pD,fold_succ,<-pD]
  by_cases e:j=k
  ·subst e
   cases h:pE s t j with
   |false=>rw[cond_false,ih,h];simp
   |true=>rw[cond_true,pR (by omega),if_pos rfl];simp
  ·have e2:decide (j<k+1)=decide (j<k):=by simp;omega
   rw[e2]
   cases h:pE s t k with
   |false=>rw[cond_false,ih]
   |true=>rw[cond_true,pR (by omega),if_neg e,ih]
structure Mk (s:State) (l:List Int) (g:List Bool):Prop where
 len:g.length=s.AE.length
 B8:∀k,g.getD k false=true->s.B8 k
 tD:r6 s l λk=>g.getD k false=true
 least:∀C,r6 s l C->rj s C->∀k,g.getD k false=true->C k
theorem pd{s:State}{g:List Bool}{t:Nat}:Dp s g t=true↔Bc s t=false/\(s.AG t).ty≠0/\∀k,k<s.AE.length->s.B8 k->(s.slot k).cap.th=t->g.getD k false=true:=by
 simp only[Dp,Qc,Bool.or_eq_false_iff,decide_eq_false_iff_not,List.any_eq_false,Bool.not_eq_false',Bool.not_eq_false,and_assoc]
 refine and_congr_right λ_=>and_congr_right λ_=>⟨λh k hk hn he=> ?_,λh x hx=> ?_⟩
 ·have:=h (k:Int) (by simp only[BM,pick,Qt,Qv,Qg];exact⟨k,⟨hk,by simp[DV,he];exact hn⟩,rfl⟩)
  simpa using this
 ·simp only[BM,pick,Qt,Qv,Qg,DV,Qb,Qc,decide_eq_true_eq]at hx
  obtain⟨k,⟨hk,hn,he⟩,rfl⟩:=hx
  simpa using h k hk hn he
theorem Mk.node{s:State}{l:List Int}{g:List Bool}(m:Mk s l g){t:Nat}(ht:t<s.AB.length)(hl:Dp s g t=true):Mk s l (pD s t g s.AE.length):=by
 have e:=λj=>pW (s:=s) (t:=t) (g:=g) (j:=j) s.AE.length (by rw[m.len];exact Qp _)
 have hb:∀j,pE s t j=true↔Bx (s.AG t) j=true/\s.B8 j:=λj=>by simp[pE,State.B8]
 refine⟨by rw[pQ];exact m.len,λk hk=> ?_,λx hx hb=> ?_,λC h1 h2 k hk=> ?_⟩
 ·rw[e,Qf,Qb]at hk
  rcases hk with hk|⟨_,hk⟩
  ·exact m.B8 k hk
  ·exact((hb k).1 hk).2
 ·show _=true
  rw[e,m.tD x hx hb];rfl
 ·rw[e,Qf,Qb,decide_eq_true_eq]at hk
  rcases hk with hk|⟨hk1,hk⟩
  ·exact m.least C h1 h2 k hk
  ·obtain⟨a,b,c⟩:=pd.1 hl
   exact h2 t ht a b (λj p q r=>m.least C h1 h2 j (c j p q r)) k hk1 ((hb k).1 hk).1 ((hb k).1 hk).2
theorem Mk.step{s:State}{l:List Int}{p:List Bool×List Bool}(m:Mk s l p.1){t:Nat}(ht:t<s.AB.length):Mk s l (pV s p t).1/\(pV s p t).2.length=p.2.length/\∀j,p.1.getD j false=true->(pV s p t).1.getD j false=true:=by
 simp only[pV]
 refine⟨?_,Qk,?_⟩
 ·cases h:Dp s p.1 t with
  |false=>exact m
  |true=>exact m.node ht h
 ·intro j hj
  cases h:Dp s p.1 t with
  |false=>exact hj
  |true=>rw[cond_true,pW _ (by rw[m.len];exact Qp _),hj];rfl
theorem Mk.round{s:State}{l:List Int}{p:List Bool×List Bool}(m:Mk s l p.1):∀k,k<=s.AB.length->Mk s l (pA s p k).1/\(pA s p k).2.length=p.2.length/\∀j,p.1.getD j false=true->(pA s p k).1.getD j false=true
 |0,_=>⟨m,rfl,λ_ h=>h⟩
 |k+1,hk=>by
  obtain⟨a,b,c⟩:=m.round k (by omega)
  rw[pA,fold_succ,<-pA]
  obtain⟨d,e,f⟩:=a.step (t:=k) (by omega)
  exact⟨d,e.trans b,λj h=>f j (c j h)⟩
def pj(n:Int):Prop:=0<=n/\n<2^64
structure rk (s:State):Prop where
 inv:Inv s
 ZY:Es s
 word:∀k,k<s.AB.length->pj (s.AG k).word
theorem rf{s:State}{i k:Nat}{t:AN}(hi:i<s.AB.length):({s with AB:=s.AB.set i t}:State).AG k=if k=i then t else s.AG k:=by
 simp only[State.AG,Qe]
 by_cases e:k=i
 ·subst e;rw[if_pos rfl,Qh hi];rfl
 ·rw[if_neg e,Qj λh=>e h.symm]
theorem tc{s:State}{i:Int}{t:AN}(h:∀k,k<s.AB.length->pj (s.AG k).word)(ht:pj t.word)(k:Nat)(hk:k<(boxed s i t).AB.length):pj ((boxed s i t).AG k).word:=by
 have hl:(boxed s i t).AB.length=s.AB.length:=by simp[boxed]
 rw[hl]at hk
 by_cases hi:i.toNat<s.AB.length
 ·have e:(boxed s i t).AG k=_:=rf (t:=t) hi
  rw[e];split
  ·exact ht
  ·exact h k hk
 ·have e:(boxed s i t).AG k=s.AG k:=by simp only[boxed,State.AG,Qe,Qu];rw[if_neg (by omega)]
  rw[e];exact h k hk
theorem pX:pj 0:=⟨by decide,by decide⟩
theorem sf{a b:Int}:pj (Ud a b):=by
 unfold Ud pj;simp only[IntKind.wrap,IntKind.bits,IntKind.signed];simp;omega
theorem sP{a b c:Int}:(HH a b c).1.word=0:=by
 have h:(Bw a b c).word=0:=by unfold Bw;cases decide (a=1)<;>cases decide (a=2)<;>rfl
 simp only[HH]
 cases decide (a=1)||(decide (a=2)||(decide (a=3)||(decide (a=4)||decide (a=5))))with
 |false=>rfl
 |true=>cases BB (Bw a b c)with
  |false=>rfl
  |true=>exact h
theorem rR{s:State}(hi:Inv s)(h:∀k,k<s.AB.length->pj (s.AG k).word)(l:List Int):∀k,k<(DD s l).1.AB.length->pj ((DD s l).1.AG k).word:=by
 obtain⟨P,L,m,_⟩:=rG hi l
 intro k hk
 rw[m.lT]at hk
 by_cases hl:L k
 ·rw[m.lost k hl];exact pX
 ·rcases m.th k hk hl with⟨a,_⟩|⟨a,_⟩<;>rw[a]<;>exact h k hk
theorem rz{s u:State}{th:Int}{c:Call}(d:rk s)(hw:pj c.w)(h:(DY s th c).st=some u):rk u:=by
 obtain⟨_,t⟩:=fk d.ZY h
 refine⟨t.inv,t.ZY,?_⟩
 clear t
 have inv:=d.inv
 have W:=d.word
 simp only[DY]at h
 cases hg:(BN s&&(AT c&&Bv th 0 (s.AS.AI-1)))with
 |false=>rw[hg]at h;simp[CD.bad]at h
 |true=>
 rw[hg]at h
 simp only[Bool.not_true,cond_false]at h
 by_cases h1:c.op=1
 ·rw[decide_eq_true h1]at h
  simp only[cond_true]at h
  obtain⟨_,_,_,_,_,_,_,f0,_,_,rfl⟩:=JG h
  obtain⟨f1,_⟩:=Lc f0
  intro k hk
  have hl:(Fq s c (AO s th c.a).1 (Ak s th c.b).1 (Df s (AO s th c.a).1+(CE c.x c.y).1) (CU s) (Bs c s).1 (AO s th c.a).2.1).AB.length=s.AB.length:=by simp[Fq]
  rw[hl]at hk
  have w1:∀j,j<s.AB.length->pj ((s.AB.set (CU s).toNat (HH c.x c.y (Bs c s).1).1).getD j .zero).word:=λj hj=>by
   have e:(s.AB.set (CU s).toNat (HH c.x c.y (Bs c s).1).1).getD j .zero=_:=rf (s:=s) (t:=(HH c.x c.y (Bs c s).1).1) f1
   rw[e];split
   ·rw[sP];exact pX
   ·exact W j hj
  simp only[Fq,State.AG]
  by_cases hr:(AO s th c.a).2.1.th.toNat<s.AB.length
  ·rw[pR (by rw[Qk];exact hr)]
   split
   ·exact w1 _ hr
   ·exact w1 k hk
  ·have e:∀(l:List AN) (t:AN),l.length=s.AB.length->(l.set (AO s th c.a).2.1.th.toNat t).getD k .zero=l.getD k .zero:=λl t hl=>by
    simp only[Qe,Qu];rw[if_neg (by omega)]
   rw[e _ _ (by simp)];exact w1 k hk
 rw[decide_eq_false h1]at h
 simp only[cond_false]at h
 cases h2:(decide (c.op=2)||(decide (c.op=3)||decide (c.op=4)))with
 |true=>
  rw[h2]at h
  simp only[cond_true]at h
  obtain⟨_,g2,g3,g4,g5⟩:=El h
  rcases g5 with⟨_,g6,rfl⟩|⟨_,x,g6,rfl,_⟩
  ·intro k hk
   rw[Cn]at hk
   have e:((B9 s (AO s th c.a).1 (Ak s th c.b).1).AG k).word=(s.AG k).word:=by
    simp only[B9,State.AG,Qe,Ql,List.getElem?_eq_getElem hk,Qn,Qm,C3]
    cases decide (s.AB[k].from_=(AO s th c.a).1+1)<;>rfl
   rw[e];exact W k hk
  ·exact W
 |false=>
 rw[h2]at h
 simp only[cond_false]at h
 cases h5:(decide (c.op=5)||decide (c.op=6))with
 |true=>
  rw[h5]at h
  simp only[cond_true]at h
  simp only[takeN]at h
  cases k1:(!AT c||!decide (c.op=5)&&!decide (c.op=6))with
  |true=>rw[k1]at h;simp[CD.bad]at h
  |false=>
  rw[k1]at h
  cases k2:(!decide ((AO s th c.a).2.2=0))with
  |true=>rw[k2]at h;simp[CD.bad]at h
  |false=>
  rw[k2]at h
  cases k3:decide (c.op=6)with
  |true=>rw[k3]at h;simp only[cond_false,cond_true,Qi]at h;subst h;exact rR inv W _
  |false=>rw[k3]at h;simp only[cond_false,Qi]at h;subst h;exact rR inv W _
 |false=>
 rw[h5]at h
 simp only[cond_false]at h
 cases h7:(decide (c.op=7)||decide (c.op=8))with
 |true=>
  rw[h7]at h
  simp only[cond_true]at h
  obtain⟨_,_,_,q⟩:=KI h
  rcases q with⟨_,_,e⟩|⟨_,_,e⟩
  ·rw[e]at h
   obtain⟨_,fr,rfl,_⟩:=Wy h
   exact tc W hw
  ·rw[e]at h
   obtain⟨_,q⟩:=RW h
   rcases q with⟨e,_⟩|⟨_,_,_,e⟩
   ·rw[e]at h
    simp only[GB,Qi]at h;subst h
    exact tc W pX
   ·rw[e]at h
    simp only[GB,Qi]at h;subst h
    exact tc (s:=CW _ _ _ _) W pX
 |false=>
 rw[h7]at h
 simp only[cond_false]at h
 cases h9:(decide (c.op=9)||decide (c.op=10))with
 |true=>
  rw[h9]at h
  simp only[cond_true]at h
  obtain⟨_,g2,g4,g5,g6⟩:=J8 h
  rcases g6 with⟨_,_,_,rfl⟩|⟨_,rfl⟩
  ·exact tc W sf
  ·exact tc W pX
 |false=>
  rw[h9]at h
  simp only[cond_false]at h
  obtain⟨_,_,g2,g5,g6,rfl⟩:=KG h
  have ht:=Cx g2
  refine tc W ?_
  have e:(My (s.AG (AO s th c.a).2.1.th.toNat) c.x c.w).word=(s.AG (AO s th c.a).2.1.th.toNat).word:=by
   simp only[My];cases decide (c.x=0)<;>cases decide (c.x=1)<;>cases decide (c.x=2)<;>rfl
  rw[e]
  simp only[BD,Qb,decide_eq_true_eq]at ht
  exact W _ (by omega)
theorem tC{s u:State}{th l0 l1 l2 l3:Int}(d:rk s)(hw:pj l3)(h:(oC s th l0 l1 l2 l3).st=some u):rk u:=by
 simp only[oC]at h
 cases h1:BN s with
 |false=>rw[h1]at h;simp[CD.bad]at h
 |true=>
  cases h2:fI l0 l1 l2 l3 with
  |false=>rw[h1,h2]at h;simp[CD.bad]at h
  |true=>rw[h1,h2]at h;exact rz d hw h
section
variable {T N M:Nat}{room:Int}
theorem sJ{i:Nat}(h:i<N):(pI ⟨T,N,M⟩ room).slot i=pO T i:=by
 simp only[pI,State.slot,Qe,Ql,Qa,Qs h,Qn,Qm]
theorem ru{i:Nat}(h:i<M):(pI ⟨T,N,M⟩ room).AG i=pF room T i:=by
 simp only[pI,State.AG,Qe,Ql,Qa,Qs h,Qn,Qm]
theorem sI:(pI ⟨T,N,M⟩ room).AE.length=N/\(pI ⟨T,N,M⟩ room).AB.length=M:=by simp[pI]
theorem Gz(T i:Nat):(i=0/\pO T i=⟨⟨1,0,7,0⟩,-1⟩)\/(i%8=1/\i<8* T/\pO T i=Pn (if i=1 then-1 else 1))\/(i≠0/\¬(i%8=1/\i<8* T)/\pO T i=⟨.zero,-1⟩):=by
 by_cases h:i=0
 ·left;exact⟨h,by rw[pO,if_pos h]⟩
 ·by_cases h2:i%8=1/\i<8* T
  ·right;left;exact⟨h2.1,h2.2,by rw[pO,if_neg h,if_pos h2]⟩
  ·right;right;exact⟨h,h2,by rw[pO,if_neg h,if_neg h2]⟩
theorem pG(T i:Nat):(i=0/\pF room T i=⟨1,0,0,room,0,0,0,false,0,0,0,0,0⟩)\/(i=1/\pF room T i=⟨3,0,0,0,0,0,0,false,0,0,0,0,0⟩)\/(2<=i/\i<2+T/\pF room T i=⟨2,3,8*((i:Int)-2),0,0,0,0,false,0,0,0,0,0⟩)\/(2+T<=i/\2<=i/\pF room T i= .zero):=by
 by_cases h:i=0
 ·left;refine⟨h,?_⟩;rw[pF,if_pos h];unfold Bw;rfl
 ·by_cases h1:i=1
  ·right;left;refine⟨h1,?_⟩;rw[pF,if_neg h,if_pos h1];unfold Bw;rfl
  ·by_cases h2:i<2+T
   ·right;right;left;exact⟨by omega,h2,by rw[pF,if_neg h,if_neg h1,if_pos h2]⟩
   ·right;right;right;exact⟨by omega,by omega,by rw[pF,if_neg h,if_neg h1,if_neg h2]⟩
theorem sw:Bq ⟨1,0,7,0⟩=true:=by kernel_rfl
theorem sv:Bq ⟨3,1,7,0⟩=true:=by kernel_rfl
theorem sx:Bq .zero=true:=by kernel_rfl
theorem r8:Aq ⟨1,0,7,0⟩=false:=by kernel_rfl
theorem rl:Aq ⟨3,1,7,0⟩=false:=by kernel_rfl
theorem r9:Aq .zero=true:=by kernel_rfl
theorem sz:Dw ⟨3,1,7,0⟩ ⟨3,1,7,0⟩=true:=by kernel_rfl
theorem tF(hn:pk ⟨T,N,M⟩ room=true):rk (pI ⟨T,N,M⟩ room):=by
 simp only[pk,Qb]at hn
 obtain⟨hg,ht⟩:=hn
 have hb:=Hb hg
 simp only at hb
 have hr:1<=room/\room<=4096:=by
  have e:Bw 1 room 0=⟨1,0,0,room,0,0,0,false,0,0,0,0,0⟩:=by unfold Bw;rfl
  simp only[HH]at ht
  cases h:BB (Bw 1 room 0)with
  |false=>rw[h]at ht;simp at ht
  |true=>rw[e]at h;simp[BB,DI,F4,AN.zero,Bv]at h;omega
 obtain⟨lS,lT⟩:=@sI T N M room
 have sl:=λi (h:i<(pI ⟨T,N,M⟩ room).AE.length)=>sJ (T:=T) (N:=N) (M:=M) (room:=room) (i:=i) (by omega)
 have th:=λi (h:i<(pI ⟨T,N,M⟩ room).AB.length)=>ru (T:=T) (N:=N) (M:=M) (room:=room) (i:=i) (by omega)
 have gS:(pI ⟨T,N,M⟩ room).AS=⟨T,N,M⟩:=rfl
 have hT:1<=T/\T<=4/\8* T<=N/\N<=96/\T+2<=M/\M<=48:=by omega
 generalize pI ⟨T,N,M⟩ room=s at*
 have has2:∀n i:Nat,n<M->Bx (s.AG n) (i:Int)=true->2<=n/\n<2+T/\8*(n-2)<=i/\i<8*(n-2)+8:=λn i hn h=>by
  rw[th n (by omega)]at h
  rcases pG (room:=room) T n with⟨_,e⟩|⟨_,e⟩|⟨h1,h2,e⟩|⟨_,_,e⟩<;>rw[e]at h<;>simp[Bx,AN.zero,p2]at h
  omega
 have ty2:∀i,i<N->(s.slot i).cap.ty≠2:=λi hi h=>by
  rw[sl i (by omega)]at h
  rcases Gz T i with⟨_,e⟩|⟨_,_,e⟩|⟨_,_,e⟩<;>rw[e]at h<;>simp[Pn,Bh.zero]at h
 refine⟨⟨by rw[gS];exact hg,by rw[lS,gS],by rw[lT,gS],?_,?_,?_,?_,?_,?_,?_,?_,?_,?_,?_,?_,?_,?_⟩,?_,?_⟩
 ·intro i hi
  rw[sl i hi]
  rcases Gz T i with⟨_,e⟩|⟨_,_,e⟩|⟨_,_,e⟩<;>rw[e]
  ·exact sw
  ·exact sv
  ·exact sx
 ·intro i hi hn
  rw[sl i hi]at hn ⊢
  rcases Gz T i with⟨_,e⟩|⟨_,_,e⟩|⟨_,_,e⟩
  ·rw[e]
  ·rw[e]at hn;exact absurd (rl.symm.trans hn) (by decide)
  ·rw[e]
 ·intro i hi hn
  simp only[State.B8]at hn
  rw[sl i hi]at hn ⊢
  rcases Gz T i with⟨_,e⟩|⟨_,_,e⟩|⟨_,_,e⟩<;>rw[e]at hn ⊢
  ·have e0:=th 0 (by omega)
   rcases pG (room:=room) T 0 with⟨_,q⟩|⟨h,_⟩|⟨h,_⟩|⟨_,h,_⟩<;>try omega
   rw[q]at e0
   simp[BD,e0,lT];omega
  ·have e0:=th 1 (by omega)
   rcases pG (room:=room) T 1 with⟨h,_⟩|⟨_,q⟩|⟨h,_⟩|⟨_,h,_⟩<;>try omega
   rw[q]at e0
   simp[BD,Pn,e0,lT];omega
  ·exact absurd (r9.symm.trans hn) (by decide)
 ·intro k hk
  rw[th k hk]
  rcases pG (room:=room) T k with⟨_,e⟩|⟨_,e⟩|⟨h1,h2,e⟩|⟨_,_,e⟩<;>rw[e]
  ·simp[BB,DI,F4,AN.zero,Bv];omega
  ·kernel_rfl
  ·simp[BB,DI,F4,AN.zero,Bv,p2];omega
  ·kernel_rfl
 ·intro k hk h
  rw[th k hk]at h
  rcases pG (room:=room) T k with⟨_,e⟩|⟨_,e⟩|⟨h1,h2,e⟩|⟨_,_,e⟩<;>rw[e]at h<;>simp[AN.zero]at h
 ·intro k hk h
  simp only[Bc,gS,Qb,decide_eq_true_eq]at h
  rw[th k hk,gS]
  rcases pG (room:=room) T k with⟨_,_⟩|⟨_,_⟩|⟨h1,h2,e⟩|⟨_,_,_⟩<;>try omega
  rw[e]
  have hi:Bv ((k:Int)-2) 0 ((T:Int)-1)=true:=by simp[Bv];omega
  simp only[EY,LD,hg,hi,Qw,cond_true]
 ·intro k hk h h0
  rw[th k hk]at h0
  rcases pG (room:=room) T k with⟨q,e⟩|⟨q,e⟩|⟨h1,h2,e⟩|⟨_,_,e⟩
  ·refine⟨0,by omega,?_,?_⟩
   ·simp only[State.B8];rw[sl 0 (by omega)]
    rcases Gz T 0 with⟨_,e⟩|⟨h,_⟩|⟨h,_⟩<;>try omega
    rw[e];exact r8
   ·rw[sl 0 (by omega)]
    rcases Gz T 0 with⟨_,e⟩|⟨h,_⟩|⟨h,_⟩<;>try omega
    rw[e,q];rfl
  ·refine⟨1,by omega,?_,?_⟩
   ·simp only[State.B8];rw[sl 1 (by omega)]
    rcases Gz T 1 with⟨h,_⟩|⟨_,_,e⟩|⟨_,h,_⟩<;>try omega
    rw[e];exact rl
   ·rw[sl 1 (by omega)]
    rcases Gz T 1 with⟨h,_⟩|⟨_,_,e⟩|⟨_,h,_⟩<;>try omega
    rw[e,q];rfl
  ·simp only[Bc,gS,Bool.and_eq_false_iff,decide_eq_false_iff_not]at h;omega
  ·rw[e]at h0;exact absurd rfl h0
 ·intro k hk h2
  rw[th k hk]at h2 ⊢
  rcases pG (room:=room) T k with⟨_,e⟩|⟨_,e⟩|⟨h1,h3,e⟩|⟨_,_,e⟩<;>rw[e]at h2 ⊢<;>simp[AN.zero]at h2
  simp[p2];omega
 ·intro n hn m hm i h1 h2
  have a:=has2 n i (by omega) h1
  have b:=has2 m i (by omega) h2
  omega
 ·intro i hi hn
  simp only[State.B8]at hn
  rw[sl i hi]at hn
  have h8:i<8* T:=by
   rcases Gz T i with⟨h,e⟩|⟨_,h,e⟩|⟨_,_,e⟩
   ·omega
   ·exact h
   ·rw[e]at hn;exact absurd (r9.symm.trans hn) (by decide)
  refine⟨2+i/8,by omega,?_⟩
  rw[th _ (by omega)]
  rcases pG (room:=room) T (2+i/8)with⟨_,_⟩|⟨_,_⟩|⟨h1,h3,e⟩|⟨_,_,_⟩<;>try omega
  rw[e];simp[Bx,p2];omega
 ·rintro n hn m ⟨_,i,hi,h2,_⟩
  exact absurd h2 (ty2 i (by omega))
 ·intro i hi hn
  simp only[State.B8]at hn ⊢
  rw[sl i hi]at hn ⊢
  rcases Gz T i with⟨h,e⟩|⟨_,h,e⟩|⟨_,_,e⟩<;>rw[e]at hn ⊢
  ·left;rfl
  ·by_cases h1:i=1
   ·left;simp[Pn,h1]
   ·right
    simp only[Pn,if_neg h1]
    refine⟨by omega,by omega,?_⟩
    rw[show(1:Int).toNat=1 from rfl,sl 1 (by omega)]
    rcases Gz T 1 with⟨h,_⟩|⟨_,_,e⟩|⟨_,h,_⟩<;>try omega
    rw[e];exact rl
  ·left;rfl
 ·refine⟨λi=>if i=1 then 0 else 1,λi hi hn h0=> ?_⟩
  rw[sl i hi]at h0 ⊢
  rcases Gz T i with⟨h,e⟩|⟨_,h,e⟩|⟨_,_,e⟩<;>rw[e]at h0 ⊢
  ·simp at h0
  ·by_cases h1:i=1
   ·simp[Pn,h1]at h0
   ·simp[Pn,h1]
  ·simp at h0
 ·intro i hi hn h0
  left
  rw[sl i hi]at h0 ⊢
  rcases Gz T i with⟨h,e⟩|⟨_,h,e⟩|⟨_,_,e⟩<;>rw[e]at h0 ⊢
  ·simp at h0
  ·by_cases h1:i=1
   ·simp[Pn,h1]at h0
   ·simp only[Pn,if_neg h1]
    rw[show(1:Int).toNat=1 from rfl,sl 1 (by omega)]
    rcases Gz T 1 with⟨h,_⟩|⟨_,_,e⟩|⟨_,h,_⟩<;>try omega
    rw[e];exact sz
  ·simp at h0
 ·intro i j hi hj h1 h2 _
  rw[sl i hi]at h1
  rw[sl j hj]at h2
  have:∀i,(pO T i).cap.ty=1->i=0:=λi h=>by
   rcases Gz T i with⟨h,_⟩|⟨_,_,e⟩|⟨_,_,e⟩
   ·exact h
   ·rw[e]at h;simp[Pn]at h
   ·rw[e]at h;simp[Bh.zero]at h
  rw[this i h1,this j h2]
 ·intro k hk
  rw[th k hk]
  rcases pG (room:=room) T k with⟨_,e⟩|⟨_,e⟩|⟨h1,h3,e⟩|⟨_,_,e⟩<;>rw[e]<;>exact pX
end
end Go.Ax.M
