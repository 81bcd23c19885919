/- Texts put behind one another: PImg, PInv, PGood, PMail, PGive, PMove, PBell, PTag, PFlt, PCarve, PBadge, PTake, PTake3, PBelow, PTakeN, PWords, PTake2, PKeep, PRevoke, PRule, PCompact. Conditions: none. -/
import Derived.Test.YtohgndhnndeijaaGreatMImgZ
import GoSem.Core.Float
import Derived.Laws.FloatArith
import Derived.KernelRfl
import Derived.Test.YtohgndhnndeijaaGreatMTakeZ
import Derived.Test.YtohgndhnndeijaaGreatAxSortZ
set_option linter.all false
open Bool renaming and_eq_true -> Qa, not_true -> Qb, not_eq_true' -> Qc, or_eq_true -> Qh, not_false -> Ql, and_self -> Qw, true_and -> Qx, false_eq_true -> QB, not_eq_false' -> QC, eq_iff_iff -> QW, false_and -> Q0
open List renaming mem_range -> Qd, getD -> Qe, mem_cons_self -> Qg, all_eq_true -> Qi, getElem?_set_ne -> Qj, take_succ_eq_append_getElem -> Qk, range -> Qm, mem_cons_of_mem -> Qn, length_cons -> Qo, length_append -> Qp, getElem?_eq_none -> Qq, mem_map -> Qr, flatMap_cons -> Qt, replicate -> Qv, mem_iff_getElem -> Qy, mem_filter -> QA, length_eq_zero_iff -> QD, mem_flatMap -> QG, getElem?_set_self -> QH, foldl_cons -> QI, length_set -> QJ, countP_le_length -> QK, mem_append_left -> QL, replicate_succ -> QM, getElem?_take -> QO, getElem?_map -> QQ, all_eq_false -> QR, ext_getElem -> QS, getElem_mem -> QT, length_nil -> QV, range_succ -> QZ, mem_cons -> Q1, map_set -> Q2
open Int renaming toNat_natCast -> Qf, eq_ofNat_of_zero_le -> QE
open BitVec renaming ofInt -> Qs
open Option.some renaming injEq -> Qu
open Nat renaming mul_le_mul_right -> Qz, shiftLeft_eq -> QF, lt_of_le_of_lt -> QN, le_trans -> QP, pow_add -> QU, two_pow_pos -> QX, min_eq_left -> QY, le_refl -> Q3
namespace Go.Ax.M
open Go Go.Ax
theorem nA{g:SY}{b:Int}:(uj g b).length=8:=rfl
theorem uv:∀{l:List Slot},(l.flatMap vK).length=2* l.length
 |[]=>rfl
 |x::l=>by have:=uv (l:=l);simp only[Qt,Qp,this,vK,Qo,QV];omega
theorem um:∀{l:List AN},(l.flatMap vE).length=8* l.length
 |[]=>rfl
 |x::l=>by have:=um (l:=l);simp only[Qt,Qp,this,vE,Qo,QV];omega
theorem u4:∀{x y:List Int} {k:Nat} {a b:Int},x.length=y.length->iA k (x++[a]) (y++[b])=iA k x y++bif decide (a=b)then[]else[(((k+x.length:Nat):Int),b)]
 |[],[],k,a,b,_=>by by_cases e:a=b<;>simp[iA,e]
 |c::x,d::y,k,a,b,h=>by
  have:=u4 (x:=x) (y:=y) (k:=k+1) (a:=a) (b:=b) (by simpa using h)
  have hk:k+1+x.length=k+(x.length+1):=by omega
  rw[hk]at this
  by_cases e:c=d<;>simp[iA,e,this]
theorem vS{x y:List Int}{k:Nat}(hx:k<x.length)(hy:k<y.length):iA 0 (x.take (k+1)) (y.take (k+1))=iA 0 (x.take k) (y.take k)++bif decide (x.getD k 0=y.getD k 0)then[]else[((k:Int),y.getD k 0)]:=by
 rw[Qk hx,Qk hy,u4 (by simp;omega)]
 have h1:x.getD k 0=x[k]:=by simp[Qe,hx]
 have h2:y.getD k 0=y[k]:=by simp[Qe,hy]
 rw[h1,h2]
 have:(x.take k).length=k:=by simp;omega
 simp[this]
theorem vP{x y:List Int}:∀{k:Nat},(iA k x y).length<=x.length:=by
 induction x generalizing y with
 |nil=>intro k;cases y<;>simp[iA]
 |cons a x ih=>
  intro k
  cases y with
  |nil=>simp[iA]
  |cons b y=>
   have:=ih (y:=y) (k:=k+1)
   by_cases e:a=b<;>simp[iA,e]<;>omega
def Edge(s:State)(n m:Int):Prop:=0<=n/\∃i:Nat,i<s.AE.length/\(s.slot i).cap.ty=2/\Bx (s.AG n.toNat) i=true/\BD s (s.slot i).cap.th=true/\(s.slot i).cap.th=m
inductive Reach (s:State):Int->Int->Prop
 |refl {n:Int}:Reach s n n
 |step {n m k:Int} (h:Edge s n m) (r:Reach s m k):Reach s n k
theorem Reach.trans{s:State}{n m k:Int}(a:Reach s n m)(b:Reach s m k):Reach s n k:=by
 induction a with
 |refl=>exact b
 |step h _ ih=>exact .step h (ih b)
theorem Reach.one{s:State}{n m:Int}(h:Edge s n m):Reach s n m:= .step h .refl
theorem Reach.mono{s u:State}{n m:Int}(h:∀n m,Edge s n m->Edge u n m)(r:Reach s n m):Reach u n m:=by
 induction r with
 |refl=>exact .refl
 |step e _ ih=>exact .step (h _ _ e) ih
theorem JU{s:State}{f:Int->List Int->List Int}{node:Int}(h0:0<=node)(hf:∀t l x,0<=t->x∈f t l->x∈l\/Reach s t x):
 ∀(L:List Nat) (l:List Int) {x:Int},(∀i∈L,i<s.AE.length)->x∈L.foldl (Bk s f node) l->x∈l\/Reach s node x
 |[],l,x,_,h=> .inl h
 |i::L,l,x,hL,h=>by
  rw[QI]at h
  rcases JU h0 hf L _ (λj hj=>hL j (Qn _ hj)) h with h|h
  ·simp only[Bk]at h
   cases hc:(decide ((s.slot i).cap.ty=2)&&(Bx (s.AG node.toNat) i&&BD s (s.slot i).cap.th))with
   |false=>rw[hc]at h;exact .inl h
   |true=>
    rw[hc]at h
    simp only[cond_true]at h
    simp only[Qa,decide_eq_true_eq]at hc
    have h0':0<=(s.slot i).cap.th:=by have:=hc.2.2;simp[BD]at this;exact this.1
    rcases hf _ _ _ h0' h with h|h
    ·exact .inl h
    ·exact .inr (.step ⟨h0,i,hL i Qg,hc.1,hc.2.1,hc.2.2,rfl⟩ h)
  ·exact .inr h
theorem Ny{s:State}:∀(n:Nat) (node:Int) (l:List Int) {x:Int},0<=node->x∈B7 s n node l->x∈l\/Reach s node x
 |0,_,_,_,_,h=> .inl h
 |n+1,node,l,x,h0,h=>by
  rw[B7]at h
  cases hc:l.contains node with
  |true=>rw[hc]at h;exact .inl h
  |false=>
   rw[hc]at h
   simp only[cond_false]at h
   rcases JU h0 (λt l x h1=>Ny n t l h1) _ _ (λi hi=>Qd.1 hi) h with h|h
   ·rcases List.mem_append.1 h with h|h
    ·exact .inl h
    ·simp at h;subst h;exact .inr .refl
   ·exact .inr h
structure SF (s:State) (l l':List Int):Prop where
 sub:∀x∈l,x∈l'
 shut:∀x∈l',x∉l->∀y,Edge s x y->y∈l'
theorem SF.refl{s:State}{l:List Int}:SF s l l:=⟨λ_ h=>h,λ_ h hn=>absurd h hn⟩
theorem SF.trans{s:State}{l m k:List Int}(a:SF s l m)(b:SF s m k):SF s l k:=
 ⟨λx h=>b.sub x (a.sub x h),λx h hn y e=>by
  by_cases hm:x∈m
  ·exact b.sub y (a.shut x hm hn y e)
  ·exact b.shut x h hm y e⟩
theorem WY{s:State}{l l':List Int}(h:∀x∈l,x∈l'):Jp s l'<=Jp s l:=by
 unfold Jp
 refine List.countP_mono_left λx _ hx=> ?_
 simp at hx ⊢
 exact λh'=>hx (h _ h')
theorem J3{s:State}{f:Int->List Int->List Int}{node:Int}{n:Nat}(hf:∀t l,BD s t=true->Jp s l<n->SF s l (f t l)/\t∈f t l):
 ∀(L:List Nat) (l:List Int),Jp s l<n->SF s l (L.foldl (Bk s f node) l)/\
  ∀i∈L,(s.slot i).cap.ty=2->Bx (s.AG node.toNat) i=true->BD s (s.slot i).cap.th=true->(s.slot i).cap.th∈L.foldl (Bk s f node) l
 |[],l,_=>⟨.refl,λi hi=>by cases hi⟩
 |i::L,l,hl=>by
  rw[QI]
  have h1:SF s l (Bk s f node l i)/\((s.slot i).cap.ty=2->Bx (s.AG node.toNat) i=true->BD s (s.slot i).cap.th=true->(s.slot i).cap.th∈Bk s f node l i):=by
   simp only[Bk]
   cases hc:(decide ((s.slot i).cap.ty=2)&&(Bx (s.AG node.toNat) i&&BD s (s.slot i).cap.th))with
   |false=>
    refine⟨.refl,λa b c=> ?_⟩
    simp[a,b,c]at hc
   |true=>
    simp only[Qa,decide_eq_true_eq]at hc
    have:=hf _ l hc.2.2 hl
    exact⟨this.1,λ_ _ _=>this.2⟩
  have h2:=J3 (node:=node) hf L (Bk s f node l i) (QN (WY h1.1.sub) hl)
  refine⟨h1.1.trans h2.1,λj hj a b c=> ?_⟩
  rcases Q1.1 hj with rfl|hj
  ·exact h2.1.sub _ (h1.2 a b c)
  ·exact h2.2 j hj a b c
theorem O9{s:State}:∀(n:Nat) (node:Int) (l:List Int),BD s node=true->Jp s l<n->SF s l (B7 s n node l)/\node∈B7 s n node l
 |0,_,_,_,h=>absurd h (Nat.not_lt_zero _)
 |n+1,node,l,ht,hl=>by
  rw[B7]
  cases hc:l.contains node with
  |true=>exact⟨.refl,by simpa using hc⟩
  |false=>
   simp only[cond_false]
   have ht':=ht
   simp[BD]at ht'
   have h1:Jp s (l++[node])<Jp s l:=VC (λx h=>QL _ h) ht'.1 ht'.2.1 hc (by simp)
   have h2:=J3 (s:=s) (node:=node) (λt l a b=>O9 n t l a b) (Qm s.AE.length) (l++[node]) (by omega)
   refine⟨⟨λx h=>h2.1.sub x (QL _ h),λx h hn y e=> ?_⟩,h2.1.sub _ (by simp)⟩
   by_cases hx:x=node
   ·subst hx
    obtain⟨-,i,hi,a,b,c,rfl⟩:=e
    exact h2.2 i (Qd.2 hi) a b c
   ·exact h2.1.shut x h (by simp[hn,hx]) y e
theorem within_iff{s:State}{node x:Int}(ht:BD s node=true):x∈B7 s (s.AB.length+1) node []↔Reach s node x:=by
 constructor
 ·intro h
  rcases Ny _ _ _ (by have:=ht;simp[BD]at this;exact this.1) h with h|h
  ·cases h
  ·exact h
 ·intro r
  have h:=O9 (s.AB.length+1) node [] ht (Nat.lt_succ_of_le VB)
  have:∀{a b:Int},Reach s a b->a∈B7 s (s.AB.length+1) node []->b∈B7 s (s.AB.length+1) node []:=by
   intro a b r
   induction r with
   |refl=>exact id
   |step e _ ih=>exact λha=>ih (h.1.shut _ ha (by simp) _ e)
  exact this r h.2
theorem Hi{s:State}{node slot:Int}:Ch s node slot=true↔BD s node=true/\(s.AG node.toNat).ty=2/\Reach s node (A0 s slot):=by
 simp only[Ch,Qa,decide_eq_true_eq,List.contains_eq_mem]
 constructor
 ·rintro⟨a,b,c⟩;exact⟨a,b,(within_iff a).1 c⟩
 ·rintro⟨a,b,c⟩;exact⟨a,b,(within_iff a).2 c⟩
def ZC(s:State)(k:Nat):Prop:=(s.AG k).ty=2->(s.AG k).base+p2 (s.AG k).bits<=s.AE.length
def Mg(s:State)(k j:Nat):Prop:=∀i:Nat,Bx (s.AG k) i=true->Bx (s.AG j) i=true->False
def IU(b:Int)(had:List Bool)(n:Nat):Option (List Bool)->Prop
 |some h=>h.length=had.length/\(n=0\/b+n<=had.length)/\(∀j,j<n->had.getD (b.toNat+j) false=false)/\∀i,h.getD i false=(had.getD i false||(decide (b.toNat<=i)&&decide (i<b.toNat+n)))
 |none=>¬(b+n<=had.length)\/∃j,j<n/\had.getD (b.toNat+j) false=true
theorem NP{h:List Bool}{k i:Nat}(hk:k<h.length):(h.set k true).getD i false=(h.getD i false||decide (i=k)):=by
 simp only[Qe]
 by_cases e:i=k
 ·subst e;simp[hk]
 ·rw[Qj (λh=>e h.symm)];simp[e]
theorem RM{b:Int}(hb:0<=b){had:List Bool}:∀n:Nat,IU b had n (marks b had n)
 |0=>by
  simp[marks,IU]
  intro i h1 h2;omega
 |n+1=>by
  have ih:=RM hb (had:=had) n
  rw[GA]
  cases e:marks b had n with
  |none=>
   rw[e]at ih
   simp only[FN,IU]at ih ⊢
   rcases ih with h|⟨j,h1,h2⟩
   ·left;omega
   ·exact .inr ⟨j,by omega,h2⟩
  |some h=>
   rw[e]at ih
   obtain⟨h1,h2,h3,h4⟩:=ih
   have hn:(b+(n:Int)).toNat=b.toNat+n:=by omega
   simp only[FN,hn]
   by_cases hc:b+(n:Int)<h.length
   ·cases hg:h.getD (b.toNat+n) false with
    |false=>
     simp only[hc,decide_true,Ql,Qw,cond_true,IU]
     have h5:had.getD (b.toNat+n) false=false:=by
      have:=h4 (b.toNat+n)
      rw[hg]at this
      simp at this
      simp[this]
     refine⟨by simp[h1],.inr (by omega),λj hj=> ?_,λi=> ?_⟩
     ·by_cases e:j=n
      ·subst e;exact h5
      ·exact h3 j (by omega)
     ·rw[NP (by omega),h4 i,Bool.or_assoc]
      congr 1
      rw[QW]
      simp
      omega
    |true=>
     simp only[Qb,Bool.and_false,cond_false,IU]
     refine .inr ⟨n,by omega,?_⟩
     have:=h4 (b.toNat+n)
     rw[hg]at this
     simpa using this.symm
   ·simp only[hc,decide_false,Q0,cond_false,IU]
    left;omega
def HX(s:State)(k:Nat):Option (List Bool)->Prop
 |some h=>h.length=s.AE.length/\(∀n,n<k->ZC s n)/\(∀n,n<k->∀m,m<n->Mg s n m)/\∀i:Nat,i<s.AE.length->(h.getD i false=true↔∃n,n<k/\Bx (s.AG n) i=true)
 |none=>¬((∀n,n<k->ZC s n)/\(∀n,n<k->∀m,m<n->Mg s n m))
theorem DZ{t:AN}{i:Int}:Bx t i=true↔t.ty=2/\t.base<=i/\i<t.base+p2 t.bits:=by simp[Bx]
theorem RQ{s:State}(ok:DT s):∀k:Nat,k<=s.AB.length->HX s k (Cs s k)
 |0,_=>by
  simp only[Cs,List.range_zero,List.foldl_nil,HX]
  refine⟨by simp,by simp,by simp,λi hi=> ?_⟩
  simp[Qe,hi]
 |k+1,hk=>by
  have ih:=RQ ok k (by omega)
  rw[EL]
  cases e:Cs s k with
  |none=>
   rw[e]at ih
   have:C8 s none k=none:=by simp only[C8];rw[IK];cases decide ((s.AG k).ty=2)<;>rfl
   rw[this]
   simp only[HX]at ih ⊢
   exact fun⟨a,b⟩=>ih ⟨λn hn=>a n (by omega),λn hn=>b n (by omega)⟩
  |some h=>
   rw[e]at ih
   obtain⟨h1,h2,h3,h4⟩:=ih
   simp only[C8]
   by_cases ht:(s.AG k).ty=2
   ·have hg:=CO (ok k hk) ht
    have hp:=C4 hg.1
    simp only[ht,decide_true,cond_true]
    have hm:=RM hg.2.1 (had:=h) (p2 (s.AG k).bits).toNat
    have hpc:(((p2 (s.AG k).bits).toNat:Nat):Int)=p2 (s.AG k).bits:=by omega
    change HX s (k+1) (marks (s.AG k).base h (p2 (s.AG k).bits).toNat)
    cases em:marks (s.AG k).base h (p2 (s.AG k).bits).toNat with
    |none=>
     rw[em]at hm
     simp only[IU,HX]at hm ⊢
     rintro⟨a,b⟩
     rcases hm with hm|⟨j,hj,hm⟩
     ·have:=a k (by omega) ht
      omega
     ·have hf:=a k (by omega) ht
      have hlt:(s.AG k).base.toNat+j<s.AE.length:=by omega
      obtain⟨n,hn,hh⟩:=(h4 _ hlt).1 hm
      exact b k (by omega) n hn _ (DZ.2 ⟨ht,by omega,by omega⟩) hh
    |some h'=>
     rw[em]at hm
     obtain⟨m1,m2,m3,m4⟩:=hm
     simp only[HX]
     refine⟨by omega,λn hn=> ?_,λn hn m hm=> ?_,λi hi=> ?_⟩
     ·by_cases e:n=k
      ·subst e;intro _;omega
      ·exact h2 n (by omega)
     ·by_cases e:n=k
      ·subst e
       intro i a b
       rw[DZ]at a
       have hlt:i<s.AE.length:=by omega
       have:=(h4 i hlt).2 ⟨m,hm,b⟩
       have h6:=m3 (i-(s.AG n).base.toNat) (by omega)
       rw[show(s.AG n).base.toNat+(i-(s.AG n).base.toNat)=i by omega,this]at h6
       cases h6
      ·exact h3 n (by omega) m hm
     ·rw[m4 i]
      simp only[Qh,Qa,decide_eq_true_eq,h4 i hi]
      constructor
      ·rintro(⟨n,hn,a⟩|a)
       ·exact⟨n,by omega,a⟩
       ·exact⟨k,by omega,DZ.2 ⟨ht,by omega,by omega⟩⟩
      ·rintro⟨n,hn,a⟩
       by_cases e:n=k
       ·subst e
        rw[DZ]at a
        exact .inr (by omega)
       ·exact .inl ⟨n,by omega,a⟩
   ·simp only[ht,decide_false,cond_false,HX]
    have hno:∀i:Int,Bx (s.AG k) i=false:=λi=>by simp[Bx,ht]
    refine⟨h1,λn hn=> ?_,λn hn m hm=> ?_,λi hi=> ?_⟩
    ·by_cases e:n=k
     ·subst e;exact λh=>absurd h ht
     ·exact h2 n (by omega)
    ·by_cases e:n=k
     ·subst e;intro i a;rw[hno]at a;cases a
     ·exact h3 n (by omega) m hm
    ·rw[h4 i hi]
     constructor
     ·rintro⟨n,hn,a⟩;exact⟨n,by omega,a⟩
     ·rintro⟨n,hn,a⟩
      by_cases e:n=k
      ·subst e;rw[hno]at a;cases a
      ·exact⟨n,by omega,a⟩
theorem Rk{s:State}(ok:DT s):Iz s=true↔(∀n,n<s.AB.length->ZC s n)/\(∀n,n<s.AB.length->∀m,m<n->Mg s n m)/\
 ∀i:Nat,i<s.AE.length->Aq (s.slot i).cap=false->∃n,n<s.AB.length/\Bx (s.AG n) i=true:=by
 have h:=RQ ok s.AB.length (Q3 _)
 simp only[Iz]
 cases e:Cs s s.AB.length with
 |none=>
  rw[e]at h
  simp only[HX]at h
  simp only[QB,false_iff]
  exact fun⟨a,b,_⟩=>h ⟨a,b⟩
 |some l=>
  rw[e]at h
  obtain⟨h1,h2,h3,h4⟩:=h
  simp only[Qi,Qd,Qh]
  constructor
  ·intro h
   refine⟨h2,h3,λi hi hn=> ?_⟩
   rcases h i hi with h|h
   ·exact(h4 i hi).1 h
   ·rw[hn]at h;cases h
  ·rintro⟨_,_,h⟩ i hi
   cases hn:Aq (s.slot i).cap with
   |true=>exact .inr rfl
   |false=>exact .inl ((h4 i hi).2 (h i hi hn))
theorem KB(p:Nat->Bool)(n:Nat):(Gx p n=-1/\∀k,k<n->p k=false)\/∃k,k<n/\p k=true/\(∀j,j<k->p j=false)/\Gx p n=k:=by
 simp only[Gx]
 cases e:(Qm n).find? p with
 |none=>
  rw[List.find?_eq_none]at e
  exact .inl ⟨rfl,λk hk=>by simpa using e k (Qd.2 hk)⟩
 |some k=>
  rw[List.find?_range_eq_some]at e
  exact .inr ⟨k,by simpa using e.2.1,e.1,λj hj=>by simpa using e.2.2 j hj,rfl⟩
theorem Fz{s:State}(ap:∀n,n<s.AB.length->∀m,m<n->Mg s n m){n i:Nat}(hn:n<s.AB.length)(h:Bx (s.AG n) i=true):A0 s i=n:=by
 simp only[A0]
 rcases KB (λk=>Bx (s.AG k) i) s.AB.length with⟨_,h1⟩|⟨k,hk,h1,h2,h3⟩
 ·rw[h1 n hn]at h;cases h
 ·rw[h3]
  by_cases e:k=n
  ·rw[e]
  ·by_cases hlt:k<n
   ·exact absurd (ap n hn k hlt i h h1) id
   ·have:=h2 n (by omega);rw[h]at this;cases this
theorem D7{up:List Int}{i:Int}:E0 up i=true↔0<=i/\i<up.length/\¬up.getD i.toNat 0=-2:=by
 simp only[E0,Qa,decide_eq_true_eq,Qc,decide_eq_false_iff_not]
def steps(up:List Int):Nat->Int->Nat
 |0,_=>0
 |n+1,i=>if E0 up i=true then steps up n (up.getD i.toNat 0)+1 else 0
theorem Ru{up:List Int}:∀{n:Nat} {i:Int},CH up n i=true->steps up (n+1) i=steps up n i
 |0,i,h=>by
  have h:E0 up i=false:=by simpa [CH] using h
  simp[steps,h]
 |n+1,i,h=>by
  by_cases hi:E0 up i=true
  ·have h:CH up n (up.getD i.toNat 0)=true:=by simpa [CH,hi] using h
   have ih:=Ru h
   simp only[steps,if_pos hi]at ih ⊢
   rw[ih]
  ·simp only[steps,if_neg hi]
def Td(up:List Int):Prop:=∃r:Nat->Nat,∀i:Nat,i<up.length->E0 up i=true->E0 up (up.getD i 0)=true->r (up.getD i 0).toNat<r i
theorem TF{up:List Int}(h:(Qm up.length).all (λi=>CH up (up.length+1) i)=true):Td up:=by
 refine⟨λi=>steps up (up.length+1) i,λi hi h1 h2=> ?_⟩
 have he:=Qi.1 h i (Qd.2 hi)
 have h2':=h2
 rw[D7]at h2'
 have e:(((up.getD i 0).toNat:Nat):Int)=up.getD i 0:=by omega
 simp only[e]
 have he2:CH up up.length (up.getD i 0)=true:=by simpa [CH,h1] using he
 rw[Ru he2]
 conv=>rhs;rw[steps]
 rw[if_pos h1]
 simp
theorem uX{up:List Int}(h:Td up):(Qm up.length).all (λi=>CH up (up.length+1) i)=true:=by
 obtain⟨r,hr⟩:=h
 have hc:∀i:Nat,i<up.length->E0 up i=true->E0 up (up.getD i 0)=true->(Qm up.length).countP (λk=>decide (r k<r (up.getD i 0).toNat))<(Qm up.length).countP λk=>decide (r k<r i):=by
  intro i hi h1 h2
  have hlt:=hr i hi h1 h2
  have h2':=h2
  rw[D7]at h2'
  refine Jj (λk _ hk=> ?_) ⟨(up.getD i 0).toNat,Qd.2 (by omega),?_,?_⟩
  ·simp only[decide_eq_true_eq]at hk ⊢;omega
  ·simp only[decide_eq_true_eq];exact hlt
  ·simp
 have key:∀(n:Nat) (i:Nat),i<up.length->(Qm up.length).countP (λk=>decide (r k<r i))<=n->CH up (n+1) i=true:=by
  intro n
  induction n with
  |zero=>
   intro i hi hn
   rw[CH]
   cases h1:E0 up i with
   |false=>rfl
   |true=>
    cases h2:E0 up (up.getD i 0)with
    |false=>simp only[CH,Qf,h2];rfl
    |true=>have:=hc i hi h1 h2;omega
  |succ n ih=>
   intro i hi hn
   rw[CH]
   cases h1:E0 up i with
   |false=>rfl
   |true=>
    cases h2:E0 up (up.getD i 0)with
    |false=>rw[CH];simp only[Qf,h2];rfl
    |true=>
     have h3:=hc i hi h1 h2
     have h2':=h2
     rw[D7]at h2'
     have e:(((up.getD i 0).toNat:Nat):Int)=up.getD i 0:=by omega
     have:=ih (up.getD i 0).toNat (by omega) (by omega)
     rw[e]at this
     simp only[Qf,this,Bool.or_true]
 rw[Qi]
 intro i hi
 have hi:=Qd.1 hi
 exact key _ i hi (QP QK (by simp))
def State.B8(s:State)(i:Nat):Prop:=Aq (s.slot i).cap=false
structure Inv (s:State):Prop where
 AS:Ee s.AS=true
 Mn:(s.AE.length:Int)=s.AS.AE
 ME:(s.AB.length:Int)=s.AS.AB
 Ib:∀i,i<s.AE.length->Bq (s.slot i).cap=true
 SX:∀i,i<s.AE.length->Aq (s.slot i).cap=true->(s.slot i).up=-1
 E8:∀i,i<s.AE.length->s.B8 i->BD s (s.slot i).cap.th=true/\(s.AG (s.slot i).cap.th.toNat).ty=(s.slot i).cap.ty
 BB:∀k,k<s.AB.length->BB (s.AG k)=true
 from_:∀k,k<s.AB.length->0<(s.AG k).from_->(s.AG k).from_<=s.AE.length/\s.B8 ((s.AG k).from_-1).toNat
 root:∀k,k<s.AB.length->Bc s k=true->s.AG k=EY s.AS ((k:Int)-2)
 held:∀k,k<s.AB.length->Bc s k=false->(s.AG k).ty≠0->∃i,i<s.AE.length/\s.B8 i/\(s.slot i).cap.th=k
 fit:∀k,k<s.AB.length->ZC s k
 apart:∀n,n<s.AB.length->∀m,m<n->Mg s n m
 has:∀i,i<s.AE.length->s.B8 i->∃n,n<s.AB.length/\Bx (s.AG n) i=true
 ring:∀n:Nat,n<s.AB.length->∀m,Edge s n m->¬Reach s m n
 up:∀i,i<s.AE.length->s.B8 i->(s.slot i).up=-1\/(0<=(s.slot i).up/\(s.slot i).up<s.AE.length/\s.B8 (s.slot i).up.toNat)
 PK:∃r:Nat->Nat,∀i,i<s.AE.length->s.B8 i->0<=(s.slot i).up->r (s.slot i).up.toNat<r i
 allow:∀i,i<s.AE.length->s.B8 i->0<=(s.slot i).up->Dw (s.slot i).cap (s.slot (s.slot i).up.toNat).cap=true\/((s.slot (s.slot i).up.toNat).cap.ty=1/\(s.slot i).cap.th≠(s.slot (s.slot i).up.toNat).cap.th)
theorem L9{s:State}{p:Slot->Bool}:s.AE.all p=true↔∀i,i<s.AE.length->p (s.slot i)=true:=by
 rw[Qi]
 constructor
 ·exact λh i hi=>h _ (Ld hi)
 ·intro h x hx
  obtain⟨i,hi,rfl⟩:=Qy.1 hx
  have:=h i hi
  simpa [State.slot,Qe,hi] using this
theorem T9{c:Bh}(h:c.ty≠0):Aq c=false:=by simp[Aq,h]
theorem Lw{s:State}{i:Int}(hu:∀i,i<s.AE.length->s.B8 i->-1<=(s.slot i).up):E0 (As s) i=true↔0<=i/\i<s.AE.length/\s.B8 i.toNat:=by
 simp only[E0,Qa,decide_eq_true_eq,Qc,decide_eq_false_iff_not,A8]
 constructor
 ·rintro⟨a,b,c⟩
  refine⟨a,b,?_⟩
  rw[EG (by omega)]at c
  simp only[State.B8]
  cases h:Aq (s.slot i.toNat).cap with
  |false=>rfl
  |true=>simp[FE,h]at c
 ·rintro⟨a,b,c⟩
  refine⟨a,b,?_⟩
  rw[EG (by omega)]
  have:=hu _ (by omega) c
  simp only[State.B8]at c
  simp only[FE,c,cond_false]
  omega
theorem Inv.of{s:State}(h:Ft s):Inv s:=by
 have hc:=L9.1 (show s.AE.all (Ic s)=true by have:=h.Kj;simpa [Lb] using this)
 have ht:=λk hk=>Qi.1 (show(Qm s.AB.length).all (DE s)=true by have:=h.Nn;simpa [F5] using this) k (Qd.2 hk)
 obtain⟨n1,n2,n3⟩:=(Rk h.ok).1 h.nodes
 have hcN:∀i,i<s.AE.length->s.B8 i->-1<=(s.slot i).up/\BD s (s.slot i).cap.th=true/\(s.AG (s.slot i).cap.th.toNat).ty=(s.slot i).cap.ty:=by
  intro i hi hn
  have:=hc i hi
  simp only[State.B8]at hn
  simp[Ic,hn]at this
  exact⟨this.2.1,this.2.2⟩
 have hf:=h.Ii
 simp only[Cm,Qa,decide_eq_true_eq]at hf
 have his:=λi=>Lw (s:=s) (i:=i) λi hi hn=>(hcN i hi hn).1
 have hup:∀i,i<s.AE.length->s.B8 i->(s.slot i).up=-1\/(0<=(s.slot i).up/\(s.slot i).up<s.AE.length/\s.B8 (s.slot i).up.toNat):=by
  intro i hi hn
  have:=Qi.1 hf.2.1 (FE (s.slot i)) (by simp[As];exact⟨_,Ld hi,rfl⟩)
  have hn':=hn
  simp only[State.B8]at hn'
  simp only[FE,hn',cond_false,ZA,Qh,decide_eq_true_eq]at this
  rcases this with h1|h1|h1
  ·have:=(hcN i hi hn).1;omega
  ·exact .inl h1
  ·exact .inr ((his _).1 h1)
 have hal:=L9.1 (show s.AE.all (Dv s)=true by have:=h.allowed;simpa [Hh] using this)
 refine⟨h.AS,h.AE,h.AB,λi hi=> ?_,λi hi hn=> ?_,λi hi hn=>(hcN i hi hn).2,λk hk=>h.ok k hk,λk hk h0=>Lx h hk h0,λk hk hr=> ?_,λk hk hr hty=> ?_,n1,n2,n3,λn hn m e=> ?_,hup,?_,λi hi hn h0=> ?_⟩
 ·have:=hc i hi
  simp only[Ic,Qa]at this
  exact this.1
 ·have:=hc i hi
  simp[Ic,hn]at this
  exact this.2
 ·have:=ht k hk
  simp only[DE,hr,cond_true,Qa,Er]at this
  exact this.2.2
 ·have:=ht k hk
  simp only[DE,hr,cond_false,Qa,Qh,decide_eq_true_eq,hty,false_or,Qc,decide_eq_false_iff_not]at this
  have hne:=this.2.2
  cases hl:BM s k with
  |nil=>rw[hl]at hne;simp at hne
  |cons a l=>
   have ha:a∈BM s k:=by rw[hl];exact Qg
   simp only[BM,pick,Qr,QA,Qd]at ha
   obtain⟨i,⟨hi,hb⟩,_⟩:=ha
   simp only[DV,Qa,Qc,decide_eq_true_eq]at hb
   exact⟨i,hi,hb.1,hb.2⟩
 ·obtain⟨-,i,hi,a,b,c,rfl⟩:=e
  intro r
  have hnr:Hg s i=false:=by
   have h1:(!(Qm s.AE.length).all λi=>!Hg s i)=false:=by have:=h.ring;simpa only[Oy] using this
   simp only[QC]at h1
   have:=Qi.1 h1 i (Qd.2 hi)
   simpa using this
  have hin:Ch s (s.slot i).cap.th i=true:=by
   rw[Hi]
   refine⟨c,?_,?_⟩
   ·rw[(hcN i hi (T9 (by omega))).2.2];exact a
   ·rw[Fz n2 hn b];exact r
  simp[Hg,a,hin]at hnr
 ·obtain⟨r,hr⟩:=TF hf.2.2
  refine⟨r,λi hi hn h0=> ?_⟩
  have hn':=hn
  simp only[State.B8]at hn'
  have hg:(As s).getD i 0=(s.slot i).up:=by rw[EG hi];simp[FE,hn']
  have:=hr i (by rw[A8];exact hi) ((his _).2 ⟨by omega,by omega,by simpa using hn⟩)
  rw[hg]at this
  refine this ((his _).2 ?_)
  rcases hup i hi hn with h1|h1
  ·omega
  ·exact h1
 ·have:=hal i hi
  simp only[Dv,Qh,decide_eq_true_eq,Qa,Qc,decide_eq_false_iff_not]at this
  rcases this with h1|h1|h1
  ·omega
  ·exact .inl h1
  ·exact .inr h1
theorem Inv.ok{s:State}(h:Inv s):Ft s:=by
 have his:=λi=>Lw (s:=s) (i:=i) λi hi hn=>by rcases h.up i hi hn with h1|h1<;>omega
 have hg:=Hb h.AS
 have hS:=h.Mn
 refine⟨h.AS,h.Mn,h.ME,?_,?_,(Rk h.BB).2 ⟨h.fit,h.apart,h.has⟩,?_,?_,?_⟩
 ·simp only[Lb]
  rw[L9]
  intro i hi
  simp only[Ic,h.Ib i hi,Qx]
  cases hn:Aq (s.slot i).cap with
  |true=>simp[h.SX i hi hn]
  |false=>
   have h1:=h.E8 i hi hn
   simp only[cond_false,Bool.false_or,h1.1,h1.2,decide_true,Bool.and_true,decide_eq_true_eq]
   rcases h.up i hi hn with h2|h2<;>omega
 ·simp only[F5]
  rw[Qi]
  intro k hk
  have hk:=Qd.1 hk
  simp only[DE,h.BB k hk,Qx,Qa]
  constructor
  ·simp only[Hs,Qh,Qc,decide_eq_false_iff_not,Qa]
   by_cases h0:0<(s.AG k).from_
   ·have:=h.from_ k hk h0
    exact .inr ⟨by omega,this.2⟩
   ·exact .inl h0
  ·cases hr:Bc s k with
   |true=>simp only[cond_true,Er];exact h.root k hk hr
   |false=>
    simp only[cond_false,Qh,decide_eq_true_eq,Qc,decide_eq_false_iff_not]
    by_cases h0:(s.AG k).ty=0
    ·exact .inl h0
    ·right
     obtain⟨i,hi,a,b⟩:=h.held k hk hr h0
     have:(i:Int)∈BM s k:=by
      simp only[BM,pick,Qr,QA,Qd]
      refine⟨i,⟨hi,?_⟩,rfl⟩
      simp only[State.B8]at a
      simp only[DV,a,b,Ql,decide_true,Qw]
     intro e
     have e:(BM s k).length=0:=by omega
     rw[QD]at e
     rw[e]at this
     cases this
 ·simp only[Oy,QC]
  rw[Qi]
  intro i hi
  have hi:=Qd.1 hi
  cases hb:Hg s i with
  |false=>rfl
  |true=>
   simp only[Hg,Qa,decide_eq_true_eq]at hb
   obtain⟨a,b⟩:=hb
   rw[Hi]at b
   have hn:s.B8 i:=T9 (by omega)
   obtain⟨n,hn1,hn2⟩:=h.has i hi hn
   rw[Fz h.apart hn1 hn2]at b
   exact absurd b.2.2 (h.ring n hn1 _ ⟨by omega,i,hi,a,by simpa using hn2,b.1,rfl⟩)
 ·simp only[Cm,Qa,decide_eq_true_eq]
  refine⟨by rw[A8];omega,?_,uX ?_⟩
  ·rw[Qi]
   intro u hu
   simp only[As,Qr]at hu
   obtain⟨x,hx,rfl⟩:=hu
   obtain⟨i,hi,rfl⟩:=Qy.1 hx
   have e:s.AE[i]=s.slot i:=by simp[State.slot,Qe,hi]
   rw[e]
   cases hn:Aq (s.slot i).cap with
   |true=>simp[FE,hn,ZA]
   |false=>
    simp only[FE,hn,cond_false,ZA,Qh,decide_eq_true_eq]
    rcases h.up i hi hn with h1|h1
    ·exact .inr (.inl h1)
    ·exact .inr (.inr ((his _).2 h1))
  ·obtain⟨r,hr⟩:=h.PK
   refine⟨r,λi hi h1 h2=> ?_⟩
   rw[A8]at hi
   have h1:=(his _).1 h1
   have hn:s.B8 i:=by simpa using h1.2.2
   have hn':=hn
   simp only[State.B8]at hn'
   have hg:(As s).getD i 0=(s.slot i).up:=by rw[EG hi];simp[FE,hn']
   rw[hg]at h2 ⊢
   exact hr i hi hn ((his _).1 h2).1
 ·simp only[Hh]
  rw[L9]
  intro i hi
  simp only[Dv,Qh,decide_eq_true_eq,Qa,Qc,decide_eq_false_iff_not]
  by_cases h0:(s.slot i).up<0
  ·exact .inl h0
  ·right
   refine h.allow i hi ?_ (by omega)
   simp only[State.B8]
   cases hn:Aq (s.slot i).cap with
   |false=>rfl
   |true=>have:=h.SX i hi hn;omega
theorem D8{s:State}:BN s=true↔Inv s:=⟨λh=> .of (F7 h),λh=>h.ok.DR⟩
theorem DP{s:State}{t:Int}:BD s t=true↔0<=t/\t<s.AB.length/\(s.AG t.toNat).ty≠0:=by simp[BD]
theorem C9{s:State}{i:Nat}(h:(s.slot i).cap.ty≠0):s.B8 i:=T9 h
theorem LO{c:Bh}(h:Aq c=true):c= .zero:=by
 obtain⟨a,b,d,e⟩:=c
 simp[Aq]at h
 simp[Bh.zero,h]
theorem ON{s u:State}{o t:Int}(he:∀n m,Edge u n m->Edge s n m\/(n=o/\m=t)){n m:Int}(r:Reach u n m):Reach s n m\/(Reach s n o/\Reach s t m):=by
 induction r with
 |refl=>exact .inl .refl
 |step e _ ih=>
  rcases he _ _ e with e|⟨rfl,rfl⟩
  ·rcases ih with h|⟨h1,h2⟩
   ·exact .inl (.step e h)
   ·exact .inr ⟨.step e h1,h2⟩
  ·rcases ih with h|⟨h1,h2⟩
   ·exact .inr ⟨.refl,h⟩
   ·exact .inr ⟨.refl,h2⟩
theorem Rf{s u:State}{o t:Int}(hr:∀n:Nat,n<s.AB.length->∀m,Edge s n m->¬Reach s m n)(hT:u.AB.length=s.AB.length)
 (he:∀n m,Edge u n m->Edge s n m\/(n=o/\m=t)) (hto:¬Reach s t o):∀n:Nat,n<u.AB.length->∀m,Edge u n m->¬Reach u m n:=by
 intro n hn m e r
 rcases he _ _ e with e|⟨rfl,rfl⟩
 ·rcases ON he r with h|⟨h1,h2⟩
  ·exact hr n (hT▸hn) m e h
  ·exact hto (h2.trans (.step e h1))
 ·rcases ON he r with h|⟨h1,h2⟩
  ·exact hto h
  ·exact hto h2
theorem LY{s u:State}(hr:∀n:Nat,n<s.AB.length->∀m,Edge s n m->¬Reach s m n)(hT:u.AB.length=s.AB.length)
 (he:∀n m,Edge u n m->Edge s n m):∀n:Nat,n<u.AB.length->∀m,Edge u n m->¬Reach u m n:=
 λn hn m e r=>hr n (hT▸hn) m (he _ _ e) (r.mono he)
theorem Inv.put{s u:State}(h:Inv s){fr to:Nat}{c:Bh}(hf:fr<s.AE.length)(ht:to<s.AE.length)(hg:u.AS=s.AS)(hT:u.AB=s.AB)(hS:u.AE.length=s.AE.length)
 (ET:∀k,u.slot k=if k=to then⟨c,(fr:Int)⟩else s.slot k) (hc:Bq c=true) (hn:Aq c=false) (ho:∃n,n<s.AB.length/\Bx (s.AG n) to=true) (J4:s.B8 fr) (Jo:Aq (s.slot to).cap=true)
 (hct:BD s c.th=true/\(s.AG c.th.toNat).ty=c.ty) (ha:Dw c (s.slot fr).cap=true\/((s.slot fr).cap.ty=1/\c.th≠(s.slot fr).cap.th)) (hr:c.ty=2->¬Reach s c.th (A0 s to)):Inv u:=by
 have hne:fr≠to:=by rintro rfl;simp only[State.B8]at J4;rw[J4]at Jo;cases Jo
 have DS:∀k,u.AG k=s.AG k:=λk=>by simp only[State.AG,hT]
 have hto:u.slot to=⟨c,(fr:Int)⟩:=by rw[ET,if_pos rfl]
 have hel:∀k,k≠to->u.slot k=s.slot k:=λk hk=>by rw[ET,if_neg hk]
 have hthere:∀t,BD u t=BD s t:=λt=>by simp only[BD,DS,hT]
 have hnto:∀k,s.B8 k->k≠to:=by rintro k hk rfl;simp only[State.B8]at hk;rw[hk]at Jo;cases Jo
 have hnon:∀k,s.B8 k->u.B8 k:=λk hk=>by simp only[State.B8,hel k (hnto k hk)];exact hk
 have hno:∀k,u.B8 k->k=to\/(k≠to/\s.B8 k):=λk hk=>by
  by_cases e:k=to
  ·exact .inl e
  ·exact .inr ⟨e,by simp only[State.B8,hel k e]at hk;exact hk⟩
 have hT':u.AB.length=s.AB.length:=by rw[hT]
 refine⟨by rw[hg];exact h.AS,by rw[hS,hg];exact h.Mn,by rw[hT,hg];exact h.ME,λi hi=> ?_,λi hi hin=> ?_,λi hi hin=> ?_,λk hk=>by rw[DS];exact h.BB k (hT'▸hk),
  λk hk h0=> ?_,λk hk hrb=>by rw[DS,hg];exact h.root k (hT'▸hk) (by simpa only[Bc,hg] using hrb),λk hk hrb hty=> ?_,λk hk=>by have:=h.fit k (hT'▸hk);simpa only[ZC,DS,hS] using this,
  λn hn m hm=>by have:=h.apart n (hT'▸hn) m hm;simpa only[Mg,DS] using this,λi hi hin=> ?_,?_,λi hi hin=> ?_,?_,λi hi hin h0=> ?_⟩
 ·by_cases e:i=to
  ·subst e;rw[hto];exact hc
  ·rw[hel i e];exact h.Ib i (hS▸hi)
 ·by_cases e:i=to
  ·subst e;rw[hto]at hin;rw[hn]at hin;cases hin
  ·rw[hel i e]at hin ⊢;exact h.SX i (hS▸hi) hin
 ·rw[hthere,DS]
  rcases hno i hin with rfl|⟨e,hin'⟩
  ·rw[hto];exact hct
  ·rw[hel i e];exact h.E8 i (hS▸hi) hin'
 ·rw[DS]at h0 ⊢
  have:=h.from_ k (hT'▸hk) h0
  exact⟨by rw[hS];exact this.1,hnon _ this.2⟩
 ·rw[DS]at hty
  obtain⟨i,hi,a,b⟩:=h.held k (hT'▸hk) (by simpa only[Bc,hg] using hrb) hty
  exact⟨i,hS▸hi,hnon i a,by rw[hel i (hnto i a)];exact b⟩
 ·rcases hno i hin with rfl|⟨e,hin'⟩
  ·obtain⟨n,a,b⟩:=ho;exact⟨n,hT'▸a,by rw[DS];exact b⟩
  ·obtain⟨n,a,b⟩:=h.has i (hS▸hi) hin';exact⟨n,hT'▸a,by rw[DS];exact b⟩
 ·by_cases h2:c.ty=2
  ·refine Rf (o:=A0 s to) (t:=c.th) h.ring hT' (λn m e=> ?_) (hr h2)
   obtain⟨n0,i,hi,a,b,d,rfl⟩:=e
   rw[DS]at b
   by_cases e:i=to
   ·subst e
    right
    obtain⟨k,hk,hk2⟩:=ho
    rw[hto]
    refine⟨?_,rfl⟩
    have:n.toNat<s.AB.length:=by
     by_cases hlt:n.toNat<s.AB.length
     ·exact hlt
     ·have hz:s.AG n.toNat= .zero:=by simp[State.AG,Qe,Qq (by omega:s.AB.length<=n.toNat)]
      rw[hz]at b;simp[Bx,AN.zero]at b
    rw[Fz h.apart this b];omega
   ·rw[hel i e]at a d ⊢
    rw[hthere]at d
    exact .inl ⟨n0,i,hS▸hi,a,b,d,rfl⟩
  ·refine LY h.ring hT' λn m e=> ?_
   obtain⟨n0,i,hi,a,b,d,rfl⟩:=e
   rw[DS]at b
   by_cases e:i=to
   ·subst e;rw[hto]at a;exact absurd a h2
   ·rw[hel i e]at a d ⊢
    rw[hthere]at d
    exact⟨n0,i,hS▸hi,a,b,d,rfl⟩
 ·rcases hno i hin with rfl|⟨e,hin'⟩
  ·rw[hto];exact .inr ⟨by simp,by simp;omega,by simpa using hnon fr J4⟩
  ·rw[hel i e]
   rcases h.up i (hS▸hi) hin' with h1|⟨h1,h2,h3⟩
   ·exact .inl h1
   ·exact .inr ⟨h1,by omega,hnon _ h3⟩
 ·obtain⟨r,hr⟩:=h.PK
  refine⟨λk=>if k=to then r fr+1 else r k,λi hi hin h0=> ?_⟩
  rcases hno i hin with rfl|⟨e,hin'⟩
  ·rw[hto];simp[hne]
  ·rw[hel i e]at h0 ⊢
   have h4:=hr i (hS▸hi) hin' h0
   have h5:(s.slot i).up.toNat≠to:=by
    rcases h.up i (hS▸hi) hin' with h1|⟨h1,h2,h3⟩
    ·omega
    ·exact hnto _ h3
   simp only[if_neg h5,if_neg e];exact h4
 ·rcases hno i hin with rfl|⟨e,hin'⟩
  ·rw[hto];simp only[Qf];rw[hel fr hne];exact ha
  ·rw[hel i e]at h0 ⊢
   have h5:(s.slot i).up.toNat≠to:=by
    rcases h.up i (hS▸hi) hin' with h1|⟨h1,h2,h3⟩
    ·omega
    ·exact hnto _ h3
   rw[hel _ h5];exact h.allow i (hS▸hi) hin' h0
theorem Inv.AG{s u:State}(h:Inv s){b:Nat}{T:AN}(hb:b<s.AB.length)(hg:u.AS=s.AS)(hS:u.AE=s.AE)(hT:u.AB.length=s.AB.length)(DS:∀k,u.AG k=if k=b then T else s.AG k)
 (h2:(s.AG b).ty≠2) (hty:T.ty=(s.AG b).ty) (hgd:M.BB T=true) (hf:0<T.from_->T.from_<=s.AE.length/\s.B8 (T.from_-1).toNat):Inv u:=by
 have ET:∀k,u.slot k=s.slot k:=λk=>by simp only[State.slot,hS]
 have htb:u.AG b=T:=by rw[DS,if_pos rfl]
 have hel:∀k,k≠b->u.AG k=s.AG k:=λk hk=>by rw[DS,if_neg hk]
 have hty':∀k,(u.AG k).ty=(s.AG k).ty:=λk=>by
  by_cases e:k=b
  ·subst e;rw[htb,hty]
  ·rw[hel k e]
 have hthere:∀t,BD u t=BD s t:=λt=>by simp only[BD,hty',hT]
 have hnon:∀k,u.B8 k=s.B8 k:=λk=>by simp only[State.B8,ET]
 have hhas:∀k i,Bx (u.AG k) i=Bx (s.AG k) i:=λk i=>by
  by_cases e:k=b
  ·subst e;simp only[Bx,htb,hty,h2,decide_false,Q0]
  ·rw[hel k e]
 have hnr:Bc s b=false:=by
  cases hr:Bc s b with
  |false=>rfl
  |true=>have:=h.root b hb hr;rw[this]at h2;simp[EY]at h2
 have hS':u.AE.length=s.AE.length:=by rw[hS]
 refine⟨by rw[hg];exact h.AS,by rw[hS,hg];exact h.Mn,by rw[hT,hg];exact h.ME,λi hi=>by rw[ET];exact h.Ib i (hS'▸hi),λi hi hin=>by rw[ET]at hin ⊢;exact h.SX i (hS'▸hi) hin,
  λi hi hin=>by rw[hthere,ET,hty'];exact h.E8 i (hS'▸hi) (by rw[<-hnon];exact hin),λk hk=> ?_,λk hk h0=> ?_,λk hk hrb=> ?_,λk hk hrb hk0=> ?_,λk hk=> ?_,
  λn hn m hm i=>by rw[hhas,hhas];exact h.apart n (hT▸hn) m hm i,λi hi hin=> ?_,?_,λi hi hin=> ?_,?_,λi hi hin h0=> ?_⟩
 ·by_cases e:k=b
  ·subst e;rw[htb];exact hgd
  ·rw[hel k e];exact h.BB k (hT▸hk)
 ·simp only[hnon,hS']
  by_cases e:k=b
  ·subst e;rw[htb]at h0 ⊢;exact hf h0
  ·rw[hel k e]at h0 ⊢;exact h.from_ k (hT▸hk) h0
 ·have hrb':Bc s k=true:=by simpa only[Bc,hg] using hrb
  by_cases e:k=b
  ·subst e;rw[hnr]at hrb';cases hrb'
  ·rw[hel k e,hg];exact h.root k (hT▸hk) hrb'
 ·rw[hty']at hk0
  obtain⟨i,a,b',c⟩:=h.held k (hT▸hk) (by simpa only[Bc,hg] using hrb) hk0
  exact⟨i,hS'▸a,by rw[hnon];exact b',by rw[ET];exact c⟩
 ·intro hk2
  rw[hty']at hk2
  have e:k≠b:=by rintro rfl;exact h2 hk2
  rw[hel k e,hS'];exact h.fit k (hT▸hk) hk2
 ·obtain⟨n,a,b'⟩:=h.has i (hS'▸hi) (by rw[<-hnon];exact hin)
  exact⟨n,hT▸a,by rw[hhas];exact b'⟩
 ·refine LY h.ring hT λn m e=> ?_
  obtain⟨n0,i,hi,a,b',d,rfl⟩:=e
  rw[hhas]at b'
  rw[ET]at a d ⊢
  rw[hthere]at d
  exact⟨n0,i,hS'▸hi,a,b',d,rfl⟩
 ·rw[ET,hS',hnon];exact h.up i (hS'▸hi) (by rw[<-hnon];exact hin)
 ·obtain⟨r,hr⟩:=h.PK
  exact⟨r,λi hi hin h0=>by rw[ET]at h0 ⊢;exact hr i (hS'▸hi) (by rw[<-hnon];exact hin) h0⟩
 ·rw[ET]at h0 ⊢;rw[ET];exact h.allow i (hS'▸hi) (by rw[<-hnon];exact hin) h0
structure Hm (s u:State):Prop where
 AS:u.AS=s.AS
 AE:u.AE=s.AE
 len:u.AB.length=s.AB.length
 AG:∀k,u.AG k=s.AG k\/((u.AG k).ty=(s.AG k).ty/\(s.AG k).ty≠2)
theorem Hm.ty{s u:State}(h:Hm s u)(k:Nat):(u.AG k).ty=(s.AG k).ty:=by
 rcases h.AG k with e|⟨e,f⟩
 ·rw[e]
 ·rw[e]
theorem Hm.slot{s u:State}(h:Hm s u)(k:Nat):u.slot k=s.slot k:=by simp only[State.slot,h.AE]
theorem Hm.node{s u:State}(h:Hm s u){k:Nat}(hk:(s.AG k).ty=2):u.AG k=s.AG k:=by
 rcases h.AG k with e|⟨e,f⟩
 ·exact e
 ·exact absurd hk f
theorem Hm.owner{s u:State}(h:Hm s u)(n:Int):A0 u n=A0 s n:=by
 have:∀k,Bx (u.AG k) n=Bx (s.AG k) n:=λk=>by
  rcases h.AG k with e|⟨e,f⟩
  ·rw[e]
  ·simp[Bx,e,f]
 simp only[A0,h.len,this]
theorem Hm.step{s u:State}(h:Hm s u){k:Nat}(hk:(s.AG k).ty=2)(n:Int):CL (u.AG k) n=CL (s.AG k) n:=by rw[h.node hk]
theorem Hm.through{s u:State}(h:Hm s u)(i:Int):CV u i=CV s i:=by simp only[CV,h.slot]
theorem Hm.walk{s u:State}(h:Hm s u)(ok:Ft s):∀(p:List Int) (i:Int),(∀n∈p,0<=n)->0<=i->i<s.AE.length->DU u p i=DU s p i
 |[],_,_,_,_=>rfl
 |n::r,i,hp,h0,h1=>by
  rw[DU,DU,h.through,h.slot]
  cases hb:CV s i with
  |false=>rfl
  |true=>
   obtain⟨q1,q2⟩:=Gw ok h0 h1 hb
   rw[h.step q2]
   cases hd:decide (CL (s.AG (s.slot i.toNat).cap.th.toNat) n<0)with
   |true=>rfl
   |false=>
    have:=(FW ok q1 q2 (n:=n) (hp n Qg)).resolve_left (by simpa using hd)
    simp only[Ql,Qw,cond_true]
    exact Hm.walk h ok r _ (λm hm=>hp m (Qn _ hm)) this.1 this.2
theorem L5{p:List Int}(h:BJ p=true):∀n∈p,0<=n:=by
 intro n hn
 obtain⟨k,hk,rfl⟩:=Qy.1 hn
 have:=(GN h hk).1
 simpa [Qe,hk] using this
theorem RI{fr ba w:Int}(h1:0<=fr)(h2:fr<=96)(h3:0<=ba)(h4:ba<=65535):BB (Fo fr ba w)=true:=by
 simp[BB,Fo,DI,F4,AN.zero,Bv,h1,h2,h3,h4]
theorem FI{s:State}{th:Int}{p:List Int}(h:(AO s th p).2.2=0):(AO s th p).2.1.th.toNat<s.AB.length/\(s.AG (AO s th p).2.1.th.toNat).ty=(AO s th p).2.1.ty/\Inv s/\Bq (AO s th p).2.1=true:=by
 obtain⟨h0,h1,ok,e,hn⟩:=CA h
 have inv:=Inv.of ok
 have hn':s.B8 (AO s th p).1.toNat:=by simp only[State.B8];rw[<-e];exact hn
 have:=inv.E8 _ (by omega) hn'
 rw[DP]at this
 rw[e]
 exact⟨by omega,this.2,inv,inv.Ib _ (by omega)⟩
theorem NA{c:Bh}(h:Bq c=true):0<=c.ba/\c.ba<=65535:=by
 cases hn:Aq c with
 |true=>rw[LO hn];simp[Bh.zero]
 |false=>simp[Bq,hn,DO,Bv]at h;omega
theorem Rt{s:State}(h:Inv s){k:Nat}(hk:k<s.AB.length)(h2:(s.AG k).ty=2){n:Int}(hn:0<=n)(h0:¬CL (s.AG k) n<0):Bx (s.AG k) (CL (s.AG k) n)=true:=by
 have hb:=CO (h.BB k hk) h2
 simp only[CL]at h0 ⊢
 cases hd:decide (p2 (s.AG k).bits<=n)with
 |true=>simp[hd]at h0
 |false=>
  simp only[cond_false]
  simp at hd
  exact DZ.2 ⟨h2,by omega,by omega⟩
theorem Sr{s:State}(h:Inv s):∀(p:List Int) (i:Int),(∀n∈p,0<=n)->0<=i->i<s.AE.length->(∃k,k<s.AB.length/\Bx (s.AG k) i=true)->(DU s p i).2=0->∃k,k<s.AB.length/\Bx (s.AG k) (DU s p i).1=true
 |[],i,_,_,_,hh,_=>hh
 |n::r,i,hp,h0,h1,hh,he=>by
  rw[DU]at he ⊢
  cases hc:(CV s i&&!decide (CL (s.AG (s.slot i.toNat).cap.th.toNat) n<0))with
  |false=>rw[hc]at he;simp at he
  |true=>
   rw[hc]at he
   simp only[cond_true]at he ⊢
   simp only[Qa,Qc,decide_eq_false_iff_not]at hc
   obtain⟨q1,q2⟩:=Gw h.ok h0 h1 hc.1
   have h3:=(FW h.ok q1 q2 (n:=n) (hp n Qg)).resolve_left hc.2
   exact Sr h r _ (λm hm=>hp m (Qn _ hm)) h3.1 h3.2 ⟨_,q1,Rt h q1 q2 (hp n Qg) hc.2⟩ he
theorem Y9{s:State}{th:Int}{p:List Int}(he:(A7 s th p).2=0):∃k,k<s.AB.length/\Bx (s.AG k) (A7 s th p).1=true:=by
 obtain⟨ok,hi,hp,h0,h1⟩:=C7 he
 have h:=Inv.of ok
 simp only[A7,ok.DR,hi,hp,Qw,cond_true]at he ⊢
 rw[BX]at hi
 have hpn:=L5 hp
 obtain⟨q1,q2⟩:=EZ ok hi.1 hi.2
 cases p with
 |nil=>simp[BJ]at hp
 |cons n r=>
  simp only[Hq]at he ⊢
  cases hd:decide (CL (s.AG (2+th).toNat) n<0)with
  |true=>rw[hd]at he;simp at he
  |false=>
   rw[hd]at he
   simp only[Ql,cond_true]at he ⊢
   simp only[decide_eq_false_iff_not]at hd
   have h3:=(FW ok q1 q2 (n:=n) (hpn n Qg)).resolve_left hd
   exact Sr h r _ (λm hm=>hpn m (Qn _ hm)) h3.1 h3.2 ⟨_,q1,Rt h q1 q2 (hpn n Qg) hd⟩ he
theorem EC{s:State}{th:Int}{p:List Int}(he:(Ak s th p).2=0):Inv s/\0<=(Ak s th p).1/\(Ak s th p).1<s.AE.length/\Aq (s.slot (Ak s th p).1.toNat).cap=true/\(∃k,k<s.AB.length/\Bx (s.AG k) (Ak s th p).1=true)/\A7 s th p=((Ak s th p).1,0):=by
 simp only[Ak]at he ⊢
 cases h1:decide ((A7 s th p).2=0)with
 |false=>rw[h1]at he;simp at he h1;exact absurd he h1
 |true=>
  rw[h1]at he
  simp only[Qb,cond_false]at he ⊢
  simp at h1
  cases h2:Aq (s.slot (A7 s th p).1.toNat).cap with
  |false=>rw[h2]at he;simp at he
  |true=>
   simp only[Qb,cond_false]
   obtain⟨ok,_,_,h3,h4⟩:=C7 h1
   exact⟨.of ok,h3,h4,h2,Y9 h1,Prod.ext rfl h1⟩
theorem Ek{s:State}{th:Int}{p:List Int}(h:(AO s th p).2.2=0):Inv s/\0<=(AO s th p).1/\(AO s th p).1<s.AE.length/\(AO s th p).2.1=(s.slot (AO s th p).1.toNat).cap/\s.B8 (AO s th p).1.toNat/\A7 s th p=((AO s th p).1,0):=by
 obtain⟨h0,h1,ok,e,hn⟩:=CA h
 refine⟨.of ok,h0,h1,e,by simp only[State.B8];rw[<-e];exact hn,?_⟩
 simp only[AO]at h ⊢
 cases h1:decide ((A7 s th p).2=0)with
 |false=>rw[h1]at h;simp at h h1;exact absurd h h1
 |true=>
  rw[h1]at h
  simp only[Qb,cond_false]at h ⊢
  simp at h1
  cases h2:Aq (s.slot (A7 s th p).1.toNat).cap with
  |true=>rw[h2]at h;simp at h
  |false=>exact Prod.ext rfl h1
theorem El{s:State}{th:Int}{c:Call}{y:State}(h:(A5 s th c).st=some y):AT c=true/\(AO s th c.a).2.2=0/\(Ak s th c.b).2=0/\A5 s th c=⟨0,0,0,some y⟩/\
 (
  (c.op=4/\FC s (AO s th c.a).2.1 (Ak s th c.b).1=false/\y=B9 s (AO s th c.a).1 (Ak s th c.b).1)\/
  ((c.op=2\/c.op=3)/\∃x:Bh,Dj s (AO s th c.a).1 (Ak s th c.b).1 x=0/\y=CW s (AO s th c.a).1 (Ak s th c.b).1 x/\x.ri=(ES (AO s th c.a).2.1 c.x).ri/\(c.op=2->x=ES (AO s th c.a).2.1 c.x)/\(c.op=3->CK (ES (AO s th c.a).2.1 c.x) c.y=(x,0)))):=by
 simp only[A5]at h ⊢
 cases h1:(!AT c||(!decide (c.op=2)&&(!decide (c.op=3)&&!decide (c.op=4))))with
 |true=>simp[h1,CD.bad]at h
 |false=>
 simp only[h1,cond_false]at h ⊢
 cases h2:decide ((AO s th c.a).2.2=0)with
 |false=>simp[h2,CD.bad]at h
 |true=>
 simp only[h2,Qb,cond_false]at h ⊢
 cases h3:(decide (c.op=3)&&!decide ((CK (B4 c (AO s th c.a).2.1) c.y).2=0))with
 |true=>simp[h3,CD.bad]at h
 |false=>
 simp only[h3,cond_false]at h ⊢
 cases h4:decide ((Ak s th c.b).2=0)with
 |false=>simp[h4,CD.bad]at h
 |true=>
 simp only[h4,Qb,cond_false]at h ⊢
 simp at h1 h2 h4
 refine⟨h1.1,h2,h4,?_⟩
 by_cases h5:c.op=4
 ·simp only[Bo,B4,h5,decide_true,Qb,cond_false]at h ⊢
  simp only[show decide ((4:Int)=3)=false from rfl,cond_false]at h ⊢
  cases h6:FC s (AO s th c.a).2.1 (Ak s th c.b).1 with
  |true=>simp[h6,CD.bad]at h
  |false=>
   simp only[h6,cond_false,Qu]at h ⊢
   exact⟨by rw[h],.inl ⟨trivial,trivial,h.symm⟩⟩
 ·have h45:decide (c.op=4)=false:=by simpa using h5
  simp only[Bo,B4,h45,Ql,cond_true]at h h3 ⊢
  by_cases h7:c.op=3
  ·simp only[h7,decide_true,Qx,cond_true]at h h3 ⊢
   simp at h3
   cases h8:decide (Dj s (AO s th c.a).1 (Ak s th c.b).1 (CK (ES (AO s th c.a).2.1 c.x) c.y).1=0)with
   |false=>simp[h8,CD.bad]at h
   |true=>
    simp only[h8,cond_true,Qu]at h ⊢
    simp at h8
    refine⟨by rw[h],.inr ⟨.inr trivial,_,h8,h.symm,?_,λh=>by omega,λ_=>Prod.ext rfl h3⟩⟩
    have h3':=h3
    simp only[CK]at h3 ⊢
    cases e1:(!Bq (ES (AO s th c.a).2.1 c.x)||(!DO c.y||decide (c.y=0)))with
    |true=>simp[e1]at h3
    |false=>
    simp only[e1,cond_false]at h3 ⊢
    cases e2:Db (ES (AO s th c.a).2.1 c.x).ty with
    |false=>simp[e2]at h3
    |true=>
    simp only[e2,Qb,cond_false]at h3 ⊢
    cases e3:decide ((ES (AO s th c.a).2.1 c.x).ba≠0)with
    |true=>simp[e3]at h3
    |false=>rfl
  ·have h2':c.op=2:=by omega
   simp only[h2',show decide ((2:Int)=3)=false from rfl,cond_false]at h ⊢
   cases h8:decide (Dj s (AO s th c.a).1 (Ak s th c.b).1 (ES (AO s th c.a).2.1 c.x)=0)with
   |false=>simp[h8,CD.bad]at h
   |true=>
    simp only[h8,cond_true,Qu]at h ⊢
    simp at h8
    exact⟨by rw[h],.inr ⟨.inl trivial,_,h8,h.symm,rfl,λ_=>rfl,λh=>by omega⟩⟩
theorem RP{fr to:Int}{t:AN}:(C3 fr to t).ty=t.ty:=by simp only[C3];cases decide (t.from_=fr+1)<;>rfl
theorem LM{fr to i:Int}{t:AN}:Bx (C3 fr to t) i=Bx t i:=by simp only[C3,Bx];cases decide (t.from_=fr+1)<;>rfl
theorem Ot{fr to:Int}{t:AN}:(C3 fr to t).base=t.base/\(C3 fr to t).bits=t.bits:=by simp only[C3];cases decide (t.from_=fr+1)<;>exact⟨rfl,rfl⟩
theorem T8{fr to:Int}{t:AN}(h:BB t=true)(h0:0<=fr)(h1:0<=to)(h2:to<96):BB (C3 fr to t)=true:=by
 simp only[C3]
 cases hd:decide (t.from_=fr+1)with
 |false=>exact h
 |true=>
  simp only[cond_true]
  simp at hd
  have ho:DI t=t:=by simp[BB]at h;exact Er.1 h.1
  have h3:t.ty=3/\t.full=true:=by
   by_cases a1:t.ty=1
   ·rw[<-ho]at hd;simp[DI,a1,AN.zero]at hd;omega
   by_cases a2:t.ty=2
   ·rw[<-ho]at hd;simp[DI,a2,AN.zero]at hd;omega
   by_cases a3:t.ty=3
   ·refine⟨a3,?_⟩
    cases hf:t.full with
    |true=>rfl
    |false=>rw[<-ho]at hd;simp[DI,a3,hf,AN.zero]at hd;omega
   by_cases a4:t.ty=4
   ·rw[<-ho]at hd;simp[DI,a4,AN.zero]at hd;omega
   by_cases a5:t.ty=5
   ·rw[<-ho]at hd;simp[DI,a5,AN.zero]at hd;omega
   rw[<-ho]at hd;simp[DI,a1,a2,a3,a4,a5,AN.zero]at hd;omega
  have hb:Bv t.BF 0 65535=true:=by simp[BB,h3.1]at h;exact h.2.1
  have e:{t with from_:=to+1}=Fo (to+1) t.BF t.word:=by
   rw[<-ho];simp[DI,h3.1,h3.2,Fo,AN.zero]
  rw[e]
  rw[BX]at hb
  exact RI (by omega) (by omega) hb.1 hb.2
theorem fa{s:State}{k:Nat}(h:s.B8 k):k<s.AE.length:=by
 by_cases hk:k<s.AE.length
 ·exact hk
 ·have hz:s.slot k=Slot.zero:=by simp[State.slot,Qe,Qq (by omega:s.AE.length<=k)]
  simp only[State.B8,hz]at h
  simp[Slot.zero,Aq,Bh.zero]at h
theorem ai{s:State}{k:Nat}{i:Int}(h:Bx (s.AG k) i=true):k<s.AB.length:=by
 by_cases hk:k<s.AB.length
 ·exact hk
 ·have hz:s.AG k= .zero:=by simp[State.AG,Qe,Qq (by omega:s.AB.length<=k)]
  rw[hz]at h;simp[Bx,AN.zero]at h
theorem Inv.S5{s u:State}(h:Inv s){fr to:Nat}(hS:u.AE.length=s.AE.length)(hT:u.AB.length=s.AB.length)
 (hsf:u.slot fr=⟨.zero,-1⟩) (hst:u.slot to=⟨(s.slot fr).cap,(s.slot fr).up⟩) (ET:∀k,k<s.AE.length->k≠fr->k≠to->u.slot k=⟨(s.slot k).cap,if(s.slot k).up=(fr:Int)then(to:Int)else(s.slot k).up⟩)
 (DS:∀k,u.AG k=C3 fr to (s.AG k)) (ho:∃n,n<s.AB.length/\Bx (s.AG n) to=true):∀n m,Edge u n m->Edge s n m\/(n=A0 s to/\m=(s.slot fr).cap.th/\(s.slot fr).cap.ty=2):=by
 intro n m e
 have hty:∀k,(u.AG k).ty=(s.AG k).ty:=λk=>by rw[DS,RP]
 have hthere:∀t,BD u t=BD s t:=λt=>by simp only[BD,hty,hT]
 obtain⟨n0,i,hi,a,b,d,rfl⟩:=e
 rw[DS,LM]at b
 rw[hthere]at d
 rw[hS]at hi
 by_cases e:i=to
 ·subst e
  right
  rw[hst]at a ⊢
  refine⟨?_,rfl,a⟩
  rw[Fz h.apart (ai b) b];omega
 ·by_cases e':i=fr
  ·subst e';rw[hsf]at a;simp[Bh.zero]at a
  ·left
   rw[ET i hi e' e]at a d ⊢
   exact⟨n0,i,hi,a,b,d,rfl⟩
theorem Inv.move{s u:State}(h:Inv s){fr to:Nat}(hf:fr<s.AE.length)(ht:to<s.AE.length)(hg:u.AS=s.AS)(hS:u.AE.length=s.AE.length)(hT:u.AB.length=s.AB.length)
 (hsf:u.slot fr=⟨.zero,-1⟩) (hst:u.slot to=⟨(s.slot fr).cap,(s.slot fr).up⟩) (ET:∀k,k<s.AE.length->k≠fr->k≠to->u.slot k=⟨(s.slot k).cap,if(s.slot k).up=(fr:Int)then(to:Int)else(s.slot k).up⟩)
 (DS:∀k,u.AG k=C3 fr to (s.AG k)) (J4:s.B8 fr) (Jo:Aq (s.slot to).cap=true) (ho:∃n,n<s.AB.length/\Bx (s.AG n) to=true)
 (hr:(s.slot fr).cap.ty=2->¬Reach s (s.slot fr).cap.th (A0 s to)):Inv u:=by
 have hne:fr≠to:=by rintro rfl;simp only[State.B8]at J4;rw[J4]at Jo;cases Jo
 have hty:∀k,(u.AG k).ty=(s.AG k).ty:=λk=>by rw[DS,RP]
 have hthere:∀t,BD u t=BD s t:=λt=>by simp only[BD,hty,hT]
 have hhas:∀k i,Bx (u.AG k) i=Bx (s.AG k) i:=λk i=>by rw[DS,LM]
 have hS96:=h.ok.lS
 have hnt:∀k,s.B8 k->k≠to:=by rintro k hk rfl;simp only[State.B8]at hk;rw[hk]at Jo;cases Jo
 -- where each one went
 obtain⟨φ,hφ⟩:∃φ:Nat->Nat,φ=λk=>if k=fr then to else k:=⟨_,rfl⟩
 have hφn:∀k,k≠fr->φ k=k:=λk hk=>by simp[hφ,hk]
 have hφf:φ fr=to:=by simp[hφ]
 have hupf:(s.slot fr).up≠(fr:Int):=by
  obtain⟨r,hr⟩:=h.PK
  intro e
  have:=hr fr hf J4 (by omega)
  rw[e]at this;simp at this
 have hgo:∀k,s.B8 k->u.slot (φ k)=⟨(s.slot k).cap,if(s.slot k).up=(fr:Int)then(to:Int)else(s.slot k).up⟩:=by
  intro k hk
  by_cases e:k=fr
  ·subst e;rw[hφf,hst,if_neg hupf]
  ·rw[hφn k e];exact ET k (fa hk) e (hnt k hk)
 have hback:∀k,k<s.AE.length->u.B8 k->∃j,j<s.AE.length/\s.B8 j/\φ j=k:=by
  intro k hk hn
  by_cases e:k=to
  ·exact⟨fr,hf,J4,by rw[hφf,e]⟩
  ·by_cases e':k=fr
   ·subst e';simp only[State.B8,hsf]at hn;simp[Aq,Bh.zero]at hn
   ·refine⟨k,hk,?_,hφn k e'⟩
    simp only[State.B8,ET k hk e' e]at hn;exact hn
 have hnon:∀k,s.B8 k->u.B8 (φ k):=λk hk=>by simp only[State.B8,hgo k hk];exact hk
 have hlt:∀k,k<s.AE.length->φ k<s.AE.length:=λk hk=>by
  by_cases e:k=fr
  ·subst e;rw[hφf];exact ht
  ·rw[hφn k e];exact hk
 have hupφ:∀k,k<s.AE.length->s.B8 k->(u.slot (φ k)).up=-1/\(s.slot k).up=-1\/(0<=(s.slot k).up/\(s.slot k).up.toNat<s.AE.length/\s.B8 (s.slot k).up.toNat/\(u.slot (φ k)).up=(φ (s.slot k).up.toNat:Int)):=by
  intro k hk hn
  rw[hgo k hn]
  rcases h.up k hk hn with h1|⟨h1,h2,h3⟩
  ·left;simp only[h1];exact⟨by rw[if_neg (by omega)],trivial⟩
  ·right
   refine⟨h1,by omega,h3,?_⟩
   by_cases e:(s.slot k).up=(fr:Int)
   ·simp only[if_pos e];rw[e,Qf,hφf]
   ·simp only[if_neg e];rw[hφn _ (by omega)];omega
 refine⟨by rw[hg];exact h.AS,by rw[hS,hg];exact h.Mn,by rw[hT,hg];exact h.ME,λi hi=> ?_,λi hi hin=> ?_,λi hi hin=> ?_,λk hk=> ?_,λk hk h0=> ?_,λk hk hrb=> ?_,λk hk hrb hk0=> ?_,λk hk=> ?_,
  λn hn m hm i=>by rw[hhas,hhas];exact h.apart n (hT▸hn) m hm i,λi hi hin=> ?_,?_,λi hi hin=> ?_,?_,λi hi hin h0=> ?_⟩
 ·rw[hS]at hi
  by_cases e:i=to
  ·subst e;rw[hst];exact h.Ib fr hf
  ·by_cases e':i=fr
   ·subst e';rw[hsf];simp[Bq,Aq,Bh.zero]
   ·rw[ET i hi e' e];exact h.Ib i hi
 ·rw[hS]at hi
  by_cases e:i=to
  ·subst e;rw[hst]at hin;simp only[State.B8]at J4;rw[J4]at hin;cases hin
  ·by_cases e':i=fr
   ·subst e';rw[hsf]
   ·rw[ET i hi e' e]at hin ⊢
    have:=h.SX i hi hin
    simp only[this];rw[if_neg (by omega)]
 ·obtain⟨j,hj,hjn,rfl⟩:=hback i (hS▸hi) hin
  rw[hgo j hjn,hthere,hty];exact h.E8 j hj hjn
 ·rw[DS];exact T8 (h.BB k (hT▸hk)) (by omega) (by omega) (by omega)
 ·rw[DS]at h0 ⊢
  simp only[C3]at h0 ⊢
  cases hd:decide ((s.AG k).from_=(fr:Int)+1)with
  |true=>
   simp only[cond_true]
   refine⟨by omega,?_⟩
   rw[show((to:Int)+1-1).toNat=φ fr by rw[hφf];omega]
   exact hnon fr J4
  |false=>
   rw[hd]at h0
   simp only[cond_false]at h0 ⊢
   simp at hd
   have:=h.from_ k (hT▸hk) h0
   refine⟨by omega,?_⟩
   rw[<-hφn ((s.AG k).from_-1).toNat (by omega)]
   exact hnon _ this.2
 ·rw[DS,h.root k (hT▸hk) (by simpa only[Bc,hg] using hrb),hg]
  simp only[C3,EY]
  rw[show decide ((0:Int)=(fr:Int)+1)=false by simp;omega]
  rfl
 ·rw[hty]at hk0
  obtain⟨i,a,b,c⟩:=h.held k (hT▸hk) (by simpa only[Bc,hg] using hrb) hk0
  exact⟨φ i,by rw[hS];exact hlt i a,hnon i b,by rw[hgo i b];exact c⟩
 ·intro hk2
  rw[hty]at hk2
  have:=h.fit k (hT▸hk) hk2
  rw[DS,Ot.1,Ot.2,hS];exact this
 ·obtain⟨j,hj,hjn,rfl⟩:=hback i (hS▸hi) hin
  by_cases e:j=fr
  ·subst e
   obtain⟨n,a,b⟩:=ho
   exact⟨n,hT▸a,by rw[hhas,hφf];exact b⟩
  ·obtain⟨n,a,b⟩:=h.has j hj hjn
   exact⟨n,hT▸a,by rw[hhas,hφn j e];exact b⟩
 ·have hed:=h.S5 hS hT hsf hst ET DS ho
  by_cases h2:(s.slot fr).cap.ty=2
  ·exact Rf (o:=A0 s to) (t:=(s.slot fr).cap.th) h.ring hT (λn m e=>by rcases hed n m e with e|⟨e1,e2,_⟩;exact .inl e;exact .inr ⟨e1,e2⟩) (hr h2)
  ·exact LY h.ring hT λn m e=>by rcases hed n m e with e|⟨_,_,e⟩;exact e;exact absurd e h2
 ·obtain⟨j,hj,hjn,rfl⟩:=hback i (hS▸hi) hin
  rcases hupφ j hj hjn with⟨h1,_⟩|⟨h1,h2,h3,h4⟩
  ·exact .inl h1
  ·right
   rw[h4]
   exact⟨by omega,by rw[hS];have:=hlt _ h2;omega,by simpa using hnon _ h3⟩
 ·obtain⟨r,hr⟩:=h.PK
  refine⟨λk=>if k=to then r fr else r k,λi hi hin h0=> ?_⟩
  obtain⟨j,hj,hjn,rfl⟩:=hback i (hS▸hi) hin
  have key:∀k,s.B8 k->(if φ k=to then r fr else r (φ k))=r k:=by
   intro k hk
   by_cases e:k=fr
   ·subst e;rw[hφf];simp
   ·rw[hφn k e,if_neg (hnt k hk)]
  rcases hupφ j hj hjn with⟨h1,_⟩|⟨h1,h2,h3,h4⟩
  ·omega
  ·rw[h4];simp only[Qf];rw[key _ h3,key _ hjn];exact hr j hj hjn h1
 ·obtain⟨j,hj,hjn,rfl⟩:=hback i (hS▸hi) hin
  rcases hupφ j hj hjn with⟨h1,_⟩|⟨h1,h2,h3,h4⟩
  ·omega
  ·rw[h4];simp only[Qf];rw[hgo j hjn,hgo _ h3];exact h.allow j hj hjn h1
theorem NL{v:Int}:∀(L:List Int) (up:List Int),(L.foldl (λl k=>l.set k.toNat v) up).length=up.length/\
 ∀k,k<up.length->(L.foldl (λl k=>l.set k.toNat v) up).getD k 0=if(L.any λj=>decide (j.toNat=k))=true then v else up.getD k 0
 |[],up=>⟨rfl,λk _=>by simp⟩
 |j::L,up=>by
  have ih:=NL (v:=v) L (up.set j.toNat v)
  rw[QI]
  refine⟨by rw[ih.1,QJ],λk hk=> ?_⟩
  rw[ih.2 k (by rw[QJ];exact hk)]
  simp only[List.any_cons,Qh,decide_eq_true_eq]
  by_cases h1:(L.any λj=>decide (j.toNat=k))=true
  ·rw[if_pos h1,if_pos (.inr h1)]
  ·rw[if_neg h1]
   by_cases h2:j.toNat=k
   ·rw[if_pos (.inl h2)];subst h2;simp[Qe,hk]
   ·rw[if_neg (by rintro(h|h);exact h2 h;exact h1 h)]
    simp only[Qe,Qj h2]
theorem fe{up:List Int}{i:Int}{k:Nat}(hk:k<up.length):((GV up i).any λj=>decide (j.toNat=k))=decide (up.getD k 0=i):=by
 rw[QW]
 simp only[GV,pick,List.any_eq_true,Qr,QA,Qd,decide_eq_true_eq]
 constructor
 ·rintro⟨_,⟨j,⟨_,h1⟩,rfl⟩,h2⟩
  simp at h2;subst h2;exact h1
 ·intro h
  exact⟨k,⟨k,⟨hk,h⟩,rfl⟩,by simp⟩
theorem Y8{up:List Int}{fr to:Nat}(hf:fr<up.length)(ht:to<up.length)(hne:fr≠to)(hup:up.getD fr 0≠(fr:Int)){k:Nat}(hk:k<up.length):
 (MJ up fr to).getD k 0=if k=fr then-2 else if k=to then up.getD fr 0 else if up.getD k 0=(fr:Int)then(to:Int)else up.getD k 0:=by
 obtain⟨l1,l2⟩:=NL (v:=(to:Int)) (GV up fr) up
 have hg:∀k,k<up.length->((GV up fr).foldl (λl k=>l.set k.toNat (to:Int)) up).getD k 0=if up.getD k 0=(fr:Int)then(to:Int)else up.getD k 0:=by
  intro k hk
  rw[l2 k hk,fe hk];simp
 simp only[MJ,Qf]
 by_cases e:k=fr
 ·subst e;simp[Qe,l1,hf]
 ·rw[if_neg e]
  have:∀(l:List Int) (v:Int),(l.set fr v).getD k 0=l.getD k 0:=λl v=>by simp only[Qe,Qj (λh=>e h.symm)]
  rw[this]
  by_cases e':k=to
  ·subst e'
   rw[if_pos rfl]
   have:=hg fr hf
   rw[if_neg hup]at this
   rw[<-this];simp only[Qe];rw[QH (by rw[l1];exact ht)];rfl
  ·rw[if_neg e']
   have:∀(l:List Int) (v:Int),(l.set to v).getD k 0=l.getD k 0:=λl v=>by simp only[Qe,Qj (λh=>e' h.symm)]
   rw[this];exact hg k hk
theorem Cb{s:State}{fr to:Int}:(B9 s fr to).AE.length=s.AE.length:=by simp[B9]
theorem Cn{s:State}{fr to:Int}:(B9 s fr to).AB.length=s.AB.length:=by simp[B9]
theorem Fg{s:State}{fr to:Int}(hf:0<=fr)(k:Nat):(B9 s fr to).AG k=C3 fr to (s.AG k):=by
 simp only[B9,State.AG,Qe,QQ]
 cases h:s.AB[k]? with
 |some t=>rfl
 |none=>
  simp only[Option.map_none,Option.getD_none,C3,AN.zero]
  rw[show decide ((0:Int)=fr+1)=false by simp;omega];rfl
structure GF (s:State) (fr to:Nat):Prop where
 inv:Inv s
 hf:fr<s.AE.length
 ht:to<s.AE.length
 J4:s.B8 fr
 Jo:Aq (s.slot to).cap=true
 ho:∃n,n<s.AB.length/\Bx (s.AG n) to=true
 hr:(s.slot fr).cap.ty=2->¬Reach s (s.slot fr).cap.th (A0 s to)
theorem GF.ne{s:State}{fr to:Nat}(m:GF s fr to):fr≠to:=by
 rintro rfl;have h:=m.J4;simp only[State.B8]at h;rw[m.Jo]at h;cases h
theorem GF.oM{s:State}{fr to:Nat}(m:GF s fr to):(s.slot fr).up≠(fr:Int):=by
 obtain⟨r,hr⟩:=m.inv.PK
 intro e
 have:=hr fr m.hf m.J4 (by omega)
 rw[e]at this;simp at this
theorem GF.slot{s:State}{fr to:Nat}(m:GF s fr to){k:Nat}(hk:k<s.AE.length):(B9 s fr to).slot k=
 if k=fr then⟨.zero,-1⟩else if k=to then⟨(s.slot fr).cap,(s.slot fr).up⟩else⟨(s.slot k).cap,if(s.slot k).up=(fr:Int)then(to:Int)else(s.slot k).up⟩:=by
 have e:(B9 s fr to).slot k=EK s fr to k:=by simp[B9,State.slot,Qe,hk]
 have hfl:(As s).length=s.AE.length:=A8
 have J4:=m.J4
 simp only[State.B8]at J4
 have hup:(As s).getD fr 0=(s.slot fr).up:=by rw[EG m.hf];simp[FE,J4]
 have hge:∀i,i<s.AE.length->s.B8 i->-1<=(s.slot i).up:=λi hi hn=>by rcases m.inv.up i hi hn with h|h<;>omega
 rw[e]
 simp only[EK,Qf]
 rw[Y8 (by rw[hfl];exact m.hf) (by rw[hfl];exact m.ht) m.ne (by rw[hup];exact m.oM) (by rw[hfl];exact hk)]
 by_cases e1:k=fr
 ·subst e1;simp;omega
 ·have e1':¬((k:Int)=(fr:Int)):=by omega
  simp only[if_neg e1,if_neg e1']
  by_cases e2:k=to
  ·subst e2
   simp only[if_true,hup]
   rw[Int.max_eq_left (hge fr m.hf m.J4)]
  ·have e2':¬((k:Int)=(to:Int)):=by omega
   simp only[if_neg e2,if_neg e2']
   rw[EG hk]
   cases hn:Aq (s.slot k).cap with
   |true=>
    have:=m.inv.SX k hk hn
    simp only[FE,hn,cond_true,this]
    rw[if_neg (by omega),if_neg (by omega)];rfl
   |false=>
    have:=hge k hk hn
    simp only[FE,hn,cond_false]
    congr 1
    split<;>omega
theorem GF.mc{s:State}{fr to:Nat}(m:GF s fr to):∀n k,Edge (B9 s fr to) n k->Edge s n k\/(n=A0 s to/\k=(s.slot fr).cap.th/\(s.slot fr).cap.ty=2):=by
 refine m.inv.S5 Cb Cn ?_ ?_ (λk hk h1 h2=> ?_) (λk=>Fg (by omega) k) m.ho
 ·rw[m.slot m.hf,if_pos rfl]
 ·rw[m.slot m.ht,if_neg (Ne.symm m.ne),if_pos rfl]
 ·rw[m.slot hk,if_neg h1,if_neg h2]
theorem GF.owner{s:State}{fr to:Nat}(n:Int):A0 (B9 s fr to) n=A0 s n:=by
 simp only[A0,Cn,Fg (show(0:Int)<=(fr:Int) by omega),LM]
theorem Jy{s u:State}(hg:u.AS=s.AS)(hS:u.AE.length=s.AE.length)(hT:u.AB.length=s.AB.length)(h1:∀k,k<s.AE.length->u.slot k=s.slot k)(h2:∀k,k<s.AB.length->u.AG k=s.AG k):u=s:=by
 obtain⟨g,a,b⟩:=s
 obtain⟨g',a',b'⟩:=u
 simp only at hg hS hT h1 h2
 subst hg
 have e1:a'=a:=by
  apply QS hS
  intro i hi hi'
  have:=h1 i hi'
  simpa [State.slot,Qe,hi,hi'] using this
 have e2:b'=b:=by
  apply QS hT
  intro i hi hi'
  have:=h2 i hi'
  simpa [State.AG,Qe,hi,hi'] using this
 rw[e1,e2]
theorem GF.back{s:State}{fr to:Nat}(m:GF s fr to)(m':GF (B9 s fr to) to fr):B9 (B9 s fr to) to fr=s:=by
 refine Jy rfl (by rw[Cb,Cb]) (by rw[Cn,Cn]) (λk hk=> ?_) (λk hk=> ?_)
 ·rw[m'.slot (by rw[Cb];exact hk)]
  by_cases e1:k=to
  ·subst e1
   rw[if_pos rfl,<-LO m.Jo,<-m.inv.SX k hk m.Jo]
  ·rw[if_neg e1]
   by_cases e2:k=fr
   ·subst e2
    rw[if_pos rfl,m.slot m.ht,if_neg (Ne.symm m.ne),if_pos rfl]
   ·rw[if_neg e2,m.slot hk,if_neg e2,if_neg e1]
    have hnu:(s.slot k).up≠(to:Int):=by
     intro e
     cases hn:Aq (s.slot k).cap with
     |true=>have:=m.inv.SX k hk hn;omega
     |false=>
      rcases m.inv.up k hk hn with h|⟨_,_,h⟩
      ·omega
      ·rw[e]at h;simp only[State.B8,Qf,m.Jo]at h;cases h
    by_cases e3:(s.slot k).up=(fr:Int)
    ·simp only[if_pos e3,if_true];rw[<-e3]
    ·simp only[if_neg e3,if_neg hnu]
 ·rw[Fg (by omega),Fg (by omega)]
  have hnf:(s.AG k).from_≠(to:Int)+1:=by
   intro e
   have:=(m.inv.from_ k hk (by omega)).2
   rw[e,show((to:Int)+1-1).toNat=to by omega]at this
   simp only[State.B8,m.Jo]at this;cases this
  simp only[C3]
  cases hd:decide ((s.AG k).from_=(fr:Int)+1)with
  |true=>
   simp at hd
   simp only[cond_true,decide_true]
   rw[<-hd]
  |false=>
   simp only[cond_false]
   rw[show decide ((s.AG k).from_=(to:Int)+1)=false by simpa using hnf];rfl
theorem LX{s:State}(h:Inv s){c:Bh}{to:Int}(h0:0<=to)(h1:to<s.AE.length)(DS:BD s c.th=true/\(s.AG c.th.toNat).ty=c.ty):FC s c to=false↔(c.ty=2->¬Reach s c.th (A0 s to)):=by
 have hg:=h.ok.DR
 simp only[FC,Et,hg,h0,h1,decide_true,Qx]
 constructor
 ·intro h2 h3 h4
  have:Ch s c.th to=true:=Hi.2 ⟨DS.1,by rw[DS.2];exact h3,h4⟩
  simp[h3,this]at h2
 ·intro h2
  by_cases h3:c.ty=2
  ·cases h4:Ch s c.th to with
   |false=>simp
   |true=>exact absurd (Hi.1 h4).2.2 (h2 h3)
  ·simp[h3]
theorem LL{s:State}{th:Int}{c:Call}(h1:(AO s th c.a).2.2=0)(h2:(Ak s th c.b).2=0)(h3:FC s (AO s th c.a).2.1 (Ak s th c.b).1=false):GF s (AO s th c.a).1.toNat (Ak s th c.b).1.toNat:=by
 obtain⟨inv,a1,a2,a3,a4,_⟩:=Ek h1
 obtain⟨_,b1,b2,b3,b4,_⟩:=EC h2
 have e:(((Ak s th c.b).1.toNat:Nat):Int)=(Ak s th c.b).1:=by omega
 have ht:=inv.E8 _ (by omega) a4
 rw[a3]at h3
 exact⟨inv,by omega,by omega,a4,b3,by rw[e];exact b4,by rw[e];exact(LX inv b1 b2 ht).1 h3⟩
theorem S1{s:State}{th:Int}{c:Call}(h:(A5 s th c).st=none):∃e,e≠0/\A5 s th c= .bad e:=by
 simp only[A5]at h ⊢
 cases h1:(!AT c||(!decide (c.op=2)&&(!decide (c.op=3)&&!decide (c.op=4))))with
 |true=>exact⟨1,by decide,rfl⟩
 |false=>
 simp only[h1,cond_false]at h ⊢
 cases h2:decide ((AO s th c.a).2.2=0)with
 |false=>exact⟨_,by simpa using h2,rfl⟩
 |true=>
 simp only[h2,Qb,cond_false]at h ⊢
 cases h3:(decide (c.op=3)&&!decide ((CK (B4 c (AO s th c.a).2.1) c.y).2=0))with
 |true=>simp at h3;exact⟨_,h3.2,rfl⟩
 |false=>
 simp only[h3,cond_false]at h ⊢
 cases h4:decide ((Ak s th c.b).2=0)with
 |false=>exact⟨_,by simpa using h4,rfl⟩
 |true=>
 simp only[h4,Qb,cond_false]at h ⊢
 simp only[Bo]at h ⊢
 cases h5:decide (c.op=4)with
 |true=>
  simp only[h5,Qb,cond_false]at h ⊢
  revert h
  cases FC s (bif decide (c.op=3)then(CK (B4 c (AO s th c.a).2.1) c.y).1 else B4 c (AO s th c.a).2.1) (Ak s th c.b).1 with
  |true=>intro _;exact⟨1,by decide,rfl⟩
  |false=>intro h;simp at h
 |false=>
  simp only[h5,Ql,cond_true]at h ⊢
  cases h6:decide (Dj s (AO s th c.a).1 (Ak s th c.b).1 (bif decide (c.op=3)then(CK (B4 c (AO s th c.a).2.1) c.y).1 else B4 c (AO s th c.a).2.1)=0)with
  |true=>rw[h6]at h;simp at h
  |false=>exact⟨_,by simpa using h6,rfl⟩
theorem WV{s:State}{th:Int}{c:Call}(h:(A5 s th c).st=none):(A5 s th c).err≠0:=by
 obtain⟨e,he,h2⟩:=S1 h
 rw[h2];exact he
theorem To{n:Nat}(h:n<2^64):(Qs 64 (n:Int)).toNat=n:=by
 rw[BitVec.ofInt_natCast,BitVec.toNat_ofNat,Nat.mod_eq_of_lt h]
theorem V9{n:Nat}(h:n<2^64):IntKind.wrap .u64 (n:Int)=(n:Int):=by
 simp[IntKind.wrap,IntKind.bits,IntKind.signed];omega
theorem HM{n:Int}(h0:0<=n)(h:n<2^64):IntKind.wrap .u64 n=n:=by
 simp[IntKind.wrap,IntKind.bits,IntKind.signed];omega
theorem Tg{a b:Nat}(ha:a<2^64)(hb:b<2^64):IntKind.wrap .u64 ((Qs 64 (a:Int)&&&Qs 64 (b:Int)).toNat:Int)=((a&&&b:Nat):Int):=by
 rw[BitVec.toNat_and,To ha,To hb]
 exact V9 (QN Nat.and_le_left ha)
theorem bP{a b:Nat}(ha:a<2^64)(hb:b<2^64):IntKind.wrap .u64 ((Qs 64 (a:Int)|||Qs 64 (b:Int)).toNat:Int)=((a|||b:Nat):Int):=by
 rw[BitVec.toNat_or,To ha,To hb]
 exact V9 (Nat.or_lt_two_pow ha hb)
theorem bO{a b:Int}{k:Nat}(ha:0<=a)(hk:a<2^k)(hb:0<=b)(h:a+b* 2^k<2^64):IntKind.wrap .u64 ((Qs 64 a|||Qs 64 (b* 2^k)).toNat:Int)=a+b* 2^k:=by
 obtain⟨n,rfl⟩:=QE ha
 obtain⟨m,rfl⟩:=QE hb
 have e:((m:Int)* 2^k)=((m* 2^k:Nat):Int):=by simp
 have hk':n<2^k:=by
  have:(n:Int)<((2^k:Nat):Int):=by simpa using hk
  omega
 rw[e]at h ⊢
 rw[bP (by omega) (by omega),Nat.or_comm,Nat.mul_comm,<-Nat.two_pow_add_eq_or_of_lt hk']
 simp;omega
open Go Ieee
def fl(n:Int):Nat:=FloatKind.f64.nearest n
def Sm(n:Int):Prop:=n.natAbs<9007199254740992
theorem mf:fl 0=0:=by decide
theorem kw:double.read 0= .number false 0 (-1074):=by decide
theorem log2_lt{m:Nat}(h:m<2^53)(h0:m≠0):m.log2<=52:=by
 have:=(Nat.log2_lt h0).2 h;omega
theorem cN{m:Nat}(h:m<2^53)(h0:m≠0):2^52<=m* 2^(52-m.log2)/\m* 2^(52-m.log2)<2^53:=by
 have hl:=log2_lt h h0
 have h1:2^m.log2<=m:=Nat.log2_self_le h0
 have h2:m<2^(m.log2+1):=Nat.lt_log2_self
 have e1:(2:Nat)^52=2^m.log2* 2^(52-m.log2):=by rw[<-QU];congr 1;omega
 have e2:(2:Nat)^53=2^(m.log2+1)* 2^(52-m.log2):=by rw[<-QU];congr 1;omega
 rw[e1,e2]
 exact⟨Qz _ h1,Nat.mul_lt_mul_of_pos_right h2 (QX _)⟩
theorem cut_zero(neg:Bool)(n:Nat):Toward.even.cut neg n 0=n:=by
 simp[Toward.cut,Nat.mod_one]
theorem fl_eq{n:Int}(h:Sm n)(h0:n≠0):fl n=double.word (n<0) ((n.natAbs.log2+1022)* 2^52+n.natAbs* 2^(52-n.natAbs.log2)):=by
 unfold Sm at h
 have hm0:n.natAbs≠0:=by omega
 have hl:=log2_lt h hm0
 have hp:=cN h hm0
 have hlp:double.leastPlace=-1074:=by decide
 have hfb:double.fractionBits=52:=rfl
 have hlast:max ((0:Int)+(n.natAbs.log2:Int)-(52:Nat)) (-1074)=(n.natAbs.log2:Int)-52:=by omega
 show double.nearest (n<0) n.natAbs 0=_
 unfold Format.nearest
 rw[if_neg hm0]
 simp only[hlp,hfb,hlast]
 have t1:((n.natAbs.log2:Int)-52-0).toNat=0:=by omega
 have t2:((0:Int)-((n.natAbs.log2:Int)-52)).toNat=52-n.natAbs.log2:=by omega
 have t3:((n.natAbs.log2:Int)-52- -1074).toNat=n.natAbs.log2+1022:=by omega
 rw[t1,t2,t3,cut_zero,QF]
 have hb:double.binade=2^52:=rfl
 have hi:double.infRung=2047* 2^52:=by decide
 rw[hb,hi,QY]
 have:(n.natAbs.log2+1022)* 2^52<=1074* 2^52:=Qz _ (by omega)
 exact QP (Nat.add_le_add this (Nat.le_of_lt hp.2)) (by decide)
theorem read_fl{n:Int}(h:Sm n)(h0:n≠0):double.read (fl n)= .number (n<0) (n.natAbs* 2^(52-n.natAbs.log2)) ((n.natAbs.log2:Int)-52):=by
 have hm0:n.natAbs≠0:=by omega
 have hl:=log2_lt h hm0
 have hp:=cN h hm0
 rw[fl_eq h h0]
 generalize n.natAbs* 2^(52-n.natAbs.log2)=M at*
 generalize n.natAbs.log2=e at*
 generalize (decide (n<0))=b
 have hsw:double.signWeight=2^63:=rfl
 have hb:double.binade=2^52:=rfl
 have hi:double.infRung=2047* 2^52:=by decide
 have hlp:double.leastPlace=-1074:=by decide
 have hr:(e+1022)* 2^52+M<2^63:=by
  have:(e+1022)* 2^52<=1074* 2^52:=Qz _ (by omega)
  omega
 have w1:double.word b ((e+1022)* 2^52+M)%2^63=(e+1022)* 2^52+M:=by
  unfold Format.word;rw[hsw];split<;>omega
 have w2:(double.word b ((e+1022)* 2^52+M)/2^63%2==1)=b:=by
  unfold Format.word;rw[hsw];cases b
  ·have:((e+1022)* 2^52+M)/2^63=0:=by omega
   simp[this]
  ·have:(2^63+((e+1022)* 2^52+M))/2^63=1:=by omega
   simp[this]
 unfold Format.read
 simp only[hsw,hb,hi,hlp,w1,w2]
 rw[if_neg (by omega),if_pos (by omega)]
 have m1:((e+1022)* 2^52+M)%2^52=M-2^52:=by omega
 have m2:((e+1022)* 2^52+M)/2^52=e+1023:=by omega
 rw[m1,m2,show 2^52+(M-2^52)=M by omega,show(-1074:Int)+((e+1023-1:Nat):Int)=(e:Int)-52 by omega]
theorem k6{n:Int}{m up k:Nat}(h:m* 2^up=n.natAbs* 2^k):signed (n<0) m up=n* 2^k:=by
 unfold signed
 rw[QF,h]
 by_cases hn:n<0
 ·simp only[hn,decide_true,if_true]
  have:n=-(n.natAbs:Int):=by omega
  conv=>rhs;rw[this]
  simp[Int.neg_mul]
 ·simp only[hn,decide_false]
  have:n=(n.natAbs:Int):=by omega
  conv=>rhs;rw[this]
  simp
theorem k7{n:Int}(h:Sm n):∃s m i,double.read (fl n)= .number s m i/\i<=0/\∀base:Int,base<=i->signed s m (i-base).toNat=n* 2^(-base).toNat:=by
 by_cases h0:n=0
 ·subst h0
  refine⟨false,0,-1074,by rw[mf];exact kw,by decide,λbase _=> ?_⟩
  simp[signed]
 ·refine⟨_,_,_,read_fl h h0,?_,λbase hb=>k6 ?_⟩
  ·have:=log2_lt h (m:=n.natAbs) (by omega);omega
  ·have:=log2_lt h (m:=n.natAbs) (by omega)
   rw[Nat.mul_assoc,<-QU]
   congr 2;omega
theorem c9{a b:Int}(ha:Sm a)(hb:Sm b):FloatKind.f64.format.order (fl a) (fl b)=some (compare a b):=by
 obtain⟨s,m,i,ea,hi,ca⟩:=k7 ha
 obtain⟨t,n,j,eb,hj,cb⟩:=k7 hb
 show double.order _ _=_
 unfold Format.order
 rw[ea,eb]
 simp only[Datum.order]
 rw[ca _ (by omega),cb _ (by omega)]
 generalize (-(min i j)).toNat=k
 have hk:(0:Int)<2^k:=Int.pow_pos (by decide)
 congr 1
 simp only[compare,compareOfLessAndEq]
 have e1:(a* 2^k<b* 2^k)↔a<b:=Int.mul_lt_mul_right hk
 have e2:(a* 2^k=b* 2^k)↔a=b:=⟨λh=>Int.eq_of_mul_eq_mul_right (by omega) h,λh=>by rw[h]⟩
 simp only[e1,e2]
theorem eT{n:Int}(h:Sm n):(double.read (fl n)).integral .zero= .number (n<0) n.natAbs 0:=by
 by_cases h0:n=0
 ·subst h0;rw[mf,kw];decide
 ·have hm0:n.natAbs≠0:=by omega
  have hl:=log2_lt h hm0
  have hp:=cN h hm0
  rw[read_fl h h0]
  simp only[Datum.integral]
  have t1:((n.natAbs.log2:Int)-52).toNat=0:=by omega
  have t2:(-((n.natAbs.log2:Int)-52)).toNat=52-n.natAbs.log2:=by omega
  rw[t1,t2,Nat.shiftLeft_zero]
  have hlog:52<=(n.natAbs* 2^(52-n.natAbs.log2)).log2:=(Nat.le_log2 (by omega)).2 hp.1
  unfold Toward.cut
  have hmin:min (52-n.natAbs.log2) ((n.natAbs* 2^(52-n.natAbs.log2)).log2+2)=52-n.natAbs.log2:=by omega
  simp only[hmin,QF,Nat.one_mul]
  rw[Nat.mul_div_cancel _ (QX _)]
  simp
theorem trunc_fl{n:Int}(h:Sm n):FloatKind.f64.encode ((FloatKind.f64.decode (fl n)).integral .zero)=fl n:=by
 show double.write ((double.read (fl n)).integral .zero)=_
 rw[eT h];rfl
theorem notNan_fl{n:Int}(h:Sm n):∃s m i,FloatKind.f64.decode (fl n)= .number s m i:=by
 obtain⟨s,m,i,e,_⟩:=k7 h;exact⟨s,m,i,e⟩
theorem toInt_fl{n:Int}(h:Sm n):(FloatKind.f64.decode (fl n)).toInt .zero=some n:=by
 show(double.read (fl n)).toInt .zero=_
 unfold Datum.toInt
 rw[eT h]
 have:=k6 (n:=n) (m:=n.natAbs) (up:=0) (k:=0) rfl
 simpa using this
structure SZ (s u:State) (fr to n r:Nat) (T R:AN):Prop where
 inv:Inv s
 hg:u.AS=s.AS
 hS:u.AE.length=s.AE.length
 hT:u.AB.length=s.AB.length
 ET:∀k,u.slot k=if k=to then⟨⟨T.ty,(n:Int),7,0⟩,(fr:Int)⟩else s.slot k
 DS:∀k,u.AG k=if k=r then R else if k=n then T else s.AG k
 hf:fr<s.AE.length
 ht:to<s.AE.length
 hn:n<s.AB.length
 hr:r<s.AB.length
 KD:(s.AG n).ty=0
 T4:(s.AG r).ty=1
 hR:R.ty=1/\R.from_=(s.AG r).from_/\BB R=true
 n4:BB T=true/\1<=T.ty/\T.ty<=5/\T.from_=0
 cT:T.ty=2->T.base+p2 T.bits<=s.AE.length/\∀i:Nat,Bx T i=true->A0 s i=-1
 KC:(s.slot fr).cap.ty=1/\(s.slot fr).cap.th=r
 Jo:Aq (s.slot to).cap=true
 ho:∃k,k<s.AB.length/\Bx (s.AG k) to=true
theorem R6{s:State}{fr:Int}(h:Inv s)(h0:0<=fr)(h1:fr<s.AE.length)(h2:(s.slot fr.toNat).cap.ty=1):0<=Df s fr/\Df s fr<=4096:=by
 have hn:s.B8 fr.toNat:=C9 (by omega)
 have ht:=h.E8 fr.toNat (by omega) hn
 rw[DP]at ht
 have hg:=h.BB _ (show(s.slot fr.toNat).cap.th.toNat<s.AB.length by omega)
 have hty:(s.AG (s.slot fr.toNat).cap.th.toNat).ty=1:=by rw[ht.2,h2]
 simp[M.BB,hty,Bv]at hg
 simp only[Df]
 cases (!BN s||(decide (fr<0)||(decide ((s.AE.length:Int)<=fr)||!decide ((s.slot fr.toNat).cap.ty=1))))with
 |true=>simp
 |false=>
  cases decide (((Jk (As s) fr).length:Int)=0)with
  |true=>simp
  |false=>simp only[cond_false];omega
theorem JG{s:State}{th:Int}{c:Call}{y:State}(h:(Be s th c).st=some y):AT c=true/\c.op=1/\(AO s th c.a).2.2=0/\(AO s th c.a).2.1.ty=1/\(Ak s th c.b).2=0/\(CE c.x c.y).2=true/\(Bs c s).2=true/\0<=CU s/\
 Df s (AO s th c.a).1+(CE c.x c.y).1<=(s.AG (AO s th c.a).2.1.th.toNat).size/\Be s th c=⟨0,0,CU s,some y⟩/\
 y=Fq s c (AO s th c.a).1 (Ak s th c.b).1 (Df s (AO s th c.a).1+(CE c.x c.y).1) (CU s) (Bs c s).1 (AO s th c.a).2.1:=by
 simp only[Be]at h ⊢
 cases h1:(!AT c||!decide (c.op=1))with
 |true=>simp[h1,CD.bad]at h
 |false=>
 simp only[h1,cond_false]at h ⊢
 cases h2:decide ((AO s th c.a).2.2=0)with
 |false=>simp[h2,CD.bad]at h
 |true=>
 simp only[h2,Qb,cond_false]at h ⊢
 cases h3:decide ((AO s th c.a).2.1.ty=1)with
 |false=>simp[h3,CD.bad]at h
 |true=>
 simp only[h3,Qb,cond_false]at h ⊢
 cases h4:Bd 2 (AO s th c.a).2.1.ri with
 |false=>simp[h4,CD.bad]at h
 |true=>
 simp only[h4,Qb,cond_false]at h ⊢
 cases h5:decide ((Ak s th c.b).2=0)with
 |false=>simp[h5,CD.bad]at h
 |true=>
 simp only[h5,Qb,cond_false]at h ⊢
 cases h6:(CE c.x c.y).2 with
 |false=>simp[h6,CD.bad]at h
 |true=>
 simp only[h6,Qb,cond_false]at h ⊢
 simp only[Dc]at h ⊢
 cases h7:(decide ((s.AG (AO s th c.a).2.1.th.toNat).size<Df s (AO s th c.a).1+(CE c.x c.y).1)||(!(Bs c s).2||decide (CU s<0)))with
 |true=>simp[h7,CD.bad]at h
 |false=>
 simp only[h7,cond_false,Qu]at h ⊢
 simp at h1 h2 h3 h5 h7
 exact⟨h1.1,h1.2,h2,h3,h5,trivial,h7.2.1,by omega,by omega,by rw[h],h.symm⟩
theorem Pz{s:State}{th:Int}{c:Call}(h:(Be s th c).st=none):∃e,e≠0/\Be s th c= .bad e:=by
 simp only[Be]at h ⊢
 cases h1:(!AT c||!decide (c.op=1))with
 |true=>exact⟨1,by decide,rfl⟩
 |false=>
 simp only[h1,cond_false]at h ⊢
 cases h2:decide ((AO s th c.a).2.2=0)with
 |false=>exact⟨_,by simpa using h2,rfl⟩
 |true=>
 simp only[h2,Qb,cond_false]at h ⊢
 cases h3:decide ((AO s th c.a).2.1.ty=1)with
 |false=>exact⟨7,by decide,rfl⟩
 |true=>
 simp only[h3,Qb,cond_false]at h ⊢
 cases h4:Bd 2 (AO s th c.a).2.1.ri with
 |false=>exact⟨6,by decide,rfl⟩
 |true=>
 simp only[h4,Qb,cond_false]at h ⊢
 cases h5:decide ((Ak s th c.b).2=0)with
 |false=>exact⟨_,by simpa using h5,rfl⟩
 |true=>
 simp only[h5,Qb,cond_false]at h ⊢
 cases h6:(CE c.x c.y).2 with
 |false=>exact⟨1,by decide,rfl⟩
 |true=>
 simp only[h6,Qb,cond_false]at h ⊢
 simp only[Dc]at h ⊢
 cases h7:(decide ((s.AG (AO s th c.a).2.1.th.toNat).size<Df s (AO s th c.a).1+(CE c.x c.y).1)||(!(Bs c s).2||decide (CU s<0)))with
 |true=>exact⟨8,by decide,rfl⟩
 |false=>simp[h7]at h
theorem Uu{s:State}{th:Int}{c:Call}(h:(Be s th c).st=none):(Be s th c).err≠0:=by
 obtain⟨e,he,h2⟩:=Pz h
 rw[h2];exact he
theorem Lc{s:State}(h:0<=CU s):(CU s).toNat<s.AB.length/\(s.AG (CU s).toNat).ty=0:=by
 simp only[CU]at h ⊢
 cases hg:BN s with
 |false=>rw[hg]at h;simp at h
 |true=>
  rw[hg]at h
  simp only[cond_true]at h ⊢
  rcases KB (λk=>decide ((s.AG k).ty=0)) s.AB.length with⟨h0,_⟩|⟨k,hk,h1,_,h3⟩
  ·omega
  ·rw[h3];simp at h1 ⊢;exact⟨hk,h1⟩
section
variable {BF rights other:Int}
end
theorem PZ{s:State}{t k:Nat}(hk:k<s.AE.length)(hn:s.B8 k)(h:(s.slot k).cap.th=t):Kf s t=true:=by
 simp only[Kf,Qc]
 rw[QR]
 refine⟨k,Qd.2 hk,?_⟩
 simp only[State.B8]at hn
 simp only[DV,hn,h,Ql,decide_true,Qw,Qb]
 simp
def kinds(u:State):Nat:=(u.AB.map (·.ty)).countP λy=>!decide (y=0)
def E7(u:State):Prop:=∀x∈u.AB,0<=x.bits/\x.bits<=4/\0<=x.base/\x.base<=96
theorem E7.at{u:State}(h:E7 u){t:Nat}(ht:t<u.AB.length):0<=(u.AG t).bits/\(u.AG t).bits<=4/\0<=(u.AG t).base/\(u.AG t).base<=96:=by
 have e:u.AG t=u.AB[t]:=by simp[State.AG,Qe,ht]
 rw[e];exact h _ (QT ht)
theorem Lt{s:State}(h:Inv s):E7 s:=by
 intro x hx
 obtain⟨t,ht,rfl⟩:=List.getElem_of_mem hx
 have e:s.AG t=s.AB[t]:=by simp[State.AG,Qe,ht]
 rw[<-e]
 have hg:=h.BB t ht
 by_cases h2:(s.AG t).ty=2
 ·have:=CO hg h2
  have hp:=C4 this.1
  simp[Bv]at this
  omega
 ·have:DI (s.AG t)=s.AG t:=by simp[M.BB]at hg;exact Er.1 hg.1
  have hb:(DI (s.AG t)).bits=0/\(DI (s.AG t)).base=0:=by
   simp only[DI,h2,decide_false,cond_false]
   cases decide ((s.AG t).ty=1)<;>cases decide ((s.AG t).ty=3)<;>cases (s.AG t).full<;>cases decide ((s.AG t).ty=4)<;>cases decide ((s.AG t).ty=5)<;>exact⟨rfl,rfl⟩
  rw[this]at hb
  omega
theorem WJ{s:State}{i:Int}:(Bf s i).AB.map (·.ty)=s.AB.map (·.ty):=by
 simp only[Bf,List.map_map]
 apply List.map_congr_left
 intro x _
 simp only[Function.comp,CX];split<;>rfl
theorem Uy{s:State}{i:Int}(h:E7 s):E7 (Bf s i):=by
 intro x hx
 simp only[Bf,Qr]at hx
 obtain⟨y,hy,rfl⟩:=hx
 have:=h y hy
 simp only[CX];split<;>exact this
theorem NF{l:List Int}:∀(s:State) (n:Int),(AZ s n l).1.AB.map (·.ty)=s.AB.map (·.ty)/\(E7 s->E7 (AZ s n l).1):=by
 induction l with
 |nil=>exact λs n=>⟨rfl,id⟩
 |cons i l ih=>
  intro s n
  have e:AZ s n (i::l)=AZ (BA (s,n) i).1 (BA (s,n) i).2 l:=rfl
  rw[e]
  have:=ih (BA (s,n) i).1 (BA (s,n) i).2
  have h2:(BA (s,n) i).1.AB.map (·.ty)=s.AB.map (·.ty)/\(E7 s->E7 (BA (s,n) i).1):=by
   simp only[BA]
   cases CC s i with
   |false=>exact⟨rfl,id⟩
   |true=>exact⟨WJ,Uy⟩
  exact⟨this.1.trans h2.1,λh=>this.2 (h2.2 h)⟩
theorem Gi{l:List Int}:∀(s:State) (n:Int),(AZ s n l).1.AE.length=s.AE.length/\(AZ s n l).1.AB.length=s.AB.length/\(AZ s n l).1.AS=s.AS/\n<=(AZ s n l).2/\(AZ s n l).2<=n+l.length:=by
 induction l with
 |nil=>exact λs n=>⟨rfl,rfl,rfl,Int.le_refl _,by simp[AZ]⟩
 |cons i l ih=>
  intro s n
  have e:AZ s n (i::l)=AZ (BA (s,n) i).1 (BA (s,n) i).2 l:=rfl
  rw[e]
  have:=ih (BA (s,n) i).1 (BA (s,n) i).2
  have h2:(BA (s,n) i).1.AE.length=s.AE.length/\(BA (s,n) i).1.AB.length=s.AB.length/\(BA (s,n) i).1.AS=s.AS/\n<=(BA (s,n) i).2/\(BA (s,n) i).2<=n+1:=by
   simp only[BA];cases CC s i<;>simp[Bf]<;>omega
  simp only[Qo]
  refine⟨this.1.trans h2.1,this.2.1.trans h2.2.1,this.2.2.1.trans h2.2.2.1,by omega,by omega⟩
structure Kp (s u:State):Prop where
 lS:u.AE.length=s.AE.length
 lT:u.AB.length=s.AB.length
 AS:u.AS=s.AS
 bits:E7 s->E7 u
theorem Kp.refl(s:State):Kp s s:=⟨rfl,rfl,rfl,id⟩
theorem Kp.trans{s u v:State}(a:Kp s u)(b:Kp u v):Kp s v:=⟨b.lS.trans a.lS,b.lT.trans a.lT,b.AS.trans a.AS,λh=>b.bits (a.bits h)⟩
theorem Gj{s:State}{n:Int}{l:List Int}:Kp s (AZ s n l).1:=
 ⟨(Gi s n).1,(Gi s n).2.1,(Gi s n).2.2.1,(NF s n).2⟩
theorem UA{x:AN}(h:0<=x.bits/\x.bits<=4):(Cr x).length<=16:=by
 simp only[Cr]
 cases hd:decide (x.ty=2)with
 |false=>simp
 |true=>
  simp only[cond_true,List.length_map,List.length_range]
  have:x.bits=0\/x.bits=1\/x.bits=2\/x.bits=3\/x.bits=4:=by omega
  rcases this with e|e|e|e|e<;>(rw[e];simp[p2])
theorem S3{s:State}{t:Nat}(h:DG s t=true)(ht:t<s.AB.length):Kp s (FM s t).1/\kinds (FM s t).1+1<=kinds s/\0<=(FM s t).2/\(E7 s->(FM s t).2<=16):=by
 have el:=Gj (s:=s) (n:=0) (l:=Cr (s.AG t))
 have ek:=(NF (l:=Cr (s.AG t)) s 0).1
 have en:=Gi (l:=Cr (s.AG t)) s 0
 refine⟨⟨el.lS,by simp only[FM,QJ];exact el.lT,el.AS,λhb x hx=> ?_⟩,?_,by simp only[FM];omega,λhb=> ?_⟩
 ·simp only[FM]at hx
  rcases List.mem_or_eq_of_mem_set hx with h|rfl
  ·exact el.bits hb x h
  ·simp[AN.zero]
 ·have hty:(s.AG t).ty≠0:=by
   simp[DG]at h;exact h.1
  have e:(s.AB.map (·.ty))[t]'(by simp;exact ht)=(s.AG t).ty:=by simp[State.AG,Qe,ht]
  simp only[kinds,FM,Q2,ek]
  rw[List.countP_set (by simp;exact ht),e]
  have hpos:0<(s.AB.map (·.ty)).countP λy=>!decide (y=0):=by
   rw[List.countP_pos_iff]
   exact⟨(s.AG t).ty,by rw[<-e];exact QT _,by simp[hty]⟩
  simp only[hty,decide_false,Ql,if_true,AN.zero,decide_true,Qb,QB,if_false]
  omega
 ·simp only[FM]
  have:=UA (x:=s.AG t) ⟨(hb.at ht).1,(hb.at ht).2.1⟩
  omega
def rounds(u:State)(n:Int)(k:Nat):State×Int×Bool:=(Qm k).foldl FB (u,n,false)
theorem Ww{u:State}{n:Int}:rounds u n 0=(u,n,false):=rfl
theorem KV{u:State}{n:Int}{k:Nat}:rounds u n (k+1)=FB (rounds u n k) k:=by simp[rounds,QZ,List.foldl_append]
theorem HD{u:State}{n:Int}(hb:E7 u):∀k,k<=u.AB.length->Kp u (rounds u n k).1/\(kinds (rounds u n k).1+bif (rounds u n k).2.2 then 1 else 0)<=kinds u/\n<=(rounds u n k).2.1/\(rounds u n k).2.1<=n+16* k
 |0,_=>by simp[Ww,Kp.refl]
 |k+1,hk=>by
  obtain⟨a,b,c,d⟩:=HD hb k (by omega)
  rw[KV]
  generalize rounds u n k=p at*
  obtain⟨v,m,f⟩:=p
  simp only at a b c d
  simp only[FB]
  cases hl:DG v k with
  |false=>simp only[cond_false];exact⟨a,b,c,by omega⟩
  |true=>
   simp only[cond_true]
   obtain⟨x,y,z,w⟩:=S3 hl (by rw[a.lT];omega)
   have w:=w (a.bits hb)
   refine⟨a.trans x,?_,by omega,by omega⟩
   cases f<;>simp at b ⊢<;>omega
theorem JK{u:State}{n:Int}:pass u n=rounds u n u.AB.length:=rfl
theorem VA{u:State}:kinds u<=u.AB.length:=by
 simp only[kinds]
 refine QP QK ?_
 simp
def bh(up:List Int):Nat->List Int->List Int
 |0,_=>[]
 |n+1,l=>l.flatMap λi=>i::bh up n (GV up i)
def Deep(up:List Int):Nat->List Int->Prop
 |0,l=>l=[]
 |n+1,l=>∀i∈l,Deep up n (GV up i)
def CP(up:List Int)(i:Int):List Int:=bif GU up i then F6 (bh up (up.length+2) (GV up i))else[]
section
variable {up:List Int}
theorem H6{i k:Int}:k∈GV up i↔0<=k/\k<up.length/\up.getD k.toNat 0=i:=by
 unfold GV
 simp only[pick,Qr,QA,Qd,decide_eq_true_eq]
 constructor
 ·rintro⟨a,⟨h1,h2⟩,rfl⟩
  exact⟨by simp,by simpa using h1,by simpa using h2⟩
 ·rintro⟨h0,h1,h2⟩
  exact⟨k.toNat,⟨by omega,h2⟩,by simp;omega⟩
theorem Sq{i:Int}:(GV up i).Nodup:=by
 unfold GV
 simp only[pick]
 refine List.Pairwise.map _ (λa b h=> ?_) (List.Pairwise.filter _ List.nodup_range)
 intro e;exact h (Int.ofNat.inj e)
theorem Y4:∀(n m:Nat) (a:Int),n<=m->CH up n a=true->CH up m a=true:=by
 intro n
 induction n with
 |zero=>
  intro m a _ h
  cases m with
  |zero=>exact h
  |succ m=>simp only[CH]at h ⊢;rw[h];rfl
 |succ n ih=>
  intro m a hm h
  cases m with
  |zero=>omega
  |succ m=>
   simp only[CH,Qh]at h ⊢
   exact h.imp id (ih m _ (by omega))
theorem Ts{N:Nat}(hN:∀k:Nat,k<up.length->CH up N (k:Int)=true):∀(n d:Nat) (l:List Int),N<=d+n->(∀i∈l,E0 up i=true/\CH up d i=false)->Deep up n l
 |0,d,l,hd,h=>by
  cases l with
  |nil=>rfl
  |cons i l=>
   exfalso
   obtain⟨h1,h2⟩:=h i Qg
   simp[E0]at h1
   have:=Y4 N d i (by omega) (by have:=hN i.toNat (by omega);rwa [show((i.toNat:Nat):Int)=i by omega]at this)
   rw[h2]at this;cases this
 |n+1,d,l,hd,h=>by
  intro i hi
  obtain⟨h1,h2⟩:=h i hi
  refine Ts hN n (d+1) _ (by omega) λk hk=> ?_
  obtain⟨k0,k1,k2⟩:=H6.1 hk
  have hi0:0<=i:=by simp[E0]at h1;omega
  have hk:E0 up k=true:=by
   simp only[E0,Qa,decide_eq_true_eq,Qc,decide_eq_false_iff_not]
   exact⟨k0,k1,by rw[k2];omega⟩
  exact⟨hk,by simp only[CH,hk,k2,h2];rfl⟩
theorem N1{n:Nat}{a b:List Int}:bh up n (a++b)=bh up n a++bh up n b:=by
 cases n with
 |zero=>rfl
 |succ n=>simp[bh]
theorem Tl{n:Nat}:bh up n []=[]:=by cases n<;>rfl
theorem Tk{n:Nat}{i:Int}{l:List Int}:bh up (n+1) (i::l)=i::(bh up n (GV up i)++bh up (n+1) l):=by simp[bh]
theorem Ps{n:Nat}:∀l:List Int,(bh up (n+1) l).length=l.length+(bh up n (l.flatMap (GV up))).length
 |[]=>by simp[Tl]
 |i::l=>by
  rw[Tk,Qo,Qp,Ps l,Qt,N1,Qp,Qo]
  omega
theorem ay{l:List Int}(h:l.Nodup)(hr:∀i∈l,0<=i/\i<up.length):(l.flatMap (GV up)).Nodup/\∀i∈l.flatMap (GV up),0<=i/\i<up.length:=by
 refine⟨?_,λi hi=> ?_⟩
 ·induction l with
  |nil=>simp
  |cons i l ih=>
   rw[List.nodup_cons]at h
   rw[Qt,List.nodup_append]
   refine⟨Sq,ih h.2 λj hj=>hr j (Qn _ hj),λa ha b hb e=> ?_⟩
   subst e
   obtain⟨j,hj,hb⟩:=QG.1 hb
   have:=(H6.1 ha).2.2.symm.trans (H6.1 hb).2.2
   subst this
   exact h.1 hj
 ·obtain⟨a,ha,hi⟩:=QG.1 hi
  obtain⟨k0,k1,_⟩:=H6.1 hi
  exact⟨k0,k1⟩
theorem YZ:∀(n:Nat) (l:List Nat),l.Nodup->(∀x∈l,x<n)->l.length<=n
 |0,l,_,hr=>by
  cases l with
  |nil=>simp
  |cons a l=>have:=hr a Qg;omega
 |n+1,l,h,hr=>by
  have h1:=YZ n (l.erase n) (h.erase n) λx hx=>by
   have:=(h.mem_erase_iff).1 hx
   have:=hr x this.2
   omega
  rw[List.length_erase]at h1
  split at h1<;>omega
theorem ZX{n:Nat}{l:List Int}(h:l.Nodup)(hr:∀i∈l,0<=i/\i<(n:Int)):l.length<=n:=by
 have h1:(l.map Int.toNat).Nodup:=by
  rw[List.Nodup,List.pairwise_map]
  refine List.Pairwise.imp_of_mem (fun{a b} ha hb hab=> ?_) h
  have:=hr a ha;have:=hr b hb
  intro e;exact hab (by omega)
 have:=YZ n _ h1 λx hx=>by
  obtain⟨a,ha,rfl⟩:=Qr.1 hx
  have:=hr a ha
  omega
 simpa using this
theorem aQ:∀(n:Nat) (l:List Int),l.Nodup->(∀i∈l,0<=i/\i<up.length)->(bh up n l).length<=n* up.length
 |0,l,_,_=>by simp[bh]
 |n+1,l,h,hr=>by
  rw[Ps]
  have h1:=ZX h hr
  have h2:=ay h hr
  have h3:=aQ n _ h2.1 h2.2
  rw[Nat.succ_mul]
  omega
theorem cj{n:Nat}{l:List Int}{i:Int}(hi:i∈l):(bh up n (GV up i)).length<=(bh up (n+1) l).length:=by
 induction l with
 |nil=>simp at hi
 |cons a l ih=>
  rw[Tk,Qo,Qp]
  rcases Q1.1 hi with rfl|h
  ·omega
  ·have:=ih h;omega
theorem Tm{n:Nat}{l:List Int}(h:Deep up n l){x:Int}(hx:x∈l):x∈bh up n l:=by
 cases n with
 |zero=>simp only[Deep]at h;subst h;simp at hx
 |succ n=>simp only[bh,QG];exact⟨x,hx,Qg⟩
theorem YN{n:Nat}{l:List Int}(h:Deep up n l)(hl:l≠[]):bh up n l≠[]:=by
 obtain⟨x,hx⟩:=List.exists_mem_of_ne_nil _ hl
 exact List.ne_nil_of_mem (Tm h hx)
end
def takeN(s:State)(th:Int)(c:Call):CD:=
 bif !AT c||(!decide (c.op=5)&&!decide (c.op=6))then .bad 1
 else bif !decide ((AO s th c.a).2.2=0)then .bad (AO s th c.a).2.2
 else bif decide (c.op=6)then⟨0,0,(DD s (CP (As s) (AO s th c.a).1)).2,some (DD s (CP (As s) (AO s th c.a).1)).1⟩
 else⟨0,0,(DD s [(AO s th c.a).1]).2,some (DD s [(AO s th c.a).1]).1⟩
def MP:List Int->Int
 |[]=>0
 |a::l=>a+16* MP l
def C1(p:List Int):Int:=(p.length:Int)+16* MP p
def FG(w:Int)(k:Nat):List Int:=(Qm k).map λi=>w/2^(4*(i+1))%16
def F0(w:Int):Nat:=min (w%16).toNat 3
def Ep(w:Int):List Int:=bif BJ (FG w (F0 w))&&decide (C1 (FG w (F0 w))=w)then FG w (F0 w)else[]
theorem JF{c:Call}(h:AT c=true):1<=c.op/\c.op<=13/\0<=c.x/\c.x<=7/\0<=c.y/\c.y<=65535/\BJ c.a=true/\(c.b=[]\/BJ c.b=true):=by
 simp only[AT,Qa,Qc,decide_eq_false_iff_not]at h
 obtain⟨h1,h2,h3,h4,h5⟩:=h
 have hop:1<=c.op/\c.op<=13:=by
  rcases Js c.op with h|h
  ·omega
  ·exact absurd (IJ h).2 h1
 have hn:0<=c.x/\c.x<=7/\0<=c.y/\c.y<=65535:=by
  simp only[C0]at h4
  by_cases e1:c.op=1
  ·simp[e1,Bv]at h4;omega
  by_cases e2:c.op=2
  ·simp[e2,C2,Bv]at h4;omega
  by_cases e3:c.op=3
  ·simp[e3,C2,Bv]at h4;omega
  by_cases e11:c.op=11\/c.op=12
  ·rcases e11 with e|e<;>(simp[e,Bv]at h4;omega)
  ·simp[e1,e2,e3,show ¬c.op=11 by omega,show ¬c.op=12 by omega]at h4;omega
 refine⟨hop.1,hop.2,hn.1,hn.2.1,hn.2.2.1,hn.2.2.2,h2,?_⟩
 simp only[Qh,Qa,decide_eq_true_eq]at h3
 rcases h3 with h|h
 ·left;exact QD.1 (by omega)
 ·exact .inr h.1
attribute [irreducible] C1 FG Ep
structure Part (s u:State) (k:Nat):Prop where
 AS:u.AS=s.AS
 lS:u.AE.length=s.AE.length
 lT:u.AB.length=s.AB.length
 gone:∀j,j<k->u.slot j=⟨.zero,-1⟩
 cap:∀j,k<=j->(u.slot j).cap=(s.slot j).cap
 none:∀j,j<s.AE.length->Aq (u.slot j).cap=true->u.slot j=⟨.zero,-1⟩
 th:∀t,t<s.AB.length->u.AG t=if 0<(s.AG t).from_/\(s.AG t).from_<=k then{s.AG t with from_:=0}else s.AG t
theorem GH{s:State}{i k:Nat}(hi:i<s.AE.length)(hk:k<s.AE.length):(Bf s i).slot k=if k=i then⟨.zero,-1⟩else B6 s i (s.slot k):=by
 simp only[Bf,State.slot,Qe,Qf]
 by_cases e:k=i
 ·subst e;simp[hi]
 ·rw[Qj (λh=>e h.symm),if_neg e,QQ];simp[hk]
def Ij(s:State)(k:Nat):Nat:=(Qm k).countP λj=>!Aq (s.slot j).cap
theorem Ik{s:State}{k:Nat}:Ij s (k+1)=Ij s k+(if(!Aq (s.slot k).cap)=true then 1 else 0):=by simp[Ij,QZ,List.countP_append,List.countP_singleton]
def Es(s:State):Prop:=∀i j,i<s.AE.length->j<s.AE.length->(s.slot i).cap.ty=1->(s.slot j).cap.ty=1->(s.slot i).cap.th=(s.slot j).cap.th->i=j
structure SG (s:State):Prop where
 AS:Ee s.AS=true
 Mn:(s.AE.length:Int)=s.AS.AE
 ME:(s.AB.length:Int)=s.AS.AB
 Ib:∀i,i<s.AE.length->Bq (s.slot i).cap=true
 SX:∀i,i<s.AE.length->Aq (s.slot i).cap=true->(s.slot i).up=-1
 E8:∀i,i<s.AE.length->s.B8 i->BD s (s.slot i).cap.th=true/\(s.AG (s.slot i).cap.th.toNat).ty=(s.slot i).cap.ty
 BB:∀k,k<s.AB.length->BB (s.AG k)=true
 from_:∀k,k<s.AB.length->0<(s.AG k).from_->(s.AG k).from_<=s.AE.length/\s.B8 ((s.AG k).from_-1).toNat
 root:∀k,k<s.AB.length->Bc s k=true->s.AG k=EY s.AS ((k:Int)-2)
 fit:∀k,k<s.AB.length->ZC s k
 apart:∀n,n<s.AB.length->∀m,m<n->Mg s n m
 has:∀i,i<s.AE.length->s.B8 i->∃n,n<s.AB.length/\Bx (s.AG n) i=true
 ring:∀n:Nat,n<s.AB.length->∀m,Edge s n m->¬Reach s m n
 up:∀i,i<s.AE.length->s.B8 i->(s.slot i).up=-1\/(0<=(s.slot i).up/\(s.slot i).up<s.AE.length/\s.B8 (s.slot i).up.toNat)
 PK:∃r:Nat->Nat,∀i,i<s.AE.length->s.B8 i->0<=(s.slot i).up->r (s.slot i).up.toNat<r i
 allow:∀i,i<s.AE.length->s.B8 i->0<=(s.slot i).up->Dw (s.slot i).cap (s.slot (s.slot i).up.toNat).cap=true\/((s.slot (s.slot i).up.toNat).cap.ty=1/\(s.slot i).cap.th≠(s.slot (s.slot i).up.toNat).cap.th)
 ZY:Es s
theorem Inv.pre{s:State}(h:Inv s)(o:Es s):SG s:=
 ⟨h.AS,h.Mn,h.ME,h.Ib,h.SX,h.E8,h.BB,h.from_,h.root,h.fit,h.apart,h.has,h.ring,h.up,h.PK,h.allow,o⟩
theorem U3{s:State}{t:Nat}:Kf s t=true↔∃k,k<s.AE.length/\s.B8 k/\(s.slot k).cap.th=t:=by
 constructor
 ·intro h
  simp only[Kf,Qc,QR,Qd]at h
  obtain⟨k,hk,h⟩:=h
  have h2:DV s t k=true:=by simpa using h
  simp only[DV,Qa,Qc,decide_eq_true_eq]at h2
  exact⟨k,hk,h2.1,h2.2⟩
 ·rintro⟨k,hk,h1,h2⟩;exact PZ hk h1 h2
theorem SG.inv{s:State}(h:SG s)(hh:∀t,t<s.AB.length->DG s t=false):Inv s/\Es s:=
 ⟨⟨h.AS,h.Mn,h.ME,h.Ib,h.SX,h.E8,h.BB,h.from_,h.root,λk hk hr h0=>by
  have:=hh k hk
  simp only[DG,hr,h0,decide_false,Ql,Qx,QC]at this
  exact U3.1 this,h.fit,h.apart,h.has,h.ring,h.up,h.PK,h.allow⟩,h.ZY⟩
section
variable {s u:State}
inductive aD (s:State) (k:Nat):Int->Prop
 |one:aD s k (s.slot k).up
 |more {j:Int}:aD s k j->0<=j->aD s k (s.slot j.toNat).up
theorem aD.trans{k:Nat}{i a:Int}(h:aD s k i)(hi:0<=i)(g:aD s i.toNat a):aD s k a:=by
 induction g with
 |one=>exact .more h hi
 |more _ h0 ih=>exact .more ih h0
inductive Below (s:State) (n:Int):Nat->Prop
 |tO {k:Nat}:k<s.AE.length->s.B8 k->(s.slot k).up=n->Below s n k
 |more {k j:Nat}:k<s.AE.length->s.B8 k->Below s n j->(s.slot k).up=(j:Int)->Below s n k
structure dx (s u:State):Prop where
 lS:u.AE.length=s.AE.length
 cap:∀k,k<s.AE.length->u.slot k=⟨.zero,-1⟩\/(u.B8 k/\(u.slot k).cap=(s.slot k).cap/\aD s k (u.slot k).up)
theorem dx.start(h:Inv s):dx s s:=by
 refine⟨rfl,λk hk=> ?_⟩
 cases hc:Aq (s.slot k).cap with
 |true=>
  left
  have:=h.SX k hk hc
  rw[<-LO hc,<-this]
 |false=>exact .inr ⟨hc,rfl,.one⟩
theorem LN{u:State}{k:Nat}(h:u.slot k=⟨.zero,-1⟩):Aq (u.slot k).cap=true:=by rw[h];simp[Aq,Bh.zero]
theorem dx.empty(r:dx s u){i:Int}(hb:CC u i=true):dx s (Bf u i)/\Ij (Bf u i) s.AE.length+1=Ij u s.AE.length/\(Bf u i).slot i.toNat=⟨.zero,-1⟩/\∀k,k<s.AE.length->u.slot k=⟨.zero,-1⟩->(Bf u i).slot k=⟨.zero,-1⟩:=by
 simp only[CC,Qa,Qc,decide_eq_false_iff_not,Int.not_lt,Int.not_le]at hb
 obtain⟨h0,h1,h2⟩:=hb
 have hi:i.toNat<u.AE.length:=by omega
 have ei:((i.toNat:Nat):Int)=i:=by omega
 have ET:∀k,k<s.AE.length->(Bf u i).slot k=if k=i.toNat then⟨.zero,-1⟩else B6 u i (u.slot k):=λk hk=>by
  have:=GH (s:=u) hi (k:=k) (by rw[r.lS];exact hk)
  rw[ei]at this;exact this
 have hz:∀k,k<s.AE.length->u.slot k=⟨.zero,-1⟩->(Bf u i).slot k=⟨.zero,-1⟩:=λk hk hz=>by
  rw[ET k hk,hz]
  split
  ·rfl
  ·simp only[B6];rw[if_neg (by omega)]
 have hii:(Bf u i).slot i.toNat=⟨.zero,-1⟩:=by rw[ET _ (by rw[<-r.lS];exact hi),if_pos rfl]
 refine⟨⟨by simp[Bf,r.lS],λk hk=> ?_⟩,?_,hii,hz⟩
 ·by_cases e:k=i.toNat
  ·left;rw[ET k hk,if_pos e]
  ·rcases r.cap k hk with h|⟨n1,n2,n3⟩
   ·exact .inl (hz k hk h)
   ·right
    rw[State.B8,ET k hk,if_neg e]
    simp only[B6]
    by_cases hu:(u.slot k).up=i
    ·rw[if_pos hu]
     refine⟨n1,n2,?_⟩
     rw[hu]at n3
     rcases r.cap i.toNat (by rw[<-r.lS];exact hi)with h|⟨_,_,m3⟩
     ·have:=LN h;rw[h2]at this;cases this
     ·exact n3.trans h0 m3
    ·rw[if_neg hu];exact⟨n1,n2,n3⟩
 ·have hlen:i.toNat<s.AE.length:=by rw[<-r.lS];exact hi
  have key:∀m,m<=s.AE.length->Ij (Bf u i) m+(if i.toNat<m then 1 else 0)=Ij u m:=by
   intro m
   induction m with
   |zero=>intro _;simp[Ij]
   |succ m ih=>
    intro hm
    have ih:=ih (by omega)
    rw[Ik,Ik]
    by_cases e:m=i.toNat
    ·subst e
     rw[if_neg (Nat.lt_irrefl _)]at ih
     rw[LN hii,h2,if_pos (Nat.lt_succ_self _)]
     simp only[Qb,Ql,QB,if_false,if_true]
     omega
    ·have:Aq ((Bf u i).slot m).cap=Aq (u.slot m).cap:=by
      rw[ET m (by omega),if_neg e];simp only[B6];split<;>rfl
     rw[this]
     by_cases hlt:i.toNat<m
     ·rw[if_pos hlt]at ih;rw[if_pos (show i.toNat<m+1 by omega)];omega
     ·rw[if_neg hlt]at ih;rw[if_neg (show ¬i.toNat<m+1 by omega)];omega
  have:=key s.AE.length (Q3 _)
  rw[if_pos hlen]at this;exact this
def Fm(s:State)(p:State×Int):Prop:=dx s p.1/\p.2+(Ij p.1 s.AE.length:Int)=Ij s s.AE.length
theorem Fm.BA{p:State×Int}(h:Fm s p)(i:Int):Fm s (BA p i)/\∀k,k<s.AE.length->p.1.slot k=⟨.zero,-1⟩->(M.BA p i).1.slot k=⟨.zero,-1⟩:=by
 obtain⟨u,n⟩:=p
 simp only[M.BA]
 cases hb:CC u i with
 |false=>exact⟨h,λ_ _ h=>h⟩
 |true=>
  obtain⟨a,b,_,d⟩:=h.1.empty hb
  have:=h.2
  simp only at this a b d
  exact⟨⟨a,by simp only[cond_true];omega⟩,d⟩
theorem Fm.AZ:∀(l:List Int) {p:State×Int},Fm s p->Fm s (AZ p.1 p.2 l)/\∀k,k<s.AE.length->p.1.slot k=⟨.zero,-1⟩->(M.AZ p.1 p.2 l).1.slot k=⟨.zero,-1⟩
 |[],p,h=>⟨h,λ_ _ h=>h⟩
 |i::l,p,h=>by
  have e:M.AZ p.1 p.2 (i::l)=M.AZ (M.BA p i).1 (M.BA p i).2 l:=rfl
  rw[e]
  obtain⟨a,b⟩:=h.BA i
  obtain⟨c,d⟩:=Fm.AZ l a
  exact⟨c,λk hk hz=>d k hk (b k hk hz)⟩
theorem Fm.AB{p:State×Int}(h:Fm s p)(l:List AN):Fm s ({p.1 with AB:=l},p.2):=⟨⟨h.1.lS,h.1.cap⟩,h.2⟩
def gone(s u:State)(k:Nat):Nat:=(Qm k).countP λj=>Aq (u.slot j).cap&&!Aq (s.slot j).cap
end
def DY(s:State)(th:Int)(c:Call):CD:=
 bif !(BN s&&(AT c&&Bv th 0 (s.AS.AI-1)))then .bad 1
 else bif decide (c.op=1)then Be s th c
 else bif decide (c.op=2)||(decide (c.op=3)||decide (c.op=4))then A5 s th c
 else bif decide (c.op=5)||decide (c.op=6)then takeN s th c
 else bif decide (c.op=7)||decide (c.op=8)then BC s th c
 else bif decide (c.op=9)||decide (c.op=10)then BG s th c
 else Bg s th c
def CD.then(r:CD)(s:State):State:=r.st.getD s
def cZ(s u:State):Prop:=∀k,k<s.AE.length->u.B8 k->
 (∃j,j<s.AE.length/\s.B8 j/\(u.slot k).cap.ty=(s.slot j).cap.ty/\(u.slot k).cap.th=(s.slot j).cap.th)\/((u.slot k).cap.th.toNat<s.AB.length/\(s.AG (u.slot k).cap.th.toNat).ty=0)
structure Ug (s u:State) (th:Int) (c:Call):Prop where
 inv:Inv u
 ZY:Es u
 AS:u.AS=s.AS
 lS:u.AE.length=s.AE.length
 lT:u.AB.length=s.AB.length
 from_:cZ s u
 at_:c.op≠5->c.op≠6->∀k,k<s.AE.length->(u.slot k).cap=(s.slot k).cap\/A7 s th c.a=((k:Int),0)\/A7 s th c.b=((k:Int),0)
def wS(l:List Int):Nat->List Int
 |0=>[]
 |1=>[l.getD 0 0]
 |m+2=>bif decide (l.getD (m+1) 0=l.getD m 0)then wS l (m+1)else wS l (m+1)++[l.getD (m+1) 0]
def v7(l:List Int):List Int:=wS l l.length
theorem wQ{l:List Int}{m:Nat}(h:l.getD (m+1) 0=l.getD m 0):wS l (m+2)=wS l (m+1):=by simp only[wS,h,decide_true,cond_true]
theorem wT{l:List Int}{m:Nat}(h:¬l.getD (m+1) 0=l.getD m 0):wS l (m+2)=wS l (m+1)++[l.getD (m+1) 0]:=by simp only[wS,h,decide_false,cond_false]
theorem take_one{l:List Int}(h:0<l.length):l.take 1=[l.getD 0 0]:=by
 cases l with
 |nil=>simp at h
 |cons a l=>simp
theorem wh{l:List Int}{m:Nat}(h:m<l.length):l.take (m+1)=l.take m++[l.getD m 0]:=by
 rw[Qk h];simp[Qe,h]
theorem wq{l:List Int}(h:l.length<2):v7 l=l:=by
 match l,h with
 |[],_=>rfl
 |[a],_=>rfl
 |a::b::l,h=>simp at h;omega
structure wW (l c:List Int) (m k:Nat):Prop where
 len:c.length=l.length
 kept:c.take k=wS l m
 eq:k=(wS l m).length
 lt:k+1<=m
 le:m<=l.length
 rest:∀i,m<=i+1->c.getD i 0=l.getD i 0
theorem wW.same{l c:List Int}{m k:Nat}(h:wW l c (m+1) k)(hm:m+1<l.length)(e:c.getD (m+1) 0=c.getD m 0):wW l c (m+2) k:=by
 rw[h.rest _ (by omega),h.rest _ (by omega)]at e
 exact⟨h.len,by rw[wQ e];exact h.kept,by rw[wQ e];exact h.eq,by have:=h.lt;omega,by omega,λi hi=>h.rest i (by omega)⟩
theorem wW.more{l c:List Int}{m k:Nat}(h:wW l c (m+1) k)(hm:m+1<l.length)(e:¬c.getD (m+1) 0=c.getD m 0):wW l (c.set k (c.getD (m+1) 0)) (m+2) (k+1):=by
 have hr:=h.rest (m+1) (by omega)
 have e':=e
 rw[h.rest _ (by omega),h.rest _ (by omega)]at e'
 have hlt:=h.lt
 have hl:=h.len
 refine⟨by simp[h.len],?_,?_,by omega,by omega,λi hi=> ?_⟩
 ·rw[wT e',<-h.kept,hr]
  apply List.ext_getElem?
  intro i
  rw[QO,List.getElem?_append,List.length_take,QY (by omega)]
  by_cases h1:i<k
  ·rw[if_pos (by omega),if_pos h1,Qj (by omega),QO,if_pos h1]
  ·by_cases h2:i=k
   ·subst h2
    rw[if_pos (by omega),if_neg h1,QH (by omega)];simp
   ·rw[if_neg (by omega),if_neg h1]
    rw[Qq (by simp;omega)]
 ·rw[wT e'];simp[h.eq]
 ·have h3:=h.rest i (by omega)
  simp only[Qe]at h3 ⊢
  rw[Qj (by omega)];exact h3
theorem half_start{l:List Int}{i:Nat}(hi:i+1<l.length)(hc:wS l (i+1)=l.take (i+1))(e:l.getD (i+1) 0=l.getD i 0):wW l l (i+2) (i+1):=
 ⟨rfl,by rw[wQ e,hc],by rw[wQ e,hc];simp;omega,by omega,by omega,λ_ _=>rfl⟩
theorem wW.end{l c:List Int}{k:Nat}(h:wW l c l.length k):c.take k++Qv (l.length-k) 0=v7 l++Qv (l.length-(v7 l).length) 0:=by
 rw[h.kept,h.eq];rfl
theorem wW.ne{l c:List Int}{k:Nat}(h:wW l c l.length k):v7 l≠l:=by
 intro e
 have h1:=h.eq;have h2:=h.lt
 rw[show wS l l.length=v7 l from rfl,e]at h1;omega
theorem Aak{c:List Int}{k n:Nat}(hl:c.length=n)(hk:k<=n):Fh (ints c) k (Qv (n-k) [nS 0])=ints (c.take k++Qv (n-k) 0):=by
 obtain⟨d,rfl⟩:∃d,n=k+d:=⟨n-k,by omega⟩
 rw[Nat.add_sub_cancel_left]
 clear hk
 induction d generalizing c k with
 |zero=>
  have:c.take k=c:=List.take_of_length_le (by omega)
  simp[Fh,this]
 |succ d ih=>
  rw[QM,Fh,show(ints c).set k [nS 0]=ints (c.set k 0) by simp[ints,Q2]]
  rw[show d=(k+(d+1))-(k+1) by omega]at ih ⊢
  have:=ih (c:=c.set k 0) (k:=k+1) (by simp;omega)
  have e:k+(d+1)-(k+1)=d:=by omega
  rw[e]at this ⊢
  rw[this]
  congr 1
  rw[QM,<-List.singleton_append (l:=Qv d (0:Int)),<-List.append_assoc]
  congr 1
  rw[Qk (by simp;omega)]
  simp[List.take_set_of_le]
end Go.Ax.M
