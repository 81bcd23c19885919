/- Regions that draw their order: one walk in an order of our choice serves all. Conditions: none. -/
import Derived.Test.YtohgndhnndeijaaGreatAxFrontZ
import Derived.Orders
set_option linter.all false
open Bool renaming and_eq_true -> Qa, or_eq_true -> Qj, not_eq_true' -> Qm, or_eq_false_iff -> QK, false_eq_true -> QO
open List renaming mem_cons_of_mem -> Qb, getElem?_eq_getElem -> Qc, mem_cons_self -> Qe, mem_cons -> Qf, all_eq_true -> Qg, range -> Qh, contains_eq_mem -> Qk, getElem?_eq_some_iff -> Ql, length_range -> Qn, mem_map_of_mem -> Qp, length_map -> Qq, mem_range -> Qr, replicate -> Qs, map_cons -> Qv, getD -> Qx, cons_append -> Qy, mem_append -> QA, getElem?_cons_zero -> QB, map_append -> QC, nodup_cons -> QD, getElem?_append_left -> QE, getElem?_eq_none_iff -> QF, append_assoc -> QG, getElem?_replicate -> QI, getElem?_eq_none -> QJ, mem_of_getElem? -> QL, append_of_mem -> QP, nodup_append -> QQ, mem_filter -> QR, mem_map -> QS
open Array renaming getD_eq_getD_getElem? -> Qd, getElem?_toList -> Qi, getElem?_eq_some_iff -> Qo, getElem?_setIfInBounds_self -> Qt, getElem?_setIfInBounds_ne -> Qw, getElem?_eq_getElem -> Qz, mem_toList_iff -> QM
open Option.some renaming injEq -> Qu
open Option renaming getD_some -> QH
open Ne renaming symm -> QN
namespace Go.Ax
open Go Go.RowKit
theorem Nl(acc:List Nat)(j:Nat):∀(es:List Nat) (s:Nat),(es.foldl (λs e=>s|||(2^e)|||acc.getD e 0) s).testBit j=true↔s.testBit j=true\/∃e∈es,e=j\/(acc.getD e 0).testBit j=true
 |[],s=>by simp
 |e::es,s=>by
  rw[List.foldl_cons,Nl acc j es]
  simp only[Nat.testBit_or,Qj,Nat.testBit_two_pow,decide_eq_true_eq,Qf,exists_eq_or_imp]
  constructor
  ·rintro((h|h)|h)
   ·rcases h with h|h
    ·exact .inl h
    ·exact .inr (.inl (.inl h))
   ·exact .inr (.inl (.inr h))
   ·exact .inr (.inr h)
  ·rintro(h|(h|h)|h)
   ·exact .inl (.inl (.inl h))
   ·exact .inl (.inl (.inr h))
   ·exact .inl (.inr h)
   ·exact .inr h
theorem JC:∀(aft:List (List Nat)) (acc:List Nat),∃r,Cy aft acc=acc++r/\r.length=aft.length
 |[],acc=>⟨[],by simp[Cy],rfl⟩
 |es::l,acc=>by
  obtain⟨r,h,hl⟩:=JC l (acc++[es.foldl (λs e=>s|||(2^e)|||acc.getD e 0) 0])
  exact⟨_::r,by rw[Cy,h,QG];rfl,by simp[hl]⟩
theorem VQ:∀(aft:List (List Nat)) (acc:List Nat),Ga aft acc.length=true->∀(i:Nat) (es:List Nat),aft[i]?=some es->∀j,CQ (Cy aft acc) (acc.length+i) j=true->
 ∃e∈es,e=j\/CQ (Cy aft acc) e j=true
 |[],_,_,i,es,h,_,_=>by simp at h
 |es0::l,acc,hb,i,es,h,j,hp=>by
  simp only[Ga,Qa]at hb
  cases i with
  |zero=>
   simp only[QB,Qu]at h;subst h
   obtain⟨r,hr,-⟩:=JC l (acc++[es0.foldl (λs e=>s|||(2^e)|||acc.getD e 0) 0])
   have hbf:Cy (es0::l) acc=acc++(es0.foldl (λs e=>s|||(2^e)|||acc.getD e 0) 0::r):=by rw[Cy,hr,QG];rfl
   have hget:(Cy (es0::l) acc).getD acc.length 0=es0.foldl (λs e=>s|||(2^e)|||acc.getD e 0) 0:=by
    rw[hbf];simp[Qx]
   unfold CQ at hp
   rw[Nat.add_zero,hget,Nl]at hp
   rcases hp with hp|⟨e,he,hp⟩
   ·simp at hp
   ·refine⟨e,he,hp.imp id λhp=> ?_⟩
    have hlt:e<acc.length:=by simpa using(Qg.1 hb.1) e he
    unfold CQ
    rw[hbf]
    simp only[Qx,QE hlt]
    simpa [Qx] using hp
  |succ i=>
   have ih:=VQ l (acc++[es0.foldl (λs e=>s|||(2^e)|||acc.getD e 0) 0]) (by simpa using hb.2) i es (by simpa using h) j (by
    rw[Cy]at hp
    simpa [Nat.add_assoc,Nat.add_comm 1 i] using hp)
   rw[Cy];exact ih
theorem Iu{aft:List (List Nat)}(hb:Ga aft 0=true)(L:Nat->Prop)(hL:∀i es,aft[i]?=some es->L i->∀e∈es,L e):
 ∀(i:Nat) (es:List Nat),aft[i]?=some es->(∀e∈es,L e)->∀j,CQ (Cy aft []) i j=true->L j:=by
 have hback:∀(l:List (List Nat)) (k:Nat),Ga l k=true->∀i es,l[i]?=some es->∀e∈es,e<k+i:=by
  intro l
  induction l with
  |nil=>intro k _ i es h;simp at h
  |cons es0 l ih=>
   intro k hk i es h e he
   simp only[Ga,Qa]at hk
   cases i with
   |zero=>simp only[QB,Qu]at h;subst h;simpa using(Qg.1 hk.1) e he
   |succ i=>have:=ih (k+1) hk.2 i es (by simpa using h) e he;omega
 intro i
 induction i using Nat.strongRecOn with
 |_ i ih=>
  intro es h hes j hp
  obtain⟨e,he,hj⟩:=VQ aft [] hb i es h j (by simpa using hp)
  rcases hj with rfl|hj
  ·exact hes _ he
  ·have hlt:=hback aft 0 hb i es h e he
   cases hae:aft[e]? with
   |none=>
    exfalso
    have:(Cy aft []).length=aft.length:=by obtain⟨r,hr,hl⟩:=JC aft [];rw[hr];simpa using hl
    have hge:aft.length<=e:=by rw[QF]at hae;exact hae
    unfold CQ at hj
    rw[Qx,QJ (by omega)]at hj
    simp at hj
   |some es'=>exact ih e (by omega) es' hae (λe' he'=>hL e es' hae (hes e he) e' he') j hj
theorem FP{P:Program}{R:Array Oper}:∀{l:List A6} {r:List Oper},DA P R l r=true->l.length=r.length
 |[],[],_=>rfl
 |a::l,o::r,h=>by simp only[DA,Qa]at h;simp[FP h.2]
 |[],_::_,h=>by simp[DA]at h
 |_::_,[],h=>by simp[DA]at h
theorem GM{P:Program}{R:Array Oper}:∀{l:List A6} {r:List Oper},DA P R l r=true->∀{i:Nat} {a:A6} {o:Oper},l[i]?=some a->r[i]?=some o->EW P R a o=true
 |[],_,_,i,a,o,h,_=>by simp at h
 |a::l,[],h,_,_,_,_,_=>by simp[DA]at h
 |a::l,o::r,h,i,a',o',ha,ho=>by
  simp only[DA,Qa]at h
  cases i with
  |zero=>simp at ha ho;subst ha;subst ho;exact h.1
  |succ i=>exact GM h.2 (by simpa using ha) (by simpa using ho)
theorem N0:∀{l:List (List Nat)} {r:List Oper},Od l r=true->∀{i:Nat} {o:Oper},r[i]?=some o->l[i]?=some ((o.after.toList.filter (Region.binds .any)).map (·.on))
 |[],[],_,i,o,h=>by simp at h
 |es::l,o::r,h,i,o',ho=>by
  simp only[Od,Qa,beq_iff_eq]at h
  cases i with
  |zero=>simp at ho;subst ho;simp[h.1]
  |succ i=>simpa using N0 h.2 (by simpa using ho)
 |[],_::_,h,_,_,_=>by simp[Od]at h
 |_::_,[],h,_,_,_=>by simp[Od]at h
structure Ji where
 idx:Nat
 dst:Option Nat
 v:AH
def look(T0:List AH):List Ji->(Nat->Bool)->Nat->AH
 |[],_,t=>T0.getD t .Dk
 |e::D,L,t=>if L e.idx=true/\e.dst=some t/\t<T0.length then e.v else look T0 D L t
def idxs(D:List Ji):List Nat:=D.map (·.idx)
theorem G6{T0:List AH}:∀{D:List Ji} {L L':Nat->Bool} {t:Nat},(∀e∈D,e.dst=some t->L e.idx=L' e.idx)->look T0 D L t=look T0 D L' t
 |[],_,_,_,_=>rfl
 |e::D,L,L',t,h=>by
  simp only[look]
  have ih:=G6 (T0:=T0) (D:=D) (λe he=>h e (Qb _ he))
  by_cases hd:e.dst=some t
  ·rw[h e Qe hd,ih]
  ·simp only[hd,false_and,and_false,if_false];exact ih
theorem OB{T0:List AH}{t:Nat}{L:Nat->Bool}:∀{D1 D2:List Ji},(∀e∈D1,e.dst=some t->L e.idx=false)->look T0 (D1++D2) L t=look T0 D2 L t
 |[],_,_=>rfl
 |e::D1,D2,h=>by
  simp only[Qy,look]
  have ih:=OB (T0:=T0) (D1:=D1) (D2:=D2) (λe he=>h e (Qb _ he))
  rw[if_neg,ih]
  rintro⟨h1,h2,-⟩
  rw[h e Qe h2]at h1;cases h1
def cV(ops:List A6)(bs:List Nat):List Ji->Prop
 |[]=>True
 |e::D=>e.idx∉idxs D/\e.idx<ops.length/\(∀k,k<ops.length->CQ bs e.idx k=true->k∈idxs D)/\(∃o,ops[e.idx]?=some o/\o.dst=e.dst)/\cV ops bs D
def Tc(ops:List A6)(T0:List AH)(log:Cp)(H:AP)(e:Ji)(D:List Ji):Prop:=
 ∃(Ti:List AH) (o:A6),ops[e.idx]?=some o/\(∀t,Ti.getD t .Dk=look T0 D (λ_=>true) t)/\
  (
   (o.op.quiet=true/\(∀d b,o.guard=some (d,b)->PI (Ti.getD d .Dk)=some (some b))/\AV Ti H o.op=some (e.v,H)/\(o.op.pure=true\/∃p:AP->Prop,(e.idx,p)∈log/\∀H1,p H1->AV Ti H1 o.op=some (e.v,H1)))\/
   (∃d b g,o.guard=some (d,b)/\PI (Ti.getD d .Dk)=some g/\g≠some b/\e.v=Co))
def VO(ops:List A6)(T0:List AH)(log:Cp)(H:AP)(L:Nat->Bool):List Ji->Prop
 |[]=>True
 |e::D=>(L e.idx=true\/Tc ops T0 log H e D)/\VO ops T0 log H L D
theorem IL{ops:List A6}{bs:List Nat}:∀{D:List Ji} {e:Ji},cV ops bs D->e∈D->∃D1 D2,D=D1++e::D2/\cV ops bs (e::D2)/\(∀f∈D1,f.idx∉idxs (e::D2)/\∃o,ops[f.idx]?=some o/\o.dst=f.dst)
 |[],_,_,h=>by cases h
 |f::D,e,hok,h=>by
  rcases Qf.1 h with rfl|h
  ·exact⟨[],D,rfl,hok,λf hf=>by cases hf⟩
  ·obtain⟨h1,h2,h3,h4,h5⟩:=hok
   obtain⟨D1,D2,rfl,q1,q2⟩:=IL h5 h
   refine⟨f::D1,D2,rfl,q1,λg hg=> ?_⟩
   rcases Qf.1 hg with rfl|hg
   ·exact⟨λhh=>h1 (by simp only[idxs,QC,QA];exact .inr hh),h4⟩
   ·exact q2 g hg
theorem Yb{ops:List A6}{bs:List Nat}:∀{D1 D2:List Ji} {f:Ji},cV ops bs (D1++D2)->f∈D1->f.idx<ops.length/\∀k,k<ops.length->CQ bs f.idx k=true->k∈idxs (D1++D2)
 |[],_,_,_,h=>by cases h
 |g::D1,D2,f,hok,h=>by
  obtain⟨h1,h2,h3,h4,h5⟩:=hok
  rcases Qf.1 h with rfl|h
  ·exact⟨h2,λk hk hp=>by have:=h3 k hk hp;simp only[idxs,Qy,Qv,Qf];exact .inr this⟩
  ·obtain⟨q1,q2⟩:=Yb h5 h
   exact⟨q1,λk hk hp=>by have:=q2 k hk hp;simp only[idxs,Qy,Qv,Qf]at*;exact .inr this⟩
theorem RR{ops:List A6}{bs:List Nat}:∀{D1 D2:List Ji},cV ops bs (D1++D2)->cV ops bs D2
 |[],_,h=>h
 |_::D1,D2,h=>RR (D1:=D1) h.2.2.2.2
theorem U5(D1 D2:List Ji):idxs (D1++D2)=idxs D1++idxs D2:=QC ..
theorem Lz{ops:List A6}{bs:List Nat}{f:Ji}:∀{E1 E2:List Ji},cV ops bs (E1++E2)->f∈E1->f.idx∉idxs E2
 |[],_,_,h=>by cases h
 |g::E1,E2,hok,h=>by
  have q5:=hok.2.2.2.2
  have q1:g.idx∉idxs (E1++E2):=hok.1
  rcases Qf.1 h with rfl|h
  ·intro hh
   rw[U5]at q1
   exact q1 (List.mem_append_right _ hh)
  ·exact Lz q5 h
theorem TB{ops:List A6}{T0:List AH}{log:Cp}{H:AP}{L:Nat->Bool}:∀{D1 D2:List Ji} {e:Ji},VO ops T0 log H L (D1++e::D2)->L e.idx=true\/Tc ops T0 log H e D2
 |[],_,_,h=>h.1
 |_::D1,D2,e,h=>TB (D1:=D1) h.2
theorem KN{ops:List A6}{T0:List AH}{log log':Cp}{H H':AP}{L L':Nat->Bool}:∀{D:List Ji},VO ops T0 log H L D->(∀e∈D,L e.idx=true->L' e.idx=true)->
 (∀e∈D,L' e.idx=false->∀D2,Tc ops T0 log H e D2->Tc ops T0 log' H' e D2)->VO ops T0 log' H' L' D
 |[],_,_,_=>trivial
 |e::D,h,h1,h2=>by
  refine⟨?_,KN h.2 (λe he=>h1 e (Qb _ he)) (λe he=>h2 e (Qb _ he))⟩
  rcases h.1 with h|h
  ·exact .inl (h1 e Qe h)
  ·cases hL:L' e.idx with
   |true=>exact .inl rfl
   |false=>exact .inr (h2 e Qe hL D h)
theorem KM{ops:List A6}{bs:List Nat}(h:HR ops bs=true){i j:Nat}{a b:A6}(ha:ops[i]?=some a)(hb:ops[j]?=some b)(hij:i≠j){t:Nat}(hd:b.dst=some t)(ht:t∈a.looks\/a.dst=some t):
 CQ bs i j=true\/CQ bs j i=true:=by
 have hi:i<ops.length:=(Ql.1 ha).1
 have hj:j<ops.length:=(Ql.1 hb).1
 unfold HR at h
 rw[Qg]at h
 rcases Nat.lt_or_gt_of_ne hij with hlt|hlt
 ·have h1:=h j (Qr.2 hj)
  rw[Qg]at h1
  have h2:=h1 i (Qr.2 hlt)
  simp only[ha,hb,hd,Qj,Qa,Qm,bne_iff_ne,ne_eq]at h2
  rcases h2 with h2|⟨⟨h2,h3⟩,h4⟩
  ·exact .inr h2
  ·exfalso
   rcases ht with ht|ht
   ·rw[Qk,decide_eq_false_iff_not]at h2;exact h2 ht
   ·exact h3 ht
 ·have h1:=h i (Qr.2 hi)
  rw[Qg]at h1
  have h2:=h1 j (Qr.2 hlt)
  simp only[ha,hb,hd,Qj,Qa,Qm]at h2
  rcases h2 with h2|⟨h2,h3⟩
  ·exact .inl h2
  ·exfalso
   rcases ht with ht|ht
   ·rw[Qk,decide_eq_false_iff_not]at h3;exact h3 ht
   ·rw[ht]at h2
    simp at h2
theorem Ow{op:GS}(h:op.quiet=true):op.JL=op:=by cases op<;>first|rfl|(simp[GS.quiet]at h)
theorem VP{op:GS}(h:∀j b,op≠ .born j b):op.JL=op:=by
 unfold GS.JL
 split
 ·rename_i j b;exact absurd rfl (h j b)
 ·rfl
theorem Ext.back{σ σ':B0}{H:AP}(h:Ext σ H σ' H):Grow σ' H σ H:=by
 refine⟨Nat.le_refl _,fun{o s xs ro} ho=> ?_,fun{o es} ho=>⟨⟨es,ho⟩,(h.map ho).2.symm⟩,fun{o s p} ho=>⟨⟨s,p,ho⟩,(h.iter ho).2.symm⟩⟩
 obtain⟨xs',h1,h2,h3⟩:=h.AU ho
 rw[ho]at h1;injection h1 with h1;injection h1 with _ h1 _;subst h1
 exact⟨xs,ho,Nat.le_refl _,λ_=>(h3 rfl).symm⟩
theorem IZ{nb:Nat}:∀{ops:List A6} {l:List Nat},Gb nb ops l=true->(∀(i:Nat) (o:A6) (j:Nat) (b:EH),ops[i]?=some o->o.op= .born j b->j<nb/\j∉l)/\
 (∀(i i':Nat) (o o':A6) (j j':Nat) (b b':EH),ops[i]?=some o->ops[i']?=some o'->o.op= .born j b->o'.op= .born j' b'->i≠i'->j≠j')
 |[],_,_=>⟨λi o j b h=>by simp at h,λi i' o o' j j' b b' h=>by simp at h⟩
 |a::ops,l,h=>by
  by_cases hb:∃j b,a.op= .born j b
  ·obtain⟨j0,b0,ha⟩:=hb
   simp only[Gb,ha,Qa,decide_eq_true_eq,Qm,Qk,decide_eq_false_iff_not]at h
   obtain⟨⟨h1,h2⟩,h3⟩:=h
   obtain⟨g1,g2⟩:=IZ h3
   constructor
   ·intro i o j b ho hop
    cases i with
    |zero=>simp at ho;subst ho;rw[ha]at hop;injection hop with e _;subst e;exact⟨h1,h2⟩
    |succ i=>
     obtain⟨q1,q2⟩:=g1 i o j b (by simpa using ho) hop
     exact⟨q1,λhh=>q2 (Qb _ hh)⟩
   ·intro i i' o o' j j' b b' ho ho' hop hop' hne
    cases i with
    |zero=>
     cases i' with
     |zero=>exact absurd rfl hne
     |succ i'=>
      simp at ho;subst ho;rw[ha]at hop;injection hop with e _;subst e
      have:=(g1 i' o' j' b' (by simpa using ho') hop').2
      exact λe=>this (by rw[<-e];exact Qe)
    |succ i=>
     cases i' with
     |zero=>
      simp at ho';subst ho';rw[ha]at hop';injection hop' with e _;subst e
      have:=(g1 i o j b (by simpa using ho) hop).2
      exact λe=>this (by rw[e];exact Qe)
     |succ i'=>exact g2 i i' o o' j j' b b' (by simpa using ho) (by simpa using ho') hop hop' (by omega)
  ·have hnb:∀j b,a.op≠ .born j b:=λj b e=>hb ⟨j,b,e⟩
   have h':Gb nb ops l=true:=by
    unfold Gb at h
    split at h
    ·rename_i k b hop;exact absurd hop (hnb k b)
    ·exact h
   obtain⟨g1,g2⟩:=IZ h'
   constructor
   ·intro i o j b ho hop
    cases i with
    |zero=>simp at ho;subst ho;exact absurd hop (hnb j b)
    |succ i=>exact g1 i o j b (by simpa using ho) hop
   ·intro i i' o o' j j' b b' ho ho' hop hop' hne
    cases i with
    |zero=>simp at ho;subst ho;exact absurd hop (hnb j b)
    |succ i=>
     cases i' with
     |zero=>simp at ho';subst ho';exact absurd hop' (hnb j' b')
     |succ i'=>exact g2 i i' o o' j j' b b' (by simpa using ho) (by simpa using ho') hop hop' (by omega)
theorem dv{P:Program}{o:A6}{K:St->Prop}{s:St}(h:Bu P o K s):Bu P o (λs'=>K s'/\∀k:Nat,s.H[k]?=some .A1->s'.H[k]?=some .A1) s:=by
 unfold Bu at h ⊢
 split at h
 ·exact h.aj.mono λv H' ⟨a,b⟩=>⟨a,λk hk=>(b k hk).1⟩
 ·split at h
  ·exact⟨h.1,h.2.aj.mono λv H' ⟨a,b⟩=>⟨a,λk hk=>(b k hk).1⟩⟩
  ·exact h.elim
 ·split at h
  ·rename_i hs;exact⟨h,λk hk=>(G1 (x:= .A1) hk hs).2⟩
  ·exact h.elim
section drawn
variable {P:Program}{R:Array Oper}{ops:List A6}{aft:List (List Nat)}{n0:Nat}{T0:List AH}{B:Nat->Prop}{σ0:B0}{H0:AP}{w0:World}{K:St->Prop}{Q:Exit->Act->World->Prop}
def Eh(listed:Array Bool)(i:Nat):Bool:=listed.getD i true
structure Inv (P:Program) (ops:List A6) (aft:List (List Nat)) (n0:Nat) (T0:List AH) (B:Nat->Prop) (σ0:B0) (H0:AP) (w0:World) (K:St->Prop) (listed:Array Bool) (D:List Ji) (rest:List Nat) (log:Cp) (s:St) (σ:B0) (a:Act) (w:World):Prop where
 size:listed.size=ops.length
 dC:∀i,i<ops.length->Eh listed i=true->i∈idxs D
 ok:cV ops (Cy aft []) D
 ord:Gp ops (Cy aft []) rest (idxs D)=true
 walk:Ab P n0 (CQ (Cy aft [])) (C5 ops rest) log K s
 eager:∀t,s.T.getD t .Dk=look T0 D (λ_=>true) t
 len:s.T.length=T0.length
 bS:VO ops T0 log s.H (Eh listed) D
 du:a.tmps.size=T0.length
 cu:∀t v,a.tmps[t]?=some v->VR σ s.H (look T0 D (Eh listed) t) v
 down:∀i es,aft[i]?=some es->Eh listed i=true->∀e∈es,Eh listed e=true
 rel:BL B σ s.H w
 ext:Ext σ0 H0 σ s.H
 below:Kept B w0 w
 defers:a.defers=[]
 RG:Kq log
 LF:∀(i:Nat) (o:A6) (j:Nat) (b:EH),ops[i]?=some o->o.op= .born j b->i∉idxs D->s.H[n0+j]?=some .A1
 real:∃vs,BQ σ s.H s.T vs
 base:H0.length<=n0
theorem Inv.nG{listed:Array Bool}{D:List Ji}{rest:List Nat}{log:Cp}{s:St}{σ:B0}{a:Act}{w:World}(h:Inv P ops aft n0 T0 B σ0 H0 w0 K listed D rest log s σ a w):
 BQ σ s.H ((Qh T0.length).map (look T0 D (Eh listed))) a.tmps.toList:=by
 rw[H4]
 refine⟨by simp[h.du],λi hi hi'=> ?_⟩
 simp only[List.getElem_map,List.getElem_range]
 exact h.cu i _ (by rw[<-Qi];exact Qc hi')
theorem VT(f:Nat->AH)(n t:Nat)(hf:∀t,n<=t->f t= .Dk):((Qh n).map f).getD t .Dk=f t:=by
 by_cases h:t<n
 ·simp[Qx,h]
 ·simp[Qx,h,hf t (by omega)]
theorem az{D:List Ji}{L:Nat->Bool}{t:Nat}(h:T0.length<=t):look T0 D L t= .Dk:=by
 induction D with
 |nil=>simp[look,Qx,h]
 |cons e D ih=>simp only[look];rw[if_neg (by omega)];exact ih
theorem M5(D:List Ji)(L:Nat->Bool)(t:Nat):((Qh T0.length).map (look T0 D L)).getD t .Dk=look T0 D L t:=VT _ _ _ (λt h=>az h)
theorem Inv.looks(hp:HR ops (Cy aft [])=true)(hb:Ga aft 0=true){listed:Array Bool}{D:List Ji}{rest:List Nat}{log:Cp}{s:St}{σ:B0}{a:Act}{w:World}
 (h:Inv P ops aft n0 T0 B σ0 H0 w0 K listed D rest log s σ a w) {i:Nat} {es:List Nat} {o:A6} (hi:aft[i]?=some es) (ho:ops[i]?=some o) (hL:Eh listed i=false) (hr:∀e∈es,Eh listed e=true)
 {D1 D2:List Ji} {t:Nat} (ht:t∈o.looks\/o.dst=some t):
 (∀e,D=D1++e::D2->e.idx=i->look T0 D (Eh listed) t=look T0 D2 (λ_=>true) t/\∀f∈D1,f.dst=some t->Eh listed f.idx=false)/\(i∉idxs D->look T0 D (Eh listed) t=look T0 D (λ_=>true) t):=by
 have hpre:=Iu hb (λi=>Eh listed i=true) (λi es h1 h2=>h.down i es h1 h2) i es hi hr
 have hin:i<ops.length:=(Ql.1 ho).1
 -- whoever writes there and has been done ahead
 have ahead:∀(f:Ji),f∈D->f.dst=some t->f.idx≠i->(CQ (Cy aft []) f.idx i=true->Eh listed f.idx=false)/\(CQ (Cy aft []) i f.idx=true\/CQ (Cy aft []) f.idx i=true):=by
  intro f hf hd hne
  obtain⟨E1,E2,rfl,q1,-⟩:=IL h.ok hf
  obtain⟨-,hfl,-,⟨of,hof,hofd⟩,-⟩:=q1
  refine⟨λhpf=> ?_,KM hp ho hof (QN hne) (hofd.trans hd) ht⟩
  cases hLf:Eh listed f.idx with
  |false=>rfl
  |true=>
   exfalso
   cases haf:aft[f.idx]? with
   |none=>
    have hlen:(Cy aft []).length=aft.length:=by obtain⟨r,hr,hl⟩:=JC aft [];rw[hr];simpa using hl
    rw[QF]at haf
    unfold CQ at hpf
    rw[Qx,QJ (by omega)]at hpf
    simp at hpf
   |some es'=>
    have:=Iu hb (λi=>Eh listed i=true) (λi es h1 h2=>h.down i es h1 h2) f.idx es' haf (h.down _ _ haf hLf) i hpf
    rw[hL]at this;cases this
 constructor
 ·rintro e rfl rfl
  have hok:=h.ok
  have hsplit:=RR (D1:=D1) hok
  obtain⟨hnin,-,hpr,-,hok2⟩:=hsplit
  have hd1:∀f∈D1,f.idx≠e.idx:=by
   intro f hf heq
   have hall:∀{E1 E2:List Ji},cV ops (Cy aft []) (E1++E2)->f∈E1->f.idx∉idxs E2:=λh1 h2=>Lz h1 h2
   exact hall hok hf (by simp[idxs,heq])
  have later:∀f∈D1,f.dst=some t->Eh listed f.idx=false:=by
   intro f hf hd
   obtain⟨g1,g2⟩:=ahead f (by simp[hf]) hd (hd1 f hf)
   rcases g2 with g2|g2
   ·-- f comes ahead of i, and was done behind it
    exfalso
    have hfl:=(Yb hok hf).1
    have:=hpr f.idx hfl g2
    have hall:∀{E1 E2:List Ji},cV ops (Cy aft []) (E1++E2)->f∈E1->f.idx∉idxs E2:=λh1 h2=>Lz h1 h2
    exact hall hok hf (by simp only[idxs,Qv,Qf];exact .inr this)
   ·exact g1 g2
  refine⟨?_,later⟩
  rw[OB (D1:=D1) (D2:=e::D2)]
  ·simp only[look,hL,QO,false_and,if_false]
   refine G6 λf hf hd=> ?_
   have hne:f.idx≠e.idx:=λheq=>hnin (by rw[<-heq];exact Qp hf)
   obtain⟨g1,g2⟩:=ahead f (by simp[hf]) hd hne
   rcases g2 with g2|g2
   ·exact hpre _ g2
   ·-- it was done ahead of i, and i ahead of it
    exfalso
    obtain⟨E1,E2,rfl,q1,-⟩:=IL hok2 hf
    have:=q1.2.2.1 e.idx hin g2
    exact hnin (by simp only[idxs,QC,Qv,QA,Qf];exact .inr (.inr this))
  ·exact later
 ·intro hni
  refine G6 λf hf hd=> ?_
  have hne:f.idx≠i:=λheq=>hni (by rw[<-heq];exact Qp hf)
  obtain⟨g1,g2⟩:=ahead f hf hd hne
  rcases g2 with g2|g2
  ·exact hpre _ g2
  ·exfalso
   obtain⟨E1,E2,rfl,q1,-⟩:=IL h.ok hf
   have:=q1.2.2.1 i hin g2
   exact hni (by simp only[idxs,QC,Qv,QA,Qf];exact .inr (.inr this))
theorem En{bs:List Nat}{i:Nat}{rest done:List Nat}(h:Gp ops bs (i::rest) done=true):i∉done/\i<ops.length/\(∀j,j<ops.length->CQ bs i j=true->j∈done)/\
 (∃o,ops[i]?=some o/\(o.op.quiet=true\/∀k∈rest,CQ bs k i=true\/∃o',ops[k]?=some o'/\o'.op.Wc=true))/\Gp ops bs rest (i::done)=true:=by
 simp only[Gp,Qa,Qm,decide_eq_true_eq]at h
 obtain⟨⟨⟨⟨h1,h2⟩,h3⟩,h4⟩,h5⟩:=h
 refine⟨by rw[Qk,decide_eq_false_iff_not]at h1;exact h1,h2,λj hj hp=> ?_,?_,h5⟩
 ·have:=(Qg.1 h3) j (Qr.2 hj)
  rw[hp]at this
  simpa using this
 ·split at h4
  ·rename_i o ho
   refine⟨o,ho,?_⟩
   rw[Qj]at h4
   refine h4.imp id λh k hk=> ?_
   have:=Qg.1 h k hk
   rw[Qj]at this
   refine this.imp id λh=> ?_
   split at h
   ·rename_i o' ho';exact⟨o',ho',h⟩
   ·cases h
  ·cases h4
theorem FQ{bs:List Nat}:∀{rest done:List Nat},Gp ops bs rest done=true->rest.Nodup/\∀k∈rest,k∉done/\k<ops.length
 |[],_,_=>⟨List.nodup_nil,λ_ h=>by cases h⟩
 |i::rest,done,h=>by
  obtain⟨h1,h2,-,-,h5⟩:=En h
  obtain⟨g1,g2⟩:=FQ h5
  refine⟨QD.2 ⟨λhi=>(g2 i hi).1 Qe,g1⟩,λk hk=> ?_⟩
  rcases Qf.1 hk with rfl|hk
  ·exact⟨h1,h2⟩
  ·exact⟨λhh=>(g2 k hk).1 (Qb _ hh),(g2 k hk).2⟩
theorem L4{bs:List Nat}:∀{rest done:List Nat},Gp ops bs rest done=true->∀i,i<ops.length->i∈rest\/i∈done
 |[],done,h,i,hi=>by
  simp only[Gp]at h
  have:=(Qg.1 h) i (Qr.2 hi)
  exact .inr (by simpa using this)
 |x::rest,done,h,i,hi=>by
  obtain⟨-,-,-,-,h5⟩:=En h
  rcases L4 h5 i hi with hh|hh
  ·exact .inl (Qb _ hh)
  ·rcases Qf.1 hh with rfl|hh
   ·exact .inl Qe
   ·exact .inr hh
theorem Ou{bs:List Nat}:∀{rest d1 d2:List Nat},(∀x,x∈d1↔x∈d2)->Gp ops bs rest d1=true->Gp ops bs rest d2=true
 |[],d1,d2,hd,h=>by
  simp only[Gp]at h ⊢
  rw[Qg]at h ⊢
  intro j hj
  have:=h j hj
  simp only[Qk,decide_eq_true_eq]at this ⊢
  exact(hd j).1 this
 |i::rest,d1,d2,hd,h=>by
  simp only[Gp,Qa,Qm,decide_eq_true_eq]at h ⊢
  obtain⟨⟨⟨⟨h1,h2⟩,h3⟩,h4⟩,h5⟩:=h
  refine⟨⟨⟨⟨?_,h2⟩,?_⟩,h4⟩,Ou (λx=>by simp only[Qf,hd]) h5⟩
  ·rw[Qk,decide_eq_false_iff_not]at h1 ⊢;exact λhh=>h1 ((hd i).2 hh)
  ·rw[Qg]at h3 ⊢
   intro j hj
   have:=h3 j hj
   simp only[Qj,Qm,Qk,decide_eq_true_eq]at this ⊢
   exact this.imp id (hd j).1
theorem OJ{bs:List Nat}{i:Nat}{B:List Nat}:∀{A done:List Nat},Gp ops bs (A++i::B) done=true->Gp ops bs (A++B) (i::done)=true
 |[],done,h=>(En h).2.2.2.2
 |k::A,done,h=>by
  have hn:=FQ h
  have hki:k≠i:=λe=>(QD.1 hn.1).1 (by rw[e];simp)
  have h0:=h
  simp only[Qy,Gp,Qa,Qm,decide_eq_true_eq]at h ⊢
  obtain⟨⟨⟨⟨h1,h2⟩,h3⟩,h4⟩,h5⟩:=h
  refine⟨⟨⟨⟨?_,h2⟩,?_⟩,?_⟩,?_⟩
  ·rw[Qk,decide_eq_false_iff_not]at h1 ⊢
   exact λhh=>(Qf.1 hh).elim hki h1
  ·rw[Qg]at h3 ⊢
   intro j hj
   have:=h3 j hj
   simp only[Qj,Qm,Qk,decide_eq_true_eq,Qf]at this ⊢
   exact this.imp id .inr
  ·split at h4
   ·rename_i o ho
    simp only[Qj,Qg]at h4 ⊢
    exact h4.imp id λh x hx=>h x (by rcases QA.1 hx with hx|hx<;>simp[hx])
   ·cases h4
  ·exact Ou (λx=>by simp only[Qf];exact⟨λh=>by rcases h with h|h|h<;>simp[h],λh=>by rcases h with h|h|h<;>simp[h]⟩) (OJ h5)
theorem FR{i:Nat}{rest:List Nat}{o:A6}(ho:ops[i]?=some o):C5 ops (i::rest)=(i,o)::C5 ops rest:=by simp only[C5,ho]
theorem MO{A B:List Nat}(h:∀k∈A,k<ops.length):C5 ops (A++B)=C5 ops A++C5 ops B:=by
 induction A with
 |nil=>rfl
 |cons k A ih=>
  have hk:=h k Qe
  have ho:ops[k]?=some ops[k]:=Qc hk
  rw[Qy,FR ho,FR ho,ih (λx hx=>h x (Qb _ hx))]
  rfl
theorem KK{A:List Nat}{p:Nat×A6}(h:p∈C5 ops A):p.1∈A/\ops[p.1]?=some p.2:=by
 induction A with
 |nil=>cases h
 |cons k A ih=>
  simp only[C5]at h
  split at h
  ·rename_i o ho
   rcases Qf.1 h with rfl|h
   ·exact⟨Qe,ho⟩
   ·exact⟨Qb _ (ih h).1,(ih h).2⟩
  ·cases h
theorem Inv.mY(hops:DA P R ops R.toList=true){listed:Array Bool}{D:List Ji}{r:Nat}{rest:List Nat}{log:Cp}{s:St}{σ:B0}{a:Act}{w:World}(h:Inv P ops aft n0 T0 B σ0 H0 w0 K listed D (r::rest) log s σ a w)
 {o:A6} (ho:ops[r]?=some o) (hq:o.op.quiet=true):∃v log' s',Inv P ops aft n0 T0 B σ0 H0 w0 K listed (⟨r,o.dst,v⟩::D) rest log' s' σ a w:=by
 obtain⟨o1,o2,o3,-,o5⟩:=En h.ord
 have hLr:Eh listed r=false:=by
  cases hL:Eh listed r with
  |false=>rfl
  |true=>exact absurd (h.dC r o2 hL) o1
 -- what is the same whatever it yields
 have fin:∀(v:AH) (log':Cp),(∀l∈log,l∈log')->Kq log'->(∃u,VR σ s.H v u)->Ab P n0 (CQ (Cy aft [])) (C5 ops rest) log' K ⟨Ar s.T o.dst v,s.H⟩->Tc ops T0 log' s.H ⟨r,o.dst,v⟩ D->
  ∃v log' s',Inv P ops aft n0 T0 B σ0 H0 w0 K listed (⟨r,o.dst,v⟩::D) rest log' s' σ a w:=by
  intro v log' hsub hst hu hw hp
  refine⟨v,log',⟨Ar s.T o.dst v,s.H⟩,⟨h.size,λi hi hL=>Qb _ (h.dC i hi hL),⟨o1,o2,o3,⟨o,ho,rfl⟩,h.ok⟩,o5,hw,λt=> ?_,by rw[Dq];exact h.len,⟨.inr hp,?_⟩,h.du,λt u hu=> ?_,h.down,h.rel,h.ext,h.below,h.defers,hst,
   λi o' j b hi hb hn=>h.LF i o' j b hi hb (λhh=>hn (Qb _ hh)),?_,h.base⟩⟩
  ·simp only[look,true_and,Eg,h.len,h.eager]
  ·refine KN h.bS (λe _ hL=>hL) (λe _ _ D2 hpe=> ?_)
   obtain⟨Ti,o',q1,q2,q3⟩:=hpe
   exact⟨Ti,o',q1,q2,q3.imp (fun⟨a1,a2,a3,a4⟩=>⟨a1,a2,a3,a4.imp id fun⟨p,a4,a5⟩=>⟨p,hsub _ a4,a5⟩⟩) id⟩
  ·have:=h.cu t u hu
   simp only[look,hLr,QO,false_and,if_false]
   exact this
  ·obtain⟨vs,hvs⟩:=h.real
   obtain⟨u,hu⟩:=hu
   cases hd:o.dst with
   |none=>exact⟨vs,hvs⟩
   |some d=>exact⟨vs.set d u,hvs.set d hu⟩
 have hw:=h.walk
 rw[FR ho]at hw
 have hnb:∀j b,o.op≠ .born j b:=λj b e=>by rw[e]at hq;cases hq
 have run:Kt P n0 (CQ (Cy aft []) r) r o log (λlog' s'=>Ab P n0 (CQ (Cy aft [])) (C5 ops rest) log' K s') s->(∀d b,o.guard=some (d,b)->PI (s.T.getD d .Dk)=some (some b))->
  ∃v log' s',Inv P ops aft n0 T0 B σ0 H0 w0 K listed (⟨r,o.dst,v⟩::D) rest log' s' σ a w:=by
  intro hw hg
  rw[JB hnb,if_pos hq]at hw
  split at hw
  case h_2=>exact hw.elim
  rename_i v H' hst
  have:=EM hq hst
  subst this
  refine fin v _ (λl hl=> ?_) ?_ ?_ hw ⟨s.T,o,ho,h.eager,.inl ⟨hq,hg,hst,?_⟩⟩
  ·split
   ·exact hl
   ·exact Qb _ hl
  ·split
   ·exact h.RG
   ·exact h.RG.step r s.T o.op v
  rotate_left
  ·by_cases hpu:o.op.pure=true
   ·exact .inl hpu
   ·rw[if_neg hpu]
    exact .inr ⟨_,Qe,λH1 h1=>h1⟩
  -- it is real
  obtain⟨vs,hvs⟩:=h.real
  have hrl:r<R.toList.length:=by rw[<-FP hops];exact o2
  have hok:=GM hops ho (Qc hrl)
  simp only[EW,Qa,Qj]at hok
  have hop:OI P o.op (R.toList[r]).op=true:=by
   have:=hok.2
   rw[Ow hq]at this
   rcases this with hop|⟨hop,-⟩
   ·exact hop
   ·exfalso
    unfold Ge at hop
    split at hop
    ·rename_i hao _;rw[hao]at hq;cases hq
    ·rename_i hao _;rw[hao]at hq;cases hq
    ·cases hop
  obtain⟨σ1,u,w1,-,-,hv,he,-⟩:=KX (a:={tmps:=vs.toArray,defers:=[]}) hop hst h.rel (by simpa using hvs)
  exact⟨u,hv.grow he.back⟩
 show ∃v log' s',_
 have hw':De P n0 (CQ (Cy aft []) r) r o log (λlog' s'=>Ab P n0 (CQ (Cy aft [])) (C5 ops rest) log' K s') s:=hw
 unfold De at hw'
 split at hw'
 ·rename_i hg
  exact run hw' (λd b hh=>by rw[hg]at hh;cases hh)
 ·rename_i d b hg
  split at hw'
  case h_2=>exact hw'.elim
  rename_i g hgv
  simp only[Bm]at hgv
  obtain⟨w1,w2⟩:=hw'
  by_cases hgb:g=some b
  ·have:=w1 hgb
   exact run this (λd' b' hh=>by rw[hg]at hh;injection hh with hh;injection hh with e1 e2;subst e1;subst e2;rw[hgv,hgb])
  ·exact fin Co log (λl hl=>hl) h.RG ⟨undef,Ls⟩ (w2 hgb) ⟨s.T,o,ho,h.eager,.inr ⟨d,b,g,hg,hgv,hgb,rfl⟩⟩
theorem Inv.list{listed:Array Bool}{D:List Ji}{rest:List Nat}{log:Cp}{s:St}{σ σ':B0}{a a':Act}{w w':World}(h:Inv P ops aft n0 T0 B σ0 H0 w0 K listed D rest log s σ a w)
 {i:Nat} {es:List Nat} (hi:aft[i]?=some es) (hil:i<ops.length) (hr:∀e∈es,Eh listed e=true) {D1 D2:List Ji} {e:Ji} (hD:D=D1++e::D2) (he:e.idx=i)
 (later:∀t,e.dst=some t->∀f∈D1,f.dst=some t->Eh listed f.idx=false)
 (hH:Holds B σ s.H w ⟨Ar ((Qh T0.length).map (look T0 D (Eh listed))) e.dst e.v,s.H⟩ σ' a' w'):Inv P ops aft n0 T0 B σ0 H0 w0 K (listed.setIfInBounds i true) D rest log s σ' a' w':=by
 have hL':∀j,Eh (listed.setIfInBounds i true) j=(decide (j=i)||Eh listed j):=by
  intro j
  unfold Eh
  by_cases hj:j=i
  ·subst hj
   rw[Qd,Qt]
   split<;>simp
  ·rw[Qd,Qw (QN hj),<-Qd]
   simp[hj]
 have hnin:∀f∈D1,f.idx≠i:=by
  intro f hf heq
  have hok:=h.ok
  rw[hD]at hok
  exact Lz hok hf (by rw[heq,<-he];simp[idxs])
 have hnin2:∀f∈D2,f.idx≠i:=by
  intro f hf heq
  have hok:=h.ok
  rw[hD]at hok
  have:=(RR hok).1
  exact this (by rw[he,<-heq];exact Qp hf)
 refine⟨by simpa using h.size,λj hj hL=> ?_,h.ok,h.ord,h.walk,h.eager,h.len,KN h.bS (λf _ hf=>by rw[hL',hf];simp) (λf _ _ D2 hp=>hp),?_,λt u hu=> ?_,λj es' hj hL e' he'=> ?_,hH.rel,h.ext.trans hH.ext,h.below.trans hH.below,hH.defers,h.RG,h.LF,(let⟨vs,hvs⟩:=h.real;⟨vs,hvs.ext hH.ext⟩),h.base⟩
 ·rw[hL',Qj,decide_eq_true_eq]at hL
  rcases hL with rfl|hL
  ·rw[hD,<-he];simp[idxs]
  ·exact h.dC j hj hL
 ·have:=hH.tmps.length
  simp only[Dq,Qq,Qn]at this
  rw[Array.length_toList]at this
  exact this.symm
 ·have hlt:t<T0.length:=by
   have:=hH.tmps.length
   simp only[Dq,Qq,Qn]at this
   have h2:=(Qo.1 hu).1
   have h3:a'.tmps.toList.length=a'.tmps.size:=rfl
   omega
  have key:look T0 D (Eh (listed.setIfInBounds i true)) t=(Ar ((Qh T0.length).map (look T0 D (Eh listed))) e.dst e.v).getD t .Dk:=by
   rw[Eg,M5]
   simp only[Qq,Qn]
   by_cases hd:e.dst=some t
   ·rw[if_pos ⟨hd,hlt⟩,hD,OB]
    ·simp only[look]
     rw[if_pos ⟨by rw[hL',he];simp,hd,hlt⟩]
    ·intro f hf hfd
     rw[hL',later t hd f hf hfd]
     simp[hnin f hf]
   ·rw[if_neg (λhh=>hd hh.1)]
    refine G6 λf hf hfd=> ?_
    rw[hL']
    have hne:f.idx≠i:=by
     rw[hD]at hf
     rcases QA.1 hf with hf|hf
     ·exact hnin f hf
     ·rcases Qf.1 hf with rfl|hf
      ·exact absurd hfd hd
      ·exact hnin2 f hf
    simp[hne]
  rw[key]
  have hl2:t<(Ar ((Qh T0.length).map (look T0 D (Eh listed))) e.dst e.v).length:=by simp only[Dq,Qq,Qn];exact hlt
  obtain⟨u',hu',hv⟩:=hH.tmps.get (i:=t) (Qc hl2)
  rw[Qi,hu]at hu'
  injection hu' with hu';subst hu'
  simp only[Qx,Qc hl2,QH]
  exact hv
 ·rw[hL',Qj,decide_eq_true_eq]at hL
  rw[hL']
  rcases hL with rfl|hL
  ·rw[hi]at hj;injection hj with hj;subst hj
   rw[hr e' he'];simp
  ·rw[h.down j es' hj hL e' he'];simp
theorem YH{o:A6}{s:St}{v:AH}{K:St->Prop}(hq:o.op.quiet=true)(hs:AV s.T s.H o.op=some (v,s.H))(hK:K ⟨Ar s.T o.dst v,s.H⟩):Bu P o K s:=by
 unfold Bu
 split
 ·rename_i hh;rw[hh]at hq;cases hq
 ·rename_i hh;rw[hh]at hq;cases hq
 ·rw[hs];exact hK
theorem OZ{o:A6}{oR:Oper}{T:List AH}{σ:B0}{H:AP}{a:Act}(hg:JI R o.guard oR.guard=true)(hT:BQ σ H T a.tmps.toList):(o.guard=none->Region.wanted oR (yielded R a.tmps)=true)/\
 (∀d b g,o.guard=some (d,b)->PI (T.getD d .Dk)=some g->Region.wanted oR (yielded R a.tmps)=(g==some b)):=by
 unfold JI at hg
 split at hg
 ·rename_i g1 g2
  exact⟨λ_=>by simp[Region.wanted,g2],λd b g hh _=>by rw[g1]at hh;simp at hh⟩
 ·rename_i d b j b' g1 g2
  simp only[Qa,beq_iff_eq]at hg
  obtain⟨rfl,hj⟩:=hg
  refine⟨(λhh=>by rw[g1]at hh;simp at hh),λd' b' g hh hgv=> ?_⟩
  rw[g1]at hh;injection hh with hh;injection hh with e1 e2;subst e1;subst e2
  simp only[Region.wanted,g2,PB hj hT hgv]
 ·cases hg
theorem Inv.exec(hops:DA P R ops R.toList=true)(hp:HR ops (Cy aft [])=true)(hb:Ga aft 0=true){listed:Array Bool}{D:List Ji}{rest:List Nat}{log:Cp}{s:St}{σ:B0}{a:Act}{w:World}
 (h:Inv P ops aft n0 T0 B σ0 H0 w0 K listed D rest log s σ a w) {i:Nat} {es:List Nat} {oR:Oper} (hi:aft[i]?=some es) (hoR:R[i]?=some oR) (hL:Eh listed i=false) (hr:∀e∈es,Eh listed e=true) (hin:i∈idxs D)
 {K':Act->World->Prop} (hK':∀σ' a' w',Inv P ops aft n0 T0 B σ0 H0 w0 K (listed.setIfInBounds i true) D rest log s σ' a' w'->K' a' w'):wpOp P R Q i K' a w:=by
 obtain⟨e,heD,he⟩:=QS.1 hin
 obtain⟨D1,D2,hD,q1,-⟩:=IL h.ok heD
 obtain⟨-,hil,-,⟨o,ho,hod⟩,-⟩:=q1
 have hpd:=h.bS
 rw[hD]at hpd
 have hpend:=(TB hpd).resolve_left (by rw[he,hL];simp)
 obtain⟨Ti,o',ho',hTi,hcase⟩:=hpend
 rw[ho]at ho';injection ho' with ho';subst ho'
 rw[he]at ho hil
 have hok:EW P R o oR=true:=GM hops ho (by rw[Qi];exact hoR)
 have hvrs:=h.nG
 have hlk:∀t,t∈o.looks\/o.dst=some t->((Qh T0.length).map (look T0 D (Eh listed))).getD t .Dk=Ti.getD t .Dk/\∀f∈D1,f.dst=some t->Eh listed f.idx=false:=by
  intro t ht
  obtain⟨g1,g2⟩:=(h.looks hp hb hi ho hL hr (D1:=D1) (D2:=D2) ht).1 e hD he
  rw[M5,g1,hTi]
  exact⟨rfl,g2⟩
 have hH:Holds B σ s.H w ⟨(Qh T0.length).map (look T0 D (Eh listed)),s.H⟩ σ a w:=⟨h.rel,hvrs,Ext.refl _ _,Kept.refl _ _,h.defers⟩
 have later:∀t,e.dst=some t->∀f∈D1,f.dst=some t->Eh listed f.idx=false:=λt ht=>(hlk t (.inr (by rw[hod];exact ht))).2
 have hg:JI R o.guard oR.guard=true:=by simp only[EW,Qa]at hok;exact hok.1.2
 have hdst:o.dst=oR.dst:=by simp only[EW,Qa,beq_iff_eq]at hok;exact hok.1.1
 obtain⟨wa,wb⟩:=OZ (oR:=oR) hg hvrs
 unfold wpOp
 simp only[hoR]
 rcases hcase with⟨hq,hgd,hst,-⟩|⟨d,b,g,hgd,hgv,hne,hev⟩
 ·have hw:Region.wanted oR (yielded R a.tmps)=true:=by
   cases hgo:o.guard with
   |none=>exact wa hgo
   |some p=>
    obtain⟨d,b⟩:=p
    have:=(hlk d (.inl (by simp[A6.looks,hgo]))).1
    rw[wb d b b hgo (by rw[this];exact hgd d b hgo)];simp
  rw[if_pos hw]
  have hag:Cq ((Qh T0.length).map (look T0 D (Eh listed))) Ti o.op.names:=λt ht=>(hlk t (.inl (by simp[A6.looks,ht]))).1
  refine .inl (JV hok (Ow hq) (K:=λs''=>s''=⟨Ar ((Qh T0.length).map (look T0 D (Eh listed))) o.dst e.v,s.H⟩) (YH hq (by show AV _ s.H o.op=_;rw[HY hag];exact hst) rfl) hH ?_)
  rintro s'' σ' a' w' rfl hh
  refine hK' σ' a' w' (h.list hi hil hr hD he later ?_)
  rw[<-hod];exact hh
 ·have hw:Region.wanted oR (yielded R a.tmps)=false:=by
   have:=(hlk d (.inl (by simp[A6.looks,hgd]))).1
   rw[wb d b g hgd (by rw[this];exact hgv)];simpa using hne
  rw[if_neg (by rw[hw];simp)]
  refine hK' σ _ w (h.list hi hil hr hD he later ?_)
  rw[<-hdst,<-hod,hev]
  exact hH.put o.dst h.rel Ls (Ext.refl _ _) (Kept.refl _ _)
theorem YG{o:A6}{s:St}{T:List AH}{K:St->Prop}(ha:Cq T s.T o.op.names)(h:Bu P o K s):Bu P o (λs''=>∃v H',s''=⟨Ar T o.dst v,H'⟩/\K ⟨Ar s.T o.dst v,H'⟩) ⟨T,s.H⟩:=by
 unfold Bu at h ⊢
 split at h
 ·rename_i f args hop
  rw[hop]at ha
  simp only[Cq.args ha]
  exact h.mono λv H' hk=>⟨v,H',rfl,hk⟩
 ·rename_i y args hop
  rw[hop]at ha
  simp only[ha.left.arg,Cq.args ha.right]
  split at h
  case h_2=>exact h.elim
  rename_i f cap hy
  try simp only[hy]
  exact⟨h.1,h.2.mono λv H' hk=>⟨v,H',rfl,hk⟩⟩
 ·rw[HY ha]
  split at h
  ·rename_i v H' hst
   rw[hst]
   exact⟨v,H',rfl,h⟩
  ·exact h.elim
theorem Lof_set(listed:Array Bool)(i j:Nat):Eh (listed.setIfInBounds i true) j=(decide (j=i)||Eh listed j):=by
 unfold Eh
 by_cases hj:j=i
 ·subst hj
  rw[Qd,Qt]
  split<;>simp
 ·rw[Qd,Qw (QN hj),<-Qd]
  simp[hj]
theorem Inv.both{listed:Array Bool}{D:List Ji}{i:Nat}{rest rest':List Nat}{log:Cp}{s:St}{σ:B0}{a:Act}{w:World}
 (h:Inv P ops aft n0 T0 B σ0 H0 w0 K listed D rest log s σ a w) {es:List Nat} {o:A6} (hi:aft[i]?=some es) (ho:ops[i]?=some o) (hr:∀e∈es,Eh listed e=true)
 (hni:i∉idxs D) (hpr:∀j,j<ops.length->CQ (Cy aft []) i j=true->j∈idxs D) (hord:Gp ops (Cy aft []) rest' (i::idxs D)=true)
 {v:AH} {H':AP} {σ':B0} {a':Act} {w':World} (hw:Ab P n0 (CQ (Cy aft [])) (C5 ops rest') log K ⟨Ar s.T o.dst v,H'⟩)
 (hpd:∀e∈D,Eh listed e.idx=false->∀D2,Tc ops T0 log s.H e D2->Tc ops T0 log H' e D2)
 (hrel:BL B σ' H' w') (htm:BQ σ' H' (Ar ((Qh T0.length).map (look T0 D (Eh listed))) o.dst v) a'.tmps.toList) (hgrow:Grow σ s.H σ' H') (hext:Ext σ0 H0 σ' H') (hbel:Kept B w0 w') (hdef:a'.defers=[])
 (hgh:∀(i':Nat) (o':A6) (j:Nat) (b:EH),ops[i']?=some o'->o'.op= .born j b->i'∉i::idxs D->H'[n0+j]?=some .A1):
 Inv P ops aft n0 T0 B σ0 H0 w0 K (listed.setIfInBounds i true) (⟨i,o.dst,v⟩::D) rest' log ⟨Ar s.T o.dst v,H'⟩ σ' a' w':=by
 have hL':=Lof_set listed i
 have hlen:=htm.length
 simp only[Dq,Qq,Qn]at hlen
 have hil:i<ops.length:=(Ql.1 ho).1
 refine⟨by simpa using h.size,λj hj hLj=> ?_,⟨hni,hil,hpr,⟨o,ho,rfl⟩,h.ok⟩,hord,hw,λt=> ?_,by rw[Dq];exact h.len,⟨.inl (by rw[hL'];simp),?_⟩,hlen.symm,λt u hu=> ?_,λj es' hj hLj e' he'=> ?_,hrel,hext,hbel,hdef,h.RG,hgh,?_,h.base⟩
 ·rw[hL',Qj,decide_eq_true_eq]at hLj
  rcases hLj with rfl|hLj
  ·exact Qe
  ·exact Qb _ (h.dC j hj hLj)
 ·simp only[look,true_and,Eg,h.len,h.eager]
 ·refine KN h.bS (λe _ hLe=>by rw[hL',hLe];simp) (λe he hLe D2 hpe=> ?_)
  rw[hL',QK]at hLe
  exact hpd e he hLe.2 D2 hpe
 ·have hlt:t<T0.length:=by
   have h2:=(Qo.1 hu).1
   have h3:a'.tmps.toList.length=a'.tmps.size:=rfl
   omega
  have key:look T0 (⟨i,o.dst,v⟩::D) (Eh (listed.setIfInBounds i true)) t=(Ar ((Qh T0.length).map (look T0 D (Eh listed))) o.dst v).getD t .Dk:=by
   rw[Eg,M5]
   simp only[Qq,Qn,look]
   rw[hL']
   have:look T0 D (Eh (listed.setIfInBounds i true)) t=look T0 D (Eh listed) t:=G6 λf hf _=>by
    rw[hL']
    have:f.idx≠i:=λheq=>hni (by rw[<-heq];exact Qp hf)
    simp[this]
   rw[this]
   simp
  rw[key]
  have hl2:t<(Ar ((Qh T0.length).map (look T0 D (Eh listed))) o.dst v).length:=by simp only[Dq,Qq,Qn];exact hlt
  obtain⟨u',hu',hv⟩:=htm.get (i:=t) (Qc hl2)
  rw[Qi,hu]at hu'
  injection hu' with hu';subst hu'
  simp only[Qx,Qc hl2,QH]
  exact hv
 ·rw[hL',Qj,decide_eq_true_eq]at hLj
  rw[hL']
  rcases hLj with rfl|hLj
  ·rw[hi]at hj;injection hj with hj;subst hj
   rw[hr e' he'];simp
  ·rw[h.down j es' hj hLj e' he'];simp
 ·obtain⟨vs,hvs⟩:=h.real
  have hvs':=hvs.grow hgrow
  cases hd:o.dst with
  |none=>exact⟨vs,hvs'⟩
  |some d=>
   by_cases hdl:d<T0.length
   ·have hl2:d<(Ar ((Qh T0.length).map (look T0 D (Eh listed))) o.dst v).length:=by simp only[Dq,Qq,Qn];exact hdl
    obtain⟨u,-,hu⟩:=htm.get (i:=d) (Qc hl2)
    have e:(Ar ((Qh T0.length).map (look T0 D (Eh listed))) o.dst v)[d]=v:=by
     simp[Ar,hd]
    rw[e]at hu
    exact⟨vs.set d u,hvs'.set d hu⟩
   ·have e:Ar s.T (some d) v=s.T:=by
     simp only[Ar]
     exact List.set_eq_of_length_le (by rw[h.len];omega)
    rw[e]
    exact⟨vs,hvs'⟩
theorem Inv.tP(hops:DA P R ops R.toList=true)(hp:HR ops (Cy aft [])=true)(hb:Ga aft 0=true){listed:Array Bool}{D:List Ji}{i:Nat}{rest:List Nat}{log:Cp}{s:St}{σ:B0}{a:Act}{w:World}
 (h:Inv P ops aft n0 T0 B σ0 H0 w0 K listed D (i::rest) log s σ a w) {es:List Nat} {oR:Oper} {o:A6} (hi:aft[i]?=some es) (hoR:R[i]?=some oR) (ho:ops[i]?=some o) (hq:o.op.quiet=false) (hnb:∀j b,o.op≠ .born j b) (hL:Eh listed i=false) (hr:∀e∈es,Eh listed e=true)
 {K':Act->World->Prop} (hK':∀v s' σ' a' w',Inv P ops aft n0 T0 B σ0 H0 w0 K (listed.setIfInBounds i true) (⟨i,o.dst,v⟩::D) rest log s' σ' a' w'->K' a' w'):wpOp P R Q i K' a w:=by
 obtain⟨o1,o2,o3,-,o5⟩:=En h.ord
 have hok:EW P R o oR=true:=GM hops ho (by rw[Qi];exact hoR)
 have hvrs:=h.nG
 have hpre:=Iu hb (λi=>Eh listed i=true) (λi es h1 h2=>h.down i es h1 h2) i es hi hr
 have hlk:∀t,t∈o.looks\/o.dst=some t->((Qh T0.length).map (look T0 D (Eh listed))).getD t .Dk=s.T.getD t .Dk:=by
  intro t ht
  rw[M5,(h.looks hp hb hi ho hL hr (D1:=[]) (D2:=[]) ht).2 o1,h.eager]
 have hH:Holds B σ s.H w ⟨(Qh T0.length).map (look T0 D (Eh listed)),s.H⟩ σ a w:=⟨h.rel,hvrs,Ext.refl _ _,Kept.refl _ _,h.defers⟩
 have hg:JI R o.guard oR.guard=true:=by simp only[EW,Qa]at hok;exact hok.1.2
 have hdst:o.dst=oR.dst:=by simp only[EW,Qa,beq_iff_eq]at hok;exact hok.1.1
 obtain⟨wa,wb⟩:=OZ (oR:=oR) hg hvrs
 have fin:∀(v:AH) (H':AP) σ' a' w',Ab P n0 (CQ (Cy aft [])) (C5 ops rest) log K ⟨Ar s.T o.dst v,H'⟩->(∀e∈D,Eh listed e.idx=false->∀D2,Tc ops T0 log s.H e D2->Tc ops T0 log H' e D2)->(∀k:Nat,s.H[k]?=some .A1->H'[k]?=some .A1)->
  Holds B σ s.H w ⟨Ar ((Qh T0.length).map (look T0 D (Eh listed))) o.dst v,H'⟩ σ' a' w'->K' a' w':=by
  intro v H' σ' a' w' hw hpd hgh hh
  exact hK' v _ σ' a' w' (h.both hi ho hr o1 o3 o5 hw hpd hh.rel hh.tmps hh.ext.toGrow (h.ext.trans hh.ext) (h.below.trans hh.below) hh.defers
   (λi' o' j b hi' hb' hn=>hgh _ (h.LF i' o' j b hi' hb' (λhh=>hn (Qb _ hh)))))
 have run:Bu P o (λs'=>Kk (CQ (Cy aft []) i) s'.H log/\Ab P n0 (CQ (Cy aft [])) (C5 ops rest) log K s') s->oR.wp P a w K' Q:=by
  intro hx
  have hag:Cq ((Qh T0.length).map (look T0 D (Eh listed))) s.T o.op.names:=λt ht=>hlk t (.inl (by simp[A6.looks,ht]))
  refine JV hok (VP hnb) (YG hag (dv hx)) hH ?_
  rintro s'' σ' a' w' ⟨v,H',rfl,⟨hchk,hwalk⟩,hgh⟩ hh
  refine fin v H' σ' a' w' hwalk (λe he hLe D2 hpe=> ?_) hgh hh
  obtain⟨Ti,o',q1,q2,q3⟩:=hpe
  refine⟨Ti,o',q1,q2,q3.imp (fun⟨a1,a2,a3,a4⟩=>⟨a1,a2,?_,a4⟩) id⟩
  rcases a4 with hpu|⟨p,a4,a5⟩
  ·exact TC hpu a3 _
  ·rcases K3.1 hchk _ a4 with hc|hc
   ·exact a5 _ hc
   ·exfalso
    have:=hpre e.idx hc
    rw[hLe]at this;cases this
 have hw:=h.walk
 rw[FR ho]at hw
 have hw':De P n0 (CQ (Cy aft []) i) i o log (λlog' s'=>Ab P n0 (CQ (Cy aft [])) (C5 ops rest) log' K s') s:=hw
 unfold wpOp
 simp only[hoR]
 unfold De at hw'
 split at hw'
 ·rename_i hgd
  rw[JB hnb,if_neg (by rw[hq];simp)]at hw'
  rw[if_pos (wa hgd)]
  exact .inl (run hw')
 ·rename_i d b hgd
  split at hw'
  case h_2=>exact hw'.elim
  rename_i g hgv
  simp only[Bm]at hgv
  obtain⟨w1,w2⟩:=hw'
  have hwt:=wb d b g hgd (by rw[hlk d (.inl (by simp[A6.looks,hgd]))];exact hgv)
  by_cases hgb:g=some b
  ·have:=w1 hgb
   rw[JB hnb,if_neg (by rw[hq];simp)]at this
   rw[if_pos (by rw[hwt];simpa using hgb)]
   exact .inl (run this)
  ·rw[if_neg (by rw[hwt];simpa using hgb)]
   refine fin Co s.H σ _ w (w2 hgb) (λe he hLe D2 hpe=>hpe) (λk hk=>hk) ?_
   rw[<-hdst]
   exact hH.put o.dst h.rel Ls (Ext.refl _ _) (Kept.refl _ _)
theorem Inv.ahead(hops:DA P R ops R.toList=true)(hp:HR ops (Cy aft [])=true){nb:Nat}(hbn:Gb nb ops []=true)(hcst:(ops.all λo=>o.op.Du)=true){listed:Array Bool}{D:List Ji}{i:Nat}{Al Bl:List Nat}{log:Cp}{s:St}{σ:B0}{a:Act}{w:World}
 (h:Inv P ops aft n0 T0 B σ0 H0 w0 K listed D (Al++i::Bl) log s σ a w) {o:A6} (ho:ops[i]?=some o) (hm:o.op.Wc=true) (hpr:∀j,j<ops.length->CQ (Cy aft []) i j=true->j∈idxs D):
 ∃v x,Y3 n0 o s.T=some (v,x)/\Ab P n0 (CQ (Cy aft [])) (C5 ops (Al++Bl)) log K ⟨Ar s.T o.dst v,Ih x s.H⟩:=by
 obtain⟨hnd,hmem⟩:=FQ h.ord
 have hAl:∀k∈Al,k<ops.length:=λk hk=>(hmem k (by simp[hk])).2
 have hil:i<ops.length:=(hmem i (by simp)).2
 have hw:=h.walk
 rw[MO hAl,FR ho]at hw
 have hio:i∉Al:=λhh=>(QQ.1 hnd).2.2 i hh i (by simp) rfl
 have hall:∀{k:Nat} {ok:A6},ops[k]?=some ok->ok.op.Du=true:=λhk=>Qg.1 hcst _ (QL hk)
 obtain⟨-,hslots⟩:=IZ hbn
 have slot_ne:∀{k k':Nat} {ok ok':A6},ops[k]?=some ok->ops[k']?=some ok'->k≠k'->∀m,D4 n0 ok=some m->D4 n0 ok'≠some m:=by
  intro k k' ok ok' hk hk' hne m h1 h2
  unfold D4 at h1 h2
  split at h1
  ·rename_i j b e1
   split at h2
   ·rename_i j' b' e2
    simp only[Qu]at h1 h2
    exact hslots k k' ok ok' j j' b b' hk hk' e1 e2 hne (by omega)
   ·cases h2
  ·cases h1
 -- who stands ahead of it does not meddle
 have notpre:∀{L1 L2:List Nat} {done:List Nat} {k:Nat},Gp ops (Cy aft []) (L1++k::L2) done=true->∀j∈L2,CQ (Cy aft []) k j=true->False:=by
  intro L1
  induction L1 with
  |nil=>
   intro L2 done k hh j hj hpj
   obtain⟨-,-,q3,-,q5⟩:=En hh
   have hjl:=(FQ q5).2 j hj
   exact hjl.1 (Qb _ (q3 j hjl.2 hpj))
  |cons x L1 ih=>
   intro L2 done k hh j hj hpj
   exact ih (En hh).2.2.2.2 j hj hpj
 have indep:∀{k:Nat} {ok:A6},k∈Al->ops[k]?=some ok->aF ok o:=by
  intro k ok hk hok
  have hki:k≠i:=λe=>hio (e▸hk)
  have n1:CQ (Cy aft []) i k≠true:=λe=>(hmem k (by simp[hk])).1 (hpr k (hAl k hk) e)
  have n2:CQ (Cy aft []) k i≠true:=by
   obtain⟨L1,L2,rfl⟩:=QP hk
   intro e
   have:=h.ord
   rw[QG,Qy]at this
   exact notpre this i (by simp) e
  refine⟨λt hd=>⟨λht=> ?_,λht=> ?_⟩,λt hd ht=> ?_⟩
  ·exact(KM hp ho hok (QN hki) hd (.inl ht)).elim n1 n2
  ·exact(KM hp ho hok (QN hki) hd (.inr ht)).elim n1 n2
  ·exact(KM hp hok ho hki hd (.inl ht)).elim n2 n1
 have hgh:∀{k:Nat} {ok:A6} {j:Nat} {b:EH},k∈Al++i::Bl->ops[k]?=some ok->ok.op= .born j b->s.H[n0+j]?=some .A1:=λhk hok hb=>h.LF _ _ _ _ hok hb (hmem _ hk).1
 have hpw:(C5 ops Al).Pairwise (λp q=>∀k,D4 n0 p.2=some k->D4 n0 q.2≠some k):=by
  have:∀(L:List Nat),L.Nodup->(C5 ops L).Pairwise (λp q=>∀k,D4 n0 p.2=some k->D4 n0 q.2≠some k):=by
   intro L
   induction L with
   |nil=>intro _;simp[C5]
   |cons x L ih=>
    intro hn
    rw[QD]at hn
    simp only[C5]
    split
    ·rename_i ox hox
     refine List.pairwise_cons.2 ⟨λq hq m h1=> ?_,ih hn.2⟩
     obtain⟨q1,q2⟩:=KK hq
     exact slot_ne hox q2 (λe=>hn.1 (by rw[e];exact q1)) m h1
    ·exact List.Pairwise.nil
  exact this Al (QQ.1 hnd).1
 obtain⟨vs,hvs⟩:=h.real
 obtain⟨e,he⟩:=extract (R:=R) hm (C5 ops Al) (λp hp'=>by
  obtain⟨q1,q2⟩:=KK hp'
  have hrl:p.1<R.toList.length:=by rw[<-FP hops];exact hAl _ q1
  exact⟨hall q2,indep q1 q2,_,GM hops q2 (Qc hrl)⟩) hpw log s ⟨B,σ,w,vs,h.rel,hvs⟩ (λp hp' j b hb=>by
  obtain⟨q1,q2⟩:=KK hp'
  exact hgh (by simp[q1]) q2 hb) hw
 have hfree:Ko (D4 n0 o) s.T s.H:=by
  have hk:∀k,D4 n0 o=some k->s.H[k]?=some .A1:=by
   intro k hk
   unfold D4 at hk
   split at hk
   ·rename_i j b hb
    simp only[Qu]at hk;subst hk
    exact hgh (by simp) ho hb
   ·cases hk
  exact⟨hk,λk e t=>Sy (hvs.refs (hk k e)) t,λk e=>h.rel.refs (hk k e)⟩
 have KC:=front hm (C5 ops Al) (λp hp'=>by
  obtain⟨q1,q2⟩:=KK hp'
  refine⟨hall q2,indep q1 q2,λj b hb=> ?_⟩
  exact λe=>slot_ne ho q2 (λe'=>hio (by rw[e'];exact q1)) _ e (by simp[D4,hb])) log s e h.RG hfree he hw
 have hfr':De P n0 (CQ (Cy aft []) i) i o log (λl' s'=>Ab P n0 (CQ (Cy aft [])) (C5 ops Al++C5 ops Bl) l' K s') s:=KC
 rw[Jz hm]at hfr'
 obtain⟨v,x,e1,hc⟩:=hfr'
 exact⟨v,x,e1,by rw[MO hAl];exact hc⟩
theorem Inv.iM(hops:DA P R ops R.toList=true)(hp:HR ops (Cy aft [])=true)(hb:Ga aft 0=true){nb:Nat}(hbn:Gb nb ops []=true)(hcst:(ops.all λo=>o.op.Du)=true){listed:Array Bool}{D:List Ji}{i:Nat}{Al Bl:List Nat}{log:Cp}{s:St}{σ:B0}{a:Act}{w:World}
 (h:Inv P ops aft n0 T0 B σ0 H0 w0 K listed D (Al++i::Bl) log s σ a w) {es:List Nat} {oR:Oper} {o:A6} (hi:aft[i]?=some es) (hoR:R[i]?=some oR) (ho:ops[i]?=some o) {j:Nat} {b:EH} (hob:o.op= .born j b) (hL:Eh listed i=false) (hr:∀e∈es,Eh listed e=true)
 {K':Act->World->Prop} (hK':∀v s' σ' a' w',Inv P ops aft n0 T0 B σ0 H0 w0 K (listed.setIfInBounds i true) (⟨i,o.dst,v⟩::D) (Al++Bl) log s' σ' a' w'->K' a' w'):wpOp P R Q i K' a w:=by
 have hm:o.op.Wc=true:=by rw[hob];rfl
 obtain⟨hnd,hmem⟩:=FQ h.ord
 obtain⟨hni,hil⟩:=hmem i (by simp)
 have hpre:=Iu hb (λi=>Eh listed i=true) (λi es h1 h2=>h.down i es h1 h2) i es hi hr
 have hpr:∀j,j<ops.length->CQ (Cy aft []) i j=true->j∈idxs D:=λj hj hpj=>h.dC j hj (hpre j hpj)
 have hord:=OJ h.ord
 obtain⟨v,x,he,hw⟩:=h.ahead hops hp hbn hcst ho hm hpr
 have hok:EW P R o oR=true:=GM hops ho (by rw[Qi];exact hoR)
 have hvrs:=h.nG
 have hlk:∀t,t∈o.looks\/o.dst=some t->((Qh T0.length).map (look T0 D (Eh listed))).getD t .Dk=s.T.getD t .Dk:=by
  intro t ht
  rw[M5,(h.looks hp hb hi ho hL hr (D1:=[]) (D2:=[]) ht).2 hni,h.eager]
 have hH:Holds B σ s.H w ⟨(Qh T0.length).map (look T0 D (Eh listed)),s.H⟩ σ a w:=⟨h.rel,hvrs,Ext.refl _ _,Kept.refl _ _,h.defers⟩
 have hg:JI R o.guard oR.guard=true:=by simp only[EW,Qa]at hok;exact hok.1.2
 have hdst:o.dst=oR.dst:=by simp only[EW,Qa,beq_iff_eq]at hok;exact hok.1.1
 obtain⟨wa,wb⟩:=OZ (oR:=oR) hg hvrs
 have hgk:s.H[n0+j]?=some .A1:=h.LF i o j b ho hob hni
 obtain⟨-,hslots⟩:=IZ hbn
 unfold wpOp
 simp only[hoR]
 unfold Y3 at he
 -- is it wanted?
 have gv:Fx o s.T=none->False:=λe=>by rw[e]at he;cases he
 cases hgv:Fx o s.T with
 |none=>exact(gv hgv).elim
 |some q=>
  rw[hgv]at he
  cases q with
  |false=>
   simp only[Qu,Prod.mk.injEq]at he
   obtain⟨rfl,rfl⟩:=he
   have hwt:Region.wanted oR (yielded R a.tmps)=false:=by
    unfold Fx at hgv
    split at hgv
    ·cases hgv
    ·rename_i d b' hgd
     split at hgv
     ·rename_i g hgg
      simp only[Bm]at hgg
      rw[wb d b' g hgd (by rw[hlk d (.inl (by simp[A6.looks,hgd]))];exact hgg)]
      simpa using hgv
     ·cases hgv
   rw[if_neg (by rw[hwt];simp)]
   have hh:Holds B σ s.H w ⟨Ar ((Qh T0.length).map (look T0 D (Eh listed))) o.dst Co,s.H⟩ σ (a.put oR.dst undef) w:=by
    rw[<-hdst];exact hH.put o.dst h.rel Ls (Ext.refl _ _) (Kept.refl _ _)
   exact hK' Co _ σ _ w (h.both hi ho hr hni hpr hord hw (λe he hLe D2 hpe=>hpe) hh.rel hh.tmps hh.ext.toGrow (h.ext.trans hh.ext) (h.below.trans hh.below) hh.defers
    (λi' o' j' b' hi' hb' hn=>h.LF i' o' j' b' hi' hb' (λhh=>hn (Qb _ hh))))
  |true=>
   simp only[Ux,hob,Option.map_eq_some_iff,Prod.mk.injEq]at he
   obtain⟨⟨v',y⟩,hbs,rfl,rfl⟩:=he
   have hwt:Region.wanted oR (yielded R a.tmps)=true:=by
    unfold Fx at hgv
    split at hgv
    ·rename_i hgd;exact wa hgd
    ·rename_i d b' hgd
     split at hgv
     ·rename_i g hgg
      simp only[Bm]at hgg
      rw[wb d b' g hgd (by rw[hlk d (.inl (by simp[A6.looks,hgd]))];exact hgg)]
      simpa using hgv
     ·cases hgv
   rw[if_pos hwt]
   have hag:Cq ((Qh T0.length).map (look T0 D (Eh listed))) s.T (GS.born j b).names:=λt ht=>hlk t (.inl (by rw[A6.looks,hob];simp[ht]))
   have hop:OI P b.Z3 oR.op=true:=by
    simp only[EW,Qa,Qj]at hok
    have:=hok.2
    rw[hob]at this
    rcases this with hop|⟨hop,-⟩
    ·exact hop
    ·simp[Ge]at hop
   have hc:b.Du=true:=by
    have:=Qg.1 hcst _ (QL ho)
    rw[hob]at this;exact this
   rw[<-IY hag]at hbs
   obtain⟨σ1,p,u,w1,hrun,hR1,hv,he1,hk1⟩:=Sg hop hc hgk hbs h.rel hvrs
   have hkl:H0.length<=n0+j:=Nat.le_trans h.base (Nat.le_add_right _ _)
   have hnew:=Un hbs
   have hgrow:Grow σ s.H (σ1.Ec (n0+j) p) (s.H.set (n0+j) y):=he1.toGrow.trans (Ly hgk y p)
   have hextf:Ext σ0 H0 (σ1.Ec (n0+j) p) (s.H.set (n0+j) y):=(h.ext.trans he1).fill hgk hkl hnew p
   have inv:Inv P ops aft n0 T0 B σ0 H0 w0 K (listed.setIfInBounds i true) (⟨i,o.dst,v'⟩::D) (Al++Bl) log ⟨Ar s.T o.dst v',s.H.set (n0+j) y⟩ (σ1.Ec (n0+j) p) (a.put o.dst u) w1:=by
    refine h.both hi ho hr hni hpr hord hw (λe he hLe D2 hpe=> ?_) hR1 (YK (hvrs.grow hgrow) o.dst hv) hgrow hextf (h.below.trans hk1) (by rw[put_defers];exact h.defers) (λi' o' j' b' hi' hb' hn=> ?_)
    ·obtain⟨Ti,o',q1,q2,q3⟩:=hpe
     exact⟨Ti,o',q1,q2,q3.imp (fun⟨a1,a2,a3,a4⟩=>⟨a1,a2,(G1 hgk a3).1,a4⟩) id⟩
    ·have hne:i'≠i:=λe=>hn (by rw[e];exact Qe)
     have:=hslots i' i o' o j' j b' b hi' ho hb' hob hne
     rw[List.getElem?_set_ne (by omega)]
     exact h.LF i' o' j' b' hi' hb' (λhh=>hn (Qb _ hh))
   have key:=hK' v' _ _ _ _ inv
   refine .inl ?_
   unfold Oper.wp
   rw[hdst]at key
   rcases hrun with hrun|⟨hrun,rfl⟩
   ·rw[hrun];exact key
   ·rw[hrun];exact key
theorem Inv.reach(hops:DA P R ops R.toList=true){i:Nat}:∀{rest:List Nat} {listed:Array Bool} {D:List Ji} {log:Cp} {s:St} {σ:B0} {a:Act} {w:World},Inv P ops aft n0 T0 B σ0 H0 w0 K listed D rest log s σ a w->i<ops.length->
 (∀j,CQ (Cy aft []) i j=true->Eh listed j=true)->(∀o,ops[i]?=some o->o.op.Wc=false)->i∉idxs D->
 (∃D' rest' log' s',Inv P ops aft n0 T0 B σ0 H0 w0 K listed D' rest' log' s' σ a w/\i∈idxs D')\/(∃D' rest' log' s' o,Inv P ops aft n0 T0 B σ0 H0 w0 K listed D' (i::rest') log' s' σ a w/\ops[i]?=some o/\o.op.quiet=false)
 |[],listed,D,log,s,σ,a,w,h,hi,_,_,hni=>by
  exfalso
  rcases L4 h.ord i hi with hh|hh
  ·cases hh
  ·exact hni hh
 |r::rest,listed,D,log,s,σ,a,w,h,hi,hpre,hmov,hni=>by
  obtain⟨o1,o2,o3,⟨o,ho,hq⟩,o5⟩:=En h.ord
  by_cases hri:r=i
  ·subst hri
   cases hqq:o.op.quiet with
   |false=>exact .inr ⟨D,rest,log,s,o,h,ho,hqq⟩
   |true=>
    obtain⟨v,log',s',h'⟩:=h.mY hops ho hqq
    exact .inl ⟨_,_,_,_,h',by simp[idxs]⟩
  ·have hin:i∈rest:=by
    rcases L4 o5 i hi with hh|hh
    ·exact hh
    ·rcases Qf.1 hh with hh|hh
     ·exact absurd hh.symm hri
     ·exact absurd hh hni
   rcases hq with hq|hq
   ·obtain⟨v,log',s',h'⟩:=h.mY hops ho hq
    exact Inv.reach hops h' hi hpre hmov (by simp only[idxs,Qv,Qf,not_or];exact⟨QN hri,hni⟩)
   ·exfalso
    rcases hq i hin with hq|⟨o',ho',hm⟩
    ·have:=hpre r hq
     exact o1 (h.dC r o2 this)
    ·rw[hmov o' ho']at hm;cases hm
theorem Inv.Zh(hops:DA P R ops R.toList=true)(hp:HR ops (Cy aft [])=true){nb:Nat}(hbn:Gb nb ops []=true)(hcst:(ops.all λo=>o.op.Du)=true){listed:Array Bool}{D:List Ji}{i:Nat}{Al Bl:List Nat}{log:Cp}{s:St}{σ:B0}{a:Act}{w:World}
 (h:Inv P ops aft n0 T0 B σ0 H0 w0 K listed D (Al++i::Bl) log s σ a w) {o:A6} (ho:ops[i]?=some o) (hpu:o.op.pure=true) (hpr:∀j,j<ops.length->CQ (Cy aft []) i j=true->j∈idxs D):
 ∃D' rest' log' s',Inv P ops aft n0 T0 B σ0 H0 w0 K listed D' rest' log' s' σ a w/\i∈idxs D':=by
 have hq:=Iv hpu
 have hnb:∀j b,o.op≠ .born j b:=λj b e=>by rw[e]at hq;cases hq
 have hm:o.op.Wc=true:=by
  unfold GS.Wc
  split
  ·rename_i k b e;exact absurd e (hnb k b)
  ·exact hpu
 obtain⟨v,x,he,hw⟩:=h.ahead hops hp hbn hcst ho hm hpr
 obtain⟨hnd,hmem⟩:=FQ h.ord
 obtain⟨hni,hil⟩:=hmem i (by simp)
 have hord:=OJ h.ord
 -- the same, with it at the front
 have h':Inv P ops aft n0 T0 B σ0 H0 w0 K listed D (i::(Al++Bl)) log s σ a w:=by
  refine⟨h.size,h.dC,h.ok,?_,?_,h.eager,h.len,h.bS,h.du,h.cu,h.down,h.rel,h.ext,h.below,h.defers,h.RG,h.LF,h.real,h.base⟩
  ·simp only[Gp,Qa,Qm,decide_eq_true_eq]
   refine⟨⟨⟨⟨by rw[Qk,decide_eq_false_iff_not];exact hni,hil⟩,?_⟩,by rw[ho];simp[hq]⟩,hord⟩
   rw[Qg]
   intro j hj
   rw[Qr]at hj
   cases hpj:CQ (Cy aft []) i j with
   |false=>simp
   |true=>simpa using hpr j hj hpj
  ·rw[FR ho]
   show De P n0 (CQ (Cy aft []) i) i o log (λl' s'=>Ab P n0 (CQ (Cy aft [])) (C5 ops (Al++Bl)) l' K s') s
   rw[Jz hm]
   exact⟨v,x,he,hw⟩
 obtain⟨v,log',s',h''⟩:=h'.mY hops ho hq
 exact⟨_,_,_,_,h'',by simp[idxs]⟩
theorem Inv.any(hops:DA P R ops R.toList=true)(haft:Od aft R.toList=true)(hal:aft.length=ops.length)(hp:HR ops (Cy aft [])=true)(hb:Ga aft 0=true){nb:Nat}(hbn:Gb nb ops []=true)(hcst:(ops.all λo=>o.op.Du)=true)(hQ:∀s σ a w,K s->Holds B σ0 H0 w0 s σ a w->Q .normal a w):
 ∀(fuel:Nat) (u:List Nat) (listed:Array Bool) (D:List Ji) (rest:List Nat) (log:Cp) (s:St) (σ:B0) (a:Act) (w:World),u.length<=fuel->(∀i,i<ops.length->Eh listed i=false->i∈u)->
  Inv P ops aft n0 T0 B σ0 H0 w0 K listed D rest log s σ a w->wpAny P .any R Q fuel listed a w:=by
 have hlen:R.size=ops.length:=by rw[FP hops];rfl
 -- who is ready
 have hready:∀{listed:Array Bool} {i:Nat},listed.size=ops.length->i∈Region.ready .any R listed->∃oR es,R[i]?=some oR/\aft[i]?=some es/\Eh listed i=false/\(∀e∈es,Eh listed e=true):=by
  intro listed i hsz hi
  obtain⟨h1,oR,h2,h3⟩:=mem_ready.1 hi
  refine⟨oR,_,h2,N0 haft (by rw[Qi];exact h2),h1,λe he=> ?_⟩
  obtain⟨ed,hed,rfl⟩:=QS.1 he
  rw[QR]at hed
  have:=h3 ed (by rw[<-QM];exact hed.1) hed.2
  unfold Eh
  rw[Qd]at this ⊢
  cases hh:listed[ed.on]? with
  |none=>simp
  |some b=>rw[hh]at this;simpa using this
 -- nobody is ready: all have been
 have hdone:∀{listed:Array Bool},listed.size=ops.length->Region.ready .any R listed=[]->∀i,i<ops.length->Eh listed i=true:=by
  intro listed hsz hnil i
  have hback:∀(l:List (List Nat)) (k:Nat),Ga l k=true->∀i es,l[i]?=some es->∀e∈es,e<k+i:=by
   intro l
   induction l with
   |nil=>intro k _ i es h;simp at h
   |cons es0 l ih=>
    intro k hk i es h e he
    simp only[Ga,Qa]at hk
    cases i with
    |zero=>simp only[QB,Qu]at h;subst h;simpa using(Qg.1 hk.1) e he
    |succ i=>have:=ih (k+1) hk.2 i es (by simpa using h) e he;omega
  induction i using Nat.strongRecOn with
  |_ i ih=>
   intro hi
   cases hL:Eh listed i with
   |true=>rfl
   |false=>
    exfalso
    have hiR:i<R.size:=by omega
    have hmem:i∈Region.ready .any R listed:=by
     rw[mem_ready]
     refine⟨hL,R[i],Qz hiR,λe he hbd=> ?_⟩
     have hes:=N0 haft (i:=i) (o:=R[i]) (by rw[Qi];exact Qz hiR)
     have hlt:=hback aft 0 hb i _ hes e.on (Qp (QR.2 ⟨QM.2 he,hbd⟩))
     have:=ih e.on (by omega) (by omega)
     unfold Eh at this
     have hin:e.on<listed.size:=by omega
     rw[Qd,Qz hin]at this ⊢
     simpa using this
    rw[hnil]at hmem;cases hmem
 have hend:∀{listed:Array Bool} {D:List Ji} {rest:List Nat} {log:Cp} {s:St} {σ:B0} {a:Act} {w:World},Inv P ops aft n0 T0 B σ0 H0 w0 K listed D rest log s σ a w->Region.ready .any R listed=[]->Q .normal a w:=by
  intro listed D rest log s σ a w h hnil
  have hall:=hdone h.size hnil
  have hrest:rest=[]:=by
   cases rest with
   |nil=>rfl
   |cons r rest=>
    obtain⟨o1,o2,-⟩:=En h.ord
    exact absurd (h.dC r o2 (hall r o2)) o1
  subst hrest
  have hw:K s:=h.walk
  refine hQ s σ a w hw ⟨h.rel,?_,h.ext,h.below,h.defers⟩
  rw[H4]
  refine⟨by rw[h.len,<-h.du];rfl,λi hi hi'=> ?_⟩
  have:=h.cu i a.tmps.toList[i] (by rw[<-Qi];exact Qc hi')
  have e1:look T0 D (Eh listed) i=look T0 D (λ_=>true) i:=G6 λf hf _=>by
   obtain⟨E1,E2,rfl,q1,-⟩:=IL h.ok hf
   exact hall f.idx q1.2.1
  rw[e1,<-h.eager i]at this
  simpa [Qx,Qc hi] using this
 intro fuel
 induction fuel with
 |zero=>
  intro u listed D rest log s σ a w hu hun h
  have hu0:u=[]:=List.eq_nil_of_length_eq_zero (by omega)
  subst hu0
  have hnil:Region.ready .any R listed=[]:=by
   cases hr:Region.ready .any R listed with
   |nil=>rfl
   |cons i l=>
    exfalso
    obtain⟨oR,es,h1,h2,h3,h4⟩:=hready h.size (i:=i) (by rw[hr];exact Qe)
    have hi:i<ops.length:=by have:=(Qo.1 h1).1;omega
    have:=hun i hi h3
    cases this
  exact⟨hnil,hend h hnil⟩
 |succ fuel ih=>
  intro u listed D rest log s σ a w hu hun h
  refine⟨λhnil=>hend h hnil,λi hi=> ?_⟩
  obtain⟨oR,es,h1,h2,h3,h4⟩:=hready h.size hi
  have hil:i<ops.length:=by have:=(Qo.1 h1).1;omega
  have hiu:=hun i hil h3
  have hpre:=Iu hb (λi=>Eh listed i=true) (λi es h1 h2=>h.down i es h1 h2) i es h2 h4
  have hL':∀j,Eh (listed.setIfInBounds i true) j=(decide (j=i)||Eh listed j):=by
   intro j
   unfold Eh
   by_cases hj:j=i
   ·subst hj
    rw[Qd,Qt]
    split<;>simp
   ·rw[Qd,Qw (QN hj),<-Qd]
    simp[hj]
  have hu':(u.erase i).length<=fuel:=by rw[List.length_erase_of_mem hiu];omega
  have hun':∀j,j<ops.length->Eh (listed.setIfInBounds i true) j=false->j∈u.erase i:=by
   intro j hj hLj
   rw[hL',QK,decide_eq_false_iff_not]at hLj
   exact(List.mem_erase_of_ne hLj.1).2 (hun j hj hLj.2)
  have walked:∀{D:List Ji} {rest:List Nat} {log:Cp} {s:St},Inv P ops aft n0 T0 B σ0 H0 w0 K listed D rest log s σ a w->i∈idxs D->wpOp P R Q i (wpAny P .any R Q fuel (listed.setIfInBounds i true)) a w:=
   λh hin=>h.exec hops hp hb h2 h1 h3 h4 hin λσ' a' w' h'=>ih (u.erase i) _ _ _ _ _ σ' a' w' hu' hun' h'
  by_cases hin:i∈idxs D
  ·exact walked h hin
  ·have ho:ops[i]?=some ops[i]:=Qc hil
   cases hm:ops[i].op.Wc with
   |true=>
    have hrest:i∈rest:=(L4 h.ord i hil).resolve_right hin
    obtain⟨Al,Bl,rfl⟩:=QP hrest
    rcases OG hm with⟨j,b,hob⟩|⟨hnb,hpu⟩
    ·exact h.iM hops hp hb hbn hcst h2 h1 ho hob h3 h4 λv s'' σ' a' w' h''=>ih (u.erase i) _ _ _ _ _ σ' a' w' hu' hun' h''
    ·obtain⟨D',rest',log',s',h',hin'⟩:=h.Zh hops hp hbn hcst ho hpu (λj hj hpj=>h.dC j hj (hpre j hpj))
     exact walked h' hin'
   |false=>
    rcases h.reach hops hil hpre (λo ho'=>by rw[ho]at ho';injection ho' with ho';rw[<-ho'];exact hm) hin with⟨D',rest',log',s',h',hin'⟩|⟨D',rest',log',s',o,h',ho',hq⟩
    ·exact walked h' hin'
    ·refine h'.tP hops hp hb h2 h1 ho' hq (λj b e=> ?_) h3 h4 λv s'' σ' a' w' h''=>ih (u.erase i) _ _ _ _ _ σ' a' w' hu' hun' h''
     rw[ho]at ho';injection ho' with ho'
     rw[ho',e]at hm;cases hm
end drawn
theorem Z5{wl:List (Nat×A6)}{nb:Nat}{P:Program}{aft:List (List Nat)}(h:NE P (Nu wl) aft (wl.map (·.1)) nb=true):C5 (Nu wl) (wl.map (·.1))=wl:=by
 simp only[NE,Qa]at h
 obtain⟨hnd,hm⟩:=FQ h.1.1.2
 have key:∀(L:List (Nat×A6)),(∀p∈L,p∈wl)->C5 (Nu wl) (L.map (·.1))=L:=by
  intro L
  induction L with
  |nil=>intro _;rfl
  |cons p L ih=>
   intro hL
   have hp:=hL p Qe
   have hlt:=(hm p.1 (Qp hp)).2
   have hlen:(Nu wl).length=wl.length:=by simp[Nu]
   have hget:(Nu wl)[p.1]?=some p.2:=by
    have:wl.find? (λq=>q.1==p.1)=some p:=by
     have huniq:∀(M:List (Nat×A6)),(M.map (·.1)).Nodup->p∈M->M.find? (λq=>q.1==p.1)=some p:=by
      intro M
      induction M with
      |nil=>intro _ h;cases h
      |cons a M ihM=>
       intro hn hpm
       simp only[Qv,QD]at hn
       rcases Qf.1 hpm with rfl|hpm
       ·simp
       ·have hne:a.1≠p.1:=λe=>hn.1 (by rw[e];exact Qp hpm)
        rw[List.find?_cons_of_neg (by simpa using hne)]
        exact ihM hn.2 hpm
     exact huniq wl hnd hp
    simp only[Nu,List.getElem?_map,List.getElem?_range (by omega:p.1<wl.length),Option.map_some,this]
   rw[Qv,FR hget,ih (λq hq=>hL q (Qb _ hq))]
 exact key wl (λp hp=>hp)
theorem Uw{P:Program}{ops:List A6}{aft:List (List Nat)}{ord:List Nat}{nb id:Nat}{R:Array Oper}(h1:DA P R ops R.toList=true)(h2:Od aft R.toList=true)(h3:NE P ops aft ord nb=true){K:St->Prop}{s:St}
 (h:Ab P s.H.length (CQ (Cy aft [])) (C5 ops ord) [] K ⟨s.T,s.H++Qs nb .A1⟩) {B:Nat->Prop} {σ0:B0} {H0:AP} {w0:World} {σ:B0} {a:Act} {w:World} (hH:Holds B σ0 H0 w0 s σ a w) {Q:Exit->Act->World->Prop}
 (hQ:∀s σ a w,K s->Holds B σ0 H0 w0 s σ a w->Q .normal a w):(Code.region id R true).wp P Q a w:=by
 simp only[NE,Qa,beq_iff_eq]at h3
 obtain⟨⟨⟨⟨⟨⟨hm,hal⟩,hb⟩,hp⟩,ho⟩,hbn⟩,hcst⟩:=h3
 have hlen:R.size=ops.length:=by rw[FP h1];rfl
 refine wp_region_any hm ?_
 have hlist:∀i,i<ops.length->Eh (Array.replicate R.size false) i=false:=by
  intro i hi
  unfold Eh
  rw[Qd,Array.getElem?_replicate,if_pos (by omega)];rfl
 -- places are kept free
 have hghost:∀k,s.H.length<=k->k<s.H.length+nb->(s.H++Qs nb Au.A1)[k]?=some .A1:=by
  intro k h1 h2
  rw[List.getElem?_append_right h1,QI,if_pos (by omega)]
 have hold:∀{o:Nat} {y:Au},(s.H++Qs nb Au.A1)[o]?=some y->s.H[o]?=some y\/y= .A1:=by
  intro o y hy
  rw[List.getElem?_append]at hy
  split at hy
  ·exact .inl hy
  ·rw[QI]at hy
   split at hy
   ·injection hy with hy;exact .inr hy.symm
   ·cases hy
 have up:∀{o:Nat} {y:Au},s.H[o]?=some y->(s.H++Qs nb Au.A1)[o]?=some y:=λhy=>by rw[QE (Ql.1 hy).1];exact hy
 have hg:Grow σ s.H σ (s.H++Qs nb .A1):=⟨by simp,λh=>⟨_,up h,Nat.le_refl _,λ_=>rfl⟩,λh=>⟨⟨_,up h⟩,rfl⟩,λh=>⟨⟨_,_,up h⟩,rfl⟩⟩
 have hR':BL B σ (s.H++Qs nb .A1) w:=by
  refine⟨fun{o y} hy=> ?_,fun{o o' y y'} hy hy' h1 h2 hbb=> ?_,hH.rel.base⟩
  ·rcases hold hy with hy|rfl
   ·exact(hH.rel.obj hy).grow hg rfl
   ·trivial
  ·rcases hold hy with hy|rfl
   ·rcases hold hy' with hy'|rfl
    ·exact hH.rel.apart hy hy' h1 h2 hbb
    ·cases h2
   ·cases h1
 have hext:Ext σ0 H0 σ (s.H++Qs nb .A1):=hH.ext.trans ⟨hg,up,fun{o s' xs} hy=>by
  rcases hold hy with hy|hy
  ·exact⟨⟨_,hy⟩,rfl⟩
  ·cases hy⟩
 obtain⟨hbk,-⟩:=IZ hbn
 refine Inv.any (n0:=s.H.length) (T0:=s.T) (K:=K) h1 h2 hal hp hb hbn hcst hQ R.size (Qh ops.length) _ [] ord [] ⟨s.T,s.H++Qs nb .A1⟩ σ a _ (by simp[hlen]) (λi hi _=>Qr.2 hi) ?_
 refine⟨by simp[hlen],λi hi hL=>(by rw[hlist i hi]at hL;cases hL),trivial,ho,h,λt=>rfl,rfl,trivial,?_,λt u hu=> ?_,λi es hi hL e he=> ?_,hR'.drew,hext,hH.below.drew,hH.defers,(λe he=>by cases he),
  λi o j b hi hb' _=>hghost _ (Nat.le_add_right _ _) (by have:=(hbk i o j b hi hb').1;omega),⟨_,hH.tmps.grow hg⟩,hH.ext.size⟩
 ·rw[hH.tmps.length];rfl
 ·have hl:t<s.T.length:=by
   rw[hH.tmps.length]
   exact(Qo.1 hu).1
  obtain⟨u',hu',hv⟩:=hH.tmps.get (i:=t) (Qc hl)
  rw[Qi,hu]at hu'
  injection hu' with hu';subst hu'
  simp only[look,Qx,Qc hl,QH]
  exact hv.grow hg
 ·exfalso
  have:i<ops.length:=by rw[<-hal];exact(Ql.1 hi).1
  rw[hlist i this]at hL;cases hL
end Go.Ax
