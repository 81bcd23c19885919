/- Which objects a value names; an operation names no others. Conditions: none. -/
import Derived.Test.YtohgndhnndeijaaGreatZAc
set_option linter.all false
open Option.some renaming injEq -> Qa
open Prod.mk renaming injEq -> Qb
open Option renaming map_eq_some_iff -> Qc
open List renaming mem_or_eq_of_mem_set -> Qd, mem_of_getElem? -> Qe, mem_of_mem_take -> Qf, mem_replicate -> Qg, mem_of_mem_drop -> Qh, map_cons -> Qj, mem_append -> Qk, mem_map -> Ql, all_cons -> Qm
open Bool renaming and_eq_true -> Qi
namespace Go.Ax
open Go Go.RowKit
mutual
def AH.refs(p:Nat->Prop):AH->Prop
 | .ptr o _ _ _=>p o
 | .slice o _ _ _ _=>p o
 | .acc o _=>p o
 | .Kl o _ _ _ _=>p o
 | .map o=>p o
 | .M1 o=>p o
 | .func _ l=>Ay p l
 | .iface _ v=>AH.refs p v
 | .agg l=>Ay p l
 | .Bj l=>Ay p l
 |_=>True
def Ay(p:Nat->Prop):List AH->Prop
 |[]=>True
 |a::l=>AH.refs p a/\Ay p l
end
theorem Dr{p:Nat->Prop}:∀{l:List AH},Ay p l↔∀a∈l,a.refs p
 |[]=>by simp[Ay]
 |a::l=>by simp[Ay,Dr (l:=l)]
mutual
theorem OP{p q:Nat->Prop}(h:∀o,p o->q o):∀{v:AH},v.refs p->v.refs q
 | .ptr ..,hv=>h _ hv
 | .slice ..,hv=>h _ hv
 | .acc ..,hv=>h _ hv
 | .Kl ..,hv=>h _ hv
 | .map ..,hv=>h _ hv
 | .M1 ..,hv=>h _ hv
 | .func _ l,hv=>by simp only[AH.refs]at*;exact GC h hv
 | .iface _ v,hv=>by simp only[AH.refs]at*;exact OP h hv
 | .agg l,hv=>by simp only[AH.refs]at*;exact GC h hv
 | .Bj l,hv=>by simp only[AH.refs]at*;exact GC h hv
 | .Dk,_=>by simp[AH.refs]
 | .int ..,_=>by simp[AH.refs]
 | .bool _,_=>by simp[AH.refs]
 | .str _,_=>by simp[AH.refs]
 | .lit _,_=>by simp[AH.refs]
theorem GC{p q:Nat->Prop}(h:∀o,p o->q o):∀{l:List AH},Ay p l->Ay q l
 |[],_=>by simp[Ay]
 |a::l,hl=>by simp only[Ay]at*;exact⟨OP h hl.1,GC h hl.2⟩
end
def Au.refs(p:Nat->Prop):Au->Prop
 | .AU _ xs _=>∀x∈xs,Ay p x
 | .map es=>Ay p (es.map (·.1))/\Ay p (es.map (·.2))
 |_=>True
def HW(p:Nat->Prop)(H:AP):Prop:=∀(o:Nat) (x:Au),H[o]?=some x->x.refs p
mutual
theorem F2{p:Nat->Prop}:∀{v:AH},v.plain=true->v.refs p
 | .int ..,_=>by simp[AH.refs]
 | .bool _,_=>by simp[AH.refs]
 | .str _,_=>by simp[AH.refs]
 | .lit _,_=>by simp[AH.refs]
 | .Dk,_=>by simp[AH.refs]
 | .agg l,h=>by simp only[AH.plain]at h;simp only[AH.refs];exact Ct h
 | .Bj l,h=>by simp only[AH.plain]at h;simp only[AH.refs];exact Ct h
 | .ptr ..,h=>by simp[AH.plain]at h
 | .slice ..,h=>by simp[AH.plain]at h
 | .acc ..,h=>by simp[AH.plain]at h
 | .Kl ..,h=>by simp[AH.plain]at h
 | .map ..,h=>by simp[AH.plain]at h
 | .M1 ..,h=>by simp[AH.plain]at h
 | .func ..,h=>by simp[AH.plain]at h
 | .iface ..,h=>by simp[AH.plain]at h
theorem Ct{p:Nat->Prop}:∀{l:List AH},Ah l=true->Ay p l
 |[],_=>by simp[Ay]
 |a::l,h=>by simp only[Ah,Qi]at h;simp only[Ay];exact⟨F2 h.1,Ct h.2⟩
end
section
variable {p:Nat->Prop}{T:List AH}{H H':AP}{v:AH}
theorem CM(hT:∀t,(T.getD t .Dk).refs p){x:Av}(h:x.Du=true):(Bm T x).refs p:=by
 unfold Av.Du at h
 split at h
 ·exact hT _
 ·simp[Bm,AH.refs,Ay]
 ·exact F2 h
theorem Mf(hT:∀t,(T.getD t .Dk).refs p){l:List Av}(h:l.all Av.Du=true):Ay p (l.map (Bm T)):=by
 rw[Dr]
 intro a ha
 obtain⟨x,hx,rfl⟩:=Ql.1 ha
 exact CM hT (List.all_eq_true.1 h x hx)
theorem Mt{l:List AH}(h:Ay p l)(n:Nat):Ay p (l.take n):=by rw[Dr]at*;exact λa ha=>h a (Qf ha)
theorem Ms{l:List AH}(h:Ay p l)(n:Nat):Ay p (l.drop n):=by rw[Dr]at*;exact λa ha=>h a (Qh ha)
theorem Ju{l:List AH}(h:Ay p l){n:Nat}{a:AH}(ha:l[n]?=some a):a.refs p:=Dr.1 h a (Qe ha)
theorem Zr{l:List AH}(h:Ay p l)(n:Nat){a:AH}(ha:a.refs p):Ay p (l.set n a):=by
 rw[Dr]at*
 intro b hb
 rcases Qd hb with hb|rfl
 ·exact h b hb
 ·exact ha
theorem UL{l r:List AH}(h:Ay p l)(h':Ay p r):Ay p (l++r):=by
 rw[Dr]at*
 intro b hb
 rcases Qk.1 hb with hb|hb
 ·exact h b hb
 ·exact h' b hb
theorem JN:∀{ys l:List AH} {n:Nat},Ay p l->Ay p ys->Ay p (putAt l n ys)
 |[],_,_,h,_=>h
 |y::ys,l,n,h,h'=>by
  simp only[Ay]at h'
  rw[Iw]
  exact JN (Zr h n h'.1) h'.2
theorem SS{xs:List (List AH)}(h:∀x∈xs,Ay p x):Ay p xs.flatten:=by
 rw[Dr]
 intro a ha
 obtain⟨x,hx,hax⟩:=List.mem_flatten.1 ha
 exact Dr.1 (h x hx) a hax
theorem GW{x:AH}{l:List AH}(h:HN x=some l)(hx:x.refs p):Ay p l:=by
 unfold HN at h
 split at h
 ·injection h with h;subst h;simpa only[AH.refs] using hx
 ·cases h
 ·cases h
 ·split at h
  ·injection h with h;subst h;simp only[Ay];exact⟨hx,trivial⟩
  ·cases h
theorem Li(hH:HW p H){size:Nat}{a:AH}{ys:List (List AH)}(h:Ds H size a=some ys):∀y∈ys,Ay p y:=by
 unfold Ds at h
 split at h
 ·split at h
  case h_2=>cases h
  rename_i ho
  split at h
  case isFalse=>cases h
  injection h with h;subst h
  exact λy hy=>hH _ _ ho y (Qh (Qf hy))
 ·split at h
  case h_2=>cases h
  rename_i ho
  split at h
  case isFalse=>cases h
  injection h with h;subst h
  exact λy hy=>hH _ _ ho y hy
 ·split at h
  case h_2=>cases h
  rename_i ho
  split at h
  case isFalse=>
   split at h
   ·injection h with h;subst h;exact λy hy=>by cases hy
   ·cases h
  split at h
  case h_2=>cases h
  rename_i hx
  injection h with h;subst h
  intro y hy
  obtain⟨a,ha,rfl⟩:=Ql.1 hy
  simp only[Ay]
  exact⟨Dr.1 (hH _ _ ho _ (Qe hx)) a (Qh (Qf ha)),trivial⟩
 ·injection h with h;subst h;exact λy hy=>by cases hy
 ·split at h
  case isFalse=>cases h
  injection h with h;subst h
  intro y hy
  obtain⟨a,ha,rfl⟩:=Ql.1 hy
  simp[Ay,AH.refs]
 ·cases h
theorem SW(hH:HW p H){size:Nat}{a:AH}{ys:List (List AH)}(h:Gv H size a=some ys):∀y∈ys,Ay p y:=by
 unfold Gv at h
 split at h
 ·cases h
 ·exact Li hH h
theorem HW.set(hH:HW p H){o:Nat}{x:Au}(hx:x.refs p):HW p (H.set o x):=by
 intro q y hq
 by_cases e:o=q
 ·subst e
  by_cases hl:o<H.length
  ·rw[List.getElem?_set_self hl]at hq;injection hq with hq;subst hq;exact hx
  ·rw[List.getElem?_eq_none (by simp;omega)]at hq;cases hq
 ·rw[List.getElem?_set_ne e]at hq;exact hH q y hq
theorem HW.push(hH:HW p H){x:Au}(hx:x.refs p):HW p (H++[x]):=by
 intro q y hq
 rw[List.getElem?_append]at hq
 split at hq
 ·exact hH q y hq
 ·have:y∈[x]:=Qe hq
  simp at this;subst this;exact hx
theorem MQ(hT:∀t,(T.getD t .Dk).refs p):∀{ps:List (Nat×Nat×Av)} {cells l:List AH},(ps.all λq=>q.2.2.Du)=true->Ay p cells->Dz T cells ps=some l->Ay p l
 |[],_,_,_,hc,h=>by simp only[Dz,Qa]at h;subst h;exact hc
 |(off,size,x)::r,cells,l,hp,hc,h=>by
  simp only[Dz]at h
  simp only[Qm,Qi]at hp
  split at h
  case h_2=>cases h
  rename_i l' hl
  split at h
  case isFalse=>cases h
  exact MQ hT hp.2 (JN hc (GW hl (CM hT hp.1))) h
theorem Jf(hT:∀t,(T.getD t .Dk).refs p)(size:Nat):∀{ps:List (Nat×Av)} {xs l:List (List AH)},(ps.all λq=>q.2.Du)=true->(∀x∈xs,Ay p x)->DW T size xs ps=some l->∀x∈l,Ay p x
 |[],_,_,_,hc,h=>by simp only[DW,Qa]at h;subst h;exact hc
 |(i,x)::r,xs,l,hp,hc,h=>by
  simp only[DW]at h
  simp only[Qm,Qi]at hp
  split at h
  case h_2=>cases h
  rename_i l' hl
  split at h
  case isFalse=>cases h
  refine Jf hT size hp.2 (λy hy=> ?_) h
  rcases Qd hy with hy|rfl
  ·exact hc y hy
  ·exact GW hl (CM hT hp.1)
theorem Yn{op:BinOp}{k:IntKind}{a b:Int}(h:Ym op k a b=some v):v.refs p:=by
 unfold Ym at h
 split at h<;>first
  |(cases h;done)
  |(simp only[Qa]at h;subst h;simp[AH.refs];done)
  |(split at h<;>first|(cases h;done)|(simp only[Qa]at h;subst h;simp[AH.refs]))
theorem Oc{op:BinOp}{k:IntKind}{a b:Int}(h:Dl op k a b=some v):v.refs p:=by
 unfold Dl at h
 split at h
 ·cases h
 ·split at h<;>first|(cases h;done)|(simp only[Qa]at h;subst h;simp[AH.refs])
theorem aFlo_refs{p:Nat->Prop}{f:FOp}{a b u:AH}(h:wX f a b=some u):u.refs p:=by
 have hc:∀c op,iS c op=some u->u.refs p:=by
  intro c op h
  cases op<;>simp only[iS,Qa,reduceCtorEq]at h<;>subst h<;>simp[AH.refs]
 unfold wX at h
 (
  repeat' split at h)<;>first
  |(cases h;done)
  |exact hc _ _ h
  |(injection h with h;subst h;simp[AH.refs])
theorem Ui(mx:Bool):∀{l:List Av} {u:AH},WA mx T u l=some v->v.refs p
 |[],u,h=>by
  cases u<;>simp[WA]at h
  subst h;simp[AH.refs]
 |x::l,u,h=>by
  cases u<;>simp only[WA]at h<;>try(cases h;done)
  split at h
  ·exact Ui mx h
  ·cases h
theorem RN{ik:IntKind}{n:Int}:∀{es:List (AH×AH)} {u:AH},Ay p (es.map (·.2))->JJ ik n es=some (some u)->u.refs p
 |[],_,_,h=>by simp[JJ]at h
 |(k0,u0)::es,u,hp,h=>by
  simp only[Qj,Ay]at hp
  cases k0 with
  |int k' q=>
   simp only[JJ]at h
   split at h
   case isFalse=>cases h
   split at h
   ·simp only[Qa]at h;subst h;exact hp.1
   ·exact RN hp.2 h
  |_=>simp[JJ]at h
theorem S6{ik:IntKind}{n:Int}{u:AH}(hu:u.refs p):∀{es:List (AH×AH)},Ay p (es.map (·.1))->Ay p (es.map (·.2))->Ay p ((Jr ik n u es).map (·.1))/\Ay p ((Jr ik n u es).map (·.2))
 |[],_,_=>by simp[Jr,Ay,AH.refs,hu]
 |(k0,u0)::es,h1,h2=>by
  simp only[Qj,Ay]at h1 h2
  have ih:=S6 (ik:=ik) (n:=n) hu h1.2 h2.2
  cases k0 with
  |int k' q=>
   simp only[Jr]
   split
   ·simp only[Qj,Ay];exact⟨⟨by simp[AH.refs],h1.2⟩,hu,h2.2⟩
   ·simp only[Qj,Ay];exact⟨⟨h1.1,ih.1⟩,h2.1,ih.2⟩
  |_=>simp only[Jr,Qj,Ay];exact⟨⟨h1.1,ih.1⟩,h2.1,ih.2⟩
theorem NX:∀{ys xs:List (List AH)} {i:Nat},(∀x∈xs,Ay p x)->(∀y∈ys,Ay p y)->∀x∈Fh xs i ys,Ay p x
 |[],_,_,h,_=>h
 |y::ys,xs,i,h,h'=>by
  rw[Fh]
  refine NX (λx hx=> ?_) (λz hz=>h' z (List.mem_cons_of_mem _ hz))
  rcases Qd hx with hx|rfl
  ·exact h x hx
  ·exact h' _ List.mem_cons_self
theorem Si(hT:∀t,(T.getD t .Dk).refs p){k:Nat}(hk:p k){b:EH}(hc:b.Du=true){x:Au}(h:Cz T k b=some (v,x)):v.refs p/\x.refs p:=by
 cases b<;>simp only[Cz]at h<;>simp only[EH.Du,Qi]at hc
 case new=>
  simp only[Qa,Qb]at h;obtain⟨rfl,rfl⟩:=h
  exact⟨hk,λy hy=>by simp at hy;subst hy;exact Ct hc⟩
 case box=>
  simp only[Qc,Qb]at h;obtain⟨l,h1,rfl,rfl⟩:=h
  exact⟨hk,λy hy=>by simp at hy;subst hy;exact GW h1 (CM hT hc)⟩
 case EO=>
  simp only[Qc,Qb]at h;obtain⟨l,h1,rfl,rfl⟩:=h
  exact⟨hk,Jf hT _ hc.2 (λy hy=>by obtain⟨-,rfl⟩:=Qg.1 hy;exact Ct hc.1) h1⟩
 case MM=>
  split at h
  case h_2=>cases h
  split at h
  case isFalse=>cases h
  simp only[Qa,Qb]at h;obtain⟨rfl,rfl⟩:=h
  exact⟨hk,λy hy=>by obtain⟨-,rfl⟩:=Qg.1 hy;exact Ct hc.1.1⟩
 case Pa=>
  simp only[Qa,Qb]at h;obtain⟨rfl,rfl⟩:=h
  exact⟨hk,by simp[Au.refs,Ay]⟩
theorem WC{op:GS}(hT:∀t,(T.getD t .Dk).refs p)(hH:HW p H)(hn:p H.length)(hc:op.Du=true)(h:AV T H op=some (v,H')):v.refs p/\HW p H':=by
 cases op
 case len str x=>
  have e:=EM (op:= .len str x) rfl h
  subst e
  refine⟨?_,hH⟩
  cases str<;>simp only[AV]at h<;>(split at h)<;>first|(cases h;done)|(simp only[Qa,Qb]at h;obtain⟨rfl,-⟩:=h;simp[AH.refs])
 all_goals simp only[GS.Du,Qi]at hc
 case mv x=>simp only[AV,Qa,Qb]at h;obtain⟨rfl,rfl⟩:=h;exact⟨CM hT hc,hH⟩
 case pick c a b=>
  simp only[AV]at h
  split at h
  case h_2=>cases h
  simp only[Qa,Qb]at h;obtain⟨rfl,rfl⟩:=h
  refine⟨?_,hH⟩
  split
  ·exact CM hT hc.1.2
  ·exact CM hT hc.2
 case bin op x y=>
  simp only[AV]at h
  split at h
  case h_2=>cases h
  split at h
  ·simp only[Qc,Qb]at h;obtain⟨u,h1,rfl,rfl⟩:=h;exact⟨Oc h1,hH⟩
  ·simp only[Qc,Qb]at h;obtain⟨u,h1,rfl,rfl⟩:=h;exact⟨Oc h1,hH⟩
  ·split at h
   ·simp only[Qc,Qb]at h;obtain⟨u,h1,rfl,rfl⟩:=h;exact⟨Yn h1,hH⟩
   ·cases h
 case AQ off x=>
  simp only[AV]at h
  split at h
  case h_2=>cases h
  rename_i hx
  have:=CM hT hc;rw[hx]at this;simp only[AH.refs]at this
  simp only[Qa,Qb]at h;obtain⟨rfl,rfl⟩:=h;exact⟨this,hH⟩
 case Pb x=>
  simp only[AV]at h
  split at h
  case h_2=>cases h
  rename_i hx
  have:=CM hT hc;rw[hx]at this
  simp only[Qa,Qb]at h;obtain⟨rfl,rfl⟩:=h;exact⟨this,hH⟩
 case U7 n size x i=>
  simp only[AV]at h
  split at h
  case h_2=>cases h
  rename_i hx _
  have:=CM hT hc.1;rw[hx]at this;simp only[AH.refs]at this
  split at h
  case isFalse=>cases h
  simp only[Qa,Qb]at h;obtain⟨rfl,rfl⟩:=h;exact⟨this,hH⟩
 case A9 size x i=>
  have hx0:=CM hT hc.1
  simp only[AV]at h
  split at h
  ·rename_i hx _
   rw[hx]at hx0;simp only[AH.refs]at hx0
   split at h
   case h_2=>cases h
   split at h
   case isFalse=>cases h
   simp only[Qa,Qb]at h;obtain⟨rfl,rfl⟩:=h;exact⟨hx0,hH⟩
  ·rename_i hx _
   rw[hx]at hx0;simp only[AH.refs]at hx0
   split at h
   case h_2=>cases h
   split at h
   case isFalse=>cases h
   simp only[Qa,Qb]at h;obtain⟨rfl,rfl⟩:=h;exact⟨hx0,hH⟩
  ·rename_i hx _
   rw[hx]at hx0;simp only[AH.refs]at hx0
   split at h
   case h_2=>cases h
   split at h
   case isFalse=>cases h
   simp only[Qa,Qb]at h;obtain⟨rfl,rfl⟩:=h;exact⟨hx0,hH⟩
  ·cases h
 case ld n x=>
  simp only[AV]at h
  split at h
  case h_2=>cases h
  split at h
  case h_2=>cases h
  rename_i ho
  split at h
  case isFalse=>cases h
  split at h
  case h_2=>cases h
  rename_i hcell
  have hr:=hH _ _ ho _ (Qe hcell)
  split at h
  ·split at h
   case h_2=>cases h
   rename_i ha
   simp only[Qa,Qb]at h;obtain⟨rfl,rfl⟩:=h
   exact⟨Ju hr ha,hH⟩
  ·split at h
   case isFalse=>cases h
   simp only[Qa,Qb]at h;obtain⟨rfl,rfl⟩:=h
   exact⟨by simp only[AH.refs];exact Mt (Ms hr _) _,hH⟩
 case st size x y=>
  simp only[AV]at h
  split at h
  case h_2=>cases h
  rename_i hy
  have hys:=GW hy (CM hT hc.2)
  split at h
  case h_2=>cases h
  rename_i ho
  split at h
  case isFalse=>cases h
  split at h
  case h_2=>cases h
  rename_i hcell
  have hr:=hH _ _ ho _ (Qe hcell)
  split at h
  case isFalse=>cases h
  simp only[Qa,Qb]at h;obtain⟨rfl,rfl⟩:=h
  refine⟨by simp[AH.refs],hH.set λz hz=> ?_⟩
  rcases Qd hz with hz|rfl
  ·exact hH _ _ ho z hz
  ·exact JN hr hys
 case NR n size agg x i=>
  simp only[AV]at h
  split at h
  case h_2=>cases h
  rename_i hx _
  have hx0:=CM hT hc.1;rw[hx]at hx0;simp only[AH.refs]at hx0
  split at h
  case isFalse=>cases h
  split at h
  ·split at h
   case isFalse=>cases h
   simp only[Qa,Qb]at h;obtain⟨rfl,rfl⟩:=h
   exact⟨by simp only[AH.refs];exact Mt (Ms hx0 _) _,hH⟩
  ·simp only[Qc,Qb]at h;obtain⟨u,h1,rfl,rfl⟩:=h
   exact⟨Ju hx0 h1,hH⟩
 case part off n x=>
  simp only[AV]at h
  split at h
  case h_2=>cases h
  rename_i hx
  have hx0:=CM hT hc;rw[hx]at hx0;simp only[AH.refs]at hx0
  split at h
  ·simp only[Qc,Qb]at h;obtain⟨u,h1,rfl,rfl⟩:=h
   exact⟨Ju hx0 h1,hH⟩
  ·split at h
   case isFalse=>cases h
   simp only[Qa,Qb]at h;obtain⟨rfl,rfl⟩:=h
   exact⟨by simp only[AH.refs];exact Mt (Ms hx0 _) _,hH⟩
 case ext x i=>
  simp only[AV]at h
  split at h
  case h_2=>cases h
  rename_i hx
  have hx0:=CM hT hc;rw[hx]at hx0;simp only[AH.refs]at hx0
  simp only[Qc,Qb]at h;obtain⟨u,h1,rfl,rfl⟩:=h
  exact⟨Ju hx0 h1,hH⟩
 case build z ps=>
  simp only[AV,Qc,Qb]at h
  obtain⟨l,h1,rfl,rfl⟩:=h
  exact⟨by simp only[AH.refs];exact MQ hT hc.2 (Ct hc.1) h1,hH⟩
 case EO size n z ps=>
  simp only[AV,Qc,Qb]at h
  obtain⟨l,h1,rfl,rfl⟩:=h
  exact⟨hn,hH.push (Jf hT _ hc.2 (λy hy=>by obtain⟨-,rfl⟩:=Qg.1 hy;exact Ct hc.1) h1)⟩
 case box x=>
  simp only[AV,Qc,Qb]at h
  obtain⟨l,h1,rfl,rfl⟩:=h
  exact⟨hn,hH.push λy hy=>by simp at hy;subst hy;exact GW h1 (CM hT hc)⟩
 case new z=>
  simp only[AV,Qa,Qb]at h
  obtain⟨rfl,rfl⟩:=h
  exact⟨hn,hH.push λy hy=>by simp at hy;subst hy;exact Ct hc⟩
 case MM size bytes z l c=>
  simp only[AV]at h
  split at h
  case h_2=>cases h
  split at h
  case isFalse=>cases h
  simp only[Qa,Qb]at h;obtain⟨rfl,rfl⟩:=h
  exact⟨hn,hH.push λy hy=>by obtain⟨-,rfl⟩:=Qg.1 hy;exact Ct hc.1.1⟩
 case app size bytes s x=>
  have hs0:=CM hT hc.1
  simp only[AV]at h
  split at h
  case h_1=>cases h
  rename_i ys hy
  have hys:=Li hH hy
  split at h
  ·split at h
   ·simp only[Qa,Qb]at h;obtain⟨rfl,rfl⟩:=h;exact⟨by simp[AH.refs],hH⟩
   ·split at h
    case isFalse=>cases h
    simp only[Qa,Qb]at h;obtain⟨rfl,rfl⟩:=h;exact⟨hn,hH.push hys⟩
  ·rename_i hx
   rw[hx]at hs0;simp only[AH.refs]at hs0
   split at h
   case h_2=>cases h
   rename_i ho
   split at h
   case isFalse=>cases h
   simp only[Qa,Qb]at h;obtain⟨rfl,rfl⟩:=h
   refine⟨hs0,hH.set λy hy=> ?_⟩
   rcases Qk.1 hy with hy|hy
   ·exact hH _ _ ho y hy
   ·exact hys y hy
  ·rename_i hx
   rw[hx]at hs0;simp only[AH.refs]at hs0
   split at h
   case h_2=>cases h
   rename_i ho
   split at h
   case isFalse=>cases h
   split at h
   ·simp only[Qa,Qb]at h;obtain⟨rfl,rfl⟩:=h;exact⟨hs0,hH⟩
   ·split at h
    ·simp only[Qa,Qb]at h;obtain⟨rfl,rfl⟩:=h
     refine⟨hn,hH.push λy hy=> ?_⟩
     rcases Qk.1 hy with hy|hy
     ·exact hH _ _ ho y (Qh (Qf hy))
     ·exact hys y hy
    ·split at h
     case isFalse=>cases h
     simp only[Qa,Qb]at h;obtain⟨rfl,rfl⟩:=h
     refine⟨hs0,hH.set λy hy=> ?_⟩
     rcases Qk.1 hy with hy|hy
     ·exact hH _ _ ho y hy
     ·exact hys y hy
  ·cases h
 case Yg x=>
  simp only[AV]at h
  split at h
  case h_2=>cases h
  simp only[Qa,Qb]at h;obtain⟨rfl,rfl⟩:=h
  exact⟨hn,hH.push trivial⟩
 case Ya x=>
  simp only[AV]at h
  split at h
  case h_2=>cases h
  split at h
  case h_2=>cases h
  split at h
  ·simp only[Qa,Qb]at h;obtain⟨rfl,rfl⟩:=h
   exact⟨by simp[AH.refs,Ay],hH.set trivial⟩
  ·simp only[Qa,Qb]at h;obtain⟨rfl,rfl⟩:=h
   exact⟨by simp[AH.refs,Ay],hH⟩
 case Yi n x lo hi=>
  have hx0:=CM hT hc.1.1
  simp only[AV]at h
  split at h
  case h_2=>cases h
  rename_i hx _ _
  rw[hx]at hx0;simp only[AH.refs]at hx0
  split at h
  case h_2=>cases h
  split at h
  case isFalse=>cases h
  simp only[Qa,Qb]at h;obtain⟨rfl,rfl⟩:=h
  exact⟨hx0,hH⟩
 case Ue size x lo hi mx=>
  have e:=EM (op:= .Ue size x lo hi mx) rfl h
  subst e
  refine⟨?_,hH⟩
  have hx0:=CM hT hc.1.1.1
  simp only[AV]at h
  split at h
  all_goals first|(cases h;done)|skip
  all_goals (rename_i hx;rw[hx]at hx0;simp only[AH.refs]at hx0)
  all_goals (repeat' split at h)
  all_goals first|(cases h;done)|(simp only[Qa,Qb]at h;obtain⟨rfl,-⟩:=h;simp only[AH.refs];try exact hx0)
 case WB mx l=>
  simp only[AV]at h
  split at h
  case h_2=>cases h
  simp only[Qc,Qb]at h;obtain⟨u,h1,rfl,rfl⟩:=h
  exact⟨Ui mx h1,hH⟩
 case eo f x y=>
  simp only[AV,Qc,Qb]at h;obtain⟨u,h1,rfl,rfl⟩:=h
  exact⟨aFlo_refs h1,hH⟩
 case YY f l=>
  simp only[AV,Qa,Qb]at h;obtain⟨rfl,rfl⟩:=h
  exact⟨by simp only[AH.refs];exact Mf hT hc,hH⟩
 case Pa=>
  simp only[AV,Qa,Qb]at h;obtain⟨rfl,rfl⟩:=h
  exact⟨hn,hH.push (by simp[Au.refs,Ay])⟩
 case Wb z x k=>
  simp only[AV]at h
  split at h
  case h_2=>cases h
  split at h
  ·split at h
   case h_2=>cases h
   rename_i ho
   split at h
   ·rename_i hm
    simp only[Qa,Qb]at h;obtain⟨rfl,rfl⟩:=h
    exact⟨RN (hH _ _ ho).2 hm,hH⟩
   ·simp only[Qa,Qb]at h;obtain⟨rfl,rfl⟩:=h
    exact⟨F2 hc.1.1,hH⟩
   ·cases h
  ·simp only[Qa,Qb]at h;obtain⟨rfl,rfl⟩:=h
   exact⟨F2 hc.1.1,hH⟩
  ·cases h
 case ZR x k y=>
  simp only[AV]at h
  split at h
  case h_2=>cases h
  split at h
  case h_2=>cases h
  rename_i ho
  split at h
  case h_2=>cases h
  split at h
  case isFalse=>cases h
  simp only[Qa,Qb]at h;obtain⟨rfl,rfl⟩:=h
  exact⟨by simp[AH.refs],hH.set (S6 (CM hT hc.2) (hH _ _ ho).1 (hH _ _ ho).2)⟩
 case aC size d s=>
  simp only[AV]at h
  split at h
  case h_1=>cases h
  rename_i ys hy
  have hys:=SW hH hy
  have hyt:∀n,∀y∈ys.take n,Ay p y:=λn y hy=>hys y (Qf hy)
  split at h
  ·split at h
   case h_2=>cases h
   rename_i ho
   split at h
   case isFalse=>cases h
   split at h
   case h_2=>cases h
   rename_i hx
   simp only[Qa,Qb]at h;obtain⟨rfl,rfl⟩:=h
   refine⟨by simp[AH.refs],hH.set λz hz=> ?_⟩
   rcases Qd hz with hz|rfl
   ·exact hH _ _ ho z hz
   ·exact JN (hH _ _ ho _ (Qe hx)) (SS (hyt _))
  ·split at h
   case h_2=>cases h
   rename_i ho
   split at h
   case isFalse=>cases h
   simp only[Qa,Qb]at h;obtain⟨rfl,rfl⟩:=h
   exact⟨by simp[AH.refs],hH.set (NX (hH _ _ ho) (hyt _))⟩
  ·cases h
 case clr size zero y=>
  simp only[AV]at h
  split at h
  case h_2=>cases h
  split at h
  case h_2=>cases h
  rename_i ho
  split at h
  case isFalse=>cases h
  simp only[Qa,Qb]at h;obtain⟨rfl,rfl⟩:=h
  exact⟨by simp[AH.refs],hH.set (NX (hH _ _ ho) (λy hy=>by rw[(Qg.1 hy).2];exact Ct hc.1))⟩
 all_goals
  simp only[AV]at h
  (
   repeat' split at h)<;>first
   |(cases h;done)
   |(simp only[Qa,Qb]at h;obtain⟨rfl,rfl⟩:=h;exact⟨by simp[AH.refs],hH⟩)
   |(simp only[Qc,Qb]at h;obtain⟨_,_,rfl,rfl⟩:=h;exact⟨by simp[AH.refs],hH⟩)
end
end Go.Ax
