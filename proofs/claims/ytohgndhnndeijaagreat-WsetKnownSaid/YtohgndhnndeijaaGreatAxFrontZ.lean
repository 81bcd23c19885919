/- What may be done ahead of others is moved to the front of our walk; what is born is laid into a place that was kept free. Conditions: none. -/
import Derived.Test.YtohgndhnndeijaaGreatAxSwapZ
set_option linter.all false
open List renaming getElem?_set_ne -> Qa, getElem?_eq_some_iff -> Qd, mem_cons_of_mem -> Qg, mem_cons_self -> Qh, getElem?_set_self -> Qj, mem_of_getElem? -> Ql, set_comm -> Qm, getD -> Qn
open Prod.mk renaming injEq -> Qb
open Option.some renaming injEq -> Qc
open Option renaming map_eq_some_iff -> Qe, map_some -> Qk
open Bool renaming and_eq_true -> Qf
open Ne renaming symm -> Qi
namespace Go.Ax
open Go Go.RowKit
theorem Eg(T:List AH)(dst:Option Nat)(v:AH)(t:Nat):(Ar T dst v).getD t .Dk=if dst=some t/\t<T.length then v else T.getD t .Dk:=by
 cases dst with
 |none=>simp[Ar]
 |some d=>
  simp only[Ar,Qn,Qc]
  by_cases h:d=t
  ·subst h
   by_cases hl:d<T.length
   ·simp[hl]
   ·simp[hl]
  ·rw[Qa h,if_neg (by simp[h])]
theorem Dq(T:List AH)(dst:Option Nat)(v:AH):(Ar T dst v).length=T.length:=by cases dst<;>simp[Ar]
structure Ko (k0:Option Nat) (T:List AH) (H:AP):Prop where
 A1:∀k,k0=some k->H[k]?=some .A1
 tmps:∀k,k0=some k->∀t,(T.getD t .Dk).refs (·≠k)
 heap:∀k,k0=some k->HW (·≠k) H
def Ih:Option (Nat×Au)->AP->AP
 |none,H=>H
 |some (k,x),H=>H.set k x
theorem Ko.step{k0:Option Nat}{T:List AH}{H H1:AP}(h:Ko k0 T H)(dst:Option Nat){v:AH}(hn:∀k,k0=some k->H1[k]?=some .A1/\v.refs (·≠k)/\HW (·≠k) H1):Ko k0 (Ar T dst v) H1:=
 ⟨λk e=>(hn k e).1,λk e t=>by
  rw[Eg]
  split
  ·exact(hn k e).2.1
  ·exact h.tmps k e t,λk e=>(hn k e).2.2⟩
theorem Ku{T T':List AH}{o:A6}(hag:∀t∈o.looks,T'.getD t .Dk=T.getD t .Dk):Cq T' T o.op.names:=λt ht=>hag t (by simp[A6.looks,ht])
section Wg
variable {P:Program}{n0:Nat}{pre:Nat->Bool}{i:Nat}{o:A6}{k0:Option Nat}{x:Option (Nat×Au)}{T T':List AH}{H:AP}
theorem Pq(hx:∀k y,x=some (k,y)->k0=some k/\y.LK=true)(hcst:o.op.Du=true)(hag:∀t∈o.looks,T'.getD t .Dk=T.getD t .Dk)(hF:Ko k0 T H){v:AH}{H1:AP}(h:AV T H o.op=some (v,H1)):
 AV T' (Ih x H) o.op=some (v,Ih x H1)/\Ko k0 (Ar T o.dst v) H1:=by
 constructor
 ·rw[HY (Ku hag)]
  cases x with
  |none=>exact h
  |some q=>obtain⟨k,y⟩:=q;exact(G1 (hF.A1 k (hx k y rfl).1) h).1
 ·refine hF.step o.dst λk e=> ?_
  have hk:=hF.A1 k e
  have hl:=(Qd.1 hk).1
  obtain⟨g1,g2⟩:=WC (p:=(·≠k)) (hF.tmps k e) (hF.heap k e) (by omega) hcst h
  exact⟨(G1 (x:= .A1) hk h).2,g1,g2⟩
theorem Pv(hx:∀k y,x=some (k,y)->k0=some k/\y.LK=true)(hF:Ko k0 T H){f:FuncId}{args:List AH}(ha:∀k,k0=some k->Ay (·≠k) args){dst:Option Nat}{K K':AH->AP->Prop}
 (hK:∀v H1,K v H1->Ko k0 (Ar T dst v) H1->K' v (Ih x H1)) (h:AF P f args H K):AF P f args (Ih x H) K':=by
 have hfree:∀{v:AH} {H':AP},(∀k:Nat,H[k]?=some .A1->H'[k]?=some .A1/\v.refs (·≠k)/\HW (·≠k) H')->Ko k0 (Ar T dst v) H':=λhi=>hF.step dst λk e=>hi k (hF.A1 k e)
 cases x with
 |none=>exact h.aj.mono λv H' ⟨hk,hi⟩=>hK v H' hk (hfree hi)
 |some q=>
  obtain⟨k,y⟩:=q
  obtain⟨e,hn⟩:=hx k y rfl
  exact(AF.frame (hF.A1 k e) hn (ha k e) (hF.heap k e) h.aj).mono λv H'' ⟨H',⟨hk,hi⟩,e'⟩=>by subst e';exact hK v H' hk (hfree hi)
theorem aA(hx:∀k y,x=some (k,y)->k0=some k/\y.LK=true)(hcst:o.op.Du=true)(hag:∀t∈o.looks,T'.getD t .Dk=T.getD t .Dk)(hF:Ko k0 T H){K K':St->Prop}
 (hK:∀v H1,K ⟨Ar T o.dst v,H1⟩->Ko k0 (Ar T o.dst v) H1->K' ⟨Ar T' o.dst v,Ih x H1⟩) (h:Bu P o K ⟨T,H⟩):Bu P o K' ⟨T',Ih x H⟩:=by
 have hA:=Ku hag
 unfold Bu at h ⊢
 split at h
 ·rename_i f args hop
  rw[hop]at hA hcst
  simp only[Cq.args hA]
  refine Pv hx hF (λk e=> ?_) (λv H1 hk hf=>hK v H1 hk hf) h
  exact Mf (hF.tmps k e) hcst
 ·rename_i y args hop
  rw[hop]at hA hcst
  simp only[GS.Du,Qf]at hcst
  simp only[hA.left.arg,Cq.args hA.right]
  split at h
  case h_2=>exact h.elim
  rename_i f cap hy
  simp only[hy]
  refine⟨h.1,Pv hx hF (λk e=> ?_) (λv H1 hk hf=>hK v H1 hk hf) h.2⟩
  have hc:=CM (hF.tmps k e) hcst.1
  rw[hy]at hc;simp only[AH.refs]at hc
  exact UL (Mf (hF.tmps k e) hcst.2) hc
 ·split at h
  case h_2=>exact h.elim
  rename_i v H1 hs
  obtain⟨g1,g2⟩:=Pq hx hcst hag hF hs
  rw[g1]
  exact hK v H1 h g2
theorem Sd(hx:∀k y,x=some (k,y)->k0=some k/\y.LK=true)(hcst:o.op.Du=true)(hb:∀j b,o.op= .born j b->k0≠some (n0+j))(hag:∀t∈o.looks,T'.getD t .Dk=T.getD t .Dk)(hF:Ko k0 T H)
 {log log':Cp} (hl:Ed log' log) (hst:Kq log) {C C':Cp->St->Prop}
 (hC:∀v H1 l1 l1',C l1 ⟨Ar T o.dst v,H1⟩->Ed l1' l1->Kq l1->Ko k0 (Ar T o.dst v) H1->C' l1' ⟨Ar T' o.dst v,Ih x H1⟩) (h:Kt P n0 pre i o log C ⟨T,H⟩):Kt P n0 pre i o log' C' ⟨T',Ih x H⟩:=by
 unfold Kt at h ⊢
 split at h
 ·rename_i j b hop
  have hA:=Ku hag
  rw[hop]at hA
  have hne:=hb j b hop
  simp only[IY hA]
  split at h
  case h_2=>exact h.elim
  rename_i v y hbs
  simp only[hbs]
  have hfree:Ko k0 (Ar T o.dst v) (H.set (n0+j) y):=by
   refine hF.step o.dst λk e=> ?_
   have hk:=hF.A1 k e
   have hkn:n0+j≠k:=λe'=>hne (by rw[e,e'])
   rw[hop]at hcst
   obtain⟨g1,g2⟩:=Si (p:=(·≠k)) (hF.tmps k e) hkn hcst hbs
   exact⟨by rw[Qa hkn];exact hk,g1,(hF.heap k e).set g2⟩
  have:=hC v _ log log' h hl hst hfree
  have e2:Ih x (H.set (n0+j) y)=(Ih x H).set (n0+j) y:=by
   cases x with
   |none=>rfl
   |some q=>
    obtain⟨k,z⟩:=q
    have hkn:n0+j≠k:=λe'=>hne (by rw[(hx k z rfl).1,e'])
    exact Qm _ _ hkn
  rw[e2]at this
  exact this
 ·rename_i hnb
  split at h
  ·rename_i hq
   rw[if_pos hq]
   split at h
   case h_2=>exact h.elim
   rename_i v H1 hs
   have e:=EM hq hs
   subst e
   obtain⟨g1,g2⟩:=Pq hx hcst hag hF hs
   simp only[g1]
   refine hC v _ _ _ h ?_ ?_ g2
   ·split
    ·exact hl
    ·exact hl.cons i λG hG=>by rw[HY (Ku hag)];exact hG
   ·split
    ·exact hst
    ·exact hst.step i T o.op v
  ·rename_i hq
   rw[if_neg hq]
   refine aA hx hcst hag hF (λv H1 hk hf=>⟨?_,hC v H1 _ _ hk.2 hl hst hf⟩) h
   refine YO hl ?_
   cases x with
   |none=>exact hk.1
   |some q=>obtain⟨k,z⟩:=q;exact Yy hst (hf.A1 k (hx k z rfl).1) z hk.1
theorem W8(hx:∀k y,x=some (k,y)->k0=some k/\y.LK=true)(hcst:o.op.Du=true)(hb:∀j b,o.op= .born j b->k0≠some (n0+j))(hag:∀t∈o.looks,T'.getD t .Dk=T.getD t .Dk)(hF:Ko k0 T H)
 {log log':Cp} (hl:Ed log' log) (hst:Kq log) {C C':Cp->St->Prop}
 (hC:∀v H1 l1 l1',C l1 ⟨Ar T o.dst v,H1⟩->Ed l1' l1->Kq l1->Ko k0 (Ar T o.dst v) H1->C' l1' ⟨Ar T' o.dst v,Ih x H1⟩) (h:De P n0 pre i o log C ⟨T,H⟩):De P n0 pre i o log' C' ⟨T',Ih x H⟩:=by
 unfold De at h ⊢
 split at h
 ·exact Sd hx hcst hb hag hF hl hst hC h
 ·rename_i d b hg
  have hd:T'.getD d .Dk=T.getD d .Dk:=hag d (by simp[A6.looks,hg])
  simp only[Bm]at h ⊢
  rw[hd]
  split at h
  case h_2=>exact h.elim
  refine⟨λe=>Sd hx hcst hb hag hF hl hst hC (h.1 e),λe=>hC _ _ _ _ (h.2 e) hl hst ?_⟩
  exact hF.step o.dst λk e=>⟨hF.A1 k e,by simp[Co,AH.refs,Ay],hF.heap k e⟩
end Wg
def Fx(o:A6)(T:List AH):Option Bool:=
 match o.guard with
 |none=>some true
 |some (d,b)=>match PI (Bm T (.t d))with
  |some g=>some (g==some b)
  |none=>none
def Ux(n0:Nat)(o:A6)(T:List AH):Option (AH×Option (Nat×Au)):=
 match o.op with
 | .born j b=>(Cz T (n0+j) b).map λq=>(q.1,some (n0+j,q.2))
 |op=>(AV T [] op).map λq=>(q.1,none)
def Y3(n0:Nat)(o:A6)(T:List AH):Option (AH×Option (Nat×Au)):=
 match Fx o T with
 |none=>none
 |some false=>some (Co,none)
 |some true=>Ux n0 o T
theorem PX{n0:Nat}{o:A6}{T:List AH}(h:∀j b,o.op≠ .born j b):Ux n0 o T=(AV T [] o.op).map λq=>(q.1,none):=by
 unfold Ux
 split
 ·rename_i j b hop;exact absurd hop (h j b)
 ·rfl
theorem JB{P:Program}{n0:Nat}{pre:Nat->Bool}{i:Nat}{o:A6}{log:Cp}{C:Cp->St->Prop}{s:St}(h:∀j b,o.op≠ .born j b):Kt P n0 pre i o log C s=(if o.op.quiet then(match AV s.T s.H o.op with
 |some (v,_)=>C (if o.op.pure then log else(i,λH=>AV s.T H o.op=some (v,H))::log) ⟨Ar s.T o.dst v,s.H⟩
 |none=>False)
 else Bu P o (λs'=>Kk pre s'.H log/\C log s') s):=by
 unfold Kt
 split
 ·rename_i j b hop;exact absurd hop (h j b)
 ·rfl
theorem OG{o:A6}(hm:o.op.Wc=true):(∃j b,o.op= .born j b)\/((∀j b,o.op≠ .born j b)/\o.op.pure=true):=by
 unfold GS.Wc at hm
 split at hm
 ·rename_i k b hop;exact .inl ⟨k,b,hop⟩
 ·rename_i hnb;exact .inr ⟨λj b e=>hnb j b e,hm⟩
theorem Uj{P:Program}{n0:Nat}{pre:Nat->Bool}{i:Nat}{o:A6}(hm:o.op.Wc=true){log:Cp}{C:Cp->St->Prop}{s:St}:Kt P n0 pre i o log C s↔
 ∃v x,Ux n0 o s.T=some (v,x)/\C log ⟨Ar s.T o.dst v,Ih x s.H⟩:=by
 rcases OG hm with⟨j,b,hop⟩|⟨hnb,hp⟩
 ·simp only[Kt,Ux,hop]
  cases hb:Cz s.T (n0+j) b with
  |none=>simp
  |some q=>
   obtain⟨v,y⟩:=q
   simp only[Qk,Qc,Qb]
   constructor
   ·intro h;exact⟨v,_,⟨rfl,rfl⟩,h⟩
   ·rintro⟨_,_,⟨rfl,rfl⟩,h⟩;exact h
 ·rw[JB hnb,PX hnb,if_pos (Iv hp)]
  have e:=Yd (T:=s.T) (H:=[]) (H2:=s.H) hp
  cases hs:AV s.T [] o.op with
  |none=>rw[hs]at e;simp[e]
  |some q=>
   obtain⟨v,H1⟩:=q
   rw[hs]at e
   simp only[Qk]at e
   rw[e]
   simp only[Qk,Qc,Qb,hp,if_true]
   constructor
   ·intro h;exact⟨v,_,⟨rfl,rfl⟩,h⟩
   ·rintro⟨_,_,⟨rfl,rfl⟩,h⟩;exact h
theorem Jz{P:Program}{n0:Nat}{pre:Nat->Bool}{i:Nat}{o:A6}(hm:o.op.Wc=true){log:Cp}{C:Cp->St->Prop}{s:St}:De P n0 pre i o log C s↔
 ∃v x,Y3 n0 o s.T=some (v,x)/\C log ⟨Ar s.T o.dst v,Ih x s.H⟩:=by
 cases hgd:o.guard with
 |none=>simp only[De,Y3,Fx,hgd,Uj hm]
 |some q=>
  obtain⟨d,b⟩:=q
  simp only[De,Y3,Fx,hgd]
  cases hgv:PI (Bm s.T (.t d))with
  |some g=>
   by_cases hgb:g=some b
   ·subst hgb
    simp only[true_implies,ne_eq,not_true_eq_false,false_implies,and_true,beq_self_eq_true,Uj hm]
   ·have:(g==some b)=false:=by simpa using hgb
    simp only[hgb,false_implies,true_and,ne_eq,not_false_eq_true,true_implies,this,Qc,Qb]
    constructor
    ·intro h;exact⟨_,_,⟨rfl,rfl⟩,h⟩
    ·rintro⟨_,_,⟨rfl,rfl⟩,h⟩;exact h
  |none=>simp
theorem kg{n0:Nat}{o:A6}{T T':List AH}(hag:∀t∈o.looks,T'.getD t .Dk=T.getD t .Dk):Y3 n0 o T'=Y3 n0 o T:=by
 have hA:=Ku hag
 have hg:Fx o T'=Fx o T:=by
  unfold Fx
  split
  ·rfl
  ·rename_i d b hg
   simp only[Bm,hag d (by simp[A6.looks,hg])]
 unfold Y3
 rw[hg]
 split
 ·rfl
 ·rfl
 ·by_cases hb:∃j b,o.op= .born j b
  ·obtain⟨j,b,hop⟩:=hb
   rw[hop]at hA
   simp only[Ux,hop,IY hA]
  ·have hnb:∀j b,o.op≠ .born j b:=λj b e=>hb ⟨j,b,e⟩
   rw[PX hnb,PX hnb,HY hA]
def aF(a b:A6):Prop:=(∀t,a.dst=some t->t∉b.looks/\b.dst≠some t)/\(∀t,b.dst=some t->t∉a.looks)
theorem Vh{T:List AH}{a b:Option Nat}(h:∀t,a=some t->b≠some t)(u v:AH):Ar (Ar T a u) b v=Ar (Ar T b v) a u:=by
 cases a with
 |none=>rfl
 |some d=>cases b with
  |none=>rfl
  |some e=>
   have:d≠e:=λhh=>h d rfl (by rw[hh])
   exact Qm _ _ this
def D4(n0:Nat)(o:A6):Option Nat:=match o.op with
 | .born j _=>some (n0+j)
 |_=>none
theorem Un{T:List AH}{k:Nat}{b:EH}{v:AH}{x:Au}(h:Cz T k b=some (v,x)):x.LK=true:=by
 cases b<;>simp only[Cz]at h
 case new=>simp only[Qc,Qb]at h;obtain⟨-,rfl⟩:=h;rfl
 case box=>simp only[Qe,Qb]at h;obtain⟨_,_,-,rfl⟩:=h;rfl
 case EO=>simp only[Qe,Qb]at h;obtain⟨_,_,-,rfl⟩:=h;rfl
 case MM=>
  split at h
  case h_2=>cases h
  split at h
  case isFalse=>cases h
  simp only[Qc,Qb]at h;obtain⟨-,rfl⟩:=h;rfl
 case Pa=>simp only[Qc,Qb]at h;obtain⟨-,rfl⟩:=h;rfl
theorem aV{n0:Nat}{o:A6}(hm:o.op.Wc=true){T:List AH}{v:AH}{x:Option (Nat×Au)}(h:Y3 n0 o T=some (v,x)):∀k y,x=some (k,y)->D4 n0 o=some k/\y.LK=true:=by
 unfold Y3 at h
 split at h
 ·cases h
 ·simp only[Qc,Qb]at h
  obtain⟨-,rfl⟩:=h
  exact λ_ _ e=>by cases e
 ·rcases OG hm with⟨j,b,hop⟩|⟨hnb,hp⟩
  ·simp only[Ux,hop,Qe,Qb]at h
   obtain⟨⟨v',y'⟩,h1,rfl,rfl⟩:=h
   intro k y e
   simp only[Qc,Qb]at e
   obtain⟨rfl,rfl⟩:=e
   exact⟨by simp[D4,hop],Un h1⟩
  ·rw[PX hnb]at h
   simp only[Qe,Qb]at h
   obtain⟨⟨v',H1⟩,h1,rfl,rfl⟩:=h
   exact λ_ _ e=>by cases e
theorem front{P:Program}{n0:Nat}{pre:Nat->Nat->Bool}{K:St->Prop}{i:Nat}{oi:A6}(hm:oi.op.Wc=true){B:List (Nat×A6)}:
 ∀(A:List (Nat×A6)),(∀p∈A,p.2.op.Du=true/\aF p.2 oi/\∀j b,p.2.op= .born j b->D4 n0 oi≠some (n0+j))->∀(log:Cp) (s:St) (e:AH×Option (Nat×Au)),Kq log->Ko (D4 n0 oi) s.T s.H->Y3 n0 oi s.T=some e->
  Ab P n0 pre (A++(i,oi)::B) log K s->Ab P n0 pre ((i,oi)::(A++B)) log K s
 |[],_,_,_,_,_,_,_,h=>h
 |(k,ok)::A,hA,log,s,(v,x),hst,hF,he,h=>by
  obtain⟨hcst,hind,hbk⟩:=hA (k,ok) Qh
  have hx:=aV hm he
  show De P n0 (pre i) i oi log (λl' s'=>De P n0 (pre k) k ok l' (λl'' s''=>Ab P n0 pre (A++B) l'' K s'') s') s
  rw[Jz hm]
  refine⟨v,x,he,?_⟩
  have h':De P n0 (pre k) k ok log (λl' s'=>Ab P n0 pre (A++(i,oi)::B) l' K s') ⟨s.T,s.H⟩:=h
  refine W8 (x:=x) hx hcst hbk (λt ht=> ?_) hF (Ed.refl log) hst (λvk H1 l1 l1' hc hle hst1 hf1=> ?_) h'
  ·rw[Eg,if_neg]
   rintro⟨hd,-⟩
   exact hind.2 t hd ht
  ·have hag:∀t∈oi.looks,(Ar s.T ok.dst vk).getD t .Dk=s.T.getD t .Dk:=λt ht=>by
    rw[Eg,if_neg]
    rintro⟨hd,-⟩
    exact(hind.1 t hd).1 ht
   have he1:Y3 n0 oi (Ar s.T ok.dst vk)=some (v,x):=by rw[kg hag];exact he
   have hrec:=front hm A (λp hp=>hA p (Qg _ hp)) l1 ⟨Ar s.T ok.dst vk,H1⟩ (v,x) hst1 hf1 he1 hc
   have hrec':De P n0 (pre i) i oi l1 (λl' s'=>Ab P n0 pre (A++B) l' K s') ⟨Ar s.T ok.dst vk,H1⟩:=hrec
   rw[Jz hm]at hrec'
   obtain⟨v',x',e1,hc'⟩:=hrec'
   rw[he1]at e1
   simp only[Qc,Qb]at e1
   obtain⟨rfl,rfl⟩:=e1
   rw[Vh (λt ht=>(hind.1 t ht).2)]at hc'
   exact Tb hle hc'
theorem JX.cut{B:Nat->Prop}{σ:B0}{H G:AP}{w:World}{p:Place}{y:Au}(h:JX σ (H++G) B w p y)(hw:y.wf H.length):JX σ H B w p y:=by
 cases y with
 |AU s xs ro=>
  obtain⟨h1,h2,h3⟩:=h
  refine⟨h1,h2,h3.imp id ?_⟩
  rintro⟨c,e,fr,hb,hc,hn,hr⟩
  refine⟨c,e,fr,hb,λi x' j a hi hj=> ?_,hn,hr⟩
  obtain⟨v,hv,hrv⟩:=hc i x' j a hi hj
  exact⟨v,hv,hrv.cut (Ph.1 (hw x' (Ql hi)) a (Ql hj))⟩
 |map es=>
  obtain⟨h1,ms,clock,hb,hk,hv⟩:=h
  exact⟨h1,ms,clock,hb,hk.cut hw.1,hv.cut hw.2⟩
 |iter s p=>exact h
 |A1=>trivial
mutual
theorem SC{n:Nat}:∀{v:AH},v.refs (·<n)->v.wf n
 | .ptr ..,h=>by simpa only[AH.refs,AH.wf] using h
 | .slice ..,h=>by simpa only[AH.refs,AH.wf] using h
 | .acc ..,h=>by simpa only[AH.refs,AH.wf] using h
 | .Kl ..,h=>by simpa only[AH.refs,AH.wf] using h
 | .map ..,h=>by simpa only[AH.refs,AH.wf] using h
 | .M1 ..,h=>by simpa only[AH.refs,AH.wf] using h
 | .func _ l,h=>by simp only[AH.refs,AH.wf]at*;exact FY h
 | .iface _ v,h=>by simp only[AH.refs,AH.wf]at*;exact SC h
 | .agg l,h=>by simp only[AH.refs,AH.wf]at*;exact FY h
 | .Bj l,h=>by simp only[AH.refs,AH.wf]at*;exact FY h
 | .Dk,_=>by simp[AH.wf]
 | .int ..,_=>by simp[AH.wf]
 | .bool _,_=>by simp[AH.wf]
 | .str _,_=>by simp[AH.wf]
 | .lit _,_=>by simp[AH.wf]
theorem FY{n:Nat}:∀{l:List AH},Ay (·<n) l->M3 n l
 |[],_=>by simp[M3]
 |a::l,h=>by simp only[Ay]at h;simp only[M3];exact⟨SC h.1,FY h.2⟩
end
mutual
theorem Rc{n:Nat}:∀{v:AH},v.wf n->v.refs (·<n)
 | .ptr ..,h=>by simpa only[AH.refs,AH.wf] using h
 | .slice ..,h=>by simpa only[AH.refs,AH.wf] using h
 | .acc ..,h=>by simpa only[AH.refs,AH.wf] using h
 | .Kl ..,h=>by simpa only[AH.refs,AH.wf] using h
 | .map ..,h=>by simpa only[AH.refs,AH.wf] using h
 | .M1 ..,h=>by simpa only[AH.refs,AH.wf] using h
 | .func _ l,h=>by simp only[AH.refs,AH.wf]at*;exact Ef h
 | .iface _ v,h=>by simp only[AH.refs,AH.wf]at*;exact Rc h
 | .agg l,h=>by simp only[AH.refs,AH.wf]at*;exact Ef h
 | .Bj l,h=>by simp only[AH.refs,AH.wf]at*;exact Ef h
 | .Dk,_=>by simp[AH.refs]
 | .int ..,_=>by simp[AH.refs]
 | .bool _,_=>by simp[AH.refs]
 | .str _,_=>by simp[AH.refs]
 | .lit _,_=>by simp[AH.refs]
theorem Ef{n:Nat}:∀{l:List AH},M3 n l->Ay (·<n) l
 |[],_=>by simp[Ay]
 |a::l,h=>by simp only[M3]at h;simp only[Ay];exact⟨Rc h.1,Ef h.2⟩
end
theorem Sy{p:Nat->Prop}{T:List AH}(h:Ay p T)(t:Nat):(T.getD t .Dk).refs p:=by
 cases ht:T[t]? with
 |none=>simp[Qn,ht,AH.refs]
 |some a=>simp only[Qn,ht,Option.getD_some];exact Ju h ht
theorem cm{T:List AH}{k n:Nat}{b:EH}{v:AH}{x:Au}(h:Cz T k b=some (v,x)):∃v0,Cz T n b=some (v0,x)/\
 ∀{σ1 σ2:B0} {H1 H2:AP} {u:Value},H1[n]?=some x->H2[k]?=some x->σ2 k=σ1 n->VR σ1 H1 v0 u->VR σ2 H2 v u:=by
 have ptr:∀{σ1 σ2:B0} {H1 H2:AP} {u:Value} {a i j:Nat},H1[n]?=some x->H2[k]?=some x->σ2 k=σ1 n->VR σ1 H1 (.ptr n a i j) u->VR σ2 H2 (.ptr k a i j) u:=by
  intro σ1 σ2 H1 H2 u a i j h1 h2 h3 h4
  simp only[VR]at h4 ⊢
  rw[h1]at h4;rw[h2,h3];exact h4
 have slc:∀{σ1 σ2:B0} {H1 H2:AP} {u:Value} {a i j:Nat} {f:Bool},H1[n]?=some x->H2[k]?=some x->σ2 k=σ1 n->VR σ1 H1 (.slice n a i j f) u->VR σ2 H2 (.slice k a i j f) u:=by
  intro σ1 σ2 H1 H2 u a i j f h1 h2 h3 h4
  simp only[VR]at h4 ⊢
  rw[h1]at h4;rw[h2,h3];exact h4
 cases b<;>simp only[Cz]at h ⊢
 case new=>
  simp only[Qc,Qb]at h;obtain⟨rfl,rfl⟩:=h
  exact⟨_,rfl,ptr⟩
 case box=>
  simp only[Qe,Qb]at h;obtain⟨l,h1,rfl,rfl⟩:=h
  exact⟨_,by rw[h1];rfl,ptr⟩
 case EO=>
  simp only[Qe,Qb]at h;obtain⟨l,h1,rfl,rfl⟩:=h
  exact⟨_,by rw[h1];rfl,slc⟩
 case MM=>
  split at h
  case h_2=>cases h
  split at h
  case isFalse=>cases h
  rename_i hc
  simp only[Qc,Qb]at h;obtain⟨rfl,rfl⟩:=h
  exact⟨_,by rw[if_pos hc],slc⟩
 case Pa=>
  simp only[Qc,Qb]at h;obtain⟨rfl,rfl⟩:=h
  refine⟨_,rfl,λh1 h2 h3 h4=> ?_⟩
  simp only[VR]at h4 ⊢
  rw[h1]at h4;rw[h2,h3];exact h4
theorem Ly{σ:B0}{H:AP}{k:Nat}(hk:H[k]?=some .A1)(x:Au)(p:Place):Grow σ H (σ.Ec k p) (H.set k x):=by
 have ne:∀{o:Nat} {y:Au},H[o]?=some y->y≠ .A1->o≠k:=λho hy e=>by subst e;rw[hk]at ho;injection ho with ho;exact hy ho.symm
 have hs:∀{o:Nat},o≠k->(σ.Ec k p) o=σ o:=λho=>by simp[B0.Ec,ho]
 refine⟨by simp,fun{o s xs ro} ho=> ?_,fun{o es} ho=> ?_,fun{o s p} ho=> ?_⟩
 ·have:=ne ho (by simp)
  exact⟨xs,by rw[Qa (Qi this)];exact ho,Nat.le_refl _,λ_=>hs this⟩
 ·have:=ne ho (by simp)
  exact⟨⟨es,by rw[Qa (Qi this)];exact ho⟩,hs this⟩
 ·have:=ne ho (by simp)
  exact⟨⟨s,p,by rw[Qa (Qi this)];exact ho⟩,hs this⟩
theorem Ext.fill{σ0 σ:B0}{H0 H:AP}(h:Ext σ0 H0 σ H){k:Nat}(hk:H[k]?=some .A1)(hn:H0.length<=k){x:Au}(hx:x.LK=true)(p:Place):Ext σ0 H0 (σ.Ec k p) (H.set k x):=by
 refine⟨h.toGrow.trans (Ly hk x p),fun{o} ho=> ?_,fun{o s xs} ho=> ?_⟩
 ·have hol:=(Qd.1 ho).1
  rw[Qa (by omega)];exact h.A1 ho
 ·have hkl:=(Qd.1 hk).1
  have hne:k≠o:=λe=>by subst e;rw[Qj hkl]at ho;injection ho with ho;subst ho;cases hx
  rw[Qa hne]at ho
  obtain⟨h1,h2⟩:=h.Cd ho
  exact⟨h1,by rw[<-h2];simp[B0.Ec,Qi hne]⟩
theorem Sg{P:Program}{B:Nat->Prop}{σ:B0}{H:AP}{w:World}{T:List AH}{a:Act}{o:Oper}{b:EH}(hok:OI P b.Z3 o.op=true)(hc:b.Du=true){k:Nat}(hk:H[k]?=some .A1){v:AH}{x:Au}(hs:Cz T k b=some (v,x))
 (
  hR:BL B σ H w) (hT:BQ σ H T a.tmps.toList):∃(σ1:B0) (p:Place) (u:Value) (w':World),((execOp a.eval o).run P w= .ok (.value u) w'\/((execOp a.eval o).run P w= .ok .skip w'/\u=undef))/\
  BL B (σ1.Ec k p) (H.set k x) w'/\VR (σ1.Ec k p) (H.set k x) v u/\Ext σ H σ1 H/\Kept B w w':=by
 obtain⟨v0,h0,hval⟩:=cm (n:=H.length) hs
 obtain⟨σ',u,w',hrun,hR',hv,hext,hb⟩:=KX hok (Yt h0) hR hT
 have hkl:=(Qd.1 hk).1
 have hnx:(H++[x])[H.length]?=some x:=by simp
 have hself:(H.set k x)[k]?=some x:=Qj hkl
 have hcut:=hR'.cut (G:=[x]) hR.wf
 have hextc:Ext σ H σ' H:=hext.cut (Nat.le_refl _)
 have hxw:x.wf H.length:=by
  have hTw:=Ef hT.wf
  have:=(Si (p:=(·<H.length)) (Sy hTw) hkl hc hs).2
  cases x with
  |AU s xs ro=>exact λy hy=>FY (this y hy)
  |map es=>exact⟨FY this.1,FY this.2⟩
  |iter s p=>trivial
  |A1=>trivial
 have hg:=Ly (σ:=σ') hk x (σ' H.length)
 have hs1:∀{o:Nat},o≠k->(σ'.Ec k (σ' H.length)) o=σ' o:=λho=>by simp[B0.Ec,ho]
 have hsk:(σ'.Ec k (σ' H.length)) k=σ' H.length:=by simp[B0.Ec]
 have up:∀{o:Nat} {y:Au},H[o]?=some y->(H++[x])[o]?=some y:=λho=>by rw[List.getElem?_append_left (Qd.1 ho).1];exact ho
 refine⟨σ',σ' H.length,u,w',hrun,⟨fun{o y} ho=> ?_,fun{o o' y y'} ho ho' hy hy' hbb=> ?_,hR'.base⟩,hval hnx hself hsk hv,hextc,hb⟩
 ·by_cases e:k=o
  ·subst e
   rw[hself]at ho;injection ho with ho;subst ho
   rw[hsk]
   exact((hR'.obj hnx).cut hxw).grow hg rfl
  ·rw[Qa e]at ho
   rw[hs1 (Qi e)]
   exact(hcut.obj ho).grow hg rfl
 ·by_cases e:k=o<;>by_cases e':k=o'
  ·omega
  ·exfalso
   subst e
   rw[hself]at ho;injection ho with ho;subst ho
   rw[Qa e']at ho'
   rw[hsk]at hy hbb
   rw[hs1 (Qi e')]at hy' hbb
   have:=hR'.apart hnx (up ho') hy hy' hbb
   have:=(Qd.1 ho').1
   omega
  ·exfalso
   subst e'
   rw[hself]at ho';injection ho' with ho';subst ho'
   rw[Qa e]at ho
   rw[hsk]at hy' hbb
   rw[hs1 (Qi e)]at hy hbb
   have:=hR'.apart (up ho) hnx hy hy' hbb
   have:=(Qd.1 ho).1
   omega
  ·rw[Qa e]at ho
   rw[Qa e']at ho'
   rw[hs1 (Qi e)]at hy hbb
   rw[hs1 (Qi e')]at hy' hbb
   exact hR'.apart (up ho) (up ho') hy hy' hbb
def Sat(T:List AH)(H:AP):Prop:=∃(B:Nat->Prop) (σ:B0) (w:World) (vs:List Value),BL B σ H w/\BQ σ H T vs
theorem Sat.put{T:List AH}{H H1:AP}{B:Nat->Prop}{σ σ1:B0}{w1:World}{vs:List Value}(hT:BQ σ H T vs)(hR:BL B σ1 H1 w1)(hg:Grow σ H σ1 H1)(dst:Option Nat){v:AH}{u:Value}(hv:VR σ1 H1 v u):Sat (Ar T dst v) H1:=by
 refine⟨B,σ1,w1,(match dst with|none=>vs|some d=>vs.set d u),hR,?_⟩
 cases dst with
 |none=>exact hT.grow hg
 |some d=>exact(hT.grow hg).set d hv
theorem W9{P:Program}{R:Array Oper}{n0:Nat}{pre:Nat->Bool}{i:Nat}{o:A6}{oR:Oper}(hok:EW P R o oR=true)(hcst:o.op.Du=true){log:Cp}{C:Cp->St->Prop}{s:St}(hs:Sat s.T s.H)(hgh:∀j b,o.op= .born j b->s.H[n0+j]?=some .A1)
 (h:De P n0 pre i o log C s):∃l1 v H1,C l1 ⟨Ar s.T o.dst v,H1⟩/\Sat (Ar s.T o.dst v) H1/\∀k:Nat,s.H[k]?=some .A1->D4 n0 o≠some k->H1[k]?=some .A1:=by
 obtain⟨B,σ,w,vs,hR,hT⟩:=hs
 have act:Kt P n0 pre i o log C s->∃l1 v H1,C l1 ⟨Ar s.T o.dst v,H1⟩/\Sat (Ar s.T o.dst v) H1/\∀k:Nat,s.H[k]?=some .A1->D4 n0 o≠some k->H1[k]?=some .A1:=by
  intro h
  simp only[EW,Qf,Bool.or_eq_true,beq_iff_eq]at hok
  obtain⟨⟨hd,hg⟩,hop⟩:=hok
  unfold Kt at h
  split at h
  ·rename_i j b hob
   split at h
   case h_2=>exact h.elim
   rename_i v x hbs
   have hk:=hgh j b hob
   have hop':OI P b.Z3 oR.op=true:=by
    rw[hob]at hop
    rcases hop with hop|⟨hop,-⟩
    ·exact hop
    ·simp[Ge]at hop
   rw[hob]at hcst
   obtain⟨σ1,p,u,w1,-,hR1,hv,he,-⟩:=Sg (a:={tmps:=vs.toArray,defers:=[]}) hop' hcst hk hbs hR (by simpa using hT)
   refine⟨_,_,_,h,Sat.put hT hR1 (he.toGrow.trans (Ly hk x p)) o.dst hv,λk hk' hne=> ?_⟩
   have:n0+j≠k:=λe=>hne (by simp[D4,hob,e])
   rw[Qa this];exact hk'
  ·rename_i hnb
   have hpl:o.op.JL=o.op:=by
    unfold GS.JL
    split
    ·rename_i k b hop';exact absurd hop' (hnb k b)
    ·rfl
   rw[hpl]at hop
   have plain:∀(v:AH) (H1:AP),o.op.quiet=true\/(∀f args,o.op≠ .call f args)/\(∀y args,o.op≠ .Ha y args)->AV s.T s.H o.op=some (v,H1)->Sat (Ar s.T o.dst v) H1/\∀k:Nat,s.H[k]?=some .A1->D4 n0 o≠some k->H1[k]?=some .A1:=by
    intro v H1 hnc hst
    have hop':OI P o.op oR.op=true:=by
     rcases hop with hop|⟨hop,-⟩
     ·exact hop
     ·exfalso
      unfold Ge at hop
      split at hop
      ·rename_i hao _
       rcases hnc with hq|hq
       ·rw[hao]at hq;cases hq
       ·exact hq.1 _ _ hao
      ·rename_i hao _
       rcases hnc with hq|hq
       ·rw[hao]at hq;cases hq
       ·exact hq.2 _ _ hao
      ·cases hop
    obtain⟨σ1,u,w1,-,hR1,hv,he,-⟩:=KX (a:={tmps:=vs.toArray,defers:=[]}) hop' hst hR (by simpa using hT)
    exact⟨Sat.put hT hR1 he.toGrow o.dst hv,λk hk _=>(G1 (x:= .A1) hk hst).2⟩
   split at h
   ·rename_i hq
    split at h
    case h_2=>exact h.elim
    rename_i v H1 hst
    have e:=EM hq hst
    subst e
    obtain⟨g1,g2⟩:=plain v _ (.inl hq) hst
    exact⟨_,_,_,h,g1,g2⟩
   ·rename_i hq
    have calls:∀(f:FuncId) (args:List AH) (hargs:∃xs,BQ σ s.H args xs),AF P f args s.H (λv H'=>Kk pre H' log/\C log ⟨Ar s.T o.dst v,H'⟩)->∃l1 v H1,C l1 ⟨Ar s.T o.dst v,H1⟩/\Sat (Ar s.T o.dst v) H1/\∀k:Nat,s.H[k]?=some .A1->D4 n0 o≠some k->H1[k]?=some .A1:=by
     intro f args hargs h
     obtain⟨xs,hxs⟩:=hargs
     obtain⟨e,w1,fr,⟨y,σ1,v,H1,-,⟨-,hk⟩,hR1,hv,he,-⟩,-⟩:=h B σ w xs hR hxs []
     exact⟨_,_,_,hk,Sat.put hT hR1 he.toGrow o.dst hv,λk hk _=>he.A1 hk⟩
    have hT':BQ σ s.H s.T ({tmps:=vs.toArray,defers:=[]}:Act).tmps.toList:=by simpa using hT
    unfold Bu at h
    split at h
    ·rename_i f args hao
     have hc:Ge (.call f args) oR.op=true:=by
      rw[hao]at hop
      rcases hop with hop|hop
      ·cases ho:oR.op<;>rw[ho]at hop<;>simp[OI]at hop
      ·exact hop.1
     unfold Ge at hc
     split at hc
     case h_3=>cases hc
     case h_2=>rename_i e1 _;cases e1
     rename_i f' args' g cargs at' e1 e2
     injection e1 with e1 e1';subst e1;subst e1'
     simp only[Qf,beq_iff_eq]at hc
     exact calls f _ ⟨_,Lr hT' hc.2⟩ h
    ·rename_i y args hao
     split at h
     case h_2=>exact h.elim
     rename_i f cap hfv
     have hc:Ge (.Ha y args) oR.op=true:=by
      rw[hao]at hop
      rcases hop with hop|hop
      ·cases ho:oR.op<;>rw[ho]at hop<;>simp[OI]at hop
      ·exact hop.1
     unfold Ge at hc
     split at hc
     case h_3=>cases hc
     case h_1=>rename_i e1 _;cases e1
     rename_i y' args' yv cargs at' e1 e2
     injection e1 with e1 e1';subst e1;subst e1'
     simp only[Qf]at hc
     have hy:=Bi hT' hc.1
     rw[hfv]at hy;simp only[VR]at hy
     obtain⟨cs,-,hcap⟩:=hy
     exact calls f _ ⟨_,(Lr hT' hc.2).append hcap⟩ h.2
    ·rename_i hn1 hn2
     split at h
     case h_2=>exact h.elim
     rename_i v H1 hst
     obtain⟨g1,g2⟩:=plain v H1 (.inr ⟨hn1,hn2⟩) hst
     exact⟨_,_,_,h.2,g1,g2⟩
 unfold De at h
 split at h
 ·exact act h
 ·split at h
  case h_2=>exact h.elim
  rename_i d b hg x2 g hgv
  by_cases hgb:g=some b
  ·exact act (h.1 hgb)
  ·refine⟨_,_,_,h.2 hgb,Sat.put hT hR (Grow.refl _ _) o.dst (u:=undef) Ls,λk hk _=>hk⟩
theorem extract{P:Program}{R:Array Oper}{n0:Nat}{pre:Nat->Nat->Bool}{K:St->Prop}{i:Nat}{oi:A6}(hm:oi.op.Wc=true){B:List (Nat×A6)}:
 ∀(A:List (Nat×A6)),(∀p∈A,p.2.op.Du=true/\aF p.2 oi/\∃oR,EW P R p.2 oR=true)->A.Pairwise (λp q=>∀k,D4 n0 p.2=some k->D4 n0 q.2≠some k)->∀(log:Cp) (s:St),Sat s.T s.H->(∀p∈A,∀j b,p.2.op= .born j b->s.H[n0+j]?=some .A1)->
  Ab P n0 pre (A++(i,oi)::B) log K s->∃e,Y3 n0 oi s.T=some e
 |[],_,_,log,s,_,_,h=>by
  have h':De P n0 (pre i) i oi log (λl' s'=>Ab P n0 pre B l' K s') s:=h
  rw[Jz hm]at h'
  obtain⟨v,x,he,-⟩:=h'
  exact⟨_,he⟩
 |(k,ok)::A,hA,hp,log,s,hs,hgh,h=>by
  obtain⟨hcst,hind,oR,hok⟩:=hA (k,ok) Qh
  rw[List.pairwise_cons]at hp
  have h':De P n0 (pre k) k ok log (λl' s'=>Ab P n0 pre (A++(i,oi)::B) l' K s') s:=h
  obtain⟨l1,v,H1,hc,hs1,hg1⟩:=W9 hok hcst hs (hgh (k,ok) Qh) h'
  have hag:∀t∈oi.looks,(Ar s.T ok.dst v).getD t .Dk=s.T.getD t .Dk:=λt ht=>by
   rw[Eg,if_neg]
   rintro⟨hd,-⟩
   exact(hind.1 t hd).1 ht
  have:=extract hm A (λp hp=>hA p (Qg _ hp)) hp.2 l1 ⟨Ar s.T ok.dst v,H1⟩ hs1 (λp hpm j b hb=> ?_) hc
  ·rwa [kg hag]at this
  ·refine hg1 _ (hgh p (Qg _ hpm) j b hb) λe=> ?_
   exact hp.1 p hpm _ e (by simp[D4,hb])
end Go.Ax
