/- A closed call, known over no objects, is known over any: its objects stand behind them. Conditions: none. -/
import Derived.Test.YtohgndhnndeijaaGreatAxRunZ
import Derived.Test.YtohgndhnndeijaaGreatAxGcZ
set_option linter.all false
open List renaming getElem?_append_left -> Qa, getElem?_append_right -> Qb, getElem?_eq_some_iff -> Qc, getElem?_map -> Qd, map_map -> Qe
namespace Go.Ax
open Go
mutual
def AH.shift(n:Nat):AH->AH
 | .ptr o m i j=> .ptr (n+o) m i j
 | .slice o m st len full=> .slice (n+o) m st len full
 | .acc o m=> .acc (n+o) m
 | .Kl o m i j len=> .Kl (n+o) m i j len
 | .map o=> .map (n+o)
 | .M1 o=> .M1 (n+o)
 | .func f l=> .func f (I2 n l)
 | .iface t v=> .iface t (AH.shift n v)
 | .agg l=> .agg (I2 n l)
 | .Bj l=> .Bj (I2 n l)
 |a=>a
def I2(n:Nat):List AH->List AH
 |[]=>[]
 |a::l=>AH.shift n a::I2 n l
end
def Au.shift(n:Nat):Au->Au
 | .AU s xs ro=> .AU s (xs.map (I2 n)) ro
 | .map es=> .map (es.map λe=>(e.1.shift n,e.2.shift n))
 |x=>x
abbrev UN(n:Nat):Ren:=λo o'=>o'=n+o
mutual
theorem Kr.shift{n:Nat}:∀(a:AH),Kr (UN n) a (a.shift n)
 | .ptr .. =>⟨_,rfl,rfl⟩
 | .slice .. =>⟨_,rfl,rfl⟩
 | .acc .. =>⟨_,rfl,rfl⟩
 | .Kl .. =>⟨_,rfl,rfl⟩
 | .map _=>⟨_,rfl,rfl⟩
 | .M1 _=>⟨_,rfl,rfl⟩
 | .func _ l=>⟨_,rfl,CY.shift l⟩
 | .iface _ v=>⟨_,rfl,Kr.shift v⟩
 | .agg l=>⟨_,rfl,CY.shift l⟩
 | .Bj l=>⟨_,rfl,CY.shift l⟩
 | .Dk=>rfl
 | .int .. =>rfl
 | .bool _=>rfl
 | .str _=>rfl
 | .lit _=>rfl
theorem CY.shift{n:Nat}:∀(l:List AH),CY (UN n) l (I2 n l)
 |[]=>rfl
 |a::l=>⟨_,_,rfl,Kr.shift a,CY.shift l⟩
end
theorem Mu{n:Nat}{α:Type}(f:α->AH):∀l:List α,I2 n (l.map f)=l.map λx=>(f x).shift n
 |[]=>rfl
 |x::l=>by simp[I2,Mu f l]
theorem JW.shift{n:Nat}(x:Au):JW (UN n) x (x.shift n):=by
 cases x with
 |AU s xs ro=>
  refine⟨_,rfl,by simp,λi x x' h1 h2=> ?_⟩
  simp[h1]at h2;subst h2
  exact CY.shift x
 |map es=>
  refine⟨_,rfl,?_,?_⟩
  ·rw[Qe];have:=CY.shift (n:=n) (es.map (·.1));rwa [Mu]at this
  ·rw[Qe];have:=CY.shift (n:=n) (es.map (·.2));rwa [Mu]at this
 |iter s p=>rfl
 |A1=>rfl
theorem AF.lift{P:Program}{f:FuncId}{args:List AH}(ha:NK args=true){v:AH}{H':AP}(h:∀K:AH->AP->Prop,K v H'->AF P f args [] K){H:AP}{K:AH->AP->Prop}(hK:K (v.shift H.length) (H++H'.map (Au.shift H.length))):AF P f args H K:=by
 intro B σ w vs hR hV
 refine(h (λa b=>v=a/\H'=b) ⟨rfl,rfl⟩ (·<w.heap.size) σ w vs ⟨λho=>by simp at ho,λho=>by simp at ho,λ_ h=>h⟩ (BQ.flat args ha hV)).mono ?_
 rintro e w' ⟨x,σ',_,_,rfl,⟨rfl,rfl⟩,hR',hx,he,hb⟩
 let σ2:B0:=λq=>if q<H.length then σ q else σ' (q-H.length)
 have k:iJ (UN H.length) σ' H' σ2 (H++H'.map (Au.shift H.length)):=by
  refine⟨fun{o o'} hr=> ?_⟩
  subst hr
  refine⟨by show(if _ then _ else _)=_;rw[if_neg (by omega)];congr 1;omega,λx hx=>⟨x.shift H.length,?_,JW.shift x⟩⟩
  rw[Qb (by omega),Nat.add_sub_cancel_left,Qd,hx];rfl
 have hg:Grow σ H σ2 (H++H'.map (Au.shift H.length)):=by
  have Cd:∀{o:Nat} {y:Au},H[o]?=some y->σ2 o=σ o/\(H++H'.map (Au.shift H.length))[o]?=some y:=fun{o y} ho=>by
   have hl:=(Qc.1 ho).1
   exact⟨by simp[σ2,hl],by rw[Qa hl];exact ho⟩
  exact⟨by simp,λho=>⟨_,(Cd ho).2,Nat.le_refl _,λ_=>(Cd ho).1⟩,λho=>⟨⟨_,(Cd ho).2⟩,(Cd ho).1⟩,λho=>⟨⟨_,_,(Cd ho).2⟩,(Cd ho).1⟩⟩
 have cases':∀{q:Nat} {y:Au},(H++H'.map (Au.shift H.length))[q]?=some y->(q<H.length/\H[q]?=some y)\/(¬q<H.length/\∃z,H'[q-H.length]?=some z/\y=z.shift H.length):=by
  intro q y hq
  by_cases hl:q<H.length
  ·rw[Qa hl]at hq;exact .inl ⟨hl,hq⟩
  ·rw[Qb (by omega),Qd,Option.map_eq_some_iff]at hq
   obtain⟨z,hz,rfl⟩:=hq
   exact .inr ⟨hl,z,hz,rfl⟩
 have nro:∀{q s:Nat} {xs:List (List AH)},H'[q]?≠some (.AU s xs true):=fun{q s xs} hq=>by
  obtain⟨⟨_,h0⟩,-⟩:=he.Cd hq;simp at h0
 have sowns:∀(z:Au) (p:Place),(z.shift H.length).DB p=z.DB p:=λz p=>((JW.shift z).DB p).symm
 -- a block of an old object is an old one, and as it was
 have CG:∀{k:Nat} {z:Obj},w.heap[k]?=some z->k<w.heap.size/\w'.heap[k]?=w.heap[k]?:=fun{k z} hz=>by
  have hl:k<w.heap.size:=by
   rcases Nat.lt_or_ge k w.heap.size with h'|h'
   ·exact h'
   ·simp[Array.getElem?_eq_none h']at hz
  exact⟨hl,hb.block k hl⟩
 have s2l:∀{q:Nat},q<H.length->σ2 q=σ q:=fun{q} h=>by show(if _ then _ else _)=_;rw[if_pos h]
 have s2r:∀{q:Nat},¬q<H.length->σ2 q=σ' (q-H.length):=fun{q} h=>by show(if _ then _ else _)=_;rw[if_neg h]
 have oldblk:∀{q:Nat} {y:Au},H[q]?=some y->y.DB (σ q)=true->(σ q).CG<w.heap.size:=by
  intro q y hq hy
  have hr:=hR.obj hq
  cases y with
  |AU s xs ro=>
   obtain⟨-,-,h3⟩:=hr
   simp[Au.DB]at hy
   rcases h3 with h3|⟨c,e,fr,hbb,-⟩
   ·exact absurd h3 hy.2
   ·exact(CG hbb).1
  |map es=>obtain⟨-,ms,clock,hbb,-⟩:=hr;exact(CG hbb).1
  |iter s p=>exact(CG hr.2).1
  |A1=>simp[Au.DB]at hy
 have newblk:∀{q:Nat} {z:Au},H'[q]?=some z->z.DB (σ' q)=true->¬(σ' q).CG<w.heap.size:=by
  intro q z hq hz
  have hr:=hR'.obj hq
  cases z with
  |AU s xs ro=>
   obtain⟨-,-,h3⟩:=hr
   simp[Au.DB]at hz
   rcases h3 with h3|⟨c,e,fr,-,-,hn,-⟩
   ·exact absurd h3 hz.2
   ·exact(hn hz.1).1
  |map es=>exact hr.1
  |iter s p=>exact hr.1
  |A1=>simp[Au.DB]at hz
 refine⟨x,σ2,v.shift H.length,_,rfl,hK,⟨fun{o y} ho=> ?_,fun{o o' y y'} ho ho' hy hy' hbb=> ?_,λq hq=>Nat.lt_of_lt_of_le (hR.base q hq) hb.size⟩,hx.Rd k (Kr.shift v),⟨hg,fun{o} ho=> ?_,fun{o s ys} ho=> ?_⟩,hb.mono hR.base⟩
 ·rcases cases' ho with⟨hl,ho⟩|⟨hl,z,hz,rfl⟩
  ·rw[s2l hl]
   have hr:=hR.obj ho
   cases y with
   |AU s xs ro=>
    obtain⟨h1,h2,h3⟩:=hr
    refine⟨h1,h2,h3.imp id ?_⟩
    rintro⟨c,e,fr,hbb,hc,r⟩
    exact⟨c,e,fr,(CG hbb).2.trans hbb,λi x' j a hi hj=>let⟨u,q1,q2⟩:=hc i x' j a hi hj;⟨u,q1,q2.grow hg⟩,r⟩
   |map es=>
    obtain⟨h1,ms,clock,hbb,q1,q2⟩:=hr
    exact⟨h1,ms,clock,(CG hbb).2.trans hbb,q1.grow hg,q2.grow hg⟩
   |iter s p=>exact⟨hr.1,(CG hr.2).2.trans hr.2⟩
   |A1=>trivial
  ·rw[s2r hl]
   have hr:=JX.Rd k (JW.shift z) (hR'.obj hz)
   revert hr
   generalize hy:z.shift H.length=y
   intro hr
   cases y with
   |AU s xs ro=>
    obtain⟨h1,h2,h3⟩:=hr
    refine⟨h1,h2,h3.imp id ?_⟩
    rintro⟨c,e,fr,hbb,hc,hn,hro⟩
    refine⟨c,e,fr,hbb,hc,λh=> ?_,λh=> ?_⟩
    ·obtain⟨q1,q2⟩:=hn h
     exact⟨λhB=>q1 (hR.base _ hB),q2⟩
    ·subst h
     cases z with
     |AU s' xs' ro'=>
      simp only[Au.shift,Au.AU.injEq]at hy
      obtain⟨-,-,rfl⟩:=hy
      exact absurd hz nro
     |map _=>simp[Au.shift]at hy
     |iter _ _=>simp[Au.shift]at hy
     |A1=>simp[Au.shift]at hy
   |map es=>
    obtain⟨h1,r⟩:=hr
    exact⟨λhB=>h1 (hR.base _ hB),r⟩
   |iter s p=>exact⟨λhB=>hr.1 (hR.base _ hB),hr.2⟩
   |A1=>trivial
 ·rcases cases' ho with⟨hl,ho⟩|⟨hl,z,hz,rfl⟩<;>rcases cases' ho' with⟨hl',ho'⟩|⟨hl',z',hz',rfl⟩
  ·rw[s2l hl]at hy hbb;rw[s2l hl']at hy' hbb
   exact hR.apart ho ho' hy hy' hbb
  ·rw[s2l hl]at hy hbb;rw[s2r hl']at hy' hbb
   rw[sowns]at hy'
   exact absurd (hbb▸oldblk ho hy) (newblk hz' hy')
  ·rw[s2r hl]at hy hbb;rw[s2l hl']at hy' hbb
   rw[sowns]at hy
   exact absurd (hbb▸oldblk ho' hy') (newblk hz hy)
  ·rw[s2r hl]at hy hbb;rw[s2r hl']at hy' hbb
   rw[sowns]at hy hy'
   have:=hR'.apart hz hz' hy hy' hbb
   omega
 ·have hl:=(Qc.1 ho).1
  rw[Qa hl];exact ho
 ·rcases cases' ho with⟨hl,ho⟩|⟨hl,z,hz,e⟩
  ·exact⟨⟨_,ho⟩,s2l hl⟩
  ·exfalso
   cases z with
   |AU s' xs' ro'=>
    simp only[Au.shift,Au.AU.injEq]at e
    obtain⟨-,-,e⟩:=e
    subst e
    exact absurd hz nro
   |map _=>simp[Au.shift]at e
   |iter _ _=>simp[Au.shift]at e
   |A1=>simp[Au.shift]at e
end Go.Ax
