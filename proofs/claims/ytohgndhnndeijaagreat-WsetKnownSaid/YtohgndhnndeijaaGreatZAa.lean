/- Texts put behind one another: AxVal, AxMem, AxWf. Conditions: none. -/
import Derived.Calls
import Derived.Laws.World
import Derived.Below
import Derived.Deep.MidRow
set_option linter.all false
open List renaming getElem?_eq_some_iff -> Qa, getElem?_append_left -> Qb, getElem?_set_self -> Qc, getElem?_set_ne -> Qd, mem_of_getElem? -> Qe, mem_or_eq_of_mem_set -> Qg, getElem?_eq_getElem -> Qh, getElem?_eq_none -> Qj, mem_iff_getElem -> Qm, getElem_range -> Qn, length_cons -> Qs, set_set -> Qw
open Array renaming getElem?_setIfInBounds_ne -> Qf, getElem?_eq_none -> Qi
open Nat renaming le_refl -> Qk, mul_le_mul_right -> Ql, le_trans -> Qo, zero_add -> Qp, lt_or_ge -> Qq, div_eq_of_lt -> Qr, mul_add_div -> Qt, le_of_eq -> Qu, mul_comm -> Qv, add_mul -> Qx
namespace Go.Ax
open Go Go.RowKit
inductive AH where
 |Dk
 |int (k:IntKind) (n:Int)
 |bool (b:Bool)
 |str (s:List UInt8)
 |lit (v:Value)
 |ptr (o n i j:Nat)
 |slice (o n st len:Nat) (full:Bool)
 |acc (o n:Nat)
 |Kl (o n i j len:Nat)
 |map (o:Nat)
 |M1 (o:Nat)
 |func (f:FuncId) (cap:List AH)
 |iface (t:TypeId) (v:AH)
 |agg (l:List AH)
 |Bj (l:List AH)
 deriving Inhabited
def Oh:Value->Bool
 | .agg _| .tuple _=>false
 |_=>true
def AH.cell:AH->Bool
 | .Dk| .agg _| .Bj _=>false
 | .lit v=>Oh v
 |_=>true
inductive Au where
 |AU (s:Nat) (xs:List (List AH)) (ro:Bool)
 |map (es:List (AH×AH))
 |iter (s:List UInt8) (pos:Nat)
 |A1
 deriving Inhabited
abbrev AP:=List Au
structure Place where
 CG:Nat
 off:Nat
 room:Nat
abbrev B0:=Nat->Place
mutual
def VR(σ:B0)(H:AP):AH->Value->Prop
 | .Dk,_=>True
 | .int k n,v=>v= .int k n
 | .bool b,v=>v= .bool b
 | .str s,v=>v= .string ⟨s.toArray⟩
 | .lit x,v=>v=x
 | .ptr o n i j,v=>∃s xs ro a,H[o]?=some (.AU s xs ro)/\n<=xs.length/\v= .pointer (some a)/\
  (xs.length=n->a=⟨(σ o).CG,(σ o).off+i* s+j,none⟩)
 | .slice o n st len full,v=>∃s xs ro a cap,H[o]?=some (.AU s xs ro)/\n<=xs.length/\st+len<=n/\v= .slice a len cap/\len<=cap/\(full=true->cap=len)/\(a=none->cap=0)/\
  (xs.length=n->st+cap<=(σ o).room/\(cap≠0->a=some ⟨(σ o).CG,(σ o).off+st* s,none⟩))
 | .acc o n,v=>∃s xs ro,H[o]?=some (.AU s xs ro)/\n<=xs.length/\(n=0->v= .slice none 0 0)/\(n≠0->∃a cap,v= .slice (some a) n cap/\n<=cap/\
  (xs.length=n->cap<=(σ o).room/\a=⟨(σ o).CG,(σ o).off,none⟩))
 | .Kl o n i j len,v=>∃s xs ro a cap,H[o]?=some (.AU s xs ro)/\n<=xs.length/\v= .slice (some a) len cap/\len<=cap/\
  (xs.length=n->i<n/\j+cap<=s/\(cap≠0->a=⟨(σ o).CG,(σ o).off+i* s+j,none⟩))
 | .map o,v=>v= .map (some (σ o).CG)/\∃es,H[o]?=some (.map es)
 | .M1 o,v=>v= .pointer (some ⟨(σ o).CG,0,none⟩)/\∃s p,H[o]?=some (.iter s p)
 | .func f cap,v=>∃cs,v= .func (.func f) #[] cs/\BQ σ H cap cs.toList
 | .iface t x,v=>∃y,v= .iface t y/\VR σ H x y
 | .agg l,v=>l.all AH.cell=true/\∃cs,v= .agg cs/\BQ σ H l cs.toList
 | .Bj l,v=>∃cs,v= .tuple cs/\BQ σ H l cs.toList
def BQ(σ:B0)(H:AP):List AH->List Value->Prop
 |[],[]=>True
 |a::l,v::r=>VR σ H a v/\BQ σ H l r
 |_,_=>False
end
section lists
variable {σ:B0}{H:AP}
@[simp] theorem lz:BQ σ H [] []:=by simp[BQ]
theorem Bn{a:AH}{v:Value}{l:List AH}{r:List Value}:BQ σ H (a::l) (v::r)↔VR σ H a v/\BQ σ H l r:=by simp[BQ]
theorem BQ.length:∀{l:List AH} {r:List Value},BQ σ H l r->l.length=r.length
 |[],[],_=>rfl
 |[],_::_,h=>by simp[BQ]at h
 |_::_,[],h=>by simp[BQ]at h
 |_::l,_::r,h=>by simp[BQ]at h;simp[BQ.length h.2]
theorem H4:∀{l:List AH} {r:List Value},BQ σ H l r↔l.length=r.length/\∀i (h:i<l.length) (h':i<r.length),VR σ H l[i] r[i]
 |[],[]=>by simp
 |[],_::_=>by simp[BQ]
 |_::_,[]=>by simp[BQ]
 |a::l,v::r=>by
  rw[Bn,H4 (l:=l) (r:=r)]
  constructor
  ·rintro⟨h0,hl,hi⟩
   refine⟨by simp[hl],λi h h'=> ?_⟩
   cases i with
   |zero=>exact h0
   |succ i=>exact hi i (by simpa using h) (by simpa using h')
  ·rintro⟨hl,hi⟩
   exact⟨hi 0 (by simp) (by simp),by simpa using hl,λi h h'=>hi (i+1) (by simpa using h) (by simpa using h')⟩
theorem BQ.get{l:List AH}{r:List Value}(h:BQ σ H l r){i:Nat}{a:AH}(ha:l[i]?=some a):∃v,r[i]?=some v/\VR σ H a v:=by
 obtain⟨hl,hi⟩:=H4.1 h
 obtain⟨hlt,rfl⟩:=Qa.1 ha
 have h':i<r.length:=by omega
 exact⟨r[i],by simp[h'],hi i hlt h'⟩
theorem BQ.append{l l':List AH}{r r':List Value}(h:BQ σ H l r)(h':BQ σ H l' r'):BQ σ H (l++l') (r++r'):=by
 induction l generalizing r with
 |nil=>cases r<;>simp_all[BQ]
 |cons a l ih=>cases r with
  |nil=>simp[BQ]at h
  |cons v r=>simp only[List.cons_append,Bn]at*;exact⟨h.1,ih h.2⟩
theorem BQ.take{l:List AH}{r:List Value}(h:BQ σ H l r)(n:Nat):BQ σ H (l.take n) (r.take n):=by
 induction l generalizing r n with
 |nil=>cases r<;>simp_all[BQ]
 |cons a l ih=>cases r with
  |nil=>simp[BQ]at h
  |cons v r=>cases n with
   |zero=>simp
   |succ n=>simp only[List.take_succ_cons,Bn]at*;exact⟨h.1,ih h.2 n⟩
theorem BQ.drop{l:List AH}{r:List Value}(h:BQ σ H l r)(n:Nat):BQ σ H (l.drop n) (r.drop n):=by
 induction l generalizing r n with
 |nil=>cases r<;>simp_all[BQ]
 |cons a l ih=>cases r with
  |nil=>simp[BQ]at h
  |cons v r=>cases n with
   |zero=>simpa using h
   |succ n=>simp only[List.drop_succ_cons];exact ih (Bn.1 h).2 n
theorem BQ.set{l:List AH}{r:List Value}(h:BQ σ H l r)(i:Nat){a:AH}{v:Value}(hv:VR σ H a v):BQ σ H (l.set i a) (r.set i v):=by
 induction l generalizing r i with
 |nil=>cases r<;>simp_all[BQ]
 |cons b l ih=>cases r with
  |nil=>simp[BQ]at h
  |cons w r=>cases i with
   |zero=>simp only[List.set_cons_zero,Bn]at*;exact⟨hv,h.2⟩
   |succ i=>simp only[List.set_cons_succ,Bn]at*;exact⟨h.1,ih h.2 i⟩
theorem JA:∀(n:Nat) (r:List Value),r.length=n->BQ σ H (List.replicate n .Dk) r
 |0,[],_=>by simp
 |n+1,v::r,h=>by simp only[List.replicate_succ,Bn];exact⟨by simp[VR],JA n r (by simpa using h)⟩
 |0,_::_,h=>by simp at h
 |_+1,[],h=>by simp at h
end lists
theorem VR.L3{σ:B0}{H:AP}{a:AH}{v:Value}(h:VR σ H a v)(hc:a.cell=true):Oh v=true:=by
 cases a<;>simp only[VR,AH.cell,Bool.false_eq_true]at h hc
 case int=>subst h;rfl
 case bool=>subst h;rfl
 case str=>subst h;rfl
 case lit=>subst h;exact hc
 case ptr=>obtain⟨_,_,_,_,_,_,rfl,_⟩:=h;rfl
 case slice=>obtain⟨_,_,_,_,_,_,_,_,rfl,_⟩:=h;rfl
 case acc o n=>
  obtain⟨_,_,_,_,_,h0,h1⟩:=h
  by_cases hn:n=0
  ·rw[h0 hn];rfl
  ·obtain⟨_,_,rfl,_⟩:=h1 hn;rfl
 case Kl=>obtain⟨_,_,_,_,_,_,_,rfl,_⟩:=h;rfl
 case map=>obtain⟨rfl,_⟩:=h;rfl
 case M1=>obtain⟨rfl,_⟩:=h;rfl
 case func=>obtain⟨_,rfl,_⟩:=h;rfl
 case iface=>obtain⟨_,rfl,_⟩:=h;rfl
structure Kept (B:Nat->Prop) (w w':World):Prop where
 os:w'.os=w.os
 tape:w'.tape=w.tape
 output:w'.output=w.output
 size:w.heap.size<=w'.heap.size
 block:∀k,B k->w'.heap[k]?=w.heap[k]?
theorem Kept.refl(B:Nat->Prop)(w:World):Kept B w w:=⟨rfl,rfl,rfl,Qk _,λ_ _=>rfl⟩
theorem Kept.trans{B:Nat->Prop}{a b c:World}(h:Kept B a b)(k:Kept B b c):Kept B a c:=
 ⟨k.os.trans h.os,k.tape.trans h.tape,k.output.trans h.output,Qo h.size k.size,λi hi=>(k.block i hi).trans (h.block i hi)⟩
theorem Kept.mono{B B':Nat->Prop}{w w':World}(h:Kept B w w')(hB:∀k,B' k->B k):Kept B' w w':=⟨h.os,h.tape,h.output,h.size,λk hk=>h.block k (hB k hk)⟩
theorem Kept.drew{B:Nat->Prop}{a w:World}(h:Kept B a w):Kept B a w.drew:=⟨h.os,h.tape,h.output,h.size,h.block⟩
theorem Kept.alloc{B:Nat->Prop}{a w:World}(h:Kept B a w)(hB:∀k,B k->k<w.heap.size)(o:Obj):Kept B a (w.alloc o):=
 h.trans ⟨rfl,rfl,rfl,by simp,λk hk=>Below.heap_alloc _ _ _ (hB k hk)⟩
theorem Kept.setCell{B:Nat->Prop}{a w:World}(h:Kept B a w){p:Addr}(hp:¬B p.block)(u:Value):Kept B a (w.setCell p u):=
 h.trans ⟨rfl,rfl,rfl,by simp[World.setCell],λk hk=>Below.heap_setCell _ _ _ _ (λe=>hp (e▸hk))⟩
theorem Kept.below{B:Nat}{w w':World}(h:Kept (·<B) w w'):Below B w w':=⟨h.os,h.tape,h.output,h.size,h.block⟩
structure Grow (σ:B0) (H:AP) (σ':B0) (H':AP):Prop where
 size:H.length<=H'.length
 AU:∀{o s xs ro},H[o]?=some (.AU s xs ro)->∃xs',H'[o]?=some (.AU s xs' ro)/\xs.length<=xs'.length/\(xs.length=xs'.length->σ' o=σ o)
 map:∀{o es},H[o]?=some (.map es)->(∃es',H'[o]?=some (.map es'))/\σ' o=σ o
 iter:∀{o s p},H[o]?=some (.iter s p)->(∃s' p',H'[o]?=some (.iter s' p'))/\σ' o=σ o
theorem Grow.refl(σ:B0)(H:AP):Grow σ H σ H:=⟨Qk _,λh=>⟨_,h,Qk _,λ_=>rfl⟩,λh=>⟨⟨_,h⟩,rfl⟩,λh=>⟨⟨_,_,h⟩,rfl⟩⟩
theorem Grow.trans{σ σ1 σ2:B0}{H H1 H2:AP}(a:Grow σ H σ1 H1)(b:Grow σ1 H1 σ2 H2):Grow σ H σ2 H2:=by
 refine⟨Qo a.size b.size,λh=> ?_,λh=> ?_,λh=> ?_⟩
 ·obtain⟨x1,h1,l1,e1⟩:=a.AU h
  obtain⟨x2,h2,l2,e2⟩:=b.AU h1
  exact⟨x2,h2,Qo l1 l2,λe=>by rw[e2 (by omega),e1 (by omega)]⟩
 ·obtain⟨⟨e1,h1⟩,s1⟩:=a.map h
  obtain⟨h2,s2⟩:=b.map h1
  exact⟨h2,s2.trans s1⟩
 ·obtain⟨⟨e1,p1,h1⟩,s1⟩:=a.iter h
  obtain⟨h2,s2⟩:=b.iter h1
  exact⟨h2,s2.trans s1⟩
structure Ext (σ:B0) (H:AP) (σ':B0) (H':AP):Prop extends Grow σ H σ' H' where
 A1:∀{o:Nat},H[o]?=some .A1->H'[o]?=some .A1
 Cd:∀{o s:Nat} {xs:List (List AH)},H'[o]?=some (.AU s xs true)->(∃xs0,H[o]?=some (.AU s xs0 true))/\σ' o=σ o
theorem Ext.refl(σ:B0)(H:AP):Ext σ H σ H:=⟨Grow.refl σ H,id,λh=>⟨⟨_,h⟩,rfl⟩⟩
theorem Ext.trans{σ σ1 σ2:B0}{H H1 H2:AP}(a:Ext σ H σ1 H1)(b:Ext σ1 H1 σ2 H2):Ext σ H σ2 H2:=
 ⟨a.toGrow.trans b.toGrow,λh=>b.A1 (a.A1 h),λh=>let⟨⟨_,h1⟩,e1⟩:=b.Cd h;let⟨h2,e2⟩:=a.Cd h1;⟨h2,e1.trans e2⟩⟩
def Au.LK:Au->Bool
 | .AU _ _ false=>true
 | .map _=>true
 | .iter _ _=>true
 |_=>false
mutual
theorem VR.grow{σ σ':B0}{H H':AP}(x:Grow σ H σ' H'):∀{a:AH} {v:Value},VR σ H a v->VR σ' H' a v
 | .Dk,_,_=>by simp[VR]
 | .int _ _,_,h=>by simpa only[VR] using h
 | .bool _,_,h=>by simpa only[VR] using h
 | .str _,_,h=>by simpa only[VR] using h
 | .lit _,_,h=>by simpa only[VR] using h
 | .ptr o n i j,v,h=>by
  simp only[VR]at h ⊢
  obtain⟨s,xs,ro,a,ho,hn,hv,ha⟩:=h
  obtain⟨xs',ho',hl,he⟩:=x.AU ho
  refine⟨s,xs',ro,a,ho',by omega,hv,λe=> ?_⟩
  rw[he (by omega)];exact ha (by omega)
 | .slice o n st len full,v,h=>by
  simp only[VR]at h ⊢
  obtain⟨s,xs,ro,a,cap,ho,hn,hst,hv,hc,hf,hz,ha⟩:=h
  obtain⟨xs',ho',hl,he⟩:=x.AU ho
  refine⟨s,xs',ro,a,cap,ho',by omega,hst,hv,hc,hf,hz,λe=> ?_⟩
  rw[he (by omega)];exact ha (by omega)
 | .acc o n,v,h=>by
  simp only[VR]at h ⊢
  obtain⟨s,xs,ro,ho,hn,h0,h1⟩:=h
  obtain⟨xs',ho',hl,he⟩:=x.AU ho
  refine⟨s,xs',ro,ho',by omega,h0,λe=> ?_⟩
  obtain⟨a,cap,hv,hc,ha⟩:=h1 e
  refine⟨a,cap,hv,hc,λe=> ?_⟩
  rw[he (by omega)];exact ha (by omega)
 | .Kl o n i j len,v,h=>by
  simp only[VR]at h ⊢
  obtain⟨s,xs,ro,a,cap,ho,hn,hv,hc,ha⟩:=h
  obtain⟨xs',ho',hl,he⟩:=x.AU ho
  refine⟨s,xs',ro,a,cap,ho',by omega,hv,hc,λe=> ?_⟩
  rw[he (by omega)];exact ha (by omega)
 | .map o,v,h=>by
  simp only[VR]at h ⊢
  obtain⟨rfl,es,ho⟩:=h
  obtain⟨h1,h2⟩:=x.map ho
  exact⟨by rw[h2],h1⟩
 | .M1 o,v,h=>by
  simp only[VR]at h ⊢
  obtain⟨rfl,s,p,ho⟩:=h
  obtain⟨h1,h2⟩:=x.iter ho
  exact⟨by rw[h2],h1⟩
 | .func f cap,v,h=>by
  simp only[VR]at h ⊢
  obtain⟨cs,rfl,hc⟩:=h
  exact⟨cs,rfl,BQ.grow x hc⟩
 | .iface t y,v,h=>by
  simp only[VR]at h ⊢
  obtain⟨z,rfl,hc⟩:=h
  exact⟨z,rfl,VR.grow x hc⟩
 | .agg l,v,h=>by
  simp only[VR]at h ⊢
  obtain⟨ha,cs,rfl,hc⟩:=h
  exact⟨ha,cs,rfl,BQ.grow x hc⟩
 | .Bj l,v,h=>by
  simp only[VR]at h ⊢
  obtain⟨cs,rfl,hc⟩:=h
  exact⟨cs,rfl,BQ.grow x hc⟩
theorem BQ.grow{σ σ':B0}{H H':AP}(x:Grow σ H σ' H'):∀{l:List AH} {r:List Value},BQ σ H l r->BQ σ' H' l r
 |[],[],_=>by simp
 |[],_::_,h=>by simp[BQ]at h
 |_::_,[],h=>by simp[BQ]at h
 |a::l,v::r,h=>by
  rw[Bn]at h ⊢
  exact⟨VR.grow x h.1,BQ.grow x h.2⟩
end
theorem VR.ext{σ σ':B0}{H H':AP}(x:Ext σ H σ' H'){a:AH}{v:Value}(h:VR σ H a v):VR σ' H' a v:=VR.grow x.toGrow h
theorem BQ.ext{σ σ':B0}{H H':AP}(x:Ext σ H σ' H'){l:List AH}{r:List Value}(h:BQ σ H l r):BQ σ' H' l r:=BQ.grow x.toGrow h
def JX(σ:B0)(H:AP)(B:Nat->Prop)(w:World)(p:Place):Au->Prop
 | .AU s xs ro=>(∀x∈xs,x.length=s/\x.all AH.cell=true)/\xs.length<=p.room/\(p.room=0\/∃c e fr,w.heap[p.CG]?=some (.cells c e fr)/\
  (∀i (x:List AH) j a,xs[i]?=some x->x[j]?=some a->∃v,c[p.off+i* s+j]?=some v/\VR σ H a v)/\
  (ro=false->¬B p.CG/\p.off=0/\fr=(0,0)/\c.size=p.room* s)/\(ro=true->B p.CG))
 | .map es=>¬B p.CG/\∃ms clock,w.heap[p.CG]?=some (.map ms clock)/\BQ σ H (es.map (·.1)) (ms.toList.map (·.key))/\BQ σ H (es.map (·.2)) (ms.toList.map (·.val))
 | .iter s pos=>¬B p.CG/\w.heap[p.CG]?=some (.stringIter ⟨s.toArray⟩ pos)
 | .A1=>True
def Au.DB(p:Place):Au->Bool
 | .AU _ _ ro=>!ro&&p.room !=0
 | .A1=>false
 |_=>true
structure BL (B:Nat->Prop) (σ:B0) (H:AP) (w:World):Prop where
 obj:∀{o x},H[o]?=some x->JX σ H B w (σ o) x
 apart:∀{o o' x x'},H[o]?=some x->H[o']?=some x'->x.DB (σ o)=true->x'.DB (σ o')=true->(σ o).CG=(σ o').CG->o=o'
 base:∀k,B k->k<w.heap.size
theorem BL.fresh{B:Nat->Prop}{σ:B0}{H:AP}{w:World}(h:BL B σ H w):¬B w.heap.size:=λhb=>Nat.lt_irrefl _ (h.base _ hb)
def Alike(H H':AP):Prop:=H.length=H'.length/\∀o:Nat,match(H[o]?:Option Au),(H'[o]?:Option Au)with
 |some (.AU s xs ro),some (.AU s' xs' ro')=>s=s'/\ro=ro'/\xs.length=xs'.length
 |some (.map _),some (.map _)=>True
 |some (.iter _ _),some (.iter _ _)=>True
 |some .A1,some .A1=>True
 |none,none=>True
 |_,_=>False
theorem Alike.ext{H H':AP}(h:Alike H H')(σ:B0):Ext σ H σ H':=by
 obtain⟨hl,hk⟩:=h
 refine⟨⟨Qu hl,fun{o s xs ro} ho=> ?_,fun{o es} ho=> ?_,fun{o s p} ho=> ?_⟩,fun{o} ho=> ?_,fun{o s xs} ho=> ?_⟩
 ·have:=hk o;rw[ho]at this
  cases hh:H'[o]? with
  |none=>simp[hh]at this
  |some x=>cases x with
   |AU s' xs' ro'=>simp only[hh]at this;obtain⟨rfl,rfl,hx⟩:=this;exact⟨xs',rfl,Qu hx,λ_=>rfl⟩
   |map=>simp[hh]at this
   |iter=>simp[hh]at this
   |A1=>simp[hh]at this
 ·have:=hk o;rw[ho]at this
  cases hh:H'[o]? with
  |none=>simp[hh]at this
  |some x=>cases x with
   |AU=>simp[hh]at this
   |map es'=>exact⟨⟨es',rfl⟩,rfl⟩
   |iter=>simp[hh]at this
   |A1=>simp[hh]at this
 ·have:=hk o;rw[ho]at this
  cases hh:H'[o]? with
  |none=>simp[hh]at this
  |some x=>cases x with
   |AU=>simp[hh]at this
   |map=>simp[hh]at this
   |iter s p=>exact⟨⟨s,p,rfl⟩,rfl⟩
   |A1=>simp[hh]at this
 ·have:=hk o;rw[ho]at this
  cases hh:H'[o]? with
  |none=>simp[hh]at this
  |some x=>cases x with
   |A1=>rfl
   |AU=>simp[hh]at this
   |map=>simp[hh]at this
   |iter=>simp[hh]at this
 ·have:=hk o;rw[ho]at this
  cases hh:H[o]? with
  |none=>simp[hh]at this
  |some x=>cases x with
   |AU s' xs' ro'=>simp only[hh]at this;obtain⟨rfl,rfl,hx⟩:=this;exact⟨⟨xs',rfl⟩,rfl⟩
   |map=>simp[hh]at this
   |iter=>simp[hh]at this
   |A1=>simp[hh]at this
theorem Alike.symm{H H':AP}(h:Alike H H'):Alike H' H:=by
 refine⟨h.1.symm,λo=> ?_⟩
 have:=h.2 o
 revert this
 cases H[o]? with
 |none=>cases H'[o]?<;>simp
 |some x=>cases H'[o]? with
  |none=>cases x<;>simp
  |some y=>cases x<;>cases y<;>simp<;>(try(rintro rfl rfl h3;exact⟨rfl,rfl,h3.symm⟩))
theorem Alike.Mk{H:AP}{o s:Nat}{xs xs':List (List AH)}{ro:Bool}(ho:H[o]?=some (.AU s xs ro))(hl:xs.length=xs'.length):Alike H (H.set o (.AU s xs' ro)):=by
 refine⟨by simp,λp=> ?_⟩
 by_cases hp:o=p
 ·subst hp
  have:o<H.length:=(Qa.1 ho).1
  rw[ho,Qc this]
  exact⟨rfl,rfl,hl⟩
 ·rw[Qd hp]
  cases H[p]? with
  |none=>trivial
  |some x=>cases x<;>simp
theorem JX.grow{σ σ':B0}{H H':AP}(x:Grow σ H σ' H'){B:Nat->Prop}{w w':World}{p:Place}{ob:Au}(h:JX σ H B w p ob)(hw:w'.heap[p.CG]?=w.heap[p.CG]?):JX σ' H' B w' p ob:=by
 cases ob with
 |AU s xs ro=>
  obtain⟨h1,h2,h3⟩:=h
  refine⟨h1,h2,h3.imp id ?_⟩
  rintro⟨c,e,fr,hb,hc,hn,hr⟩
  exact⟨c,e,fr,hw.trans hb,λi x' j a hi hj=>let⟨v,hv,hr⟩:=hc i x' j a hi hj;⟨v,hv,hr.grow x⟩,hn,hr⟩
 |map es=>
  obtain⟨h1,ms,clock,hb,hk,hv⟩:=h
  exact⟨h1,ms,clock,hw.trans hb,hk.grow x,hv.grow x⟩
 |iter s pos=>exact⟨h.1,hw.trans h.2⟩
 |A1=>trivial
theorem JX.ext{σ σ':B0}{H H':AP}(x:Ext σ H σ' H'){B:Nat->Prop}{w w':World}{p:Place}{ob:Au}(h:JX σ H B w p ob)(hw:w'.heap[p.CG]?=w.heap[p.CG]?):JX σ' H' B w' p ob:=JX.grow x.toGrow h hw
theorem BL.heap{B:Nat->Prop}{σ:B0}{H:AP}{w w':World}(h:BL B σ H w)(hw:w'.heap=w.heap):BL B σ H w':=
 ⟨λho=>(h.obj ho).ext (Ext.refl _ _) (by rw[hw]),h.apart,by rw[hw];exact h.base⟩
theorem BL.drew{B:Nat->Prop}{σ:B0}{H:AP}{w:World}(h:BL B σ H w):BL B σ H w.drew:=h.heap rfl
theorem BL.read{B:Nat->Prop}{σ:B0}{H:AP}{w:World}(h:BL B σ H w){o s:Nat}{xs:List (List AH)}{ro:Bool}(ho:H[o]?=some (.AU s xs ro))
 {i:Nat} {x:List AH} (hi:xs[i]?=some x) (j k:Nat) (hjk:j+k<=x.length):
 ∃cs:List Value,cs.length=k/\w.rangeAt (σ o).CG ((σ o).off+i* s+j) cs/\BQ σ H ((x.drop j).take k) cs:=by
 obtain⟨h1,h2,h3⟩:=h.obj ho
 have hlt:i<xs.length:=(Qa.1 hi).1
 have hroom:(σ o).room≠0:=by omega
 obtain⟨c,e,fr,hb,hc,-,-⟩:=h3.resolve_left hroom
 have key:∀m,m<k->∃v,c[(σ o).off+i* s+(j+m)]?=some v/\∃a,x[j+m]?=some a/\VR σ H a v:=by
  intro m hm
  obtain⟨v,hv,hr⟩:=hc i x (j+m) x[j+m] hi (by simp)
  exact⟨v,hv,_,by simp,hr⟩
 refine⟨(List.range k).map λm=>(c[(σ o).off+i* s+(j+m)]?).getD undef,by simp,?_,?_⟩
 ·intro m v hv
  simp only[List.getElem?_map,Option.map_eq_some_iff]at hv
  obtain⟨m',hm',rfl⟩:=hv
  obtain⟨hm1,rfl⟩:=Qa.1 hm'
  simp only[List.length_range]at hm1
  simp only[Qn]
  obtain⟨v,hv,-⟩:=key m hm1
  rw[cell_of_row w _ _ c e fr hb,show(σ o).off+i* s+j+m=(σ o).off+i* s+(j+m) by omega,hv]
  rfl
 ·rw[H4]
  refine⟨by simp;omega,λm hm hm'=> ?_⟩
  have hmk:m<k:=by simpa using hm'
  obtain⟨v,hv,a,ha,hr⟩:=key m hmk
  simp only[List.getElem_take,List.getElem_drop,List.getElem_map,Qn,hv,Option.getD_some]
  obtain⟨_,rfl⟩:=Qa.1 ha
  exact hr
theorem BL.eM{B:Nat->Prop}{σ:B0}{H:AP}{w:World}(h:BL B σ H w){o s:Nat}{xs:List (List AH)}{ro:Bool}(ho:H[o]?=some (.AU s xs ro))
 {i:Nat} {x:List AH} (hi:xs[i]?=some x) {j:Nat} {a:AH} (hj:x[j]?=some a):
 ∃v,w.cell? ⟨(σ o).CG,(σ o).off+i* s+j,none⟩=some v/\VR σ H a v:=by
 obtain⟨h1,h2,h3⟩:=h.obj ho
 have hlt:i<xs.length:=(Qa.1 hi).1
 obtain⟨c,e,fr,hb,hc,-,-⟩:=h3.resolve_left (by omega)
 obtain⟨v,hv,hr⟩:=hc i x j a hi hj
 exact⟨v,by rw[cell_of_row w _ _ c e fr hb,hv],hr⟩
theorem fR{s i j i' j':Nat}(hj:j<s)(hj':j'<s)(h:i* s+j=i'* s+j'):i=i'/\j=j':=by
 have h1:(i* s+j)/s=i:=by rw[Qv,Qt (by omega)];simp[Qr hj]
 have h2:(i'* s+j')/s=i':=by rw[Qv,Qt (by omega)];simp[Qr hj']
 have e:i=i':=by rw[<-h1,h,h2]
 subst e
 exact⟨rfl,by omega⟩
theorem BL.sq{B:Nat->Prop}{σ:B0}{H:AP}{w:World}(h:BL B σ H w){o s:Nat}{xs:List (List AH)}(ho:H[o]?=some (.AU s xs false))
 {i:Nat} {x:List AH} (hi:xs[i]?=some x) {j:Nat} (hj:j<s) {a:AH} {v:Value} (ha:VR σ H a v) (hc:a.cell=true):
 BL B σ (H.set o (.AU s (xs.set i (x.set j a)) false)) (w.setCell ⟨(σ o).CG,i* s+j,none⟩ v):=by
 have hal:Alike H (H.set o (.AU s (xs.set i (x.set j a)) false)):=Alike.Mk ho (by simp)
 have hx:=hal.ext σ
 have hlt:i<xs.length:=(Qa.1 hi).1
 have holt:o<H.length:=(Qa.1 ho).1
 obtain⟨h1,h2,h3⟩:=h.obj ho
 obtain⟨c,e,fr,hb,hcs,hown,-⟩:=h3.resolve_left (by omega)
 obtain⟨hB,hoff,KC,hsz⟩:=hown rfl
 have hxm:x∈xs:=Qe hi
 refine⟨?_,?_,λk hk=>by rw[World.size_setCell];exact h.base k hk⟩
 ·intro p y hp
  by_cases hop:o=p
  ·subst hop
   rw[Qc holt]at hp
   injection hp with hp;subst hp
   refine⟨?_,by simpa using h2,.inr ⟨c.setIfInBounds (i* s+j) v,e,fr,?_,?_,λ_=>⟨hB,hoff,KC,by simpa using hsz⟩,λhh=>by cases hh⟩⟩
   ·intro y hy
    rcases Qg hy with hy|rfl
    ·exact h1 y hy
    ·obtain⟨hl,hall⟩:=h1 x hxm
     refine⟨by simpa using hl,?_⟩
     rw[List.all_eq_true]at hall ⊢
     intro b hb
     rcases Qg hb with hb|rfl
     ·exact hall b hb
     ·exact hc
   ·simp[World.setCell,Array.getElem?_modify,hb]
   ·intro i' x' j' a' hi' hj'
    rw[hoff,Qp]
    by_cases hii:i=i'
    ·subst hii
     rw[Qc hlt]at hi'
     injection hi' with hi';subst hi'
     have hj's:j'<s:=by have:=(Qa.1 hj').1;have hl:=(h1 x hxm).1;simp at this;omega
     by_cases hjj:j=j'
     ·subst hjj
      rw[Qc (by have hl:=(h1 x hxm).1;omega)]at hj'
      injection hj' with hj';subst hj'
      refine⟨v,?_,ha.ext hx⟩
      rw[Array.getElem?_setIfInBounds_self]
      have:i* s+j<c.size:=by
       rw[hsz]
       calc i* s+j<i* s+s:=by omega
        _=(i+1)* s:=by rw[Qx];simp
        _<=(σ o).room* s:=Ql _ (by omega)
      simp[this]
     ·rw[Qd hjj]at hj'
      obtain⟨u,hu,hr⟩:=hcs i x j' a' hi hj'
      rw[hoff,Qp]at hu
      exact⟨u,by rw[Qf (by omega)];exact hu,hr.ext hx⟩
    ·rw[Qd hii]at hi'
     obtain⟨u,hu,hr⟩:=hcs i' x' j' a' hi' hj'
     rw[hoff,Qp]at hu
     have hj's:j'<s:=by have:=(Qa.1 hj').1;have hl:=(h1 x' (Qe hi')).1;omega
     exact⟨u,by rw[Qf (λhh=>hii (fR hj hj's hh).1)];exact hu,hr.ext hx⟩
  ·rw[Qd hop]at hp
   have hrel:=h.obj hp
   -- another block, or no block at all
   by_cases hbb:(σ p).CG=(σ o).CG
   ·cases y with
    |AU s' xs' ro'=>
     obtain⟨k1,k2,k3⟩:=hrel
     by_cases hr0:(σ p).room=0
     ·exact⟨k1,k2,.inl hr0⟩
     ·exfalso
      obtain⟨c',e',fr',hb',_,ho1,ho2⟩:=k3.resolve_left hr0
      cases ro' with
      |true=>exact hB (hbb▸ho2 rfl)
      |false=>
       have:=h.apart hp ho (by simp[Au.DB,hr0]) (by simp[Au.DB];omega) hbb
       omega
    |map es=>
     exfalso
     obtain⟨k1,ms,clock,hb',_⟩:=hrel
     rw[hbb,hb]at hb';cases hb'
    |iter s' p'=>
     exfalso
     obtain⟨k1,hb'⟩:=hrel
     rw[hbb,hb]at hb';cases hb'
    |A1=>trivial
   ·exact hrel.ext hx (Below.heap_setCell _ _ _ _ hbb)
 ·intro p p' y y' hp hp' hy hy' hbb
  have back:∀{q:Nat} {z:Au},(H.set o (.AU s (xs.set i (x.set j a)) false))[q]?=some z->z.DB (σ q)=true->∃z',H[q]?=some z'/\z'.DB (σ q)=true:=by
   intro q z hq hz
   by_cases hop:o=q
   ·subst hop
    rw[Qc holt]at hq
    injection hq with hq;subst hq
    exact⟨_,ho,hz⟩
   ·rw[Qd hop]at hq
    exact⟨z,hq,hz⟩
  obtain⟨z,hz,hz1⟩:=back hp hy
  obtain⟨z',hz',hz1'⟩:=back hp' hy'
  exact h.apart hz hz' hz1 hz1' hbb
def putAt{α:Type}:List α->Nat->List α->List α
 |x,_,[]=>x
 |x,j,a::r=>putAt (x.set j a) (j+1) r
@[simp] theorem Zj {α:Type} (x:List α) (j:Nat):putAt x j []=x:=rfl
@[simp] theorem Iw {α:Type} (x:List α) (j:Nat) (a:α) (r:List α):putAt x j (a::r)=putAt (x.set j a) (j+1) r:=rfl
theorem KO{α:Type}:∀(ys x:List α) (j:Nat),(putAt x j ys).length=x.length
 |[],_,_=>rfl
 |a::r,x,j=>by rw[Iw,KO r];simp
theorem LR{α:Type}:∀(ys x:List α) (j:Nat),j+ys.length<=x.length->putAt x j ys=x.take j++ys++x.drop (j+ys.length)
 |[],x,j,_=>by simp
 |a::r,x,j,h=>by
  simp only[Qs]at h
  rw[Iw,LR r (x.set j a) (j+1) (by simp;omega)]
  have hj:j<x.length:=by omega
  have e1:(x.set j a).take (j+1)=x.take j++[a]:=by
   rw[List.set_eq_take_append_cons_drop,if_pos hj,List.take_append,List.take_of_length_le (by simp;omega)]
   have:j+1-(List.take j x).length=1:=by simp;omega
   rw[this];simp
  have e2:(x.set j a).drop (j+1+r.length)=x.drop (j+(r.length+1)):=by
   rw[List.drop_set,if_pos (by omega)];congr 1;omega
  rw[e1,e2];simp
theorem BQ.putAt{σ:B0}{H:AP}:∀{ys:List AH} {vs:List Value} {l:List AH} {r:List Value} (j:Nat),BQ σ H l r->BQ σ H ys vs->BQ σ H (putAt l j ys) (putAt r j vs)
 |[],[],_,_,_,h,_=>h
 |a::ys,v::vs,l,r,j,h,h'=>by
  rw[Bn]at h'
  exact BQ.putAt (j+1) (h.set j h'.1) h'.2
 |[],_::_,_,_,_,_,h=>by simp[BQ]at h
 |_::_,[],_,_,_,_,h=>by simp[BQ]at h
theorem BL.write{B:Nat->Prop}{σ:B0}{o s:Nat}{i:Nat}:∀(ys:List AH) (cs:List Value) {H:AP} {w:World} {xs:List (List AH)} {x:List AH} (j:Nat),
 BL B σ H w->H[o]?=some (.AU s xs false)->xs[i]?=some x->j+ys.length<=s->BQ σ H ys cs->ys.all AH.cell=true->
 BL B σ (H.set o (.AU s (xs.set i (putAt x j ys)) false)) (w.setCells (σ o).CG (i* s+j) cs)
 |[],[],H,w,xs,x,j,h,ho,hi,_,_,_=>by
  have e1:xs.set i x=xs:=by
   obtain⟨hl,rfl⟩:=Qa.1 hi;simp
  have e2:H.set o (.AU s xs false)=H:=by
   obtain⟨hl,hh⟩:=Qa.1 ho;rw[<-hh];simp
  simpa [e1,e2,World.setCells] using h
 |[],_::_,_,_,_,_,_,_,_,_,_,hv,_=>by simp[BQ]at hv
 |_::_,[],_,_,_,_,_,_,_,_,_,hv,_=>by simp[BQ]at hv
 |a::ys,v::cs,H,w,xs,x,j,h,ho,hi,hj,hv,hc=>by
  rw[Bn]at hv
  simp only[List.all_cons,Bool.and_eq_true]at hc
  simp only[Qs]at hj
  have h1:=h.sq ho hi (j:=j) (by omega) hv.1 hc.1
  have holt:o<H.length:=(Qa.1 ho).1
  have hilt:i<xs.length:=(Qa.1 hi).1
  have hal:Alike H (H.set o (.AU s (xs.set i (x.set j a)) false)):=Alike.Mk ho (by simp)
  have h2:=BL.write ys cs (j+1) h1 (Qc holt) (Qc hilt) (by omega) (hv.2.ext (hal.ext σ)) hc.2
  rw[Qw,Qw]at h2
  simpa only[Iw,World.setCells,Nat.add_assoc] using h2
theorem BL.there{B:Nat->Prop}{σ:B0}{H:AP}{w:World}(h:BL B σ H w){o s:Nat}{xs:List (List AH)}(ho:H[o]?=some (.AU s xs false))
 {i:Nat} (hi:i<xs.length) (j k:Nat) (hjk:j+k<=s):w.there (σ o).CG (i* s+j) k:=by
 obtain⟨h1,h2,h3⟩:=h.obj ho
 obtain⟨c,e,fr,hb,hcs,hown,-⟩:=h3.resolve_left (by omega)
 obtain⟨hB,hoff,KC,hsz⟩:=hown rfl
 intro m hm
 have:i* s+j+m<c.size:=by
  rw[hsz]
  calc i* s+j+m<i* s+s:=by omega
   _=(i+1)* s:=by rw[Qx];simp
   _<=(σ o).room* s:=Ql _ (by omega)
 refine⟨by rw[cell_of_row w _ _ c e fr hb];simp[this],?_⟩
 simp[World.frozen?,hb,KC]
def B0.Ec(σ:B0)(o:Nat)(p:Place):B0:=λq=>if q=o then p else σ q
theorem Grow.push(σ:B0)(H:AP)(x:Au)(p:Place):Grow σ H (σ.Ec H.length p) (H++[x]):=by
 have hs:∀{o} {y:Au},H[o]?=some y->(σ.Ec H.length p) o=σ o/\(H++[x])[o]?=some y:=by
  intro o y ho
  have:o<H.length:=(Qa.1 ho).1
  exact⟨by simp[B0.Ec];omega,by rw[Qb this];exact ho⟩
 exact⟨by simp,λho=>⟨_,(hs ho).2,Qk _,λ_=>(hs ho).1⟩,λho=>⟨⟨_,(hs ho).2⟩,(hs ho).1⟩,λho=>⟨⟨_,_,(hs ho).2⟩,(hs ho).1⟩⟩
theorem Ext.push(σ:B0)(H:AP)(x:Au)(p:Place)(hx:x.LK=true):Ext σ H (σ.Ec H.length p) (H++[x]):=by
 refine⟨Grow.push σ H x p,λho=> ?_,fun{o s xs} ho=> ?_⟩
 ·rw[Qb (Qa.1 ho).1];exact ho
 ·rw[List.getElem?_append]at ho
  split at ho
  ·rename_i hl;exact⟨⟨_,ho⟩,by simp[B0.Ec];omega⟩
  ·have:Au.AU s xs true∈[x]:=Qe ho
   simp at this;subst this;cases hx
theorem BL.push{B:Nat->Prop}{σ:B0}{H:AP}{w:World}(h:BL B σ H w)(x:Au)(ob:Obj)(room:Nat)
 (hx:JX (σ.Ec H.length ⟨w.heap.size,0,room⟩) (H++[x]) B (w.alloc ob) ⟨w.heap.size,0,room⟩ x):
 BL B (σ.Ec H.length ⟨w.heap.size,0,room⟩) (H++[x]) (w.alloc ob):=by
 have hext:=Grow.push σ H x ⟨w.heap.size,0,room⟩
 have hsame:∀{o},o≠H.length->(σ.Ec H.length ⟨w.heap.size,0,room⟩) o=σ o:=λho=>by simp[B0.Ec,ho]
 have hself:(σ.Ec H.length ⟨w.heap.size,0,room⟩) H.length=⟨w.heap.size,0,room⟩:=by simp[B0.Ec]
 have hlt:∀{o y},H[o]?=some y->y.DB (σ o)=true->(σ o).CG<w.heap.size:=by
  intro o y ho hy
  have hr:=h.obj ho
  have bl:∀{k:Nat} {z:Obj},w.heap[k]?=some z->k<w.heap.size:=fun{k z} hz=>by
   rcases Qq k w.heap.size with h'|h'
   ·exact h'
   ·simp[Qi h']at hz
  cases y with
  |AU s xs ro=>
   obtain⟨-,-,h3⟩:=hr
   simp[Au.DB]at hy
   obtain⟨c,e,fr,hb,-⟩:=h3.resolve_left hy.2
   exact bl hb
  |map es=>obtain⟨-,ms,clock,hb,-⟩:=hr;exact bl hb
  |iter s p=>obtain⟨-,hb⟩:=hr;exact bl hb
  |A1=>simp[Au.DB]at hy
 refine⟨?_,?_,λk hk=>by rw[World.size_alloc];exact Nat.lt_succ_of_lt (h.base k hk)⟩
 ·intro o y ho
  by_cases hol:o=H.length
  ·subst hol
   rw[hself]
   simp at ho;subst ho
   exact hx
  ·rw[hsame hol]
   have ho':H[o]?=some y:=by
    rcases Qq o H.length with h'|h'
    ·rwa [Qb h']at ho
    ·rw[Qj (by simp;omega)]at ho;cases ho
   have hr:=h.obj ho'
   by_cases hb:(σ o).CG<w.heap.size
   ·exact hr.grow hext (Below.heap_alloc _ _ _ hb)
   ·have hno:¬y.DB (σ o)=true:=λhy=>hb (hlt ho' hy)
    cases y with
    |AU s xs ro=>
     obtain⟨h1,h2,h3⟩:=hr
     rcases h3 with h3|⟨c,e,fr,hbb,-⟩
     ·exact⟨h1,h2,.inl h3⟩
     ·exfalso
      rw[Qi (by omega)]at hbb;cases hbb
    |map es=>simp[Au.DB]at hno
    |iter s p=>simp[Au.DB]at hno
    |A1=>trivial
 ·intro o o' y y' ho ho' hy hy' hbb
  have Cd:∀{q:Nat} {z:Au},q≠H.length->(H++[x])[q]?=some z->H[q]?=some z:=by
   intro q z hq hz
   rcases Qq q H.length with h'|h'
   ·rwa [Qb h']at hz
   ·rw[Qj (by simp;omega)]at hz;cases hz
  by_cases h1:o=H.length<;>by_cases h2:o'=H.length
  ·omega
  ·subst h1
   rw[hself,hsame h2]at hbb
   rw[hsame h2]at hy'
   have:=hlt (Cd h2 ho') hy'
   simp at hbb;omega
  ·subst h2
   rw[hself,hsame h1]at hbb
   rw[hsame h1]at hy
   have:=hlt (Cd h1 ho) hy
   simp at hbb;omega
  ·rw[hsame h1,hsame h2]at hbb
   rw[hsame h1]at hy
   rw[hsame h2]at hy'
   exact h.apart (Cd h1 ho) (Cd h2 ho') hy hy' hbb
mutual
def AH.wf(n:Nat):AH->Prop
 | .ptr o _ _ _=>o<n
 | .slice o _ _ _ _=>o<n
 | .acc o _=>o<n
 | .Kl o _ _ _ _=>o<n
 | .map o=>o<n
 | .M1 o=>o<n
 | .func _ l=>M3 n l
 | .iface _ v=>AH.wf n v
 | .agg l=>M3 n l
 | .Bj l=>M3 n l
 |_=>True
def M3(n:Nat):List AH->Prop
 |[]=>True
 |a::l=>AH.wf n a/\M3 n l
end
mutual
def AH.plain:AH->Bool
 | .int .. | .bool _| .str _| .lit _| .Dk=>true
 | .agg l=>Ah l
 | .Bj l=>Ah l
 |_=>false
def Ah:List AH->Bool
 |[]=>true
 |a::l=>AH.plain a&&Ah l
end
def Au.wf(n:Nat):Au->Prop
 | .AU _ xs _=>∀x∈xs,M3 n x
 | .map es=>M3 n (es.map (·.1))/\M3 n (es.map (·.2))
 | .iter _ _=>True
 | .A1=>True
def aK(H:AP):Prop:=∀(o:Nat) (x:Au),H[o]?=some x->x.wf H.length
theorem Ph{n:Nat}:∀{l:List AH},M3 n l↔∀a∈l,a.wf n
 |[]=>by simp[M3]
 |a::l=>by simp[M3,Ph (l:=l)]
mutual
theorem AH.Yl{n m:Nat}(h:n<=m):∀{v:AH},v.wf n->v.wf m
 | .ptr ..,hv=>by simp only[AH.wf]at*;omega
 | .slice ..,hv=>by simp only[AH.wf]at*;omega
 | .acc ..,hv=>by simp only[AH.wf]at*;omega
 | .Kl ..,hv=>by simp only[AH.wf]at*;omega
 | .map ..,hv=>by simp only[AH.wf]at*;omega
 | .M1 ..,hv=>by simp only[AH.wf]at*;omega
 | .func _ l,hv=>by simp only[AH.wf]at*;exact Nw h hv
 | .iface _ v,hv=>by simp only[AH.wf]at*;exact AH.Yl h hv
 | .agg l,hv=>by simp only[AH.wf]at*;exact Nw h hv
 | .Bj l,hv=>by simp only[AH.wf]at*;exact Nw h hv
 | .Dk,_=>by simp[AH.wf]
 | .int ..,_=>by simp[AH.wf]
 | .bool _,_=>by simp[AH.wf]
 | .str _,_=>by simp[AH.wf]
 | .lit _,_=>by simp[AH.wf]
theorem Nw{n m:Nat}(h:n<=m):∀{l:List AH},M3 n l->M3 m l
 |[],_=>by simp[M3]
 |a::l,hv=>by simp only[M3]at*;exact⟨AH.Yl h hv.1,Nw h hv.2⟩
end
theorem Ff{H:AP}{o:Nat}{x:Au}(h:H[o]?=some x):o<H.length:=(Qa.1 h).1
mutual
theorem VR.wf{σ:B0}{H:AP}:∀{a:AH} {v:Value},VR σ H a v->a.wf H.length
 | .ptr ..,_,h=>by simp only[VR,AH.wf]at*;obtain⟨_,_,_,_,ho,_⟩:=h;exact Ff ho
 | .slice ..,_,h=>by simp only[VR,AH.wf]at*;obtain⟨_,_,_,_,_,ho,_⟩:=h;exact Ff ho
 | .acc ..,_,h=>by simp only[VR,AH.wf]at*;obtain⟨_,_,_,ho,_⟩:=h;exact Ff ho
 | .Kl ..,_,h=>by simp only[VR,AH.wf]at*;obtain⟨_,_,_,_,_,ho,_⟩:=h;exact Ff ho
 | .map ..,_,h=>by simp only[VR,AH.wf]at*;obtain⟨_,_,ho⟩:=h;exact Ff ho
 | .M1 ..,_,h=>by simp only[VR,AH.wf]at*;obtain⟨_,_,_,ho⟩:=h;exact Ff ho
 | .func _ l,_,h=>by simp only[VR,AH.wf]at*;obtain⟨_,_,hc⟩:=h;exact BQ.wf hc
 | .iface _ v,_,h=>by simp only[VR,AH.wf]at*;obtain⟨_,_,hc⟩:=h;exact VR.wf hc
 | .agg l,_,h=>by simp only[VR,AH.wf]at*;obtain⟨_,_,_,hc⟩:=h;exact BQ.wf hc
 | .Bj l,_,h=>by simp only[VR,AH.wf]at*;obtain⟨_,_,hc⟩:=h;exact BQ.wf hc
 | .Dk,_,_=>by simp[AH.wf]
 | .int ..,_,_=>by simp[AH.wf]
 | .bool _,_,_=>by simp[AH.wf]
 | .str _,_,_=>by simp[AH.wf]
 | .lit _,_,_=>by simp[AH.wf]
theorem BQ.wf{σ:B0}{H:AP}:∀{l:List AH} {r:List Value},BQ σ H l r->M3 H.length l
 |[],[],_=>by simp[M3]
 |[],_::_,h=>by simp[BQ]at h
 |_::_,[],h=>by simp[BQ]at h
 |a::l,v::r,h=>by rw[Bn]at h;simp only[M3];exact⟨VR.wf h.1,BQ.wf h.2⟩
end
theorem BL.wf{B:Nat->Prop}{σ:B0}{H:AP}{w:World}(h:BL B σ H w):aK H:=by
 intro o x ho
 have hr:=h.obj ho
 cases x with
 |AU s xs ro=>
  obtain⟨h1,h2,h3⟩:=hr
  intro x hx
  rw[Ph]
  intro y hy
  obtain⟨i,hi,rfl⟩:=Qm.1 hx
  obtain⟨j,hj,rfl⟩:=Qm.1 hy
  obtain⟨c,e,fr,hb,hc,-⟩:=h3.resolve_left (by omega)
  obtain⟨v,-,hv⟩:=hc i _ j _ (Qh hi) (Qh hj)
  exact hv.wf
 |map es=>obtain⟨-,ms,clock,-,hk,hv⟩:=hr;exact⟨hk.wf,hv.wf⟩
 |iter s p=>trivial
 |A1=>trivial
mutual
theorem VR.cut{σ:B0}{H G:AP}:∀{a:AH} {v:Value},VR σ (H++G) a v->a.wf H.length->VR σ H a v
 | .ptr o n i j,v,h,hw=>by
  simp only[VR,AH.wf]at*
  rw[Qb hw]at h;exact h
 | .slice ..,v,h,hw=>by
  simp only[VR,AH.wf]at*
  rw[Qb hw]at h;exact h
 | .acc ..,v,h,hw=>by
  simp only[VR,AH.wf]at*
  rw[Qb hw]at h;exact h
 | .Kl ..,v,h,hw=>by
  simp only[VR,AH.wf]at*
  rw[Qb hw]at h;exact h
 | .map ..,v,h,hw=>by
  simp only[VR,AH.wf]at*
  rw[Qb hw]at h;exact h
 | .M1 ..,v,h,hw=>by
  simp only[VR,AH.wf]at*
  rw[Qb hw]at h;exact h
 | .func _ l,_,h,hw=>by simp only[VR,AH.wf]at*;obtain⟨cs,rfl,hc⟩:=h;exact⟨cs,rfl,BQ.cut hc hw⟩
 | .iface _ v,_,h,hw=>by simp only[VR,AH.wf]at*;obtain⟨cs,rfl,hc⟩:=h;exact⟨cs,rfl,VR.cut hc hw⟩
 | .agg l,_,h,hw=>by simp only[VR,AH.wf]at*;obtain⟨ha,cs,rfl,hc⟩:=h;exact⟨ha,cs,rfl,BQ.cut hc hw⟩
 | .Bj l,_,h,hw=>by simp only[VR,AH.wf]at*;obtain⟨cs,rfl,hc⟩:=h;exact⟨cs,rfl,BQ.cut hc hw⟩
 | .Dk,_,_,_=>by simp[VR]
 | .int ..,_,h,_=>by simpa only[VR] using h
 | .bool _,_,h,_=>by simpa only[VR] using h
 | .str _,_,h,_=>by simpa only[VR] using h
 | .lit _,_,h,_=>by simpa only[VR] using h
theorem BQ.cut{σ:B0}{H G:AP}:∀{l:List AH} {r:List Value},BQ σ (H++G) l r->M3 H.length l->BQ σ H l r
 |[],[],_,_=>by simp
 |[],_::_,h,_=>by simp[BQ]at h
 |_::_,[],h,_=>by simp[BQ]at h
 |a::l,v::r,h,hw=>by
  rw[Bn]at h ⊢
  simp only[M3]at hw
  exact⟨VR.cut h.1 hw.1,BQ.cut h.2 hw.2⟩
end
theorem BL.cut{B:Nat->Prop}{σ:B0}{H G:AP}{w:World}(h:BL B σ (H++G) w)(hw:aK H):BL B σ H w:=by
 have up:∀{o:Nat} {x:Au},H[o]?=some x->(H++G)[o]?=some x:=λho=>by rw[Qb (Ff ho)];exact ho
 refine⟨fun{o x} ho=> ?_,λho ho'=>h.apart (up ho) (up ho'),h.base⟩
 have hr:=h.obj (up ho)
 have hwx:=hw o x ho
 cases x with
 |AU s xs ro=>
  obtain⟨h1,h2,h3⟩:=hr
  refine⟨h1,h2,h3.imp id ?_⟩
  rintro⟨c,e,fr,hb,hc,hn,hr⟩
  refine⟨c,e,fr,hb,λi x' j a hi hj=> ?_,hn,hr⟩
  obtain⟨v,hv,hrv⟩:=hc i x' j a hi hj
  exact⟨v,hv,hrv.cut (Ph.1 (hwx x' (Qe hi)) a (Qe hj))⟩
 |map es=>
  obtain⟨h1,ms,clock,hb,hk,hv⟩:=hr
  exact⟨h1,ms,clock,hb,hk.cut hwx.1,hv.cut hwx.2⟩
 |iter s p=>exact hr
 |A1=>trivial
theorem Ext.cut{σ0 σ:B0}{H0 H G:AP}(h:Ext σ0 H0 σ (H++G))(hl:H0.length<=H.length):Ext σ0 H0 σ H:=by
 have dn:∀{o:Nat} {x y:Au},H0[o]?=some y->(H++G)[o]?=some x->H[o]?=some x:=λh0 h1=>by
  have:=Ff h0
  rwa [Qb (by omega)]at h1
 refine⟨⟨hl,λho=> ?_,λho=> ?_,λho=> ?_⟩,λho=>dn ho (h.A1 ho),fun{o s xs} ho=>h.Cd (by rw[Qb (Ff ho)];exact ho)⟩
 ·obtain⟨xs',h1,h2⟩:=h.AU ho
  exact⟨xs',dn ho h1,h2⟩
 ·obtain⟨⟨es,h1⟩,h2⟩:=h.map ho
  exact⟨⟨es,dn ho h1⟩,h2⟩
 ·obtain⟨⟨s,p,h1⟩,h2⟩:=h.iter ho
  exact⟨⟨s,p,dn ho h1⟩,h2⟩
mutual
theorem SB{n:Nat}:∀{v:AH},v.plain=true->v.wf n
 | .int ..,_=>by simp[AH.wf]
 | .bool _,_=>by simp[AH.wf]
 | .str _,_=>by simp[AH.wf]
 | .lit _,_=>by simp[AH.wf]
 | .Dk,_=>by simp[AH.wf]
 | .agg l,h=>by simp only[AH.plain]at h;simp only[AH.wf];exact Lo h
 | .Bj l,h=>by simp only[AH.plain]at h;simp only[AH.wf];exact Lo h
 | .ptr ..,h=>by simp[AH.plain]at h
 | .slice ..,h=>by simp[AH.plain]at h
 | .acc ..,h=>by simp[AH.plain]at h
 | .Kl ..,h=>by simp[AH.plain]at h
 | .map ..,h=>by simp[AH.plain]at h
 | .M1 ..,h=>by simp[AH.plain]at h
 | .func ..,h=>by simp[AH.plain]at h
 | .iface ..,h=>by simp[AH.plain]at h
theorem Lo{n:Nat}:∀{l:List AH},Ah l=true->M3 n l
 |[],_=>by simp[M3]
 |a::l,h=>by simp only[Ah,Bool.and_eq_true]at h;simp only[M3];exact⟨SB h.1,Lo h.2⟩
end
end Go.Ax
