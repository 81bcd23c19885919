/- Texts put behind one another: AxRow, AxOpen, AxLaw. Conditions: none. -/
import Derived.ProofKit
import Derived.OpenShut
import Derived.Below
import Derived.Carry
import Derived.ChangeArms
import Derived.Test.YtohgndhnndeijaaGreatZAc
set_option linter.all false
open List renaming getElem?_eq_getElem -> Qa, getElem?_concat_length -> Qb, mem_iff_getElem -> Qd, getElem?_eq_some_iff -> Qe, all_eq_true -> Qf, getElem?_append_left -> Qg, flatten_cons -> Qh, append_nil -> Qi, map_cons -> Qj, length_range -> Qk, mem_flatten -> Ql, range -> Qm, mem_range -> Qn, all_cons -> Qo
open Bool renaming and_eq_true -> Qc
namespace Go.Ax
open Go Go.ChangeShapes Go.WideShapes Go.ChangeAt Go.RowKit
theorem MZ{H:Type}{enc:TypeId×Value->H}{P:Program}(hl:laidOutB P=true){W W':World}(hb:Below W.heap.size W W'):
 ∀{ts:List TypeId} {vs:List Value} {ds:List (DataW H)} {ps:List MemPlace},(ts.all λt=>P.readableRec t&&decide (t<P.types.size))=true->DataW.TrodAll enc P W 0 (λ_=>true) true ts vs ds ps->(∀x∈ps,x.block<W.heap.size)->
  DataW.TrodAll enc P W' 0 (λb=>decide (b<W.heap.size)) true ts vs ds ps
 |[],vs,ds,ps,_,h,_=>by
  obtain⟨rfl,rfl,rfl⟩:=trodAll_nil h
  exact rfl
 |t::ts,vs,ds,ps,ht,h,hlt=>by
  simp only[Qo,Qc,decide_eq_true_eq]at ht
  obtain⟨v,vs1,d,ds1,a,b,rfl,rfl,rfl,h1,h2⟩:=trodAll_cons h
  exact⟨a,b,Below.trod hl ht.1.1 ht.1.2 h1 hb (λx hx=>hlt x (by simp[hx])),MZ hl hb ht.2 h2 (λx hx=>hlt x (by simp[hx])),rfl⟩
theorem RD{H:Type}{enc:TypeId×Value->H}{P:Program}{f:Func}{s:ChangeSpec}{W W':World}{args:Array Value}{ds gs:List (DataW H)}{before:List MemPlace}{tb:TypeId}{fresh handsOn:Bool}
 (hl:laidOutB P=true) (hts:(f.params.toList.all λt=>P.readableRec t&&decide (t<P.types.size))=true) (hr:f.resultTypes=#[tb]) (hu:P.underlying tb=some .bool)
 (hv:s.vars=[]) (hW:DataW.Whole enc P f.params.toList s.vars false W args.toList ds gs before)
 (hs:gs=[]->(s.fn H ds)={results:=[.lit (.bool true)],args:=ds}) (hb:Below W.heap.size W W'):
 s.post enc P f false fresh handsOn false W args (.bool true) W':=by
 have hW':=hW
 obtain⟨p,q,hA,hV,rfl,hz,-⟩:=hW
 rw[hv]at hV
 obtain⟨rfl,rfl⟩:=trodVars_none hV
 simp only[Qi]at hz hW' ⊢
 have hlt:∀x∈p,x.block<W.heap.size:=λx hx=>by simpa using hW'.lt x (by simpa using hx)
 have hA':=MZ hl hb hts hA hlt
 have hsd:s.fn H (ds++[])={results:=[.lit (.bool true)],args:=ds}:=by rw[Qi];exact hs rfl
 have hres:∀(b:Nat) (sp:Nat->Bool) (hd:Bool),DataW.TrodAll enc P W' b sp hd f.resultTypes.toList ((Value.bool true).resultList f.resultTypes.size) (s.fn H (ds++[])).results []:=by
  intro b sp hd
  rw[hsd,hr]
  exact trodAll_cons_mk (shut_bool hu _) trodAll_mk0
 have hargs:DataW.TrodAll enc P W' 0 (λb=>decide (b<W.heap.size)) true f.params.toList args.toList (s.fn H (ds++[])).args p:=by rw[hsd];exact hA'
 have hvars:DataW.TrodVars enc P W' (λb=>decide (b<W.heap.size)) s.vars (s.fn H (ds++[])).vars []:=by rw[hsd,hv];exact rfl
 refine⟨ds,[],p,[],p,[],by simpa using hW',hres _ _ _,hargs,hvars,World.keptBut_mono (λx hx=>⟨hx,.inr (.inl hx)⟩) (hb.frame _),λh=>by cases h⟩
open Go Go.RowKit Go.ChangeShapes Go.WideShapes
def V1(P:Program):List Field->Nat->Nat->Bool
 |[],off,n=>off==n
 |f::fs,off,n=>f.offset==off&&V1 P fs (off+P.cellsOf f.type) n
def KQ(P:Program):Nat->TypeId->Bool
 |0,_=>false
 |k+1,t=>match P.underlying t with
  |some .bool=>true
  |some (.int _)=>true
  |some .string=>true
  |some (.slice e)=>decide (0<P.cellsOf e)&&KQ P k e
  |some (.struct fs)=>V1 P fs.toList 0 (P.cellsOf t)&&fs.toList.all (λf=>KQ P k f.type)
  |some (.array n e)=>P.cellsOf t==n* P.cellsOf e&&KQ P k e
  |_=>false
def Hn(S:TypeId->List AH->Prop):List Field->List (List AH)->Prop
 |[],[]=>True
 |f::fs,a::as=>S f.type a/\Hn S fs as
 |_,_=>False
def Shape(P:Program)(H:AP):Nat->TypeId->List AH->Prop
 |0,_,_=>False
 |k+1,t,cs=>match P.underlying t with
  |some .bool=>∃b,cs=[.bool b]
  |some (.int q)=>∃n,cs=[.int q n]/\(Lit.int q n).wf=true
  |some .string=>∃s,cs=[.str s]/\s.length<=maxLen
  |some (.slice e)=>∃o n xs,cs=[.slice o n 0 n false]/\H[o]?=some (.AU (P.cellsOf e) xs true)/\xs.length=n/\n<=maxLen/\∀x∈xs,Shape P H k e x
  |some (.struct fs)=>∃ass:List (List AH),cs=ass.flatten/\Hn (Shape P H k) fs.toList ass
  |some (.array n e)=>∃ass:List (List AH),cs=ass.flatten/\ass.length=n/\∀as∈ass,Shape P H k e as
  |_=>False
theorem Hn.imp{S S':TypeId->List AH->Prop}(h:∀t a,S t a->S' t a):∀{fs:List Field} {as:List (List AH)},Hn S fs as->Hn S' fs as
 |[],[],_=>trivial
 |_::_,_::_,hh=>⟨h _ _ hh.1,Hn.imp h hh.2⟩
 |[],_::_,hh=>hh.elim
 |_::_,[],hh=>hh.elim
theorem Shape.mono{P:Program}{H:AP}(G:AP):∀{k:Nat} {t:TypeId} {cs:List AH},Shape P H k t cs->Shape P (H++G) k t cs
 |0,_,_,h=>h.elim
 |k+1,t,cs,h=>by
  unfold Shape at h
  split at h
  ·rename_i hu;unfold Shape;rw[hu];exact h
  ·rename_i hu;unfold Shape;rw[hu];exact h
  ·rename_i hu;unfold Shape;rw[hu];exact h
  ·rename_i e hu
   unfold Shape;rw[hu]
   obtain⟨o,n,xs,h1,h2,h3,h4,h5⟩:=h
   refine⟨o,n,xs,h1,?_,h3,h4,λx hx=>Shape.mono G (h5 x hx)⟩
   rw[Qg (Qe.1 h2).1];exact h2
  ·rename_i fs hu
   unfold Shape;rw[hu]
   obtain⟨ass,h1,h2⟩:=h
   exact⟨ass,h1,h2.imp λt a ha=>Shape.mono G ha⟩
  ·rename_i m e hu
   unfold Shape;rw[hu]
   obtain⟨ass,h1,h2,h3⟩:=h
   exact⟨ass,h1,h2,λas ha=>Shape.mono G (h3 as ha)⟩
  ·exact h.elim
structure IV (W:World) (σ:B0) (H:AP) (σ':B0) (H':AP):Prop where
 pre:∃G,H'=H++G
 rel:BL (·<W.heap.size) σ' H' W
 ext:Grow σ H σ' H'
theorem IV.refl{W:World}{σ:B0}{H:AP}(h:BL (·<W.heap.size) σ H W):IV W σ H σ H:=⟨⟨[],by simp⟩,h,Grow.refl _ _⟩
theorem IV.trans{W:World}{σ σ1 σ2:B0}{H H1 H2:AP}(a:IV W σ H σ1 H1)(b:IV W σ1 H1 σ2 H2):IV W σ H σ2 H2:=by
 obtain⟨G,rfl⟩:=a.pre
 obtain⟨G',rfl⟩:=b.pre
 exact⟨⟨G++G',by simp⟩,b.rel,a.ext.trans b.ext⟩
theorem UY{α:Type}{W:World}(cell:α->List Value)(Sh:α->AP->List AH->Prop)(mono:∀a H G as,Sh a H as->Sh a (H++G) as):
 ∀(l:List α),(∀a∈l,∀σ H,BL (·<W.heap.size) σ H W->∃σ' H' as,IV W σ H σ' H'/\BQ σ' H' as (cell a)/\Sh a H' as)->∀σ H,BL (·<W.heap.size) σ H W->
 ∃σ' H',∃ass:List (List AH),IV W σ H σ' H'/\ass.length=l.length/\∀(i:Nat) a as,l[i]?=some a->ass[i]?=some as->BQ σ' H' as (cell a)/\Sh a H' as
 |[],_,σ,H,hR=>⟨σ,H,[],.refl hR,rfl,λi a as h=>by simp at h⟩
 |a::l,h,σ,H,hR=>by
  obtain⟨σ1,H1,as,o1,v1,s1⟩:=h a List.mem_cons_self σ H hR
  obtain⟨σ2,H2,ass,o2,l2,r2⟩:=UY cell Sh mono l (λa ha=>h a (List.mem_cons_of_mem _ ha)) σ1 H1 o1.rel
  refine⟨σ2,H2,as::ass,o1.trans o2,by simp[l2],λi b bs hb hbs=> ?_⟩
  cases i with
  |zero=>
   simp at hb hbs;subst hb;subst hbs
   obtain⟨G,rfl⟩:=o2.pre
   exact⟨v1.grow o2.ext,mono _ _ _ _ s1⟩
  |succ i=>exact r2 i b bs (by simpa using hb) (by simpa using hbs)
theorem Ks{σ:B0}{H:AP}{α:Type}{cell:α->List Value}:∀{l:List α} {ass:List (List AH)},ass.length=l.length->(∀(i:Nat) (a:α) (as:List AH),l[i]?=some a->ass[i]?=some as->BQ σ H as (cell a))->BQ σ H ass.flatten (l.map cell).flatten
 |[],[],_,_=>by simp
 |[],_::_,h,_=>by simp at h
 |_::_,[],h,_=>by simp at h
 |a::l,as::ass,hl,h=>by
  simp only[Qh,Qj]
  exact(h 0 a as rfl rfl).append (Ks (by simpa using hl) λi b bs hb hbs=>h (i+1) b bs (by simpa using hb) (by simpa using hbs))
theorem Sa{S:TypeId->List AH->Prop}:∀{l:List Field} {ass:List (List AH)},ass.length=l.length->(∀(i:Nat) (a:Field) (as:List AH),l[i]?=some a->ass[i]?=some as->S a.type as)->Hn S l ass
 |[],[],_,_=>trivial
 |[],_::_,h,_=>by simp at h
 |_::_,[],h,_=>by simp at h
 |a::l,as::ass,hl,h=>⟨h 0 a as rfl rfl,Sa (by simpa using hl) λi b bs hb hbs=>h (i+1) b bs (by simpa using hb) (by simpa using hbs)⟩
theorem MY{P:Program}{cs:List Value}:∀{fs:List Field} {off:Nat},V1 P fs off cs.length=true->(fs.map λf=>(cs.drop f.offset).take (P.cellsOf f.type)).flatten=cs.drop off
 |[],off,h=>by
  simp only[V1,beq_iff_eq]at h
  simp[h]
 |f::fs,off,h=>by
  simp only[V1,Qc,beq_iff_eq]at h
  obtain⟨rfl,h⟩:=h
  simp only[Qj,Qh]
  rw[MY h,<-List.drop_drop]
  exact List.take_append_drop _ _
theorem Na{cs:List Value}{c:Nat}:∀(n:Nat),n* c<=cs.length->((Qm n).map λi=>(cs.drop (i* c)).take c).flatten=cs.take (n* c)
 |0,_=>by simp
 |n+1,h=>by
  have h':n* c+c<=cs.length:=by rw[Nat.succ_mul]at h;exact h
  rw[List.range_succ,List.map_append,List.flatten_append,Na n (by omega)]
  simp only[Qj,List.map_nil,Qh,List.flatten_nil,Qi,Nat.succ_mul]
  rw[List.take_add]
theorem BL.note{B:Nat->Prop}{σ:B0}{H:AP}{w:World}(h:BL B σ H w)(s:Nat)(xs:List (List AH))(p:Place)
 (hx:JX (σ.Ec H.length p) (H++[.AU s xs true]) B w p (.AU s xs true)):BL B (σ.Ec H.length p) (H++[.AU s xs true]) w:=by
 have hext:=Grow.push σ H (.AU s xs true) p
 have hsame:∀{o},o≠H.length->(σ.Ec H.length p) o=σ o:=λho=>by simp[B0.Ec,ho]
 have hself:(σ.Ec H.length p) H.length=p:=by simp[B0.Ec]
 have Cd:∀{q:Nat} {z:Au},q≠H.length->(H++[.AU s xs true])[q]?=some z->H[q]?=some z:=by
  intro q z hq hz
  rcases Nat.lt_or_ge q H.length with h'|h'
  ·rwa [Qg h']at hz
  ·rw[List.getElem?_eq_none (by simp;omega)]at hz;cases hz
 refine⟨?_,?_,h.base⟩
 ·intro o y ho
  by_cases hol:o=H.length
  ·subst hol
   rw[hself]
   simp at ho;subst ho
   exact hx
  ·rw[hsame hol]
   exact(h.obj (Cd hol ho)).grow hext rfl
 ·intro o o' y y' ho ho' hy hy' hbb
  have no:∀{q:Nat} {z:Au},(H++[.AU s xs true])[q]?=some z->z.DB ((σ.Ec H.length p) q)=true->q≠H.length:=by
   intro q z hz hzo hq
   subst hq
   simp at hz;subst hz
   simp[Au.DB]at hzo
  have n1:=no ho hy
  have n2:=no ho' hy'
  rw[hsame n1,hsame n2]at hbb
  rw[hsame n1]at hy
  rw[hsame n2]at hy'
  exact h.apart (Cd n1 ho) (Cd n2 ho') hy hy' hbb
section
variable {D:Type}{enc:TypeId×Value->D}{P:Program}{W:World}
theorem Shape.cell:∀{k:Nat} {t:TypeId} {cs:List AH} {H:AP},Shape P H k t cs->∀c∈cs,c.cell=true
 |0,_,_,_,h=>h.elim
 |k+1,t,cs,H,h=>by
  unfold Shape at h
  split at h
  ·obtain⟨b,rfl⟩:=h;simp[AH.cell]
  ·obtain⟨n,rfl,-⟩:=h;simp[AH.cell]
  ·obtain⟨n,rfl,-⟩:=h;simp[AH.cell]
  ·obtain⟨o,n,xs,rfl,-⟩:=h;simp[AH.cell,Oh]
  ·obtain⟨ass,rfl,h⟩:=h
   intro c hc
   obtain⟨as,ha,hca⟩:=Ql.1 hc
   have:∀{fs:List Field} {ass:List (List AH)},Hn (Shape P H k) fs ass->as∈ass->∃t,Shape P H k t as:=by
    intro fs
    induction fs with
    |nil=>intro ass hh hm;cases ass with
     |nil=>cases hm
     |cons _ _=>exact hh.elim
    |cons f fs ih=>intro ass hh hm;cases ass with
     |nil=>cases hm
     |cons a ass=>
      rcases List.mem_cons.1 hm with rfl|hm
      ·exact⟨_,hh.1⟩
      ·exact ih hh.2 hm
   obtain⟨t',ht'⟩:=this h ha
   exact Shape.cell ht' c hca
  ·obtain⟨ass,rfl,-,h⟩:=h
   intro c hc
   obtain⟨as,ha,hca⟩:=Ql.1 hc
   exact Shape.cell (h as ha) c hca
  ·exact h.elim
theorem pz{base:Nat}{a:Addr}{n:Nat}{cs:List Value}(h:W.cells? base a n=some cs):cs.length=n/\∀j,j<n->W.cell? (a.add j)=cs[j]?:=by
 unfold World.cells? at h
 split at h
 ·exact⟨by simpa using mapM_some_length h,λj hj=>mapM_some_get h j j (by simp[hj])⟩
 ·cases h
theorem Yo(a:Addr)(n:Nat):(a.add n).block=a.block:=by unfold Addr.add;split<;>rfl
theorem cd(a:Addr)(n:Nat):(a.add n).off=a.off+n:=by
 unfold Addr.add
 split
 ·rename_i h;rw[h];rfl
 ·rfl
theorem Sk{a:Addr}{j:Nat}{v:Value}(h:W.cell? (a.add j)=some v):∃c e fr,W.heap[a.block]?=some (.cells c e fr)/\c[a.off+j]?=some v:=by
 have hb:(a.add j).block=a.block:=by unfold Addr.add;split<;>rfl
 have ho:(a.add j).off=a.off+j:=by unfold Addr.add;split<;>simp_all
 unfold World.cell? at h
 rw[hb,ho]at h
 split at h
 ·rename_i c e fr hc
  split at h
  ·cases h
  ·exact⟨c,e,fr,hc,h⟩
 ·cases h
theorem cell?_spot{a:Addr}{v:Value}(h:W.cell? a=some v):a=⟨a.block,a.off,none⟩:=by
 obtain⟨b,o,sp⟩:=a
 cases sp with
 |none=>rfl
 |some x=>
  unfold World.cell? at h
  split at h<;>simp at h
theorem opens:∀(k:Nat) (t:TypeId),KQ P k t=true->∀(fuel:Nat) (cs:List Value) (x:DataW D×List MemPlace),DataW.trod enc P W 0 (λ_=>true) true fuel t cs=some x->
 ∀σ H,BL (·<W.heap.size) σ H W->∃σ' H' as,IV W σ H σ' H'/\BQ σ' H' as cs/\Shape P H' k t as
 |0,_,h,_,_,_,_,_,_,_=>by cases h
 |k+1,t,hok,fuel,cs,x,hx,σ,H,hR=>by
  unfold KQ at hok
  split at hok
  ·rename_i hu
   obtain⟨b,rfl,-⟩:=DataW.trod_bool hu hx
   exact⟨σ,H,[.bool b],.refl hR,by simp[BQ,VR],by unfold Shape;rw[hu];exact⟨b,rfl⟩⟩
  ·rename_i q hu
   obtain⟨n,rfl,-,hw⟩:=DataW.trod_int hu hx
   exact⟨σ,H,[.int q n],.refl hR,by simp[BQ,VR],by unfold Shape;rw[hu];exact⟨n,rfl,hw⟩⟩
  ·rename_i hu
   obtain⟨s,rfl,-,hl⟩:=DataW.trod_string hu hx
   exact⟨σ,H,[.str s.data.toList],.refl hR,by simp[BQ,VR],by unfold Shape;rw[hu];exact⟨_,rfl,by simpa using hl⟩⟩
  ·rename_i e hu
   simp only[Qc,decide_eq_true_eq]at hok
   obtain⟨hs,hok⟩:=hok
   rcases DataW.trod_slice hu hx with⟨rfl,-⟩|⟨a,len,cap,elems,rest,n,-,rfl,-,-,hlc,hcm,hlen,hel,hsp,-⟩
   ·have hx':JX (σ.Ec H.length ⟨0,0,0⟩) (H++[.AU (P.cellsOf e) [] true]) (·<W.heap.size) W ⟨0,0,0⟩ (.AU (P.cellsOf e) [] true):=⟨by simp,Nat.le_refl _,.inl rfl⟩
    refine⟨_,_,[.slice H.length 0 0 0 false],⟨⟨_,rfl⟩,hR.note (P.cellsOf e) [] ⟨0,0,0⟩ hx',Grow.push _ _ _ _⟩,?_,?_⟩
    ·simp only[BQ,and_true,VR]
     exact⟨P.cellsOf e,[],true,none,0,Qb,by simp,by simp,rfl,by simp,λ_=>rfl,λ_=>rfl,λ_=>⟨by simp,λh=>absurd rfl h⟩⟩
    ·unfold Shape
     rw[hu]
     exact⟨H.length,0,[],rfl,Qb,rfl,Nat.zero_le _,by simp⟩
   obtain⟨hrl,hrest⟩:=hsp rfl
   -- the elements' cells
   have hcell:∀i,i<len->∃cs y,W.cells? 0 (a.add (i* P.cellsOf e)) (P.cellsOf e)=some cs/\DataW.trod enc P W 0 (λ_=>true) true n e cs=some y:=by
    intro i hi
    have:=hel i hi
    rw[Qa (by omega),Option.bind_eq_some_iff]at this
    obtain⟨cs,h1,h2⟩:=this
    exact⟨cs,_,h1,h2⟩
   have hblock:cap≠0->∃c e' fr,W.heap[a.block]?=some (.cells c e' fr)/\a=⟨a.block,a.off,none⟩:=by
    intro hc
    have h0:∃cs,W.cells? 0 a (P.cellsOf e)=some cs:=by
     by_cases hl0:0<len
     ·obtain⟨cs,y,h1,-⟩:=hcell 0 hl0
      exact⟨cs,by simpa [Addr.add] using h1⟩
     ·have:=hrest 0 (by omega)
      have hl00:len=0:=by omega
      rw[Qa (by omega),Option.bind_eq_some_iff]at this
      obtain⟨cs,h1,h2⟩:=this
      exact⟨cs,by simpa [Addr.add,hl00] using h1⟩
    obtain⟨cs,h1⟩:=h0
    obtain⟨g1,g2⟩:=pz h1
    have:=g2 0 hs
    rw[Qa (by omega)]at this
    obtain⟨c,e',fr,hb,-⟩:=Sk this
    have hsp':a=⟨a.block,a.off,none⟩:=cell?_spot (by simpa [Addr.add] using this)
    exact⟨c,e',fr,hb,hsp'⟩
   obtain⟨σ1,H1,ass,o1,l1,r1⟩:=UY (W:=W) (λi=>(W.cells? 0 (a.add (i* P.cellsOf e)) (P.cellsOf e)).getD []) (λ_ H as=>Shape P H k e as) (λ_ _ G _ h=>h.mono G) (Qm len)
    (
     λi hi σ H hR=>by
     obtain⟨cs,y,h1,h2⟩:=hcell i (Qn.1 hi)
     obtain⟨σ',H',as,q1,q2,q3⟩:=opens k e hok n cs y h2 σ H hR
     exact⟨σ',H',as,q1,by rw[h1];exact q2,q3⟩) σ H hR
   rw[Qk]at l1
   have each:∀i as,ass[i]?=some as->∃cs,W.cells? 0 (a.add (i* P.cellsOf e)) (P.cellsOf e)=some cs/\BQ σ1 H1 as cs/\Shape P H1 k e as:=by
    intro i as has
    have hi:i<len:=by have:=(Qe.1 has).1;omega
    obtain⟨cs,y,h1,-⟩:=hcell i hi
    obtain⟨q1,q2⟩:=r1 i i as (by simp[hi]) has
    rw[h1]at q1
    exact⟨cs,h1,q1,q2⟩
   have hx':JX (σ1.Ec H1.length ⟨a.block,a.off,cap⟩) (H1++[.AU (P.cellsOf e) ass true]) (·<W.heap.size) W ⟨a.block,a.off,cap⟩ (.AU (P.cellsOf e) ass true):=by
    have hext:=Grow.push σ1 H1 (.AU (P.cellsOf e) ass true) ⟨a.block,a.off,cap⟩
    refine⟨λas has=> ?_,by show ass.length<=cap;omega,?_⟩
    ·obtain⟨i,hi,rfl⟩:=Qd.1 has
     obtain⟨cs,h1,h2,h3⟩:=each i _ (Qa hi)
     exact⟨by rw[h2.length,(pz h1).1],Qf.2 h3.cell⟩
    ·by_cases hc:cap=0
     ·exact .inl hc
     ·obtain⟨c,e',fr,hb,hsp'⟩:=hblock hc
      refine .inr ⟨c,e',fr,hb,λi as j av has hav=> ?_,(λhh=>by cases hh),λ_=> ?_⟩
      ·obtain⟨cs,h1,h2,-⟩:=each i as has
       obtain⟨v,hv,hvr⟩:=h2.get hav
       obtain⟨g1,g2⟩:=pz h1
       have hj:j<P.cellsOf e:=by rw[<-g1];exact(Qe.1 hv).1
       have g3:=g2 j hj
       rw[hv]at g3
       obtain⟨c',e2,fr',hb',hcv⟩:=Sk g3
       have hbl:(a.add (i* P.cellsOf e)).block=a.block:=Yo _ _
       have hof:(a.add (i* P.cellsOf e)).off=a.off+i* P.cellsOf e:=cd _ _
       rw[hbl,hb]at hb'
       injection hb' with hb';injection hb' with hb' _ _;subst hb'
       rw[hof]at hcv
       exact⟨v,hcv,hvr.grow hext⟩
      ·rcases Nat.lt_or_ge a.block W.heap.size with h'|h'
       ·exact h'
       ·rw[Array.getElem?_eq_none h']at hb;cases hb
   have hR':=o1.rel.note (P.cellsOf e) ass ⟨a.block,a.off,cap⟩ hx'
   refine⟨_,_,[.slice H1.length len 0 len false],o1.trans ⟨⟨_,rfl⟩,hR',Grow.push _ _ _ _⟩,?_,?_⟩
   ·simp only[BQ,and_true]
    simp only[VR]
    have hup:(σ1.Ec H1.length ⟨a.block,a.off,cap⟩) H1.length=⟨a.block,a.off,cap⟩:=by unfold B0.Ec;rw[if_pos rfl]
    refine⟨P.cellsOf e,ass,true,a,cap,Qb,by omega,by omega,rfl,hlc,(λhh=>by cases hh),(λhh=>by cases hh),λ_=>⟨by rw[hup,Nat.zero_add];exact Nat.le_refl _,λhc=> ?_⟩⟩
    obtain⟨c,e',fr,hb,hsp'⟩:=hblock hc
    rw[hup,Nat.zero_mul,Nat.add_zero]
    exact congrArg some hsp'
   ·unfold Shape
    rw[hu]
    refine⟨H1.length,len,ass,rfl,Qb,l1,by omega,λas has=> ?_⟩
    obtain⟨i,hi,rfl⟩:=Qd.1 has
    obtain⟨cs,h1,h2,h3⟩:=each i _ (Qa hi)
    exact h3.mono _
  ·rename_i fs hu
   simp only[Qc,Qf]at hok
   obtain⟨ht,hok⟩:=hok
   obtain⟨xs,n,-,-,hcl,hxl,hf⟩:=DataW.trod_struct hu hx
   obtain⟨σ1,H1,ass,o1,l1,r1⟩:=UY (W:=W) (fun(f:Field)=>(cs.drop f.offset).take (P.cellsOf f.type)) (λf H as=>Shape P H k f.type as) (λ_ _ G _ h=>h.mono G) fs.toList
    (
     λf hfm σ H hR=>by
     obtain⟨i,hi,rfl⟩:=Qd.1 hfm
     have hi':i<fs.size:=by simpa using hi
     have:=hf i fs[i] (Array.getElem?_eq_getElem hi')
     rw[Qa (by omega)]at this
     exact opens k _ (hok _ hfm) n _ _ this σ H hR) σ H hR
   refine⟨σ1,H1,ass.flatten,o1,?_,?_⟩
   ·have:=Ks l1 λi f as h1 h2=>(r1 i f as h1 h2).1
    rw[MY (by rw[hcl];exact ht)]at this
    simpa using this
   ·unfold Shape
    rw[hu]
    exact⟨ass,rfl,Sa l1 λi f as h1 h2=>(r1 i f as h1 h2).2⟩
  ·rename_i m e hu
   simp only[Qc,beq_iff_eq]at hok
   obtain⟨ht,hok⟩:=hok
   obtain⟨xs,n,-,-,hcl,hxl,hf⟩:=DataW.trod_array hu hx
   obtain⟨σ1,H1,ass,o1,l1,r1⟩:=UY (W:=W) (fun(i:Nat)=>(cs.drop (i* P.cellsOf e)).take (P.cellsOf e)) (λ_ H as=>Shape P H k e as) (λ_ _ G _ h=>h.mono G) (Qm m)
    (
     λi hi σ H hR=>by
     have hi':=Qn.1 hi
     have:=hf i hi'
     rw[Qa (by omega)]at this
     exact opens k _ hok n _ _ this σ H hR) σ H hR
   refine⟨σ1,H1,ass.flatten,o1,?_,?_⟩
   ·have:=Ks l1 λi f as h1 h2=>(r1 i f as h1 h2).1
    rw[Na m (by rw[hcl,ht];exact Nat.le_refl _),<-ht,<-hcl,List.take_length]at this
    exact this
   ·unfold Shape
    rw[hu]
    rw[Qk]at l1
    refine⟨ass,rfl,l1,λas has=> ?_⟩
    obtain⟨i,hi,rfl⟩:=Qd.1 has
    have hi':i<m:=by omega
    exact(r1 i i _ (by simp[hi']) (Qa hi)).2
  ·cases hok
end
section shapes
variable {P:Program}{H:AP}{k:Nat}{t:TypeId}{cs:List AH}
theorem Shape.struct{fs:Array Field}(hu:P.underlying t=some (.struct fs))(h:Shape P H (k+1) t cs):∃ass:List (List AH),cs=ass.flatten/\Hn (Shape P H k) fs.toList ass:=by
 unfold Shape at h;rw[hu]at h;exact h
theorem Shape.array{n:Nat}{e:TypeId}(hu:P.underlying t=some (.array n e))(h:Shape P H (k+1) t cs):∃ass:List (List AH),cs=ass.flatten/\ass.length=n/\∀bs∈ass,Shape P H k e bs:=by
 unfold Shape at h;rw[hu]at h;exact h
theorem Shape.slice{e:TypeId}(hu:P.underlying t=some (.slice e))(h:Shape P H (k+1) t cs):∃o n xs,cs=[.slice o n 0 n false]/\H[o]?=some (.AU (P.cellsOf e) xs true)/\xs.length=n/\n<=maxLen/\∀x∈xs,Shape P H k e x:=by
 unfold Shape at h;rw[hu]at h;exact h
theorem Shape.int{q:IntKind}(hu:P.underlying t=some (.int q))(h:Shape P H (k+1) t cs):∃n,cs=[.int q n]/\(Lit.int q n).wf=true:=by
 unfold Shape at h;rw[hu]at h;exact h
theorem Shape.bool(hu:P.underlying t=some .bool)(h:Shape P H (k+1) t cs):∃b,cs=[.bool b]:=by
 unfold Shape at h;rw[hu]at h;exact h
theorem Shape.str(hu:P.underlying t=some .string)(h:Shape P H (k+1) t cs):∃s,cs=[.str s]/\s.length<=maxLen:=by
 unfold Shape at h;rw[hu]at h;exact h
end shapes
def CJ(P:Program)(H:AP)(k:Nat)(t:TypeId)(a:AH):Prop:=
 match P.underlying t with
 |some (.struct _)=>∃cs,a= .agg cs/\Shape P H k t cs
 |some (.array _ _)=>∃cs,a= .agg cs/\Shape P H k t cs
 |_=>Shape P H k t [a]
theorem CJ.struct{P:Program}{H:AP}{k:Nat}{t:TypeId}{a:AH}{fs:Array Field}(hu:P.underlying t=some (.struct fs))(h:CJ P H k t a):∃cs,a= .agg cs/\Shape P H k t cs:=by
 unfold CJ at h;rw[hu]at h;exact h
theorem CJ.slice{P:Program}{H:AP}{k:Nat}{t:TypeId}{a:AH}{e:TypeId}(hu:P.underlying t=some (.slice e))(h:CJ P H k t a):Shape P H k t [a]:=by
 unfold CJ at h;rw[hu]at h;exact h
theorem CJ.int{P:Program}{H:AP}{k:Nat}{t:TypeId}{a:AH}{q:IntKind}(hu:P.underlying t=some (.int q))(h:CJ P H (k+1) t a):∃n,a= .int q n/\(Lit.int q n).wf=true:=by
 unfold CJ at h;rw[hu]at h
 obtain⟨n,hn,hw⟩:=Shape.int hu h
 injection hn with hn _
 exact⟨n,hn,hw⟩
theorem CJ.bool{P:Program}{H:AP}{k:Nat}{t:TypeId}{a:AH}(hu:P.underlying t=some .bool)(h:CJ P H (k+1) t a):∃b,a= .bool b:=by
 unfold CJ at h;rw[hu]at h
 obtain⟨n,hn⟩:=Shape.bool hu h
 injection hn with hn _
 exact⟨n,hn⟩
def EU(P:Program)(H:AP)(k:Nat):List TypeId->List AH->Prop
 |[],[]=>True
 |t::ts,a::as=>CJ P H k t a/\EU P H k ts as
 |_,_=>False
theorem CJ.mono{P:Program}{H:AP}(G:AP){k:Nat}{t:TypeId}{a:AH}(h:CJ P H k t a):CJ P (H++G) k t a:=by
 unfold CJ at h ⊢
 split at h
 ·obtain⟨cs,h1,h2⟩:=h;exact⟨cs,h1,h2.mono G⟩
 ·obtain⟨cs,h1,h2⟩:=h;exact⟨cs,h1,h2.mono G⟩
 ·exact h.mono G
section
variable {D:Type}{enc:TypeId×Value->D}{P:Program}{W:World}
theorem bL{k:Nat}{t:TypeId}(hok:KQ P k t=true){b:Nat}{v:Value}{d:DataW D}{ps:List MemPlace}(hv:Value.okWide P W .any b t v)(h:DataW.Trod enc P W 0 (λ_=>true) true t v d ps)
 {σ:B0} {H:AP} (hR:BL (·<W.heap.size) σ H W):∃σ' H' a,IV W σ H σ' H'/\VR σ' H' a v/\CJ P H' k t a:=by
 obtain⟨fuel,h⟩:=h
 obtain⟨σ',H',as,o,hvr,hs⟩:=opens k t hok fuel _ _ h σ H hR
 have one:(∀cs,v≠ .agg cs)->∃a,as=[a]/\VR σ' H' a v:=by
  intro hn
  have hc:v.cells.toList=[v]:=by
   unfold Value.cells
   split
   ·rename_i cs;exact absurd rfl (hn cs)
   ·rfl
  rw[hc]at hvr
  match as,hvr with
  |[a],hvr=>exact⟨a,rfl,(Bn.1 hvr).1⟩
  |[],hvr=>simp[BQ]at hvr
  |_::_::_,hvr=>simp[BQ]at hvr
 unfold Value.okWide at hv
 unfold CJ
 split at hv
 ·rename_i fs hu
  obtain⟨cs,rfl,-,-⟩:=hv
  rw[hu]
  exact⟨σ',H',.agg as,o,by simp only[VR];exact⟨Qf.2 hs.cell,cs,rfl,hvr⟩,as,rfl,hs⟩
 ·rename_i m e hu
  obtain⟨cs,rfl,-,-⟩:=hv
  rw[hu]
  exact⟨σ',H',.agg as,o,by simp only[VR];exact⟨Qf.2 hs.cell,cs,rfl,hvr⟩,as,rfl,hs⟩
 ·rename_i hn1 hn2
  have hna:∀cs,v≠ .agg cs:=by
   rintro cs rfl
   unfold KQ at hok
   cases k with
   |zero=>cases hok
   |succ k=>
    simp only at hok
    split at hok
    ·rename_i hu;obtain⟨b,hb,-⟩:=DataW.trod_bool hu h;unfold Cell.okWide at hv;simp[hu,Cell.ok]at hv
    ·rename_i q hu;unfold Cell.okWide at hv;simp[hu,Cell.ok]at hv
    ·rename_i hu;unfold Cell.okWide at hv;simp[hu,Cell.ok]at hv
    ·rename_i e hu;unfold Cell.okWide at hv;simp[hu,Cell.ok]at hv
    ·rename_i fs hu;exact hn1 fs hu
    ·rename_i m e hu;exact hn2 m e hu
    ·cases hok
  obtain⟨a,rfl,hva⟩:=one hna
  refine⟨σ',H',a,o,hva,?_⟩
  split
  ·rename_i fs hu;exact absurd hu (hn1 fs)
  ·rename_i m e hu;exact absurd hu (hn2 m e)
  ·exact hs
theorem S8{k:Nat}:∀{ts:List TypeId} {vs:List Value} {ds:List (DataW D)} {ps:List MemPlace} {b:Nat},(ts.all λt=>KQ P k t)=true->(∀(j:Nat) t v,ts[j]?=some t->vs[j]?=some v->Value.okWide P W .any b t v)->
 DataW.TrodAll enc P W 0 (λ_=>true) true ts vs ds ps->∀{σ:B0} {H:AP},BL (·<W.heap.size) σ H W->∃σ' H' as,IV W σ H σ' H'/\BQ σ' H' as vs/\EU P H' k ts as
 |[],vs,ds,ps,b,_,_,h,σ,H,hR=>by
  obtain⟨rfl,rfl,rfl⟩:=trodAll_nil h
  exact⟨σ,H,[],.refl hR,by simp,trivial⟩
 |t::ts,vs,ds,ps,b,ht,hv,h,σ,H,hR=>by
  simp only[Qo,Qc]at ht
  obtain⟨v,vs1,d,ds1,p,q,rfl,rfl,rfl,h1,h2⟩:=trodAll_cons h
  obtain⟨σ1,H1,a,o1,r1,s1⟩:=bL ht.1 (hv 0 t v rfl rfl) h1 hR
  obtain⟨σ2,H2,as,o2,r2,s2⟩:=S8 ht.2 (λj t v h1 h2=>hv (j+1) t v (by simpa using h1) (by simpa using h2)) h2 o1.rel
  obtain⟨G,rfl⟩:=o2.pre
  exact⟨σ2,_,a::as,o1.trans o2,Bn.2 ⟨r1.grow o2.ext,r2⟩,s1.mono G,s2⟩
theorem OA{f:FuncId}{k:Nat}{ts:List TypeId}(hlaw:∀H as,EU P H k ts as->AF P f as H λv _=>v= .bool true){args:Array Value}{ds gs:List (DataW D)}{before:List MemPlace}{b:Nat}{vars:List String}{apart:Bool}
 (hk:(ts.all λt=>KQ P k t)=true) (hv:∀(j:Nat) t v,ts[j]?=some t->args[j]?=some v->Value.okWide P W .any b t v) (hW:DataW.Whole enc P ts vars apart W args.toList ds gs before):
 Calls P f args W λe W'=>e= .returned (.bool true)/\Below W.heap.size W W':=by
 obtain⟨p,q,hA,-,-,-,-⟩:=hW
 obtain⟨σ,H,as,o,r,s⟩:=S8 (σ:=λ_=>⟨0,0,0⟩) (H:=[]) hk (λj t v h1 h2=>hv j t v h1 (by rw[<-Array.getElem?_toList];exact h2)) hA ⟨λho=>by simp at ho,λho=>by simp at ho,λ_ h=>h⟩
 have:=hlaw H as s (·<W.heap.size) σ W args.toList o.rel r
 rw[Array.toArray_toList]at this
 refine this.mono ?_
 rintro e W' ⟨x,σ',v,H1,rfl,rfl,-,hx,-,hb⟩
 simp only[VR]at hx
 subst hx
 exact⟨rfl,hb.below⟩
end
end Go.Ax
