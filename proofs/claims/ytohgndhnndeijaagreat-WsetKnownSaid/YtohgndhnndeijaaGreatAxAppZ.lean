/- 'append' tells true. Conditions: none. -/
import Derived.Test.YtohgndhnndeijaaGreatAxMakeZ
set_option linter.all false
open List renaming getElem?_eq_some_iff -> Qa, getElem?_set_self -> Qb, getElem?_set_ne -> Qc, eq_nil_of_length_eq_zero -> Qd, take_of_length_le -> Qh, all_eq_true -> Qk, mem_of_getElem? -> Ql, mem_of_mem_drop -> Qm, mem_of_mem_take -> Qn, mem_append -> Qo, length_pos_iff -> Qp, drop_zero -> Qq, length_append -> Qr, getElem?_append_left -> Qs, getElem?_append -> Qu, flatten_append -> Qv, getElem?_take -> Qw, append_assoc -> Qy, mem_map -> Qz, getElem_mem -> QA, take -> QC, drop -> QD, map -> QE
open Nat renaming add_mul -> Qe, zero_add -> Qg, mul_le_mul_right -> Qi, le_refl -> Qt, zero_mul -> QB
open Option.some renaming injEq -> Qf
open Prod.mk renaming injEq -> Qj
open Ne renaming symm -> Qx
namespace Go.Ax
open Go Go.RowKit
theorem ML(b:Nat):∀(vs:List Value) (off:Nat) (w:World) (c:Array Value) (e:TypeId) (fr:Nat×Nat),w.heap[b]?=some (.cells c e fr)->
 (w.setCells b off vs).heap[b]?=some (.cells (putAt c.toList off vs).toArray e fr)
 |[],off,w,c,e,fr,h=>by simpa [World.setCells] using h
 |v::vs,off,w,c,e,fr,h=>by
  rw[World.setCells]
  have h1:(w.setCell ⟨b,off,none⟩ v).heap[b]?=some (.cells (c.setIfInBounds off v) e fr):=by simp[World.setCell,Array.getElem?_modify,h]
  rw[ML b vs (off+1) _ _ e fr h1]
  simp
theorem Hw(b k:Nat)(hk:k≠b):∀(vs:List Value) (off:Nat) (w:World),(w.setCells b off vs).heap[k]?=w.heap[k]?
 |[],_,_=>rfl
 |v::vs,off,w=>by
  rw[World.setCells,Hw b k hk vs (off+1)]
  exact Below.heap_setCell _ _ _ _ hk
theorem MV(b:Nat):∀(vs:List Value) (off:Nat) (w:World),(w.setCells b off vs).heap.size=w.heap.size
 |[],_,_=>rfl
 |v::vs,off,w=>by rw[World.setCells,MV b vs (off+1),World.size_setCell]
theorem IX{B:Nat->Prop}{b:Nat}{w0:World}(hB:¬B b):∀(vs:List Value) (off:Nat) (w:World),Kept B w0 w->Kept B w0 (w.setCells b off vs)
 |[],_,_,h=>h
 |v::vs,off,w,h=>IX hB vs (off+1) _ (h.setCell (p:=⟨b,off,none⟩) hB v)
section steps
variable {P:Program}{B:Nat->Prop}{σ:B0}{H H':AP}{w:World}{T:List AH}{a:Act}{o:Oper}{v:AH}
theorem Ext.grow{ob s:Nat}{xs xs':List (List AH)}(ho:H[ob]?=some (.AU s xs false))(σ':B0)(hs:∀q,q≠ob->σ' q=σ q)(hl:xs.length<xs'.length\/(xs.length=xs'.length/\σ' ob=σ ob)):
 Ext σ H σ' (H.set ob (.AU s xs' false)):=by
 have holt:ob<H.length:=(Qa.1 ho).1
 refine⟨⟨by simp,fun{q s1 x1 r1} hq=> ?_,fun{q es} hq=> ?_,fun{q s1 p1} hq=> ?_⟩,fun{q} hq=> ?_,fun{q s1 x1} hq=> ?_⟩
 ·by_cases e:ob=q
  ·subst e
   rw[ho]at hq;injection hq with hq;injection hq with g1 g2 g3;subst g1;subst g2;subst g3
   refine⟨xs',Qb holt,by omega,λe=> ?_⟩
   rcases hl with hl|hl
   ·omega
   ·exact hl.2
  ·exact⟨x1,by rw[Qc e];exact hq,Qt _,λ_=>hs q (Qx e)⟩
 ·have e:ob≠q:=λe=>by subst e;rw[ho]at hq;cases hq
  exact⟨⟨es,by rw[Qc e];exact hq⟩,hs q (Qx e)⟩
 ·have e:ob≠q:=λe=>by subst e;rw[ho]at hq;cases hq
  exact⟨⟨s1,p1,by rw[Qc e];exact hq⟩,hs q (Qx e)⟩
 ·have e:ob≠q:=λe=>by subst e;rw[ho]at hq;cases hq
  rw[Qc e];exact hq
 ·have e:ob≠q:=λe=>by subst e;rw[Qb holt]at hq;cases hq
  rw[Qc e]at hq
  exact⟨⟨_,hq⟩,hs q (Qx e)⟩
theorem Tn(h:BL B σ H w){q:Nat}{y:Au}(hq:H[q]?=some y)(hy:y.DB (σ q)=true):(σ q).CG<w.heap.size:=by
 have hr:=h.obj hq
 have bl:∀{k:Nat} {z:Obj},w.heap[k]?=some z->k<w.heap.size:=fun{k z} hz=>by
  rcases Nat.lt_or_ge k w.heap.size with h'|h'
  ·exact h'
  ·simp[Array.getElem?_eq_none h']at hz
 cases y with
 |AU s xs ro=>
  obtain⟨-,-,h3⟩:=hr
  simp[Au.DB]at hy
  obtain⟨c,e,fr,hb,-⟩:=h3.resolve_left hy.2
  exact bl hb
 |map es=>obtain⟨-,ms,clock,hb,-⟩:=hr;exact bl hb
 |iter s p=>obtain⟨-,hb⟩:=hr;exact bl hb
 |A1=>simp[Au.DB]at hy
theorem BL.Wt(h:BL B σ H w){ob s:Nat}{xs xs':List (List AH)}(ho:H[ob]?=some (.AU s xs false))(hlt:xs.length<xs'.length)(room:Nat)(c:Array Value)(e:TypeId)
 (hl:∀x∈xs',x.length=s/\x.all AH.cell=true) (hroom:xs'.length<=room) (hc:c.size=room* s) (hv:BQ σ H xs'.flatten (c.toList.take (xs'.length* s))):
 BL B (σ.Ec ob ⟨w.heap.size,0,room⟩) (H.set ob (.AU s xs' false)) (w.alloc (.cells c e)):=by
 have holt:ob<H.length:=(Qa.1 ho).1
 have hsame:∀{q},q≠ob->(σ.Ec ob ⟨w.heap.size,0,room⟩) q=σ q:=λhq=>by simp[B0.Ec,hq]
 have hself:(σ.Ec ob ⟨w.heap.size,0,room⟩) ob=⟨w.heap.size,0,room⟩:=by simp[B0.Ec]
 have hext:Ext σ H (σ.Ec ob ⟨w.heap.size,0,room⟩) (H.set ob (.AU s xs' false)):=Ext.grow ho _ (λq hq=>hsame hq) (.inl hlt)
 refine⟨?_,?_,λk hk=>by rw[World.size_alloc];exact Nat.lt_succ_of_lt (h.base k hk)⟩
 ·intro q y hq
  by_cases e1:ob=q
  ·subst e1
   rw[Qb holt]at hq
   injection hq with hq;subst hq
   rw[hself]
   refine⟨hl,hroom,.inr ⟨c,e,(0,0),by show(w.heap.push _)[w.heap.size]?=_;simp,?_,λ_=>⟨h.fresh,rfl,rfl,hc⟩,λhh=>by cases hh⟩⟩
   intro i x j y hi hj
   have hg:=LB s xs' (λx hx=>(hl x hx).1) i x j y hi hj
   obtain⟨u,hu,hr⟩:=hv.get hg
   refine⟨u,?_,hr.ext hext⟩
   rw[Qw]at hu
   split at hu
   ·rw[Qg,<-Array.getElem?_toList];exact hu
   ·cases hu
  ·rw[Qc e1]at hq
   rw[hsame (Qx e1)]
   have hr:=h.obj hq
   by_cases hb:(σ q).CG<w.heap.size
   ·exact hr.ext hext (Below.heap_alloc _ _ _ hb)
   ·have hno:¬y.DB (σ q)=true:=λhy=>hb (Tn h hq hy)
    cases y with
    |AU s xs ro=>
     obtain⟨h1,h2,h3⟩:=hr
     rcases h3 with h3|⟨c,e,fr,hbb,-⟩
     ·exact⟨h1,h2,.inl h3⟩
     ·exfalso
      rw[Array.getElem?_eq_none (by omega)]at hbb;cases hbb
    |map es=>simp[Au.DB]at hno
    |iter s p=>simp[Au.DB]at hno
    |A1=>trivial
 ·intro p p' y y' hp hp' hy hy' hbb
  have Cd:∀{q:Nat} {z:Au},q≠ob->(H.set ob (.AU s xs' false))[q]?=some z->H[q]?=some z:=by
   intro q z hq hz
   rwa [Qc (Qx hq)]at hz
  by_cases e1:p=ob<;>by_cases e2:p'=ob
  ·omega
  ·subst e1
   rw[hself,hsame e2]at hbb
   rw[hsame e2]at hy'
   have:=Tn h (Cd e2 hp') hy'
   simp at hbb;omega
  ·subst e2
   rw[hself,hsame e1]at hbb
   rw[hsame e1]at hy
   have:=Tn h (Cd e1 hp) hy
   simp at hbb;omega
  ·rw[hsame e1,hsame e2]at hbb
   rw[hsame e1]at hy
   rw[hsame e2]at hy'
   exact h.apart (Cd e1 hp) (Cd e2 hp') hy hy' hbb
theorem BL.YS(h:BL B σ H w){ob s:Nat}{xs ys:List (List AH)}(ho:H[ob]?=some (.AU s xs false))(hy:∀x∈ys,x.length=s/\x.all AH.cell=true)
 (hroom:xs.length+ys.length<=(σ ob).room) (hr0:(σ ob).room≠0) {news:List Value} (hv:BQ σ H ys.flatten news):
 BL B σ (H.set ob (.AU s (xs++ys) false)) (w.setCells (σ ob).CG (xs.length* s) news):=by
 have holt:ob<H.length:=(Qa.1 ho).1
 have hext:Ext σ H σ (H.set ob (.AU s (xs++ys) false)):=Ext.grow ho _ (λq hq=>rfl) (by
  cases ys with
  |nil=>exact .inr ⟨by simp,rfl⟩
  |cons y ys=>exact .inl (by simp))
 obtain⟨h1,h2,h3⟩:=h.obj ho
 obtain⟨c,e,fr,hb,hcs,hown,-⟩:=h3.resolve_left hr0
 obtain⟨hB,hoff,KC,hsz⟩:=hown rfl
 have hxl:=ED s xs (λx hx=>(h1 x hx).1)
 have hyl:=ED s ys (λx hx=>(hy x hx).1)
 have hnl:news.length=ys.length* s:=by rw[<-hv.length,hyl]
 have hle:xs.length* s+ys.length* s<=c.size:=by rw[hsz,<-Qe];exact Qi _ hroom
 refine⟨?_,?_,λk hk=>by rw[MV];exact h.base k hk⟩
 ·intro q y hq
  by_cases e1:ob=q
  ·subst e1
   rw[Qb holt]at hq
   injection hq with hq;subst hq
   refine⟨?_,by simpa using hroom,.inr ⟨(putAt c.toList (xs.length* s) news).toArray,e,fr,ML _ _ _ _ _ _ _ hb,?_,λ_=>⟨hB,hoff,KC,by simp[KO,hsz]⟩,λhh=>by cases hh⟩⟩
   ·intro x hx
    rcases Qo.1 hx with hx|hx
    ·exact h1 x hx
    ·exact hy x hx
   ·intro i x j u hi hj
    rw[hoff,Qg,List.getElem?_toArray,LR _ _ _ (by rw[hnl];simpa using hle)]
    rw[Qu]at hi
    split at hi
    ·rename_i hlt
     obtain⟨v,hv,hr⟩:=hcs i x j u hi hj
     rw[hoff,Qg]at hv
     have hjs:j<s:=by have:=(Qa.1 hj).1;rw[(h1 x (Ql hi)).1]at this;exact this
     have hij:i* s+j<xs.length* s:=by
      calc i* s+j<i* s+s:=by omega
       _=(i+1)* s:=by rw[Qe];simp
       _<=xs.length* s:=Qi _ hlt
     refine⟨v,?_,hr.ext hext⟩
     rw[Qy,Qs (by simp;omega),Qw,if_pos hij,Array.getElem?_toList]
     exact hv
    ·rename_i hge
     have hg:=LB s ys (λx hx=>(hy x hx).1) _ x j u hi hj
     obtain⟨v,hv',hr⟩:=hv.get hg
     have hilt:i-xs.length<ys.length:=(Qa.1 hi).1
     have hjs:j<s:=by have:=(Qa.1 hj).1;rw[(hy x (Ql hi)).1]at this;exact this
     have e2:i* s+j=xs.length* s+((i-xs.length)* s+j):=by
      have:i=xs.length+(i-xs.length):=by omega
      conv=>lhs;rw[this,Qe]
      omega
     have hlt2:=(Qa.1 hv').1
     refine⟨v,?_,hr.ext hext⟩
     have hl1:(c.toList.take (xs.length* s)).length=xs.length* s:=by simp;omega
     rw[e2,Qy,List.getElem?_append_right (by omega),hl1,Nat.add_sub_cancel_left,Qs hlt2]
     exact hv'
  ·rw[Qc e1]at hq
   have hrel:=h.obj hq
   by_cases hbb:(σ q).CG=(σ ob).CG
   ·cases y with
    |AU s' xs' ro'=>
     obtain⟨k1,k2,k3⟩:=hrel
     by_cases hrr:(σ q).room=0
     ·exact⟨k1,k2,.inl hrr⟩
     ·exfalso
      obtain⟨c',e',fr',hb',_,ho1,ho2⟩:=k3.resolve_left hrr
      cases ro' with
      |true=>exact hB (hbb▸ho2 rfl)
      |false=>
       have:=h.apart hq ho (by simp[Au.DB,hrr]) (by simp[Au.DB,hr0]) hbb
       omega
    |map es=>
     exfalso
     obtain⟨k1,ms,clock,hb',_⟩:=hrel
     rw[hbb,hb]at hb';cases hb'
    |iter s' p'=>
     exfalso
     obtain⟨k1,hb'⟩:=hrel
     rw[hbb,hb]at hb';cases hb'
    |A1=>trivial
   ·exact hrel.ext hext (Hw _ _ hbb _ _ _)
 ·intro p p' y y' hp hp' hy1 hy1' hbb
  have back:∀{q:Nat} {z:Au},(H.set ob (.AU s (xs++ys) false))[q]?=some z->z.DB (σ q)=true->∃z':Au,H[q]?=some z'/\z'.DB (σ q)=true:=by
   intro q z hq hz
   by_cases hop:ob=q
   ·subst hop
    rw[Qb holt]at hq
    injection hq with hq;subst hq
    exact⟨_,ho,hz⟩
   ·rw[Qc hop]at hq
    exact⟨z,hq,hz⟩
  obtain⟨z,hz,hz1⟩:=back hp hy1
  obtain⟨z',hz',hz1'⟩:=back hp' hy1'
  exact h.apart hz hz' hz1 hz1' hbb
theorem BL.readAll(h:BL B σ H w){ob s:Nat}{xs:List (List AH)}{ro:Bool}(ho:H[ob]?=some (.AU s xs ro))(st:Nat):∀(len:Nat),st+len<=xs.length->
 ∃news:List Value,news.length=len* s/\w.rangeAt (σ ob).CG ((σ ob).off+st* s) news/\BQ σ H ((xs.drop st).take len).flatten news
 |0,_=>⟨[],by simp,λj v hv=>by simp at hv,by simp⟩
 |len+1,hle=>by
  obtain⟨news,h1,h2,h3⟩:=BL.readAll h ho st len (by omega)
  have hlt:st+len<xs.length:=by omega
  obtain⟨hx1,hx2,-⟩:=h.obj ho
  have hxs:xs[st+len].length=s:=(hx1 _ (QA hlt)).1
  obtain⟨cs,g1,g2,g3⟩:=h.read ho (List.getElem?_eq_getElem hlt) 0 s (by omega)
  refine⟨news++cs,by simp[h1,g1,Qe],?_,?_⟩
  ·intro j v hv
   rw[Qu]at hv
   split at hv
   ·exact h2 j v hv
   ·rename_i hge
    have:=g2 (j-news.length) v hv
    rw[<-this]
    congr 2
    rw[h1]at hge ⊢
    rw[Qe];omega
  ·have e:(xs.drop st).take (len+1)=(xs.drop st).take len++[xs[st+len]]:=by
    rw[List.take_succ_eq_append_getElem (by simp;omega)];simp
   rw[e,Qv]
   refine h3.append ?_
   rw[Qq,Qh (by omega)]at g3
   simpa using g3
theorem fu{size:Nat}{tx:TypeId}{A:AH}{X:Value}{ys:List (List AH)}(hk:(∃e',P.underlying tx=some (.slice e'))\/P.underlying tx=some .string)(h:BL B σ H w)(hX:VR σ H A X)
 (ht:Ds H size A=some ys) (hs:size≠0):∃news,Src P size tx X ys.length news w/\BQ σ H ys.flatten news/\(∀y∈ys,y.length=size/\y.all AH.cell=true):=by
 have one:∀{l:List AH} {news:List Value},BQ σ H l news->l.all AH.cell=true->∀u∈news,u.oneCell'=true:=by
  intro l news hv hc u hu
  obtain⟨k,hk,rfl⟩:=List.mem_iff_getElem.1 hu
  have hl:=hv.length
  have:=((H4.1 hv).2 k (by omega) hk).L3 ((Qk.1 hc) _ (QA (by omega)))
  revert this
  cases news[k]<;>simp[Oh,Value.oneCell']
 have flatc:∀{ys:List (List AH)},(∀y∈ys,y.length=size/\y.all AH.cell=true)->ys.flatten.all AH.cell=true:=by
  intro ys hy
  rw[Qk]
  intro z hz
  obtain⟨y,hy1,hy2⟩:=List.mem_flatten.1 hz
  exact(Qk.1 (hy y hy1).2) z hy2
 have slc:∀(ad:Addr) (n cap:Nat) (news:List Value) (ys:List (List AH)),X= .slice (some ad) n cap->ys.length=n->news.length=n* size->(∀j u,news[j]?=some u->w.cell? (ad.add j)=some u)->
  BQ σ H ys.flatten news->(∀y∈ys,y.length=size/\y.all AH.cell=true)->∃news,Src P size tx X ys.length news w/\BQ σ H ys.flatten news/\(∀y∈ys,y.length=size/\y.all AH.cell=true):=by
  intro ad n cap news ys hX hn hnl hc hv hy
  subst hX;subst hn
  exact⟨news,⟨hk,λ_=>rfl,run_firstCells_some w size _ ad _ cap news hnl hc,run_firstCells_some w.drew size _ ad _ cap news hnl (by simpa using hc),hnl,one hv (flatc hy)⟩,hv,hy⟩
 have nil:X= .slice none 0 0->∃news,Src P size tx X ([]:List (List AH)).length news w/\BQ σ H ([]:List (List AH)).flatten news/\(∀y∈([]:List (List AH)),y.length=size/\y.all AH.cell=true):=by
  rintro rfl
  exact⟨[],⟨hk,λ_=>rfl,run_firstCells_none w size 0 0 0,run_firstCells_none w.drew size 0 0 0,by simp,λ_ h=>by cases h⟩,by simp,λ_ h=>by cases h⟩
 unfold Ds at ht
 split at ht
 ·rename_i ob n st len full
  split at ht
  case h_2=>cases ht
  rename_i s xs ro ho
  split at ht
  case isFalse=>cases ht
  rename_i hb
  obtain⟨hl,rfl⟩:=hb
  injection ht with ht;subst ht
  simp only[VR]at hX
  obtain⟨s',xs',ro',ad,cap,ho',hn,hst,hv,hc,hf,hnn,ha⟩:=hX
  rw[ho]at ho';injection ho' with ho';injection ho' with g1 g2 g3;subst g1;subst g2;subst g3
  cases ad with
  |none=>
   have hc0:=hnn rfl
   have hl0:len=0:=by omega
   subst hc0;subst hl0
   simpa using nil hv
  |some ad=>
  obtain⟨hx1,hx2,-⟩:=h.obj ho
  obtain⟨news,h1,h2,h3⟩:=h.readAll ho st len (by omega)
  have hyy:∀y∈(xs.drop st).take len,y.length=s/\y.all AH.cell=true:=λy hy=>hx1 y (Qm (Qn hy))
  refine slc ad len cap news _ hv (by simp;omega) h1 ?_ h3 hyy
  intro j u hu
  by_cases h0:cap=0
  ·have:news.length=0:=by
    rw[h1];have:len=0:=by omega
    simp[this]
   have:=(Qa.1 hu).1
   omega
  ·have had:=(ha hl).2 h0
   injection had with had;subst had
   rw[Cf];exact h2 j u hu
 ·rename_i ob n
  split at ht
  case h_2=>cases ht
  rename_i s xs ro ho
  split at ht
  case isFalse=>cases ht
  rename_i hb
  obtain⟨hl,rfl⟩:=hb
  injection ht with ht;subst ht
  simp only[VR]at hX
  obtain⟨s',xs',ro',ho',hn,h0,hX⟩:=hX
  rw[ho]at ho';injection ho' with ho';injection ho' with g1 g2 g3;subst g1;subst g2;subst g3
  by_cases hz:n=0
  ·have:xs=[]:=Qd (by omega)
   subst this
   exact nil (h0 hz)
  ·obtain⟨ad,cap,hv,hc,ha⟩:=hX hz
   obtain⟨hx1,hx2,-⟩:=h.obj ho
   obtain⟨news,h1,h2,h3⟩:=h.readAll ho 0 n (by omega)
   rw[Qq,Qh (by omega)]at h3
   refine slc ad n cap news xs hv hl h1 ?_ h3 hx1
   intro j u hu
   rw[(ha hl).2,Cf]
   have:=h2 j u hu
   simpa using this
 ·rename_i ob n i j len
  split at ht
  case h_2=>cases ht
  rename_i s xs ro ho
  split at ht
  case isFalse=>
   split at ht
   case isFalse=>cases ht
   rename_i hl0
   injection ht with ht;subst ht;subst hl0
   simp only[VR]at hX
   obtain⟨s',xs',ro',ad,cap,ho',hn,hv,hc,ha⟩:=hX
   exact slc ad 0 cap [] [] hv rfl (by simp) (λj u hu=>by simp at hu) (by simp) (λy hy=>by cases hy)
  rename_i hb
  obtain⟨hl,rfl⟩:=hb
  split at ht
  case h_2=>cases ht
  rename_i x hx
  injection ht with ht;subst ht
  simp only[VR]at hX
  obtain⟨s',xs',ro',ad,cap,ho',hn,hv,hc,ha⟩:=hX
  rw[ho]at ho';injection ho' with ho';injection ho' with g1 g2 g3;subst g1;subst g2;subst g3
  obtain⟨hx1,hx2,-⟩:=h.obj ho
  have hxl:=(hx1 x (Ql hx))
  obtain⟨hi,hjc,had⟩:=ha hl
  obtain⟨news,h1,h2,h3⟩:=h.read ho hx j len (by omega)
  have hfl:(QE (λa=>[a]) (QC len (QD j x))).flatten=(x.drop j).take len:=by
   generalize QC len (QD j x)=l
   induction l with
   |nil=>rfl
   |cons y l ih=>simp[ih]
  refine slc ad len cap news _ hv (by simp;omega) (by omega) ?_ (by rw[hfl];exact h3) ?_
  ·intro k u hu
   by_cases h0:cap=0
   ·have:=(Qa.1 hu).1
    omega
   ·rw[had h0,Cf];exact h2 k u hu
  ·intro y hy
   obtain⟨z,hz,rfl⟩:=Qz.1 hy
   refine⟨rfl,?_⟩
   have:=(Qk.1 hxl.2) z (Qm (Qn hz))
   simp[this]
 ·injection ht with ht;subst ht
  simp only[VR]at hX
  exact nil hX
 ·rename_i s
  split at ht
  case isFalse=>cases ht
  rename_i h1
  subst h1
  injection ht with ht;subst ht
  simp only[VR]at hX
  subst hX
  have hv:BQ σ H (QE (λb:UInt8=>[AH.int .u8 b.toNat]) s).flatten (byteCells ⟨s.toArray⟩):=by
   unfold byteCells
   simp only
   clear slc nil
   induction s with
   |nil=>simp
   |cons b s ih=>simp only[List.map_cons,List.flatten_cons,List.singleton_append,Bn];exact⟨by simp[VR],by simpa using ih⟩
  refine⟨byteCells ⟨s.toArray⟩,⟨hk,λ_=>by simp[Builtin.lenOf,F9],?_,?_,by rw[byteCells_length];simp[F9],?_⟩,hv,?_⟩
  ·have:=firstCells_string (P:=P) ⟨s.toArray⟩ w
   simpa [F9] using this
  ·have:=firstCells_string (P:=P) ⟨s.toArray⟩ w.drew
   simpa [F9] using this
  ·intro u hu
   obtain⟨_,_,rfl⟩:=Qz.1 hu
   rfl
  ·intro y hy
   obtain⟨b,_,rfl⟩:=Qz.1 hy
   exact⟨rfl,rfl⟩
 ·cases ht
theorem PO(t tx ty e:TypeId)(i:TypeInfo)(ht:P.underlying t=some (.slice e))(hi:P.info? e=some i)(base:Option Addr)(sLen sCap:Nat)(hle:sLen<=sCap)(x:Value)(hs:Src P i.size tx x 0 [] w):
 (Builtin.append_ #[t,tx] ty #[.slice base sLen sCap,x]).run P w= .ok (.slice base sLen sCap) w:=by
 rcases hs.kind with⟨e',hk⟩|hk<;>cases base<;>
  simp[Builtin.append_,run_underlying ht,run_underlying hk,sizeOf,typeInfo,hi,hs.len,hle,hs.cells,storeCells]
theorem eQ{size bytes:Nat}{s x:Av}{s' x':Operand}{t u e:TypeId}{c:Call}{i:TypeInfo}{z:Value}(hop:o.op= .call c)(hc:c.callee= .builtin .append)(ha:c.args.toList=[s',x'])(hat:c.argTypes.toList=[t,u])
 (h1:BE s s'=true) (h2:BE x x'=true) (hu:P.underlying t=some (.slice e)) (hi:P.info? e=some i) (hz:i.zero=some z) (hsz:i.size=size) (hby:i.bytes=bytes) (hzc:z.cells.size=size) (hs0:size≠0) (hb0:bytes≠0)
 (hk:(∃e',P.underlying u=some (.slice e'))\/P.underlying u=some .string)
 (hs:AV T H (.app size bytes s x)=some (v,H')) (hR:BL B σ H w) (hT:BQ σ H T a.tmps.toList):Yields P B σ H w (execOp a.eval o) v H':=by
 have e1:=Bi hT h1
 have e2:=Bi hT h2
 obtain⟨callee,args,argTypes⟩:=c
 simp only at hc ha hat
 subst hc
 obtain rfl:args=#[s',x']:=by cases args;simp_all
 obtain rfl:argTypes=#[t,u]:=by cases argTypes;simp_all
 have fin:∀{X:Value} {w':World},(Builtin.append_ #[t,u] o.type #[a.eval s',a.eval x']).run P w= .ok X w'->(execOp a.eval o).run P w= .ok (.value X) w':=by
  intro X w' h
  simp[execOp,hop,resolve,invoke,builtin,h]
 simp only[AV]at hs
 split at hs
 case h_1=>cases hs
 rename_i ys hys
 obtain⟨news,hsrc,hvn,hyc⟩:=fu hk hR e2 hys hs0
 subst hsz
 have hyl:=ED i.size ys (λy hy=>(hyc y hy).1)
 have hnl:news.length=ys.length* i.size:=by rw[<-hvn.length,hyl]
 -- a new row
 have grows:∀(base:Option Addr) (sLen sCap:Nat) (olds:List Value) (xs:List (List AH)),a.eval s'= .slice base sLen sCap->(Builtin.firstCells i.size sLen (.slice base sLen sCap)).run P w.drew= .ok olds.toArray w.drew->
  sCap<sLen+ys.length->(sLen+ys.length)* bytes<=140737488355328->xs.length=sLen->BQ σ H xs.flatten olds->(∀y∈xs,y.length=i.size/\y.all AH.cell=true)->
  ∃(cap:Nat) (cc:Array Value),sLen+ys.length<=cap/\cc.size=cap* i.size/\BQ σ H (xs++ys).flatten (cc.toList.take ((xs++ys).length* i.size))/\
   (execOp a.eval o).run P w= .ok (.value (.slice (some ⟨w.heap.size,0,none⟩) (sLen+ys.length) cap)) (w.drew.alloc (.cells cc e)):=by
  intro base sLen sCap olds xs hb hold hg hfit hxl hvo hxc
  have hol:olds.length=sLen* i.size:=by rw[<-hvo.length,ED i.size xs (λy hy=>(hxc y hy).1),hxl]
  have hpos:sLen+ys.length<=(sLen+ys.length)* bytes:=Nat.le_mul_of_pos_right _ (by omega)
  have hrun:=run_append_grow_src (P:=P) w t u o.type e i z hu hi hz base sLen sCap olds hold (a.eval x') ys.length news hsrc hg (by omega) (by rw[hby];exact growslice_fits hg hfit)
  have hge:=grownCap_ge w (sLen+ys.length) sCap e
  have hal:((olds++news).toArray++Builtin.zeroCells z.cells (grownCap w (sLen+ys.length) sCap e-(sLen+ys.length))).size=grownCap w (sLen+ys.length) sCap e* i.size:=by
   rw[Array.size_append,size_zeroCells,hzc]
   simp only[List.size_toArray,Qr,hol,hnl]
   rw[<-Qe,<-Qe,Nat.add_sub_cancel' hge]
  refine⟨grownCap w (sLen+ys.length) sCap e,_,hge,hal,?_,fin (by rw[hb];exact hrun)⟩
  have hlen:(xs++ys).length* i.size=(olds++news).length:=by simp[hol,hnl,hxl,Qe]
  rw[hlen,Array.toList_append,List.take_left',Qv]
  ·exact hvo.append hvn
  ·simp
 have hroomD:∀{σ':B0} {H1:AP} {cc:Array Value},BL B σ' H1 (w.drew.alloc (.cells cc e))->Kept B w (w.drew.alloc (.cells cc e)):=λ_=>((Kept.refl B w).drew).alloc hR.base _
 have hnone:ys=[]->∀(base:Option Addr) (sLen sCap:Nat),a.eval s'= .slice base sLen sCap->sLen<=sCap->(execOp a.eval o).run P w= .ok (.value (.slice base sLen sCap)) w:=by
  rintro rfl base sLen sCap hb hle
  have:news=[]:=Qd (by simpa using hnl)
  subst this
  exact fin (by rw[hb];exact PO t u o.type e i hu hi base sLen sCap hle _ hsrc)
 split at hs
 ·-- nil
  rename_i hsv
  rw[hsv]at e1;simp only[VR]at e1
  split at hs
  ·rename_i hy0
   simp only[Qf,Qj]at hs
   obtain⟨rfl,rfl⟩:=hs
   exact Yields.pure hR (by simp only[VR]) (hnone hy0 none 0 0 e1 (Qt _))
  ·rename_i hy0
   have hpos:0<ys.length:=Qp.2 hy0
   split at hs
   case isFalse=>cases hs
   rename_i hfit
   simp only[Qf,Qj]at hs
   obtain⟨rfl,rfl⟩:=hs
   obtain⟨cap,cc,g1,g2,g3,g4⟩:=grows none 0 0 [] [] e1 (run_firstCells_none w.drew i.size 0 0 0) (by omega) (by rw[Qg];exact hfit) rfl (by simp) (λ_ h=>by cases h)
   rw[Qg]at g1 g4
   have hpush:=hR.drew.L6 i.size cap ys cc e hyc g1 g2 (by simpa using g3)
   exact⟨_,_,_,.inl g4,hpush,H3 i.size ys cap _ ys.length false rfl g1 (λh=>by cases h),Ext.push _ _ _ _ rfl,hroomD hpush⟩
 ·-- an accumulator
  rename_i ob n hsv
  rw[hsv]at e1;simp only[VR]at e1
  split at hs
  case h_2=>cases hs
  rename_i s1 xs ho
  split at hs
  case isFalse=>cases hs
  rename_i hb
  obtain⟨hl,rfl,hfit⟩:=hb
  simp only[Qf,Qj]at hs
  obtain⟨rfl,rfl⟩:=hs
  obtain⟨s2,xs2,ro2,ho2,hn,h0,hne⟩:=e1
  rw[ho]at ho2;injection ho2 with ho2;injection ho2 with g1 g2 g3;subst g1;subst g2;subst g3
  have holt:ob<H.length:=(Qa.1 ho).1
  obtain⟨hx1,hx2,hx3⟩:=hR.obj ho
  by_cases hy0:ys=[]
  ·subst hy0
   have hset:H.set ob (.AU i.size (xs++[]) false)=H:=by
    obtain⟨hl,hh⟩:=Qa.1 ho;rw[List.append_nil,<-hh];simp
   rw[hset]
   have hVR:VR σ H (.acc ob (n+([]:List (List AH)).length)) (a.eval s'):=by
    simp only[VR,List.length_nil,Nat.add_zero]
    exact⟨i.size,xs,false,ho,hn,h0,hne⟩
   by_cases hz0:n=0
   ·exact Yields.pure hR (by rw[<-h0 hz0];exact hVR) (hnone rfl none 0 0 (h0 hz0) (Qt _))
   ·obtain⟨ad,cap,hv,hc,had⟩:=hne hz0
    exact Yields.pure hR (by rw[<-hv];exact hVR) (hnone rfl _ _ _ hv hc)
  ·have hpos:0<ys.length:=Qp.2 hy0
   have hlt:xs.length<(xs++ys).length:=by simp;omega
   have hall:∀y∈xs++ys,y.length=i.size/\y.all AH.cell=true:=λy hy=>(Qo.1 hy).elim (hx1 y) (hyc y)
   have acc:∀(cap:Nat) (σ':B0) (CG:Nat),n+ys.length<=cap->σ' ob=⟨CG,0,cap⟩->VR σ' (H.set ob (.AU i.size (xs++ys) false)) (.acc ob (n+ys.length)) (.slice (some ⟨CG,0,none⟩) (n+ys.length) cap):=by
    intro cap σ' CG hcap hσ
    simp only[VR]
    exact⟨i.size,xs++ys,false,Qb holt,by simp;omega,λh=>by omega,λ_=>⟨_,cap,rfl,hcap,λ_=>by rw[hσ];exact⟨Qt _,rfl⟩⟩⟩
   by_cases hz0:n=0
   ·have hxs:xs=[]:=Qd (by omega)
    subst hxs;subst hz0
    obtain⟨cap,cc,g1,g2,g3,g4⟩:=grows none 0 0 [] [] (h0 rfl) (run_firstCells_none w.drew i.size 0 0 0) (by omega) hfit rfl (by simp) (λ_ h=>by cases h)
    have hre:=hR.drew.Wt ho hlt cap cc e hall (by simpa using g1) g2 g3
    exact⟨_,_,_,.inl g4,hre,acc cap _ _ g1 (by simp[B0.Ec]),Ext.grow ho _ (λq hq=>by simp[B0.Ec,hq]) (.inl hlt),hroomD hre⟩
   ·obtain⟨ad,cap,hv,hc,had⟩:=hne hz0
    obtain⟨hcr,rfl⟩:=had hl
    have hr0:(σ ob).room≠0:=by omega
    obtain⟨cb,eb,fb,hblk,hcells,hown,-⟩:=hx3.resolve_left hr0
    obtain⟨hB,hoff,KC,hszb⟩:=hown rfl
    obtain⟨olds,o1,o2,o3⟩:=hR.readAll ho 0 n (by omega)
    rw[Qq,Qh (by omega)]at o3
    rw[hoff]at hv
    by_cases hroom:n+ys.length<=cap
    ·have hrun:=run_append_room_src (P:=P) w t u o.type e i hu hi (σ ob).CG 0 n cap (a.eval x') ys.length news hsrc hroom ?_ ?_
     ·rw[Qg]at hrun
      refine⟨σ,_,_,.inl (fin (by rw[hv];exact hrun)),?_,?_,Ext.grow ho _ (λq hq=>rfl) (.inl hlt),IX hB _ _ _ (Kept.refl _ _)⟩
      ·have:=hR.YS ho hyc (by omega) hr0 hvn
       rw[hl]at this;exact this
      ·simp only[VR]
       exact⟨i.size,xs++ys,false,Qb holt,by simp;omega,λh=>by omega,λ_=>⟨_,cap,rfl,hroom,λ_=>⟨by omega,by rw[hoff]⟩⟩⟩
     ·intro j hj
      have:n* i.size+j<cb.size:=by
       rw[hszb]
       calc n* i.size+j<n* i.size+ys.length* i.size:=by omega
        _=(n+ys.length)* i.size:=by rw[Qe]
        _<=(σ ob).room* i.size:=Qi _ (by omega)
      rw[cell_of_row w _ _ cb eb fb hblk];simp[this]
     ·intro j hj
      simp[World.frozen?,hblk,KC]
    ·obtain⟨cap',cc,g1,g2,g3,g4⟩:=grows _ n cap olds xs hv (run_firstCells_some w.drew i.size n _ n cap olds o1 (λj u hu=>by
      have:=o2 j u hu
      rw[Cf];simpa [hoff] using this)) (by omega) hfit hl o3 hx1
     have hre:=hR.drew.Wt ho hlt cap' cc e hall (by simp;omega) g2 g3
     exact⟨_,_,_,.inl g4,hre,acc cap' _ _ g1 (by simp[B0.Ec]),Ext.grow ho _ (λq hq=>by simp[B0.Ec,hq]) (.inl hlt),hroomD hre⟩
 ·-- a slice
  rename_i ob n st len full hsv
  rw[hsv]at e1;simp only[VR]at e1
  split at hs
  case h_2=>cases hs
  rename_i s1 xs ro ho
  split at hs
  case isFalse=>cases hs
  rename_i hb
  obtain⟨hl,rfl,hfit⟩:=hb
  obtain⟨s2,xs2,ro2,ad,cap,ho2,hn,hst,hv,hc,hf,hnn,had⟩:=e1
  rw[ho]at ho2;injection ho2 with ho2;injection ho2 with g1 g2 g3;subst g1;subst g2;subst g3
  have holt:ob<H.length:=(Qa.1 ho).1
  obtain⟨hx1,hx2,hx3⟩:=hR.obj ho
  split at hs
  ·rename_i hy0
   simp only[Qf,Qj]at hs
   obtain⟨rfl,rfl⟩:=hs
   refine Yields.pure hR ?_ (hnone hy0 _ _ _ hv hc)
   simp only[VR]
   exact⟨_,_,_,ad,cap,ho,hn,hst,rfl,hc,hf,hnn,had⟩
  ·rename_i hy0
   have hpos:0<ys.length:=Qp.2 hy0
   obtain⟨olds,o1,o2,o3⟩:=hR.readAll ho st len (by omega)
   have hfirst:(Builtin.firstCells i.size len (.slice ad len cap)).run P w.drew= .ok olds.toArray w.drew:=by
    cases ad with
    |none=>
     have hc0:=hnn rfl
     have hl0:len=0:=by omega
     have:olds=[]:=Qd (by rw[o1,hl0];simp)
     subst this
     rw[hc0,hl0]
     exact run_firstCells_none w.drew i.size 0 0 0
    |some ad=>
     refine run_firstCells_some w.drew i.size len ad len cap olds o1 (λj u hu=> ?_)
     by_cases h0:cap=0
     ·have:olds.length=0:=by
       rw[o1];have:len=0:=by omega
       simp[this]
      have:=(Qa.1 hu).1
      omega
     ·have had':=(had hl).2 h0
      injection had' with had';subst had'
      rw[Cf]
      have:=o2 j u hu
      simpa using this
   have hxc:∀y∈(xs.drop st).take len,y.length=i.size/\y.all AH.cell=true:=λy hy=>hx1 y (Qm (Qn hy))
   have hxl:((xs.drop st).take len).length=len:=by simp;omega
   split at hs
   ·rename_i hfull
    simp only[Qf,Qj]at hs
    obtain⟨rfl,rfl⟩:=hs
    have hcap:=hf hfull
    obtain⟨cap',cc,g1,g2,g3,g4⟩:=grows ad len cap olds _ hv hfirst (by omega) hfit hxl o3 hxc
    have hpush:=hR.drew.L6 i.size cap' ((xs.drop st).take len++ys) cc e (λy hy=>(Qo.1 hy).elim (hxc y) (hyc y)) (by rw[Qr,hxl];exact g1) g2 g3
    exact⟨_,_,_,.inl g4,hpush,H3 i.size _ cap' _ (len+ys.length) false (by rw[Qr,hxl]) g1 (λh=>by cases h),Ext.push _ _ _ _ rfl,hroomD hpush⟩
   ·split at hs
    case isFalse=>cases hs
    rename_i hcond
    obtain⟨rfl,rfl,rfl⟩:=hcond
    simp only[Qf,Qj]at hs
    obtain⟨rfl,rfl⟩:=hs
    have hlt:xs.length<(xs++ys).length:=by simp;omega
    have hall:∀y∈xs++ys,y.length=i.size/\y.all AH.cell=true:=λy hy=>(Qo.1 hy).elim (hx1 y) (hyc y)
    rw[Qq,Qh (by omega)]at o3
    by_cases hroom:len+ys.length<=cap
    ·obtain⟨hcr,had'⟩:=had hl
     have had':=had' (by omega)
     subst had'
     have hr0:(σ ob).room≠0:=by omega
     obtain⟨cb,eb,fb,hblk,hcells,hown,-⟩:=hx3.resolve_left hr0
     obtain⟨hB,hoff,KC,hszb⟩:=hown rfl
     rw[hoff,QB,Qg]at hv
     have hrun:=run_append_room_src (P:=P) w t u o.type e i hu hi (σ ob).CG 0 len cap (a.eval x') ys.length news hsrc hroom ?_ ?_
     ·rw[Qg]at hrun
      refine⟨σ,_,_,.inl (fin (by rw[hv];exact hrun)),?_,?_,Ext.grow ho _ (λq hq=>rfl) (.inl hlt),IX hB _ _ _ (Kept.refl _ _)⟩
      ·have:=hR.YS ho hyc (by omega) hr0 hvn
       rw[hl]at this;exact this
      ·simp only[VR]
       exact⟨i.size,xs++ys,false,_,cap,Qb holt,by simp;omega,by omega,rfl,hroom,(λh=>by cases h),(λh=>by cases h),λ_=>⟨by omega,λ_=>by rw[hoff,QB]⟩⟩
     ·intro j hj
      have:len* i.size+j<cb.size:=by
       rw[hszb]
       calc len* i.size+j<len* i.size+ys.length* i.size:=by omega
        _=(len+ys.length)* i.size:=by rw[Qe]
        _<=(σ ob).room* i.size:=Qi _ (by omega)
      rw[cell_of_row w _ _ cb eb fb hblk];simp[this]
     ·intro j hj
      simp[World.frozen?,hblk,KC]
    ·obtain⟨cap',cc,g1,g2,g3,g4⟩:=grows ad len cap olds xs hv hfirst (by omega) hfit hl o3 hx1
     have hre:=hR.drew.Wt ho hlt cap' cc e hall (by simp;omega) g2 g3
     refine⟨_,_,_,.inl g4,hre,?_,Ext.grow ho _ (λq hq=>by simp[B0.Ec,hq]) (.inl hlt),hroomD hre⟩
     simp only[VR]
     exact⟨i.size,xs++ys,false,_,cap',Qb holt,by simp;omega,by omega,rfl,g1,(λh=>by cases h),(λh=>by cases h),λ_=>by simp[B0.Ec]⟩
 ·cases hs
end steps
end Go.Ax
