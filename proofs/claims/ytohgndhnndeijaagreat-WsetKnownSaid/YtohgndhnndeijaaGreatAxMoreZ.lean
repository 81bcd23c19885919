/- Functions as values, maps, copies tell true. Conditions: none. -/
import Derived.Test.YtohgndhnndeijaaGreatAxStrZ
import Derived.MapKept
set_option linter.all false
open List renaming getElem?_eq_some_iff -> Qa, mem_of_mem_take -> Qc, take_of_length_le -> Qd, eq_nil_of_length_eq_zero -> Qf, getElem?_map -> Qh, all_eq_true -> Qi, flatten_cons -> Qk, getElem?_set_self -> Ql, getElem?_modify -> Qn, mem_cons_of_mem -> Qo, mem_of_mem_drop -> Qp, map_cons -> Qr, mem_cons_self -> Qs, ext_getElem? -> Qv, getElem?_set -> Qw, length_cons -> Qy, getElem_mem -> Qz, length_take -> QA, mem_flatten -> QB, map_append -> QD, take -> QF, map_nil -> QH, map_set -> QI, drop -> QK
open Option.some renaming injEq -> Qb
open Prod.mk renaming injEq -> Qe
open Array renaming getElem?_eq_some_iff -> Qg, toList_modify -> Qq, toList_push -> Qt
open Nat renaming mul_le_mul_right -> Qj, min_eq_left -> Qm, zero_add -> Qu, add_zero -> Qx, add_mul -> QC, add_assoc -> QE, add_comm -> QG, one_mul -> QJ
namespace Go.Ax
open Go Go.RowKit
section steps
variable {P:Program}{B:Nat->Prop}{σ:B0}{H H':AP}{w:World}{T:List AH}{a:Act}{o:Oper}{v:AH}
theorem kI{f:FuncId}{Kj:List Av}{first caps':Array Operand}(hop:o.op= .makeFunc (.func f) first caps')(h0:first.isEmpty=true)(h1:FF Kj caps'.toList=true)
 (hs:AV T H (.YY f Kj)=some (v,H')) (hR:BL B σ H w) (hT:BQ σ H T a.tmps.toList):Yields P B σ H w (execOp a.eval o) v H':=by
 have e1:=Lr hT h1
 simp only[AV,Qb,Qe]at hs
 obtain⟨rfl,rfl⟩:=hs
 have hf:first=#[]:=Array.isEmpty_iff.1 h0
 subst hf
 refine Yields.pure hR (x:= .func (.func f) #[] (caps'.map a.eval)) ?_ ?_
 ·simp only[VR]
  exact⟨caps'.map a.eval,rfl,by simpa using e1⟩
 ·simp[execOp,hop,Instr.makeFunc]
theorem kJ{t:TypeId}(hop:o.op= .makeMap t none)
 (hs:AV T H .Pa=some (v,H')) (hR:BL B σ H w) (hT:BQ σ H T a.tmps.toList):Yields P B σ H w (execOp a.eval o) v H':=by
 simp only[AV,Qb,Qe]at hs
 obtain⟨rfl,rfl⟩:=hs
 refine⟨_,.map (some w.heap.size),w.alloc (.map #[] 0),.inl ?_,hR.push (.map []) _ 0 ⟨hR.fresh,#[],0,by show(w.heap.push _)[w.heap.size]?=_;simp,by simp,by simp⟩,?_,Ext.push _ _ _ _ rfl,GG hR.base _⟩
 ·simp[execOp,hop,Instr.makeMap]
 ·simp only[VR]
  exact⟨by simp[B0.Ec],[],by simp⟩
theorem PY{ik:IntKind}{n:Int}{kk:IntKind}:∀(es:List (AH×AH)) (ms:List MapEntry) (i:Nat) (r:Option AH),BQ σ H (es.map (·.1)) (ms.map (·.key))->BQ σ H (es.map (·.2)) (ms.map (·.val))->JJ ik n es=some r->
 (r=none/\Instr.findNow (.int kk) (.int ik n) ms i=some none/\(∀x,Jr ik n x es=es++[(.int ik n,x)]))\/
 (∃u j x e,r=some u/\Instr.findNow (.int kk) (.int ik n) ms i=some (some (i+j,x))/\VR σ H u x/\ms[j]?=some e/\e.key= .int ik n/\(∀y,Jr ik n y es=es.set j (.int ik n,y))/\j<es.length/\(∃q,es[j]?=some (.int ik n,q)))
 |[],[],i,r,_,_,h=>by simp only[JJ,Qb]at h;subst h;exact .inl ⟨rfl,rfl,λ_=>rfl⟩
 |[],_::_,_,_,h,_,_=>by simp[BQ]at h
 |_::_,[],_,_,h,_,_=>by simp[BQ]at h
 |(k0,u0)::es,m::ms,i,r,hk,hv,h=>by
  simp only[Qr,Bn]at hk hv
  cases k0 with
  |int k' q=>
   simp only[JJ]at h
   split at h
   case isFalse=>cases h
   rename_i hkk
   subst hkk
   have hk1:m.key= .int ik q:=by simpa only[VR] using hk.1
   split at h
   ·rename_i hnq
    subst hnq
    simp only[Qb]at h;subst h
    exact .inr ⟨u0,0,m.val,m,rfl,by simp[Instr.findNow,Instr.sameNow,hk1],hv.1,rfl,hk1,λy=>by simp[Jr],by simp,u0,rfl⟩
   ·rename_i hnq
    have hb:(n==q)=false:=by simpa using hnq
    rcases PY (kk:=kk) es ms (i+1) r hk.2 hv.2 h with⟨rfl,h1,h2⟩|⟨u,j,x,e,rfl,h1,h2,h3,h4,h5,h6,q',h7⟩
    ·exact .inl ⟨rfl,by simp[Instr.findNow,Instr.sameNow,hk1,hb,h1],λx=>by simp[Jr,hnq,h2]⟩
    ·exact .inr ⟨u,j+1,x,e,rfl,by simp[Instr.findNow,Instr.sameNow,hk1,hb,h1,QE,QG 1 j],h2,by simpa using h3,h4,λy=>by simp[Jr,hnq,h5],by simpa using h6,q',by simpa using h7⟩
  |_=>simp[JJ]at h
theorem kM{zero:AH}{x k:Av}{x' k':Operand}{t kt e:TypeId}{kk:IntKind}(hop:o.op= .lookup t x' k' false)(h1:BE x x'=true)(h2:BE k k'=true)(hu:P.underlying t=some (.map kt e))(hk:P.underlying kt=some (.int kk))
 (hz:Uc P e zero=true)
 (hs:AV T H (.Wb zero x k)=some (v,H')) (hR:BL B σ H w) (hT:BQ σ H T a.tmps.toList):Yields P B σ H w (execOp a.eval o) v H':=by
 have e1:=Bi hT h1
 have e2:=Bi hT h2
 unfold Uc at hz
 split at hz
 case h_2=>cases hz
 rename_i i hi
 split at hz
 case h_2=>cases hz
 rename_i z hiz
 have hzr:VR σ H zero z:=Po hz
 have hz0:(zeroValue e).run P w= .ok z w:=by simp[zeroValue,typeInfo,hi,hiz]
 have hck:∀(b:Bool) (n:Int) (ik:IntKind),(Instr.checkKey b 10000 kt (.int ik n)).run P w= .ok () w:=λb n ik=>by
  unfold Instr.checkKey
  simp only[Sem.run_bind,run_underlying hk,Result.andThen]
  simp
 simp only[AV]at hs
 split at hs
 case h_2=>cases hs
 rename_i ik n hkv
 rw[hkv]at e2;simp only[VR]at e2
 split at hs
 ·rename_i ob hx
  rw[hx]at e1;simp only[VR]at e1
  obtain⟨e1,-⟩:=e1
  split at hs
  case h_2=>cases hs
  rename_i es ho
  obtain⟨hB,ms,clock,hb,hks,hvs⟩:=hR.obj ho
  split at hs
  ·rename_i u hm
   simp only[Qb,Qe]at hs;obtain⟨rfl,rfl⟩:=hs
   rcases PY (kk:=kk) es ms.toList 0 _ hks hvs hm with⟨h,-⟩|⟨u',j,y,en,hu',h3,h4,-⟩
   ·cases h
   ·injection hu' with hu';subst hu'
    refine Yields.pure hR h4 ?_
    simp[execOp,hop,e1,e2,Instr.lookup,run_underlying hu,MapKept.run_getObj_map hb,hck,MapKept.run_findKey hk h3]
  ·rename_i hm
   simp only[Qb,Qe]at hs;obtain⟨rfl,rfl⟩:=hs
   rcases PY (kk:=kk) es ms.toList 0 _ hks hvs hm with⟨-,h3,-⟩|⟨u',j,y,en,hu',-⟩
   ·refine Yields.pure hR hzr ?_
    simp[execOp,hop,e1,e2,Instr.lookup,run_underlying hu,MapKept.run_getObj_map hb,hck,MapKept.run_findKey hk h3,hz0]
   ·cases hu'
  ·cases hs
 ·rename_i hx
  rw[hx]at e1;simp only[VR]at e1
  simp only[Qb,Qe]at hs;obtain⟨rfl,rfl⟩:=hs
  have h3:Instr.findNow (.int kk) (.int ik n) [] 0=some none:=rfl
  refine Yields.pure hR hzr ?_
  simp[execOp,hop,e1,e2,Instr.lookup,run_underlying hu,hck,MapKept.run_findKey hk h3,hz0]
 ·cases hs
theorem kN{x k y:Av}{x' k' y':Operand}{t kt e:TypeId}{kk:IntKind}(hop:o.op= .mapUpdate t x' k' y')(h1:BE x x'=true)(h2:BE k k'=true)(h3:BE y y'=true)(hu:P.underlying t=some (.map kt e))(hk:P.underlying kt=some (.int kk))
 (hs:AV T H (.ZR x k y)=some (v,H')) (hR:BL B σ H w) (hT:BQ σ H T a.tmps.toList):Yields P B σ H w (execOp a.eval o) v H':=by
 have e1:=Bi hT h1
 have e2:=Bi hT h2
 have e3:=Bi hT h3
 have hck:∀(b:Bool) (n:Int) (ik:IntKind),(Instr.checkKey b 10000 kt (.int ik n)).run P w= .ok () w:=λb n ik=>by
  unfold Instr.checkKey
  simp only[Sem.run_bind,run_underlying hk,Result.andThen]
  simp
 simp only[AV]at hs
 split at hs
 case h_2=>cases hs
 rename_i ob ik n hx hkv
 rw[hx]at e1;simp only[VR]at e1
 rw[hkv]at e2;simp only[VR]at e2
 obtain⟨e1,-⟩:=e1
 split at hs
 case h_2=>cases hs
 rename_i es ho
 have hrel:=hR.obj ho
 obtain⟨hB,ms,clock,hb,hks,hvs⟩:=hrel
 split at hs
 case h_2=>cases hs
 rename_i r hm
 split at hs
 case isFalse=>cases hs
 rename_i hc
 simp only[Qb,Qe]at hs;obtain⟨rfl,rfl⟩:=hs
 have hal:Alike H (H.set ob (.map (Jr ik n (Bm T y) es))):=by
  refine⟨by simp,λq=> ?_⟩
  by_cases hq:ob=q
  ·subst hq
   have:ob<H.length:=(Qa.1 ho).1
   rw[ho,Ql this];trivial
  ·rw[List.getElem?_set_ne hq]
   cases H[q]? with
   |none=>trivial
   |some x=>cases x<;>simp
 have hext:=hal.ext σ
 have hlt:(σ ob).CG<w.heap.size:=(Qg.1 hb).1
 -- what stands in the map behind it
 have main:∃ms' clock',(execOp a.eval o).run P w= .ok .skip {w with heap:=w.heap.setIfInBounds (σ ob).CG (.map ms' clock')}/\
  BQ σ H ((Jr ik n (Bm T y) es).map (·.1)) (ms'.toList.map (·.key))/\BQ σ H ((Jr ik n (Bm T y) es).map (·.2)) (ms'.toList.map (·.val)):=by
  rcases PY (kk:=kk) es ms.toList 0 _ hks hvs hm with⟨-,h4,h5⟩|⟨u',j,yv,en,-,h4,-,h6,h7,h5,h8,q,h9⟩
  ·refine⟨ms.push {key:= .int ik n,val:=a.eval y',born:=clock},clock+1,?_,?_,?_⟩
   ·simp[execOp,hop,e1,e2,Instr.mapUpdate,run_underlying hu,MapKept.run_getObj_map hb,hck,MapKept.run_findKey hk h4,MapKept.run_setObj_map _ hb]
   ·rw[h5];simp only[QD,Qr,QH,Qt]
    exact hks.append (by rw[Bn];exact⟨by simp[VR],by simp⟩)
   ·rw[h5];simp only[QD,Qr,QH,Qt]
    exact hvs.append (by rw[Bn];exact⟨e3,by simp⟩)
  ·have hj:ms[j]?=some en:=by rw[<-Array.getElem?_toList];exact h6
   refine⟨ms.modify j λe=>{e with key:= .int ik n,val:=a.eval y'},clock,?_,?_,?_⟩
   ·have hst:(Instr.keyThatStays en.key (.int ik n)).run P w= .ok (.int ik n) w:=by
     rw[h7];simp[Instr.keyThatStays,Instr.sameBits]
    rw[Qu]at h4
    simp[execOp,hop,e1,e2,Instr.mapUpdate,run_underlying hu,MapKept.run_getObj_map hb,hck,MapKept.run_findKey hk h4,MapKept.run_setObj_map _ hb,hj,hst]
   ·rw[h5]
    have:(ms.modify j λe=>{e with key:= .int ik n,val:=a.eval y'}).toList.map (·.key)=(ms.toList.map (·.key)).set j (.int ik n):=by
     apply Qv
     intro q
     rw[Qq,Qh,Qn,Qw,Qh]
     by_cases e:j=q
     ·subst e;simp[(Qg.1 hj).1]
     ·simp[e]
    rw[this,QI]
    exact hks.set j (by simp[VR])
   ·rw[h5]
    have:(ms.modify j λe=>{e with key:= .int ik n,val:=a.eval y'}).toList.map (·.val)=(ms.toList.map (·.val)).set j (a.eval y'):=by
     apply Qv
     intro q
     rw[Qq,Qh,Qn,Qw,Qh]
     by_cases e:j=q
     ·subst e;simp[(Qg.1 hj).1]
     ·simp[e]
    rw[this,QI]
    exact hvs.set j e3
 obtain⟨ms',clock',hrun,hk',hv'⟩:=main
 refine⟨σ,undef,_,.inr ⟨hrun,rfl⟩,?_,by simp[VR],hext,?_⟩
 ·refine hR.update ho rfl rfl hB hal (λq hq=>by simp[Ne.symm hq]) (by simp) ⟨hB,ms',clock',by simp[hlt],hk'.ext hext,hv'.ext hext⟩
 ·exact⟨rfl,rfl,rfl,by simp,λq hq=>by
   have:q≠(σ ob).CG:=λe=>hB (e▸hq)
   simp[Ne.symm this]⟩
theorem Su{α:Type}(s:Nat):∀(xs:List (List α)) (m:Nat),(∀x∈xs,x.length=s)->(xs.take m).flatten=xs.flatten.take (m* s)
 |[],m,_=>by simp
 |x::xs,0,_=>by simp
 |x::xs,m+1,h=>by
  have hx:=h x Qs
  rw[List.take_succ_cons,Qk,Qk,Su s xs m (λy hy=>h y (Qo _ hy)),List.take_append]
  have e:(m+1)* s=m* s+s:=by rw[QC,QJ]
  rw[Qd (by omega:x.length<=(m+1)* s),hx,e,Nat.add_sub_cancel]
theorem io{size:Nat}{A:AH}{X:Value}{ys:List (List AH)}(h:BL B σ H w)(hX:VR σ H A X)(hns:∀s,A≠ .str s)(ht:Ds H size A=some ys):
 ∃(base:Option Addr) (cap:Nat) (news:List Value),X= .slice base ys.length cap/\(base=none->ys=[])/\(∀ad,base=some ad->∀j u,news[j]?=some u->w.cell? (ad.add j)=some u)/\BQ σ H ys.flatten news/\(∀y∈ys,y.length=size/\y.all AH.cell=true):=by
 unfold Ds at ht
 split at ht
 ·rename_i ob n st len full
  split at ht
  case h_2=>cases ht
  rename_i s xs ro ho
  split at ht
  case isFalse=>cases ht
  rename_i hb
  obtain⟨hl,rfl⟩:=hb
  injection ht with ht;subst ht
  simp only[VR]at hX
  obtain⟨s',xs',ro',ad,cap,ho',hn,hst,hv,hc,hf,hnn,ha⟩:=hX
  rw[ho]at ho';injection ho' with ho';injection ho' with g1 g2 g3;subst g1;subst g2;subst g3
  obtain⟨hx1,hx2,-⟩:=h.obj ho
  obtain⟨news,h1,h2,h3⟩:=h.readAll ho st len (by omega)
  have hyl:((xs.drop st).take len).length=len:=by simp;omega
  refine⟨ad,cap,news,by rw[hyl];exact hv,λe=> ?_,λad' e j u hu=> ?_,h3,λy hy=>hx1 y (Qp (Qc hy))⟩
  ·have:=hnn e
   have hl0:len=0:=by omega
   subst hl0;simp
  ·by_cases h0:cap=0
   ·have:news.length=0:=by
     rw[h1];have:len=0:=by omega
     simp[this]
    have:=(Qa.1 hu).1
    omega
   ·have had:=(ha hl).2 h0
    rw[e]at had;injection had with had;subst had
    rw[Cf];exact h2 j u hu
 ·rename_i ob n
  split at ht
  case h_2=>cases ht
  rename_i s xs ro ho
  split at ht
  case isFalse=>cases ht
  rename_i hb
  obtain⟨hl,rfl⟩:=hb
  injection ht with ht;subst ht
  simp only[VR]at hX
  obtain⟨s',xs',ro',ho',hn,h0,hX⟩:=hX
  rw[ho]at ho';injection ho' with ho';injection ho' with g1 g2 g3;subst g1;subst g2;subst g3
  obtain⟨hx1,hx2,-⟩:=h.obj ho
  by_cases hz:n=0
  ·have:xs=[]:=Qf (by omega)
   subst this
   exact⟨none,0,[],h0 hz,λ_=>rfl,(λ_ e=>by cases e),by simp,λ_ hh=>by cases hh⟩
  ·obtain⟨ad,cap,hv,hc,ha⟩:=hX hz
   obtain⟨news,h1,h2,h3⟩:=h.readAll ho 0 n (by omega)
   rw[List.drop_zero,Qd (by omega)]at h3
   refine⟨some ad,cap,news,by rw[hl];exact hv,(λe=>by cases e),λad' e j u hu=> ?_,h3,hx1⟩
   injection e with e;subst e
   rw[(ha hl).2,Cf]
   have:=h2 j u hu
   simpa using this
 ·rename_i ob n i j len
  split at ht
  case h_2=>cases ht
  rename_i s xs ro ho
  split at ht
  case isFalse=>
   split at ht
   case isFalse=>cases ht
   rename_i hl0
   injection ht with ht;subst ht;subst hl0
   simp only[VR]at hX
   obtain⟨s',xs',ro',ad,cap,ho',hn,hv,hc,ha⟩:=hX
   exact⟨some ad,cap,[],hv,(λe=>by cases e),λad' e j u hu=>by simp at hu,by simp,λy hy=>by cases hy⟩
  rename_i hb
  obtain⟨hl,rfl⟩:=hb
  split at ht
  case h_2=>cases ht
  rename_i x hx
  injection ht with ht;subst ht
  simp only[VR]at hX
  obtain⟨s',xs',ro',ad,cap,ho',hn,hv,hc,ha⟩:=hX
  rw[ho]at ho';injection ho' with ho';injection ho' with g1 g2 g3;subst g1;subst g2;subst g3
  obtain⟨hx1,hx2,-⟩:=h.obj ho
  have hxl:=(hx1 x (List.mem_of_getElem? hx))
  obtain⟨hi,hjc,had⟩:=ha hl
  obtain⟨news,h1,h2,h3⟩:=h.read ho hx j len (by omega)
  have hfl:(List.map (λa=>[a]) (QF len (QK j x))).flatten=(x.drop j).take len:=by
   generalize QF len (QK j x)=l
   induction l with
   |nil=>rfl
   |cons y l ih=>simp[ih]
  refine⟨some ad,cap,news,?_,(λe=>by cases e),λad' e k u hu=> ?_,by rw[hfl];exact h3,λy hy=> ?_⟩
  ·rw[hv];congr 1;simp;omega
  ·injection e with e;subst e
   by_cases h0:cap=0
   ·have:=(Qa.1 hu).1
    omega
   ·rw[had h0,Cf];exact h2 k u hu
  ·obtain⟨z,hz,rfl⟩:=List.mem_map.1 hy
   refine⟨rfl,?_⟩
   have:=(Qi.1 hxl.2) z (Qp (Qc hz))
   simp[this]
 ·injection ht with ht;subst ht
  simp only[VR]at hX
  exact⟨none,0,[],hX,λ_=>rfl,(λ_ e=>by cases e),by simp,λ_ hh=>by cases hh⟩
 ·rename_i s;exact absurd rfl (hns s)
 ·cases ht
theorem Kh(b:Nat):∀(xs ys:List Value) (k:Nat) (w:World),w.setCells b k (xs++ys)=(w.setCells b k xs).setCells b (k+xs.length) ys
 |[],ys,k,w=>by simp[World.setCells]
 |x::xs,ys,k,w=>by
  simp only[List.cons_append,World.setCells,Qy]
  rw[Kh b xs ys (k+1),QE,QG 1 xs.length]
theorem BL.Ta{ob s:Nat}:∀(ys:List (List AH)) (cs:List Value) {H:AP} {w:World} {xs:List (List AH)} (i:Nat),BL B σ H w->H[ob]?=some (.AU s xs false)->i+ys.length<=xs.length->
 (∀y∈ys,y.length=s/\y.all AH.cell=true)->BQ σ H ys.flatten cs->BL B σ (H.set ob (.AU s (Fh xs i ys) false)) (w.setCells (σ ob).CG (i* s) cs)
 |[],cs,H,w,xs,i,h,ho,_,_,hv=>by
  have:cs=[]:=Qf (by rw[<-hv.length];rfl)
  subst this
  have e2:H.set ob (.AU s xs false)=H:=by
   obtain⟨hl,hh⟩:=Qa.1 ho;rw[<-hh];simp
  simpa [Fh,e2,World.setCells] using h
 |y::ys,cs,H,w,xs,i,h,ho,hi,hy,hv=>by
  simp only[Qy]at hi
  obtain⟨hyl,hyc⟩:=hy y Qs
  rw[Qk]at hv
  have hcs:cs=cs.take s++cs.drop s:=(List.take_append_drop s cs).symm
  have hv1:=hv.take s
  have hv2:=hv.drop s
  rw[List.take_append_of_le_length (by omega),Qd (by omega)]at hv1
  rw[List.drop_append_of_le_length (by omega),List.drop_of_length_le (by omega),List.nil_append]at hv2
  have hilt:i<xs.length:=by omega
  obtain⟨hx1,hx2,hx3⟩:=h.obj ho
  have hxl:=(hx1 _ (Qz hilt)).1
  have hw:=h.write y (cs.take s) 0 ho (List.getElem?_eq_getElem hilt) (by omega) hv1 hyc
  have hput:putAt xs[i] 0 y=y:=by
   rw[LR _ _ _ (by omega)];simp[hxl,hyl]
  rw[hput,Qx]at hw
  have hal:Alike H (H.set ob (.AU s (xs.set i y) false)):=Alike.Mk ho (by simp)
  have holt:ob<H.length:=(Qa.1 ho).1
  have hrec:=BL.Ta ys (cs.drop s) (xs:=xs.set i y) (i+1) hw (Ql holt) (by simp;omega) (λz hz=>hy z (Qo _ hz)) (hv2.ext (hal.ext σ))
  rw[List.set_set]at hrec
  have hlen:(cs.take s).length=s:=by
   have:=hv1.length;omega
  rw[hcs,Kh,Fh,hlen]
  rw[QC,QJ]at hrec
  exact hrec
theorem LS:∀(ys xs:List (List AH)) (i:Nat),(Fh xs i ys).length=xs.length
 |[],_,_=>rfl
 |y::ys,xs,i=>by rw[Fh,LS ys];simp
theorem iv{size:Nat}{d s:Av}{d' s':Operand}{t u e e2:TypeId}{i:TypeInfo}{c:Call}(hop:o.op= .call c)(hc:c.callee= .builtin .copy)(ha:c.args.toList=[d',s'])(hat:c.argTypes.toList=[t,u])
 (h1:BE d d'=true) (h2:BE s s'=true) (hu:P.underlying t=some (.slice e)) (hi:P.info? e=some i) (hsz:i.size=size) (hu2:P.underlying u=some (.slice e2)) (hs0:size≠0)
 (hs:AV T H (.aC size d s)=some (v,H')) (hR:BL B σ H w) (hT:BQ σ H T a.tmps.toList):Yields P B σ H w (execOp a.eval o) v H':=by
 have e1:=Bi hT h1
 have e3:=Bi hT h2
 obtain⟨callee,args,argTypes⟩:=c
 simp only at hc ha hat
 subst hc
 obtain rfl:args=#[d',s']:=by cases args;simp_all
 obtain rfl:argTypes=#[t,u]:=by cases argTypes;simp_all
 simp only[AV]at hs
 split at hs
 case h_1=>cases hs
 rename_i ys hys
 have hns:∀q,Bm T s≠ .str q:=λq hq=>by rw[hq]at hys;simp[Gv]at hys
 have hys':Ds H size (Bm T s)=some ys:=by
  unfold Gv at hys
  split at hys
  ·cases hys
  ·exact hys
 obtain⟨base,cap,news,hX,hbn,hread,hvn,hyc⟩:=io hR e3 hns hys'
 have hyl:=ED size ys (λy hy=>(hyc y hy).1)
 have hnl:news.length=ys.length* size:=by rw[<-hvn.length,hyl]
 -- the cells that are copied
 have hmin:∀len,min ys.length len* size<=news.length:=λlen=>by rw[hnl];exact Qj _ (Nat.min_le_left _ _)
 have hfirst:∀len,(Builtin.firstCells size (min ys.length len) (.slice base ys.length cap)).run P w= .ok (news.take (min ys.length len* size)).toArray w:=by
  intro len
  cases base with
  |none=>
   have:=hbn rfl;subst this
   have KD:news=[]:=Qf (by rw[hnl];simp)
   subst KD
   simpa using run_firstCells_none (P:=P) w size (min ([]:List (List AH)).length len) ([]:List (List AH)).length cap
  |some ad=>
   refine run_firstCells_some w size _ ad _ cap _ (by rw[QA,Qm (hmin len)]) (λj q hq=>hread ad rfl j q ?_)
   rw[List.getElem?_take]at hq
   split at hq
   ·exact hq
   ·cases hq
 have hvt:∀len,BQ σ H (ys.take len).flatten (news.take (min ys.length len* size)):=by
  intro len
  rw[Su size ys len (λy hy=>(hyc y hy).1)]
  have:ys.flatten.take (len* size)=ys.flatten.take (min ys.length len* size):=by
   rcases Nat.le_total ys.length len with h|h
   ·rw[Qm h,Qd (by rw[hyl];exact Qj _ h),Qd (by rw[hyl];exact Nat.le_refl _)]
   ·rw[Nat.min_eq_right h]
  rw[this]
  exact hvn.take _
 have one:∀len,∀q∈news.take (min ys.length len* size),q.oneCell'=true:=by
  intro len q hq
  have hq':=Qc hq
  obtain⟨k,hk,rfl⟩:=List.mem_iff_getElem.1 hq'
  have hl:=hvn.length
  have hmem:=Qz (l:=ys.flatten) (n:=k) (by omega)
  obtain⟨y,hy1,hy2⟩:=QB.1 hmem
  have hcell:=(Qi.1 (hyc y hy1).2) _ hy2
  have:=((H4.1 hvn).2 k (by omega) hk).L3 hcell
  revert this
  cases news[k]<;>simp[Oh,Value.oneCell']
 -- the run
 have fin:∀(ad:Option Addr) (len dcap:Nat) (w':World),a.eval d'= .slice ad len dcap->(match ad with|some q=>(storeCells q (news.take (min ys.length len* size))).run P w= .ok () w'|none=>w'=w)->
  (execOp a.eval o).run P w= .ok (.value (.int .i64 (min ys.length len))) w':=by
  intro ad len dcap w' hd hst
  have hmm:Nat.min ys.length len=min ys.length len:=rfl
  cases ad with
  |none=>
   simp only at hst;subst hst
   simp[execOp,hop,resolve,invoke,builtin,Builtin.copy_,run_underlying hu,hd,hX,Builtin.lenOf,sizeOf,typeInfo,hi,hsz,hmm,hfirst len,goInt]
   omega
  |some q=>
   simp only at hst
   simp[execOp,hop,resolve,invoke,builtin,Builtin.copy_,run_underlying hu,hd,hX,Builtin.lenOf,sizeOf,typeInfo,hi,hsz,hmm,hfirst len,hst,goInt]
   omega
 have Az:∀(b k:Nat) (vs:List Value),¬B b->Kept B w (w.setCells b k vs):=by
  intro b k vs hb
  have:∀(vs:List Value) (k:Nat) (w1:World),Kept B w w1->Kept B w (w1.setCells b k vs):=by
   intro vs
   induction vs with
   |nil=>intro k w1 h;exact h
   |cons u vs ih=>intro k w1 h;exact ih _ _ (h.setCell (p:=⟨b,k,none⟩) hb u)
  exact this vs k w (Kept.refl _ _)
 split at hs
 ·rename_i ob n ii j len hx
  rw[hx]at e1;simp only[VR]at e1
  split at hs
  case h_2=>cases hs
  rename_i s1 xs ho
  split at hs
  case isFalse=>cases hs
  rename_i hb
  obtain⟨hl,rfl,hjl⟩:=hb
  split at hs
  case h_2=>cases hs
  rename_i x0 hx0
  simp only[Qb,Qe]at hs;obtain⟨rfl,rfl⟩:=hs
  obtain⟨s2,xs2,ro2,ad,dcap,ho2,hn,hv,hc,had⟩:=e1
  rw[ho]at ho2;injection ho2 with ho2;injection ho2 with g1 g2 g3;subst g1;subst g2;subst g3
  obtain⟨hin,hjc,had⟩:=had hl
  have hilt:ii<xs.length:=(Qa.1 hx0).1
  obtain⟨q1,q2,q3⟩:=hR.obj ho
  obtain⟨cb,eb,fb,hblk,hcells,hown,-⟩:=q3.resolve_left (by omega)
  obtain⟨hB,hoff,KC,hszb⟩:=hown rfl
  have hyt:=hvt len
  have hlen:=hyt.length
  have hyfl:(ys.take len).flatten.length<=len:=by
   rw[ED 1 _ (λy hy=>(hyc y (Qc hy)).1)];simp;omega
  have hcellt:(ys.take len).flatten.all AH.cell=true:=by
   rw[Qi]
   intro z hz
   obtain⟨y,hy1,hy2⟩:=QB.1 hz
   exact(Qi.1 (hyc y (Qc hy1)).2) z hy2
  by_cases hd0:dcap=0
  ·have hl0:len=0:=by omega
   subst hl0
   have hset:H.set ob (.AU s1 (xs.set ii (putAt x0 j (QF 0 ys).flatten)) false)=H:=by
    have e1:xs.set ii x0=xs:=by
     obtain⟨hl,rfl⟩:=Qa.1 hx0;simp
    obtain⟨hl,hh⟩:=Qa.1 ho
    simp[e1,<-hh]
   rw[hset]
   refine Yields.pure hR (x:= .int .i64 (min ys.length 0)) (by simp[VR]) ?_
   have:=fin (some ad) 0 dcap w hv (by simp[storeCells])
   simpa using this
  ·have had:=had hd0
   rw[hoff,Qu]at had
   subst had
   have DS:=hR.there ho hilt j (ys.take len).flatten.length (by omega)
   have hst:=run_storeCells_cells (P:=P) (σ ob).CG (ii* s1+j) (news.take (min ys.length len* 1)) 0 w (λk hk=>by simpa using(DS k (by omega)).1) (λk hk=>by simpa using(DS k (by omega)).2) (one len)
   simp only[Qx]at hst
   refine⟨σ,.int .i64 (min ys.length len),_,.inl (fin _ len dcap _ hv hst),hR.write _ _ j ho hx0 (by omega) hyt hcellt,by simp[VR],(Alike.Mk ho (by simp)).ext σ,Az _ _ _ hB⟩
 ·rename_i ob n st len full hx
  rw[hx]at e1;simp only[VR]at e1
  split at hs
  case h_2=>cases hs
  rename_i s1 xs ho
  split at hs
  case isFalse=>cases hs
  rename_i hb
  obtain⟨hl,rfl⟩:=hb
  simp only[Qb,Qe]at hs;obtain⟨rfl,rfl⟩:=hs
  obtain⟨s2,xs2,ro2,ad,dcap,ho2,hn,hst,hv,hc,hf,hnn,had⟩:=e1
  rw[ho]at ho2;injection ho2 with ho2;injection ho2 with g1 g2 g3;subst g1;subst g2;subst g3
  obtain⟨hroom,had⟩:=had hl
  by_cases hd0:len=0\/ys=[]
  ·have hyn:ys.take len=[]:=by rcases hd0 with rfl|rfl<;>simp
   have hmin0:min ys.length len=0:=by rcases hd0 with rfl|rfl<;>simp
   have hset:H.set ob (.AU s1 (Fh xs st (ys.take len)) false)=H:=by
    obtain⟨hl,hh⟩:=Qa.1 ho
    rw[hyn];simp[Fh,<-hh]
   rw[hset]
   refine Yields.pure hR (x:= .int .i64 (min ys.length len)) (by simp[VR]) ?_
   have:=fin ad len dcap w hv (by rw[hmin0];cases ad<;>simp[storeCells])
   simpa using this
  ·have hl0:len≠0:=λh=>hd0 (.inl h)
   have had:=had (by omega)
   subst had
   obtain⟨q1,q2,q3⟩:=hR.obj ho
   obtain⟨cb,eb,fb,hblk,hcells,hown,-⟩:=q3.resolve_left (by omega)
   obtain⟨hB,hoff,KC,hszb⟩:=hown rfl
   rw[hoff,Qu]at hv
   have hyt:=hvt len
   have hlt:(news.take (min ys.length len* s1)).length=min ys.length len* s1:=by rw[QA,Qm (hmin len)]
   have DS:∀k,k<min ys.length len* s1->(w.cell? ⟨(σ ob).CG,st* s1+k,none⟩).isSome=true/\w.frozen? ⟨(σ ob).CG,st* s1+k,none⟩=false:=by
    intro k hk
    have:st* s1+k<cb.size:=by
     rw[hszb]
     calc st* s1+k<st* s1+min ys.length len* s1:=by omega
      _=(st+min ys.length len)* s1:=by rw[QC]
      _<=(σ ob).room* s1:=Qj _ (by omega)
    exact⟨by rw[cell_of_row w _ _ cb eb fb hblk];simp[this],by simp[World.frozen?,hblk,KC]⟩
   have hstc:=run_storeCells_cells (P:=P) (σ ob).CG (st* s1) (news.take (min ys.length len* s1)) 0 w (λk hk=>by simpa using(DS k (by omega)).1) (λk hk=>by simpa using(DS k (by omega)).2) (one len)
   simp only[Qx]at hstc
   refine⟨σ,.int .i64 (min ys.length len),_,.inl (fin _ len dcap _ hv hstc),hR.Ta (ys.take len) _ st ho (by simp;omega) (λy hy=>hyc y (Qc hy)) hyt,by simp[VR],(Alike.Mk ho (by rw[LS])).ext σ,Az _ _ _ hB⟩
 ·cases hs
end steps
end Go.Ax
