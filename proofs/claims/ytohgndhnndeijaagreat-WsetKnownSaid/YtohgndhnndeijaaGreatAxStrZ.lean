/- Ranging over a string, slicing, the greatest of numbers, conversions: each tells true. Conditions: none. -/
import Derived.Test.YtohgndhnndeijaaGreatAxAppZ
set_option linter.all false
open Nat renaming le_refl -> Qa, add_assoc -> Qf, mul_one -> Qj, add_mul -> Qk
open Option.some renaming injEq -> Qb
open Array renaming getElem?_setIfInBounds_ne -> Qc
open List renaming getElem?_set_ne -> Qd, getElem?_eq_some_iff -> Qe, getElem?_set_self -> Qh
open Bool renaming and_eq_true -> Qg, false_eq_true -> Qi
namespace Go.Ax
open Go Go.RowKit
section steps
variable {P:Program}{B:Nat->Prop}{σ:B0}{H H':AP}{w:World}{T:List AH}{a:Act}{o:Oper}{v:AH}
theorem BL.update(h:BL B σ H w){ob:Nat}{y y':Au}(ho:H[ob]?=some y)(hown:y.DB (σ ob)=true)(hown':y'.DB (σ ob)=true)(hB:¬B (σ ob).CG)(hal:Alike H (H.set ob y')){w':World}
 (hw:∀k,k≠(σ ob).CG->w'.heap[k]?=w.heap[k]?) (hsz:w'.heap.size=w.heap.size) (hy':JX σ (H.set ob y') B w' (σ ob) y'):BL B σ (H.set ob y') w':=by
 have holt:ob<H.length:=(Qe.1 ho).1
 have hext:=hal.ext σ
 refine⟨?_,?_,λk hk=>by rw[hsz];exact h.base k hk⟩
 ·intro q z hq
  by_cases e1:ob=q
  ·subst e1
   rw[Qh holt]at hq
   injection hq with hq;subst hq
   exact hy'
  ·rw[Qd e1]at hq
   have hrel:=h.obj hq
   by_cases hbb:(σ q).CG=(σ ob).CG
   ·by_cases hz:z.DB (σ q)=true
    ·exact absurd (h.apart hq ho hz hown hbb) (Ne.symm e1)
    ·cases z with
     |AU s xs ro=>
      obtain⟨k1,k2,k3⟩:=hrel
      by_cases hrr:(σ q).room=0
      ·exact⟨k1,k2,.inl hrr⟩
      ·exfalso
       obtain⟨c,e,fr,hb,_,ho1,ho2⟩:=k3.resolve_left hrr
       cases ro with
       |true=>exact hB (hbb▸ho2 rfl)
       |false=>simp[Au.DB,hrr]at hz
     |map es=>simp[Au.DB]at hz
     |iter s p=>simp[Au.DB]at hz
     |A1=>trivial
   ·exact hrel.ext hext (hw _ hbb)
 ·intro p p' z z' hp hp' hz hz' hbb
  have back:∀{q:Nat} {z:Au},(H.set ob y')[q]?=some z->z.DB (σ q)=true->∃z':Au,H[q]?=some z'/\z'.DB (σ q)=true:=by
   intro q z hq hz
   by_cases hop:ob=q
   ·subst hop;exact⟨_,ho,hown⟩
   ·rw[Qd hop]at hq
    exact⟨z,hq,hz⟩
  obtain⟨u,hu,hu1⟩:=back hp hz
  obtain⟨u',hu',hu1'⟩:=back hp' hz'
  exact h.apart hu hu' hu1 hu1' hbb
theorem Alike.Vi{ob:Nat}{s s':List UInt8}{p p':Nat}(ho:H[ob]?=some (.iter s p)):Alike H (H.set ob (.iter s' p')):=by
 refine⟨by simp,λq=> ?_⟩
 by_cases hq:ob=q
 ·subst hq
  have:ob<H.length:=(Qe.1 ho).1
  rw[ho,Qh this];trivial
 ·rw[Qd hq]
  cases H[q]? with
  |none=>trivial
  |some x=>cases x<;>simp
theorem s_rng{x:Av}{x':Operand}{t:TypeId}(hop:o.op= .range t x')(h1:BE x x'=true)(hu:P.underlying t=some .string)
 (hs:AV T H (.Yg x)=some (v,H')) (hR:BL B σ H w) (hT:BQ σ H T a.tmps.toList):Yields P B σ H w (execOp a.eval o) v H':=by
 have e1:=Bi hT h1
 simp only[AV]at hs
 split at hs
 case h_2=>cases hs
 rename_i s hx
 rw[hx]at e1;simp only[VR]at e1
 injection hs with hs;injection hs with q1 q2;subst q1;subst q2
 refine⟨_,.pointer (some ⟨w.heap.size,0,none⟩),w.alloc (.stringIter ⟨s.toArray⟩ 0),.inl ?_,hR.push (.iter s 0) _ 0 ⟨hR.fresh,by show(w.heap.push _)[w.heap.size]?=_;simp⟩,?_,Ext.push _ _ _ _ rfl,GG hR.base _⟩
 ·simp[execOp,hop,e1,Instr.range,run_underlying hu]
 ·simp only[VR]
  exact⟨by simp[B0.Ec],s,0,by simp⟩
theorem kV{x:Av}{x':Operand}{st:Bool}(hop:o.op= .next x' st)(h1:BE x x'=true)(hst:st=true)
 (hs:AV T H (.Ya x)=some (v,H')) (hR:BL B σ H w) (hT:BQ σ H T a.tmps.toList):Yields P B σ H w (execOp a.eval o) v H':=by
 subst hst
 have e1:=Bi hT h1
 simp only[AV]at hs
 split at hs
 case h_2=>cases hs
 rename_i ob hx
 rw[hx]at e1;simp only[VR]at e1
 obtain⟨hv,-⟩:=e1
 split at hs
 case h_2=>cases hs
 rename_i s pos ho
 have hrel:=hR.obj ho
 obtain⟨hB,hb⟩:=hrel
 have hlt:(σ ob).CG<w.heap.size:=by
  rcases Nat.lt_or_ge (σ ob).CG w.heap.size with h'|h'
  ·exact h'
  ·rw[Array.getElem?_eq_none h']at hb;cases hb
 have hg:(getObj (σ ob).CG).run P w= .ok (.stringIter ⟨s.toArray⟩ pos) w:=by simp only[getObj,Sem.run,hb]
 have hst:∀q,(setObj (σ ob).CG q).run P w= .ok () {w with heap:=w.heap.setIfInBounds (σ ob).CG q}:=λq=>by simp only[setObj,Sem.run,hb]
 split at hs
 ·rename_i hp
  injection hs with hs;injection hs with q1 q2;subst q1;subst q2
  refine⟨σ,.tuple #[.bool true,.int .i64 pos,.int .i32 (Utf8.decode ⟨s.toArray⟩ pos).1],{w with heap:=w.heap.setIfInBounds (σ ob).CG (.stringIter ⟨s.toArray⟩ (pos+(Utf8.decode ⟨s.toArray⟩ pos).2))},.inl ?_,
   hR.update ho rfl rfl hB (Alike.Vi ho) (λk hk=> ?_) (by simp) ⟨hB,by simp[hlt]⟩,?_,(Alike.Vi ho).ext σ,?_⟩
  ·have hp':pos<(⟨s.toArray⟩:ByteArray).size:=hp
   simp[execOp,hop,hv,Instr.next,hg,hst,hp',goInt]
  ·rw[Qc (Ne.symm hk)]
  ·simp only[VR]
   exact⟨_,rfl,by simp[Bn,VR]⟩
  ·exact⟨rfl,rfl,rfl,by simp,λk hk=>by simp only;rw[Qc (λe:(σ ob).CG=k=>hB (e▸hk))]⟩
 ·rename_i hp
  injection hs with hs;injection hs with q1 q2;subst q1;subst q2
  refine Yields.pure hR (x:= .tuple #[.bool false]) (by simp only[VR];exact⟨_,rfl,by simp[Bn,VR]⟩) ?_
  have hp':¬pos<(⟨s.toArray⟩:ByteArray).size:=hp
  simp[execOp,hop,hv,Instr.next,hg,hp']
theorem iw{k:IntKind}{x:Av}{x':Operand}{s d:TypeId}{ds:TypeDesc}(hop:o.op= .convert s d x')(h1:BE x x'=true)(hs':P.underlying s=some ds)(hd:P.underlying d=some (.int k))
 (hs:AV T H (.Hp k x)=some (v,H')) (hR:BL B σ H w) (hT:BQ σ H T a.tmps.toList):Yields P B σ H w (execOp a.eval o) v H':=by
 have e1:=Bi hT h1
 simp only[AV]at hs
 split at hs
 case h_2=>cases hs
 rename_i k' n hx
 rw[hx]at e1;simp only[VR]at e1
 injection hs with hs;injection hs with q1 q2;subst q1;subst q2
 refine Yields.pure hR (x:= .int k (k.wrap n)) (by simp only[VR]) ?_
 simp[execOp,hop,e1,convert,run_underlying hs',run_underlying hd,Conv.intToInt]
theorem kF{x:Av}{x':Operand}{s d:TypeId}{ds:TypeDesc}(hop:o.op= .convert s d x')(h1:BE x x'=true)(hs':P.underlying s=some ds)(hd:P.underlying d=some .string)
 (hs:AV T H (.cU x)=some (v,H')) (hR:BL B σ H w) (hT:BQ σ H T a.tmps.toList):Yields P B σ H w (execOp a.eval o) v H':=by
 have e1:=Bi hT h1
 simp only[AV]at hs
 split at hs
 case h_2=>cases hs
 rename_i k' n hx
 rw[hx]at e1;simp only[VR]at e1
 injection hs with hs;injection hs with q1 q2;subst q1;subst q2
 refine Yields.pure hR (x:= .string (Utf8.encode n)) (by simp only[VR]) ?_
 simp[execOp,hop,e1,convert,run_underlying hs',run_underlying hd,Conv.intToString]
theorem bp(mx:Bool)(hT:BQ σ H T a.tmps.toList):∀(l:List Av) (r:List Operand) (v:AH) (x:Value) (u:AH),FF l r=true->VR σ H v x->WA mx T v l=some u->
 ∃y,((r.map a.eval).foldlM (if mx then Builtin.max2 else Builtin.min2) x).run P w= .ok y w/\VR σ H u y
 |[],[],v,x,u,_,hv,h=>by
  unfold WA at h
  split at h
  ·injection h with h;subst h;exact⟨x,by simp,hv⟩
  ·rename_i h1 h2;cases h2
  ·cases h
 |y::l,y'::r,v,x,u,hok,hv,h=>by
  simp only[FF,Qg]at hok
  have e1:=Bi hT hok.1
  unfold WA at h
  split at h
  ·rename_i h1;cases h1
  ·rename_i k n q1 q2 q3
   injection q3 with q3 q4;subst q3;subst q4
   split at h
   case h_2=>cases h
   rename_i k2 m hy
   rw[hy]at e1;simp only[VR]at e1 hv
   obtain⟨z,h1,h2⟩:=bp mx hT l r _ (.int k (if mx then(if m>n then m else n)else(if m<n then m else n))) u hok.2 (by simp only[VR]) h
   refine⟨z,?_,h2⟩
   rw[List.map_cons,List.foldlM_cons,Sem.run_bind,e1,hv]
   cases mx
   ·simp only[Qi,if_false]at h1 ⊢
    simp only[Builtin.min2,Sem.run_pure,Result.andThen_ok];exact h1
   ·simp only[if_true]at h1 ⊢
    simp only[Builtin.max2,Sem.run_pure,Result.andThen_ok];exact h1
  ·cases h
 |[],_::_,_,_,_,h,_,_=>by simp[FF]at h
 |_::_,[],_,_,_,h,_,_=>by simp[FF]at h
theorem kQ{mx:Bool}{l:List Av}{c:Call}{b:Builtin}(hop:o.op= .call c)(hc:c.callee= .builtin b)(hb:b=if mx then .max else .min)(h1:FF l c.args.toList=true)
 (hs:AV T H (.WB mx l)=some (v,H')) (hR:BL B σ H w) (hT:BQ σ H T a.tmps.toList):Yields P B σ H w (execOp a.eval o) v H':=by
 obtain⟨callee,args,argTypes⟩:=c
 simp only at hc h1
 subst hc
 simp only[AV]at hs
 split at hs
 case h_2=>cases hs
 rename_i x r
 simp only[Option.map_eq_some_iff,Prod.mk.injEq]at hs
 obtain⟨u,hu,rfl,rfl⟩:=hs
 obtain⟨ar⟩:=args
 cases ar with
 |nil=>simp[FF]at h1
 |cons x' r'=>
  simp only[FF,Qg]at h1
  obtain⟨y,hy,hv⟩:=bp (P:=P) (w:=w) mx hT r r' _ _ u h1.2 (Bi hT h1.1) hu
  refine Yields.pure hR hv ?_
  cases mx
  ·simp only[Qi,if_false]at hb hy;subst hb
   simp[execOp,hop,resolve,invoke,builtin,Builtin.min_,hy]
  ·simp only[if_true]at hb hy;subst hb
   simp[execOp,hop,resolve,invoke,builtin,Builtin.max_,hy]
theorem JO(hT:BQ σ H T a.tmps.toList){d m:Nat}{x:Av}{x':Operand}{n:Nat}(h:BE x x'=true)(he:EI T d (some x)=some n)(hm:n<=m)(code:BoundsCode):(Instr.sliceBound (a.eval x') m code).run P w= .ok n w:=by
 have e1:=Bi hT h
 simp only[EI]at he
 split at he
 case h_2=>cases he
 rename_i k q hq
 rw[hq]at e1;simp only[VR]at e1
 split at he
 case isFalse=>cases he
 rename_i h0
 injection he with he;subst he
 have:0<=q/\q<=(m:Int):=by omega
 simp[Instr.sliceBound,e1,asIntOf,this]
theorem Rj(hT:BQ σ H T a.tmps.toList){isSlice:Bool}{lo hi:Option Av}{lo' hi':Option Operand}{len cap l h:Nat}(h1:Fp lo lo'=true)(h2:Fp hi hi'=true)
 (hl:EI T 0 lo=some l) (hh:EI T len hi=some h) (hlh:l<=h) (hc:h<=cap) (hlen:len<=cap):
 (Instr.sliceBounds isSlice len cap (lo'.map a.eval) (hi'.map a.eval) none).run P w= .ok (l,h,cap) w:=by
 unfold Fp at h1 h2
 split at h1<;>split at h2<;>first|(cases h1;done)|(cases h2;done)|skip
 ·simp only[EI,Qb]at hl hh;subst hl;subst hh
  simp[Instr.sliceBounds]
 ·simp only[EI,Qb]at hl;subst hl
  have r2:=λcode=>JO (P:=P) (w:=w) hT h2 hh hc code
  simp[Instr.sliceBounds,r2]
 ·simp only[EI,Qb]at hh;subst hh
  have r1:=λcode=>JO (P:=P) (w:=w) hT h1 hl hlh code
  simp[Instr.sliceBounds,r1]
 ·have r1:=λcode=>JO (P:=P) (w:=w) hT h1 hl hlh code
  have r2:=λcode=>JO (P:=P) (w:=w) hT h2 hh hc code
  simp[Instr.sliceBounds,r1,r2]
theorem Zs(hT:BQ σ H T a.tmps.toList){lo hi:Option Av}{lo' hi':Option Operand}{y:Av}{y':Operand}{len d cap l h m:Nat}(h1:Fp lo lo'=true)(h2:Fp hi hi'=true)(h3:BE y y'=true)(hsome:hi.isSome=true)
 (hl:EI T 0 lo=some l) (hh:EI T len hi=some h) (hm:EI T d (some y)=some m) (hlh:l<=h) (hhm:h<=m) (hc:m<=cap):
 (Instr.sliceBounds true len cap (lo'.map a.eval) (hi'.map a.eval) (some (a.eval y'))).run P w= .ok (l,h,m) w:=by
 have r3:=λcode=>JO (P:=P) (w:=w) hT h3 hm hc code
 unfold Fp at h1 h2
 split at h1<;>split at h2<;>first|(cases h1;done)|(cases h2;done)|(cases hsome;done)|skip
 ·simp only[EI,Qb]at hl;subst hl
  have r2:=λcode=>JO (P:=P) (w:=w) hT h2 hh hhm code
  simp[Instr.sliceBounds,r2,r3]
 ·have r1:=λcode=>JO (P:=P) (w:=w) hT h1 hl hlh code
  have r2:=λcode=>JO (P:=P) (w:=w) hT h2 hh hhm code
  simp[Instr.sliceBounds,r1,r2,r3]
theorem kY{n:Nat}{x:Av}{x':Operand}{lo hi:Option Av}{lo' hi':Option Operand}{t e:TypeId}{i:TypeInfo}(hop:o.op= .slice t x' lo' hi' none)(h1:BE x x'=true)(h2:Fp lo lo'=true)(h3:Fp hi hi'=true)
 (hu:P.underlying t=some (.array n e)) (hi0:P.info? e=some i) (hz:i.size=1)
 (hs:AV T H (.Yi n x lo hi)=some (v,H')) (hR:BL B σ H w) (hT:BQ σ H T a.tmps.toList):Yields P B σ H w (execOp a.eval o) v H':=by
 have e1:=Bi hT h1
 simp only[AV]at hs
 split at hs
 case h_2=>cases hs
 rename_i ob m ii j l h hx hl hh
 rw[hx]at e1;simp only[VR]at e1
 split at hs
 case h_2=>cases hs
 rename_i s xs ro ho
 split at hs
 case isFalse=>cases hs
 rename_i hb
 obtain⟨hlen,him,hlh,hhn,hjn⟩:=hb
 injection hs with hs;injection hs with q1 q2;subst q1;subst q2
 obtain⟨s',xs',ro',ad,ho',hn,hv,ha⟩:=e1
 rw[ho]at ho';injection ho' with ho';injection ho' with g1 g2 g3;subst g1;subst g2;subst g3
 have hends:=Rj (P:=P) (w:=w) (isSlice:=false) hT h2 h3 hl hh hlh hhn (Qa n)
 refine Yields.pure hR (x:= .slice (some (if n=l then ad else ad.add (l* 1))) (h-l) (n-l)) ?_ ?_
 ·simp only[VR]
  refine⟨s,xs,ro,_,n-l,ho,hn,rfl,by omega,λe=>⟨him,by omega,λhc=> ?_⟩⟩
  rw[if_neg (by omega),ha e,Cf,Qj,Qf]
 ·simp[execOp,hop,hv,Instr.sliceAt,run_underlying hu,Instr.sureAddr,hends,sizeOf,typeInfo,hi0,hz]
theorem fq{x:Av}{x':Operand}{lo hi:Option Av}{lo' hi':Option Operand}{t:TypeId}(hop:o.op= .slice t x' lo' hi' none)(h1:BE x x'=true)(h2:Fp lo lo'=true)(h3:Fp hi hi'=true)
 (hu:P.underlying t=some .string)
 (hs:AV T H (.Km x lo hi)=some (v,H')) (hR:BL B σ H w) (hT:BQ σ H T a.tmps.toList):Yields P B σ H w (execOp a.eval o) v H':=by
 have e1:=Bi hT h1
 simp only[AV]at hs
 split at hs
 case h_2=>cases hs
 rename_i s hx
 rw[hx]at e1;simp only[VR]at e1
 split at hs
 case h_2=>cases hs
 rename_i l h hl hh
 split at hs
 case isFalse=>cases hs
 rename_i hb
 injection hs with hs;injection hs with q1 q2;subst q1;subst q2
 have hends:=Rj (P:=P) (w:=w) (isSlice:=false) hT h2 h3 hl hh hb.1 hb.2 (Qa s.length)
 refine Yields.pure hR (x:= .string ((⟨s.toArray⟩:ByteArray).extract l h)) ?_ ?_
 ·simp only[VR]
  congr 1
  apply ByteArray.ext
  simp[List.drop_take]
 ·simp[execOp,hop,e1,Instr.sliceAt,Instr.slice,run_underlying hu,F9,hends]
theorem GQ{x':Operand}{lo' hi' mx':Option Operand}{t e:TypeId}{i:TypeInfo}{size:Nat}(hop:o.op= .slice t x' lo' hi' mx')(hu:P.underlying t=some (.slice e))(hi0:P.info? e=some i)(hz:i.size=size)
 {ad:Option Addr} {len cap l h m:Nat} (hv:a.eval x'= .slice ad len cap) (he:(Instr.sliceBounds true len cap (lo'.map a.eval) (hi'.map a.eval) (mx'.map a.eval)).run P w= .ok (l,h,m) w):
 (execOp a.eval o).run P w= .ok (.value (.slice (if m=l then ad else ad.map (·.add (l* size))) (h-l) (m-l))) w:=by
 simp[execOp,hop,hv,Instr.sliceAt,Instr.slice,run_underlying hu,he,sizeOf,typeInfo,hi0,hz]
theorem kZ{size:Nat}{x:Av}{x':Operand}{lo hi mx:Option Av}{lo' hi' mx':Option Operand}{t e:TypeId}{i:TypeInfo}(hop:o.op= .slice t x' lo' hi' mx')(h1:BE x x'=true)(h2:Fp lo lo'=true)(h3:Fp hi hi'=true)(h4:Fp mx mx'=true)
 (h5:mx=none\/hi.isSome=true) (hu:P.underlying t=some (.slice e)) (hi0:P.info? e=some i) (hz:i.size=size)
 (hs:AV T H (.Ue size x lo hi mx)=some (v,H')) (hR:BL B σ H w) (hT:BQ σ H T a.tmps.toList):Yields P B σ H w (execOp a.eval o) v H':=by
 have e1:=Bi hT h1
 have WB:mx=none->mx'=none:=by rintro rfl;cases mx'<;>simp_all[Fp]
 have mxs:∀y,mx=some y->∃y',mx'=some y'/\BE y y'=true:=by rintro y rfl;cases mx'<;>simp_all[Fp]
 -- the bounds, for whatever length and capacity
 have bounds0:∀{len cap l h:Nat},mx=none->EI T 0 lo=some l->EI T len hi=some h->l<=h->h<=len->len<=cap->(Instr.sliceBounds true len cap (lo'.map a.eval) (hi'.map a.eval) (mx'.map a.eval)).run P w= .ok (l,h,cap) w:=by
  intro len cap l h hm hl hh hlh hhl hlc
  rw[WB hm]
  exact Rj hT h2 h3 hl hh hlh (by omega) hlc
 have bounds1:∀{len d cap l h m:Nat} {y:Av},mx=some y->EI T 0 lo=some l->EI T len hi=some h->EI T d (some y)=some m->l<=h->h<=m->m<=cap->(Instr.sliceBounds true len cap (lo'.map a.eval) (hi'.map a.eval) (mx'.map a.eval)).run P w= .ok (l,h,m) w:=by
  intro len d cap l h m y hm hl hh hmm hlh hhm hmc
  obtain⟨y',rfl,hy⟩:=mxs y hm
  exact Zs hT h2 h3 hy (h5.resolve_left (by rw[hm];simp)) hl hh hmm hlh hhm hmc
 simp only[AV]at hs
 split at hs
 ·-- a slice
  rename_i ob n st len full hx
  rw[hx]at e1;simp only[VR]at e1
  split at hs
  case h_2=>cases hs
  rename_i s xs ro l h ho hl hh
  split at hs
  case isFalse=>cases hs
  rename_i hb
  obtain⟨hlen,rfl⟩:=hb
  obtain⟨s',xs',ro',ad,cap,ho',hn,hst,hv,hc,hf,hnn,ha⟩:=e1
  rw[ho]at ho';injection ho' with ho';injection ho' with g1 g2 g3;subst g1;subst g2;subst g3
  split at hs
  ·split at hs
   case isFalse=>cases hs
   rename_i hb
   injection hs with hs;injection hs with q1 q2;subst q1;subst q2
   have hrun:=GQ (P:=P) (w:=w) hop hu hi0 hz hv (bounds0 rfl hl hh hb.1 hb.2 hc)
   refine Yields.pure hR (x:= .slice (if cap=l then ad else ad.map (·.add (l* s))) (h-l) (cap-l)) ?_ hrun
   simp only[VR]
   refine⟨s,xs,ro,_,cap-l,ho,hn,by omega,rfl,by omega,λhff=> ?_,λhz=> ?_,λe=>⟨by have:=(ha hlen).1;omega,λh0=> ?_⟩⟩
   ·simp only[Qg,decide_eq_true_eq]at hff
    rw[hf hff.1,hff.2]
   ·split at hz
    ·omega
    ·rw[hnn (by simpa using hz)];omega
   ·rw[if_neg (by omega),(ha hlen).2 (by omega)]
    simp only[Option.map_some,Cf,Qk,Qf]
  ·rename_i y
   split at hs
   case h_2=>cases hs
   rename_i m hm
   split at hs
   case isFalse=>cases hs
   rename_i hb
   injection hs with hs;injection hs with q1 q2;subst q1;subst q2
   have hrun:=GQ (P:=P) (w:=w) hop hu hi0 hz hv (bounds1 (cap:=cap) rfl hl hh hm hb.1 hb.2.1 (by omega))
   refine Yields.pure hR (x:= .slice (if m=l then ad else ad.map (·.add (l* s))) (h-l) (m-l)) ?_ hrun
   simp only[VR]
   refine⟨s,xs,ro,_,m-l,ho,hn,by omega,rfl,by omega,λhff=> ?_,λhz=> ?_,λe=>⟨by have:=(ha hlen).1;omega,λh0=> ?_⟩⟩
   ·rw[of_decide_eq_true hff]
   ·split at hz
    ·omega
    ·have:=hnn (by simpa using hz);omega
   ·rw[if_neg (by omega),(ha hlen).2 (by omega)]
    simp only[Option.map_some,Cf,Qk,Qf]
 ·-- an accumulator
  rename_i ob n hx
  rw[hx]at e1;simp only[VR]at e1
  split at hs
  case h_2=>cases hs
  rename_i s xs ro l h ho hl hh
  split at hs
  case isFalse=>cases hs
  rename_i hb
  obtain⟨hlen,rfl⟩:=hb
  obtain⟨s',xs',ro',ho',hn,h0,hne⟩:=e1
  rw[ho]at ho';injection ho' with ho';injection ho' with g1 g2 g3;subst g1;subst g2;subst g3
  split at hs
  ·split at hs
   case isFalse=>cases hs
   rename_i hb
   split at hs
   ·rename_i KD
    injection hs with hs;injection hs with q1 q2;subst q1;subst q2
    have hrun:=GQ (P:=P) (w:=w) hop hu hi0 hz (h0 KD) (bounds0 (len:=0) (l:=l) (h:=h) rfl hl (by rw[<-KD];exact hh) hb.1 (by omega) (Qa _))
    refine Yields.pure hR (x:= .slice none 0 0) (by simp only[VR]) ?_
    rw[hrun]
    have:l=0:=by omega
    have:h=0:=by omega
    subst l;subst h;rfl
   ·rename_i KD
    injection hs with hs;injection hs with q1 q2;subst q1;subst q2
    obtain⟨ad,cap,hv,hc,ha⟩:=hne KD
    have hrun:=GQ (P:=P) (w:=w) hop hu hi0 hz hv (bounds0 rfl hl hh hb.1 hb.2 hc)
    refine Yields.pure hR (x:= .slice (some (if cap=l then ad else ad.add (l* s))) (h-l) (cap-l)) ?_ ?_
    ·simp only[VR]
     refine⟨s,xs,ro,_,cap-l,ho,hn,by omega,rfl,by omega,(λhff=>by cases hff),(λhff=>by cases hff),λe=>⟨by have:=(ha hlen).1;omega,λh0=> ?_⟩⟩
     rw[if_neg (by omega),(ha hlen).2,Cf]
    ·rw[hrun];congr 3;split<;>rfl
  ·rename_i y
   split at hs
   case h_2=>cases hs
   rename_i m hm
   split at hs
   case isFalse=>cases hs
   rename_i hb
   split at hs
   ·rename_i KD
    injection hs with hs;injection hs with q1 q2;subst q1;subst q2
    have hrun:=GQ (P:=P) (w:=w) hop hu hi0 hz (h0 KD) (bounds1 (len:=0) (cap:=0) (l:=l) (h:=h) rfl hl (by rw[<-KD];exact hh) hm hb.1 hb.2.1 (by omega))
    refine Yields.pure hR (x:= .slice none 0 0) (by simp only[VR]) ?_
    rw[hrun]
    have:l=0:=by omega
    have:h=0:=by omega
    have:m=0:=by omega
    subst l;subst h;subst m;rfl
   ·rename_i KD
    injection hs with hs;injection hs with q1 q2;subst q1;subst q2
    obtain⟨ad,cap,hv,hc,ha⟩:=hne KD
    have hrun:=GQ (P:=P) (w:=w) hop hu hi0 hz hv (bounds1 (cap:=cap) rfl hl hh hm hb.1 hb.2.1 (by omega))
    refine Yields.pure hR (x:= .slice (some (if m=l then ad else ad.add (l* s))) (h-l) (m-l)) ?_ ?_
    ·simp only[VR]
     refine⟨s,xs,ro,_,m-l,ho,hn,by omega,rfl,by omega,λhff=> ?_,(λhff=>by cases hff),λe=>⟨by have:=(ha hlen).1;omega,λh0=> ?_⟩⟩
     ·rw[of_decide_eq_true hff]
     ·rw[if_neg (by omega),(ha hlen).2,Cf]
    ·rw[hrun];congr 3;split<;>rfl
 ·-- a piece of an array
  rename_i ob n ii j len hx
  rw[hx]at e1;simp only[VR]at e1
  split at hs
  case h_2=>cases hs
  rename_i l h hl hh
  split at hs
  case isFalse=>cases hs
  rename_i hb
  obtain⟨rfl,hb1,hb2⟩:=hb
  injection hs with hs;injection hs with q1 q2;subst q1;subst q2
  obtain⟨s,xs,ro,ad,cap,ho,hn,hv,hc,ha⟩:=e1
  have hrun:=GQ (P:=P) (w:=w) hop hu hi0 hz hv (bounds0 rfl hl hh hb1 hb2 hc)
  refine Yields.pure hR (x:= .slice (some (if cap=l then ad else ad.add (l* 1))) (h-l) (cap-l)) ?_ ?_
  ·simp only[VR]
   refine⟨s,xs,ro,_,cap-l,ho,hn,rfl,by omega,λe=>⟨(ha e).1,by have:=(ha e).2.1;omega,λh0=> ?_⟩⟩
   rw[if_neg (by omega),(ha e).2.2 (by omega),Cf,Qj,Qf]
  ·rw[hrun];congr 3;split<;>rfl
 ·-- nil
  rename_i hx
  rw[hx]at e1;simp only[VR]at e1
  split at hs
  case h_2=>cases hs
  rename_i hl hh
  have fin:∀m,(Instr.sliceBounds true 0 0 (lo'.map a.eval) (hi'.map a.eval) (mx'.map a.eval)).run P w= .ok (0,0,m) w->m=0->Yields P B σ H w (execOp a.eval o) (.lit (.slice none 0 0)) H:=by
   rintro m hbd rfl
   refine Yields.pure hR (x:= .slice none 0 0) (by simp only[VR]) ?_
   rw[GQ (P:=P) (w:=w) hop hu hi0 hz e1 hbd];rfl
  split at hs
  ·injection hs with hs;injection hs with q1 q2;subst q1;subst q2
   exact fin 0 (bounds0 rfl hl hh (Qa _) (Qa _) (Qa _)) rfl
  ·split at hs
   case h_2=>cases hs
   rename_i y _ _ hm
   injection hs with hs;injection hs with q1 q2;subst q1;subst q2
   exact fin 0 (bounds1 (cap:=0) rfl hl hh hm (Qa _) (Qa _) (Qa _)) rfl
 ·cases hs
end steps
end Go.Ax
