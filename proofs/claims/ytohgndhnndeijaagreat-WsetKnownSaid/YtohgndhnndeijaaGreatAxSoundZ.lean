/- Each operation of the abstract machine tells true: the program's operation does what it says. Conditions: none. -/
import Derived.Test.YtohgndhnndeijaaGreatAxTieZ
import Derived.Deep.AppendSrc
import Derived.Laws.Strings
set_option linter.all false
open Option renaming map_eq_some_iff -> Qa
open Option.some renaming injEq -> Qb
open Prod.mk renaming injEq -> Qc
open Bool renaming and_eq_true -> Qd, false_eq_true -> Qe, eq_iff_iff -> Qg
open Nat renaming add_assoc -> Qf, add_zero -> Qh
namespace Go.Ax
open Go Go.RowKit
def Yields(P:Program)(B:Nat->Prop)(σ:B0)(H:AP)(w:World)(s:Sem Next)(v:AH)(H':AP):Prop:=
 ∃σ' x w',(s.run P w= .ok (.value x) w'\/(s.run P w= .ok .skip w'/\x=undef))/\BL B σ' H' w'/\VR σ' H' v x/\Ext σ H σ' H'/\Kept B w w'
theorem Yields.pure{P:Program}{B:Nat->Prop}{σ:B0}{H:AP}{w:World}{s:Sem Next}{v:AH}{x:Value}(hR:BL B σ H w)(hx:VR σ H v x)(hr:s.run P w= .ok (.value x) w):Yields P B σ H w s v H:=
 ⟨σ,x,w,.inl hr,hR,hx,Ext.refl _ _,Kept.refl _ _⟩
theorem Po{σ:B0}{H:AP}{a:AH}{v:Value}(h:iR a v=true):VR σ H a v:=by
 unfold iR at h
 split at h<;>simp_all[VR]
theorem Me{σ:B0}{H:AP}:∀{l:List AH} {r:List Value},Yz l r=true->BQ σ H l r/\l.all AH.cell=true
 |[],[],_=>by simp
 |a::l,v::r,h=>by
  simp only[Yz,Qd]at h
  obtain⟨h1,h2⟩:=Me (σ:=σ) (H:=H) h.2
  rw[Bn]
  exact⟨⟨Po h.1.1,h1⟩,by simp[h.1.2];simpa using h2⟩
 |[],_::_,h=>by simp[Yz]at h
 |_::_,[],h=>by simp[Yz]at h
theorem Bi{σ:B0}{H:AP}{T:List AH}{a:Act}(hT:BQ σ H T a.tmps.toList){x:Av}{y:Operand}(h:BE x y=true):VR σ H (Bm T x) (a.eval y):=by
 unfold BE at h
 split at h
 ·rename_i n m
  have:n=m:=by simpa using h
  subst this
  simp only[Bm,Act.eval]
  cases hn:T[n]? with
  |none=>simp[List.getD,hn,VR]
  |some v=>
   obtain⟨u,hu,hr⟩:=hT.get hn
   simp only[List.getD,hn,Option.getD_some]
   have:a.tmps.getD n undef=u:=by
    rw[Array.getElem?_toList]at hu
    simp[Array.getD_eq_getD_getElem?,hu]
   rw[this];exact hr
 ·exact Po h
 ·rename_i f g
  have:f=g:=by simpa using h
  subst this
  simp[Bm,Act.eval,VR]
 ·cases h
theorem Lr{σ:B0}{H:AP}{T:List AH}{a:Act}(hT:BQ σ H T a.tmps.toList):∀{l:List Av} {r:List Operand},FF l r=true->BQ σ H (l.map (Bm T)) (r.map a.eval)
 |[],[],_=>by simp
 |x::l,y::r,h=>by
  simp only[FF,Qd]at h
  simp only[List.map_cons,Bn]
  exact⟨Bi hT h.1,Lr hT h.2⟩
 |[],_::_,h=>by simp[FF]at h
 |_::_,[],h=>by simp[FF]at h
section steps
variable {P:Program}{B:Nat->Prop}{σ:B0}{H H':AP}{w:World}{T:List AH}{a:Act}{o:Oper}{v:AH}
theorem fm{c x y:Av}{c' x' y':Operand}(hop:o.op= .pick c' x' y')(h1:BE c c'=true)(h2:BE x x'=true)(h3:BE y y'=true)
 (hs:AV T H (.pick c x y)=some (v,H')) (hR:BL B σ H w) (hT:BQ σ H T a.tmps.toList):Yields P B σ H w (execOp a.eval o) v H':=by
 simp only[AV]at hs
 have hc:=Bi hT h1
 split at hs
 case h_2=>cases hs
 rename_i t ht
 injection hs with hs;injection hs with e1 e2;subst e1;subst e2
 rw[ht]at hc
 simp only[VR]at hc
 refine Yields.pure hR (x:=if t then a.eval x' else a.eval y') ?_ ?_
 ·cases t
  ·exact Bi hT h3
  ·exact Bi hT h2
 ·simp[execOp,hop,hc,asBool]
theorem Ve(op:BinOp)(k:IntKind)(t:TypeId)(m n:Int)(r:AH)(hr:Ym op k m n=some r)(σ:B0)(H:AP):∃x,(binOp op t (.int k m) (.int k n)).run P w= .ok x w/\VR σ H r x:=by
 unfold Ym at hr
 have fin:∀x,(binOp op t (.int k m) (.int k n)).run P w= .ok x w->VR σ H r x->∃x,(binOp op t (.int k m) (.int k n)).run P w= .ok x w/\VR σ H r x:=λx h1 h2=>⟨x,h1,h2⟩
 cases op<;>simp only[Qb]at hr
 case add=>subst hr;exact fin (.int k (k.wrap (m+n))) (by simp[binOp,Op.intArith]) (by simp[VR])
 case sub=>subst hr;exact fin (.int k (k.wrap (m-n))) (by simp[binOp,Op.intArith]) (by simp[VR])
 case mul=>subst hr;exact fin (.int k (k.wrap (m* n))) (by simp[binOp,Op.intArith]) (by simp[VR])
 case quo=>
  split at hr
  ·cases hr
  ·rename_i h0;simp only[Qb]at hr;subst hr;exact fin (.int k (k.wrap (m.tdiv n))) (by simp[binOp,Op.intDiv,h0]) (by simp[VR])
 case rem=>
  split at hr
  ·cases hr
  ·rename_i h0;simp only[Qb]at hr;subst hr;exact fin (.int k (m.tmod n)) (by simp[binOp,Op.intDiv,h0]) (by simp[VR])
 case and=>subst hr;exact fin _ (by simp[binOp,Op.intBits];rfl) (by simp[VR])
 case or=>subst hr;exact fin _ (by simp[binOp,Op.intBits];rfl) (by simp[VR])
 case xor=>subst hr;exact fin _ (by simp[binOp,Op.intBits];rfl) (by simp[VR])
 case andNot=>subst hr;exact fin _ (by simp[binOp,Op.intBits];rfl) (by simp[VR])
 case eql=>subst hr;exact fin (.bool (m==n)) (by simp[binOp,Op.intCmp]) (by simp only[VR];rfl)
 case neq=>subst hr;exact fin (.bool (m !=n)) (by simp[binOp,Op.intCmp]) (by simp only[VR];rfl)
 case lss=>subst hr;exact fin (.bool (decide (m<n))) (by simp[binOp,Op.intCmp]) (by simp[VR])
 case leq=>subst hr;exact fin (.bool (decide (m<=n))) (by simp[binOp,Op.intCmp]) (by simp[VR])
 case gtr=>subst hr;exact fin (.bool (decide (n<m))) (by simp[binOp,Op.intCmp]) (by simp[VR])
 case geq=>subst hr;exact fin (.bool (decide (n<=m))) (by simp[binOp,Op.intCmp]) (by simp[VR])
 all_goals cases hr
theorem TK(op:BinOp)(k k':IntKind)(t:TypeId)(m n:Int)(r:AH)(hop:op= .shl\/op= .shr)(hr:Dl op k m n=some r)(σ:B0)(H:AP):
 ∃x,(binOp op t (.int k m) (.int k' n)).run P w= .ok x w/\VR σ H r x:=by
 unfold Dl at hr
 split at hr
 ·cases hr
 ·rename_i h0
  rcases hop with rfl|rfl
  ·simp only[Qb]at hr;subst hr;exact⟨_,by simp[binOp,Op.shift,h0];rfl,by simp[VR]⟩
  ·simp only[Qb]at hr;subst hr;exact⟨_,by simp[binOp,Op.shift,h0];rfl,by simp[VR]⟩
theorem SU(op:BinOp)(t:TypeId)(x y:Operand)(k k':IntKind)(m n:Int):(eqGuard op t x y (.int k m) (.int k' n)).run P w= .ok () w:=by
 cases op<;>simp[eqGuard]
theorem LZ(op:BinOp)(t:TypeId)(x y:Operand)(m n:Bool):(eqGuard op t x y (.bool m) (.bool n)).run P w= .ok () w:=by
 cases op<;>simp[eqGuard]
theorem HE(op:BinOp)(t:TypeId)(x y:Operand)(m n:ByteArray):(eqGuard op t x y (.string m) (.string n)).run P w= .ok () w:=by
 cases op<;>simp[eqGuard]
theorem iq{op op':BinOp}{t t':TypeId}{x y:Av}{x' y':Operand}(hop:o.op= .binOp op' t x' y' t')(h0:op=op')(h1:BE x x'=true)(h2:BE y y'=true)
 (hs:AV T H (.bin op x y)=some (v,H')) (hR:BL B σ H w) (hT:BQ σ H T a.tmps.toList):Yields P B σ H w (execOp a.eval o) v H':=by
 subst h0
 have e1:=Bi hT h1
 have e2:=Bi hT h2
 simp only[AV]at hs
 split at hs
 case h_2=>cases hs
 rename_i k m k' n hx hy
 rw[hx]at e1;rw[hy]at e2
 simp only[VR]at e1 e2
 have fin:∀r,(∃u,(binOp op t (.int k m) (.int k' n)).run P w= .ok u w/\VR σ H r u)->Yields P B σ H w (execOp a.eval o) r H:=by
  rintro r ⟨u,hu,hr⟩
  exact Yields.pure hR hr (by simp[execOp,hop,e1,e2,SU,hu])
 split at hs
 ·simp only[Qa,Qc]at hs
  obtain⟨r,hr,rfl,rfl⟩:=hs
  exact fin _ (TK _ k k' t m n r (.inl rfl) hr σ H)
 ·simp only[Qa,Qc]at hs
  obtain⟨r,hr,rfl,rfl⟩:=hs
  exact fin _ (TK _ k k' t m n r (.inr rfl) hr σ H)
 ·split at hs
  ·rename_i hk;subst hk
   simp only[Qa,Qc]at hs
   obtain⟨r,hr,rfl,rfl⟩:=hs
   exact fin _ (Ve _ k t m n r hr σ H)
  ·cases hs
theorem Tp(x y:List UInt8):(⟨x.toArray⟩:ByteArray)++⟨y.toArray⟩=⟨(x++y).toArray⟩:=by
 apply ByteArray.ext
 simp
theorem F9(x:List UInt8):(⟨x.toArray⟩:ByteArray).size=x.length:=rfl
theorem fo{op op':BinOp}{t t':TypeId}{x y:Av}{x' y':Operand}(hop:o.op= .binOp op' t x' y' t')(h0:op=op')(h1:BE x x'=true)(h2:BE y y'=true)
 (hs:AV T H (.MG op x y)=some (v,H')) (hR:BL B σ H w) (hT:BQ σ H T a.tmps.toList):Yields P B σ H w (execOp a.eval o) v H':=by
 subst h0
 have e1:=Bi hT h1
 have e2:=Bi hT h2
 simp only[AV]at hs
 split at hs
 case h_2=>cases hs
 rename_i m n hx hy
 rw[hx]at e1;rw[hy]at e2
 simp only[VR]at e1 e2
 split at hs
 ·split at hs
  ·rename_i hle
   injection hs with hs;injection hs with q1 q2;subst q1;subst q2
   refine Yields.pure hR (x:= .string ⟨(m++n).toArray⟩) (by simp[VR]) ?_
   have hle':¬((m.length:Int)+n.length>9223372036854775807):=by omega
   simp[execOp,hop,e1,e2,HE,binOp,Op.stringOp,Tp,F9,IntKind.max,IntKind.signed,IntKind.bits]
   omega
  ·cases hs
 ·injection hs with hs;injection hs with q1 q2;subst q1;subst q2
  refine Yields.pure hR (x:= .bool (decide (m=n))) (by simp[VR]) ?_
  simp[execOp,hop,e1,e2,HE,binOp,Op.stringOp]
  rw[Qg];simp
 ·injection hs with hs;injection hs with q1 q2;subst q1;subst q2
  refine Yields.pure hR (x:= .bool (!decide (m=n))) (by simp[VR]) ?_
  simp[execOp,hop,e1,e2,HE,binOp,Op.stringOp]
  rw[Qg];simp
 ·cases hs
theorem ix{neg:Bool}{op':BinOp}{t t':TypeId}{x y:Av}{x' y':Operand}(hop:o.op= .binOp op' t x' y' t')(h0:op'=if neg then .neq else .eql)(h1:BE x x'=true)(h2:BE y y'=true)
 (ht:P.underlying t=some .bool)
 (hs:AV T H (.cS neg x y)=some (v,H')) (hR:BL B σ H w) (hT:BQ σ H T a.tmps.toList):Yields P B σ H w (execOp a.eval o) v H':=by
 have e1:=Bi hT h1
 have e2:=Bi hT h2
 simp only[AV]at hs
 split at hs
 case h_2=>cases hs
 rename_i m n hx hy
 rw[hx]at e1;rw[hy]at e2
 simp only[VR]at e1 e2
 injection hs with hs;injection hs with q1 q2;subst q1;subst q2
 refine Yields.pure hR (x:= .bool (if neg then !decide (m=n)else decide (m=n))) (by simp[VR]) ?_
 have hq:(Op.equal t (.bool m) (.bool n)).run P w= .ok (m==n) w:=run_equalIn_bool' w 9999 t m n ht
 cases neg
 ·simp only[Qe,if_false]at h0;subst h0
  simp[execOp,hop,e1,e2,LZ,binOp,hq]
  rfl
 ·simp only[if_true]at h0;subst h0
  simp[execOp,hop,e1,e2,LZ,binOp,hq]
  cases m<;>cases n<;>rfl
theorem iy{neg:Bool}{ks:List Nat}{op':BinOp}{t t':TypeId}{x y:Av}{x' y':Operand}(hop:o.op= .binOp op' t x' y' t')(h0:op'=if neg then .neq else .eql)(h1:BE x x'=true)(h2:BE y y'=true)
 (ht:Dy P t=true) (hk:Fy P 10000 t=some ks) (hg:P.eqGuardType P.depth t=false)
 (hs:AV T H (.eqs neg ks x y)=some (v,H')) (hR:BL B σ H w) (hT:BQ σ H T a.tmps.toList):Yields P B σ H w (execOp a.eval o) v H':=by
 have e1:=Bi hT h1
 have e2:=Bi hT h2
 simp only[AV]at hs
 split at hs
 case h_2=>cases hs
 rename_i la lb hx hy
 rw[hx]at e1;rw[hy]at e2
 simp only[VR]at e1 e2
 obtain⟨-,xs,e1,r1⟩:=e1
 obtain⟨-,ys,e2,r2⟩:=e2
 simp only[Qa,Qc]at hs
 obtain⟨r,hr,rfl,rfl⟩:=hs
 have hq:=JP w 10000 t ks hk _ _ _ _ r r1 r2 hr
 simp only[valOf,ht,if_true]at hq
 refine Yields.pure hR (x:= .bool (if neg then !r else r)) (by simp[VR]) ?_
 cases neg
 ·simp only[Qe,if_false]at h0;subst h0
  simp only[execOp,hop,e1,e2,Sem.run_bind,run_eqGuard_agg w _ t x' y' xs ys hg,Result.andThen_ok,run_eql_struct]
  simp at hq
  simp[hq]
 ·simp only[if_true]at h0;subst h0
  simp only[execOp,hop,e1,e2,Sem.run_bind,run_eqGuard_agg w _ t x' y' xs ys hg,Result.andThen_ok,run_neq_struct]
  simp at hq
  simp[hq]
theorem m9{op op':UnOp}{t:TypeId}{x:Av}{x':Operand}(hop:o.op= .unOp op' t x')(h0:op=op')(h1:BE x x'=true)
 (hs:AV T H (.un op x)=some (v,H')) (hR:BL B σ H w) (hT:BQ σ H T a.tmps.toList):Yields P B σ H w (execOp a.eval o) v H':=by
 subst h0
 have e1:=Bi hT h1
 simp only[AV]at hs
 split at hs
 ·rename_i b hx
  rw[hx]at e1;simp only[VR]at e1
  injection hs with hs;injection hs with q1 q2;subst q1;subst q2
  exact Yields.pure hR (x:= .bool !b) (by simp[VR]) (by simp[execOp,hop,e1,Op.unary])
 ·rename_i k n hx
  rw[hx]at e1;simp only[VR]at e1
  injection hs with hs;injection hs with q1 q2;subst q1;subst q2
  exact Yields.pure hR (x:= .int k (k.wrap (0-n))) (by simp[VR]) (by simp[execOp,hop,e1,Op.unary,Op.intArith])
 ·rename_i k n hx
  rw[hx]at e1;simp only[VR]at e1
  injection hs with hs;injection hs with q1 q2;subst q1;subst q2
  exact Yields.pure hR (x:= .int k (k.wrap ((BitVec.ofInt k.bits (if k.signed then-1 else k.max)^^^BitVec.ofInt k.bits n).toNat))) (by simp[VR]) (by simp[execOp,hop,e1,Op.unary,Op.intBits])
 ·cases hs
theorem Cf(b o n:Nat):(⟨b,o,none⟩:Addr).add n=⟨b,o+n,none⟩:=Addr.add_mid b o n
theorem kE{off:Nat}{s:TypeId}{f:Nat}{x:Av}{x':Operand}{fs:Array Field}{fd:Field}{i:TypeInfo}(hop:o.op= .fieldAddr s x' f)(h1:BE x x'=true)
 (hu:P.underlying s=some (.struct fs)) (hf:fs[f]?=some fd) (hoff:fd.offset=off) (hi:P.info? fd.type=some i) (hz:i.size≠0)
 (hs:AV T H (.AQ off x)=some (v,H')) (hR:BL B σ H w) (hT:BQ σ H T a.tmps.toList):Yields P B σ H w (execOp a.eval o) v H':=by
 have e1:=Bi hT h1
 simp only[AV]at hs
 split at hs
 case h_2=>cases hs
 rename_i ob n ii j hx
 rw[hx]at e1
 injection hs with hs;injection hs with q1 q2;subst q1;subst q2
 simp only[VR]at e1
 obtain⟨s',xs,ro,ad,ho,hn,hv,ha⟩:=e1
 refine Yields.pure hR (x:= .pointer (some (ad.add off))) ?_ ?_
 ·simp only[VR]
  refine⟨s',xs,ro,_,ho,hn,rfl,λe=> ?_⟩
  rw[ha e,Cf,Qf]
 ·simp[execOp,hop,hv,Instr.fieldAt,run_underlying hu,hf,Instr.sureAddr,fieldPlace,sizeOf,typeInfo,hi,hz,hoff]
theorem kR{x:Av}{x':Operand}(hop:o.op= .nilCheck x')(h1:BE x x'=true)
 (hs:AV T H (.Pb x)=some (v,H')) (hR:BL B σ H w) (hT:BQ σ H T a.tmps.toList):Yields P B σ H w (execOp a.eval o) v H':=by
 have e1:=Bi hT h1
 simp only[AV]at hs
 split at hs
 case h_2=>cases hs
 rename_i ob n ii j hx
 rw[hx]at e1
 injection hs with hs;injection hs with q1 q2;subst q1;subst q2
 have e2:=e1
 simp only[VR]at e1
 obtain⟨s',xs,ro,ad,ho,hn,hv,ha⟩:=e1
 exact Yields.pure hR e2 (by simp[execOp,hop,hv])
theorem s_ixa{n size:Nat}{t e:TypeId}{x q:Av}{x' q':Operand}{i:TypeInfo}(hop:o.op= .indexAddr t x' q')(h1:BE x x'=true)(h2:BE q q'=true)
 (hu:P.underlying t=some (.array n e)) (hi:P.info? e=some i) (hz:i.size=size)
 (hs:AV T H (.U7 n size x q)=some (v,H')) (hR:BL B σ H w) (hT:BQ σ H T a.tmps.toList):Yields P B σ H w (execOp a.eval o) v H':=by
 have e1:=Bi hT h1
 have e2:=Bi hT h2
 simp only[AV]at hs
 split at hs
 case h_2=>cases hs
 rename_i ob m k j ik qn hx hq
 rw[hx]at e1;rw[hq]at e2
 split at hs
 case isFalse=>cases hs
 rename_i hb
 injection hs with hs;injection hs with q1 q2;subst q1;subst q2
 simp only[VR]at e1 e2
 obtain⟨s',xs,ro,ad,ho,hn,hv,ha⟩:=e1
 refine Yields.pure hR (x:= .pointer (some (ad.add (qn.toNat* size)))) ?_ ?_
 ·simp only[VR]
  refine⟨s',xs,ro,_,ho,hn,rfl,λe=> ?_⟩
  rw[ha e,Cf,Qf]
 ·simp[execOp,hop,hv,e2,Instr.indexAt,asIntOf,run_underlying hu,Instr.sureAddr,sizeOf,typeInfo,hi,hz,hb]
theorem kH{size:Nat}{t e:TypeId}{x q:Av}{x' q':Operand}{i:TypeInfo}(hop:o.op= .indexAddr t x' q')(h1:BE x x'=true)(h2:BE q q'=true)
 (hu:P.underlying t=some (.slice e)) (hi:P.info? e=some i) (hz:i.size=size)
 (hs:AV T H (.A9 size x q)=some (v,H')) (hR:BL B σ H w) (hT:BQ σ H T a.tmps.toList):Yields P B σ H w (execOp a.eval o) v H':=by
 have e1:=Bi hT h1
 have e2:=Bi hT h2
 simp only[AV]at hs
 have fin:∀(ad:Addr) (len cap:Nat) (ik:IntKind) (qn:Int),a.eval x'= .slice (some ad) len cap->a.eval q'= .int ik qn->0<=qn/\qn<len->
  (execOp a.eval o).run P w= .ok (.value (.pointer (some (ad.add (qn.toNat* size))))) w:=by
  intro ad len cap ik qn g1 g2 hb
  simp[execOp,hop,g1,g2,Instr.indexAt,asIntOf,run_underlying hu,sizeOf,typeInfo,hi,hz,hb]
 split at hs
 ·rename_i ob n st len full ik qn hx hq
  rw[hx]at e1;rw[hq]at e2
  simp only[VR]at e1 e2
  split at hs
  case h_2=>cases hs
  rename_i s xs ro ho
  split at hs
  case isFalse=>cases hs
  rename_i hb
  obtain⟨hl,rfl,hb1,hb2⟩:=hb
  injection hs with hs;injection hs with q1 q2;subst q1;subst q2
  obtain⟨s',xs',ro',ao,cap,ho',hn,hst,hv,hc,hf,hnn,ha⟩:=e1
  rw[ho]at ho';injection ho' with ho';injection ho' with g1 g2 g3;subst g1;subst g2;subst g3
  obtain rfl:=(ha hl).2 (by omega)
  refine Yields.pure hR (x:= .pointer (some ((⟨(σ ob).CG,(σ ob).off+st* s,none⟩:Addr).add (qn.toNat* s)))) ?_ (fin _ len cap ik qn hv e2 ⟨hb1,hb2⟩)
  simp only[VR]
  refine⟨s,xs,ro,_,ho,by omega,rfl,λe=> ?_⟩
  rw[Cf,Qf,<-Nat.add_mul,Qh]
 ·rename_i ob n ik qn hx hq
  rw[hx]at e1;rw[hq]at e2
  simp only[VR]at e1 e2
  split at hs
  case h_2=>cases hs
  rename_i s xs ro ho
  split at hs
  case isFalse=>cases hs
  rename_i hb
  obtain⟨hl,rfl,hb1,hb2⟩:=hb
  injection hs with hs;injection hs with q1 q2;subst q1;subst q2
  obtain⟨s',xs',ro',ho',hn,h0,hv⟩:=e1
  rw[ho]at ho';injection ho' with ho';injection ho' with g1 g2 g3;subst g1;subst g2;subst g3
  obtain⟨ad,cap,hv,hc,ha⟩:=hv (by omega)
  refine Yields.pure hR (x:= .pointer (some (ad.add (qn.toNat* s)))) ?_ (fin ad n cap ik qn hv e2 ⟨hb1,hb2⟩)
  simp only[VR]
  refine⟨s,xs,ro,_,ho,by omega,rfl,λe=> ?_⟩
  rw[(ha hl).2,Cf,Qh]
 ·rename_i ob n e j len ik qn hx hq
  rw[hx]at e1;rw[hq]at e2
  simp only[VR]at e1 e2
  split at hs
  case h_2=>cases hs
  rename_i s xs ro ho
  split at hs
  case isFalse=>cases hs
  rename_i hb
  obtain⟨hl,rfl,hb1,hb2⟩:=hb
  injection hs with hs;injection hs with q1 q2;subst q1;subst q2
  obtain⟨s',xs',ro',ad,cap,ho',hn,hv,hc,ha⟩:=e1
  rw[ho]at ho';injection ho' with ho';injection ho' with g1 g2 g3;subst g1;subst g2;subst g3
  refine Yields.pure hR (x:= .pointer (some (ad.add (qn.toNat* 1)))) ?_ (by rw[<-hz];rw[hz];exact fin ad len cap ik qn hv e2 ⟨hb1,hb2⟩)
  simp only[VR]
  refine⟨s,xs,ro,_,ho,by omega,rfl,λe=> ?_⟩
  rw[(ha hl).2.2 (by omega),Cf,Qf,Nat.mul_one]
 ·cases hs
theorem dk{t:TypeId}{x q:Av}{x' q':Operand}(hop:o.op= .index t x' q')(h1:BE x x'=true)(h2:BE q q'=true)
 (hu:P.underlying t=some .string)
 (hs:AV T H (.FA x q)=some (v,H')) (hR:BL B σ H w) (hT:BQ σ H T a.tmps.toList):Yields P B σ H w (execOp a.eval o) v H':=by
 have e1:=Bi hT h1
 have e2:=Bi hT h2
 simp only[AV]at hs
 split at hs
 case h_2=>cases hs
 rename_i s ik qn hx hq
 rw[hx]at e1;rw[hq]at e2
 simp only[VR]at e1 e2
 split at hs
 case isFalse=>cases hs
 rename_i hb
 split at hs
 case h_2=>cases hs
 rename_i b hbb
 injection hs with hs;injection hs with q1 q2;subst q1;subst q2
 have hg:(⟨s.toArray⟩:ByteArray)[qn.toNat]?=some b:=by
  obtain⟨hlt,hb'⟩:=List.getElem?_eq_some_iff.1 hbb
  have hlt':qn.toNat<(⟨s.toArray⟩:ByteArray).size:=hlt
  have:=getElem?_pos (⟨s.toArray⟩:ByteArray) qn.toNat hlt'
  rw[this]
  exact congrArg some hb'
 refine Yields.pure hR (x:= .int .u8 b.toNat) (by simp[VR]) ?_
 simp[execOp,hop,e1,e2,Instr.index,asIntOf,run_underlying hu,hb,hg]
theorem tA{str:Bool}{t:TypeId}{x:Av}{x':Operand}{d:TypeDesc}{c:Call}(hop:o.op= .call c)(hc:c.callee= .builtin .len)(ha:c.args.toList=[x'])(hat:c.argTypes.toList=[t])(h1:BE x x'=true)
 (hu:P.underlying t=some d) (hd:(str=true/\d= .string)\/(str=false/\∃e,d= .slice e))
 (hs:AV T H (.len str x)=some (v,H')) (hR:BL B σ H w) (hT:BQ σ H T a.tmps.toList):Yields P B σ H w (execOp a.eval o) v H':=by
 have e1:=Bi hT h1
 obtain⟨callee,args,argTypes⟩:=c
 simp only at hc ha hat
 subst hc
 obtain rfl:args=#[x']:=by cases args;simp_all
 obtain rfl:argTypes=#[t]:=by cases argTypes;simp_all
 have fin:∀(n:Nat),((∃s:List UInt8,a.eval x'= .string ⟨s.toArray⟩/\n=s.length/\d= .string)\/(∃q c,a.eval x'= .slice q n c/\∃e,d= .slice e))->
  (execOp a.eval o).run P w= .ok (.value (.int .i64 n)) w:=by
  intro n hx
  have hl:(Builtin.len_ #[t] o.type #[a.eval x']).run P w= .ok (.int .i64 n) w:=by
   rcases hx with⟨s,hx,rfl,rfl⟩|⟨q,c,hx,e,rfl⟩
   ·simp[Builtin.len_,run_underlying hu,goInt,hx,F9]
   ·simp[Builtin.len_,run_underlying hu,goInt,hx]
  simp[execOp,hop,resolve,invoke,builtin,hl]
 rcases hd with⟨rfl,rfl⟩|⟨rfl,e,rfl⟩
 ·simp only[AV]at hs
  split at hs
  case h_2=>cases hs
  rename_i s hx
  rw[hx]at e1;simp only[VR]at e1
  injection hs with hs;injection hs with q1 q2;subst q1;subst q2
  exact Yields.pure hR (by simp only[VR]) (fin _ (.inl ⟨s,e1,rfl,rfl⟩))
 ·simp only[AV]at hs
  split at hs
  ·rename_i hx
   rw[hx]at e1;simp only[VR]at e1
   injection hs with hs;injection hs with q1 q2;subst q1;subst q2
   obtain⟨_,_,_,ad,cap,-,-,-,hv,-⟩:=e1
   exact Yields.pure hR (by simp only[VR]) (fin _ (.inr ⟨_,_,hv,e,rfl⟩))
  ·rename_i ob n hx
   rw[hx]at e1;simp only[VR]at e1
   injection hs with hs;injection hs with q1 q2;subst q1;subst q2
   obtain⟨_,_,_,-,-,h0,hv⟩:=e1
   by_cases hn:n=0
   ·subst hn;exact Yields.pure hR (by simp only[VR]) (fin _ (.inr ⟨_,_,h0 rfl,e,rfl⟩))
   ·obtain⟨ad,cap,hv,-⟩:=hv hn
    exact Yields.pure hR (by simp only[VR]) (fin _ (.inr ⟨_,_,hv,e,rfl⟩))
  ·rename_i hx
   rw[hx]at e1;simp only[VR]at e1
   injection hs with hs;injection hs with q1 q2;subst q1;subst q2
   obtain⟨_,_,_,ad,cap,-,-,hv,-⟩:=e1
   exact Yields.pure hR (by simp only[VR]) (fin _ (.inr ⟨_,_,hv,e,rfl⟩))
  ·rename_i hx
   rw[hx]at e1;simp only[VR]at e1
   injection hs with hs;injection hs with q1 q2;subst q1;subst q2
   exact Yields.pure hR (by simp only[VR];rfl) (fin 0 (.inr ⟨_,_,e1,e,rfl⟩))
  ·cases hs
theorem iz{i:Nat}{x:Av}{x':Operand}(hop:o.op= .extract x' i)(h1:BE x x'=true)
 (hs:AV T H (.ext x i)=some (v,H')) (hR:BL B σ H w) (hT:BQ σ H T a.tmps.toList):Yields P B σ H w (execOp a.eval o) v H':=by
 have e1:=Bi hT h1
 simp only[AV]at hs
 split at hs
 case h_2=>cases hs
 rename_i l hx
 rw[hx]at e1;simp only[VR]at e1
 obtain⟨cs,hv,hr⟩:=e1
 simp only[Qa,Qc]at hs
 obtain⟨y,hy,rfl,rfl⟩:=hs
 obtain⟨u,hu,hr⟩:=hr.get hy
 rw[Array.getElem?_toList]at hu
 exact Yields.pure hR hr (by simp[execOp,hop,hv,Instr.extract,hu])
theorem eqn_ptr(d:Nat){t e:TypeId}(hu:P.underlying t=some (.pointer e))(p:Option Addr):(Op.equalIn (d+1) t (.pointer p) (.pointer none)).run P w= .ok p.isNone w:=by
 simp only[Op.equalIn,Sem.run_bind,run_underlying hu,Result.andThen_ok]
 cases p<;>simp
theorem Y7(d:Nat){t e:TypeId}(hu:P.underlying t=some (.slice e))(p:Option Addr)(l c:Nat):(Op.equalIn (d+1) t (.slice p l c) (.slice none 0 0)).run P w= .ok p.isNone w:=by
 simp only[Op.equalIn,Sem.run_bind,run_underlying hu,Result.andThen_ok]
 cases p<;>simp
theorem cz(d:Nat){t e e':TypeId}(hu:P.underlying t=some (.map e e'))(p:Option Nat):(Op.equalIn (d+1) t (.map p) (.map none)).run P w= .ok p.isNone w:=by
 simp only[Op.equalIn,Sem.run_bind,run_underlying hu,Result.andThen_ok]
 cases p<;>simp
theorem aX(d:Nat){t:TypeId}{p1 p2:Array TypeId}{p3:Bool}(hu:P.underlying t=some (.func p1 p2 p3)):(Op.equalIn (d+1) t .nilFunc .nilFunc).run P w= .ok true w:=by
 simp only[Op.equalIn,Sem.run_bind,run_underlying hu,Result.andThen_ok];simp
theorem Y5(d:Nat){t:TypeId}{p1 p2:Array TypeId}{p3:Bool}(hu:P.underlying t=some (.func p1 p2 p3))(f:Fn)(x y:Array Value):(Op.equalIn (d+1) t (.func f x y) .nilFunc).run P w= .ok false w:=by
 simp only[Op.equalIn,Sem.run_bind,run_underlying hu,Result.andThen_ok];simp
theorem Y6(d:Nat){t:TypeId}{p1:Array (String×TypeId)}(hu:P.underlying t=some (.interface p1)):(Op.equalIn (d+1) t .nilIface .nilIface).run P w= .ok true w:=by
 simp only[Op.equalIn,Sem.run_bind,run_underlying hu,Result.andThen_ok];simp
theorem WK(d:Nat){t:TypeId}{p1:Array (String×TypeId)}(hu:P.underlying t=some (.interface p1))(u:TypeId)(x:Value):(Op.equalIn (d+1) t (.iface u x) .nilIface).run P w= .ok false w:=by
 simp only[Op.equalIn,Sem.run_bind,run_underlying hu,Result.andThen_ok];simp
def NV:Nat->Value
 |0=> .pointer none
 |1=> .slice none 0 0
 |2=> .map none
 |3=> .nilFunc
 |_=> .nilIface
theorem bt{neg r:Bool}{op':BinOp}{t t':TypeId}{x' y':Operand}(hop:o.op= .binOp op' t x' y' t')(h0:op'=if neg then .neq else .eql)(hR:BL B σ H w)
 (hg:∀op,(eqGuard op t x' y' (a.eval x') (a.eval y')).run P w= .ok () w)
 (h1:binOp .eql t (a.eval x') (a.eval y')=(do pure (.bool (<-Op.equalIn 10000 t (a.eval x') (a.eval y')))))
 (h2:binOp .neq t (a.eval x') (a.eval y')=(do pure (.bool (!(<-Op.equalIn 10000 t (a.eval x') (a.eval y'))))))
 (hq:(Op.equalIn 10000 t (a.eval x') (a.eval y')).run P w= .ok r w):Yields P B σ H w (execOp a.eval o) (.bool (if neg then !r else r)) H:=by
 refine Yields.pure hR (x:= .bool (if neg then !r else r)) (by simp only[VR]) ?_
 cases neg
 ·simp only[Qe,if_false]at h0;subst h0
  simp only[execOp,hop,Sem.run_bind,hg,Result.andThen_ok,h1,hq]
  rfl
 ·simp only[if_true]at h0;subst h0
  simp only[execOp,hop,Sem.run_bind,hg,Result.andThen_ok,h2,hq]
  rfl
theorem SP{k:Nat}{y:Operand}(h:KF k y=true):y= .const (NV k)/\k<5:=by
 unfold KF at h
 split at h<;>first|exact⟨rfl,by decide⟩|cases h
theorem dj{neg:Bool}{k:Nat}{op':BinOp}{t t':TypeId}{x:Av}{x' y':Operand}(hop:o.op= .binOp op' t x' y' t')(h0:op'=if neg then .neq else .eql)(h1:BE x x'=true)
 (hn:KF k y'=true) (ht:H9 P t k=true)
 (hs:AV T H (.isNil neg k x)=some (v,H')) (hR:BL B σ H w) (hT:BQ σ H T a.tmps.toList):Yields P B σ H w (execOp a.eval o) v H':=by
 have e1:=Bi hT h1
 simp only[AV,Qa,Qc]at hs
 obtain⟨r,hr,rfl,rfl⟩:=hs
 obtain⟨rfl,hk5⟩:=SP hn
 obtain⟨c,hc⟩:∃c,c=NV k:=⟨_,rfl⟩
 rw[<-hc]at hop
 have ey:a.eval (.const c)=c:=rfl
 have go:(∀op,(eqGuard op t x' (.const c) (a.eval x') c).run P w= .ok () w)->binOp .eql t (a.eval x') c=(do pure (.bool (<-Op.equalIn 10000 t (a.eval x') c)))->
  binOp .neq t (a.eval x') c=(do pure (.bool (!(<-Op.equalIn 10000 t (a.eval x') c))))->(Op.equalIn 10000 t (a.eval x') c).run P w= .ok r w->
  Yields P B σ H w (execOp a.eval o) (.bool (if neg then !r else r)) H:=λg1 g2 g3 g4=>bt hop h0 hR (λop=>by rw[ey];exact g1 op) (by rw[ey];exact g2) (by rw[ey];exact g3) (by rw[ey];exact g4)
 generalize Bm T x=X at hr e1
 generalize a.eval x'=X' at go e1
 have ptr:∀(p:Option Addr),k=0->X'= .pointer p->r=p.isNone->Yields P B σ H w (execOp a.eval o) (.bool (if neg then !r else r)) H:=by
  rintro p rfl rfl rfl
  simp only[NV]at hc;subst hc
  simp only[H9]at ht
  split at ht
  case h_2=>cases ht
  rename_i e hu
  exact go (λop=>by cases op<;>simp[eqGuard]) (by cases p<;>rfl) (by cases p<;>rfl) (eqn_ptr 9999 hu p)
 have slc:∀(p:Option Addr) (l c:Nat),k=1->X'= .slice p l c->r=p.isNone->Yields P B σ H w (execOp a.eval o) (.bool (if neg then !r else r)) H:=by
  rintro p l cc rfl rfl rfl
  simp only[NV]at hc;subst hc
  simp only[H9]at ht
  split at ht
  case h_2=>cases ht
  rename_i e hu
  exact go (λop=>by cases op<;>simp[eqGuard]) rfl rfl (Y7 9999 hu p l cc)
 have mp:∀(p:Option Nat),k=2->X'= .map p->r=p.isNone->Yields P B σ H w (execOp a.eval o) (.bool (if neg then !r else r)) H:=by
  rintro p rfl rfl rfl
  simp only[NV]at hc;subst hc
  simp only[H9]at ht
  split at ht
  case h_2=>cases ht
  rename_i e e' hu
  exact go (λop=>by cases op<;>simp[eqGuard]) rfl rfl (cz 9999 hu p)
 unfold e9 at hr
 split at hr<;>(try simp only[Qb]at hr)
 ·simp only[VR]at e1;exact ptr none rfl e1 hr.symm
 ·simp only[VR]at e1;obtain⟨_,_,_,ad,-,-,hv,-⟩:=e1;exact ptr (some ad) rfl hv hr.symm
 ·simp only[VR]at e1;exact slc none 0 0 rfl e1 hr.symm
 ·split at hr
  ·cases hr
  rename_i hl
  simp only[Qb]at hr
  simp only[VR]at e1;obtain⟨_,_,_,ao,cap,-,-,-,hv,hlc,-,hnn,-⟩:=e1
  cases ao with
  |none=>exact absurd (hnn rfl) (by omega)
  |some ad=>exact slc (some ad) _ cap rfl hv hr.symm
 ·simp only[VR]at e1;obtain⟨_,_,_,ad,cap,-,-,hv,-⟩:=e1;exact slc (some ad) _ cap rfl hv hr.symm
 ·rename_i ob n
  simp only[VR]at e1;obtain⟨_,_,_,-,-,g0,g1⟩:=e1
  by_cases hz:n=0
  ·exact slc none 0 0 rfl (g0 hz) (by rw[<-hr];simp[hz])
  ·obtain⟨ad,cap,hv,-⟩:=g1 hz
   exact slc (some ad) n cap rfl hv (by rw[<-hr];simp[hz])
 ·simp only[VR]at e1;exact mp none rfl e1 hr.symm
 ·simp only[VR]at e1;exact mp (some _) rfl e1.1 hr.symm
 ·simp only[VR]at e1;subst e1;subst hr
  simp only[NV]at hc;subst hc
  simp only[H9]at ht
  split at ht
  case h_2=>cases ht
  rename_i p1 p2 p3 hu
  refine go (λop=>by cases op<;>simp[eqGuard]) rfl rfl ?_
  exact aX 9999 hu
 ·simp only[VR]at e1;obtain⟨cs,rfl,-⟩:=e1;subst hr
  simp only[NV]at hc;subst hc
  simp only[H9]at ht
  split at ht
  case h_2=>cases ht
  rename_i p1 p2 p3 hu
  refine go (λop=>by cases op<;>simp[eqGuard]) rfl rfl ?_
  exact Y5 9999 hu _ _ _
 ·simp only[VR]at e1;subst e1;subst hr
  simp only[NV]at hc;subst hc
  simp only[H9]at ht
  split at ht
  case h_2=>cases ht
  rename_i p1 hu
  refine go (λop=>by cases op<;>simp[eqGuard]) rfl rfl ?_
  exact Y6 9999 hu
 ·simp only[VR]at e1;obtain⟨cs,rfl,-⟩:=e1;subst hr
  simp only[NV]at hc;subst hc
  simp only[H9]at ht
  split at ht
  case h_2=>cases ht
  rename_i p1 hu
  refine go (λop=>by cases op<;>simp[eqGuard]) rfl rfl ?_
  exact WK 9999 hu _ _
 ·cases hr
theorem al{n:Option Nat}{t:TypeId}{x:Av}{X:Value}(e1:VR σ H (Bm T x) X)(hl:ZM P t n=true)
 (hs:AV T H (.ld n x)=some (v,H')) (hR:BL B σ H w):H'=H/\∃ad u,X= .pointer (some ad)/\(loadVar t ad).run P w= .ok u w/\VR σ H v u:=by
 simp only[AV]at hs
 split at hs
 case h_2=>cases hs
 rename_i ob m i j hx
 rw[hx]at e1
 split at hs
 case h_2=>cases hs
 rename_i s xs ro ho
 split at hs
 case isFalse=>cases hs
 rename_i hlen
 split at hs
 case h_2=>cases hs
 rename_i c hc
 simp only[VR]at e1
 obtain⟨s',xs',ro',ad,ho',hn,hv,ha⟩:=e1
 rw[ho]at ho';injection ho' with ho';injection ho' with g1 g2 g3;subst g1;subst g2;subst g3
 have hx1:c.length=s/\c.all AH.cell=true:=(hR.obj ho).1 c (List.mem_of_getElem? hc)
 rw[ha hlen]at hv
 cases n with
 |none=>
  simp only at hs
  split at hs
  case h_2=>cases hs
  rename_i y hy
  injection hs with hs;injection hs with q1 q2;subst q1;subst q2
  obtain⟨u,hu,hr⟩:=hR.eM ho hc hy
  simp only[ZM,Qd,Bool.not_eq_true']at hl
  obtain⟨hl1,hl2⟩:=hl
  cases hd:P.underlying t with
  |none=>simp[hd]at hl2
  |some d=>
   have hagg:(isAgg t).run P w= .ok false w:=by
    rw[G5 hd]at hl1
    unfold isAgg
    rw[Sem.run_bind,run_underlying hd w]
    cases d<;>simp_all
   refine⟨rfl,_,u,hv,?_,hr⟩
   simp[loadVar,hagg,hu]
 |some k=>
  simp only at hs
  split at hs
  case isFalse=>cases hs
  rename_i hjk
  injection hs with hs;injection hs with q1 q2;subst q1;subst q2
  obtain⟨cs,hcl,hcs,hr⟩:=hR.read ho hc j k hjk
  simp only[ZM,Qd,Ea]at hl
  obtain⟨⟨hl1,hl2⟩,-⟩:=hl
  cases hi:P.info? t with
  |none=>simp[hi]at hl2
  |some ii=>
   have hsz:ii.size=k:=by simpa [hi] using hl2
   cases hd:P.underlying t with
   |none=>simp[Dy,hd]at hl1
   |some d=>
    have hrow:d.isRow=true:=by rw[G5 hd]at hl1;cases d<;>simp_all
    have:=run_loadVar_mid (P:=P) w (σ ob).CG ((σ ob).off+i* s+j) t cs d hcs hd hrow (by simp[hi,hsz,hcl])
    refine⟨rfl,_,.agg cs.toArray,hv,this,?_⟩
    simp only[VR]
    refine⟨?_,cs.toArray,rfl,by simpa using hr⟩
    rw[List.all_eq_true]at hx1 ⊢
    exact λy hy=>hx1.2 y (List.mem_of_mem_drop (List.mem_of_mem_take hy))
theorem m7{n:Option Nat}{t:TypeId}{x:Av}{x':Operand}(hop:o.op= .load t x')(h1:BE x x'=true)(hl:ZM P t n=true)
 (hs:AV T H (.ld n x)=some (v,H')) (hR:BL B σ H w) (hT:BQ σ H T a.tmps.toList):Yields P B σ H w (execOp a.eval o) v H':=by
 obtain⟨rfl,ad,u,hx,hrun,hr⟩:=al (Bi hT h1) hl hs hR
 exact Yields.pure hR hr (by simp[execOp,hop,hx,Instr.loadAt,Instr.sureAddr,hrun])
end steps
end Go.Ax
