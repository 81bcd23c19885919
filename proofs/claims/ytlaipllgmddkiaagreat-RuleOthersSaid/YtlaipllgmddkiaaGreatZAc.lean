/- Texts put behind one another: AxWp, AxOne. Conditions: none. -/
import Derived.Test.YtlaipllgmddkiaaGreatZAb
set_option linter.all false
namespace Go.Ax
open Go Go.RowKit
structure St where
 T : List AVal
 H : Heap
def ACalls (P : Program) (f : FuncId) (args : List AVal) (H : Heap) (K : AVal → Heap → Prop) : Prop :=
 ∀ (B : Nat → Prop) (σ : Sig) (w : World) (vs : List Value), RelH B σ H w → VRs σ H args vs → Calls P f vs.toArray w fun e w' =>
  ∃ x σ' v H', e = .returned x ∧ K v H' ∧ RelH B σ' H' w' ∧ VR σ' H' v x ∧ Ext σ H σ' H' ∧ Kept B w w'
theorem ACalls.mono {P : Program} {f : FuncId} {args : List AVal} {H : Heap} {K K' : AVal → Heap → Prop} (h : ACalls P f args H K) (hk : ∀ v H', K v H' → K' v H') : ACalls P f args H K' :=
 fun B σ w vs hR hV => (h B σ w vs hR hV).mono fun _ _ ⟨x, σ', v, H', he, hK, r⟩ => ⟨x, σ', v, H', he, hk _ _ hK, r⟩
inductive ACode where
 | skip
 | wild
 | region (ops : List AOper)
 | drawn (wl : List (Nat × AOper)) (aft : List (List Nat)) (nb : Nat)
 | seq (a b : ACode)
 | cond (c : AArg) (t e : ACode)
 | block (id : Nat) (c : ACode)
 | loop (c : ACode)
 | exit (id : Nat)
 | ret
def setDst (T : List AVal) : Option Nat → AVal → List AVal
 | none, _ => T
 | some d, v => T.set d v
def guardOk (ops : Array Oper) : Option (Nat × Bool) → Option (Nat × Bool) → Bool
 | none, none => true
 | some (d, b), some (j, b') => b == b' && ((ops[j]?).bind (·.dst)) == some d
 | _, _ => false
def callOk : AOp → Op → Bool
 | .call f args, .call { callee := .value (.func g), args := args', .. } => f == g && argsOk args args'.toList
 | .callv x args, .call { callee := .value y, args := args', .. } => argOk x y && argsOk args args'.toList
 | _, _ => false
def callable (P : Program) (f : FuncId) : Bool := match P.funcs[f]? with
 | some fn => fn.body.isSome && fn.name != "runtime.NumGoroutine"
 | none => false
def AOp.plainOp : AOp → AOp
 | .born _ b => b.toOp
 | op => op
def operOk (P : Program) (ops : Array Oper) (a : AOper) (o : Oper) : Bool :=
 a.dst == o.dst && guardOk ops a.guard o.guard && (okOp P a.op.plainOp o.op || (callOk a.op o.op && (match a.op with
  | .call f _ => callable P f
  | _ => true)))
def opersOk (P : Program) (ops : Array Oper) : List AOper → List Oper → Bool
 | [], [] => true
 | a :: l, o :: r => operOk P ops a o && opersOk P ops l r
 | _, _ => false
def befs : List (List Nat) → List Nat → List Nat
 | [], acc => acc
 | es :: r, acc => befs r (acc ++ [es.foldl (fun s e => s ||| (2 ^ e) ||| acc.getD e 0) 0])
def preOf (bs : List Nat) (i j : Nat) : Bool := (bs.getD i 0).testBit j
def AOper.looks (o : AOper) : List Nat := o.op.names ++ (match o.guard with | some (d, _) => [d] | none => [])
def aftOk : List (List Nat) → List Oper → Bool
 | [], [] => true
 | es :: l, o :: r => ((o.after.toList.filter (Region.binds .any)).map (·.on) == es) && aftOk l r
 | _, _ => false
def backOk : List (List Nat) → Nat → Bool
 | [], _ => true
 | es :: l, i => es.all (· < i) && backOk l (i + 1)
def pairsOk (ops : List AOper) (bs : List Nat) : Bool :=
 (List.range ops.length).all fun i => (List.range i).all fun j =>
  match ops[i]?, ops[j]? with
  | some a, some b => preOf bs i j || ((match a.dst with | some d => !(b.looks.contains d) && b.dst != some d | none => true) && (match b.dst with | some d => !(a.looks.contains d) | none => true))
  | _, _ => false
def AOp.mov : AOp → Bool
 | .born .. => true
 | op => op.pure
def ordOk (ops : List AOper) (bs : List Nat) : List Nat → List Nat → Bool
 | [], done => (List.range ops.length).all fun j => done.contains j
 | i :: rest, done => !done.contains i && i < ops.length && (List.range ops.length).all (fun j => !preOf bs i j || done.contains j) &&
  (match ops[i]? with | some o => o.op.quiet || rest.all (fun k => preOf bs k i || (match ops[k]? with | some o' => o'.op.mov | none => false)) | none => false) && ordOk ops bs rest (i :: done)
def bornsOk (nb : Nat) : List AOper → List Nat → Bool
 | [], _ => true
 | o :: r, l => (match o.op with
  | .born k _ => decide (k < nb) && !l.contains k && bornsOk nb r (k :: l)
  | _ => bornsOk nb r l)
def drawnOk (P : Program) (ops : List AOper) (aft : List (List Nat)) (ord : List Nat) (nb : Nat) : Bool :=
 P.follows .mixedOrders && aft.length == ops.length && backOk aft 0 && pairsOk ops (befs aft []) && ordOk ops (befs aft []) ord [] && bornsOk nb ops [] && ops.all fun o => o.op.cst
def unord (wl : List (Nat × AOper)) : List AOper := (List.range wl.length).map fun i => match wl.find? (fun p => p.1 == i) with
 | some p => p.2
 | none => ⟨none, .mkm, none⟩
def codeOk (P : Program) : ACode → Code → Bool
 | .skip, .skip => true
 | .wild, _ => true
 | .region l, .region _ ops false => opersOk P ops l ops.toList
 | .drawn wl aft nb, .region _ ops true => opersOk P ops (unord wl) ops.toList && aftOk aft ops.toList && drawnOk P (unord wl) aft (wl.map (·.1)) nb
 | .seq a b, .seq c d => codeOk P a c && codeOk P b d
 | .cond c t e, .cond c' t' e' => argOk c c' && codeOk P t t' && codeOk P e e'
 | .block i c, .block j d => i == j && codeOk P c d
 | .loop c, .loop d => codeOk P c d
 | .exit i, .exit j => i == j
 | .ret, .ret => true
 | _, _ => false
def skipV : AVal := .tup []
def gof : AVal → Option (Option Bool)
 | .bool g => some (some g)
 | .tup [] => some none
 | _ => none
def xOne (P : Program) (o : AOper) (K : St → Prop) (s : St) : Prop :=
 match o.op with
 | .call f args => ACalls P f (args.map (aget s.T)) s.H fun v H' => K ⟨setDst s.T o.dst v, H'⟩
 | .callv x args => match aget s.T x with
  | .func f cap => callable P f = true ∧ ACalls P f (args.map (aget s.T) ++ cap) s.H fun v H' => K ⟨setDst s.T o.dst v, H'⟩
  | _ => False
 | op => match aStep s.T s.H op with
  | some (v, H') => K ⟨setDst s.T o.dst v, H'⟩
  | none => False
def xOp (P : Program) (o : AOper) (K : St → Prop) (s : St) : Prop :=
 match o.guard with
 | none => xOne P o K s
 | some (d, b) => match gof (aget s.T (.t d)) with
  | some g => (g = some b → xOne P o K s) ∧ (g ≠ some b → K ⟨setDst s.T o.dst skipV, s.H⟩)
  | none => False
def xOps (P : Program) : List AOper → (St → Prop) → St → Prop
 | [], K, s => K s
 | o :: l, K, s => xOp P o (xOps P l K) s
abbrev PLog := List (Nat × (Heap → Prop))
def chkS (pre : Nat → Bool) (H : Heap) : PLog → Prop
 | [] => True
 | (i, p) :: r => (p H ∨ pre i = true) ∧ chkS pre H r
def actD (P : Program) (n0 : Nat) (pre : Nat → Bool) (i : Nat) (o : AOper) (log : PLog) (C : PLog → St → Prop) (s : St) : Prop :=
 match o.op with
 | .born k b => (match bornStep s.T (n0 + k) b with
  | some (v, x) => C log ⟨setDst s.T o.dst v, s.H.set (n0 + k) x⟩
  | none => False)
 | op => if op.quiet then (match aStep s.T s.H op with
  | some (v, _) => C (if op.pure then log else (i, fun H => aStep s.T H op = some (v, H)) :: log) ⟨setDst s.T o.dst v, s.H⟩
  | none => False)
  else xOne P o (fun s' => chkS pre s'.H log ∧ C log s') s
def stepD (P : Program) (n0 : Nat) (pre : Nat → Bool) (i : Nat) (o : AOper) (log : PLog) (C : PLog → St → Prop) (s : St) : Prop :=
 match o.guard with
 | none => actD P n0 pre i o log C s
 | some (d, b) => match gof (aget s.T (.t d)) with
  | some g => (g = some b → actD P n0 pre i o log C s) ∧ (g ≠ some b → C log ⟨setDst s.T o.dst skipV, s.H⟩)
  | none => False
def ordOps (ops : List AOper) : List Nat → List (Nat × AOper)
 | [] => []
 | i :: r => match ops[i]? with
  | some o => (i, o) :: ordOps ops r
  | none => []
def xDrawn (P : Program) (n0 : Nat) (pre : Nat → Nat → Bool) : List (Nat × AOper) → PLog → (St → Prop) → St → Prop
 | [], _, K, s => K s
 | (i, o) :: rest, log, K, s => stepD P n0 (pre i) i o log (fun log' s' => xDrawn P n0 pre rest log' K s') s
def thenX (K : St → Prop) (Q : Exit → St → Prop) : Exit → St → Prop
 | .normal, s => K s
 | e, s => Q e s
def blockX (id : Nat) (Q : Exit → St → Prop) : Exit → St → Prop
 | .exit i, s => if i = id then Q .normal s else Q (.exit i) s
 | e, s => Q e s
def Lift (B : Nat → Prop) (σ0 : Sig) (H0 : Heap) (w0 : World) (Q : Exit → St → Prop) (e : Exit) (a : Act) (w : World) : Prop :=
 ∃ σ T H, Q e ⟨T, H⟩ ∧ RelH B σ H w ∧ VRs σ H T a.tmps.toList ∧ Ext σ0 H0 σ H ∧ Kept B w0 w ∧ a.defers = []
structure Holds (B : Nat → Prop) (σ0 : Sig) (H0 : Heap) (w0 : World) (s : St) (σ : Sig) (a : Act) (w : World) : Prop where
 rel : RelH B σ s.H w
 tmps : VRs σ s.H s.T a.tmps.toList
 ext : Ext σ0 H0 σ s.H
 below : Kept B w0 w
 defers : a.defers = []
theorem Holds.lift {B : Nat → Prop} {σ0 : Sig} {H0 : Heap} {w0 : World} {s : St} {σ : Sig} {a : Act} {w : World} (h : Holds B σ0 H0 w0 s σ a w) {Q : Exit → St → Prop} {e : Exit} (hq : Q e s) : Lift B σ0 H0 w0 Q e a w :=
 ⟨σ, s.T, s.H, hq, h.rel, h.tmps, h.ext, h.below, h.defers⟩
theorem Lift.holds {B : Nat → Prop} {σ0 : Sig} {H0 : Heap} {w0 : World} {Q : Exit → St → Prop} {e : Exit} {a : Act} {w : World} (h : Lift B σ0 H0 w0 Q e a w) : ∃ s σ, Q e s ∧ Holds B σ0 H0 w0 s σ a w :=
 let ⟨σ, T, H, hq, h1, h2, h3, h4, h5⟩ := h; ⟨⟨T, H⟩, σ, hq, ⟨h1, h2, h3, h4, h5⟩⟩
def LoopWp (P : Program) (c : Code) (Q : Exit → Act → World → Prop) (a : Act) (w : World) : Prop :=
 ∀ (b : Frame) (k : List Item) (cs : List Frame), ∃ e a' w', Q e a' w' ∧ Arrives P (lone (b.at a (.code c :: .inLoop c :: k)) cs w) b k cs e a' w'
theorem LoopWp.wp {P : Program} {c : Code} {Q : Exit → Act → World → Prop} {a : Act} {w : World} (h : LoopWp P c Q a w) : (Code.loop c).wp P Q a w := fun b k cs =>
 let ⟨e, a', w', hq, harr⟩ := h b k cs; ⟨e, a', w', hq, .of_steps (.one step_loop) harr⟩
theorem LoopWp.unfold {P : Program} {c : Code} {Q : Exit → Act → World → Prop} {a : Act} {w : World} (h : c.wp P (Exit.then (LoopWp P c Q) Q) a w) : LoopWp P c Q a w := by
 intro b k cs
 obtain ⟨e, a₁, w₁, hq, harr⟩ := h b (.inLoop c :: k) cs
 cases e with
 | normal =>
  obtain ⟨e₂, a₂, w₂, hq₂, harr₂⟩ := hq b k cs
  exact ⟨e₂, a₂, w₂, hq₂, .of_steps (Steps.trans harr (.one step_inLoop)) harr₂⟩
 | exit id => exact ⟨_, a₁, w₁, hq, .pass (x := .inLoop c) rfl (fun _ _ => .inl (by simp)) harr⟩
 | goto l => exact ⟨_, a₁, w₁, hq, .pass (x := .inLoop c) rfl (fun _ _ => .inl (by simp)) harr⟩
 | ret => exact ⟨_, a₁, w₁, hq, .pass (x := .inLoop c) rfl (fun _ _ => .inl (by simp)) harr⟩
 | panic ch => exact ⟨_, a₁, w₁, hq, .pass (x := .inLoop c) rfl (fun _ _ => .inl (by simp)) harr⟩
 | outgrown => exact ⟨_, a₁, w₁, hq, .pass (x := .inLoop c) rfl (fun _ _ => .inl (by simp)) harr⟩
def ALoop (P : Program) (n0 : Nat) (c : ACode) (Q : Exit → St → Prop) (s : St) : Prop :=
 ∀ code, codeOk P c code = true → ∀ B σ0 (H0 : Heap) w0 σ a w, H0.length = n0 → Holds B σ0 H0 w0 s σ a w → LoopWp P code (Lift B σ0 H0 w0 Q) a w
def wpx (P : Program) (n0 : Nat) : ACode → (Exit → St → Prop) → St → Prop
 | .skip, Q, s => Q .normal s
 | .wild, _, _ => False
 | .region l, Q, s => xOps P l (Q .normal) s
 | .drawn wl aft nb, Q, s => xDrawn P s.H.length (preOf (befs aft [])) wl [] (Q .normal) ⟨s.T, s.H ++ List.replicate nb .ghost⟩
 | .seq a b, Q, s => wpx P n0 a (thenX (wpx P n0 b Q) Q) s
 | .cond c t e, Q, s => match aget s.T c with
  | .bool b => (b = true → wpx P n0 t Q s) ∧ (b = false → wpx P n0 e Q s)
  | _ => False
 | .block i c, Q, s => wpx P n0 c (blockX i Q) s
 | .loop c, Q, s => ALoop P n0 c Q s
 | .exit i, Q, s => Q (.exit i) s
 | .ret, Q, s => Q .ret s
end Go.Ax
namespace Go.Ax
open Go Go.RowKit
theorem VRs_put {σ : Sig} {H : Heap} {T : List AVal} {a : Act} (h : VRs σ H T a.tmps.toList) (dst : Option Nat) {v : AVal} {x : Value} (hv : VR σ H v x) : VRs σ H (setDst T dst v) (a.put dst x).tmps.toList := by
 cases dst with
 | none => exact h
 | some d => simp only [setDst, Act.put, Array.toList_setIfInBounds]; exact h.set d hv
theorem put_defers (a : Act) (dst : Option Nat) (x : Value) : (a.put dst x).defers = a.defers := by cases dst <;> rfl
theorem Holds.put {B : Nat → Prop} {σ0 : Sig} {H0 : Heap} {w0 : World} {s : St} {σ : Sig} {a : Act} {w : World} (h : Holds B σ0 H0 w0 s σ a w) (dst : Option Nat) {σ' : Sig} {H' : Heap} {w' : World} {v : AVal} {x : Value}
 (hR : RelH B σ' H' w') (hv : VR σ' H' v x) (hx : Ext σ s.H σ' H') (hb : Kept B w w') : Holds B σ0 H0 w0 ⟨setDst s.T dst v, H'⟩ σ' (a.put dst x) w' :=
 ⟨hR, VRs_put (h.tmps.ext hx) dst hv, h.ext.trans hx, h.below.trans hb, by rw [put_defers]; exact h.defers⟩
theorem run_callFunc {P : Program} {f : FuncId} {fn : Func} (hf : P.funcs[f]? = some fn) (hb : fn.body.isSome = true) (hn : fn.name ≠ "runtime.NumGoroutine") (args : Array Value) (w : World) : (callFunc f args).run P w = .ok (.enter f args) w := by
 obtain ⟨c, hc⟩ := Option.isSome_iff_exists.1 hb
 simp [callFunc, hf, hn, hc]
theorem map_eval_toArray {a : Act} {l : Array Operand} : (l.map a.eval) = (l.toList.map a.eval).toArray := by
 apply Array.ext'; simp
theorem callable_of {P : Program} {f : FuncId} (h : callable P f = true) : ∃ fn, P.funcs[f]? = some fn ∧ fn.body.isSome = true ∧ fn.name ≠ "runtime.NumGoroutine" := by
 unfold callable at h
 split at h
 ·rename_i fn hf
  simp only [Bool.and_eq_true, bne_iff_ne, ne_eq] at h
  exact ⟨fn, hf, h.1, h.2⟩
 ·cases h
theorem VR_skip {σ : Sig} {H : Heap} : VR σ H skipV undef := by
 simp only [skipV, VR]
 exact ⟨#[], rfl, trivial⟩
theorem yielded_gof {ops : Array Oper} {j d : Nat} {σ : Sig} {H : Heap} {T : List AVal} {tmps : Array Value} {g : Option Bool} (hj : (ops[j]?).bind (·.dst) = some d) (hT : VRs σ H T tmps.toList) (hg : gof (T.getD d .top) = some g) : yielded ops tmps j = g := by
 cases ht : T[d]? with
 | none => simp [List.getD, ht, gof] at hg
 | some y =>
  simp [List.getD, ht] at hg
  obtain ⟨u, hu, hr⟩ := hT.get ht
  rw [Array.getElem?_toList] at hu
  unfold gof at hg
  split at hg
  ·injection hg with hg; subst hg
   simp only [VR] at hr
   subst hr
   simp [yielded, hj, hu]
  ·injection hg with hg; subst hg
   simp only [VR] at hr
   obtain ⟨vs, rfl, hvs⟩ := hr
   simp [yielded, hj, hu]
  ·cases hg
theorem wpOne_sound {P : Program} {ops : Array Oper} {ao : AOper} {o : Oper} (hok : operOk P ops ao o = true) (hnb : ao.op.plainOp = ao.op) {K : St → Prop} {s : St} (h : xOne P ao K s) {B : Nat → Prop} {σ0 : Sig} {H0 : Heap} {w0 : World} {σ : Sig} {a : Act} {w : World}
 (hH : Holds B σ0 H0 w0 s σ a w) {next : Act → World → Prop} {Q : Exit → Act → World → Prop} (hn : ∀ s' σ' a' w', K s' → Holds B σ0 H0 w0 s' σ' a' w' → next a' w') : o.wp P a w next Q := by
 simp only [operOk, Bool.and_eq_true, Bool.or_eq_true, beq_iff_eq] at hok
 obtain ⟨⟨hd, hg⟩, hop⟩ := hok
 rw [hnb] at hop
 unfold xOne at h
 unfold Oper.wp
 split at h
 ·rename_i f args hao
  rw [hao] at hop
  have hcall : callOk (.call f args) o.op = true ∧ callable P f = true := by
   rcases hop with hop | hop
   ·cases ho : o.op <;> simp [okOp] at hop
   ·exact hop
  obtain ⟨hc, hcl⟩ := hcall
  obtain ⟨fn, hf, hb, hnm⟩ := callable_of hcl
  unfold callOk at hc
  split at hc
  case h_3 => cases hc
  case h_2 => rename_i e1 _; cases e1
  rename_i f' args' g cargs at' e1 e2
  injection e1 with e1 e1'; subst e1; subst e1'
  simp only [Bool.and_eq_true, beq_iff_eq] at hc
  obtain ⟨rfl, hargs⟩ := hc
  have hv := VR_args hH.tmps hargs
  have hrun : (execOp a.eval o).run P w = .ok (.enter f ((cargs.toList.map a.eval).toArray)) w := by
   simp only [execOp, e2, resolve, Deferred.ofValue, Act.eval, Sem.run_bind, Sem.run_pure, Result.andThen_ok, invoke]
   rw [run_callFunc hf hb hnm]
   simp [map_eval_toArray]
  rw [hrun]
  simp only [Oper.upon]
  refine (h B σ w _ hH.rel hv).mono ?_
  rintro e w' ⟨x, σ', v, H', rfl, hK, hR, hx, hext, hbel⟩
  rw [← hd]
  exact hn _ _ _ _ hK (hH.put ao.dst hR hx hext hbel)
 ·rename_i y args hao
  rw [hao] at hop
  split at h
  case h_2 => exact h.elim
  rename_i f cap hfv
  obtain ⟨hcl, h⟩ := h
  have hc : callOk (.callv y args) o.op = true := by
   rcases hop with hop | hop
   ·cases ho : o.op <;> simp [okOp] at hop
   ·exact hop.1
  obtain ⟨fn, hf, hb, hnm⟩ := callable_of hcl
  unfold callOk at hc
  split at hc
  case h_3 => cases hc
  case h_1 => rename_i e1 _; cases e1
  rename_i y' args' yv cargs at' e1 e2
  injection e1 with e1 e1'; subst e1; subst e1'
  simp only [Bool.and_eq_true] at hc
  obtain ⟨hy, hargs⟩ := hc
  have hv := VR_args hH.tmps hargs
  have hyv := VR_arg hH.tmps hy
  rw [hfv] at hyv; simp only [VR] at hyv
  obtain ⟨cs, hcs, hcap⟩ := hyv
  have hrun : (execOp a.eval o).run P w = .ok (.enter f ((cargs.toList.map a.eval) ++ cs.toList).toArray) w := by
   simp only [execOp, e2, resolve, Deferred.ofValue, hcs, Sem.run_bind, Sem.run_pure, Result.andThen_ok, invoke]
   rw [run_callFunc hf hb hnm]
   simp [map_eval_toArray]
  rw [hrun]
  simp only [Oper.upon]
  refine (h B σ w _ hH.rel (hv.append hcap)).mono ?_
  rintro e w' ⟨x, σ', v, H', rfl, hK, hR, hx, hext, hbel⟩
  rw [← hd]
  exact hn _ _ _ _ hK (hH.put ao.dst hR hx hext hbel)
 ·rename_i hne hne'
  split at h
  case h_2 => exact h.elim
  rename_i v H' hst
  have hop' : okOp P ao.op o.op = true := by
   rcases hop with hop | ⟨hop, -⟩
   ·exact hop
   ·unfold callOk at hop
    split at hop
    ·rename_i hao _; exact absurd hao (hne _ _)
    ·rename_i hao _; exact absurd hao (hne' _ _)
    ·cases hop
  obtain ⟨σ', x, w', hrun, hR, hx, hext, hbel⟩ := step_sound hop' hst hH.rel hH.tmps
  have := hn _ _ _ _ h (hH.put ao.dst hR hx hext hbel)
  rw [hd] at this
  rcases hrun with hrun | ⟨hrun, rfl⟩
  ·rw [hrun]; exact this
  ·rw [hrun]; exact this
end Go.Ax
