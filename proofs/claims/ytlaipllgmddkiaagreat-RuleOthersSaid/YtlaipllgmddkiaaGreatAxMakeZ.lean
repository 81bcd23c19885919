/- What makes or writes memory tells true: boxes, literals, make, stores. Conditions: none. -/
import Derived.Test.YtlaipllgmddkiaaGreatAxSoundZ
import Derived.IntWalk
set_option linter.all false
namespace Go.Ax
open Go Go.RowKit
theorem flat_length {α : Type} (s : Nat) : ∀ (xs : List (List α)), (∀ x ∈ xs, x.length = s) → xs.flatten.length = xs.length * s
 | [], _ => by simp
 | x :: xs, h => by
  rw [List.flatten_cons, List.length_append, flat_length s xs (fun y hy => h y (List.mem_cons_of_mem _ hy)), h x List.mem_cons_self, List.length_cons, Nat.add_mul]; omega
theorem flat_get {α : Type} (s : Nat) : ∀ (xs : List (List α)), (∀ x ∈ xs, x.length = s) → ∀ (i : Nat) (x : List α) (j : Nat) (a : α), xs[i]? = some x → x[j]? = some a → xs.flatten[i * s + j]? = some a
 | [], _, i, x, j, a, h, _ => by simp at h
 | y :: xs, hl, 0, x, j, a, h, h' => by
  simp at h; subst h
  have : j < y.length := (List.getElem?_eq_some_iff.1 h').1
  rw [List.flatten_cons, Nat.zero_mul, Nat.zero_add, List.getElem?_append_left this]; exact h'
 | y :: xs, hl, i + 1, x, j, a, h, h' => by
  have hy := hl y List.mem_cons_self
  rw [List.flatten_cons, List.getElem?_append_right (by rw [hy, Nat.add_mul]; omega), hy, show (i + 1) * s + j - s = i * s + j by rw [Nat.add_mul]; omega]
  exact flat_get s xs (fun z hz => hl z (List.mem_cons_of_mem _ hz)) i x j a (by simpa using h) h'
theorem putAt_mid {α : Type} (A M Z y : List α) (h : y.length = M.length) : putAt (A ++ (M ++ Z)) A.length y = A ++ (y ++ Z) := by
 rw [putAt_eq _ _ _ (by simp; omega), List.take_left', List.append_assoc]
 ·rw [List.drop_append, List.drop_eq_nil_of_le (by omega), List.drop_append, List.drop_eq_nil_of_le (by omega)]
  simp
  rw [h]; simp
 ·rfl
theorem flat_set {α : Type} (s : Nat) (xs : List (List α)) (hl : ∀ x ∈ xs, x.length = s) (i : Nat) (y : List α) (hy : y.length = s) (hi : i < xs.length) : (xs.set i y).flatten = putAt xs.flatten (i * s) y := by
 have e1 : xs = xs.take i ++ xs[i] :: xs.drop (i + 1) := by simp
 have e2 : xs.set i y = xs.take i ++ y :: xs.drop (i + 1) := by rw [List.set_eq_take_append_cons_drop, if_pos hi]
 have hA : (xs.take i).flatten.length = i * s := by
  rw [flat_length s _ (fun x hx => hl x (List.mem_of_mem_take hx)), List.length_take, Nat.min_eq_left (by omega)]
 have hM : xs[i].length = s := hl _ (List.getElem_mem hi)
 have e3 : xs.flatten = (xs.take i).flatten ++ (xs[i] ++ (xs.drop (i + 1)).flatten) := by
  conv => lhs; rw [e1]
  rw [List.flatten_append, List.flatten_cons]
 rw [e2, e3, ← hA, putAt_mid _ _ _ _ (by omega), List.flatten_append, List.flatten_cons]
theorem flat_replicate {α : Type} (n : Nat) (z : List α) (k : Nat) (h : k < n * z.length) : (List.replicate n z).flatten[k]? = z[k % z.length]? := by
 have hpos : 0 < z.length := by rcases Nat.eq_zero_or_pos z.length with h0 | h0 <;> simp_all
 have hk : k = k / z.length * z.length + k % z.length := by rw [Nat.mul_comm]; exact (Nat.div_add_mod k z.length).symm
 have hlt : k / z.length < n := Nat.div_lt_of_lt_mul (by rw [Nat.mul_comm]; exact h)
 have hm : k % z.length < z.length := Nat.mod_lt _ hpos
 have := flat_get z.length (List.replicate n z) (fun x hx => by rw [(List.mem_replicate.1 hx).2]) (k / z.length) z (k % z.length) z[k % z.length] (by simp [hlt]) (by simp [hm])
 rw [← hk] at this
 rw [this]; simp [hm]
section steps
variable {P : Program} {B : Nat → Prop} {σ : Sig} {H H' : Heap} {w : World} {T : List AVal} {a : Act} {o : Oper} {v : AVal}
theorem RelH.pushArr (h : RelH B σ H w) (s room : Nat) (xs : List (List AVal)) (c : Array Value) (e : TypeId) (hl : ∀ x ∈ xs, x.length = s ∧ x.all AVal.cell = true) (hroom : xs.length ≤ room) (hc : c.size = room * s)
 (hv : VRs σ H xs.flatten (c.toList.take (xs.length * s))) :
 RelH B (σ.upd H.length ⟨w.heap.size, 0, room⟩) (H ++ [.arr s xs false]) (w.alloc (.cells c e)) := by
 refine h.push _ _ _ ⟨hl, hroom, .inr ⟨c, e, (0, 0), by show (w.heap.push _)[w.heap.size]? = _; simp, ?_, fun _ => ⟨h.fresh, rfl, rfl, hc⟩, fun hh => by cases hh⟩⟩
 intro i x j y hi hj
 have hg := flat_get s xs (fun x hx => (hl x hx).1) i x j y hi hj
 obtain ⟨u, hu, hr⟩ := hv.get hg
 refine ⟨u, ?_, hr.grow (Grow.push σ H _ _)⟩
 rw [List.getElem?_take] at hu
 split at hu
 ·rw [Nat.zero_add, ← Array.getElem?_toList]; exact hu
 ·cases hu
theorem below_alloc {B : Nat → Prop} {w : World} (hB : ∀ k, B k → k < w.heap.size) (ob : Obj) : Kept B w (w.alloc ob) := (Kept.refl _ _).alloc hB ob
theorem VR_ptr_new (s : Nat) (x : List AVal) (room : Nat) (n : Nat) : VR (σ.upd H.length ⟨n, 0, room⟩) (H ++ [.arr s [x] false]) (.ptr H.length 1 0 0) (.pointer (some ⟨n, 0, none⟩)) := by
 simp only [VR]
 exact ⟨s, [x], false, _, by simp, Nat.le_refl _, rfl, fun _ => by simp [Sig.upd]⟩
theorem asCells_VR {x : AVal} {l : List AVal} {u : Value} (h : asCells x = some l) (hu : VR σ H x u) : VRs σ H l u.cells.toList ∧ l.all AVal.cell = true := by
 unfold asCells at h
 split at h
 ·injection h with h; subst h
  simp only [VR] at hu
  obtain ⟨h1, cs, rfl, h2⟩ := hu
  exact ⟨h2, h1⟩
 ·cases h
 ·cases h
 ·split at h
  ·rename_i hc
   injection h with h; subst h
   have hone := hu.oneCell hc
   have : u.cells = #[u] := by cases u <;> simp_all [Value.cells, cellB]
   rw [this]
   refine ⟨?_, by simp [hc]⟩
   simp [VRs_cons, hu]
  ·cases h
theorem s_new {zero : List AVal} {t : TypeId} (hop : o.op = .alloc t) (hz : zeroOk P t zero = true)
 (hs : aStep T H (.new zero) = some (v, H')) (hR : RelH B σ H w) (hT : VRs σ H T a.tmps.toList) : Yields P B σ H w (execOp a.eval o) v H' := by
 simp only [aStep, Option.some.injEq, Prod.mk.injEq] at hs
 obtain ⟨rfl, rfl⟩ := hs
 unfold zeroOk at hz
 split at hz
 case h_2 => cases hz
 rename_i i hi
 split at hz
 case h_2 => cases hz
 rename_i z hzz
 simp only [Bool.and_eq_true, beq_iff_eq] at hz
 obtain ⟨hz, hsz⟩ := hz
 obtain ⟨hv, hc⟩ := VRs_consts (σ := σ) (H := H) hz
 have hl := hv.length
 refine ⟨_, .pointer (some ⟨w.heap.size, 0, none⟩), w.alloc (.cells z.cells t), .inl ?_, hR.pushArr zero.length 1 [zero] z.cells t ?_ (by simp) (by simp at hl; simp [hl]) ?_, VR_ptr_new _ _ _ _, Ext.push _ _ _ _ rfl, below_alloc hR.base _⟩
 ·simp [execOp, hop, Instr.alloc, zeroValue, typeInfo, hi, hzz, newVar, newRow]
 ·intro x hx; simp at hx; subst hx; exact ⟨rfl, hc⟩
 ·simp only [List.flatten_cons, List.flatten_nil, List.append_nil, List.length_cons, List.length_nil, Nat.zero_add, Nat.one_mul]
  rw [List.take_of_length_le (by omega)]; exact hv
theorem s_box {x : AArg} {x' : Operand} {t : TypeId} (hop : o.op = .box t x') (h1 : argOk x x' = true)
 (hs : aStep T H (.box x) = some (v, H')) (hR : RelH B σ H w) (hT : VRs σ H T a.tmps.toList) : Yields P B σ H w (execOp a.eval o) v H' := by
 have e1 := VR_arg hT h1
 simp only [aStep, Option.map_eq_some_iff, Prod.mk.injEq] at hs
 obtain ⟨l, hl, rfl, rfl⟩ := hs
 obtain ⟨hv, hc⟩ := asCells_VR hl e1
 have hll := hv.length
 refine ⟨_, .pointer (some ⟨w.heap.size, 0, none⟩), w.alloc (.cells (a.eval x').cells t), .inl ?_, hR.pushArr l.length 1 [l] _ t ?_ (by simp) (by simp at hll; simp [hll]) ?_, VR_ptr_new _ _ _ _, Ext.push _ _ _ _ rfl, below_alloc hR.base _⟩
 ·simp [execOp, hop, Instr.box, newVar, newRow]
 ·intro x hx; simp at hx; subst hx; exact ⟨rfl, hc⟩
 ·simp only [List.flatten_cons, List.flatten_nil, List.append_nil, List.length_cons, List.length_nil, Nat.zero_add, Nat.one_mul]
  rw [List.take_of_length_le (by omega)]; exact hv
theorem foldl_put : ∀ (l : List Value) (k : Nat) (off : Nat) (cs : Array Value), (l.zipIdx k).foldl (fun cs (x : Value × Nat) => cs.setIfInBounds (off + x.2) x.1) cs = (putAt cs.toList (off + k) l).toArray
 | [], k, off, cs => by simp
 | x :: l, k, off, cs => by
  rw [List.zipIdx_cons, List.foldl_cons, foldl_put l (k + 1) off]
  simp [Nat.add_assoc]
theorem fold_cells (u : Value) (off : Nat) (cs : Array Value) : (u.cells.zipIdx.foldl (fun cs (x : Value × Nat) => cs.setIfInBounds (off + x.2) x.1) cs) = (putAt cs.toList off u.cells.toList).toArray := by
 rw [← Array.foldl_toList, Array.toList_zipIdx, foldl_put]
 simp
theorem fill_step (place : Nat → Option (Nat × Nat)) (cells : Array Value) (i : Nat) (u : Value) (rest : List (Nat × Value)) (off size : Nat) (hp : place i = some (off, size)) (h1 : u.cells.size = size) (h2 : off + size ≤ cells.size) :
 Instr.fill place cells ((i, u) :: rest) = Instr.fill place (putAt cells.toList off u.cells.toList).toArray rest := by
 simp only [Instr.fill, hp]
 rw [if_neg (by simp; omega)]
 rw [← fold_cells]
theorem fill_parts (place : Nat → Option (Nat × Nat)) (placeT : Nat → Option (Nat × TypeId)) (hpl : ∀ i o t, placeT i = some (o, t) → ∀ n, sizeOk P t n = true → place i = some (o, n)) (hT : VRs σ H T a.tmps.toList) :
 ∀ (parts : List (Nat × Nat × AArg)) (parts' : List (Nat × Operand)) (cells : List AVal) (cs : Array Value) (l : List AVal), partsOk P placeT parts parts' = true → putParts T cells parts = some l →
  VRs σ H cells cs.toList → cells.all AVal.cell = true → ∃ cs', Instr.fill place cs (parts'.map fun (i, x) => (i, a.eval x)) = some cs' ∧ VRs σ H l cs'.toList ∧ l.all AVal.cell = true
 | [], [], cells, cs, l, _, h, hv, hc => by
  simp only [putParts, Option.some.injEq] at h; subst h
  exact ⟨cs, by simp [Instr.fill], hv, hc⟩
 | [], _ :: _, _, _, _, h, _, _, _ => by simp [partsOk] at h
 | _ :: _, [], _, _, _, h, _, _, _ => by simp [partsOk] at h
 | (off, size, x) :: parts, (i, x') :: parts', cells, cs, l, hok, h, hv, hc => by
  simp only [partsOk, Bool.and_eq_true] at hok
  obtain ⟨⟨h1, h2⟩, h3⟩ := hok
  split at h1
  case h_2 => cases h1
  rename_i o t hpi
  simp only [Bool.and_eq_true, beq_iff_eq] at h1
  obtain ⟨rfl, hsz⟩ := h1
  simp only [putParts] at h
  split at h
  case h_2 => cases h
  rename_i ys hys
  split at h
  case isFalse => cases h
  rename_i hb
  obtain ⟨rfl, hb⟩ := hb
  obtain ⟨hy, hyc⟩ := asCells_VR hys (VR_arg hT h2)
  have hyl := hy.length
  have hvl := hv.length
  have := fill_step place cs i (a.eval x') (parts'.map fun (i, x) => (i, a.eval x)) o ys.length (hpl i o t hpi _ hsz) (by simp at hyl; omega) (by simp at hvl; omega)
  rw [List.map_cons, this]
  refine fill_parts place placeT hpl hT parts parts' _ _ l h3 h (by simpa using hv.putAt o hy) ?_
  rw [putAt_eq _ _ _ hb, List.all_append, List.all_append]
  rw [List.all_eq_true] at hc
  simp only [Bool.and_eq_true, List.all_eq_true]
  exact ⟨⟨fun y hy => hc y (List.mem_of_mem_take hy), fun y hy => (List.all_eq_true.1 hyc) y hy⟩, fun y hy => hc y (List.mem_of_mem_drop hy)⟩
theorem zeroOk_of {t : TypeId} {zero : List AVal} (hz : zeroOk P t zero = true) : ∃ i z, P.info? t = some i ∧ i.zero = some z ∧ i.size = zero.length ∧ VRs σ H zero z.cells.toList ∧ zero.all AVal.cell = true ∧ (zeroValue t).run P w = .ok z w ∧ (sizeOf t).run P w = .ok zero.length w := by
 unfold zeroOk at hz
 split at hz
 case h_2 => cases hz
 rename_i i hi
 split at hz
 case h_2 => cases hz
 rename_i z hzz
 simp only [Bool.and_eq_true, beq_iff_eq] at hz
 obtain ⟨hz, hsz⟩ := hz
 obtain ⟨hv, hc⟩ := VRs_consts (σ := σ) (H := H) hz
 exact ⟨i, z, hi, hzz, hsz, hv, hc, by simp [zeroValue, typeInfo, hi, hzz], by simp [sizeOf, typeInfo, hi, hsz]⟩
theorem run_places (w : World) : ∀ (fs : List Field), fs.all (fun f => (P.info? f.type).isSome) = true →
 (fs.mapM (m := Sem) fun f => do pure (f.offset, ← sizeOf f.type)).run P w = .ok (fs.map fun f => (f.offset, P.cellsOf f.type)) w
 | [], _ => by simp
 | f :: fs, h => by
  simp only [List.all_cons, Bool.and_eq_true] at h
  obtain ⟨i, hi⟩ := Option.isSome_iff_exists.1 h.1
  have ih := run_places w fs h.2
  simp only [List.mapM_cons, Sem.run_bind, sizeOf, typeInfo, run_program, Result.andThen_ok, hi, Sem.run_pure] at ih ⊢
  rw [ih]
  simp [Program.cellsOf, hi]
theorem s_build {t : TypeId} {zero : List AVal} {parts : List (Nat × Nat × AArg)} {parts' : Array (Nat × Operand)} (hop : o.op = .build t parts') (hz : zeroOk P t zero = true)
 (hp : (∃ fs, P.underlying t = some (.struct fs) ∧ fs.toList.all (fun f => (P.info? f.type).isSome) = true ∧ partsOk P (fun i => (fs[i]?).map fun f => (f.offset, f.type)) parts parts'.toList = true) ∨
  (∃ n e i, P.underlying t = some (.array n e) ∧ P.info? e = some i ∧ partsOk P (fun k => some (k * i.size, e)) parts parts'.toList = true))
 (hs : aStep T H (.build zero parts) = some (v, H')) (hR : RelH B σ H w) (hT : VRs σ H T a.tmps.toList) : Yields P B σ H w (execOp a.eval o) v H' := by
 simp only [aStep, Option.map_eq_some_iff, Prod.mk.injEq] at hs
 obtain ⟨l, hl, rfl, rfl⟩ := hs
 obtain ⟨i0, z, hi, hzz, hsz, hv, hc, hrun, -⟩ := zeroOk_of (P := P) (σ := σ) (H := H) (w := w) hz
 have hmap : (parts'.map fun (i, x) => (i, a.eval x)).toList = parts'.toList.map fun (i, x) => (i, a.eval x) := by simp
 rcases hp with ⟨fs, hu, hall, hok⟩ | ⟨n, e, i, hu, hie, hok⟩
 ·have hpl : ∀ (i o : Nat) (t : TypeId), ((fs[i]?).map fun (f : Field) => (f.offset, f.type)) = some (o, t) → ∀ n, sizeOk P t n = true → ((fs.toList.map fun f => (f.offset, P.cellsOf f.type)).toArray[i]?) = some (o, n) := by
   intro i o t h n hn
   rw [Option.map_eq_some_iff] at h
   obtain ⟨f, hf, hh⟩ := h
   simp only [Prod.mk.injEq] at hh
   obtain ⟨rfl, rfl⟩ := hh
   unfold sizeOk at hn
   split at hn
   case h_2 => cases hn
   rename_i ii hii
   have : ii.size = n := by simpa using hn
   simp [hf, Program.cellsOf, hii, this]
  obtain ⟨cs', hf, hv', hc'⟩ := fill_parts (place := fun i => (fs.toList.map fun f => (f.offset, P.cellsOf f.type)).toArray[i]?) (a := a) _ hpl hT parts parts'.toList zero z.cells l hok hl hv hc
  refine Yields.pure hR (x := .agg cs') (by simp only [VR]; exact ⟨hc', cs', rfl, hv'⟩) ?_
  have hpm : (fs.mapM (m := Sem) fun f => do pure (f.offset, ← sizeOf f.type)).run P w = .ok (fs.toList.map fun f => (f.offset, P.cellsOf f.type)).toArray w := by
   rw [Array.mapM_eq_mapM_toList, Sem.run_map, run_places w fs.toList hall]
   rfl
  simp only [execOp, hop, Instr.build, Sem.run_bind, hrun, Result.andThen_ok, run_underlying hu, hpm, hmap]
  rw [hf]
  simp
 ·obtain ⟨cs', hf, hv', hc'⟩ := fill_parts (place := fun k => some (k * i.size, i.size)) (a := a) _ (by
   intro k o t h n hn
   simp only [Option.some.injEq, Prod.mk.injEq] at h
   obtain ⟨rfl, rfl⟩ := h
   have : i.size = n := by simpa [sizeOk, hie] using hn
   rw [this]) hT parts parts'.toList zero z.cells l hok hl hv hc
  refine Yields.pure hR (x := .agg cs') (by simp only [VR]; exact ⟨hc', cs', rfl, hv'⟩) ?_
  have hse : (sizeOf e).run P w = .ok i.size w := by simp [sizeOf, typeInfo, hie]
  simp only [execOp, hop, Instr.build, Sem.run_bind, hrun, Result.andThen_ok, run_underlying hu, hse, hmap]
  rw [hf]
  simp
theorem fill_elems (hT : VRs σ H T a.tmps.toList) (size : Nat) (hsz : size ≠ 0) :
 ∀ (parts : List (Nat × AArg)) (parts' : List (Nat × Operand)) (xs : List (List AVal)) (cs : Array Value) (ys : List (List AVal)), elemsOk parts parts' = true → putElems T size xs parts = some ys →
  VRs σ H xs.flatten cs.toList → (∀ x ∈ xs, x.length = size ∧ x.all AVal.cell = true) →
  ∃ cs', Instr.fill (fun i => some (i * size, size)) cs (parts'.map fun (i, x) => (i, a.eval x)) = some cs' ∧ VRs σ H ys.flatten cs'.toList ∧ (∀ x ∈ ys, x.length = size ∧ x.all AVal.cell = true) ∧ ys.length = xs.length ∧ cs'.size = cs.size
 | [], [], xs, cs, ys, _, h, hv, hc => by
  simp only [putElems, Option.some.injEq] at h; subst h
  exact ⟨cs, by simp [Instr.fill], hv, hc, rfl, rfl⟩
 | [], _ :: _, _, _, _, h, _, _, _ => by simp [elemsOk] at h
 | _ :: _, [], _, _, _, h, _, _, _ => by simp [elemsOk] at h
 | (i, x) :: parts, (i', x') :: parts', xs, cs, ys, hok, h, hv, hc => by
  simp only [elemsOk, Bool.and_eq_true, beq_iff_eq] at hok
  obtain ⟨⟨rfl, h2⟩, h3⟩ := hok
  simp only [putElems] at h
  split at h
  case h_2 => cases h
  rename_i zs hzs
  split at h
  case isFalse => cases h
  rename_i hb
  obtain ⟨hzl, hb⟩ := hb
  obtain ⟨hy, hyc⟩ := asCells_VR hzs (VR_arg hT h2)
  have hyl := hy.length
  have hvl := hv.length
  have hfl := flat_length size xs (fun x hx => (hc x hx).1)
  have hle : i * size + size ≤ xs.length * size := by
   have : (i + 1) * size ≤ xs.length * size := Nat.mul_le_mul_right _ hb
   rw [Nat.add_mul] at this; omega
  have := fill_step (fun i => some (i * size, size)) cs i (a.eval x') (parts'.map fun (i, x) => (i, a.eval x)) (i * size) size rfl (by simp at hyl; omega) (by rw [hfl] at hvl; have : cs.toList.length = cs.size := rfl; omega)
  rw [List.map_cons, this]
  have hset := flat_set size xs (fun x hx => (hc x hx).1) i zs hzl hb
  obtain ⟨cs', g1, g2, g3, g4, g5⟩ := fill_elems hT size hsz parts parts' (xs.set i zs) (putAt cs.toList (i * size) (a.eval x').cells.toList).toArray ys h3 h (by rw [hset]; simpa using hv.putAt (i * size) hy) (by
   intro y hy
   rcases List.mem_or_eq_of_mem_set hy with hy | rfl
   ·exact hc y hy
   ·exact ⟨hzl, hyc⟩)
  exact ⟨cs', g1, g2, g3, by simpa using g4, by rw [g5]; simp [putAt_length]⟩
theorem VRs_zeros (z : Value) (zero : List AVal) (hv : VRs σ H zero z.cells.toList) (n : Nat) (m : Nat) (hmn : m ≤ n) (hpos : 0 < zero.length) :
 VRs σ H (List.replicate m zero).flatten ((((Array.range (n * zero.length)).map (fun i => z.cells[i % z.cells.size]!)).toList).take (m * zero.length)) := by
 have hl : z.cells.size = zero.length := by have := hv.length; simp at this; omega
 have hmul : m * zero.length ≤ n * zero.length := Nat.mul_le_mul_right _ hmn
 have hfl : (List.replicate m zero).flatten.length = m * zero.length := by simp
 rw [VRs_iff]
 have hq : ∀ (f : Nat → Value) (k : Nat), ((Array.range k).map f).toList.length = k := fun f k => by simp
 refine ⟨by rw [hfl, List.length_take, hq]; omega, fun i h h' => ?_⟩
 have hi : i < m * zero.length := by omega
 have e1 : (List.replicate m zero).flatten[i]? = zero[i % zero.length]? := flat_replicate m zero i hi
 have hm : i % zero.length < zero.length := Nat.mod_lt _ hpos
 rw [List.getElem?_eq_getElem h, List.getElem?_eq_getElem hm] at e1
 injection e1 with e1
 rw [e1]
 simp only [List.getElem_take, Array.getElem_toList, Array.getElem_map, Array.getElem_range, hl]
 obtain ⟨v, hv, hr⟩ := hv.get (i := i % zero.length) (List.getElem?_eq_getElem hm)
 rw [Array.getElem?_toList] at hv
 rw [getElem!_def, hv]
 exact hr
theorem VR_slice_new (s : Nat) (xs : List (List AVal)) (room n len : Nat) (full : Bool) (hl : xs.length = len) (hc : len ≤ room) (hf : full = true → room = len) :
 VR (σ.upd H.length ⟨n, 0, room⟩) (H ++ [.arr s xs false]) (.slice H.length len 0 len full) (.slice (some ⟨n, 0, none⟩) len room) := by
 simp only [VR]
 exact ⟨s, xs, false, some ⟨n, 0, none⟩, room, by simp, by omega, by omega, rfl, hc, hf, (fun hh => nomatch hh), (fun _ => by simp [Sig.upd])⟩
theorem s_bsl {t e : TypeId} {size n : Nat} {zero : List AVal} {parts : List (Nat × AArg)} {parts' : Array (Nat × Operand)} (hop : o.op = .buildSlice t n parts') (hz : zeroOk P e zero = true)
 (hu : P.underlying t = some (.slice e)) (hzl : zero.length = size) (hsz : size ≠ 0) (hok : elemsOk parts parts'.toList = true) (hbig : n * size ≤ 16777216)
 (hs : aStep T H (.bsl size n zero parts) = some (v, H')) (hR : RelH B σ H w) (hT : VRs σ H T a.tmps.toList) : Yields P B σ H w (execOp a.eval o) v H' := by
 simp only [aStep, Option.map_eq_some_iff, Prod.mk.injEq] at hs
 obtain ⟨ys, hl, rfl, rfl⟩ := hs
 obtain ⟨i0, z, hi, hzz, hsz0, hv, hc, hrun, hsr⟩ := zeroOk_of (P := P) (σ := σ) (H := H) (w := w) hz
 have hmap : (parts'.map fun (i, x) => (i, a.eval x)).toList = parts'.toList.map fun (i, x) => (i, a.eval x) := by simp
 have hz0 : z.cells.size = zero.length := by have := hv.length; simp at this; omega
 have hrep : ∀ x ∈ List.replicate n zero, x.length = size ∧ x.all AVal.cell = true := fun x hx => by rw [(List.mem_replicate.1 hx).2]; exact ⟨hzl, hc⟩
 have hvz := VRs_zeros z zero hv n n (Nat.le_refl _) (by omega)
 rw [List.take_of_length_le (by simp)] at hvz
 obtain ⟨cs', hf, hv', hc', hl', hs'⟩ := fill_elems (a := a) hT size hsz parts parts'.toList (List.replicate n zero) _ ys hok hl hvz hrep
 simp only [List.length_replicate] at hl'
 simp only [Array.size_map, Array.size_range] at hs'
 refine ⟨_, .slice (some ⟨w.heap.size, 0, none⟩) n n, w.alloc (.cells cs' e), .inl ?_, hR.pushArr size n ys cs' e hc' (by omega) (by rw [hs', hzl]) ?_, VR_slice_new size ys n w.heap.size n true hl' (Nat.le_refl _) (fun _ => rfl), Ext.push _ _ _ _ rfl, below_alloc hR.base _⟩
 ·rw [hzl] at hsr
  simp only [execOp, hop, Instr.buildSlice, Sem.run_bind, run_underlying hu, Result.andThen_ok, hsr]
  rw [if_neg (by omega)]
  by_cases h0 : n * size = 0
  ·have hn0 : n = 0 := by rcases Nat.mul_eq_zero.1 h0 with h | h <;> omega
   subst hn0
   simp only [h0, if_true, Sem.run_pure, Result.andThen_ok, Sem.run_bind]
   rw [hmap]
   have : Array.map (fun x => (#[] : Array Value)[x % (#[] : Array Value).size]!) (Array.range 0) = Array.map (fun i => z.cells[i % z.cells.size]!) (Array.range (0 * zero.length)) := by simp
   rw [this, hf]
   simp [newRow]
  ·simp only [h0, if_false, Sem.run_bind, hrun, Result.andThen_ok, Sem.run_pure]
   rw [hmap, ← hzl, hzl, ← hzl]
   rw [hzl] at *
   rw [hf]
   simp [newRow]
 ·rw [List.take_of_length_le (by simp; rw [hs', hl', hzl]; exact Nat.le_refl _)]; exact hv'
theorem wrap_i64 (n : Int) (h : -9223372036854775808 ≤ n) (h' : n ≤ 9223372036854775807) : IntKind.i64.wrap n = n := IntWalk.i64_in n ⟨h, h'⟩
theorem s_mks {t e : TypeId} {size bytes : Nat} {zero : List AVal} {l c : AArg} {l' c' : Operand} {i : TypeInfo} (hop : o.op = .makeSlice t l' c') (h1 : argOk l l' = true) (h2 : argOk c c' = true) (hsz : size ≠ 0)
 (hu : P.underlying t = some (.slice e)) (hz : zeroOk P e zero = true) (hzl : zero.length = size) (hi : P.info? e = some i) (hby : i.bytes = bytes)
 (hs : aStep T H (.mks size bytes zero l c) = some (v, H')) (hR : RelH B σ H w) (hT : VRs σ H T a.tmps.toList) : Yields P B σ H w (execOp a.eval o) v H' := by
 have e1 := VR_arg hT h1
 have e2 := VR_arg hT h2
 simp only [aStep] at hs
 split at hs
 case h_2 => cases hs
 rename_i k1 ln k2 cn hl hc
 rw [hl] at e1; rw [hc] at e2
 simp only [VR] at e1 e2
 split at hs
 case isFalse => cases hs
 rename_i hb
 obtain ⟨b1, b2, b3, b4⟩ := hb
 simp only [Option.some.injEq, Prod.mk.injEq] at hs
 obtain ⟨rfl, rfl⟩ := hs
 obtain ⟨i0, z, hi0, hzz, hsz0, hv, hcc, hrun, hsr⟩ := zeroOk_of (P := P) (σ := σ) (H := H) (w := w) hz
 rw [hi] at hi0; injection hi0 with hi0; subst hi0
 have hz0 : z.cells.size = zero.length := by have := hv.length; simp at this; omega
 have hrep : ∀ x ∈ List.replicate ln.toNat zero, x.length = size ∧ x.all AVal.cell = true := fun x hx => by rw [(List.mem_replicate.1 hx).2]; exact ⟨hzl, hcc⟩
 have hvz := VRs_zeros z zero hv cn.toNat ln.toNat (by omega) (by omega)
 have w1 : IntKind.i64.wrap ln = ln := wrap_i64 ln (by omega) (by omega)
 have w2 : IntKind.i64.wrap cn = cn := wrap_i64 cn (by omega) (by omega)
 have hbc : (bytes : Int) * cn ≤ 140737488355328 := by rw [Int.mul_comm]; exact b3
 refine ⟨_, .slice (some ⟨w.heap.size, 0, none⟩) ln.toNat cn.toNat, w.alloc (.cells ((Array.range (cn.toNat * zero.length)).map (fun i => z.cells[i % z.cells.size]!)) e), .inl ?_,
  hR.pushArr size cn.toNat (List.replicate ln.toNat zero) _ e hrep (by simp; omega) (by simp [hzl]) (by simp only [List.length_replicate]; rw [← hzl]; exact hvz),
  VR_slice_new size _ cn.toNat w.heap.size ln.toNat (decide (ln = cn)) (by simp) (by omega) (fun h => by rw [of_decide_eq_true h]), Ext.push _ _ _ _ rfl, below_alloc hR.base _⟩
 have hroom : ∀ n, (askRoom n).run P w = .ok () w := by intro n; unfold askRoom; split <;> rfl
 simp only [execOp, hop, e1, e2, Instr.makeSlice, Sem.run_bind, run_underlying hu, Result.andThen_ok, asInt, asIntOf, Sem.run_pure, typeInfo, run_program, hi, hby, w1, w2]
 rw [if_neg (by simp; omega)]
 simp only [Sem.run_bind, hroom, Result.andThen_ok, hsr]
 by_cases h0 : cn.toNat * zero.length = 0
 ·have hn0 : cn.toNat = 0 := by rcases Nat.mul_eq_zero.1 h0 with h | h <;> omega
  simp only [h0, if_true, Sem.run_pure, Result.andThen_ok, Sem.run_bind]
  simp [newRow, show Array.range 0 = #[] from rfl]
 ·simp only [h0, if_false, Sem.run_bind, hrun, Result.andThen_ok, Sem.run_pure]
  simp [newRow]
theorem s_st {size : Nat} {x y : AArg} {x' y' : Operand} {t : TypeId} (hop : o.op = .store t x' y') (h1 : argOk x x' = true) (h2 : argOk y y' = true) (hsz : sizeOk P t size = true)
 (hs : aStep T H (.st size x y) = some (v, H')) (hR : RelH B σ H w) (hT : VRs σ H T a.tmps.toList) : Yields P B σ H w (execOp a.eval o) v H' := by
 have e1 := VR_arg hT h1
 have e2 := VR_arg hT h2
 simp only [aStep] at hs
 split at hs
 case h_2 => cases hs
 rename_i ob m i j ys hx hy
 rw [hx] at e1
 obtain ⟨hvy, hcy⟩ := asCells_VR hy e2
 split at hs
 case h_2 => cases hs
 rename_i s xs ho
 split at hs
 case isFalse => cases hs
 rename_i hlen
 split at hs
 case h_2 => cases hs
 rename_i c hc
 split at hs
 case isFalse => cases hs
 rename_i hjk
 obtain ⟨rfl, hjk⟩ := hjk
 simp only [Option.some.injEq, Prod.mk.injEq] at hs
 obtain ⟨rfl, rfl⟩ := hs
 simp only [VR] at e1
 obtain ⟨s', xs', ro', ad, ho', hn, hv, ha⟩ := e1
 rw [ho] at ho'; injection ho' with ho'; injection ho' with g1 g2 g3; subst g1; subst g2; subst g3
 have hilt : i < xs.length := (List.getElem?_eq_some_iff.1 hc).1
 have hoff : (σ ob).off = 0 := by
  obtain ⟨q1, q2, q3⟩ := hR.obj ho
  obtain ⟨_, _, _, _, _, q, _⟩ := q3.resolve_left (by omega)
  exact (q rfl).2.1
 have hBb : ¬ B (σ ob).blk := by
  obtain ⟨q1, q2, q3⟩ := hR.obj ho
  obtain ⟨_, _, _, _, _, q, _⟩ := q3.resolve_left (by omega)
  exact (q rfl).1
 rw [ha hlen, hoff, Nat.zero_add] at hv
 have hyl := hvy.length
 have hth := hR.there ho hilt j ys.length hjk
 have hsy := hsz
 unfold sizeOk at hsy
 split at hsy
 case h_2 => cases hsy
 rename_i ii hii
 have hszz : ii.size = ys.length := by simpa using hsy
 have hone : ∀ u ∈ (a.eval y').cells.toList, u.oneCell' = true := by
  intro u hu
  obtain ⟨k, hk, rfl⟩ := List.mem_iff_getElem.1 hu
  have hk' : k < ys.length := by omega
  have := (VRs_iff.1 hvy).2 k hk' hk
  have := this.oneCell ((List.all_eq_true.1 hcy) _ (List.getElem_mem hk'))
  revert this
  cases (a.eval y').cells.toList[k] <;> simp [cellB, Value.oneCell']
 have hst := run_storeCells_cells (P := P) (σ ob).blk (i * s + j) (a.eval y').cells.toList 0 w (fun k hk => by simpa using (hth k (by omega)).1) (fun k hk => by simpa using (hth k (by omega)).2) hone
 simp only [Nat.add_zero] at hst
 refine ⟨σ, undef, w.setCells (σ ob).blk (i * s + j) (a.eval y').cells.toList, .inr ⟨?_, rfl⟩, hR.write ys _ j ho hc hjk hvy hcy, by simp [VR], (Alike.set_arr ho (by simp)).ext σ, ?_⟩
 ·have hcs : (a.eval y').cells.size = ii.size := by rw [hszz, hyl]; rfl
  simp [execOp, hop, hv, Instr.storeAt, Instr.sureAddr, storeVar, sizeOf, typeInfo, hii, hcs, hst]
 ·clear hst hth
  have : ∀ (vs : List Value) (k : Nat) (w1 : World), Kept B w w1 → Kept B w (w1.setCells (σ ob).blk k vs) := by
   intro vs
   induction vs with
   | nil => intro k w1 h; exact h
   | cons u vs ih => intro k w1 h; exact ih _ _ (h.setCell (p := ⟨(σ ob).blk, k, none⟩) hBb u)
  exact this _ _ _ (Kept.refl _ _)
end steps
end Go.Ax
