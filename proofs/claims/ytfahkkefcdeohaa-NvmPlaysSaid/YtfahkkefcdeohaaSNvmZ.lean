/- Memories of rows, with power and no fuse: what the methods answer. Conditions: none. -/
import Derived.Test.YtfahkkefcdeohaaSRowZ
set_option linter.unusedSimpArgs false
set_option linter.unusedVariables false
namespace Go.Ax.M
open Go Go.Ax
def memO (oR n : Nat) (f off : Bool) (c : Int) : AObj := .arr 5 [[.slice oR n 0 n f, .bool off, .int .i64 c, .int .i64 0, .lit (.slice none 0 0)]] false
def rowsO (rows : List RowM) : AObj := .arr 18 (rows.map RowM.cells) false
structure MemAt (H : Heap) (oM oR n : Nat) (f off : Bool) (c : Int) (rows : List RowM) : Prop where
  mem : H[oM]? = some (memO oR n f off c)
  robj : H[oR]? = some (rowsO rows)
  len : rows.length = n
  ok : ∀ r ∈ rows, r.ok
  le : n ≤ 4096
  c0 : 0 ≤ c
  c1 : c ≤ 1000000
def row (rows : List RowM) (i : Nat) : RowM := rows.getD i row0
def mayN (off : Bool) (at_ many : Int) : Int := bif off then 12 else bif decide (at_ < 0) || decide (many ≤ at_) then 1 else 0
theorem w64' {n : Int} (h0 : -9223372036854775808 ≤ n) (h : n ≤ 9223372036854775807) : IntKind.wrap .i64 n = n := by
  simp [IntKind.wrap, IntKind.bits, IntKind.signed]; omega
theorem MemAt.ne {H : Heap} {oM oR n : Nat} {f off : Bool} {c : Int} {rows : List RowM} (h : MemAt H oM oR n f off c rows) : oM ≠ oR := by
  rintro rfl; have := h.mem; rw [h.robj] at this; simp [rowsO, memO] at this
theorem MemAt.rowAt {H : Heap} {oM oR n : Nat} {f off : Bool} {c : Int} {rows : List RowM} (h : MemAt H oM oR n f off c rows) {i : Nat} (hi : i < n) : RowAt H oR n i (rows.map RowM.cells) (row rows i) := by
  have hl : i < rows.length := by rw [h.len]; exact hi
  refine ⟨h.robj, by rw [List.length_map, h.len], by simp [row, List.getD, hl], ?_⟩
  have : row rows i ∈ rows := by simp [row, List.getD, hl]
  exact h.ok _ this
theorem rows_set {rows : List RowM} {i : Nat} {r : RowM} : (rows.map RowM.cells).set i r.cells = (rows.set i r).map RowM.cells := by rw [List.map_set]
theorem MemAt.count {H : Heap} {oM oR n : Nat} {f off : Bool} {c : Int} {rows : List RowM} (h : MemAt H oM oR n f off c rows) (hc : c + 1 ≤ 1000000) : MemAt (H.set oM (memO oR n f off (c + 1))) oM oR n f off (c + 1) rows := by
  have hm := (List.getElem?_eq_some_iff.1 h.mem).1
  refine ⟨List.getElem?_set_self hm, by rw [List.getElem?_set_ne h.ne]; exact h.robj, h.len, h.ok, h.le, by have := h.c0; omega, hc⟩
end Go.Ax.M
namespace Go.Proofs.Ytfahkkefcdeohaa.Ax
open Go Go.Ax Go.Ax.M
section
variable {H : Heap} {K : AVal → Heap → Prop} {oM oR n : Nat} {f off : Bool} {c : Int} {rows : List RowM}

theorem nvm_New_spec {n : Nat} (h1 : 1 ≤ n) (h2 : n ≤ 4096) (hK : K (.tup [.ptr (H.length + 1) 1 0 0, .int .i64 0]) (H ++ [rowsO (List.replicate n row0), memO H.length n true false 0])) : ACalls Try.prog 14 [.int .i64 (n : Int)] H K := by
  have c1 : ((n : Int) < 1) = False := eq_false (by omega)
  have c2 : ((4096 : Int) < (n : Int)) = False := eq_false (by omega)
  have c3 : ((n : Int) * 136 ≤ 140737488355328) = True := eq_true (by omega)
  have c4 : ((n : Int) ≤ 9223372036854775807) = True := eq_true (by omega)
  have e : rowsO (List.replicate n row0) = .arr 18 (List.replicate n [.int .u64 0, .int .u64 0, .int .u64 0, .int .u64 0, .int .u64 0, .int .u64 0, .int .u64 0, .int .u64 0, .int .u64 0, .int .u64 0, .int .u64 0, .int .u64 0, .int .u64 0, .int .u64 0, .int .u64 0, .int .u64 0, .bool false, .bool false]) false := by
    simp only [rowsO, List.map_replicate]; rfl
  rw [e] at hK
  refine ACalls.into ok14 (Nat.le_of_ble_eq_true rfl) ?_; (try simp only [c14, wpx_of k14_0.eq_1, wpx_of k14_1.eq_1, wpx_of k14_2.eq_1, c1, c2, c3, c4, Int.le_refl, n0_le, Int.toNat_natCast, go_sem]); repeat' ((first
    | refine And.intro (Or.inr rfl) ?_
    | ((first | refine cB ?_ ?_ | refine gT ?_ ?_ | refine gF ?_ ?_ | refine dT ?_ ?_ | refine dF ?_ ?_) <;> intro hc)) <;> try simp only [*, wpx_of k14_0.eq_1, wpx_of k14_1.eq_1, wpx_of k14_2.eq_1, c1, c2, c3, c4, Int.le_refl, n0_le, Int.toNat_natCast, go_sem])
  all_goals exact hK
end
end Go.Proofs.Ytfahkkefcdeohaa.Ax
