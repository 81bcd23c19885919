/- Memories of rows, with power and no fuse: what the methods answer. Conditions: none. -/
import Derived.Test.YtfahkkefcdeohaaSRowZ
set_option linter.unusedSimpArgs false
set_option linter.unusedVariables false
namespace Go.Ax.M
open Go Go.Ax
def memO (oR n : Nat) (f off : Bool) (c : Int) : AObj := .arr 5 [[.slice oR n 0 n f, .bool off, .int .i64 c, .int .i64 0, .lit (.slice none 0 0)]] false
def rowsO (rows : List RowM) : AObj := .arr 18 (rows.map RowM.cells) false
structure MemAt (H : Heap) (oM oR n : Nat) (f off : Bool) (c : Int) (rows : List RowM) : Prop where
  mem : H[oM]? = some (memO oR n f off c)
  robj : H[oR]? = some (rowsO rows)
  len : rows.length = n
  ok : ∀ r ∈ rows, r.ok
  le : n ≤ 4096
  c0 : 0 ≤ c
  c1 : c ≤ 1000000
def row (rows : List RowM) (i : Nat) : RowM := rows.getD i row0
def mayN (off : Bool) (at_ many : Int) : Int := bif off then 12 else bif decide (at_ < 0) || decide (many ≤ at_) then 1 else 0
theorem w64' {n : Int} (h0 : -9223372036854775808 ≤ n) (h : n ≤ 9223372036854775807) : IntKind.wrap .i64 n = n := by
  simp [IntKind.wrap, IntKind.bits, IntKind.signed]; omega
theorem MemAt.ne {H : Heap} {oM oR n : Nat} {f off : Bool} {c : Int} {rows : List RowM} (h : MemAt H oM oR n f off c rows) : oM ≠ oR := by
  rintro rfl; have := h.mem; rw [h.robj] at this; simp [rowsO, memO] at this
theorem MemAt.rowAt {H : Heap} {oM oR n : Nat} {f off : Bool} {c : Int} {rows : List RowM} (h : MemAt H oM oR n f off c rows) {i : Nat} (hi : i < n) : RowAt H oR n i (rows.map RowM.cells) (row rows i) := by
  have hl : i < rows.length := by rw [h.len]; exact hi
  refine ⟨h.robj, by rw [List.length_map, h.len], by simp [row, List.getD, hl], ?_⟩
  have : row rows i ∈ rows := by simp [row, List.getD, hl]
  exact h.ok _ this
theorem rows_set {rows : List RowM} {i : Nat} {r : RowM} : (rows.map RowM.cells).set i r.cells = (rows.set i r).map RowM.cells := by rw [List.map_set]
theorem MemAt.count {H : Heap} {oM oR n : Nat} {f off : Bool} {c : Int} {rows : List RowM} (h : MemAt H oM oR n f off c rows) (hc : c + 1 ≤ 1000000) : MemAt (H.set oM (memO oR n f off (c + 1))) oM oR n f off (c + 1) rows := by
  have hm := (List.getElem?_eq_some_iff.1 h.mem).1
  refine ⟨List.getElem?_set_self hm, by rw [List.getElem?_set_ne h.ne]; exact h.robj, h.len, h.ok, h.le, by have := h.c0; omega, hc⟩
end Go.Ax.M
namespace Go.Proofs.Ytfahkkefcdeohaa.Ax
open Go Go.Ax Go.Ax.M
section
variable {H : Heap} {K : AVal → Heap → Prop} {oM oR n : Nat} {f off : Bool} {c : Int} {rows : List RowM}

theorem nvm_may_spec {at_ many : Int} (h : H[oM]? = some (memO oR n f off c)) (hK : K (.int .i64 (mayN off at_ many)) H) : ACalls Try.prog 46 [.ptr oM 1 0 0, .int .i64 at_, .int .i64 many] H K := by
  have k1 : Keeps H oM (.arr 5 [[.slice oR n 0 n f, .bool off, .int .i64 c, .int .i64 0, .lit (.slice none 0 0)]] false) := Keeps.of h
  have k0 := k1.at
  cases off with
  | true =>
    refine ACalls.into ok46 (Nat.le_of_ble_eq_true rfl) ?_; (try simp only [c46, wpx_of k46_0.eq_1, wpx_of k46_1.eq_1, wpx_of k46_2.eq_1, wpx_of k46_3.eq_1, k0, go_sem]); repeat' ((first
    | refine And.intro (Or.inr rfl) ?_
    | ((first | refine cB ?_ ?_ | refine gT ?_ ?_ | refine gF ?_ ?_ | refine dT ?_ ?_ | refine dF ?_ ?_) <;> intro hc)) <;> try simp only [*, wpx_of k46_0.eq_1, wpx_of k46_1.eq_1, wpx_of k46_2.eq_1, wpx_of k46_3.eq_1, k0, go_sem])
    all_goals exact hK
  | false =>
    by_cases h0 : at_ < 0 <;> by_cases h1 : many ≤ at_
    all_goals
      simp only [mayN, h0, h1, decide_true, decide_false, Bool.true_or, Bool.or_true, Bool.or_self, cond_true, cond_false, Bool.or_false] at hK
      refine ACalls.into ok46 (Nat.le_of_ble_eq_true rfl) ?_; (try simp only [c46, wpx_of k46_0.eq_1, wpx_of k46_1.eq_1, wpx_of k46_2.eq_1, wpx_of k46_3.eq_1, k0, h0, h1, go_sem]); repeat' ((first
    | refine And.intro (Or.inr rfl) ?_
    | ((first | refine cB ?_ ?_ | refine gT ?_ ?_ | refine gF ?_ ?_ | refine dT ?_ ?_ | refine dF ?_ ?_) <;> intro hc)) <;> try simp only [*, wpx_of k46_0.eq_1, wpx_of k46_1.eq_1, wpx_of k46_2.eq_1, wpx_of k46_3.eq_1, k0, h0, h1, go_sem])
      all_goals exact hK

theorem nvm_burn_spec (h : MemAt H oM oR n f off c rows) (hK : K (.bool true) (H.set oM (memO oR n f off (c + 1)))) : ACalls Try.prog 47 [.ptr oM 1 0 0] H K := by
  have k1 : Keeps H oM (.arr 5 [[.slice oR n 0 n f, .bool off, .int .i64 c, .int .i64 0, .lit (.slice none 0 0)]] false) := Keeps.of h.mem
  have k0 := k1.at
  have hc0 := h.c0
  have hc1 := h.c1
  have hw : IntKind.wrap .i64 (c + 1) = c + 1 := w64' (by omega) (by omega)
  refine ACalls.into ok47 (Nat.le_of_ble_eq_true rfl) ?_; (try simp only [c47, wpx_of k47_0.eq_1, wpx_of k47_1.eq_1, wpx_of k47_2.eq_1, wpx_of k47_3.eq_1, wpx_of k47_4.eq_1, k0, hw, go_sem]); repeat' ((first
    | refine And.intro (Or.inr rfl) ?_
    | ((first | refine cB ?_ ?_ | refine gT ?_ ?_ | refine gF ?_ ?_ | refine dT ?_ ?_ | refine dF ?_ ?_) <;> intro hc)) <;> try simp only [*, wpx_of k47_0.eq_1, wpx_of k47_1.eq_1, wpx_of k47_2.eq_1, wpx_of k47_3.eq_1, wpx_of k47_4.eq_1, k0, hw, go_sem])
  all_goals exact hK

theorem nvm_Load_spec {at_ q : Int} {i : Nat} (h : MemAt H oM oR n f false c rows) (hat : at_ = 8 * (i : Int) + q) (hq : 0 ≤ q ∧ q < 8) (hi : i < n) (hK : K (.tup [.int .u64 (rowLoad (row rows i) q), .int .i64 0]) H) :
    ACalls Try.prog 16 [.ptr oM 1 0 0, .int .i64 at_] H K := by
  have k1 : Keeps H oM (.arr 5 [[.slice oR n 0 n f, .bool false, .int .i64 c, .int .i64 0, .lit (.slice none 0 0)]] false) := Keeps.of h.mem
  have k0 := k1.at
  have k2 : H[oR]? = some (.arr 18 (rows.map RowM.cells) false) := h.robj
  have hl : (rows.map RowM.cells).length = n := by rw [List.length_map, h.len]
  have hle := h.le
  have hm : mayN false at_ ((n : Int) * 8) = 0 := by
    simp only [mayN, cond_false]
    rw [decide_eq_false (by omega), decide_eq_false (by omega)]; rfl
  have hn8 : IntKind.wrap .i64 ((n : Int) * 8) = (n : Int) * 8 := w64' (by omega) (by omega)
  have hd : IntKind.wrap .i64 (at_.tdiv 8) = (i : Int) := by
    rw [Int.tdiv_eq_ediv_of_nonneg (by omega), show at_ / 8 = (i : Int) by omega]; exact w64' (by omega) (by omega)
  have hr : at_.tmod 8 = q := by rw [Int.tmod_eq_emod_of_nonneg (by omega)]; omega
  have hil : ((i : Int) < (n : Int)) = True := eq_true (by omega)
  have hr0 := h.rowAt hi
  clear hat
  refine ACalls.into ok16 (Nat.le_of_ble_eq_true rfl) ?_; (try simp only [c16, wpx_of k16_0.eq_1, wpx_of k16_1.eq_1, wpx_of k16_2.eq_1, wpx_of k16_3.eq_1, k0, k2, hl, hm, hn8, hd, hr, hil, n0_le, Int.toNat_natCast, go_sem]); repeat' ((first
    | refine And.intro (Or.inr rfl) ?_
    | ((first | refine cB ?_ ?_ | refine gT ?_ ?_ | refine gF ?_ ?_ | refine dT ?_ ?_ | refine dF ?_ ?_) <;> intro hc)
    | refine nvm_may_spec h.mem ?_
    | refine row_Load_spec hr0 ?_) <;> try simp only [*, wpx_of k16_0.eq_1, wpx_of k16_1.eq_1, wpx_of k16_2.eq_1, wpx_of k16_3.eq_1, k0, k2, hl, hm, hn8, hd, hr, hil, n0_le, Int.toNat_natCast, go_sem])
  all_goals exact hK

theorem nvm_Store_spec {at_ q v : Int} {i : Nat} (h : MemAt H oM oR n f false c rows) (hc : c + 1 ≤ 1000000) (hat : at_ = 8 * (i : Int) + q) (hq : 0 ≤ q ∧ q < 8) (hi : i < n)
    (hK : K (.int .i64 0) ((H.set oM (memO oR n f false (c + 1))).set oR (rowsO (rows.set i (rowStore (row rows i) q v))))) :
    ACalls Try.prog 17 [.ptr oM 1 0 0, .int .i64 at_, .int .u64 v] H K := by
  have k1 : Keeps H oM (.arr 5 [[.slice oR n 0 n f, .bool false, .int .i64 c, .int .i64 0, .lit (.slice none 0 0)]] false) := Keeps.of h.mem
  have k0 := k1.at
  have hle := h.le
  have hm : mayN false at_ ((n : Int) * 8) = 0 := by
    simp only [mayN, cond_false]
    rw [decide_eq_false (by omega), decide_eq_false (by omega)]; rfl
  have hn8 : IntKind.wrap .i64 ((n : Int) * 8) = (n : Int) * 8 := w64' (by omega) (by omega)
  have hd : IntKind.wrap .i64 (at_.tdiv 8) = (i : Int) := by
    rw [Int.tdiv_eq_ediv_of_nonneg (by omega), show at_ / 8 = (i : Int) by omega]; exact w64' (by omega) (by omega)
  have hr : at_.tmod 8 = q := by rw [Int.tmod_eq_emod_of_nonneg (by omega)]; omega
  have hil : ((i : Int) < (n : Int)) = True := eq_true (by omega)
  have h2 := h.count hc
  have hr0 := h2.rowAt hi
  have m0 : (H.set oM (memO oR n f false (c + 1)))[oM]? = some (.arr 5 [[.slice oR n 0 n f, .bool false, .int .i64 (c + 1), .int .i64 0, .lit (.slice none 0 0)]] false) := h2.mem
  have m2 : (H.set oM (memO oR n f false (c + 1)))[oR]? = some (.arr 18 (rows.map RowM.cells) false) := h2.robj
  have hl : (rows.map RowM.cells).length = n := by rw [List.length_map, h.len]
  clear hat
  refine ACalls.into ok17 (Nat.le_of_ble_eq_true rfl) ?_; (try simp only [c17, wpx_of k17_0.eq_1, wpx_of k17_1.eq_1, wpx_of k17_2.eq_1, wpx_of k17_3.eq_1, wpx_of k17_4.eq_1, k0, m0, m2, hl, hm, hn8, hd, hr, hil, n0_le, Int.toNat_natCast, go_sem]); repeat' ((first
    | refine And.intro (Or.inr rfl) ?_
    | ((first | refine cB ?_ ?_ | refine gT ?_ ?_ | refine gF ?_ ?_ | refine dT ?_ ?_ | refine dF ?_ ?_) <;> intro hc)
    | refine nvm_may_spec h.mem ?_
    | refine nvm_burn_spec h ?_
    | refine row_Store_spec hr0 ?_) <;> try simp only [*, wpx_of k17_0.eq_1, wpx_of k17_1.eq_1, wpx_of k17_2.eq_1, wpx_of k17_3.eq_1, wpx_of k17_4.eq_1, k0, m0, m2, hl, hm, hn8, hd, hr, hil, n0_le, Int.toNat_natCast, go_sem])
  all_goals
    simp only [putRow, rows_set]
    exact hK

theorem nvm_Swap_spec {at_ q old v : Int} {i : Nat} (h : MemAt H oM oR n f false c rows) (hc : c + 1 ≤ 1000000) (hat : at_ = 8 * (i : Int) + q) (hq : 0 ≤ q ∧ q < 8) (hi : i < n)
    (h0 : rowLoad (row rows i) q ≠ old → K (.tup [.bool false, .int .i64 0]) H)
    (h1 : rowLoad (row rows i) q = old → K (.tup [.bool true, .int .i64 0]) ((H.set oM (memO oR n f false (c + 1))).set oR (rowsO (rows.set i (rowStore (row rows i) q v))))) :
    ACalls Try.prog 15 [.ptr oM 1 0 0, .int .i64 at_, .int .u64 old, .int .u64 v] H K := by
  have hat' : Hid (at_ = 8 * (i : Int) + q) := hat
  clear hat
  by_cases hl : rowLoad (row rows i) q = old
  · have h1 := h1 hl
    refine ACalls.into ok15 (Nat.le_of_ble_eq_true rfl) ?_; (try simp only [c15, wpx_of k15_0.eq_1, wpx_of k15_1.eq_1, wpx_of k15_2.eq_1, wpx_of k15_3.eq_1, wpx_of k15_4.eq_1, hl, go_sem]); repeat' ((first
    | refine And.intro (Or.inr rfl) ?_
    | ((first | refine cB ?_ ?_ | refine gT ?_ ?_ | refine gF ?_ ?_ | refine dT ?_ ?_ | refine dF ?_ ?_) <;> intro hc)
    | refine nvm_Load_spec h hat' hq hi ?_
    | refine nvm_Store_spec h hc hat' hq hi ?_) <;> try simp only [*, wpx_of k15_0.eq_1, wpx_of k15_1.eq_1, wpx_of k15_2.eq_1, wpx_of k15_3.eq_1, wpx_of k15_4.eq_1, hl, go_sem])
    all_goals exact h1
  · have h0 := h0 hl
    refine ACalls.into ok15 (Nat.le_of_ble_eq_true rfl) ?_; (try simp only [c15, wpx_of k15_0.eq_1, wpx_of k15_1.eq_1, wpx_of k15_2.eq_1, wpx_of k15_3.eq_1, wpx_of k15_4.eq_1, hl, go_sem]); repeat' ((first
    | refine And.intro (Or.inr rfl) ?_
    | ((first | refine cB ?_ ?_ | refine gT ?_ ?_ | refine gF ?_ ?_ | refine dT ?_ ?_ | refine dF ?_ ?_) <;> intro hc)
    | refine nvm_Load_spec h hat' hq hi ?_) <;> try simp only [*, wpx_of k15_0.eq_1, wpx_of k15_1.eq_1, wpx_of k15_2.eq_1, wpx_of k15_3.eq_1, wpx_of k15_4.eq_1, hl, go_sem])
    all_goals exact h0

theorem nvm_New_spec {n : Nat} (h1 : 1 ≤ n) (h2 : n ≤ 4096) (hK : K (.tup [.ptr (H.length + 1) 1 0 0, .int .i64 0]) (H ++ [rowsO (List.replicate n row0), memO H.length n true false 0])) : ACalls Try.prog 14 [.int .i64 (n : Int)] H K := by
  have c1 : ((n : Int) < 1) = False := eq_false (by omega)
  have c2 : ((4096 : Int) < (n : Int)) = False := eq_false (by omega)
  have c3 : ((n : Int) * 136 ≤ 140737488355328) = True := eq_true (by omega)
  have c4 : ((n : Int) ≤ 9223372036854775807) = True := eq_true (by omega)
  have e : rowsO (List.replicate n row0) = .arr 18 (List.replicate n [.int .u64 0, .int .u64 0, .int .u64 0, .int .u64 0, .int .u64 0, .int .u64 0, .int .u64 0, .int .u64 0, .int .u64 0, .int .u64 0, .int .u64 0, .int .u64 0, .int .u64 0, .int .u64 0, .int .u64 0, .int .u64 0, .bool false, .bool false]) false := by
    simp only [rowsO, List.map_replicate]; rfl
  rw [e] at hK
  refine ACalls.into ok14 (Nat.le_of_ble_eq_true rfl) ?_; (try simp only [c14, wpx_of k14_0.eq_1, wpx_of k14_1.eq_1, wpx_of k14_2.eq_1, c1, c2, c3, c4, Int.le_refl, n0_le, Int.toNat_natCast, go_sem]); repeat' ((first
    | refine And.intro (Or.inr rfl) ?_
    | ((first | refine cB ?_ ?_ | refine gT ?_ ?_ | refine gF ?_ ?_ | refine dT ?_ ?_ | refine dF ?_ ?_) <;> intro hc)) <;> try simp only [*, wpx_of k14_0.eq_1, wpx_of k14_1.eq_1, wpx_of k14_2.eq_1, c1, c2, c3, c4, Int.le_refl, n0_le, Int.toNat_natCast, go_sem])
  all_goals exact hK
end
end Go.Proofs.Ytfahkkefcdeohaa.Ax
