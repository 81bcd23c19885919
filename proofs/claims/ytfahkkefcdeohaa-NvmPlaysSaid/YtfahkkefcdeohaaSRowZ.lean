/- Rows: what the methods answer, and what they make of a row. Conditions: none. -/
import Derived.Test.YtfahkkefcdeohaaZT
import Derived.Test.YtfahkkefcdeohaaSLoopZ
set_option linter.unusedSimpArgs false
set_option linter.unusedVariables false
namespace Go.Ax.M
open Go Go.Ax
structure RowM where
  la : List Int
  nw : List Int
  out : Bool
  sent : Bool
def u64s (l : List Int) : List AVal := l.map fun n => .int .u64 n
def RowM.cells (r : RowM) : List AVal := u64s r.la ++ (u64s r.nw ++ [.bool r.out, .bool r.sent])
structure RowM.ok (r : RowM) : Prop where
  la : r.la.length = 8
  nw : r.nw.length = 8
def rowStore (r : RowM) (at_ v : Int) : RowM := if 0 ≤ at_ ∧ at_ < 8 then { r with nw := r.nw.set at_.toNat v, out := true, sent := false } else r
def rowFlush (r : RowM) : RowM := { r with sent := r.sent || r.out }
def rowEvict (r : RowM) : RowM := if r.out then { r with la := r.nw, out := false, sent := false } else r
def rowFence (r : RowM) : RowM := if r.sent then rowEvict r else r
def rowFall (keep : Bool) (r : RowM) : RowM := if keep then rowEvict r else if r.out then { r with nw := r.la, out := false, sent := false } else r
def rowLoad (r : RowM) (at_ : Int) : Int := if 0 ≤ at_ ∧ at_ < 8 then r.nw.getD at_.toNat 0 else 0
def row0 : RowM := ⟨[0, 0, 0, 0, 0, 0, 0, 0], [0, 0, 0, 0, 0, 0, 0, 0], false, false⟩
theorem eight {l : List Int} (h : l.length = 8) : ∃ a0 a1 a2 a3 a4 a5 a6 a7, l = [a0, a1, a2, a3, a4, a5, a6, a7] := by
  match l, h with
  | [a0, a1, a2, a3, a4, a5, a6, a7], _ => exact ⟨_, _, _, _, _, _, _, _, rfl⟩
theorem at_cases {q : Int} (h : 0 ≤ q ∧ q < 8) : q = 0 ∨ q = 1 ∨ q = 2 ∨ q = 3 ∨ q = 4 ∨ q = 5 ∨ q = 6 ∨ q = 7 := by omega
theorem store_ok {r : RowM} (h : r.ok) (q v : Int) : (rowStore r q v).ok := by unfold rowStore; split <;> exact ⟨h.la, by simp [h.nw]⟩
theorem flush_ok {r : RowM} (h : r.ok) : (rowFlush r).ok := ⟨h.la, h.nw⟩
theorem evict_ok {r : RowM} (h : r.ok) : (rowEvict r).ok := by unfold rowEvict; split; exact ⟨h.nw, h.nw⟩; exact h
theorem fence_ok {r : RowM} (h : r.ok) : (rowFence r).ok := by unfold rowFence; split; exact evict_ok h; exact h
theorem fall_ok {r : RowM} (h : r.ok) (k : Bool) : (rowFall k r).ok := by
  unfold rowFall; split
  · exact evict_ok h
  · split
    · exact ⟨h.la, h.la⟩
    · exact h
structure RowAt (H : Heap) (o n i : Nat) (xs : List (List AVal)) (r : RowM) : Prop where
  obj : H[o]? = some (.arr 18 xs false)
  len : xs.length = n
  get : xs[i]? = some r.cells
  ok : r.ok
def putRow (H : Heap) (o : Nat) (xs : List (List AVal)) (i : Nat) (r : RowM) : Heap := H.set o (.arr 18 (xs.set i r.cells) false)
theorem RowAt.self {H : Heap} {o n i : Nat} {xs : List (List AVal)} {r : RowM} (h : RowAt H o n i xs r) : putRow H o xs i r = H := by
  unfold putRow
  have e : xs.set i r.cells = xs := by
    obtain ⟨hl, hh⟩ := List.getElem?_eq_some_iff.1 h.get; rw [← hh]; simp
  rw [e]; exact set_same h.obj
end Go.Ax.M
namespace Go.Proofs.Ytfahkkefcdeohaa.Ax
open Go Go.Ax Go.Ax.M
section
variable {H : Heap} {K : AVal → Heap → Prop} {o n i : Nat} {xs : List (List AVal)} {r : RowM}

theorem row_in_spec {q : Int} (h : K (.bool (decide (0 ≤ q ∧ q < 8))) H) : ACalls Try.prog 44 [.int .i64 q] H K := by
  refine ACalls.tidy ?_
  by_cases h0 : 0 ≤ q <;> by_cases h1 : q < 8
  all_goals
    refine ACalls.into ok44 (Nat.le_of_ble_eq_true rfl) ?_; (try simp only [c44, wpx_of k44_0.eq_1, h0, h1, go_sem]); repeat' ((first
    | refine And.intro (Or.inr rfl) ?_
    | ((first | refine cB ?_ ?_ | refine gT ?_ ?_ | refine gF ?_ ?_ | refine dT ?_ ?_ | refine dF ?_ ?_) <;> intro hc)) <;> try simp only [*, wpx_of k44_0.eq_1, h0, h1, go_sem])
    exact ⟨rfl, ⟨[], (List.append_nil _).symm⟩, by simpa [h0, h1] using h⟩

theorem rowFacts {H : Heap} (h : RowAt H o n i xs r) : (i < n) ∧ (∀ c, (xs.set i c)[i]? = some c) ∧ (∀ y, (H.set o y)[o]? = some y) := by
  have hi := (List.getElem?_eq_some_iff.1 h.get).1
  have ho := (List.getElem?_eq_some_iff.1 h.obj).1
  exact ⟨by rw [← h.len]; exact hi, fun c => List.getElem?_set_self hi, fun y => List.getElem?_set_self ho⟩

theorem row_Store_spec (h : RowAt H o n i xs r) {q v : Int} (hK : K (.bool (decide (0 ≤ q ∧ q < 8))) (putRow H o xs i (rowStore r q v))) : ACalls Try.prog 9 [.ptr o n i 0, .int .i64 q, .int .u64 v] H K := by
  by_cases hq : 0 ≤ q ∧ q < 8
  · obtain ⟨f1, f2, f3⟩ := rowFacts h
    obtain ⟨ho, hn, hi, hl, hw⟩ := h
    obtain ⟨la, nw, out, sent⟩ := r
    obtain ⟨a0, a1, a2, a3, a4, a5, a6, a7, rfl⟩ := eight hl
    obtain ⟨b0, b1, b2, b3, b4, b5, b6, b7, rfl⟩ := eight hw
    simp only [RowM.cells, u64s, List.map_cons, List.map_nil, List.cons_append, List.nil_append] at hi
    simp only [hq, and_self, decide_true, rowStore, if_true] at hK
    rcases at_cases hq with rfl | rfl | rfl | rfl | rfl | rfl | rfl | rfl
    all_goals
      refine ACalls.into ok9 (Nat.le_of_ble_eq_true rfl) ?_; (try simp only [c9, wpx_of k9_0.eq_1, wpx_of k9_1.eq_1, wpx_of k9_2.eq_1, wpx_of k9_3.eq_1, ho, hn, hi, f1, f2, f3, List.set_set, List.length_set, go_sem]); repeat' ((first
    | refine And.intro (Or.inr rfl) ?_
    | ((first | refine cB ?_ ?_ | refine gT ?_ ?_ | refine gF ?_ ?_ | refine dT ?_ ?_ | refine dF ?_ ?_) <;> intro hc)
    | refine row_in_spec ?_) <;> try simp only [*, wpx_of k9_0.eq_1, wpx_of k9_1.eq_1, wpx_of k9_2.eq_1, wpx_of k9_3.eq_1, ho, hn, hi, f1, f2, f3, List.set_set, List.length_set, go_sem])
      all_goals exact hK
  · have e : rowStore r q v = r := by simp only [rowStore, if_neg hq]
    rw [e, h.self, decide_eq_false hq] at hK
    refine ACalls.into ok9 (Nat.le_of_ble_eq_true rfl) ?_; (try simp only [c9, wpx_of k9_0.eq_1, wpx_of k9_1.eq_1, wpx_of k9_2.eq_1, wpx_of k9_3.eq_1, hq, go_sem]); repeat' ((first
    | refine And.intro (Or.inr rfl) ?_
    | ((first | refine cB ?_ ?_ | refine gT ?_ ?_ | refine gF ?_ ?_ | refine dT ?_ ?_ | refine dF ?_ ?_) <;> intro hc)
    | refine row_in_spec ?_) <;> try simp only [*, wpx_of k9_0.eq_1, wpx_of k9_1.eq_1, wpx_of k9_2.eq_1, wpx_of k9_3.eq_1, hq, go_sem])
    all_goals exact hK

theorem row_Load_spec (h : RowAt H o n i xs r) {q : Int} (hK : K (.int .u64 (rowLoad r q)) H) : ACalls Try.prog 43 [.ptr o n i 0, .int .i64 q] H K := by
  by_cases hq : 0 ≤ q ∧ q < 8
  · obtain ⟨f1, f2, f3⟩ := rowFacts h
    obtain ⟨ho, hn, hi, hl, hw⟩ := h
    obtain ⟨la, nw, out, sent⟩ := r
    obtain ⟨a0, a1, a2, a3, a4, a5, a6, a7, rfl⟩ := eight hl
    obtain ⟨b0, b1, b2, b3, b4, b5, b6, b7, rfl⟩ := eight hw
    simp only [RowM.cells, u64s, List.map_cons, List.map_nil, List.cons_append, List.nil_append] at hi
    rcases at_cases hq with rfl | rfl | rfl | rfl | rfl | rfl | rfl | rfl
    all_goals
      refine ACalls.into ok43 (Nat.le_of_ble_eq_true rfl) ?_; (try simp only [c43, wpx_of k43_0.eq_1, wpx_of k43_1.eq_1, wpx_of k43_2.eq_1, ho, hn, hi, f1, go_sem]); repeat' ((first
    | refine And.intro (Or.inr rfl) ?_
    | ((first | refine cB ?_ ?_ | refine gT ?_ ?_ | refine gF ?_ ?_ | refine dT ?_ ?_ | refine dF ?_ ?_) <;> intro hc)
    | refine row_in_spec ?_) <;> try simp only [*, wpx_of k43_0.eq_1, wpx_of k43_1.eq_1, wpx_of k43_2.eq_1, ho, hn, hi, f1, go_sem])
      all_goals exact hK
  · have e : rowLoad r q = 0 := by simp only [rowLoad, if_neg hq]
    rw [e] at hK
    refine ACalls.into ok43 (Nat.le_of_ble_eq_true rfl) ?_; (try simp only [c43, wpx_of k43_0.eq_1, wpx_of k43_1.eq_1, wpx_of k43_2.eq_1, hq, go_sem]); repeat' ((first
    | refine And.intro (Or.inr rfl) ?_
    | ((first | refine cB ?_ ?_ | refine gT ?_ ?_ | refine gF ?_ ?_ | refine dT ?_ ?_ | refine dF ?_ ?_) <;> intro hc)
    | refine row_in_spec ?_) <;> try simp only [*, wpx_of k43_0.eq_1, wpx_of k43_1.eq_1, wpx_of k43_2.eq_1, hq, go_sem])
    all_goals exact hK

theorem row_Evict_spec (h : RowAt H o n i xs r) (hK : K (.bool r.out) (putRow H o xs i (rowEvict r))) : ACalls Try.prog 45 [.ptr o n i 0] H K := by
  obtain ⟨f1, f2, f3⟩ := rowFacts h
  have hself := h.self
  obtain ⟨ho, hn, hi, hl, hw⟩ := h
  obtain ⟨la, nw, out, sent⟩ := r
  obtain ⟨a0, a1, a2, a3, a4, a5, a6, a7, rfl⟩ := eight hl
  obtain ⟨b0, b1, b2, b3, b4, b5, b6, b7, rfl⟩ := eight hw
  simp only [RowM.cells, u64s, List.map_cons, List.map_nil, List.cons_append, List.nil_append] at hi hself
  cases out with
  | true =>
    simp only [rowEvict, if_true, putRow, RowM.cells, u64s, List.map_cons, List.map_nil, List.cons_append, List.nil_append] at hK
    refine ACalls.into ok45 (Nat.le_of_ble_eq_true rfl) ?_; (try simp only [c45, wpx_of k45_0.eq_1, wpx_of k45_1.eq_1, wpx_of k45_2.eq_1, wpx_of k45_3.eq_1, ho, hn, hi, f1, f2, f3, List.set_set, List.length_set, go_sem]); repeat' ((first
    | refine And.intro (Or.inr rfl) ?_
    | ((first | refine cB ?_ ?_ | refine gT ?_ ?_ | refine gF ?_ ?_ | refine dT ?_ ?_ | refine dF ?_ ?_) <;> intro hc)) <;> try simp only [*, wpx_of k45_0.eq_1, wpx_of k45_1.eq_1, wpx_of k45_2.eq_1, wpx_of k45_3.eq_1, ho, hn, hi, f1, f2, f3, List.set_set, List.length_set, go_sem])
    all_goals exact hK
  | false =>
    simp only [rowEvict, Bool.false_eq_true, if_false, putRow, RowM.cells, u64s, List.map_cons, List.map_nil, List.cons_append, List.nil_append] at hK hself
    rw [hself] at hK
    clear hself
    refine ACalls.into ok45 (Nat.le_of_ble_eq_true rfl) ?_; (try simp only [c45, wpx_of k45_0.eq_1, wpx_of k45_1.eq_1, wpx_of k45_2.eq_1, wpx_of k45_3.eq_1, ho, hn, hi, f1, go_sem]); repeat' ((first
    | refine And.intro (Or.inr rfl) ?_
    | ((first | refine cB ?_ ?_ | refine gT ?_ ?_ | refine gF ?_ ?_ | refine dT ?_ ?_ | refine dF ?_ ?_) <;> intro hc)) <;> try simp only [*, wpx_of k45_0.eq_1, wpx_of k45_1.eq_1, wpx_of k45_2.eq_1, wpx_of k45_3.eq_1, ho, hn, hi, f1, go_sem])
    all_goals exact hK

theorem row_Flush_spec (h : RowAt H o n i xs r) (hK : K (.tup []) (putRow H o xs i (rowFlush r))) : ACalls Try.prog 10 [.ptr o n i 0] H K := by
  obtain ⟨f1, f2, f3⟩ := rowFacts h
  have hself := h.self
  obtain ⟨ho, hn, hi, hl, hw⟩ := h
  obtain ⟨la, nw, out, sent⟩ := r
  obtain ⟨a0, a1, a2, a3, a4, a5, a6, a7, rfl⟩ := eight hl
  obtain ⟨b0, b1, b2, b3, b4, b5, b6, b7, rfl⟩ := eight hw
  simp only [RowM.cells, u64s, List.map_cons, List.map_nil, List.cons_append, List.nil_append] at hi hself
  clear hself
  simp only [rowFlush, putRow, RowM.cells, u64s, List.map_cons, List.map_nil, List.cons_append, List.nil_append] at hK
  cases sent <;> cases out
  all_goals
    simp only [Bool.or_true, Bool.or_false, Bool.true_or, Bool.false_or] at hK
    refine ACalls.into ok10 (Nat.le_of_ble_eq_true rfl) ?_; (try simp only [c10, ho, hn, hi, f1, f2, f3, List.set_set, List.length_set, go_sem]); repeat' ((first
    | refine And.intro (Or.inr rfl) ?_
    | ((first | refine cB ?_ ?_ | refine gT ?_ ?_ | refine gF ?_ ?_ | refine dT ?_ ?_ | refine dF ?_ ?_) <;> intro hc)) <;> try simp only [*, ho, hn, hi, f1, f2, f3, List.set_set, List.length_set, go_sem])
    all_goals exact hK

theorem row_Fence_spec (h : RowAt H o n i xs r) (hK : K (.bool (r.sent && r.out)) (putRow H o xs i (rowFence r))) : ACalls Try.prog 11 [.ptr o n i 0] H K := by
  have h0 := h
  obtain ⟨f1, f2, f3⟩ := rowFacts h
  have hself := h.self
  obtain ⟨ho, hn, hi, hl, hw⟩ := h
  obtain ⟨la, nw, out, sent⟩ := r
  obtain ⟨a0, a1, a2, a3, a4, a5, a6, a7, rfl⟩ := eight hl
  obtain ⟨b0, b1, b2, b3, b4, b5, b6, b7, rfl⟩ := eight hw
  simp only [RowM.cells, u64s, List.map_cons, List.map_nil, List.cons_append, List.nil_append] at hi hself
  cases sent with
  | true =>
    simp only [rowFence, if_true, Bool.true_and] at hK
    clear hself
    refine ACalls.into ok11 (Nat.le_of_ble_eq_true rfl) ?_; (try simp only [c11, wpx_of k11_0.eq_1, ho, hn, hi, f1, go_sem]); repeat' ((first
    | refine And.intro (Or.inr rfl) ?_
    | ((first | refine cB ?_ ?_ | refine gT ?_ ?_ | refine gF ?_ ?_ | refine dT ?_ ?_ | refine dF ?_ ?_) <;> intro hc)
    | refine row_Evict_spec h0 ?_) <;> try simp only [*, wpx_of k11_0.eq_1, ho, hn, hi, f1, go_sem])
    all_goals exact hK
  | false =>
    simp only [rowFence, Bool.false_eq_true, if_false, Bool.false_and, putRow, RowM.cells, u64s, List.map_cons, List.map_nil, List.cons_append, List.nil_append] at hK hself
    rw [hself] at hK
    clear hself
    refine ACalls.into ok11 (Nat.le_of_ble_eq_true rfl) ?_; (try simp only [c11, wpx_of k11_0.eq_1, ho, hn, hi, f1, go_sem]); repeat' ((first
    | refine And.intro (Or.inr rfl) ?_
    | ((first | refine cB ?_ ?_ | refine gT ?_ ?_ | refine gF ?_ ?_ | refine dT ?_ ?_ | refine dF ?_ ?_) <;> intro hc)) <;> try simp only [*, wpx_of k11_0.eq_1, ho, hn, hi, f1, go_sem])
    all_goals exact hK

theorem row_Fall_spec (h : RowAt H o n i xs r) {k : Bool} (hK : ∀ b, K (.bool b) (putRow H o xs i (rowFall k r))) : ACalls Try.prog 12 [.ptr o n i 0, .bool k] H K := by
  have h0 := h
  obtain ⟨f1, f2, f3⟩ := rowFacts h
  have hself := h.self
  obtain ⟨ho, hn, hi, hl, hw⟩ := h
  obtain ⟨la, nw, out, sent⟩ := r
  obtain ⟨a0, a1, a2, a3, a4, a5, a6, a7, rfl⟩ := eight hl
  obtain ⟨b0, b1, b2, b3, b4, b5, b6, b7, rfl⟩ := eight hw
  simp only [RowM.cells, u64s, List.map_cons, List.map_nil, List.cons_append, List.nil_append] at hi hself
  clear hself
  cases k with
  | true =>
    simp only [rowFall, if_true] at hK
    refine ACalls.into ok12 (Nat.le_of_ble_eq_true rfl) ?_; (try simp only [c12, wpx_of k12_0.eq_1, wpx_of k12_1.eq_1, wpx_of k12_2.eq_1, wpx_of k12_3.eq_1, ho, hn, hi, f1, go_sem]); repeat' ((first
    | refine And.intro (Or.inr rfl) ?_
    | ((first | refine cB ?_ ?_ | refine gT ?_ ?_ | refine gF ?_ ?_ | refine dT ?_ ?_ | refine dF ?_ ?_) <;> intro hc)
    | refine row_Evict_spec h0 ?_) <;> try simp only [*, wpx_of k12_0.eq_1, wpx_of k12_1.eq_1, wpx_of k12_2.eq_1, wpx_of k12_3.eq_1, ho, hn, hi, f1, go_sem])
    all_goals exact hK _
  | false =>
    cases out with
    | true =>
      simp only [rowFall, Bool.false_eq_true, if_false, if_true, putRow, RowM.cells, u64s, List.map_cons, List.map_nil, List.cons_append, List.nil_append] at hK
      refine ACalls.into ok12 (Nat.le_of_ble_eq_true rfl) ?_; (try simp only [c12, wpx_of k12_0.eq_1, wpx_of k12_1.eq_1, wpx_of k12_2.eq_1, wpx_of k12_3.eq_1, ho, hn, hi, f1, f2, f3, List.set_set, List.length_set, go_sem]); repeat' ((first
    | refine And.intro (Or.inr rfl) ?_
    | ((first | refine cB ?_ ?_ | refine gT ?_ ?_ | refine gF ?_ ?_ | refine dT ?_ ?_ | refine dF ?_ ?_) <;> intro hc)) <;> try simp only [*, wpx_of k12_0.eq_1, wpx_of k12_1.eq_1, wpx_of k12_2.eq_1, wpx_of k12_3.eq_1, ho, hn, hi, f1, f2, f3, List.set_set, List.length_set, go_sem])
      all_goals exact hK _
    | false =>
      simp only [rowFall, rowEvict, Bool.false_eq_true, if_false] at hK
      refine ACalls.into ok12 (Nat.le_of_ble_eq_true rfl) ?_; (try simp only [c12, wpx_of k12_0.eq_1, wpx_of k12_1.eq_1, wpx_of k12_2.eq_1, wpx_of k12_3.eq_1, ho, hn, hi, f1, go_sem]); repeat' ((first
    | refine And.intro (Or.inr rfl) ?_
    | ((first | refine cB ?_ ?_ | refine gT ?_ ?_ | refine gF ?_ ?_ | refine dT ?_ ?_ | refine dF ?_ ?_) <;> intro hc)
    | refine row_Evict_spec h0 ?_) <;> try simp only [*, wpx_of k12_0.eq_1, wpx_of k12_1.eq_1, wpx_of k12_2.eq_1, wpx_of k12_3.eq_1, ho, hn, hi, f1, go_sem])
      simp only [rowEvict, Bool.false_eq_true, if_false] at hK ⊢
      all_goals exact hK _
end
end Go.Proofs.Ytfahkkefcdeohaa.Ax
