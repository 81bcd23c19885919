/- The reference's rows: what the methods answer. Conditions: none. -/
import Derived.Test.YtfahkkefcdeohaaSRowZ
import Derived.Test.YtfahkkefcdeohaaZC
set_option linter.unusedSimpArgs false
set_option linter.unusedVariables false
namespace Go.Proofs.Ytfahkkefcdeohaa.Ax
open Go Go.Ax Go.Ax.M
section
variable {H : Heap} {K : AVal → Heap → Prop} {o n i : Nat} {xs : List (List AVal)} {r : RowM}
theorem refRow_Store_spec (h : RowAt H o n i xs r) {q v : Int} (hq : 0 ≤ q ∧ q < 8) (hK : K (.bool true) (putRow H o xs i (rowStore r q v))) : ACalls Try.prog 51 [.ptr o n i 0, .int .i64 q, .int .u64 v] H K := by
  obtain ⟨f1, f2, f3⟩ := rowFacts h
  obtain ⟨ho, hn, hi, hl, hw⟩ := h
  obtain ⟨la, nw, out, sent⟩ := r
  obtain ⟨a0, a1, a2, a3, a4, a5, a6, a7, rfl⟩ := eight hl
  obtain ⟨b0, b1, b2, b3, b4, b5, b6, b7, rfl⟩ := eight hw
  simp only [RowM.cells, u64s, List.map_cons, List.map_nil, List.cons_append, List.nil_append] at hi
  simp only [hq, and_self, rowStore, if_true] at hK
  rcases at_cases hq with rfl | rfl | rfl | rfl | rfl | rfl | rfl | rfl
  all_goals
    refine ACalls.into ok51 (Nat.le_of_ble_eq_true rfl) ?_; (try simp only [c51, wpx_of k51_0.eq_1, wpx_of k51_1.eq_1, wpx_of k51_2.eq_1, wpx_of k51_3.eq_1, ho, hn, hi, f1, f2, f3, List.set_set, List.length_set, go_sem]); repeat' ((first
    | refine And.intro (Or.inr rfl) ?_
    | ((first | refine cB ?_ ?_ | refine gT ?_ ?_ | refine gF ?_ ?_ | refine dT ?_ ?_ | refine dF ?_ ?_) <;> intro hc)) <;> try simp only [*, wpx_of k51_0.eq_1, wpx_of k51_1.eq_1, wpx_of k51_2.eq_1, wpx_of k51_3.eq_1, ho, hn, hi, f1, f2, f3, List.set_set, List.length_set, go_sem])
    all_goals exact hK

theorem refRow_Evict_spec (h : RowAt H o n i xs r) (hK : K (.bool r.out) (putRow H o xs i (rowEvict r))) : ACalls Try.prog 54 [.ptr o n i 0] H K := by
  obtain ⟨f1, f2, f3⟩ := rowFacts h
  have hself := h.self
  obtain ⟨ho, hn, hi, hl, hw⟩ := h
  obtain ⟨la, nw, out, sent⟩ := r
  obtain ⟨a0, a1, a2, a3, a4, a5, a6, a7, rfl⟩ := eight hl
  obtain ⟨b0, b1, b2, b3, b4, b5, b6, b7, rfl⟩ := eight hw
  simp only [RowM.cells, u64s, List.map_cons, List.map_nil, List.cons_append, List.nil_append] at hi hself
  cases out with
  | true =>
    simp only [rowEvict, if_true, putRow, RowM.cells, u64s, List.map_cons, List.map_nil, List.cons_append, List.nil_append] at hK
    refine ACalls.into ok54 (Nat.le_of_ble_eq_true rfl) ?_; (try simp only [c54, wpx_of k54_0.eq_1, wpx_of k54_1.eq_1, wpx_of k54_2.eq_1, wpx_of k54_3.eq_1, ho, hn, hi, f1, f2, f3, List.set_set, List.length_set, go_sem]); repeat' ((first
    | refine And.intro (Or.inr rfl) ?_
    | ((first | refine cB ?_ ?_ | refine gT ?_ ?_ | refine gF ?_ ?_ | refine dT ?_ ?_ | refine dF ?_ ?_) <;> intro hc)) <;> try simp only [*, wpx_of k54_0.eq_1, wpx_of k54_1.eq_1, wpx_of k54_2.eq_1, wpx_of k54_3.eq_1, ho, hn, hi, f1, f2, f3, List.set_set, List.length_set, go_sem])
    all_goals exact hK
  | false =>
    simp only [rowEvict, Bool.false_eq_true, if_false, putRow, RowM.cells, u64s, List.map_cons, List.map_nil, List.cons_append, List.nil_append] at hK hself
    rw [hself] at hK
    clear hself
    refine ACalls.into ok54 (Nat.le_of_ble_eq_true rfl) ?_; (try simp only [c54, wpx_of k54_0.eq_1, wpx_of k54_1.eq_1, wpx_of k54_2.eq_1, wpx_of k54_3.eq_1, ho, hn, hi, f1, go_sem]); repeat' ((first
    | refine And.intro (Or.inr rfl) ?_
    | ((first | refine cB ?_ ?_ | refine gT ?_ ?_ | refine gF ?_ ?_ | refine dT ?_ ?_ | refine dF ?_ ?_) <;> intro hc)) <;> try simp only [*, wpx_of k54_0.eq_1, wpx_of k54_1.eq_1, wpx_of k54_2.eq_1, wpx_of k54_3.eq_1, ho, hn, hi, f1, go_sem])
    all_goals exact hK

theorem refRow_Flush_spec (h : RowAt H o n i xs r) (hK : K (.tup []) (putRow H o xs i (rowFlush r))) : ACalls Try.prog 52 [.ptr o n i 0] H K := by
  obtain ⟨f1, f2, f3⟩ := rowFacts h
  have hself := h.self
  obtain ⟨ho, hn, hi, hl, hw⟩ := h
  obtain ⟨la, nw, out, sent⟩ := r
  obtain ⟨a0, a1, a2, a3, a4, a5, a6, a7, rfl⟩ := eight hl
  obtain ⟨b0, b1, b2, b3, b4, b5, b6, b7, rfl⟩ := eight hw
  cases out with
  | true =>
    clear hself
    simp only [RowM.cells, u64s, List.map_cons, List.map_nil, List.cons_append, List.nil_append] at hi
    simp only [rowFlush, Bool.or_true, putRow, RowM.cells, u64s, List.map_cons, List.map_nil, List.cons_append, List.nil_append] at hK
    refine ACalls.into ok52 (Nat.le_of_ble_eq_true rfl) ?_; (try simp only [c52, wpx_of k52_0.eq_1, ho, hn, hi, f1, f2, f3, List.set_set, List.length_set, go_sem]); repeat' ((first
    | refine And.intro (Or.inr rfl) ?_
    | ((first | refine cB ?_ ?_ | refine gT ?_ ?_ | refine gF ?_ ?_ | refine dT ?_ ?_ | refine dF ?_ ?_) <;> intro hc)) <;> try simp only [*, wpx_of k52_0.eq_1, ho, hn, hi, f1, f2, f3, List.set_set, List.length_set, go_sem])
    all_goals exact hK
  | false =>
    simp only [rowFlush, Bool.or_false] at hK
    rw [hself] at hK
    clear hself
    simp only [RowM.cells, u64s, List.map_cons, List.map_nil, List.cons_append, List.nil_append] at hi
    refine ACalls.into ok52 (Nat.le_of_ble_eq_true rfl) ?_; (try simp only [c52, wpx_of k52_0.eq_1, ho, hn, hi, f1, go_sem]); repeat' ((first
    | refine And.intro (Or.inr rfl) ?_
    | ((first | refine cB ?_ ?_ | refine gT ?_ ?_ | refine gF ?_ ?_ | refine dT ?_ ?_ | refine dF ?_ ?_) <;> intro hc)) <;> try simp only [*, wpx_of k52_0.eq_1, ho, hn, hi, f1, go_sem])
    all_goals exact hK

theorem refRow_Fence_spec (h : RowAt H o n i xs r) (hK : K (.bool (r.sent && r.out)) (putRow H o xs i (rowFence r))) : ACalls Try.prog 53 [.ptr o n i 0] H K := by
  have h0 := h
  obtain ⟨f1, f2, f3⟩ := rowFacts h
  have hself := h.self
  obtain ⟨ho, hn, hi, hl, hw⟩ := h
  obtain ⟨la, nw, out, sent⟩ := r
  obtain ⟨a0, a1, a2, a3, a4, a5, a6, a7, rfl⟩ := eight hl
  obtain ⟨b0, b1, b2, b3, b4, b5, b6, b7, rfl⟩ := eight hw
  simp only [RowM.cells, u64s, List.map_cons, List.map_nil, List.cons_append, List.nil_append] at hi hself
  cases sent with
  | true =>
    simp only [rowFence, if_true, Bool.true_and] at hK
    clear hself
    refine ACalls.into ok53 (Nat.le_of_ble_eq_true rfl) ?_; (try simp only [c53, wpx_of k53_0.eq_1, ho, hn, hi, f1, go_sem]); repeat' ((first
    | refine And.intro (Or.inr rfl) ?_
    | ((first | refine cB ?_ ?_ | refine gT ?_ ?_ | refine gF ?_ ?_ | refine dT ?_ ?_ | refine dF ?_ ?_) <;> intro hc)
    | refine refRow_Evict_spec h0 ?_) <;> try simp only [*, wpx_of k53_0.eq_1, ho, hn, hi, f1, go_sem])
    all_goals exact hK
  | false =>
    simp only [rowFence, Bool.false_eq_true, if_false, Bool.false_and, putRow, RowM.cells, u64s, List.map_cons, List.map_nil, List.cons_append, List.nil_append] at hK hself
    rw [hself] at hK
    clear hself
    refine ACalls.into ok53 (Nat.le_of_ble_eq_true rfl) ?_; (try simp only [c53, wpx_of k53_0.eq_1, ho, hn, hi, f1, go_sem]); repeat' ((first
    | refine And.intro (Or.inr rfl) ?_
    | ((first | refine cB ?_ ?_ | refine gT ?_ ?_ | refine gF ?_ ?_ | refine dT ?_ ?_ | refine dF ?_ ?_) <;> intro hc)) <;> try simp only [*, wpx_of k53_0.eq_1, ho, hn, hi, f1, go_sem])
    all_goals exact hK

theorem refRow_Fall_spec (h : RowAt H o n i xs r) {k : Bool} (hK : ∀ b, K (.bool b) (putRow H o xs i (rowFall k r))) : ACalls Try.prog 55 [.ptr o n i 0, .bool k] H K := by
  have h0 := h
  obtain ⟨f1, f2, f3⟩ := rowFacts h
  have hself := h.self
  obtain ⟨ho, hn, hi, hl, hw⟩ := h
  obtain ⟨la, nw, out, sent⟩ := r
  obtain ⟨a0, a1, a2, a3, a4, a5, a6, a7, rfl⟩ := eight hl
  obtain ⟨b0, b1, b2, b3, b4, b5, b6, b7, rfl⟩ := eight hw
  simp only [RowM.cells, u64s, List.map_cons, List.map_nil, List.cons_append, List.nil_append] at hi hself
  clear hself
  cases k with
  | true =>
    simp only [rowFall, if_true] at hK
    refine ACalls.into ok55 (Nat.le_of_ble_eq_true rfl) ?_; (try simp only [c55, wpx_of k55_0.eq_1, wpx_of k55_1.eq_1, wpx_of k55_2.eq_1, wpx_of k55_3.eq_1, wpx_of k55_4.eq_1, wpx_of k55_5.eq_1, ho, hn, hi, f1, go_sem]); repeat' ((first
    | refine And.intro (Or.inr rfl) ?_
    | ((first | refine cB ?_ ?_ | refine gT ?_ ?_ | refine gF ?_ ?_ | refine dT ?_ ?_ | refine dF ?_ ?_) <;> intro hc)
    | refine refRow_Evict_spec h0 ?_) <;> try simp only [*, wpx_of k55_0.eq_1, wpx_of k55_1.eq_1, wpx_of k55_2.eq_1, wpx_of k55_3.eq_1, wpx_of k55_4.eq_1, wpx_of k55_5.eq_1, ho, hn, hi, f1, go_sem])
    all_goals exact hK _
  | false =>
    cases out with
    | true =>
      simp only [rowFall, Bool.false_eq_true, if_false, if_true, putRow, RowM.cells, u64s, List.map_cons, List.map_nil, List.cons_append, List.nil_append] at hK
      refine ACalls.into ok55 (Nat.le_of_ble_eq_true rfl) ?_; (try simp only [c55, wpx_of k55_0.eq_1, wpx_of k55_1.eq_1, wpx_of k55_2.eq_1, wpx_of k55_3.eq_1, wpx_of k55_4.eq_1, wpx_of k55_5.eq_1, ho, hn, hi, f1, f2, f3, List.set_set, List.length_set, go_sem]); repeat' ((first
    | refine And.intro (Or.inr rfl) ?_
    | ((first | refine cB ?_ ?_ | refine gT ?_ ?_ | refine gF ?_ ?_ | refine dT ?_ ?_ | refine dF ?_ ?_) <;> intro hc)) <;> try simp only [*, wpx_of k55_0.eq_1, wpx_of k55_1.eq_1, wpx_of k55_2.eq_1, wpx_of k55_3.eq_1, wpx_of k55_4.eq_1, wpx_of k55_5.eq_1, ho, hn, hi, f1, f2, f3, List.set_set, List.length_set, go_sem])
      all_goals exact hK _
    | false =>
      have hs := h0.self
      simp only [rowFall, Bool.false_eq_true, if_false] at hK
      rw [hs] at hK
      clear hs
      refine ACalls.into ok55 (Nat.le_of_ble_eq_true rfl) ?_; (try simp only [c55, wpx_of k55_0.eq_1, wpx_of k55_1.eq_1, wpx_of k55_2.eq_1, wpx_of k55_3.eq_1, wpx_of k55_4.eq_1, wpx_of k55_5.eq_1, ho, hn, hi, f1, go_sem]); repeat' ((first
    | refine And.intro (Or.inr rfl) ?_
    | ((first | refine cB ?_ ?_ | refine gT ?_ ?_ | refine gF ?_ ?_ | refine dT ?_ ?_ | refine dF ?_ ?_) <;> intro hc)) <;> try simp only [*, wpx_of k55_0.eq_1, wpx_of k55_1.eq_1, wpx_of k55_2.eq_1, wpx_of k55_3.eq_1, wpx_of k55_4.eq_1, wpx_of k55_5.eq_1, ho, hn, hi, f1, go_sem])
      all_goals exact hK _
end
end Go.Proofs.Ytfahkkefcdeohaa.Ax
