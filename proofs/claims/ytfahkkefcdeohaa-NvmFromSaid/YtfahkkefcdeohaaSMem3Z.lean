/- Memories of rows: contracts of the methods, further. Conditions: none. -/
import Derived.Test.YtfahkkefcdeohaaSMem2Z
set_option linter.unusedSimpArgs false
set_option linter.unusedVariables false
namespace Go.Proofs.Ytfahkkefcdeohaa.Ax
open Go Go.Ax Go.Ax.M
section
variable {H : Heap} {K : AVal → Heap → Prop} {oM oR n o p : Nat} {f fl fp ro rp : Bool} {kv : AVal} {m : MemM} {l : List Int}

theorem nvmG_Rows_spec (h : MemG H oM oR n f kv m) (hK : K (.int .i64 (m.rows.length : Int)) H) : ACalls Try.prog 24 [.ptr oM 1 0 0] H K := by
  have k0 := h.cell
  rw [h.len] at hK
  refine ACalls.into ok24 (Nat.le_of_ble_eq_true rfl) ?_; (try simp only [c24, wpx_of k24_0.eq_1, k0, go_sem]); repeat' ((first
    | refine And.intro (Or.inr rfl) ?_
    | ((first | refine cB ?_ ?_ | refine gT ?_ ?_ | refine gF ?_ ?_ | refine dT ?_ ?_ | refine dF ?_ ?_) <;> intro hc)) <;> try simp only [*, wpx_of k24_0.eq_1, k0, go_sem])
  all_goals exact hK
theorem nvmG_Count_spec (h : MemG H oM oR n f kv m) (hK : K (.int .i64 m.c) H) : ACalls Try.prog 26 [.ptr oM 1 0 0] H K := by
  have k0 := h.cell
  refine ACalls.into ok26 (Nat.le_of_ble_eq_true rfl) ?_; (try simp only [c26, wpx_of k26_0.eq_1, k0, go_sem]); repeat' ((first
    | refine And.intro (Or.inr rfl) ?_
    | ((first | refine cB ?_ ?_ | refine gT ?_ ?_ | refine gF ?_ ?_ | refine dT ?_ ?_ | refine dF ?_ ?_) <;> intro hc)) <;> try simp only [*, wpx_of k26_0.eq_1, k0, go_sem])
  all_goals exact hK
theorem nvmG_Off_spec (h : MemG H oM oR n f kv m) (hK : K (.bool m.off) H) : ACalls Try.prog 27 [.ptr oM 1 0 0] H K := by
  have k0 := h.cell
  refine ACalls.into ok27 (Nat.le_of_ble_eq_true rfl) ?_; (try simp only [c27, wpx_of k27_0.eq_1, k0, go_sem]); repeat' ((first
    | refine And.intro (Or.inr rfl) ?_
    | ((first | refine cB ?_ ?_ | refine gT ?_ ?_ | refine gF ?_ ?_ | refine dT ?_ ?_ | refine dF ?_ ?_) <;> intro hc)) <;> try simp only [*, wpx_of k27_0.eq_1, k0, go_sem])
  all_goals exact hK
end
end Go.Proofs.Ytfahkkefcdeohaa.Ax
