/- Memories of rows: made, and made of words. Conditions: none. -/
import Derived.Test.YtfahkkefcdeohaaSMem4Z
set_option linter.unusedSimpArgs false
set_option linter.unusedVariables false
namespace Go.Ax.M
open Go Go.Ax
end Go.Ax.M
namespace Go.Proofs.Ytfahkkefcdeohaa.Ax
open Go Go.Ax Go.Ax.M
section
variable {H : Heap} {K : AVal → Heap → Prop} {oM oR n o p : Nat} {f fl fp ro rp : Bool} {kv : AVal} {m : MemM} {l : List Int}
theorem nvm_New_bad {x : Int} (h : x < 1 ∨ 4096 < x) (hK : K (.tup [.lit (.pointer none), .int .i64 1]) H) : ACalls Try.prog 14 [.int .i64 x] H K := by
  rcases h with h | h
  · refine ACalls.into ok14 (Nat.le_of_ble_eq_true rfl) ?_; (try simp only [c14, wpx_of k14_0.eq_1, wpx_of k14_1.eq_1, wpx_of k14_2.eq_1, h, go_sem]); repeat' ((first
    | refine And.intro (Or.inr rfl) ?_
    | ((first | refine cB ?_ ?_ | refine gT ?_ ?_ | refine gF ?_ ?_ | refine dT ?_ ?_ | refine dF ?_ ?_) <;> intro hc)) <;> try simp only [*, wpx_of k14_0.eq_1, wpx_of k14_1.eq_1, wpx_of k14_2.eq_1, h, go_sem])
    all_goals exact hK
  · have h1 : (x < 1) = False := eq_false (by omega)
    refine ACalls.into ok14 (Nat.le_of_ble_eq_true rfl) ?_; (try simp only [c14, wpx_of k14_0.eq_1, wpx_of k14_1.eq_1, wpx_of k14_2.eq_1, h, h1, go_sem]); repeat' ((first
    | refine And.intro (Or.inr rfl) ?_
    | ((first | refine cB ?_ ?_ | refine gT ?_ ?_ | refine gF ?_ ?_ | refine dT ?_ ?_ | refine dF ?_ ?_) <;> intro hc)) <;> try simp only [*, wpx_of k14_0.eq_1, wpx_of k14_1.eq_1, wpx_of k14_2.eq_1, h, h1, go_sem])
    all_goals exact hK

end
end Go.Proofs.Ytfahkkefcdeohaa.Ax
