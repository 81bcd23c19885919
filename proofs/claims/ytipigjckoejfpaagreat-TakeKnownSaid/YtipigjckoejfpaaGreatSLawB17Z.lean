/- The laws of chapter 17: the parts of their text that are alike in all. Conditions: none. Printed by lawbase.py. -/
import Derived.Test.YtipigjckoejfpaaGreatSClosedZ
import Derived.Test.YtipigjckoejfpaaGreatZT
import Derived.Test.YtipigjckoejfpaaGreatZGv
import Derived.Test.YtipigjckoejfpaaGreatZMo
set_option linter.unusedSimpArgs false
set_option linter.unusedVariables false
namespace Go.Proofs.YtipigjckoejfpaaGreat.Ax
open Go Go.Ax Go.Ax.M
set_option maxRecDepth 100000
section
variable {H : Heap} {K : AVal → Heap → Prop}
theorem first17_spec (h : K (stV S0 H.length (H.length + 1) true true) (H ++ [slotsO S0, thingsO S0])) : ACalls Tryz.prog 144 [] H K :=
  closed_state (tab := tab17) tab17Ok rfl (loops := 200) (k := 60) (i := 11) (j := 12) (by decide) (by kernel_rfl) h
theorem way17_spec {o n st len : Nat} {f : Bool} {x : AObj} (ho : H[o]? = some x) (h : K (.agg [.slice o n st len f]) H) : ACalls Tryz.prog 70 [.slice o n st len f] H K := by
  refine ACalls.gc ?_
  refine ACalls.into ok70 (Nat.le_of_ble_eq_true rfl) ?_; (try simp only [c70, wpx_of k70_0.eq_1, go_sem]); repeat' ((first
    | refine And.intro (Or.inr rfl) ?_
    | ((first | refine cB ?_ ?_ | refine gT ?_ ?_ | refine gF ?_ ?_ | refine dT ?_ ?_ | refine dF ?_ ?_) <;> intro hc)) <;> try simp only [*, wpx_of k70_0.eq_1, go_sem])
  exact Gc.old (by simp [AVal.refs, refsL]; exact get_lt ho) h
end
end Go.Proofs.YtipigjckoejfpaaGreat.Ax
