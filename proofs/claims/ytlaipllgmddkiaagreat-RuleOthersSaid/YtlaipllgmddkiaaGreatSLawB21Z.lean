/- The laws of chapter 21: the parts of their text that are alike in all. Conditions: none. Printed by lawbase.py. -/
import Derived.Test.YtlaipllgmddkiaaGreatSClosedZ
import Derived.Test.YtlaipllgmddkiaaGreatZT
import Derived.Test.YtlaipllgmddkiaaGreatZGv
import Derived.Test.YtlaipllgmddkiaaGreatZMo
set_option linter.all false
namespace Go.Proofs.YtlaipllgmddkiaaGreat.Ax
open Go Go.Ax Go.Ax.M
set_option maxRecDepth 100000
section
variable {H : Heap} {K : AVal → Heap → Prop}
theorem first21_spec (h : K (stV S0 H.length (H.length + 1) true true) (H ++ [slotsO S0, thingsO S0])) : ACalls Tryz.prog 54 [] H K :=
 closed_state (tab := tab21) tab21Ok rfl (loops := 200) (k := 60) (i := 11) (j := 12) (by decide) (by kernel_rfl) h
theorem way21_spec {o n st len : Nat} {f : Bool} {x : AObj} (ho : H[o]? = some x) (h : K (.agg [.slice o n st len f]) H) : ACalls Tryz.prog 56 [.slice o n st len f] H K := by
 refine ACalls.gc ?_
 refine into ok56 ?_; (try simp only [c56, wpx_of k56_0.eq_1, go_sem]); repeat' ((first | refine orR ?_ | (refine sp ?_ ?_ <;> intro hc) | fail) <;> try simp only [*, wpx_of k56_0.eq_1, go_sem])
 exact Gc.old (by simp [AVal.refs, refsL]; exact get_lt ho) h
end
end Go.Proofs.YtlaipllgmddkiaaGreat.Ax
