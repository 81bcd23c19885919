/- The arguments of laws about states, told as states, calls, ways. Conditions: none. -/
import Derived.Test.YtipigjckoejfpaaGreatZRw
import Derived.Test.YtipigjckoejfpaaGreatZMo
import Derived.Test.YtipigjckoejfpaaGreatProg
import Derived.KernelRfl
set_option linter.unusedSimpArgs false
set_option linter.unusedVariables false
namespace Go.Proofs.YtipigjckoejfpaaGreat.Ax
open Go Go.Ax Go.Ax.M
set_option maxRecDepth 100000

theorem argShapes_nil {H : Heap} {k : Nat} {bs : List AVal} (h : ArgShapes Tryz.prog H k [] bs) : bs = [] := by
  cases bs with
  | nil => rfl
  | cons a l => exact h.elim
end Go.Proofs.YtipigjckoejfpaaGreat.Ax
