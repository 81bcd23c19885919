/- The arguments of laws about states, told as states, calls, ways. Conditions: none. -/
import Derived.Test.YtipigjckoejfpaaGreatZRw
import Derived.Test.YtipigjckoejfpaaGreatZMo
import Derived.Test.YtipigjckoejfpaaGreatProg
import Derived.KernelRfl
set_option linter.unusedSimpArgs false
set_option linter.unusedVariables false
namespace Go.Proofs.YtipigjckoejfpaaGreat.Ax
open Go Go.Ax Go.Ax.M
set_option maxRecDepth 100000

theorem argShapes_cons {H : Heap} {k : Nat} {t : TypeId} {ts : List TypeId} {bs : List AVal} (h : ArgShapes Tryz.prog H k (t :: ts) bs) : ∃ a l, bs = a :: l ∧ ArgShape Tryz.prog H k t a ∧ ArgShapes Tryz.prog H k ts l := by
  cases bs with
  | nil => exact h.elim
  | cons a l => exact ⟨a, l, rfl, h⟩
theorem argShapes_nil {H : Heap} {k : Nat} {bs : List AVal} (h : ArgShapes Tryz.prog H k [] bs) : bs = [] := by
  cases bs with
  | nil => rfl
  | cons a l => exact h.elim
end Go.Proofs.YtipigjckoejfpaaGreat.Ax
