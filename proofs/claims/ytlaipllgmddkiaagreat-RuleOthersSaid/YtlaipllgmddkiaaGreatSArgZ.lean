/- The arguments of laws about states, told as states, calls, ways. Conditions: none. -/
import Derived.Test.YtlaipllgmddkiaaGreatZRw
import Derived.Test.YtlaipllgmddkiaaGreatZMo
import Derived.Test.YtlaipllgmddkiaaGreatProg
import Derived.KernelRfl
set_option linter.all false
namespace Go.Proofs.YtlaipllgmddkiaaGreat.Ax
open Go Go.Ax Go.Ax.M
set_option maxRecDepth 100000
theorem shapeL_cons {S : TypeId → List AVal → Prop} {f : Field} {fs : List Field} {ass : List (List AVal)} (h : ShapeL S (f :: fs) ass) : ∃ a l, ass = a :: l ∧ S f.type a ∧ ShapeL S fs l := by
 cases ass with
 | nil => exact h.elim
 | cons a l => exact ⟨a, l, rfl, h⟩
theorem shapeL_nil {S : TypeId → List AVal → Prop} {ass : List (List AVal)} (h : ShapeL S [] ass) : ass = [] := by
 cases ass with
 | nil => rfl
 | cons a l => exact h.elim
theorem argShapes_cons {H : Heap} {k : Nat} {t : TypeId} {ts : List TypeId} {bs : List AVal} (h : ArgShapes Tryz.prog H k (t :: ts) bs) : ∃ a l, bs = a :: l ∧ ArgShape Tryz.prog H k t a ∧ ArgShapes Tryz.prog H k ts l := by
 cases bs with
 | nil => exact h.elim
 | cons a l => exact ⟨a, l, rfl, h⟩
theorem argShapes_nil {H : Heap} {k : Nat} {bs : List AVal} (h : ArgShapes Tryz.prog H k [] bs) : bs = [] := by
 cases bs with
 | nil => rfl
 | cons a l => exact h.elim
end Go.Proofs.YtlaipllgmddkiaaGreat.Ax
