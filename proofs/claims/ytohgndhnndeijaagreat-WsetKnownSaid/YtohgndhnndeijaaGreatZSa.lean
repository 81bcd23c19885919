/- Texts put behind one another: SArg. Conditions: none. -/
import Derived.Test.YtohgndhnndeijaaGreatZRw
import Derived.Test.YtohgndhnndeijaaGreatZMo
import Derived.Test.YtohgndhnndeijaaGreatProg
import Derived.KernelRfl
set_option linter.all false
namespace Go.Proofs.YtohgndhnndeijaaGreat.Ax
open Go Go.Ax Go.Ax.M
set_option maxRecDepth 100000
theorem Fu{H:AP}{k:Nat}{bs:List AH}(h:EU Tryz.prog H k [] bs):bs=[]:=by
 cases bs with
 |nil=>rfl
 |cons a l=>exact h.elim
end Go.Proofs.YtohgndhnndeijaaGreat.Ax
