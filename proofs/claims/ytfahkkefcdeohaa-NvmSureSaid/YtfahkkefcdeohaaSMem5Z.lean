/- Memories of rows: made, and made of words. Conditions: none. -/
import Derived.Test.YtfahkkefcdeohaaSMem4Z
set_option linter.unusedSimpArgs false
set_option linter.unusedVariables false
namespace Go.Ax.M
open Go Go.Ax
end Go.Ax.M
namespace Go.Proofs.Ytfahkkefcdeohaa.Ax
open Go Go.Ax Go.Ax.M
section
variable {H : Heap} {K : AVal → Heap → Prop} {oM oR n o p : Nat} {f fl fp ro rp : Bool} {kv : AVal} {m : MemM} {l : List Int}
end
end Go.Proofs.Ytfahkkefcdeohaa.Ax
