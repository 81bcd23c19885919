/- What the laws of chapter 3 compare. Conditions: none. -/
import Derived.Test.YtfahkkefcdeohaaZT
import Derived.Test.YtfahkkefcdeohaaSArgRZ
import Derived.Test.YtfahkkefcdeohaaSMem5Z
set_option linter.unusedSimpArgs false
set_option linter.unusedVariables false
namespace Go.Proofs.Ytfahkkefcdeohaa.Ax
open Go Go.Ax Go.Ax.M
set_option maxRecDepth 100000
theorem awake3_spec {H : Heap} {K : AVal → Heap → Prop} (h : K (.bool true) H) : ACalls Try.prog 13 [] H K := run_known (v := .bool true) tab3Ok (loops := 20) (k := 20) (by kernel_rfl) rfl rfl h
section
variable {H : Heap} {K : AVal → Heap → Prop} {o p : Nat} {f fl fp ro rp : Bool} {l : List Int}
end
end Go.Proofs.Ytfahkkefcdeohaa.Ax
