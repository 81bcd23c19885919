/- The laws of chapter 23: the parts of their text that are alike in all. Conditions: none. Printed by lawbase.py. -/
import Derived.Test.YtohgndhnndeijaaGreatSClosedZ
import Derived.Test.YtohgndhnndeijaaGreatZGv
set_option linter.all false
namespace Go.Proofs.YtohgndhnndeijaaGreat.Ax
open Go Go.Ax Go.Ax.M
set_option maxRecDepth 100000
section
variable {H:AP}{K:AH->AP->Prop}
theorem me(h:K (BT S0 H.length (H.length+1) true true) (H++[AM S0,AJ S0])):AF Tryz.prog 26 [] H K:=
 Gh (O0:=tab23) tab23Ok rfl (loops:=200) (k:=60) (i:=11) (j:=12) (by decide) (by kernel_rfl) h
end
end Go.Proofs.YtohgndhnndeijaaGreat.Ax
