/- The laws of chapter 21: the parts of their text that are alike in all. Conditions: none. Printed by lawbase.py. -/
import Derived.Test.YtlaipllgmddkiaaGreatSClosedZ
import Derived.Test.YtlaipllgmddkiaaGreatZGv
set_option linter.all false
namespace Go.Proofs.YtlaipllgmddkiaaGreat.Ax
open Go Go.Ax Go.Ax.M
set_option maxRecDepth 100000
section
variable {H:AP}{K:AH->AP->Prop}
theorem uH(h:K (BT S0 H.length (H.length+1) true true) (H++[AM S0,AJ S0])):AF Tryz.prog 54 [] H K:=
 Gh (O0:=ua) uJ rfl (loops:=200) (k:=60) (i:=11) (j:=12) (by decide) (by kernel_rfl) h
theorem uO{o n st len:Nat}{f:Bool}{x:Au}(ho:H[o]?=some x)(h:K (.agg [.slice o n st len f]) H):AF Tryz.prog 56 [.slice o n st len f] H K:=by
 refine AF.gc ?_
 refine Aa ok56 ?_;(try simp only[go_sem]);repeat' ((first|apply orR|(apply sp<;>intro hc)|fail)<;>try simp only[*,go_sem])
 exact Gc.Cd (by simp[AH.refs,Ay];exact Am ho) h
end
end Go.Proofs.YtlaipllgmddkiaaGreat.Ax
