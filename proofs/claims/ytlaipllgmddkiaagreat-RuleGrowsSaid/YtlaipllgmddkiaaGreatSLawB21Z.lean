/- The laws of chapter 21: the parts of their text that are alike in all. Conditions: none. Printed by lawbase.py. -/
import Derived.Test.YtlaipllgmddkiaaGreatSClosedZ
import Derived.Test.YtlaipllgmddkiaaGreatZGv
set_option linter.all false
set_option maxHeartbeats 9999999
namespace Go.Proofs.YtlaipllgmddkiaaGreat.Ax
open Go Go.Ax Go.Ax.M
set_option maxRecDepth 100000
section
variable {H:AP}{K:AH->AP->Prop}
theorem uH(h:K (BT S0 H.length (H.length+1) true true) (H++[AM S0,AJ S0])):AF Tryz.prog 54 [] H K:=
 Gh (O0:=ua) uJ rfl (loops:=200) (k:=60) (i:=11) (j:=12) (by decide) (by kernel_rfl) h
theorem uO{o n st len:Nat}{f:Bool}{x:Au}(ho:H[o]?=some x)(h:K (.agg [.slice o n st len f]) H):AF Tryz.prog 56 [.slice o n st len f] H K:=by
 refine AF.gc ?_
 refine Aa ok56 ?_;(try simp only[go_sem]);repeat' ((first|apply orR|(apply sp<;>intro hc)|fail)<;>try simp only[*,go_sem])
 exact Gc.Cd (by simp[AH.refs,Ay];exact Am ho) h
theorem uI{s:State}{oS oT:Nat}{fS fT:Bool}{c:M.Call}{oA oB:Nat}{fA fB:Bool}(h:K (.bool (B5 s c)) H):
 AF Tryz.prog 49 [stA s oS oT fS fT,.agg [nL c.op,.slice oA c.a.length 0 c.a.length fA,.slice oB c.b.length 0 c.b.length fB,nL c.x,nL c.y,u1 c.w]] H K:=by
 refine AF.tidy ?_
 refine Aa ok49 ?_;repeat' first|simp only[*,go_sem]|apply orR|(apply sp<;>intro hc)|fail
 all_goals (refine tb h (by first|exact⟨_,rfl⟩|exact⟨[],(List.append_nil _).symm⟩|exact hx|exact hx.app _) ?_;first|(simp only[B5, *,bs,go_sem];done)|(simp_all[B5]<;>omega)|grind[B5])
end
end Go.Proofs.YtlaipllgmddkiaaGreat.Ax
