/- The laws of chapter 18: the parts of their text that are alike in all. Conditions: none. Printed by lawbase.py. -/
import Derived.Test.YtlaipllgmddkiaaGreatSClosedZ
import Derived.Test.YtlaipllgmddkiaaGreatZT
import Derived.Test.YtlaipllgmddkiaaGreatZGv
import Derived.Test.YtlaipllgmddkiaaGreatZMo
set_option linter.all false
namespace Go.Proofs.YtlaipllgmddkiaaGreat.Ax
open Go Go.Ax Go.Ax.M
set_option maxRecDepth 100000
section
variable {H:AP}{K:AH→AP→Prop}
theorem NJ(h:K (BT S0 H.length (H.length+1) true true) (H++[AM S0,AJ S0])):AF Tryz.prog 68 [] H K:=
 Gh (O0:=eW) dq rfl (loops:=200) (k:=60) (i:=11) (j:=12) (by decide) (by kernel_rfl) h
theorem R7{o n st len:Nat}{f:Bool}{x:Au}(ho:H[o]?=some x)(h:K (.agg [.slice o n st len f]) H):AF Tryz.prog 69 [.slice o n st len f] H K:=by
 refine AF.gc ?_
 refine Aa ok69 ?_;(try simp only[c69,AA k69_0.eq_1,go_sem]);repeat' ((first|refine orR ?_|(refine sp ?_ ?_<;>intro hc)|fail)<;>try simp only[*,AA k69_0.eq_1,go_sem])
 exact Gc.Cd (by simp[AH.refs,Ay];exact Am ho) h
theorem EE{s:State}{oS oT:Nat}{fS fT:Bool}{c:M.Call}{oA oB:Nat}{fA fB:Bool}(h:K (.bool (B5 s c)) H):
 AF Tryz.prog 14 [stA s oS oT fS fT,.agg [.int .i64 c.op,.slice oA c.a.length 0 c.a.length fA,.slice oB c.b.length 0 c.b.length fB,.int .i64 c.x,.int .i64 c.y,.int .u64 c.w]] H K:=by
 refine AF.tidy ?_
 refine Aa ok14 ?_;(try simp only[c14,AA k14_0.eq_1,go_sem]);repeat' ((first|refine orR ?_|(refine sp ?_ ?_<;>intro hc)|fail)<;>try simp only[*,AA k14_0.eq_1,go_sem])
 all_goals (refine tb h (by first|exact⟨_,rfl⟩|exact⟨[],(List.append_nil _).symm⟩|exact hx|exact hx.app _) ?_;first|(simp only[B5, *,bs,go_sem];done)|(simp_all[B5];done)|(simp_all[B5];omega)|grind[B5])
end
end Go.Proofs.YtlaipllgmddkiaaGreat.Ax
