/- The laws of chapter 20: the parts of their text that are alike in all. Conditions: none. Printed by lawbase.py. -/
import Derived.Test.YtlaipllgmddkiaaGreatSClosedZ
import Derived.Test.YtlaipllgmddkiaaGreatZT
import Derived.Test.YtlaipllgmddkiaaGreatZGv
import Derived.Test.YtlaipllgmddkiaaGreatZMo
set_option linter.all false
namespace Go.Proofs.YtlaipllgmddkiaaGreat.Ax
open Go Go.Ax Go.Ax.M
set_option maxRecDepth 100000
section
variable {H:AP}{K:AH→AP→Prop}
theorem Tz(h:K (BT S0 H.length (H.length+1) true true) (H++[AM S0,AJ S0])):AF Tryz.prog 186 [] H K:=
 Gh (O0:=eY) dt rfl (loops:=200) (k:=60) (i:=11) (j:=12) (by decide) (by kernel_rfl) h
theorem R9{o n st len:Nat}{f:Bool}{x:Au}(ho:H[o]?=some x)(h:K (.agg [.slice o n st len f]) H):AF Tryz.prog 110 [.slice o n st len f] H K:=by
 refine AF.gc ?_
 refine Aa ok110 ?_;(try simp only[c110,AA k110_0.eq_1,go_sem]);repeat' ((first|refine orR ?_|(refine sp ?_ ?_<;>intro hc)|fail)<;>try simp only[*,AA k110_0.eq_1,go_sem])
 exact Gc.Cd (by simp[AH.refs,Ay];exact Am ho) h
theorem Fe{s:State}{oS oT:Nat}{fS fT:Bool}{c:M.Call}{oA oB:Nat}{fA fB:Bool}(h:K (.bool (B5 s c)) H):
 AF Tryz.prog 43 [stA s oS oT fS fT,.agg [.int .i64 c.op,.slice oA c.a.length 0 c.a.length fA,.slice oB c.b.length 0 c.b.length fB,.int .i64 c.x,.int .i64 c.y,.int .u64 c.w]] H K:=by
 refine AF.tidy ?_
 refine Aa ok43 ?_;(try simp only[c43,AA k43_0.eq_1,go_sem]);repeat' ((first|refine orR ?_|(refine sp ?_ ?_<;>intro hc)|fail)<;>try simp only[*,AA k43_0.eq_1,go_sem])
 all_goals (refine tb h (by first|exact⟨_,rfl⟩|exact⟨[],(List.append_nil _).symm⟩|exact hx|exact hx.app _) ?_;first|(simp only[B5, *,bs,go_sem];done)|(simp_all[B5];done)|(simp_all[B5];omega)|grind[B5])
end
end Go.Proofs.YtlaipllgmddkiaaGreat.Ax
