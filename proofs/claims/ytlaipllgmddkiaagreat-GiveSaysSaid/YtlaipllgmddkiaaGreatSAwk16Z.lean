/- The awake part of chapter 16's laws. Conditions: none. -/
import Derived.Test.YtlaipllgmddkiaaGreatSLawB16Z
import Derived.Test.YtlaipllgmddkiaaGreatZGv
set_option linter.all false
namespace Go.Proofs.YtlaipllgmddkiaaGreat.Ax
open Go Go.Ax Go.Ax.M
set_option maxRecDepth 100000
section
variable {H:AP}{K:AH→AP→Prop}
theorem FZ(h:K (.bool true) H):AF Tryz.prog 30 [] H K:=by
 have f1:(CW S0 1 2 ⟨3,1,1,0⟩).AE.length=32:=by kernel_rfl
 have f2:((CW S0 1 2 ⟨3,1,1,0⟩).AE.map Slot.cells)[2]?=some [.int .i64 3,.int .i64 1,.int .i64 1,.int .i64 0,.int .i64 1]:=by kernel_rfl
 refine AF.tidy ?_
 refine Aa ok30 ?_;(try simp only[c30,w30,BT,AM,AJ,Nat.add_assoc,f1,f2,Int.cast_ofNat_Int,decide_true,cond_true,go_sem]);repeat' ((first|refine orR ?_|(refine sp ?_ ?_<;>intro hc)|refine Tx ?_|refine YE (by first|exact BH|exact Bb rfl) ?_|refine CF.Zy Cg (s:=S0) (c:=⟨2,[1],[2],1,0,0⟩) (e:=0) (w:=0) (n:=0) (s':=CW S0 1 2 ⟨3,1,1,0⟩) (by kernel_rfl) (by first|exact BH|exact Bb rfl) (by first|exact BH|exact Bb rfl) (by first|exact BH|exact Bb rfl) (by first|exact BH|exact Bb rfl) ?_)<;>try simp only[*,w30,BT,AM,AJ,Nat.add_assoc,Int.cast_ofNat_Int,decide_true,cond_true,go_sem])
 all_goals first|exact⟨rfl,_,rfl⟩|exact tb h ⟨_,rfl⟩ rfl
end
end Go.Proofs.YtlaipllgmddkiaaGreat.Ax
