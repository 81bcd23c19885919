/- The awake part of chapter 15's laws. Conditions: none. -/
import Derived.Test.YtlaipllgmddkiaaGreatSLawB15Z
import Derived.Test.YtlaipllgmddkiaaGreatZLf
set_option linter.all false
namespace Go.Proofs.YtlaipllgmddkiaaGreat.Ax
open Go Go.Ax Go.Ax.M
set_option maxRecDepth 100000
section
variable {H:AP}{K:AH→AP→Prop}
def iH:State:=Fq S0 ⟨1,[0],[3],4,0,0⟩ 0 3 1 4 0 ⟨1,0,7,0⟩
theorem GX(h:K (.bool true) H):AF Tryz.prog 24 [] H K:=by
 have f1:iH.AE.length=32:=by kernel_rfl
 have f2:(iH.AE.map Slot.cells)[3]?=some [.int .i64 4,.int .i64 4,.int .i64 7,.int .i64 0,.int .i64 0]:=by kernel_rfl
 have f3:iH.AB.length=16:=by kernel_rfl
 have f4:(iH.AB.map AN.cells)[4]?=some [.int .i64 4,.int .i64 0,.int .i64 0,.int .i64 0,.int .i64 0,.int .i64 0,.int .i64 0,.bool false,.int .u64 0,.int .u64 0,.int .u64 0,.int .u64 0,.int .u64 0]:=by kernel_rfl
 refine AF.tidy ?_
 refine Aa ok24 ?_;(try simp only[c24,w24,BT,AM,AJ,Nat.add_assoc,f1,f2,f3,f4,Int.cast_ofNat_Int,decide_true,cond_true,go_sem]);repeat' ((first|refine orR ?_|(refine sp ?_ ?_<;>intro hc)|refine Tw ?_|refine YD (by first|exact BH|exact Bb rfl) ?_|refine CF.Zy EJ (s:=S0) (c:=⟨1,[0],[3],4,0,0⟩) (e:=0) (w:=0) (n:=4) (s':=iH) (by kernel_rfl) (by first|exact BH|exact Bb rfl) (by first|exact BH|exact Bb rfl) (by first|exact BH|exact Bb rfl) (by first|exact BH|exact Bb rfl) ?_)<;>try simp only[*,w24,BT,AM,AJ,Nat.add_assoc,Int.cast_ofNat_Int,decide_true,cond_true,go_sem])
 all_goals first|exact⟨rfl,_,rfl⟩|exact tb h ⟨_,rfl⟩ rfl
end
end Go.Proofs.YtlaipllgmddkiaaGreat.Ax
