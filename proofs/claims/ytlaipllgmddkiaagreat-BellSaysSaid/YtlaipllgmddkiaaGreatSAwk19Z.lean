/- The awake part of chapter 19's laws. Conditions: none. -/
import Derived.Test.YtlaipllgmddkiaaGreatSLawB19Z
import Derived.Test.YtlaipllgmddkiaaGreatZLf
import Derived.Test.YtlaipllgmddkiaaGreatZGv
set_option linter.all false
open Nat renaming le_of_ble_eq_true → Qa, add_assoc → Qc
open Int renaming cast_ofNat_Int → Qb
namespace Go.Ax.M
open Go Go.Ax
def ll:State:=((Be S0 0 ⟨1,[0],[3],4,0,0⟩).st).getD S0
def lm:State:=((A5 ll 0 ⟨3,[3],[4],7,67,0⟩).st).getD S0
def lp:State:=((A5 lm 0 ⟨2,[3],[5],1,0,0⟩).st).getD S0
def Nz:State:=((A5 lp 0 ⟨2,[3],[6],2,0,0⟩).st).getD S0
def dw:State:=((BG Nz 0 ⟨9,[4],[],0,0,0⟩).st).getD S0
def gK:State:=((BG dw 0 ⟨10,[3],[],0,0,0⟩).st).getD S0
def lq:State:=((BG Nz 0 ⟨9,[6],[],0,0,0⟩).st).getD S0
def lr:State:=((BG lq 0 ⟨9,[6],[],0,0,0⟩).st).getD S0
def lu:State:=((BG lr 0 ⟨9,[4],[],0,0,0⟩).st).getD S0
def nq:State:=((BG lu 0 ⟨10,[5],[],0,0,0⟩).st).getD S0
end Go.Ax.M
namespace Go.Proofs.YtlaipllgmddkiaaGreat.Ax
open Go Go.Ax Go.Ax.M
set_option maxRecDepth 100000
section
variable {H:AP}{K:AH→AP→Prop}
theorem mi:Be S0 0 ⟨1,[0],[3],4,0,0⟩=⟨0,0,4,some ll⟩:=by kernel_rfl
theorem mj:A5 ll 0 ⟨3,[3],[4],7,67,0⟩=⟨0,0,0,some lm⟩:=by kernel_rfl
theorem ml:A5 lm 0 ⟨2,[3],[5],1,0,0⟩=⟨0,0,0,some lp⟩:=by kernel_rfl
theorem mm:A5 lp 0 ⟨2,[3],[6],2,0,0⟩=⟨0,0,0,some Nz⟩:=by kernel_rfl
theorem mn:BG Nz 0 ⟨9,[4],[],0,0,0⟩=⟨0,0,0,some dw⟩:=by kernel_rfl
theorem mo:BG dw 0 ⟨10,[3],[],0,0,0⟩=⟨0,8,0,some gK⟩:=by kernel_rfl
theorem YX:Gs gK Nz=true:=by kernel_rfl
theorem YW:BN dw=true:=by kernel_rfl
theorem bE:gK.AE.length≤1000∧gK.AB.length≤1000∧Nz.AE.length≤1000∧Nz.AB.length≤1000∧dw.AE.length≤1000∧dw.AB.length≤1000:=⟨Qa (by kernel_rfl),Qa (by kernel_rfl),Qa (by kernel_rfl),Qa (by kernel_rfl),Qa (by kernel_rfl),Qa (by kernel_rfl)⟩
attribute [irreducible] ll lm lp Nz dw gK lq lr lu nq
theorem Zt(h:K (BT Nz H.length (H.length+1) false false) (H++[AM Nz,AJ Nz])):AF Tryz.prog 106 [] H K:=by
 refine AF.gc ?_
 refine Aa ok106 ?_;(try simp only[c106,w106,BT,AM,AJ,Qc,Qb,go_sem]);repeat' ((first|refine orR ?_|(refine sp ?_ ?_<;>intro hc)|refine Ty ?_|refine R8 (by first|exact BH|exact Bb rfl) ?_|refine CF.Zy EJ (c:=⟨1,[0],[3],4,0,0⟩) mi (by first|exact BH|exact Bb rfl) (by first|exact BH|exact Bb rfl) (by first|exact BH|exact Bb rfl) (by first|exact BH|exact Bb rfl) ?_|refine CF.Zy Cg (c:=⟨3,[3],[4],7,67,0⟩) mj (by first|exact BH|exact Bb rfl) (by first|exact BH|exact Bb rfl) (by first|exact BH|exact Bb rfl) (by first|exact BH|exact Bb rfl) ?_|refine CF.Zy Cg (c:=⟨2,[3],[5],1,0,0⟩) ml (by first|exact BH|exact Bb rfl) (by first|exact BH|exact Bb rfl) (by first|exact BH|exact Bb rfl) (by first|exact BH|exact Bb rfl) ?_|refine CF.Zy Cg (c:=⟨2,[3],[6],2,0,0⟩) mm (by first|exact BH|exact Bb rfl) (by first|exact BH|exact Bb rfl) (by first|exact BH|exact Bb rfl) (by first|exact BH|exact Bb rfl) ?_)<;>try simp only[*,w106,BT,AM,AJ,Qc,Qb,go_sem])
 exact Gc.state rfl rfl (by decide) h
theorem GY(h:K (.bool true) H):AF Tryz.prog 36 [] H K:=by
 refine AF.tidy ?_
 refine Aa ok36 ?_;(try simp only[c36,w36,BT,AM,AJ,Qc,Qb,YX,YW,go_sem]);repeat' ((first|refine orR ?_|(refine sp ?_ ?_<;>intro hc)|refine Zt ?_|refine R8 (by first|exact BH|exact Bb rfl) ?_|refine CF.bG Ej (a:=[4]) mn (by first|exact BH|exact Bb rfl) (by first|exact BH|exact Bb rfl) (by first|exact BH|exact Bb rfl) ?_|refine CF.bG Ej (a:=[3]) mo (by first|exact BH|exact Bb rfl) (by first|exact BH|exact Bb rfl) (by first|exact BH|exact Bb rfl) ?_|refine BS (s:=gK) (u:=Nz) (by first|exact BH|exact Bb rfl) (by first|exact BH|exact Bb rfl) (by first|exact BH|exact Bb rfl) (by first|exact BH|exact Bb rfl) bE.1 bE.2.1 ?_|refine AW (s:=dw) (by first|exact BH|exact Bb rfl) (by first|exact BH|exact Bb rfl) ?_)<;>try simp only[*,w36,BT,AM,AJ,Qc,Qb,YX,YW,go_sem])
 all_goals first|exact⟨rfl,_,rfl⟩|exact tb h ⟨_,rfl⟩ rfl
end
end Go.Proofs.YtlaipllgmddkiaaGreat.Ax
