/- The library's sort of whole numbers, laid at this program (written by the kit's lay-plain tool). Conditions: none. -/
import Derived.Shelf.Sort.Plain
import Derived.Shelf.Slices.In.SortNone
import Derived.Test.YtohgndhnndeijaaGreatProg
set_option linter.all false
namespace Go.Proofs
open Go.Shelf
def Tryz.VD:Go.Shelf.Ren:=⟨fun|189=>73|125=>121|257=>120|128=>183|129=>184|294=>174|295=>175|296=>176|297=>177|298=>178|299=>179|216=>180|300=>181|301=>182|328=>217|329=>218|330=>219|331=>220|332=>221|215=>222|343=>247|n=>n,fun|28=>47|3=>3|46=>152|0=>0|51=>243|53=>42|4=>4|183=>236|182=>235|131=>240|5=>5|9=>9|218=>276|222=>279|228=>299|229=>100|n=>n,fun|n=>n⟩
theorem Tryz.YV:Go.Proofs.Lays.n189 Tryz.prog Tryz.VD:={
 mixed:=by kernel_rfl
 f125:=Tryz.func121.trans (congrArg some (by kernel_rfl))
 f128:=Tryz.func183.trans (congrArg some (by kernel_rfl))
 f129:=Tryz.func184.trans (congrArg some (by kernel_rfl))
 f189:=Tryz.func73.trans (congrArg some (by kernel_rfl))
 f215:=Tryz.func222.trans (congrArg some (by kernel_rfl))
 f216:=Tryz.func180.trans (congrArg some (by kernel_rfl))
 f257:=Tryz.func120.trans (congrArg some (by kernel_rfl))
 f294:=Tryz.func174.trans (congrArg some (by kernel_rfl))
 f295:=Tryz.func175.trans (congrArg some (by kernel_rfl))
 f296:=Tryz.func176.trans (congrArg some (by kernel_rfl))
 f297:=Tryz.func177.trans (congrArg some (by kernel_rfl))
 f298:=Tryz.func178.trans (congrArg some (by kernel_rfl))
 f299:=Tryz.func179.trans (congrArg some (by kernel_rfl))
 f300:=Tryz.func181.trans (congrArg some (by kernel_rfl))
 f301:=Tryz.func182.trans (congrArg some (by kernel_rfl))
 f328:=Tryz.func217.trans (congrArg some (by kernel_rfl))
 f329:=Tryz.func218.trans (congrArg some (by kernel_rfl))
 f330:=Tryz.func219.trans (congrArg some (by kernel_rfl))
 f331:=Tryz.func220.trans (congrArg some (by kernel_rfl))
 f332:=Tryz.func221.trans (congrArg some (by kernel_rfl))
 f343:=Tryz.func247.trans (congrArg some (by kernel_rfl))
 t0:=Tryz.underlying0
 a0:=Tryz.isAgg0
 z0:=Tryz.sizeOf0
 v0:=Tryz.zeroValue0
 t3:=Tryz.underlying3
 a3:=Tryz.isAgg3
 z3:=Tryz.sizeOf3
 v3:=Tryz.zeroValue3
 t4:=Tryz.underlying4
 a4:=Tryz.isAgg4
 z4:=Tryz.sizeOf4
 v4:=Tryz.zeroValue4
 t5:=Tryz.underlying5
 a5:=Tryz.isAgg5
 z5:=Tryz.sizeOf5
 v5:=Tryz.zeroValue5
 t9:=Tryz.underlying9
 a9:=Tryz.isAgg9
 z9:=Tryz.sizeOf9
 v9:=Tryz.zeroValue9
 t28:=Tryz.underlying47
 a28:=Tryz.isAgg47
 z28:=Tryz.sizeOf47
 v28:=Tryz.zeroValue47
 t46:=Tryz.underlying152
 a46:=Tryz.isAgg152
 z46:=Tryz.sizeOf152
 v46:=Tryz.zeroValue152
 t51:=Tryz.underlying243
 a51:=Tryz.isAgg243
 z51:=Tryz.sizeOf243
 v51:=Tryz.zeroValue243
 t53:=Tryz.underlying42
 a53:=Tryz.isAgg42
 z53:=Tryz.sizeOf42
 v53:=Tryz.zeroValue42
 t131:=Tryz.underlying240
 a131:=Tryz.isAgg240
 z131:=Tryz.sizeOf240
 v131:=Tryz.zeroValue240
 t182:=Tryz.underlying235
 a182:=Tryz.isAgg235
 z182:=Tryz.sizeOf235
 v182:=Tryz.zeroValue235
 t183:=Tryz.underlying236
 a183:=Tryz.isAgg236
 z183:=Tryz.sizeOf236
 v183:=Tryz.zeroValue236
 t218:=Tryz.underlying276
 a218:=Tryz.isAgg276
 z218:=Tryz.sizeOf276
 v218:=Tryz.zeroValue276
 t222:=Tryz.underlying279
 a222:=Tryz.isAgg279
 z222:=Tryz.sizeOf279
 v222:=Tryz.zeroValue279
 t228:=Tryz.underlying299
 a228:=Tryz.isAgg299
 z228:=Tryz.sizeOf299
 v228:=Tryz.zeroValue299
 t229:=Tryz.underlying100
 a229:=Tryz.isAgg100
 z229:=Tryz.sizeOf100
 v229:=Tryz.zeroValue100}
end Go.Proofs
