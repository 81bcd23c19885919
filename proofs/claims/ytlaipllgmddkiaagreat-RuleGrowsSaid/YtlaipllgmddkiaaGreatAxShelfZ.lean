/- The library's sort of whole numbers, laid at this program (written by the kit's lay-plain tool). Conditions: none. -/
import Derived.Shelf.Sort.Plain
import Derived.Shelf.Slices.In.SortNone
import Derived.Test.YtlaipllgmddkiaaGreatProg
set_option linter.all false
namespace Go.Proofs
open Go.Shelf
def Tryz.VD:Go.Shelf.Ren:=⟨fun|189=>138|125=>206|257=>205|128=>249|129=>250|294=>240|295=>241|296=>242|297=>243|298=>244|299=>245|216=>246|300=>247|301=>248|328=>263|329=>264|330=>265|331=>266|332=>267|215=>268|343=>273|n=>n,fun|28=>28|3=>3|46=>180|0=>0|51=>237|53=>31|4=>4|183=>231|182=>230|131=>165|5=>5|9=>9|218=>244|222=>247|228=>253|229=>254|n=>n,fun|n=>n⟩
theorem Tryz.YV:Go.Proofs.Lays.n189 Tryz.prog Tryz.VD:={
 mixed:=by kernel_rfl
 f125:=Tryz.func206.trans (congrArg some (by kernel_rfl))
 f128:=Tryz.func249.trans (congrArg some (by kernel_rfl))
 f129:=Tryz.func250.trans (congrArg some (by kernel_rfl))
 f189:=Tryz.func138.trans (congrArg some (by kernel_rfl))
 f215:=Tryz.func268.trans (congrArg some (by kernel_rfl))
 f216:=Tryz.func246.trans (congrArg some (by kernel_rfl))
 f257:=Tryz.func205.trans (congrArg some (by kernel_rfl))
 f294:=Tryz.func240.trans (congrArg some (by kernel_rfl))
 f295:=Tryz.func241.trans (congrArg some (by kernel_rfl))
 f296:=Tryz.func242.trans (congrArg some (by kernel_rfl))
 f297:=Tryz.func243.trans (congrArg some (by kernel_rfl))
 f298:=Tryz.func244.trans (congrArg some (by kernel_rfl))
 f299:=Tryz.func245.trans (congrArg some (by kernel_rfl))
 f300:=Tryz.func247.trans (congrArg some (by kernel_rfl))
 f301:=Tryz.func248.trans (congrArg some (by kernel_rfl))
 f328:=Tryz.func263.trans (congrArg some (by kernel_rfl))
 f329:=Tryz.func264.trans (congrArg some (by kernel_rfl))
 f330:=Tryz.func265.trans (congrArg some (by kernel_rfl))
 f331:=Tryz.func266.trans (congrArg some (by kernel_rfl))
 f332:=Tryz.func267.trans (congrArg some (by kernel_rfl))
 f343:=Tryz.func273.trans (congrArg some (by kernel_rfl))
 t0:=Tryz.underlying0
 a0:=Tryz.isAgg0
 z0:=Tryz.sizeOf0
 v0:=Tryz.zeroValue0
 t3:=Tryz.underlying3
 a3:=Tryz.isAgg3
 z3:=Tryz.sizeOf3
 v3:=Tryz.zeroValue3
 t4:=Tryz.underlying4
 a4:=Tryz.isAgg4
 z4:=Tryz.sizeOf4
 v4:=Tryz.zeroValue4
 t5:=Tryz.underlying5
 a5:=Tryz.isAgg5
 z5:=Tryz.sizeOf5
 v5:=Tryz.zeroValue5
 t9:=Tryz.underlying9
 a9:=Tryz.isAgg9
 z9:=Tryz.sizeOf9
 v9:=Tryz.zeroValue9
 t28:=Tryz.underlying28
 a28:=Tryz.isAgg28
 z28:=Tryz.sizeOf28
 v28:=Tryz.zeroValue28
 t46:=Tryz.underlying180
 a46:=Tryz.isAgg180
 z46:=Tryz.sizeOf180
 v46:=Tryz.zeroValue180
 t51:=Tryz.underlying237
 a51:=Tryz.isAgg237
 z51:=Tryz.sizeOf237
 v51:=Tryz.zeroValue237
 t53:=Tryz.underlying31
 a53:=Tryz.isAgg31
 z53:=Tryz.sizeOf31
 v53:=Tryz.zeroValue31
 t131:=Tryz.underlying165
 a131:=Tryz.isAgg165
 z131:=Tryz.sizeOf165
 v131:=Tryz.zeroValue165
 t182:=Tryz.underlying230
 a182:=Tryz.isAgg230
 z182:=Tryz.sizeOf230
 v182:=Tryz.zeroValue230
 t183:=Tryz.underlying231
 a183:=Tryz.isAgg231
 z183:=Tryz.sizeOf231
 v183:=Tryz.zeroValue231
 t218:=Tryz.underlying244
 a218:=Tryz.isAgg244
 z218:=Tryz.sizeOf244
 v218:=Tryz.zeroValue244
 t222:=Tryz.underlying247
 a222:=Tryz.isAgg247
 z222:=Tryz.sizeOf247
 v222:=Tryz.zeroValue247
 t228:=Tryz.underlying253
 a228:=Tryz.isAgg253
 z228:=Tryz.sizeOf253
 v228:=Tryz.zeroValue253
 t229:=Tryz.underlying254
 a229:=Tryz.isAgg254
 z229:=Tryz.sizeOf254
 v229:=Tryz.zeroValue254}
end Go.Proofs
