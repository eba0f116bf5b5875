import Derived.Test.YtolnfpljgjpbpaaGreatDoorPk0
import Derived.Shelf.Sort.Plain
import Derived.Ground.NamesProg
import Derived.Test.YtolnfpljgjpbpaaGreatDoorProg
set_option linter.all false
namespace Go.Proofs
open Go.Shelf
def Tryz.LP:Go.Shelf.Ren:=⟨λ|189=>274|125=>323|257=>322|128=>352|129=>331|294=>343|295=>344|296=>345|297=>346|298=>347|299=>348|216=>349|300=>350|301=>351|328=>365|329=>366|330=>367|331=>368|332=>369|215=>370|343=>377|n=>n,λ|28=>127|3=>3|46=>235|0=>0|51=>276|53=>361|4=>4|183=>418|182=>417|131=>168|5=>5|9=>9|218=>430|222=>434|228=>442|229=>46|n=>n,λ|n=>n⟩
def Tryz.abU:Go.Proofs.Lays.n189 Tryz.prog Tryz.LP:={
 mixed:=by kernel_rfl
 f125:=Tryz.func323.trans (aP some (by kernel_rfl))
 f128:=Tryz.func352.trans (aP some (by kernel_rfl))
 f129:=Tryz.func331.trans (aP some (by kernel_rfl))
 f189:=Tryz.func274.trans (aP some (by kernel_rfl))
 f215:=Tryz.func370.trans (aP some (by kernel_rfl))
 f216:=Tryz.func349.trans (aP some (by kernel_rfl))
 f257:=Tryz.func322.trans (aP some (by kernel_rfl))
 f294:=Tryz.func343.trans (aP some (by kernel_rfl))
 f295:=Tryz.func344.trans (aP some (by kernel_rfl))
 f296:=Tryz.func345.trans (aP some (by kernel_rfl))
 f297:=Tryz.func346.trans (aP some (by kernel_rfl))
 f298:=Tryz.func347.trans (aP some (by kernel_rfl))
 f299:=Tryz.func348.trans (aP some (by kernel_rfl))
 f300:=Tryz.func350.trans (aP some (by kernel_rfl))
 f301:=Tryz.func351.trans (aP some (by kernel_rfl))
 f328:=Tryz.func365.trans (aP some (by kernel_rfl))
 f329:=Tryz.func366.trans (aP some (by kernel_rfl))
 f330:=Tryz.func367.trans (aP some (by kernel_rfl))
 f331:=Tryz.func368.trans (aP some (by kernel_rfl))
 f332:=Tryz.func369.trans (aP some (by kernel_rfl))
 f343:=Tryz.func377.trans (aP some (by kernel_rfl))
 t0:=Tryz.underlying0
 a0:=Tryz.isAgg0
 z0:=Tryz.sizeOf0
 v0:=Tryz.zeroValue0
 t3:=Tryz.underlying3
 a3:=Tryz.isAgg3
 z3:=Tryz.sizeOf3
 v3:=Tryz.zeroValue3
 t4:=Tryz.underlying4
 a4:=Tryz.isAgg4
 z4:=Tryz.sizeOf4
 v4:=Tryz.zeroValue4
 t5:=Tryz.underlying5
 a5:=Tryz.isAgg5
 z5:=Tryz.sizeOf5
 v5:=Tryz.zeroValue5
 t9:=Tryz.underlying9
 a9:=Tryz.isAgg9
 z9:=Tryz.sizeOf9
 v9:=Tryz.zeroValue9
 t28:=Tryz.underlying127
 a28:=Tryz.isAgg127
 z28:=Tryz.sizeOf127
 v28:=Tryz.zeroValue127
 t46:=Tryz.underlying235
 a46:=Tryz.isAgg235
 z46:=Tryz.sizeOf235
 v46:=Tryz.zeroValue235
 t51:=Tryz.underlying276
 a51:=Tryz.isAgg276
 z51:=Tryz.sizeOf276
 v51:=Tryz.zeroValue276
 t53:=Tryz.underlying361
 a53:=Tryz.isAgg361
 z53:=Tryz.sizeOf361
 v53:=Tryz.zeroValue361
 t131:=Tryz.underlying168
 a131:=Tryz.isAgg168
 z131:=Tryz.sizeOf168
 v131:=Tryz.zeroValue168
 t182:=Tryz.underlying417
 a182:=Tryz.isAgg417
 z182:=Tryz.sizeOf417
 v182:=Tryz.zeroValue417
 t183:=Tryz.underlying418
 a183:=Tryz.isAgg418
 z183:=Tryz.sizeOf418
 v183:=Tryz.zeroValue418
 t218:=Tryz.underlying430
 a218:=Tryz.isAgg430
 z218:=Tryz.sizeOf430
 v218:=Tryz.zeroValue430
 t222:=Tryz.underlying434
 a222:=Tryz.isAgg434
 z222:=Tryz.sizeOf434
 v222:=Tryz.zeroValue434
 t228:=Tryz.underlying442
 a228:=Tryz.isAgg442
 z228:=Tryz.sizeOf442
 v228:=Tryz.zeroValue442
 t229:=Tryz.underlying46
 a229:=Tryz.isAgg46
 z229:=Tryz.sizeOf46
 v229:=Tryz.zeroValue46}
end Go.Proofs
