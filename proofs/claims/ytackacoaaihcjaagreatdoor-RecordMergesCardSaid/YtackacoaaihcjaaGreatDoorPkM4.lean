import Derived.Test.YtackacoaaihcjaaGreatDoorPkM0
import Derived.Shelf.Sort.Plain
import Derived.Ground.NamesProg
import Derived.Test.YtackacoaaihcjaaGreatDoorProg
set_option linter.all false
namespace Go.Proofs
open Go.Shelf
def Tryz.Lj:Go.Shelf.Ren:=⟨λ|189=>320|125=>347|257=>346|128=>367|129=>300|294=>358|295=>359|296=>360|297=>361|298=>362|299=>363|216=>364|300=>365|301=>366|328=>378|329=>379|330=>380|331=>381|332=>382|215=>383|343=>390|n=>n,λ|28=>67|3=>3|46=>306|0=>0|51=>345|53=>330|4=>4|183=>433|182=>432|131=>134|5=>5|9=>9|218=>444|222=>448|228=>454|229=>70|n=>n,λ|n=>n⟩
def Tryz.abQ:Go.Proofs.Lays.n189 Tryz.prog Tryz.Lj:={
 mixed:=by kernel_rfl
 f125:=Tryz.func347.trans (aQ some (by kernel_rfl))
 f128:=Tryz.func367.trans (aQ some (by kernel_rfl))
 f129:=Tryz.func300.trans (aQ some (by kernel_rfl))
 f189:=Tryz.func320.trans (aQ some (by kernel_rfl))
 f215:=Tryz.func383.trans (aQ some (by kernel_rfl))
 f216:=Tryz.func364.trans (aQ some (by kernel_rfl))
 f257:=Tryz.func346.trans (aQ some (by kernel_rfl))
 f294:=Tryz.func358.trans (aQ some (by kernel_rfl))
 f295:=Tryz.func359.trans (aQ some (by kernel_rfl))
 f296:=Tryz.func360.trans (aQ some (by kernel_rfl))
 f297:=Tryz.func361.trans (aQ some (by kernel_rfl))
 f298:=Tryz.func362.trans (aQ some (by kernel_rfl))
 f299:=Tryz.func363.trans (aQ some (by kernel_rfl))
 f300:=Tryz.func365.trans (aQ some (by kernel_rfl))
 f301:=Tryz.func366.trans (aQ some (by kernel_rfl))
 f328:=Tryz.func378.trans (aQ some (by kernel_rfl))
 f329:=Tryz.func379.trans (aQ some (by kernel_rfl))
 f330:=Tryz.func380.trans (aQ some (by kernel_rfl))
 f331:=Tryz.func381.trans (aQ some (by kernel_rfl))
 f332:=Tryz.func382.trans (aQ some (by kernel_rfl))
 f343:=Tryz.func390.trans (aQ some (by kernel_rfl))
 t0:=Tryz.underlying0
 a0:=Tryz.isAgg0
 z0:=Tryz.sizeOf0
 v0:=Tryz.zeroValue0
 t3:=Tryz.underlying3
 a3:=Tryz.isAgg3
 z3:=Tryz.sizeOf3
 v3:=Tryz.zeroValue3
 t4:=Tryz.underlying4
 a4:=Tryz.isAgg4
 z4:=Tryz.sizeOf4
 v4:=Tryz.zeroValue4
 t5:=Tryz.underlying5
 a5:=Tryz.isAgg5
 z5:=Tryz.sizeOf5
 v5:=Tryz.zeroValue5
 t9:=Tryz.underlying9
 a9:=Tryz.isAgg9
 z9:=Tryz.sizeOf9
 v9:=Tryz.zeroValue9
 t28:=Tryz.underlying67
 a28:=Tryz.isAgg67
 z28:=Tryz.sizeOf67
 v28:=Tryz.zeroValue67
 t46:=Tryz.underlying306
 a46:=Tryz.isAgg306
 z46:=Tryz.sizeOf306
 v46:=Tryz.zeroValue306
 t51:=Tryz.underlying345
 a51:=Tryz.isAgg345
 z51:=Tryz.sizeOf345
 v51:=Tryz.zeroValue345
 t53:=Tryz.underlying330
 a53:=Tryz.isAgg330
 z53:=Tryz.sizeOf330
 v53:=Tryz.zeroValue330
 t131:=Tryz.underlying134
 a131:=Tryz.isAgg134
 z131:=Tryz.sizeOf134
 v131:=Tryz.zeroValue134
 t182:=Tryz.underlying432
 a182:=Tryz.isAgg432
 z182:=Tryz.sizeOf432
 v182:=Tryz.zeroValue432
 t183:=Tryz.underlying433
 a183:=Tryz.isAgg433
 z183:=Tryz.sizeOf433
 v183:=Tryz.zeroValue433
 t218:=Tryz.underlying444
 a218:=Tryz.isAgg444
 z218:=Tryz.sizeOf444
 v218:=Tryz.zeroValue444
 t222:=Tryz.underlying448
 a222:=Tryz.isAgg448
 z222:=Tryz.sizeOf448
 v222:=Tryz.zeroValue448
 t228:=Tryz.underlying454
 a228:=Tryz.isAgg454
 z228:=Tryz.sizeOf454
 v228:=Tryz.zeroValue454
 t229:=Tryz.underlying70
 a229:=Tryz.isAgg70
 z229:=Tryz.sizeOf70
 v229:=Tryz.zeroValue70}
end Go.Proofs
