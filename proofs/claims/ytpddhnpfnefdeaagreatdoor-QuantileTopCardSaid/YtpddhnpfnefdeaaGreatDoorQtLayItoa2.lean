/-
  DERIVED: THE SHELF's CONTRACTS AT THIS DUMP, IN PLAIN WORDS (tools/lay-plain.mjs out of 'LayItoa2.lean', which tools/lay-shelf.mjs wrote): THE SAME DECLARATIONS UNDER THE SAME NAMES: 'import', 'namespace', 'open', 'def', 'theorem' AND NOTHING ELSE: no command of the shelf's: FOR A HAND-IN. Each laying: the table of numbers ('.._ren') and one theorem, a field a fact of the dump's own or the kernel's comparison; each contract: ONE APPLICATION.
-/
import Derived.Shelf.LaysM
import Derived.Shelf.Strconv.Itoa3
import Derived.Test.YtpddhnpfnefdeaaGreatDoorProg
set_option linter.all false
namespace Go.Proofs
open Go.Shelf
def Tryz.laysItoa_ren:Go.Shelf.Ren:=⟨fun |171=>25 |243=>52 |246=>81 |283=>123 |284=>124 |285=>125 |286=>126 |129=>98 |317=>180 |318=>181 |319=>182 |320=>183 |337=>225 |338=>226 |n=>n,fun |3=>3 |9=>9 |2=>2 |4=>4 |171=>154 |0=>0 |53=>78 |37=>156 |5=>5 |173=>157 |212=>196 |51=>112 |20=>20 |213=>197 |46=>106 |232=>250 |233=>251 |n=>n,fun |17=>3 |18=>6 |19=>7 |n=>n⟩
theorem Tryz.laysItoa:Go.Proofs.LaysM.n171 Tryz.prog Tryz.laysItoa_ren:={
 mixed:=by kernel_rfl
 f129:=Tryz.func98.trans (congrArg some (by kernel_rfl))
 f171:=Tryz.func25.trans (congrArg some (by kernel_rfl))
 f243:=Tryz.func52.trans (congrArg some (by kernel_rfl))
 f246:=Tryz.func81.trans (congrArg some (by kernel_rfl))
 f283:=Tryz.func123.trans (congrArg some (by kernel_rfl))
 f284:=Tryz.func124.trans (congrArg some (by kernel_rfl))
 f285:=Tryz.func125.trans (congrArg some (by kernel_rfl))
 f286:=Tryz.func126.trans (congrArg some (by kernel_rfl))
 f317:=Tryz.func180.trans (congrArg some (by kernel_rfl))
 f318:=Tryz.func181.trans (congrArg some (by kernel_rfl))
 f319:=Tryz.func182.trans (congrArg some (by kernel_rfl))
 f320:=Tryz.func183.trans (congrArg some (by kernel_rfl))
 f337:=Tryz.func225.trans (congrArg some (by kernel_rfl))
 f338:=Tryz.func226.trans (congrArg some (by kernel_rfl))
 t0:=Tryz.underlying0
 a0:=Tryz.isAgg0
 z0:=Tryz.sizeOf0
 v0:=Tryz.zeroValue0
 t2:=Tryz.underlying2
 a2:=Tryz.isAgg2
 z2:=Tryz.sizeOf2
 v2:=Tryz.zeroValue2
 t3:=Tryz.underlying3
 a3:=Tryz.isAgg3
 z3:=Tryz.sizeOf3
 v3:=Tryz.zeroValue3
 t4:=Tryz.underlying4
 a4:=Tryz.isAgg4
 z4:=Tryz.sizeOf4
 v4:=Tryz.zeroValue4
 t5:=Tryz.underlying5
 a5:=Tryz.isAgg5
 z5:=Tryz.sizeOf5
 v5:=Tryz.zeroValue5
 t9:=Tryz.underlying9
 a9:=Tryz.isAgg9
 z9:=Tryz.sizeOf9
 v9:=Tryz.zeroValue9
 t20:=Tryz.underlying20
 a20:=Tryz.isAgg20
 z20:=Tryz.sizeOf20
 v20:=Tryz.zeroValue20
 t37:=Tryz.underlying156
 a37:=Tryz.isAgg156
 z37:=Tryz.sizeOf156
 v37:=Tryz.zeroValue156
 t46:=Tryz.underlying106
 a46:=Tryz.isAgg106
 z46:=Tryz.sizeOf106
 v46:=Tryz.zeroValue106
 t51:=Tryz.underlying112
 a51:=Tryz.isAgg112
 z51:=Tryz.sizeOf112
 v51:=Tryz.zeroValue112
 t53:=Tryz.underlying78
 a53:=Tryz.isAgg78
 z53:=Tryz.sizeOf78
 v53:=Tryz.zeroValue78
 t171:=Tryz.underlying154
 a171:=Tryz.isAgg154
 z171:=Tryz.sizeOf154
 v171:=Tryz.zeroValue154
 t173:=Tryz.underlying157
 a173:=Tryz.isAgg157
 z173:=Tryz.sizeOf157
 v173:=Tryz.zeroValue157
 t212:=Tryz.underlying196
 a212:=Tryz.isAgg196
 z212:=Tryz.sizeOf196
 v212:=Tryz.zeroValue196
 t213:=Tryz.underlying197
 a213:=Tryz.isAgg197
 z213:=Tryz.sizeOf197
 t232:=Tryz.underlying250
 a232:=Tryz.isAgg250
 z232:=Tryz.sizeOf250
 v232:=Tryz.zeroValue250
 t233:=Tryz.underlying251
 a233:=Tryz.isAgg251
 z233:=Tryz.sizeOf251
 v233:=Tryz.zeroValue251
 g17:=by kernel_rfl
 g18:=by kernel_rfl
 g19:=by kernel_rfl
 i0:=by kernel_rfl
 i2:=by kernel_rfl
 i3:=by kernel_rfl
 i4:=by kernel_rfl
 i5:=by kernel_rfl
 i9:=by kernel_rfl
 i20:=by kernel_rfl
 i37:=by kernel_rfl
 i46:=by kernel_rfl
 i51:=by kernel_rfl
 i53:=by kernel_rfl
 i171:=by kernel_rfl
 i173:=by kernel_rfl
 i212:=by kernel_rfl
 i232:=by kernel_rfl
 i233:=by kernel_rfl
 m17:=by kernel_rfl
 m18:=by kernel_rfl
 m19:=by kernel_rfl}
end Go.Proofs
