/-
  DERIVED: THE SHELF's CONTRACTS AT THIS DUMP, IN PLAIN WORDS (tools/lay-plain.mjs out of 'LayItoa.lean', which tools/lay-shelf.mjs wrote): THE SAME DECLARATIONS UNDER THE SAME NAMES: 'import', 'namespace', 'open', 'def', 'theorem' AND NOTHING ELSE: no command of the shelf's: FOR A HAND-IN. Each laying: the table of numbers ('.._ren') and one theorem, a field a fact of the dump's own or the kernel's comparison; each contract: ONE APPLICATION.
-/
import Derived.Shelf.LaysM
import Derived.Shelf.Strconv.Itoa3
import Derived.Test.YtbjnddlpdlfknaaGreatDoorProg
set_option linter.unusedVariables false
set_option linter.unusedSimpArgs false
set_option linter.unusedSectionVars false
namespace Go.Proofs
open Go.Shelf
def Tryz.laysItoa_ren:Go.Shelf.Ren:=⟨fun |171=>42 |243=>74 |246=>114 |283=>160 |284=>161 |285=>162 |286=>163 |129=>131 |317=>206 |318=>207 |319=>208 |320=>209 |337=>232 |338=>233 |n=>n,fun |3=>3 |9=>9 |2=>2 |4=>4 |171=>186 |0=>0 |53=>49 |37=>162 |5=>5 |173=>188 |212=>216 |51=>128 |20=>20 |213=>217 |46=>130 |232=>252 |233=>253 |n=>n,fun |17=>4 |18=>5 |19=>6 |n=>n⟩
theorem Tryz.laysItoa:Go.Proofs.LaysM.n171 Tryz.prog Tryz.laysItoa_ren:={
 mixed:=by kernel_rfl
 f129:=Tryz.func131.trans (congrArg some (by kernel_rfl))
 f171:=Tryz.func42.trans (congrArg some (by kernel_rfl))
 f243:=Tryz.func74.trans (congrArg some (by kernel_rfl))
 f246:=Tryz.func114.trans (congrArg some (by kernel_rfl))
 f283:=Tryz.func160.trans (congrArg some (by kernel_rfl))
 f284:=Tryz.func161.trans (congrArg some (by kernel_rfl))
 f285:=Tryz.func162.trans (congrArg some (by kernel_rfl))
 f286:=Tryz.func163.trans (congrArg some (by kernel_rfl))
 f317:=Tryz.func206.trans (congrArg some (by kernel_rfl))
 f318:=Tryz.func207.trans (congrArg some (by kernel_rfl))
 f319:=Tryz.func208.trans (congrArg some (by kernel_rfl))
 f320:=Tryz.func209.trans (congrArg some (by kernel_rfl))
 f337:=Tryz.func232.trans (congrArg some (by kernel_rfl))
 f338:=Tryz.func233.trans (congrArg some (by kernel_rfl))
 t0:=Tryz.underlying0
 a0:=Tryz.isAgg0
 z0:=Tryz.sizeOf0
 v0:=Tryz.zeroValue0
 t2:=Tryz.underlying2
 a2:=Tryz.isAgg2
 z2:=Tryz.sizeOf2
 v2:=Tryz.zeroValue2
 t3:=Tryz.underlying3
 a3:=Tryz.isAgg3
 z3:=Tryz.sizeOf3
 v3:=Tryz.zeroValue3
 t4:=Tryz.underlying4
 a4:=Tryz.isAgg4
 z4:=Tryz.sizeOf4
 v4:=Tryz.zeroValue4
 t5:=Tryz.underlying5
 a5:=Tryz.isAgg5
 z5:=Tryz.sizeOf5
 v5:=Tryz.zeroValue5
 t9:=Tryz.underlying9
 a9:=Tryz.isAgg9
 z9:=Tryz.sizeOf9
 v9:=Tryz.zeroValue9
 t20:=Tryz.underlying20
 a20:=Tryz.isAgg20
 z20:=Tryz.sizeOf20
 v20:=Tryz.zeroValue20
 t37:=Tryz.underlying162
 a37:=Tryz.isAgg162
 z37:=Tryz.sizeOf162
 v37:=Tryz.zeroValue162
 t46:=Tryz.underlying130
 a46:=Tryz.isAgg130
 z46:=Tryz.sizeOf130
 v46:=Tryz.zeroValue130
 t51:=Tryz.underlying128
 a51:=Tryz.isAgg128
 z51:=Tryz.sizeOf128
 v51:=Tryz.zeroValue128
 t53:=Tryz.underlying49
 a53:=Tryz.isAgg49
 z53:=Tryz.sizeOf49
 v53:=Tryz.zeroValue49
 t171:=Tryz.underlying186
 a171:=Tryz.isAgg186
 z171:=Tryz.sizeOf186
 v171:=Tryz.zeroValue186
 t173:=Tryz.underlying188
 a173:=Tryz.isAgg188
 z173:=Tryz.sizeOf188
 v173:=Tryz.zeroValue188
 t212:=Tryz.underlying216
 a212:=Tryz.isAgg216
 z212:=Tryz.sizeOf216
 v212:=Tryz.zeroValue216
 t213:=Tryz.underlying217
 a213:=Tryz.isAgg217
 z213:=Tryz.sizeOf217
 t232:=Tryz.underlying252
 a232:=Tryz.isAgg252
 z232:=Tryz.sizeOf252
 v232:=Tryz.zeroValue252
 t233:=Tryz.underlying253
 a233:=Tryz.isAgg253
 z233:=Tryz.sizeOf253
 v233:=Tryz.zeroValue253
 g17:=by kernel_rfl
 g18:=by kernel_rfl
 g19:=by kernel_rfl
 i0:=by kernel_rfl
 i2:=by kernel_rfl
 i3:=by kernel_rfl
 i4:=by kernel_rfl
 i5:=by kernel_rfl
 i9:=by kernel_rfl
 i20:=by kernel_rfl
 i37:=by kernel_rfl
 i46:=by kernel_rfl
 i51:=by kernel_rfl
 i53:=by kernel_rfl
 i171:=by kernel_rfl
 i173:=by kernel_rfl
 i212:=by kernel_rfl
 i232:=by kernel_rfl
 i233:=by kernel_rfl
 m17:=by kernel_rfl
 m18:=by kernel_rfl
 m19:=by kernel_rfl}
end Go.Proofs
