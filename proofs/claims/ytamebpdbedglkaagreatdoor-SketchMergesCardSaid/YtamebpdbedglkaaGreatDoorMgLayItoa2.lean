/-
  DERIVED: THE SHELF's CONTRACTS AT THIS DUMP, IN PLAIN WORDS (tools/lay-plain.mjs out of 'LayItoa2.lean', which tools/lay-shelf.mjs wrote): THE SAME DECLARATIONS UNDER THE SAME NAMES: 'import', 'namespace', 'open', 'def', 'theorem' AND NOTHING ELSE: no command of the shelf's: FOR A HAND-IN. Each laying: the table of numbers ('.._ren') and one theorem, a field a fact of the dump's own or the kernel's comparison; each contract: ONE APPLICATION.
-/
import Derived.Shelf.LaysM
import Derived.Shelf.Strconv.Itoa3
import Derived.Test.YtamebpdbedglkaaGreatDoorProg
set_option linter.unusedVariables false
set_option linter.unusedSimpArgs false
set_option linter.unusedSectionVars false
namespace Go.Proofs
open Go.Shelf
def Tryz.laysItoa_ren:Go.Shelf.Ren:=⟨fun |171=>25 |243=>41 |246=>66 |283=>103 |284=>104 |285=>105 |286=>106 |129=>102 |317=>130 |318=>131 |319=>132 |320=>133 |337=>153 |338=>154 |n=>n,fun |3=>3 |9=>9 |2=>2 |4=>4 |171=>139 |0=>0 |53=>51 |37=>124 |5=>5 |173=>141 |212=>164 |51=>75 |20=>20 |213=>165 |46=>109 |232=>193 |233=>194 |n=>n,fun |17=>2 |18=>4 |19=>5 |n=>n⟩
theorem Tryz.laysItoa:Go.Proofs.LaysM.n171 Tryz.prog Tryz.laysItoa_ren:={
 mixed:=by kernel_rfl
 f129:=Tryz.func102.trans (congrArg some (by kernel_rfl))
 f171:=Tryz.func25.trans (congrArg some (by kernel_rfl))
 f243:=Tryz.func41.trans (congrArg some (by kernel_rfl))
 f246:=Tryz.func66.trans (congrArg some (by kernel_rfl))
 f283:=Tryz.func103.trans (congrArg some (by kernel_rfl))
 f284:=Tryz.func104.trans (congrArg some (by kernel_rfl))
 f285:=Tryz.func105.trans (congrArg some (by kernel_rfl))
 f286:=Tryz.func106.trans (congrArg some (by kernel_rfl))
 f317:=Tryz.func130.trans (congrArg some (by kernel_rfl))
 f318:=Tryz.func131.trans (congrArg some (by kernel_rfl))
 f319:=Tryz.func132.trans (congrArg some (by kernel_rfl))
 f320:=Tryz.func133.trans (congrArg some (by kernel_rfl))
 f337:=Tryz.func153.trans (congrArg some (by kernel_rfl))
 f338:=Tryz.func154.trans (congrArg some (by kernel_rfl))
 t0:=Tryz.underlying0
 a0:=Tryz.isAgg0
 z0:=Tryz.sizeOf0
 v0:=Tryz.zeroValue0
 t2:=Tryz.underlying2
 a2:=Tryz.isAgg2
 z2:=Tryz.sizeOf2
 v2:=Tryz.zeroValue2
 t3:=Tryz.underlying3
 a3:=Tryz.isAgg3
 z3:=Tryz.sizeOf3
 v3:=Tryz.zeroValue3
 t4:=Tryz.underlying4
 a4:=Tryz.isAgg4
 z4:=Tryz.sizeOf4
 v4:=Tryz.zeroValue4
 t5:=Tryz.underlying5
 a5:=Tryz.isAgg5
 z5:=Tryz.sizeOf5
 v5:=Tryz.zeroValue5
 t9:=Tryz.underlying9
 a9:=Tryz.isAgg9
 z9:=Tryz.sizeOf9
 v9:=Tryz.zeroValue9
 t20:=Tryz.underlying20
 a20:=Tryz.isAgg20
 z20:=Tryz.sizeOf20
 v20:=Tryz.zeroValue20
 t37:=Tryz.underlying124
 a37:=Tryz.isAgg124
 z37:=Tryz.sizeOf124
 v37:=Tryz.zeroValue124
 t46:=Tryz.underlying109
 a46:=Tryz.isAgg109
 z46:=Tryz.sizeOf109
 v46:=Tryz.zeroValue109
 t51:=Tryz.underlying75
 a51:=Tryz.isAgg75
 z51:=Tryz.sizeOf75
 v51:=Tryz.zeroValue75
 t53:=Tryz.underlying51
 a53:=Tryz.isAgg51
 z53:=Tryz.sizeOf51
 v53:=Tryz.zeroValue51
 t171:=Tryz.underlying139
 a171:=Tryz.isAgg139
 z171:=Tryz.sizeOf139
 v171:=Tryz.zeroValue139
 t173:=Tryz.underlying141
 a173:=Tryz.isAgg141
 z173:=Tryz.sizeOf141
 v173:=Tryz.zeroValue141
 t212:=Tryz.underlying164
 a212:=Tryz.isAgg164
 z212:=Tryz.sizeOf164
 v212:=Tryz.zeroValue164
 t213:=Tryz.underlying165
 a213:=Tryz.isAgg165
 z213:=Tryz.sizeOf165
 t232:=Tryz.underlying193
 a232:=Tryz.isAgg193
 z232:=Tryz.sizeOf193
 v232:=Tryz.zeroValue193
 t233:=Tryz.underlying194
 a233:=Tryz.isAgg194
 z233:=Tryz.sizeOf194
 v233:=Tryz.zeroValue194
 g17:=by kernel_rfl
 g18:=by kernel_rfl
 g19:=by kernel_rfl
 i0:=by kernel_rfl
 i2:=by kernel_rfl
 i3:=by kernel_rfl
 i4:=by kernel_rfl
 i5:=by kernel_rfl
 i9:=by kernel_rfl
 i20:=by kernel_rfl
 i37:=by kernel_rfl
 i46:=by kernel_rfl
 i51:=by kernel_rfl
 i53:=by kernel_rfl
 i171:=by kernel_rfl
 i173:=by kernel_rfl
 i212:=by kernel_rfl
 i232:=by kernel_rfl
 i233:=by kernel_rfl
 m17:=by kernel_rfl
 m18:=by kernel_rfl
 m19:=by kernel_rfl}
end Go.Proofs
