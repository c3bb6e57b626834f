/-
  DERIVED: THE SHELF's CONTRACTS AT THIS DUMP, IN PLAIN WORDS (tools/lay-plain.mjs out of 'LayItoa2.lean', which tools/lay-shelf.mjs wrote): THE SAME DECLARATIONS UNDER THE SAME NAMES: 'import', 'namespace', 'open', 'def', 'theorem' AND NOTHING ELSE: no command of the shelf's: FOR A HAND-IN. Each laying: the table of numbers ('.._ren') and one theorem, a field a fact of the dump's own or the kernel's comparison; each contract: ONE APPLICATION.
-/
import Derived.Shelf.LaysM
import Derived.Shelf.Strconv.Itoa3
import Derived.Test.YthefajbigloihaaGreatDoorProg
set_option linter.unusedVariables false
set_option linter.unusedSimpArgs false
set_option linter.unusedSectionVars false
namespace Go.Proofs
open Go.Shelf
def Tryz.laysItoa_ren:Go.Shelf.Ren:=⟨fun |171=>56 |243=>103 |246=>159 |283=>224 |284=>225 |285=>226 |286=>227 |129=>174 |317=>290 |318=>291 |319=>292 |320=>293 |337=>326 |338=>327 |n=>n,fun |3=>3 |9=>9 |2=>2 |4=>4 |171=>235 |0=>0 |53=>42 |37=>104 |5=>5 |173=>237 |212=>279 |51=>144 |20=>20 |213=>280 |46=>143 |232=>319 |233=>320 |n=>n,fun |17=>4 |18=>5 |19=>6 |n=>n⟩
theorem Tryz.laysItoa:Go.Proofs.LaysM.n171 Tryz.prog Tryz.laysItoa_ren:={
 mixed:=by kernel_rfl
 f129:=Tryz.func174.trans (congrArg some (by kernel_rfl))
 f171:=Tryz.func56.trans (congrArg some (by kernel_rfl))
 f243:=Tryz.func103.trans (congrArg some (by kernel_rfl))
 f246:=Tryz.func159.trans (congrArg some (by kernel_rfl))
 f283:=Tryz.func224.trans (congrArg some (by kernel_rfl))
 f284:=Tryz.func225.trans (congrArg some (by kernel_rfl))
 f285:=Tryz.func226.trans (congrArg some (by kernel_rfl))
 f286:=Tryz.func227.trans (congrArg some (by kernel_rfl))
 f317:=Tryz.func290.trans (congrArg some (by kernel_rfl))
 f318:=Tryz.func291.trans (congrArg some (by kernel_rfl))
 f319:=Tryz.func292.trans (congrArg some (by kernel_rfl))
 f320:=Tryz.func293.trans (congrArg some (by kernel_rfl))
 f337:=Tryz.func326.trans (congrArg some (by kernel_rfl))
 f338:=Tryz.func327.trans (congrArg some (by kernel_rfl))
 t0:=Tryz.underlying0
 a0:=Tryz.isAgg0
 z0:=Tryz.sizeOf0
 v0:=Tryz.zeroValue0
 t2:=Tryz.underlying2
 a2:=Tryz.isAgg2
 z2:=Tryz.sizeOf2
 v2:=Tryz.zeroValue2
 t3:=Tryz.underlying3
 a3:=Tryz.isAgg3
 z3:=Tryz.sizeOf3
 v3:=Tryz.zeroValue3
 t4:=Tryz.underlying4
 a4:=Tryz.isAgg4
 z4:=Tryz.sizeOf4
 v4:=Tryz.zeroValue4
 t5:=Tryz.underlying5
 a5:=Tryz.isAgg5
 z5:=Tryz.sizeOf5
 v5:=Tryz.zeroValue5
 t9:=Tryz.underlying9
 a9:=Tryz.isAgg9
 z9:=Tryz.sizeOf9
 v9:=Tryz.zeroValue9
 t20:=Tryz.underlying20
 a20:=Tryz.isAgg20
 z20:=Tryz.sizeOf20
 v20:=Tryz.zeroValue20
 t37:=Tryz.underlying104
 a37:=Tryz.isAgg104
 z37:=Tryz.sizeOf104
 v37:=Tryz.zeroValue104
 t46:=Tryz.underlying143
 a46:=Tryz.isAgg143
 z46:=Tryz.sizeOf143
 v46:=Tryz.zeroValue143
 t51:=Tryz.underlying144
 a51:=Tryz.isAgg144
 z51:=Tryz.sizeOf144
 v51:=Tryz.zeroValue144
 t53:=Tryz.underlying42
 a53:=Tryz.isAgg42
 z53:=Tryz.sizeOf42
 v53:=Tryz.zeroValue42
 t171:=Tryz.underlying235
 a171:=Tryz.isAgg235
 z171:=Tryz.sizeOf235
 v171:=Tryz.zeroValue235
 t173:=Tryz.underlying237
 a173:=Tryz.isAgg237
 z173:=Tryz.sizeOf237
 v173:=Tryz.zeroValue237
 t212:=Tryz.underlying279
 a212:=Tryz.isAgg279
 z212:=Tryz.sizeOf279
 v212:=Tryz.zeroValue279
 t213:=Tryz.underlying280
 a213:=Tryz.isAgg280
 z213:=Tryz.sizeOf280
 t232:=Tryz.underlying319
 a232:=Tryz.isAgg319
 z232:=Tryz.sizeOf319
 v232:=Tryz.zeroValue319
 t233:=Tryz.underlying320
 a233:=Tryz.isAgg320
 z233:=Tryz.sizeOf320
 v233:=Tryz.zeroValue320
 g17:=by kernel_rfl
 g18:=by kernel_rfl
 g19:=by kernel_rfl
 i0:=by kernel_rfl
 i2:=by kernel_rfl
 i3:=by kernel_rfl
 i4:=by kernel_rfl
 i5:=by kernel_rfl
 i9:=by kernel_rfl
 i20:=by kernel_rfl
 i37:=by kernel_rfl
 i46:=by kernel_rfl
 i51:=by kernel_rfl
 i53:=by kernel_rfl
 i171:=by kernel_rfl
 i173:=by kernel_rfl
 i212:=by kernel_rfl
 i232:=by kernel_rfl
 i233:=by kernel_rfl
 m17:=by kernel_rfl
 m18:=by kernel_rfl
 m19:=by kernel_rfl}
end Go.Proofs
