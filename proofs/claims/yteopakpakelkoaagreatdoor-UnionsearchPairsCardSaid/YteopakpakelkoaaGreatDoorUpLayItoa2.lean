/-
  DERIVED: THE SHELF's CONTRACTS AT THIS DUMP, IN PLAIN WORDS (tools/lay-plain.mjs out of 'LayItoa2.lean', which tools/lay-shelf.mjs wrote): THE SAME DECLARATIONS UNDER THE SAME NAMES: 'import', 'namespace', 'open', 'def', 'theorem' AND NOTHING ELSE: no command of the shelf's: FOR A HAND-IN. Each laying: the table of numbers ('.._ren') and one theorem, a field a fact of the dump's own or the kernel's comparison; each contract: ONE APPLICATION.
-/
import Derived.Shelf.LaysM
import Derived.Shelf.Strconv.Itoa3
import Derived.Test.YteopakpakelkoaaGreatDoorProg
set_option linter.all false
namespace Go.Proofs
open Go.Shelf
def Tryz.laysItoa_ren:Go.Shelf.Ren:=⟨fun |171=>57 |243=>102 |246=>142 |283=>192 |284=>193 |285=>194 |286=>195 |129=>191 |317=>226 |318=>227 |319=>228 |320=>229 |337=>268 |338=>269 |n=>n,fun |3=>3 |9=>9 |2=>2 |4=>4 |171=>204 |0=>0 |53=>147 |37=>166 |5=>5 |173=>206 |212=>245 |51=>123 |20=>20 |213=>246 |46=>122 |232=>288 |233=>289 |n=>n,fun |17=>3 |18=>4 |19=>5 |n=>n⟩
theorem Tryz.laysItoa:Go.Proofs.LaysM.n171 Tryz.prog Tryz.laysItoa_ren:={
 mixed:=by kernel_rfl
 f129:=Tryz.func191.trans (congrArg some (by kernel_rfl))
 f171:=Tryz.func57.trans (congrArg some (by kernel_rfl))
 f243:=Tryz.func102.trans (congrArg some (by kernel_rfl))
 f246:=Tryz.func142.trans (congrArg some (by kernel_rfl))
 f283:=Tryz.func192.trans (congrArg some (by kernel_rfl))
 f284:=Tryz.func193.trans (congrArg some (by kernel_rfl))
 f285:=Tryz.func194.trans (congrArg some (by kernel_rfl))
 f286:=Tryz.func195.trans (congrArg some (by kernel_rfl))
 f317:=Tryz.func226.trans (congrArg some (by kernel_rfl))
 f318:=Tryz.func227.trans (congrArg some (by kernel_rfl))
 f319:=Tryz.func228.trans (congrArg some (by kernel_rfl))
 f320:=Tryz.func229.trans (congrArg some (by kernel_rfl))
 f337:=Tryz.func268.trans (congrArg some (by kernel_rfl))
 f338:=Tryz.func269.trans (congrArg some (by kernel_rfl))
 t0:=Tryz.underlying0
 a0:=Tryz.isAgg0
 z0:=Tryz.sizeOf0
 v0:=Tryz.zeroValue0
 t2:=Tryz.underlying2
 a2:=Tryz.isAgg2
 z2:=Tryz.sizeOf2
 v2:=Tryz.zeroValue2
 t3:=Tryz.underlying3
 a3:=Tryz.isAgg3
 z3:=Tryz.sizeOf3
 v3:=Tryz.zeroValue3
 t4:=Tryz.underlying4
 a4:=Tryz.isAgg4
 z4:=Tryz.sizeOf4
 v4:=Tryz.zeroValue4
 t5:=Tryz.underlying5
 a5:=Tryz.isAgg5
 z5:=Tryz.sizeOf5
 v5:=Tryz.zeroValue5
 t9:=Tryz.underlying9
 a9:=Tryz.isAgg9
 z9:=Tryz.sizeOf9
 v9:=Tryz.zeroValue9
 t20:=Tryz.underlying20
 a20:=Tryz.isAgg20
 z20:=Tryz.sizeOf20
 v20:=Tryz.zeroValue20
 t37:=Tryz.underlying166
 a37:=Tryz.isAgg166
 z37:=Tryz.sizeOf166
 v37:=Tryz.zeroValue166
 t46:=Tryz.underlying122
 a46:=Tryz.isAgg122
 z46:=Tryz.sizeOf122
 v46:=Tryz.zeroValue122
 t51:=Tryz.underlying123
 a51:=Tryz.isAgg123
 z51:=Tryz.sizeOf123
 v51:=Tryz.zeroValue123
 t53:=Tryz.underlying147
 a53:=Tryz.isAgg147
 z53:=Tryz.sizeOf147
 v53:=Tryz.zeroValue147
 t171:=Tryz.underlying204
 a171:=Tryz.isAgg204
 z171:=Tryz.sizeOf204
 v171:=Tryz.zeroValue204
 t173:=Tryz.underlying206
 a173:=Tryz.isAgg206
 z173:=Tryz.sizeOf206
 v173:=Tryz.zeroValue206
 t212:=Tryz.underlying245
 a212:=Tryz.isAgg245
 z212:=Tryz.sizeOf245
 v212:=Tryz.zeroValue245
 t213:=Tryz.underlying246
 a213:=Tryz.isAgg246
 z213:=Tryz.sizeOf246
 t232:=Tryz.underlying288
 a232:=Tryz.isAgg288
 z232:=Tryz.sizeOf288
 v232:=Tryz.zeroValue288
 t233:=Tryz.underlying289
 a233:=Tryz.isAgg289
 z233:=Tryz.sizeOf289
 v233:=Tryz.zeroValue289
 g17:=by kernel_rfl
 g18:=by kernel_rfl
 g19:=by kernel_rfl
 i0:=by kernel_rfl
 i2:=by kernel_rfl
 i3:=by kernel_rfl
 i4:=by kernel_rfl
 i5:=by kernel_rfl
 i9:=by kernel_rfl
 i20:=by kernel_rfl
 i37:=by kernel_rfl
 i46:=by kernel_rfl
 i51:=by kernel_rfl
 i53:=by kernel_rfl
 i171:=by kernel_rfl
 i173:=by kernel_rfl
 i212:=by kernel_rfl
 i232:=by kernel_rfl
 i233:=by kernel_rfl
 m17:=by kernel_rfl
 m18:=by kernel_rfl
 m19:=by kernel_rfl}
end Go.Proofs
