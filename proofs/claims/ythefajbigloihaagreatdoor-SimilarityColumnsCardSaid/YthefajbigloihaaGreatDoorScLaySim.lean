/-
  DERIVED: THE SHELF's CONTRACTS AT THIS DUMP, IN PLAIN WORDS (tools/lay-plain.mjs out of 'LaySim.lean', which tools/lay-shelf.mjs wrote): THE SAME DECLARATIONS UNDER THE SAME NAMES: 'import', 'namespace', 'open', 'def', 'theorem' AND NOTHING ELSE: no command of the shelf's: FOR A HAND-IN. Each laying: the table of numbers ('.._ren') and one theorem, a field a fact of the dump's own or the kernel's comparison; each contract: ONE APPLICATION.
-/
import Derived.Shelf.SlGeneric
import Derived.Shelf.Strings.BuilderF
import Derived.Shelf.Strings.BuilderK
import Derived.Shelf.SlIter.Sorted
import Derived.Shelf.SlIter.Nil
import Derived.Shelf.SortM.Plain
import Derived.Shelf.SortM.SortNone
import Derived.Shelf.SlicesG.CompactS
import Derived.Ground.GgzProg
import Derived.Ground.SlgmProg
import Derived.Ground.SlgnProg
import Derived.Test.YthefajbigloihaaGreatDoorProg
set_option linter.unusedVariables false
set_option linter.unusedSimpArgs false
set_option linter.unusedSectionVars false
namespace Go.Proofs
open Go.Shelf
def Tryz.laysBStr_ren:Go.Shelf.Ren:=⟨fun |169=>72 |n=>n,fun |70=>103 |9=>9 |0=>0 |72=>106 |37=>104 |127=>146 |3=>3 |5=>5 |n=>n,fun |n=>n⟩
theorem Tryz.laysBStr:Go.Proofs.Lays.n169 Tryz.prog Tryz.laysBStr_ren:={
 mixed:=by kernel_rfl
 f169:=Tryz.func72.trans (congrArg some (by kernel_rfl))
 t0:=Tryz.underlying0
 a0:=Tryz.isAgg0
 z0:=Tryz.sizeOf0
 v0:=Tryz.zeroValue0
 t3:=Tryz.underlying3
 a3:=Tryz.isAgg3
 z3:=Tryz.sizeOf3
 v3:=Tryz.zeroValue3
 t9:=Tryz.underlying9
 a9:=Tryz.isAgg9
 z9:=Tryz.sizeOf9
 v9:=Tryz.zeroValue9
 t37:=Tryz.underlying104
 a37:=Tryz.isAgg104
 z37:=Tryz.sizeOf104
 v37:=Tryz.zeroValue104
 t70:=Tryz.underlying103
 a70:=Tryz.isAgg103
 z70:=Tryz.sizeOf103
 v70:=Tryz.zeroValue103
 t72:=Tryz.underlying106
 a72:=Tryz.isAgg106
 z72:=Tryz.sizeOf106
 v72:=Tryz.zeroValue106
 t127:=Tryz.underlying146
 a127:=Tryz.isAgg146
 z127:=Tryz.sizeOf146
 v127:=Tryz.zeroValue146}
def Tryz.laysBLen_ren:Go.Shelf.Ren:=⟨fun |170=>71 |n=>n,fun |70=>103 |3=>3 |0=>0 |72=>106 |37=>104 |5=>5 |n=>n,fun |n=>n⟩
theorem Tryz.laysBLen:Go.Proofs.Lays.n170 Tryz.prog Tryz.laysBLen_ren:={
 mixed:=by kernel_rfl
 f170:=Tryz.func71.trans (congrArg some (by kernel_rfl))
 t0:=Tryz.underlying0
 a0:=Tryz.isAgg0
 z0:=Tryz.sizeOf0
 v0:=Tryz.zeroValue0
 t3:=Tryz.underlying3
 a3:=Tryz.isAgg3
 z3:=Tryz.sizeOf3
 v3:=Tryz.zeroValue3
 t37:=Tryz.underlying104
 a37:=Tryz.isAgg104
 z37:=Tryz.sizeOf104
 v37:=Tryz.zeroValue104
 t70:=Tryz.underlying103
 a70:=Tryz.isAgg103
 z70:=Tryz.sizeOf103
 v70:=Tryz.zeroValue103
 t72:=Tryz.underlying106
 a72:=Tryz.isAgg106
 z72:=Tryz.sizeOf106
 v72:=Tryz.zeroValue106}
def Tryz.laysSort_ren:Go.Shelf.Ren:=⟨fun |6=>74 |8=>112 |9=>119 |19=>173 |20=>174 |21=>183 |22=>184 |23=>185 |24=>186 |25=>187 |26=>188 |27=>189 |28=>190 |29=>191 |36=>256 |31=>246 |32=>247 |37=>257 |38=>258 |39=>259 |41=>314 |n=>n,fun |27=>62 |29=>9 |3=>3 |32=>143 |26=>62 |0=>0 |44=>144 |46=>42 |4=>4 |36=>195 |35=>194 |41=>135 |5=>5 |9=>9 |53=>245 |57=>249 |63=>297 |64=>298 |n=>n,fun |n=>n⟩
theorem Tryz.laysSort:Go.Proofs.SlLaysM.n6 Tryz.prog Tryz.laysSort_ren:={
 mixed:=by kernel_rfl
 f6:=⟨Tryz.f74.name,by decide,Tryz.func74.trans (congrArg some (by kernel_rfl))⟩
 f8:=Tryz.func112.trans (congrArg some (by kernel_rfl))
 f9:=⟨Tryz.f119.name,by decide,Tryz.func119.trans (congrArg some (by kernel_rfl))⟩
 f19:=Tryz.func173.trans (congrArg some (by kernel_rfl))
 f20:=Tryz.func174.trans (congrArg some (by kernel_rfl))
 f21:=⟨Tryz.f183.name,by decide,Tryz.func183.trans (congrArg some (by kernel_rfl))⟩
 f22:=⟨Tryz.f184.name,by decide,Tryz.func184.trans (congrArg some (by kernel_rfl))⟩
 f23:=⟨Tryz.f185.name,by decide,Tryz.func185.trans (congrArg some (by kernel_rfl))⟩
 f24:=⟨Tryz.f186.name,by decide,Tryz.func186.trans (congrArg some (by kernel_rfl))⟩
 f25:=⟨Tryz.f187.name,by decide,Tryz.func187.trans (congrArg some (by kernel_rfl))⟩
 f26:=⟨Tryz.f188.name,by decide,Tryz.func188.trans (congrArg some (by kernel_rfl))⟩
 f27:=⟨Tryz.f189.name,by decide,Tryz.func189.trans (congrArg some (by kernel_rfl))⟩
 f28:=⟨Tryz.f190.name,by decide,Tryz.func190.trans (congrArg some (by kernel_rfl))⟩
 f29:=⟨Tryz.f191.name,by decide,Tryz.func191.trans (congrArg some (by kernel_rfl))⟩
 f31:=Tryz.func246.trans (congrArg some (by kernel_rfl))
 f32:=Tryz.func247.trans (congrArg some (by kernel_rfl))
 f36:=⟨Tryz.f256.name,by decide,Tryz.func256.trans (congrArg some (by kernel_rfl))⟩
 f37:=⟨Tryz.f257.name,by decide,Tryz.func257.trans (congrArg some (by kernel_rfl))⟩
 f38:=⟨Tryz.f258.name,by decide,Tryz.func258.trans (congrArg some (by kernel_rfl))⟩
 f39:=⟨Tryz.f259.name,by decide,Tryz.func259.trans (congrArg some (by kernel_rfl))⟩
 f41:=⟨Tryz.f314.name,by decide,Tryz.func314.trans (congrArg some (by kernel_rfl))⟩
 t0:=Tryz.underlying0
 a0:=Tryz.isAgg0
 z0:=Tryz.sizeOf0
 v0:=Tryz.zeroValue0
 t3:=Tryz.underlying3
 a3:=Tryz.isAgg3
 z3:=Tryz.sizeOf3
 v3:=Tryz.zeroValue3
 t4:=Tryz.underlying4
 a4:=Tryz.isAgg4
 z4:=Tryz.sizeOf4
 v4:=Tryz.zeroValue4
 t5:=Tryz.underlying5
 a5:=Tryz.isAgg5
 z5:=Tryz.sizeOf5
 v5:=Tryz.zeroValue5
 t9:=Tryz.underlying9
 a9:=Tryz.isAgg9
 z9:=Tryz.sizeOf9
 v9:=Tryz.zeroValue9
 t26:=Tryz.underlying62
 a26:=Tryz.isAgg62
 z26:=Tryz.sizeOf62
 v26:=Tryz.zeroValue62
 t27:=Tryz.underlying62
 a27:=Tryz.isAgg62
 z27:=Tryz.sizeOf62
 v27:=Tryz.zeroValue62
 t29:=Tryz.underlying9
 a29:=Tryz.isAgg9
 z29:=Tryz.sizeOf9
 v29:=Tryz.zeroValue9
 t32:=Tryz.underlying143
 a32:=Tryz.isAgg143
 z32:=Tryz.sizeOf143
 v32:=Tryz.zeroValue143
 t35:=Tryz.underlying194
 a35:=Tryz.isAgg194
 z35:=Tryz.sizeOf194
 v35:=Tryz.zeroValue194
 t36:=Tryz.underlying195
 a36:=Tryz.isAgg195
 z36:=Tryz.sizeOf195
 v36:=Tryz.zeroValue195
 t41:=Tryz.underlying135
 a41:=Tryz.isAgg135
 z41:=Tryz.sizeOf135
 v41:=Tryz.zeroValue135
 t44:=Tryz.underlying144
 a44:=Tryz.isAgg144
 z44:=Tryz.sizeOf144
 v44:=Tryz.zeroValue144
 t46:=Tryz.underlying42
 a46:=Tryz.isAgg42
 z46:=Tryz.sizeOf42
 v46:=Tryz.zeroValue42
 t53:=Tryz.underlying245
 a53:=Tryz.isAgg245
 z53:=Tryz.sizeOf245
 v53:=Tryz.zeroValue245
 t57:=Tryz.underlying249
 a57:=Tryz.isAgg249
 z57:=Tryz.sizeOf249
 v57:=Tryz.zeroValue249
 t63:=Tryz.underlying297
 a63:=Tryz.isAgg297
 z63:=Tryz.sizeOf297
 v63:=Tryz.zeroValue297
 t64:=Tryz.underlying298
 a64:=Tryz.isAgg298
 z64:=Tryz.sizeOf298
 v64:=Tryz.zeroValue298}
def Tryz.laysCut_ren:Go.Shelf.Ren:=⟨fun |44=>75 |n=>n,fun |25=>62 |26=>9 |3=>3 |4=>4 |0=>0 |n=>n,fun |n=>n⟩
theorem Tryz.laysCut:Go.Proofs.SlLaysN.n44 Tryz.prog Tryz.laysCut_ren:={
 mixed:=by kernel_rfl
 f44:=⟨Tryz.f75.name,by decide,Tryz.func75.trans (congrArg some (by kernel_rfl))⟩
 t0:=Tryz.underlying0
 a0:=Tryz.isAgg0
 z0:=Tryz.sizeOf0
 v0:=Tryz.zeroValue0
 t3:=Tryz.underlying3
 a3:=Tryz.isAgg3
 z3:=Tryz.sizeOf3
 v3:=Tryz.zeroValue3
 t4:=Tryz.underlying4
 a4:=Tryz.isAgg4
 z4:=Tryz.sizeOf4
 v4:=Tryz.zeroValue4
 t25:=Tryz.underlying62
 a25:=Tryz.isAgg62
 z25:=Tryz.sizeOf62
 v25:=Tryz.zeroValue62
 t26:=Tryz.underlying9
 a26:=Tryz.isAgg9
 z26:=Tryz.sizeOf9
 v26:=Tryz.zeroValue9
 i26:=by kernel_rfl}
def Tryz.laysKeys_ren:Go.Shelf.Ren:=⟨fun |7=>122 |10=>194 |n=>n,fun |23=>134 |26=>9 |3=>3 |28=>151 |0=>0 |27=>150 |33=>211 |4=>4 |n=>n,fun |n=>n⟩
theorem Tryz.laysKeys:Go.Proofs.SlLaysZ.n7 Tryz.prog Tryz.laysKeys_ren:={
 mixed:=by kernel_rfl
 f7:=⟨Tryz.f122.name,by decide,Tryz.func122.trans (congrArg some (by kernel_rfl))⟩
 f10:=⟨Tryz.f194.name,by decide,Tryz.func194.trans (congrArg some (by kernel_rfl))⟩
 t0:=Tryz.underlying0
 a0:=Tryz.isAgg0
 z0:=Tryz.sizeOf0
 v0:=Tryz.zeroValue0
 t4:=Tryz.underlying4
 a4:=Tryz.isAgg4
 z4:=Tryz.sizeOf4
 v4:=Tryz.zeroValue4
 t23:=Tryz.underlying134
 a23:=Tryz.isAgg134
 z23:=Tryz.sizeOf134
 v23:=Tryz.zeroValue134
 t26:=Tryz.underlying9
 a26:=Tryz.isAgg9
 z26:=Tryz.sizeOf9
 v26:=Tryz.zeroValue9
 t27:=Tryz.underlying150
 a27:=Tryz.isAgg150
 z27:=Tryz.sizeOf150
 v27:=Tryz.zeroValue150
 t28:=Tryz.underlying151
 a28:=Tryz.isAgg151
 z28:=Tryz.sizeOf151
 v28:=Tryz.zeroValue151
 t33:=Tryz.underlying211
 a33:=Tryz.isAgg211
 z33:=Tryz.sizeOf211
 v33:=Tryz.zeroValue211}
def Tryz.laysSorted_ren:Go.Shelf.Ren:=⟨fun |6=>121 |8=>193 |9=>74 |11=>261 |13=>112 |12=>119 |23=>173 |24=>174 |14=>183 |15=>184 |16=>185 |17=>186 |18=>187 |19=>188 |20=>189 |21=>190 |22=>191 |25=>256 |26=>246 |27=>247 |28=>257 |29=>258 |30=>259 |31=>314 |n=>n,fun |26=>9 |28=>151 |24=>62 |0=>0 |3=>3 |37=>143 |48=>144 |50=>42 |4=>4 |40=>195 |39=>194 |45=>135 |5=>5 |9=>9 |51=>245 |55=>249 |57=>297 |58=>298 |33=>211 |n=>n,fun |n=>n⟩
theorem Tryz.laysSorted:Go.Proofs.SlLaysZ.n6 Tryz.prog Tryz.laysSorted_ren:={
 mixed:=by kernel_rfl
 f6:=⟨Tryz.f121.name,by decide,Tryz.func121.trans (congrArg some (by kernel_rfl))⟩
 f8:=⟨Tryz.f193.name,by decide,Tryz.func193.trans (congrArg some (by kernel_rfl))⟩
 f11:=⟨Tryz.f261.name,by decide,Tryz.func261.trans (congrArg some (by kernel_rfl))⟩
 t0:=Tryz.underlying0
 a0:=Tryz.isAgg0
 z0:=Tryz.sizeOf0
 v0:=Tryz.zeroValue0
 t24:=Tryz.underlying62
 a24:=Tryz.isAgg62
 z24:=Tryz.sizeOf62
 v24:=Tryz.zeroValue62
 t26:=Tryz.underlying9
 a26:=Tryz.isAgg9
 z26:=Tryz.sizeOf9
 v26:=Tryz.zeroValue9
 t28:=Tryz.underlying151
 a28:=Tryz.isAgg151
 z28:=Tryz.sizeOf151
 v28:=Tryz.zeroValue151
 i26:=by kernel_rfl}
end Go.Proofs
