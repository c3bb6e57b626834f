/-
  DERIVED: THE SHELF's CONTRACTS AT THIS DUMP, IN PLAIN WORDS (tools/lay-plain.mjs out of 'LaySim.lean', which tools/lay-shelf.mjs wrote): THE SAME DECLARATIONS UNDER THE SAME NAMES: 'import', 'namespace', 'open', 'def', 'theorem' AND NOTHING ELSE: no command of the shelf's: FOR A HAND-IN. Each laying: the table of numbers ('.._ren') and one theorem, a field a fact of the dump's own or the kernel's comparison; each contract: ONE APPLICATION.
-/
import Derived.Shelf.Lays
import Derived.Shelf.SlGeneric
import Derived.Shelf.Strings.BuilderF
import Derived.Shelf.Strings.BuilderK
import Derived.Shelf.SlIter.Sorted
import Derived.Shelf.SlIter.Nil
import Derived.Shelf.SortM.Plain
import Derived.Shelf.SortM.SortNone
import Derived.Shelf.SlicesG.CompactS
import Derived.Ground.GgzProg
import Derived.Ground.SlgmProg
import Derived.Ground.SlgnProg
import Derived.Test.YteopakpakelkoaaGreatDoorProg
set_option linter.all false
namespace Go.Proofs
open Go.Shelf
def Tryz.laysBStr_ren:Go.Shelf.Ren:=⟨fun |169=>155 |n=>n,fun |70=>165 |9=>9 |0=>0 |72=>168 |37=>166 |127=>215 |3=>3 |5=>5 |n=>n,fun |n=>n⟩
theorem Tryz.laysBStr:Go.Proofs.Lays.n169 Tryz.prog Tryz.laysBStr_ren:={
 mixed:=by kernel_rfl
 f169:=Tryz.func155.trans (congrArg some (by kernel_rfl))
 t0:=Tryz.underlying0
 a0:=Tryz.isAgg0
 z0:=Tryz.sizeOf0
 v0:=Tryz.zeroValue0
 t3:=Tryz.underlying3
 a3:=Tryz.isAgg3
 z3:=Tryz.sizeOf3
 v3:=Tryz.zeroValue3
 t9:=Tryz.underlying9
 a9:=Tryz.isAgg9
 z9:=Tryz.sizeOf9
 v9:=Tryz.zeroValue9
 t37:=Tryz.underlying166
 a37:=Tryz.isAgg166
 z37:=Tryz.sizeOf166
 v37:=Tryz.zeroValue166
 t70:=Tryz.underlying165
 a70:=Tryz.isAgg165
 z70:=Tryz.sizeOf165
 v70:=Tryz.zeroValue165
 t72:=Tryz.underlying168
 a72:=Tryz.isAgg168
 z72:=Tryz.sizeOf168
 v72:=Tryz.zeroValue168
 t127:=Tryz.underlying215
 a127:=Tryz.isAgg215
 z127:=Tryz.sizeOf215
 v127:=Tryz.zeroValue215}
def Tryz.laysBLen_ren:Go.Shelf.Ren:=⟨fun |170=>154 |n=>n,fun |70=>165 |3=>3 |0=>0 |72=>168 |37=>166 |5=>5 |n=>n,fun |n=>n⟩
theorem Tryz.laysBLen:Go.Proofs.Lays.n170 Tryz.prog Tryz.laysBLen_ren:={
 mixed:=by kernel_rfl
 f170:=Tryz.func154.trans (congrArg some (by kernel_rfl))
 t0:=Tryz.underlying0
 a0:=Tryz.isAgg0
 z0:=Tryz.sizeOf0
 v0:=Tryz.zeroValue0
 t3:=Tryz.underlying3
 a3:=Tryz.isAgg3
 z3:=Tryz.sizeOf3
 v3:=Tryz.zeroValue3
 t37:=Tryz.underlying166
 a37:=Tryz.isAgg166
 z37:=Tryz.sizeOf166
 v37:=Tryz.zeroValue166
 t70:=Tryz.underlying165
 a70:=Tryz.isAgg165
 z70:=Tryz.sizeOf165
 v70:=Tryz.zeroValue165
 t72:=Tryz.underlying168
 a72:=Tryz.isAgg168
 z72:=Tryz.sizeOf168
 v72:=Tryz.zeroValue168}
def Tryz.laysSort_ren:Go.Shelf.Ren:=⟨fun |6=>157 |8=>138 |9=>203 |19=>190 |20=>191 |21=>235 |22=>236 |23=>237 |24=>238 |25=>239 |26=>240 |27=>230 |28=>241 |29=>242 |36=>271 |31=>222 |32=>223 |37=>272 |38=>273 |39=>270 |41=>291 |n=>n,fun |27=>95 |29=>9 |3=>3 |32=>122 |26=>95 |0=>0 |44=>123 |46=>147 |4=>4 |36=>196 |35=>195 |41=>200 |5=>5 |9=>9 |53=>238 |57=>242 |63=>269 |64=>270 |n=>n,fun |n=>n⟩
theorem Tryz.laysSort:Go.Proofs.SlLaysM.n6 Tryz.prog Tryz.laysSort_ren:={
 mixed:=by kernel_rfl
 f6:=⟨Tryz.f157.name,by decide,Tryz.func157.trans (congrArg some (by kernel_rfl))⟩
 f8:=Tryz.func138.trans (congrArg some (by kernel_rfl))
 f9:=⟨Tryz.f203.name,by decide,Tryz.func203.trans (congrArg some (by kernel_rfl))⟩
 f19:=Tryz.func190.trans (congrArg some (by kernel_rfl))
 f20:=Tryz.func191.trans (congrArg some (by kernel_rfl))
 f21:=⟨Tryz.f235.name,by decide,Tryz.func235.trans (congrArg some (by kernel_rfl))⟩
 f22:=⟨Tryz.f236.name,by decide,Tryz.func236.trans (congrArg some (by kernel_rfl))⟩
 f23:=⟨Tryz.f237.name,by decide,Tryz.func237.trans (congrArg some (by kernel_rfl))⟩
 f24:=⟨Tryz.f238.name,by decide,Tryz.func238.trans (congrArg some (by kernel_rfl))⟩
 f25:=⟨Tryz.f239.name,by decide,Tryz.func239.trans (congrArg some (by kernel_rfl))⟩
 f26:=⟨Tryz.f240.name,by decide,Tryz.func240.trans (congrArg some (by kernel_rfl))⟩
 f27:=⟨Tryz.f230.name,by decide,Tryz.func230.trans (congrArg some (by kernel_rfl))⟩
 f28:=⟨Tryz.f241.name,by decide,Tryz.func241.trans (congrArg some (by kernel_rfl))⟩
 f29:=⟨Tryz.f242.name,by decide,Tryz.func242.trans (congrArg some (by kernel_rfl))⟩
 f31:=Tryz.func222.trans (congrArg some (by kernel_rfl))
 f32:=Tryz.func223.trans (congrArg some (by kernel_rfl))
 f36:=⟨Tryz.f271.name,by decide,Tryz.func271.trans (congrArg some (by kernel_rfl))⟩
 f37:=⟨Tryz.f272.name,by decide,Tryz.func272.trans (congrArg some (by kernel_rfl))⟩
 f38:=⟨Tryz.f273.name,by decide,Tryz.func273.trans (congrArg some (by kernel_rfl))⟩
 f39:=⟨Tryz.f270.name,by decide,Tryz.func270.trans (congrArg some (by kernel_rfl))⟩
 f41:=⟨Tryz.f291.name,by decide,Tryz.func291.trans (congrArg some (by kernel_rfl))⟩
 t0:=Tryz.underlying0
 a0:=Tryz.isAgg0
 z0:=Tryz.sizeOf0
 v0:=Tryz.zeroValue0
 t3:=Tryz.underlying3
 a3:=Tryz.isAgg3
 z3:=Tryz.sizeOf3
 v3:=Tryz.zeroValue3
 t4:=Tryz.underlying4
 a4:=Tryz.isAgg4
 z4:=Tryz.sizeOf4
 v4:=Tryz.zeroValue4
 t5:=Tryz.underlying5
 a5:=Tryz.isAgg5
 z5:=Tryz.sizeOf5
 v5:=Tryz.zeroValue5
 t9:=Tryz.underlying9
 a9:=Tryz.isAgg9
 z9:=Tryz.sizeOf9
 v9:=Tryz.zeroValue9
 t26:=Tryz.underlying95
 a26:=Tryz.isAgg95
 z26:=Tryz.sizeOf95
 v26:=Tryz.zeroValue95
 t27:=Tryz.underlying95
 a27:=Tryz.isAgg95
 z27:=Tryz.sizeOf95
 v27:=Tryz.zeroValue95
 t29:=Tryz.underlying9
 a29:=Tryz.isAgg9
 z29:=Tryz.sizeOf9
 v29:=Tryz.zeroValue9
 t32:=Tryz.underlying122
 a32:=Tryz.isAgg122
 z32:=Tryz.sizeOf122
 v32:=Tryz.zeroValue122
 t35:=Tryz.underlying195
 a35:=Tryz.isAgg195
 z35:=Tryz.sizeOf195
 v35:=Tryz.zeroValue195
 t36:=Tryz.underlying196
 a36:=Tryz.isAgg196
 z36:=Tryz.sizeOf196
 v36:=Tryz.zeroValue196
 t41:=Tryz.underlying200
 a41:=Tryz.isAgg200
 z41:=Tryz.sizeOf200
 v41:=Tryz.zeroValue200
 t44:=Tryz.underlying123
 a44:=Tryz.isAgg123
 z44:=Tryz.sizeOf123
 v44:=Tryz.zeroValue123
 t46:=Tryz.underlying147
 a46:=Tryz.isAgg147
 z46:=Tryz.sizeOf147
 v46:=Tryz.zeroValue147
 t53:=Tryz.underlying238
 a53:=Tryz.isAgg238
 z53:=Tryz.sizeOf238
 v53:=Tryz.zeroValue238
 t57:=Tryz.underlying242
 a57:=Tryz.isAgg242
 z57:=Tryz.sizeOf242
 v57:=Tryz.zeroValue242
 t63:=Tryz.underlying269
 a63:=Tryz.isAgg269
 z63:=Tryz.sizeOf269
 v63:=Tryz.zeroValue269
 t64:=Tryz.underlying270
 a64:=Tryz.isAgg270
 z64:=Tryz.sizeOf270
 v64:=Tryz.zeroValue270}
def Tryz.laysCut_ren:Go.Shelf.Ren:=⟨fun |44=>158 |n=>n,fun |25=>95 |26=>9 |3=>3 |4=>4 |0=>0 |n=>n,fun |n=>n⟩
theorem Tryz.laysCut:Go.Proofs.SlLaysN.n44 Tryz.prog Tryz.laysCut_ren:={
 mixed:=by kernel_rfl
 f44:=⟨Tryz.f158.name,by decide,Tryz.func158.trans (congrArg some (by kernel_rfl))⟩
 t0:=Tryz.underlying0
 a0:=Tryz.isAgg0
 z0:=Tryz.sizeOf0
 v0:=Tryz.zeroValue0
 t3:=Tryz.underlying3
 a3:=Tryz.isAgg3
 z3:=Tryz.sizeOf3
 v3:=Tryz.zeroValue3
 t4:=Tryz.underlying4
 a4:=Tryz.isAgg4
 z4:=Tryz.sizeOf4
 v4:=Tryz.zeroValue4
 t25:=Tryz.underlying95
 a25:=Tryz.isAgg95
 z25:=Tryz.sizeOf95
 v25:=Tryz.zeroValue95
 t26:=Tryz.underlying9
 a26:=Tryz.isAgg9
 z26:=Tryz.sizeOf9
 v26:=Tryz.zeroValue9
 i26:=by kernel_rfl}
def Tryz.laysKeys_ren:Go.Shelf.Ren:=⟨fun |7=>148 |10=>199 |n=>n,fun |23=>162 |26=>9 |3=>3 |28=>160 |0=>0 |27=>159 |33=>100 |4=>4 |n=>n,fun |n=>n⟩
theorem Tryz.laysKeys:Go.Proofs.SlLaysZ.n7 Tryz.prog Tryz.laysKeys_ren:={
 mixed:=by kernel_rfl
 f7:=⟨Tryz.f148.name,by decide,Tryz.func148.trans (congrArg some (by kernel_rfl))⟩
 f10:=⟨Tryz.f199.name,by decide,Tryz.func199.trans (congrArg some (by kernel_rfl))⟩
 t0:=Tryz.underlying0
 a0:=Tryz.isAgg0
 z0:=Tryz.sizeOf0
 v0:=Tryz.zeroValue0
 t4:=Tryz.underlying4
 a4:=Tryz.isAgg4
 z4:=Tryz.sizeOf4
 v4:=Tryz.zeroValue4
 t23:=Tryz.underlying162
 a23:=Tryz.isAgg162
 z23:=Tryz.sizeOf162
 v23:=Tryz.zeroValue162
 t26:=Tryz.underlying9
 a26:=Tryz.isAgg9
 z26:=Tryz.sizeOf9
 v26:=Tryz.zeroValue9
 t27:=Tryz.underlying159
 a27:=Tryz.isAgg159
 z27:=Tryz.sizeOf159
 v27:=Tryz.zeroValue159
 t28:=Tryz.underlying160
 a28:=Tryz.isAgg160
 z28:=Tryz.sizeOf160
 v28:=Tryz.zeroValue160
 t33:=Tryz.underlying100
 a33:=Tryz.isAgg100
 z33:=Tryz.sizeOf100
 v33:=Tryz.zeroValue100}
def Tryz.laysSorted_ren:Go.Shelf.Ren:=⟨fun |6=>147 |8=>198 |9=>157 |11=>232 |13=>138 |12=>203 |23=>190 |24=>191 |14=>235 |15=>236 |16=>237 |17=>238 |18=>239 |19=>240 |20=>230 |21=>241 |22=>242 |25=>271 |26=>222 |27=>223 |28=>272 |29=>273 |30=>270 |31=>291 |n=>n,fun |26=>9 |28=>160 |24=>95 |0=>0 |3=>3 |37=>122 |48=>123 |50=>147 |4=>4 |40=>196 |39=>195 |45=>200 |5=>5 |9=>9 |51=>238 |55=>242 |57=>269 |58=>270 |33=>100 |n=>n,fun |n=>n⟩
theorem Tryz.laysSorted:Go.Proofs.SlLaysZ.n6 Tryz.prog Tryz.laysSorted_ren:={
 mixed:=by kernel_rfl
 f6:=⟨Tryz.f147.name,by decide,Tryz.func147.trans (congrArg some (by kernel_rfl))⟩
 f8:=⟨Tryz.f198.name,by decide,Tryz.func198.trans (congrArg some (by kernel_rfl))⟩
 f11:=⟨Tryz.f232.name,by decide,Tryz.func232.trans (congrArg some (by kernel_rfl))⟩
 t0:=Tryz.underlying0
 a0:=Tryz.isAgg0
 z0:=Tryz.sizeOf0
 v0:=Tryz.zeroValue0
 t24:=Tryz.underlying95
 a24:=Tryz.isAgg95
 z24:=Tryz.sizeOf95
 v24:=Tryz.zeroValue95
 t26:=Tryz.underlying9
 a26:=Tryz.isAgg9
 z26:=Tryz.sizeOf9
 v26:=Tryz.zeroValue9
 t28:=Tryz.underlying160
 a28:=Tryz.isAgg160
 z28:=Tryz.sizeOf160
 v28:=Tryz.zeroValue160
 i26:=by kernel_rfl}
end Go.Proofs
