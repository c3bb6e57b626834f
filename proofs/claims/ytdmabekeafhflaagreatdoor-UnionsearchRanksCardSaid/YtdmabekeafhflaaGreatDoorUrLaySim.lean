/-
  DERIVED: THE SHELF's CONTRACTS AT THIS DUMP, IN PLAIN WORDS (tools/lay-plain.mjs out of 'LaySim.lean', which tools/lay-shelf.mjs wrote): THE SAME DECLARATIONS UNDER THE SAME NAMES: 'import', 'namespace', 'open', 'def', 'theorem' AND NOTHING ELSE: no command of the shelf's: FOR A HAND-IN. Each laying: the table of numbers ('.._ren') and one theorem, a field a fact of the dump's own or the kernel's comparison; each contract: ONE APPLICATION.
-/
import Derived.Shelf.Lays
import Derived.Shelf.SlGeneric
import Derived.Shelf.Strings.BuilderF
import Derived.Shelf.Strings.BuilderK
import Derived.Shelf.SlIter.Sorted
import Derived.Shelf.SlIter.Nil
import Derived.Shelf.SortM.Plain
import Derived.Shelf.SortM.SortNone
import Derived.Shelf.SlicesG.CompactS
import Derived.Ground.GgzProg
import Derived.Ground.SlgmProg
import Derived.Ground.SlgnProg
import Derived.Test.YtdmabekeafhflaaGreatDoorProg
set_option linter.unusedVariables false
set_option linter.unusedSimpArgs false
set_option linter.unusedSectionVars false
namespace Go.Proofs
open Go.Shelf
def Tryz.laysBStr_ren:Go.Shelf.Ren:=⟨fun |169=>132 |n=>n,fun |70=>159 |9=>9 |0=>0 |72=>162 |37=>160 |127=>205 |3=>3 |5=>5 |n=>n,fun |n=>n⟩
theorem Tryz.laysBStr:Go.Proofs.Lays.n169 Tryz.prog Tryz.laysBStr_ren:={
 mixed:=by kernel_rfl
 f169:=Tryz.func132.trans (congrArg some (by kernel_rfl))
 t0:=Tryz.underlying0
 a0:=Tryz.isAgg0
 z0:=Tryz.sizeOf0
 v0:=Tryz.zeroValue0
 t3:=Tryz.underlying3
 a3:=Tryz.isAgg3
 z3:=Tryz.sizeOf3
 v3:=Tryz.zeroValue3
 t9:=Tryz.underlying9
 a9:=Tryz.isAgg9
 z9:=Tryz.sizeOf9
 v9:=Tryz.zeroValue9
 t37:=Tryz.underlying160
 a37:=Tryz.isAgg160
 z37:=Tryz.sizeOf160
 v37:=Tryz.zeroValue160
 t70:=Tryz.underlying159
 a70:=Tryz.isAgg159
 z70:=Tryz.sizeOf159
 v70:=Tryz.zeroValue159
 t72:=Tryz.underlying162
 a72:=Tryz.isAgg162
 z72:=Tryz.sizeOf162
 v72:=Tryz.zeroValue162
 t127:=Tryz.underlying205
 a127:=Tryz.isAgg205
 z127:=Tryz.sizeOf205
 v127:=Tryz.zeroValue205}
def Tryz.laysBLen_ren:Go.Shelf.Ren:=⟨fun |170=>131 |n=>n,fun |70=>159 |3=>3 |0=>0 |72=>162 |37=>160 |5=>5 |n=>n,fun |n=>n⟩
theorem Tryz.laysBLen:Go.Proofs.Lays.n170 Tryz.prog Tryz.laysBLen_ren:={
 mixed:=by kernel_rfl
 f170:=Tryz.func131.trans (congrArg some (by kernel_rfl))
 t0:=Tryz.underlying0
 a0:=Tryz.isAgg0
 z0:=Tryz.sizeOf0
 v0:=Tryz.zeroValue0
 t3:=Tryz.underlying3
 a3:=Tryz.isAgg3
 z3:=Tryz.sizeOf3
 v3:=Tryz.zeroValue3
 t37:=Tryz.underlying160
 a37:=Tryz.isAgg160
 z37:=Tryz.sizeOf160
 v37:=Tryz.zeroValue160
 t70:=Tryz.underlying159
 a70:=Tryz.isAgg159
 z70:=Tryz.sizeOf159
 v70:=Tryz.zeroValue159
 t72:=Tryz.underlying162
 a72:=Tryz.isAgg162
 z72:=Tryz.sizeOf162
 v72:=Tryz.zeroValue162}
def Tryz.laysSort_ren:Go.Shelf.Ren:=⟨fun |6=>134 |8=>116 |9=>174 |19=>156 |20=>157 |21=>202 |22=>203 |23=>204 |24=>205 |25=>206 |26=>207 |27=>197 |28=>208 |29=>209 |36=>230 |31=>186 |32=>187 |37=>231 |38=>232 |39=>229 |41=>250 |n=>n,fun |27=>52 |29=>9 |3=>3 |32=>112 |26=>52 |0=>0 |44=>117 |46=>139 |4=>4 |36=>184 |35=>183 |41=>188 |5=>5 |9=>9 |53=>223 |57=>227 |63=>251 |64=>252 |n=>n,fun |n=>n⟩
theorem Tryz.laysSort:Go.Proofs.SlLaysM.n6 Tryz.prog Tryz.laysSort_ren:={
 mixed:=by kernel_rfl
 f6:=⟨Tryz.f134.name,by decide,Tryz.func134.trans (congrArg some (by kernel_rfl))⟩
 f8:=Tryz.func116.trans (congrArg some (by kernel_rfl))
 f9:=⟨Tryz.f174.name,by decide,Tryz.func174.trans (congrArg some (by kernel_rfl))⟩
 f19:=Tryz.func156.trans (congrArg some (by kernel_rfl))
 f20:=Tryz.func157.trans (congrArg some (by kernel_rfl))
 f21:=⟨Tryz.f202.name,by decide,Tryz.func202.trans (congrArg some (by kernel_rfl))⟩
 f22:=⟨Tryz.f203.name,by decide,Tryz.func203.trans (congrArg some (by kernel_rfl))⟩
 f23:=⟨Tryz.f204.name,by decide,Tryz.func204.trans (congrArg some (by kernel_rfl))⟩
 f24:=⟨Tryz.f205.name,by decide,Tryz.func205.trans (congrArg some (by kernel_rfl))⟩
 f25:=⟨Tryz.f206.name,by decide,Tryz.func206.trans (congrArg some (by kernel_rfl))⟩
 f26:=⟨Tryz.f207.name,by decide,Tryz.func207.trans (congrArg some (by kernel_rfl))⟩
 f27:=⟨Tryz.f197.name,by decide,Tryz.func197.trans (congrArg some (by kernel_rfl))⟩
 f28:=⟨Tryz.f208.name,by decide,Tryz.func208.trans (congrArg some (by kernel_rfl))⟩
 f29:=⟨Tryz.f209.name,by decide,Tryz.func209.trans (congrArg some (by kernel_rfl))⟩
 f31:=Tryz.func186.trans (congrArg some (by kernel_rfl))
 f32:=Tryz.func187.trans (congrArg some (by kernel_rfl))
 f36:=⟨Tryz.f230.name,by decide,Tryz.func230.trans (congrArg some (by kernel_rfl))⟩
 f37:=⟨Tryz.f231.name,by decide,Tryz.func231.trans (congrArg some (by kernel_rfl))⟩
 f38:=⟨Tryz.f232.name,by decide,Tryz.func232.trans (congrArg some (by kernel_rfl))⟩
 f39:=⟨Tryz.f229.name,by decide,Tryz.func229.trans (congrArg some (by kernel_rfl))⟩
 f41:=⟨Tryz.f250.name,by decide,Tryz.func250.trans (congrArg some (by kernel_rfl))⟩
 t0:=Tryz.underlying0
 a0:=Tryz.isAgg0
 z0:=Tryz.sizeOf0
 v0:=Tryz.zeroValue0
 t3:=Tryz.underlying3
 a3:=Tryz.isAgg3
 z3:=Tryz.sizeOf3
 v3:=Tryz.zeroValue3
 t4:=Tryz.underlying4
 a4:=Tryz.isAgg4
 z4:=Tryz.sizeOf4
 v4:=Tryz.zeroValue4
 t5:=Tryz.underlying5
 a5:=Tryz.isAgg5
 z5:=Tryz.sizeOf5
 v5:=Tryz.zeroValue5
 t9:=Tryz.underlying9
 a9:=Tryz.isAgg9
 z9:=Tryz.sizeOf9
 v9:=Tryz.zeroValue9
 t26:=Tryz.underlying52
 a26:=Tryz.isAgg52
 z26:=Tryz.sizeOf52
 v26:=Tryz.zeroValue52
 t27:=Tryz.underlying52
 a27:=Tryz.isAgg52
 z27:=Tryz.sizeOf52
 v27:=Tryz.zeroValue52
 t29:=Tryz.underlying9
 a29:=Tryz.isAgg9
 z29:=Tryz.sizeOf9
 v29:=Tryz.zeroValue9
 t32:=Tryz.underlying112
 a32:=Tryz.isAgg112
 z32:=Tryz.sizeOf112
 v32:=Tryz.zeroValue112
 t35:=Tryz.underlying183
 a35:=Tryz.isAgg183
 z35:=Tryz.sizeOf183
 v35:=Tryz.zeroValue183
 t36:=Tryz.underlying184
 a36:=Tryz.isAgg184
 z36:=Tryz.sizeOf184
 v36:=Tryz.zeroValue184
 t41:=Tryz.underlying188
 a41:=Tryz.isAgg188
 z41:=Tryz.sizeOf188
 v41:=Tryz.zeroValue188
 t44:=Tryz.underlying117
 a44:=Tryz.isAgg117
 z44:=Tryz.sizeOf117
 v44:=Tryz.zeroValue117
 t46:=Tryz.underlying139
 a46:=Tryz.isAgg139
 z46:=Tryz.sizeOf139
 v46:=Tryz.zeroValue139
 t53:=Tryz.underlying223
 a53:=Tryz.isAgg223
 z53:=Tryz.sizeOf223
 v53:=Tryz.zeroValue223
 t57:=Tryz.underlying227
 a57:=Tryz.isAgg227
 z57:=Tryz.sizeOf227
 v57:=Tryz.zeroValue227
 t63:=Tryz.underlying251
 a63:=Tryz.isAgg251
 z63:=Tryz.sizeOf251
 v63:=Tryz.zeroValue251
 t64:=Tryz.underlying252
 a64:=Tryz.isAgg252
 z64:=Tryz.sizeOf252
 v64:=Tryz.zeroValue252}
def Tryz.laysCut_ren:Go.Shelf.Ren:=⟨fun |44=>135 |n=>n,fun |25=>52 |26=>9 |3=>3 |4=>4 |0=>0 |n=>n,fun |n=>n⟩
theorem Tryz.laysCut:Go.Proofs.SlLaysN.n44 Tryz.prog Tryz.laysCut_ren:={
 mixed:=by kernel_rfl
 f44:=⟨Tryz.f135.name,by decide,Tryz.func135.trans (congrArg some (by kernel_rfl))⟩
 t0:=Tryz.underlying0
 a0:=Tryz.isAgg0
 z0:=Tryz.sizeOf0
 v0:=Tryz.zeroValue0
 t3:=Tryz.underlying3
 a3:=Tryz.isAgg3
 z3:=Tryz.sizeOf3
 v3:=Tryz.zeroValue3
 t4:=Tryz.underlying4
 a4:=Tryz.isAgg4
 z4:=Tryz.sizeOf4
 v4:=Tryz.zeroValue4
 t25:=Tryz.underlying52
 a25:=Tryz.isAgg52
 z25:=Tryz.sizeOf52
 v25:=Tryz.zeroValue52
 t26:=Tryz.underlying9
 a26:=Tryz.isAgg9
 z26:=Tryz.sizeOf9
 v26:=Tryz.zeroValue9
 i26:=by kernel_rfl}
def Tryz.laysKeys_ren:Go.Shelf.Ren:=⟨fun |7=>125 |10=>170 |n=>n,fun |23=>156 |26=>9 |3=>3 |28=>154 |0=>0 |27=>153 |33=>89 |4=>4 |n=>n,fun |n=>n⟩
theorem Tryz.laysKeys:Go.Proofs.SlLaysZ.n7 Tryz.prog Tryz.laysKeys_ren:={
 mixed:=by kernel_rfl
 f7:=⟨Tryz.f125.name,by decide,Tryz.func125.trans (congrArg some (by kernel_rfl))⟩
 f10:=⟨Tryz.f170.name,by decide,Tryz.func170.trans (congrArg some (by kernel_rfl))⟩
 t0:=Tryz.underlying0
 a0:=Tryz.isAgg0
 z0:=Tryz.sizeOf0
 v0:=Tryz.zeroValue0
 t4:=Tryz.underlying4
 a4:=Tryz.isAgg4
 z4:=Tryz.sizeOf4
 v4:=Tryz.zeroValue4
 t23:=Tryz.underlying156
 a23:=Tryz.isAgg156
 z23:=Tryz.sizeOf156
 v23:=Tryz.zeroValue156
 t26:=Tryz.underlying9
 a26:=Tryz.isAgg9
 z26:=Tryz.sizeOf9
 v26:=Tryz.zeroValue9
 t27:=Tryz.underlying153
 a27:=Tryz.isAgg153
 z27:=Tryz.sizeOf153
 v27:=Tryz.zeroValue153
 t28:=Tryz.underlying154
 a28:=Tryz.isAgg154
 z28:=Tryz.sizeOf154
 v28:=Tryz.zeroValue154
 t33:=Tryz.underlying89
 a33:=Tryz.isAgg89
 z33:=Tryz.sizeOf89
 v33:=Tryz.zeroValue89}
def Tryz.laysSorted_ren:Go.Shelf.Ren:=⟨fun |6=>124 |8=>169 |9=>134 |11=>199 |13=>116 |12=>174 |23=>156 |24=>157 |14=>202 |15=>203 |16=>204 |17=>205 |18=>206 |19=>207 |20=>197 |21=>208 |22=>209 |25=>230 |26=>186 |27=>187 |28=>231 |29=>232 |30=>229 |31=>250 |n=>n,fun |26=>9 |28=>154 |24=>52 |0=>0 |3=>3 |37=>112 |48=>117 |50=>139 |4=>4 |40=>184 |39=>183 |45=>188 |5=>5 |9=>9 |51=>223 |55=>227 |57=>251 |58=>252 |33=>89 |n=>n,fun |n=>n⟩
theorem Tryz.laysSorted:Go.Proofs.SlLaysZ.n6 Tryz.prog Tryz.laysSorted_ren:={
 mixed:=by kernel_rfl
 f6:=⟨Tryz.f124.name,by decide,Tryz.func124.trans (congrArg some (by kernel_rfl))⟩
 f8:=⟨Tryz.f169.name,by decide,Tryz.func169.trans (congrArg some (by kernel_rfl))⟩
 f11:=⟨Tryz.f199.name,by decide,Tryz.func199.trans (congrArg some (by kernel_rfl))⟩
 t0:=Tryz.underlying0
 a0:=Tryz.isAgg0
 z0:=Tryz.sizeOf0
 v0:=Tryz.zeroValue0
 t24:=Tryz.underlying52
 a24:=Tryz.isAgg52
 z24:=Tryz.sizeOf52
 v24:=Tryz.zeroValue52
 t26:=Tryz.underlying9
 a26:=Tryz.isAgg9
 z26:=Tryz.sizeOf9
 v26:=Tryz.zeroValue9
 t28:=Tryz.underlying154
 a28:=Tryz.isAgg154
 z28:=Tryz.sizeOf154
 v28:=Tryz.zeroValue154
 i26:=by kernel_rfl}
end Go.Proofs
