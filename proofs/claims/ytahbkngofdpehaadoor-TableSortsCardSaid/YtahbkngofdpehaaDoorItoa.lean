/-
  DERIVED: THE SHELF's CONTRACTS AT THIS DUMP, IN PLAIN WORDS (tools/lay-plain.mjs out of 'TrydLayItoa.lean', which tools/lay-shelf.mjs wrote): THE SAME DECLARATIONS UNDER THE SAME NAMES: 'import', 'namespace', 'open', 'def', 'theorem' AND NOTHING ELSE: no command of the shelf's: FOR A HAND-IN. Each laying: the table of numbers ('.._ren') and one theorem, a field a fact of the dump's own or the kernel's comparison; each contract: ONE APPLICATION.
-/
import Derived.Shelf.LaysM
import Derived.Shelf.Strconv.Itoa3
import Derived.Test.YtahbkngofdpehaaDoorProg
set_option linter.unusedVariables false
set_option linter.unusedSimpArgs false
set_option linter.unusedSectionVars false
namespace Go.Proofs
open Go.Shelf
def Tryd.laysItoa_ren : Go.Shelf.Ren := ⟨fun | 171 => 105 | 243 => 139 | 246 => 163 | 283 => 181 | 284 => 182 | 285 => 183 | 286 => 184 | 129 => 199 | 317 => 198 | 318 => 200 | 319 => 201 | 320 => 202 | 337 => 208 | 338 => 209 | n => n, fun | 3 => 3 | 9 => 9 | 2 => 2 | 4 => 4 | 171 => 203 | 0 => 0 | 53 => 159 | 37 => 61 | 5 => 5 | 173 => 206 | 212 => 217 | 51 => 122 | 20 => 20 | 213 => 218 | 46 => 160 | 232 => 226 | 233 => 227 | n => n, fun | 17 => 3 | 18 => 10 | 19 => 11 | n => n⟩
theorem Tryd.laysItoa : Go.Proofs.LaysM.n171 Tryd.prog Tryd.laysItoa_ren := {
  mixed := by kernel_rfl
  f129 := Tryd.func199.trans (congrArg some (by kernel_rfl))
  f171 := Tryd.func105.trans (congrArg some (by kernel_rfl))
  f243 := Tryd.func139.trans (congrArg some (by kernel_rfl))
  f246 := Tryd.func163.trans (congrArg some (by kernel_rfl))
  f283 := Tryd.func181.trans (congrArg some (by kernel_rfl))
  f284 := Tryd.func182.trans (congrArg some (by kernel_rfl))
  f285 := Tryd.func183.trans (congrArg some (by kernel_rfl))
  f286 := Tryd.func184.trans (congrArg some (by kernel_rfl))
  f317 := Tryd.func198.trans (congrArg some (by kernel_rfl))
  f318 := Tryd.func200.trans (congrArg some (by kernel_rfl))
  f319 := Tryd.func201.trans (congrArg some (by kernel_rfl))
  f320 := Tryd.func202.trans (congrArg some (by kernel_rfl))
  f337 := Tryd.func208.trans (congrArg some (by kernel_rfl))
  f338 := Tryd.func209.trans (congrArg some (by kernel_rfl))
  t0 := Tryd.underlying0
  a0 := Tryd.isAgg0
  z0 := Tryd.sizeOf0
  v0 := Tryd.zeroValue0
  t2 := Tryd.underlying2
  a2 := Tryd.isAgg2
  z2 := Tryd.sizeOf2
  v2 := Tryd.zeroValue2
  t3 := Tryd.underlying3
  a3 := Tryd.isAgg3
  z3 := Tryd.sizeOf3
  v3 := Tryd.zeroValue3
  t4 := Tryd.underlying4
  a4 := Tryd.isAgg4
  z4 := Tryd.sizeOf4
  v4 := Tryd.zeroValue4
  t5 := Tryd.underlying5
  a5 := Tryd.isAgg5
  z5 := Tryd.sizeOf5
  v5 := Tryd.zeroValue5
  t9 := Tryd.underlying9
  a9 := Tryd.isAgg9
  z9 := Tryd.sizeOf9
  v9 := Tryd.zeroValue9
  t20 := Tryd.underlying20
  a20 := Tryd.isAgg20
  z20 := Tryd.sizeOf20
  v20 := Tryd.zeroValue20
  t37 := Tryd.underlying61
  a37 := Tryd.isAgg61
  z37 := Tryd.sizeOf61
  v37 := Tryd.zeroValue61
  t46 := Tryd.underlying160
  a46 := Tryd.isAgg160
  z46 := Tryd.sizeOf160
  v46 := Tryd.zeroValue160
  t51 := Tryd.underlying122
  a51 := Tryd.isAgg122
  z51 := Tryd.sizeOf122
  v51 := Tryd.zeroValue122
  t53 := Tryd.underlying159
  a53 := Tryd.isAgg159
  z53 := Tryd.sizeOf159
  v53 := Tryd.zeroValue159
  t171 := Tryd.underlying203
  a171 := Tryd.isAgg203
  z171 := Tryd.sizeOf203
  v171 := Tryd.zeroValue203
  t173 := Tryd.underlying206
  a173 := Tryd.isAgg206
  z173 := Tryd.sizeOf206
  v173 := Tryd.zeroValue206
  t212 := Tryd.underlying217
  a212 := Tryd.isAgg217
  z212 := Tryd.sizeOf217
  v212 := Tryd.zeroValue217
  t213 := Tryd.underlying218
  a213 := Tryd.isAgg218
  z213 := Tryd.sizeOf218
  t232 := Tryd.underlying226
  a232 := Tryd.isAgg226
  z232 := Tryd.sizeOf226
  v232 := Tryd.zeroValue226
  t233 := Tryd.underlying227
  a233 := Tryd.isAgg227
  z233 := Tryd.sizeOf227
  v233 := Tryd.zeroValue227
  g17 := by kernel_rfl
  g18 := by kernel_rfl
  g19 := by kernel_rfl
  i0 := by kernel_rfl
  i2 := by kernel_rfl
  i3 := by kernel_rfl
  i4 := by kernel_rfl
  i5 := by kernel_rfl
  i9 := by kernel_rfl
  i20 := by kernel_rfl
  i37 := by kernel_rfl
  i46 := by kernel_rfl
  i51 := by kernel_rfl
  i53 := by kernel_rfl
  i171 := by kernel_rfl
  i173 := by kernel_rfl
  i212 := by kernel_rfl
  i232 := by kernel_rfl
  i233 := by kernel_rfl
  m17 := by kernel_rfl
  m18 := by kernel_rfl
  m19 := by kernel_rfl }
end Go.Proofs
