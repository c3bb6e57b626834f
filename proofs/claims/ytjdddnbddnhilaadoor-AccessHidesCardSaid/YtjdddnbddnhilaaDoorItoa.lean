/-
  DERIVED: THE SHELF's CONTRACTS AT THIS DUMP, IN PLAIN WORDS (tools/lay-plain.mjs out of 'LayItoa.lean', which tools/lay-shelf.mjs wrote): THE SAME DECLARATIONS UNDER THE SAME NAMES: 'import', 'namespace', 'open', 'def', 'theorem' AND NOTHING ELSE: no command of the shelf's: FOR A HAND-IN. Each laying: the table of numbers ('.._ren') and one theorem, a field a fact of the dump's own or the kernel's comparison; each contract: ONE APPLICATION.
-/
import Derived.Shelf.Strconv.Itoa3
import Derived.Test.YtjdddnbddnhilaaDoorProg
set_option linter.unusedVariables false
set_option linter.unusedSimpArgs false
set_option linter.unusedSectionVars false
namespace Go.Proofs
open Go.Shelf
def Tryd.laysItoa_ren : Go.Shelf.Ren := ⟨fun | 171 => 118 | 243 => 156 | 246 => 181 | 283 => 200 | 284 => 201 | 285 => 202 | 286 => 203 | 129 => 217 | 317 => 216 | 318 => 218 | 319 => 219 | 320 => 220 | 337 => 228 | 338 => 229 | n => n, fun | 3 => 3 | 9 => 9 | 2 => 2 | 4 => 4 | 171 => 216 | 0 => 0 | 53 => 192 | 37 => 83 | 5 => 5 | 173 => 219 | 212 => 235 | 51 => 167 | 20 => 20 | 213 => 236 | 46 => 193 | 232 => 244 | 233 => 245 | n => n, fun | 17 => 3 | 18 => 4 | 19 => 5 | n => n⟩
theorem Tryd.laysItoa : Go.Proofs.LaysM.n171 Tryd.prog Tryd.laysItoa_ren := {
  mixed := by kernel_rfl
  f129 := Tryd.func217.trans (congrArg some (by kernel_rfl))
  f171 := Tryd.func118.trans (congrArg some (by kernel_rfl))
  f243 := Tryd.func156.trans (congrArg some (by kernel_rfl))
  f246 := Tryd.func181.trans (congrArg some (by kernel_rfl))
  f283 := Tryd.func200.trans (congrArg some (by kernel_rfl))
  f284 := Tryd.func201.trans (congrArg some (by kernel_rfl))
  f285 := Tryd.func202.trans (congrArg some (by kernel_rfl))
  f286 := Tryd.func203.trans (congrArg some (by kernel_rfl))
  f317 := Tryd.func216.trans (congrArg some (by kernel_rfl))
  f318 := Tryd.func218.trans (congrArg some (by kernel_rfl))
  f319 := Tryd.func219.trans (congrArg some (by kernel_rfl))
  f320 := Tryd.func220.trans (congrArg some (by kernel_rfl))
  f337 := Tryd.func228.trans (congrArg some (by kernel_rfl))
  f338 := Tryd.func229.trans (congrArg some (by kernel_rfl))
  t0 := Tryd.underlying0
  a0 := Tryd.isAgg0
  z0 := Tryd.sizeOf0
  v0 := Tryd.zeroValue0
  t2 := Tryd.underlying2
  a2 := Tryd.isAgg2
  z2 := Tryd.sizeOf2
  v2 := Tryd.zeroValue2
  t3 := Tryd.underlying3
  a3 := Tryd.isAgg3
  z3 := Tryd.sizeOf3
  v3 := Tryd.zeroValue3
  t4 := Tryd.underlying4
  a4 := Tryd.isAgg4
  z4 := Tryd.sizeOf4
  v4 := Tryd.zeroValue4
  t5 := Tryd.underlying5
  a5 := Tryd.isAgg5
  z5 := Tryd.sizeOf5
  v5 := Tryd.zeroValue5
  t9 := Tryd.underlying9
  a9 := Tryd.isAgg9
  z9 := Tryd.sizeOf9
  v9 := Tryd.zeroValue9
  t20 := Tryd.underlying20
  a20 := Tryd.isAgg20
  z20 := Tryd.sizeOf20
  v20 := Tryd.zeroValue20
  t37 := Tryd.underlying83
  a37 := Tryd.isAgg83
  z37 := Tryd.sizeOf83
  v37 := Tryd.zeroValue83
  t46 := Tryd.underlying193
  a46 := Tryd.isAgg193
  z46 := Tryd.sizeOf193
  v46 := Tryd.zeroValue193
  t51 := Tryd.underlying167
  a51 := Tryd.isAgg167
  z51 := Tryd.sizeOf167
  v51 := Tryd.zeroValue167
  t53 := Tryd.underlying192
  a53 := Tryd.isAgg192
  z53 := Tryd.sizeOf192
  v53 := Tryd.zeroValue192
  t171 := Tryd.underlying216
  a171 := Tryd.isAgg216
  z171 := Tryd.sizeOf216
  v171 := Tryd.zeroValue216
  t173 := Tryd.underlying219
  a173 := Tryd.isAgg219
  z173 := Tryd.sizeOf219
  v173 := Tryd.zeroValue219
  t212 := Tryd.underlying235
  a212 := Tryd.isAgg235
  z212 := Tryd.sizeOf235
  v212 := Tryd.zeroValue235
  t213 := Tryd.underlying236
  a213 := Tryd.isAgg236
  z213 := Tryd.sizeOf236
  t232 := Tryd.underlying244
  a232 := Tryd.isAgg244
  z232 := Tryd.sizeOf244
  v232 := Tryd.zeroValue244
  t233 := Tryd.underlying245
  a233 := Tryd.isAgg245
  z233 := Tryd.sizeOf245
  v233 := Tryd.zeroValue245
  g17 := by kernel_rfl
  g18 := by kernel_rfl
  g19 := by kernel_rfl
  i0 := by kernel_rfl
  i2 := by kernel_rfl
  i3 := by kernel_rfl
  i4 := by kernel_rfl
  i5 := by kernel_rfl
  i9 := by kernel_rfl
  i20 := by kernel_rfl
  i37 := by kernel_rfl
  i46 := by kernel_rfl
  i51 := by kernel_rfl
  i53 := by kernel_rfl
  i171 := by kernel_rfl
  i173 := by kernel_rfl
  i212 := by kernel_rfl
  i232 := by kernel_rfl
  i233 := by kernel_rfl
  m17 := by kernel_rfl
  m18 := by kernel_rfl
  m19 := by kernel_rfl }
end Go.Proofs
