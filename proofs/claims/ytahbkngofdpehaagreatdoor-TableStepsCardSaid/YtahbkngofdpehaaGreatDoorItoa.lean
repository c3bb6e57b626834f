/-
  DERIVED: THE SHELF's CONTRACTS AT THIS DUMP, IN PLAIN WORDS (tools/lay-plain.mjs out of 'LayItoa.lean', which tools/lay-shelf.mjs wrote): THE SAME DECLARATIONS UNDER THE SAME NAMES: 'import', 'namespace', 'open', 'def', 'theorem' AND NOTHING ELSE: no command of the shelf's: FOR A HAND-IN. Each laying: the table of numbers ('.._ren') and one theorem, a field a fact of the dump's own or the kernel's comparison; each contract: ONE APPLICATION.
-/
import Derived.Shelf.LaysM
import Derived.Shelf.Strconv.Itoa3
import Derived.Test.YtahbkngofdpehaaGreatDoorProg
set_option linter.unusedVariables false
set_option linter.unusedSimpArgs false
set_option linter.unusedSectionVars false
namespace Go.Proofs
open Go.Shelf
def Tryz.laysItoa_ren : Go.Shelf.Ren := ⟨fun | 171 => 115 | 243 => 148 | 246 => 188 | 283 => 211 | 284 => 212 | 285 => 213 | 286 => 214 | 129 => 164 | 317 => 232 | 318 => 233 | 319 => 234 | 320 => 235 | 337 => 245 | 338 => 246 | n => n, fun | 3 => 3 | 9 => 9 | 2 => 2 | 4 => 4 | 171 => 252 | 0 => 0 | 53 => 209 | 37 => 22 | 5 => 5 | 173 => 254 | 212 => 272 | 51 => 170 | 20 => 20 | 213 => 273 | 46 => 186 | 232 => 283 | 233 => 284 | n => n, fun | 17 => 3 | 18 => 9 | 19 => 10 | n => n⟩
theorem Tryz.laysItoa : Go.Proofs.LaysM.n171 Tryz.prog Tryz.laysItoa_ren := {
  mixed := by kernel_rfl
  f129 := Tryz.func164.trans (congrArg some (by kernel_rfl))
  f171 := Tryz.func115.trans (congrArg some (by kernel_rfl))
  f243 := Tryz.func148.trans (congrArg some (by kernel_rfl))
  f246 := Tryz.func188.trans (congrArg some (by kernel_rfl))
  f283 := Tryz.func211.trans (congrArg some (by kernel_rfl))
  f284 := Tryz.func212.trans (congrArg some (by kernel_rfl))
  f285 := Tryz.func213.trans (congrArg some (by kernel_rfl))
  f286 := Tryz.func214.trans (congrArg some (by kernel_rfl))
  f317 := Tryz.func232.trans (congrArg some (by kernel_rfl))
  f318 := Tryz.func233.trans (congrArg some (by kernel_rfl))
  f319 := Tryz.func234.trans (congrArg some (by kernel_rfl))
  f320 := Tryz.func235.trans (congrArg some (by kernel_rfl))
  f337 := Tryz.func245.trans (congrArg some (by kernel_rfl))
  f338 := Tryz.func246.trans (congrArg some (by kernel_rfl))
  t0 := Tryz.underlying0
  a0 := Tryz.isAgg0
  z0 := Tryz.sizeOf0
  v0 := Tryz.zeroValue0
  t2 := Tryz.underlying2
  a2 := Tryz.isAgg2
  z2 := Tryz.sizeOf2
  v2 := Tryz.zeroValue2
  t3 := Tryz.underlying3
  a3 := Tryz.isAgg3
  z3 := Tryz.sizeOf3
  v3 := Tryz.zeroValue3
  t4 := Tryz.underlying4
  a4 := Tryz.isAgg4
  z4 := Tryz.sizeOf4
  v4 := Tryz.zeroValue4
  t5 := Tryz.underlying5
  a5 := Tryz.isAgg5
  z5 := Tryz.sizeOf5
  v5 := Tryz.zeroValue5
  t9 := Tryz.underlying9
  a9 := Tryz.isAgg9
  z9 := Tryz.sizeOf9
  v9 := Tryz.zeroValue9
  t20 := Tryz.underlying20
  a20 := Tryz.isAgg20
  z20 := Tryz.sizeOf20
  v20 := Tryz.zeroValue20
  t37 := Tryz.underlying22
  a37 := Tryz.isAgg22
  z37 := Tryz.sizeOf22
  v37 := Tryz.zeroValue22
  t46 := Tryz.underlying186
  a46 := Tryz.isAgg186
  z46 := Tryz.sizeOf186
  v46 := Tryz.zeroValue186
  t51 := Tryz.underlying170
  a51 := Tryz.isAgg170
  z51 := Tryz.sizeOf170
  v51 := Tryz.zeroValue170
  t53 := Tryz.underlying209
  a53 := Tryz.isAgg209
  z53 := Tryz.sizeOf209
  v53 := Tryz.zeroValue209
  t171 := Tryz.underlying252
  a171 := Tryz.isAgg252
  z171 := Tryz.sizeOf252
  v171 := Tryz.zeroValue252
  t173 := Tryz.underlying254
  a173 := Tryz.isAgg254
  z173 := Tryz.sizeOf254
  v173 := Tryz.zeroValue254
  t212 := Tryz.underlying272
  a212 := Tryz.isAgg272
  z212 := Tryz.sizeOf272
  v212 := Tryz.zeroValue272
  t213 := Tryz.underlying273
  a213 := Tryz.isAgg273
  z213 := Tryz.sizeOf273
  t232 := Tryz.underlying283
  a232 := Tryz.isAgg283
  z232 := Tryz.sizeOf283
  v232 := Tryz.zeroValue283
  t233 := Tryz.underlying284
  a233 := Tryz.isAgg284
  z233 := Tryz.sizeOf284
  v233 := Tryz.zeroValue284
  g17 := by kernel_rfl
  g18 := by kernel_rfl
  g19 := by kernel_rfl
  i0 := by kernel_rfl
  i2 := by kernel_rfl
  i3 := by kernel_rfl
  i4 := by kernel_rfl
  i5 := by kernel_rfl
  i9 := by kernel_rfl
  i20 := by kernel_rfl
  i37 := by kernel_rfl
  i46 := by kernel_rfl
  i51 := by kernel_rfl
  i53 := by kernel_rfl
  i171 := by kernel_rfl
  i173 := by kernel_rfl
  i212 := by kernel_rfl
  i232 := by kernel_rfl
  i233 := by kernel_rfl
  m17 := by kernel_rfl
  m18 := by kernel_rfl
  m19 := by kernel_rfl }
end Go.Proofs
