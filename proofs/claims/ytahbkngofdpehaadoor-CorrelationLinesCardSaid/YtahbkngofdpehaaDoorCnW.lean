/- Printed by wip/tools/tgen.py: walks. -/
import Derived.Test.YtahbkngofdpehaaDoorCnU
set_option linter.unusedVariables false
set_option linter.unusedSimpArgs false
set_option linter.unusedSectionVars false
namespace Go.Proofs
open Go Eng
set_option maxRecDepth 100000

noncomputable section
abbrev qo0 : ShO := .arr (.int .u32) false
abbrev qe1 : Sh := .o (.v (.sl (.int .u32)))
abbrev qe2 : Sh := .o (.v (.int .i64))
abbrev qo3 : ShO := .box [.o (.v (.int .i64)), .o (.v .bool), .o (.full (0, 3, 1)), .o (.v .bool), .o (.full (0, 4, 1)), .o (.v .bool), .o (.full (0, 5, 1)), .o (.v .bool), .o (.full (0, 6, 1)), .o (.v .bool), .o (.full (0, 7, 1)), .o (.v .bool), .o (.full (0, 8, 1)), .o (.v .bool), .o (.full (0, 9, 1)), .o (.v .bool), .o (.full (0, 10, 1)), .o (.v .bool), .o (.full (0, 11, 1)), .o (.v .bool), .o (.full (0, 12, 1))]
abbrev qe4 : Sh := .o (.full (0, 1, 1))
abbrev qe5 : Sh := .o (.v .bool)
abbrev qe6 : Sh := .o (.ptr (0, 1, 1) 0 0)
abbrev qe7 : Sh := .o (.v (.int .u64))
abbrev qo8 : ShO := .box [.o (.v .bool), .o (.full (0, 4, 1)), .o (.v .bool), .o (.full (0, 5, 1))]
abbrev qe9 : Sh := .o (.ptr (0, 2, 1) 0 0)
abbrev qe10 : Sh := .o (.v (.int .u32))
abbrev qo11 : ShO := .boxS (.st 1)
abbrev qe12 : Sh := .o (.v (.sl (.int .i8)))
abbrev qe13 : Sh := .o (.sl (0, 0, 0))
abbrev qe14 : Sh := .o (.ptr (0, 3, 1) 0 0)
abbrev qo15 : ShO := .arr (.st 2) false
abbrev qo16 : ShO := .boxS (.st 0)
abbrev qo17 : ShO := .box [.o (.v .bool), .o (.full (0, 2, 1))]
abbrev qp0 : List ShO := [qo15, qo3, .boxS (.st 3), qo0, qo0, qo0, qo0, qo0, qo0, qo0, qo0, qo0, qo0]
abbrev qs1 : List Sh := [qe1, qe1, qe2]
abbrev qp2 : List ShO := [qo3, .boxS (.st 3), qo0, qo0, qo0, qo0, qo0, qo0, qo0, qo0, qo0, qo0]
abbrev qp3 : List ShO := [qo11, qo11, qo8, qo0, qo0]
abbrev qs4 : List Sh := [qe1, qe1, qe4, qe7, qe2]

/-! ### tablefinder/tablefinderref01.trim -/
noncomputable def D0 : FD U := ⟨128, Tryd.f128, [], [.p (.sl (.int .u32))], [], [.p (.sl (.int .u32))], [], [], s_tablefinderref01_trim, s_tablefinderref01_trim,
.lo 9401 [0] [] [qe1] [] 0 [0] [] [qe1] [] s_tablefinderref01_trim_l1 s_tablefinderref01_trim_k2 (fun n0 => .j 9105401 [0,14] [] [qe1, qe5] [] (s_tablefinderref01_trim_j1 (s_tablefinderref01_trim_l1 n0)) <|
.nil) <|
.nil⟩
theorem D0_ok : SigOk X0.E 128 D0.sig := D0.ok G0 Tryd.func128 trivial rfl rfl (by kernel_rfl)

/-! ### tablefinder/tablefinderref01.big -/
noncomputable def D1 : FD U := ⟨86, Tryd.f86, [D0.sg], [.p .bool, .p (.sl (.int .u32))], [], [.p (.st 0)], [], [], s_tablefinderref01_big, s_tablefinderref01_big,
.j 9111 [4] [] [qe6] [qo16] s_tablefinderref01_big_j1 <|
.nil⟩
theorem D1_ok : SigOk X0.E 86 D1.sig := D1.ok G0 Tryd.func86 ⟨D0_ok, trivial⟩ rfl rfl (by kernel_rfl)

/-! ### tablefinder/tablefinderref01.FromInt -/
noncomputable def D2 : FD U := ⟨114, Tryd.f114, [D1.sg], [.p (.int .i64)], [], [.p (.st 0)], [], [], s_tablefinderref01_FromInt, s_tablefinderref01_FromInt,
.j 9111 [0,2,3] [] [qe2, qe6, qe7] [qo17, qo0] s_tablefinderref01_FromInt_j1 <|
.nil⟩
theorem D2_ok : SigOk X0.E 114 D2.sig := D2.ok G0 Tryd.func114 ⟨D1_ok, trivial⟩ rfl rfl (by kernel_rfl)

/-! ### tablefinder/tablefinderref01.ValidBig -/
noncomputable def D3 : FD U := ⟨83, Tryd.f83, [], [.p (.st 0)], [], [.p .bool], [], [], s_tablefinderref01_ValidBig, s_tablefinderref01_ValidBig,
.j 9111 [2] [] [qe5] [] s_tablefinderref01_ValidBig_j1 <|
.nil⟩
theorem D3_ok : SigOk X0.E 83 D3.sig := D3.ok G0 Tryd.func83 trivial rfl rfl (by kernel_rfl)

/-! ### tablefinder/tablefinderref01.half -/
noncomputable def D4 : FD U := ⟨126, Tryd.f126, [D0.sg], [.p (.sl (.int .u32))], [], [.p (.sl (.int .u32))], [], [], s_tablefinderref01_half, s_tablefinderref01_half,
.lo 941011 [0,3,9,10] [] [qe1, qe4, qe2, qe2] [qo0] 0 [3] [] [qe4] [qo0] s_tablefinderref01_half_l1 s_tablefinderref01_half_k2 (fun n0 => .j 9111541011 [0,3,9,10] [] [qe1, qe4, qe2, qe2] [qo0] (s_tablefinderref01_half_j1 (s_tablefinderref01_half_l1 n0)) <|
.nil) <|
.nil⟩
theorem D4_ok : SigOk X0.E 126 D4.sig := D4.ok G0 Tryd.func126 ⟨D0_ok, trivial⟩ rfl rfl (by kernel_rfl)

/-! ### tablefinder/tablefinderref01.cmp -/
noncomputable def D5 : FD U := ⟨84, Tryd.f84, [], [.p (.sl (.int .u32)), .p (.sl (.int .u32))], [], [.p (.int .i64)], [], [], s_tablefinderref01_cmp, s_tablefinderref01_cmp,
.lr 941011 [0,1,5] [] qs1 [] 0 [] [] [] [] s_tablefinderref01_cmp_l1 s_tablefinderref01_cmp_k1 (fun _ => .nil) <|
.nil⟩
theorem D5_ok : SigOk X0.E 84 D5.sig := D5.ok G0 Tryd.func84 trivial rfl rfl (by kernel_rfl)

/-! ### tablefinder/tablefinderref01.sub -/
noncomputable def D6 : FD U := ⟨88, Tryd.f88, [D0.sg], [.p (.sl (.int .u32)), .p (.sl (.int .u32))], [], [.p (.sl (.int .u32))], [], [], s_tablefinderref01_sub, s_tablefinderref01_sub,
.lo 9410111 [0,1,5,6,7] [] [qe1, qe1, qe4, qe2, qe2] [qo0] 0 [5] [] [qe4] [qo0] s_tablefinderref01_sub_l1 s_tablefinderref01_sub_k2 (fun n0 => .j 9114015410111 [0,1,5,6,7] [] [qe1, qe1, qe4, qe2, qe2] [qo0] (s_tablefinderref01_sub_j1 (s_tablefinderref01_sub_l1 n0)) <|
.nil) <|
.nil⟩
theorem D6_ok : SigOk X0.E 88 D6.sig := D6.ok G0 Tryd.func88 ⟨D0_ok, trivial⟩ rfl rfl (by kernel_rfl)

/-! ### tablefinder/tablefinderref01.twice -/
noncomputable def D7 : FD U := ⟨127, Tryd.f127, [D0.sg], [.p (.sl (.int .u32)), .p (.int .u32)], [], [.p (.sl (.int .u32))], [], [], s_tablefinderref01_twice, s_tablefinderref01_twice,
.lo 941011 [0,1,5,6] [] [qe1, qe10, qe4, qe2] [qo0] 0 [1,5] [] [qe10, qe4] [qo0] s_tablefinderref01_twice_l1 s_tablefinderref01_twice_k1 (fun _ => .nil) <|
.nil⟩
theorem D7_ok : SigOk X0.E 127 D7.sig := D7.ok G0 Tryd.func127 ⟨D0_ok, trivial⟩ rfl rfl (by kernel_rfl)

/-! ### tablefinder/tablefinderref01.gcd -/
noncomputable def D8 : FD U := ⟨85, Tryd.f85, [D4.sg, D5.sg, D6.sg, D7.sg], [.p (.sl (.int .u32)), .p (.sl (.int .u32))], [], [.p (.sl (.int .u32))], [], [], s_tablefinderref01_gcd, s_tablefinderref01_gcd,
.lo 94011 [0,1,5] [] qs1 [] 0 [0,1,5] [] qs1 [] s_tablefinderref01_gcd_l1 s_tablefinderref01_gcd_k2 (fun n0 => .j 91054011 [0,1,5,17] [] [qe1, qe1, qe2, qe5] [] (s_tablefinderref01_gcd_j1 (s_tablefinderref01_gcd_l1 n0)) <|
.nil) <|
.lo 940111 [0,1,5] [] qs1 [] 2 [0,5] [] [qe1, qe2] [] s_tablefinderref01_gcd_l2 s_tablefinderref01_gcd_k6 (fun n0 => .lo 94041540111 [0,1,5] [] qs1 [] 4 [0,1,5] [] qs1 [] s_tablefinderref01_gcd_l3 (s_tablefinderref01_gcd_k3 (s_tablefinderref01_gcd_l2 n0)) (fun _ => .nil) <|
.lo 940141540111 [0,1,5] [] qs1 [] 6 [0,1,5] [] qs1 [] s_tablefinderref01_gcd_l4 (s_tablefinderref01_gcd_k4 (s_tablefinderref01_gcd_l2 n0)) (fun _ => .nil) <|
.j 911141540111 [0,1,5] [] qs1 [] (s_tablefinderref01_gcd_j5 (s_tablefinderref01_gcd_l2 n0)) <|
.nil) <|
.lo 9401111 [0,5] [] [qe1, qe2] [] 8 [0] [] [qe1] [] s_tablefinderref01_gcd_l5 s_tablefinderref01_gcd_k7 (fun _ => .nil) <|
.nil⟩
theorem D8_ok : SigOk X0.E 85 D8.sig := D8.ok G0 Tryd.func85 ⟨D4_ok, D5_ok, D6_ok, D7_ok, trivial⟩ rfl rfl (by kernel_rfl)

/-! ### tablefinder/tablefinderref01.bit -/
noncomputable def D9 : FD U := ⟨167, Tryd.f167, [], [.p (.sl (.int .u32)), .p (.int .i64)], [], [.p (.int .u32)], [], [], s_tablefinderref01_bit, s_tablefinderref01_bit,
.nil⟩
theorem D9_ok : SigOk X0.E 167 D9.sig := D9.ok G0 Tryd.func167 trivial rfl rfl (by kernel_rfl)

/-! ### tablefinder/tablefinderref01.div -/
noncomputable def D10 : FD U := ⟨144, Tryd.f144, [D9.sg, D7.sg, D5.sg, D6.sg, D0.sg], [.p (.sl (.int .u32)), .p (.sl (.int .u32))], [], [.p (.sl (.int .u32)), .p (.sl (.int .u32))], [], [], s_tablefinderref01_div, s_tablefinderref01_div,
.lo 941011 [0,1,4,5,6] [5] [qe1, qe1, qe4, qe1, qe2] [qo0] 0 [4,5] [] [qe4, qe1] [qo0] s_tablefinderref01_div_l1 s_tablefinderref01_div_k2 (fun n0 => .j 911541011 [0,1,4,5,6] [] [qe1, qe1, qe4, qe1, qe2] [qo0] (s_tablefinderref01_div_j1 (s_tablefinderref01_div_l1 n0)) <|
.nil) <|
.nil⟩
theorem D10_ok : SigOk X0.E 144 D10.sig := D10.ok G0 Tryd.func144 ⟨D9_ok, D7_ok, D5_ok, D6_ok, D0_ok, trivial⟩ rfl rfl (by kernel_rfl)

/-! ### tablefinder/tablefinderref01.lowest -/
noncomputable def D11 : FD U := ⟨112, Tryd.f112, [D2.sg, D8.sg, D10.sg, D1.sg], [.p (.st 0), .p (.st 0)], [], [.p (.st 1)], [], [], s_tablefinderref01_lowest, s_tablefinderref01_lowest,
.nil⟩
theorem D11_ok : SigOk X0.E 112 D11.sig := D11.ok G0 Tryd.func112 ⟨D2_ok, D8_ok, D10_ok, D1_ok, trivial⟩ rfl rfl (by kernel_rfl)

/-! ### tablefinder/tablefinderref01.Make -/
noncomputable def D12 : FD U := ⟨113, Tryd.f113, [D3.sg, D11.sg], [.p (.st 0), .p (.st 0)], [], [.p (.st 1), .p (.int .i64)], [], [], s_tablefinderref01_Make, s_tablefinderref01_Make,
.j 9101 [2,3,4,13] [] [qe6, qe9, qe14, qe5] [qo16, qo16, qo8, qo0, qo0] s_tablefinderref01_Make_j1 <|
.nil⟩
theorem D12_ok : SigOk X0.E 113 D12.sig := D12.ok G0 Tryd.func113 ⟨D3_ok, D11_ok, trivial⟩ rfl rfl (by kernel_rfl)

/-! ### tablefinder/tablefinderref01.Of -/
noncomputable def D13 : FD U := ⟨74, Tryd.f74, [D2.sg, D12.sg], [.p (.int .i64), .p (.int .i64)], [], [.p (.st 1), .p (.int .i64)], [], [], s_tablefinderref01_Of, s_tablefinderref01_Of,
.nil⟩
theorem D13_ok : SigOk X0.E 74 D13.sig := D13.ok G0 Tryd.func74 ⟨D2_ok, D12_ok, trivial⟩ rfl rfl (by kernel_rfl)

/-! ### tablefinder/tablefinderref23.Part -/
noncomputable def D14 : FD U := ⟨41, Tryd.f41, [D13.sg], [.p (.int .i64), .p (.int .i64)], [], [.p (.st 1)], [], [], s_tablefinderref23_Part, s_tablefinderref23_Part,
.nil⟩
theorem D14_ok : SigOk X0.E 41 D14.sig := D14.ok G0 Tryd.func41 ⟨D13_ok, trivial⟩ rfl rfl (by kernel_rfl)

/-! ### tablefinder/tablefinderref23.Int -/
noncomputable def D15 : FD U := ⟨14, Tryd.f14, [D14.sg], [.p (.int .i64)], [], [.p (.st 1)], [], [], s_tablefinderref23_Int, s_tablefinderref23_Int,
.nil⟩
theorem D15_ok : SigOk X0.E 14 D15.sig := D15.ok G0 Tryd.func14 ⟨D14_ok, trivial⟩ rfl rfl (by kernel_rfl)

/-! ### tablefinder/tablefinderlaw25.line -/
noncomputable def D16 : FD U := ⟨36, Tryd.f36, [D15.sg], [], [], [.own (.st 2)], [], [], s_tablefinderlaw25_line, s_tablefinderlaw25_line,
.nil⟩
theorem D16_ok : SigOk X0.E 36 D16.sig := D16.ok G0 Tryd.func36 ⟨D15_ok, trivial⟩ rfl rfl (by kernel_rfl)

/-! ### tablefinder/fraction.trimmed -/
noncomputable def D17 : FD U := ⟨174, Tryd.f174, [], [.p (.sl (.int .u32))], [], [.p (.sl (.int .u32))], [], [], s_fraction_trimmed, s_fraction_trimmed,
.lo 9401 [0] [] [qe1] [] 0 [0] [] [qe1] [] s_fraction_trimmed_l1 s_fraction_trimmed_k2 (fun n0 => .j 9105401 [0,14] [] [qe1, qe5] [] (s_fraction_trimmed_j1 (s_fraction_trimmed_l1 n0)) <|
.nil) <|
.nil⟩
theorem D17_ok : SigOk X0.E 174 D17.sig := D17.ok G0 Tryd.func174 trivial rfl rfl (by kernel_rfl)

/-! ### tablefinder/fraction.natural -/
noncomputable def D18 : FD U := ⟨154, Tryd.f154, [D17.sg], [.p (.int .u64)], [], [.p (.sl (.int .u32))], [], [], s_fraction_natural, s_fraction_natural,
.nil⟩
theorem D18_ok : SigOk X0.E 154 D18.sig := D18.ok G0 Tryd.func154 ⟨D17_ok, trivial⟩ rfl rfl (by kernel_rfl)

/-! ### tablefinder/fraction.signed -/
noncomputable def D19 : FD U := ⟨149, Tryd.f149, [], [.p .bool, .p (.sl (.int .u32))], [], [.p (.st 0)], [], [], s_fraction_signed, s_fraction_signed,
.j 911 [4] [] [qe6] [qo17, qo0] s_fraction_signed_j1 <|
.nil⟩
theorem D19_ok : SigOk X0.E 149 D19.sig := D19.ok G0 Tryd.func149 trivial rfl rfl (by kernel_rfl)

/-! ### tablefinder/fraction.FromInt -/
noncomputable def D20 : FD U := ⟨121, Tryd.f121, [D18.sg, D19.sg], [.p (.int .i64)], [], [.p (.st 0)], [], [], s_fraction_FromInt, s_fraction_FromInt,
.nil⟩
theorem D20_ok : SigOk X0.E 121 D20.sig := D20.ok G0 Tryd.func121 ⟨D18_ok, D19_ok, trivial⟩ rfl rfl (by kernel_rfl)

/-! ### tablefinder/fraction.ValidBig -/
noncomputable def D21 : FD U := ⟨168, Tryd.f168, [], [.p (.st 0)], [], [.p .bool], [], [], s_fraction_ValidBig, s_fraction_ValidBig,
.j 9111 [2] [] [qe5] [] s_fraction_ValidBig_j1 <|
.nil⟩
theorem D21_ok : SigOk X0.E 168 D21.sig := D21.ok G0 Tryd.func168 trivial rfl rfl (by kernel_rfl)

/-! ### tablefinder/fraction.bigs -/
noncomputable def D22 : FD U := ⟨146, Tryd.f146, [D21.sg], [.p (.sl (.st 0))], [], [.p .bool], [], [], s_fraction_bigs, s_fraction_bigs,
.lr 94101 [5,6,7] [] [.o (.v (.sl (.st 0))), qe2, qe2] [] 0 [] [] [] [] s_fraction_bigs_l1 s_fraction_bigs_k1 (fun _ => .nil) <|
.nil⟩
theorem D22_ok : SigOk X0.E 146 D22.sig := D22.ok G0 Tryd.func146 ⟨D21_ok, trivial⟩ rfl rfl (by kernel_rfl)

/-! ### cmp.isNaN[int] -/
noncomputable def D23 : FD U := ⟨196, Tryd.f196, [], [.p (.int .i64)], [], [.p .bool], [], [], s_cmp_isNaN_int, s_cmp_isNaN_int,
.nil⟩
theorem D23_ok : SigOk X0.E 196 D23.sig := D23.ok G0 Tryd.func196 trivial rfl rfl (by kernel_rfl)

/-! ### cmp.Compare[int] -/
noncomputable def D24 : FD U := ⟨170, Tryd.f170, [D23.sg], [.p (.int .i64), .p (.int .i64)], [], [.p (.int .i64)], [], [], s_cmp_Compare_int, s_cmp_Compare_int,
.nil⟩
theorem D24_ok : SigOk X0.E 170 D24.sig := D24.ok G0 Tryd.func170 ⟨D23_ok, trivial⟩ rfl rfl (by kernel_rfl)

/-! ### cmp.isNaN[uint32] -/
noncomputable def D25 : FD U := ⟨197, Tryd.f197, [], [.p (.int .u32)], [], [.p .bool], [], [], s_cmp_isNaN_uint32, s_cmp_isNaN_uint32,
.nil⟩
theorem D25_ok : SigOk X0.E 197 D25.sig := D25.ok G0 Tryd.func197 trivial rfl rfl (by kernel_rfl)

/-! ### cmp.Compare[uint32] -/
noncomputable def D26 : FD U := ⟨171, Tryd.f171, [D25.sg], [.p (.int .u32), .p (.int .u32)], [], [.p (.int .i64)], [], [], s_cmp_Compare_uint32, s_cmp_Compare_uint32,
.nil⟩
theorem D26_ok : SigOk X0.E 171 D26.sig := D26.ok G0 Tryd.func171 ⟨D25_ok, trivial⟩ rfl rfl (by kernel_rfl)

/-! ### (tablefinder/fraction.words).compare -/
noncomputable def D27 : FD U := ⟨148, Tryd.f148, [D24.sg, D26.sg], [.p (.sl (.int .u32)), .p (.sl (.int .u32))], [], [.p (.int .i64)], [], [], s_fraction_words_compare, s_fraction_words_compare,
.lr 941011 [0,1,6] [] qs1 [] 0 [] [] [] [] s_fraction_words_compare_l1 s_fraction_words_compare_k1 (fun _ => .nil) <|
.nil⟩
theorem D27_ok : SigOk X0.E 148 D27.sig := D27.ok G0 Tryd.func148 ⟨D24_ok, D26_ok, trivial⟩ rfl rfl (by kernel_rfl)

/-! ### slices.Clone[tablefinder/fraction.words,uint32] -/
noncomputable def D28 : FD U := ⟨191, Tryd.f191, [], [.p (.sl (.int .u32))], [], [.own (.int .u32)], [], [], s_slices_Clone_fraction_words_uint32, s_slices_Clone_fraction_words_uint32,
.j 9101 [0,4] [] [qe1, qe5] [] s_slices_Clone_fraction_words_uint32_j1 <|
.nil⟩
theorem D28_ok : SigOk X0.E 191 D28.sig := D28.ok G0 Tryd.func191 trivial rfl rfl (by kernel_rfl)

/-! ### math/bits.Div32 -/
noncomputable def D29 : FD U := ⟨206, Tryd.f206, [], [.p (.int .u32), .p (.int .u32), .p (.int .u32)], [], [.p (.int .u32), .p (.int .u32)], [], [], s_math_bits_Div32, s_math_bits_Div32,
.j 9101 [0,1,2,15] [] [qe10, qe10, qe10, qe5] [] s_math_bits_Div32_j1 <|
.nil⟩
theorem D29_ok : SigOk X0.E 206 D29.sig := D29.ok G0 Tryd.func206 trivial rfl rfl (by kernel_rfl)

/-! ### (tablefinder/fraction.words).short -/
noncomputable def D30 : FD U := ⟨192, Tryd.f192, [D29.sg, D17.sg], [.p (.sl (.int .u32)), .p (.int .u32)], [], [.p (.sl (.int .u32)), .p (.int .u32)], [], [], s_fraction_words_short, s_fraction_words_short,
.lo 9410111 [0,1,6,7,8] [] [qe1, qe10, qe4, qe10, qe2] [qo0] 0 [6,7] [] [qe4, qe10] [qo0] s_fraction_words_short_l1 s_fraction_words_short_k1 (fun _ => .nil) <|
.nil⟩
theorem D30_ok : SigOk X0.E 192 D30.sig := D30.ok G0 Tryd.func192 ⟨D29_ok, D17_ok, trivial⟩ rfl rfl (by kernel_rfl)

/-! ### math/bits.Len32 -/
noncomputable def D31 : FD U := ⟨207, Tryd.f207, [], [.p (.int .u32)], [], [.p (.int .i64)], [], [], s_math_bits_Len32, s_math_bits_Len32,
.j 911 [0,2] [] [qe10, qe2] [] s_math_bits_Len32_j1 <|
.j 9111 [0,2] [] [qe10, qe2] [] s_math_bits_Len32_j2 <|
.nil⟩
theorem D31_ok : SigOk X0.E 207 D31.sig := D31.ok G0 Tryd.func207 trivial rfl rfl (by kernel_rfl)

/-! ### math/bits.LeadingZeros32 -/
noncomputable def D32 : FD U := ⟨193, Tryd.f193, [D31.sg], [.p (.int .u32)], [], [.p (.int .i64)], [], [], s_math_bits_LeadingZeros32, s_math_bits_LeadingZeros32,
.nil⟩
theorem D32_ok : SigOk X0.E 193 D32.sig := D32.ok G0 Tryd.func193 ⟨D31_ok, trivial⟩ rfl rfl (by kernel_rfl)

/-! ### (tablefinder/fraction.words).shifted -/
noncomputable def D33 : FD U := ⟨194, Tryd.f194, [], [.p (.sl (.int .u32)), .p (.int .i64)], [], [.own (.int .u32)], [], [], s_fraction_words_shifted, s_fraction_words_shifted,
.lo 941011 [1,5,13,14,15] [] [qe2, qe4, qe1, qe2, qe2] [qo0] 0 [5] [] [qe4] [qo0] s_fraction_words_shifted_l1 s_fraction_words_shifted_k1 (fun _ => .nil) <|
.nil⟩
theorem D33_ok : SigOk X0.E 194 D33.sig := D33.ok G0 Tryd.func194 trivial rfl rfl (by kernel_rfl)

/-! ### math/bits.Sub32 -/
noncomputable def D34 : FD U := ⟨175, Tryd.f175, [], [.p (.int .u32), .p (.int .u32), .p (.int .u32)], [], [.p (.int .u32), .p (.int .u32)], [], [], s_math_bits_Sub32, s_math_bits_Sub32,
.nil⟩
theorem D34_ok : SigOk X0.E 175 D34.sig := D34.ok G0 Tryd.func175 trivial rfl rfl (by kernel_rfl)

/-! ### math/bits.Add32 -/
noncomputable def D35 : FD U := ⟨172, Tryd.f172, [], [.p (.int .u32), .p (.int .u32), .p (.int .u32)], [], [.p (.int .u32), .p (.int .u32)], [], [], s_math_bits_Add32, s_math_bits_Add32,
.nil⟩
theorem D35_ok : SigOk X0.E 172 D35.sig := D35.ok G0 Tryd.func172 trivial rfl rfl (by kernel_rfl)

/-! ### tablefinder/fraction.digit -/
noncomputable def D36 : FD U := ⟨195, Tryd.f195, [D34.sg, D35.sg], [.part (.int .u32), .p (.sl (.int .u32))], [(0, .arr (.int .u32))], [.p (.int .u32)], [], [], s_fraction_digit, s_fraction_digit_w,
.lo 94011111 [0,1,5,7,8] [] [qe13, qe1, qe2, qe7, qe7] [qo0] 0 [0,1,5,7] [] [qe13, qe1, qe2, qe7] [qo0] s_fraction_digit_l1 s_fraction_digit_k2 (fun n0 => .j 91054011111 [0,1,5,7,8,71] [] [qe13, qe1, qe2, qe7, qe7, qe5] [qo0] (s_fraction_digit_j1 (s_fraction_digit_l1 n0)) <|
.nil) <|
.lo 941011111111 [0,1,5,7,9,10,82,83,84] [] [qe13, qe1, qe2, qe7, qe10, qe7, qe1, qe2, qe2] [qo0] 2 [0,1,5,7,9,10] [] [qe13, qe1, qe2, qe7, qe10, qe7] [qo0] s_fraction_digit_l2 s_fraction_digit_k3 (fun _ => .nil) <|
.lo 941011111111111 [0,5,7,13,130,131,132] [] [qe13, qe2, qe7, qe10, qe1, qe2, qe2] [qo0] 4 [0,5,7,13] [] [qe13, qe2, qe7, qe10] [qo0] s_fraction_digit_l3 s_fraction_digit_k4 (fun _ => .nil) <|
.nil⟩
theorem D36_ok : SigOk X0.E 195 D36.sig := D36.okA G0 Tryd.func195 ⟨D34_ok, D35_ok, trivial⟩ (by kernel_rfl) (by kernel_rfl)

/-! ### tablefinder/fraction.trimmed -/
noncomputable def D37 : FD U := ⟨174, Tryd.f174, [], [.part (.int .u32)], [(0, .arr (.int .u32))], [.view 0], [], [], s_fraction_trimmed_2, s_fraction_trimmed_2_w,
.lo 9401 [0] [] [qe13] [qo0] 0 [0] [] [qe13] [qo0] s_fraction_trimmed_2_l1 s_fraction_trimmed_2_k2 (fun n0 => .j 9105401 [0,14] [] [qe13, qe5] [qo0] (s_fraction_trimmed_2_j1 (s_fraction_trimmed_2_l1 n0)) <|
.nil) <|
.nil⟩
theorem D37_ok : SigOk X0.E 174 D37.sig := D37.okA G0 Tryd.func174 trivial (by kernel_rfl) (by kernel_rfl)

/-! ### (tablefinder/fraction.words).at -/
noncomputable def D38 : FD U := ⟨173, Tryd.f173, [], [.p (.sl (.int .u32)), .p (.int .i64)], [], [.p (.int .u32)], [], [], s_fraction_words_at, s_fraction_words_at,
.nil⟩
theorem D38_ok : SigOk X0.E 173 D38.sig := D38.ok G0 Tryd.func173 trivial rfl rfl (by kernel_rfl)

/-! ### (tablefinder/fraction.words).at -/
noncomputable def D39 : FD U := ⟨173, Tryd.f173, [], [.part (.int .u32), .p (.int .i64)], [(0, .arr (.int .u32))], [.p (.int .u32)], [], [], s_fraction_words_at_2, s_fraction_words_at_2_w,
.nil⟩
theorem D39_ok : SigOk X0.E 173 D39.sig := D39.okA G0 Tryd.func173 trivial (by kernel_rfl) (by kernel_rfl)

/-! ### (tablefinder/fraction.words).over -/
noncomputable def D40 : FD U := ⟨169, Tryd.f169, [D27.sg, D28.sg, D30.sg, D17.sg, D32.sg, D33.sg, D36.sg, D37.sg, D39.sg], [.p (.sl (.int .u32)), .p (.sl (.int .u32))], [], [.p (.sl (.int .u32)), .p (.sl (.int .u32))], [], [(84,7)], s_fraction_words_over, s_fraction_words_over,
.lo 9410111111 [8,9,10,11,12,13] [11] [qe2, qe2, qe4, qe1, .o (.full (0, 2, 1)), qe2] [qo0, qo0] 1 [8,9,10,12] [] [qe2, qe2, qe4, .o (.full (0, 2, 1))] [qo0, qo0] s_fraction_words_over_l1 s_fraction_words_over_k1 (fun _ => .nil) <|
.lo 941011111111 [9,12,14,86,87] [] [qe2, qe4, .o (.sl (0, 2, 1)), qe2, qe2] [qo0, qo0] 3 [12,14] [] [qe4, .o (.sl (0, 2, 1))] [qo0, qo0] s_fraction_words_over_l2 s_fraction_words_over_k2 (fun _ => .nil) <|
.nil⟩
theorem D40_ok : SigOk X0.E 169 D40.sig := D40.ok G0 Tryd.func169 ⟨D27_ok, D28_ok, D30_ok, D17_ok, D32_ok, D33_ok, D36_ok, D37_ok, D39_ok, trivial⟩ rfl rfl (by kernel_rfl)

/-! ### (tablefinder/fraction.words).common -/
noncomputable def D41 : FD U := ⟨147, Tryd.f147, [D40.sg], [.p (.sl (.int .u32)), .p (.sl (.int .u32))], [], [.p (.sl (.int .u32))], [], [], s_fraction_words_common, s_fraction_words_common,
.lo 9401 [0,1] [] [qe1, qe1] [] 0 [0] [] [qe1] [] s_fraction_words_common_l1 s_fraction_words_common_k1 (fun _ => .nil) <|
.nil⟩
theorem D41_ok : SigOk X0.E 147 D41.sig := D41.ok G0 Tryd.func147 ⟨D40_ok, trivial⟩ rfl rfl (by kernel_rfl)

/-! ### tablefinder/fraction.reduced -/
noncomputable def D42 : FD U := ⟨153, Tryd.f153, [D41.sg, D40.sg, D19.sg], [.p (.st 0), .p (.st 0)], [], [.p (.st 1)], [], [], s_fraction_reduced, s_fraction_reduced,
.nil⟩
theorem D42_ok : SigOk X0.E 153 D42.sig := D42.ok G0 Tryd.func153 ⟨D41_ok, D40_ok, D19_ok, trivial⟩ rfl rfl (by kernel_rfl)

/-! ### tablefinder/fraction.Make -/
noncomputable def D43 : FD U := ⟨120, Tryd.f120, [D22.sg, D42.sg], [.p (.st 0), .p (.st 0)], [], [.p (.st 1), .p (.int .i64)], [], [], s_fraction_Make, s_fraction_Make,
.nil⟩
theorem D43_ok : SigOk X0.E 120 D43.sig := D43.ok G0 Tryd.func120 ⟨D22_ok, D42_ok, trivial⟩ rfl rfl (by kernel_rfl)

/-! ### tablefinder/fraction.Of -/
noncomputable def D44 : FD U := ⟨78, Tryd.f78, [D20.sg, D43.sg], [.p (.int .i64), .p (.int .i64)], [], [.p (.st 1), .p (.int .i64)], [], [], s_fraction_Of, s_fraction_Of,
.nil⟩
theorem D44_ok : SigOk X0.E 78 D44.sig := D44.ok G0 Tryd.func78 ⟨D20_ok, D43_ok, trivial⟩ rfl rfl (by kernel_rfl)

/-! ### tablefinder/num.Zero -/
noncomputable def D45 : FD U := ⟨44, Tryd.f44, [D44.sg], [], [], [.p (.st 1)], [], [], s_num_Zero, s_num_Zero,
.nil⟩
theorem D45_ok : SigOk X0.E 44 D45.sig := D45.ok G0 Tryd.func44 ⟨D44_ok, trivial⟩ rfl rfl (by kernel_rfl)

/-! ### tablefinder/correlation.none -/
noncomputable def D46 : FD U := ⟨47, Tryd.f47, [D45.sg], [], [], [.p (.st 3)], [], [], s_correlation_none, s_correlation_none,
.nil⟩
theorem D46_ok : SigOk X0.E 47 D46.sig := D46.ok G0 Tryd.func47 ⟨D45_ok, trivial⟩ rfl rfl (by kernel_rfl)

/-! ### tablefinder/fraction.Valid -/
noncomputable def D47 : FD U := ⟨116, Tryd.f116, [D22.sg, D41.sg, D27.sg], [.p (.st 1)], [], [.p .bool], [], [], s_fraction_Valid, s_fraction_Valid,
.j 911 [2] [] [qe5] [] s_fraction_Valid_j1 <|
.nil⟩
theorem D47_ok : SigOk X0.E 116 D47.sig := D47.ok G0 Tryd.func116 ⟨D22_ok, D41_ok, D27_ok, trivial⟩ rfl rfl (by kernel_rfl)

/-! ### (tablefinder/fraction.words).times -/
noncomputable def D48 : FD U := ⟨152, Tryd.f152, [D17.sg], [.p (.sl (.int .u32)), .p (.sl (.int .u32))], [], [.p (.sl (.int .u32))], [], [], s_fraction_words_times, s_fraction_words_times,
.lo 941011 [1,5,17,18,19] [] [qe1, qe4, qe1, qe2, qe2] [qo0] 0 [5] [] [qe4] [qo0] s_fraction_words_times_l1 s_fraction_words_times_k2 (fun n0 => .lo 9410114011541011 [1,5,6,7,8,17,18,19,24,25,26] [] [qe1, qe4, qe2, qe10, qe7, qe1, qe2, qe2, qe1, qe2, qe2] [qo0] 2 [1,5,6,8,17,18,19] [] [qe1, qe4, qe2, qe7, qe1, qe2, qe2] [qo0] s_fraction_words_times_l2 (s_fraction_words_times_k1 (s_fraction_words_times_l1 n0)) (fun _ => .nil) <|
.nil) <|
.nil⟩
theorem D48_ok : SigOk X0.E 152 D48.sig := D48.ok G0 Tryd.func152 ⟨D17_ok, trivial⟩ rfl rfl (by kernel_rfl)

/-! ### tablefinder/fraction.product -/
noncomputable def D49 : FD U := ⟨118, Tryd.f118, [D48.sg, D19.sg], [.p (.st 0), .p (.st 0)], [], [.p (.st 0)], [], [], s_fraction_product, s_fraction_product,
.nil⟩
theorem D49_ok : SigOk X0.E 118 D49.sig := D49.ok G0 Tryd.func118 ⟨D48_ok, D19_ok, trivial⟩ rfl rfl (by kernel_rfl)

/-! ### (tablefinder/fraction.words).plus -/
noncomputable def D50 : FD U := ⟨150, Tryd.f150, [D38.sg, D35.sg, D17.sg], [.p (.sl (.int .u32)), .p (.sl (.int .u32))], [], [.p (.sl (.int .u32))], [], [], s_fraction_words_plus, s_fraction_words_plus,
.lo 9410111 [0,1,5,6,20,21] [] [qe1, qe1, qe4, qe10, qe2, qe2] [qo0] 0 [5,6] [] [qe4, qe10] [qo0] s_fraction_words_plus_l1 s_fraction_words_plus_k1 (fun _ => .nil) <|
.nil⟩
theorem D50_ok : SigOk X0.E 150 D50.sig := D50.ok G0 Tryd.func150 ⟨D38_ok, D35_ok, D17_ok, trivial⟩ rfl rfl (by kernel_rfl)

/-! ### (tablefinder/fraction.words).minus -/
noncomputable def D51 : FD U := ⟨151, Tryd.f151, [D38.sg, D34.sg, D17.sg], [.p (.sl (.int .u32)), .p (.sl (.int .u32))], [], [.p (.sl (.int .u32))], [], [], s_fraction_words_minus, s_fraction_words_minus,
.lo 9410111 [0,1,5,6,12,13] [] [qe1, qe1, qe4, qe10, qe2, qe2] [qo0] 0 [5] [] [qe4] [qo0] s_fraction_words_minus_l1 s_fraction_words_minus_k1 (fun _ => .nil) <|
.nil⟩
theorem D51_ok : SigOk X0.E 151 D51.sig := D51.ok G0 Tryd.func151 ⟨D38_ok, D34_ok, D17_ok, trivial⟩ rfl rfl (by kernel_rfl)

/-! ### tablefinder/fraction.sum -/
noncomputable def D52 : FD U := ⟨117, Tryd.f117, [D50.sg, D19.sg, D27.sg, D51.sg], [.p (.st 0), .p (.st 0)], [], [.p (.st 0)], [], [], s_fraction_sum, s_fraction_sum,
.nil⟩
theorem D52_ok : SigOk X0.E 117 D52.sig := D52.ok G0 Tryd.func117 ⟨D50_ok, D19_ok, D27_ok, D51_ok, trivial⟩ rfl rfl (by kernel_rfl)

/-! ### tablefinder/fraction.plus -/
noncomputable def D53 : FD U := ⟨145, Tryd.f145, [D49.sg, D52.sg], [.p (.st 1), .p (.st 1)], [], [.p (.st 0), .p (.st 0)], [], [], s_fraction_plus, s_fraction_plus,
.nil⟩
theorem D53_ok : SigOk X0.E 145 D53.sig := D53.ok G0 Tryd.func145 ⟨D49_ok, D52_ok, trivial⟩ rfl rfl (by kernel_rfl)

/-! ### (tablefinder/fraction.operation).result -/
noncomputable def D54 : FD U := ⟨123, Tryd.f123, [D47.sg, D53.sg, D42.sg], [.fn 145 [] [], .p (.st 1), .p (.st 1)], [], [.p (.st 1), .p (.int .i64)], [], [], s_fraction_operation_result, s_fraction_operation_result,
.j 9101 [0,4,5,6,18] [] [.fn 145 [] [], qe6, qe9, qe14, qe5] qp3 s_fraction_operation_result_j1 <|
.nil⟩
theorem D54_ok : SigOk X0.E 123 D54.sig := D54.ok G0 Tryd.func123 ⟨D47_ok, D53_ok, D42_ok, trivial⟩ rfl rfl (by kernel_rfl)

/-! ### tablefinder/fraction.Add -/
noncomputable def D55 : FD U := ⟨125, Tryd.f125, [D54.sg], [.p (.st 1), .p (.st 1)], [], [.p (.st 1), .p (.int .i64)], [], [], s_fraction_Add, s_fraction_Add,
.nil⟩
theorem D55_ok : SigOk X0.E 125 D55.sig := D55.ok G0 Tryd.func125 ⟨D54_ok, trivial⟩ rfl rfl (by kernel_rfl)

/-! ### tablefinder/num.first -/
noncomputable def D56 : FD U := ⟨79, Tryd.f79, [], [.p (.st 1), .p (.int .i64)], [], [.p (.st 1)], [], [], s_num_first, s_num_first,
.nil⟩
theorem D56_ok : SigOk X0.E 79 D56.sig := D56.ok G0 Tryd.func79 trivial rfl rfl (by kernel_rfl)

/-! ### tablefinder/num.Add -/
noncomputable def D57 : FD U := ⟨82, Tryd.f82, [D55.sg, D56.sg], [.p (.st 1), .p (.st 1)], [], [.p (.st 1)], [], [], s_num_Add, s_num_Add,
.nil⟩
theorem D57_ok : SigOk X0.E 82 D57.sig := D57.ok G0 Tryd.func82 ⟨D55_ok, D56_ok, trivial⟩ rfl rfl (by kernel_rfl)

/-! ### tablefinder/fraction.times -/
noncomputable def D58 : FD U := ⟨124, Tryd.f124, [D49.sg], [.p (.st 1), .p (.st 1)], [], [.p (.st 0), .p (.st 0)], [], [], s_fraction_times, s_fraction_times,
.nil⟩
theorem D58_ok : SigOk X0.E 124 D58.sig := D58.ok G0 Tryd.func124 ⟨D49_ok, trivial⟩ rfl rfl (by kernel_rfl)

/-! ### (tablefinder/fraction.operation).result -/
noncomputable def D59 : FD U := ⟨123, Tryd.f123, [D47.sg, D58.sg, D42.sg], [.fn 124 [] [], .p (.st 1), .p (.st 1)], [], [.p (.st 1), .p (.int .i64)], [], [], s_fraction_operation_result_2, s_fraction_operation_result_2,
.j 9101 [0,4,5,6,18] [] [.fn 124 [] [], qe6, qe9, qe14, qe5] qp3 s_fraction_operation_result_2_j1 <|
.nil⟩
theorem D59_ok : SigOk X0.E 123 D59.sig := D59.ok G0 Tryd.func123 ⟨D47_ok, D58_ok, D42_ok, trivial⟩ rfl rfl (by kernel_rfl)

/-! ### tablefinder/fraction.Mul -/
noncomputable def D60 : FD U := ⟨81, Tryd.f81, [D59.sg], [.p (.st 1), .p (.st 1)], [], [.p (.st 1), .p (.int .i64)], [], [], s_fraction_Mul, s_fraction_Mul,
.nil⟩
theorem D60_ok : SigOk X0.E 81 D60.sig := D60.ok G0 Tryd.func81 ⟨D59_ok, trivial⟩ rfl rfl (by kernel_rfl)

/-! ### tablefinder/num.Mul -/
noncomputable def D61 : FD U := ⟨46, Tryd.f46, [D60.sg, D56.sg], [.p (.st 1), .p (.st 1)], [], [.p (.st 1)], [], [], s_num_Mul, s_num_Mul,
.nil⟩
theorem D61_ok : SigOk X0.E 46 D61.sig := D61.ok G0 Tryd.func46 ⟨D60_ok, D56_ok, trivial⟩ rfl rfl (by kernel_rfl)

/-! ### tablefinder/correlation.Add -/
noncomputable def D62 : FD U := ⟨48, Tryd.f48, [D57.sg, D61.sg], [.p (.st 3), .p (.st 1), .p (.st 1)], [], [.p (.st 3)], [], [], s_correlation_Add, s_correlation_Add,
.nil⟩
theorem D62_ok : SigOk X0.E 48 D62.sig := D62.ok G0 Tryd.func48 ⟨D57_ok, D61_ok, trivial⟩ rfl rfl (by kernel_rfl)

/-! ### tablefinder/correlation.Of -/
noncomputable def D63 : FD U := ⟨16, Tryd.f16, [D46.sg, D62.sg], [.p (.sl (.st 2))], [], [.p (.st 3)], [], [], s_correlation_Of, s_correlation_Of,
.lo 941011 [2,3,7,8,9] [] [qe6, qe9, .o (.v (.sl (.st 2))), qe2, qe2] qp2 0 [2,3] [] [qe6, qe9] qp2 s_correlation_Of_l1 s_correlation_Of_k1 (fun _ => .nil) <|
.nil⟩
theorem D63_ok : SigOk X0.E 16 D63.sig := D63.ok G0 Tryd.func16 ⟨D46_ok, D62_ok, trivial⟩ rfl rfl (by kernel_rfl)

/-! ### tablefinder/num.Of -/
noncomputable def D64 : FD U := ⟨76, Tryd.f76, [D44.sg, D45.sg], [.p (.int .i64), .p (.int .i64)], [], [.p (.st 1)], [], [], s_num_Of, s_num_Of,
.nil⟩
theorem D64_ok : SigOk X0.E 76 D64.sig := D64.ok G0 Tryd.func76 ⟨D44_ok, D45_ok, trivial⟩ rfl rfl (by kernel_rfl)

/-! ### tablefinder/fraction.opposite -/
noncomputable def D65 : FD U := ⟨119, Tryd.f119, [], [.p (.st 0)], [], [.p (.st 0)], [], [], s_fraction_opposite, s_fraction_opposite,
.j 911 [2] [] [qe6] [qo16] s_fraction_opposite_j1 <|
.nil⟩
theorem D65_ok : SigOk X0.E 119 D65.sig := D65.ok G0 Tryd.func119 trivial rfl rfl (by kernel_rfl)

/-! ### tablefinder/fraction.Sub -/
noncomputable def D66 : FD U := ⟨115, Tryd.f115, [D47.sg, D65.sg, D54.sg], [.p (.st 1), .p (.st 1)], [], [.p (.st 1), .p (.int .i64)], [], [], s_fraction_Sub, s_fraction_Sub,
.nil⟩
theorem D66_ok : SigOk X0.E 115 D66.sig := D66.ok G0 Tryd.func115 ⟨D47_ok, D65_ok, D54_ok, trivial⟩ rfl rfl (by kernel_rfl)

/-! ### tablefinder/num.Sub -/
noncomputable def D67 : FD U := ⟨75, Tryd.f75, [D66.sg, D56.sg], [.p (.st 1), .p (.st 1)], [], [.p (.st 1)], [], [], s_num_Sub, s_num_Sub,
.nil⟩
theorem D67_ok : SigOk X0.E 75 D67.sig := D67.ok G0 Tryd.func75 ⟨D66_ok, D56_ok, trivial⟩ rfl rfl (by kernel_rfl)

/-! ### tablefinder/correlation.part -/
noncomputable def D68 : FD U := ⟨42, Tryd.f42, [D64.sg, D61.sg, D67.sg], [.p (.int .i64), .p (.st 1), .p (.st 1), .p (.st 1)], [], [.p (.st 1)], [], [], s_correlation_part, s_correlation_part,
.nil⟩
theorem D68_ok : SigOk X0.E 42 D68.sig := D68.ok G0 Tryd.func42 ⟨D64_ok, D61_ok, D67_ok, trivial⟩ rfl rfl (by kernel_rfl)

/-! ### tablefinder/fraction.Cmp -/
noncomputable def D69 : FD U := ⟨77, Tryd.f77, [D47.sg, D49.sg, D65.sg, D52.sg], [.p (.st 1), .p (.st 1)], [], [.p (.int .i64)], [], [], s_fraction_Cmp, s_fraction_Cmp,
.j 9101 [2,3,13] [] [qe6, qe9, qe5] [qo11, qo11] s_fraction_Cmp_j1 <|
.nil⟩
theorem D69_ok : SigOk X0.E 77 D69.sig := D69.ok G0 Tryd.func77 ⟨D47_ok, D49_ok, D65_ok, D52_ok, trivial⟩ rfl rfl (by kernel_rfl)

/-! ### tablefinder/num.Sign -/
noncomputable def D70 : FD U := ⟨43, Tryd.f43, [D45.sg, D69.sg], [.p (.st 1)], [], [.p (.int .i64)], [], [], s_num_Sign, s_num_Sign,
.nil⟩
theorem D70_ok : SigOk X0.E 43 D70.sig := D70.ok G0 Tryd.func43 ⟨D45_ok, D69_ok, trivial⟩ rfl rfl (by kernel_rfl)

/-! ### tablefinder/fraction.over -/
noncomputable def D71 : FD U := ⟨122, Tryd.f122, [D49.sg], [.p (.st 1), .p (.st 1)], [], [.p (.st 0), .p (.st 0)], [], [], s_fraction_over, s_fraction_over,
.nil⟩
theorem D71_ok : SigOk X0.E 122 D71.sig := D71.ok G0 Tryd.func122 ⟨D49_ok, trivial⟩ rfl rfl (by kernel_rfl)

/-! ### (tablefinder/fraction.operation).result -/
noncomputable def D72 : FD U := ⟨123, Tryd.f123, [D47.sg, D71.sg, D42.sg], [.fn 122 [] [], .p (.st 1), .p (.st 1)], [], [.p (.st 1), .p (.int .i64)], [], [], s_fraction_operation_result_3, s_fraction_operation_result_3,
.j 9101 [0,4,5,6,18] [] [.fn 122 [] [], qe6, qe9, qe14, qe5] qp3 s_fraction_operation_result_3_j1 <|
.nil⟩
theorem D72_ok : SigOk X0.E 123 D72.sig := D72.ok G0 Tryd.func123 ⟨D47_ok, D71_ok, D42_ok, trivial⟩ rfl rfl (by kernel_rfl)

/-! ### tablefinder/fraction.Div -/
noncomputable def D73 : FD U := ⟨80, Tryd.f80, [D72.sg], [.p (.st 1), .p (.st 1)], [], [.p (.st 1), .p (.int .i64)], [], [], s_fraction_Div, s_fraction_Div,
.nil⟩
theorem D73_ok : SigOk X0.E 80 D73.sig := D73.ok G0 Tryd.func80 ⟨D72_ok, trivial⟩ rfl rfl (by kernel_rfl)

/-! ### tablefinder/num.Div -/
noncomputable def D74 : FD U := ⟨45, Tryd.f45, [D73.sg, D56.sg], [.p (.st 1), .p (.st 1)], [], [.p (.st 1)], [], [], s_num_Div, s_num_Div,
.nil⟩
theorem D74_ok : SigOk X0.E 45 D74.sig := D74.ok G0 Tryd.func45 ⟨D73_ok, D56_ok, trivial⟩ rfl rfl (by kernel_rfl)

/-! ### tablefinder/correlation.Square -/
noncomputable def D75 : FD U := ⟨15, Tryd.f15, [D68.sg, D70.sg, D45.sg, D61.sg, D74.sg], [.p (.st 3)], [], [.p (.st 1), .p (.int .i64), .p .bool], [], [], s_correlation_Square, s_correlation_Square,
.j 91011 [2,5,6,7,47] [] [qe6, qe9, qe14, .o (.ptr (0, 4, 1) 0 0), qe5] [.box [.o (.v .bool), .o (.full (0, 5, 1)), .o (.v .bool), .o (.full (0, 6, 1))], qo11, qo11, qo11, qo0, qo0] s_correlation_Square_j1 <|
.nil⟩
theorem D75_ok : SigOk X0.E 15 D75.sig := D75.ok G0 Tryd.func15 ⟨D68_ok, D70_ok, D45_ok, D61_ok, D74_ok, trivial⟩ rfl rfl (by kernel_rfl)

/-! ### tablefinder/tablefinderref23.sameBig -/
noncomputable def D76 : FD U := ⟨49, Tryd.f49, [], [.p (.st 0), .p (.st 0)], [], [.p .bool], [], [], s_tablefinderref23_sameBig, s_tablefinderref23_sameBig,
.j 9101 [2,3,20] [] [qe6, qe9, qe5] [qo16, qo16] s_tablefinderref23_sameBig_j1 <|
.lr 941011 [3,22,23,24] [] [qe6, qe1, qe2, qe2] [qo16] 0 [] [] [] [] s_tablefinderref23_sameBig_l1 s_tablefinderref23_sameBig_k2 (fun _ => .nil) <|
.nil⟩
theorem D76_ok : SigOk X0.E 49 D76.sig := D76.ok G0 Tryd.func49 trivial rfl rfl (by kernel_rfl)

/-! ### tablefinder/tablefinderref23.Same -/
noncomputable def D77 : FD U := ⟨17, Tryd.f17, [D76.sg], [.p (.st 1), .p (.st 1)], [], [.p .bool], [], [], s_tablefinderref23_Same, s_tablefinderref23_Same,
.j 911 [4] [] [qe5] [] s_tablefinderref23_Same_j1 <|
.nil⟩
theorem D77_ok : SigOk X0.E 17 D77.sig := D77.ok G0 Tryd.func17 ⟨D76_ok, trivial⟩ rfl rfl (by kernel_rfl)

/-! ### tablefinder/tablefinderlaw25.awake -/
noncomputable def D78 : FD U := ⟨8, Tryd.f8, [D16.sg, D63.sg, D75.sg, D15.sg, D77.sg], [], [], [.p .bool], [], [], s_tablefinderlaw25_awake, s_tablefinderlaw25_awake,
.j 9111 [0] [] [qe5] [] s_tablefinderlaw25_awake_j1 <|
.nil⟩
theorem D78_ok : SigOk X0.E 8 D78.sig := D78.ok G0 Tryd.func8 ⟨D16_ok, D63_ok, D75_ok, D15_ok, D77_ok, trivial⟩ rfl rfl (by kernel_rfl)

/-! ### tablefinder/tablefinderkit.Mod -/
noncomputable def D79 : FD U := ⟨11, Tryd.f11, [], [.p (.int .i64), .p (.int .i64)], [], [.p (.int .i64)], [], [], s_tablefinderkit_Mod, s_tablefinderkit_Mod,
.nil⟩
theorem D79_ok : SigOk X0.E 11 D79.sig := D79.ok G0 Tryd.func11 trivial rfl rfl (by kernel_rfl)

/-! ### tablefinder/tablefinderref01.Valid -/
noncomputable def D80 : FD U := ⟨50, Tryd.f50, [D3.sg, D5.sg, D8.sg], [.p (.st 1)], [], [.p .bool], [], [], s_tablefinderref01_Valid, s_tablefinderref01_Valid,
.j 9101 [1,24] [] [qe6, qe5] [qo11] s_tablefinderref01_Valid_j1 <|
.nil⟩
theorem D80_ok : SigOk X0.E 50 D80.sig := D80.ok G0 Tryd.func50 ⟨D3_ok, D5_ok, D8_ok, trivial⟩ rfl rfl (by kernel_rfl)

/-! ### tablefinder/tablefinderref01.mul -/
noncomputable def D81 : FD U := ⟨89, Tryd.f89, [D0.sg], [.p (.sl (.int .u32)), .p (.sl (.int .u32))], [], [.p (.sl (.int .u32))], [], [], s_tablefinderref01_mul, s_tablefinderref01_mul,
.lo 941011 [0,1,5,6] [] [qe1, qe1, qe4, qe2] [qo0] 0 [5] [] [qe4] [qo0] s_tablefinderref01_mul_l1 s_tablefinderref01_mul_k2 (fun n0 => .lo 94101401541011 [0,1,5,6,7,8] [] [qe1, qe1, qe4, qe2, qe7, qe2] [qo0] 2 [0,1,5,6,7] [] [qe1, qe1, qe4, qe2, qe7] [qo0] s_tablefinderref01_mul_l2 (s_tablefinderref01_mul_k1 (s_tablefinderref01_mul_l1 n0)) (fun _ => .nil) <|
.nil) <|
.nil⟩
theorem D81_ok : SigOk X0.E 89 D81.sig := D81.ok G0 Tryd.func89 ⟨D0_ok, trivial⟩ rfl rfl (by kernel_rfl)

/-! ### tablefinder/tablefinderref01.Times -/
noncomputable def D82 : FD U := ⟨52, Tryd.f52, [D81.sg, D1.sg], [.p (.st 0), .p (.st 0)], [], [.p (.st 0)], [], [], s_tablefinderref01_Times, s_tablefinderref01_Times,
.nil⟩
theorem D82_ok : SigOk X0.E 52 D82.sig := D82.ok G0 Tryd.func52 ⟨D81_ok, D1_ok, trivial⟩ rfl rfl (by kernel_rfl)

/-! ### tablefinder/tablefinderref01.add -/
noncomputable def D83 : FD U := ⟨87, Tryd.f87, [], [.p (.sl (.int .u32)), .p (.sl (.int .u32))], [], [.own (.int .u32)], [], [], s_tablefinderref01_add, s_tablefinderref01_add,
.lo 9410111 [0,1,5,6,7] [] qs4 [qo0] 0 [5,6] [] [qe4, qe7] [qo0] s_tablefinderref01_add_l1 s_tablefinderref01_add_k4 (fun n0 => .j 9105410111 [0,1,5,6,7,17] [] [qe1, qe1, qe4, qe7, qe2, qe5] [qo0] (s_tablefinderref01_add_j1 (s_tablefinderref01_add_l1 n0)) <|
.j 914015410111 [0,1,5,6,7] [] qs4 [qo0] (s_tablefinderref01_add_j2 (s_tablefinderref01_add_l1 n0)) <|
.j 9114015410111 [0,1,5,6,7] [] qs4 [qo0] (s_tablefinderref01_add_j3 (s_tablefinderref01_add_l1 n0)) <|
.nil) <|
.nil⟩
theorem D83_ok : SigOk X0.E 87 D83.sig := D83.ok G0 Tryd.func87 trivial rfl rfl (by kernel_rfl)

/-! ### tablefinder/tablefinderref01.Plus -/
noncomputable def D84 : FD U := ⟨51, Tryd.f51, [D83.sg, D1.sg, D5.sg, D6.sg], [.p (.st 0), .p (.st 0)], [], [.p (.st 0)], [], [], s_tablefinderref01_Plus, s_tablefinderref01_Plus,
.nil⟩
theorem D84_ok : SigOk X0.E 51 D84.sig := D84.ok G0 Tryd.func51 ⟨D83_ok, D1_ok, D5_ok, D6_ok, trivial⟩ rfl rfl (by kernel_rfl)

/-! ### tablefinder/tablefinderref01.result -/
noncomputable def D85 : FD U := ⟨73, Tryd.f73, [D11.sg], [.p (.st 0), .p (.st 0)], [], [.p (.st 1), .p (.int .i64)], [], [], s_tablefinderref01_result, s_tablefinderref01_result,
.j 91011 [4,6,21] [] [qe6, qe9, qe5] [.box [.o (.v .bool), .o (.full (0, 3, 1)), .o (.v .bool), .o (.full (0, 4, 1))], qo11, qo0, qo0] s_tablefinderref01_result_j1 <|
.nil⟩
theorem D85_ok : SigOk X0.E 73 D85.sig := D85.ok G0 Tryd.func73 ⟨D11_ok, trivial⟩ rfl rfl (by kernel_rfl)

/-! ### tablefinder/tablefinderref01.Add -/
noncomputable def D86 : FD U := ⟨39, Tryd.f39, [D80.sg, D82.sg, D84.sg, D85.sg], [.p (.st 1), .p (.st 1)], [], [.p (.st 1), .p (.int .i64)], [], [], s_tablefinderref01_Add, s_tablefinderref01_Add,
.j 9101 [2,3,4,13] [] [qe6, qe9, qe14, qe5] qp3 s_tablefinderref01_Add_j1 <|
.nil⟩
theorem D86_ok : SigOk X0.E 39 D86.sig := D86.ok G0 Tryd.func39 ⟨D80_ok, D82_ok, D84_ok, D85_ok, trivial⟩ rfl rfl (by kernel_rfl)

/-! ### tablefinder/tablefinderref23.Add -/
noncomputable def D87 : FD U := ⟨12, Tryd.f12, [D86.sg], [.p (.st 1), .p (.st 1)], [], [.p (.st 1)], [], [], s_tablefinderref23_Add, s_tablefinderref23_Add,
.nil⟩
theorem D87_ok : SigOk X0.E 12 D87.sig := D87.ok G0 Tryd.func12 ⟨D86_ok, trivial⟩ rfl rfl (by kernel_rfl)

/-! ### tablefinder/correlation.Of -/
noncomputable def D88 : FD U := ⟨16, Tryd.f16, [D46.sg, D62.sg], [.arr (.st 2)], [(0, .arr (.st 2))], [.p (.st 3)], [], [], s_correlation_Of_2, s_correlation_Of_2_w,
.lo 941011 [2,3,7,8,9] [] [qe6, qe9, .o (.full (0, 0, 0)), qe2, qe2] qp0 0 [2,3] [] [qe6, qe9] qp0 s_correlation_Of_2_l1 s_correlation_Of_2_k1 (fun _ => .nil) <|
.nil⟩
theorem D88_ok : SigOk X0.E 16 D88.sig := D88.okA G0 Tryd.func16 ⟨D46_ok, D62_ok, trivial⟩ (by kernel_rfl) (by kernel_rfl)

/-! ### tablefinder/tablefinderref01.Minus -/
noncomputable def D89 : FD U := ⟨53, Tryd.f53, [D1.sg], [.p (.st 0)], [], [.p (.st 0)], [], [], s_tablefinderref01_Minus, s_tablefinderref01_Minus,
.nil⟩
theorem D89_ok : SigOk X0.E 53 D89.sig := D89.ok G0 Tryd.func53 ⟨D1_ok, trivial⟩ rfl rfl (by kernel_rfl)

/-! ### tablefinder/tablefinderref01.Cmp -/
noncomputable def D90 : FD U := ⟨20, Tryd.f20, [D80.sg, D82.sg, D89.sg, D84.sg], [.p (.st 1), .p (.st 1)], [], [.p (.int .i64)], [], [], s_tablefinderref01_Cmp, s_tablefinderref01_Cmp,
.j 9101 [2,3,13] [] [qe6, qe9, qe5] [qo11, qo11] s_tablefinderref01_Cmp_j1 <|
.nil⟩
theorem D90_ok : SigOk X0.E 20 D90.sig := D90.ok G0 Tryd.func20 ⟨D80_ok, D82_ok, D89_ok, D84_ok, trivial⟩ rfl rfl (by kernel_rfl)

/-! ### tablefinder/tablefinderref23.Less -/
noncomputable def D91 : FD U := ⟨18, Tryd.f18, [D90.sg], [.p (.st 1), .p (.st 1)], [], [.p .bool], [], [], s_tablefinderref23_Less, s_tablefinderref23_Less,
.nil⟩
theorem D91_ok : SigOk X0.E 18 D91.sig := D91.ok G0 Tryd.func18 ⟨D90_ok, trivial⟩ rfl rfl (by kernel_rfl)

/-! ### tablefinder/tablefinderlaw25.CorrelationLines -/
noncomputable def D92 : FD U := ⟨4, Tryd.f4, [D78.sg, D79.sg, D15.sg, D88.sg, D75.sg, D77.sg, D87.sg, D91.sg], [.p (.sl (.int .i8)), .p (.int .i64), .p (.int .i64), .p .bool], [], [.p .bool], [], [], s_tablefinderlaw25_CorrelationLines, s_tablefinderlaw25_CorrelationLines,
.j 91111 [0,2,3,9] [] [qe12, qe2, qe5, qe2] [] s_tablefinderlaw25_CorrelationLines_j1 <|
.lo 9410111111 [0,2,3,9,10,11,28,29,30] [] [qe12, qe2, qe5, qe2, qe4, qe5, qe12, qe2, qe2] [qo15] 0 [0,2,3,9,10,11] [] [qe12, qe2, qe5, qe2, qe4, qe5] [qo15] s_tablefinderlaw25_CorrelationLines_l1 s_tablefinderlaw25_CorrelationLines_k3 (fun n0 => .j 91140115410111111 [0,2,3,9,10,11,13,28,29,30] [] [qe12, qe2, qe5, qe2, qe4, qe5, .o (.v (.int .i8)), qe12, qe2, qe2] [qo15] (s_tablefinderlaw25_CorrelationLines_j2 (s_tablefinderlaw25_CorrelationLines_l1 n0)) <|
.nil) <|
.j 91011111111 [0,2,3,9,10,14,15,16,72] [] [qe12, qe2, qe5, qe2, qe4, qe9, qe2, qe5, qe5] [qo15, qo11] s_tablefinderlaw25_CorrelationLines_j4 <|
.j 9101111111111 [0,2,3,9,10,14,89] [] [qe12, qe2, qe5, qe2, qe4, qe9, qe5] [qo15, qo11] s_tablefinderlaw25_CorrelationLines_j5 <|
.j 9111121011111111111 [8] [] [qe5] [] s_tablefinderlaw25_CorrelationLines_j6 <|
.nil⟩
theorem D92_ok : SigOk X0.E 4 D92.sig := D92.ok G0 Tryd.func4 ⟨D78_ok, D79_ok, D15_ok, D88_ok, D75_ok, D77_ok, D87_ok, D91_ok, trivial⟩ rfl rfl (by kernel_rfl)

end
end Go.Proofs
