/- Printed by wip/tools/tgen.py: walks. -/
import Derived.Test.YtahbkngofdpehaaDoorAaU
import Derived.Test.YtahbkngofdpehaaDoorAaX
set_option linter.unusedVariables false
set_option linter.unusedSimpArgs false
set_option linter.unusedSectionVars false
namespace Go.Proofs
open Go Eng
set_option maxRecDepth 100000

noncomputable section
abbrev qe0 : Sh := .o (.v (.int .i64))
abbrev qe1 : Sh := .o (.ptr (0, 1, 1) 0 0)
abbrev qe2 : Sh := .o (.ptr (0, 2, 1) 0 0)
abbrev qo3 : ShO := .box [.o (.v (.int .i64)), .o (.v .str), .o (.full (0, 3, 1))]
abbrev qo4 : ShO := .box [.o (.v (.int .i64)), .o (.v .str), .o (.full (0, 4, 1))]
abbrev qo5 : ShO := .arr (.st 2) false
abbrev qe6 : Sh := .o (.v .bool)
abbrev qo7 : ShO := .arr (.int .i64) false
abbrev qo8 : ShO := .box [.o (.v (.int .i64)), .o (.v (.int .i64)), .o (.v .str), .o (.full (0, 4, 1))]
abbrev qo9 : ShO := .boxS (.st 3)
abbrev qe10 : Sh := .o (.v (.sl (.int .i64)))
abbrev qo11 : ShO := .box [.o (.v (.int .i64)), .o (.v (.int .i64)), .o (.v .str), .o (.full (0, 3, 1))]
abbrev qo12 : ShO := .box [.o (.v (.int .i64)), .o (.v .str), .o (.full (0, 5, 1))]
abbrev qe13 : Sh := .o (.full (0, 1, 1))
abbrev qe14 : Sh := .o (.full (0, 3, 1))
abbrev qe15 : Sh := .o (.ptr (0, 0, 0) 0 0)
abbrev qo16 : ShO := .boxS (.st 5)
abbrev qo17 : ShO := .arr (.st 3) false
abbrev qe18 : Sh := .o (.v (.sl (.st 2)))
abbrev qe19 : Sh := .o (.v (.sl (.st 0)))
abbrev qo20 : ShO := .arr (.st 1) false
abbrev qo21 : ShO := .boxS (.st 6)
abbrev qe22 : Sh := .o (.ptr (0, 3, 1) 0 0)
abbrev qe23 : Sh := .o (.v .str)
abbrev qo24 : ShO := .box [.o (.v (.int .i64)), .o (.v .str), .o (.full (0, 6, 1))]
abbrev qo25 : ShO := .box [.o (.v .str), .o (.full (0, 4, 1))]
abbrev qe26 : Sh := .o (.v (.sl (.st 1)))
abbrev qe27 : Sh := .o (.v (.sl (.st 3)))
abbrev qo28 : ShO := .box [.o (.v .str), .o (.full (0, 3, 1))]
abbrev qo29 : ShO := .box [.o (.v .str), .o (.full (0, 7, 1))]
abbrev qo30 : ShO := .boxS (.st 2)
abbrev qe31 : Sh := .o (.full (0, 2, 1))
abbrev qp0 : List ShO := [qo9, qo21, qo7]
abbrev qp1 : List ShO := [qo16, qo11, qo8, qo7, qo7]
abbrev qs2 : List Sh := [qe1, qe2, qe14, qe0, qe0, qe6, qe0, qe0]
abbrev qp3 : List ShO := [qo3, qo4, qo5, qo5]
abbrev qs4 : List Sh := [qe1, qe2, qe14, qe0, qe0, qe6, qe0, qe0, qe14, qe0, qe0]
abbrev qp5 : List ShO := [qo17, .arr (.st 0) false, qo17]
abbrev qp6 : List ShO := [qo16, qo3, qo4, qo5, qo5]
abbrev qp7 : List ShO := [qo9, qo4, qo12, qo5, qo5]
abbrev qs8 : List Sh := [qe1, qe2, qe6]
abbrev qp9 : List ShO := [qo9, qo3, qo5]

/-! ### tablefinder/tablefinderkit.Light -/
noncomputable def D0 : FD U := ⟨7, Tryd.f7, [], [.p (.sl (.int .i64))], [], [.p .bool], [], [], s_tablefinderkit_Light, s_tablefinderkit_Light,
.nil⟩
theorem D0_ok : SigOk X0.E 7 D0.sig := D0.ok G0 Tryd.func7 trivial rfl rfl (by kernel_rfl)

/-! ### tablefinder/table.Rows -/
noncomputable def D1 : FD U := ⟨31, Tryd.f31, [], [.p (.st 3)], [], [.p (.int .i64)], [], [], s_table_Rows, s_table_Rows,
.nil⟩
theorem D1_ok : SigOk X0.E 31 D1.sig := D1.ok G0 Tryd.func31 trivial rfl rfl (by kernel_rfl)

/-! ### math/bits.Mul64 -/
noncomputable def D2 : FD U := ⟨161, Tryd.f161, [], [.p (.int .u64), .p (.int .u64)], [], [.p (.int .u64), .p (.int .u64)], [], [], s_math_bits_Mul64, s_math_bits_Mul64,
.nil⟩
theorem D2_ok : SigOk X0.E 161 D2.sig := D2.ok G0 Tryd.func161 trivial rfl rfl (by kernel_rfl)

/-! ### math/bits.Mul -/
noncomputable def D3 : FD U := ⟨135, Tryd.f135, [D2.sg], [.p (.int .u64), .p (.int .u64)], [], [.p (.int .u64), .p (.int .u64)], [], [], s_math_bits_Mul, s_math_bits_Mul,
.nil⟩
theorem D3_ok : SigOk X0.E 135 D3.sig := D3.ok G0 Tryd.func135 ⟨D2_ok, trivial⟩ rfl rfl (by kernel_rfl)

/-! ### slices.Repeat[[]tablefinder/api.Cell,tablefinder/api.Cell] -/
noncomputable def D4 : FD U := ⟨97, Tryd.f97, [D3.sg], [.p (.sl (.st 1)), .p (.int .i64)], [], [.own (.st 1)], [], [], s_slices_Repeat_api_Cell_api_Cell, s_slices_Repeat_api_Cell_api_Cell,
.j 910111 [0,6,26] [] [qe26, .o (.v (.int .u64)), qe6] [] s_slices_Repeat_api_Cell_api_Cell_j1 <|
.lo 940111111 [7,8] [] [qe13, qe0] [qo20] 0 [7] [] [qe13] [qo20] s_slices_Repeat_api_Cell_api_Cell_l1 s_slices_Repeat_api_Cell_api_Cell_k2 (fun _ => .nil) <|
.nil⟩
theorem D4_ok : SigOk X0.E 97 D4.sig := D4.ok G0 Tryd.func97 ⟨D3_ok, trivial⟩ rfl rfl (by kernel_rfl)

/-! ### slices.Clone[[]tablefinder/api.Cell,tablefinder/api.Cell] -/
noncomputable def D6 : FD U := ⟨98, Tryd.f98, [], [.p (.sl (.st 1))], [], [.own (.st 1)], [], [], s_slices_Clone_api_Cell_api_Cell, s_slices_Clone_api_Cell_api_Cell,
.j 9101 [0,4] [] [qe26, qe6] [] s_slices_Clone_api_Cell_api_Cell_j1 <|
.nil⟩
theorem D6_ok : SigOk X0.E 98 D6.sig := D6.ok G0 Tryd.func98 trivial rfl rfl (by kernel_rfl)

/-! ### tablefinder/access.seen -/
noncomputable def D7 : FD U := ⟨59, Tryd.f59, [D1.sg, D4.sg, (55, S_s_access_May.sig), D6.sg], [.p (.sl (.st 0)), .p .str, .p (.st 3)], [], [.p (.st 3), .p .bool], [], [], s_access_seen, s_access_seen,
.lo 9410111 [0,1,5,6,8,9,19,20,21] [] [qe19, qe23, qe1, qe2, qe22, qe6, qe18, qe0, qe0] qp7 0 [6,8,9] [] qs8 qp3 s_access_seen_l1 s_access_seen_k2 (fun n0 => .j 911140115410111 [0,1,5,6,8,9,12,19,20,21] [] [qe19, qe23, qe1, qe2, qe22, qe6, .o (.ptr (0, 4, 1) 0 0), qe18, qe0, qe0] [qo9, qo12, qo24, qo29, qo5, qo5, qo20] (s_access_seen_j1 (s_access_seen_l1 n0)) <|
.nil) <|
.nil⟩
theorem D7_ok : SigOk X0.E 59 D7.sig := D7.ok G0 Tryd.func59 ⟨D1_ok, D4_ok, S_s_access_May_ok, D6_ok, trivial⟩ rfl rfl (by kernel_rfl)

/-! ### tablefinder/access.Visible -/
noncomputable def D8 : FD U := ⟨24, Tryd.f24, [D7.sg], [.p (.sl (.st 0)), .p .str, .p (.sl (.st 3))], [], [.own (.st 3)], [], [], s_access_Visible, s_access_Visible,
.lo 941011 [0,1,7,12,13,14] [] [qe19, qe23, qe13, qe27, qe0, qe0] [qo17] 0 [7] [] [qe13] [qo17] s_access_Visible_l1 s_access_Visible_k2 (fun n0 => .j 9111541011 [0,1,7,12,13,14] [] [qe19, qe23, qe13, qe27, qe0, qe0] [qo17] (s_access_Visible_j1 (s_access_Visible_l1 n0)) <|
.nil) <|
.nil⟩
theorem D8_ok : SigOk X0.E 24 D8.sig := D8.ok G0 Tryd.func24 ⟨D7_ok, trivial⟩ rfl rfl (by kernel_rfl)

/-! ### tablefinder/access.Valid -/
noncomputable def D9 : FD U := ⟨54, Tryd.f54, [], [.p (.sl (.st 0))], [], [.p .bool], [], [], s_access_Valid, s_access_Valid,
.lr 94101 [0,5,6,7] [] [qe19, qe19, qe0, qe0] [] 0 [0] [] [qe19] [] s_access_Valid_l1 s_access_Valid_k2 (fun n0 => .j 911401154101 [0,5,6,7,39] [] [qe19, qe19, qe0, qe0, qe6] [] (s_access_Valid_j1 (s_access_Valid_l1 n0)) <|
.nil) <|
.nil⟩
theorem D9_ok : SigOk X0.E 54 D9.sig := D9.ok G0 Tryd.func54 trivial rfl rfl (by kernel_rfl)

/-! ### tablefinder/tablefinderlaw42.awake -/
noncomputable def D10 : FD U := ⟨21, Tryd.f21, [D8.sg, D9.sg, (55, S_s_access_May.sig)], [], [], [.p .bool], [], [], s_tablefinderlaw42_awake, s_tablefinderlaw42_awake,
.j 911111 [0] [] [qe6] [] s_tablefinderlaw42_awake_j1 <|
.nil⟩
theorem D10_ok : SigOk X0.E 21 D10.sig := D10.ok G0 Tryd.func21 ⟨D8_ok, D9_ok, S_s_access_May_ok, trivial⟩ rfl rfl (by kernel_rfl)

/-! ### tablefinder/tablefinderkit.Roll -/
noncomputable def D11 : FD U := ⟨9, Tryd.f9, [], [.p (.sl (.int .i64))], [], [.box (.st 5)], [], [], s_tablefinderkit_Roll, s_tablefinderkit_Roll,
.nil⟩
theorem D11_ok : SigOk X0.E 9 D11.sig := D11.ok G0 Tryd.func9 trivial rfl rfl (by kernel_rfl)

/-! ### tablefinder/tablefinderkit.Mod -/
noncomputable def D12 : FD U := ⟨11, Tryd.f11, [], [.p (.int .i64), .p (.int .i64)], [], [.p (.int .i64)], [], [], s_tablefinderkit_Mod, s_tablefinderkit_Mod,
.nil⟩
theorem D12_ok : SigOk X0.E 11 D12.sig := D12.ok G0 Tryd.func11 trivial rfl rfl (by kernel_rfl)

/-! ### (*tablefinder/tablefinderkit.Dice).Next -/
noncomputable def D13 : FD U := ⟨37, Tryd.f37, [D12.sg], [.box (.st 5), .p (.int .i64)], [(0, .box (.st 5))], [.p (.int .i64)], [], [], s_tablefinderkit_Dice_Next, s_tablefinderkit_Dice_Next,
.nil⟩
theorem D13_ok : SigOk X0.E 37 D13.sig := D13.ok G0 Tryd.func37 ⟨D12_ok, trivial⟩ rfl rfl (by kernel_rfl)

/-! ### (*tablefinder/tablefinderkit.Dice).Word -/
noncomputable def D14 : FD U := ⟨91, Tryd.f91, [D13.sg], [.box (.st 5), .p (.sl .str)], [(0, .box (.st 5))], [.p .str], [], [], s_tablefinderkit_Dice_Word, s_tablefinderkit_Dice_Word,
.nil⟩
theorem D14_ok : SigOk X0.E 91 D14.sig := D14.ok G0 Tryd.func91 ⟨D13_ok, trivial⟩ rfl rfl (by kernel_rfl)

/-! ### tablefinder/tablefinderkit.Cell -/
noncomputable def D15 : FD U := ⟨130, Tryd.f130, [D13.sg, D14.sg], [.box (.st 5)], [(0, .box (.st 5))], [.p (.st 1)], [], [], s_tablefinderkit_Cell, s_tablefinderkit_Cell,
.nil⟩
theorem D15_ok : SigOk X0.E 130 D15.sig := D15.ok G0 Tryd.func130 ⟨D13_ok, D14_ok, trivial⟩ rfl rfl (by kernel_rfl)

/-! ### tablefinder/tablefinderkit.Number -/
noncomputable def D17 : FD U := ⟨131, Tryd.f131, [D13.sg, D14.sg, (105, S_s_strconv_Itoa.sig)], [.box (.st 5)], [(0, .box (.st 5))], [.p (.st 1)], [], [], s_tablefinderkit_Number, s_tablefinderkit_Number,
.nil⟩
theorem D17_ok : SigOk X0.E 131 D17.sig := D17.ok G0 Tryd.func131 ⟨D13_ok, D14_ok, S_s_strconv_Itoa_ok, trivial⟩ rfl rfl (by kernel_rfl)

/-! ### tablefinder/tablefinderkit.Column -/
noncomputable def D18 : FD U := ⟨92, Tryd.f92, [D14.sg, D13.sg, D15.sg, D17.sg, (105, S_s_strconv_Itoa.sig)], [.box (.st 5), .p (.int .i64)], [(0, .box (.st 5))], [.p (.st 2)], [], [], s_tablefinderkit_Column, s_tablefinderkit_Column,
.lo 9410111 [0,4,5,6,15,16] [] [qe15, qe1, qe2, qe0, qe0, qe0] [qo16, qo28, qo25, qo20, qo20] 0 [4,5] [] [qe1, qe2] [qo16, qo28, qo25, qo20, qo20] s_tablefinderkit_Column_l1 s_tablefinderkit_Column_k2 (fun n0 => .j 911140115410111 [0,4,5,6,8,15,16] [] [qe15, qe1, qe2, qe0, qe22, qe0, qe0] [qo16, qo25, .box [.o (.v .str), .o (.full (0, 5, 1))], .boxS (.st 1), qo20, qo20] (s_tablefinderkit_Column_j1 (s_tablefinderkit_Column_l1 n0)) <|
.nil) <|
.nil⟩
theorem D18_ok : SigOk X0.E 92 D18.sig := D18.ok G0 Tryd.func92 ⟨D14_ok, D13_ok, D15_ok, D17_ok, S_s_strconv_Itoa_ok, trivial⟩ rfl rfl (by kernel_rfl)

/-! ### tablefinder/tablefinderkit.Table -/
noncomputable def D19 : FD U := ⟨56, Tryd.f56, [D14.sg, D13.sg, D18.sg], [.box (.st 5), .p (.int .i64)], [(0, .box (.st 5))], [.p (.st 3)], [], [], s_tablefinderkit_Table, s_tablefinderkit_Table,
.lo 9410111 [0,4,5,6,7] [] [qe15, qe1, qe2, qe0, qe0] qp6 0 [0,4,5] [] [qe15, qe1, qe2] qp6 s_tablefinderkit_Table_l1 s_tablefinderkit_Table_k1 (fun _ => .nil) <|
.j 911111 [4,5] [] [qe1, qe2] qp6 s_tablefinderkit_Table_j2 <|
.nil⟩
theorem D19_ok : SigOk X0.E 56 D19.sig := D19.ok G0 Tryd.func56 ⟨D14_ok, D13_ok, D18_ok, trivial⟩ rfl rfl (by kernel_rfl)

/-! ### tablefinder/tablefinderkit.Op -/
noncomputable def D20 : FD U := ⟨94, Tryd.f94, [D13.sg, D14.sg], [.box (.st 5), .p (.st 3)], [(0, .box (.st 5))], [.p (.st 6)], [], [], s_tablefinderkit_Op, s_tablefinderkit_Op,
.j 911121410111 [0,3,4,5,44] [] [qe15, qe1, qe2, qe22, qe6] [qo16, qo9, qo8, .box [.o (.v (.int .i64)), .o (.v (.int .i64)), .o (.v .str), .o (.full (0, 5, 1))], qo7, qo7] s_tablefinderkit_Op_j1 <|
.j 9131410111 [0,4,5,6,16,66] [] [qe15, qe1, qe2, qe0, qe0, qe6] qp1 s_tablefinderkit_Op_j2 <|
.lo 941213131410111 [0,4,5,6,7] [] [qe15, qe1, qe2, qe0, qe0] qp1 1 [4,5] [] [qe1, qe2] qp1 s_tablefinderkit_Op_l1 s_tablefinderkit_Op_k4 (fun n0 => .j 910541213131410111 [0,4,5,6,7,83] [] [qe15, qe1, qe2, qe0, qe0, qe6] qp1 (s_tablefinderkit_Op_j3 (s_tablefinderkit_Op_l1 n0)) <|
.nil) <|
.j 91111 [4,5] [] [qe1, qe2] qp1 s_tablefinderkit_Op_j5 <|
.j 911111 [4] [] [qe1] [qo16, .box [.o (.v (.int .i64)), .o (.v (.int .i64)), .o (.v .str), .o (.full (0, 2, 1))], qo7] s_tablefinderkit_Op_j6 <|
.nil⟩
theorem D20_ok : SigOk X0.E 94 D20.sig := D20.ok G0 Tryd.func94 ⟨D13_ok, D14_ok, trivial⟩ rfl rfl (by kernel_rfl)

/-! ### unicode/utf8.word[string] -/
noncomputable def D21 : FD U := ⟨180, Tryd.f180, [], [.p .str], [], [.p (.int .u64)], [], [], s_unicode_utf8_word_string, s_unicode_utf8_word_string,
.nil⟩
theorem D21_ok : SigOk X0.E 180 D21.sig := D21.ok G0 Tryd.func180 trivial rfl rfl (by kernel_rfl)

/-! ### unicode/utf8.ValidString -/
noncomputable def D22 : FD U := ⟨162, Tryd.f162, [D21.sg], [.p .str], [], [.p .bool], [], [], s_unicode_utf8_ValidString, s_unicode_utf8_ValidString,
.lr 9401 [0] [] [qe23] [] 0 [] [] [] [] s_unicode_utf8_ValidString_l1 s_unicode_utf8_ValidString_k9 (fun n0 => .j 91012101415401 [0,24] [] [qe23, qe6] [] (s_unicode_utf8_ValidString_j1 (s_unicode_utf8_ValidString_l1 n0)) <|
.j 91121012101415401 [0,39] [] [qe23, qe6] [] (s_unicode_utf8_ValidString_j2 (s_unicode_utf8_ValidString_l1 n0)) <|
.lo 94121121012101415401 [0] [] [qe23] [] 2 [0] [] [qe23] [] s_unicode_utf8_ValidString_l2 (s_unicode_utf8_ValidString_k4 (s_unicode_utf8_ValidString_l1 n0)) (fun n1 => .j 91054121121012101415401 [0,62] [] [qe23, qe6] [] (s_unicode_utf8_ValidString_j3 (s_unicode_utf8_ValidString_l2 n1)) <|
.nil) <|
.j 9112101415401 [0] [] [qe23] [] (s_unicode_utf8_ValidString_j5 (s_unicode_utf8_ValidString_l1 n0)) <|
.j 910214111111415401 [0,94] [] [qe23, qe6] [] (s_unicode_utf8_ValidString_j6 (s_unicode_utf8_ValidString_l1 n0)) <|
.j 91021314111111415401 [0,125] [] [qe23, qe6] [] (s_unicode_utf8_ValidString_j7 (s_unicode_utf8_ValidString_l1 n0)) <|
.j 9102131314111111415401 [0,166] [] [qe23, qe6] [] (s_unicode_utf8_ValidString_j8 (s_unicode_utf8_ValidString_l1 n0)) <|
.nil) <|
.nil⟩
theorem D22_ok : SigOk X0.E 162 D22.sig := D22.ok G0 Tryd.func162 ⟨D21_ok, trivial⟩ rfl rfl (by kernel_rfl)

/-! ### tablefinder/tablefinderref02.Valid -/
noncomputable def D23 : FD U := ⟨176, Tryd.f176, [D22.sg], [.p .str], [], [.p .bool], [], [], s_tablefinderref02_Valid, s_tablefinderref02_Valid,
.nil⟩
theorem D23_ok : SigOk X0.E 176 D23.sig := D23.ok G0 Tryd.func176 ⟨D22_ok, trivial⟩ rfl rfl (by kernel_rfl)

/-! ### tablefinder/tablefinderref03.name -/
noncomputable def D24 : FD U := ⟨155, Tryd.f155, [D23.sg], [.p .str], [], [.p .bool], [], [], s_tablefinderref03_name, s_tablefinderref03_name,
.j 911 [2] [] [qe6] [] s_tablefinderref03_name_j1 <|
.nil⟩
theorem D24_ok : SigOk X0.E 155 D24.sig := D24.ok G0 Tryd.func155 ⟨D23_ok, trivial⟩ rfl rfl (by kernel_rfl)

/-! ### tablefinder/tablefinderref03.ValidCell -/
noncomputable def D25 : FD U := ⟨156, Tryd.f156, [D23.sg], [.p (.st 1)], [], [.p .bool], [], [], s_tablefinderref03_ValidCell, s_tablefinderref03_ValidCell,
.j 911 [2] [] [qe6] [] s_tablefinderref03_ValidCell_j1 <|
.nil⟩
theorem D25_ok : SigOk X0.E 156 D25.sig := D25.ok G0 Tryd.func156 ⟨D23_ok, trivial⟩ rfl rfl (by kernel_rfl)

/-! ### tablefinder/tablefinderref03.Valid -/
noncomputable def D26 : FD U := ⟨132, Tryd.f132, [D24.sg, D25.sg], [.p (.st 3)], [], [.p .bool], [], [], s_tablefinderref03_Valid, s_tablefinderref03_Valid,
.j 9101 [1,26] [] [qe1, qe6] [qo9] s_tablefinderref03_Valid_j1 <|
.lr 941011 [1,28,29,30] [] [qe1, qe18, qe0, qe0] [qo9] 0 [] [] [] [] s_tablefinderref03_Valid_l1 s_tablefinderref03_Valid_k4 (fun n0 => .j 91014011541011 [1,4,28,29,30,55] [] [qe1, qe2, qe18, qe0, qe0, qe6] [qo9, qo30] (s_tablefinderref03_Valid_j2 (s_tablefinderref03_Valid_l1 n0)) <|
.lr 941114011541011 [1,28,29,30,57,58,59] [] [qe1, qe18, qe0, qe0, qe26, qe0, qe0] [qo9] 2 [1,28,29,30] [] [qe1, qe18, qe0, qe0] [qo9] s_tablefinderref03_Valid_l2 (s_tablefinderref03_Valid_k3 (s_tablefinderref03_Valid_l1 n0)) (fun _ => .nil) <|
.nil) <|
.nil⟩
theorem D26_ok : SigOk X0.E 132 D26.sig := D26.ok G0 Tryd.func132 ⟨D24_ok, D25_ok, trivial⟩ rfl rfl (by kernel_rfl)

/-! ### tablefinder/tablefinderref38.can -/
noncomputable def D27 : FD U := ⟨133, Tryd.f133, [], [.p (.st 3), .p (.st 6)], [], [.p .bool], [], [], s_tablefinderref38_can, s_tablefinderref38_can,
.j 911 [2,3,5] [] qs8 [qo9, qo21] s_tablefinderref38_can_j1 <|
.j 912141011 [4] [] [qe6] [] s_tablefinderref38_can_j2 <|
.j 913141011 [2,3,5,20,36] [] [qe1, qe2, qe6, qe0, qe6] [qo9, qo21] s_tablefinderref38_can_j3 <|
.j 91213141011 [4] [] [qe6] [] s_tablefinderref38_can_j4 <|
.lr 941021313141011 [2,3,54,55,56] [] [qe1, qe2, qe10, qe0, qe0] [qo9, qo21] 1 [3] [] [qe1] [qo21] s_tablefinderref38_can_l1 s_tablefinderref38_can_k6 (fun n0 => .j 9114011541021313141011 [2,3,54,55,56,68] [] [qe1, qe2, qe10, qe0, qe0, qe6] [qo9, qo21] (s_tablefinderref38_can_j5 (s_tablefinderref38_can_l1 n0)) <|
.nil) <|
.j 91121313141011 [4] [] [qe6] [] s_tablefinderref38_can_j7 <|
.j 91111 [4] [] [qe6] [] s_tablefinderref38_can_j8 <|
.nil⟩
theorem D27_ok : SigOk X0.E 133 D27.sig := D27.ok G0 Tryd.func133 trivial rfl rfl (by kernel_rfl)

/-! ### tablefinder/tablefinderref03.Project -/
noncomputable def D28 : FD U := ⟨157, Tryd.f157, [D26.sg], [.p (.st 3), .p (.sl (.int .i64))], [], [.p (.st 3), .p (.int .i64)], [], [], s_tablefinderref03_Project, s_tablefinderref03_Project,
.lr 9410111 [1,2,4,6,18,19,20] [] [qe10, qe1, qe2, qe22, qe10, qe0, qe0] qp7 0 [1,4,6] [] [qe10, qe1, qe2] qp3 s_tablefinderref03_Project_l1 s_tablefinderref03_Project_k2 (fun n0 => .j 910140115410111 [1,2,4,6,8,18,19,20,32] [] [qe10, qe1, qe2, qe22, qe0, qe10, qe0, qe0, qe6] qp7 (s_tablefinderref03_Project_j1 (s_tablefinderref03_Project_l1 n0)) <|
.nil) <|
.nil⟩
theorem D28_ok : SigOk X0.E 157 D28.sig := D28.ok G0 Tryd.func157 ⟨D26_ok, trivial⟩ rfl rfl (by kernel_rfl)

/-! ### tablefinder/tablefinderref03.Rows -/
noncomputable def D29 : FD U := ⟨177, Tryd.f177, [], [.p (.st 3)], [], [.p (.int .i64)], [], [], s_tablefinderref03_Rows, s_tablefinderref03_Rows,
.nil⟩
theorem D29_ok : SigOk X0.E 177 D29.sig := D29.ok G0 Tryd.func177 trivial rfl rfl (by kernel_rfl)

/-! ### tablefinder/tablefinderref38.equal -/
noncomputable def D30 : FD U := ⟨178, Tryd.f178, [], [.p (.st 3), .p (.int .i64), .p (.int .i64)], [], [.p .bool], [], [], s_tablefinderref38_equal, s_tablefinderref38_equal,
.lr 94101 [1,2,10,11,12] [] [qe0, qe0, qe18, qe0, qe0] [] 0 [] [] [] [] s_tablefinderref38_equal_l1 s_tablefinderref38_equal_k1 (fun _ => .nil) <|
.nil⟩
theorem D30_ok : SigOk X0.E 178 D30.sig := D30.ok G0 Tryd.func178 trivial rfl rfl (by kernel_rfl)

/-! ### tablefinder/tablefinderref03.CompareCells -/
noncomputable def D31 : FD U := ⟨179, Tryd.f179, [], [.p (.st 1), .p (.st 1)], [], [.p (.int .i64)], [], [], s_tablefinderref03_CompareCells, s_tablefinderref03_CompareCells,
.j 91401 [2,3,5] [] qs8 [.boxS (.st 1), .boxS (.st 1)] s_tablefinderref03_CompareCells_j1 <|
.nil⟩
theorem D31_ok : SigOk X0.E 179 D31.sig := D31.ok G0 Tryd.func179 trivial rfl rfl (by kernel_rfl)

/-! ### tablefinder/tablefinderref38.rows -/
noncomputable def D32 : FD U := ⟨159, Tryd.f159, [D29.sg, D30.sg, D31.sg], [.p (.st 3), .p (.st 6)], [], [.own (.int .i64)], [], [], s_tablefinderref38_rows, s_tablefinderref38_rows,
.lo 941011 [2,3,5,14,15] [] [qe1, qe2, qe14, qe0, qe0] qp0 0 [5] [] [qe13] [qo7] s_tablefinderref38_rows_l1 s_tablefinderref38_rows_k8 (fun n0 => .lo 941213131410114011541011 [2,3,5,6,7,8,14,15,60,61,62] [] qs4 qp0 3 [2,3,5,6,7,8,14,15] [] qs2 qp0 s_tablefinderref38_rows_l2 (s_tablefinderref38_rows_k2 (s_tablefinderref38_rows_l1 n0)) (fun n1 => .j 9111541213131410114011541011 [2,3,5,6,7,8,14,15,60,61,62] [] qs4 qp0 (s_tablefinderref38_rows_j1 (s_tablefinderref38_rows_l2 n1)) <|
.nil) <|
.lo 94121313131410114011541011 [2,3,5,6,7,8,12,14,15] [] [qe1, qe2, qe14, qe0, qe0, qe6, qe26, qe0, qe0] qp0 5 [2,3,5,6,7,8,14,15] [] qs2 qp0 s_tablefinderref38_rows_l3 (s_tablefinderref38_rows_k4 (s_tablefinderref38_rows_l1 n0)) (fun n1 => .j 91054121313131410114011541011 [2,3,5,6,7,8,12,14,15,101] [] [qe1, qe2, qe14, qe0, qe0, qe6, qe26, qe0, qe0, qe6] qp0 (s_tablefinderref38_rows_j3 (s_tablefinderref38_rows_l3 n1)) <|
.nil) <|
.j 91114011541011 [2,3,5,6,7,8,14,15] [] qs2 qp0 (s_tablefinderref38_rows_j5 (s_tablefinderref38_rows_l1 n0)) <|
.j 911114011541011 [2,3,5,6,7,14,15,104] [] [qe1, qe2, qe14, qe0, qe0, qe0, qe0, qe6] qp0 (s_tablefinderref38_rows_j6 (s_tablefinderref38_rows_l1 n0)) <|
.j 9111541011 [2,3,5,14,15] [] [qe1, qe2, qe14, qe0, qe0] qp0 (s_tablefinderref38_rows_j7 (s_tablefinderref38_rows_l1 n0)) <|
.nil) <|
.nil⟩
theorem D32_ok : SigOk X0.E 159 D32.sig := D32.ok G0 Tryd.func159 ⟨D29_ok, D30_ok, D31_ok, trivial⟩ rfl rfl (by kernel_rfl)

/-! ### tablefinder/tablefinderref03.Select -/
noncomputable def D33 : FD U := ⟨158, Tryd.f158, [D26.sg, D29.sg], [.p (.st 3), .p (.sl (.int .i64))], [], [.p (.st 3), .p (.int .i64)], [], [], s_tablefinderref03_Select, s_tablefinderref03_Select,
.lr 941011 [1,2,4,18,19,20] [] [qe10, qe1, qe2, qe10, qe0, qe0] qp9 0 [1,2,4] [] [qe10, qe1, qe2] qp9 s_tablefinderref03_Select_l1 s_tablefinderref03_Select_k2 (fun n0 => .j 9114011541011 [1,2,4,18,19,20,31] [] [qe10, qe1, qe2, qe10, qe0, qe0, qe6] qp9 (s_tablefinderref03_Select_j1 (s_tablefinderref03_Select_l1 n0)) <|
.nil) <|
.lo 941011111 [1,4,8,44,45,46] [] [qe10, qe1, qe2, qe18, qe0, qe0] qp3 2 [4,8] [] [qe1, qe2] qp3 s_tablefinderref03_Select_l2 s_tablefinderref03_Select_k4 (fun n0 => .lo 9410114011541011111 [1,4,8,10,11,44,45,46,53,54,55] [] [qe10, qe1, qe2, qe22, .o (.ptr (0, 4, 1) 0 0), qe18, qe0, qe0, qe10, qe0, qe0] [qo12, qo24, qo30, qo29, qo5, qo5, qo20] 4 [1,4,8,11,44,45,46] [] [qe10, qe1, qe2, qe22, qe18, qe0, qe0] [qo4, qo12, .box [.o (.v .str), .o (.full (0, 6, 1))], qo5, qo5, qo20] s_tablefinderref03_Select_l3 (s_tablefinderref03_Select_k3 (s_tablefinderref03_Select_l2 n0)) (fun _ => .nil) <|
.nil) <|
.nil⟩
theorem D33_ok : SigOk X0.E 158 D33.sig := D33.ok G0 Tryd.func158 ⟨D26_ok, D29_ok, trivial⟩ rfl rfl (by kernel_rfl)

/-! ### tablefinder/tablefinderref38.do -/
noncomputable def D34 : FD U := ⟨134, Tryd.f134, [D28.sg, D32.sg, D33.sg], [.p (.st 3), .p (.st 6)], [], [.p (.st 3)], [], [], s_tablefinderref38_do, s_tablefinderref38_do,
.nil⟩
theorem D34_ok : SigOk X0.E 134 D34.sig := D34.ok G0 Tryd.func134 ⟨D28_ok, D32_ok, D33_ok, trivial⟩ rfl rfl (by kernel_rfl)

/-! ### tablefinder/tablefinderref38.Copy -/
noncomputable def D35 : FD U := ⟨95, Tryd.f95, [], [.p (.st 3)], [], [.p (.st 3)], [], [], s_tablefinderref38_Copy, s_tablefinderref38_Copy,
.lo 941011 [2,3,12,13,14] [] [qe1, qe2, qe18, qe0, qe0] qp3 0 [2,3] [] [qe1, qe2] qp3 s_tablefinderref38_Copy_l1 s_tablefinderref38_Copy_k1 (fun _ => .nil) <|
.nil⟩
theorem D35_ok : SigOk X0.E 95 D35.sig := D35.ok G0 Tryd.func95 trivial rfl rfl (by kernel_rfl)

/-! ### tablefinder/tablefinderref38.Run -/
noncomputable def D36 : FD U := ⟨93, Tryd.f93, [D26.sg, D27.sg, D34.sg, D35.sg], [.p (.st 3), .p (.sl (.st 6))], [], [.p (.st 3), .p (.int .i64)], [], [], s_tablefinderref38_Run, s_tablefinderref38_Run,
.lr 941011 [2,4,18,19,20] [] [qe1, qe2, .o (.v (.sl (.st 6))), qe0, qe0] qp9 1 [2,4] [] [qe1, qe2] qp9 s_tablefinderref38_Run_l1 s_tablefinderref38_Run_k1 (fun _ => .nil) <|
.nil⟩
theorem D36_ok : SigOk X0.E 93 D36.sig := D36.ok G0 Tryd.func93 ⟨D26_ok, D27_ok, D34_ok, D35_ok, trivial⟩ rfl rfl (by kernel_rfl)

/-! ### tablefinder/tablefinderkit.Derived -/
noncomputable def D37 : FD U := ⟨57, Tryd.f57, [D13.sg, D20.sg, D36.sg, D35.sg], [.box (.st 5), .p (.st 3), .p (.int .i64)], [(0, .box (.st 5))], [.p (.st 3)], [], [], s_tablefinderkit_Derived, s_tablefinderkit_Derived,
.lo 94101 [0,2,4,6,7] [] [qe15, qe0, qe1, qe2, qe0] [qo16, qo9, qo3, qo5] 0 [2,4,6] [] [qe0, qe1, qe2] [qo16, qo9, qo3, qo5] s_tablefinderkit_Derived_l1 s_tablefinderkit_Derived_k2 (fun n0 => .j 91154101 [0,2,4,6,7] [] [qe15, qe0, qe1, qe2, qe0] [qo16, qo9, qo3, qo5] (s_tablefinderkit_Derived_j1 (s_tablefinderkit_Derived_l1 n0)) <|
.nil) <|
.nil⟩
theorem D37_ok : SigOk X0.E 57 D37.sig := D37.ok G0 Tryd.func57 ⟨D13_ok, D20_ok, D36_ok, D35_ok, trivial⟩ rfl rfl (by kernel_rfl)

/-! ### tablefinder/tablefinderkit.Tables -/
noncomputable def D38 : FD U := ⟨22, Tryd.f22, [D13.sg, D19.sg, D37.sg], [.box (.st 5), .p (.int .i64)], [(0, .box (.st 5))], [.own (.st 3)], [], [], s_tablefinderkit_Tables, s_tablefinderkit_Tables,
.lo 9410111 [0,5,6,7] [] [qe15, qe13, qe0, qe0] [qo16, qo17] 0 [5] [] [qe13] [qo16, qo17] s_tablefinderkit_Tables_l1 s_tablefinderkit_Tables_k3 (fun n0 => .j 910114015410111 [0,5,6,7,8,34] [] [qe15, qe13, qe0, qe0, qe2, qe6] [qo16, qo17, qo9] (s_tablefinderkit_Tables_j1 (s_tablefinderkit_Tables_l1 n0)) <|
.j 91114015410111 [0,5,6,7,8] [] [qe15, qe13, qe0, qe0, qe2] [qo16, qo17, qo9] (s_tablefinderkit_Tables_j2 (s_tablefinderkit_Tables_l1 n0)) <|
.nil) <|
.nil⟩
theorem D38_ok : SigOk X0.E 22 D38.sig := D38.ok G0 Tryd.func22 ⟨D13_ok, D19_ok, D37_ok, trivial⟩ rfl rfl (by kernel_rfl)

/-! ### tablefinder/tablefinderref03.SameCells -/
noncomputable def D39 : FD U := ⟨96, Tryd.f96, [], [.p (.st 2), .p (.st 2)], [], [.p .bool], [], [], s_tablefinderref03_SameCells, s_tablefinderref03_SameCells,
.j 9101 [2,3,19] [] qs8 [qo30, qo30] s_tablefinderref03_SameCells_j1 <|
.lr 941011 [2,3,22,23] [] [qe1, qe2, qe0, qe0] [qo30, qo30] 0 [] [] [] [] s_tablefinderref03_SameCells_l1 s_tablefinderref03_SameCells_k2 (fun _ => .nil) <|
.nil⟩
theorem D39_ok : SigOk X0.E 96 D39.sig := D39.ok G0 Tryd.func96 trivial rfl rfl (by kernel_rfl)

/-! ### tablefinder/tablefinderref03.Same -/
noncomputable def D40 : FD U := ⟨58, Tryd.f58, [D39.sg], [.p (.st 3), .p (.st 3)], [], [.p .bool], [], [], s_tablefinderref03_Same, s_tablefinderref03_Same,
.j 9101 [2,3,26] [] qs8 [qo9, qo9] s_tablefinderref03_Same_j1 <|
.lr 941011 [2,3,29,30] [] [qe1, qe2, qe0, qe0] [qo9, qo9] 0 [] [] [] [] s_tablefinderref03_Same_l1 s_tablefinderref03_Same_k2 (fun _ => .nil) <|
.nil⟩
theorem D40_ok : SigOk X0.E 58 D40.sig := D40.ok G0 Tryd.func58 ⟨D39_ok, trivial⟩ rfl rfl (by kernel_rfl)

/-! ### tablefinder/tablefinderlaw42.same -/
noncomputable def D41 : FD U := ⟨23, Tryd.f23, [D40.sg], [.p (.sl (.st 3)), .p (.sl (.st 3))], [], [.p .bool], [], [], s_tablefinderlaw42_same, s_tablefinderlaw42_same,
.lr 941011 [1,12,13,14] [] [qe27, qe27, qe0, qe0] [] 0 [] [] [] [] s_tablefinderlaw42_same_l1 s_tablefinderlaw42_same_k1 (fun _ => .nil) <|
.nil⟩
theorem D41_ok : SigOk X0.E 23 D41.sig := D41.ok G0 Tryd.func23 ⟨D40_ok, trivial⟩ rfl rfl (by kernel_rfl)

/-! ### tablefinder/tablefinderlaw42.AccessAll -/
noncomputable def D42 : FD U := ⟨5, Tryd.f5, [D0.sg, D10.sg, D11.sg, D38.sg, D8.sg, D41.sg], [.p (.sl (.int .i64)), .p (.sl (.st 0))], [], [.p .bool], [52], [], s_tablefinderlaw42_AccessAll, s_tablefinderlaw42_AccessAll,
.j 9101 [0,1,19] [] [qe10, qe19, qe6] [] s_tablefinderlaw42_AccessAll_j1 <|
.lo 9410111111 [6,7,8,34,35,36] [] [qe13, qe31, qe14, qe13, qe0, qe0] qp5 0 [6,7,8] [] [qe13, qe31, qe14] qp5 s_tablefinderlaw42_AccessAll_l1 s_tablefinderlaw42_AccessAll_k3 (fun n0 => .j 91115410111111 [6,7,8,34,35,36] [] [qe13, qe31, qe14, qe13, qe0, qe0] qp5 (s_tablefinderlaw42_AccessAll_j2 (s_tablefinderlaw42_AccessAll_l1 n0)) <|
.nil) <|
.j 9111111111 [4] [] [qe6] [] s_tablefinderlaw42_AccessAll_j4 <|
.nil⟩
theorem D42_ok : SigOk X0.E 5 D42.sig := D42.ok G0 Tryd.func5 ⟨D0_ok, D10_ok, D11_ok, D38_ok, D8_ok, D41_ok, trivial⟩ rfl rfl (by kernel_rfl)

end
end Go.Proofs
