/- Printed by wip/tools/tgen.py: walks. -/
import Derived.Test.YtahbkngofdpehaaGreatDoorTtU
import Derived.Test.YtahbkngofdpehaaGreatDoorTtX
set_option linter.unusedVariables false
set_option linter.unusedSimpArgs false
set_option linter.unusedSectionVars false
namespace Go.Proofs
open Go Eng
set_option maxRecDepth 100000

noncomputable section
abbrev qe0 : Sh := .o (.v (.int .i64))
abbrev qe1 : Sh := .o (.ptr (0, 1, 1) 0 0)
abbrev qe2 : Sh := .o (.ptr (0, 2, 1) 0 0)
abbrev qo3 : ShO := .box [.o (.v (.int .i64)), .o (.v .str), .o (.full (0, 4, 1))]
abbrev qo4 : ShO := .box [.o (.v (.int .i64)), .o (.v .str), .o (.full (0, 3, 1))]
abbrev qe5 : Sh := .o (.v .bool)
abbrev qe6 : Sh := .o (.v (.sl (.int .i64)))
abbrev qo7 : ShO := .arr (.st 1) false
abbrev qo8 : ShO := .boxS (.st 2)
abbrev qe9 : Sh := .o (.full (0, 1, 1))
abbrev qe10 : Sh := .o (.v (.sl (.st 2)))
abbrev qo11 : ShO := .arr (.int .u8) false
abbrev qo12 : ShO := .arr (.int .i64) false
abbrev qo13 : ShO := .boxS (.st 0)
abbrev qe14 : Sh := .o (.full (0, 3, 1))
abbrev qo15 : ShO := .arr (.st 0) false
abbrev qe16 : Sh := .o (.v (.sl (.st 1)))
abbrev qo17 : ShO := .box [.o (.v .str), .o (.full (0, 4, 1))]
abbrev qe18 : Sh := .o (.v (.int .i32))
abbrev qo19 : ShO := .arr (.st 2) false
abbrev qe20 : Sh := .o (.v (.int .u8))
abbrev qo21 : ShO := .box [.o (.v (.int .i64)), .o (.v .str), .o (.full (0, 5, 1))]
abbrev qe22 : Sh := .fn 74 [] [.pp (.st 2)]
abbrev qo23 : ShO := .box [.o (.v .str), .o (.full (0, 3, 1))]
abbrev qe24 : Sh := .o (.v .str)
abbrev qe25 : Sh := .o (.ptr (0, 4, 1) 0 0)
abbrev qe26 : Sh := .o (.full (0, 0, 0))
abbrev qo27 : ShO := .arr (.st 5) false
abbrev qe28 : Sh := .o (.ptr (0, 3, 1) 0 0)
abbrev qe29 : Sh := .o (.v (.sl (.st 0)))
abbrev qo30 : ShO := .box [.o (.v (.int .i64)), .o (.v .str), .o (.full (0, 2, 1))]
abbrev qe31 : Sh := .o (.ptr (0, 0, 0) 0 0)
abbrev qo32 : ShO := .boxS (.st 4)
abbrev qe33 : Sh := .o (.ptr (0, 5, 1) 0 0)
abbrev qo34 : ShO := .map .str (.int .i64)
abbrev qo35 : ShO := .box [.o (.v .str), .o (.full (0, 5, 1))]
abbrev qe36 : Sh := .o (.full (0, 6, 1))
abbrev qo37 : ShO := .boxS (.st 1)
abbrev qe38 : Sh := .o (.map (0, 2, 1))
abbrev qp0 : List ShO := [qo4, qo3, qo7, qo7]
abbrev qp1 : List ShO := [qo8, qo3, qo12, qo7]
abbrev qp2 : List ShO := [qo13, qo13, qo19, qo8, qo8, qo19, .arr (.sl (.int .i64)) false]
abbrev qs3 : List Sh := [qe1, qe2, qe0, qe0, qe0, qe0]
abbrev qs4 : List Sh := [qe9, qe10, qe0, qe0]
abbrev qs5 : List Sh := [qe1, qe2]
abbrev qp6 : List ShO := [qo8, qo8]
abbrev qs7 : List Sh := [qe1, qe2, qe14, qe0, qe0]
abbrev qs8 : List Sh := [qe24, qe5]
abbrev qs9 : List Sh := [qe1, qe2, qe5]

/-! ### tablefinder/table.Rows -/
noncomputable def D0 : FD U := ⟨20, Tryz.f20, [], [.p (.st 2)], [], [.p (.int .i64)], [], [], s_table_Rows, s_table_Rows,
.nil⟩
theorem D0_ok : SigOk X0.E 20 D0.sig := D0.ok G0 Tryz.func20 trivial rfl rfl (by kernel_rfl)

/-! ### unicode/utf8.word[string] -/
noncomputable def D1 : FD U := ⟨153, Tryz.f153, [], [.p .str], [], [.p (.int .u64)], [], [], s_unicode_utf8_word_string, s_unicode_utf8_word_string,
.nil⟩
theorem D1_ok : SigOk X0.E 153 D1.sig := D1.ok G0 Tryz.func153 trivial rfl rfl (by kernel_rfl)

/-! ### unicode/utf8.ValidString -/
noncomputable def D2 : FD U := ⟨128, Tryz.f128, [D1.sg], [.p .str], [], [.p .bool], [], [], s_unicode_utf8_ValidString, s_unicode_utf8_ValidString,
.lr 9401 [0] [] [qe24] [] 0 [] [] [] [] s_unicode_utf8_ValidString_l1 s_unicode_utf8_ValidString_k9 (fun n0 => .j 91012101415401 [0,24] [] qs8 [] (s_unicode_utf8_ValidString_j1 (s_unicode_utf8_ValidString_l1 n0)) <|
.j 91121012101415401 [0,39] [] qs8 [] (s_unicode_utf8_ValidString_j2 (s_unicode_utf8_ValidString_l1 n0)) <|
.lo 94121121012101415401 [0] [] [qe24] [] 2 [0] [] [qe24] [] s_unicode_utf8_ValidString_l2 (s_unicode_utf8_ValidString_k4 (s_unicode_utf8_ValidString_l1 n0)) (fun n1 => .j 91054121121012101415401 [0,62] [] qs8 [] (s_unicode_utf8_ValidString_j3 (s_unicode_utf8_ValidString_l2 n1)) <|
.nil) <|
.j 9112101415401 [0] [] [qe24] [] (s_unicode_utf8_ValidString_j5 (s_unicode_utf8_ValidString_l1 n0)) <|
.j 910214111111415401 [0,94] [] qs8 [] (s_unicode_utf8_ValidString_j6 (s_unicode_utf8_ValidString_l1 n0)) <|
.j 91021314111111415401 [0,125] [] qs8 [] (s_unicode_utf8_ValidString_j7 (s_unicode_utf8_ValidString_l1 n0)) <|
.j 9102131314111111415401 [0,166] [] qs8 [] (s_unicode_utf8_ValidString_j8 (s_unicode_utf8_ValidString_l1 n0)) <|
.nil) <|
.nil⟩
theorem D2_ok : SigOk X0.E 128 D2.sig := D2.ok G0 Tryz.func128 ⟨D1_ok, trivial⟩ rfl rfl (by kernel_rfl)

/-! ### tablefinder/text.Valid -/
noncomputable def D3 : FD U := ⟨116, Tryz.f116, [D2.sg], [.p .str], [], [.p .bool], [], [], s_text_Valid, s_text_Valid,
.nil⟩
theorem D3_ok : SigOk X0.E 116 D3.sig := D3.ok G0 Tryz.func116 ⟨D2_ok, trivial⟩ rfl rfl (by kernel_rfl)

/-! ### tablefinder/table.fine -/
noncomputable def D4 : FD U := ⟨63, Tryz.f63, [D3.sg], [.p .str], [], [.p .bool], [], [], s_table_fine, s_table_fine,
.j 911 [2] [] [qe5] [] s_table_fine_j1 <|
.nil⟩
theorem D4_ok : SigOk X0.E 63 D4.sig := D4.ok G0 Tryz.func63 ⟨D3_ok, trivial⟩ rfl rfl (by kernel_rfl)

/-! ### tablefinder/table.ValidCell -/
noncomputable def D5 : FD U := ⟨47, Tryz.f47, [D4.sg], [.p (.st 0)], [], [.p .bool], [], [], s_table_ValidCell, s_table_ValidCell,
.j 911 [2] [] [qe5] [] s_table_ValidCell_j1 <|
.nil⟩
theorem D5_ok : SigOk X0.E 47 D5.sig := D5.ok G0 Tryz.func47 ⟨D4_ok, trivial⟩ rfl rfl (by kernel_rfl)

/-! ### tablefinder/table.every[tablefinder/api.Cell] -/
noncomputable def D6 : FD U := ⟨66, Tryz.f66, [D5.sg], [.p (.sl (.st 0)), .fn 47 [] []], [], [.p .bool], [], [], s_table_every_api_Cell, s_table_every_api_Cell,
.lr 94101 [1,7,8,9] [] [.fn 47 [] [], qe29, qe0, qe0] [] 0 [] [] [] [] s_table_every_api_Cell_l1 s_table_every_api_Cell_k1 (fun _ => .nil) <|
.nil⟩
theorem D6_ok : SigOk X0.E 66 D6.sig := D6.ok G0 Tryz.func66 ⟨D5_ok, trivial⟩ rfl rfl (by kernel_rfl)

/-! ### tablefinder/table.Valid$1 -/
noncomputable def D7 : FD U := ⟨65, Tryz.f65, [D4.sg, D0.sg, D6.sg], [.p (.st 1), .ptr (.st 2)], [], [.p .bool], [], [], s_table_Valid_1, s_table_Valid_1,
.j 911 [3] [] [qe5] [] s_table_Valid_1_j1 <|
.nil⟩
theorem D7_ok : SigOk X0.E 65 D7.sig := D7.ok G0 Tryz.func65 ⟨D4_ok, D0_ok, D6_ok, trivial⟩ rfl rfl (by kernel_rfl)

/-! ### slices.IndexFunc[[]tablefinder/api.Column,tablefinder/api.Column] -/
noncomputable def D8 : FD U := ⟨117, Tryz.f117, [D7.sg], [.p (.sl (.st 1)), .fn 65 [] [.pp (.st 2)]], [], [.p (.int .i64)], [], [], s_slices_IndexFunc_api_Column_api_Column, s_slices_IndexFunc_api_Column_api_Column,
.lr 94101 [0,1,7,8] [] [qe16, .fn 65 [] [.pp (.st 2)], qe0, qe0] [] 0 [] [] [] [] s_slices_IndexFunc_api_Column_api_Column_l1 s_slices_IndexFunc_api_Column_api_Column_k1 (fun _ => .nil) <|
.nil⟩
theorem D8_ok : SigOk X0.E 117 D8.sig := D8.ok G0 Tryz.func117 ⟨D7_ok, trivial⟩ rfl rfl (by kernel_rfl)

/-! ### slices.ContainsFunc[[]tablefinder/api.Column,tablefinder/api.Column] -/
noncomputable def D9 : FD U := ⟨64, Tryz.f64, [D8.sg], [.p (.sl (.st 1)), .fn 65 [] [.pp (.st 2)]], [], [.p .bool], [], [], s_slices_ContainsFunc_api_Column_api_Column, s_slices_ContainsFunc_api_Column_api_Column,
.nil⟩
theorem D9_ok : SigOk X0.E 64 D9.sig := D9.ok G0 Tryz.func64 ⟨D8_ok, trivial⟩ rfl rfl (by kernel_rfl)

/-! ### tablefinder/table.Valid -/
noncomputable def D10 : FD U := ⟨18, Tryz.f18, [D4.sg, D0.sg, D9.sg], [.p (.st 2)], [], [.p .bool], [], [], s_table_Valid, s_table_Valid,
.j 9101 [1,27] [] [qe1, qe5] [qo8] s_table_Valid_j1 <|
.nil⟩
theorem D10_ok : SigOk X0.E 18 D10.sig := D10.ok G0 Tryz.func18 ⟨D4_ok, D0_ok, D9_ok, trivial⟩ rfl rfl (by kernel_rfl)

/-! ### cmp.isNaN[string] -/
noncomputable def D11 : FD U := ⟨127, Tryz.f127, [], [.p .str], [], [.p .bool], [], [], s_cmp_isNaN_string, s_cmp_isNaN_string,
.nil⟩
theorem D11_ok : SigOk X0.E 127 D11.sig := D11.ok G0 Tryz.func127 trivial rfl rfl (by kernel_rfl)

/-! ### cmp.Compare[string] -/
noncomputable def D12 : FD U := ⟨87, Tryz.f87, [D11.sg], [.p .str, .p .str], [], [.p (.int .i64)], [], [], s_cmp_Compare_string, s_cmp_Compare_string,
.nil⟩
theorem D12_ok : SigOk X0.E 87 D12.sig := D12.ok G0 Tryz.func87 ⟨D11_ok, trivial⟩ rfl rfl (by kernel_rfl)

/-! ### tablefinder/table.CompareCells -/
noncomputable def D13 : FD U := ⟨45, Tryz.f45, [D12.sg], [.p (.st 0), .p (.st 0)], [], [.p (.int .i64)], [], [], s_table_CompareCells, s_table_CompareCells,
.j 91401 [2,3,5] [] qs9 [qo13, qo13] s_table_CompareCells_j1 <|
.nil⟩
theorem D13_ok : SigOk X0.E 45 D13.sig := D13.ok G0 Tryz.func45 ⟨D12_ok, trivial⟩ rfl rfl (by kernel_rfl)

/-! ### tablefinder/table.Sort$1 -/
noncomputable def D14 : FD U := ⟨74, Tryz.f74, [D13.sg], [.p (.int .i64), .p (.int .i64), .ptr (.st 2)], [], [.p (.int .i64)], [], [], s_table_Sort_1, s_table_Sort_1,
.lr 94101 [0,1,10,11,12] [] [qe0, qe0, qe16, qe0, qe0] [] 0 [] [] [] [] s_table_Sort_1_l1 s_table_Sort_1_k1 (fun _ => .nil) <|
.nil⟩
theorem D14_ok : SigOk X0.E 74 D14.sig := D14.ok G0 Tryz.func74 ⟨D13_ok, trivial⟩ rfl rfl (by kernel_rfl)

/-! ### slices.insertionSortCmpFunc[int] -/
noncomputable def D15 : FD U := ⟨149, Tryz.f149, [D14.sg], [.arr (.int .i64), .p (.int .i64), .p (.int .i64), .fn 74 [] [.pp (.st 2)]], [(0, .arr (.int .i64))], [], [], [], s_slices_insertionSortCmpFunc_int, s_slices_insertionSortCmpFunc_int_w,
.lo 941 [0,1,2,3,8] [] [qe26, qe0, qe0, qe22, qe0] [qo12] 0 [] [] [] [qo12] s_slices_insertionSortCmpFunc_int_l1 s_slices_insertionSortCmpFunc_int_k3 (fun n0 => .lo 941401541 [0,1,2,3,8,9] [] [qe26, qe0, qe0, qe22, qe0, qe0] [qo12] 2 [0,1,2,3,8] [] [qe26, qe0, qe0, qe22, qe0] [qo12] s_slices_insertionSortCmpFunc_int_l2 (s_slices_insertionSortCmpFunc_int_k2 (s_slices_insertionSortCmpFunc_int_l1 n0)) (fun n1 => .j 910541401541 [0,1,2,3,8,9,34] [] [qe26, qe0, qe0, qe22, qe0, qe0, qe5] [qo12] (s_slices_insertionSortCmpFunc_int_j1 (s_slices_insertionSortCmpFunc_int_l2 n1)) <|
.nil) <|
.nil) <|
.nil⟩
theorem D15_ok : SigOk X0.E 149 D15.sig := D15.okA G0 Tryz.func149 ⟨D14_ok, trivial⟩ (by kernel_rfl) (by kernel_rfl)

/-! ### slices.stableCmpFunc[int] -/
noncomputable def D19 : FD U := ⟨121, Tryz.f121, [D15.sg], [.arr (.int .i64), .p (.int .i64), .fn 74 [] [.pp (.st 2)]], [(0, .arr (.int .i64))], [], [], [], s_slices_stableCmpFunc_int, s_slices_stableCmpFunc_int_w,
.lo 94011 [0,1,2,6,7,8] [] [qe26, qe0, qe22, qe0, qe0, qe0] [qo12] 0 [0,1,2,6,7] [] [qe26, qe0, qe22, qe0, qe0] [qo12] s_slices_stableCmpFunc_int_l1 s_slices_stableCmpFunc_int_k1 (fun _ => .nil) <|
.lo 941111 [0,1,2,6] [] [qe26, qe0, qe22, qe0] [qo12] 2 [] [] [] [qo12] s_slices_stableCmpFunc_int_l2 s_slices_stableCmpFunc_int_k3 (fun n0 => .lo 940141541111 [0,1,2,6,7,8] [] [qe26, qe0, qe22, qe0, qe0, qe0] [qo12] 4 [0,1,2,6,7] [] [qe26, qe0, qe22, qe0, qe0] [qo12] s_slices_stableCmpFunc_int_l3 (s_slices_stableCmpFunc_int_k2 (s_slices_stableCmpFunc_int_l2 n0)) (fun _ => .nil) <|
.nil) <|
.nil⟩
theorem D19_ok : SigOk X0.E 121 D19.sig := D19.okA G0 Tryz.func121 ⟨D15_ok, trivial⟩ (by kernel_rfl) (by kernel_rfl)

/-! ### slices.SortStableFunc[[]int,int] -/
noncomputable def D20 : FD U := ⟨73, Tryz.f73, [D19.sg], [.arr (.int .i64), .fn 74 [] [.pp (.st 2)]], [(0, .arr (.int .i64))], [], [], [], s_slices_SortStableFunc_int_int, s_slices_SortStableFunc_int_int_w,
.nil⟩
theorem D20_ok : SigOk X0.E 73 D20.sig := D20.okA G0 Tryz.func73 ⟨D19_ok, trivial⟩ (by kernel_rfl) (by kernel_rfl)

/-! ### tablefinder/table.within$1 -/
noncomputable def D21 : FD U := ⟨119, Tryz.f119, [], [.p (.int .i64), .ptr (.int .i64)], [], [.p .bool], [], [], s_table_within_1, s_table_within_1,
.j 911 [3] [] [qe5] [] s_table_within_1_j1 <|
.nil⟩
theorem D21_ok : SigOk X0.E 119 D21.sig := D21.ok G0 Tryz.func119 trivial rfl rfl (by kernel_rfl)

/-! ### tablefinder/table.every[int] -/
noncomputable def D22 : FD U := ⟨118, Tryz.f118, [D21.sg], [.p (.sl (.int .i64)), .fn 119 [] [.pp (.int .i64)]], [], [.p .bool], [], [], s_table_every_int, s_table_every_int,
.lr 94101 [1,7,8,9] [] [.fn 119 [] [.pp (.int .i64)], qe6, qe0, qe0] [] 0 [] [] [] [] s_table_every_int_l1 s_table_every_int_k1 (fun _ => .nil) <|
.nil⟩
theorem D22_ok : SigOk X0.E 118 D22.sig := D22.ok G0 Tryz.func118 ⟨D21_ok, trivial⟩ rfl rfl (by kernel_rfl)

/-! ### tablefinder/table.within -/
noncomputable def D23 : FD U := ⟨68, Tryz.f68, [D22.sg], [.p (.sl (.int .i64)), .p (.int .i64)], [], [.p .bool], [], [], s_table_within, s_table_within,
.nil⟩
theorem D23_ok : SigOk X0.E 68 D23.sig := D23.ok G0 Tryz.func68 ⟨D22_ok, trivial⟩ rfl rfl (by kernel_rfl)

/-! ### tablefinder/table.Select$1 -/
noncomputable def D24 : FD U := ⟨72, Tryz.f72, [], [.p (.int .i64), .ptr (.st 2), .ptr (.sl (.int .i64))], [], [.p (.st 1)], [], [], s_table_Select_1, s_table_Select_1,
.lo 941011 [0,1,4,5,15,16,17] [] [qe0, .o (.pp (.st 2)), qe1, qe2, qe6, qe0, qe0] [qo23, qo17, qo15, qo15] 0 [4,5] [] qs5 [qo23, qo17, qo15, qo15] s_table_Select_1_l1 s_table_Select_1_k1 (fun _ => .nil) <|
.nil⟩
theorem D24_ok : SigOk X0.E 72 D24.sig := D24.ok G0 Tryz.func72 trivial rfl rfl (by kernel_rfl)

/-! ### tablefinder/table.with -/
noncomputable def D25 : FD U := ⟨69, Tryz.f69, [D24.sg], [.p (.st 2), .p (.int .i64), .fn 72 [] [.pp (.st 2), .pp (.sl (.int .i64))]], [], [.p (.st 2)], [], [], s_table_with, s_table_with,
.lo 941011 [2,6,7,14,15] [] [.fn 72 [] [.pp (.st 2), .pp (.sl (.int .i64))], qe1, qe2, qe0, qe0] qp0 0 [6,7] [] qs5 qp0 s_table_with_l1 s_table_with_k1 (fun _ => .nil) <|
.nil⟩
theorem D25_ok : SigOk X0.E 69 D25.sig := D25.ok G0 Tryz.func69 ⟨D24_ok, trivial⟩ rfl rfl (by kernel_rfl)

/-! ### tablefinder/table.Select -/
noncomputable def D26 : FD U := ⟨24, Tryz.f24, [D10.sg, D0.sg, D23.sg, D25.sg], [.p (.st 2), .p (.sl (.int .i64))], [], [.p (.st 2), .p (.int .i64)], [], [], s_table_Select, s_table_Select,
.nil⟩
theorem D26_ok : SigOk X0.E 24 D26.sig := D26.ok G0 Tryz.func24 ⟨D10_ok, D0_ok, D23_ok, D25_ok, trivial⟩ rfl rfl (by kernel_rfl)

/-! ### tablefinder/table.Sort -/
noncomputable def D27 : FD U := ⟨27, Tryz.f27, [D0.sg, D10.sg, D20.sg, D26.sg], [.p (.st 2)], [], [.p (.st 2), .p (.int .i64)], [], [], s_table_Sort, s_table_Sort,
.lo 941011 [1,2,4,10,11] [] qs7 qp1 0 [1,2,4] [] [qe1, qe2, qe14] qp1 s_table_Sort_l1 s_table_Sort_k1 (fun _ => .nil) <|
.j 91111 [1,2,4] [1] [.o (.pp (.st 2)), qe1, .o (.full (0, 2, 1))] [qo4, qo12, qo7] s_table_Sort_j2 <|
.nil⟩
theorem D27_ok : SigOk X0.E 27 D27.sig := D27.ok G0 Tryz.func27 ⟨D0_ok, D10_ok, D20_ok, D26_ok, trivial⟩ rfl rfl (by kernel_rfl)

/-! ### tablefinder/tablefinderlaw03.sane -/
noncomputable def D28 : FD U := ⟨11, Tryz.f11, [D27.sg, D10.sg, D0.sg], [], [], [.p .bool], [], [], s_tablefinderlaw03_sane, s_tablefinderlaw03_sane,
.j 91111 [0] [] [qe5] [] s_tablefinderlaw03_sane_j1 <|
.nil⟩
theorem D28_ok : SigOk X0.E 11 D28.sig := D28.ok G0 Tryz.func11 ⟨D27_ok, D10_ok, D0_ok, trivial⟩ rfl rfl (by kernel_rfl)

/-! ### tablefinder/tablefindermill.New -/
noncomputable def D29 : FD U := ⟨12, Tryz.f12, [], [.p (.sl (.int .u8))], [], [.box (.st 4)], [], [], s_tablefindermill_New, s_tablefindermill_New,
.j 911 [0] [] [.o (.v (.sl (.int .u8)))] [] s_tablefindermill_New_j1 <|
.nil⟩
theorem D29_ok : SigOk X0.E 12 D29.sig := D29.ok G0 Tryz.func12 trivial rfl rfl (by kernel_rfl)

/-! ### (*tablefinder/tablefindermill.Dice).Pick -/
noncomputable def D30 : FD U := ⟨15, Tryz.f15, [], [.box (.st 4), .p (.int .i64)], [(0, .box (.st 4))], [.p (.int .i64)], [], [], s_tablefindermill_Dice_Pick, s_tablefindermill_Dice_Pick,
.nil⟩
theorem D30_ok : SigOk X0.E 15 D30.sig := D30.ok G0 Tryz.func15 trivial rfl rfl (by kernel_rfl)

/-! ### tablefinder/tablefindermill.Words -/
noncomputable def D31 : FD U := ⟨147, Tryz.f147, [], [], [], [.own .str], [], [], s_tablefindermill_Words, s_tablefindermill_Words,
.nil⟩
theorem D31_ok : SigOk X0.E 147 D31.sig := D31.ok G0 Tryz.func147 trivial rfl rfl (by kernel_rfl)

/-! ### (*tablefinder/tablefindermill.Dice).Cell -/
noncomputable def D32 : FD U := ⟨114, Tryz.f114, [D30.sg, D31.sg], [.box (.st 4)], [(0, .box (.st 4))], [.p (.st 0)], [], [], s_tablefindermill_Dice_Cell, s_tablefindermill_Dice_Cell,
.nil⟩
theorem D32_ok : SigOk X0.E 114 D32.sig := D32.ok G0 Tryz.func114 ⟨D30_ok, D31_ok, trivial⟩ rfl rfl (by kernel_rfl)

/-! ### (*tablefinder/tablefindermill.Dice).Column -/
noncomputable def D34 : FD U := ⟨62, Tryz.f62, [D30.sg, D32.sg, (115, S_s_strconv_Itoa.sig)], [.box (.st 4), .p (.int .i64)], [(0, .box (.st 4))], [.p (.st 1)], [], [], s_tablefindermill_Dice_Column, s_tablefindermill_Dice_Column,
.lo 9410111 [0,1,4,5,6,7] [] [qe31, qe0, qe1, qe2, qe5, qe0] [qo32, qo23, qo17, qo15, qo15] 0 [4,5] [] qs5 [qo32, qo23, qo17, qo15, qo15] s_tablefindermill_Dice_Column_l1 s_tablefindermill_Dice_Column_k3 (fun n0 => .j 91014015410111 [0,1,4,5,6,7,8,30] [] [qe31, qe0, qe1, qe2, qe5, qe0, qe28, qe5] [qo32, qo17, qo35, qo13, qo15, qo15] (s_tablefindermill_Dice_Column_j1 (s_tablefindermill_Dice_Column_l1 n0)) <|
.j 9114015410111 [0,1,4,5,6,7,8] [] [qe31, qe0, qe1, qe2, qe5, qe0, qe28] [qo32, qo17, qo35, qo13, qo15, qo15] (s_tablefindermill_Dice_Column_j2 (s_tablefindermill_Dice_Column_l1 n0)) <|
.nil) <|
.nil⟩
theorem D34_ok : SigOk X0.E 62 D34.sig := D34.ok G0 Tryz.func62 ⟨D30_ok, D32_ok, S_s_strconv_Itoa_ok, trivial⟩ rfl rfl (by kernel_rfl)

/-! ### (*tablefinder/tablefindermill.Dice).Table -/
noncomputable def D35 : FD U := ⟨14, Tryz.f14, [D30.sg, D34.sg], [.box (.st 4), .p (.int .i64), .p (.int .i64), .p (.int .i64)], [(0, .box (.st 4))], [.p (.st 2)], [], [], s_tablefindermill_Dice_Table, s_tablefindermill_Dice_Table,
.lo 9410111 [0,8,9,10,11] [] [qe31, qe1, qe2, qe0, qe0] [qo32, qo4, qo3, qo7, qo7] 0 [8,9] [] qs5 [qo32, qo4, qo3, qo7, qo7] s_tablefindermill_Dice_Table_l1 s_tablefindermill_Dice_Table_k1 (fun _ => .nil) <|
.nil⟩
theorem D35_ok : SigOk X0.E 14 D35.sig := D35.ok G0 Tryz.func14 ⟨D30_ok, D34_ok, trivial⟩ rfl rfl (by kernel_rfl)

/-! ### (*tablefinder/tablefindermill.Dice).List -/
noncomputable def D36 : FD U := ⟨13, Tryz.f13, [D30.sg, D35.sg], [.box (.st 4), .p (.int .i64), .p (.int .i64), .p (.int .i64)], [(0, .box (.st 4))], [.own (.st 2)], [], [], s_tablefindermill_Dice_List, s_tablefindermill_Dice_List,
.lo 9410111 [0,2,3,9,10,11] [] [qe31, qe0, qe0, qe9, qe0, qe0] [qo32, qo19] 0 [9] [] [qe9] [qo32, qo19] s_tablefindermill_Dice_List_l1 s_tablefindermill_Dice_List_k1 (fun _ => .nil) <|
.nil⟩
theorem D36_ok : SigOk X0.E 13 D36.sig := D36.ok G0 Tryz.func13 ⟨D30_ok, D35_ok, trivial⟩ rfl rfl (by kernel_rfl)

/-! ### tablefinder/tablefindermill.Mod -/
noncomputable def D37 : FD U := ⟨16, Tryz.f16, [], [.p (.int .i64), .p (.int .i64)], [], [.p (.int .i64)], [], [], s_tablefindermill_Mod, s_tablefindermill_Mod,
.j 9111 [5] [] [qe0] [] s_tablefindermill_Mod_j1 <|
.nil⟩
theorem D37_ok : SigOk X0.E 16 D37.sig := D37.ok G0 Tryz.func16 trivial rfl rfl (by kernel_rfl)

/-! ### tablefinder/tablefinderlaw03.odd -/
noncomputable def D38 : FD U := ⟨17, Tryz.f17, [D37.sg], [.p (.st 2), .p (.int .i64), .p (.int .i64)], [], [.p (.st 2)], [], [], s_tablefinderlaw03_odd, s_tablefinderlaw03_odd,
.j 91213131313131410111 [2,3,6,7,102] [] [qe0, qe1, qe2, qe0, qe5] qp0 s_tablefinderlaw03_odd_j1 <|
.j 91111 [3,6] [] qs5 qp0 s_tablefinderlaw03_odd_j2 <|
.nil⟩
theorem D38_ok : SigOk X0.E 17 D38.sig := D38.ok G0 Tryz.func17 ⟨D37_ok, trivial⟩ rfl rfl (by kernel_rfl)

/-! ### tablefinder/tablefinderref02.Valid -/
noncomputable def D39 : FD U := ⟨88, Tryz.f88, [D2.sg], [.p .str], [], [.p .bool], [], [], s_tablefinderref02_Valid, s_tablefinderref02_Valid,
.nil⟩
theorem D39_ok : SigOk X0.E 88 D39.sig := D39.ok G0 Tryz.func88 ⟨D2_ok, trivial⟩ rfl rfl (by kernel_rfl)

/-! ### tablefinder/tablefinderref03.name -/
noncomputable def D40 : FD U := ⟨67, Tryz.f67, [D39.sg], [.p .str], [], [.p .bool], [], [], s_tablefinderref03_name, s_tablefinderref03_name,
.j 911 [2] [] [qe5] [] s_tablefinderref03_name_j1 <|
.nil⟩
theorem D40_ok : SigOk X0.E 67 D40.sig := D40.ok G0 Tryz.func67 ⟨D39_ok, trivial⟩ rfl rfl (by kernel_rfl)

/-! ### tablefinder/tablefinderref03.ValidCell -/
noncomputable def D41 : FD U := ⟨48, Tryz.f48, [D39.sg], [.p (.st 0)], [], [.p .bool], [], [], s_tablefinderref03_ValidCell, s_tablefinderref03_ValidCell,
.j 911 [2] [] [qe5] [] s_tablefinderref03_ValidCell_j1 <|
.nil⟩
theorem D41_ok : SigOk X0.E 48 D41.sig := D41.ok G0 Tryz.func48 ⟨D39_ok, trivial⟩ rfl rfl (by kernel_rfl)

/-! ### tablefinder/tablefinderref03.Valid -/
noncomputable def D42 : FD U := ⟨19, Tryz.f19, [D40.sg, D41.sg], [.p (.st 2)], [], [.p .bool], [], [], s_tablefinderref03_Valid, s_tablefinderref03_Valid,
.j 9101 [1,26] [] [qe1, qe5] [qo8] s_tablefinderref03_Valid_j1 <|
.lr 941011 [1,28,29,30] [] [qe1, qe16, qe0, qe0] [qo8] 0 [] [] [] [] s_tablefinderref03_Valid_l1 s_tablefinderref03_Valid_k4 (fun n0 => .j 91014011541011 [1,4,28,29,30,55] [] [qe1, qe2, qe16, qe0, qe0, qe5] [qo8, qo37] (s_tablefinderref03_Valid_j2 (s_tablefinderref03_Valid_l1 n0)) <|
.lr 941114011541011 [1,28,29,30,57,58,59] [] [qe1, qe16, qe0, qe0, qe29, qe0, qe0] [qo8] 2 [1,28,29,30] [] [qe1, qe16, qe0, qe0] [qo8] s_tablefinderref03_Valid_l2 (s_tablefinderref03_Valid_k3 (s_tablefinderref03_Valid_l1 n0)) (fun _ => .nil) <|
.nil) <|
.nil⟩
theorem D42_ok : SigOk X0.E 19 D42.sig := D42.ok G0 Tryz.func19 ⟨D40_ok, D41_ok, trivial⟩ rfl rfl (by kernel_rfl)

/-! ### tablefinder/tablefinderref03.Rows -/
noncomputable def D43 : FD U := ⟨21, Tryz.f21, [], [.p (.st 2)], [], [.p (.int .i64)], [], [], s_tablefinderref03_Rows, s_tablefinderref03_Rows,
.nil⟩
theorem D43_ok : SigOk X0.E 21 D43.sig := D43.ok G0 Tryz.func21 trivial rfl rfl (by kernel_rfl)

/-! ### slices.Clone[[]tablefinder/api.Cell,tablefinder/api.Cell] -/
noncomputable def D44 : FD U := ⟨120, Tryz.f120, [], [.p (.sl (.st 0))], [], [.own (.st 0)], [], [], s_slices_Clone_api_Cell_api_Cell, s_slices_Clone_api_Cell_api_Cell,
.j 9101 [0,4] [] [qe29, qe5] [] s_slices_Clone_api_Cell_api_Cell_j1 <|
.nil⟩
theorem D44_ok : SigOk X0.E 120 D44.sig := D44.ok G0 Tryz.func120 trivial rfl rfl (by kernel_rfl)

/-! ### tablefinder/table.column -/
noncomputable def D45 : FD U := ⟨71, Tryz.f71, [D44.sg], [.p (.st 1)], [], [.p (.st 1)], [], [], s_table_column, s_table_column,
.nil⟩
theorem D45_ok : SigOk X0.E 71 D45.sig := D45.ok G0 Tryz.func71 ⟨D44_ok, trivial⟩ rfl rfl (by kernel_rfl)

/-! ### tablefinder/table.Project$1 -/
noncomputable def D46 : FD U := ⟨70, Tryz.f70, [D45.sg], [.p (.int .i64), .ptr (.st 2), .ptr (.sl (.int .i64))], [], [.p (.st 1)], [], [], s_table_Project_1, s_table_Project_1,
.nil⟩
theorem D46_ok : SigOk X0.E 70 D46.sig := D46.ok G0 Tryz.func70 ⟨D45_ok, trivial⟩ rfl rfl (by kernel_rfl)

/-! ### tablefinder/table.with -/
noncomputable def D47 : FD U := ⟨69, Tryz.f69, [D46.sg], [.p (.st 2), .p (.int .i64), .fn 70 [] [.pp (.st 2), .pp (.sl (.int .i64))]], [], [.p (.st 2)], [], [], s_table_with_2, s_table_with_2,
.lo 941011 [2,6,7,14,15] [] [.fn 70 [] [.pp (.st 2), .pp (.sl (.int .i64))], qe1, qe2, qe0, qe0] qp0 0 [6,7] [] qs5 qp0 s_table_with_2_l1 s_table_with_2_k1 (fun _ => .nil) <|
.nil⟩
theorem D47_ok : SigOk X0.E 69 D47.sig := D47.ok G0 Tryz.func69 ⟨D46_ok, trivial⟩ rfl rfl (by kernel_rfl)

/-! ### tablefinder/table.Project -/
noncomputable def D48 : FD U := ⟨22, Tryz.f22, [D10.sg, D23.sg, D47.sg], [.p (.st 2), .p (.sl (.int .i64))], [], [.p (.st 2), .p (.int .i64)], [], [], s_table_Project, s_table_Project,
.nil⟩
theorem D48_ok : SigOk X0.E 22 D48.sig := D48.ok G0 Tryz.func22 ⟨D10_ok, D23_ok, D47_ok, trivial⟩ rfl rfl (by kernel_rfl)

/-! ### tablefinder/tablefinderref03.Project -/
noncomputable def D49 : FD U := ⟨23, Tryz.f23, [D42.sg], [.p (.st 2), .p (.sl (.int .i64))], [], [.p (.st 2), .p (.int .i64)], [], [], s_tablefinderref03_Project, s_tablefinderref03_Project,
.lr 9410111 [1,2,4,6,18,19,20] [] [qe6, qe1, qe2, qe28, qe6, qe0, qe0] [qo8, qo3, qo21, qo7, qo7] 0 [1,4,6] [] [qe6, qe1, qe2] qp0 s_tablefinderref03_Project_l1 s_tablefinderref03_Project_k2 (fun n0 => .j 910140115410111 [1,2,4,6,8,18,19,20,32] [] [qe6, qe1, qe2, qe28, qe0, qe6, qe0, qe0, qe5] [qo8, qo3, qo21, qo7, qo7] (s_tablefinderref03_Project_j1 (s_tablefinderref03_Project_l1 n0)) <|
.nil) <|
.nil⟩
theorem D49_ok : SigOk X0.E 23 D49.sig := D49.ok G0 Tryz.func23 ⟨D42_ok, trivial⟩ rfl rfl (by kernel_rfl)

/-! ### tablefinder/tablefinderref03.Select -/
noncomputable def D50 : FD U := ⟨25, Tryz.f25, [D42.sg, D43.sg], [.p (.st 2), .p (.sl (.int .i64))], [], [.p (.st 2), .p (.int .i64)], [], [], s_tablefinderref03_Select, s_tablefinderref03_Select,
.lr 941011 [1,2,4,18,19,20] [] [qe6, qe1, qe2, qe6, qe0, qe0] [qo8, qo4, qo7] 0 [1,2,4] [] [qe6, qe1, qe2] [qo8, qo4, qo7] s_tablefinderref03_Select_l1 s_tablefinderref03_Select_k2 (fun n0 => .j 9114011541011 [1,2,4,18,19,20,31] [] [qe6, qe1, qe2, qe6, qe0, qe0, qe5] [qo8, qo4, qo7] (s_tablefinderref03_Select_j1 (s_tablefinderref03_Select_l1 n0)) <|
.nil) <|
.lo 941011111 [1,4,8,44,45,46] [] [qe6, qe1, qe2, qe16, qe0, qe0] qp0 2 [4,8] [] qs5 qp0 s_tablefinderref03_Select_l2 s_tablefinderref03_Select_k4 (fun n0 => .lo 9410114011541011111 [1,4,8,10,11,44,45,46,53,54,55] [] [qe6, qe1, qe2, qe28, qe25, qe16, qe0, qe0, qe6, qe0, qe0] [qo21, .box [.o (.v (.int .i64)), .o (.v .str), .o (.full (0, 6, 1))], qo37, .box [.o (.v .str), .o (.full (0, 7, 1))], qo7, qo7, qo15] 4 [1,4,8,11,44,45,46] [] [qe6, qe1, qe2, qe28, qe16, qe0, qe0] [qo3, qo21, .box [.o (.v .str), .o (.full (0, 6, 1))], qo7, qo7, qo15] s_tablefinderref03_Select_l3 (s_tablefinderref03_Select_k3 (s_tablefinderref03_Select_l2 n0)) (fun _ => .nil) <|
.nil) <|
.nil⟩
theorem D50_ok : SigOk X0.E 25 D50.sig := D50.ok G0 Tryz.func25 ⟨D42_ok, D43_ok, trivial⟩ rfl rfl (by kernel_rfl)

/-! ### tablefinder/tablefinderref03.SameCells -/
noncomputable def D51 : FD U := ⟨31, Tryz.f31, [], [.p (.st 1), .p (.st 1)], [], [.p .bool], [], [], s_tablefinderref03_SameCells, s_tablefinderref03_SameCells,
.j 9101 [2,3,19] [] qs9 [qo37, qo37] s_tablefinderref03_SameCells_j1 <|
.lr 941011 [2,3,22,23] [] [qe1, qe2, qe0, qe0] [qo37, qo37] 0 [] [] [] [] s_tablefinderref03_SameCells_l1 s_tablefinderref03_SameCells_k2 (fun _ => .nil) <|
.nil⟩
theorem D51_ok : SigOk X0.E 31 D51.sig := D51.ok G0 Tryz.func31 trivial rfl rfl (by kernel_rfl)

/-! ### tablefinder/tablefinderref03.Same -/
noncomputable def D52 : FD U := ⟨26, Tryz.f26, [D51.sg], [.p (.st 2), .p (.st 2)], [], [.p .bool], [], [], s_tablefinderref03_Same, s_tablefinderref03_Same,
.j 9101 [2,3,26] [] qs9 qp6 s_tablefinderref03_Same_j1 <|
.lr 941011 [2,3,29,30] [] [qe1, qe2, qe0, qe0] qp6 0 [] [] [] [] s_tablefinderref03_Same_l1 s_tablefinderref03_Same_k2 (fun _ => .nil) <|
.nil⟩
theorem D52_ok : SigOk X0.E 26 D52.sig := D52.ok G0 Tryz.func26 ⟨D51_ok, trivial⟩ rfl rfl (by kernel_rfl)

/-! ### tablefinder/tablefinderref03.at -/
noncomputable def D53 : FD U := ⟨76, Tryz.f76, [], [.p (.st 2), .p (.int .i64)], [], [.own (.st 0)], [], [], s_tablefinderref03_at, s_tablefinderref03_at,
.lo 941011 [1,5,9,10,11] [] [qe0, qe9, qe16, qe0, qe0] [qo15] 0 [5] [] [qe9] [qo15] s_tablefinderref03_at_l1 s_tablefinderref03_at_k1 (fun _ => .nil) <|
.nil⟩
theorem D53_ok : SigOk X0.E 76 D53.sig := D53.ok G0 Tryz.func76 trivial rfl rfl (by kernel_rfl)

/-! ### tablefinder/tablefinderref03.CompareCells -/
noncomputable def D54 : FD U := ⟨46, Tryz.f46, [], [.p (.st 0), .p (.st 0)], [], [.p (.int .i64)], [], [], s_tablefinderref03_CompareCells, s_tablefinderref03_CompareCells,
.j 91401 [2,3,5] [] qs9 [qo13, qo13] s_tablefinderref03_CompareCells_j1 <|
.nil⟩
theorem D54_ok : SigOk X0.E 46 D54.sig := D54.ok G0 Tryz.func46 trivial rfl rfl (by kernel_rfl)

/-! ### tablefinder/tablefinderref03.compare -/
noncomputable def D55 : FD U := ⟨75, Tryz.f75, [D54.sg], [.p (.sl (.st 0)), .p (.sl (.st 0))], [], [.p (.int .i64)], [], [], s_tablefinderref03_compare, s_tablefinderref03_compare,
.lr 94101 [0,1,8,9] [] [qe29, qe29, qe0, qe0] [] 0 [] [] [] [] s_tablefinderref03_compare_l1 s_tablefinderref03_compare_k1 (fun _ => .nil) <|
.nil⟩
theorem D55_ok : SigOk X0.E 75 D55.sig := D55.ok G0 Tryz.func75 ⟨D54_ok, trivial⟩ rfl rfl (by kernel_rfl)

/-! ### tablefinder/tablefinderref03.Sort -/
noncomputable def D56 : FD U := ⟨28, Tryz.f28, [D42.sg, D43.sg, D53.sg, D55.sg, D50.sg], [.p (.st 2)], [], [.p (.st 2), .p (.int .i64)], [], [], s_tablefinderref03_Sort, s_tablefinderref03_Sort,
.lo 9410111 [1,2,4,5] [] [qe1, qe2, qe14, qe0] qp1 0 [1,2,4] [] [qe1, qe2, qe14] qp1 s_tablefinderref03_Sort_l1 s_tablefinderref03_Sort_k3 (fun n0 => .lo 94014015410111 [1,2,4,5,6] [] qs7 qp1 2 [1,2,4,5,6] [] qs7 qp1 s_tablefinderref03_Sort_l2 (s_tablefinderref03_Sort_k2 (s_tablefinderref03_Sort_l1 n0)) (fun n1 => .j 91054014015410111 [1,2,4,5,6,34] [] [qe1, qe2, qe14, qe0, qe0, qe5] qp1 (s_tablefinderref03_Sort_j1 (s_tablefinderref03_Sort_l2 n1)) <|
.nil) <|
.nil) <|
.nil⟩
theorem D56_ok : SigOk X0.E 28 D56.sig := D56.ok G0 Tryz.func28 ⟨D42_ok, D43_ok, D53_ok, D55_ok, D50_ok, trivial⟩ rfl rfl (by kernel_rfl)

/-! ### tablefinder/table.Row -/
noncomputable def D57 : FD U := ⟨29, Tryz.f29, [D10.sg, D0.sg], [.p (.st 2), .p (.int .i64)], [], [.own (.st 0), .p (.int .i64)], [], [], s_table_Row, s_table_Row,
.j 9131401 [1,2,13] [] [qe0, qe1, qe5] [qo8] s_table_Row_j1 <|
.lo 9410111 [1,6,23,24,25] [] [qe0, qe9, qe16, qe0, qe0] [qo15] 1 [6] [] [qe9] [qo15] s_table_Row_l1 s_table_Row_k2 (fun _ => .nil) <|
.nil⟩
theorem D57_ok : SigOk X0.E 29 D57.sig := D57.ok G0 Tryz.func29 ⟨D10_ok, D0_ok, trivial⟩ rfl rfl (by kernel_rfl)

/-! ### tablefinder/tablefinderref03.Row -/
noncomputable def D58 : FD U := ⟨30, Tryz.f30, [D42.sg, D43.sg, D53.sg], [.p (.st 2), .p (.int .i64)], [], [.own (.st 0), .p (.int .i64)], [], [], s_tablefinderref03_Row, s_tablefinderref03_Row,
.j 91011 [1,2,16] [] [qe0, qe1, qe5] [qo8] s_tablefinderref03_Row_j1 <|
.nil⟩
theorem D58_ok : SigOk X0.E 30 D58.sig := D58.ok G0 Tryz.func30 ⟨D42_ok, D43_ok, D53_ok, trivial⟩ rfl rfl (by kernel_rfl)

/-! ### slices.Equal[[]tablefinder/api.Cell,tablefinder/api.Cell] -/
noncomputable def D59 : FD U := ⟨79, Tryz.f79, [], [.p (.sl (.st 0)), .p (.sl (.st 0))], [], [.p .bool], [], [], s_slices_Equal_api_Cell_api_Cell, s_slices_Equal_api_Cell_api_Cell,
.lr 941011 [0,1,12,13] [] [qe29, qe29, qe0, qe0] [] 0 [] [] [] [] s_slices_Equal_api_Cell_api_Cell_l1 s_slices_Equal_api_Cell_api_Cell_k1 (fun _ => .nil) <|
.nil⟩
theorem D59_ok : SigOk X0.E 79 D59.sig := D59.ok G0 Tryz.func79 trivial rfl rfl (by kernel_rfl)

/-! ### tablefinder/table.Same$1 -/
noncomputable def D60 : FD U := ⟨78, Tryz.f78, [D59.sg], [.p (.st 1), .p (.st 1)], [], [.p .bool], [], [], s_table_Same_1, s_table_Same_1,
.j 911 [4] [] [qe5] [] s_table_Same_1_j1 <|
.nil⟩
theorem D60_ok : SigOk X0.E 78 D60.sig := D60.ok G0 Tryz.func78 ⟨D59_ok, trivial⟩ rfl rfl (by kernel_rfl)

/-! ### slices.EqualFunc[[]tablefinder/api.Column,[]tablefinder/api.Column,tablefinder/api.Column,tablefinder/api.Column] -/
noncomputable def D61 : FD U := ⟨77, Tryz.f77, [D60.sg], [.p (.sl (.st 1)), .p (.sl (.st 1)), .fn 78 [] []], [], [.p .bool], [], [], s_slices_EqualFunc_api_Column_api_Column_api_Column_api_Column, s_slices_EqualFunc_api_Column_api_Column_api_Column_api_Column,
.lr 941011 [1,2,15,16,17] [] [qe16, .fn 78 [] [], qe16, qe0, qe0] [] 0 [] [] [] [] s_slices_EqualFunc_api_Column_api_Column_api_Column_api_Column_l1 s_slices_EqualFunc_api_Column_api_Column_api_Column_api_Column_k1 (fun _ => .nil) <|
.nil⟩
theorem D61_ok : SigOk X0.E 77 D61.sig := D61.ok G0 Tryz.func77 ⟨D60_ok, trivial⟩ rfl rfl (by kernel_rfl)

/-! ### tablefinder/table.Same -/
noncomputable def D62 : FD U := ⟨32, Tryz.f32, [D61.sg], [.p (.st 2), .p (.st 2)], [], [.p .bool], [], [], s_table_Same, s_table_Same,
.j 911 [4] [] [qe5] [] s_table_Same_j1 <|
.nil⟩
theorem D62_ok : SigOk X0.E 32 D62.sig := D62.ok G0 Tryz.func32 ⟨D61_ok, trivial⟩ rfl rfl (by kernel_rfl)

/-! ### internal/strconv.AppendBool -/
noncomputable def D63 : FD U := ⟨151, Tryz.f151, [], [.arr (.int .u8), .p .bool], [], [.own (.int .u8)], [], [], s_internal_strconv_AppendBool, s_internal_strconv_AppendBool,
.nil⟩
theorem D63_ok : SigOk X0.E 151 D63.sig := D63.ok G0 Tryz.func151 trivial rfl rfl (by kernel_rfl)

/-! ### strconv.AppendBool -/
noncomputable def D64 : FD U := ⟨122, Tryz.f122, [D63.sg], [.arr (.int .u8), .p .bool], [], [.own (.int .u8)], [], [], s_strconv_AppendBool, s_strconv_AppendBool,
.nil⟩
theorem D64_ok : SigOk X0.E 122 D64.sig := D64.ok G0 Tryz.func122 ⟨D63_ok, trivial⟩ rfl rfl (by kernel_rfl)

/-! ### unicode/utf8.decodeRuneInStringSlow -/
noncomputable def D65 : FD U := ⟨216, Tryz.f216, [], [.p .str], [], [.p (.int .i32), .p (.int .i64)], [], [], s_unicode_utf8_decodeRuneInStringSlow, s_unicode_utf8_decodeRuneInStringSlow,
.j 9101111111111 [0,5,8,10,57] [] [qe24, qe20, qe0, qe20, qe5] [] s_unicode_utf8_decodeRuneInStringSlow_j1 <|
.j 9101111111111111 [0,5,8,10,11,75] [] [qe24, qe20, qe0, qe20, qe20, qe5] [] s_unicode_utf8_decodeRuneInStringSlow_j2 <|
.j 9101111111111111111 [5,10,11,12,98] [] [qe20, qe20, qe20, qe20, qe5] [] s_unicode_utf8_decodeRuneInStringSlow_j3 <|
.nil⟩
theorem D65_ok : SigOk X0.E 216 D65.sig := D65.ok G0 Tryz.func216 trivial rfl rfl (by kernel_rfl)

/-! ### unicode/utf8.DecodeRuneInString -/
noncomputable def D66 : FD U := ⟨190, Tryz.f190, [D65.sg], [.p .str], [], [.p (.int .i32), .p (.int .i64)], [], [], s_unicode_utf8_DecodeRuneInString, s_unicode_utf8_DecodeRuneInString,
.j 9101 [0,10] [] qs8 [] s_unicode_utf8_DecodeRuneInString_j1 <|
.nil⟩
theorem D66_ok : SigOk X0.E 190 D66.sig := D66.ok G0 Tryz.func190 ⟨D65_ok, trivial⟩ rfl rfl (by kernel_rfl)

/-! ### strconv.IsPrint -/
noncomputable def D67 : FD U := ⟨217, Tryz.f217, [], [.p (.int .i32)], [], [.p .bool], [], [], s_strconv_IsPrint, s_strconv_IsPrint,
.j 9102101 [0,24] [] [qe18, qe5] [] s_strconv_IsPrint_j1 <|
.j 91012101 [0,30] [] [qe18, qe5] [] s_strconv_IsPrint_j2 <|
.j 91011 [0,38] [] [qe18, qe5] [] s_strconv_IsPrint_j3 <|
.nil⟩
theorem D67_ok : SigOk X0.E 217 D67.sig := D67.ok G0 Tryz.func217 trivial rfl rfl (by kernel_rfl)

/-! ### strconv.isInGraphicList -/
noncomputable def D68 : FD U := ⟨218, Tryz.f218, [], [.p (.int .i32)], [], [.p .bool], [], [], s_strconv_isInGraphicList, s_strconv_isInGraphicList,
.nil⟩
theorem D68_ok : SigOk X0.E 218 D68.sig := D68.ok G0 Tryz.func218 trivial rfl rfl (by kernel_rfl)

/-! ### unicode/utf8.appendRuneNonASCII -/
noncomputable def D69 : FD U := ⟨238, Tryz.f238, [], [.arr (.int .u8), .p (.int .i32)], [], [.own (.int .u8)], [], [], s_unicode_utf8_appendRuneNonASCII, s_unicode_utf8_appendRuneNonASCII,
.j 9131411 [0,1,5,25] [] [qe9, qe18, .o (.v (.int .u32)), qe5] [qo11] s_unicode_utf8_appendRuneNonASCII_j1 <|
.j 913131411 [0,1,50] [] [qe9, qe18, qe5] [qo11] s_unicode_utf8_appendRuneNonASCII_j2 <|
.nil⟩
theorem D69_ok : SigOk X0.E 238 D69.sig := D69.ok G0 Tryz.func238 trivial rfl rfl (by kernel_rfl)

/-! ### unicode/utf8.AppendRune -/
noncomputable def D70 : FD U := ⟨219, Tryz.f219, [D69.sg], [.arr (.int .u8), .p (.int .i32)], [], [.own (.int .u8)], [], [], s_unicode_utf8_AppendRune, s_unicode_utf8_AppendRune,
.nil⟩
theorem D70_ok : SigOk X0.E 219 D70.sig := D70.ok G0 Tryz.func219 ⟨D69_ok, trivial⟩ rfl rfl (by kernel_rfl)

/-! ### unicode/utf8.ValidRune -/
noncomputable def D71 : FD U := ⟨220, Tryz.f220, [], [.p (.int .i32)], [], [.p .bool], [], [], s_unicode_utf8_ValidRune, s_unicode_utf8_ValidRune,
.j 91401 [0,3] [] [qe18, qe5] [] s_unicode_utf8_ValidRune_j1 <|
.j 9131401 [10] [] [qe5] [] s_unicode_utf8_ValidRune_j2 <|
.nil⟩
theorem D71_ok : SigOk X0.E 220 D71.sig := D71.ok G0 Tryz.func220 trivial rfl rfl (by kernel_rfl)

/-! ### strconv.appendEscapedRune -/
noncomputable def D72 : FD U := ⟨191, Tryz.f191, [D67.sg, D68.sg, D70.sg, D71.sg], [.arr (.int .u8), .p (.int .i32), .p (.int .u8), .p .bool, .p .bool], [], [.own (.int .u8)], [], [], s_strconv_appendEscapedRune, s_strconv_appendEscapedRune,
.j 9101 [0,1,3,4,20] [] [qe9, qe18, qe5, qe5, qe5] [qo11] s_strconv_appendEscapedRune_j1 <|
.j 9121011 [0,1,36] [] [qe9, qe18, qe5] [qo11] s_strconv_appendEscapedRune_j2 <|
.j 9131011 [0,1,51] [] [qe9, qe18, qe5] [qo11] s_strconv_appendEscapedRune_j3 <|
.j 9111 [0,1] [] [qe9, qe18] [qo11] s_strconv_appendEscapedRune_j4 <|
.j 910040404040431313131313131410111 [0,1,56] [] [qe9, qe18, qe5] [qo11] s_strconv_appendEscapedRune_j5 <|
.j 9140431313131313131410111 [0,1] [] [qe9, qe18] [qo11] s_strconv_appendEscapedRune_j6 <|
.lo 94110140431313131313131410111 [0,1,11] [] [qe9, qe18, qe0] [qo11] 6 [0] [] [qe9] [qo11] s_strconv_appendEscapedRune_l1 s_strconv_appendEscapedRune_k7 (fun _ => .nil) <|
.lo 941101431313131313131410111 [0,1,12] [] [qe9, qe18, qe0] [qo11] 8 [0] [] [qe9] [qo11] s_strconv_appendEscapedRune_l2 s_strconv_appendEscapedRune_k8 (fun _ => .nil) <|
.j 91111 [0] [] [qe9] [qo11] s_strconv_appendEscapedRune_j9 <|
.nil⟩
theorem D72_ok : SigOk X0.E 191 D72.sig := D72.ok G0 Tryz.func191 ⟨D67_ok, D68_ok, D70_ok, D71_ok, trivial⟩ rfl rfl (by kernel_rfl)

/-! ### strconv.appendQuotedWith -/
noncomputable def D73 : FD U := ⟨152, Tryz.f152, [D66.sg, D72.sg], [.arr (.int .u8), .p .str, .p (.int .u8), .p .bool, .p .bool], [], [.own (.int .u8)], [], [], s_strconv_appendQuotedWith, s_strconv_appendQuotedWith,
.j 911 [0,1,2,3,4] [] [qe9, qe24, qe20, qe5, qe5] [qo11] s_strconv_appendQuotedWith_j1 <|
.lo 9410111 [0,1,2,3,4] [] [qe9, qe24, qe20, qe5, qe5] [qo11] 0 [0,2] [] [qe9, qe20] [qo11] s_strconv_appendQuotedWith_l1 s_strconv_appendQuotedWith_k4 (fun n0 => .j 91014015410111 [0,1,2,3,4,12,13,56] [] [qe9, qe24, qe20, qe5, qe5, qe18, qe0, qe5] [qo11] (s_strconv_appendQuotedWith_j2 (s_strconv_appendQuotedWith_l1 n0)) <|
.j 9115410111 [0,1,2,3,4,13] [] [qe9, qe24, qe20, qe5, qe5, qe0] [qo11] (s_strconv_appendQuotedWith_j3 (s_strconv_appendQuotedWith_l1 n0)) <|
.nil) <|
.nil⟩
theorem D73_ok : SigOk X0.E 152 D73.sig := D73.ok G0 Tryz.func152 ⟨D66_ok, D72_ok, trivial⟩ rfl rfl (by kernel_rfl)

/-! ### strconv.AppendQuote -/
noncomputable def D74 : FD U := ⟨123, Tryz.f123, [D73.sg], [.arr (.int .u8), .p .str], [], [.own (.int .u8)], [], [], s_strconv_AppendQuote, s_strconv_AppendQuote,
.nil⟩
theorem D74_ok : SigOk X0.E 123 D74.sig := D74.ok G0 Tryz.func123 ⟨D73_ok, trivial⟩ rfl rfl (by kernel_rfl)

/-! ### tablefinder/table.rows -/
noncomputable def D75 : FD U := ⟨81, Tryz.f81, [D0.sg, D64.sg, D74.sg], [.p (.st 2)], [], [.map .str (.int .i64)], [], [], s_table_rows, s_table_rows,
.lo 941011 [1,3,10,11] [] [qe1, qe38, qe0, qe0] [qo8, qo34] 0 [3] [] [.o (.map (0, 1, 1))] [qo34] s_table_rows_l1 s_table_rows_k2 (fun n0 => .lo 9410114011541011 [1,3,4,5,10,11,15,16,17] [] [qe1, qe38, qe0, qe14, qe0, qe0, qe16, qe0, qe0] [qo8, qo34, qo11] 2 [1,3,5,10,11] [] [qe1, qe38, qe14, qe0, qe0] [qo8, qo34, qo11] s_table_rows_l2 (s_table_rows_k1 (s_table_rows_l1 n0)) (fun _ => .nil) <|
.nil) <|
.nil⟩
theorem D75_ok : SigOk X0.E 81 D75.sig := D75.ok G0 Tryz.func81 ⟨D0_ok, D64_ok, D74_ok, trivial⟩ rfl rfl (by kernel_rfl)

/-! ### maps.Equal[map[string]int,map[string]int,string,int] -/
noncomputable def D76 : FD U := ⟨80, Tryz.f80, [], [.p (.map .str (.int .i64)), .p (.map .str (.int .i64))], [], [.p .bool], [], [], s_maps_Equal_map_string_int_map_string_int_string_int, s_maps_Equal_map_string_int_map_string_int_string_int,
.lr 941011 [1,15] [] [.o (.v (.map .str (.int .i64))), .o (.it (0, 1, 1))] [.mit .str (.int .i64)] 0 [] [] [] [] s_maps_Equal_map_string_int_map_string_int_string_int_l1 s_maps_Equal_map_string_int_map_string_int_string_int_k2 (fun n0 => .j 9111411541011 [1,15,33] [] [.o (.v (.map .str (.int .i64))), .o (.it (0, 1, 1)), qe5] [.mit .str (.int .i64)] (s_maps_Equal_map_string_int_map_string_int_string_int_j1 (s_maps_Equal_map_string_int_map_string_int_string_int_l1 n0)) <|
.nil) <|
.nil⟩
theorem D76_ok : SigOk X0.E 80 D76.sig := D76.ok G0 Tryz.func80 trivial rfl rfl (by kernel_rfl)

/-! ### tablefinder/table.SameRows -/
noncomputable def D77 : FD U := ⟨33, Tryz.f33, [D10.sg, D75.sg, D76.sg], [.p (.st 2), .p (.st 2)], [], [.p .bool], [], [], s_table_SameRows, s_table_SameRows,
.j 911 [4] [] [qe5] [] s_table_SameRows_j1 <|
.nil⟩
theorem D77_ok : SigOk X0.E 33 D77.sig := D77.ok G0 Tryz.func33 ⟨D10_ok, D75_ok, D76_ok, trivial⟩ rfl rfl (by kernel_rfl)

/-! ### tablefinder/tablefinderref03.SameRows -/
noncomputable def D78 : FD U := ⟨34, Tryz.f34, [D42.sg, D43.sg, D53.sg, D55.sg], [.p (.st 2), .p (.st 2)], [], [.p .bool], [], [], s_tablefinderref03_SameRows, s_tablefinderref03_SameRows,
.j 9101 [2,3,32] [] qs9 qp6 s_tablefinderref03_SameRows_j1 <|
.lr 941011 [2,3,5] [] [qe1, qe2, qe0] qp6 0 [] [] [] [] s_tablefinderref03_SameRows_l1 s_tablefinderref03_SameRows_k5 (fun n0 => .lo 94101401541011 [2,3,5,6,7,8] [] qs3 qp6 2 [2,3,5,6,7] [] [qe1, qe2, qe0, qe0, qe0] qp6 s_tablefinderref03_SameRows_l2 (s_tablefinderref03_SameRows_k4 (s_tablefinderref03_SameRows_l1 n0)) (fun n1 => .j 9140154101401541011 [2,3,5,6,7,8] [] qs3 qp6 (s_tablefinderref03_SameRows_j2 (s_tablefinderref03_SameRows_l2 n1)) <|
.j 91154101401541011 [2,3,5,6,7,8] [] qs3 qp6 (s_tablefinderref03_SameRows_j3 (s_tablefinderref03_SameRows_l2 n1)) <|
.nil) <|
.nil) <|
.nil⟩
theorem D78_ok : SigOk X0.E 34 D78.sig := D78.ok G0 Tryz.func34 ⟨D42_ok, D43_ok, D53_ok, D55_ok, trivial⟩ rfl rfl (by kernel_rfl)

/-! ### tablefinder/table.every[tablefinder/api.Table] -/
noncomputable def D79 : FD U := ⟨82, Tryz.f82, [D10.sg], [.p (.sl (.st 2)), .fn 18 [] []], [], [.p .bool], [], [], s_table_every_api_Table, s_table_every_api_Table,
.lr 94101 [1,7,8,9] [] [.fn 18 [] [], qe10, qe0, qe0] [] 0 [] [] [] [] s_table_every_api_Table_l1 s_table_every_api_Table_k1 (fun _ => .nil) <|
.nil⟩
theorem D79_ok : SigOk X0.E 82 D79.sig := D79.ok G0 Tryz.func82 ⟨D10_ok, trivial⟩ rfl rfl (by kernel_rfl)

/-! ### tablefinder/table.ValidList -/
noncomputable def D80 : FD U := ⟨35, Tryz.f35, [D79.sg], [.p (.sl (.st 2))], [], [.p .bool], [], [], s_table_ValidList, s_table_ValidList,
.lr 94101 [0,3] [] [qe10, qe0] [] 0 [0] [] [qe10] [] s_table_ValidList_l1 s_table_ValidList_k1 (fun _ => .nil) <|
.j 9111 [2] [] [qe5] [] s_table_ValidList_j2 <|
.nil⟩
theorem D80_ok : SigOk X0.E 35 D80.sig := D80.ok G0 Tryz.func35 ⟨D79_ok, trivial⟩ rfl rfl (by kernel_rfl)

/-! ### tablefinder/tablefinderref03.ValidList -/
noncomputable def D81 : FD U := ⟨36, Tryz.f36, [D42.sg], [.p (.sl (.st 2))], [], [.p .bool], [], [], s_tablefinderref03_ValidList, s_tablefinderref03_ValidList,
.lr 94101 [0,5,6,7] [] [qe10, qe10, qe0, qe0] [] 0 [0] [] [qe10] [] s_tablefinderref03_ValidList_l1 s_tablefinderref03_ValidList_k2 (fun n0 => .j 911401154101 [0,5,6,7,29] [] [qe10, qe10, qe0, qe0, qe5] [] (s_tablefinderref03_ValidList_j1 (s_tablefinderref03_ValidList_l1 n0)) <|
.nil) <|
.nil⟩
theorem D81_ok : SigOk X0.E 36 D81.sig := D81.ok G0 Tryz.func36 ⟨D42_ok, trivial⟩ rfl rfl (by kernel_rfl)

/-! ### tablefinder/table.Refs -/
noncomputable def D82 : FD U := ⟨37, Tryz.f37, [], [.p (.sl (.st 2))], [], [.own (.st 5)], [], [], s_table_Refs, s_table_Refs,
.lo 941011 [3,7,8,9] [] qs4 [qo27] 0 [3] [] [qe9] [qo27] s_table_Refs_l1 s_table_Refs_k2 (fun n0 => .lo 94114011541011 [3,5,7,8,9,15,16] [] [qe9, qe2, qe10, qe0, qe0, qe0, qe0] [qo27, qo8] 2 [3,7,8,9] [] qs4 [qo27] s_table_Refs_l2 (s_table_Refs_k1 (s_table_Refs_l1 n0)) (fun _ => .nil) <|
.nil) <|
.nil⟩
theorem D82_ok : SigOk X0.E 37 D82.sig := D82.ok G0 Tryz.func37 trivial rfl rfl (by kernel_rfl)

/-! ### tablefinder/tablefinderref03.Refs -/
noncomputable def D83 : FD U := ⟨38, Tryz.f38, [], [.p (.sl (.st 2))], [], [.own (.st 5)], [], [], s_tablefinderref03_Refs, s_tablefinderref03_Refs,
.lo 941011 [3,7,8,9] [] qs4 [qo27] 0 [3] [] [qe9] [qo27] s_tablefinderref03_Refs_l1 s_tablefinderref03_Refs_k2 (fun n0 => .lo 94114011541011 [3,5,7,8,9,15,16] [] [qe9, qe2, qe10, qe0, qe0, qe0, qe0] [qo27, qo8] 2 [3,7,8,9] [] qs4 [qo27] s_tablefinderref03_Refs_l2 (s_tablefinderref03_Refs_k1 (s_tablefinderref03_Refs_l1 n0)) (fun _ => .nil) <|
.nil) <|
.nil⟩
theorem D83_ok : SigOk X0.E 38 D83.sig := D83.ok G0 Tryz.func38 trivial rfl rfl (by kernel_rfl)

/-! ### tablefinder/table.find$1 -/
noncomputable def D84 : FD U := ⟨125, Tryz.f125, [], [.p (.st 2), .ptr (.int .i64)], [], [.p .bool], [], [], s_table_find_1, s_table_find_1,
.nil⟩
theorem D84_ok : SigOk X0.E 125 D84.sig := D84.ok G0 Tryz.func125 trivial rfl rfl (by kernel_rfl)

/-! ### slices.IndexFunc[[]tablefinder/api.Table,tablefinder/api.Table] -/
noncomputable def D85 : FD U := ⟨124, Tryz.f124, [D84.sg], [.p (.sl (.st 2)), .fn 125 [] [.pp (.int .i64)]], [], [.p (.int .i64)], [], [], s_slices_IndexFunc_api_Table_api_Table, s_slices_IndexFunc_api_Table_api_Table,
.lr 94101 [0,1,7,8] [] [qe10, .fn 125 [] [.pp (.int .i64)], qe0, qe0] [] 0 [] [] [] [] s_slices_IndexFunc_api_Table_api_Table_l1 s_slices_IndexFunc_api_Table_api_Table_k1 (fun _ => .nil) <|
.nil⟩
theorem D85_ok : SigOk X0.E 124 D85.sig := D85.ok G0 Tryz.func124 ⟨D84_ok, trivial⟩ rfl rfl (by kernel_rfl)

/-! ### tablefinder/table.find -/
noncomputable def D86 : FD U := ⟨83, Tryz.f83, [D85.sg], [.p (.sl (.st 2)), .p (.int .i64)], [], [.p (.int .i64)], [], [], s_table_find, s_table_find,
.nil⟩
theorem D86_ok : SigOk X0.E 83 D86.sig := D86.ok G0 Tryz.func83 ⟨D85_ok, trivial⟩ rfl rfl (by kernel_rfl)

/-! ### tablefinder/table.Get -/
noncomputable def D87 : FD U := ⟨39, Tryz.f39, [D86.sg, D45.sg], [.p (.sl (.st 2)), .p (.st 5)], [], [.p (.st 1), .p .bool], [], [], s_table_Get, s_table_Get,
.j 91011 [0,3,4,6,28] [] [qe10, qe1, qe2, qe0, qe5] [.boxS (.st 5), qo23, qo15] s_table_Get_j1 <|
.nil⟩
theorem D87_ok : SigOk X0.E 39 D87.sig := D87.ok G0 Tryz.func39 ⟨D86_ok, D45_ok, trivial⟩ rfl rfl (by kernel_rfl)

/-! ### tablefinder/tablefinderref03.Find -/
noncomputable def D88 : FD U := ⟨44, Tryz.f44, [], [.p (.sl (.st 2)), .p (.int .i64)], [], [.p (.st 2), .p .bool], [], [], s_tablefinderref03_Find, s_tablefinderref03_Find,
.lr 94101 [1,4,8,9,10] [] [qe0, qe1, qe10, qe0, qe0] [qo30, qo7] 0 [4] [] [qe1] [qo30, qo7] s_tablefinderref03_Find_l1 s_tablefinderref03_Find_k1 (fun _ => .nil) <|
.nil⟩
theorem D88_ok : SigOk X0.E 44 D88.sig := D88.ok G0 Tryz.func44 trivial rfl rfl (by kernel_rfl)

/-! ### tablefinder/tablefinderref03.Get -/
noncomputable def D89 : FD U := ⟨40, Tryz.f40, [D88.sg], [.p (.sl (.st 2)), .p (.st 5)], [], [.p (.st 1), .p .bool], [], [], s_tablefinderref03_Get, s_tablefinderref03_Get,
.j 91011 [3,4,6,29] [] [qe1, qe2, qe28, qe5] [.boxS (.st 5), qo17, qo8, qo15] s_tablefinderref03_Get_j1 <|
.nil⟩
theorem D89_ok : SigOk X0.E 40 D89.sig := D89.ok G0 Tryz.func40 ⟨D88_ok, trivial⟩ rfl rfl (by kernel_rfl)

/-! ### cmp.isNaN[int] -/
noncomputable def D90 : FD U := ⟨126, Tryz.f126, [], [.p (.int .i64)], [], [.p .bool], [], [], s_cmp_isNaN_int, s_cmp_isNaN_int,
.nil⟩
theorem D90_ok : SigOk X0.E 126 D90.sig := D90.ok G0 Tryz.func126 trivial rfl rfl (by kernel_rfl)

/-! ### cmp.Compare[int] -/
noncomputable def D91 : FD U := ⟨85, Tryz.f85, [D90.sg], [.p (.int .i64), .p (.int .i64)], [], [.p (.int .i64)], [], [], s_cmp_Compare_int, s_cmp_Compare_int,
.nil⟩
theorem D91_ok : SigOk X0.E 85 D91.sig := D91.ok G0 Tryz.func85 ⟨D90_ok, trivial⟩ rfl rfl (by kernel_rfl)

/-! ### cmp.Or[int] -/
noncomputable def D92 : FD U := ⟨84, Tryz.f84, [], [.p (.sl (.int .i64))], [], [.p (.int .i64)], [], [], s_cmp_Or_int, s_cmp_Or_int,
.lr 941011 [3,6,7,8] [] [qe0, qe6, qe0, qe0] [] 0 [3] [] [qe0] [] s_cmp_Or_int_l1 s_cmp_Or_int_k1 (fun _ => .nil) <|
.nil⟩
theorem D92_ok : SigOk X0.E 84 D92.sig := D92.ok G0 Tryz.func84 trivial rfl rfl (by kernel_rfl)

/-! ### tablefinder/table.Less -/
noncomputable def D93 : FD U := ⟨41, Tryz.f41, [D91.sg, D92.sg], [.p (.st 5), .p (.st 5)], [], [.p .bool], [], [], s_table_Less, s_table_Less,
.nil⟩
theorem D93_ok : SigOk X0.E 41 D93.sig := D93.ok G0 Tryz.func41 ⟨D91_ok, D92_ok, trivial⟩ rfl rfl (by kernel_rfl)

/-! ### tablefinder/tablefinderref03.Less -/
noncomputable def D94 : FD U := ⟨42, Tryz.f42, [], [.p (.st 5), .p (.st 5)], [], [.p .bool], [], [], s_tablefinderref03_Less, s_tablefinderref03_Less,
.j 911 [4] [] [qe5] [] s_tablefinderref03_Less_j1 <|
.nil⟩
theorem D94_ok : SigOk X0.E 42 D94.sig := D94.ok G0 Tryz.func42 trivial rfl rfl (by kernel_rfl)

/-! ### tablefinder/table.Find$1 -/
noncomputable def D95 : FD U := ⟨86, Tryz.f86, [D45.sg], [.p (.int .i64), .ptr (.st 2)], [], [.p (.st 1)], [], [], s_table_Find_1, s_table_Find_1,
.nil⟩
theorem D95_ok : SigOk X0.E 86 D95.sig := D95.ok G0 Tryz.func86 ⟨D45_ok, trivial⟩ rfl rfl (by kernel_rfl)

/-! ### tablefinder/table.with -/
noncomputable def D96 : FD U := ⟨69, Tryz.f69, [D95.sg], [.p (.st 2), .p (.int .i64), .fn 86 [] [.pp (.st 2)]], [], [.p (.st 2)], [], [], s_table_with_3, s_table_with_3,
.lo 941011 [2,6,7,14,15] [] [.fn 86 [] [.pp (.st 2)], qe1, qe2, qe0, qe0] qp0 0 [6,7] [] qs5 qp0 s_table_with_3_l1 s_table_with_3_k1 (fun _ => .nil) <|
.nil⟩
theorem D96_ok : SigOk X0.E 69 D96.sig := D96.ok G0 Tryz.func69 ⟨D95_ok, trivial⟩ rfl rfl (by kernel_rfl)

/-! ### tablefinder/table.Find -/
noncomputable def D97 : FD U := ⟨43, Tryz.f43, [D86.sg, D96.sg], [.p (.sl (.st 2)), .p (.int .i64)], [], [.p (.st 2), .p .bool], [], [], s_table_Find, s_table_Find,
.nil⟩
theorem D97_ok : SigOk X0.E 43 D97.sig := D97.ok G0 Tryz.func43 ⟨D86_ok, D96_ok, trivial⟩ rfl rfl (by kernel_rfl)

/-! ### tablefinder/tablefinderlaw03.TableSteps -/
noncomputable def D98 : FD U := ⟨4, Tryz.f4, [D28.sg, D29.sg, D36.sg, D30.sg, D35.sg, D37.sg, D38.sg, D10.sg, D42.sg, D0.sg, D43.sg, D48.sg, D49.sg, D26.sg, D50.sg, D52.sg, D27.sg, D56.sg, D57.sg, D58.sg, D51.sg, D62.sg, D77.sg, D78.sg, D80.sg, D81.sg, D82.sg, D83.sg, D87.sg, D89.sg, D93.sg, D94.sg, D97.sg, D88.sg, D13.sg, D54.sg, D5.sg, D41.sg], [.p (.sl (.int .u8)), .p (.int .i64), .p (.int .i64), .p (.sl (.int .i64)), .p (.sl (.int .i64)), .p (.st 0), .p (.st 0)], [], [.p .bool], [], [], s_tablefinderlaw03_TableSteps, s_tablefinderlaw03_TableSteps,
.j 91011 [0,1,2,3,4,12,13,64] [] [.o (.v (.sl (.int .u8))), qe0, qe0, qe6, qe6, qe1, qe2, qe5] [qo13, qo13] s_tablefinderlaw03_TableSteps_j1 <|
.lr 94101111111 [1,2,3,4,12,13,16,17,18,85,86,87] [18] [qe0, qe0, qe6, qe6, qe1, qe2, qe14, qe25, qe6, .o (.full (0, 5, 1)), qe0, qe0] [qo13, qo13, qo19, qo8, qo19] 0 [1,2,12,13,16,17] [] [qe0, qe0, qe1, qe2, qe14, qe25] [qo13, qo13, qo19, qo8] s_tablefinderlaw03_TableSteps_l1 s_tablefinderlaw03_TableSteps_k6 (fun n0 => .j 9101401154101111111 [1,2,3,4,12,13,16,17,18,20,85,86,87,102] [] [qe0, qe0, qe6, qe6, qe1, qe2, qe14, qe25, qe6, qe33, qe36, qe0, qe0, qe5] [qo13, qo13, qo19, qo8, qo8, qo19] (s_tablefinderlaw03_TableSteps_j2 (s_tablefinderlaw03_TableSteps_l1 n0)) <|
.lr 941011401154101111111 [1,2,3,4,12,13,16,17,18,20,85,86,87,106,107,108] [] [qe0, qe0, qe6, qe6, qe1, qe2, qe14, qe25, qe6, qe33, qe36, qe0, qe0, .o (.full (0, 7, 1)), qe0, qe0] qp2 2 [1,2,3,4,12,13,16,17,18,20,85,86,87] [] [qe0, qe0, qe6, qe6, qe1, qe2, qe14, qe25, qe6, qe33, qe36, qe0, qe0] [qo13, qo13, qo19, qo8, qo8, qo19] s_tablefinderlaw03_TableSteps_l2 (s_tablefinderlaw03_TableSteps_k4 (s_tablefinderlaw03_TableSteps_l1 n0)) (fun n1 => .j 91111114011541011401154101111111 [1,2,3,4,12,13,16,17,18,20,85,86,87,106,107,108,155] [] [qe0, qe0, qe6, qe6, qe1, qe2, qe14, qe25, qe6, qe33, qe36, qe0, qe0, .o (.full (0, 7, 1)), qe0, qe0, qe5] qp2 (s_tablefinderlaw03_TableSteps_j3 (s_tablefinderlaw03_TableSteps_l2 n1)) <|
.nil) <|
.j 911111111401154101111111 [1,2,3,4,12,13,16,17,18,85,86,87,222] [] [qe0, qe0, qe6, qe6, qe1, qe2, qe14, qe25, qe6, .o (.full (0, 5, 1)), qe0, qe0, qe5] [qo13, qo13, qo19, qo8, qo19] (s_tablefinderlaw03_TableSteps_j5 (s_tablefinderlaw03_TableSteps_l1 n0)) <|
.nil) <|
.j 910111111111 [1,2,12,13,16,253] [] [qe0, qe0, qe1, qe2, qe10, qe5] [qo13, qo13] s_tablefinderlaw03_TableSteps_j7 <|
.lr 94101111111111 [1,2,12,13,16,255,256,257] [] [qe0, qe0, qe1, qe2, qe10, qe14, qe0, qe0] [qo13, qo13, qo27] 4 [2,12,13,16] [] [qe0, qe1, qe2, qe10] [qo13, qo13] s_tablefinderlaw03_TableSteps_l3 s_tablefinderlaw03_TableSteps_k9 (fun n0 => .j 91111111401154101111111111 [1,2,12,13,16,255,256,257,323] [] [qe0, qe0, qe1, qe2, qe10, qe14, qe0, qe0, qe5] [qo13, qo13, qo27] (s_tablefinderlaw03_TableSteps_j8 (s_tablefinderlaw03_TableSteps_l3 n0)) <|
.nil) <|
.j 911111111111111 [14] [] [qe5] [] s_tablefinderlaw03_TableSteps_j10 <|
.nil⟩
theorem D98_ok : SigOk X0.E 4 D98.sig := D98.ok G0 Tryz.func4 ⟨D28_ok, D29_ok, D36_ok, D30_ok, D35_ok, D37_ok, D38_ok, D10_ok, D42_ok, D0_ok, D43_ok, D48_ok, D49_ok, D26_ok, D50_ok, D52_ok, D27_ok, D56_ok, D57_ok, D58_ok, D51_ok, D62_ok, D77_ok, D78_ok, D80_ok, D81_ok, D82_ok, D83_ok, D87_ok, D89_ok, D93_ok, D94_ok, D97_ok, D88_ok, D13_ok, D54_ok, D5_ok, D41_ok, trivial⟩ rfl rfl (by kernel_rfl)

end
end Go.Proofs
