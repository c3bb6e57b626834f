/- Printed by wip/tools/tgen.py: walks. -/
import Derived.Test.YtahbkngofdpehaaDoorTsU
import Derived.Test.YtahbkngofdpehaaDoorTsX
set_option linter.unusedVariables false
set_option linter.unusedSimpArgs false
set_option linter.unusedSectionVars false
namespace Go.Proofs
open Go Eng
set_option maxRecDepth 100000

noncomputable section
abbrev qe0 : Sh := .o (.v (.int .i64))
abbrev qe1 : Sh := .o (.v .bool)
abbrev qe2 : Sh := .o (.ptr (0, 1, 1) 0 0)
abbrev qe3 : Sh := .o (.ptr (0, 2, 1) 0 0)
abbrev qo4 : ShO := .arr (.int .u8) false
abbrev qe5 : Sh := .o (.full (0, 1, 1))
abbrev qo6 : ShO := .box [.o (.v (.int .i64)), .o (.v .str), .o (.full (0, 4, 1))]
abbrev qo7 : ShO := .arr (.int .i64) false
abbrev qo8 : ShO := .arr (.st 0) false
abbrev qo9 : ShO := .box [.o (.v (.int .i64)), .o (.v .str), .o (.full (0, 3, 1))]
abbrev qo10 : ShO := .boxS (.st 2)
abbrev qe11 : Sh := .o (.v (.int .i32))
abbrev qe12 : Sh := .o (.v (.int .u8))
abbrev qo13 : ShO := .box [.o (.v .str), .o (.full (0, 4, 1))]
abbrev qe14 : Sh := .fn 63 [] [.pp (.st 2)]
abbrev qe15 : Sh := .o (.ptr (0, 3, 1) 0 0)
abbrev qe16 : Sh := .o (.v .str)
abbrev qo17 : ShO := .arr (.st 1) false
abbrev qe18 : Sh := .o (.full (0, 0, 0))
abbrev qo19 : ShO := .boxS (.st 4)
abbrev qo20 : ShO := .box [.o (.v .str), .o (.full (0, 3, 1))]
abbrev qe21 : Sh := .o (.v (.sl (.st 1)))
abbrev qe22 : Sh := .o (.full (0, 3, 1))
abbrev qe23 : Sh := .o (.ptr (0, 0, 0) 0 0)
abbrev qo24 : ShO := .map .str (.int .i64)
abbrev qo25 : ShO := .box [.o (.v .str), .o (.full (0, 5, 1))]
abbrev qe26 : Sh := .o (.v (.sl (.st 0)))
abbrev qe27 : Sh := .o (.full (0, 4, 1))
abbrev qe28 : Sh := .o (.map (0, 2, 1))
abbrev qs0 : List Sh := [qe16, qe1]
abbrev qp1 : List ShO := [qo19, qo10, qo10]

/-! ### tablefinder/table.Rows -/
noncomputable def D0 : FD U := ⟨31, Tryd.f31, [], [.p (.st 2)], [], [.p (.int .i64)], [], [], s_table_Rows, s_table_Rows,
.nil⟩
theorem D0_ok : SigOk X0.E 31 D0.sig := D0.ok G0 Tryd.func31 trivial rfl rfl (by kernel_rfl)

/-! ### unicode/utf8.word[string] -/
noncomputable def D1 : FD U := ⟨180, Tryd.f180, [], [.p .str], [], [.p (.int .u64)], [], [], s_unicode_utf8_word_string, s_unicode_utf8_word_string,
.nil⟩
theorem D1_ok : SigOk X0.E 180 D1.sig := D1.ok G0 Tryd.func180 trivial rfl rfl (by kernel_rfl)

/-! ### unicode/utf8.ValidString -/
noncomputable def D2 : FD U := ⟨162, Tryd.f162, [D1.sg], [.p .str], [], [.p .bool], [], [], s_unicode_utf8_ValidString, s_unicode_utf8_ValidString,
.lr 9401 [0] [] [qe16] [] 0 [] [] [] [] s_unicode_utf8_ValidString_l1 s_unicode_utf8_ValidString_k9 (fun n0 => .j 91012101415401 [0,24] [] qs0 [] (s_unicode_utf8_ValidString_j1 (s_unicode_utf8_ValidString_l1 n0)) <|
.j 91121012101415401 [0,39] [] qs0 [] (s_unicode_utf8_ValidString_j2 (s_unicode_utf8_ValidString_l1 n0)) <|
.lo 94121121012101415401 [0] [] [qe16] [] 2 [0] [] [qe16] [] s_unicode_utf8_ValidString_l2 (s_unicode_utf8_ValidString_k4 (s_unicode_utf8_ValidString_l1 n0)) (fun n1 => .j 91054121121012101415401 [0,62] [] qs0 [] (s_unicode_utf8_ValidString_j3 (s_unicode_utf8_ValidString_l2 n1)) <|
.nil) <|
.j 9112101415401 [0] [] [qe16] [] (s_unicode_utf8_ValidString_j5 (s_unicode_utf8_ValidString_l1 n0)) <|
.j 910214111111415401 [0,94] [] qs0 [] (s_unicode_utf8_ValidString_j6 (s_unicode_utf8_ValidString_l1 n0)) <|
.j 91021314111111415401 [0,125] [] qs0 [] (s_unicode_utf8_ValidString_j7 (s_unicode_utf8_ValidString_l1 n0)) <|
.j 9102131314111111415401 [0,166] [] qs0 [] (s_unicode_utf8_ValidString_j8 (s_unicode_utf8_ValidString_l1 n0)) <|
.nil) <|
.nil⟩
theorem D2_ok : SigOk X0.E 162 D2.sig := D2.ok G0 Tryd.func162 ⟨D1_ok, trivial⟩ rfl rfl (by kernel_rfl)

/-! ### tablefinder/text.Valid -/
noncomputable def D3 : FD U := ⟨136, Tryd.f136, [D2.sg], [.p .str], [], [.p .bool], [], [], s_text_Valid, s_text_Valid,
.nil⟩
theorem D3_ok : SigOk X0.E 136 D3.sig := D3.ok G0 Tryd.func136 ⟨D2_ok, trivial⟩ rfl rfl (by kernel_rfl)

/-! ### tablefinder/table.fine -/
noncomputable def D4 : FD U := ⟨99, Tryd.f99, [D3.sg], [.p .str], [], [.p .bool], [], [], s_table_fine, s_table_fine,
.j 911 [2] [] [qe1] [] s_table_fine_j1 <|
.nil⟩
theorem D4_ok : SigOk X0.E 99 D4.sig := D4.ok G0 Tryd.func99 ⟨D3_ok, trivial⟩ rfl rfl (by kernel_rfl)

/-! ### tablefinder/table.ValidCell -/
noncomputable def D5 : FD U := ⟨103, Tryd.f103, [D4.sg], [.p (.st 0)], [], [.p .bool], [], [], s_table_ValidCell, s_table_ValidCell,
.j 911 [2] [] [qe1] [] s_table_ValidCell_j1 <|
.nil⟩
theorem D5_ok : SigOk X0.E 103 D5.sig := D5.ok G0 Tryd.func103 ⟨D4_ok, trivial⟩ rfl rfl (by kernel_rfl)

/-! ### tablefinder/table.every[tablefinder/api.Cell] -/
noncomputable def D6 : FD U := ⟨102, Tryd.f102, [D5.sg], [.p (.sl (.st 0)), .fn 103 [] []], [], [.p .bool], [], [], s_table_every_api_Cell, s_table_every_api_Cell,
.lr 94101 [1,7,8,9] [] [.fn 103 [] [], qe26, qe0, qe0] [] 0 [] [] [] [] s_table_every_api_Cell_l1 s_table_every_api_Cell_k1 (fun _ => .nil) <|
.nil⟩
theorem D6_ok : SigOk X0.E 102 D6.sig := D6.ok G0 Tryd.func102 ⟨D5_ok, trivial⟩ rfl rfl (by kernel_rfl)

/-! ### tablefinder/table.Valid$1 -/
noncomputable def D7 : FD U := ⟨101, Tryd.f101, [D4.sg, D0.sg, D6.sg], [.p (.st 1), .ptr (.st 2)], [], [.p .bool], [], [], s_table_Valid_1, s_table_Valid_1,
.j 911 [3] [] [qe1] [] s_table_Valid_1_j1 <|
.nil⟩
theorem D7_ok : SigOk X0.E 101 D7.sig := D7.ok G0 Tryd.func101 ⟨D4_ok, D0_ok, D6_ok, trivial⟩ rfl rfl (by kernel_rfl)

/-! ### slices.IndexFunc[[]tablefinder/api.Column,tablefinder/api.Column] -/
noncomputable def D8 : FD U := ⟨137, Tryd.f137, [D7.sg], [.p (.sl (.st 1)), .fn 101 [] [.pp (.st 2)]], [], [.p (.int .i64)], [], [], s_slices_IndexFunc_api_Column_api_Column, s_slices_IndexFunc_api_Column_api_Column,
.lr 94101 [0,1,7,8] [] [qe21, .fn 101 [] [.pp (.st 2)], qe0, qe0] [] 0 [] [] [] [] s_slices_IndexFunc_api_Column_api_Column_l1 s_slices_IndexFunc_api_Column_api_Column_k1 (fun _ => .nil) <|
.nil⟩
theorem D8_ok : SigOk X0.E 137 D8.sig := D8.ok G0 Tryd.func137 ⟨D7_ok, trivial⟩ rfl rfl (by kernel_rfl)

/-! ### slices.ContainsFunc[[]tablefinder/api.Column,tablefinder/api.Column] -/
noncomputable def D9 : FD U := ⟨100, Tryd.f100, [D8.sg], [.p (.sl (.st 1)), .fn 101 [] [.pp (.st 2)]], [], [.p .bool], [], [], s_slices_ContainsFunc_api_Column_api_Column, s_slices_ContainsFunc_api_Column_api_Column,
.nil⟩
theorem D9_ok : SigOk X0.E 100 D9.sig := D9.ok G0 Tryd.func100 ⟨D8_ok, trivial⟩ rfl rfl (by kernel_rfl)

/-! ### tablefinder/table.Valid -/
noncomputable def D10 : FD U := ⟨60, Tryd.f60, [D4.sg, D0.sg, D9.sg], [.p (.st 2)], [], [.p .bool], [], [], s_table_Valid, s_table_Valid,
.j 9101 [1,27] [] [qe2, qe1] [qo10] s_table_Valid_j1 <|
.nil⟩
theorem D10_ok : SigOk X0.E 60 D10.sig := D10.ok G0 Tryd.func60 ⟨D4_ok, D0_ok, D9_ok, trivial⟩ rfl rfl (by kernel_rfl)

/-! ### cmp.isNaN[string] -/
noncomputable def D11 : FD U := ⟨109, Tryd.f109, [], [.p .str], [], [.p .bool], [], [], s_cmp_isNaN_string, s_cmp_isNaN_string,
.nil⟩
theorem D11_ok : SigOk X0.E 109 D11.sig := D11.ok G0 Tryd.func109 trivial rfl rfl (by kernel_rfl)

/-! ### cmp.Compare[string] -/
noncomputable def D12 : FD U := ⟨69, Tryd.f69, [D11.sg], [.p .str, .p .str], [], [.p (.int .i64)], [], [], s_cmp_Compare_string, s_cmp_Compare_string,
.nil⟩
theorem D12_ok : SigOk X0.E 69 D12.sig := D12.ok G0 Tryd.func69 ⟨D11_ok, trivial⟩ rfl rfl (by kernel_rfl)

/-! ### tablefinder/table.CompareCells -/
noncomputable def D13 : FD U := ⟨33, Tryd.f33, [D12.sg], [.p (.st 0), .p (.st 0)], [], [.p (.int .i64)], [], [], s_table_CompareCells, s_table_CompareCells,
.j 91401 [2,3,5] [] [qe2, qe3, qe1] [.boxS (.st 0), .boxS (.st 0)] s_table_CompareCells_j1 <|
.nil⟩
theorem D13_ok : SigOk X0.E 33 D13.sig := D13.ok G0 Tryd.func33 ⟨D12_ok, trivial⟩ rfl rfl (by kernel_rfl)

/-! ### tablefinder/table.Sort$1 -/
noncomputable def D14 : FD U := ⟨63, Tryd.f63, [D13.sg], [.p (.int .i64), .p (.int .i64), .ptr (.st 2)], [], [.p (.int .i64)], [], [], s_table_Sort_1, s_table_Sort_1,
.lr 94101 [0,1,10,11,12] [] [qe0, qe0, qe21, qe0, qe0] [] 0 [] [] [] [] s_table_Sort_1_l1 s_table_Sort_1_k1 (fun _ => .nil) <|
.nil⟩
theorem D14_ok : SigOk X0.E 63 D14.sig := D14.ok G0 Tryd.func63 ⟨D13_ok, trivial⟩ rfl rfl (by kernel_rfl)

/-! ### slices.insertionSortCmpFunc[int] -/
noncomputable def D15 : FD U := ⟨140, Tryd.f140, [D14.sg], [.arr (.int .i64), .p (.int .i64), .p (.int .i64), .fn 63 [] [.pp (.st 2)]], [(0, .arr (.int .i64))], [], [], [], s_slices_insertionSortCmpFunc_int, s_slices_insertionSortCmpFunc_int_w,
.lo 941 [0,1,2,3,8] [] [qe18, qe0, qe0, qe14, qe0] [qo7] 0 [] [] [] [qo7] s_slices_insertionSortCmpFunc_int_l1 s_slices_insertionSortCmpFunc_int_k3 (fun n0 => .lo 941401541 [0,1,2,3,8,9] [] [qe18, qe0, qe0, qe14, qe0, qe0] [qo7] 2 [0,1,2,3,8] [] [qe18, qe0, qe0, qe14, qe0] [qo7] s_slices_insertionSortCmpFunc_int_l2 (s_slices_insertionSortCmpFunc_int_k2 (s_slices_insertionSortCmpFunc_int_l1 n0)) (fun n1 => .j 910541401541 [0,1,2,3,8,9,34] [] [qe18, qe0, qe0, qe14, qe0, qe0, qe1] [qo7] (s_slices_insertionSortCmpFunc_int_j1 (s_slices_insertionSortCmpFunc_int_l2 n1)) <|
.nil) <|
.nil) <|
.nil⟩
theorem D15_ok : SigOk X0.E 140 D15.sig := D15.okA G0 Tryd.func140 ⟨D14_ok, trivial⟩ (by kernel_rfl) (by kernel_rfl)

/-! ### slices.stableCmpFunc[int] -/
noncomputable def D19 : FD U := ⟨106, Tryd.f106, [D15.sg], [.arr (.int .i64), .p (.int .i64), .fn 63 [] [.pp (.st 2)]], [(0, .arr (.int .i64))], [], [], [], s_slices_stableCmpFunc_int, s_slices_stableCmpFunc_int_w,
.lo 94011 [0,1,2,6,7,8] [] [qe18, qe0, qe14, qe0, qe0, qe0] [qo7] 0 [0,1,2,6,7] [] [qe18, qe0, qe14, qe0, qe0] [qo7] s_slices_stableCmpFunc_int_l1 s_slices_stableCmpFunc_int_k1 (fun _ => .nil) <|
.lo 941111 [0,1,2,6] [] [qe18, qe0, qe14, qe0] [qo7] 2 [] [] [] [qo7] s_slices_stableCmpFunc_int_l2 s_slices_stableCmpFunc_int_k3 (fun n0 => .lo 940141541111 [0,1,2,6,7,8] [] [qe18, qe0, qe14, qe0, qe0, qe0] [qo7] 4 [0,1,2,6,7] [] [qe18, qe0, qe14, qe0, qe0] [qo7] s_slices_stableCmpFunc_int_l3 (s_slices_stableCmpFunc_int_k2 (s_slices_stableCmpFunc_int_l2 n0)) (fun _ => .nil) <|
.nil) <|
.nil⟩
theorem D19_ok : SigOk X0.E 106 D19.sig := D19.okA G0 Tryd.func106 ⟨D15_ok, trivial⟩ (by kernel_rfl) (by kernel_rfl)

/-! ### slices.SortStableFunc[[]int,int] -/
noncomputable def D20 : FD U := ⟨62, Tryd.f62, [D19.sg], [.arr (.int .i64), .fn 63 [] [.pp (.st 2)]], [(0, .arr (.int .i64))], [], [], [], s_slices_SortStableFunc_int_int, s_slices_SortStableFunc_int_int_w,
.nil⟩
theorem D20_ok : SigOk X0.E 62 D20.sig := D20.okA G0 Tryd.func62 ⟨D19_ok, trivial⟩ (by kernel_rfl) (by kernel_rfl)

/-! ### tablefinder/table.within$1 -/
noncomputable def D21 : FD U := ⟨111, Tryd.f111, [], [.p (.int .i64), .ptr (.int .i64)], [], [.p .bool], [], [], s_table_within_1, s_table_within_1,
.j 911 [3] [] [qe1] [] s_table_within_1_j1 <|
.nil⟩
theorem D21_ok : SigOk X0.E 111 D21.sig := D21.ok G0 Tryd.func111 trivial rfl rfl (by kernel_rfl)

/-! ### tablefinder/table.every[int] -/
noncomputable def D22 : FD U := ⟨110, Tryd.f110, [D21.sg], [.p (.sl (.int .i64)), .fn 111 [] [.pp (.int .i64)]], [], [.p .bool], [], [], s_table_every_int, s_table_every_int,
.lr 94101 [1,7,8,9] [] [.fn 111 [] [.pp (.int .i64)], .o (.v (.sl (.int .i64))), qe0, qe0] [] 0 [] [] [] [] s_table_every_int_l1 s_table_every_int_k1 (fun _ => .nil) <|
.nil⟩
theorem D22_ok : SigOk X0.E 110 D22.sig := D22.ok G0 Tryd.func110 ⟨D21_ok, trivial⟩ rfl rfl (by kernel_rfl)

/-! ### tablefinder/table.within -/
noncomputable def D23 : FD U := ⟨70, Tryd.f70, [D22.sg], [.p (.sl (.int .i64)), .p (.int .i64)], [], [.p .bool], [], [], s_table_within, s_table_within,
.nil⟩
theorem D23_ok : SigOk X0.E 70 D23.sig := D23.ok G0 Tryd.func70 ⟨D22_ok, trivial⟩ rfl rfl (by kernel_rfl)

/-! ### tablefinder/table.Select$1 -/
noncomputable def D24 : FD U := ⟨72, Tryd.f72, [], [.p (.int .i64), .ptr (.st 2), .ptr (.sl (.int .i64))], [], [.p (.st 1)], [], [], s_table_Select_1, s_table_Select_1,
.lo 941011 [0,1,4,5,15,16,17] [] [qe0, .o (.pp (.st 2)), qe2, qe3, .o (.v (.sl (.int .i64))), qe0, qe0] [qo20, qo13, qo8, qo8] 0 [4,5] [] [qe2, qe3] [qo20, qo13, qo8, qo8] s_table_Select_1_l1 s_table_Select_1_k1 (fun _ => .nil) <|
.nil⟩
theorem D24_ok : SigOk X0.E 72 D24.sig := D24.ok G0 Tryd.func72 trivial rfl rfl (by kernel_rfl)

/-! ### tablefinder/table.with -/
noncomputable def D25 : FD U := ⟨71, Tryd.f71, [D24.sg], [.p (.st 2), .p (.int .i64), .fn 72 [] [.pp (.st 2), .pp (.sl (.int .i64))]], [], [.p (.st 2)], [], [], s_table_with, s_table_with,
.lo 941011 [2,6,7,14,15] [] [.fn 72 [] [.pp (.st 2), .pp (.sl (.int .i64))], qe2, qe3, qe0, qe0] [qo9, qo6, qo17, qo17] 0 [6,7] [] [qe2, qe3] [qo9, qo6, qo17, qo17] s_table_with_l1 s_table_with_k1 (fun _ => .nil) <|
.nil⟩
theorem D25_ok : SigOk X0.E 71 D25.sig := D25.ok G0 Tryd.func71 ⟨D24_ok, trivial⟩ rfl rfl (by kernel_rfl)

/-! ### tablefinder/table.Select -/
noncomputable def D26 : FD U := ⟨35, Tryd.f35, [D10.sg, D0.sg, D23.sg, D25.sg], [.p (.st 2), .p (.sl (.int .i64))], [], [.p (.st 2), .p (.int .i64)], [], [], s_table_Select, s_table_Select,
.nil⟩
theorem D26_ok : SigOk X0.E 35 D26.sig := D26.ok G0 Tryd.func35 ⟨D10_ok, D0_ok, D23_ok, D25_ok, trivial⟩ rfl rfl (by kernel_rfl)

/-! ### tablefinder/table.Sort -/
noncomputable def D27 : FD U := ⟨28, Tryd.f28, [D0.sg, D10.sg, D20.sg, D26.sg], [.p (.st 2)], [], [.p (.st 2), .p (.int .i64)], [], [], s_table_Sort, s_table_Sort,
.lo 941011 [1,2,4,10,11] [] [qe2, qe3, qe22, qe0, qe0] [qo10, qo6, qo7, qo17] 0 [1,2,4] [] [qe2, qe3, qe22] [qo10, qo6, qo7, qo17] s_table_Sort_l1 s_table_Sort_k1 (fun _ => .nil) <|
.j 91111 [1,2,4] [1] [.o (.pp (.st 2)), qe2, .o (.full (0, 2, 1))] [qo9, qo7, qo17] s_table_Sort_j2 <|
.nil⟩
theorem D27_ok : SigOk X0.E 28 D27.sig := D27.ok G0 Tryd.func28 ⟨D0_ok, D10_ok, D20_ok, D26_ok, trivial⟩ rfl rfl (by kernel_rfl)

/-! ### tablefinder/tablefinderlaw03.sane -/
noncomputable def D28 : FD U := ⟨25, Tryd.f25, [D27.sg, D10.sg, D0.sg], [], [], [.p .bool], [], [], s_tablefinderlaw03_sane, s_tablefinderlaw03_sane,
.j 91111 [0] [] [qe1] [] s_tablefinderlaw03_sane_j1 <|
.nil⟩
theorem D28_ok : SigOk X0.E 25 D28.sig := D28.ok G0 Tryd.func25 ⟨D27_ok, D10_ok, D0_ok, trivial⟩ rfl rfl (by kernel_rfl)

/-! ### tablefinder/tablefindermill.New -/
noncomputable def D29 : FD U := ⟨26, Tryd.f26, [], [.p (.sl (.int .u8))], [], [.box (.st 4)], [], [], s_tablefindermill_New, s_tablefindermill_New,
.j 911 [0] [] [.o (.v (.sl (.int .u8)))] [] s_tablefindermill_New_j1 <|
.nil⟩
theorem D29_ok : SigOk X0.E 26 D29.sig := D29.ok G0 Tryd.func26 trivial rfl rfl (by kernel_rfl)

/-! ### (*tablefinder/tablefindermill.Dice).Pick -/
noncomputable def D30 : FD U := ⟨34, Tryd.f34, [], [.box (.st 4), .p (.int .i64)], [(0, .box (.st 4))], [.p (.int .i64)], [], [], s_tablefindermill_Dice_Pick, s_tablefindermill_Dice_Pick,
.nil⟩
theorem D30_ok : SigOk X0.E 34 D30.sig := D30.ok G0 Tryd.func34 trivial rfl rfl (by kernel_rfl)

/-! ### tablefinder/tablefindermill.Words -/
noncomputable def D31 : FD U := ⟨138, Tryd.f138, [], [], [], [.own .str], [], [], s_tablefindermill_Words, s_tablefindermill_Words,
.nil⟩
theorem D31_ok : SigOk X0.E 138 D31.sig := D31.ok G0 Tryd.func138 trivial rfl rfl (by kernel_rfl)

/-! ### (*tablefinder/tablefindermill.Dice).Cell -/
noncomputable def D32 : FD U := ⟨104, Tryd.f104, [D30.sg, D31.sg], [.box (.st 4)], [(0, .box (.st 4))], [.p (.st 0)], [], [], s_tablefindermill_Dice_Cell, s_tablefindermill_Dice_Cell,
.nil⟩
theorem D32_ok : SigOk X0.E 104 D32.sig := D32.ok G0 Tryd.func104 ⟨D30_ok, D31_ok, trivial⟩ rfl rfl (by kernel_rfl)

/-! ### (*tablefinder/tablefindermill.Dice).Column -/
noncomputable def D34 : FD U := ⟨61, Tryd.f61, [D30.sg, D32.sg, (105, S_s_strconv_Itoa.sig)], [.box (.st 4), .p (.int .i64)], [(0, .box (.st 4))], [.p (.st 1)], [], [], s_tablefindermill_Dice_Column, s_tablefindermill_Dice_Column,
.lo 9410111 [0,1,4,5,6,7] [] [qe23, qe0, qe2, qe3, qe1, qe0] [qo19, qo20, qo13, qo8, qo8] 0 [4,5] [] [qe2, qe3] [qo19, qo20, qo13, qo8, qo8] s_tablefindermill_Dice_Column_l1 s_tablefindermill_Dice_Column_k3 (fun n0 => .j 91014015410111 [0,1,4,5,6,7,8,30] [] [qe23, qe0, qe2, qe3, qe1, qe0, qe15, qe1] [qo19, qo13, qo25, .boxS (.st 0), qo8, qo8] (s_tablefindermill_Dice_Column_j1 (s_tablefindermill_Dice_Column_l1 n0)) <|
.j 9114015410111 [0,1,4,5,6,7,8] [] [qe23, qe0, qe2, qe3, qe1, qe0, qe15] [qo19, qo13, qo25, .boxS (.st 0), qo8, qo8] (s_tablefindermill_Dice_Column_j2 (s_tablefindermill_Dice_Column_l1 n0)) <|
.nil) <|
.nil⟩
theorem D34_ok : SigOk X0.E 61 D34.sig := D34.ok G0 Tryd.func61 ⟨D30_ok, D32_ok, S_s_strconv_Itoa_ok, trivial⟩ rfl rfl (by kernel_rfl)

/-! ### (*tablefinder/tablefindermill.Dice).Table -/
noncomputable def D35 : FD U := ⟨27, Tryd.f27, [D30.sg, D34.sg], [.box (.st 4), .p (.int .i64), .p (.int .i64), .p (.int .i64)], [(0, .box (.st 4))], [.p (.st 2)], [], [], s_tablefindermill_Dice_Table, s_tablefindermill_Dice_Table,
.lo 9410111 [0,8,9,10,11] [] [qe23, qe2, qe3, qe0, qe0] [qo19, qo9, qo6, qo17, qo17] 0 [8,9] [] [qe2, qe3] [qo19, qo9, qo6, qo17, qo17] s_tablefindermill_Dice_Table_l1 s_tablefindermill_Dice_Table_k1 (fun _ => .nil) <|
.nil⟩
theorem D35_ok : SigOk X0.E 27 D35.sig := D35.ok G0 Tryd.func27 ⟨D30_ok, D34_ok, trivial⟩ rfl rfl (by kernel_rfl)

/-! ### slices.Equal[[]tablefinder/api.Cell,tablefinder/api.Cell] -/
noncomputable def D36 : FD U := ⟨66, Tryd.f66, [], [.p (.sl (.st 0)), .p (.sl (.st 0))], [], [.p .bool], [], [], s_slices_Equal_api_Cell_api_Cell, s_slices_Equal_api_Cell_api_Cell,
.lr 941011 [0,1,12,13] [] [qe26, qe26, qe0, qe0] [] 0 [] [] [] [] s_slices_Equal_api_Cell_api_Cell_l1 s_slices_Equal_api_Cell_api_Cell_k1 (fun _ => .nil) <|
.nil⟩
theorem D36_ok : SigOk X0.E 66 D36.sig := D36.ok G0 Tryd.func66 trivial rfl rfl (by kernel_rfl)

/-! ### tablefinder/table.Same$1 -/
noncomputable def D37 : FD U := ⟨65, Tryd.f65, [D36.sg], [.p (.st 1), .p (.st 1)], [], [.p .bool], [], [], s_table_Same_1, s_table_Same_1,
.j 911 [4] [] [qe1] [] s_table_Same_1_j1 <|
.nil⟩
theorem D37_ok : SigOk X0.E 65 D37.sig := D37.ok G0 Tryd.func65 ⟨D36_ok, trivial⟩ rfl rfl (by kernel_rfl)

/-! ### slices.EqualFunc[[]tablefinder/api.Column,[]tablefinder/api.Column,tablefinder/api.Column,tablefinder/api.Column] -/
noncomputable def D38 : FD U := ⟨64, Tryd.f64, [D37.sg], [.p (.sl (.st 1)), .p (.sl (.st 1)), .fn 65 [] []], [], [.p .bool], [], [], s_slices_EqualFunc_api_Column_api_Column_api_Column_api_Column, s_slices_EqualFunc_api_Column_api_Column_api_Column_api_Column,
.lr 941011 [1,2,15,16,17] [] [qe21, .fn 65 [] [], qe21, qe0, qe0] [] 0 [] [] [] [] s_slices_EqualFunc_api_Column_api_Column_api_Column_api_Column_l1 s_slices_EqualFunc_api_Column_api_Column_api_Column_api_Column_k1 (fun _ => .nil) <|
.nil⟩
theorem D38_ok : SigOk X0.E 64 D38.sig := D38.ok G0 Tryd.func64 ⟨D37_ok, trivial⟩ rfl rfl (by kernel_rfl)

/-! ### tablefinder/table.Same -/
noncomputable def D39 : FD U := ⟨29, Tryd.f29, [D38.sg], [.p (.st 2), .p (.st 2)], [], [.p .bool], [], [], s_table_Same, s_table_Same,
.j 911 [4] [] [qe1] [] s_table_Same_j1 <|
.nil⟩
theorem D39_ok : SigOk X0.E 29 D39.sig := D39.ok G0 Tryd.func29 ⟨D38_ok, trivial⟩ rfl rfl (by kernel_rfl)

/-! ### internal/strconv.AppendBool -/
noncomputable def D40 : FD U := ⟨142, Tryd.f142, [], [.arr (.int .u8), .p .bool], [], [.own (.int .u8)], [], [], s_internal_strconv_AppendBool, s_internal_strconv_AppendBool,
.nil⟩
theorem D40_ok : SigOk X0.E 142 D40.sig := D40.ok G0 Tryd.func142 trivial rfl rfl (by kernel_rfl)

/-! ### strconv.AppendBool -/
noncomputable def D41 : FD U := ⟨107, Tryd.f107, [D40.sg], [.arr (.int .u8), .p .bool], [], [.own (.int .u8)], [], [], s_strconv_AppendBool, s_strconv_AppendBool,
.nil⟩
theorem D41_ok : SigOk X0.E 107 D41.sig := D41.ok G0 Tryd.func107 ⟨D40_ok, trivial⟩ rfl rfl (by kernel_rfl)

/-! ### unicode/utf8.decodeRuneInStringSlow -/
noncomputable def D42 : FD U := ⟨186, Tryd.f186, [], [.p .str], [], [.p (.int .i32), .p (.int .i64)], [], [], s_unicode_utf8_decodeRuneInStringSlow, s_unicode_utf8_decodeRuneInStringSlow,
.j 9101111111111 [0,5,8,10,57] [] [qe16, qe12, qe0, qe12, qe1] [] s_unicode_utf8_decodeRuneInStringSlow_j1 <|
.j 9101111111111111 [0,5,8,10,11,75] [] [qe16, qe12, qe0, qe12, qe12, qe1] [] s_unicode_utf8_decodeRuneInStringSlow_j2 <|
.j 9101111111111111111 [5,10,11,12,98] [] [qe12, qe12, qe12, qe12, qe1] [] s_unicode_utf8_decodeRuneInStringSlow_j3 <|
.nil⟩
theorem D42_ok : SigOk X0.E 186 D42.sig := D42.ok G0 Tryd.func186 trivial rfl rfl (by kernel_rfl)

/-! ### unicode/utf8.DecodeRuneInString -/
noncomputable def D43 : FD U := ⟨165, Tryd.f165, [D42.sg], [.p .str], [], [.p (.int .i32), .p (.int .i64)], [], [], s_unicode_utf8_DecodeRuneInString, s_unicode_utf8_DecodeRuneInString,
.j 9101 [0,10] [] qs0 [] s_unicode_utf8_DecodeRuneInString_j1 <|
.nil⟩
theorem D43_ok : SigOk X0.E 165 D43.sig := D43.ok G0 Tryd.func165 ⟨D42_ok, trivial⟩ rfl rfl (by kernel_rfl)

/-! ### strconv.IsPrint -/
noncomputable def D44 : FD U := ⟨187, Tryd.f187, [], [.p (.int .i32)], [], [.p .bool], [], [], s_strconv_IsPrint, s_strconv_IsPrint,
.j 9102101 [0,24] [] [qe11, qe1] [] s_strconv_IsPrint_j1 <|
.j 91012101 [0,30] [] [qe11, qe1] [] s_strconv_IsPrint_j2 <|
.j 91011 [0,38] [] [qe11, qe1] [] s_strconv_IsPrint_j3 <|
.nil⟩
theorem D44_ok : SigOk X0.E 187 D44.sig := D44.ok G0 Tryd.func187 trivial rfl rfl (by kernel_rfl)

/-! ### strconv.isInGraphicList -/
noncomputable def D45 : FD U := ⟨188, Tryd.f188, [], [.p (.int .i32)], [], [.p .bool], [], [], s_strconv_isInGraphicList, s_strconv_isInGraphicList,
.nil⟩
theorem D45_ok : SigOk X0.E 188 D45.sig := D45.ok G0 Tryd.func188 trivial rfl rfl (by kernel_rfl)

/-! ### unicode/utf8.appendRuneNonASCII -/
noncomputable def D46 : FD U := ⟨205, Tryd.f205, [], [.arr (.int .u8), .p (.int .i32)], [], [.own (.int .u8)], [], [], s_unicode_utf8_appendRuneNonASCII, s_unicode_utf8_appendRuneNonASCII,
.j 9131411 [0,1,5,25] [] [qe5, qe11, .o (.v (.int .u32)), qe1] [qo4] s_unicode_utf8_appendRuneNonASCII_j1 <|
.j 913131411 [0,1,50] [] [qe5, qe11, qe1] [qo4] s_unicode_utf8_appendRuneNonASCII_j2 <|
.nil⟩
theorem D46_ok : SigOk X0.E 205 D46.sig := D46.ok G0 Tryd.func205 trivial rfl rfl (by kernel_rfl)

/-! ### unicode/utf8.AppendRune -/
noncomputable def D47 : FD U := ⟨189, Tryd.f189, [D46.sg], [.arr (.int .u8), .p (.int .i32)], [], [.own (.int .u8)], [], [], s_unicode_utf8_AppendRune, s_unicode_utf8_AppendRune,
.nil⟩
theorem D47_ok : SigOk X0.E 189 D47.sig := D47.ok G0 Tryd.func189 ⟨D46_ok, trivial⟩ rfl rfl (by kernel_rfl)

/-! ### unicode/utf8.ValidRune -/
noncomputable def D48 : FD U := ⟨190, Tryd.f190, [], [.p (.int .i32)], [], [.p .bool], [], [], s_unicode_utf8_ValidRune, s_unicode_utf8_ValidRune,
.j 91401 [0,3] [] [qe11, qe1] [] s_unicode_utf8_ValidRune_j1 <|
.j 9131401 [10] [] [qe1] [] s_unicode_utf8_ValidRune_j2 <|
.nil⟩
theorem D48_ok : SigOk X0.E 190 D48.sig := D48.ok G0 Tryd.func190 trivial rfl rfl (by kernel_rfl)

/-! ### strconv.appendEscapedRune -/
noncomputable def D49 : FD U := ⟨166, Tryd.f166, [D44.sg, D45.sg, D47.sg, D48.sg], [.arr (.int .u8), .p (.int .i32), .p (.int .u8), .p .bool, .p .bool], [], [.own (.int .u8)], [], [], s_strconv_appendEscapedRune, s_strconv_appendEscapedRune,
.j 9101 [0,1,3,4,20] [] [qe5, qe11, qe1, qe1, qe1] [qo4] s_strconv_appendEscapedRune_j1 <|
.j 9121011 [0,1,36] [] [qe5, qe11, qe1] [qo4] s_strconv_appendEscapedRune_j2 <|
.j 9131011 [0,1,51] [] [qe5, qe11, qe1] [qo4] s_strconv_appendEscapedRune_j3 <|
.j 9111 [0,1] [] [qe5, qe11] [qo4] s_strconv_appendEscapedRune_j4 <|
.j 910040404040431313131313131410111 [0,1,56] [] [qe5, qe11, qe1] [qo4] s_strconv_appendEscapedRune_j5 <|
.j 9140431313131313131410111 [0,1] [] [qe5, qe11] [qo4] s_strconv_appendEscapedRune_j6 <|
.lo 94110140431313131313131410111 [0,1,11] [] [qe5, qe11, qe0] [qo4] 6 [0] [] [qe5] [qo4] s_strconv_appendEscapedRune_l1 s_strconv_appendEscapedRune_k7 (fun _ => .nil) <|
.lo 941101431313131313131410111 [0,1,12] [] [qe5, qe11, qe0] [qo4] 8 [0] [] [qe5] [qo4] s_strconv_appendEscapedRune_l2 s_strconv_appendEscapedRune_k8 (fun _ => .nil) <|
.j 91111 [0] [] [qe5] [qo4] s_strconv_appendEscapedRune_j9 <|
.nil⟩
theorem D49_ok : SigOk X0.E 166 D49.sig := D49.ok G0 Tryd.func166 ⟨D44_ok, D45_ok, D47_ok, D48_ok, trivial⟩ rfl rfl (by kernel_rfl)

/-! ### strconv.appendQuotedWith -/
noncomputable def D50 : FD U := ⟨143, Tryd.f143, [D43.sg, D49.sg], [.arr (.int .u8), .p .str, .p (.int .u8), .p .bool, .p .bool], [], [.own (.int .u8)], [], [], s_strconv_appendQuotedWith, s_strconv_appendQuotedWith,
.j 911 [0,1,2,3,4] [] [qe5, qe16, qe12, qe1, qe1] [qo4] s_strconv_appendQuotedWith_j1 <|
.lo 9410111 [0,1,2,3,4] [] [qe5, qe16, qe12, qe1, qe1] [qo4] 0 [0,2] [] [qe5, qe12] [qo4] s_strconv_appendQuotedWith_l1 s_strconv_appendQuotedWith_k4 (fun n0 => .j 91014015410111 [0,1,2,3,4,12,13,56] [] [qe5, qe16, qe12, qe1, qe1, qe11, qe0, qe1] [qo4] (s_strconv_appendQuotedWith_j2 (s_strconv_appendQuotedWith_l1 n0)) <|
.j 9115410111 [0,1,2,3,4,13] [] [qe5, qe16, qe12, qe1, qe1, qe0] [qo4] (s_strconv_appendQuotedWith_j3 (s_strconv_appendQuotedWith_l1 n0)) <|
.nil) <|
.nil⟩
theorem D50_ok : SigOk X0.E 143 D50.sig := D50.ok G0 Tryd.func143 ⟨D43_ok, D49_ok, trivial⟩ rfl rfl (by kernel_rfl)

/-! ### strconv.AppendQuote -/
noncomputable def D51 : FD U := ⟨108, Tryd.f108, [D50.sg], [.arr (.int .u8), .p .str], [], [.own (.int .u8)], [], [], s_strconv_AppendQuote, s_strconv_AppendQuote,
.nil⟩
theorem D51_ok : SigOk X0.E 108 D51.sig := D51.ok G0 Tryd.func108 ⟨D50_ok, trivial⟩ rfl rfl (by kernel_rfl)

/-! ### tablefinder/table.rows -/
noncomputable def D52 : FD U := ⟨68, Tryd.f68, [D0.sg, D41.sg, D51.sg], [.p (.st 2)], [], [.map .str (.int .i64)], [], [], s_table_rows, s_table_rows,
.lo 941011 [1,3,10,11] [] [qe2, qe28, qe0, qe0] [qo10, qo24] 0 [3] [] [.o (.map (0, 1, 1))] [qo24] s_table_rows_l1 s_table_rows_k2 (fun n0 => .lo 9410114011541011 [1,3,4,5,10,11,15,16,17] [] [qe2, qe28, qe0, qe22, qe0, qe0, qe21, qe0, qe0] [qo10, qo24, qo4] 2 [1,3,5,10,11] [] [qe2, qe28, qe22, qe0, qe0] [qo10, qo24, qo4] s_table_rows_l2 (s_table_rows_k1 (s_table_rows_l1 n0)) (fun _ => .nil) <|
.nil) <|
.nil⟩
theorem D52_ok : SigOk X0.E 68 D52.sig := D52.ok G0 Tryd.func68 ⟨D0_ok, D41_ok, D51_ok, trivial⟩ rfl rfl (by kernel_rfl)

/-! ### maps.Equal[map[string]int,map[string]int,string,int] -/
noncomputable def D53 : FD U := ⟨67, Tryd.f67, [], [.p (.map .str (.int .i64)), .p (.map .str (.int .i64))], [], [.p .bool], [], [], s_maps_Equal_map_string_int_map_string_int_string_int, s_maps_Equal_map_string_int_map_string_int_string_int,
.lr 941011 [1,15] [] [.o (.v (.map .str (.int .i64))), .o (.it (0, 1, 1))] [.mit .str (.int .i64)] 0 [] [] [] [] s_maps_Equal_map_string_int_map_string_int_string_int_l1 s_maps_Equal_map_string_int_map_string_int_string_int_k2 (fun n0 => .j 9111411541011 [1,15,33] [] [.o (.v (.map .str (.int .i64))), .o (.it (0, 1, 1)), qe1] [.mit .str (.int .i64)] (s_maps_Equal_map_string_int_map_string_int_string_int_j1 (s_maps_Equal_map_string_int_map_string_int_string_int_l1 n0)) <|
.nil) <|
.nil⟩
theorem D53_ok : SigOk X0.E 67 D53.sig := D53.ok G0 Tryd.func67 trivial rfl rfl (by kernel_rfl)

/-! ### tablefinder/table.SameRows -/
noncomputable def D54 : FD U := ⟨30, Tryd.f30, [D10.sg, D52.sg, D53.sg], [.p (.st 2), .p (.st 2)], [], [.p .bool], [], [], s_table_SameRows, s_table_SameRows,
.j 911 [4] [] [qe1] [] s_table_SameRows_j1 <|
.nil⟩
theorem D54_ok : SigOk X0.E 30 D54.sig := D54.ok G0 Tryd.func30 ⟨D10_ok, D52_ok, D53_ok, trivial⟩ rfl rfl (by kernel_rfl)

/-! ### tablefinder/table.Row -/
noncomputable def D55 : FD U := ⟨32, Tryd.f32, [D10.sg, D0.sg], [.p (.st 2), .p (.int .i64)], [], [.own (.st 0), .p (.int .i64)], [], [], s_table_Row, s_table_Row,
.j 9131401 [1,2,13] [] [qe0, qe2, qe1] [qo10] s_table_Row_j1 <|
.lo 9410111 [1,6,23,24,25] [] [qe0, qe5, qe21, qe0, qe0] [qo8] 1 [6] [] [qe5] [qo8] s_table_Row_l1 s_table_Row_k2 (fun _ => .nil) <|
.nil⟩
theorem D55_ok : SigOk X0.E 32 D55.sig := D55.ok G0 Tryd.func32 ⟨D10_ok, D0_ok, trivial⟩ rfl rfl (by kernel_rfl)

/-! ### tablefinder/tablefinderlaw03.TableSorts -/
noncomputable def D56 : FD U := ⟨6, Tryd.f6, [D28.sg, D29.sg, D35.sg, D27.sg, D39.sg, D54.sg, D0.sg, D55.sg, D13.sg, D30.sg, D26.sg], [.p (.sl (.int .u8))], [], [.p .bool], [], [], s_tablefinderlaw03_TableSorts, s_tablefinderlaw03_TableSorts,
.j 910111111 [3,4,5,56] [] [qe2, qe3, qe15, qe1] qp1 s_tablefinderlaw03_TableSorts_j1 <|
.lr 94101111111 [3,4,5,9] [] [qe2, qe3, qe15, qe0] qp1 0 [3,4,5] [] [qe2, qe3, qe15] qp1 s_tablefinderlaw03_TableSorts_l1 s_tablefinderlaw03_TableSorts_k4 (fun n0 => .j 9101140154101111111 [3,4,5,9,10,12,88] [] [qe2, qe3, qe15, qe0, qe27, .o (.full (0, 5, 1)), qe1] [qo19, qo10, qo10, qo8, qo8] (s_tablefinderlaw03_TableSorts_j2 (s_tablefinderlaw03_TableSorts_l1 n0)) <|
.lr 94111140154101111111 [3,4,5,9,10,12,90,91] [] [qe2, qe3, qe15, qe0, qe27, .o (.full (0, 5, 1)), qe0, qe0] [qo19, qo10, qo10, qo8, qo8] 2 [3,4,5,9] [] [qe2, qe3, qe15, qe0] qp1 s_tablefinderlaw03_TableSorts_l2 (s_tablefinderlaw03_TableSorts_k3 (s_tablefinderlaw03_TableSorts_l1 n0)) (fun _ => .nil) <|
.nil) <|
.lo 9410111111111 [3,4,5,16,17] [] [qe2, qe3, qe15, qe27, qe0] [qo19, qo10, qo10, qo7] 4 [4,5,16] [] [qe2, qe3, qe22] [qo10, qo10, qo7] s_tablefinderlaw03_TableSorts_l3 s_tablefinderlaw03_TableSorts_k5 (fun _ => .nil) <|
.j 91111111111111 [2] [] [qe1] [] s_tablefinderlaw03_TableSorts_j6 <|
.nil⟩
theorem D56_ok : SigOk X0.E 6 D56.sig := D56.ok G0 Tryd.func6 ⟨D28_ok, D29_ok, D35_ok, D27_ok, D39_ok, D54_ok, D0_ok, D55_ok, D13_ok, D30_ok, D26_ok, trivial⟩ rfl rfl (by kernel_rfl)

end
end Go.Proofs
