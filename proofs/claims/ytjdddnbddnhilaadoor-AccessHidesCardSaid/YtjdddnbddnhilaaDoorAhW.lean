/- Printed by wip/tools/tgen.py: walks. -/
import Derived.Test.YtjdddnbddnhilaaDoorAhU
import Derived.Test.YtjdddnbddnhilaaDoorAhX
set_option linter.unusedVariables false
set_option linter.unusedSimpArgs false
set_option linter.unusedSectionVars false
namespace Go.Proofs
open Go Eng
set_option maxRecDepth 100000
noncomputable section

/-! ### names -/
abbrev qH {R : Type} (f : TRet U → Option R) (r : R) (RT : Ret) : Prop := ∀ t : TRet U, f t = some r → t.enc = RT
abbrev qi : Sh := .o (.v (.int .i64))
abbrev qs1 : List Sh := [.o (.ptr (0, 1, 1) 0 0), .o (.v (.sl (.st 0))), .o (.v .str), .o (.full (0, 2, 1)), .o (.full (0, 3, 1)), .o (.ptr (0, 4, 1) 0 0), .o (.ptr (0, 5, 1) 0 0), .o (.v .bool), .o (.ptr (0, 6, 1) 0 0), .o (.full (0, 2, 1)), qi, qi, .o (.v (.sl (.st 3))), qi, qi, qi, qi]
abbrev qs2 : List Sh := [.o (.ptr (0, 1, 1) 0 0), .o (.v (.sl (.st 0))), .o (.v .str), .o (.full (0, 2, 1)), .o (.full (0, 3, 1)), .o (.ptr (0, 4, 1) 0 0), .o (.ptr (0, 5, 1) 0 0), .o (.v .bool), .o (.ptr (0, 6, 1) 0 0), .o (.full (0, 2, 1)), qi, qi, .o (.v (.sl (.st 3))), qi, qi]
abbrev qs3 : List Sh := [.o (.ptr (0, 1, 1) 0 0), .o (.v (.sl (.st 0))), .o (.v .str), .o (.full (0, 2, 1)), .o (.full (0, 3, 1)), .o (.ptr (0, 4, 1) 0 0), .o (.ptr (0, 5, 1) 0 0), .o (.v .bool), .o (.full (0, 2, 1)), qi, qi, .o (.v (.sl (.st 3))), qi, qi]
abbrev qs4 : List Sh := [.o (.ptr (0, 1, 1) 0 0), .o (.v (.sl (.st 0))), .o (.v .str), .o (.full (0, 2, 1)), .o (.full (0, 3, 1)), .o (.ptr (0, 4, 1) 0 0), .o (.ptr (0, 5, 1) 0 0), .o (.full (0, 2, 1)), qi, qi, qi, qi]
abbrev qs5 : List Sh := [.o (.v (.sl (.int .i64))), .o (.ptr (0, 1, 1) 0 0), .o (.ptr (0, 2, 1) 0 0), .o (.ptr (0, 3, 1) 0 0), .o (.ptr (0, 4, 1) 0 0), .o (.v (.sl (.st 3))), qi, qi, .o (.v (.sl (.int .i64))), qi, qi]
abbrev qo6 : List ShO := [.box [qi, .o (.v .str), .o (.full (0, 5, 1))], .box [qi, .o (.v .str), .o (.full (0, 6, 1))], .boxS (.st 3), .box [.o (.v .str), .o (.full (0, 7, 1))], .arr (.st 3) false, .arr (.st 3) false, .arr (.st 2) false]
abbrev qs7 : List Sh := [.o (.ptr (0, 1, 1) 0 0), .o (.ptr (0, 2, 1) 0 0), .o (.full (0, 3, 1)), qi, qi, .o (.v .bool), qi, qi, .o (.full (0, 3, 1)), qi, qi]
abbrev qs8 : List Sh := [.o (.ptr (0, 1, 1) 0 0), .o (.v (.sl (.st 0))), .o (.v .str), .o (.full (0, 2, 1)), .o (.full (0, 3, 1)), .o (.ptr (0, 4, 1) 0 0), .o (.ptr (0, 5, 1) 0 0), .o (.v .bool), .o (.full (0, 2, 1)), qi, qi]
abbrev qo9 : List ShO := [.boxS (.st 5), .box [qi, qi, .o (.v .str), .o (.full (0, 3, 1))], .box [qi, qi, .o (.v .str), .o (.full (0, 4, 1))], .arr (.int .i64) false, .arr (.int .i64) false]
abbrev qo10 : List ShO := [.box [qi, .o (.v .str), .o (.full (0, 4, 1))], .box [qi, .o (.v .str), .o (.full (0, 5, 1))], .box [.o (.v .str), .o (.full (0, 6, 1))], .arr (.st 3) false, .arr (.st 3) false, .arr (.st 2) false]
abbrev qo11 : List ShO := [.boxS (.st 5), .arr (.st 4) false, .arr (.st 4) false, .boxS (.st 4), .box [qi, .o (.v .str), .o (.full (0, 7, 1))], .box [.o (.v .str), .o (.full (0, 8, 1))], .arr (.st 3) false, .arr (.st 2) false]
abbrev qs12 : List Sh := [.o (.ptr (0, 1, 1) 0 0), .o (.ptr (0, 2, 1) 0 0), .o (.full (0, 3, 1)), qi, qi, .o (.v .bool), .o (.v (.sl (.st 2))), qi, qi]
abbrev qs13 : List Sh := [.o (.v (.sl (.st 0))), .o (.v .str), .o (.ptr (0, 1, 1) 0 0), .o (.ptr (0, 2, 1) 0 0), .o (.ptr (0, 3, 1) 0 0), .o (.v .bool), .o (.v (.sl (.st 3))), qi, qi]
abbrev qo14 : List ShO := [.boxS (.st 4), .box [qi, .o (.v .str), .o (.full (0, 4, 1))], .box [qi, .o (.v .str), .o (.full (0, 5, 1))], .arr (.st 3) false, .arr (.st 3) false]
abbrev qo15 : List ShO := [.boxS (.st 5), .box [qi, .o (.v .str), .o (.full (0, 3, 1))], .box [qi, .o (.v .str), .o (.full (0, 4, 1))], .arr (.st 3) false, .arr (.st 3) false]
abbrev qs16 : List Sh := [.o (.v (.sl (.int .i64))), .o (.ptr (0, 1, 1) 0 0), .o (.ptr (0, 2, 1) 0 0), .o (.ptr (0, 3, 1) 0 0), .o (.v (.sl (.int .i64))), qi, qi]
abbrev qs17 : List Sh := [.o (.ptr (0, 1, 1) 0 0), .o (.ptr (0, 2, 1) 0 0), .o (.full (0, 3, 1)), qi, qi, .o (.v .bool), qi, qi]
abbrev qs18 : List Sh := [.o (.ptr (0, 1, 1) 0 0), .o (.v (.sl (.st 0))), .o (.v .str), .o (.full (0, 2, 1)), .o (.full (0, 3, 1)), .o (.full (0, 2, 1)), qi, qi]
abbrev qo19 : List ShO := [.box [qi, .o (.v .str), .o (.full (0, 3, 1))], .box [qi, .o (.v .str), .o (.full (0, 4, 1))], .arr (.st 3) false, .arr (.st 3) false]
abbrev qs20 : List Sh := [.o (.v (.sl (.int .i64))), .o (.ptr (0, 1, 1) 0 0), .o (.ptr (0, 2, 1) 0 0), .o (.ptr (0, 3, 1) 0 0), .o (.v (.sl (.st 3))), qi, qi]
abbrev qs21 : List Sh := [.o (.ptr (0, 1, 1) 0 0), .o (.v (.sl (.st 3))), qi, qi, .o (.v (.sl (.st 2))), qi, qi]
abbrev qo22 : List ShO := [.boxS (.st 5), .arr (.st 4) false, .arr (.st 4) false, .boxS (.st 4), .box [qi, .o (.v .str), .o (.full (0, 6, 1))], .arr (.st 3) false]
abbrev qs23 : List Sh := [.o (.v (.sl (.int .i64))), .o (.ptr (0, 1, 1) 0 0), .o (.ptr (0, 2, 1) 0 0), .o (.v (.sl (.int .i64))), qi, qi]
abbrev qs24 : List Sh := [.o (.v (.sl (.int .i64))), .o (.ptr (0, 1, 1) 0 0), .o (.ptr (0, 2, 1) 0 0), .o (.v (.sl (.st 3))), qi, qi]
abbrev qo25 : List ShO := [.boxS (.st 5), .box [.o (.v .str), .o (.full (0, 3, 1))], .box [.o (.v .str), .o (.full (0, 4, 1))], .arr (.st 2) false, .arr (.st 2) false]
abbrev qs26 : List Sh := [.o (.ptr (0, 0, 0) 0 0), .o (.ptr (0, 1, 1) 0 0), .o (.ptr (0, 2, 1) 0 0), qi, qi, qi]
abbrev qs27 : List Sh := [.o (.ptr (0, 0, 0) 0 0), .o (.ptr (0, 1, 1) 0 0), .o (.ptr (0, 2, 1) 0 0), qi, qi, .o (.v .bool)]
abbrev qs28 : List Sh := [.o (.v (.sl (.st 0))), .o (.v .str), .o (.full (0, 1, 1)), .o (.v (.sl (.st 4))), qi, qi]
abbrev qs29 : List Sh := [.o (.ptr (0, 1, 1) 0 0), .o (.ptr (0, 2, 1) 0 0), .o (.v (.sl (.int .i64))), qi, qi]
abbrev qs30 : List Sh := [.o (.ptr (0, 0, 0) 0 0), .o (.ptr (0, 1, 1) 0 0), .o (.ptr (0, 2, 1) 0 0), qi, qi]
abbrev qs31 : List Sh := [.o (.ptr (0, 0, 0) 0 0), qi, .o (.ptr (0, 1, 1) 0 0), .o (.ptr (0, 2, 1) 0 0), qi]
abbrev qs32 : List Sh := [.o (.ptr (0, 1, 1) 0 0), .o (.ptr (0, 2, 1) 0 0), .o (.v (.sl (.st 3))), qi, qi]
abbrev qs33 : List Sh := [.o (.ptr (0, 1, 1) 0 0), .o (.ptr (0, 2, 1) 0 0), .o (.v (.sl (.st 6))), qi, qi]
abbrev qs34 : List Sh := [.o (.ptr (0, 1, 1) 0 0), .o (.ptr (0, 2, 1) 0 0), .o (.full (0, 3, 1)), qi, qi]
abbrev qo35 : List ShO := [.boxS (.st 5), .boxS (.st 4), .box [qi, .o (.v .str), .o (.full (0, 3, 1))], .arr (.st 3) false]
abbrev qs36 : List Sh := [qi, .o (.ptr (0, 1, 1) 0 0), .o (.v (.sl (.st 4))), qi, qi]
abbrev qs37 : List Sh := [qi, qi, .o (.v (.sl (.st 3))), qi, qi]
abbrev qo38 : List ShO := [.boxS (.st 4), .box [qi, .o (.v .str), .o (.full (0, 3, 1))], .arr (.st 3) false]
abbrev qs39 : List Sh := [.o (.ptr (0, 1, 1) 0 0), .o (.ptr (0, 2, 1) 0 0), qi, qi]
abbrev qs40 : List Sh := [.o (.ptr (0, 1, 1) 0 0), .o (.v (.sl (.st 3))), qi, qi]
abbrev qs41 : List Sh := [.o (.ptr (0, 0, 0) 0 0), .o (.full (0, 1, 1)), qi, qi]
abbrev qs42 : List Sh := [.o (.v (.sl (.st 0))), .o (.v (.sl (.st 0))), qi, qi]
abbrev qs43 : List Sh := [.o (.v (.sl (.st 4))), .o (.v (.sl (.st 4))), qi, qi]
abbrev qo44 : List ShO := [.boxS (.st 5), .arr (.st 4) false, .arr (.st 4) false, .boxS (.st 4), .boxS (.st 4)]
abbrev qo45 : List ShO := [.box [qi, .o (.v .str), .o (.full (0, 2, 1))], .arr (.st 3) false]
abbrev qs46 : List Sh := [.o (.v (.sl (.st 0))), .o (.v .str), .o (.full (0, 1, 1)), .o (.full (0, 2, 1))]
abbrev qs47 : List Sh := [.o (.v (.sl (.int .i64))), .o (.ptr (0, 1, 1) 0 0), .o (.ptr (0, 2, 1) 0 0)]
abbrev qs48 : List Sh := [.o (.ptr (0, 0, 0) 0 0), .o (.ptr (0, 1, 1) 0 0), .o (.ptr (0, 2, 1) 0 0)]
abbrev qs49 : List Sh := [qi, .o (.ptr (0, 1, 1) 0 0), .o (.ptr (0, 2, 1) 0 0)]
abbrev qs50 : List Sh := [.o (.ptr (0, 0, 0) 0 0), .o (.full (0, 1, 1)), qi]
abbrev qs51 : List Sh := [.o (.ptr (0, 1, 1) 0 0), .o (.ptr (0, 2, 1) 0 0), .o (.v .bool)]
abbrev qo52 : List ShO := [.boxS (.st 5), .arr (.st 4) false, .arr (.st 4) false]
abbrev qo53 : List ShO := [.boxS (.st 4), .boxS (.st 6), .arr (.int .i64) false]
abbrev qs54 : List Sh := [.o (.ptr (0, 1, 1) 0 0), .o (.ptr (0, 2, 1) 0 0)]
abbrev qo55 : List ShO := [.boxS (.st 5), .arr (.st 4) false, .boxS (.st 4)]
abbrev qs56 : List Sh := [.o (.full (0, 1, 1)), qi]
abbrev qo57 : List ShO := [.boxS (.st 5), .arr (.st 0) false]
abbrev qo58 : List ShO := [.boxS (.st 5), .arr (.st 4) false]
abbrev qo59 : List ShO := [.boxS (.st 4), .boxS (.st 6)]
abbrev qo60 : List ShO := [.boxS (.st 3), .boxS (.st 3)]
abbrev qo61 : List ShO := [.boxS (.st 4), .boxS (.st 4)]
abbrev qs62 : List Sh := [.o (.v .str), .o (.v .bool)]
abbrev qs63 : List Sh := [.o (.ptr (0, 1, 1) 0 0)]
abbrev qT64 : Type := qL2 × Str × Bool × Int × Int × qL0 × Int × Int × Gk_Dice × qL1 × qL1 × GaTable × Int × Str × Str × qL0 × qL4
abbrev qT65 : Type := qL2 × Str × Bool × Int × Int × Gk_Dice × qL1 × qL1 × GaTable × Int × Str × qL0
abbrev qT66 : Type := qL3 × qL0 × Int × Int × Int × Str × Int × Str × Str × qL0 × qL0 × qL4
abbrev qT67 : Type := Out (qL3 × Int × Str × Int × Str × qL0 × qL0) (GaTable × Int)
abbrev qT68 : Type := qL2 × Str × GaTable × Int × Int × Gk_Dice × qL1 × qL1
abbrev qT69 : Type := Out (qL3 × GaTable × Int × Str × qL0) (GaTable × Int)
abbrev qT70 : Type := qL3 × Int × Str × Int × Str × qL0 × qL0
abbrev qT71 : Type := Gk_Dice × Int × Int × Str × Int × Int × Str × qL3 × qL3
abbrev qT72 : Type := Gk_Dice × Int × Str × Int × Str × qL0 × qL0
abbrev qT73 : Type := Bool × Int × Str × Int × Str × qL0 × qL0
abbrev qT74 : Type := Out (GaTable × Int × Str × qL0) (GaTable × Int)
abbrev qT75 : Type := qL2 × Str × qL1 × qL1
abbrev qT76 : Type := Int × Int × Bool × Int × Int × GaTable × GaOp × qL3
abbrev qT77 : Type := Int × Str × Int × Str × qL0 × qL0
abbrev qT78 : Type := Int × Gk_Dice × GaTable × Int × Str × qL0
abbrev qT79 : Type := Gk_Dice × Str × Str × qL4 × qL4
abbrev qT80 : Type := qL3 × GaTable × Int × Str × qL0
abbrev qT81 : Type := Out (Int × Str × qL0) (GaTable × Bool)
abbrev qT82 : Type := Out (qL0 × Int × Int × GaTable) Bool
abbrev qT83 : Type := qL2 × Gk_Dice
abbrev qT84 : Type := Gk_Dice × qL2
abbrev qT85 : Type := Gk_Dice × qL1
abbrev qT86 : Type := qL1 × Gk_Dice
abbrev qT87 : Type := GaColumn × Gk_Dice
abbrev qT88 : Type := GaTable × Gk_Dice
abbrev qT89 : Type := GaCell × Gk_Dice
abbrev qT90 : Type := GaTable × Bool
abbrev qT91 : Type := GaOp × Gk_Dice
abbrev qT92 : Type := GaTable × Int

/-! ### tablefinder/tablefinderkit.Light -/
def c_n0 : Code := bodyOf Tryd.f18
def F_n0 : FC U := ⟨X0.at 6, Tryd.f18, c_n0, [], [], [.p], [none]⟩
theorem F_n0_ok : FOk F_n0 := fok uok tok0 eok0 mixed rfl trivial
def R_n0 : RSh := ⟨[.p .bool], []⟩
def g_n0 (v : RVal U R_n0) : Bool := v.1.1
def b_n0 (q : Bool) : TRet U := R_n0.bld ((q, ()), ())
def S_sk_Light : FSig U := ⟨Bool, [25], [.p], [none], [.p (.sl (.int .i64))], fun v => sk_Light v.1, b_n0⟩
theorem S_sk_Light_ok : SigOk X0.E 18 S_sk_Light.sig := FSig.ok0 F_n0_ok (R := R_n0) (g := g_n0) (cuts := []) (pre := [tc0 F_n0]) rfl Tryd.func18 (by decide) rfl (fun _ => Nat.le_of_ble_eq_true (by kernel_rfl)) (fun _ => rfl) (by kernel_rfl) (fun _ _ h => Eq.trans (by kernel_rfl) h) ⟨rfl, trivial⟩ (fun r => trivial) fun _ => rfl

/-! ### tablefinder/table.Rows -/
def c_n1 : Code := bodyOf Tryd.f68
def F_n1 : FC U := ⟨X0.at 13, Tryd.f68, c_n1, [], [], [.p], [none]⟩
theorem F_n1_ok : FOk F_n1 := fok uok tok0 eok0 mixed rfl trivial
def R_n1 : RSh := ⟨[.p (.int .i64)], []⟩
def g_n1 (v : RVal U R_n1) : Int := v.1.1
def b_n1 (q : Int) : TRet U := R_n1.bld ((q, ()), ())
def S_s_table_Rows : FSig U := ⟨Int, [24], [.p], [some 4], [.p (.st 4)], fun v => s_table_Rows v.1, b_n1⟩
theorem S_s_table_Rows_ok : SigOk X0.E 68 S_s_table_Rows.sig := FSig.ok0 F_n1_ok (R := R_n1) (g := g_n1) (cuts := []) (pre := [tc0 F_n1]) rfl Tryd.func68 (by decide) rfl (fun _ => Nat.le_of_ble_eq_true (by kernel_rfl)) (fun _ => rfl) (by kernel_rfl) (fun _ _ h => Eq.trans (by kernel_rfl) h) ⟨rfl, trivial⟩ (fun r => trivial) fun _ => rfl

/-! ### math/bits.Mul64 -/
def c_n2 : Code := bodyOf Tryd.f197
def F_n2 : FC U := ⟨X0.at 51, Tryd.f197, c_n2, [], [], [.p, .p], [none, none]⟩
theorem F_n2_ok : FOk F_n2 := fok uok tok0 eok0 mixed rfl trivial
def R_n2 : RSh := ⟨[.p (.int .u64), .p (.int .u64)], []⟩
def g_n2 (v : RVal U R_n2) : (Int × Int) := (v.1.1, v.1.2.1)
def b_n2 (q : (Int × Int)) : TRet U := R_n2.bld ((q.1, (q.2, ())), ())
def S_s_math_bits_Mul64 : FSig U := ⟨(Int × Int), [192, 192], [.p, .p], [none, none], [.p (.int .u64), .p (.int .u64)], fun v => s_math_bits_Mul64 v.1 v.2.1, b_n2⟩
theorem S_s_math_bits_Mul64_ok : SigOk X0.E 197 S_s_math_bits_Mul64.sig := FSig.ok0 F_n2_ok (R := R_n2) (g := g_n2) (cuts := []) (pre := [tc0 F_n2]) rfl Tryd.func197 (by decide) rfl (fun _ => Nat.le_of_ble_eq_true (by kernel_rfl)) (fun _ => rfl) (by kernel_rfl) (fun _ _ h => Eq.trans (by kernel_rfl) h) ⟨rfl, trivial⟩ (fun r => trivial) fun _ => rfl

/-! ### math/bits.Mul -/
def c_n3 : Code := bodyOf Tryd.f179
def F_n3 : FC U := ⟨X0.at 30, Tryd.f179, c_n3, [(197, S_s_math_bits_Mul64.sig)], [], [.p, .p], [none, none]⟩
theorem F_n3_ok : FOk F_n3 := fok uok tok0 eok0 mixed rfl ⟨S_s_math_bits_Mul64_ok, trivial⟩
def R_n3 : RSh := ⟨[.p (.int .u64), .p (.int .u64)], []⟩
def g_n3 (v : RVal U R_n3) : (Int × Int) := (v.1.1, v.1.2.1)
def b_n3 (q : (Int × Int)) : TRet U := R_n3.bld ((q.1, (q.2, ())), ())
def S_s_math_bits_Mul : FSig U := ⟨(Int × Int), [193, 193], [.p, .p], [none, none], [.p (.int .u64), .p (.int .u64)], fun v => s_math_bits_Mul v.1 v.2.1, b_n3⟩
theorem S_s_math_bits_Mul_ok : SigOk X0.E 179 S_s_math_bits_Mul.sig := FSig.ok0 F_n3_ok (R := R_n3) (g := g_n3) (cuts := []) (pre := [tc0 F_n3]) rfl Tryd.func179 (by decide) rfl (fun _ => Nat.le_of_ble_eq_true (by kernel_rfl)) (fun _ => rfl) (by kernel_rfl) (fun _ _ h => Eq.trans (by kernel_rfl) h) ⟨rfl, trivial⟩ (fun r => trivial) fun _ => rfl

/-! ### slices.Repeat[[]tablefinder/api.Cell,tablefinder/api.Cell] -/
def c_n4 : Code := bodyOf Tryd.f146
def F_n4 : FC U := ⟨X0.at 48, Tryd.f146, c_n4, [(179, S_s_math_bits_Mul.sig)], [], [.own], [none]⟩
theorem F_n4_ok : FOk F_n4 := fok uok tok0 eok0 mixed rfl ⟨S_s_math_bits_Mul_ok, trivial⟩
def R_n4 : RSh := ⟨[.own (.st 2)], []⟩
def g_n4 (v : RVal U R_n4) : qL4 := v.1.1
def b_n4 (q : qL4) : TRet U := R_n4.bld ((q, ()), ())
def L_n4_k2 : Lp U qL4 := ⟨[7], [], [.o (.full (0, 1, 1))], [.arr (.st 2) false], fun v w => ss_Repeat_api_Cell_api_Cell_k2 w.1⟩
theorem L_n4_k2_ok (r : qL4) : LpOk F_n4 (b_n4 r).enc r (L_n4_k2) ([tc F_n4 [1, 1, 1, 1, 1, 1, 1]].map TI'.conc ++ []) := fun v w hi h => Pt.ev0 F_n4_ok (S := R_n4) (g := g_n4) (b := b_n4) (cuts := []) (pre := [tc F_n4 [1, 1, 1, 1, 1, 1, 1]]) (T := Lp.st F_n4 (L_n4_k2) v w) (by kernel_rfl) hi (Eq.trans (by kernel_rfl) h) ⟨by kernel_rfl, trivial⟩ trivial fun _ => rfl
def base_n4_l1 : List Eng.Item := .lp (codeAt F_n4 [5, 4, 0, 1, 1, 1, 1, 1, 1]) :: ([.blk 0, tc F_n4 [1, 1, 1, 1, 1, 1, 1]].map TI'.conc ++ [])
def Lh_n4_l1 (rec_ : Int → qL4 → Option qL4) : Lp U qL4 := ⟨[7, 8], [], qs56, [.arr (.st 2) false], fun v w => rec_ v.2.1 w.1⟩
def Lx_n4_l1 : Lp U qL4 := ⟨[7], [], [.o (.full (0, 1, 1))], [.arr (.st 2) false], fun v w => some w.1⟩
theorem ss_Repeat_api_Cell_api_Cell_l1_ok {RT : Ret} {r : qL4} (hx : AllExits F_n4 RT r base_n4_l1 [(0, Lx_n4_l1)]) (hr : qH (fun _ => none) r RT) : ∀ n, LpOk F_n4 RT r (Lh_n4_l1 (ss_Repeat_api_Cell_api_Cell_l1 n)) (stAt F_n4 [4, 0, 1, 1, 1, 1, 1, 1]) :=
  loop_ok F_n4_ok 4000 (q := [4, 0, 1, 1, 1, 1, 1, 1]) (body := codeAt F_n4 [5, 4, 0, 1, 1, 1, 1, 1, 1]) (live := [7, 8]) (frz := []) (shs := qs56) (sho := [.arr (.st 2) false]) (fun n v w => ss_Repeat_api_Cell_api_Cell_l1 n v.2.1 w.1) (cuts := fun n => []) (exits := [(0, Lx_n4_l1)]) (ret := (fun _ => none)) (by kernel_rfl) (fun _ _ => rfl) (fun n v w => by kernel_rfl) (fun n hb => trivial) hx hr
def Lc_n4_l1 : Lp U qL4 := ⟨[7, 8], [], qs56, [.arr (.st 2) false], fun v w => (ss_Repeat_api_Cell_api_Cell_l1 big v.2.1 w.1).bind fun x0 => ss_Repeat_api_Cell_api_Cell_k2 x0⟩
theorem Lc_n4_l1_ok (r : qL4) : LpOk F_n4 (b_n4 r).enc r (Lc_n4_l1) (stAt F_n4 [4, 0, 1, 1, 1, 1, 1, 1]) := fun v w hi h0 => by
  obtain ⟨x, hx0, h⟩ := bind_some h0
  exact ss_Repeat_api_Cell_api_Cell_l1_ok (r := x) (RT := (b_n4 r).enc) ⟨⟨[tc F_n4 [1, 1, 1, 1, 1, 1, 1]].map TI'.conc ++ [], by kernel_rfl, fun v' w' hi' h' => by obtain rfl := Option.some.inj h'; exact L_n4_k2_ok r v' w' hi' h⟩, trivial⟩ (fun _ ht => nomatch ht) big v w hi hx0
def L_n4_j1 : Lp U qL4 := ⟨[0, 6, 26], [], [.o (.v (.sl (.st 2))), .o (.v (.int .u64)), .o (.v .bool)], [], fun v w => ss_Repeat_api_Cell_api_Cell_j1 v.1 v.2.1 v.2.2.1⟩
theorem L_n4_j1_ok (r : qL4) : LpOk F_n4 (b_n4 r).enc r (L_n4_j1) (stAt F_n4 [1, 0, 1, 1, 1]) := fun v w hi h => Pt.ev0 F_n4_ok (S := R_n4) (g := g_n4) (b := b_n4) (cuts := [([4, 0, 1, 1, 1, 1, 1, 1], Lc_n4_l1)]) (pre := [tc F_n4 [1, 0, 1, 1, 1], tc F_n4 [1, 1, 1, 1]]) (T := Lp.st F_n4 (L_n4_j1) v w) (by kernel_rfl) hi (Eq.trans (by kernel_rfl) h) ⟨by kernel_rfl, by kernel_rfl, trivial⟩ ⟨(Lc_n4_l1_ok r), trivial⟩ fun _ => rfl
def S_ss_Repeat_api_Cell_api_Cell : FSig U := ⟨qL4, [47, 3], [.p, .p], [none, none], [.p (.sl (.st 2)), .p (.int .i64)], fun v => ss_Repeat_api_Cell_api_Cell v.1 v.2.1, b_n4⟩
theorem S_ss_Repeat_api_Cell_api_Cell_ok : SigOk X0.E 146 S_ss_Repeat_api_Cell_api_Cell.sig := FSig.ok0 F_n4_ok (R := R_n4) (g := g_n4) (cuts := [([1, 0, 1, 1, 1], L_n4_j1)]) (pre := [tc0 F_n4]) rfl Tryd.func146 (by decide) rfl (fun _ => Nat.le_of_ble_eq_true (by kernel_rfl)) (fun _ => rfl) (by kernel_rfl) (fun _ _ h => Eq.trans (by kernel_rfl) h) ⟨rfl, trivial⟩ (fun r => ⟨(L_n4_j1_ok r), trivial⟩) fun _ => rfl

/-! ### slices.Clone[[]tablefinder/api.Cell,tablefinder/api.Cell] -/
def c_n6 : Code := bodyOf Tryd.f147
def F_n6 : FC U := ⟨X0.at 8, Tryd.f147, c_n6, [], [], [.own], [none]⟩
theorem F_n6_ok : FOk F_n6 := fok uok tok0 eok0 mixed rfl trivial
def R_n6 : RSh := ⟨[.own (.st 2)], []⟩
def g_n6 (v : RVal U R_n6) : qL4 := v.1.1
def b_n6 (q : qL4) : TRet U := R_n6.bld ((q, ()), ())
def L_n6_j1 : Lp U qL4 := ⟨[0, 4], [], [.o (.v (.sl (.st 2))), .o (.v .bool)], [], fun v w => ss_Clone_api_Cell_api_Cell_j1 v.1 v.2.1⟩
theorem L_n6_j1_ok (r : qL4) : LpOk F_n6 (b_n6 r).enc r (L_n6_j1) (stAt F_n6 [1, 0, 1]) := fun v w hi h => Pt.ev0 F_n6_ok (S := R_n6) (g := g_n6) (b := b_n6) (cuts := []) (pre := [tc F_n6 [1, 0, 1], tc F_n6 [1, 1]]) (T := Lp.st F_n6 (L_n6_j1) v w) (by kernel_rfl) hi (Eq.trans (by kernel_rfl) h) ⟨by kernel_rfl, by kernel_rfl, trivial⟩ trivial fun _ => rfl
def S_ss_Clone_api_Cell_api_Cell : FSig U := ⟨qL4, [47], [.p], [none], [.p (.sl (.st 2))], fun v => ss_Clone_api_Cell_api_Cell v.1, b_n6⟩
theorem S_ss_Clone_api_Cell_api_Cell_ok : SigOk X0.E 147 S_ss_Clone_api_Cell_api_Cell.sig := FSig.ok0 F_n6_ok (R := R_n6) (g := g_n6) (cuts := [([1, 0, 1], L_n6_j1)]) (pre := [tc0 F_n6]) rfl Tryd.func147 (by decide) rfl (fun _ => Nat.le_of_ble_eq_true (by kernel_rfl)) (fun _ => rfl) (by kernel_rfl) (fun _ _ h => Eq.trans (by kernel_rfl) h) ⟨rfl, trivial⟩ (fun r => ⟨(L_n6_j1_ok r), trivial⟩) fun _ => rfl

abbrev Tr_n7_0 : Type := qL2 → Str → Bool → qL0 → Int → Int → GaTable → Int → Str → Int → Str → qL0 → qL0 → Option qT73
/-! ### tablefinder/access.seen -/
def c_n7 : Code := bodyOf Tryd.f100
def F_n7 : FC U := ⟨X0.at 54, Tryd.f100, c_n7, [(68, S_s_table_Rows.sig), (146, S_ss_Repeat_api_Cell_api_Cell.sig), (45, S_s_access_May.sig), (147, S_ss_Clone_api_Cell_api_Cell.sig)], [], [.p, .p], [some 4, none]⟩
theorem F_n7_ok : FOk F_n7 := fok uok tok0 eok0 mixed rfl ⟨S_s_table_Rows_ok, S_ss_Repeat_api_Cell_api_Cell_ok, S_s_access_May_ok, S_ss_Clone_api_Cell_api_Cell_ok, trivial⟩
def R_n7 : RSh := ⟨[.p (.st 4), .p .bool], []⟩
def g_n7 (v : RVal U R_n7) : qT90 := (v.1.1, v.1.2.1)
def b_n7 (q : qT90) : TRet U := R_n7.bld ((q.1, (q.2, ())), ())
def L_n7_k2 : Lp U qT90 := ⟨[6, 8, 9], [], qs51, qo19, fun v w => s_access_seen_k2 v.2.2.1 w.1.1 w.1.2.1 w.2.1.1 w.2.1.2.1 w.2.2.1 w.2.2.2.1⟩
theorem L_n7_k2_ok (r : qT90) : LpOk F_n7 (b_n7 r).enc r (L_n7_k2) ([tc F_n7 [1, 1, 1, 1]].map TI'.conc ++ []) := fun v w hi h => Pt.ev0 F_n7_ok (S := R_n7) (g := g_n7) (b := b_n7) (cuts := []) (pre := [tc F_n7 [1, 1, 1, 1]]) (T := Lp.st F_n7 (L_n7_k2) v w) (by kernel_rfl) hi (Eq.trans (by kernel_rfl) h) ⟨by kernel_rfl, trivial⟩ trivial fun _ => rfl
def base_n7_l1 : List Eng.Item := .lp (codeAt F_n7 [5, 4, 1, 0, 1, 1, 1]) :: ([.blk 0, tc F_n7 [1, 1, 1, 1]].map TI'.conc ++ [])
def Lh_n7_l1 (rec_ : Tr_n7_0) : Lp U qT73 := ⟨[0, 1, 5, 6, 8, 9, 19, 20, 21], [], qs13, qo14, fun v w => rec_ v.1 v.2.1 v.2.2.2.2.2.1 v.2.2.2.2.2.2.1 v.2.2.2.2.2.2.2.1 v.2.2.2.2.2.2.2.2.1 w.1 w.2.1.1 w.2.1.2.1 w.2.2.1.1 w.2.2.1.2.1 w.2.2.2.1 w.2.2.2.2.1⟩
def Lx_n7_l1 : Lp U qT73 := ⟨[6, 8, 9], [], qs51, qo19, fun v w => some (v.2.2.1, w.1.1, w.1.2.1, w.2.1.1, w.2.1.2.1, w.2.2.1, w.2.2.2.1)⟩
def L_n7_j1 (rec_ : Tr_n7_0) : Lp U qT73 := ⟨[0, 1, 5, 6, 8, 9, 12, 19, 20, 21], [], [.o (.v (.sl (.st 0))), .o (.v .str), .o (.ptr (0, 1, 1) 0 0), .o (.ptr (0, 2, 1) 0 0), .o (.ptr (0, 3, 1) 0 0), .o (.v .bool), .o (.ptr (0, 4, 1) 0 0), .o (.v (.sl (.st 3))), qi, qi], [.boxS (.st 4), .box [qi, .o (.v .str), .o (.full (0, 5, 1))], .box [qi, .o (.v .str), .o (.full (0, 6, 1))], .box [.o (.v .str), .o (.full (0, 7, 1))], .arr (.st 3) false, .arr (.st 3) false, .arr (.st 2) false], fun v w => s_access_seen_j1 rec_ v.1 v.2.1 v.2.2.2.2.2.1 v.2.2.2.2.2.2.2.1 v.2.2.2.2.2.2.2.2.1 v.2.2.2.2.2.2.2.2.2.1 w.1 w.2.1.1 w.2.1.2.1 w.2.2.1.1 w.2.2.1.2.1 w.2.2.2.1.1 w.2.2.2.2.1 w.2.2.2.2.2.1 w.2.2.2.2.2.2.1⟩
theorem L_n7_j1_ok {RT : Ret} {r : qT73} {rec_ : Tr_n7_0} (hb : LpOk F_n7 RT r (Lh_n7_l1 rec_) base_n7_l1) (hx : AllExits F_n7 RT r base_n7_l1 [(0, Lx_n7_l1)]) (hr : qH (fun _ => none) r RT) : LpOk F_n7 RT r (L_n7_j1 rec_) (stAt F_n7 [1, 1, 1, 4, 0, 1, 1, 5, 4, 1, 0, 1, 1, 1]) := fun v w hi h => Pt.evlAt F_n7_ok (r := r) 4000 (cuts := []) (back := (some (Lh_n7_l1 rec_))) (exits := [(0, Lx_n7_l1)]) (ret := (fun _ => none)) (base := base_n7_l1) (pre := [tc F_n7 [1, 1, 1, 4, 0, 1, 1, 5, 4, 1, 0, 1, 1, 1], .blk 1, tc F_n7 [1, 1, 1, 5, 4, 1, 0, 1, 1, 1]]) (T := Lp.st F_n7 (L_n7_j1 rec_) v w) (by kernel_rfl) hi (Eq.trans (by kernel_rfl) h) ⟨by kernel_rfl, by kernel_rfl, trivial⟩ trivial (fun L hL => by cases hL; exact hb) (fun hn => nomatch hn) hx hr
theorem s_access_seen_l1_ok {RT : Ret} {r : qT73} (hx : AllExits F_n7 RT r base_n7_l1 [(0, Lx_n7_l1)]) (hr : qH (fun _ => none) r RT) : ∀ n, LpOk F_n7 RT r (Lh_n7_l1 (s_access_seen_l1 n)) (stAt F_n7 [4, 1, 0, 1, 1, 1]) :=
  loop_ok F_n7_ok 4000 (q := [4, 1, 0, 1, 1, 1]) (body := codeAt F_n7 [5, 4, 1, 0, 1, 1, 1]) (live := [0, 1, 5, 6, 8, 9, 19, 20, 21]) (frz := []) (shs := qs13) (sho := qo14) (fun n v w => s_access_seen_l1 n v.1 v.2.1 v.2.2.2.2.2.1 v.2.2.2.2.2.2.1 v.2.2.2.2.2.2.2.1 v.2.2.2.2.2.2.2.2.1 w.1 w.2.1.1 w.2.1.2.1 w.2.2.1.1 w.2.2.1.2.1 w.2.2.2.1 w.2.2.2.2.1) (cuts := fun n => [([1, 1, 1, 4, 0, 1, 1, 5, 4, 1, 0, 1, 1, 1], L_n7_j1 (s_access_seen_l1 n))]) (exits := [(0, Lx_n7_l1)]) (ret := (fun _ => none)) (by kernel_rfl) (fun _ _ => rfl) (fun n v w => by kernel_rfl) (fun n hb => ⟨L_n7_j1_ok hb hx hr, trivial⟩) hx hr
def Lc_n7_l1 : Lp U qT90 := ⟨[0, 1, 5, 6, 8, 9, 19, 20, 21], [], qs13, qo14, fun v w => (s_access_seen_l1 big v.1 v.2.1 v.2.2.2.2.2.1 v.2.2.2.2.2.2.1 v.2.2.2.2.2.2.2.1 v.2.2.2.2.2.2.2.2.1 w.1 w.2.1.1 w.2.1.2.1 w.2.2.1.1 w.2.2.1.2.1 w.2.2.2.1 w.2.2.2.2.1).bind fun (x0, x1, x2, x3, x4, x5, x6) => s_access_seen_k2 x0 x1 x2 x3 x4 x5 x6⟩
theorem Lc_n7_l1_ok (r : qT90) : LpOk F_n7 (b_n7 r).enc r (Lc_n7_l1) (stAt F_n7 [4, 1, 0, 1, 1, 1]) := fun v w hi h0 => by
  obtain ⟨x, hx0, h⟩ := bind_some h0
  exact s_access_seen_l1_ok (r := x) (RT := (b_n7 r).enc) ⟨⟨[tc F_n7 [1, 1, 1, 1]].map TI'.conc ++ [], by kernel_rfl, fun v' w' hi' h' => by obtain rfl := Option.some.inj h'; exact L_n7_k2_ok r v' w' hi' h⟩, trivial⟩ (fun _ ht => nomatch ht) big v w hi hx0
def S_s_access_seen : FSig U := ⟨qT90, [78, 9, 24], [.p, .p, .p], [none, none, some 4], [.p (.sl (.st 0)), .p .str, .p (.st 4)], fun v => s_access_seen v.1 v.2.1 v.2.2.1, b_n7⟩
theorem S_s_access_seen_ok : SigOk X0.E 100 S_s_access_seen.sig := FSig.ok0 F_n7_ok (R := R_n7) (g := g_n7) (cuts := [([4, 1, 0, 1, 1, 1], Lc_n7_l1)]) (pre := [tc0 F_n7]) rfl Tryd.func100 (by decide) rfl (fun _ => Nat.le_of_ble_eq_true (by kernel_rfl)) (fun _ => rfl) (by kernel_rfl) (fun _ _ h => Eq.trans (by kernel_rfl) h) ⟨rfl, trivial⟩ (fun r => ⟨(Lc_n7_l1_ok r), trivial⟩) fun _ => rfl

abbrev Tr_n8_0 : Type := qL2 → Str → qL1 → Int → Int → qL1 → Option qL1
/-! ### tablefinder/access.Visible -/
def c_n8 : Code := bodyOf Tryd.f48
def F_n8 : FC U := ⟨X0.at 32, Tryd.f48, c_n8, [(100, S_s_access_seen.sig)], [], [.own], [none]⟩
theorem F_n8_ok : FOk F_n8 := fok uok tok0 eok0 mixed rfl ⟨S_s_access_seen_ok, trivial⟩
def R_n8 : RSh := ⟨[.own (.st 4)], []⟩
def g_n8 (v : RVal U R_n8) : qL1 := v.1.1
def b_n8 (q : qL1) : TRet U := R_n8.bld ((q, ()), ())
def L_n8_k2 : Lp U qL1 := ⟨[7], [], [.o (.full (0, 1, 1))], [.arr (.st 4) false], fun v w => s_access_Visible_k2 w.1⟩
theorem L_n8_k2_ok (r : qL1) : LpOk F_n8 (b_n8 r).enc r (L_n8_k2) ([tc F_n8 [1, 1, 1]].map TI'.conc ++ []) := fun v w hi h => Pt.ev0 F_n8_ok (S := R_n8) (g := g_n8) (b := b_n8) (cuts := []) (pre := [tc F_n8 [1, 1, 1]]) (T := Lp.st F_n8 (L_n8_k2) v w) (by kernel_rfl) hi (Eq.trans (by kernel_rfl) h) ⟨by kernel_rfl, trivial⟩ trivial fun _ => rfl
def base_n8_l1 : List Eng.Item := .lp (codeAt F_n8 [5, 4, 1, 0, 1, 1]) :: ([.blk 0, tc F_n8 [1, 1, 1]].map TI'.conc ++ [])
def Lh_n8_l1 (rec_ : Tr_n8_0) : Lp U qL1 := ⟨[0, 1, 7, 12, 13, 14], [], qs28, [.arr (.st 4) false], fun v w => rec_ v.1 v.2.1 v.2.2.2.1 v.2.2.2.2.1 v.2.2.2.2.2.1 w.1⟩
def Lx_n8_l1 : Lp U qL1 := ⟨[7], [], [.o (.full (0, 1, 1))], [.arr (.st 4) false], fun v w => some w.1⟩
def L_n8_j1 (rec_ : Tr_n8_0) : Lp U qL1 := ⟨[0, 1, 7, 12, 13, 14], [], qs28, [.arr (.st 4) false], fun v w => s_access_Visible_j1 rec_ v.1 v.2.1 v.2.2.2.1 v.2.2.2.2.1 v.2.2.2.2.2.1 w.1⟩
theorem L_n8_j1_ok {RT : Ret} {r : qL1} {rec_ : Tr_n8_0} (hb : LpOk F_n8 RT r (Lh_n8_l1 rec_) base_n8_l1) (hx : AllExits F_n8 RT r base_n8_l1 [(0, Lx_n8_l1)]) (hr : qH (fun _ => none) r RT) : LpOk F_n8 RT r (L_n8_j1 rec_) (stAt F_n8 [1, 1, 1, 5, 4, 1, 0, 1, 1]) := fun v w hi h => Pt.evlAt F_n8_ok (r := r) 4000 (cuts := []) (back := (some (Lh_n8_l1 rec_))) (exits := [(0, Lx_n8_l1)]) (ret := (fun _ => none)) (base := base_n8_l1) (pre := [tc F_n8 [1, 1, 1, 5, 4, 1, 0, 1, 1]]) (T := Lp.st F_n8 (L_n8_j1 rec_) v w) (by kernel_rfl) hi (Eq.trans (by kernel_rfl) h) ⟨by kernel_rfl, trivial⟩ trivial (fun L hL => by cases hL; exact hb) (fun hn => nomatch hn) hx hr
theorem s_access_Visible_l1_ok {RT : Ret} {r : qL1} (hx : AllExits F_n8 RT r base_n8_l1 [(0, Lx_n8_l1)]) (hr : qH (fun _ => none) r RT) : ∀ n, LpOk F_n8 RT r (Lh_n8_l1 (s_access_Visible_l1 n)) (stAt F_n8 [4, 1, 0, 1, 1]) :=
  loop_ok F_n8_ok 4000 (q := [4, 1, 0, 1, 1]) (body := codeAt F_n8 [5, 4, 1, 0, 1, 1]) (live := [0, 1, 7, 12, 13, 14]) (frz := []) (shs := qs28) (sho := [.arr (.st 4) false]) (fun n v w => s_access_Visible_l1 n v.1 v.2.1 v.2.2.2.1 v.2.2.2.2.1 v.2.2.2.2.2.1 w.1) (cuts := fun n => [([1, 1, 1, 5, 4, 1, 0, 1, 1], L_n8_j1 (s_access_Visible_l1 n))]) (exits := [(0, Lx_n8_l1)]) (ret := (fun _ => none)) (by kernel_rfl) (fun _ _ => rfl) (fun n v w => by kernel_rfl) (fun n hb => ⟨L_n8_j1_ok hb hx hr, trivial⟩) hx hr
def Lc_n8_l1 : Lp U qL1 := ⟨[0, 1, 7, 12, 13, 14], [], qs28, [.arr (.st 4) false], fun v w => (s_access_Visible_l1 big v.1 v.2.1 v.2.2.2.1 v.2.2.2.2.1 v.2.2.2.2.2.1 w.1).bind fun x0 => s_access_Visible_k2 x0⟩
theorem Lc_n8_l1_ok (r : qL1) : LpOk F_n8 (b_n8 r).enc r (Lc_n8_l1) (stAt F_n8 [4, 1, 0, 1, 1]) := fun v w hi h0 => by
  obtain ⟨x, hx0, h⟩ := bind_some h0
  exact s_access_Visible_l1_ok (r := x) (RT := (b_n8 r).enc) ⟨⟨[tc F_n8 [1, 1, 1]].map TI'.conc ++ [], by kernel_rfl, fun v' w' hi' h' => by obtain rfl := Option.some.inj h'; exact L_n8_k2_ok r v' w' hi' h⟩, trivial⟩ (fun _ ht => nomatch ht) big v w hi hx0
def S_s_access_Visible : FSig U := ⟨qL1, [78, 9, 84], [.p, .p, .p], [none, none, none], [.p (.sl (.st 0)), .p .str, .p (.sl (.st 4))], fun v => s_access_Visible v.1 v.2.1 v.2.2.1, b_n8⟩
theorem S_s_access_Visible_ok : SigOk X0.E 48 S_s_access_Visible.sig := FSig.ok0 F_n8_ok (R := R_n8) (g := g_n8) (cuts := [([4, 1, 0, 1, 1], Lc_n8_l1)]) (pre := [tc0 F_n8]) rfl Tryd.func48 (by decide) rfl (fun _ => Nat.le_of_ble_eq_true (by kernel_rfl)) (fun _ => rfl) (by kernel_rfl) (fun _ _ h => Eq.trans (by kernel_rfl) h) ⟨rfl, trivial⟩ (fun r => ⟨(Lc_n8_l1_ok r), trivial⟩) fun _ => rfl

abbrev Tr_n9_0 : Type := qL2 → qL2 → Int → Int → Option (Out qL2 Bool)
/-! ### tablefinder/access.Valid -/
def c_n9 : Code := bodyOf Tryd.f43
def F_n9 : FC U := ⟨X0.at 44, Tryd.f43, c_n9, [], [], [.p], [none]⟩
theorem F_n9_ok : FOk F_n9 := fok uok tok0 eok0 mixed rfl trivial
def R_n9 : RSh := ⟨[.p .bool], []⟩
def g_n9 (v : RVal U R_n9) : Bool := v.1.1
def b_n9 (q : Bool) : TRet U := R_n9.bld ((q, ()), ())
def L_n9_k2 : Lp U Bool := ⟨[0], [], [.o (.v (.sl (.st 0)))], [], fun v w => s_access_Valid_k2 v.1⟩
theorem L_n9_k2_ok (r : Bool) : LpOk F_n9 (b_n9 r).enc r (L_n9_k2) ([tc F_n9 [1, 1]].map TI'.conc ++ []) := fun v w hi h => Pt.ev0 F_n9_ok (S := R_n9) (g := g_n9) (b := b_n9) (cuts := []) (pre := [tc F_n9 [1, 1]]) (T := Lp.st F_n9 (L_n9_k2) v w) (by kernel_rfl) hi (Eq.trans (by kernel_rfl) h) ⟨by kernel_rfl, trivial⟩ trivial fun _ => rfl
def base_n9_l1 : List Eng.Item := .lp (codeAt F_n9 [5, 4, 1, 0, 1]) :: ([.blk 0, tc F_n9 [1, 1]].map TI'.conc ++ [])
def Lh_n9_l1 (rec_ : Tr_n9_0) : Lp U (Out qL2 Bool) := ⟨[0, 5, 6, 7], [], qs42, [], fun v w => rec_ v.1 v.2.1 v.2.2.1 v.2.2.2.1⟩
def Lx_n9_l1 : Lp U (Out qL2 Bool) := ⟨[0], [], [.o (.v (.sl (.st 0)))], [], fun v w => some (.brk v.1)⟩
def L_n9_j1 (rec_ : Tr_n9_0) : Lp U (Out qL2 Bool) := ⟨[0, 5, 6, 7, 39], [], [.o (.v (.sl (.st 0))), .o (.v (.sl (.st 0))), qi, qi, .o (.v .bool)], [], fun v w => s_access_Valid_j1 rec_ v.1 v.2.1 v.2.2.1 v.2.2.2.1 v.2.2.2.2.1⟩
theorem L_n9_j1_ok {RT : Ret} {r : (Out qL2 Bool)} {rec_ : Tr_n9_0} (hb : LpOk F_n9 RT r (Lh_n9_l1 rec_) base_n9_l1) (hx : AllExits F_n9 RT r base_n9_l1 [(0, Lx_n9_l1)]) (hr : qH (retOf R_n9 fun v => Out.ret (β := qL2) (g_n9 v)) r RT) : LpOk F_n9 RT r (L_n9_j1 rec_) (stAt F_n9 [1, 1, 4, 0, 1, 1, 5, 4, 1, 0, 1]) := fun v w hi h => Pt.evlAt F_n9_ok (r := r) 4000 (cuts := []) (back := (some (Lh_n9_l1 rec_))) (exits := [(0, Lx_n9_l1)]) (ret := (retOf R_n9 fun v => Out.ret (β := qL2) (g_n9 v))) (base := base_n9_l1) (pre := [tc F_n9 [1, 1, 4, 0, 1, 1, 5, 4, 1, 0, 1], .blk 1, tc F_n9 [1, 1, 1, 5, 4, 1, 0, 1]]) (T := Lp.st F_n9 (L_n9_j1 rec_) v w) (by kernel_rfl) hi (Eq.trans (by kernel_rfl) h) ⟨by kernel_rfl, by kernel_rfl, trivial⟩ trivial (fun L hL => by cases hL; exact hb) (fun hn => nomatch hn) hx hr
theorem s_access_Valid_l1_ok {RT : Ret} {r : (Out qL2 Bool)} (hx : AllExits F_n9 RT r base_n9_l1 [(0, Lx_n9_l1)]) (hr : qH (retOf R_n9 fun v => Out.ret (β := qL2) (g_n9 v)) r RT) : ∀ n, LpOk F_n9 RT r (Lh_n9_l1 (s_access_Valid_l1 n)) (stAt F_n9 [4, 1, 0, 1]) :=
  loop_ok F_n9_ok 4000 (q := [4, 1, 0, 1]) (body := codeAt F_n9 [5, 4, 1, 0, 1]) (live := [0, 5, 6, 7]) (frz := []) (shs := qs42) (sho := []) (fun n v w => s_access_Valid_l1 n v.1 v.2.1 v.2.2.1 v.2.2.2.1) (cuts := fun n => [([1, 1, 4, 0, 1, 1, 5, 4, 1, 0, 1], L_n9_j1 (s_access_Valid_l1 n))]) (exits := [(0, Lx_n9_l1)]) (ret := (retOf R_n9 fun v => Out.ret (β := qL2) (g_n9 v))) (by kernel_rfl) (fun _ _ => rfl) (fun n v w => by kernel_rfl) (fun n hb => ⟨L_n9_j1_ok hb hx hr, trivial⟩) hx hr
def Lc_n9_l1 : Lp U Bool := ⟨[0, 5, 6, 7], [], qs42, [], fun v w => (s_access_Valid_l1 big v.1 v.2.1 v.2.2.1 v.2.2.2.1).bind fun | .ret q_ => some q_ | .brk x0 => s_access_Valid_k2 x0⟩
theorem Lc_n9_l1_ok (r : Bool) : LpOk F_n9 (b_n9 r).enc r (Lc_n9_l1) (stAt F_n9 [4, 1, 0, 1]) := fun v w hi h0 => by
  obtain ⟨x, hx0, h⟩ := bind_some h0
  exact s_access_Valid_l1_ok (r := x) (RT := (b_n9 r).enc) ⟨⟨[tc F_n9 [1, 1]].map TI'.conc ++ [], by kernel_rfl, fun v' w' hi' h' => by obtain rfl := Option.some.inj h'; exact L_n9_k2_ok r v' w' hi' h⟩, trivial⟩ (fun t ht => by obtain ⟨q, rfl, hq⟩ := retOut ht; obtain rfl := Option.some.inj h; exact retOf_enc uok (give := b_n9) (fun _ => rfl) hq) big v w hi hx0
def S_s_access_Valid : FSig U := ⟨Bool, [78], [.p], [none], [.p (.sl (.st 0))], fun v => s_access_Valid v.1, b_n9⟩
theorem S_s_access_Valid_ok : SigOk X0.E 43 S_s_access_Valid.sig := FSig.ok0 F_n9_ok (R := R_n9) (g := g_n9) (cuts := [([4, 1, 0, 1], Lc_n9_l1)]) (pre := [tc0 F_n9]) rfl Tryd.func43 (by decide) rfl (fun _ => Nat.le_of_ble_eq_true (by kernel_rfl)) (fun _ => rfl) (by kernel_rfl) (fun _ _ h => Eq.trans (by kernel_rfl) h) ⟨rfl, trivial⟩ (fun r => ⟨(Lc_n9_l1_ok r), trivial⟩) fun _ => rfl

/-! ### tablefinder/tablefinderlaw42.awake -/
def c_n10 : Code := bodyOf Tryd.f40
def F_n10 : FC U := ⟨X0.at 63, Tryd.f40, c_n10, [(48, S_s_access_Visible.sig), (43, S_s_access_Valid.sig), (45, S_s_access_May.sig)], [], [.p], [none]⟩
theorem F_n10_ok : FOk F_n10 := fok uok tok0 eok0 mixed rfl ⟨S_s_access_Visible_ok, S_s_access_Valid_ok, S_s_access_May_ok, trivial⟩
def R_n10 : RSh := ⟨[.p .bool], []⟩
def g_n10 (v : RVal U R_n10) : Bool := v.1.1
def b_n10 (q : Bool) : TRet U := R_n10.bld ((q, ()), ())
def L_n10_j1 : Lp U Bool := ⟨[0], [], [.o (.v .bool)], [], fun v w => sl42_awake_j1 v.1⟩
theorem L_n10_j1_ok (r : Bool) : LpOk F_n10 (b_n10 r).enc r (L_n10_j1) (stAt F_n10 [1, 1, 1, 1, 1]) := fun v w hi h => Pt.ev0 F_n10_ok (S := R_n10) (g := g_n10) (b := b_n10) (cuts := []) (pre := [tc F_n10 [1, 1, 1, 1, 1]]) (T := Lp.st F_n10 (L_n10_j1) v w) (by kernel_rfl) hi (Eq.trans (by kernel_rfl) h) ⟨by kernel_rfl, trivial⟩ trivial fun _ => rfl
def S_sl42_awake : FSig U := ⟨Bool, [], [], [], [], fun v => sl42_awake, b_n10⟩
theorem S_sl42_awake_ok : SigOk X0.E 40 S_sl42_awake.sig := FSig.ok0 F_n10_ok (R := R_n10) (g := g_n10) (cuts := [([1, 1, 1, 1, 1], L_n10_j1)]) (pre := [tc0 F_n10]) rfl Tryd.func40 (by decide) rfl (fun _ => Nat.le_of_ble_eq_true (by kernel_rfl)) (fun _ => rfl) (by kernel_rfl) (fun _ _ h => Eq.trans (by kernel_rfl) h) ⟨rfl, trivial⟩ (fun r => ⟨(L_n10_j1_ok r), trivial⟩) fun _ => rfl

/-! ### tablefinder/tablefinderkit.Roll -/
def c_n11 : Code := bodyOf Tryd.f20
def F_n11 : FC U := ⟨X0.at 6, Tryd.f20, c_n11, [], [], [.box], [none]⟩
theorem F_n11_ok : FOk F_n11 := fok uok tok0 eok0 mixed rfl trivial
def R_n11 : RSh := ⟨[.box (.st 5)], []⟩
def g_n11 (v : RVal U R_n11) : Gk_Dice := v.1.1
def b_n11 (q : Gk_Dice) : TRet U := R_n11.bld ((q, ()), ())
def S_sk_Roll : FSig U := ⟨Gk_Dice, [25], [.p], [none], [.p (.sl (.int .i64))], fun v => sk_Roll v.1, b_n11⟩
theorem S_sk_Roll_ok : SigOk X0.E 20 S_sk_Roll.sig := FSig.ok0 F_n11_ok (R := R_n11) (g := g_n11) (cuts := []) (pre := [tc0 F_n11]) rfl Tryd.func20 (by decide) rfl (fun _ => Nat.le_of_ble_eq_true (by kernel_rfl)) (fun _ => rfl) (by kernel_rfl) (fun _ _ h => Eq.trans (by kernel_rfl) h) ⟨rfl, trivial⟩ (fun r => trivial) fun _ => rfl

/-! ### tablefinder/tablefinderkit.Mod -/
def c_n12 : Code := bodyOf Tryd.f22
def F_n12 : FC U := ⟨X0.at 14, Tryd.f22, c_n12, [], [], [.p], [none]⟩
theorem F_n12_ok : FOk F_n12 := fok uok tok0 eok0 mixed rfl trivial
def R_n12 : RSh := ⟨[.p (.int .i64)], []⟩
def g_n12 (v : RVal U R_n12) : Int := v.1.1
def b_n12 (q : Int) : TRet U := R_n12.bld ((q, ()), ())
def S_sk_Mod : FSig U := ⟨Int, [3, 3], [.p, .p], [none, none], [.p (.int .i64), .p (.int .i64)], fun v => sk_Mod v.1 v.2.1, b_n12⟩
theorem S_sk_Mod_ok : SigOk X0.E 22 S_sk_Mod.sig := FSig.ok0 F_n12_ok (R := R_n12) (g := g_n12) (cuts := []) (pre := [tc0 F_n12]) rfl Tryd.func22 (by decide) rfl (fun _ => Nat.le_of_ble_eq_true (by kernel_rfl)) (fun _ => rfl) (by kernel_rfl) (fun _ _ h => Eq.trans (by kernel_rfl) h) ⟨rfl, trivial⟩ (fun r => trivial) fun _ => rfl

/-! ### (*tablefinder/tablefinderkit.Dice).Next -/
def c_n13 : Code := bodyOf Tryd.f51
def F_n13 : FC U := ⟨X0.at 35, Tryd.f51, c_n13, [(22, S_sk_Mod.sig)], [0], [.p], [none]⟩
theorem F_n13_ok : FOk F_n13 := fok uok tok0 eok0 mixed rfl ⟨S_sk_Mod_ok, trivial⟩
def R_n13 : RSh := ⟨[.p (.int .i64)], [(0, .box (.st 5))]⟩
def g_n13 (v : RVal U R_n13) : (Int × Gk_Dice) := (v.1.1, v.2.1)
def b_n13 (q : (Int × Gk_Dice)) : TRet U := R_n13.bld ((q.1, ()), (q.2, ()))
def S_sk_Dice_Next : FSig U := ⟨(Int × Gk_Dice), [29, 3], [.lend, .p], [none, none], [.box (.st 5), .p (.int .i64)], fun v => sk_Dice_Next v.1 v.2.1, b_n13⟩
theorem S_sk_Dice_Next_ok : SigOk X0.E 51 S_sk_Dice_Next.sig := FSig.ok0 F_n13_ok (R := R_n13) (g := g_n13) (cuts := []) (pre := [tc0 F_n13]) rfl Tryd.func51 (by decide) rfl (fun _ => Nat.le_of_ble_eq_true (by kernel_rfl)) (fun _ => rfl) (by kernel_rfl) (fun _ _ h => Eq.trans (by kernel_rfl) h) ⟨rfl, trivial⟩ (fun r => trivial) fun _ => rfl

/-! ### (*tablefinder/tablefinderkit.Dice).Word -/
def c_n14 : Code := bodyOf Tryd.f73
def F_n14 : FC U := ⟨X0.at 12, Tryd.f73, c_n14, [(51, S_sk_Dice_Next.sig)], [0], [.p], [none]⟩
theorem F_n14_ok : FOk F_n14 := fok uok tok0 eok0 mixed rfl ⟨S_sk_Dice_Next_ok, trivial⟩
def R_n14 : RSh := ⟨[.p .str], [(0, .box (.st 5))]⟩
def g_n14 (v : RVal U R_n14) : (Str × Gk_Dice) := (v.1.1, v.2.1)
def b_n14 (q : (Str × Gk_Dice)) : TRet U := R_n14.bld ((q.1, ()), (q.2, ()))
def S_sk_Dice_Word : FSig U := ⟨(Str × Gk_Dice), [29, 88], [.lend, .p], [none, none], [.box (.st 5), .p (.sl .str)], fun v => sk_Dice_Word v.1 v.2.1, b_n14⟩
theorem S_sk_Dice_Word_ok : SigOk X0.E 73 S_sk_Dice_Word.sig := FSig.ok0 F_n14_ok (R := R_n14) (g := g_n14) (cuts := []) (pre := [tc0 F_n14]) rfl Tryd.func73 (by decide) rfl (fun _ => Nat.le_of_ble_eq_true (by kernel_rfl)) (fun _ => rfl) (by kernel_rfl) (fun _ _ h => Eq.trans (by kernel_rfl) h) ⟨rfl, trivial⟩ (fun r => trivial) fun _ => rfl

/-! ### tablefinder/tablefinderkit.Rules -/
def c_n15 : Code := bodyOf Tryd.f41
def F_n15 : FC U := ⟨X0.at 29, Tryd.f41, c_n15, [(51, S_sk_Dice_Next.sig), (73, S_sk_Dice_Word.sig)], [0], [.own], [none]⟩
theorem F_n15_ok : FOk F_n15 := fok uok tok0 eok0 mixed rfl ⟨S_sk_Dice_Next_ok, S_sk_Dice_Word_ok, trivial⟩
def R_n15 : RSh := ⟨[.own (.st 0)], [(0, .box (.st 5))]⟩
def g_n15 (v : RVal U R_n15) : qT83 := (v.1.1, v.2.1)
def b_n15 (q : qT83) : TRet U := R_n15.bld ((q.1, ()), (q.2, ()))
def L_n15_k1 : Lp U qT83 := ⟨[3], [], [.o (.full (0, 1, 1))], qo57, fun v w => sk_Rules_k1 w.1 w.2.1⟩
theorem L_n15_k1_ok (r : qT83) : LpOk F_n15 (b_n15 r).enc r (L_n15_k1) ([tc F_n15 [1, 1, 1]].map TI'.conc ++ []) := fun v w hi h => Pt.ev0 F_n15_ok (S := R_n15) (g := g_n15) (b := b_n15) (cuts := []) (pre := [tc F_n15 [1, 1, 1]]) (T := Lp.st F_n15 (L_n15_k1) v w) (by kernel_rfl) hi (Eq.trans (by kernel_rfl) h) ⟨by kernel_rfl, trivial⟩ trivial fun _ => rfl
def base_n15_l1 : List Eng.Item := .lp (codeAt F_n15 [5, 4, 1, 0, 1, 1]) :: ([.blk 0, tc F_n15 [1, 1, 1]].map TI'.conc ++ [])
def Lh_n15_l1 (rec_ : Int → Gk_Dice → qL2 → Option qT84) : Lp U qT84 := ⟨[0, 3, 4], [], qs50, qo57, fun v w => rec_ v.2.2.1 w.1 w.2.1⟩
def Lx_n15_l1 : Lp U qT84 := ⟨[3], [], [.o (.full (0, 1, 1))], qo57, fun v w => some (w.1, w.2.1)⟩
theorem sk_Rules_l1_ok {RT : Ret} {r : qT84} (hx : AllExits F_n15 RT r base_n15_l1 [(0, Lx_n15_l1)]) (hr : qH (fun _ => none) r RT) : ∀ n, LpOk F_n15 RT r (Lh_n15_l1 (sk_Rules_l1 n)) (stAt F_n15 [4, 1, 0, 1, 1]) :=
  loop_ok F_n15_ok 4000 (q := [4, 1, 0, 1, 1]) (body := codeAt F_n15 [5, 4, 1, 0, 1, 1]) (live := [0, 3, 4]) (frz := []) (shs := qs50) (sho := qo57) (fun n v w => sk_Rules_l1 n v.2.2.1 w.1 w.2.1) (cuts := fun n => []) (exits := [(0, Lx_n15_l1)]) (ret := (fun _ => none)) (by kernel_rfl) (fun _ _ => rfl) (fun n v w => by kernel_rfl) (fun n hb => trivial) hx hr
def Lc_n15_l1 : Lp U qT83 := ⟨[0, 3, 4], [], qs50, qo57, fun v w => (sk_Rules_l1 big v.2.2.1 w.1 w.2.1).bind fun (x0, x1) => sk_Rules_k1 x0 x1⟩
theorem Lc_n15_l1_ok (r : qT83) : LpOk F_n15 (b_n15 r).enc r (Lc_n15_l1) (stAt F_n15 [4, 1, 0, 1, 1]) := fun v w hi h0 => by
  obtain ⟨x, hx0, h⟩ := bind_some h0
  exact sk_Rules_l1_ok (r := x) (RT := (b_n15 r).enc) ⟨⟨[tc F_n15 [1, 1, 1]].map TI'.conc ++ [], by kernel_rfl, fun v' w' hi' h' => by obtain rfl := Option.some.inj h'; exact L_n15_k1_ok r v' w' hi' h⟩, trivial⟩ (fun _ ht => nomatch ht) big v w hi hx0
def S_sk_Rules : FSig U := ⟨qT83, [29], [.lend], [none], [.box (.st 5)], fun v => sk_Rules v.1, b_n15⟩
theorem S_sk_Rules_ok : SigOk X0.E 41 S_sk_Rules.sig := FSig.ok0 F_n15_ok (R := R_n15) (g := g_n15) (cuts := [([4, 1, 0, 1, 1], Lc_n15_l1)]) (pre := [tc0 F_n15]) rfl Tryd.func41 (by decide) rfl (fun _ => Nat.le_of_ble_eq_true (by kernel_rfl)) (fun _ => rfl) (by kernel_rfl) (fun _ _ h => Eq.trans (by kernel_rfl) h) ⟨rfl, trivial⟩ (fun r => ⟨(Lc_n15_l1_ok r), trivial⟩) fun _ => rfl

/-! ### tablefinder/tablefinderkit.Cell -/
def c_n16 : Code := bodyOf Tryd.f50
def F_n16 : FC U := ⟨X0.at 11, Tryd.f50, c_n16, [(51, S_sk_Dice_Next.sig), (73, S_sk_Dice_Word.sig)], [0], [.p], [some 2]⟩
theorem F_n16_ok : FOk F_n16 := fok uok tok0 eok0 mixed rfl ⟨S_sk_Dice_Next_ok, S_sk_Dice_Word_ok, trivial⟩
def R_n16 : RSh := ⟨[.p (.st 2)], [(0, .box (.st 5))]⟩
def g_n16 (v : RVal U R_n16) : qT89 := (v.1.1, v.2.1)
def b_n16 (q : qT89) : TRet U := R_n16.bld ((q.1, ()), (q.2, ()))
def S_sk_Cell : FSig U := ⟨qT89, [29], [.lend], [none], [.box (.st 5)], fun v => sk_Cell v.1, b_n16⟩
theorem S_sk_Cell_ok : SigOk X0.E 50 S_sk_Cell.sig := FSig.ok0 F_n16_ok (R := R_n16) (g := g_n16) (cuts := []) (pre := [tc0 F_n16]) rfl Tryd.func50 (by decide) rfl (fun _ => Nat.le_of_ble_eq_true (by kernel_rfl)) (fun _ => rfl) (by kernel_rfl) (fun _ _ h => Eq.trans (by kernel_rfl) h) ⟨rfl, trivial⟩ (fun r => trivial) fun _ => rfl

/-! ### tablefinder/tablefinderkit.Number -/
def c_n18 : Code := bodyOf Tryd.f117
def F_n18 : FC U := ⟨X0.at 19, Tryd.f117, c_n18, [(51, S_sk_Dice_Next.sig), (73, S_sk_Dice_Word.sig), (118, S_s_strconv_Itoa.sig)], [0], [.p], [some 2]⟩
theorem F_n18_ok : FOk F_n18 := fok uok tok0 eok0 mixed rfl ⟨S_sk_Dice_Next_ok, S_sk_Dice_Word_ok, S_s_strconv_Itoa_ok, trivial⟩
def R_n18 : RSh := ⟨[.p (.st 2)], [(0, .box (.st 5))]⟩
def g_n18 (v : RVal U R_n18) : qT89 := (v.1.1, v.2.1)
def b_n18 (q : qT89) : TRet U := R_n18.bld ((q.1, ()), (q.2, ()))
def S_sk_Number : FSig U := ⟨qT89, [29], [.lend], [none], [.box (.st 5)], fun v => sk_Number v.1, b_n18⟩
theorem S_sk_Number_ok : SigOk X0.E 117 S_sk_Number.sig := FSig.ok0 F_n18_ok (R := R_n18) (g := g_n18) (cuts := []) (pre := [tc0 F_n18]) rfl Tryd.func117 (by decide) rfl (fun _ => Nat.le_of_ble_eq_true (by kernel_rfl)) (fun _ => rfl) (by kernel_rfl) (fun _ _ h => Eq.trans (by kernel_rfl) h) ⟨rfl, trivial⟩ (fun r => trivial) fun _ => rfl

abbrev Tr_n19_0 : Type := Int → Int → Int → Gk_Dice → Str → Str → qL4 → qL4 → Option qT79
/-! ### tablefinder/tablefinderkit.Column -/
def c_n19 : Code := bodyOf Tryd.f74
def F_n19 : FC U := ⟨X0.at 46, Tryd.f74, c_n19, [(73, S_sk_Dice_Word.sig), (51, S_sk_Dice_Next.sig), (50, S_sk_Cell.sig), (117, S_sk_Number.sig), (118, S_s_strconv_Itoa.sig)], [0], [.p], [some 3]⟩
theorem F_n19_ok : FOk F_n19 := fok uok tok0 eok0 mixed rfl ⟨S_sk_Dice_Word_ok, S_sk_Dice_Next_ok, S_sk_Cell_ok, S_sk_Number_ok, S_s_strconv_Itoa_ok, trivial⟩
def R_n19 : RSh := ⟨[.p (.st 3)], [(0, .box (.st 5))]⟩
def g_n19 (v : RVal U R_n19) : qT87 := (v.1.1, v.2.1)
def b_n19 (q : qT87) : TRet U := R_n19.bld ((q.1, ()), (q.2, ()))
def L_n19_k2 : Lp U qT87 := ⟨[4, 5], [], qs54, qo25, fun v w => sk_Column_k2 w.1 w.2.1.1 w.2.2.1.1 w.2.2.2.1 w.2.2.2.2.1⟩
theorem L_n19_k2_ok (r : qT87) : LpOk F_n19 (b_n19 r).enc r (L_n19_k2) ([tc F_n19 [1, 1, 1, 1]].map TI'.conc ++ []) := fun v w hi h => Pt.ev0 F_n19_ok (S := R_n19) (g := g_n19) (b := b_n19) (cuts := []) (pre := [tc F_n19 [1, 1, 1, 1]]) (T := Lp.st F_n19 (L_n19_k2) v w) (by kernel_rfl) hi (Eq.trans (by kernel_rfl) h) ⟨by kernel_rfl, trivial⟩ trivial fun _ => rfl
def base_n19_l1 : List Eng.Item := .lp (codeAt F_n19 [5, 4, 1, 0, 1, 1, 1]) :: ([.blk 0, tc F_n19 [1, 1, 1, 1]].map TI'.conc ++ [])
def Lh_n19_l1 (rec_ : Tr_n19_0) : Lp U qT79 := ⟨[0, 4, 5, 6, 15, 16], [], qs26, qo25, fun v w => rec_ v.2.2.2.1 v.2.2.2.2.1 v.2.2.2.2.2.1 w.1 w.2.1.1 w.2.2.1.1 w.2.2.2.1 w.2.2.2.2.1⟩
def Lx_n19_l1 : Lp U qT79 := ⟨[4, 5], [], qs54, qo25, fun v w => some (w.1, w.2.1.1, w.2.2.1.1, w.2.2.2.1, w.2.2.2.2.1)⟩
def L_n19_j1 (rec_ : Tr_n19_0) : Lp U qT79 := ⟨[0, 4, 5, 6, 8, 15, 16], [], [.o (.ptr (0, 0, 0) 0 0), .o (.ptr (0, 1, 1) 0 0), .o (.ptr (0, 2, 1) 0 0), qi, .o (.ptr (0, 3, 1) 0 0), qi, qi], [.boxS (.st 5), .box [.o (.v .str), .o (.full (0, 4, 1))], .box [.o (.v .str), .o (.full (0, 5, 1))], .boxS (.st 2), .arr (.st 2) false, .arr (.st 2) false], fun v w => sk_Column_j1 rec_ v.2.2.2.1 v.2.2.2.2.2.1 v.2.2.2.2.2.2.1 w.1 w.2.1.1 w.2.2.1.1 w.2.2.2.1 w.2.2.2.2.1 w.2.2.2.2.2.1⟩
theorem L_n19_j1_ok {RT : Ret} {r : qT79} {rec_ : Tr_n19_0} (hb : LpOk F_n19 RT r (Lh_n19_l1 rec_) base_n19_l1) (hx : AllExits F_n19 RT r base_n19_l1 [(0, Lx_n19_l1)]) (hr : qH (fun _ => none) r RT) : LpOk F_n19 RT r (L_n19_j1 rec_) (stAt F_n19 [1, 1, 1, 4, 0, 1, 1, 5, 4, 1, 0, 1, 1, 1]) := fun v w hi h => Pt.evlAt F_n19_ok (r := r) 4000 (cuts := []) (back := (some (Lh_n19_l1 rec_))) (exits := [(0, Lx_n19_l1)]) (ret := (fun _ => none)) (base := base_n19_l1) (pre := [tc F_n19 [1, 1, 1, 4, 0, 1, 1, 5, 4, 1, 0, 1, 1, 1], .blk 1, tc F_n19 [1, 1, 1, 5, 4, 1, 0, 1, 1, 1]]) (T := Lp.st F_n19 (L_n19_j1 rec_) v w) (by kernel_rfl) hi (Eq.trans (by kernel_rfl) h) ⟨by kernel_rfl, by kernel_rfl, trivial⟩ trivial (fun L hL => by cases hL; exact hb) (fun hn => nomatch hn) hx hr
theorem sk_Column_l1_ok {RT : Ret} {r : qT79} (hx : AllExits F_n19 RT r base_n19_l1 [(0, Lx_n19_l1)]) (hr : qH (fun _ => none) r RT) : ∀ n, LpOk F_n19 RT r (Lh_n19_l1 (sk_Column_l1 n)) (stAt F_n19 [4, 1, 0, 1, 1, 1]) :=
  loop_ok F_n19_ok 4000 (q := [4, 1, 0, 1, 1, 1]) (body := codeAt F_n19 [5, 4, 1, 0, 1, 1, 1]) (live := [0, 4, 5, 6, 15, 16]) (frz := []) (shs := qs26) (sho := qo25) (fun n v w => sk_Column_l1 n v.2.2.2.1 v.2.2.2.2.1 v.2.2.2.2.2.1 w.1 w.2.1.1 w.2.2.1.1 w.2.2.2.1 w.2.2.2.2.1) (cuts := fun n => [([1, 1, 1, 4, 0, 1, 1, 5, 4, 1, 0, 1, 1, 1], L_n19_j1 (sk_Column_l1 n))]) (exits := [(0, Lx_n19_l1)]) (ret := (fun _ => none)) (by kernel_rfl) (fun _ _ => rfl) (fun n v w => by kernel_rfl) (fun n hb => ⟨L_n19_j1_ok hb hx hr, trivial⟩) hx hr
def Lc_n19_l1 : Lp U qT87 := ⟨[0, 4, 5, 6, 15, 16], [], qs26, qo25, fun v w => (sk_Column_l1 big v.2.2.2.1 v.2.2.2.2.1 v.2.2.2.2.2.1 w.1 w.2.1.1 w.2.2.1.1 w.2.2.2.1 w.2.2.2.2.1).bind fun (x0, x1, x2, x3, x4) => sk_Column_k2 x0 x1 x2 x3 x4⟩
theorem Lc_n19_l1_ok (r : qT87) : LpOk F_n19 (b_n19 r).enc r (Lc_n19_l1) (stAt F_n19 [4, 1, 0, 1, 1, 1]) := fun v w hi h0 => by
  obtain ⟨x, hx0, h⟩ := bind_some h0
  exact sk_Column_l1_ok (r := x) (RT := (b_n19 r).enc) ⟨⟨[tc F_n19 [1, 1, 1, 1]].map TI'.conc ++ [], by kernel_rfl, fun v' w' hi' h' => by obtain rfl := Option.some.inj h'; exact L_n19_k2_ok r v' w' hi' h⟩, trivial⟩ (fun _ ht => nomatch ht) big v w hi hx0
def S_sk_Column : FSig U := ⟨qT87, [29, 3], [.lend, .p], [none, none], [.box (.st 5), .p (.int .i64)], fun v => sk_Column v.1 v.2.1, b_n19⟩
theorem S_sk_Column_ok : SigOk X0.E 74 S_sk_Column.sig := FSig.ok0 F_n19_ok (R := R_n19) (g := g_n19) (cuts := [([4, 1, 0, 1, 1, 1], Lc_n19_l1)]) (pre := [tc0 F_n19]) rfl Tryd.func74 (by decide) rfl (fun _ => Nat.le_of_ble_eq_true (by kernel_rfl)) (fun _ => rfl) (by kernel_rfl) (fun _ _ h => Eq.trans (by kernel_rfl) h) ⟨rfl, trivial⟩ (fun r => ⟨(Lc_n19_l1_ok r), trivial⟩) fun _ => rfl

/-! ### tablefinder/tablefinderkit.Table -/
def c_n20 : Code := bodyOf Tryd.f21
def F_n20 : FC U := ⟨X0.at 35, Tryd.f21, c_n20, [(73, S_sk_Dice_Word.sig), (51, S_sk_Dice_Next.sig), (74, S_sk_Column.sig)], [0], [.p], [some 4]⟩
theorem F_n20_ok : FOk F_n20 := fok uok tok0 eok0 mixed rfl ⟨S_sk_Dice_Word_ok, S_sk_Dice_Next_ok, S_sk_Column_ok, trivial⟩
def R_n20 : RSh := ⟨[.p (.st 4)], [(0, .box (.st 5))]⟩
def g_n20 (v : RVal U R_n20) : qT88 := (v.1.1, v.2.1)
def b_n20 (q : qT88) : TRet U := R_n20.bld ((q.1, ()), (q.2, ()))
def L_n20_j2 : Lp U qT88 := ⟨[4, 5], [], qs54, qo15, fun v w => sk_Table_j2 w.1 w.2.1.1 w.2.1.2.1 w.2.2.1.1 w.2.2.1.2.1 w.2.2.2.1 w.2.2.2.2.1⟩
theorem L_n20_j2_ok (r : qT88) : LpOk F_n20 (b_n20 r).enc r (L_n20_j2) (stAt F_n20 [1, 1, 1, 1, 1]) := fun v w hi h => Pt.ev0 F_n20_ok (S := R_n20) (g := g_n20) (b := b_n20) (cuts := []) (pre := [tc F_n20 [1, 1, 1, 1, 1]]) (T := Lp.st F_n20 (L_n20_j2) v w) (by kernel_rfl) hi (Eq.trans (by kernel_rfl) h) ⟨by kernel_rfl, trivial⟩ trivial fun _ => rfl
def L_n20_k1 : Lp U qT88 := ⟨[0, 4, 5], [], qs48, qo15, fun v w => sk_Table_k1 w.1 w.2.1.1 w.2.1.2.1 w.2.2.1.1 w.2.2.1.2.1 w.2.2.2.1 w.2.2.2.2.1⟩
theorem L_n20_k1_ok (r : qT88) : LpOk F_n20 (b_n20 r).enc r (L_n20_k1) ([tc F_n20 [1, 1, 1, 1]].map TI'.conc ++ []) := fun v w hi h => Pt.ev0 F_n20_ok (S := R_n20) (g := g_n20) (b := b_n20) (cuts := [([1, 1, 1, 1, 1], L_n20_j2)]) (pre := [tc F_n20 [1, 1, 1, 1]]) (T := Lp.st F_n20 (L_n20_k1) v w) (by kernel_rfl) hi (Eq.trans (by kernel_rfl) h) ⟨by kernel_rfl, trivial⟩ ⟨(L_n20_j2_ok r), trivial⟩ fun _ => rfl
def base_n20_l1 : List Eng.Item := .lp (codeAt F_n20 [5, 4, 1, 0, 1, 1, 1]) :: ([.blk 0, tc F_n20 [1, 1, 1, 1]].map TI'.conc ++ [])
def Lh_n20_l1 (rec_ : Int → Int → Gk_Dice → Int → Str → Int → Str → qL0 → qL0 → Option qT72) : Lp U qT72 := ⟨[0, 4, 5, 6, 7], [], qs30, qo15, fun v w => rec_ v.2.2.2.1 v.2.2.2.2.1 w.1 w.2.1.1 w.2.1.2.1 w.2.2.1.1 w.2.2.1.2.1 w.2.2.2.1 w.2.2.2.2.1⟩
def Lx_n20_l1 : Lp U qT72 := ⟨[0, 4, 5], [], qs48, qo15, fun v w => some (w.1, w.2.1.1, w.2.1.2.1, w.2.2.1.1, w.2.2.1.2.1, w.2.2.2.1, w.2.2.2.2.1)⟩
theorem sk_Table_l1_ok {RT : Ret} {r : qT72} (hx : AllExits F_n20 RT r base_n20_l1 [(0, Lx_n20_l1)]) (hr : qH (fun _ => none) r RT) : ∀ n, LpOk F_n20 RT r (Lh_n20_l1 (sk_Table_l1 n)) (stAt F_n20 [4, 1, 0, 1, 1, 1]) :=
  loop_ok F_n20_ok 4000 (q := [4, 1, 0, 1, 1, 1]) (body := codeAt F_n20 [5, 4, 1, 0, 1, 1, 1]) (live := [0, 4, 5, 6, 7]) (frz := []) (shs := qs30) (sho := qo15) (fun n v w => sk_Table_l1 n v.2.2.2.1 v.2.2.2.2.1 w.1 w.2.1.1 w.2.1.2.1 w.2.2.1.1 w.2.2.1.2.1 w.2.2.2.1 w.2.2.2.2.1) (cuts := fun n => []) (exits := [(0, Lx_n20_l1)]) (ret := (fun _ => none)) (by kernel_rfl) (fun _ _ => rfl) (fun n v w => by kernel_rfl) (fun n hb => trivial) hx hr
def Lc_n20_l1 : Lp U qT88 := ⟨[0, 4, 5, 6, 7], [], qs30, qo15, fun v w => (sk_Table_l1 big v.2.2.2.1 v.2.2.2.2.1 w.1 w.2.1.1 w.2.1.2.1 w.2.2.1.1 w.2.2.1.2.1 w.2.2.2.1 w.2.2.2.2.1).bind fun (x0, x1, x2, x3, x4, x5, x6) => sk_Table_k1 x0 x1 x2 x3 x4 x5 x6⟩
theorem Lc_n20_l1_ok (r : qT88) : LpOk F_n20 (b_n20 r).enc r (Lc_n20_l1) (stAt F_n20 [4, 1, 0, 1, 1, 1]) := fun v w hi h0 => by
  obtain ⟨x, hx0, h⟩ := bind_some h0
  exact sk_Table_l1_ok (r := x) (RT := (b_n20 r).enc) ⟨⟨[tc F_n20 [1, 1, 1, 1]].map TI'.conc ++ [], by kernel_rfl, fun v' w' hi' h' => by obtain rfl := Option.some.inj h'; exact L_n20_k1_ok r v' w' hi' h⟩, trivial⟩ (fun _ ht => nomatch ht) big v w hi hx0
def S_sk_Table : FSig U := ⟨qT88, [29, 3], [.lend, .p], [none, none], [.box (.st 5), .p (.int .i64)], fun v => sk_Table v.1 v.2.1, b_n20⟩
theorem S_sk_Table_ok : SigOk X0.E 21 S_sk_Table.sig := FSig.ok0 F_n20_ok (R := R_n20) (g := g_n20) (cuts := [([4, 1, 0, 1, 1, 1], Lc_n20_l1)]) (pre := [tc0 F_n20]) rfl Tryd.func21 (by decide) rfl (fun _ => Nat.le_of_ble_eq_true (by kernel_rfl)) (fun _ => rfl) (by kernel_rfl) (fun _ _ h => Eq.trans (by kernel_rfl) h) ⟨rfl, trivial⟩ (fun r => ⟨(Lc_n20_l1_ok r), trivial⟩) fun _ => rfl

abbrev Tr_n21_0 : Type := Int → Int → Gk_Dice → Int → Int → Str → Int → Int → Str → qL3 → qL3 → Option qT71
/-! ### tablefinder/tablefinderkit.Op -/
def c_n21 : Code := bodyOf Tryd.f143
def F_n21 : FC U := ⟨X0.at 95, Tryd.f143, c_n21, [(51, S_sk_Dice_Next.sig), (73, S_sk_Dice_Word.sig)], [0], [.p], [some 6]⟩
theorem F_n21_ok : FOk F_n21 := fok uok tok0 eok0 mixed rfl ⟨S_sk_Dice_Next_ok, S_sk_Dice_Word_ok, trivial⟩
def R_n21 : RSh := ⟨[.p (.st 6)], [(0, .box (.st 5))]⟩
def g_n21 (v : RVal U R_n21) : qT91 := (v.1.1, v.2.1)
def b_n21 (q : qT91) : TRet U := R_n21.bld ((q.1, ()), (q.2, ()))
def L_n21_j6 : Lp U qT91 := ⟨[4], [], qs63, [.boxS (.st 5), .box [qi, qi, .o (.v .str), .o (.full (0, 2, 1))], .arr (.int .i64) false], fun v w => sk_Op_j6 w.1 w.2.1.1 w.2.1.2.1 w.2.1.2.2.1 w.2.2.1⟩
theorem L_n21_j6_ok (r : qT91) : LpOk F_n21 (b_n21 r).enc r (L_n21_j6) (stAt F_n21 [1, 1, 1, 1, 1]) := fun v w hi h => Pt.ev0 F_n21_ok (S := R_n21) (g := g_n21) (b := b_n21) (cuts := []) (pre := [tc F_n21 [1, 1, 1, 1, 1]]) (T := Lp.st F_n21 (L_n21_j6) v w) (by kernel_rfl) hi (Eq.trans (by kernel_rfl) h) ⟨by kernel_rfl, trivial⟩ trivial fun _ => rfl
def L_n21_j5 : Lp U qT91 := ⟨[4, 5], [], qs54, qo9, fun v w => sk_Op_j5 w.1 w.2.1.1 w.2.1.2.1 w.2.1.2.2.1 w.2.2.1.1 w.2.2.1.2.1 w.2.2.1.2.2.1 w.2.2.2.1 w.2.2.2.2.1⟩
theorem L_n21_j5_ok (r : qT91) : LpOk F_n21 (b_n21 r).enc r (L_n21_j5) (stAt F_n21 [1, 1, 1, 1]) := fun v w hi h => Pt.ev0 F_n21_ok (S := R_n21) (g := g_n21) (b := b_n21) (cuts := [([1, 1, 1, 1, 1], L_n21_j6)]) (pre := [tc F_n21 [1, 1, 1, 1]]) (T := Lp.st F_n21 (L_n21_j5) v w) (by kernel_rfl) hi (Eq.trans (by kernel_rfl) h) ⟨by kernel_rfl, trivial⟩ ⟨(L_n21_j6_ok r), trivial⟩ fun _ => rfl
def L_n21_k4 : Lp U qT91 := ⟨[4, 5], [], qs54, qo9, fun v w => sk_Op_k4 w.1 w.2.1.1 w.2.1.2.1 w.2.1.2.2.1 w.2.2.1.1 w.2.2.1.2.1 w.2.2.1.2.2.1 w.2.2.2.1 w.2.2.2.2.1⟩
theorem L_n21_k4_ok (r : qT91) : LpOk F_n21 (b_n21 r).enc r (L_n21_k4) ([.blk 0, tc F_n21 [1, 1, 1, 1]].map TI'.conc ++ []) := fun v w hi h => Pt.ev0 F_n21_ok (S := R_n21) (g := g_n21) (b := b_n21) (cuts := [([1, 1, 1, 1, 1], L_n21_j6)]) (pre := [.blk 0, tc F_n21 [1, 1, 1, 1]]) (T := Lp.st F_n21 (L_n21_k4) v w) (by kernel_rfl) hi (Eq.trans (by kernel_rfl) h) ⟨by kernel_rfl, trivial⟩ ⟨(L_n21_j6_ok r), trivial⟩ fun _ => rfl
def base_n21_l1 : List Eng.Item := .lp (codeAt F_n21 [5, 4, 1, 2, 1, 3, 1, 3, 1, 4, 1, 0, 1, 1, 1]) :: ([.blk 1, .blk 0, tc F_n21 [1, 1, 1, 1]].map TI'.conc ++ [])
def Lh_n21_l1 (rec_ : Tr_n21_0) : Lp U qT71 := ⟨[0, 4, 5, 6, 7], [], qs30, qo9, fun v w => rec_ v.2.2.2.1 v.2.2.2.2.1 w.1 w.2.1.1 w.2.1.2.1 w.2.1.2.2.1 w.2.2.1.1 w.2.2.1.2.1 w.2.2.1.2.2.1 w.2.2.2.1 w.2.2.2.2.1⟩
def Lx_n21_l1 : Lp U qT71 := ⟨[4, 5], [], qs54, qo9, fun v w => some (w.1, w.2.1.1, w.2.1.2.1, w.2.1.2.2.1, w.2.2.1.1, w.2.2.1.2.1, w.2.2.1.2.2.1, w.2.2.2.1, w.2.2.2.2.1)⟩
def L_n21_j3 (rec_ : Tr_n21_0) : Lp U qT71 := ⟨[0, 4, 5, 6, 7, 83], [], qs27, qo9, fun v w => sk_Op_j3 rec_ v.2.2.2.1 v.2.2.2.2.1 v.2.2.2.2.2.1 w.1 w.2.1.1 w.2.1.2.1 w.2.1.2.2.1 w.2.2.1.1 w.2.2.1.2.1 w.2.2.1.2.2.1 w.2.2.2.1 w.2.2.2.2.1⟩
theorem L_n21_j3_ok {RT : Ret} {r : qT71} {rec_ : Tr_n21_0} (hb : LpOk F_n21 RT r (Lh_n21_l1 rec_) base_n21_l1) (hx : AllExits F_n21 RT r base_n21_l1 [(1, Lx_n21_l1)]) (hr : qH (fun _ => none) r RT) : LpOk F_n21 RT r (L_n21_j3 rec_) (stAt F_n21 [1, 0, 5, 4, 1, 2, 1, 3, 1, 3, 1, 4, 1, 0, 1, 1, 1]) := fun v w hi h => Pt.evlAt F_n21_ok (r := r) 4000 (cuts := []) (back := (some (Lh_n21_l1 rec_))) (exits := [(1, Lx_n21_l1)]) (ret := (fun _ => none)) (base := base_n21_l1) (pre := [tc F_n21 [1, 0, 5, 4, 1, 2, 1, 3, 1, 3, 1, 4, 1, 0, 1, 1, 1], tc F_n21 [1, 5, 4, 1, 2, 1, 3, 1, 3, 1, 4, 1, 0, 1, 1, 1]]) (T := Lp.st F_n21 (L_n21_j3 rec_) v w) (by kernel_rfl) hi (Eq.trans (by kernel_rfl) h) ⟨by kernel_rfl, by kernel_rfl, trivial⟩ trivial (fun L hL => by cases hL; exact hb) (fun hn => nomatch hn) hx hr
theorem sk_Op_l1_ok {RT : Ret} {r : qT71} (hx : AllExits F_n21 RT r base_n21_l1 [(1, Lx_n21_l1)]) (hr : qH (fun _ => none) r RT) : ∀ n, LpOk F_n21 RT r (Lh_n21_l1 (sk_Op_l1 n)) (stAt F_n21 [4, 1, 2, 1, 3, 1, 3, 1, 4, 1, 0, 1, 1, 1]) :=
  loop_ok F_n21_ok 4000 (q := [4, 1, 2, 1, 3, 1, 3, 1, 4, 1, 0, 1, 1, 1]) (body := codeAt F_n21 [5, 4, 1, 2, 1, 3, 1, 3, 1, 4, 1, 0, 1, 1, 1]) (live := [0, 4, 5, 6, 7]) (frz := []) (shs := qs30) (sho := qo9) (fun n v w => sk_Op_l1 n v.2.2.2.1 v.2.2.2.2.1 w.1 w.2.1.1 w.2.1.2.1 w.2.1.2.2.1 w.2.2.1.1 w.2.2.1.2.1 w.2.2.1.2.2.1 w.2.2.2.1 w.2.2.2.2.1) (cuts := fun n => [([1, 0, 5, 4, 1, 2, 1, 3, 1, 3, 1, 4, 1, 0, 1, 1, 1], L_n21_j3 (sk_Op_l1 n))]) (exits := [(1, Lx_n21_l1)]) (ret := (fun _ => none)) (by kernel_rfl) (fun _ _ => rfl) (fun n v w => by kernel_rfl) (fun n hb => ⟨L_n21_j3_ok hb hx hr, trivial⟩) hx hr
def Lc_n21_l1 : Lp U qT91 := ⟨[0, 4, 5, 6, 7], [], qs30, qo9, fun v w => (sk_Op_l1 big v.2.2.2.1 v.2.2.2.2.1 w.1 w.2.1.1 w.2.1.2.1 w.2.1.2.2.1 w.2.2.1.1 w.2.2.1.2.1 w.2.2.1.2.2.1 w.2.2.2.1 w.2.2.2.2.1).bind fun (x0, x1, x2, x3, x4, x5, x6, x7, x8) => sk_Op_k4 x0 x1 x2 x3 x4 x5 x6 x7 x8⟩
theorem Lc_n21_l1_ok (r : qT91) : LpOk F_n21 (b_n21 r).enc r (Lc_n21_l1) (stAt F_n21 [4, 1, 2, 1, 3, 1, 3, 1, 4, 1, 0, 1, 1, 1]) := fun v w hi h0 => by
  obtain ⟨x, hx0, h⟩ := bind_some h0
  exact sk_Op_l1_ok (r := x) (RT := (b_n21 r).enc) ⟨⟨[.blk 0, tc F_n21 [1, 1, 1, 1]].map TI'.conc ++ [], by kernel_rfl, fun v' w' hi' h' => by obtain rfl := Option.some.inj h'; exact L_n21_k4_ok r v' w' hi' h⟩, trivial⟩ (fun _ ht => nomatch ht) big v w hi hx0
def L_n21_j2 : Lp U qT91 := ⟨[0, 4, 5, 6, 16, 66], [], qs27, qo9, fun v w => sk_Op_j2 v.2.2.2.1 v.2.2.2.2.1 v.2.2.2.2.2.1 w.1 w.2.1.1 w.2.1.2.1 w.2.1.2.2.1 w.2.2.1.1 w.2.2.1.2.1 w.2.2.1.2.2.1 w.2.2.2.1 w.2.2.2.2.1⟩
theorem L_n21_j2_ok (r : qT91) : LpOk F_n21 (b_n21 r).enc r (L_n21_j2) (stAt F_n21 [1, 3, 1, 4, 1, 0, 1, 1, 1]) := fun v w hi h => Pt.ev0 F_n21_ok (S := R_n21) (g := g_n21) (b := b_n21) (cuts := [([1, 1, 1, 1], L_n21_j5), ([4, 1, 2, 1, 3, 1, 3, 1, 4, 1, 0, 1, 1, 1], Lc_n21_l1)]) (pre := [tc F_n21 [1, 3, 1, 4, 1, 0, 1, 1, 1], .blk 0, tc F_n21 [1, 1, 1, 1]]) (T := Lp.st F_n21 (L_n21_j2) v w) (by kernel_rfl) hi (Eq.trans (by kernel_rfl) h) ⟨by kernel_rfl, by kernel_rfl, trivial⟩ ⟨(L_n21_j5_ok r), (Lc_n21_l1_ok r), trivial⟩ fun _ => rfl
def L_n21_j1 : Lp U qT91 := ⟨[0, 3, 4, 5, 44], [], [.o (.ptr (0, 0, 0) 0 0), .o (.ptr (0, 1, 1) 0 0), .o (.ptr (0, 2, 1) 0 0), .o (.ptr (0, 3, 1) 0 0), .o (.v .bool)], [.boxS (.st 5), .boxS (.st 4), .box [qi, qi, .o (.v .str), .o (.full (0, 4, 1))], .box [qi, qi, .o (.v .str), .o (.full (0, 5, 1))], .arr (.int .i64) false, .arr (.int .i64) false], fun v w => sk_Op_j1 v.2.2.2.2.1 w.1 w.2.1 w.2.2.1.1 w.2.2.1.2.1 w.2.2.1.2.2.1 w.2.2.2.1.1 w.2.2.2.1.2.1 w.2.2.2.1.2.2.1 w.2.2.2.2.1 w.2.2.2.2.2.1⟩
theorem L_n21_j1_ok (r : qT91) : LpOk F_n21 (b_n21 r).enc r (L_n21_j1) (stAt F_n21 [1, 1, 1, 2, 1, 4, 1, 0, 1, 1, 1]) := fun v w hi h => Pt.ev0 F_n21_ok (S := R_n21) (g := g_n21) (b := b_n21) (cuts := [([1, 1, 1, 1], L_n21_j5)]) (pre := [tc F_n21 [1, 1, 1, 2, 1, 4, 1, 0, 1, 1, 1], .blk 0, tc F_n21 [1, 1, 1, 1]]) (T := Lp.st F_n21 (L_n21_j1) v w) (by kernel_rfl) hi (Eq.trans (by kernel_rfl) h) ⟨by kernel_rfl, by kernel_rfl, trivial⟩ ⟨(L_n21_j5_ok r), trivial⟩ fun _ => rfl
def S_sk_Op : FSig U := ⟨qT91, [29, 24], [.lend, .p], [none, some 4], [.box (.st 5), .p (.st 4)], fun v => sk_Op v.1 v.2.1, b_n21⟩
theorem S_sk_Op_ok : SigOk X0.E 143 S_sk_Op.sig := FSig.ok0 F_n21_ok (R := R_n21) (g := g_n21) (cuts := [([1, 1, 1, 2, 1, 4, 1, 0, 1, 1, 1], L_n21_j1), ([1, 3, 1, 4, 1, 0, 1, 1, 1], L_n21_j2)]) (pre := [tc0 F_n21]) rfl Tryd.func143 (by decide) rfl (fun _ => Nat.le_of_ble_eq_true (by kernel_rfl)) (fun _ => rfl) (by kernel_rfl) (fun _ _ h => Eq.trans (by kernel_rfl) h) ⟨rfl, trivial⟩ (fun r => ⟨(L_n21_j1_ok r), (L_n21_j2_ok r), trivial⟩) fun _ => rfl

/-! ### unicode/utf8.word[string] -/
def c_n22 : Code := bodyOf Tryd.f204
def F_n22 : FC U := ⟨X0.at 59, Tryd.f204, c_n22, [], [], [.p], [none]⟩
theorem F_n22_ok : FOk F_n22 := fok uok tok0 eok0 mixed rfl trivial
def R_n22 : RSh := ⟨[.p (.int .u64)], []⟩
def g_n22 (v : RVal U R_n22) : Int := v.1.1
def b_n22 (q : Int) : TRet U := R_n22.bld ((q, ()), ())
def S_su8_word_string : FSig U := ⟨Int, [9], [.p], [none], [.p .str], fun v => su8_word_string v.1, b_n22⟩
theorem S_su8_word_string_ok : SigOk X0.E 204 S_su8_word_string.sig := FSig.ok0 F_n22_ok (R := R_n22) (g := g_n22) (cuts := []) (pre := [tc0 F_n22]) rfl Tryd.func204 (by decide) rfl (fun _ => Nat.le_of_ble_eq_true (by kernel_rfl)) (fun _ => rfl) (by kernel_rfl) (fun _ _ h => Eq.trans (by kernel_rfl) h) ⟨rfl, trivial⟩ (fun r => trivial) fun _ => rfl

abbrev Tr_n23_0 : Type := Str → Option (Out Unit Bool)
/-! ### unicode/utf8.ValidString -/
def c_n23 : Code := bodyOf Tryd.f182
def F_n23 : FC U := ⟨X0.at 169, Tryd.f182, c_n23, [(204, S_su8_word_string.sig)], [], [.p], [none]⟩
theorem F_n23_ok : FOk F_n23 := fok uok tok0 eok0 mixed rfl ⟨S_su8_word_string_ok, trivial⟩
def R_n23 : RSh := ⟨[.p .bool], []⟩
def g_n23 (v : RVal U R_n23) : Bool := v.1.1
def b_n23 (q : Bool) : TRet U := R_n23.bld ((q, ()), ())
def L_n23_k9 : Lp U Bool := ⟨[], [], [], [], fun v w => su8_ValidString_k9⟩
theorem L_n23_k9_ok (r : Bool) : LpOk F_n23 (b_n23 r).enc r (L_n23_k9) ([tc F_n23 [1, 1]].map TI'.conc ++ []) := fun v w hi h => Pt.ev0 F_n23_ok (S := R_n23) (g := g_n23) (b := b_n23) (cuts := []) (pre := [tc F_n23 [1, 1]]) (T := Lp.st F_n23 (L_n23_k9) v w) (by kernel_rfl) hi (Eq.trans (by kernel_rfl) h) ⟨by kernel_rfl, trivial⟩ trivial fun _ => rfl
def base_n23_l1 : List Eng.Item := .lp (codeAt F_n23 [5, 4, 0, 1]) :: ([.blk 0, tc F_n23 [1, 1]].map TI'.conc ++ [])
def Lh_n23_l1 (rec_ : Tr_n23_0) : Lp U (Out Unit Bool) := ⟨[0], [], [.o (.v .str)], [], fun v w => rec_ v.1⟩
def Lx_n23_l1 : Lp U (Out Unit Bool) := ⟨[], [], [], [], fun v w => some (.brk ())⟩
def L_n23_j8 (rec_ : Tr_n23_0) : Lp U (Out Unit Bool) := ⟨[0, 166], [], qs62, [], fun v w => su8_ValidString_j8 rec_ v.1 v.2.1⟩
theorem L_n23_j8_ok {RT : Ret} {r : (Out Unit Bool)} {rec_ : Tr_n23_0} (hb : LpOk F_n23 RT r (Lh_n23_l1 rec_) base_n23_l1) (hx : AllExits F_n23 RT r base_n23_l1 [(0, Lx_n23_l1)]) (hr : qH (retOf R_n23 fun v => Out.ret (β := Unit) (g_n23 v)) r RT) : LpOk F_n23 RT r (L_n23_j8 rec_) (stAt F_n23 [1, 0, 2, 1, 3, 1, 3, 1, 4, 1, 1, 1, 1, 1, 1, 4, 1, 5, 4, 0, 1]) := fun v w hi h => Pt.evlAt F_n23_ok (r := r) 4000 (cuts := []) (back := (some (Lh_n23_l1 rec_))) (exits := [(0, Lx_n23_l1)]) (ret := (retOf R_n23 fun v => Out.ret (β := Unit) (g_n23 v))) (base := base_n23_l1) (pre := [tc F_n23 [1, 0, 2, 1, 3, 1, 3, 1, 4, 1, 1, 1, 1, 1, 1, 4, 1, 5, 4, 0, 1], tc F_n23 [1, 2, 1, 3, 1, 3, 1, 4, 1, 1, 1, 1, 1, 1, 4, 1, 5, 4, 0, 1], .blk 4, .blk 1]) (T := Lp.st F_n23 (L_n23_j8 rec_) v w) (by kernel_rfl) hi (Eq.trans (by kernel_rfl) h) ⟨by kernel_rfl, by kernel_rfl, trivial⟩ trivial (fun L hL => by cases hL; exact hb) (fun hn => nomatch hn) hx hr
def L_n23_j7 (rec_ : Tr_n23_0) : Lp U (Out Unit Bool) := ⟨[0, 125], [], qs62, [], fun v w => su8_ValidString_j7 rec_ v.1 v.2.1⟩
theorem L_n23_j7_ok {RT : Ret} {r : (Out Unit Bool)} {rec_ : Tr_n23_0} (hb : LpOk F_n23 RT r (Lh_n23_l1 rec_) base_n23_l1) (hx : AllExits F_n23 RT r base_n23_l1 [(0, Lx_n23_l1)]) (hr : qH (retOf R_n23 fun v => Out.ret (β := Unit) (g_n23 v)) r RT) : LpOk F_n23 RT r (L_n23_j7 rec_) (stAt F_n23 [1, 0, 2, 1, 3, 1, 4, 1, 1, 1, 1, 1, 1, 4, 1, 5, 4, 0, 1]) := fun v w hi h => Pt.evlAt F_n23_ok (r := r) 4000 (cuts := []) (back := (some (Lh_n23_l1 rec_))) (exits := [(0, Lx_n23_l1)]) (ret := (retOf R_n23 fun v => Out.ret (β := Unit) (g_n23 v))) (base := base_n23_l1) (pre := [tc F_n23 [1, 0, 2, 1, 3, 1, 4, 1, 1, 1, 1, 1, 1, 4, 1, 5, 4, 0, 1], tc F_n23 [1, 2, 1, 3, 1, 4, 1, 1, 1, 1, 1, 1, 4, 1, 5, 4, 0, 1], .blk 4, .blk 1]) (T := Lp.st F_n23 (L_n23_j7 rec_) v w) (by kernel_rfl) hi (Eq.trans (by kernel_rfl) h) ⟨by kernel_rfl, by kernel_rfl, trivial⟩ trivial (fun L hL => by cases hL; exact hb) (fun hn => nomatch hn) hx hr
def L_n23_j6 (rec_ : Tr_n23_0) : Lp U (Out Unit Bool) := ⟨[0, 94], [], qs62, [], fun v w => su8_ValidString_j6 rec_ v.1 v.2.1⟩
theorem L_n23_j6_ok {RT : Ret} {r : (Out Unit Bool)} {rec_ : Tr_n23_0} (hb : LpOk F_n23 RT r (Lh_n23_l1 rec_) base_n23_l1) (hx : AllExits F_n23 RT r base_n23_l1 [(0, Lx_n23_l1)]) (hr : qH (retOf R_n23 fun v => Out.ret (β := Unit) (g_n23 v)) r RT) : LpOk F_n23 RT r (L_n23_j6 rec_) (stAt F_n23 [1, 0, 2, 1, 4, 1, 1, 1, 1, 1, 1, 4, 1, 5, 4, 0, 1]) := fun v w hi h => Pt.evlAt F_n23_ok (r := r) 4000 (cuts := []) (back := (some (Lh_n23_l1 rec_))) (exits := [(0, Lx_n23_l1)]) (ret := (retOf R_n23 fun v => Out.ret (β := Unit) (g_n23 v))) (base := base_n23_l1) (pre := [tc F_n23 [1, 0, 2, 1, 4, 1, 1, 1, 1, 1, 1, 4, 1, 5, 4, 0, 1], tc F_n23 [1, 2, 1, 4, 1, 1, 1, 1, 1, 1, 4, 1, 5, 4, 0, 1], .blk 4, .blk 1]) (T := Lp.st F_n23 (L_n23_j6 rec_) v w) (by kernel_rfl) hi (Eq.trans (by kernel_rfl) h) ⟨by kernel_rfl, by kernel_rfl, trivial⟩ trivial (fun L hL => by cases hL; exact hb) (fun hn => nomatch hn) hx hr
def L_n23_j5 (rec_ : Tr_n23_0) : Lp U (Out Unit Bool) := ⟨[0], [], [.o (.v .str)], [], fun v w => su8_ValidString_j5 rec_ v.1⟩
theorem L_n23_j5_ok {RT : Ret} {r : (Out Unit Bool)} {rec_ : Tr_n23_0} (hb : LpOk F_n23 RT r (Lh_n23_l1 rec_) base_n23_l1) (hx : AllExits F_n23 RT r base_n23_l1 [(0, Lx_n23_l1)]) (hr : qH (retOf R_n23 fun v => Out.ret (β := Unit) (g_n23 v)) r RT) : LpOk F_n23 RT r (L_n23_j5 rec_) (stAt F_n23 [1, 1, 2, 1, 0, 1, 4, 1, 5, 4, 0, 1]) := fun v w hi h => Pt.evlAt F_n23_ok (r := r) 4000 (cuts := []) (back := (some (Lh_n23_l1 rec_))) (exits := [(0, Lx_n23_l1)]) (ret := (retOf R_n23 fun v => Out.ret (β := Unit) (g_n23 v))) (base := base_n23_l1) (pre := [tc F_n23 [1, 1, 2, 1, 0, 1, 4, 1, 5, 4, 0, 1], tc F_n23 [1, 1, 4, 1, 5, 4, 0, 1], .blk 1]) (T := Lp.st F_n23 (L_n23_j5 rec_) v w) (by kernel_rfl) hi (Eq.trans (by kernel_rfl) h) ⟨by kernel_rfl, by kernel_rfl, trivial⟩ trivial (fun L hL => by cases hL; exact hb) (fun hn => nomatch hn) hx hr
def L_n23_k4 (rec_ : Tr_n23_0) : Lp U (Out Unit Bool) := ⟨[0], [], [.o (.v .str)], [], fun v w => su8_ValidString_k4 rec_ v.1⟩
theorem L_n23_k4_ok {RT : Ret} {r : (Out Unit Bool)} {rec_ : Tr_n23_0} (hb : LpOk F_n23 RT r (Lh_n23_l1 rec_) base_n23_l1) (hx : AllExits F_n23 RT r base_n23_l1 [(0, Lx_n23_l1)]) (hr : qH (retOf R_n23 fun v => Out.ret (β := Unit) (g_n23 v)) r RT) : LpOk F_n23 RT r (L_n23_k4 rec_) ([tc F_n23 [1, 1, 2, 1, 0, 1, 4, 1, 5, 4, 0, 1], tc F_n23 [1, 1, 4, 1, 5, 4, 0, 1], .blk 1].map TI'.conc ++ base_n23_l1) := fun v w hi h => Pt.evlAt F_n23_ok (r := r) 4000 (cuts := []) (back := (some (Lh_n23_l1 rec_))) (exits := [(0, Lx_n23_l1)]) (ret := (retOf R_n23 fun v => Out.ret (β := Unit) (g_n23 v))) (base := base_n23_l1) (pre := [tc F_n23 [1, 1, 2, 1, 0, 1, 4, 1, 5, 4, 0, 1], tc F_n23 [1, 1, 4, 1, 5, 4, 0, 1], .blk 1]) (T := Lp.st F_n23 (L_n23_k4 rec_) v w) (by kernel_rfl) hi (Eq.trans (by kernel_rfl) h) ⟨by kernel_rfl, by kernel_rfl, trivial⟩ trivial (fun L hL => by cases hL; exact hb) (fun hn => nomatch hn) hx hr
def base_n23_l2 : List Eng.Item := .lp (codeAt F_n23 [5, 4, 1, 2, 1, 1, 2, 1, 0, 1, 2, 1, 0, 1, 4, 1, 5, 4, 0, 1]) :: ([.blk 2, tc F_n23 [1, 1, 2, 1, 0, 1, 4, 1, 5, 4, 0, 1], tc F_n23 [1, 1, 4, 1, 5, 4, 0, 1], .blk 1].map TI'.conc ++ base_n23_l1)
def Lh_n23_l2 (rec_ : Str → Option Str) : Lp U Str := ⟨[0], [], [.o (.v .str)], [], fun v w => rec_ v.1⟩
def Lx_n23_l2 : Lp U Str := ⟨[0], [], [.o (.v .str)], [], fun v w => some v.1⟩
def L_n23_j3 (rec_ : Str → Option Str) : Lp U Str := ⟨[0, 62], [], qs62, [], fun v w => su8_ValidString_j3 rec_ v.1 v.2.1⟩
theorem L_n23_j3_ok {RT : Ret} {r : Str} {rec_ : Str → Option Str} (hb : LpOk F_n23 RT r (Lh_n23_l2 rec_) base_n23_l2) (hx : AllExits F_n23 RT r base_n23_l2 [(2, Lx_n23_l2)]) (hr : qH (fun _ => none) r RT) : LpOk F_n23 RT r (L_n23_j3 rec_) (stAt F_n23 [1, 0, 5, 4, 1, 2, 1, 1, 2, 1, 0, 1, 2, 1, 0, 1, 4, 1, 5, 4, 0, 1]) := fun v w hi h => Pt.evlAt F_n23_ok (r := r) 4000 (cuts := []) (back := (some (Lh_n23_l2 rec_))) (exits := [(2, Lx_n23_l2)]) (ret := (fun _ => none)) (base := base_n23_l2) (pre := [tc F_n23 [1, 0, 5, 4, 1, 2, 1, 1, 2, 1, 0, 1, 2, 1, 0, 1, 4, 1, 5, 4, 0, 1], tc F_n23 [1, 5, 4, 1, 2, 1, 1, 2, 1, 0, 1, 2, 1, 0, 1, 4, 1, 5, 4, 0, 1]]) (T := Lp.st F_n23 (L_n23_j3 rec_) v w) (by kernel_rfl) hi (Eq.trans (by kernel_rfl) h) ⟨by kernel_rfl, by kernel_rfl, trivial⟩ trivial (fun L hL => by cases hL; exact hb) (fun hn => nomatch hn) hx hr
theorem su8_ValidString_l2_ok {RT : Ret} {r : Str} (hx : AllExits F_n23 RT r base_n23_l2 [(2, Lx_n23_l2)]) (hr : qH (fun _ => none) r RT) : ∀ n, LpOk F_n23 RT r (Lh_n23_l2 (su8_ValidString_l2 n)) (stAt F_n23 [4, 1, 2, 1, 1, 2, 1, 0, 1, 2, 1, 0, 1, 4, 1, 5, 4, 0, 1]) :=
  loop_ok F_n23_ok 4000 (q := [4, 1, 2, 1, 1, 2, 1, 0, 1, 2, 1, 0, 1, 4, 1, 5, 4, 0, 1]) (body := codeAt F_n23 [5, 4, 1, 2, 1, 1, 2, 1, 0, 1, 2, 1, 0, 1, 4, 1, 5, 4, 0, 1]) (live := [0]) (frz := []) (shs := [.o (.v .str)]) (sho := []) (fun n v w => su8_ValidString_l2 n v.1) (cuts := fun n => [([1, 0, 5, 4, 1, 2, 1, 1, 2, 1, 0, 1, 2, 1, 0, 1, 4, 1, 5, 4, 0, 1], L_n23_j3 (su8_ValidString_l2 n))]) (exits := [(2, Lx_n23_l2)]) (ret := (fun _ => none)) (by kernel_rfl) (fun _ _ => rfl) (fun n v w => by kernel_rfl) (fun n hb => ⟨L_n23_j3_ok hb hx hr, trivial⟩) hx hr
def Lc_n23_l2 (rec_ : Tr_n23_0) : Lp U (Out Unit Bool) := ⟨[0], [], [.o (.v .str)], [], fun v w => (su8_ValidString_l2 big v.1).bind fun x0 => su8_ValidString_k4 rec_ x0⟩
theorem Lc_n23_l2_ok {RT : Ret} {r : (Out Unit Bool)} {rec_ : Tr_n23_0} (hb : LpOk F_n23 RT r (Lh_n23_l1 rec_) base_n23_l1) (hx : AllExits F_n23 RT r base_n23_l1 [(0, Lx_n23_l1)]) (hr : qH (retOf R_n23 fun v => Out.ret (β := Unit) (g_n23 v)) r RT) : LpOk F_n23 RT r (Lc_n23_l2 rec_) (stAt F_n23 [4, 1, 2, 1, 1, 2, 1, 0, 1, 2, 1, 0, 1, 4, 1, 5, 4, 0, 1]) := fun v w hi h0 => by
  obtain ⟨x, hx0, h⟩ := bind_some h0
  exact su8_ValidString_l2_ok (r := x) (RT := RT) ⟨⟨[tc F_n23 [1, 1, 2, 1, 0, 1, 4, 1, 5, 4, 0, 1], tc F_n23 [1, 1, 4, 1, 5, 4, 0, 1], .blk 1].map TI'.conc ++ base_n23_l1, by kernel_rfl, fun v' w' hi' h' => by obtain rfl := Option.some.inj h'; exact L_n23_k4_ok hb hx hr v' w' hi' h⟩, trivial⟩ (fun _ ht => nomatch ht) big v w hi hx0
def L_n23_j2 (rec_ : Tr_n23_0) : Lp U (Out Unit Bool) := ⟨[0, 39], [], qs62, [], fun v w => su8_ValidString_j2 rec_ v.1 v.2.1⟩
theorem L_n23_j2_ok {RT : Ret} {r : (Out Unit Bool)} {rec_ : Tr_n23_0} (hb : LpOk F_n23 RT r (Lh_n23_l1 rec_) base_n23_l1) (hx : AllExits F_n23 RT r base_n23_l1 [(0, Lx_n23_l1)]) (hr : qH (retOf R_n23 fun v => Out.ret (β := Unit) (g_n23 v)) r RT) : LpOk F_n23 RT r (L_n23_j2 rec_) (stAt F_n23 [1, 1, 2, 1, 0, 1, 2, 1, 0, 1, 4, 1, 5, 4, 0, 1]) := fun v w hi h => Pt.evlAt F_n23_ok (r := r) 4000 (cuts := [([1, 1, 2, 1, 0, 1, 4, 1, 5, 4, 0, 1], (L_n23_j5 rec_)), ([4, 1, 2, 1, 1, 2, 1, 0, 1, 2, 1, 0, 1, 4, 1, 5, 4, 0, 1], (Lc_n23_l2 rec_))]) (back := (some (Lh_n23_l1 rec_))) (exits := [(0, Lx_n23_l1)]) (ret := (retOf R_n23 fun v => Out.ret (β := Unit) (g_n23 v))) (base := base_n23_l1) (pre := [tc F_n23 [1, 1, 2, 1, 0, 1, 2, 1, 0, 1, 4, 1, 5, 4, 0, 1], tc F_n23 [1, 1, 2, 1, 0, 1, 4, 1, 5, 4, 0, 1], tc F_n23 [1, 1, 4, 1, 5, 4, 0, 1], .blk 1]) (T := Lp.st F_n23 (L_n23_j2 rec_) v w) (by kernel_rfl) hi (Eq.trans (by kernel_rfl) h) ⟨by kernel_rfl, by kernel_rfl, by kernel_rfl, trivial⟩ ⟨(L_n23_j5_ok hb hx hr), (Lc_n23_l2_ok hb hx hr), trivial⟩ (fun L hL => by cases hL; exact hb) (fun hn => nomatch hn) hx hr
def L_n23_j1 (rec_ : Tr_n23_0) : Lp U (Out Unit Bool) := ⟨[0, 24], [], qs62, [], fun v w => su8_ValidString_j1 rec_ v.1 v.2.1⟩
theorem L_n23_j1_ok {RT : Ret} {r : (Out Unit Bool)} {rec_ : Tr_n23_0} (hb : LpOk F_n23 RT r (Lh_n23_l1 rec_) base_n23_l1) (hx : AllExits F_n23 RT r base_n23_l1 [(0, Lx_n23_l1)]) (hr : qH (retOf R_n23 fun v => Out.ret (β := Unit) (g_n23 v)) r RT) : LpOk F_n23 RT r (L_n23_j1 rec_) (stAt F_n23 [1, 0, 1, 2, 1, 0, 1, 4, 1, 5, 4, 0, 1]) := fun v w hi h => Pt.evlAt F_n23_ok (r := r) 4000 (cuts := [([1, 1, 2, 1, 0, 1, 2, 1, 0, 1, 4, 1, 5, 4, 0, 1], (L_n23_j2 rec_)), ([1, 1, 2, 1, 0, 1, 4, 1, 5, 4, 0, 1], (L_n23_j5 rec_))]) (back := (some (Lh_n23_l1 rec_))) (exits := [(0, Lx_n23_l1)]) (ret := (retOf R_n23 fun v => Out.ret (β := Unit) (g_n23 v))) (base := base_n23_l1) (pre := [tc F_n23 [1, 0, 1, 2, 1, 0, 1, 4, 1, 5, 4, 0, 1], tc F_n23 [1, 1, 2, 1, 0, 1, 4, 1, 5, 4, 0, 1], tc F_n23 [1, 1, 4, 1, 5, 4, 0, 1], .blk 1]) (T := Lp.st F_n23 (L_n23_j1 rec_) v w) (by kernel_rfl) hi (Eq.trans (by kernel_rfl) h) ⟨by kernel_rfl, by kernel_rfl, by kernel_rfl, trivial⟩ ⟨(L_n23_j2_ok hb hx hr), (L_n23_j5_ok hb hx hr), trivial⟩ (fun L hL => by cases hL; exact hb) (fun hn => nomatch hn) hx hr
theorem su8_ValidString_l1_ok {RT : Ret} {r : (Out Unit Bool)} (hx : AllExits F_n23 RT r base_n23_l1 [(0, Lx_n23_l1)]) (hr : qH (retOf R_n23 fun v => Out.ret (β := Unit) (g_n23 v)) r RT) : ∀ n, LpOk F_n23 RT r (Lh_n23_l1 (su8_ValidString_l1 n)) (stAt F_n23 [4, 0, 1]) :=
  loop_ok F_n23_ok 4000 (q := [4, 0, 1]) (body := codeAt F_n23 [5, 4, 0, 1]) (live := [0]) (frz := []) (shs := [.o (.v .str)]) (sho := []) (fun n v w => su8_ValidString_l1 n v.1) (cuts := fun n => [([1, 0, 1, 2, 1, 0, 1, 4, 1, 5, 4, 0, 1], L_n23_j1 (su8_ValidString_l1 n)), ([1, 0, 2, 1, 4, 1, 1, 1, 1, 1, 1, 4, 1, 5, 4, 0, 1], L_n23_j6 (su8_ValidString_l1 n)), ([1, 0, 2, 1, 3, 1, 4, 1, 1, 1, 1, 1, 1, 4, 1, 5, 4, 0, 1], L_n23_j7 (su8_ValidString_l1 n)), ([1, 0, 2, 1, 3, 1, 3, 1, 4, 1, 1, 1, 1, 1, 1, 4, 1, 5, 4, 0, 1], L_n23_j8 (su8_ValidString_l1 n))]) (exits := [(0, Lx_n23_l1)]) (ret := (retOf R_n23 fun v => Out.ret (β := Unit) (g_n23 v))) (by kernel_rfl) (fun _ _ => rfl) (fun n v w => by kernel_rfl) (fun n hb => ⟨L_n23_j1_ok hb hx hr, L_n23_j6_ok hb hx hr, L_n23_j7_ok hb hx hr, L_n23_j8_ok hb hx hr, trivial⟩) hx hr
def Lc_n23_l1 : Lp U Bool := ⟨[0], [], [.o (.v .str)], [], fun v w => (su8_ValidString_l1 big v.1).bind fun | .ret q_ => some q_ | .brk () => su8_ValidString_k9⟩
theorem Lc_n23_l1_ok (r : Bool) : LpOk F_n23 (b_n23 r).enc r (Lc_n23_l1) (stAt F_n23 [4, 0, 1]) := fun v w hi h0 => by
  obtain ⟨x, hx0, h⟩ := bind_some h0
  exact su8_ValidString_l1_ok (r := x) (RT := (b_n23 r).enc) ⟨⟨[tc F_n23 [1, 1]].map TI'.conc ++ [], by kernel_rfl, fun v' w' hi' h' => by obtain rfl := Option.some.inj h'; exact L_n23_k9_ok r v' w' hi' h⟩, trivial⟩ (fun t ht => by obtain ⟨q, rfl, hq⟩ := retOut ht; obtain rfl := Option.some.inj h; exact retOf_enc uok (give := b_n23) (fun _ => rfl) hq) big v w hi hx0
def S_su8_ValidString : FSig U := ⟨Bool, [9], [.p], [none], [.p .str], fun v => su8_ValidString v.1, b_n23⟩
theorem S_su8_ValidString_ok : SigOk X0.E 182 S_su8_ValidString.sig := FSig.ok0 F_n23_ok (R := R_n23) (g := g_n23) (cuts := [([4, 0, 1], Lc_n23_l1)]) (pre := [tc0 F_n23]) rfl Tryd.func182 (by decide) rfl (fun _ => Nat.le_of_ble_eq_true (by kernel_rfl)) (fun _ => rfl) (by kernel_rfl) (fun _ _ h => Eq.trans (by kernel_rfl) h) ⟨rfl, trivial⟩ (fun r => ⟨(Lc_n23_l1_ok r), trivial⟩) fun _ => rfl

/-! ### tablefinder/tablefinderref02.Valid -/
def c_n24 : Code := bodyOf Tryd.f159
def F_n24 : FC U := ⟨X0.at 5, Tryd.f159, c_n24, [(182, S_su8_ValidString.sig)], [], [.p], [none]⟩
theorem F_n24_ok : FOk F_n24 := fok uok tok0 eok0 mixed rfl ⟨S_su8_ValidString_ok, trivial⟩
def R_n24 : RSh := ⟨[.p .bool], []⟩
def g_n24 (v : RVal U R_n24) : Bool := v.1.1
def b_n24 (q : Bool) : TRet U := R_n24.bld ((q, ()), ())
def S_sr02_Valid : FSig U := ⟨Bool, [9], [.p], [none], [.p .str], fun v => sr02_Valid v.1, b_n24⟩
theorem S_sr02_Valid_ok : SigOk X0.E 159 S_sr02_Valid.sig := FSig.ok0 F_n24_ok (R := R_n24) (g := g_n24) (cuts := []) (pre := [tc0 F_n24]) rfl Tryd.func159 (by decide) rfl (fun _ => Nat.le_of_ble_eq_true (by kernel_rfl)) (fun _ => rfl) (by kernel_rfl) (fun _ _ h => Eq.trans (by kernel_rfl) h) ⟨rfl, trivial⟩ (fun r => trivial) fun _ => rfl

/-! ### tablefinder/tablefinderref03.name -/
def c_n25 : Code := bodyOf Tryd.f124
def F_n25 : FC U := ⟨X0.at 10, Tryd.f124, c_n25, [(159, S_sr02_Valid.sig)], [], [.p], [none]⟩
theorem F_n25_ok : FOk F_n25 := fok uok tok0 eok0 mixed rfl ⟨S_sr02_Valid_ok, trivial⟩
def R_n25 : RSh := ⟨[.p .bool], []⟩
def g_n25 (v : RVal U R_n25) : Bool := v.1.1
def b_n25 (q : Bool) : TRet U := R_n25.bld ((q, ()), ())
def L_n25_j1 : Lp U Bool := ⟨[2], [], [.o (.v .bool)], [], fun v w => sr03_name_j1 v.1⟩
theorem L_n25_j1_ok (r : Bool) : LpOk F_n25 (b_n25 r).enc r (L_n25_j1) (stAt F_n25 [1, 1]) := fun v w hi h => Pt.ev0 F_n25_ok (S := R_n25) (g := g_n25) (b := b_n25) (cuts := []) (pre := [tc F_n25 [1, 1]]) (T := Lp.st F_n25 (L_n25_j1) v w) (by kernel_rfl) hi (Eq.trans (by kernel_rfl) h) ⟨by kernel_rfl, trivial⟩ trivial fun _ => rfl
def S_sr03_name : FSig U := ⟨Bool, [9], [.p], [none], [.p .str], fun v => sr03_name v.1, b_n25⟩
theorem S_sr03_name_ok : SigOk X0.E 124 S_sr03_name.sig := FSig.ok0 F_n25_ok (R := R_n25) (g := g_n25) (cuts := [([1, 1], L_n25_j1)]) (pre := [tc0 F_n25]) rfl Tryd.func124 (by decide) rfl (fun _ => Nat.le_of_ble_eq_true (by kernel_rfl)) (fun _ => rfl) (by kernel_rfl) (fun _ _ h => Eq.trans (by kernel_rfl) h) ⟨rfl, trivial⟩ (fun r => ⟨(L_n25_j1_ok r), trivial⟩) fun _ => rfl

/-! ### tablefinder/tablefinderref03.ValidCell -/
def c_n26 : Code := bodyOf Tryd.f125
def F_n26 : FC U := ⟨X0.at 22, Tryd.f125, c_n26, [(159, S_sr02_Valid.sig)], [], [.p], [none]⟩
theorem F_n26_ok : FOk F_n26 := fok uok tok0 eok0 mixed rfl ⟨S_sr02_Valid_ok, trivial⟩
def R_n26 : RSh := ⟨[.p .bool], []⟩
def g_n26 (v : RVal U R_n26) : Bool := v.1.1
def b_n26 (q : Bool) : TRet U := R_n26.bld ((q, ()), ())
def L_n26_j1 : Lp U Bool := ⟨[2], [], [.o (.v .bool)], [], fun v w => sr03_ValidCell_j1 v.1⟩
theorem L_n26_j1_ok (r : Bool) : LpOk F_n26 (b_n26 r).enc r (L_n26_j1) (stAt F_n26 [1, 1]) := fun v w hi h => Pt.ev0 F_n26_ok (S := R_n26) (g := g_n26) (b := b_n26) (cuts := []) (pre := [tc F_n26 [1, 1]]) (T := Lp.st F_n26 (L_n26_j1) v w) (by kernel_rfl) hi (Eq.trans (by kernel_rfl) h) ⟨by kernel_rfl, trivial⟩ trivial fun _ => rfl
def S_sr03_ValidCell : FSig U := ⟨Bool, [51], [.p], [some 2], [.p (.st 2)], fun v => sr03_ValidCell v.1, b_n26⟩
theorem S_sr03_ValidCell_ok : SigOk X0.E 125 S_sr03_ValidCell.sig := FSig.ok0 F_n26_ok (R := R_n26) (g := g_n26) (cuts := [([1, 1], L_n26_j1)]) (pre := [tc0 F_n26]) rfl Tryd.func125 (by decide) rfl (fun _ => Nat.le_of_ble_eq_true (by kernel_rfl)) (fun _ => rfl) (by kernel_rfl) (fun _ _ h => Eq.trans (by kernel_rfl) h) ⟨rfl, trivial⟩ (fun r => ⟨(L_n26_j1_ok r), trivial⟩) fun _ => rfl

abbrev Tr_n27_1 : Type := qL0 → Int → Int → GaTable → Option (Out Unit Bool)
/-! ### tablefinder/tablefinderref03.Valid -/
def c_n27 : Code := bodyOf Tryd.f78
def F_n27 : FC U := ⟨X0.at 68, Tryd.f78, c_n27, [(124, S_sr03_name.sig), (125, S_sr03_ValidCell.sig)], [], [.p], [none]⟩
theorem F_n27_ok : FOk F_n27 := fok uok tok0 eok0 mixed rfl ⟨S_sr03_name_ok, S_sr03_ValidCell_ok, trivial⟩
def R_n27 : RSh := ⟨[.p .bool], []⟩
def g_n27 (v : RVal U R_n27) : Bool := v.1.1
def b_n27 (q : Bool) : TRet U := R_n27.bld ((q, ()), ())
def L_n27_k4 : Lp U Bool := ⟨[], [], [], [], fun v w => sr03_Valid_k4⟩
theorem L_n27_k4_ok (r : Bool) : LpOk F_n27 (b_n27 r).enc r (L_n27_k4) ([tc F_n27 [1, 1, 1]].map TI'.conc ++ []) := fun v w hi h => Pt.ev0 F_n27_ok (S := R_n27) (g := g_n27) (b := b_n27) (cuts := []) (pre := [tc F_n27 [1, 1, 1]]) (T := Lp.st F_n27 (L_n27_k4) v w) (by kernel_rfl) hi (Eq.trans (by kernel_rfl) h) ⟨by kernel_rfl, trivial⟩ trivial fun _ => rfl
def base_n27_l1 : List Eng.Item := .lp (codeAt F_n27 [5, 4, 1, 0, 1, 1]) :: ([.blk 0, tc F_n27 [1, 1, 1]].map TI'.conc ++ [])
def Lh_n27_l1 (rec_ : Tr_n27_1) : Lp U (Out Unit Bool) := ⟨[1, 28, 29, 30], [], qs40, [.boxS (.st 4)], fun v w => rec_ v.2.1 v.2.2.1 v.2.2.2.1 w.1⟩
def Lx_n27_l1 : Lp U (Out Unit Bool) := ⟨[], [], [], [], fun v w => some (.brk ())⟩
def L_n27_k3 (rec_ : Tr_n27_1) : Lp U (Out Unit Bool) := ⟨[1, 28, 29, 30], [], qs40, [.boxS (.st 4)], fun v w => sr03_Valid_k3 rec_ v.2.1 v.2.2.1 v.2.2.2.1 w.1⟩
theorem L_n27_k3_ok {RT : Ret} {r : (Out Unit Bool)} {rec_ : Tr_n27_1} (hb : LpOk F_n27 RT r (Lh_n27_l1 rec_) base_n27_l1) (hx : AllExits F_n27 RT r base_n27_l1 [(0, Lx_n27_l1)]) (hr : qH (retOf R_n27 fun v => Out.ret (β := Unit) (g_n27 v)) r RT) : LpOk F_n27 RT r (L_n27_k3 rec_) ([.blk 1, tc F_n27 [1, 1, 1, 5, 4, 1, 0, 1, 1]].map TI'.conc ++ base_n27_l1) := fun v w hi h => Pt.evlAt F_n27_ok (r := r) 4000 (cuts := []) (back := (some (Lh_n27_l1 rec_))) (exits := [(0, Lx_n27_l1)]) (ret := (retOf R_n27 fun v => Out.ret (β := Unit) (g_n27 v))) (base := base_n27_l1) (pre := [.blk 1, tc F_n27 [1, 1, 1, 5, 4, 1, 0, 1, 1]]) (T := Lp.st F_n27 (L_n27_k3 rec_) v w) (by kernel_rfl) hi (Eq.trans (by kernel_rfl) h) ⟨by kernel_rfl, trivial⟩ trivial (fun L hL => by cases hL; exact hb) (fun hn => nomatch hn) hx hr
def base_n27_l2 : List Eng.Item := .lp (codeAt F_n27 [5, 4, 1, 1, 1, 4, 0, 1, 1, 5, 4, 1, 0, 1, 1]) :: ([.blk 2, .blk 1, tc F_n27 [1, 1, 1, 5, 4, 1, 0, 1, 1]].map TI'.conc ++ base_n27_l1)
def Lh_n27_l2 (rec_ : qL0 → Int → Int → qL4 → Int → Int → GaTable → Option qT82) : Lp U qT82 := ⟨[1, 28, 29, 30, 57, 58, 59], [], qs21, [.boxS (.st 4)], fun v w => rec_ v.2.1 v.2.2.1 v.2.2.2.1 v.2.2.2.2.1 v.2.2.2.2.2.1 v.2.2.2.2.2.2.1 w.1⟩
def Lx_n27_l2 : Lp U qT82 := ⟨[1, 28, 29, 30], [], qs40, [.boxS (.st 4)], fun v w => some (.brk (v.2.1, v.2.2.1, v.2.2.2.1, w.1))⟩
theorem sr03_Valid_l2_ok {RT : Ret} {r : qT82} (hx : AllExits F_n27 RT r base_n27_l2 [(2, Lx_n27_l2)]) (hr : ∀ t : TRet U, (retOf R_n27 fun v => Out.ret (β := (qL0 × Int × Int × GaTable)) (g_n27 v)) t = some r → t.enc = RT) : ∀ n, LpOk F_n27 RT r (Lh_n27_l2 (sr03_Valid_l2 n)) (stAt F_n27 [4, 1, 1, 1, 4, 0, 1, 1, 5, 4, 1, 0, 1, 1]) :=
  loop_ok F_n27_ok 4000 (q := [4, 1, 1, 1, 4, 0, 1, 1, 5, 4, 1, 0, 1, 1]) (body := codeAt F_n27 [5, 4, 1, 1, 1, 4, 0, 1, 1, 5, 4, 1, 0, 1, 1]) (live := [1, 28, 29, 30, 57, 58, 59]) (frz := []) (shs := qs21) (sho := [.boxS (.st 4)]) (fun n v w => sr03_Valid_l2 n v.2.1 v.2.2.1 v.2.2.2.1 v.2.2.2.2.1 v.2.2.2.2.2.1 v.2.2.2.2.2.2.1 w.1) (cuts := fun n => []) (exits := [(2, Lx_n27_l2)]) (ret := (retOf R_n27 fun v => Out.ret (β := (qL0 × Int × Int × GaTable)) (g_n27 v))) (by kernel_rfl) (fun _ _ => rfl) (fun n v w => by kernel_rfl) (fun n hb => trivial) hx hr
def Lc_n27_l2 (rec_ : Tr_n27_1) : Lp U (Out Unit Bool) := ⟨[1, 28, 29, 30, 57, 58, 59], [], qs21, [.boxS (.st 4)], fun v w => (sr03_Valid_l2 big v.2.1 v.2.2.1 v.2.2.2.1 v.2.2.2.2.1 v.2.2.2.2.2.1 v.2.2.2.2.2.2.1 w.1).bind fun | .ret q_ => some (.ret q_) | .brk (x0, x1, x2, x3) => sr03_Valid_k3 rec_ x0 x1 x2 x3⟩
theorem Lc_n27_l2_ok {RT : Ret} {r : (Out Unit Bool)} {rec_ : Tr_n27_1} (hb : LpOk F_n27 RT r (Lh_n27_l1 rec_) base_n27_l1) (hx : AllExits F_n27 RT r base_n27_l1 [(0, Lx_n27_l1)]) (hr : qH (retOf R_n27 fun v => Out.ret (β := Unit) (g_n27 v)) r RT) : LpOk F_n27 RT r (Lc_n27_l2 rec_) (stAt F_n27 [4, 1, 1, 1, 4, 0, 1, 1, 5, 4, 1, 0, 1, 1]) := fun v w hi h0 => by
  obtain ⟨x, hx0, h⟩ := bind_some h0
  exact sr03_Valid_l2_ok (r := x) (RT := RT) ⟨⟨[.blk 1, tc F_n27 [1, 1, 1, 5, 4, 1, 0, 1, 1]].map TI'.conc ++ base_n27_l1, by kernel_rfl, fun v' w' hi' h' => by obtain rfl := Option.some.inj h'; exact L_n27_k3_ok hb hx hr v' w' hi' h⟩, trivial⟩ (fun t ht => by obtain ⟨q, rfl, hq⟩ := retOut ht; obtain rfl := Option.some.inj h; exact hr t (retOf_ret hq)) big v w hi hx0
def L_n27_j2 (rec_ : Tr_n27_1) : Lp U (Out Unit Bool) := ⟨[1, 4, 28, 29, 30, 55], [], [.o (.ptr (0, 1, 1) 0 0), .o (.ptr (0, 2, 1) 0 0), .o (.v (.sl (.st 3))), qi, qi, .o (.v .bool)], [.boxS (.st 4), .boxS (.st 3)], fun v w => sr03_Valid_j2 rec_ v.2.2.1 v.2.2.2.1 v.2.2.2.2.1 v.2.2.2.2.2.1 w.1 w.2.1⟩
theorem L_n27_j2_ok {RT : Ret} {r : (Out Unit Bool)} {rec_ : Tr_n27_1} (hb : LpOk F_n27 RT r (Lh_n27_l1 rec_) base_n27_l1) (hx : AllExits F_n27 RT r base_n27_l1 [(0, Lx_n27_l1)]) (hr : qH (retOf R_n27 fun v => Out.ret (β := Unit) (g_n27 v)) r RT) : LpOk F_n27 RT r (L_n27_j2 rec_) (stAt F_n27 [1, 0, 1, 4, 0, 1, 1, 5, 4, 1, 0, 1, 1]) := fun v w hi h => Pt.evlAt F_n27_ok (r := r) 4000 (cuts := [([4, 1, 1, 1, 4, 0, 1, 1, 5, 4, 1, 0, 1, 1], (Lc_n27_l2 rec_))]) (back := (some (Lh_n27_l1 rec_))) (exits := [(0, Lx_n27_l1)]) (ret := (retOf R_n27 fun v => Out.ret (β := Unit) (g_n27 v))) (base := base_n27_l1) (pre := [tc F_n27 [1, 0, 1, 4, 0, 1, 1, 5, 4, 1, 0, 1, 1], tc F_n27 [1, 1, 4, 0, 1, 1, 5, 4, 1, 0, 1, 1], .blk 1, tc F_n27 [1, 1, 1, 5, 4, 1, 0, 1, 1]]) (T := Lp.st F_n27 (L_n27_j2 rec_) v w) (by kernel_rfl) hi (Eq.trans (by kernel_rfl) h) ⟨by kernel_rfl, by kernel_rfl, by kernel_rfl, trivial⟩ ⟨(Lc_n27_l2_ok hb hx hr), trivial⟩ (fun L hL => by cases hL; exact hb) (fun hn => nomatch hn) hx hr
theorem sr03_Valid_l1_ok {RT : Ret} {r : (Out Unit Bool)} (hx : AllExits F_n27 RT r base_n27_l1 [(0, Lx_n27_l1)]) (hr : qH (retOf R_n27 fun v => Out.ret (β := Unit) (g_n27 v)) r RT) : ∀ n, LpOk F_n27 RT r (Lh_n27_l1 (sr03_Valid_l1 n)) (stAt F_n27 [4, 1, 0, 1, 1]) :=
  loop_ok F_n27_ok 4000 (q := [4, 1, 0, 1, 1]) (body := codeAt F_n27 [5, 4, 1, 0, 1, 1]) (live := [1, 28, 29, 30]) (frz := []) (shs := qs40) (sho := [.boxS (.st 4)]) (fun n v w => sr03_Valid_l1 n v.2.1 v.2.2.1 v.2.2.2.1 w.1) (cuts := fun n => [([1, 0, 1, 4, 0, 1, 1, 5, 4, 1, 0, 1, 1], L_n27_j2 (sr03_Valid_l1 n))]) (exits := [(0, Lx_n27_l1)]) (ret := (retOf R_n27 fun v => Out.ret (β := Unit) (g_n27 v))) (by kernel_rfl) (fun _ _ => rfl) (fun n v w => by kernel_rfl) (fun n hb => ⟨L_n27_j2_ok hb hx hr, trivial⟩) hx hr
def Lc_n27_l1 : Lp U Bool := ⟨[1, 28, 29, 30], [], qs40, [.boxS (.st 4)], fun v w => (sr03_Valid_l1 big v.2.1 v.2.2.1 v.2.2.2.1 w.1).bind fun | .ret q_ => some q_ | .brk () => sr03_Valid_k4⟩
theorem Lc_n27_l1_ok (r : Bool) : LpOk F_n27 (b_n27 r).enc r (Lc_n27_l1) (stAt F_n27 [4, 1, 0, 1, 1]) := fun v w hi h0 => by
  obtain ⟨x, hx0, h⟩ := bind_some h0
  exact sr03_Valid_l1_ok (r := x) (RT := (b_n27 r).enc) ⟨⟨[tc F_n27 [1, 1, 1]].map TI'.conc ++ [], by kernel_rfl, fun v' w' hi' h' => by obtain rfl := Option.some.inj h'; exact L_n27_k4_ok r v' w' hi' h⟩, trivial⟩ (fun t ht => by obtain ⟨q, rfl, hq⟩ := retOut ht; obtain rfl := Option.some.inj h; exact retOf_enc uok (give := b_n27) (fun _ => rfl) hq) big v w hi hx0
def L_n27_j1 : Lp U Bool := ⟨[1, 26], [], [.o (.ptr (0, 1, 1) 0 0), .o (.v .bool)], [.boxS (.st 4)], fun v w => sr03_Valid_j1 v.2.1 w.1⟩
theorem L_n27_j1_ok (r : Bool) : LpOk F_n27 (b_n27 r).enc r (L_n27_j1) (stAt F_n27 [1, 0, 1]) := fun v w hi h => Pt.ev0 F_n27_ok (S := R_n27) (g := g_n27) (b := b_n27) (cuts := [([4, 1, 0, 1, 1], Lc_n27_l1)]) (pre := [tc F_n27 [1, 0, 1], tc F_n27 [1, 1]]) (T := Lp.st F_n27 (L_n27_j1) v w) (by kernel_rfl) hi (Eq.trans (by kernel_rfl) h) ⟨by kernel_rfl, by kernel_rfl, trivial⟩ ⟨(Lc_n27_l1_ok r), trivial⟩ fun _ => rfl
def S_sr03_Valid : FSig U := ⟨Bool, [24], [.p], [some 4], [.p (.st 4)], fun v => sr03_Valid v.1, b_n27⟩
theorem S_sr03_Valid_ok : SigOk X0.E 78 S_sr03_Valid.sig := FSig.ok0 F_n27_ok (R := R_n27) (g := g_n27) (cuts := [([1, 0, 1], L_n27_j1)]) (pre := [tc0 F_n27]) rfl Tryd.func78 (by decide) rfl (fun _ => Nat.le_of_ble_eq_true (by kernel_rfl)) (fun _ => rfl) (by kernel_rfl) (fun _ _ h => Eq.trans (by kernel_rfl) h) ⟨rfl, trivial⟩ (fun r => ⟨(L_n27_j1_ok r), trivial⟩) fun _ => rfl

abbrev Tr_n28_0 : Type := qL3 → Int → Int → GaTable → GaOp → Option (Out GaOp Bool)
/-! ### tablefinder/tablefinderref38.can -/
def c_n28 : Code := bodyOf Tryd.f177
def F_n28 : FC U := ⟨X0.at 103, Tryd.f177, c_n28, [], [], [.p], [none]⟩
theorem F_n28_ok : FOk F_n28 := fok uok tok0 eok0 mixed rfl trivial
def R_n28 : RSh := ⟨[.p .bool], []⟩
def g_n28 (v : RVal U R_n28) : Bool := v.1.1
def b_n28 (q : Bool) : TRet U := R_n28.bld ((q, ()), ())
def L_n28_j8 : Lp U Bool := ⟨[4], [], [.o (.v .bool)], [], fun v w => sr38_can_j8 v.1⟩
theorem L_n28_j8_ok (r : Bool) : LpOk F_n28 (b_n28 r).enc r (L_n28_j8) (stAt F_n28 [1, 1, 1, 1]) := fun v w hi h => Pt.ev0 F_n28_ok (S := R_n28) (g := g_n28) (b := b_n28) (cuts := []) (pre := [tc F_n28 [1, 1, 1, 1]]) (T := Lp.st F_n28 (L_n28_j8) v w) (by kernel_rfl) hi (Eq.trans (by kernel_rfl) h) ⟨by kernel_rfl, trivial⟩ trivial fun _ => rfl
def L_n28_j7 : Lp U Bool := ⟨[4], [], [.o (.v .bool)], [], fun v w => sr38_can_j7 v.1⟩
theorem L_n28_j7_ok (r : Bool) : LpOk F_n28 (b_n28 r).enc r (L_n28_j7) (stAt F_n28 [1, 1, 2, 1, 3, 1, 3, 1, 4, 1, 0, 1, 1]) := fun v w hi h => Pt.ev0 F_n28_ok (S := R_n28) (g := g_n28) (b := b_n28) (cuts := []) (pre := [tc F_n28 [1, 1, 2, 1, 3, 1, 3, 1, 4, 1, 0, 1, 1], .blk 0, tc F_n28 [1, 1, 1]]) (T := Lp.st F_n28 (L_n28_j7) v w) (by kernel_rfl) hi (Eq.trans (by kernel_rfl) h) ⟨by kernel_rfl, by kernel_rfl, trivial⟩ trivial fun _ => rfl
def L_n28_k6 : Lp U Bool := ⟨[3], [], qs63, [.boxS (.st 6)], fun v w => sr38_can_k6 w.1⟩
theorem L_n28_k6_ok (r : Bool) : LpOk F_n28 (b_n28 r).enc r (L_n28_k6) ([tc F_n28 [1, 2, 1, 3, 1, 3, 1, 4, 1, 0, 1, 1], .blk 0, tc F_n28 [1, 1, 1]].map TI'.conc ++ []) := fun v w hi h => Pt.ev0 F_n28_ok (S := R_n28) (g := g_n28) (b := b_n28) (cuts := [([1, 1, 2, 1, 3, 1, 3, 1, 4, 1, 0, 1, 1], L_n28_j7)]) (pre := [tc F_n28 [1, 2, 1, 3, 1, 3, 1, 4, 1, 0, 1, 1], .blk 0, tc F_n28 [1, 1, 1]]) (T := Lp.st F_n28 (L_n28_k6) v w) (by kernel_rfl) hi (Eq.trans (by kernel_rfl) h) ⟨by kernel_rfl, by kernel_rfl, trivial⟩ ⟨(L_n28_j7_ok r), trivial⟩ fun _ => rfl
def L_n28_j4 : Lp U Bool := ⟨[4], [], [.o (.v .bool)], [], fun v w => sr38_can_j4 v.1⟩
theorem L_n28_j4_ok (r : Bool) : LpOk F_n28 (b_n28 r).enc r (L_n28_j4) (stAt F_n28 [1, 2, 1, 3, 1, 4, 1, 0, 1, 1]) := fun v w hi h => Pt.ev0 F_n28_ok (S := R_n28) (g := g_n28) (b := b_n28) (cuts := []) (pre := [tc F_n28 [1, 2, 1, 3, 1, 4, 1, 0, 1, 1], .blk 0, tc F_n28 [1, 1, 1]]) (T := Lp.st F_n28 (L_n28_j4) v w) (by kernel_rfl) hi (Eq.trans (by kernel_rfl) h) ⟨by kernel_rfl, by kernel_rfl, trivial⟩ trivial fun _ => rfl
def base_n28_l1 : List Eng.Item := .lp (codeAt F_n28 [5, 4, 1, 0, 2, 1, 3, 1, 3, 1, 4, 1, 0, 1, 1]) :: ([.blk 1, tc F_n28 [1, 2, 1, 3, 1, 3, 1, 4, 1, 0, 1, 1], .blk 0, tc F_n28 [1, 1, 1]].map TI'.conc ++ [])
def Lh_n28_l1 (rec_ : Tr_n28_0) : Lp U (Out GaOp Bool) := ⟨[2, 3, 54, 55, 56], [], qs29, qo59, fun v w => rec_ v.2.2.1 v.2.2.2.1 v.2.2.2.2.1 w.1 w.2.1⟩
def Lx_n28_l1 : Lp U (Out GaOp Bool) := ⟨[3], [], qs63, [.boxS (.st 6)], fun v w => some (.brk w.1)⟩
def L_n28_j5 (rec_ : Tr_n28_0) : Lp U (Out GaOp Bool) := ⟨[2, 3, 54, 55, 56, 68], [], [.o (.ptr (0, 1, 1) 0 0), .o (.ptr (0, 2, 1) 0 0), .o (.v (.sl (.int .i64))), qi, qi, .o (.v .bool)], qo59, fun v w => sr38_can_j5 rec_ v.2.2.1 v.2.2.2.1 v.2.2.2.2.1 v.2.2.2.2.2.1 w.1 w.2.1⟩
theorem L_n28_j5_ok {RT : Ret} {r : (Out GaOp Bool)} {rec_ : Tr_n28_0} (hb : LpOk F_n28 RT r (Lh_n28_l1 rec_) base_n28_l1) (hx : AllExits F_n28 RT r base_n28_l1 [(1, Lx_n28_l1)]) (hr : qH (retOf R_n28 fun v => Out.ret (β := GaOp) (g_n28 v)) r RT) : LpOk F_n28 RT r (L_n28_j5 rec_) (stAt F_n28 [1, 1, 4, 0, 1, 1, 5, 4, 1, 0, 2, 1, 3, 1, 3, 1, 4, 1, 0, 1, 1]) := fun v w hi h => Pt.evlAt F_n28_ok (r := r) 4000 (cuts := []) (back := (some (Lh_n28_l1 rec_))) (exits := [(1, Lx_n28_l1)]) (ret := (retOf R_n28 fun v => Out.ret (β := GaOp) (g_n28 v))) (base := base_n28_l1) (pre := [tc F_n28 [1, 1, 4, 0, 1, 1, 5, 4, 1, 0, 2, 1, 3, 1, 3, 1, 4, 1, 0, 1, 1], .blk 2, tc F_n28 [1, 1, 1, 5, 4, 1, 0, 2, 1, 3, 1, 3, 1, 4, 1, 0, 1, 1]]) (T := Lp.st F_n28 (L_n28_j5 rec_) v w) (by kernel_rfl) hi (Eq.trans (by kernel_rfl) h) ⟨by kernel_rfl, by kernel_rfl, trivial⟩ trivial (fun L hL => by cases hL; exact hb) (fun hn => nomatch hn) hx hr
theorem sr38_can_l1_ok {RT : Ret} {r : (Out GaOp Bool)} (hx : AllExits F_n28 RT r base_n28_l1 [(1, Lx_n28_l1)]) (hr : qH (retOf R_n28 fun v => Out.ret (β := GaOp) (g_n28 v)) r RT) : ∀ n, LpOk F_n28 RT r (Lh_n28_l1 (sr38_can_l1 n)) (stAt F_n28 [4, 1, 0, 2, 1, 3, 1, 3, 1, 4, 1, 0, 1, 1]) :=
  loop_ok F_n28_ok 4000 (q := [4, 1, 0, 2, 1, 3, 1, 3, 1, 4, 1, 0, 1, 1]) (body := codeAt F_n28 [5, 4, 1, 0, 2, 1, 3, 1, 3, 1, 4, 1, 0, 1, 1]) (live := [2, 3, 54, 55, 56]) (frz := []) (shs := qs29) (sho := qo59) (fun n v w => sr38_can_l1 n v.2.2.1 v.2.2.2.1 v.2.2.2.2.1 w.1 w.2.1) (cuts := fun n => [([1, 1, 4, 0, 1, 1, 5, 4, 1, 0, 2, 1, 3, 1, 3, 1, 4, 1, 0, 1, 1], L_n28_j5 (sr38_can_l1 n))]) (exits := [(1, Lx_n28_l1)]) (ret := (retOf R_n28 fun v => Out.ret (β := GaOp) (g_n28 v))) (by kernel_rfl) (fun _ _ => rfl) (fun n v w => by kernel_rfl) (fun n hb => ⟨L_n28_j5_ok hb hx hr, trivial⟩) hx hr
def Lc_n28_l1 : Lp U Bool := ⟨[2, 3, 54, 55, 56], [], qs29, qo59, fun v w => (sr38_can_l1 big v.2.2.1 v.2.2.2.1 v.2.2.2.2.1 w.1 w.2.1).bind fun | .ret q_ => some q_ | .brk x0 => sr38_can_k6 x0⟩
theorem Lc_n28_l1_ok (r : Bool) : LpOk F_n28 (b_n28 r).enc r (Lc_n28_l1) (stAt F_n28 [4, 1, 0, 2, 1, 3, 1, 3, 1, 4, 1, 0, 1, 1]) := fun v w hi h0 => by
  obtain ⟨x, hx0, h⟩ := bind_some h0
  exact sr38_can_l1_ok (r := x) (RT := (b_n28 r).enc) ⟨⟨[tc F_n28 [1, 2, 1, 3, 1, 3, 1, 4, 1, 0, 1, 1], .blk 0, tc F_n28 [1, 1, 1]].map TI'.conc ++ [], by kernel_rfl, fun v' w' hi' h' => by obtain rfl := Option.some.inj h'; exact L_n28_k6_ok r v' w' hi' h⟩, trivial⟩ (fun t ht => by obtain ⟨q, rfl, hq⟩ := retOut ht; obtain rfl := Option.some.inj h; exact retOf_enc uok (give := b_n28) (fun _ => rfl) hq) big v w hi hx0
def L_n28_j3 : Lp U Bool := ⟨[2, 3, 5, 20, 36], [], [.o (.ptr (0, 1, 1) 0 0), .o (.ptr (0, 2, 1) 0 0), .o (.v .bool), qi, .o (.v .bool)], qo59, fun v w => sr38_can_j3 v.2.2.1 v.2.2.2.1 v.2.2.2.2.1 w.1 w.2.1⟩
theorem L_n28_j3_ok (r : Bool) : LpOk F_n28 (b_n28 r).enc r (L_n28_j3) (stAt F_n28 [1, 3, 1, 4, 1, 0, 1, 1]) := fun v w hi h => Pt.ev0 F_n28_ok (S := R_n28) (g := g_n28) (b := b_n28) (cuts := [([1, 2, 1, 3, 1, 4, 1, 0, 1, 1], L_n28_j4), ([1, 1, 1, 1], L_n28_j8), ([4, 1, 0, 2, 1, 3, 1, 3, 1, 4, 1, 0, 1, 1], Lc_n28_l1)]) (pre := [tc F_n28 [1, 3, 1, 4, 1, 0, 1, 1], .blk 0, tc F_n28 [1, 1, 1]]) (T := Lp.st F_n28 (L_n28_j3) v w) (by kernel_rfl) hi (Eq.trans (by kernel_rfl) h) ⟨by kernel_rfl, by kernel_rfl, trivial⟩ ⟨(L_n28_j4_ok r), (L_n28_j8_ok r), (Lc_n28_l1_ok r), trivial⟩ fun _ => rfl
def L_n28_j2 : Lp U Bool := ⟨[4], [], [.o (.v .bool)], [], fun v w => sr38_can_j2 v.1⟩
theorem L_n28_j2_ok (r : Bool) : LpOk F_n28 (b_n28 r).enc r (L_n28_j2) (stAt F_n28 [1, 2, 1, 4, 1, 0, 1, 1]) := fun v w hi h => Pt.ev0 F_n28_ok (S := R_n28) (g := g_n28) (b := b_n28) (cuts := []) (pre := [tc F_n28 [1, 2, 1, 4, 1, 0, 1, 1], .blk 0, tc F_n28 [1, 1, 1]]) (T := Lp.st F_n28 (L_n28_j2) v w) (by kernel_rfl) hi (Eq.trans (by kernel_rfl) h) ⟨by kernel_rfl, by kernel_rfl, trivial⟩ trivial fun _ => rfl
def L_n28_j1 : Lp U Bool := ⟨[2, 3, 5], [], qs51, qo59, fun v w => sr38_can_j1 v.2.2.1 w.1 w.2.1⟩
theorem L_n28_j1_ok (r : Bool) : LpOk F_n28 (b_n28 r).enc r (L_n28_j1) (stAt F_n28 [1, 1]) := fun v w hi h => Pt.ev0 F_n28_ok (S := R_n28) (g := g_n28) (b := b_n28) (cuts := [([1, 2, 1, 4, 1, 0, 1, 1], L_n28_j2), ([1, 3, 1, 4, 1, 0, 1, 1], L_n28_j3)]) (pre := [tc F_n28 [1, 1]]) (T := Lp.st F_n28 (L_n28_j1) v w) (by kernel_rfl) hi (Eq.trans (by kernel_rfl) h) ⟨by kernel_rfl, trivial⟩ ⟨(L_n28_j2_ok r), (L_n28_j3_ok r), trivial⟩ fun _ => rfl
def S_sr38_can : FSig U := ⟨Bool, [24, 174], [.p, .p], [some 4, some 6], [.p (.st 4), .p (.st 6)], fun v => sr38_can v.1 v.2.1, b_n28⟩
theorem S_sr38_can_ok : SigOk X0.E 177 S_sr38_can.sig := FSig.ok0 F_n28_ok (R := R_n28) (g := g_n28) (cuts := [([1, 1], L_n28_j1)]) (pre := [tc0 F_n28]) rfl Tryd.func177 (by decide) rfl (fun _ => Nat.le_of_ble_eq_true (by kernel_rfl)) (fun _ => rfl) (by kernel_rfl) (fun _ _ h => Eq.trans (by kernel_rfl) h) ⟨rfl, trivial⟩ (fun r => ⟨(L_n28_j1_ok r), trivial⟩) fun _ => rfl

abbrev Tr_n29_0 : Type := qL3 → qL3 → Int → Int → GaTable → Int → Str → Int → Str → qL0 → qL0 → Option qT67
/-! ### tablefinder/tablefinderref03.Project -/
def c_n29 : Code := bodyOf Tryd.f193
def F_n29 : FC U := ⟨X0.at 50, Tryd.f193, c_n29, [(78, S_sr03_Valid.sig)], [], [.p, .p], [some 4, none]⟩
theorem F_n29_ok : FOk F_n29 := fok uok tok0 eok0 mixed rfl ⟨S_sr03_Valid_ok, trivial⟩
def R_n29 : RSh := ⟨[.p (.st 4), .p (.int .i64)], []⟩
def g_n29 (v : RVal U R_n29) : qT92 := (v.1.1, v.1.2.1)
def b_n29 (q : qT92) : TRet U := R_n29.bld ((q.1, (q.2, ())), ())
def L_n29_k2 : Lp U qT92 := ⟨[1, 4, 6], [], qs47, qo19, fun v w => sr03_Project_k2 v.1 w.1.1 w.1.2.1 w.2.1.1 w.2.1.2.1 w.2.2.1 w.2.2.2.1⟩
theorem L_n29_k2_ok (r : qT92) : LpOk F_n29 (b_n29 r).enc r (L_n29_k2) ([tc F_n29 [1, 1, 1, 1]].map TI'.conc ++ []) := fun v w hi h => Pt.ev0 F_n29_ok (S := R_n29) (g := g_n29) (b := b_n29) (cuts := []) (pre := [tc F_n29 [1, 1, 1, 1]]) (T := Lp.st F_n29 (L_n29_k2) v w) (by kernel_rfl) hi (Eq.trans (by kernel_rfl) h) ⟨by kernel_rfl, trivial⟩ trivial fun _ => rfl
def base_n29_l1 : List Eng.Item := .lp (codeAt F_n29 [5, 4, 1, 0, 1, 1, 1]) :: ([.blk 0, tc F_n29 [1, 1, 1, 1]].map TI'.conc ++ [])
def Lh_n29_l1 (rec_ : Tr_n29_0) : Lp U qT67 := ⟨[1, 2, 4, 6, 18, 19, 20], [], qs16, qo14, fun v w => rec_ v.1 v.2.2.2.2.1 v.2.2.2.2.2.1 v.2.2.2.2.2.2.1 w.1 w.2.1.1 w.2.1.2.1 w.2.2.1.1 w.2.2.1.2.1 w.2.2.2.1 w.2.2.2.2.1⟩
def Lx_n29_l1 : Lp U qT67 := ⟨[1, 4, 6], [], qs47, qo19, fun v w => some (.brk (v.1, w.1.1, w.1.2.1, w.2.1.1, w.2.1.2.1, w.2.2.1, w.2.2.2.1))⟩
def L_n29_j1 (rec_ : Tr_n29_0) : Lp U qT67 := ⟨[1, 2, 4, 6, 8, 18, 19, 20, 32], [], [.o (.v (.sl (.int .i64))), .o (.ptr (0, 1, 1) 0 0), .o (.ptr (0, 2, 1) 0 0), .o (.ptr (0, 3, 1) 0 0), qi, .o (.v (.sl (.int .i64))), qi, qi, .o (.v .bool)], qo14, fun v w => sr03_Project_j1 rec_ v.1 v.2.2.2.2.1 v.2.2.2.2.2.1 v.2.2.2.2.2.2.1 v.2.2.2.2.2.2.2.1 v.2.2.2.2.2.2.2.2.1 w.1 w.2.1.1 w.2.1.2.1 w.2.2.1.1 w.2.2.1.2.1 w.2.2.2.1 w.2.2.2.2.1⟩
theorem L_n29_j1_ok {RT : Ret} {r : qT67} {rec_ : Tr_n29_0} (hb : LpOk F_n29 RT r (Lh_n29_l1 rec_) base_n29_l1) (hx : AllExits F_n29 RT r base_n29_l1 [(0, Lx_n29_l1)]) (hr : qH (retOf R_n29 fun v => Out.ret (β := qT70) (g_n29 v)) r RT) : LpOk F_n29 RT r (L_n29_j1 rec_) (stAt F_n29 [1, 0, 1, 4, 0, 1, 1, 5, 4, 1, 0, 1, 1, 1]) := fun v w hi h => Pt.evlAt F_n29_ok (r := r) 4000 (cuts := []) (back := (some (Lh_n29_l1 rec_))) (exits := [(0, Lx_n29_l1)]) (ret := (retOf R_n29 fun v => Out.ret (β := qT70) (g_n29 v))) (base := base_n29_l1) (pre := [tc F_n29 [1, 0, 1, 4, 0, 1, 1, 5, 4, 1, 0, 1, 1, 1], tc F_n29 [1, 1, 4, 0, 1, 1, 5, 4, 1, 0, 1, 1, 1], .blk 1, tc F_n29 [1, 1, 1, 5, 4, 1, 0, 1, 1, 1]]) (T := Lp.st F_n29 (L_n29_j1 rec_) v w) (by kernel_rfl) hi (Eq.trans (by kernel_rfl) h) ⟨by kernel_rfl, by kernel_rfl, by kernel_rfl, trivial⟩ trivial (fun L hL => by cases hL; exact hb) (fun hn => nomatch hn) hx hr
theorem sr03_Project_l1_ok {RT : Ret} {r : qT67} (hx : AllExits F_n29 RT r base_n29_l1 [(0, Lx_n29_l1)]) (hr : qH (retOf R_n29 fun v => Out.ret (β := qT70) (g_n29 v)) r RT) : ∀ n, LpOk F_n29 RT r (Lh_n29_l1 (sr03_Project_l1 n)) (stAt F_n29 [4, 1, 0, 1, 1, 1]) :=
  loop_ok F_n29_ok 4000 (q := [4, 1, 0, 1, 1, 1]) (body := codeAt F_n29 [5, 4, 1, 0, 1, 1, 1]) (live := [1, 2, 4, 6, 18, 19, 20]) (frz := []) (shs := qs16) (sho := qo14) (fun n v w => sr03_Project_l1 n v.1 v.2.2.2.2.1 v.2.2.2.2.2.1 v.2.2.2.2.2.2.1 w.1 w.2.1.1 w.2.1.2.1 w.2.2.1.1 w.2.2.1.2.1 w.2.2.2.1 w.2.2.2.2.1) (cuts := fun n => [([1, 0, 1, 4, 0, 1, 1, 5, 4, 1, 0, 1, 1, 1], L_n29_j1 (sr03_Project_l1 n))]) (exits := [(0, Lx_n29_l1)]) (ret := (retOf R_n29 fun v => Out.ret (β := qT70) (g_n29 v))) (by kernel_rfl) (fun _ _ => rfl) (fun n v w => by kernel_rfl) (fun n hb => ⟨L_n29_j1_ok hb hx hr, trivial⟩) hx hr
def Lc_n29_l1 : Lp U qT92 := ⟨[1, 2, 4, 6, 18, 19, 20], [], qs16, qo14, fun v w => (sr03_Project_l1 big v.1 v.2.2.2.2.1 v.2.2.2.2.2.1 v.2.2.2.2.2.2.1 w.1 w.2.1.1 w.2.1.2.1 w.2.2.1.1 w.2.2.1.2.1 w.2.2.2.1 w.2.2.2.2.1).bind fun | .ret q_ => some q_ | .brk (x0, x1, x2, x3, x4, x5, x6) => sr03_Project_k2 x0 x1 x2 x3 x4 x5 x6⟩
theorem Lc_n29_l1_ok (r : qT92) : LpOk F_n29 (b_n29 r).enc r (Lc_n29_l1) (stAt F_n29 [4, 1, 0, 1, 1, 1]) := fun v w hi h0 => by
  obtain ⟨x, hx0, h⟩ := bind_some h0
  exact sr03_Project_l1_ok (r := x) (RT := (b_n29 r).enc) ⟨⟨[tc F_n29 [1, 1, 1, 1]].map TI'.conc ++ [], by kernel_rfl, fun v' w' hi' h' => by obtain rfl := Option.some.inj h'; exact L_n29_k2_ok r v' w' hi' h⟩, trivial⟩ (fun t ht => by obtain ⟨q, rfl, hq⟩ := retOut ht; obtain rfl := Option.some.inj h; exact retOf_enc uok (give := b_n29) (fun _ => rfl) hq) big v w hi hx0
def S_sr03_Project : FSig U := ⟨qT92, [24, 25], [.p, .p], [some 4, none], [.p (.st 4), .p (.sl (.int .i64))], fun v => sr03_Project v.1 v.2.1, b_n29⟩
theorem S_sr03_Project_ok : SigOk X0.E 193 S_sr03_Project.sig := FSig.ok0 F_n29_ok (R := R_n29) (g := g_n29) (cuts := [([4, 1, 0, 1, 1, 1], Lc_n29_l1)]) (pre := [tc0 F_n29]) rfl Tryd.func193 (by decide) rfl (fun _ => Nat.le_of_ble_eq_true (by kernel_rfl)) (fun _ => rfl) (by kernel_rfl) (fun _ _ h => Eq.trans (by kernel_rfl) h) ⟨rfl, trivial⟩ (fun r => ⟨(Lc_n29_l1_ok r), trivial⟩) fun _ => rfl

/-! ### tablefinder/tablefinderref03.Rows -/
def c_n30 : Code := bodyOf Tryd.f53
def F_n30 : FC U := ⟨X0.at 13, Tryd.f53, c_n30, [], [], [.p], [none]⟩
theorem F_n30_ok : FOk F_n30 := fok uok tok0 eok0 mixed rfl trivial
def R_n30 : RSh := ⟨[.p (.int .i64)], []⟩
def g_n30 (v : RVal U R_n30) : Int := v.1.1
def b_n30 (q : Int) : TRet U := R_n30.bld ((q, ()), ())
def S_sr03_Rows : FSig U := ⟨Int, [24], [.p], [some 4], [.p (.st 4)], fun v => sr03_Rows v.1, b_n30⟩
theorem S_sr03_Rows_ok : SigOk X0.E 53 S_sr03_Rows.sig := FSig.ok0 F_n30_ok (R := R_n30) (g := g_n30) (cuts := []) (pre := [tc0 F_n30]) rfl Tryd.func53 (by decide) rfl (fun _ => Nat.le_of_ble_eq_true (by kernel_rfl)) (fun _ => rfl) (by kernel_rfl) (fun _ _ h => Eq.trans (by kernel_rfl) h) ⟨rfl, trivial⟩ (fun r => trivial) fun _ => rfl

/-! ### tablefinder/tablefinderref38.equal -/
def c_n31 : Code := bodyOf Tryd.f213
def F_n31 : FC U := ⟨X0.at 28, Tryd.f213, c_n31, [], [], [.p], [none]⟩
theorem F_n31_ok : FOk F_n31 := fok uok tok0 eok0 mixed rfl trivial
def R_n31 : RSh := ⟨[.p .bool], []⟩
def g_n31 (v : RVal U R_n31) : Bool := v.1.1
def b_n31 (q : Bool) : TRet U := R_n31.bld ((q, ()), ())
def L_n31_k1 : Lp U Bool := ⟨[], [], [], [], fun v w => sr38_equal_k1⟩
theorem L_n31_k1_ok (r : Bool) : LpOk F_n31 (b_n31 r).enc r (L_n31_k1) ([tc F_n31 [1, 1]].map TI'.conc ++ []) := fun v w hi h => Pt.ev0 F_n31_ok (S := R_n31) (g := g_n31) (b := b_n31) (cuts := []) (pre := [tc F_n31 [1, 1]]) (T := Lp.st F_n31 (L_n31_k1) v w) (by kernel_rfl) hi (Eq.trans (by kernel_rfl) h) ⟨by kernel_rfl, trivial⟩ trivial fun _ => rfl
def base_n31_l1 : List Eng.Item := .lp (codeAt F_n31 [5, 4, 1, 0, 1]) :: ([.blk 0, tc F_n31 [1, 1]].map TI'.conc ++ [])
def Lh_n31_l1 (rec_ : Int → Int → qL0 → Int → Int → Option (Out Unit Bool)) : Lp U (Out Unit Bool) := ⟨[1, 2, 10, 11, 12], [], qs37, [], fun v w => rec_ v.1 v.2.1 v.2.2.1 v.2.2.2.1 v.2.2.2.2.1⟩
def Lx_n31_l1 : Lp U (Out Unit Bool) := ⟨[], [], [], [], fun v w => some (.brk ())⟩
theorem sr38_equal_l1_ok {RT : Ret} {r : (Out Unit Bool)} (hx : AllExits F_n31 RT r base_n31_l1 [(0, Lx_n31_l1)]) (hr : qH (retOf R_n31 fun v => Out.ret (β := Unit) (g_n31 v)) r RT) : ∀ n, LpOk F_n31 RT r (Lh_n31_l1 (sr38_equal_l1 n)) (stAt F_n31 [4, 1, 0, 1]) :=
  loop_ok F_n31_ok 4000 (q := [4, 1, 0, 1]) (body := codeAt F_n31 [5, 4, 1, 0, 1]) (live := [1, 2, 10, 11, 12]) (frz := []) (shs := qs37) (sho := []) (fun n v w => sr38_equal_l1 n v.1 v.2.1 v.2.2.1 v.2.2.2.1 v.2.2.2.2.1) (cuts := fun n => []) (exits := [(0, Lx_n31_l1)]) (ret := (retOf R_n31 fun v => Out.ret (β := Unit) (g_n31 v))) (by kernel_rfl) (fun _ _ => rfl) (fun n v w => by kernel_rfl) (fun n hb => trivial) hx hr
def Lc_n31_l1 : Lp U Bool := ⟨[1, 2, 10, 11, 12], [], qs37, [], fun v w => (sr38_equal_l1 big v.1 v.2.1 v.2.2.1 v.2.2.2.1 v.2.2.2.2.1).bind fun | .ret q_ => some q_ | .brk () => sr38_equal_k1⟩
theorem Lc_n31_l1_ok (r : Bool) : LpOk F_n31 (b_n31 r).enc r (Lc_n31_l1) (stAt F_n31 [4, 1, 0, 1]) := fun v w hi h0 => by
  obtain ⟨x, hx0, h⟩ := bind_some h0
  exact sr38_equal_l1_ok (r := x) (RT := (b_n31 r).enc) ⟨⟨[tc F_n31 [1, 1]].map TI'.conc ++ [], by kernel_rfl, fun v' w' hi' h' => by obtain rfl := Option.some.inj h'; exact L_n31_k1_ok r v' w' hi' h⟩, trivial⟩ (fun t ht => by obtain ⟨q, rfl, hq⟩ := retOut ht; obtain rfl := Option.some.inj h; exact retOf_enc uok (give := b_n31) (fun _ => rfl) hq) big v w hi hx0
def S_sr38_equal : FSig U := ⟨Bool, [24, 3, 3], [.p, .p, .p], [some 4, none, none], [.p (.st 4), .p (.int .i64), .p (.int .i64)], fun v => sr38_equal v.1 v.2.1 v.2.2.1, b_n31⟩
theorem S_sr38_equal_ok : SigOk X0.E 213 S_sr38_equal.sig := FSig.ok0 F_n31_ok (R := R_n31) (g := g_n31) (cuts := [([4, 1, 0, 1], Lc_n31_l1)]) (pre := [tc0 F_n31]) rfl Tryd.func213 (by decide) rfl (fun _ => Nat.le_of_ble_eq_true (by kernel_rfl)) (fun _ => rfl) (by kernel_rfl) (fun _ _ h => Eq.trans (by kernel_rfl) h) ⟨rfl, trivial⟩ (fun r => ⟨(Lc_n31_l1_ok r), trivial⟩) fun _ => rfl

/-! ### tablefinder/tablefinderref03.CompareCells -/
def c_n32 : Code := bodyOf Tryd.f214
def F_n32 : FC U := ⟨X0.at 30, Tryd.f214, c_n32, [], [], [.p], [none]⟩
theorem F_n32_ok : FOk F_n32 := fok uok tok0 eok0 mixed rfl trivial
def R_n32 : RSh := ⟨[.p (.int .i64)], []⟩
def g_n32 (v : RVal U R_n32) : Int := v.1.1
def b_n32 (q : Int) : TRet U := R_n32.bld ((q, ()), ())
def L_n32_j1 : Lp U Int := ⟨[2, 3, 5], [], qs51, [.boxS (.st 2), .boxS (.st 2)], fun v w => sr03_CompareCells_j1 v.2.2.1 w.1 w.2.1⟩
theorem L_n32_j1_ok (r : Int) : LpOk F_n32 (b_n32 r).enc r (L_n32_j1) (stAt F_n32 [1, 4, 0, 1]) := fun v w hi h => Pt.ev0 F_n32_ok (S := R_n32) (g := g_n32) (b := b_n32) (cuts := []) (pre := [tc F_n32 [1, 4, 0, 1], .blk 0, tc F_n32 [1, 1]]) (T := Lp.st F_n32 (L_n32_j1) v w) (by kernel_rfl) hi (Eq.trans (by kernel_rfl) h) ⟨by kernel_rfl, by kernel_rfl, trivial⟩ trivial fun _ => rfl
def S_sr03_CompareCells : FSig U := ⟨Int, [51, 51], [.p, .p], [some 2, some 2], [.p (.st 2), .p (.st 2)], fun v => sr03_CompareCells v.1 v.2.1, b_n32⟩
theorem S_sr03_CompareCells_ok : SigOk X0.E 214 S_sr03_CompareCells.sig := FSig.ok0 F_n32_ok (R := R_n32) (g := g_n32) (cuts := [([1, 4, 0, 1], L_n32_j1)]) (pre := [tc0 F_n32]) rfl Tryd.func214 (by decide) rfl (fun _ => Nat.le_of_ble_eq_true (by kernel_rfl)) (fun _ => rfl) (by kernel_rfl) (fun _ _ h => Eq.trans (by kernel_rfl) h) ⟨rfl, trivial⟩ (fun r => ⟨(L_n32_j1_ok r), trivial⟩) fun _ => rfl

abbrev Tr_n33_0 : Type := Int → Int → Bool → qL4 → Int → Int → GaTable → GaOp → qL3 → Option qT76
abbrev Tr_n33_1 : Type := Int → Int → Bool → Int → Int → Int → Int → GaTable → GaOp → qL3 → Option qT76
abbrev Tr_n33_2 : Type := Int → Int → GaTable → GaOp → qL3 → Option qL3
/-! ### tablefinder/tablefinderref38.rows -/
def c_n33 : Code := bodyOf Tryd.f195
def F_n33 : FC U := ⟨X0.at 118, Tryd.f195, c_n33, [(53, S_sr03_Rows.sig), (213, S_sr38_equal.sig), (214, S_sr03_CompareCells.sig)], [], [.own], [none]⟩
theorem F_n33_ok : FOk F_n33 := fok uok tok0 eok0 mixed rfl ⟨S_sr03_Rows_ok, S_sr38_equal_ok, S_sr03_CompareCells_ok, trivial⟩
def R_n33 : RSh := ⟨[.own (.int .i64)], []⟩
def g_n33 (v : RVal U R_n33) : qL3 := v.1.1
def b_n33 (q : qL3) : TRet U := R_n33.bld ((q, ()), ())
def L_n33_k8 : Lp U qL3 := ⟨[5], [], [.o (.full (0, 1, 1))], [.arr (.int .i64) false], fun v w => sr38_rows_k8 w.1⟩
theorem L_n33_k8_ok (r : qL3) : LpOk F_n33 (b_n33 r).enc r (L_n33_k8) ([tc F_n33 [1, 1, 1]].map TI'.conc ++ []) := fun v w hi h => Pt.ev0 F_n33_ok (S := R_n33) (g := g_n33) (b := b_n33) (cuts := []) (pre := [tc F_n33 [1, 1, 1]]) (T := Lp.st F_n33 (L_n33_k8) v w) (by kernel_rfl) hi (Eq.trans (by kernel_rfl) h) ⟨by kernel_rfl, trivial⟩ trivial fun _ => rfl
def base_n33_l1 : List Eng.Item := .lp (codeAt F_n33 [5, 4, 1, 0, 1, 1]) :: ([.blk 0, tc F_n33 [1, 1, 1]].map TI'.conc ++ [])
def Lh_n33_l1 (rec_ : Tr_n33_2) : Lp U qL3 := ⟨[2, 3, 5, 14, 15], [], qs34, qo53, fun v w => rec_ v.2.2.2.1 v.2.2.2.2.1 w.1 w.2.1 w.2.2.1⟩
def Lx_n33_l1 : Lp U qL3 := ⟨[5], [], [.o (.full (0, 1, 1))], [.arr (.int .i64) false], fun v w => some w.1⟩
def L_n33_j7 (rec_ : Tr_n33_2) : Lp U qL3 := ⟨[2, 3, 5, 14, 15], [], qs34, qo53, fun v w => sr38_rows_j7 rec_ v.2.2.2.1 v.2.2.2.2.1 w.1 w.2.1 w.2.2.1⟩
theorem L_n33_j7_ok {RT : Ret} {r : qL3} {rec_ : Tr_n33_2} (hb : LpOk F_n33 RT r (Lh_n33_l1 rec_) base_n33_l1) (hx : AllExits F_n33 RT r base_n33_l1 [(0, Lx_n33_l1)]) (hr : qH (fun _ => none) r RT) : LpOk F_n33 RT r (L_n33_j7 rec_) (stAt F_n33 [1, 1, 1, 5, 4, 1, 0, 1, 1]) := fun v w hi h => Pt.evlAt F_n33_ok (r := r) 4000 (cuts := []) (back := (some (Lh_n33_l1 rec_))) (exits := [(0, Lx_n33_l1)]) (ret := (fun _ => none)) (base := base_n33_l1) (pre := [tc F_n33 [1, 1, 1, 5, 4, 1, 0, 1, 1]]) (T := Lp.st F_n33 (L_n33_j7 rec_) v w) (by kernel_rfl) hi (Eq.trans (by kernel_rfl) h) ⟨by kernel_rfl, trivial⟩ trivial (fun L hL => by cases hL; exact hb) (fun hn => nomatch hn) hx hr
def L_n33_j6 (rec_ : Tr_n33_2) : Lp U qL3 := ⟨[2, 3, 5, 6, 7, 14, 15, 104], [], [.o (.ptr (0, 1, 1) 0 0), .o (.ptr (0, 2, 1) 0 0), .o (.full (0, 3, 1)), qi, qi, qi, qi, .o (.v .bool)], qo53, fun v w => sr38_rows_j6 rec_ v.2.2.2.1 v.2.2.2.2.1 v.2.2.2.2.2.1 v.2.2.2.2.2.2.1 v.2.2.2.2.2.2.2.1 w.1 w.2.1 w.2.2.1⟩
theorem L_n33_j6_ok {RT : Ret} {r : qL3} {rec_ : Tr_n33_2} (hb : LpOk F_n33 RT r (Lh_n33_l1 rec_) base_n33_l1) (hx : AllExits F_n33 RT r base_n33_l1 [(0, Lx_n33_l1)]) (hr : qH (fun _ => none) r RT) : LpOk F_n33 RT r (L_n33_j6 rec_) (stAt F_n33 [1, 1, 1, 1, 4, 0, 1, 1, 5, 4, 1, 0, 1, 1]) := fun v w hi h => Pt.evlAt F_n33_ok (r := r) 4000 (cuts := [([1, 1, 1, 5, 4, 1, 0, 1, 1], (L_n33_j7 rec_))]) (back := (some (Lh_n33_l1 rec_))) (exits := [(0, Lx_n33_l1)]) (ret := (fun _ => none)) (base := base_n33_l1) (pre := [tc F_n33 [1, 1, 1, 1, 4, 0, 1, 1, 5, 4, 1, 0, 1, 1], .blk 1, tc F_n33 [1, 1, 1, 5, 4, 1, 0, 1, 1]]) (T := Lp.st F_n33 (L_n33_j6 rec_) v w) (by kernel_rfl) hi (Eq.trans (by kernel_rfl) h) ⟨by kernel_rfl, by kernel_rfl, trivial⟩ ⟨(L_n33_j7_ok hb hx hr), trivial⟩ (fun L hL => by cases hL; exact hb) (fun hn => nomatch hn) hx hr
def L_n33_j5 (rec_ : Tr_n33_2) : Lp U qL3 := ⟨[2, 3, 5, 6, 7, 8, 14, 15], [], qs17, qo53, fun v w => sr38_rows_j5 rec_ v.2.2.2.1 v.2.2.2.2.1 v.2.2.2.2.2.1 v.2.2.2.2.2.2.1 v.2.2.2.2.2.2.2.1 w.1 w.2.1 w.2.2.1⟩
theorem L_n33_j5_ok {RT : Ret} {r : qL3} {rec_ : Tr_n33_2} (hb : LpOk F_n33 RT r (Lh_n33_l1 rec_) base_n33_l1) (hx : AllExits F_n33 RT r base_n33_l1 [(0, Lx_n33_l1)]) (hr : qH (fun _ => none) r RT) : LpOk F_n33 RT r (L_n33_j5 rec_) (stAt F_n33 [1, 1, 1, 4, 0, 1, 1, 5, 4, 1, 0, 1, 1]) := fun v w hi h => Pt.evlAt F_n33_ok (r := r) 4000 (cuts := [([1, 1, 1, 1, 4, 0, 1, 1, 5, 4, 1, 0, 1, 1], (L_n33_j6 rec_))]) (back := (some (Lh_n33_l1 rec_))) (exits := [(0, Lx_n33_l1)]) (ret := (fun _ => none)) (base := base_n33_l1) (pre := [tc F_n33 [1, 1, 1, 4, 0, 1, 1, 5, 4, 1, 0, 1, 1], .blk 1, tc F_n33 [1, 1, 1, 5, 4, 1, 0, 1, 1]]) (T := Lp.st F_n33 (L_n33_j5 rec_) v w) (by kernel_rfl) hi (Eq.trans (by kernel_rfl) h) ⟨by kernel_rfl, by kernel_rfl, trivial⟩ ⟨(L_n33_j6_ok hb hx hr), trivial⟩ (fun L hL => by cases hL; exact hb) (fun hn => nomatch hn) hx hr
def L_n33_k4 (rec_ : Tr_n33_2) : Lp U qL3 := ⟨[2, 3, 5, 6, 7, 8, 14, 15], [], qs17, qo53, fun v w => sr38_rows_k4 rec_ v.2.2.2.1 v.2.2.2.2.1 v.2.2.2.2.2.1 v.2.2.2.2.2.2.1 v.2.2.2.2.2.2.2.1 w.1 w.2.1 w.2.2.1⟩
theorem L_n33_k4_ok {RT : Ret} {r : qL3} {rec_ : Tr_n33_2} (hb : LpOk F_n33 RT r (Lh_n33_l1 rec_) base_n33_l1) (hx : AllExits F_n33 RT r base_n33_l1 [(0, Lx_n33_l1)]) (hr : qH (fun _ => none) r RT) : LpOk F_n33 RT r (L_n33_k4 rec_) ([.blk 2, tc F_n33 [1, 1, 1, 4, 0, 1, 1, 5, 4, 1, 0, 1, 1], .blk 1, tc F_n33 [1, 1, 1, 5, 4, 1, 0, 1, 1]].map TI'.conc ++ base_n33_l1) := fun v w hi h => Pt.evlAt F_n33_ok (r := r) 4000 (cuts := [([1, 1, 1, 1, 4, 0, 1, 1, 5, 4, 1, 0, 1, 1], (L_n33_j6 rec_))]) (back := (some (Lh_n33_l1 rec_))) (exits := [(0, Lx_n33_l1)]) (ret := (fun _ => none)) (base := base_n33_l1) (pre := [.blk 2, tc F_n33 [1, 1, 1, 4, 0, 1, 1, 5, 4, 1, 0, 1, 1], .blk 1, tc F_n33 [1, 1, 1, 5, 4, 1, 0, 1, 1]]) (T := Lp.st F_n33 (L_n33_k4 rec_) v w) (by kernel_rfl) hi (Eq.trans (by kernel_rfl) h) ⟨by kernel_rfl, by kernel_rfl, trivial⟩ ⟨(L_n33_j6_ok hb hx hr), trivial⟩ (fun L hL => by cases hL; exact hb) (fun hn => nomatch hn) hx hr
def L_n33_k2 (rec_ : Tr_n33_2) : Lp U qL3 := ⟨[2, 3, 5, 6, 7, 8, 14, 15], [], qs17, qo53, fun v w => sr38_rows_k2 rec_ v.2.2.2.1 v.2.2.2.2.1 v.2.2.2.2.2.1 v.2.2.2.2.2.2.1 v.2.2.2.2.2.2.2.1 w.1 w.2.1 w.2.2.1⟩
theorem L_n33_k2_ok {RT : Ret} {r : qL3} {rec_ : Tr_n33_2} (hb : LpOk F_n33 RT r (Lh_n33_l1 rec_) base_n33_l1) (hx : AllExits F_n33 RT r base_n33_l1 [(0, Lx_n33_l1)]) (hr : qH (fun _ => none) r RT) : LpOk F_n33 RT r (L_n33_k2 rec_) ([.blk 2, tc F_n33 [1, 1, 1, 4, 0, 1, 1, 5, 4, 1, 0, 1, 1], .blk 1, tc F_n33 [1, 1, 1, 5, 4, 1, 0, 1, 1]].map TI'.conc ++ base_n33_l1) := fun v w hi h => Pt.evlAt F_n33_ok (r := r) 4000 (cuts := [([1, 1, 1, 1, 4, 0, 1, 1, 5, 4, 1, 0, 1, 1], (L_n33_j6 rec_))]) (back := (some (Lh_n33_l1 rec_))) (exits := [(0, Lx_n33_l1)]) (ret := (fun _ => none)) (base := base_n33_l1) (pre := [.blk 2, tc F_n33 [1, 1, 1, 4, 0, 1, 1, 5, 4, 1, 0, 1, 1], .blk 1, tc F_n33 [1, 1, 1, 5, 4, 1, 0, 1, 1]]) (T := Lp.st F_n33 (L_n33_k2 rec_) v w) (by kernel_rfl) hi (Eq.trans (by kernel_rfl) h) ⟨by kernel_rfl, by kernel_rfl, trivial⟩ ⟨(L_n33_j6_ok hb hx hr), trivial⟩ (fun L hL => by cases hL; exact hb) (fun hn => nomatch hn) hx hr
def base_n33_l2 : List Eng.Item := .lp (codeAt F_n33 [5, 4, 1, 2, 1, 3, 1, 3, 1, 4, 1, 0, 1, 1, 4, 0, 1, 1, 5, 4, 1, 0, 1, 1]) :: ([.blk 3, .blk 2, tc F_n33 [1, 1, 1, 4, 0, 1, 1, 5, 4, 1, 0, 1, 1], .blk 1, tc F_n33 [1, 1, 1, 5, 4, 1, 0, 1, 1]].map TI'.conc ++ base_n33_l1)
def Lh_n33_l2 (rec_ : Tr_n33_1) : Lp U qT76 := ⟨[2, 3, 5, 6, 7, 8, 14, 15, 60, 61, 62], [], qs7, qo53, fun v w => rec_ v.2.2.2.1 v.2.2.2.2.1 v.2.2.2.2.2.1 v.2.2.2.2.2.2.1 v.2.2.2.2.2.2.2.1 v.2.2.2.2.2.2.2.2.2.1 v.2.2.2.2.2.2.2.2.2.2.1 w.1 w.2.1 w.2.2.1⟩
def Lx_n33_l2 : Lp U qT76 := ⟨[2, 3, 5, 6, 7, 8, 14, 15], [], qs17, qo53, fun v w => some (v.2.2.2.1, v.2.2.2.2.1, v.2.2.2.2.2.1, v.2.2.2.2.2.2.1, v.2.2.2.2.2.2.2.1, w.1, w.2.1, w.2.2.1)⟩
def L_n33_j1 (rec_ : Tr_n33_1) : Lp U qT76 := ⟨[2, 3, 5, 6, 7, 8, 14, 15, 60, 61, 62], [], qs7, qo53, fun v w => sr38_rows_j1 rec_ v.2.2.2.1 v.2.2.2.2.1 v.2.2.2.2.2.1 v.2.2.2.2.2.2.1 v.2.2.2.2.2.2.2.1 v.2.2.2.2.2.2.2.2.2.1 v.2.2.2.2.2.2.2.2.2.2.1 w.1 w.2.1 w.2.2.1⟩
theorem L_n33_j1_ok {RT : Ret} {r : qT76} {rec_ : Tr_n33_1} (hb : LpOk F_n33 RT r (Lh_n33_l2 rec_) base_n33_l2) (hx : AllExits F_n33 RT r base_n33_l2 [(3, Lx_n33_l2)]) (hr : qH (fun _ => none) r RT) : LpOk F_n33 RT r (L_n33_j1 rec_) (stAt F_n33 [1, 1, 1, 5, 4, 1, 2, 1, 3, 1, 3, 1, 4, 1, 0, 1, 1, 4, 0, 1, 1, 5, 4, 1, 0, 1, 1]) := fun v w hi h => Pt.evlAt F_n33_ok (r := r) 4000 (cuts := []) (back := (some (Lh_n33_l2 rec_))) (exits := [(3, Lx_n33_l2)]) (ret := (fun _ => none)) (base := base_n33_l2) (pre := [tc F_n33 [1, 1, 1, 5, 4, 1, 2, 1, 3, 1, 3, 1, 4, 1, 0, 1, 1, 4, 0, 1, 1, 5, 4, 1, 0, 1, 1]]) (T := Lp.st F_n33 (L_n33_j1 rec_) v w) (by kernel_rfl) hi (Eq.trans (by kernel_rfl) h) ⟨by kernel_rfl, trivial⟩ trivial (fun L hL => by cases hL; exact hb) (fun hn => nomatch hn) hx hr
theorem sr38_rows_l2_ok {RT : Ret} {r : qT76} (hx : AllExits F_n33 RT r base_n33_l2 [(3, Lx_n33_l2)]) (hr : qH (fun _ => none) r RT) : ∀ n, LpOk F_n33 RT r (Lh_n33_l2 (sr38_rows_l2 n)) (stAt F_n33 [4, 1, 2, 1, 3, 1, 3, 1, 4, 1, 0, 1, 1, 4, 0, 1, 1, 5, 4, 1, 0, 1, 1]) :=
  loop_ok F_n33_ok 4000 (q := [4, 1, 2, 1, 3, 1, 3, 1, 4, 1, 0, 1, 1, 4, 0, 1, 1, 5, 4, 1, 0, 1, 1]) (body := codeAt F_n33 [5, 4, 1, 2, 1, 3, 1, 3, 1, 4, 1, 0, 1, 1, 4, 0, 1, 1, 5, 4, 1, 0, 1, 1]) (live := [2, 3, 5, 6, 7, 8, 14, 15, 60, 61, 62]) (frz := []) (shs := qs7) (sho := qo53) (fun n v w => sr38_rows_l2 n v.2.2.2.1 v.2.2.2.2.1 v.2.2.2.2.2.1 v.2.2.2.2.2.2.1 v.2.2.2.2.2.2.2.1 v.2.2.2.2.2.2.2.2.2.1 v.2.2.2.2.2.2.2.2.2.2.1 w.1 w.2.1 w.2.2.1) (cuts := fun n => [([1, 1, 1, 5, 4, 1, 2, 1, 3, 1, 3, 1, 4, 1, 0, 1, 1, 4, 0, 1, 1, 5, 4, 1, 0, 1, 1], L_n33_j1 (sr38_rows_l2 n))]) (exits := [(3, Lx_n33_l2)]) (ret := (fun _ => none)) (by kernel_rfl) (fun _ _ => rfl) (fun n v w => by kernel_rfl) (fun n hb => ⟨L_n33_j1_ok hb hx hr, trivial⟩) hx hr
def Lc_n33_l2 (rec_ : Tr_n33_2) : Lp U qL3 := ⟨[2, 3, 5, 6, 7, 8, 14, 15, 60, 61, 62], [], qs7, qo53, fun v w => (sr38_rows_l2 big v.2.2.2.1 v.2.2.2.2.1 v.2.2.2.2.2.1 v.2.2.2.2.2.2.1 v.2.2.2.2.2.2.2.1 v.2.2.2.2.2.2.2.2.2.1 v.2.2.2.2.2.2.2.2.2.2.1 w.1 w.2.1 w.2.2.1).bind fun (x0, x1, x2, x3, x4, x5, x6, x7) => sr38_rows_k2 rec_ x0 x1 x2 x3 x4 x5 x6 x7⟩
theorem Lc_n33_l2_ok {RT : Ret} {r : qL3} {rec_ : Tr_n33_2} (hb : LpOk F_n33 RT r (Lh_n33_l1 rec_) base_n33_l1) (hx : AllExits F_n33 RT r base_n33_l1 [(0, Lx_n33_l1)]) (hr : qH (fun _ => none) r RT) : LpOk F_n33 RT r (Lc_n33_l2 rec_) (stAt F_n33 [4, 1, 2, 1, 3, 1, 3, 1, 4, 1, 0, 1, 1, 4, 0, 1, 1, 5, 4, 1, 0, 1, 1]) := fun v w hi h0 => by
  obtain ⟨x, hx0, h⟩ := bind_some h0
  exact sr38_rows_l2_ok (r := x) (RT := RT) ⟨⟨[.blk 2, tc F_n33 [1, 1, 1, 4, 0, 1, 1, 5, 4, 1, 0, 1, 1], .blk 1, tc F_n33 [1, 1, 1, 5, 4, 1, 0, 1, 1]].map TI'.conc ++ base_n33_l1, by kernel_rfl, fun v' w' hi' h' => by obtain rfl := Option.some.inj h'; exact L_n33_k2_ok hb hx hr v' w' hi' h⟩, trivial⟩ (fun _ ht => nomatch ht) big v w hi hx0
def base_n33_l3 : List Eng.Item := .lp (codeAt F_n33 [5, 4, 1, 2, 1, 3, 1, 3, 1, 3, 1, 4, 1, 0, 1, 1, 4, 0, 1, 1, 5, 4, 1, 0, 1, 1]) :: ([.blk 5, .blk 2, tc F_n33 [1, 1, 1, 4, 0, 1, 1, 5, 4, 1, 0, 1, 1], .blk 1, tc F_n33 [1, 1, 1, 5, 4, 1, 0, 1, 1]].map TI'.conc ++ base_n33_l1)
def Lh_n33_l3 (rec_ : Tr_n33_0) : Lp U qT76 := ⟨[2, 3, 5, 6, 7, 8, 12, 14, 15], [], qs12, qo53, fun v w => rec_ v.2.2.2.1 v.2.2.2.2.1 v.2.2.2.2.2.1 v.2.2.2.2.2.2.1 v.2.2.2.2.2.2.2.1 v.2.2.2.2.2.2.2.2.1 w.1 w.2.1 w.2.2.1⟩
def Lx_n33_l3 : Lp U qT76 := ⟨[2, 3, 5, 6, 7, 8, 14, 15], [], qs17, qo53, fun v w => some (v.2.2.2.1, v.2.2.2.2.1, v.2.2.2.2.2.1, v.2.2.2.2.2.2.1, v.2.2.2.2.2.2.2.1, w.1, w.2.1, w.2.2.1)⟩
def L_n33_j3 (rec_ : Tr_n33_0) : Lp U qT76 := ⟨[2, 3, 5, 6, 7, 8, 12, 14, 15, 101], [], [.o (.ptr (0, 1, 1) 0 0), .o (.ptr (0, 2, 1) 0 0), .o (.full (0, 3, 1)), qi, qi, .o (.v .bool), .o (.v (.sl (.st 2))), qi, qi, .o (.v .bool)], qo53, fun v w => sr38_rows_j3 rec_ v.2.2.2.1 v.2.2.2.2.1 v.2.2.2.2.2.1 v.2.2.2.2.2.2.1 v.2.2.2.2.2.2.2.1 v.2.2.2.2.2.2.2.2.1 v.2.2.2.2.2.2.2.2.2.1 w.1 w.2.1 w.2.2.1⟩
theorem L_n33_j3_ok {RT : Ret} {r : qT76} {rec_ : Tr_n33_0} (hb : LpOk F_n33 RT r (Lh_n33_l3 rec_) base_n33_l3) (hx : AllExits F_n33 RT r base_n33_l3 [(5, Lx_n33_l3)]) (hr : qH (fun _ => none) r RT) : LpOk F_n33 RT r (L_n33_j3 rec_) (stAt F_n33 [1, 0, 5, 4, 1, 2, 1, 3, 1, 3, 1, 3, 1, 4, 1, 0, 1, 1, 4, 0, 1, 1, 5, 4, 1, 0, 1, 1]) := fun v w hi h => Pt.evlAt F_n33_ok (r := r) 4000 (cuts := []) (back := (some (Lh_n33_l3 rec_))) (exits := [(5, Lx_n33_l3)]) (ret := (fun _ => none)) (base := base_n33_l3) (pre := [tc F_n33 [1, 0, 5, 4, 1, 2, 1, 3, 1, 3, 1, 3, 1, 4, 1, 0, 1, 1, 4, 0, 1, 1, 5, 4, 1, 0, 1, 1], tc F_n33 [1, 5, 4, 1, 2, 1, 3, 1, 3, 1, 3, 1, 4, 1, 0, 1, 1, 4, 0, 1, 1, 5, 4, 1, 0, 1, 1]]) (T := Lp.st F_n33 (L_n33_j3 rec_) v w) (by kernel_rfl) hi (Eq.trans (by kernel_rfl) h) ⟨by kernel_rfl, by kernel_rfl, trivial⟩ trivial (fun L hL => by cases hL; exact hb) (fun hn => nomatch hn) hx hr
theorem sr38_rows_l3_ok {RT : Ret} {r : qT76} (hx : AllExits F_n33 RT r base_n33_l3 [(5, Lx_n33_l3)]) (hr : qH (fun _ => none) r RT) : ∀ n, LpOk F_n33 RT r (Lh_n33_l3 (sr38_rows_l3 n)) (stAt F_n33 [4, 1, 2, 1, 3, 1, 3, 1, 3, 1, 4, 1, 0, 1, 1, 4, 0, 1, 1, 5, 4, 1, 0, 1, 1]) :=
  loop_ok F_n33_ok 4000 (q := [4, 1, 2, 1, 3, 1, 3, 1, 3, 1, 4, 1, 0, 1, 1, 4, 0, 1, 1, 5, 4, 1, 0, 1, 1]) (body := codeAt F_n33 [5, 4, 1, 2, 1, 3, 1, 3, 1, 3, 1, 4, 1, 0, 1, 1, 4, 0, 1, 1, 5, 4, 1, 0, 1, 1]) (live := [2, 3, 5, 6, 7, 8, 12, 14, 15]) (frz := []) (shs := qs12) (sho := qo53) (fun n v w => sr38_rows_l3 n v.2.2.2.1 v.2.2.2.2.1 v.2.2.2.2.2.1 v.2.2.2.2.2.2.1 v.2.2.2.2.2.2.2.1 v.2.2.2.2.2.2.2.2.1 w.1 w.2.1 w.2.2.1) (cuts := fun n => [([1, 0, 5, 4, 1, 2, 1, 3, 1, 3, 1, 3, 1, 4, 1, 0, 1, 1, 4, 0, 1, 1, 5, 4, 1, 0, 1, 1], L_n33_j3 (sr38_rows_l3 n))]) (exits := [(5, Lx_n33_l3)]) (ret := (fun _ => none)) (by kernel_rfl) (fun _ _ => rfl) (fun n v w => by kernel_rfl) (fun n hb => ⟨L_n33_j3_ok hb hx hr, trivial⟩) hx hr
def Lc_n33_l3 (rec_ : Tr_n33_2) : Lp U qL3 := ⟨[2, 3, 5, 6, 7, 8, 12, 14, 15], [], qs12, qo53, fun v w => (sr38_rows_l3 big v.2.2.2.1 v.2.2.2.2.1 v.2.2.2.2.2.1 v.2.2.2.2.2.2.1 v.2.2.2.2.2.2.2.1 v.2.2.2.2.2.2.2.2.1 w.1 w.2.1 w.2.2.1).bind fun (x0, x1, x2, x3, x4, x5, x6, x7) => sr38_rows_k4 rec_ x0 x1 x2 x3 x4 x5 x6 x7⟩
theorem Lc_n33_l3_ok {RT : Ret} {r : qL3} {rec_ : Tr_n33_2} (hb : LpOk F_n33 RT r (Lh_n33_l1 rec_) base_n33_l1) (hx : AllExits F_n33 RT r base_n33_l1 [(0, Lx_n33_l1)]) (hr : qH (fun _ => none) r RT) : LpOk F_n33 RT r (Lc_n33_l3 rec_) (stAt F_n33 [4, 1, 2, 1, 3, 1, 3, 1, 3, 1, 4, 1, 0, 1, 1, 4, 0, 1, 1, 5, 4, 1, 0, 1, 1]) := fun v w hi h0 => by
  obtain ⟨x, hx0, h⟩ := bind_some h0
  exact sr38_rows_l3_ok (r := x) (RT := RT) ⟨⟨[.blk 2, tc F_n33 [1, 1, 1, 4, 0, 1, 1, 5, 4, 1, 0, 1, 1], .blk 1, tc F_n33 [1, 1, 1, 5, 4, 1, 0, 1, 1]].map TI'.conc ++ base_n33_l1, by kernel_rfl, fun v' w' hi' h' => by obtain rfl := Option.some.inj h'; exact L_n33_k4_ok hb hx hr v' w' hi' h⟩, trivial⟩ (fun _ ht => nomatch ht) big v w hi hx0
theorem sr38_rows_l1_ok {RT : Ret} {r : qL3} (hx : AllExits F_n33 RT r base_n33_l1 [(0, Lx_n33_l1)]) (hr : qH (fun _ => none) r RT) : ∀ n, LpOk F_n33 RT r (Lh_n33_l1 (sr38_rows_l1 n)) (stAt F_n33 [4, 1, 0, 1, 1]) :=
  loop_ok F_n33_ok 4000 (q := [4, 1, 0, 1, 1]) (body := codeAt F_n33 [5, 4, 1, 0, 1, 1]) (live := [2, 3, 5, 14, 15]) (frz := []) (shs := qs34) (sho := qo53) (fun n v w => sr38_rows_l1 n v.2.2.2.1 v.2.2.2.2.1 w.1 w.2.1 w.2.2.1) (cuts := fun n => [([1, 1, 1, 4, 0, 1, 1, 5, 4, 1, 0, 1, 1], L_n33_j5 (sr38_rows_l1 n)), ([4, 1, 2, 1, 3, 1, 3, 1, 4, 1, 0, 1, 1, 4, 0, 1, 1, 5, 4, 1, 0, 1, 1], Lc_n33_l2 (sr38_rows_l1 n)), ([4, 1, 2, 1, 3, 1, 3, 1, 3, 1, 4, 1, 0, 1, 1, 4, 0, 1, 1, 5, 4, 1, 0, 1, 1], Lc_n33_l3 (sr38_rows_l1 n))]) (exits := [(0, Lx_n33_l1)]) (ret := (fun _ => none)) (by kernel_rfl) (fun _ _ => rfl) (fun n v w => by kernel_rfl) (fun n hb => ⟨L_n33_j5_ok hb hx hr, Lc_n33_l2_ok hb hx hr, Lc_n33_l3_ok hb hx hr, trivial⟩) hx hr
def Lc_n33_l1 : Lp U qL3 := ⟨[2, 3, 5, 14, 15], [], qs34, qo53, fun v w => (sr38_rows_l1 big v.2.2.2.1 v.2.2.2.2.1 w.1 w.2.1 w.2.2.1).bind fun x0 => sr38_rows_k8 x0⟩
theorem Lc_n33_l1_ok (r : qL3) : LpOk F_n33 (b_n33 r).enc r (Lc_n33_l1) (stAt F_n33 [4, 1, 0, 1, 1]) := fun v w hi h0 => by
  obtain ⟨x, hx0, h⟩ := bind_some h0
  exact sr38_rows_l1_ok (r := x) (RT := (b_n33 r).enc) ⟨⟨[tc F_n33 [1, 1, 1]].map TI'.conc ++ [], by kernel_rfl, fun v' w' hi' h' => by obtain rfl := Option.some.inj h'; exact L_n33_k8_ok r v' w' hi' h⟩, trivial⟩ (fun _ ht => nomatch ht) big v w hi hx0
def S_sr38_rows : FSig U := ⟨qL3, [24, 174], [.p, .p], [some 4, some 6], [.p (.st 4), .p (.st 6)], fun v => sr38_rows v.1 v.2.1, b_n33⟩
theorem S_sr38_rows_ok : SigOk X0.E 195 S_sr38_rows.sig := FSig.ok0 F_n33_ok (R := R_n33) (g := g_n33) (cuts := [([4, 1, 0, 1, 1], Lc_n33_l1)]) (pre := [tc0 F_n33]) rfl Tryd.func195 (by decide) rfl (fun _ => Nat.le_of_ble_eq_true (by kernel_rfl)) (fun _ => rfl) (by kernel_rfl) (fun _ _ h => Eq.trans (by kernel_rfl) h) ⟨rfl, trivial⟩ (fun r => ⟨(Lc_n33_l1_ok r), trivial⟩) fun _ => rfl

abbrev Tr_n34_1 : Type := qL3 → qL0 → Int → Int → Int → Str → Int → Str → qL0 → qL0 → Option qT77
abbrev Tr_n34_2 : Type := qL3 → qL3 → Int → Int → GaTable → Int → Str → qL0 → Option qT69
/-! ### tablefinder/tablefinderref03.Select -/
def c_n34 : Code := bodyOf Tryd.f194
def F_n34 : FC U := ⟨X0.at 78, Tryd.f194, c_n34, [(78, S_sr03_Valid.sig), (53, S_sr03_Rows.sig)], [], [.p, .p], [some 4, none]⟩
theorem F_n34_ok : FOk F_n34 := fok uok tok0 eok0 mixed rfl ⟨S_sr03_Valid_ok, S_sr03_Rows_ok, trivial⟩
def R_n34 : RSh := ⟨[.p (.st 4), .p (.int .i64)], []⟩
def g_n34 (v : RVal U R_n34) : qT92 := (v.1.1, v.1.2.1)
def b_n34 (q : qT92) : TRet U := R_n34.bld ((q.1, (q.2, ())), ())
def L_n34_k4 : Lp U qT92 := ⟨[4, 8], [], qs54, qo19, fun v w => sr03_Select_k4 w.1.1 w.1.2.1 w.2.1.1 w.2.1.2.1 w.2.2.1 w.2.2.2.1⟩
theorem L_n34_k4_ok (r : qT92) : LpOk F_n34 (b_n34 r).enc r (L_n34_k4) ([tc F_n34 [1, 1, 1, 1, 1, 1]].map TI'.conc ++ []) := fun v w hi h => Pt.ev0 F_n34_ok (S := R_n34) (g := g_n34) (b := b_n34) (cuts := []) (pre := [tc F_n34 [1, 1, 1, 1, 1, 1]]) (T := Lp.st F_n34 (L_n34_k4) v w) (by kernel_rfl) hi (Eq.trans (by kernel_rfl) h) ⟨by kernel_rfl, trivial⟩ trivial fun _ => rfl
def base_n34_l2 : List Eng.Item := .lp (codeAt F_n34 [5, 4, 1, 0, 1, 1, 1, 1, 1]) :: ([.blk 2, tc F_n34 [1, 1, 1, 1, 1, 1]].map TI'.conc ++ [])
def Lh_n34_l2 (rec_ : Tr_n34_1) : Lp U qT77 := ⟨[1, 4, 8, 44, 45, 46], [], qs24, qo19, fun v w => rec_ v.1 v.2.2.2.1 v.2.2.2.2.1 v.2.2.2.2.2.1 w.1.1 w.1.2.1 w.2.1.1 w.2.1.2.1 w.2.2.1 w.2.2.2.1⟩
def Lx_n34_l2 : Lp U qT77 := ⟨[4, 8], [], qs54, qo19, fun v w => some (w.1.1, w.1.2.1, w.2.1.1, w.2.1.2.1, w.2.2.1, w.2.2.2.1)⟩
def L_n34_k3 (rec_ : Tr_n34_1) : Lp U qT77 := ⟨[1, 4, 8, 11, 44, 45, 46], [], qs20, qo10, fun v w => sr03_Select_k3 rec_ v.1 v.2.2.2.2.1 v.2.2.2.2.2.1 v.2.2.2.2.2.2.1 w.1.1 w.1.2.1 w.2.1.1 w.2.1.2.1 w.2.2.1.1 w.2.2.2.1 w.2.2.2.2.1 w.2.2.2.2.2.1⟩
theorem L_n34_k3_ok {RT : Ret} {r : qT77} {rec_ : Tr_n34_1} (hb : LpOk F_n34 RT r (Lh_n34_l2 rec_) base_n34_l2) (hx : AllExits F_n34 RT r base_n34_l2 [(2, Lx_n34_l2)]) (hr : qH (fun _ => none) r RT) : LpOk F_n34 RT r (L_n34_k3 rec_) ([tc F_n34 [1, 1, 1, 4, 0, 1, 1, 5, 4, 1, 0, 1, 1, 1, 1, 1], .blk 3, tc F_n34 [1, 1, 1, 5, 4, 1, 0, 1, 1, 1, 1, 1]].map TI'.conc ++ base_n34_l2) := fun v w hi h => Pt.evlAt F_n34_ok (r := r) 4000 (cuts := []) (back := (some (Lh_n34_l2 rec_))) (exits := [(2, Lx_n34_l2)]) (ret := (fun _ => none)) (base := base_n34_l2) (pre := [tc F_n34 [1, 1, 1, 4, 0, 1, 1, 5, 4, 1, 0, 1, 1, 1, 1, 1], .blk 3, tc F_n34 [1, 1, 1, 5, 4, 1, 0, 1, 1, 1, 1, 1]]) (T := Lp.st F_n34 (L_n34_k3 rec_) v w) (by kernel_rfl) hi (Eq.trans (by kernel_rfl) h) ⟨by kernel_rfl, by kernel_rfl, trivial⟩ trivial (fun L hL => by cases hL; exact hb) (fun hn => nomatch hn) hx hr
def base_n34_l3 : List Eng.Item := .lp (codeAt F_n34 [5, 4, 1, 0, 1, 1, 4, 0, 1, 1, 5, 4, 1, 0, 1, 1, 1, 1, 1]) :: ([.blk 4, tc F_n34 [1, 1, 1, 4, 0, 1, 1, 5, 4, 1, 0, 1, 1, 1, 1, 1], .blk 3, tc F_n34 [1, 1, 1, 5, 4, 1, 0, 1, 1, 1, 1, 1]].map TI'.conc ++ base_n34_l2)
def Lh_n34_l3 (rec_ : qL3 → qL0 → Int → Int → qL3 → Int → Int → Int → Str → Int → Str → GaColumn → Str → qL0 → qL0 → qL4 → Option qT66) : Lp U qT66 := ⟨[1, 4, 8, 10, 11, 44, 45, 46, 53, 54, 55], [], qs5, qo6, fun v w => rec_ v.1 v.2.2.2.2.2.1 v.2.2.2.2.2.2.1 v.2.2.2.2.2.2.2.1 v.2.2.2.2.2.2.2.2.1 v.2.2.2.2.2.2.2.2.2.1 v.2.2.2.2.2.2.2.2.2.2.1 w.1.1 w.1.2.1 w.2.1.1 w.2.1.2.1 w.2.2.1 w.2.2.2.1.1 w.2.2.2.2.1 w.2.2.2.2.2.1 w.2.2.2.2.2.2.1⟩
def Lx_n34_l3 : Lp U qT66 := ⟨[1, 4, 8, 11, 44, 45, 46], [], qs20, qo10, fun v w => some (v.1, v.2.2.2.2.1, v.2.2.2.2.2.1, v.2.2.2.2.2.2.1, w.1.1, w.1.2.1, w.2.1.1, w.2.1.2.1, w.2.2.1.1, w.2.2.2.1, w.2.2.2.2.1, w.2.2.2.2.2.1)⟩
theorem sr03_Select_l3_ok {RT : Ret} {r : qT66} (hx : AllExits F_n34 RT r base_n34_l3 [(4, Lx_n34_l3)]) (hr : qH (fun _ => none) r RT) : ∀ n, LpOk F_n34 RT r (Lh_n34_l3 (sr03_Select_l3 n)) (stAt F_n34 [4, 1, 0, 1, 1, 4, 0, 1, 1, 5, 4, 1, 0, 1, 1, 1, 1, 1]) :=
  loop_ok F_n34_ok 4000 (q := [4, 1, 0, 1, 1, 4, 0, 1, 1, 5, 4, 1, 0, 1, 1, 1, 1, 1]) (body := codeAt F_n34 [5, 4, 1, 0, 1, 1, 4, 0, 1, 1, 5, 4, 1, 0, 1, 1, 1, 1, 1]) (live := [1, 4, 8, 10, 11, 44, 45, 46, 53, 54, 55]) (frz := []) (shs := qs5) (sho := qo6) (fun n v w => sr03_Select_l3 n v.1 v.2.2.2.2.2.1 v.2.2.2.2.2.2.1 v.2.2.2.2.2.2.2.1 v.2.2.2.2.2.2.2.2.1 v.2.2.2.2.2.2.2.2.2.1 v.2.2.2.2.2.2.2.2.2.2.1 w.1.1 w.1.2.1 w.2.1.1 w.2.1.2.1 w.2.2.1 w.2.2.2.1.1 w.2.2.2.2.1 w.2.2.2.2.2.1 w.2.2.2.2.2.2.1) (cuts := fun n => []) (exits := [(4, Lx_n34_l3)]) (ret := (fun _ => none)) (by kernel_rfl) (fun _ _ => rfl) (fun n v w => by kernel_rfl) (fun n hb => trivial) hx hr
def Lc_n34_l3 (rec_ : Tr_n34_1) : Lp U qT77 := ⟨[1, 4, 8, 10, 11, 44, 45, 46, 53, 54, 55], [], qs5, qo6, fun v w => (sr03_Select_l3 big v.1 v.2.2.2.2.2.1 v.2.2.2.2.2.2.1 v.2.2.2.2.2.2.2.1 v.2.2.2.2.2.2.2.2.1 v.2.2.2.2.2.2.2.2.2.1 v.2.2.2.2.2.2.2.2.2.2.1 w.1.1 w.1.2.1 w.2.1.1 w.2.1.2.1 w.2.2.1 w.2.2.2.1.1 w.2.2.2.2.1 w.2.2.2.2.2.1 w.2.2.2.2.2.2.1).bind fun (x0, x1, x2, x3, x4, x5, x6, x7, x8, x9, x10, x11) => sr03_Select_k3 rec_ x0 x1 x2 x3 x4 x5 x6 x7 x8 x9 x10 x11⟩
theorem Lc_n34_l3_ok {RT : Ret} {r : qT77} {rec_ : Tr_n34_1} (hb : LpOk F_n34 RT r (Lh_n34_l2 rec_) base_n34_l2) (hx : AllExits F_n34 RT r base_n34_l2 [(2, Lx_n34_l2)]) (hr : qH (fun _ => none) r RT) : LpOk F_n34 RT r (Lc_n34_l3 rec_) (stAt F_n34 [4, 1, 0, 1, 1, 4, 0, 1, 1, 5, 4, 1, 0, 1, 1, 1, 1, 1]) := fun v w hi h0 => by
  obtain ⟨x, hx0, h⟩ := bind_some h0
  exact sr03_Select_l3_ok (r := x) (RT := RT) ⟨⟨[tc F_n34 [1, 1, 1, 4, 0, 1, 1, 5, 4, 1, 0, 1, 1, 1, 1, 1], .blk 3, tc F_n34 [1, 1, 1, 5, 4, 1, 0, 1, 1, 1, 1, 1]].map TI'.conc ++ base_n34_l2, by kernel_rfl, fun v' w' hi' h' => by obtain rfl := Option.some.inj h'; exact L_n34_k3_ok hb hx hr v' w' hi' h⟩, trivial⟩ (fun _ ht => nomatch ht) big v w hi hx0
theorem sr03_Select_l2_ok {RT : Ret} {r : qT77} (hx : AllExits F_n34 RT r base_n34_l2 [(2, Lx_n34_l2)]) (hr : qH (fun _ => none) r RT) : ∀ n, LpOk F_n34 RT r (Lh_n34_l2 (sr03_Select_l2 n)) (stAt F_n34 [4, 1, 0, 1, 1, 1, 1, 1]) :=
  loop_ok F_n34_ok 4000 (q := [4, 1, 0, 1, 1, 1, 1, 1]) (body := codeAt F_n34 [5, 4, 1, 0, 1, 1, 1, 1, 1]) (live := [1, 4, 8, 44, 45, 46]) (frz := []) (shs := qs24) (sho := qo19) (fun n v w => sr03_Select_l2 n v.1 v.2.2.2.1 v.2.2.2.2.1 v.2.2.2.2.2.1 w.1.1 w.1.2.1 w.2.1.1 w.2.1.2.1 w.2.2.1 w.2.2.2.1) (cuts := fun n => [([4, 1, 0, 1, 1, 4, 0, 1, 1, 5, 4, 1, 0, 1, 1, 1, 1, 1], Lc_n34_l3 (sr03_Select_l2 n))]) (exits := [(2, Lx_n34_l2)]) (ret := (fun _ => none)) (by kernel_rfl) (fun _ _ => rfl) (fun n v w => by kernel_rfl) (fun n hb => ⟨Lc_n34_l3_ok hb hx hr, trivial⟩) hx hr
def Lc_n34_l2 : Lp U qT92 := ⟨[1, 4, 8, 44, 45, 46], [], qs24, qo19, fun v w => (sr03_Select_l2 big v.1 v.2.2.2.1 v.2.2.2.2.1 v.2.2.2.2.2.1 w.1.1 w.1.2.1 w.2.1.1 w.2.1.2.1 w.2.2.1 w.2.2.2.1).bind fun (x0, x1, x2, x3, x4, x5) => sr03_Select_k4 x0 x1 x2 x3 x4 x5⟩
theorem Lc_n34_l2_ok (r : qT92) : LpOk F_n34 (b_n34 r).enc r (Lc_n34_l2) (stAt F_n34 [4, 1, 0, 1, 1, 1, 1, 1]) := fun v w hi h0 => by
  obtain ⟨x, hx0, h⟩ := bind_some h0
  exact sr03_Select_l2_ok (r := x) (RT := (b_n34 r).enc) ⟨⟨[tc F_n34 [1, 1, 1, 1, 1, 1]].map TI'.conc ++ [], by kernel_rfl, fun v' w' hi' h' => by obtain rfl := Option.some.inj h'; exact L_n34_k4_ok r v' w' hi' h⟩, trivial⟩ (fun _ ht => nomatch ht) big v w hi hx0
def L_n34_k2 : Lp U qT92 := ⟨[1, 2, 4], [], qs47, qo38, fun v w => sr03_Select_k2 v.1 w.1 w.2.1.1 w.2.1.2.1 w.2.2.1⟩
theorem L_n34_k2_ok (r : qT92) : LpOk F_n34 (b_n34 r).enc r (L_n34_k2) ([tc F_n34 [1, 1, 1]].map TI'.conc ++ []) := fun v w hi h => Pt.ev0 F_n34_ok (S := R_n34) (g := g_n34) (b := b_n34) (cuts := [([4, 1, 0, 1, 1, 1, 1, 1], Lc_n34_l2)]) (pre := [tc F_n34 [1, 1, 1]]) (T := Lp.st F_n34 (L_n34_k2) v w) (by kernel_rfl) hi (Eq.trans (by kernel_rfl) h) ⟨by kernel_rfl, trivial⟩ ⟨(Lc_n34_l2_ok r), trivial⟩ fun _ => rfl
def base_n34_l1 : List Eng.Item := .lp (codeAt F_n34 [5, 4, 1, 0, 1, 1]) :: ([.blk 0, tc F_n34 [1, 1, 1]].map TI'.conc ++ [])
def Lh_n34_l1 (rec_ : Tr_n34_2) : Lp U qT69 := ⟨[1, 2, 4, 18, 19, 20], [], qs23, qo38, fun v w => rec_ v.1 v.2.2.2.1 v.2.2.2.2.1 v.2.2.2.2.2.1 w.1 w.2.1.1 w.2.1.2.1 w.2.2.1⟩
def Lx_n34_l1 : Lp U qT69 := ⟨[1, 2, 4], [], qs47, qo38, fun v w => some (.brk (v.1, w.1, w.2.1.1, w.2.1.2.1, w.2.2.1))⟩
def L_n34_j1 (rec_ : Tr_n34_2) : Lp U qT69 := ⟨[1, 2, 4, 18, 19, 20, 31], [], [.o (.v (.sl (.int .i64))), .o (.ptr (0, 1, 1) 0 0), .o (.ptr (0, 2, 1) 0 0), .o (.v (.sl (.int .i64))), qi, qi, .o (.v .bool)], qo38, fun v w => sr03_Select_j1 rec_ v.1 v.2.2.2.1 v.2.2.2.2.1 v.2.2.2.2.2.1 v.2.2.2.2.2.2.1 w.1 w.2.1.1 w.2.1.2.1 w.2.2.1⟩
theorem L_n34_j1_ok {RT : Ret} {r : qT69} {rec_ : Tr_n34_2} (hb : LpOk F_n34 RT r (Lh_n34_l1 rec_) base_n34_l1) (hx : AllExits F_n34 RT r base_n34_l1 [(0, Lx_n34_l1)]) (hr : qH (retOf R_n34 fun v => Out.ret (β := qT80) (g_n34 v)) r RT) : LpOk F_n34 RT r (L_n34_j1 rec_) (stAt F_n34 [1, 1, 4, 0, 1, 1, 5, 4, 1, 0, 1, 1]) := fun v w hi h => Pt.evlAt F_n34_ok (r := r) 4000 (cuts := []) (back := (some (Lh_n34_l1 rec_))) (exits := [(0, Lx_n34_l1)]) (ret := (retOf R_n34 fun v => Out.ret (β := qT80) (g_n34 v))) (base := base_n34_l1) (pre := [tc F_n34 [1, 1, 4, 0, 1, 1, 5, 4, 1, 0, 1, 1], .blk 1, tc F_n34 [1, 1, 1, 5, 4, 1, 0, 1, 1]]) (T := Lp.st F_n34 (L_n34_j1 rec_) v w) (by kernel_rfl) hi (Eq.trans (by kernel_rfl) h) ⟨by kernel_rfl, by kernel_rfl, trivial⟩ trivial (fun L hL => by cases hL; exact hb) (fun hn => nomatch hn) hx hr
theorem sr03_Select_l1_ok {RT : Ret} {r : qT69} (hx : AllExits F_n34 RT r base_n34_l1 [(0, Lx_n34_l1)]) (hr : qH (retOf R_n34 fun v => Out.ret (β := qT80) (g_n34 v)) r RT) : ∀ n, LpOk F_n34 RT r (Lh_n34_l1 (sr03_Select_l1 n)) (stAt F_n34 [4, 1, 0, 1, 1]) :=
  loop_ok F_n34_ok 4000 (q := [4, 1, 0, 1, 1]) (body := codeAt F_n34 [5, 4, 1, 0, 1, 1]) (live := [1, 2, 4, 18, 19, 20]) (frz := []) (shs := qs23) (sho := qo38) (fun n v w => sr03_Select_l1 n v.1 v.2.2.2.1 v.2.2.2.2.1 v.2.2.2.2.2.1 w.1 w.2.1.1 w.2.1.2.1 w.2.2.1) (cuts := fun n => [([1, 1, 4, 0, 1, 1, 5, 4, 1, 0, 1, 1], L_n34_j1 (sr03_Select_l1 n))]) (exits := [(0, Lx_n34_l1)]) (ret := (retOf R_n34 fun v => Out.ret (β := qT80) (g_n34 v))) (by kernel_rfl) (fun _ _ => rfl) (fun n v w => by kernel_rfl) (fun n hb => ⟨L_n34_j1_ok hb hx hr, trivial⟩) hx hr
def Lc_n34_l1 : Lp U qT92 := ⟨[1, 2, 4, 18, 19, 20], [], qs23, qo38, fun v w => (sr03_Select_l1 big v.1 v.2.2.2.1 v.2.2.2.2.1 v.2.2.2.2.2.1 w.1 w.2.1.1 w.2.1.2.1 w.2.2.1).bind fun | .ret q_ => some q_ | .brk (x0, x1, x2, x3, x4) => sr03_Select_k2 x0 x1 x2 x3 x4⟩
theorem Lc_n34_l1_ok (r : qT92) : LpOk F_n34 (b_n34 r).enc r (Lc_n34_l1) (stAt F_n34 [4, 1, 0, 1, 1]) := fun v w hi h0 => by
  obtain ⟨x, hx0, h⟩ := bind_some h0
  exact sr03_Select_l1_ok (r := x) (RT := (b_n34 r).enc) ⟨⟨[tc F_n34 [1, 1, 1]].map TI'.conc ++ [], by kernel_rfl, fun v' w' hi' h' => by obtain rfl := Option.some.inj h'; exact L_n34_k2_ok r v' w' hi' h⟩, trivial⟩ (fun t ht => by obtain ⟨q, rfl, hq⟩ := retOut ht; obtain rfl := Option.some.inj h; exact retOf_enc uok (give := b_n34) (fun _ => rfl) hq) big v w hi hx0
def S_sr03_Select : FSig U := ⟨qT92, [24, 25], [.p, .p], [some 4, none], [.p (.st 4), .p (.sl (.int .i64))], fun v => sr03_Select v.1 v.2.1, b_n34⟩
theorem S_sr03_Select_ok : SigOk X0.E 194 S_sr03_Select.sig := FSig.ok0 F_n34_ok (R := R_n34) (g := g_n34) (cuts := [([4, 1, 0, 1, 1], Lc_n34_l1)]) (pre := [tc0 F_n34]) rfl Tryd.func194 (by decide) rfl (fun _ => Nat.le_of_ble_eq_true (by kernel_rfl)) (fun _ => rfl) (by kernel_rfl) (fun _ _ h => Eq.trans (by kernel_rfl) h) ⟨rfl, trivial⟩ (fun r => ⟨(Lc_n34_l1_ok r), trivial⟩) fun _ => rfl

/-! ### tablefinder/tablefinderref38.do -/
def c_n35 : Code := bodyOf Tryd.f178
def F_n35 : FC U := ⟨X0.at 29, Tryd.f178, c_n35, [(193, S_sr03_Project.sig), (195, S_sr38_rows.sig), (194, S_sr03_Select.sig)], [], [.p], [some 4]⟩
theorem F_n35_ok : FOk F_n35 := fok uok tok0 eok0 mixed rfl ⟨S_sr03_Project_ok, S_sr38_rows_ok, S_sr03_Select_ok, trivial⟩
def R_n35 : RSh := ⟨[.p (.st 4)], []⟩
def g_n35 (v : RVal U R_n35) : GaTable := v.1.1
def b_n35 (q : GaTable) : TRet U := R_n35.bld ((q, ()), ())
def S_sr38_do : FSig U := ⟨GaTable, [24, 174], [.p, .p], [some 4, some 6], [.p (.st 4), .p (.st 6)], fun v => sr38_do v.1 v.2.1, b_n35⟩
theorem S_sr38_do_ok : SigOk X0.E 178 S_sr38_do.sig := FSig.ok0 F_n35_ok (R := R_n35) (g := g_n35) (cuts := []) (pre := [tc0 F_n35]) rfl Tryd.func178 (by decide) rfl (fun _ => Nat.le_of_ble_eq_true (by kernel_rfl)) (fun _ => rfl) (by kernel_rfl) (fun _ _ h => Eq.trans (by kernel_rfl) h) ⟨rfl, trivial⟩ (fun r => trivial) fun _ => rfl

/-! ### tablefinder/tablefinderref38.Copy -/
def c_n36 : Code := bodyOf Tryd.f144
def F_n36 : FC U := ⟨X0.at 31, Tryd.f144, c_n36, [], [], [.p], [some 4]⟩
theorem F_n36_ok : FOk F_n36 := fok uok tok0 eok0 mixed rfl trivial
def R_n36 : RSh := ⟨[.p (.st 4)], []⟩
def g_n36 (v : RVal U R_n36) : GaTable := v.1.1
def b_n36 (q : GaTable) : TRet U := R_n36.bld ((q, ()), ())
def L_n36_k1 : Lp U GaTable := ⟨[2, 3], [], qs54, qo19, fun v w => sr38_Copy_k1 w.1.1 w.1.2.1 w.2.1.1 w.2.1.2.1 w.2.2.1 w.2.2.2.1⟩
theorem L_n36_k1_ok (r : GaTable) : LpOk F_n36 (b_n36 r).enc r (L_n36_k1) ([tc F_n36 [1, 1, 1]].map TI'.conc ++ []) := fun v w hi h => Pt.ev0 F_n36_ok (S := R_n36) (g := g_n36) (b := b_n36) (cuts := []) (pre := [tc F_n36 [1, 1, 1]]) (T := Lp.st F_n36 (L_n36_k1) v w) (by kernel_rfl) hi (Eq.trans (by kernel_rfl) h) ⟨by kernel_rfl, trivial⟩ trivial fun _ => rfl
def base_n36_l1 : List Eng.Item := .lp (codeAt F_n36 [5, 4, 1, 0, 1, 1]) :: ([.blk 0, tc F_n36 [1, 1, 1]].map TI'.conc ++ [])
def Lh_n36_l1 (rec_ : qL0 → Int → Int → Int → Str → Int → Str → qL0 → qL0 → Option qT77) : Lp U qT77 := ⟨[2, 3, 12, 13, 14], [], qs32, qo19, fun v w => rec_ v.2.2.1 v.2.2.2.1 v.2.2.2.2.1 w.1.1 w.1.2.1 w.2.1.1 w.2.1.2.1 w.2.2.1 w.2.2.2.1⟩
def Lx_n36_l1 : Lp U qT77 := ⟨[2, 3], [], qs54, qo19, fun v w => some (w.1.1, w.1.2.1, w.2.1.1, w.2.1.2.1, w.2.2.1, w.2.2.2.1)⟩
theorem sr38_Copy_l1_ok {RT : Ret} {r : qT77} (hx : AllExits F_n36 RT r base_n36_l1 [(0, Lx_n36_l1)]) (hr : qH (fun _ => none) r RT) : ∀ n, LpOk F_n36 RT r (Lh_n36_l1 (sr38_Copy_l1 n)) (stAt F_n36 [4, 1, 0, 1, 1]) :=
  loop_ok F_n36_ok 4000 (q := [4, 1, 0, 1, 1]) (body := codeAt F_n36 [5, 4, 1, 0, 1, 1]) (live := [2, 3, 12, 13, 14]) (frz := []) (shs := qs32) (sho := qo19) (fun n v w => sr38_Copy_l1 n v.2.2.1 v.2.2.2.1 v.2.2.2.2.1 w.1.1 w.1.2.1 w.2.1.1 w.2.1.2.1 w.2.2.1 w.2.2.2.1) (cuts := fun n => []) (exits := [(0, Lx_n36_l1)]) (ret := (fun _ => none)) (by kernel_rfl) (fun _ _ => rfl) (fun n v w => by kernel_rfl) (fun n hb => trivial) hx hr
def Lc_n36_l1 : Lp U GaTable := ⟨[2, 3, 12, 13, 14], [], qs32, qo19, fun v w => (sr38_Copy_l1 big v.2.2.1 v.2.2.2.1 v.2.2.2.2.1 w.1.1 w.1.2.1 w.2.1.1 w.2.1.2.1 w.2.2.1 w.2.2.2.1).bind fun (x0, x1, x2, x3, x4, x5) => sr38_Copy_k1 x0 x1 x2 x3 x4 x5⟩
theorem Lc_n36_l1_ok (r : GaTable) : LpOk F_n36 (b_n36 r).enc r (Lc_n36_l1) (stAt F_n36 [4, 1, 0, 1, 1]) := fun v w hi h0 => by
  obtain ⟨x, hx0, h⟩ := bind_some h0
  exact sr38_Copy_l1_ok (r := x) (RT := (b_n36 r).enc) ⟨⟨[tc F_n36 [1, 1, 1]].map TI'.conc ++ [], by kernel_rfl, fun v' w' hi' h' => by obtain rfl := Option.some.inj h'; exact L_n36_k1_ok r v' w' hi' h⟩, trivial⟩ (fun _ ht => nomatch ht) big v w hi hx0
def S_sr38_Copy : FSig U := ⟨GaTable, [24], [.p], [some 4], [.p (.st 4)], fun v => sr38_Copy v.1, b_n36⟩
theorem S_sr38_Copy_ok : SigOk X0.E 144 S_sr38_Copy.sig := FSig.ok0 F_n36_ok (R := R_n36) (g := g_n36) (cuts := [([4, 1, 0, 1, 1], Lc_n36_l1)]) (pre := [tc0 F_n36]) rfl Tryd.func144 (by decide) rfl (fun _ => Nat.le_of_ble_eq_true (by kernel_rfl)) (fun _ => rfl) (by kernel_rfl) (fun _ _ h => Eq.trans (by kernel_rfl) h) ⟨rfl, trivial⟩ (fun r => ⟨(Lc_n36_l1_ok r), trivial⟩) fun _ => rfl

/-! ### tablefinder/tablefinderref38.Run -/
def c_n37 : Code := bodyOf Tryd.f142
def F_n37 : FC U := ⟨X0.at 35, Tryd.f142, c_n37, [(78, S_sr03_Valid.sig), (177, S_sr38_can.sig), (178, S_sr38_do.sig), (144, S_sr38_Copy.sig)], [], [.p, .p], [some 4, none]⟩
theorem F_n37_ok : FOk F_n37 := fok uok tok0 eok0 mixed rfl ⟨S_sr03_Valid_ok, S_sr38_can_ok, S_sr38_do_ok, S_sr38_Copy_ok, trivial⟩
def R_n37 : RSh := ⟨[.p (.st 4), .p (.int .i64)], []⟩
def g_n37 (v : RVal U R_n37) : qT92 := (v.1.1, v.1.2.1)
def b_n37 (q : qT92) : TRet U := R_n37.bld ((q.1, (q.2, ())), ())
def L_n37_k1 : Lp U qT92 := ⟨[2, 4], [], qs54, qo38, fun v w => sr38_Run_k1 w.1 w.2.1.1 w.2.1.2.1 w.2.2.1⟩
theorem L_n37_k1_ok (r : qT92) : LpOk F_n37 (b_n37 r).enc r (L_n37_k1) ([tc F_n37 [1, 1, 1]].map TI'.conc ++ []) := fun v w hi h => Pt.ev0 F_n37_ok (S := R_n37) (g := g_n37) (b := b_n37) (cuts := []) (pre := [tc F_n37 [1, 1, 1]]) (T := Lp.st F_n37 (L_n37_k1) v w) (by kernel_rfl) hi (Eq.trans (by kernel_rfl) h) ⟨by kernel_rfl, trivial⟩ trivial fun _ => rfl
def base_n37_l1 : List Eng.Item := .lp (codeAt F_n37 [5, 4, 1, 0, 1, 1]) :: ([.blk 1, tc F_n37 [1, 1, 1]].map TI'.conc ++ [])
def Lh_n37_l1 (rec_ : (List GaOp) → Int → Int → GaTable → Int → Str → qL0 → Option qT74) : Lp U qT74 := ⟨[2, 4, 18, 19, 20], [], qs33, qo38, fun v w => rec_ v.2.2.1 v.2.2.2.1 v.2.2.2.2.1 w.1 w.2.1.1 w.2.1.2.1 w.2.2.1⟩
def Lx_n37_l1 : Lp U qT74 := ⟨[2, 4], [], qs54, qo38, fun v w => some (.brk (w.1, w.2.1.1, w.2.1.2.1, w.2.2.1))⟩
theorem sr38_Run_l1_ok {RT : Ret} {r : qT74} (hx : AllExits F_n37 RT r base_n37_l1 [(1, Lx_n37_l1)]) (hr : ∀ t : TRet U, (retOf R_n37 fun v => Out.ret (β := (GaTable × Int × Str × qL0)) (g_n37 v)) t = some r → t.enc = RT) : ∀ n, LpOk F_n37 RT r (Lh_n37_l1 (sr38_Run_l1 n)) (stAt F_n37 [4, 1, 0, 1, 1]) :=
  loop_ok F_n37_ok 4000 (q := [4, 1, 0, 1, 1]) (body := codeAt F_n37 [5, 4, 1, 0, 1, 1]) (live := [2, 4, 18, 19, 20]) (frz := []) (shs := qs33) (sho := qo38) (fun n v w => sr38_Run_l1 n v.2.2.1 v.2.2.2.1 v.2.2.2.2.1 w.1 w.2.1.1 w.2.1.2.1 w.2.2.1) (cuts := fun n => []) (exits := [(1, Lx_n37_l1)]) (ret := (retOf R_n37 fun v => Out.ret (β := (GaTable × Int × Str × qL0)) (g_n37 v))) (by kernel_rfl) (fun _ _ => rfl) (fun n v w => by kernel_rfl) (fun n hb => trivial) hx hr
def Lc_n37_l1 : Lp U qT92 := ⟨[2, 4, 18, 19, 20], [], qs33, qo38, fun v w => (sr38_Run_l1 big v.2.2.1 v.2.2.2.1 v.2.2.2.2.1 w.1 w.2.1.1 w.2.1.2.1 w.2.2.1).bind fun | .ret q_ => some q_ | .brk (x0, x1, x2, x3) => sr38_Run_k1 x0 x1 x2 x3⟩
theorem Lc_n37_l1_ok (r : qT92) : LpOk F_n37 (b_n37 r).enc r (Lc_n37_l1) (stAt F_n37 [4, 1, 0, 1, 1]) := fun v w hi h0 => by
  obtain ⟨x, hx0, h⟩ := bind_some h0
  exact sr38_Run_l1_ok (r := x) (RT := (b_n37 r).enc) ⟨⟨[tc F_n37 [1, 1, 1]].map TI'.conc ++ [], by kernel_rfl, fun v' w' hi' h' => by obtain rfl := Option.some.inj h'; exact L_n37_k1_ok r v' w' hi' h⟩, trivial⟩ (fun t ht => by obtain ⟨q, rfl, hq⟩ := retOut ht; obtain rfl := Option.some.inj h; exact retOf_enc uok (give := b_n37) (fun _ => rfl) hq) big v w hi hx0
def S_sr38_Run : FSig U := ⟨qT92, [24, 176], [.p, .p], [some 4, none], [.p (.st 4), .p (.sl (.st 6))], fun v => sr38_Run v.1 v.2.1, b_n37⟩
theorem S_sr38_Run_ok : SigOk X0.E 142 S_sr38_Run.sig := FSig.ok0 F_n37_ok (R := R_n37) (g := g_n37) (cuts := [([4, 1, 0, 1, 1], Lc_n37_l1)]) (pre := [tc0 F_n37]) rfl Tryd.func142 (by decide) rfl (fun _ => Nat.le_of_ble_eq_true (by kernel_rfl)) (fun _ => rfl) (by kernel_rfl) (fun _ _ h => Eq.trans (by kernel_rfl) h) ⟨rfl, trivial⟩ (fun r => ⟨(Lc_n37_l1_ok r), trivial⟩) fun _ => rfl

abbrev Tr_n38_0 : Type := Int → Int → Gk_Dice → GaTable → Int → Str → qL0 → Option qT78
/-! ### tablefinder/tablefinderkit.Derived -/
def c_n38 : Code := bodyOf Tryd.f97
def F_n38 : FC U := ⟨X0.at 33, Tryd.f97, c_n38, [(51, S_sk_Dice_Next.sig), (143, S_sk_Op.sig), (142, S_sr38_Run.sig), (144, S_sr38_Copy.sig)], [0], [.p], [some 4]⟩
theorem F_n38_ok : FOk F_n38 := fok uok tok0 eok0 mixed rfl ⟨S_sk_Dice_Next_ok, S_sk_Op_ok, S_sr38_Run_ok, S_sr38_Copy_ok, trivial⟩
def R_n38 : RSh := ⟨[.p (.st 4)], [(0, .box (.st 5))]⟩
def g_n38 (v : RVal U R_n38) : qT88 := (v.1.1, v.2.1)
def b_n38 (q : qT88) : TRet U := R_n38.bld ((q.1, ()), (q.2, ()))
def L_n38_k2 : Lp U qT88 := ⟨[2, 4, 6], [], qs49, qo35, fun v w => sk_Derived_k2 v.1 w.1 w.2.1 w.2.2.1.1 w.2.2.1.2.1 w.2.2.2.1⟩
theorem L_n38_k2_ok (r : qT88) : LpOk F_n38 (b_n38 r).enc r (L_n38_k2) ([tc F_n38 [1, 1]].map TI'.conc ++ []) := fun v w hi h => Pt.ev0 F_n38_ok (S := R_n38) (g := g_n38) (b := b_n38) (cuts := []) (pre := [tc F_n38 [1, 1]]) (T := Lp.st F_n38 (L_n38_k2) v w) (by kernel_rfl) hi (Eq.trans (by kernel_rfl) h) ⟨by kernel_rfl, trivial⟩ trivial fun _ => rfl
def base_n38_l1 : List Eng.Item := .lp (codeAt F_n38 [5, 4, 1, 0, 1]) :: ([.blk 0, tc F_n38 [1, 1]].map TI'.conc ++ [])
def Lh_n38_l1 (rec_ : Tr_n38_0) : Lp U qT78 := ⟨[0, 2, 4, 6, 7], [], qs31, qo35, fun v w => rec_ v.2.1 v.2.2.2.2.1 w.1 w.2.1 w.2.2.1.1 w.2.2.1.2.1 w.2.2.2.1⟩
def Lx_n38_l1 : Lp U qT78 := ⟨[2, 4, 6], [], qs49, qo35, fun v w => some (v.1, w.1, w.2.1, w.2.2.1.1, w.2.2.1.2.1, w.2.2.2.1)⟩
def L_n38_j1 (rec_ : Tr_n38_0) : Lp U qT78 := ⟨[0, 2, 4, 6, 7], [], qs31, qo35, fun v w => sk_Derived_j1 rec_ v.2.1 v.2.2.2.2.1 w.1 w.2.1 w.2.2.1.1 w.2.2.1.2.1 w.2.2.2.1⟩
theorem L_n38_j1_ok {RT : Ret} {r : qT78} {rec_ : Tr_n38_0} (hb : LpOk F_n38 RT r (Lh_n38_l1 rec_) base_n38_l1) (hx : AllExits F_n38 RT r base_n38_l1 [(0, Lx_n38_l1)]) (hr : qH (fun _ => none) r RT) : LpOk F_n38 RT r (L_n38_j1 rec_) (stAt F_n38 [1, 1, 5, 4, 1, 0, 1]) := fun v w hi h => Pt.evlAt F_n38_ok (r := r) 4000 (cuts := []) (back := (some (Lh_n38_l1 rec_))) (exits := [(0, Lx_n38_l1)]) (ret := (fun _ => none)) (base := base_n38_l1) (pre := [tc F_n38 [1, 1, 5, 4, 1, 0, 1]]) (T := Lp.st F_n38 (L_n38_j1 rec_) v w) (by kernel_rfl) hi (Eq.trans (by kernel_rfl) h) ⟨by kernel_rfl, trivial⟩ trivial (fun L hL => by cases hL; exact hb) (fun hn => nomatch hn) hx hr
theorem sk_Derived_l1_ok {RT : Ret} {r : qT78} (hx : AllExits F_n38 RT r base_n38_l1 [(0, Lx_n38_l1)]) (hr : qH (fun _ => none) r RT) : ∀ n, LpOk F_n38 RT r (Lh_n38_l1 (sk_Derived_l1 n)) (stAt F_n38 [4, 1, 0, 1]) :=
  loop_ok F_n38_ok 4000 (q := [4, 1, 0, 1]) (body := codeAt F_n38 [5, 4, 1, 0, 1]) (live := [0, 2, 4, 6, 7]) (frz := []) (shs := qs31) (sho := qo35) (fun n v w => sk_Derived_l1 n v.2.1 v.2.2.2.2.1 w.1 w.2.1 w.2.2.1.1 w.2.2.1.2.1 w.2.2.2.1) (cuts := fun n => [([1, 1, 5, 4, 1, 0, 1], L_n38_j1 (sk_Derived_l1 n))]) (exits := [(0, Lx_n38_l1)]) (ret := (fun _ => none)) (by kernel_rfl) (fun _ _ => rfl) (fun n v w => by kernel_rfl) (fun n hb => ⟨L_n38_j1_ok hb hx hr, trivial⟩) hx hr
def Lc_n38_l1 : Lp U qT88 := ⟨[0, 2, 4, 6, 7], [], qs31, qo35, fun v w => (sk_Derived_l1 big v.2.1 v.2.2.2.2.1 w.1 w.2.1 w.2.2.1.1 w.2.2.1.2.1 w.2.2.2.1).bind fun (x0, x1, x2, x3, x4, x5) => sk_Derived_k2 x0 x1 x2 x3 x4 x5⟩
theorem Lc_n38_l1_ok (r : qT88) : LpOk F_n38 (b_n38 r).enc r (Lc_n38_l1) (stAt F_n38 [4, 1, 0, 1]) := fun v w hi h0 => by
  obtain ⟨x, hx0, h⟩ := bind_some h0
  exact sk_Derived_l1_ok (r := x) (RT := (b_n38 r).enc) ⟨⟨[tc F_n38 [1, 1]].map TI'.conc ++ [], by kernel_rfl, fun v' w' hi' h' => by obtain rfl := Option.some.inj h'; exact L_n38_k2_ok r v' w' hi' h⟩, trivial⟩ (fun _ ht => nomatch ht) big v w hi hx0
def S_sk_Derived : FSig U := ⟨qT88, [29, 24, 3], [.lend, .p, .p], [none, some 4, none], [.box (.st 5), .p (.st 4), .p (.int .i64)], fun v => sk_Derived v.1 v.2.1 v.2.2.1, b_n38⟩
theorem S_sk_Derived_ok : SigOk X0.E 97 S_sk_Derived.sig := FSig.ok0 F_n38_ok (R := R_n38) (g := g_n38) (cuts := [([4, 1, 0, 1], Lc_n38_l1)]) (pre := [tc0 F_n38]) rfl Tryd.func97 (by decide) rfl (fun _ => Nat.le_of_ble_eq_true (by kernel_rfl)) (fun _ => rfl) (by kernel_rfl) (fun _ _ h => Eq.trans (by kernel_rfl) h) ⟨rfl, trivial⟩ (fun r => ⟨(Lc_n38_l1_ok r), trivial⟩) fun _ => rfl

abbrev Tr_n39_0 : Type := Int → Int → Gk_Dice → qL1 → Option qT85
/-! ### tablefinder/tablefinderkit.Tables -/
def c_n39 : Code := bodyOf Tryd.f42
def F_n39 : FC U := ⟨X0.at 50, Tryd.f42, c_n39, [(51, S_sk_Dice_Next.sig), (21, S_sk_Table.sig), (97, S_sk_Derived.sig)], [0], [.own], [none]⟩
theorem F_n39_ok : FOk F_n39 := fok uok tok0 eok0 mixed rfl ⟨S_sk_Dice_Next_ok, S_sk_Table_ok, S_sk_Derived_ok, trivial⟩
def R_n39 : RSh := ⟨[.own (.st 4)], [(0, .box (.st 5))]⟩
def g_n39 (v : RVal U R_n39) : qT86 := (v.1.1, v.2.1)
def b_n39 (q : qT86) : TRet U := R_n39.bld ((q.1, ()), (q.2, ()))
def L_n39_k3 : Lp U qT86 := ⟨[5], [], [.o (.full (0, 1, 1))], qo58, fun v w => sk_Tables_k3 w.1 w.2.1⟩
theorem L_n39_k3_ok (r : qT86) : LpOk F_n39 (b_n39 r).enc r (L_n39_k3) ([tc F_n39 [1, 1, 1, 1]].map TI'.conc ++ []) := fun v w hi h => Pt.ev0 F_n39_ok (S := R_n39) (g := g_n39) (b := b_n39) (cuts := []) (pre := [tc F_n39 [1, 1, 1, 1]]) (T := Lp.st F_n39 (L_n39_k3) v w) (by kernel_rfl) hi (Eq.trans (by kernel_rfl) h) ⟨by kernel_rfl, trivial⟩ trivial fun _ => rfl
def base_n39_l1 : List Eng.Item := .lp (codeAt F_n39 [5, 4, 1, 0, 1, 1, 1]) :: ([.blk 0, tc F_n39 [1, 1, 1, 1]].map TI'.conc ++ [])
def Lh_n39_l1 (rec_ : Tr_n39_0) : Lp U qT85 := ⟨[0, 5, 6, 7], [], qs41, qo58, fun v w => rec_ v.2.2.1 v.2.2.2.1 w.1 w.2.1⟩
def Lx_n39_l1 : Lp U qT85 := ⟨[5], [], [.o (.full (0, 1, 1))], qo58, fun v w => some (w.1, w.2.1)⟩
def L_n39_j2 (rec_ : Tr_n39_0) : Lp U qT85 := ⟨[0, 5, 6, 7, 8], [], [.o (.ptr (0, 0, 0) 0 0), .o (.full (0, 1, 1)), qi, qi, .o (.ptr (0, 2, 1) 0 0)], qo55, fun v w => sk_Tables_j2 rec_ v.2.2.1 v.2.2.2.1 w.1 w.2.1 w.2.2.1⟩
theorem L_n39_j2_ok {RT : Ret} {r : qT85} {rec_ : Tr_n39_0} (hb : LpOk F_n39 RT r (Lh_n39_l1 rec_) base_n39_l1) (hx : AllExits F_n39 RT r base_n39_l1 [(0, Lx_n39_l1)]) (hr : qH (fun _ => none) r RT) : LpOk F_n39 RT r (L_n39_j2 rec_) (stAt F_n39 [1, 1, 1, 4, 0, 1, 5, 4, 1, 0, 1, 1, 1]) := fun v w hi h => Pt.evlAt F_n39_ok (r := r) 4000 (cuts := []) (back := (some (Lh_n39_l1 rec_))) (exits := [(0, Lx_n39_l1)]) (ret := (fun _ => none)) (base := base_n39_l1) (pre := [tc F_n39 [1, 1, 1, 4, 0, 1, 5, 4, 1, 0, 1, 1, 1], .blk 1, tc F_n39 [1, 1, 5, 4, 1, 0, 1, 1, 1]]) (T := Lp.st F_n39 (L_n39_j2 rec_) v w) (by kernel_rfl) hi (Eq.trans (by kernel_rfl) h) ⟨by kernel_rfl, by kernel_rfl, trivial⟩ trivial (fun L hL => by cases hL; exact hb) (fun hn => nomatch hn) hx hr
def L_n39_j1 (rec_ : Tr_n39_0) : Lp U qT85 := ⟨[0, 5, 6, 7, 8, 34], [], [.o (.ptr (0, 0, 0) 0 0), .o (.full (0, 1, 1)), qi, qi, .o (.ptr (0, 2, 1) 0 0), .o (.v .bool)], qo55, fun v w => sk_Tables_j1 rec_ v.2.2.1 v.2.2.2.1 v.2.2.2.2.2.1 w.1 w.2.1 w.2.2.1⟩
theorem L_n39_j1_ok {RT : Ret} {r : qT85} {rec_ : Tr_n39_0} (hb : LpOk F_n39 RT r (Lh_n39_l1 rec_) base_n39_l1) (hx : AllExits F_n39 RT r base_n39_l1 [(0, Lx_n39_l1)]) (hr : qH (fun _ => none) r RT) : LpOk F_n39 RT r (L_n39_j1 rec_) (stAt F_n39 [1, 0, 1, 1, 4, 0, 1, 5, 4, 1, 0, 1, 1, 1]) := fun v w hi h => Pt.evlAt F_n39_ok (r := r) 4000 (cuts := [([1, 1, 1, 4, 0, 1, 5, 4, 1, 0, 1, 1, 1], (L_n39_j2 rec_))]) (back := (some (Lh_n39_l1 rec_))) (exits := [(0, Lx_n39_l1)]) (ret := (fun _ => none)) (base := base_n39_l1) (pre := [tc F_n39 [1, 0, 1, 1, 4, 0, 1, 5, 4, 1, 0, 1, 1, 1], tc F_n39 [1, 1, 1, 4, 0, 1, 5, 4, 1, 0, 1, 1, 1], .blk 1, tc F_n39 [1, 1, 5, 4, 1, 0, 1, 1, 1]]) (T := Lp.st F_n39 (L_n39_j1 rec_) v w) (by kernel_rfl) hi (Eq.trans (by kernel_rfl) h) ⟨by kernel_rfl, by kernel_rfl, by kernel_rfl, trivial⟩ ⟨(L_n39_j2_ok hb hx hr), trivial⟩ (fun L hL => by cases hL; exact hb) (fun hn => nomatch hn) hx hr
theorem sk_Tables_l1_ok {RT : Ret} {r : qT85} (hx : AllExits F_n39 RT r base_n39_l1 [(0, Lx_n39_l1)]) (hr : qH (fun _ => none) r RT) : ∀ n, LpOk F_n39 RT r (Lh_n39_l1 (sk_Tables_l1 n)) (stAt F_n39 [4, 1, 0, 1, 1, 1]) :=
  loop_ok F_n39_ok 4000 (q := [4, 1, 0, 1, 1, 1]) (body := codeAt F_n39 [5, 4, 1, 0, 1, 1, 1]) (live := [0, 5, 6, 7]) (frz := []) (shs := qs41) (sho := qo58) (fun n v w => sk_Tables_l1 n v.2.2.1 v.2.2.2.1 w.1 w.2.1) (cuts := fun n => [([1, 0, 1, 1, 4, 0, 1, 5, 4, 1, 0, 1, 1, 1], L_n39_j1 (sk_Tables_l1 n))]) (exits := [(0, Lx_n39_l1)]) (ret := (fun _ => none)) (by kernel_rfl) (fun _ _ => rfl) (fun n v w => by kernel_rfl) (fun n hb => ⟨L_n39_j1_ok hb hx hr, trivial⟩) hx hr
def Lc_n39_l1 : Lp U qT86 := ⟨[0, 5, 6, 7], [], qs41, qo58, fun v w => (sk_Tables_l1 big v.2.2.1 v.2.2.2.1 w.1 w.2.1).bind fun (x0, x1) => sk_Tables_k3 x0 x1⟩
theorem Lc_n39_l1_ok (r : qT86) : LpOk F_n39 (b_n39 r).enc r (Lc_n39_l1) (stAt F_n39 [4, 1, 0, 1, 1, 1]) := fun v w hi h0 => by
  obtain ⟨x, hx0, h⟩ := bind_some h0
  exact sk_Tables_l1_ok (r := x) (RT := (b_n39 r).enc) ⟨⟨[tc F_n39 [1, 1, 1, 1]].map TI'.conc ++ [], by kernel_rfl, fun v' w' hi' h' => by obtain rfl := Option.some.inj h'; exact L_n39_k3_ok r v' w' hi' h⟩, trivial⟩ (fun _ ht => nomatch ht) big v w hi hx0
def S_sk_Tables : FSig U := ⟨qT86, [29, 3], [.lend, .p], [none, none], [.box (.st 5), .p (.int .i64)], fun v => sk_Tables v.1 v.2.1, b_n39⟩
theorem S_sk_Tables_ok : SigOk X0.E 42 S_sk_Tables.sig := FSig.ok0 F_n39_ok (R := R_n39) (g := g_n39) (cuts := [([4, 1, 0, 1, 1, 1], Lc_n39_l1)]) (pre := [tc0 F_n39]) rfl Tryd.func42 (by decide) rfl (fun _ => Nat.le_of_ble_eq_true (by kernel_rfl)) (fun _ => rfl) (by kernel_rfl) (fun _ _ h => Eq.trans (by kernel_rfl) h) ⟨rfl, trivial⟩ (fun r => ⟨(Lc_n39_l1_ok r), trivial⟩) fun _ => rfl

/-! ### tablefinder/tablefinderref03.SameCells -/
def c_n43 : Code := bodyOf Tryd.f64
def F_n43 : FC U := ⟨X0.at 38, Tryd.f64, c_n43, [], [], [.p], [none]⟩
theorem F_n43_ok : FOk F_n43 := fok uok tok0 eok0 mixed rfl trivial
def R_n43 : RSh := ⟨[.p .bool], []⟩
def g_n43 (v : RVal U R_n43) : Bool := v.1.1
def b_n43 (q : Bool) : TRet U := R_n43.bld ((q, ()), ())
def L_n43_k2 : Lp U Bool := ⟨[], [], [], [], fun v w => sr03_SameCells_k2⟩
theorem L_n43_k2_ok (r : Bool) : LpOk F_n43 (b_n43 r).enc r (L_n43_k2) ([tc F_n43 [1, 1, 1]].map TI'.conc ++ []) := fun v w hi h => Pt.ev0 F_n43_ok (S := R_n43) (g := g_n43) (b := b_n43) (cuts := []) (pre := [tc F_n43 [1, 1, 1]]) (T := Lp.st F_n43 (L_n43_k2) v w) (by kernel_rfl) hi (Eq.trans (by kernel_rfl) h) ⟨by kernel_rfl, trivial⟩ trivial fun _ => rfl
def base_n43_l1 : List Eng.Item := .lp (codeAt F_n43 [5, 4, 1, 0, 1, 1]) :: ([.blk 0, tc F_n43 [1, 1, 1]].map TI'.conc ++ [])
def Lh_n43_l1 (rec_ : Int → Int → GaColumn → GaColumn → Option (Out Unit Bool)) : Lp U (Out Unit Bool) := ⟨[2, 3, 22, 23], [], qs39, qo60, fun v w => rec_ v.2.2.1 v.2.2.2.1 w.1 w.2.1⟩
def Lx_n43_l1 : Lp U (Out Unit Bool) := ⟨[], [], [], [], fun v w => some (.brk ())⟩
theorem sr03_SameCells_l1_ok {RT : Ret} {r : (Out Unit Bool)} (hx : AllExits F_n43 RT r base_n43_l1 [(0, Lx_n43_l1)]) (hr : qH (retOf R_n43 fun v => Out.ret (β := Unit) (g_n43 v)) r RT) : ∀ n, LpOk F_n43 RT r (Lh_n43_l1 (sr03_SameCells_l1 n)) (stAt F_n43 [4, 1, 0, 1, 1]) :=
  loop_ok F_n43_ok 4000 (q := [4, 1, 0, 1, 1]) (body := codeAt F_n43 [5, 4, 1, 0, 1, 1]) (live := [2, 3, 22, 23]) (frz := []) (shs := qs39) (sho := qo60) (fun n v w => sr03_SameCells_l1 n v.2.2.1 v.2.2.2.1 w.1 w.2.1) (cuts := fun n => []) (exits := [(0, Lx_n43_l1)]) (ret := (retOf R_n43 fun v => Out.ret (β := Unit) (g_n43 v))) (by kernel_rfl) (fun _ _ => rfl) (fun n v w => by kernel_rfl) (fun n hb => trivial) hx hr
def Lc_n43_l1 : Lp U Bool := ⟨[2, 3, 22, 23], [], qs39, qo60, fun v w => (sr03_SameCells_l1 big v.2.2.1 v.2.2.2.1 w.1 w.2.1).bind fun | .ret q_ => some q_ | .brk () => sr03_SameCells_k2⟩
theorem Lc_n43_l1_ok (r : Bool) : LpOk F_n43 (b_n43 r).enc r (Lc_n43_l1) (stAt F_n43 [4, 1, 0, 1, 1]) := fun v w hi h0 => by
  obtain ⟨x, hx0, h⟩ := bind_some h0
  exact sr03_SameCells_l1_ok (r := x) (RT := (b_n43 r).enc) ⟨⟨[tc F_n43 [1, 1, 1]].map TI'.conc ++ [], by kernel_rfl, fun v' w' hi' h' => by obtain rfl := Option.some.inj h'; exact L_n43_k2_ok r v' w' hi' h⟩, trivial⟩ (fun t ht => by obtain ⟨q, rfl, hq⟩ := retOut ht; obtain rfl := Option.some.inj h; exact retOf_enc uok (give := b_n43) (fun _ => rfl) hq) big v w hi hx0
def L_n43_j1 : Lp U Bool := ⟨[2, 3, 19], [], qs51, qo60, fun v w => sr03_SameCells_j1 v.2.2.1 w.1 w.2.1⟩
theorem L_n43_j1_ok (r : Bool) : LpOk F_n43 (b_n43 r).enc r (L_n43_j1) (stAt F_n43 [1, 0, 1]) := fun v w hi h => Pt.ev0 F_n43_ok (S := R_n43) (g := g_n43) (b := b_n43) (cuts := [([4, 1, 0, 1, 1], Lc_n43_l1)]) (pre := [tc F_n43 [1, 0, 1], tc F_n43 [1, 1]]) (T := Lp.st F_n43 (L_n43_j1) v w) (by kernel_rfl) hi (Eq.trans (by kernel_rfl) h) ⟨by kernel_rfl, by kernel_rfl, trivial⟩ ⟨(Lc_n43_l1_ok r), trivial⟩ fun _ => rfl
def S_sr03_SameCells : FSig U := ⟨Bool, [49, 49], [.p, .p], [some 3, some 3], [.p (.st 3), .p (.st 3)], fun v => sr03_SameCells v.1 v.2.1, b_n43⟩
theorem S_sr03_SameCells_ok : SigOk X0.E 64 S_sr03_SameCells.sig := FSig.ok0 F_n43_ok (R := R_n43) (g := g_n43) (cuts := [([1, 0, 1], L_n43_j1)]) (pre := [tc0 F_n43]) rfl Tryd.func64 (by decide) rfl (fun _ => Nat.le_of_ble_eq_true (by kernel_rfl)) (fun _ => rfl) (by kernel_rfl) (fun _ _ h => Eq.trans (by kernel_rfl) h) ⟨rfl, trivial⟩ (fun r => ⟨(L_n43_j1_ok r), trivial⟩) fun _ => rfl

/-! ### tablefinder/tablefinderref03.Same -/
def c_n44 : Code := bodyOf Tryd.f99
def F_n44 : FC U := ⟨X0.at 46, Tryd.f99, c_n44, [(64, S_sr03_SameCells.sig)], [], [.p], [none]⟩
theorem F_n44_ok : FOk F_n44 := fok uok tok0 eok0 mixed rfl ⟨S_sr03_SameCells_ok, trivial⟩
def R_n44 : RSh := ⟨[.p .bool], []⟩
def g_n44 (v : RVal U R_n44) : Bool := v.1.1
def b_n44 (q : Bool) : TRet U := R_n44.bld ((q, ()), ())
def L_n44_k2 : Lp U Bool := ⟨[], [], [], [], fun v w => sr03_Same_k2⟩
theorem L_n44_k2_ok (r : Bool) : LpOk F_n44 (b_n44 r).enc r (L_n44_k2) ([tc F_n44 [1, 1, 1]].map TI'.conc ++ []) := fun v w hi h => Pt.ev0 F_n44_ok (S := R_n44) (g := g_n44) (b := b_n44) (cuts := []) (pre := [tc F_n44 [1, 1, 1]]) (T := Lp.st F_n44 (L_n44_k2) v w) (by kernel_rfl) hi (Eq.trans (by kernel_rfl) h) ⟨by kernel_rfl, trivial⟩ trivial fun _ => rfl
def base_n44_l1 : List Eng.Item := .lp (codeAt F_n44 [5, 4, 1, 0, 1, 1]) :: ([.blk 0, tc F_n44 [1, 1, 1]].map TI'.conc ++ [])
def Lh_n44_l1 (rec_ : Int → Int → GaTable → GaTable → Option (Out Unit Bool)) : Lp U (Out Unit Bool) := ⟨[2, 3, 29, 30], [], qs39, qo61, fun v w => rec_ v.2.2.1 v.2.2.2.1 w.1 w.2.1⟩
def Lx_n44_l1 : Lp U (Out Unit Bool) := ⟨[], [], [], [], fun v w => some (.brk ())⟩
theorem sr03_Same_l1_ok {RT : Ret} {r : (Out Unit Bool)} (hx : AllExits F_n44 RT r base_n44_l1 [(0, Lx_n44_l1)]) (hr : qH (retOf R_n44 fun v => Out.ret (β := Unit) (g_n44 v)) r RT) : ∀ n, LpOk F_n44 RT r (Lh_n44_l1 (sr03_Same_l1 n)) (stAt F_n44 [4, 1, 0, 1, 1]) :=
  loop_ok F_n44_ok 4000 (q := [4, 1, 0, 1, 1]) (body := codeAt F_n44 [5, 4, 1, 0, 1, 1]) (live := [2, 3, 29, 30]) (frz := []) (shs := qs39) (sho := qo61) (fun n v w => sr03_Same_l1 n v.2.2.1 v.2.2.2.1 w.1 w.2.1) (cuts := fun n => []) (exits := [(0, Lx_n44_l1)]) (ret := (retOf R_n44 fun v => Out.ret (β := Unit) (g_n44 v))) (by kernel_rfl) (fun _ _ => rfl) (fun n v w => by kernel_rfl) (fun n hb => trivial) hx hr
def Lc_n44_l1 : Lp U Bool := ⟨[2, 3, 29, 30], [], qs39, qo61, fun v w => (sr03_Same_l1 big v.2.2.1 v.2.2.2.1 w.1 w.2.1).bind fun | .ret q_ => some q_ | .brk () => sr03_Same_k2⟩
theorem Lc_n44_l1_ok (r : Bool) : LpOk F_n44 (b_n44 r).enc r (Lc_n44_l1) (stAt F_n44 [4, 1, 0, 1, 1]) := fun v w hi h0 => by
  obtain ⟨x, hx0, h⟩ := bind_some h0
  exact sr03_Same_l1_ok (r := x) (RT := (b_n44 r).enc) ⟨⟨[tc F_n44 [1, 1, 1]].map TI'.conc ++ [], by kernel_rfl, fun v' w' hi' h' => by obtain rfl := Option.some.inj h'; exact L_n44_k2_ok r v' w' hi' h⟩, trivial⟩ (fun t ht => by obtain ⟨q, rfl, hq⟩ := retOut ht; obtain rfl := Option.some.inj h; exact retOf_enc uok (give := b_n44) (fun _ => rfl) hq) big v w hi hx0
def L_n44_j1 : Lp U Bool := ⟨[2, 3, 26], [], qs51, qo61, fun v w => sr03_Same_j1 v.2.2.1 w.1 w.2.1⟩
theorem L_n44_j1_ok (r : Bool) : LpOk F_n44 (b_n44 r).enc r (L_n44_j1) (stAt F_n44 [1, 0, 1]) := fun v w hi h => Pt.ev0 F_n44_ok (S := R_n44) (g := g_n44) (b := b_n44) (cuts := [([4, 1, 0, 1, 1], Lc_n44_l1)]) (pre := [tc F_n44 [1, 0, 1], tc F_n44 [1, 1]]) (T := Lp.st F_n44 (L_n44_j1) v w) (by kernel_rfl) hi (Eq.trans (by kernel_rfl) h) ⟨by kernel_rfl, by kernel_rfl, trivial⟩ ⟨(Lc_n44_l1_ok r), trivial⟩ fun _ => rfl
def S_sr03_Same : FSig U := ⟨Bool, [24, 24], [.p, .p], [some 4, some 4], [.p (.st 4), .p (.st 4)], fun v => sr03_Same v.1 v.2.1, b_n44⟩
theorem S_sr03_Same_ok : SigOk X0.E 99 S_sr03_Same.sig := FSig.ok0 F_n44_ok (R := R_n44) (g := g_n44) (cuts := [([1, 0, 1], L_n44_j1)]) (pre := [tc0 F_n44]) rfl Tryd.func99 (by decide) rfl (fun _ => Nat.le_of_ble_eq_true (by kernel_rfl)) (fun _ => rfl) (by kernel_rfl) (fun _ _ h => Eq.trans (by kernel_rfl) h) ⟨rfl, trivial⟩ (fun r => ⟨(L_n44_j1_ok r), trivial⟩) fun _ => rfl

/-! ### tablefinder/tablefinderlaw42.same -/
def c_n45 : Code := bodyOf Tryd.f47
def F_n45 : FC U := ⟨X0.at 27, Tryd.f47, c_n45, [(99, S_sr03_Same.sig)], [], [.p], [none]⟩
theorem F_n45_ok : FOk F_n45 := fok uok tok0 eok0 mixed rfl ⟨S_sr03_Same_ok, trivial⟩
def R_n45 : RSh := ⟨[.p .bool], []⟩
def g_n45 (v : RVal U R_n45) : Bool := v.1.1
def b_n45 (q : Bool) : TRet U := R_n45.bld ((q, ()), ())
def L_n45_k1 : Lp U Bool := ⟨[], [], [], [], fun v w => sl42_same_k1⟩
theorem L_n45_k1_ok (r : Bool) : LpOk F_n45 (b_n45 r).enc r (L_n45_k1) ([tc F_n45 [1, 1, 1]].map TI'.conc ++ []) := fun v w hi h => Pt.ev0 F_n45_ok (S := R_n45) (g := g_n45) (b := b_n45) (cuts := []) (pre := [tc F_n45 [1, 1, 1]]) (T := Lp.st F_n45 (L_n45_k1) v w) (by kernel_rfl) hi (Eq.trans (by kernel_rfl) h) ⟨by kernel_rfl, trivial⟩ trivial fun _ => rfl
def base_n45_l1 : List Eng.Item := .lp (codeAt F_n45 [5, 4, 1, 0, 1, 1]) :: ([.blk 0, tc F_n45 [1, 1, 1]].map TI'.conc ++ [])
def Lh_n45_l1 (rec_ : qL1 → qL1 → Int → Int → Option (Out Unit Bool)) : Lp U (Out Unit Bool) := ⟨[1, 12, 13, 14], [], qs43, [], fun v w => rec_ v.1 v.2.1 v.2.2.1 v.2.2.2.1⟩
def Lx_n45_l1 : Lp U (Out Unit Bool) := ⟨[], [], [], [], fun v w => some (.brk ())⟩
theorem sl42_same_l1_ok {RT : Ret} {r : (Out Unit Bool)} (hx : AllExits F_n45 RT r base_n45_l1 [(0, Lx_n45_l1)]) (hr : qH (retOf R_n45 fun v => Out.ret (β := Unit) (g_n45 v)) r RT) : ∀ n, LpOk F_n45 RT r (Lh_n45_l1 (sl42_same_l1 n)) (stAt F_n45 [4, 1, 0, 1, 1]) :=
  loop_ok F_n45_ok 4000 (q := [4, 1, 0, 1, 1]) (body := codeAt F_n45 [5, 4, 1, 0, 1, 1]) (live := [1, 12, 13, 14]) (frz := []) (shs := qs43) (sho := []) (fun n v w => sl42_same_l1 n v.1 v.2.1 v.2.2.1 v.2.2.2.1) (cuts := fun n => []) (exits := [(0, Lx_n45_l1)]) (ret := (retOf R_n45 fun v => Out.ret (β := Unit) (g_n45 v))) (by kernel_rfl) (fun _ _ => rfl) (fun n v w => by kernel_rfl) (fun n hb => trivial) hx hr
def Lc_n45_l1 : Lp U Bool := ⟨[1, 12, 13, 14], [], qs43, [], fun v w => (sl42_same_l1 big v.1 v.2.1 v.2.2.1 v.2.2.2.1).bind fun | .ret q_ => some q_ | .brk () => sl42_same_k1⟩
theorem Lc_n45_l1_ok (r : Bool) : LpOk F_n45 (b_n45 r).enc r (Lc_n45_l1) (stAt F_n45 [4, 1, 0, 1, 1]) := fun v w hi h0 => by
  obtain ⟨x, hx0, h⟩ := bind_some h0
  exact sl42_same_l1_ok (r := x) (RT := (b_n45 r).enc) ⟨⟨[tc F_n45 [1, 1, 1]].map TI'.conc ++ [], by kernel_rfl, fun v' w' hi' h' => by obtain rfl := Option.some.inj h'; exact L_n45_k1_ok r v' w' hi' h⟩, trivial⟩ (fun t ht => by obtain ⟨q, rfl, hq⟩ := retOut ht; obtain rfl := Option.some.inj h; exact retOf_enc uok (give := b_n45) (fun _ => rfl) hq) big v w hi hx0
def S_sl42_same : FSig U := ⟨Bool, [84, 84], [.p, .p], [none, none], [.p (.sl (.st 4)), .p (.sl (.st 4))], fun v => sl42_same v.1 v.2.1, b_n45⟩
theorem S_sl42_same_ok : SigOk X0.E 47 S_sl42_same.sig := FSig.ok0 F_n45_ok (R := R_n45) (g := g_n45) (cuts := [([4, 1, 0, 1, 1], Lc_n45_l1)]) (pre := [tc0 F_n45]) rfl Tryd.func47 (by decide) rfl (fun _ => Nat.le_of_ble_eq_true (by kernel_rfl)) (fun _ => rfl) (by kernel_rfl) (fun _ _ h => Eq.trans (by kernel_rfl) h) ⟨rfl, trivial⟩ (fun r => ⟨(Lc_n45_l1_ok r), trivial⟩) fun _ => rfl

/-! ### tablefinder/tablefinderref03.Find -/
def c_n47 : Code := bodyOf Tryd.f52
def F_n47 : FC U := ⟨X0.at 21, Tryd.f52, c_n47, [], [], [.p, .p], [some 4, none]⟩
theorem F_n47_ok : FOk F_n47 := fok uok tok0 eok0 mixed rfl trivial
def R_n47 : RSh := ⟨[.p (.st 4), .p .bool], []⟩
def g_n47 (v : RVal U R_n47) : qT90 := (v.1.1, v.1.2.1)
def b_n47 (q : qT90) : TRet U := R_n47.bld ((q.1, (q.2, ())), ())
def L_n47_k1 : Lp U qT90 := ⟨[4], [], qs63, qo45, fun v w => sr03_Find_k1 w.1.1 w.1.2.1 w.2.1⟩
theorem L_n47_k1_ok (r : qT90) : LpOk F_n47 (b_n47 r).enc r (L_n47_k1) ([tc F_n47 [1, 1]].map TI'.conc ++ []) := fun v w hi h => Pt.ev0 F_n47_ok (S := R_n47) (g := g_n47) (b := b_n47) (cuts := []) (pre := [tc F_n47 [1, 1]]) (T := Lp.st F_n47 (L_n47_k1) v w) (by kernel_rfl) hi (Eq.trans (by kernel_rfl) h) ⟨by kernel_rfl, trivial⟩ trivial fun _ => rfl
def base_n47_l1 : List Eng.Item := .lp (codeAt F_n47 [5, 4, 1, 0, 1]) :: ([.blk 0, tc F_n47 [1, 1]].map TI'.conc ++ [])
def Lh_n47_l1 (rec_ : Int → qL1 → Int → Int → Int → Str → qL0 → Option qT81) : Lp U qT81 := ⟨[1, 4, 8, 9, 10], [], qs36, qo45, fun v w => rec_ v.1 v.2.2.1 v.2.2.2.1 v.2.2.2.2.1 w.1.1 w.1.2.1 w.2.1⟩
def Lx_n47_l1 : Lp U qT81 := ⟨[4], [], qs63, qo45, fun v w => some (.brk (w.1.1, w.1.2.1, w.2.1))⟩
theorem sr03_Find_l1_ok {RT : Ret} {r : qT81} (hx : AllExits F_n47 RT r base_n47_l1 [(0, Lx_n47_l1)]) (hr : ∀ t : TRet U, (retOf R_n47 fun v => Out.ret (β := (Int × Str × qL0)) (g_n47 v)) t = some r → t.enc = RT) : ∀ n, LpOk F_n47 RT r (Lh_n47_l1 (sr03_Find_l1 n)) (stAt F_n47 [4, 1, 0, 1]) :=
  loop_ok F_n47_ok 4000 (q := [4, 1, 0, 1]) (body := codeAt F_n47 [5, 4, 1, 0, 1]) (live := [1, 4, 8, 9, 10]) (frz := []) (shs := qs36) (sho := qo45) (fun n v w => sr03_Find_l1 n v.1 v.2.2.1 v.2.2.2.1 v.2.2.2.2.1 w.1.1 w.1.2.1 w.2.1) (cuts := fun n => []) (exits := [(0, Lx_n47_l1)]) (ret := (retOf R_n47 fun v => Out.ret (β := (Int × Str × qL0)) (g_n47 v))) (by kernel_rfl) (fun _ _ => rfl) (fun n v w => by kernel_rfl) (fun n hb => trivial) hx hr
def Lc_n47_l1 : Lp U qT90 := ⟨[1, 4, 8, 9, 10], [], qs36, qo45, fun v w => (sr03_Find_l1 big v.1 v.2.2.1 v.2.2.2.1 v.2.2.2.2.1 w.1.1 w.1.2.1 w.2.1).bind fun | .ret q_ => some q_ | .brk (x0, x1, x2) => sr03_Find_k1 x0 x1 x2⟩
theorem Lc_n47_l1_ok (r : qT90) : LpOk F_n47 (b_n47 r).enc r (Lc_n47_l1) (stAt F_n47 [4, 1, 0, 1]) := fun v w hi h0 => by
  obtain ⟨x, hx0, h⟩ := bind_some h0
  exact sr03_Find_l1_ok (r := x) (RT := (b_n47 r).enc) ⟨⟨[tc F_n47 [1, 1]].map TI'.conc ++ [], by kernel_rfl, fun v' w' hi' h' => by obtain rfl := Option.some.inj h'; exact L_n47_k1_ok r v' w' hi' h⟩, trivial⟩ (fun t ht => by obtain ⟨q, rfl, hq⟩ := retOut ht; obtain rfl := Option.some.inj h; exact retOf_enc uok (give := b_n47) (fun _ => rfl) hq) big v w hi hx0
def S_sr03_Find : FSig U := ⟨qT90, [84, 3], [.p, .p], [none, none], [.p (.sl (.st 4)), .p (.int .i64)], fun v => sr03_Find v.1 v.2.1, b_n47⟩
theorem S_sr03_Find_ok : SigOk X0.E 52 S_sr03_Find.sig := FSig.ok0 F_n47_ok (R := R_n47) (g := g_n47) (cuts := [([4, 1, 0, 1], Lc_n47_l1)]) (pre := [tc0 F_n47]) rfl Tryd.func52 (by decide) rfl (fun _ => Nat.le_of_ble_eq_true (by kernel_rfl)) (fun _ => rfl) (by kernel_rfl) (fun _ _ h => Eq.trans (by kernel_rfl) h) ⟨rfl, trivial⟩ (fun r => ⟨(Lc_n47_l1_ok r), trivial⟩) fun _ => rfl

abbrev Tr_n48_1 : Type := qL2 → Str → Bool → Int → Int → qL0 → Int → Int → Gk_Dice → qL1 → qL1 → GaTable → Int → Str → qL0 → Option qT65
abbrev Tr_n48_3 : Type := qL2 → Str → Int → Int → Gk_Dice → qL1 → qL1 → Option qT75
abbrev Tr_n48_4 : Type := qL1 → qL1 → Int → Int → Option (Out Unit Bool)
/-! ### tablefinder/tablefinderlaw42.AccessHides -/
def c_n48 : Code := bodyOf Tryd.f9
def F_n48 : FC U := ⟨X0.at 162, Tryd.f9, c_n48, [(18, S_sk_Light.sig), (40, S_sl42_awake.sig), (20, S_sk_Roll.sig), (41, S_sk_Rules.sig), (42, S_sk_Tables.sig), (45, S_s_access_May.sig), (50, S_sk_Cell.sig), (51, S_sk_Dice_Next.sig), (21, S_sk_Table.sig), (48, S_s_access_Visible.sig), (47, S_sl42_same.sig), (52, S_sr03_Find.sig), (53, S_sr03_Rows.sig)], [], [.p], [none]⟩
theorem F_n48_ok : FOk F_n48 := fok uok tok0 eok0 mixed rfl ⟨S_sk_Light_ok, S_sl42_awake_ok, S_sk_Roll_ok, S_sk_Rules_ok, S_sk_Tables_ok, S_s_access_May_ok, S_sk_Cell_ok, S_sk_Dice_Next_ok, S_sk_Table_ok, S_s_access_Visible_ok, S_sl42_same_ok, S_sr03_Find_ok, S_sr03_Rows_ok, trivial⟩
def R_n48 : RSh := ⟨[.p .bool], []⟩
def g_n48 (v : RVal U R_n48) : Bool := v.1.1
def b_n48 (q : Bool) : TRet U := R_n48.bld ((q, ()), ())
def L_n48_k9 : Lp U Bool := ⟨[], [], [], [], fun v w => sl42_AccessHides_k9⟩
theorem L_n48_k9_ok (r : Bool) : LpOk F_n48 (b_n48 r).enc r (L_n48_k9) ([tc F_n48 [1, 1, 1, 1, 1, 1, 1, 1, 1, 1, 1, 1]].map TI'.conc ++ []) := fun v w hi h => Pt.ev0 F_n48_ok (S := R_n48) (g := g_n48) (b := b_n48) (cuts := []) (pre := [tc F_n48 [1, 1, 1, 1, 1, 1, 1, 1, 1, 1, 1, 1]]) (T := Lp.st F_n48 (L_n48_k9) v w) (by kernel_rfl) hi (Eq.trans (by kernel_rfl) h) ⟨by kernel_rfl, trivial⟩ trivial fun _ => rfl
def base_n48_l5 : List Eng.Item := .lp (codeAt F_n48 [5, 4, 1, 0, 1, 1, 1, 1, 1, 1, 1, 1, 1, 1, 1]) :: ([.blk 8, tc F_n48 [1, 1, 1, 1, 1, 1, 1, 1, 1, 1, 1, 1]].map TI'.conc ++ [])
def Lh_n48_l5 (rec_ : Tr_n48_4) : Lp U (Out Unit Bool) := ⟨[8, 129, 130, 131], [], qs43, [], fun v w => rec_ v.1 v.2.1 v.2.2.1 v.2.2.2.1⟩
def Lx_n48_l5 : Lp U (Out Unit Bool) := ⟨[], [], [], [], fun v w => some (.brk ())⟩
def L_n48_j8 (rec_ : Tr_n48_4) : Lp U (Out Unit Bool) := ⟨[8, 129, 130, 131, 159], [], [.o (.v (.sl (.st 4))), .o (.v (.sl (.st 4))), qi, qi, .o (.v .bool)], [], fun v w => sl42_AccessHides_j8 rec_ v.1 v.2.1 v.2.2.1 v.2.2.2.1 v.2.2.2.2.1⟩
theorem L_n48_j8_ok {RT : Ret} {r : (Out Unit Bool)} {rec_ : Tr_n48_4} (hb : LpOk F_n48 RT r (Lh_n48_l5 rec_) base_n48_l5) (hx : AllExits F_n48 RT r base_n48_l5 [(8, Lx_n48_l5)]) (hr : qH (retOf R_n48 fun v => Out.ret (β := Unit) (g_n48 v)) r RT) : LpOk F_n48 RT r (L_n48_j8 rec_) (stAt F_n48 [1, 1, 1, 4, 0, 1, 1, 5, 4, 1, 0, 1, 1, 1, 1, 1, 1, 1, 1, 1, 1, 1]) := fun v w hi h => Pt.evlAt F_n48_ok (r := r) 4000 (cuts := []) (back := (some (Lh_n48_l5 rec_))) (exits := [(8, Lx_n48_l5)]) (ret := (retOf R_n48 fun v => Out.ret (β := Unit) (g_n48 v))) (base := base_n48_l5) (pre := [tc F_n48 [1, 1, 1, 4, 0, 1, 1, 5, 4, 1, 0, 1, 1, 1, 1, 1, 1, 1, 1, 1, 1, 1], .blk 9, tc F_n48 [1, 1, 1, 5, 4, 1, 0, 1, 1, 1, 1, 1, 1, 1, 1, 1, 1, 1]]) (T := Lp.st F_n48 (L_n48_j8 rec_) v w) (by kernel_rfl) hi (Eq.trans (by kernel_rfl) h) ⟨by kernel_rfl, by kernel_rfl, trivial⟩ trivial (fun L hL => by cases hL; exact hb) (fun hn => nomatch hn) hx hr
theorem sl42_AccessHides_l5_ok {RT : Ret} {r : (Out Unit Bool)} (hx : AllExits F_n48 RT r base_n48_l5 [(8, Lx_n48_l5)]) (hr : qH (retOf R_n48 fun v => Out.ret (β := Unit) (g_n48 v)) r RT) : ∀ n, LpOk F_n48 RT r (Lh_n48_l5 (sl42_AccessHides_l5 n)) (stAt F_n48 [4, 1, 0, 1, 1, 1, 1, 1, 1, 1, 1, 1, 1, 1]) :=
  loop_ok F_n48_ok 4000 (q := [4, 1, 0, 1, 1, 1, 1, 1, 1, 1, 1, 1, 1, 1]) (body := codeAt F_n48 [5, 4, 1, 0, 1, 1, 1, 1, 1, 1, 1, 1, 1, 1, 1]) (live := [8, 129, 130, 131]) (frz := []) (shs := qs43) (sho := []) (fun n v w => sl42_AccessHides_l5 n v.1 v.2.1 v.2.2.1 v.2.2.2.1) (cuts := fun n => [([1, 1, 1, 4, 0, 1, 1, 5, 4, 1, 0, 1, 1, 1, 1, 1, 1, 1, 1, 1, 1, 1], L_n48_j8 (sl42_AccessHides_l5 n))]) (exits := [(8, Lx_n48_l5)]) (ret := (retOf R_n48 fun v => Out.ret (β := Unit) (g_n48 v))) (by kernel_rfl) (fun _ _ => rfl) (fun n v w => by kernel_rfl) (fun n hb => ⟨L_n48_j8_ok hb hx hr, trivial⟩) hx hr
def Lc_n48_l5 : Lp U Bool := ⟨[8, 129, 130, 131], [], qs43, [], fun v w => (sl42_AccessHides_l5 big v.1 v.2.1 v.2.2.1 v.2.2.2.1).bind fun | .ret q_ => some q_ | .brk () => sl42_AccessHides_k9⟩
theorem Lc_n48_l5_ok (r : Bool) : LpOk F_n48 (b_n48 r).enc r (Lc_n48_l5) (stAt F_n48 [4, 1, 0, 1, 1, 1, 1, 1, 1, 1, 1, 1, 1, 1]) := fun v w hi h0 => by
  obtain ⟨x, hx0, h⟩ := bind_some h0
  exact sl42_AccessHides_l5_ok (r := x) (RT := (b_n48 r).enc) ⟨⟨[tc F_n48 [1, 1, 1, 1, 1, 1, 1, 1, 1, 1, 1, 1]].map TI'.conc ++ [], by kernel_rfl, fun v' w' hi' h' => by obtain rfl := Option.some.inj h'; exact L_n48_k9_ok r v' w' hi' h⟩, trivial⟩ (fun t ht => by obtain ⟨q, rfl, hq⟩ := retOut ht; obtain rfl := Option.some.inj h; exact retOf_enc uok (give := b_n48) (fun _ => rfl) hq) big v w hi hx0
def L_n48_k7 : Lp U Bool := ⟨[6, 7, 8, 9], [], qs46, [.arr (.st 4) false, .arr (.st 4) false], fun v w => sl42_AccessHides_k7 v.1 v.2.1 w.1 w.2.1⟩
theorem L_n48_k7_ok (r : Bool) : LpOk F_n48 (b_n48 r).enc r (L_n48_k7) ([tc F_n48 [1, 1, 1, 1, 1, 1, 1, 1, 1]].map TI'.conc ++ []) := fun v w hi h => Pt.ev0 F_n48_ok (S := R_n48) (g := g_n48) (b := b_n48) (cuts := [([4, 1, 0, 1, 1, 1, 1, 1, 1, 1, 1, 1, 1, 1], Lc_n48_l5)]) (pre := [tc F_n48 [1, 1, 1, 1, 1, 1, 1, 1, 1]]) (T := Lp.st F_n48 (L_n48_k7) v w) (by kernel_rfl) hi (Eq.trans (by kernel_rfl) h) ⟨by kernel_rfl, trivial⟩ ⟨(Lc_n48_l5_ok r), trivial⟩ fun _ => rfl
def base_n48_l1 : List Eng.Item := .lp (codeAt F_n48 [5, 4, 1, 0, 1, 1, 1, 1, 1, 1, 1, 1]) :: ([.blk 0, tc F_n48 [1, 1, 1, 1, 1, 1, 1, 1, 1]].map TI'.conc ++ [])
def Lh_n48_l1 (rec_ : Tr_n48_3) : Lp U qT75 := ⟨[5, 6, 7, 8, 9, 35, 36, 37], [6], qs18, qo52, fun v w => rec_ v.2.1 v.2.2.1 v.2.2.2.2.2.2.1 v.2.2.2.2.2.2.2.1 w.1 w.2.1 w.2.2.1⟩
def Lx_n48_l1 : Lp U qT75 := ⟨[6, 7, 8, 9], [], qs46, [.arr (.st 4) false, .arr (.st 4) false], fun v w => some (v.1, v.2.1, w.1, w.2.1)⟩
def L_n48_j6 (rec_ : Tr_n48_3) : Lp U qT75 := ⟨[5, 6, 7, 8, 9, 35, 36, 37], [], qs18, qo52, fun v w => sl42_AccessHides_j6 rec_ v.2.1 v.2.2.1 v.2.2.2.2.2.2.1 v.2.2.2.2.2.2.2.1 w.1 w.2.1 w.2.2.1⟩
theorem L_n48_j6_ok {RT : Ret} {r : qT75} {rec_ : Tr_n48_3} (hb : LpOk F_n48 RT r (Lh_n48_l1 rec_) base_n48_l1) (hx : AllExits F_n48 RT r base_n48_l1 [(0, Lx_n48_l1)]) (hr : qH (fun _ => none) r RT) : LpOk F_n48 RT r (L_n48_j6 rec_) (stAt F_n48 [1, 1, 1, 5, 4, 1, 0, 1, 1, 1, 1, 1, 1, 1, 1]) := fun v w hi h => Pt.evlAt F_n48_ok (r := r) 4000 (cuts := []) (back := (some (Lh_n48_l1 rec_))) (exits := [(0, Lx_n48_l1)]) (ret := (fun _ => none)) (base := base_n48_l1) (pre := [tc F_n48 [1, 1, 1, 5, 4, 1, 0, 1, 1, 1, 1, 1, 1, 1, 1]]) (T := Lp.st F_n48 (L_n48_j6 rec_) v w) (by kernel_rfl) hi (Eq.trans (by kernel_rfl) h) ⟨by kernel_rfl, trivial⟩ trivial (fun L hL => by cases hL; exact hb) (fun hn => nomatch hn) hx hr
def L_n48_k5 (rec_ : Tr_n48_3) : Lp U qT75 := ⟨[5, 6, 7, 8, 9, 12, 35, 36, 37], [12], [.o (.ptr (0, 1, 1) 0 0), .o (.v (.sl (.st 0))), .o (.v .str), .o (.full (0, 2, 1)), .o (.full (0, 3, 1)), .o (.pp (.st 4)), .o (.full (0, 2, 1)), qi, qi], qo52, fun v w => sl42_AccessHides_k5 rec_ v.2.1 v.2.2.1 v.2.2.2.2.2.1 v.2.2.2.2.2.2.2.1 v.2.2.2.2.2.2.2.2.1 w.1 w.2.1 w.2.2.1⟩
theorem L_n48_k5_ok {RT : Ret} {r : qT75} {rec_ : Tr_n48_3} (hb : LpOk F_n48 RT r (Lh_n48_l1 rec_) base_n48_l1) (hx : AllExits F_n48 RT r base_n48_l1 [(0, Lx_n48_l1)]) (hr : qH (fun _ => none) r RT) : LpOk F_n48 RT r (L_n48_k5 rec_) ([tc F_n48 [1, 1, 1, 1, 1, 4, 0, 1, 1, 5, 4, 1, 0, 1, 1, 1, 1, 1, 1, 1, 1], .blk 1, tc F_n48 [1, 1, 1, 5, 4, 1, 0, 1, 1, 1, 1, 1, 1, 1, 1]].map TI'.conc ++ base_n48_l1) := fun v w hi h => Pt.evlAt F_n48_ok (r := r) 4000 (cuts := [([1, 1, 1, 5, 4, 1, 0, 1, 1, 1, 1, 1, 1, 1, 1], (L_n48_j6 rec_))]) (back := (some (Lh_n48_l1 rec_))) (exits := [(0, Lx_n48_l1)]) (ret := (fun _ => none)) (base := base_n48_l1) (pre := [tc F_n48 [1, 1, 1, 1, 1, 4, 0, 1, 1, 5, 4, 1, 0, 1, 1, 1, 1, 1, 1, 1, 1], .blk 1, tc F_n48 [1, 1, 1, 5, 4, 1, 0, 1, 1, 1, 1, 1, 1, 1, 1]]) (T := Lp.st F_n48 (L_n48_k5 rec_) v w) (by kernel_rfl) hi (Eq.trans (by kernel_rfl) h) ⟨by kernel_rfl, by kernel_rfl, trivial⟩ ⟨(L_n48_j6_ok hb hx hr), trivial⟩ (fun L hL => by cases hL; exact hb) (fun hn => nomatch hn) hx hr
def base_n48_l4 : List Eng.Item := .lp (codeAt F_n48 [5, 4, 1, 1, 1, 2, 1, 0, 1, 1, 1, 1, 4, 0, 1, 1, 5, 4, 1, 0, 1, 1, 1, 1, 1, 1, 1, 1]) :: ([.blk 6, tc F_n48 [1, 1, 1, 1, 1, 4, 0, 1, 1, 5, 4, 1, 0, 1, 1, 1, 1, 1, 1, 1, 1], .blk 1, tc F_n48 [1, 1, 1, 5, 4, 1, 0, 1, 1, 1, 1, 1, 1, 1, 1]].map TI'.conc ++ base_n48_l1)
def Lh_n48_l4 (rec_ : qL2 → Str → Int → Int → Int → Int → Gk_Dice → qL1 → qL1 → GaTable → GaTable → Option qT68) : Lp U qT68 := ⟨[5, 6, 7, 8, 9, 11, 12, 35, 36, 37, 99, 100], [], qs4, qo44, fun v w => rec_ v.2.1 v.2.2.1 v.2.2.2.2.2.2.2.2.1 v.2.2.2.2.2.2.2.2.2.1 v.2.2.2.2.2.2.2.2.2.2.1 v.2.2.2.2.2.2.2.2.2.2.2.1 w.1 w.2.1 w.2.2.1 w.2.2.2.1 w.2.2.2.2.1⟩
def Lx_n48_l4 : Lp U qT68 := ⟨[5, 6, 7, 8, 9, 12, 35, 36, 37], [12], [.o (.ptr (0, 1, 1) 0 0), .o (.v (.sl (.st 0))), .o (.v .str), .o (.full (0, 2, 1)), .o (.full (0, 3, 1)), .o (.pp (.st 4)), .o (.full (0, 2, 1)), qi, qi], qo52, fun v w => some (v.2.1, v.2.2.1, v.2.2.2.2.2.1, v.2.2.2.2.2.2.2.1, v.2.2.2.2.2.2.2.2.1, w.1, w.2.1, w.2.2.1)⟩
theorem sl42_AccessHides_l4_ok {RT : Ret} {r : qT68} (hx : AllExits F_n48 RT r base_n48_l4 [(6, Lx_n48_l4)]) (hr : qH (fun _ => none) r RT) : ∀ n, LpOk F_n48 RT r (Lh_n48_l4 (sl42_AccessHides_l4 n)) (stAt F_n48 [4, 1, 1, 1, 2, 1, 0, 1, 1, 1, 1, 4, 0, 1, 1, 5, 4, 1, 0, 1, 1, 1, 1, 1, 1, 1, 1]) :=
  loop_ok F_n48_ok 4000 (q := [4, 1, 1, 1, 2, 1, 0, 1, 1, 1, 1, 4, 0, 1, 1, 5, 4, 1, 0, 1, 1, 1, 1, 1, 1, 1, 1]) (body := codeAt F_n48 [5, 4, 1, 1, 1, 2, 1, 0, 1, 1, 1, 1, 4, 0, 1, 1, 5, 4, 1, 0, 1, 1, 1, 1, 1, 1, 1, 1]) (live := [5, 6, 7, 8, 9, 11, 12, 35, 36, 37, 99, 100]) (frz := []) (shs := qs4) (sho := qo44) (fun n v w => sl42_AccessHides_l4 n v.2.1 v.2.2.1 v.2.2.2.2.2.2.2.2.1 v.2.2.2.2.2.2.2.2.2.1 v.2.2.2.2.2.2.2.2.2.2.1 v.2.2.2.2.2.2.2.2.2.2.2.1 w.1 w.2.1 w.2.2.1 w.2.2.2.1 w.2.2.2.2.1) (cuts := fun n => []) (exits := [(6, Lx_n48_l4)]) (ret := (fun _ => none)) (by kernel_rfl) (fun _ _ => rfl) (fun n v w => by kernel_rfl) (fun n hb => trivial) hx hr
def Lc_n48_l4 (rec_ : Tr_n48_3) : Lp U qT75 := ⟨[5, 6, 7, 8, 9, 11, 12, 35, 36, 37, 99, 100], [], qs4, qo44, fun v w => (sl42_AccessHides_l4 big v.2.1 v.2.2.1 v.2.2.2.2.2.2.2.2.1 v.2.2.2.2.2.2.2.2.2.1 v.2.2.2.2.2.2.2.2.2.2.1 v.2.2.2.2.2.2.2.2.2.2.2.1 w.1 w.2.1 w.2.2.1 w.2.2.2.1 w.2.2.2.2.1).bind fun (x0, x1, x2, x3, x4, x5, x6, x7) => sl42_AccessHides_k5 rec_ x0 x1 x2 x3 x4 x5 x6 x7⟩
theorem Lc_n48_l4_ok {RT : Ret} {r : qT75} {rec_ : Tr_n48_3} (hb : LpOk F_n48 RT r (Lh_n48_l1 rec_) base_n48_l1) (hx : AllExits F_n48 RT r base_n48_l1 [(0, Lx_n48_l1)]) (hr : qH (fun _ => none) r RT) : LpOk F_n48 RT r (Lc_n48_l4 rec_) (stAt F_n48 [4, 1, 1, 1, 2, 1, 0, 1, 1, 1, 1, 4, 0, 1, 1, 5, 4, 1, 0, 1, 1, 1, 1, 1, 1, 1, 1]) := fun v w hi h0 => by
  obtain ⟨x, hx0, h⟩ := bind_some h0
  exact sl42_AccessHides_l4_ok (r := x) (RT := RT) ⟨⟨[tc F_n48 [1, 1, 1, 1, 1, 4, 0, 1, 1, 5, 4, 1, 0, 1, 1, 1, 1, 1, 1, 1, 1], .blk 1, tc F_n48 [1, 1, 1, 5, 4, 1, 0, 1, 1, 1, 1, 1, 1, 1, 1]].map TI'.conc ++ base_n48_l1, by kernel_rfl, fun v' w' hi' h' => by obtain rfl := Option.some.inj h'; exact L_n48_k5_ok hb hx hr v' w' hi' h⟩, trivial⟩ (fun _ ht => nomatch ht) big v w hi hx0
def L_n48_k4 (rec_ : Tr_n48_3) : Lp U qT75 := ⟨[5, 6, 7, 8, 9, 11, 12, 13, 35, 36, 37], [], qs8, qo22, fun v w => sl42_AccessHides_k4 rec_ v.2.1 v.2.2.1 v.2.2.2.2.2.2.2.1 v.2.2.2.2.2.2.2.2.2.1 v.2.2.2.2.2.2.2.2.2.2.1 w.1 w.2.1 w.2.2.1 w.2.2.2.1 w.2.2.2.2.1.1 w.2.2.2.2.1.2.1 w.2.2.2.2.2.1⟩
theorem L_n48_k4_ok {RT : Ret} {r : qT75} {rec_ : Tr_n48_3} (hb : LpOk F_n48 RT r (Lh_n48_l1 rec_) base_n48_l1) (hx : AllExits F_n48 RT r base_n48_l1 [(0, Lx_n48_l1)]) (hr : qH (fun _ => none) r RT) : LpOk F_n48 RT r (L_n48_k4 rec_) ([tc F_n48 [1, 1, 1, 1, 4, 0, 1, 1, 5, 4, 1, 0, 1, 1, 1, 1, 1, 1, 1, 1], .blk 1, tc F_n48 [1, 1, 1, 5, 4, 1, 0, 1, 1, 1, 1, 1, 1, 1, 1]].map TI'.conc ++ base_n48_l1) := fun v w hi h => Pt.evlAt F_n48_ok (r := r) 4000 (cuts := [([1, 1, 1, 5, 4, 1, 0, 1, 1, 1, 1, 1, 1, 1, 1], (L_n48_j6 rec_)), ([4, 1, 1, 1, 2, 1, 0, 1, 1, 1, 1, 4, 0, 1, 1, 5, 4, 1, 0, 1, 1, 1, 1, 1, 1, 1, 1], (Lc_n48_l4 rec_))]) (back := (some (Lh_n48_l1 rec_))) (exits := [(0, Lx_n48_l1)]) (ret := (fun _ => none)) (base := base_n48_l1) (pre := [tc F_n48 [1, 1, 1, 1, 4, 0, 1, 1, 5, 4, 1, 0, 1, 1, 1, 1, 1, 1, 1, 1], .blk 1, tc F_n48 [1, 1, 1, 5, 4, 1, 0, 1, 1, 1, 1, 1, 1, 1, 1]]) (T := Lp.st F_n48 (L_n48_k4 rec_) v w) (by kernel_rfl) hi (Eq.trans (by kernel_rfl) h) ⟨by kernel_rfl, by kernel_rfl, trivial⟩ ⟨(L_n48_j6_ok hb hx hr), (Lc_n48_l4_ok hb hx hr), trivial⟩ (fun L hL => by cases hL; exact hb) (fun hn => nomatch hn) hx hr
def base_n48_l2 : List Eng.Item := .lp (codeAt F_n48 [5, 4, 1, 0, 1, 1, 1, 4, 0, 1, 1, 5, 4, 1, 0, 1, 1, 1, 1, 1, 1, 1, 1]) :: ([.blk 2, tc F_n48 [1, 1, 1, 1, 4, 0, 1, 1, 5, 4, 1, 0, 1, 1, 1, 1, 1, 1, 1, 1], .blk 1, tc F_n48 [1, 1, 1, 5, 4, 1, 0, 1, 1, 1, 1, 1, 1, 1, 1]].map TI'.conc ++ base_n48_l1)
def Lh_n48_l2 (rec_ : Tr_n48_1) : Lp U qT65 := ⟨[5, 6, 7, 8, 9, 11, 12, 13, 35, 36, 37, 47, 48, 49], [6], qs3, qo22, fun v w => rec_ v.2.1 v.2.2.1 v.2.2.2.2.2.2.2.1 v.2.2.2.2.2.2.2.2.2.1 v.2.2.2.2.2.2.2.2.2.2.1 v.2.2.2.2.2.2.2.2.2.2.2.1 v.2.2.2.2.2.2.2.2.2.2.2.2.1 v.2.2.2.2.2.2.2.2.2.2.2.2.2.1 w.1 w.2.1 w.2.2.1 w.2.2.2.1 w.2.2.2.2.1.1 w.2.2.2.2.1.2.1 w.2.2.2.2.2.1⟩
def Lx_n48_l2 : Lp U qT65 := ⟨[5, 6, 7, 8, 9, 11, 12, 13, 35, 36, 37], [], qs8, qo22, fun v w => some (v.2.1, v.2.2.1, v.2.2.2.2.2.2.2.1, v.2.2.2.2.2.2.2.2.2.1, v.2.2.2.2.2.2.2.2.2.2.1, w.1, w.2.1, w.2.2.1, w.2.2.2.1, w.2.2.2.2.1.1, w.2.2.2.2.1.2.1, w.2.2.2.2.2.1)⟩
def L_n48_j3 (rec_ : Tr_n48_1) : Lp U qT65 := ⟨[5, 6, 7, 8, 9, 11, 12, 13, 35, 36, 37, 47, 48, 49], [], qs3, qo22, fun v w => sl42_AccessHides_j3 rec_ v.2.1 v.2.2.1 v.2.2.2.2.2.2.2.1 v.2.2.2.2.2.2.2.2.2.1 v.2.2.2.2.2.2.2.2.2.2.1 v.2.2.2.2.2.2.2.2.2.2.2.1 v.2.2.2.2.2.2.2.2.2.2.2.2.1 v.2.2.2.2.2.2.2.2.2.2.2.2.2.1 w.1 w.2.1 w.2.2.1 w.2.2.2.1 w.2.2.2.2.1.1 w.2.2.2.2.1.2.1 w.2.2.2.2.2.1⟩
theorem L_n48_j3_ok {RT : Ret} {r : qT65} {rec_ : Tr_n48_1} (hb : LpOk F_n48 RT r (Lh_n48_l2 rec_) base_n48_l2) (hx : AllExits F_n48 RT r base_n48_l2 [(2, Lx_n48_l2)]) (hr : qH (fun _ => none) r RT) : LpOk F_n48 RT r (L_n48_j3 rec_) (stAt F_n48 [1, 1, 1, 5, 4, 1, 0, 1, 1, 1, 4, 0, 1, 1, 5, 4, 1, 0, 1, 1, 1, 1, 1, 1, 1, 1]) := fun v w hi h => Pt.evlAt F_n48_ok (r := r) 4000 (cuts := []) (back := (some (Lh_n48_l2 rec_))) (exits := [(2, Lx_n48_l2)]) (ret := (fun _ => none)) (base := base_n48_l2) (pre := [tc F_n48 [1, 1, 1, 5, 4, 1, 0, 1, 1, 1, 4, 0, 1, 1, 5, 4, 1, 0, 1, 1, 1, 1, 1, 1, 1, 1]]) (T := Lp.st F_n48 (L_n48_j3 rec_) v w) (by kernel_rfl) hi (Eq.trans (by kernel_rfl) h) ⟨by kernel_rfl, trivial⟩ trivial (fun L hL => by cases hL; exact hb) (fun hn => nomatch hn) hx hr
def L_n48_k2 (rec_ : Tr_n48_1) : Lp U qT65 := ⟨[5, 6, 7, 8, 9, 11, 12, 13, 16, 35, 36, 37, 47, 48, 49], [], qs2, qo11, fun v w => sl42_AccessHides_k2 rec_ v.2.1 v.2.2.1 v.2.2.2.2.2.2.2.1 v.2.2.2.2.2.2.2.2.2.2.1 v.2.2.2.2.2.2.2.2.2.2.2.1 v.2.2.2.2.2.2.2.2.2.2.2.2.1 v.2.2.2.2.2.2.2.2.2.2.2.2.2.1 v.2.2.2.2.2.2.2.2.2.2.2.2.2.2.1 w.1 w.2.1 w.2.2.1 w.2.2.2.1 w.2.2.2.2.1.1 w.2.2.2.2.1.2.1 w.2.2.2.2.2.1.1 w.2.2.2.2.2.2.1 w.2.2.2.2.2.2.2.1⟩
theorem L_n48_k2_ok {RT : Ret} {r : qT65} {rec_ : Tr_n48_1} (hb : LpOk F_n48 RT r (Lh_n48_l2 rec_) base_n48_l2) (hx : AllExits F_n48 RT r base_n48_l2 [(2, Lx_n48_l2)]) (hr : qH (fun _ => none) r RT) : LpOk F_n48 RT r (L_n48_k2 rec_) ([tc F_n48 [1, 1, 1, 1, 4, 0, 1, 1, 5, 4, 1, 0, 1, 1, 1, 4, 0, 1, 1, 5, 4, 1, 0, 1, 1, 1, 1, 1, 1, 1, 1], .blk 3, tc F_n48 [1, 1, 1, 5, 4, 1, 0, 1, 1, 1, 4, 0, 1, 1, 5, 4, 1, 0, 1, 1, 1, 1, 1, 1, 1, 1]].map TI'.conc ++ base_n48_l2) := fun v w hi h => Pt.evlAt F_n48_ok (r := r) 4000 (cuts := [([1, 1, 1, 5, 4, 1, 0, 1, 1, 1, 4, 0, 1, 1, 5, 4, 1, 0, 1, 1, 1, 1, 1, 1, 1, 1], (L_n48_j3 rec_))]) (back := (some (Lh_n48_l2 rec_))) (exits := [(2, Lx_n48_l2)]) (ret := (fun _ => none)) (base := base_n48_l2) (pre := [tc F_n48 [1, 1, 1, 1, 4, 0, 1, 1, 5, 4, 1, 0, 1, 1, 1, 4, 0, 1, 1, 5, 4, 1, 0, 1, 1, 1, 1, 1, 1, 1, 1], .blk 3, tc F_n48 [1, 1, 1, 5, 4, 1, 0, 1, 1, 1, 4, 0, 1, 1, 5, 4, 1, 0, 1, 1, 1, 1, 1, 1, 1, 1]]) (T := Lp.st F_n48 (L_n48_k2 rec_) v w) (by kernel_rfl) hi (Eq.trans (by kernel_rfl) h) ⟨by kernel_rfl, by kernel_rfl, trivial⟩ ⟨(L_n48_j3_ok hb hx hr), trivial⟩ (fun L hL => by cases hL; exact hb) (fun hn => nomatch hn) hx hr
def base_n48_l3 : List Eng.Item := .lp (codeAt F_n48 [5, 4, 1, 0, 1, 1, 1, 4, 0, 1, 1, 5, 4, 1, 0, 1, 1, 1, 4, 0, 1, 1, 5, 4, 1, 0, 1, 1, 1, 1, 1, 1, 1, 1]) :: ([.blk 4, tc F_n48 [1, 1, 1, 1, 4, 0, 1, 1, 5, 4, 1, 0, 1, 1, 1, 4, 0, 1, 1, 5, 4, 1, 0, 1, 1, 1, 1, 1, 1, 1, 1], .blk 3, tc F_n48 [1, 1, 1, 5, 4, 1, 0, 1, 1, 1, 4, 0, 1, 1, 5, 4, 1, 0, 1, 1, 1, 1, 1, 1, 1, 1]].map TI'.conc ++ base_n48_l2)
def Lh_n48_l3 (rec_ : qL2 → Str → Bool → Int → Int → qL0 → Int → Int → Int → Int → Gk_Dice → qL1 → qL1 → GaTable → Int → Str → Str → qL0 → qL4 → Option qT64) : Lp U qT64 := ⟨[5, 6, 7, 8, 9, 11, 12, 13, 16, 35, 36, 37, 47, 48, 49, 70, 71], [], qs1, qo11, fun v w => rec_ v.2.1 v.2.2.1 v.2.2.2.2.2.2.2.1 v.2.2.2.2.2.2.2.2.2.2.1 v.2.2.2.2.2.2.2.2.2.2.2.1 v.2.2.2.2.2.2.2.2.2.2.2.2.1 v.2.2.2.2.2.2.2.2.2.2.2.2.2.1 v.2.2.2.2.2.2.2.2.2.2.2.2.2.2.1 v.2.2.2.2.2.2.2.2.2.2.2.2.2.2.2.1 v.2.2.2.2.2.2.2.2.2.2.2.2.2.2.2.2.1 w.1 w.2.1 w.2.2.1 w.2.2.2.1 w.2.2.2.2.1.1 w.2.2.2.2.1.2.1 w.2.2.2.2.2.1.1 w.2.2.2.2.2.2.1 w.2.2.2.2.2.2.2.1⟩
def Lx_n48_l3 : Lp U qT64 := ⟨[5, 6, 7, 8, 9, 11, 12, 13, 16, 35, 36, 37, 47, 48, 49], [], qs2, qo11, fun v w => some (v.2.1, v.2.2.1, v.2.2.2.2.2.2.2.1, v.2.2.2.2.2.2.2.2.2.2.1, v.2.2.2.2.2.2.2.2.2.2.2.1, v.2.2.2.2.2.2.2.2.2.2.2.2.1, v.2.2.2.2.2.2.2.2.2.2.2.2.2.1, v.2.2.2.2.2.2.2.2.2.2.2.2.2.2.1, w.1, w.2.1, w.2.2.1, w.2.2.2.1, w.2.2.2.2.1.1, w.2.2.2.2.1.2.1, w.2.2.2.2.2.1.1, w.2.2.2.2.2.2.1, w.2.2.2.2.2.2.2.1)⟩
theorem sl42_AccessHides_l3_ok {RT : Ret} {r : qT64} (hx : AllExits F_n48 RT r base_n48_l3 [(4, Lx_n48_l3)]) (hr : qH (fun _ => none) r RT) : ∀ n, LpOk F_n48 RT r (Lh_n48_l3 (sl42_AccessHides_l3 n)) (stAt F_n48 [4, 1, 0, 1, 1, 1, 4, 0, 1, 1, 5, 4, 1, 0, 1, 1, 1, 4, 0, 1, 1, 5, 4, 1, 0, 1, 1, 1, 1, 1, 1, 1, 1]) :=
  loop_ok F_n48_ok 4000 (q := [4, 1, 0, 1, 1, 1, 4, 0, 1, 1, 5, 4, 1, 0, 1, 1, 1, 4, 0, 1, 1, 5, 4, 1, 0, 1, 1, 1, 1, 1, 1, 1, 1]) (body := codeAt F_n48 [5, 4, 1, 0, 1, 1, 1, 4, 0, 1, 1, 5, 4, 1, 0, 1, 1, 1, 4, 0, 1, 1, 5, 4, 1, 0, 1, 1, 1, 1, 1, 1, 1, 1]) (live := [5, 6, 7, 8, 9, 11, 12, 13, 16, 35, 36, 37, 47, 48, 49, 70, 71]) (frz := []) (shs := qs1) (sho := qo11) (fun n v w => sl42_AccessHides_l3 n v.2.1 v.2.2.1 v.2.2.2.2.2.2.2.1 v.2.2.2.2.2.2.2.2.2.2.1 v.2.2.2.2.2.2.2.2.2.2.2.1 v.2.2.2.2.2.2.2.2.2.2.2.2.1 v.2.2.2.2.2.2.2.2.2.2.2.2.2.1 v.2.2.2.2.2.2.2.2.2.2.2.2.2.2.1 v.2.2.2.2.2.2.2.2.2.2.2.2.2.2.2.1 v.2.2.2.2.2.2.2.2.2.2.2.2.2.2.2.2.1 w.1 w.2.1 w.2.2.1 w.2.2.2.1 w.2.2.2.2.1.1 w.2.2.2.2.1.2.1 w.2.2.2.2.2.1.1 w.2.2.2.2.2.2.1 w.2.2.2.2.2.2.2.1) (cuts := fun n => []) (exits := [(4, Lx_n48_l3)]) (ret := (fun _ => none)) (by kernel_rfl) (fun _ _ => rfl) (fun n v w => by kernel_rfl) (fun n hb => trivial) hx hr
def Lc_n48_l3 (rec_ : Tr_n48_1) : Lp U qT65 := ⟨[5, 6, 7, 8, 9, 11, 12, 13, 16, 35, 36, 37, 47, 48, 49, 70, 71], [], qs1, qo11, fun v w => (sl42_AccessHides_l3 big v.2.1 v.2.2.1 v.2.2.2.2.2.2.2.1 v.2.2.2.2.2.2.2.2.2.2.1 v.2.2.2.2.2.2.2.2.2.2.2.1 v.2.2.2.2.2.2.2.2.2.2.2.2.1 v.2.2.2.2.2.2.2.2.2.2.2.2.2.1 v.2.2.2.2.2.2.2.2.2.2.2.2.2.2.1 v.2.2.2.2.2.2.2.2.2.2.2.2.2.2.2.1 v.2.2.2.2.2.2.2.2.2.2.2.2.2.2.2.2.1 w.1 w.2.1 w.2.2.1 w.2.2.2.1 w.2.2.2.2.1.1 w.2.2.2.2.1.2.1 w.2.2.2.2.2.1.1 w.2.2.2.2.2.2.1 w.2.2.2.2.2.2.2.1).bind fun (x0, x1, x2, x3, x4, x5, x6, x7, x8, x9, x10, x11, x12, x13, x14, x15, x16) => sl42_AccessHides_k2 rec_ x0 x1 x2 x3 x4 x5 x6 x7 x8 x9 x10 x11 x12 x13 x14 x15 x16⟩
theorem Lc_n48_l3_ok {RT : Ret} {r : qT65} {rec_ : Tr_n48_1} (hb : LpOk F_n48 RT r (Lh_n48_l2 rec_) base_n48_l2) (hx : AllExits F_n48 RT r base_n48_l2 [(2, Lx_n48_l2)]) (hr : qH (fun _ => none) r RT) : LpOk F_n48 RT r (Lc_n48_l3 rec_) (stAt F_n48 [4, 1, 0, 1, 1, 1, 4, 0, 1, 1, 5, 4, 1, 0, 1, 1, 1, 4, 0, 1, 1, 5, 4, 1, 0, 1, 1, 1, 1, 1, 1, 1, 1]) := fun v w hi h0 => by
  obtain ⟨x, hx0, h⟩ := bind_some h0
  exact sl42_AccessHides_l3_ok (r := x) (RT := RT) ⟨⟨[tc F_n48 [1, 1, 1, 1, 4, 0, 1, 1, 5, 4, 1, 0, 1, 1, 1, 4, 0, 1, 1, 5, 4, 1, 0, 1, 1, 1, 1, 1, 1, 1, 1], .blk 3, tc F_n48 [1, 1, 1, 5, 4, 1, 0, 1, 1, 1, 4, 0, 1, 1, 5, 4, 1, 0, 1, 1, 1, 1, 1, 1, 1, 1]].map TI'.conc ++ base_n48_l2, by kernel_rfl, fun v' w' hi' h' => by obtain rfl := Option.some.inj h'; exact L_n48_k2_ok hb hx hr v' w' hi' h⟩, trivial⟩ (fun _ ht => nomatch ht) big v w hi hx0
theorem sl42_AccessHides_l2_ok {RT : Ret} {r : qT65} (hx : AllExits F_n48 RT r base_n48_l2 [(2, Lx_n48_l2)]) (hr : qH (fun _ => none) r RT) : ∀ n, LpOk F_n48 RT r (Lh_n48_l2 (sl42_AccessHides_l2 n)) (stAt F_n48 [4, 1, 0, 1, 1, 1, 4, 0, 1, 1, 5, 4, 1, 0, 1, 1, 1, 1, 1, 1, 1, 1]) :=
  loop_ok F_n48_ok 4000 (q := [4, 1, 0, 1, 1, 1, 4, 0, 1, 1, 5, 4, 1, 0, 1, 1, 1, 1, 1, 1, 1, 1]) (body := codeAt F_n48 [5, 4, 1, 0, 1, 1, 1, 4, 0, 1, 1, 5, 4, 1, 0, 1, 1, 1, 1, 1, 1, 1, 1]) (live := [5, 6, 7, 8, 9, 11, 12, 13, 35, 36, 37, 47, 48, 49]) (frz := [6]) (shs := qs3) (sho := qo22) (fun n v w => sl42_AccessHides_l2 n v.2.1 v.2.2.1 v.2.2.2.2.2.2.2.1 v.2.2.2.2.2.2.2.2.2.1 v.2.2.2.2.2.2.2.2.2.2.1 v.2.2.2.2.2.2.2.2.2.2.2.1 v.2.2.2.2.2.2.2.2.2.2.2.2.1 v.2.2.2.2.2.2.2.2.2.2.2.2.2.1 w.1 w.2.1 w.2.2.1 w.2.2.2.1 w.2.2.2.2.1.1 w.2.2.2.2.1.2.1 w.2.2.2.2.2.1) (cuts := fun n => [([1, 1, 1, 5, 4, 1, 0, 1, 1, 1, 4, 0, 1, 1, 5, 4, 1, 0, 1, 1, 1, 1, 1, 1, 1, 1], L_n48_j3 (sl42_AccessHides_l2 n)), ([4, 1, 0, 1, 1, 1, 4, 0, 1, 1, 5, 4, 1, 0, 1, 1, 1, 4, 0, 1, 1, 5, 4, 1, 0, 1, 1, 1, 1, 1, 1, 1, 1], Lc_n48_l3 (sl42_AccessHides_l2 n))]) (exits := [(2, Lx_n48_l2)]) (ret := (fun _ => none)) (by kernel_rfl) (fun _ _ => rfl) (fun n v w => by kernel_rfl) (fun n hb => ⟨L_n48_j3_ok hb hx hr, Lc_n48_l3_ok hb hx hr, trivial⟩) hx hr
def Lc_n48_l2 (rec_ : Tr_n48_3) : Lp U qT75 := ⟨[5, 6, 7, 8, 9, 11, 12, 13, 35, 36, 37, 47, 48, 49], [6], qs3, qo22, fun v w => (sl42_AccessHides_l2 big v.2.1 v.2.2.1 v.2.2.2.2.2.2.2.1 v.2.2.2.2.2.2.2.2.2.1 v.2.2.2.2.2.2.2.2.2.2.1 v.2.2.2.2.2.2.2.2.2.2.2.1 v.2.2.2.2.2.2.2.2.2.2.2.2.1 v.2.2.2.2.2.2.2.2.2.2.2.2.2.1 w.1 w.2.1 w.2.2.1 w.2.2.2.1 w.2.2.2.2.1.1 w.2.2.2.2.1.2.1 w.2.2.2.2.2.1).bind fun (x0, x1, x2, x3, x4, x5, x6, x7, x8, x9, x10, x11) => sl42_AccessHides_k4 rec_ x0 x1 x2 x3 x4 x5 x6 x7 x8 x9 x10 x11⟩
theorem Lc_n48_l2_ok {RT : Ret} {r : qT75} {rec_ : Tr_n48_3} (hb : LpOk F_n48 RT r (Lh_n48_l1 rec_) base_n48_l1) (hx : AllExits F_n48 RT r base_n48_l1 [(0, Lx_n48_l1)]) (hr : qH (fun _ => none) r RT) : LpOk F_n48 RT r (Lc_n48_l2 rec_) (stAt F_n48 [4, 1, 0, 1, 1, 1, 4, 0, 1, 1, 5, 4, 1, 0, 1, 1, 1, 1, 1, 1, 1, 1]) := fun v w hi h0 => by
  obtain ⟨x, hx0, h⟩ := bind_some h0
  exact sl42_AccessHides_l2_ok (r := x) (RT := RT) ⟨⟨[tc F_n48 [1, 1, 1, 1, 4, 0, 1, 1, 5, 4, 1, 0, 1, 1, 1, 1, 1, 1, 1, 1], .blk 1, tc F_n48 [1, 1, 1, 5, 4, 1, 0, 1, 1, 1, 1, 1, 1, 1, 1]].map TI'.conc ++ base_n48_l1, by kernel_rfl, fun v' w' hi' h' => by obtain rfl := Option.some.inj h'; exact L_n48_k4_ok hb hx hr v' w' hi' h⟩, trivial⟩ (fun _ ht => nomatch ht) big v w hi hx0
theorem sl42_AccessHides_l1_ok {RT : Ret} {r : qT75} (hx : AllExits F_n48 RT r base_n48_l1 [(0, Lx_n48_l1)]) (hr : qH (fun _ => none) r RT) : ∀ n, LpOk F_n48 RT r (Lh_n48_l1 (sl42_AccessHides_l1 n)) (stAt F_n48 [4, 1, 0, 1, 1, 1, 1, 1, 1, 1, 1]) :=
  loop_ok F_n48_ok 4000 (q := [4, 1, 0, 1, 1, 1, 1, 1, 1, 1, 1]) (body := codeAt F_n48 [5, 4, 1, 0, 1, 1, 1, 1, 1, 1, 1, 1]) (live := [5, 6, 7, 8, 9, 35, 36, 37]) (frz := [6]) (shs := qs18) (sho := qo52) (fun n v w => sl42_AccessHides_l1 n v.2.1 v.2.2.1 v.2.2.2.2.2.2.1 v.2.2.2.2.2.2.2.1 w.1 w.2.1 w.2.2.1) (cuts := fun n => [([4, 1, 0, 1, 1, 1, 4, 0, 1, 1, 5, 4, 1, 0, 1, 1, 1, 1, 1, 1, 1, 1], Lc_n48_l2 (sl42_AccessHides_l1 n))]) (exits := [(0, Lx_n48_l1)]) (ret := (fun _ => none)) (by kernel_rfl) (fun _ _ => rfl) (fun n v w => by kernel_rfl) (fun n hb => ⟨Lc_n48_l2_ok hb hx hr, trivial⟩) hx hr
def Lc_n48_l1 : Lp U Bool := ⟨[5, 6, 7, 8, 9, 35, 36, 37], [6], qs18, qo52, fun v w => (sl42_AccessHides_l1 big v.2.1 v.2.2.1 v.2.2.2.2.2.2.1 v.2.2.2.2.2.2.2.1 w.1 w.2.1 w.2.2.1).bind fun (x0, x1, x2, x3) => sl42_AccessHides_k7 x0 x1 x2 x3⟩
theorem Lc_n48_l1_ok (r : Bool) : LpOk F_n48 (b_n48 r).enc r (Lc_n48_l1) (stAt F_n48 [4, 1, 0, 1, 1, 1, 1, 1, 1, 1, 1]) := fun v w hi h0 => by
  obtain ⟨x, hx0, h⟩ := bind_some h0
  exact sl42_AccessHides_l1_ok (r := x) (RT := (b_n48 r).enc) ⟨⟨[tc F_n48 [1, 1, 1, 1, 1, 1, 1, 1, 1]].map TI'.conc ++ [], by kernel_rfl, fun v' w' hi' h' => by obtain rfl := Option.some.inj h'; exact L_n48_k7_ok r v' w' hi' h⟩, trivial⟩ (fun _ ht => nomatch ht) big v w hi hx0
def L_n48_j1 : Lp U Bool := ⟨[5, 6, 7], [], [.o (.ptr (0, 1, 1) 0 0), .o (.full (0, 2, 1)), .o (.v .str)], qo57, fun v w => sl42_AccessHides_j1 v.2.2.1 w.1 w.2.1⟩
theorem L_n48_j1_ok (r : Bool) : LpOk F_n48 (b_n48 r).enc r (L_n48_j1) (stAt F_n48 [1, 1, 1, 1, 1, 1]) := fun v w hi h => Pt.ev0 F_n48_ok (S := R_n48) (g := g_n48) (b := b_n48) (cuts := [([4, 1, 0, 1, 1, 1, 1, 1, 1, 1, 1], Lc_n48_l1)]) (pre := [tc F_n48 [1, 1, 1, 1, 1, 1]]) (T := Lp.st F_n48 (L_n48_j1) v w) (by kernel_rfl) hi (Eq.trans (by kernel_rfl) h) ⟨by kernel_rfl, trivial⟩ ⟨(Lc_n48_l1_ok r), trivial⟩ fun _ => rfl
def S_sl42_AccessHides : FSig U := ⟨Bool, [25, 4], [.p, .p], [none, none], [.p (.sl (.int .i64)), .p .bool], fun v => sl42_AccessHides v.1 v.2.1, b_n48⟩
theorem S_sl42_AccessHides_ok : SigOk X0.E 9 S_sl42_AccessHides.sig := FSig.ok0 F_n48_ok (R := R_n48) (g := g_n48) (cuts := [([1, 1, 1, 1, 1, 1], L_n48_j1)]) (pre := [tc0 F_n48]) rfl Tryd.func9 (by decide) rfl (fun _ => Nat.le_of_ble_eq_true (by kernel_rfl)) (fun _ => rfl) (by kernel_rfl) (fun _ _ h => Eq.trans (by kernel_rfl) h) ⟨rfl, trivial⟩ (fun r => ⟨(L_n48_j1_ok r), trivial⟩) fun _ => rfl

end
end Go.Proofs
