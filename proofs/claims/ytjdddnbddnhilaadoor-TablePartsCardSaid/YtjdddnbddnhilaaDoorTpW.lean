/- Printed by wip/tools/tgen.py: walks. -/
import Derived.Test.YtjdddnbddnhilaaDoorTpU
import Derived.Test.YtjdddnbddnhilaaDoorTpX
set_option linter.unusedVariables false
set_option linter.unusedSimpArgs false
set_option linter.unusedSectionVars false
namespace Go.Proofs
open Go Eng
set_option maxRecDepth 100000
noncomputable section

/-! ### names -/
abbrev qH {R : Type} (f : TRet U → Option R) (r : R) (RT : Ret) : Prop := ∀ t : TRet U, f t = some r → t.enc = RT
abbrev qi : Sh := .o (.v (.int .i64))
abbrev qo1 : List ShO := [.boxS (.st 5), .box [qi, .o (.v .str), .o (.full (0, 3, 1))], .box [qi, .o (.v .str), .o (.full (0, 4, 1))], .arr (.st 2) false, .arr (.st 2) false]
abbrev qo2 : List ShO := [.box [qi, .o (.v .str), .o (.full (0, 3, 1))], .box [qi, .o (.v .str), .o (.full (0, 4, 1))], .arr (.st 2) false, .arr (.st 2) false]
abbrev qs3 : List Sh := [.o (.ptr (0, 1, 1) 0 0), .o (.ptr (0, 2, 1) 0 0), .o (.v (.sl (.int .i64))), .o (.full (0, 3, 1)), .o (.ptr (0, 4, 1) 0 0), .o (.full (0, 5, 1)), qi]
abbrev qs4 : List Sh := [.o (.ptr (0, 1, 1) 0 0), .o (.ptr (0, 2, 1) 0 0), .o (.full (0, 3, 1)), .o (.full (0, 4, 1)), .o (.full (0, 5, 1)), .o (.full (0, 6, 1)), qi]
abbrev qs5 : List Sh := [qi, .o (.pp (.st 3)), .o (.ptr (0, 1, 1) 0 0), .o (.ptr (0, 2, 1) 0 0), .o (.v (.sl (.int .i64))), qi, qi]
abbrev qo6 : List ShO := [.boxS (.st 5), .box [.o (.v .str), .o (.full (0, 4, 1))], .box [.o (.v .str), .o (.full (0, 5, 1))], .boxS (.st 1), .arr (.st 1) false, .arr (.st 1) false]
abbrev qo7 : List ShO := [.boxS (.st 5), .box [.o (.v .str), .o (.full (0, 3, 1))], .box [.o (.v .str), .o (.full (0, 4, 1))], .arr (.st 1) false, .arr (.st 1) false]
abbrev qs8 : List Sh := [.o (.ptr (0, 1, 1) 0 0), .o (.ptr (0, 2, 1) 0 0), .o (.full (0, 3, 1)), .o (.full (0, 4, 1)), .o (.full (0, 5, 1)), .o (.full (0, 6, 1))]
abbrev qs9 : List Sh := [.o (.full (0, 0, 0)), qi, qi, .fn 149 [] [.pp (.st 3)], qi, qi]
abbrev qs10 : List Sh := [.o (.full (0, 0, 0)), qi, .fn 149 [] [.pp (.st 3)], qi, qi, qi]
abbrev qs11 : List Sh := [.o (.ptr (0, 0, 0) 0 0), qi, .o (.ptr (0, 1, 1) 0 0), .o (.ptr (0, 2, 1) 0 0), .o (.v .bool), qi]
abbrev qo12 : List ShO := [.box [.o (.v .str), .o (.full (0, 3, 1))], .box [.o (.v .str), .o (.full (0, 4, 1))], .arr (.st 1) false, .arr (.st 1) false]
abbrev qo13 : List ShO := [.boxS (.st 5), .boxS (.st 3), .arr (.int .i64) false, .arr (.int .i64) false, .arr (.int .i64) false, .arr (.int .i64) false]
abbrev qo14 : List ShO := [.boxS (.st 3), .box [qi, .o (.v .str), .o (.full (0, 4, 1))], .arr (.int .i64) false, .arr (.st 2) false]
abbrev qs15 : List Sh := [.o (.ptr (0, 0, 0) 0 0), .o (.ptr (0, 1, 1) 0 0), .o (.ptr (0, 2, 1) 0 0), qi, qi]
abbrev qs16 : List Sh := [.o (.ptr (0, 1, 1) 0 0), .o (.ptr (0, 2, 1) 0 0), .o (.full (0, 3, 1)), qi, qi]
abbrev qs17 : List Sh := [.o (.full (0, 0, 0)), qi, qi, .fn 149 [] [.pp (.st 3)], qi]
abbrev qs18 : List Sh := [.o (.full (0, 0, 0)), qi, .fn 149 [] [.pp (.st 3)], qi, qi]
abbrev qs19 : List Sh := [qi, qi, .o (.v (.sl (.st 2))), qi, qi]
abbrev qs20 : List Sh := [.o (.v (.sl (.st 2))), .fn 115 [] [], .o (.v (.sl (.st 2))), qi, qi]
abbrev qs21 : List Sh := [.o (.ptr (0, 1, 1) 0 0), .o (.full (0, 2, 1)), .o (.ptr (0, 3, 1) 0 0), .o (.full (0, 4, 1))]
abbrev qo22 : List ShO := [.boxS (.st 5), .boxS (.st 3), .arr (.int .i64) false, .boxS (.st 3), .arr (.int .i64) false]
abbrev qs23 : List Sh := [.o (.v (.sl (.st 2))), .fn 121 [] [.pp (.st 3)], qi, qi]
abbrev qs24 : List Sh := [.o (.full (0, 0, 0)), qi, .fn 149 [] [.pp (.st 3)], qi]
abbrev qs25 : List Sh := [.o (.v (.sl (.st 1))), .o (.v (.sl (.st 1))), qi, qi]
abbrev qo26 : List ShO := [.boxS (.st 3), .arr (.int .i64) false, .boxS (.st 3), .arr (.int .i64) false]
abbrev qs27 : List Sh := [.o (.ptr (0, 1, 1) 0 0), .o (.ptr (0, 2, 1) 0 0), .o (.full (0, 3, 1))]
abbrev qs28 : List Sh := [.o (.ptr (0, 1, 1) 0 0), .o (.ptr (0, 2, 1) 0 0), .o (.v .bool)]
abbrev qs29 : List Sh := [.o (.ptr (0, 1, 1) 0 0), .o (.ptr (0, 2, 1) 0 0)]
abbrev qs30 : List Sh := [.o (.v .str), .o (.v .bool)]
abbrev qT31 : Type := G_tablefindermill_Dice × GaTable × qL0 × qL0 × qL0 × qL0
abbrev qT32 : Type := G_tablefindermill_Dice × Int × Str × Int × Str × qL1 × qL1
abbrev qT33 : Type := G_tablefindermill_Dice × Str × Str × qL2 × qL2
abbrev qT34 : Type := Int × Str × Int × Str × qL1 × qL1
abbrev qT35 : Type := GaTable × Int × Str × qL0 × qL1
abbrev qT36 : Type := GaTable × qL0 × GaTable × qL0
abbrev qT37 : Type := Str × Str × qL2 × qL2
abbrev qT38 : Type := Int × Int × GaTable × Int × qL0
abbrev qT39 : Type := Int × GaTable × Int × Int × qL0
abbrev qT40 : Type := GaColumn × G_tablefindermill_Dice
abbrev qT41 : Type := GaTable × G_tablefindermill_Dice
abbrev qT42 : Type := GaCell × G_tablefindermill_Dice
abbrev qT43 : Type := Int × G_tablefindermill_Dice
abbrev qT44 : Type := GaTable × Int

/-! ### tablefinder/table.Rows -/
def c_n0 : Code := bodyOf Tryd.f68
def F_n0 : FC U := ⟨X0.at 13, Tryd.f68, c_n0, [], [], [.p], [none]⟩
theorem F_n0_ok : FOk F_n0 := fok uok tok0 eok0 mixed rfl trivial
def R_n0 : RSh := ⟨[.p (.int .i64)], []⟩
def g_n0 (v : RVal U R_n0) : Int := v.1.1
def b_n0 (q : Int) : TRet U := R_n0.bld ((q, ()), ())
def S_s_table_Rows : FSig U := ⟨Int, [24], [.p], [some 3], [.p (.st 3)], fun v => s_table_Rows v.1, b_n0⟩
theorem S_s_table_Rows_ok : SigOk X0.E 68 S_s_table_Rows.sig := FSig.ok0 F_n0_ok (R := R_n0) (g := g_n0) (cuts := []) (pre := [tc0 F_n0]) rfl Tryd.func68 (by decide) rfl (fun _ => Nat.le_of_ble_eq_true (by kernel_rfl)) (fun _ => rfl) (by kernel_rfl) (fun _ _ h => Eq.trans (by kernel_rfl) h) ⟨rfl, trivial⟩ (fun r => trivial) fun _ => rfl

/-! ### unicode/utf8.word[string] -/
def c_n1 : Code := bodyOf Tryd.f204
def F_n1 : FC U := ⟨X0.at 59, Tryd.f204, c_n1, [], [], [.p], [none]⟩
theorem F_n1_ok : FOk F_n1 := fok uok tok0 eok0 mixed rfl trivial
def R_n1 : RSh := ⟨[.p (.int .u64)], []⟩
def g_n1 (v : RVal U R_n1) : Int := v.1.1
def b_n1 (q : Int) : TRet U := R_n1.bld ((q, ()), ())
def S_su8_word_string : FSig U := ⟨Int, [9], [.p], [none], [.p .str], fun v => su8_word_string v.1, b_n1⟩
theorem S_su8_word_string_ok : SigOk X0.E 204 S_su8_word_string.sig := FSig.ok0 F_n1_ok (R := R_n1) (g := g_n1) (cuts := []) (pre := [tc0 F_n1]) rfl Tryd.func204 (by decide) rfl (fun _ => Nat.le_of_ble_eq_true (by kernel_rfl)) (fun _ => rfl) (by kernel_rfl) (fun _ _ h => Eq.trans (by kernel_rfl) h) ⟨rfl, trivial⟩ (fun r => trivial) fun _ => rfl

abbrev Tr_n2_0 : Type := Str → Option (Out Unit Bool)
/-! ### unicode/utf8.ValidString -/
def c_n2 : Code := bodyOf Tryd.f182
def F_n2 : FC U := ⟨X0.at 169, Tryd.f182, c_n2, [(204, S_su8_word_string.sig)], [], [.p], [none]⟩
theorem F_n2_ok : FOk F_n2 := fok uok tok0 eok0 mixed rfl ⟨S_su8_word_string_ok, trivial⟩
def R_n2 : RSh := ⟨[.p .bool], []⟩
def g_n2 (v : RVal U R_n2) : Bool := v.1.1
def b_n2 (q : Bool) : TRet U := R_n2.bld ((q, ()), ())
def L_n2_k9 : Lp U Bool := ⟨[], [], [], [], fun v w => su8_ValidString_k9⟩
theorem L_n2_k9_ok (r : Bool) : LpOk F_n2 (b_n2 r).enc r (L_n2_k9) ([tc F_n2 [1, 1]].map TI'.conc ++ []) := fun v w hi h => Pt.ev0 F_n2_ok (S := R_n2) (g := g_n2) (b := b_n2) (cuts := []) (pre := [tc F_n2 [1, 1]]) (T := Lp.st F_n2 (L_n2_k9) v w) (by kernel_rfl) hi (Eq.trans (by kernel_rfl) h) ⟨by kernel_rfl, trivial⟩ trivial fun _ => rfl
def base_n2_l1 : List Eng.Item := .lp (codeAt F_n2 [5, 4, 0, 1]) :: ([.blk 0, tc F_n2 [1, 1]].map TI'.conc ++ [])
def Lh_n2_l1 (rec_ : Tr_n2_0) : Lp U (Out Unit Bool) := ⟨[0], [], [.o (.v .str)], [], fun v w => rec_ v.1⟩
def Lx_n2_l1 : Lp U (Out Unit Bool) := ⟨[], [], [], [], fun v w => some (.brk ())⟩
def L_n2_j8 (rec_ : Tr_n2_0) : Lp U (Out Unit Bool) := ⟨[0, 166], [], qs30, [], fun v w => su8_ValidString_j8 rec_ v.1 v.2.1⟩
theorem L_n2_j8_ok {RT : Ret} {r : (Out Unit Bool)} {rec_ : Tr_n2_0} (hb : LpOk F_n2 RT r (Lh_n2_l1 rec_) base_n2_l1) (hx : AllExits F_n2 RT r base_n2_l1 [(0, Lx_n2_l1)]) (hr : qH (retOf R_n2 fun v => Out.ret (β := Unit) (g_n2 v)) r RT) : LpOk F_n2 RT r (L_n2_j8 rec_) (stAt F_n2 [1, 0, 2, 1, 3, 1, 3, 1, 4, 1, 1, 1, 1, 1, 1, 4, 1, 5, 4, 0, 1]) := fun v w hi h => Pt.evlAt F_n2_ok (r := r) 4000 (cuts := []) (back := (some (Lh_n2_l1 rec_))) (exits := [(0, Lx_n2_l1)]) (ret := (retOf R_n2 fun v => Out.ret (β := Unit) (g_n2 v))) (base := base_n2_l1) (pre := [tc F_n2 [1, 0, 2, 1, 3, 1, 3, 1, 4, 1, 1, 1, 1, 1, 1, 4, 1, 5, 4, 0, 1], tc F_n2 [1, 2, 1, 3, 1, 3, 1, 4, 1, 1, 1, 1, 1, 1, 4, 1, 5, 4, 0, 1], .blk 4, .blk 1]) (T := Lp.st F_n2 (L_n2_j8 rec_) v w) (by kernel_rfl) hi (Eq.trans (by kernel_rfl) h) ⟨by kernel_rfl, by kernel_rfl, trivial⟩ trivial (fun L hL => by cases hL; exact hb) (fun hn => nomatch hn) hx hr
def L_n2_j7 (rec_ : Tr_n2_0) : Lp U (Out Unit Bool) := ⟨[0, 125], [], qs30, [], fun v w => su8_ValidString_j7 rec_ v.1 v.2.1⟩
theorem L_n2_j7_ok {RT : Ret} {r : (Out Unit Bool)} {rec_ : Tr_n2_0} (hb : LpOk F_n2 RT r (Lh_n2_l1 rec_) base_n2_l1) (hx : AllExits F_n2 RT r base_n2_l1 [(0, Lx_n2_l1)]) (hr : qH (retOf R_n2 fun v => Out.ret (β := Unit) (g_n2 v)) r RT) : LpOk F_n2 RT r (L_n2_j7 rec_) (stAt F_n2 [1, 0, 2, 1, 3, 1, 4, 1, 1, 1, 1, 1, 1, 4, 1, 5, 4, 0, 1]) := fun v w hi h => Pt.evlAt F_n2_ok (r := r) 4000 (cuts := []) (back := (some (Lh_n2_l1 rec_))) (exits := [(0, Lx_n2_l1)]) (ret := (retOf R_n2 fun v => Out.ret (β := Unit) (g_n2 v))) (base := base_n2_l1) (pre := [tc F_n2 [1, 0, 2, 1, 3, 1, 4, 1, 1, 1, 1, 1, 1, 4, 1, 5, 4, 0, 1], tc F_n2 [1, 2, 1, 3, 1, 4, 1, 1, 1, 1, 1, 1, 4, 1, 5, 4, 0, 1], .blk 4, .blk 1]) (T := Lp.st F_n2 (L_n2_j7 rec_) v w) (by kernel_rfl) hi (Eq.trans (by kernel_rfl) h) ⟨by kernel_rfl, by kernel_rfl, trivial⟩ trivial (fun L hL => by cases hL; exact hb) (fun hn => nomatch hn) hx hr
def L_n2_j6 (rec_ : Tr_n2_0) : Lp U (Out Unit Bool) := ⟨[0, 94], [], qs30, [], fun v w => su8_ValidString_j6 rec_ v.1 v.2.1⟩
theorem L_n2_j6_ok {RT : Ret} {r : (Out Unit Bool)} {rec_ : Tr_n2_0} (hb : LpOk F_n2 RT r (Lh_n2_l1 rec_) base_n2_l1) (hx : AllExits F_n2 RT r base_n2_l1 [(0, Lx_n2_l1)]) (hr : qH (retOf R_n2 fun v => Out.ret (β := Unit) (g_n2 v)) r RT) : LpOk F_n2 RT r (L_n2_j6 rec_) (stAt F_n2 [1, 0, 2, 1, 4, 1, 1, 1, 1, 1, 1, 4, 1, 5, 4, 0, 1]) := fun v w hi h => Pt.evlAt F_n2_ok (r := r) 4000 (cuts := []) (back := (some (Lh_n2_l1 rec_))) (exits := [(0, Lx_n2_l1)]) (ret := (retOf R_n2 fun v => Out.ret (β := Unit) (g_n2 v))) (base := base_n2_l1) (pre := [tc F_n2 [1, 0, 2, 1, 4, 1, 1, 1, 1, 1, 1, 4, 1, 5, 4, 0, 1], tc F_n2 [1, 2, 1, 4, 1, 1, 1, 1, 1, 1, 4, 1, 5, 4, 0, 1], .blk 4, .blk 1]) (T := Lp.st F_n2 (L_n2_j6 rec_) v w) (by kernel_rfl) hi (Eq.trans (by kernel_rfl) h) ⟨by kernel_rfl, by kernel_rfl, trivial⟩ trivial (fun L hL => by cases hL; exact hb) (fun hn => nomatch hn) hx hr
def L_n2_j5 (rec_ : Tr_n2_0) : Lp U (Out Unit Bool) := ⟨[0], [], [.o (.v .str)], [], fun v w => su8_ValidString_j5 rec_ v.1⟩
theorem L_n2_j5_ok {RT : Ret} {r : (Out Unit Bool)} {rec_ : Tr_n2_0} (hb : LpOk F_n2 RT r (Lh_n2_l1 rec_) base_n2_l1) (hx : AllExits F_n2 RT r base_n2_l1 [(0, Lx_n2_l1)]) (hr : qH (retOf R_n2 fun v => Out.ret (β := Unit) (g_n2 v)) r RT) : LpOk F_n2 RT r (L_n2_j5 rec_) (stAt F_n2 [1, 1, 2, 1, 0, 1, 4, 1, 5, 4, 0, 1]) := fun v w hi h => Pt.evlAt F_n2_ok (r := r) 4000 (cuts := []) (back := (some (Lh_n2_l1 rec_))) (exits := [(0, Lx_n2_l1)]) (ret := (retOf R_n2 fun v => Out.ret (β := Unit) (g_n2 v))) (base := base_n2_l1) (pre := [tc F_n2 [1, 1, 2, 1, 0, 1, 4, 1, 5, 4, 0, 1], tc F_n2 [1, 1, 4, 1, 5, 4, 0, 1], .blk 1]) (T := Lp.st F_n2 (L_n2_j5 rec_) v w) (by kernel_rfl) hi (Eq.trans (by kernel_rfl) h) ⟨by kernel_rfl, by kernel_rfl, trivial⟩ trivial (fun L hL => by cases hL; exact hb) (fun hn => nomatch hn) hx hr
def L_n2_k4 (rec_ : Tr_n2_0) : Lp U (Out Unit Bool) := ⟨[0], [], [.o (.v .str)], [], fun v w => su8_ValidString_k4 rec_ v.1⟩
theorem L_n2_k4_ok {RT : Ret} {r : (Out Unit Bool)} {rec_ : Tr_n2_0} (hb : LpOk F_n2 RT r (Lh_n2_l1 rec_) base_n2_l1) (hx : AllExits F_n2 RT r base_n2_l1 [(0, Lx_n2_l1)]) (hr : qH (retOf R_n2 fun v => Out.ret (β := Unit) (g_n2 v)) r RT) : LpOk F_n2 RT r (L_n2_k4 rec_) ([tc F_n2 [1, 1, 2, 1, 0, 1, 4, 1, 5, 4, 0, 1], tc F_n2 [1, 1, 4, 1, 5, 4, 0, 1], .blk 1].map TI'.conc ++ base_n2_l1) := fun v w hi h => Pt.evlAt F_n2_ok (r := r) 4000 (cuts := []) (back := (some (Lh_n2_l1 rec_))) (exits := [(0, Lx_n2_l1)]) (ret := (retOf R_n2 fun v => Out.ret (β := Unit) (g_n2 v))) (base := base_n2_l1) (pre := [tc F_n2 [1, 1, 2, 1, 0, 1, 4, 1, 5, 4, 0, 1], tc F_n2 [1, 1, 4, 1, 5, 4, 0, 1], .blk 1]) (T := Lp.st F_n2 (L_n2_k4 rec_) v w) (by kernel_rfl) hi (Eq.trans (by kernel_rfl) h) ⟨by kernel_rfl, by kernel_rfl, trivial⟩ trivial (fun L hL => by cases hL; exact hb) (fun hn => nomatch hn) hx hr
def base_n2_l2 : List Eng.Item := .lp (codeAt F_n2 [5, 4, 1, 2, 1, 1, 2, 1, 0, 1, 2, 1, 0, 1, 4, 1, 5, 4, 0, 1]) :: ([.blk 2, tc F_n2 [1, 1, 2, 1, 0, 1, 4, 1, 5, 4, 0, 1], tc F_n2 [1, 1, 4, 1, 5, 4, 0, 1], .blk 1].map TI'.conc ++ base_n2_l1)
def Lh_n2_l2 (rec_ : Str → Option Str) : Lp U Str := ⟨[0], [], [.o (.v .str)], [], fun v w => rec_ v.1⟩
def Lx_n2_l2 : Lp U Str := ⟨[0], [], [.o (.v .str)], [], fun v w => some v.1⟩
def L_n2_j3 (rec_ : Str → Option Str) : Lp U Str := ⟨[0, 62], [], qs30, [], fun v w => su8_ValidString_j3 rec_ v.1 v.2.1⟩
theorem L_n2_j3_ok {RT : Ret} {r : Str} {rec_ : Str → Option Str} (hb : LpOk F_n2 RT r (Lh_n2_l2 rec_) base_n2_l2) (hx : AllExits F_n2 RT r base_n2_l2 [(2, Lx_n2_l2)]) (hr : qH (fun _ => none) r RT) : LpOk F_n2 RT r (L_n2_j3 rec_) (stAt F_n2 [1, 0, 5, 4, 1, 2, 1, 1, 2, 1, 0, 1, 2, 1, 0, 1, 4, 1, 5, 4, 0, 1]) := fun v w hi h => Pt.evlAt F_n2_ok (r := r) 4000 (cuts := []) (back := (some (Lh_n2_l2 rec_))) (exits := [(2, Lx_n2_l2)]) (ret := (fun _ => none)) (base := base_n2_l2) (pre := [tc F_n2 [1, 0, 5, 4, 1, 2, 1, 1, 2, 1, 0, 1, 2, 1, 0, 1, 4, 1, 5, 4, 0, 1], tc F_n2 [1, 5, 4, 1, 2, 1, 1, 2, 1, 0, 1, 2, 1, 0, 1, 4, 1, 5, 4, 0, 1]]) (T := Lp.st F_n2 (L_n2_j3 rec_) v w) (by kernel_rfl) hi (Eq.trans (by kernel_rfl) h) ⟨by kernel_rfl, by kernel_rfl, trivial⟩ trivial (fun L hL => by cases hL; exact hb) (fun hn => nomatch hn) hx hr
theorem su8_ValidString_l2_ok {RT : Ret} {r : Str} (hx : AllExits F_n2 RT r base_n2_l2 [(2, Lx_n2_l2)]) (hr : qH (fun _ => none) r RT) : ∀ n, LpOk F_n2 RT r (Lh_n2_l2 (su8_ValidString_l2 n)) (stAt F_n2 [4, 1, 2, 1, 1, 2, 1, 0, 1, 2, 1, 0, 1, 4, 1, 5, 4, 0, 1]) :=
  loop_ok F_n2_ok 4000 (q := [4, 1, 2, 1, 1, 2, 1, 0, 1, 2, 1, 0, 1, 4, 1, 5, 4, 0, 1]) (body := codeAt F_n2 [5, 4, 1, 2, 1, 1, 2, 1, 0, 1, 2, 1, 0, 1, 4, 1, 5, 4, 0, 1]) (live := [0]) (frz := []) (shs := [.o (.v .str)]) (sho := []) (fun n v w => su8_ValidString_l2 n v.1) (cuts := fun n => [([1, 0, 5, 4, 1, 2, 1, 1, 2, 1, 0, 1, 2, 1, 0, 1, 4, 1, 5, 4, 0, 1], L_n2_j3 (su8_ValidString_l2 n))]) (exits := [(2, Lx_n2_l2)]) (ret := (fun _ => none)) (by kernel_rfl) (fun _ _ => rfl) (fun n v w => by kernel_rfl) (fun n hb => ⟨L_n2_j3_ok hb hx hr, trivial⟩) hx hr
def Lc_n2_l2 (rec_ : Tr_n2_0) : Lp U (Out Unit Bool) := ⟨[0], [], [.o (.v .str)], [], fun v w => (su8_ValidString_l2 big v.1).bind fun x0 => su8_ValidString_k4 rec_ x0⟩
theorem Lc_n2_l2_ok {RT : Ret} {r : (Out Unit Bool)} {rec_ : Tr_n2_0} (hb : LpOk F_n2 RT r (Lh_n2_l1 rec_) base_n2_l1) (hx : AllExits F_n2 RT r base_n2_l1 [(0, Lx_n2_l1)]) (hr : qH (retOf R_n2 fun v => Out.ret (β := Unit) (g_n2 v)) r RT) : LpOk F_n2 RT r (Lc_n2_l2 rec_) (stAt F_n2 [4, 1, 2, 1, 1, 2, 1, 0, 1, 2, 1, 0, 1, 4, 1, 5, 4, 0, 1]) := fun v w hi h0 => by
  obtain ⟨x, hx0, h⟩ := bind_some h0
  exact su8_ValidString_l2_ok (r := x) (RT := RT) ⟨⟨[tc F_n2 [1, 1, 2, 1, 0, 1, 4, 1, 5, 4, 0, 1], tc F_n2 [1, 1, 4, 1, 5, 4, 0, 1], .blk 1].map TI'.conc ++ base_n2_l1, by kernel_rfl, fun v' w' hi' h' => by obtain rfl := Option.some.inj h'; exact L_n2_k4_ok hb hx hr v' w' hi' h⟩, trivial⟩ (fun _ ht => nomatch ht) big v w hi hx0
def L_n2_j2 (rec_ : Tr_n2_0) : Lp U (Out Unit Bool) := ⟨[0, 39], [], qs30, [], fun v w => su8_ValidString_j2 rec_ v.1 v.2.1⟩
theorem L_n2_j2_ok {RT : Ret} {r : (Out Unit Bool)} {rec_ : Tr_n2_0} (hb : LpOk F_n2 RT r (Lh_n2_l1 rec_) base_n2_l1) (hx : AllExits F_n2 RT r base_n2_l1 [(0, Lx_n2_l1)]) (hr : qH (retOf R_n2 fun v => Out.ret (β := Unit) (g_n2 v)) r RT) : LpOk F_n2 RT r (L_n2_j2 rec_) (stAt F_n2 [1, 1, 2, 1, 0, 1, 2, 1, 0, 1, 4, 1, 5, 4, 0, 1]) := fun v w hi h => Pt.evlAt F_n2_ok (r := r) 4000 (cuts := [([1, 1, 2, 1, 0, 1, 4, 1, 5, 4, 0, 1], (L_n2_j5 rec_)), ([4, 1, 2, 1, 1, 2, 1, 0, 1, 2, 1, 0, 1, 4, 1, 5, 4, 0, 1], (Lc_n2_l2 rec_))]) (back := (some (Lh_n2_l1 rec_))) (exits := [(0, Lx_n2_l1)]) (ret := (retOf R_n2 fun v => Out.ret (β := Unit) (g_n2 v))) (base := base_n2_l1) (pre := [tc F_n2 [1, 1, 2, 1, 0, 1, 2, 1, 0, 1, 4, 1, 5, 4, 0, 1], tc F_n2 [1, 1, 2, 1, 0, 1, 4, 1, 5, 4, 0, 1], tc F_n2 [1, 1, 4, 1, 5, 4, 0, 1], .blk 1]) (T := Lp.st F_n2 (L_n2_j2 rec_) v w) (by kernel_rfl) hi (Eq.trans (by kernel_rfl) h) ⟨by kernel_rfl, by kernel_rfl, by kernel_rfl, trivial⟩ ⟨(L_n2_j5_ok hb hx hr), (Lc_n2_l2_ok hb hx hr), trivial⟩ (fun L hL => by cases hL; exact hb) (fun hn => nomatch hn) hx hr
def L_n2_j1 (rec_ : Tr_n2_0) : Lp U (Out Unit Bool) := ⟨[0, 24], [], qs30, [], fun v w => su8_ValidString_j1 rec_ v.1 v.2.1⟩
theorem L_n2_j1_ok {RT : Ret} {r : (Out Unit Bool)} {rec_ : Tr_n2_0} (hb : LpOk F_n2 RT r (Lh_n2_l1 rec_) base_n2_l1) (hx : AllExits F_n2 RT r base_n2_l1 [(0, Lx_n2_l1)]) (hr : qH (retOf R_n2 fun v => Out.ret (β := Unit) (g_n2 v)) r RT) : LpOk F_n2 RT r (L_n2_j1 rec_) (stAt F_n2 [1, 0, 1, 2, 1, 0, 1, 4, 1, 5, 4, 0, 1]) := fun v w hi h => Pt.evlAt F_n2_ok (r := r) 4000 (cuts := [([1, 1, 2, 1, 0, 1, 2, 1, 0, 1, 4, 1, 5, 4, 0, 1], (L_n2_j2 rec_)), ([1, 1, 2, 1, 0, 1, 4, 1, 5, 4, 0, 1], (L_n2_j5 rec_))]) (back := (some (Lh_n2_l1 rec_))) (exits := [(0, Lx_n2_l1)]) (ret := (retOf R_n2 fun v => Out.ret (β := Unit) (g_n2 v))) (base := base_n2_l1) (pre := [tc F_n2 [1, 0, 1, 2, 1, 0, 1, 4, 1, 5, 4, 0, 1], tc F_n2 [1, 1, 2, 1, 0, 1, 4, 1, 5, 4, 0, 1], tc F_n2 [1, 1, 4, 1, 5, 4, 0, 1], .blk 1]) (T := Lp.st F_n2 (L_n2_j1 rec_) v w) (by kernel_rfl) hi (Eq.trans (by kernel_rfl) h) ⟨by kernel_rfl, by kernel_rfl, by kernel_rfl, trivial⟩ ⟨(L_n2_j2_ok hb hx hr), (L_n2_j5_ok hb hx hr), trivial⟩ (fun L hL => by cases hL; exact hb) (fun hn => nomatch hn) hx hr
theorem su8_ValidString_l1_ok {RT : Ret} {r : (Out Unit Bool)} (hx : AllExits F_n2 RT r base_n2_l1 [(0, Lx_n2_l1)]) (hr : qH (retOf R_n2 fun v => Out.ret (β := Unit) (g_n2 v)) r RT) : ∀ n, LpOk F_n2 RT r (Lh_n2_l1 (su8_ValidString_l1 n)) (stAt F_n2 [4, 0, 1]) :=
  loop_ok F_n2_ok 4000 (q := [4, 0, 1]) (body := codeAt F_n2 [5, 4, 0, 1]) (live := [0]) (frz := []) (shs := [.o (.v .str)]) (sho := []) (fun n v w => su8_ValidString_l1 n v.1) (cuts := fun n => [([1, 0, 1, 2, 1, 0, 1, 4, 1, 5, 4, 0, 1], L_n2_j1 (su8_ValidString_l1 n)), ([1, 0, 2, 1, 4, 1, 1, 1, 1, 1, 1, 4, 1, 5, 4, 0, 1], L_n2_j6 (su8_ValidString_l1 n)), ([1, 0, 2, 1, 3, 1, 4, 1, 1, 1, 1, 1, 1, 4, 1, 5, 4, 0, 1], L_n2_j7 (su8_ValidString_l1 n)), ([1, 0, 2, 1, 3, 1, 3, 1, 4, 1, 1, 1, 1, 1, 1, 4, 1, 5, 4, 0, 1], L_n2_j8 (su8_ValidString_l1 n))]) (exits := [(0, Lx_n2_l1)]) (ret := (retOf R_n2 fun v => Out.ret (β := Unit) (g_n2 v))) (by kernel_rfl) (fun _ _ => rfl) (fun n v w => by kernel_rfl) (fun n hb => ⟨L_n2_j1_ok hb hx hr, L_n2_j6_ok hb hx hr, L_n2_j7_ok hb hx hr, L_n2_j8_ok hb hx hr, trivial⟩) hx hr
def Lc_n2_l1 : Lp U Bool := ⟨[0], [], [.o (.v .str)], [], fun v w => (su8_ValidString_l1 big v.1).bind fun | .ret q_ => some q_ | .brk () => su8_ValidString_k9⟩
theorem Lc_n2_l1_ok (r : Bool) : LpOk F_n2 (b_n2 r).enc r (Lc_n2_l1) (stAt F_n2 [4, 0, 1]) := fun v w hi h0 => by
  obtain ⟨x, hx0, h⟩ := bind_some h0
  exact su8_ValidString_l1_ok (r := x) (RT := (b_n2 r).enc) ⟨⟨[tc F_n2 [1, 1]].map TI'.conc ++ [], by kernel_rfl, fun v' w' hi' h' => by obtain rfl := Option.some.inj h'; exact L_n2_k9_ok r v' w' hi' h⟩, trivial⟩ (fun t ht => by obtain ⟨q, rfl, hq⟩ := retOut ht; obtain rfl := Option.some.inj h; exact retOf_enc uok (give := b_n2) (fun _ => rfl) hq) big v w hi hx0
def S_su8_ValidString : FSig U := ⟨Bool, [9], [.p], [none], [.p .str], fun v => su8_ValidString v.1, b_n2⟩
theorem S_su8_ValidString_ok : SigOk X0.E 182 S_su8_ValidString.sig := FSig.ok0 F_n2_ok (R := R_n2) (g := g_n2) (cuts := [([4, 0, 1], Lc_n2_l1)]) (pre := [tc0 F_n2]) rfl Tryd.func182 (by decide) rfl (fun _ => Nat.le_of_ble_eq_true (by kernel_rfl)) (fun _ => rfl) (by kernel_rfl) (fun _ _ h => Eq.trans (by kernel_rfl) h) ⟨rfl, trivial⟩ (fun r => ⟨(Lc_n2_l1_ok r), trivial⟩) fun _ => rfl

/-! ### tablefinder/text.Valid -/
def c_n3 : Code := bodyOf Tryd.f157
def F_n3 : FC U := ⟨X0.at 5, Tryd.f157, c_n3, [(182, S_su8_ValidString.sig)], [], [.p], [none]⟩
theorem F_n3_ok : FOk F_n3 := fok uok tok0 eok0 mixed rfl ⟨S_su8_ValidString_ok, trivial⟩
def R_n3 : RSh := ⟨[.p .bool], []⟩
def g_n3 (v : RVal U R_n3) : Bool := v.1.1
def b_n3 (q : Bool) : TRet U := R_n3.bld ((q, ()), ())
def S_s_text_Valid : FSig U := ⟨Bool, [9], [.p], [none], [.p .str], fun v => s_text_Valid v.1, b_n3⟩
theorem S_s_text_Valid_ok : SigOk X0.E 157 S_s_text_Valid.sig := FSig.ok0 F_n3_ok (R := R_n3) (g := g_n3) (cuts := []) (pre := [tc0 F_n3]) rfl Tryd.func157 (by decide) rfl (fun _ => Nat.le_of_ble_eq_true (by kernel_rfl)) (fun _ => rfl) (by kernel_rfl) (fun _ _ h => Eq.trans (by kernel_rfl) h) ⟨rfl, trivial⟩ (fun r => trivial) fun _ => rfl

/-! ### tablefinder/table.fine -/
def c_n4 : Code := bodyOf Tryd.f119
def F_n4 : FC U := ⟨X0.at 10, Tryd.f119, c_n4, [(157, S_s_text_Valid.sig)], [], [.p], [none]⟩
theorem F_n4_ok : FOk F_n4 := fok uok tok0 eok0 mixed rfl ⟨S_s_text_Valid_ok, trivial⟩
def R_n4 : RSh := ⟨[.p .bool], []⟩
def g_n4 (v : RVal U R_n4) : Bool := v.1.1
def b_n4 (q : Bool) : TRet U := R_n4.bld ((q, ()), ())
def L_n4_j1 : Lp U Bool := ⟨[2], [], [.o (.v .bool)], [], fun v w => s_table_fine_j1 v.1⟩
theorem L_n4_j1_ok (r : Bool) : LpOk F_n4 (b_n4 r).enc r (L_n4_j1) (stAt F_n4 [1, 1]) := fun v w hi h => Pt.ev0 F_n4_ok (S := R_n4) (g := g_n4) (b := b_n4) (cuts := []) (pre := [tc F_n4 [1, 1]]) (T := Lp.st F_n4 (L_n4_j1) v w) (by kernel_rfl) hi (Eq.trans (by kernel_rfl) h) ⟨by kernel_rfl, trivial⟩ trivial fun _ => rfl
def S_s_table_fine : FSig U := ⟨Bool, [9], [.p], [none], [.p .str], fun v => s_table_fine v.1, b_n4⟩
theorem S_s_table_fine_ok : SigOk X0.E 119 S_s_table_fine.sig := FSig.ok0 F_n4_ok (R := R_n4) (g := g_n4) (cuts := [([1, 1], L_n4_j1)]) (pre := [tc0 F_n4]) rfl Tryd.func119 (by decide) rfl (fun _ => Nat.le_of_ble_eq_true (by kernel_rfl)) (fun _ => rfl) (by kernel_rfl) (fun _ _ h => Eq.trans (by kernel_rfl) h) ⟨rfl, trivial⟩ (fun r => ⟨(L_n4_j1_ok r), trivial⟩) fun _ => rfl

/-! ### tablefinder/table.ValidCell -/
def c_n5 : Code := bodyOf Tryd.f123
def F_n5 : FC U := ⟨X0.at 16, Tryd.f123, c_n5, [(119, S_s_table_fine.sig)], [], [.p], [none]⟩
theorem F_n5_ok : FOk F_n5 := fok uok tok0 eok0 mixed rfl ⟨S_s_table_fine_ok, trivial⟩
def R_n5 : RSh := ⟨[.p .bool], []⟩
def g_n5 (v : RVal U R_n5) : Bool := v.1.1
def b_n5 (q : Bool) : TRet U := R_n5.bld ((q, ()), ())
def L_n5_j1 : Lp U Bool := ⟨[2], [], [.o (.v .bool)], [], fun v w => s_table_ValidCell_j1 v.1⟩
theorem L_n5_j1_ok (r : Bool) : LpOk F_n5 (b_n5 r).enc r (L_n5_j1) (stAt F_n5 [1, 1]) := fun v w hi h => Pt.ev0 F_n5_ok (S := R_n5) (g := g_n5) (b := b_n5) (cuts := []) (pre := [tc F_n5 [1, 1]]) (T := Lp.st F_n5 (L_n5_j1) v w) (by kernel_rfl) hi (Eq.trans (by kernel_rfl) h) ⟨by kernel_rfl, trivial⟩ trivial fun _ => rfl
def S_s_table_ValidCell : FSig U := ⟨Bool, [51], [.p], [some 1], [.p (.st 1)], fun v => s_table_ValidCell v.1, b_n5⟩
theorem S_s_table_ValidCell_ok : SigOk X0.E 123 S_s_table_ValidCell.sig := FSig.ok0 F_n5_ok (R := R_n5) (g := g_n5) (cuts := [([1, 1], L_n5_j1)]) (pre := [tc0 F_n5]) rfl Tryd.func123 (by decide) rfl (fun _ => Nat.le_of_ble_eq_true (by kernel_rfl)) (fun _ => rfl) (by kernel_rfl) (fun _ _ h => Eq.trans (by kernel_rfl) h) ⟨rfl, trivial⟩ (fun r => ⟨(L_n5_j1_ok r), trivial⟩) fun _ => rfl

/-! ### tablefinder/table.every[tablefinder/api.Cell] -/
def c_n6 : Code := bodyOf Tryd.f122
def F_n6 : FC U := ⟨X0.at 18, Tryd.f122, c_n6, [(123, S_s_table_ValidCell.sig)], [], [.p], [none]⟩
theorem F_n6_ok : FOk F_n6 := fok uok tok0 eok0 mixed rfl ⟨S_s_table_ValidCell_ok, trivial⟩
def R_n6 : RSh := ⟨[.p .bool], []⟩
def g_n6 (v : RVal U R_n6) : Bool := v.1.1
def b_n6 (q : Bool) : TRet U := R_n6.bld ((q, ()), ())
def L_n6_k1 : Lp U Bool := ⟨[], [], [], [], fun v w => s_table_every_api_Cell_k1⟩
theorem L_n6_k1_ok (r : Bool) : LpOk F_n6 (b_n6 r).enc r (L_n6_k1) ([tc F_n6 [1, 1]].map TI'.conc ++ []) := fun v w hi h => Pt.ev0 F_n6_ok (S := R_n6) (g := g_n6) (b := b_n6) (cuts := []) (pre := [tc F_n6 [1, 1]]) (T := Lp.st F_n6 (L_n6_k1) v w) (by kernel_rfl) hi (Eq.trans (by kernel_rfl) h) ⟨by kernel_rfl, trivial⟩ trivial fun _ => rfl
def base_n6_l1 : List Eng.Item := .lp (codeAt F_n6 [5, 4, 1, 0, 1]) :: ([.blk 0, tc F_n6 [1, 1]].map TI'.conc ++ [])
def Lh_n6_l1 (rec_ : qL2 → Int → Int → Option (Out Unit Bool)) : Lp U (Out Unit Bool) := ⟨[1, 7, 8, 9], [], [.fn 123 [] [], .o (.v (.sl (.st 1))), qi, qi], [], fun v w => rec_ v.2.1 v.2.2.1 v.2.2.2.1⟩
def Lx_n6_l1 : Lp U (Out Unit Bool) := ⟨[], [], [], [], fun v w => some (.brk ())⟩
theorem s_table_every_api_Cell_l1_ok {RT : Ret} {r : (Out Unit Bool)} (hx : AllExits F_n6 RT r base_n6_l1 [(0, Lx_n6_l1)]) (hr : qH (retOf R_n6 fun v => Out.ret (β := Unit) (g_n6 v)) r RT) : ∀ n, LpOk F_n6 RT r (Lh_n6_l1 (s_table_every_api_Cell_l1 n)) (stAt F_n6 [4, 1, 0, 1]) :=
  loop_ok F_n6_ok 4000 (q := [4, 1, 0, 1]) (body := codeAt F_n6 [5, 4, 1, 0, 1]) (live := [1, 7, 8, 9]) (frz := []) (shs := [.fn 123 [] [], .o (.v (.sl (.st 1))), qi, qi]) (sho := []) (fun n v w => s_table_every_api_Cell_l1 n v.2.1 v.2.2.1 v.2.2.2.1) (cuts := fun n => []) (exits := [(0, Lx_n6_l1)]) (ret := (retOf R_n6 fun v => Out.ret (β := Unit) (g_n6 v))) (by kernel_rfl) (fun _ _ => rfl) (fun n v w => by kernel_rfl) (fun n hb => trivial) hx hr
def Lc_n6_l1 : Lp U Bool := ⟨[1, 7, 8, 9], [], [.fn 123 [] [], .o (.v (.sl (.st 1))), qi, qi], [], fun v w => (s_table_every_api_Cell_l1 big v.2.1 v.2.2.1 v.2.2.2.1).bind fun | .ret q_ => some q_ | .brk () => s_table_every_api_Cell_k1⟩
theorem Lc_n6_l1_ok (r : Bool) : LpOk F_n6 (b_n6 r).enc r (Lc_n6_l1) (stAt F_n6 [4, 1, 0, 1]) := fun v w hi h0 => by
  obtain ⟨x, hx0, h⟩ := bind_some h0
  exact s_table_every_api_Cell_l1_ok (r := x) (RT := (b_n6 r).enc) ⟨⟨[tc F_n6 [1, 1]].map TI'.conc ++ [], by kernel_rfl, fun v' w' hi' h' => by obtain rfl := Option.some.inj h'; exact L_n6_k1_ok r v' w' hi' h⟩, trivial⟩ (fun t ht => by obtain ⟨q, rfl, hq⟩ := retOut ht; obtain rfl := Option.some.inj h; exact retOf_enc uok (give := b_n6) (fun _ => rfl) hq) big v w hi hx0
def S_s_table_every_api_Cell : FSig U := ⟨Bool, [47, 162], [.p, .p], [none, none], [.p (.sl (.st 1)), .fn 123 [] []], fun v => s_table_every_api_Cell v.1, b_n6⟩
theorem S_s_table_every_api_Cell_ok : SigOk X0.E 122 S_s_table_every_api_Cell.sig := FSig.ok0 F_n6_ok (R := R_n6) (g := g_n6) (cuts := [([4, 1, 0, 1], Lc_n6_l1)]) (pre := [tc0 F_n6]) rfl Tryd.func122 (by decide) rfl (fun _ => Nat.le_of_ble_eq_true (by kernel_rfl)) (fun _ => rfl) (by kernel_rfl) (fun _ _ h => Eq.trans (by kernel_rfl) h) ⟨rfl, trivial⟩ (fun r => ⟨(Lc_n6_l1_ok r), trivial⟩) fun _ => rfl

/-! ### tablefinder/table.Valid$1 -/
def c_n7 : Code := bodyOf Tryd.f121
def F_n7 : FC U := ⟨X0.at 22, Tryd.f121, c_n7, [(119, S_s_table_fine.sig), (68, S_s_table_Rows.sig), (122, S_s_table_every_api_Cell.sig)], [], [.p], [none]⟩
theorem F_n7_ok : FOk F_n7 := fok uok tok0 eok0 mixed rfl ⟨S_s_table_fine_ok, S_s_table_Rows_ok, S_s_table_every_api_Cell_ok, trivial⟩
def R_n7 : RSh := ⟨[.p .bool], []⟩
def g_n7 (v : RVal U R_n7) : Bool := v.1.1
def b_n7 (q : Bool) : TRet U := R_n7.bld ((q, ()), ())
def L_n7_j1 : Lp U Bool := ⟨[3], [], [.o (.v .bool)], [], fun v w => s_table_Valid_1_j1 v.1⟩
theorem L_n7_j1_ok (r : Bool) : LpOk F_n7 (b_n7 r).enc r (L_n7_j1) (stAt F_n7 [1, 1]) := fun v w hi h => Pt.ev0 F_n7_ok (S := R_n7) (g := g_n7) (b := b_n7) (cuts := []) (pre := [tc F_n7 [1, 1]]) (T := Lp.st F_n7 (L_n7_j1) v w) (by kernel_rfl) hi (Eq.trans (by kernel_rfl) h) ⟨by kernel_rfl, trivial⟩ trivial fun _ => rfl
def S_s_table_Valid_1 : FSig U := ⟨Bool, [49], [.p, .p], [some 2, none], [.p (.st 2), .ptr (.st 3)], fun v => s_table_Valid_1 v.1 v.2.1, b_n7⟩
theorem S_s_table_Valid_1_ok : SigOk X0.E 121 S_s_table_Valid_1.sig := FSig.ok0 F_n7_ok (R := R_n7) (g := g_n7) (cuts := [([1, 1], L_n7_j1)]) (pre := [tc0 F_n7]) rfl Tryd.func121 (by decide) rfl (fun _ => Nat.le_of_ble_eq_true (by kernel_rfl)) (fun _ => rfl) (by kernel_rfl) (fun _ _ h => Eq.trans (by kernel_rfl) h) ⟨rfl, trivial⟩ (fun r => ⟨(L_n7_j1_ok r), trivial⟩) fun _ => rfl

/-! ### slices.IndexFunc[[]tablefinder/api.Column,tablefinder/api.Column] -/
def c_n8 : Code := bodyOf Tryd.f158
def F_n8 : FC U := ⟨X0.at 19, Tryd.f158, c_n8, [(121, S_s_table_Valid_1.sig)], [], [.p], [none]⟩
theorem F_n8_ok : FOk F_n8 := fok uok tok0 eok0 mixed rfl ⟨S_s_table_Valid_1_ok, trivial⟩
def R_n8 : RSh := ⟨[.p (.int .i64)], []⟩
def g_n8 (v : RVal U R_n8) : Int := v.1.1
def b_n8 (q : Int) : TRet U := R_n8.bld ((q, ()), ())
def L_n8_k1 : Lp U Int := ⟨[], [], [], [], fun v w => ss_IndexFunc_api_Column_api_Column_k1⟩
theorem L_n8_k1_ok (r : Int) : LpOk F_n8 (b_n8 r).enc r (L_n8_k1) ([tc F_n8 [1, 1]].map TI'.conc ++ []) := fun v w hi h => Pt.ev0 F_n8_ok (S := R_n8) (g := g_n8) (b := b_n8) (cuts := []) (pre := [tc F_n8 [1, 1]]) (T := Lp.st F_n8 (L_n8_k1) v w) (by kernel_rfl) hi (Eq.trans (by kernel_rfl) h) ⟨by kernel_rfl, trivial⟩ trivial fun _ => rfl
def base_n8_l1 : List Eng.Item := .lp (codeAt F_n8 [5, 4, 1, 0, 1]) :: ([.blk 0, tc F_n8 [1, 1]].map TI'.conc ++ [])
def Lh_n8_l1 (rec_ : qL1 → GaTable → Int → Int → Option (Out Unit Int)) : Lp U (Out Unit Int) := ⟨[0, 1, 7, 8], [], qs23, [], fun v w => rec_ v.1 v.2.1.2.1 v.2.2.1 v.2.2.2.1⟩
def Lx_n8_l1 : Lp U (Out Unit Int) := ⟨[], [], [], [], fun v w => some (.brk ())⟩
theorem ss_IndexFunc_api_Column_api_Column_l1_ok {RT : Ret} {r : (Out Unit Int)} (hx : AllExits F_n8 RT r base_n8_l1 [(0, Lx_n8_l1)]) (hr : qH (retOf R_n8 fun v => Out.ret (β := Unit) (g_n8 v)) r RT) : ∀ n, LpOk F_n8 RT r (Lh_n8_l1 (ss_IndexFunc_api_Column_api_Column_l1 n)) (stAt F_n8 [4, 1, 0, 1]) :=
  loop_ok F_n8_ok 4000 (q := [4, 1, 0, 1]) (body := codeAt F_n8 [5, 4, 1, 0, 1]) (live := [0, 1, 7, 8]) (frz := []) (shs := qs23) (sho := []) (fun n v w => ss_IndexFunc_api_Column_api_Column_l1 n v.1 v.2.1.2.1 v.2.2.1 v.2.2.2.1) (cuts := fun n => []) (exits := [(0, Lx_n8_l1)]) (ret := (retOf R_n8 fun v => Out.ret (β := Unit) (g_n8 v))) (by kernel_rfl) (fun _ _ => rfl) (fun n v w => by kernel_rfl) (fun n hb => trivial) hx hr
def Lc_n8_l1 : Lp U Int := ⟨[0, 1, 7, 8], [], qs23, [], fun v w => (ss_IndexFunc_api_Column_api_Column_l1 big v.1 v.2.1.2.1 v.2.2.1 v.2.2.2.1).bind fun | .ret q_ => some q_ | .brk () => ss_IndexFunc_api_Column_api_Column_k1⟩
theorem Lc_n8_l1_ok (r : Int) : LpOk F_n8 (b_n8 r).enc r (Lc_n8_l1) (stAt F_n8 [4, 1, 0, 1]) := fun v w hi h0 => by
  obtain ⟨x, hx0, h⟩ := bind_some h0
  exact ss_IndexFunc_api_Column_api_Column_l1_ok (r := x) (RT := (b_n8 r).enc) ⟨⟨[tc F_n8 [1, 1]].map TI'.conc ++ [], by kernel_rfl, fun v' w' hi' h' => by obtain rfl := Option.some.inj h'; exact L_n8_k1_ok r v' w' hi' h⟩, trivial⟩ (fun t ht => by obtain ⟨q, rfl, hq⟩ := retOut ht; obtain rfl := Option.some.inj h; exact retOf_enc uok (give := b_n8) (fun _ => rfl) hq) big v w hi hx0
def S_ss_IndexFunc_api_Column_api_Column : FSig U := ⟨Int, [22, 163], [.p, .p], [none, none], [.p (.sl (.st 2)), .fn 121 [] [.pp (.st 3)]], fun v => ss_IndexFunc_api_Column_api_Column v.1 v.2.1.2.1, b_n8⟩
theorem S_ss_IndexFunc_api_Column_api_Column_ok : SigOk X0.E 158 S_ss_IndexFunc_api_Column_api_Column.sig := FSig.ok0 F_n8_ok (R := R_n8) (g := g_n8) (cuts := [([4, 1, 0, 1], Lc_n8_l1)]) (pre := [tc0 F_n8]) rfl Tryd.func158 (by decide) rfl (fun _ => Nat.le_of_ble_eq_true (by kernel_rfl)) (fun _ => rfl) (by kernel_rfl) (fun _ _ h => Eq.trans (by kernel_rfl) h) ⟨rfl, trivial⟩ (fun r => ⟨(Lc_n8_l1_ok r), trivial⟩) fun _ => rfl

/-! ### slices.ContainsFunc[[]tablefinder/api.Column,tablefinder/api.Column] -/
def c_n9 : Code := bodyOf Tryd.f120
def F_n9 : FC U := ⟨X0.at 9, Tryd.f120, c_n9, [(158, S_ss_IndexFunc_api_Column_api_Column.sig)], [], [.p], [none]⟩
theorem F_n9_ok : FOk F_n9 := fok uok tok0 eok0 mixed rfl ⟨S_ss_IndexFunc_api_Column_api_Column_ok, trivial⟩
def R_n9 : RSh := ⟨[.p .bool], []⟩
def g_n9 (v : RVal U R_n9) : Bool := v.1.1
def b_n9 (q : Bool) : TRet U := R_n9.bld ((q, ()), ())
def S_ss_ContainsFunc_api_Column_api_Column : FSig U := ⟨Bool, [22, 163], [.p, .p], [none, none], [.p (.sl (.st 2)), .fn 121 [] [.pp (.st 3)]], fun v => ss_ContainsFunc_api_Column_api_Column v.1 v.2.1.2.1, b_n9⟩
theorem S_ss_ContainsFunc_api_Column_api_Column_ok : SigOk X0.E 120 S_ss_ContainsFunc_api_Column_api_Column.sig := FSig.ok0 F_n9_ok (R := R_n9) (g := g_n9) (cuts := []) (pre := [tc0 F_n9]) rfl Tryd.func120 (by decide) rfl (fun _ => Nat.le_of_ble_eq_true (by kernel_rfl)) (fun _ => rfl) (by kernel_rfl) (fun _ _ h => Eq.trans (by kernel_rfl) h) ⟨rfl, trivial⟩ (fun r => trivial) fun _ => rfl

/-! ### tablefinder/table.Valid -/
def c_n10 : Code := bodyOf Tryd.f75
def F_n10 : FC U := ⟨X0.at 33, Tryd.f75, c_n10, [(119, S_s_table_fine.sig), (68, S_s_table_Rows.sig), (120, S_ss_ContainsFunc_api_Column_api_Column.sig)], [], [.p], [none]⟩
theorem F_n10_ok : FOk F_n10 := fok uok tok0 eok0 mixed rfl ⟨S_s_table_fine_ok, S_s_table_Rows_ok, S_ss_ContainsFunc_api_Column_api_Column_ok, trivial⟩
def R_n10 : RSh := ⟨[.p .bool], []⟩
def g_n10 (v : RVal U R_n10) : Bool := v.1.1
def b_n10 (q : Bool) : TRet U := R_n10.bld ((q, ()), ())
def L_n10_j1 : Lp U Bool := ⟨[1, 27], [], [.o (.ptr (0, 1, 1) 0 0), .o (.v .bool)], [.boxS (.st 3)], fun v w => s_table_Valid_j1 v.2.1 w.1⟩
theorem L_n10_j1_ok (r : Bool) : LpOk F_n10 (b_n10 r).enc r (L_n10_j1) (stAt F_n10 [1, 0, 1]) := fun v w hi h => Pt.ev0 F_n10_ok (S := R_n10) (g := g_n10) (b := b_n10) (cuts := []) (pre := [tc F_n10 [1, 0, 1], tc F_n10 [1, 1]]) (T := Lp.st F_n10 (L_n10_j1) v w) (by kernel_rfl) hi (Eq.trans (by kernel_rfl) h) ⟨by kernel_rfl, by kernel_rfl, trivial⟩ trivial fun _ => rfl
def S_s_table_Valid : FSig U := ⟨Bool, [24], [.p], [some 3], [.p (.st 3)], fun v => s_table_Valid v.1, b_n10⟩
theorem S_s_table_Valid_ok : SigOk X0.E 75 S_s_table_Valid.sig := FSig.ok0 F_n10_ok (R := R_n10) (g := g_n10) (cuts := [([1, 0, 1], L_n10_j1)]) (pre := [tc0 F_n10]) rfl Tryd.func75 (by decide) rfl (fun _ => Nat.le_of_ble_eq_true (by kernel_rfl)) (fun _ => rfl) (by kernel_rfl) (fun _ _ h => Eq.trans (by kernel_rfl) h) ⟨rfl, trivial⟩ (fun r => ⟨(L_n10_j1_ok r), trivial⟩) fun _ => rfl

/-! ### cmp.isNaN[string] -/
def c_n11 : Code := bodyOf Tryd.f150
def F_n11 : FC U := ⟨X0.at 6, Tryd.f150, c_n11, [], [], [.p], [none]⟩
theorem F_n11_ok : FOk F_n11 := fok uok tok0 eok0 mixed rfl trivial
def R_n11 : RSh := ⟨[.p .bool], []⟩
def g_n11 (v : RVal U R_n11) : Bool := v.1.1
def b_n11 (q : Bool) : TRet U := R_n11.bld ((q, ()), ())
def S_s_cmp_isNaN_string : FSig U := ⟨Bool, [9], [.p], [none], [.p .str], fun v => s_cmp_isNaN_string v.1, b_n11⟩
theorem S_s_cmp_isNaN_string_ok : SigOk X0.E 150 S_s_cmp_isNaN_string.sig := FSig.ok0 F_n11_ok (R := R_n11) (g := g_n11) (cuts := []) (pre := [tc0 F_n11]) rfl Tryd.func150 (by decide) rfl (fun _ => Nat.le_of_ble_eq_true (by kernel_rfl)) (fun _ => rfl) (by kernel_rfl) (fun _ _ h => Eq.trans (by kernel_rfl) h) ⟨rfl, trivial⟩ (fun r => trivial) fun _ => rfl

/-! ### cmp.Compare[string] -/
def c_n12 : Code := bodyOf Tryd.f104
def F_n12 : FC U := ⟨X0.at 20, Tryd.f104, c_n12, [(150, S_s_cmp_isNaN_string.sig)], [], [.p], [none]⟩
theorem F_n12_ok : FOk F_n12 := fok uok tok0 eok0 mixed rfl ⟨S_s_cmp_isNaN_string_ok, trivial⟩
def R_n12 : RSh := ⟨[.p (.int .i64)], []⟩
def g_n12 (v : RVal U R_n12) : Int := v.1.1
def b_n12 (q : Int) : TRet U := R_n12.bld ((q, ()), ())
def S_s_cmp_Compare_string : FSig U := ⟨Int, [9, 9], [.p, .p], [none, none], [.p .str, .p .str], fun v => s_cmp_Compare_string v.1 v.2.1, b_n12⟩
theorem S_s_cmp_Compare_string_ok : SigOk X0.E 104 S_s_cmp_Compare_string.sig := FSig.ok0 F_n12_ok (R := R_n12) (g := g_n12) (cuts := []) (pre := [tc0 F_n12]) rfl Tryd.func104 (by decide) rfl (fun _ => Nat.le_of_ble_eq_true (by kernel_rfl)) (fun _ => rfl) (by kernel_rfl) (fun _ _ h => Eq.trans (by kernel_rfl) h) ⟨rfl, trivial⟩ (fun r => trivial) fun _ => rfl

/-! ### tablefinder/table.CompareCells -/
def c_n13 : Code := bodyOf Tryd.f61
def F_n13 : FC U := ⟨X0.at 23, Tryd.f61, c_n13, [(104, S_s_cmp_Compare_string.sig)], [], [.p], [none]⟩
theorem F_n13_ok : FOk F_n13 := fok uok tok0 eok0 mixed rfl ⟨S_s_cmp_Compare_string_ok, trivial⟩
def R_n13 : RSh := ⟨[.p (.int .i64)], []⟩
def g_n13 (v : RVal U R_n13) : Int := v.1.1
def b_n13 (q : Int) : TRet U := R_n13.bld ((q, ()), ())
def L_n13_j1 : Lp U Int := ⟨[2, 3, 5], [], qs28, [.boxS (.st 1), .boxS (.st 1)], fun v w => s_table_CompareCells_j1 v.2.2.1 w.1 w.2.1⟩
theorem L_n13_j1_ok (r : Int) : LpOk F_n13 (b_n13 r).enc r (L_n13_j1) (stAt F_n13 [1, 4, 0, 1]) := fun v w hi h => Pt.ev0 F_n13_ok (S := R_n13) (g := g_n13) (b := b_n13) (cuts := []) (pre := [tc F_n13 [1, 4, 0, 1], .blk 0, tc F_n13 [1, 1]]) (T := Lp.st F_n13 (L_n13_j1) v w) (by kernel_rfl) hi (Eq.trans (by kernel_rfl) h) ⟨by kernel_rfl, by kernel_rfl, trivial⟩ trivial fun _ => rfl
def S_s_table_CompareCells : FSig U := ⟨Int, [51, 51], [.p, .p], [some 1, some 1], [.p (.st 1), .p (.st 1)], fun v => s_table_CompareCells v.1 v.2.1, b_n13⟩
theorem S_s_table_CompareCells_ok : SigOk X0.E 61 S_s_table_CompareCells.sig := FSig.ok0 F_n13_ok (R := R_n13) (g := g_n13) (cuts := [([1, 4, 0, 1], L_n13_j1)]) (pre := [tc0 F_n13]) rfl Tryd.func61 (by decide) rfl (fun _ => Nat.le_of_ble_eq_true (by kernel_rfl)) (fun _ => rfl) (by kernel_rfl) (fun _ _ h => Eq.trans (by kernel_rfl) h) ⟨rfl, trivial⟩ (fun r => ⟨(L_n13_j1_ok r), trivial⟩) fun _ => rfl

/-! ### tablefinder/table.Sort$1 -/
def c_n14 : Code := bodyOf Tryd.f149
def F_n14 : FC U := ⟨X0.at 31, Tryd.f149, c_n14, [(61, S_s_table_CompareCells.sig)], [], [.p], [none]⟩
theorem F_n14_ok : FOk F_n14 := fok uok tok0 eok0 mixed rfl ⟨S_s_table_CompareCells_ok, trivial⟩
def R_n14 : RSh := ⟨[.p (.int .i64)], []⟩
def g_n14 (v : RVal U R_n14) : Int := v.1.1
def b_n14 (q : Int) : TRet U := R_n14.bld ((q, ()), ())
def L_n14_k1 : Lp U Int := ⟨[], [], [], [], fun v w => s_table_Sort_1_k1⟩
theorem L_n14_k1_ok (r : Int) : LpOk F_n14 (b_n14 r).enc r (L_n14_k1) ([tc F_n14 [1, 1]].map TI'.conc ++ []) := fun v w hi h => Pt.ev0 F_n14_ok (S := R_n14) (g := g_n14) (b := b_n14) (cuts := []) (pre := [tc F_n14 [1, 1]]) (T := Lp.st F_n14 (L_n14_k1) v w) (by kernel_rfl) hi (Eq.trans (by kernel_rfl) h) ⟨by kernel_rfl, trivial⟩ trivial fun _ => rfl
def base_n14_l1 : List Eng.Item := .lp (codeAt F_n14 [5, 4, 1, 0, 1]) :: ([.blk 0, tc F_n14 [1, 1]].map TI'.conc ++ [])
def Lh_n14_l1 (rec_ : Int → Int → qL1 → Int → Int → Option (Out Unit Int)) : Lp U (Out Unit Int) := ⟨[0, 1, 10, 11, 12], [], qs19, [], fun v w => rec_ v.1 v.2.1 v.2.2.1 v.2.2.2.1 v.2.2.2.2.1⟩
def Lx_n14_l1 : Lp U (Out Unit Int) := ⟨[], [], [], [], fun v w => some (.brk ())⟩
theorem s_table_Sort_1_l1_ok {RT : Ret} {r : (Out Unit Int)} (hx : AllExits F_n14 RT r base_n14_l1 [(0, Lx_n14_l1)]) (hr : qH (retOf R_n14 fun v => Out.ret (β := Unit) (g_n14 v)) r RT) : ∀ n, LpOk F_n14 RT r (Lh_n14_l1 (s_table_Sort_1_l1 n)) (stAt F_n14 [4, 1, 0, 1]) :=
  loop_ok F_n14_ok 4000 (q := [4, 1, 0, 1]) (body := codeAt F_n14 [5, 4, 1, 0, 1]) (live := [0, 1, 10, 11, 12]) (frz := []) (shs := qs19) (sho := []) (fun n v w => s_table_Sort_1_l1 n v.1 v.2.1 v.2.2.1 v.2.2.2.1 v.2.2.2.2.1) (cuts := fun n => []) (exits := [(0, Lx_n14_l1)]) (ret := (retOf R_n14 fun v => Out.ret (β := Unit) (g_n14 v))) (by kernel_rfl) (fun _ _ => rfl) (fun n v w => by kernel_rfl) (fun n hb => trivial) hx hr
def Lc_n14_l1 : Lp U Int := ⟨[0, 1, 10, 11, 12], [], qs19, [], fun v w => (s_table_Sort_1_l1 big v.1 v.2.1 v.2.2.1 v.2.2.2.1 v.2.2.2.2.1).bind fun | .ret q_ => some q_ | .brk () => s_table_Sort_1_k1⟩
theorem Lc_n14_l1_ok (r : Int) : LpOk F_n14 (b_n14 r).enc r (Lc_n14_l1) (stAt F_n14 [4, 1, 0, 1]) := fun v w hi h0 => by
  obtain ⟨x, hx0, h⟩ := bind_some h0
  exact s_table_Sort_1_l1_ok (r := x) (RT := (b_n14 r).enc) ⟨⟨[tc F_n14 [1, 1]].map TI'.conc ++ [], by kernel_rfl, fun v' w' hi' h' => by obtain rfl := Option.some.inj h'; exact L_n14_k1_ok r v' w' hi' h⟩, trivial⟩ (fun t ht => by obtain ⟨q, rfl, hq⟩ := retOut ht; obtain rfl := Option.some.inj h; exact retOf_enc uok (give := b_n14) (fun _ => rfl) hq) big v w hi hx0
def S_s_table_Sort_1 : FSig U := ⟨Int, [3, 3], [.p, .p, .p], [none, none, none], [.p (.int .i64), .p (.int .i64), .ptr (.st 3)], fun v => s_table_Sort_1 v.1 v.2.1 v.2.2.1, b_n14⟩
theorem S_s_table_Sort_1_ok : SigOk X0.E 149 S_s_table_Sort_1.sig := FSig.ok0 F_n14_ok (R := R_n14) (g := g_n14) (cuts := [([4, 1, 0, 1], Lc_n14_l1)]) (pre := [tc0 F_n14]) rfl Tryd.func149 (by decide) rfl (fun _ => Nat.le_of_ble_eq_true (by kernel_rfl)) (fun _ => rfl) (by kernel_rfl) (fun _ _ h => Eq.trans (by kernel_rfl) h) ⟨rfl, trivial⟩ (fun r => ⟨(Lc_n14_l1_ok r), trivial⟩) fun _ => rfl

abbrev Tr_n15_0 : Type := Int → Int → GaTable → Int → Int → qL0 → Option qT38
abbrev Tr_n15_1 : Type := Int → Int → GaTable → Int → qL0 → Option qL0
/-! ### slices.insertionSortCmpFunc[int] -/
def c_n15 : Code := bodyOf Tryd.f198
def F_n15 : FC U := ⟨X0.at 53, Tryd.f198, c_n15, [(149, S_s_table_Sort_1.sig)], [0], [], []⟩
theorem F_n15_ok : FOk F_n15 := fok uok tok0 eok0 mixed rfl ⟨S_s_table_Sort_1_ok, trivial⟩
def R_n15 : RSh := ⟨[], [(0, .arr (.int .i64))]⟩
def g_n15 (v : RVal U R_n15) : qL0 := v.2.1
def b_n15 (q : qL0) : TRet U := R_n15.bld ((), (q, ()))
def L_n15_k3 : Lp U qL0 := ⟨[], [], [], [.arr (.int .i64) false], fun v w => ss_insertionSortCmpFunc_int_k3 w.1⟩
theorem L_n15_k3_ok (r : qL0) : LpOk F_n15 (b_n15 r).enc r (L_n15_k3) ([].map TI'.conc ++ []) := fun v w hi h => Pt.ev0 F_n15_ok (S := R_n15) (g := g_n15) (b := b_n15) (cuts := []) (pre := []) (T := Lp.st F_n15 (L_n15_k3) v w) (by kernel_rfl) hi (Eq.trans (by kernel_rfl) h) trivial trivial fun _ => rfl
def base_n15_l1 : List Eng.Item := .lp (codeAt F_n15 [5, 4, 1]) :: ([.blk 0].map TI'.conc ++ [])
def Lh_n15_l1 (rec_ : Tr_n15_1) : Lp U qL0 := ⟨[0, 1, 2, 3, 8], [], qs17, [.arr (.int .i64) false], fun v w => rec_ v.2.1 v.2.2.1 v.2.2.2.1.2.1 v.2.2.2.2.1 w.1⟩
def Lx_n15_l1 : Lp U qL0 := ⟨[], [], [], [.arr (.int .i64) false], fun v w => some w.1⟩
def L_n15_k2 (rec_ : Tr_n15_1) : Lp U qL0 := ⟨[0, 1, 2, 3, 8], [], qs17, [.arr (.int .i64) false], fun v w => ss_insertionSortCmpFunc_int_k2 rec_ v.2.1 v.2.2.1 v.2.2.2.1.2.1 v.2.2.2.2.1 w.1⟩
theorem L_n15_k2_ok {RT : Ret} {r : qL0} {rec_ : Tr_n15_1} (hb : LpOk F_n15 RT r (Lh_n15_l1 rec_) base_n15_l1) (hx : AllExits F_n15 RT r base_n15_l1 [(0, Lx_n15_l1)]) (hr : qH (fun _ => none) r RT) : LpOk F_n15 RT r (L_n15_k2 rec_) ([.blk 1, tc F_n15 [1, 1, 5, 4, 1]].map TI'.conc ++ base_n15_l1) := fun v w hi h => Pt.evlAt F_n15_ok (r := r) 4000 (cuts := []) (back := (some (Lh_n15_l1 rec_))) (exits := [(0, Lx_n15_l1)]) (ret := (fun _ => none)) (base := base_n15_l1) (pre := [.blk 1, tc F_n15 [1, 1, 5, 4, 1]]) (T := Lp.st F_n15 (L_n15_k2 rec_) v w) (by kernel_rfl) hi (Eq.trans (by kernel_rfl) h) ⟨by kernel_rfl, trivial⟩ trivial (fun L hL => by cases hL; exact hb) (fun hn => nomatch hn) hx hr
def base_n15_l2 : List Eng.Item := .lp (codeAt F_n15 [5, 4, 1, 4, 0, 1, 5, 4, 1]) :: ([.blk 2, .blk 1, tc F_n15 [1, 1, 5, 4, 1]].map TI'.conc ++ base_n15_l1)
def Lh_n15_l2 (rec_ : Tr_n15_0) : Lp U qT38 := ⟨[0, 1, 2, 3, 8, 9], [], qs9, [.arr (.int .i64) false], fun v w => rec_ v.2.1 v.2.2.1 v.2.2.2.1.2.1 v.2.2.2.2.1 v.2.2.2.2.2.1 w.1⟩
def Lx_n15_l2 : Lp U qT38 := ⟨[0, 1, 2, 3, 8], [], qs17, [.arr (.int .i64) false], fun v w => some (v.2.1, v.2.2.1, v.2.2.2.1.2.1, v.2.2.2.2.1, w.1)⟩
def L_n15_j1 (rec_ : Tr_n15_0) : Lp U qT38 := ⟨[0, 1, 2, 3, 8, 9, 34], [], [.o (.full (0, 0, 0)), qi, qi, .fn 149 [] [.pp (.st 3)], qi, qi, .o (.v .bool)], [.arr (.int .i64) false], fun v w => ss_insertionSortCmpFunc_int_j1 rec_ v.2.1 v.2.2.1 v.2.2.2.1.2.1 v.2.2.2.2.1 v.2.2.2.2.2.1 v.2.2.2.2.2.2.1 w.1⟩
theorem L_n15_j1_ok {RT : Ret} {r : qT38} {rec_ : Tr_n15_0} (hb : LpOk F_n15 RT r (Lh_n15_l2 rec_) base_n15_l2) (hx : AllExits F_n15 RT r base_n15_l2 [(2, Lx_n15_l2)]) (hr : qH (fun _ => none) r RT) : LpOk F_n15 RT r (L_n15_j1 rec_) (stAt F_n15 [1, 0, 5, 4, 1, 4, 0, 1, 5, 4, 1]) := fun v w hi h => Pt.evlAt F_n15_ok (r := r) 4000 (cuts := []) (back := (some (Lh_n15_l2 rec_))) (exits := [(2, Lx_n15_l2)]) (ret := (fun _ => none)) (base := base_n15_l2) (pre := [tc F_n15 [1, 0, 5, 4, 1, 4, 0, 1, 5, 4, 1], tc F_n15 [1, 5, 4, 1, 4, 0, 1, 5, 4, 1]]) (T := Lp.st F_n15 (L_n15_j1 rec_) v w) (by kernel_rfl) hi (Eq.trans (by kernel_rfl) h) ⟨by kernel_rfl, by kernel_rfl, trivial⟩ trivial (fun L hL => by cases hL; exact hb) (fun hn => nomatch hn) hx hr
theorem ss_insertionSortCmpFunc_int_l2_ok {RT : Ret} {r : qT38} (hx : AllExits F_n15 RT r base_n15_l2 [(2, Lx_n15_l2)]) (hr : qH (fun _ => none) r RT) : ∀ n, LpOk F_n15 RT r (Lh_n15_l2 (ss_insertionSortCmpFunc_int_l2 n)) (stAt F_n15 [4, 1, 4, 0, 1, 5, 4, 1]) :=
  loop_ok F_n15_ok 4000 (q := [4, 1, 4, 0, 1, 5, 4, 1]) (body := codeAt F_n15 [5, 4, 1, 4, 0, 1, 5, 4, 1]) (live := [0, 1, 2, 3, 8, 9]) (frz := []) (shs := qs9) (sho := [.arr (.int .i64) false]) (fun n v w => ss_insertionSortCmpFunc_int_l2 n v.2.1 v.2.2.1 v.2.2.2.1.2.1 v.2.2.2.2.1 v.2.2.2.2.2.1 w.1) (cuts := fun n => [([1, 0, 5, 4, 1, 4, 0, 1, 5, 4, 1], L_n15_j1 (ss_insertionSortCmpFunc_int_l2 n))]) (exits := [(2, Lx_n15_l2)]) (ret := (fun _ => none)) (by kernel_rfl) (fun _ _ => rfl) (fun n v w => by kernel_rfl) (fun n hb => ⟨L_n15_j1_ok hb hx hr, trivial⟩) hx hr
def Lc_n15_l2 (rec_ : Tr_n15_1) : Lp U qL0 := ⟨[0, 1, 2, 3, 8, 9], [], qs9, [.arr (.int .i64) false], fun v w => (ss_insertionSortCmpFunc_int_l2 big v.2.1 v.2.2.1 v.2.2.2.1.2.1 v.2.2.2.2.1 v.2.2.2.2.2.1 w.1).bind fun (x0, x1, x2, x3, x4) => ss_insertionSortCmpFunc_int_k2 rec_ x0 x1 x2 x3 x4⟩
theorem Lc_n15_l2_ok {RT : Ret} {r : qL0} {rec_ : Tr_n15_1} (hb : LpOk F_n15 RT r (Lh_n15_l1 rec_) base_n15_l1) (hx : AllExits F_n15 RT r base_n15_l1 [(0, Lx_n15_l1)]) (hr : qH (fun _ => none) r RT) : LpOk F_n15 RT r (Lc_n15_l2 rec_) (stAt F_n15 [4, 1, 4, 0, 1, 5, 4, 1]) := fun v w hi h0 => by
  obtain ⟨x, hx0, h⟩ := bind_some h0
  exact ss_insertionSortCmpFunc_int_l2_ok (r := x) (RT := RT) ⟨⟨[.blk 1, tc F_n15 [1, 1, 5, 4, 1]].map TI'.conc ++ base_n15_l1, by kernel_rfl, fun v' w' hi' h' => by obtain rfl := Option.some.inj h'; exact L_n15_k2_ok hb hx hr v' w' hi' h⟩, trivial⟩ (fun _ ht => nomatch ht) big v w hi hx0
theorem ss_insertionSortCmpFunc_int_l1_ok {RT : Ret} {r : qL0} (hx : AllExits F_n15 RT r base_n15_l1 [(0, Lx_n15_l1)]) (hr : qH (fun _ => none) r RT) : ∀ n, LpOk F_n15 RT r (Lh_n15_l1 (ss_insertionSortCmpFunc_int_l1 n)) (stAt F_n15 [4, 1]) :=
  loop_ok F_n15_ok 4000 (q := [4, 1]) (body := codeAt F_n15 [5, 4, 1]) (live := [0, 1, 2, 3, 8]) (frz := []) (shs := qs17) (sho := [.arr (.int .i64) false]) (fun n v w => ss_insertionSortCmpFunc_int_l1 n v.2.1 v.2.2.1 v.2.2.2.1.2.1 v.2.2.2.2.1 w.1) (cuts := fun n => [([4, 1, 4, 0, 1, 5, 4, 1], Lc_n15_l2 (ss_insertionSortCmpFunc_int_l1 n))]) (exits := [(0, Lx_n15_l1)]) (ret := (fun _ => none)) (by kernel_rfl) (fun _ _ => rfl) (fun n v w => by kernel_rfl) (fun n hb => ⟨Lc_n15_l2_ok hb hx hr, trivial⟩) hx hr
def Lc_n15_l1 : Lp U qL0 := ⟨[0, 1, 2, 3, 8], [], qs17, [.arr (.int .i64) false], fun v w => (ss_insertionSortCmpFunc_int_l1 big v.2.1 v.2.2.1 v.2.2.2.1.2.1 v.2.2.2.2.1 w.1).bind fun x0 => ss_insertionSortCmpFunc_int_k3 x0⟩
theorem Lc_n15_l1_ok (r : qL0) : LpOk F_n15 (b_n15 r).enc r (Lc_n15_l1) (stAt F_n15 [4, 1]) := fun v w hi h0 => by
  obtain ⟨x, hx0, h⟩ := bind_some h0
  exact ss_insertionSortCmpFunc_int_l1_ok (r := x) (RT := (b_n15 r).enc) ⟨⟨[].map TI'.conc ++ [], by kernel_rfl, fun v' w' hi' h' => by obtain rfl := Option.some.inj h'; exact L_n15_k3_ok r v' w' hi' h⟩, trivial⟩ (fun _ ht => nomatch ht) big v w hi hx0
def S_ss_insertionSortCmpFunc_int : FSig U := ⟨qL0, [25, 3, 3, 35], [.lend, .p, .p, .p], [none, none, none, none], [.arr (.int .i64), .p (.int .i64), .p (.int .i64), .fn 149 [] [.pp (.st 3)]], fun v => ss_insertionSortCmpFunc_int_w v.1 v.2.1 v.2.2.1 v.2.2.2.1.2.1, b_n15⟩
theorem S_ss_insertionSortCmpFunc_int_ok : SigOk X0.E 198 S_ss_insertionSortCmpFunc_int.sig := FSig.ok uok fun v r h0 => ⟨fun_of_pt (F := F_n15) (RT := (b_n15 r).enc) rfl Tryd.func198 (by decide) rfl (Nat.le_of_ble_eq_true (by kernel_rfl)) (have h := (chkLen h0).1; Pt.ev0 F_n15_ok (S := R_n15) (g := g_n15) (b := b_n15) (cuts := [([4, 1], Lc_n15_l1)]) (pre := ([tc0 F_n15] : List TI')) (T := argTS (bldsA S_ss_insertionSortCmpFunc_int.as v)) (by kernel_rfl) (argTS_inv _) (Eq.trans (by kernel_rfl) h) ⟨rfl, trivial⟩ ⟨(Lc_n15_l1_ok r), trivial⟩ fun _ => rfl), outsLen_of (Eq.trans (by kernel_rfl) (chkLen h0).2)⟩

abbrev Tr_n19_0 : Type := Int → GaTable → Int → Int → Int → qL0 → Option qT39
abbrev Tr_n19_1 : Type := Int → GaTable → Int → qL0 → Option qL0
/-! ### slices.stableCmpFunc[int] -/
def c_n19 : Code := bodyOf Tryd.f180
def F_n19 : FC U := ⟨X0.at 63, Tryd.f180, c_n19, [(198, S_ss_insertionSortCmpFunc_int.sig)], [0], [], []⟩
theorem F_n19_ok : FOk F_n19 := fok uok tok0 eok0 mixed rfl ⟨S_ss_insertionSortCmpFunc_int_ok, trivial⟩
def R_n19 : RSh := ⟨[], [(0, .arr (.int .i64))]⟩
def g_n19 (v : RVal U R_n19) : qL0 := v.2.1
def b_n19 (q : qL0) : TRet U := R_n19.bld ((), (q, ()))
def L_n19_k3 : Lp U qL0 := ⟨[], [], [], [.arr (.int .i64) false], fun v w => ss_stableCmpFunc_int_k3 w.1⟩
theorem L_n19_k3_ok (r : qL0) : LpOk F_n19 (b_n19 r).enc r (L_n19_k3) ([].map TI'.conc ++ []) := fun v w hi h => Pt.ev0 F_n19_ok (S := R_n19) (g := g_n19) (b := b_n19) (cuts := []) (pre := []) (T := Lp.st F_n19 (L_n19_k3) v w) (by kernel_rfl) hi (Eq.trans (by kernel_rfl) h) trivial trivial fun _ => rfl
def base_n19_l2 : List Eng.Item := .lp (codeAt F_n19 [5, 4, 1, 1, 1, 1]) :: ([.blk 2].map TI'.conc ++ [])
def Lh_n19_l2 (rec_ : Tr_n19_1) : Lp U qL0 := ⟨[0, 1, 2, 6], [], qs24, [.arr (.int .i64) false], fun v w => rec_ v.2.1 v.2.2.1.2.1 v.2.2.2.1 w.1⟩
def Lx_n19_l2 : Lp U qL0 := ⟨[], [], [], [.arr (.int .i64) false], fun v w => some w.1⟩
def L_n19_k2 (rec_ : Tr_n19_1) : Lp U qL0 := ⟨[0, 1, 2, 6, 7], [], qs18, [.arr (.int .i64) false], fun v w => ss_stableCmpFunc_int_k2 rec_ v.2.1 v.2.2.1.2.1 v.2.2.2.1 v.2.2.2.2.1 w.1⟩
theorem L_n19_k2_ok {RT : Ret} {r : qL0} {rec_ : Tr_n19_1} (hb : LpOk F_n19 RT r (Lh_n19_l2 rec_) base_n19_l2) (hx : AllExits F_n19 RT r base_n19_l2 [(2, Lx_n19_l2)]) (hr : qH (fun _ => none) r RT) : LpOk F_n19 RT r (L_n19_k2 rec_) ([tc F_n19 [1, 1, 4, 1, 5, 4, 1, 1, 1, 1], .blk 3].map TI'.conc ++ base_n19_l2) := fun v w hi h => Pt.evlAt F_n19_ok (r := r) 4000 (cuts := []) (back := (some (Lh_n19_l2 rec_))) (exits := [(2, Lx_n19_l2)]) (ret := (fun _ => none)) (base := base_n19_l2) (pre := [tc F_n19 [1, 1, 4, 1, 5, 4, 1, 1, 1, 1], .blk 3]) (T := Lp.st F_n19 (L_n19_k2 rec_) v w) (by kernel_rfl) hi (Eq.trans (by kernel_rfl) h) ⟨by kernel_rfl, trivial⟩ trivial (fun L hL => by cases hL; exact hb) (fun hn => nomatch hn) hx hr
def base_n19_l3 : List Eng.Item := .lp (codeAt F_n19 [5, 4, 0, 1, 4, 1, 5, 4, 1, 1, 1, 1]) :: ([.blk 4, tc F_n19 [1, 1, 4, 1, 5, 4, 1, 1, 1, 1], .blk 3].map TI'.conc ++ base_n19_l2)
def Lh_n19_l3 (rec_ : Tr_n19_0) : Lp U qT39 := ⟨[0, 1, 2, 6, 7, 8], [], qs10, [.arr (.int .i64) false], fun v w => rec_ v.2.1 v.2.2.1.2.1 v.2.2.2.1 v.2.2.2.2.1 v.2.2.2.2.2.1 w.1⟩
def Lx_n19_l3 : Lp U qT39 := ⟨[0, 1, 2, 6, 7], [], qs18, [.arr (.int .i64) false], fun v w => some (v.2.1, v.2.2.1.2.1, v.2.2.2.1, v.2.2.2.2.1, w.1)⟩
theorem ss_stableCmpFunc_int_l3_ok {RT : Ret} {r : qT39} (hx : AllExits F_n19 RT r base_n19_l3 [(4, Lx_n19_l3)]) (hr : qH (fun _ => none) r RT) : ∀ n, LpOk F_n19 RT r (Lh_n19_l3 (ss_stableCmpFunc_int_l3 n)) (stAt F_n19 [4, 0, 1, 4, 1, 5, 4, 1, 1, 1, 1]) :=
  loop_ok F_n19_ok 4000 (q := [4, 0, 1, 4, 1, 5, 4, 1, 1, 1, 1]) (body := codeAt F_n19 [5, 4, 0, 1, 4, 1, 5, 4, 1, 1, 1, 1]) (live := [0, 1, 2, 6, 7, 8]) (frz := []) (shs := qs10) (sho := [.arr (.int .i64) false]) (fun n v w => ss_stableCmpFunc_int_l3 n v.2.1 v.2.2.1.2.1 v.2.2.2.1 v.2.2.2.2.1 v.2.2.2.2.2.1 w.1) (cuts := fun n => []) (exits := [(4, Lx_n19_l3)]) (ret := (fun _ => none)) (by kernel_rfl) (fun _ _ => rfl) (fun n v w => by kernel_rfl) (fun n hb => trivial) hx hr
def Lc_n19_l3 (rec_ : Tr_n19_1) : Lp U qL0 := ⟨[0, 1, 2, 6, 7, 8], [], qs10, [.arr (.int .i64) false], fun v w => (ss_stableCmpFunc_int_l3 big v.2.1 v.2.2.1.2.1 v.2.2.2.1 v.2.2.2.2.1 v.2.2.2.2.2.1 w.1).bind fun (x0, x1, x2, x3, x4) => ss_stableCmpFunc_int_k2 rec_ x0 x1 x2 x3 x4⟩
theorem Lc_n19_l3_ok {RT : Ret} {r : qL0} {rec_ : Tr_n19_1} (hb : LpOk F_n19 RT r (Lh_n19_l2 rec_) base_n19_l2) (hx : AllExits F_n19 RT r base_n19_l2 [(2, Lx_n19_l2)]) (hr : qH (fun _ => none) r RT) : LpOk F_n19 RT r (Lc_n19_l3 rec_) (stAt F_n19 [4, 0, 1, 4, 1, 5, 4, 1, 1, 1, 1]) := fun v w hi h0 => by
  obtain ⟨x, hx0, h⟩ := bind_some h0
  exact ss_stableCmpFunc_int_l3_ok (r := x) (RT := RT) ⟨⟨[tc F_n19 [1, 1, 4, 1, 5, 4, 1, 1, 1, 1], .blk 3].map TI'.conc ++ base_n19_l2, by kernel_rfl, fun v' w' hi' h' => by obtain rfl := Option.some.inj h'; exact L_n19_k2_ok hb hx hr v' w' hi' h⟩, trivial⟩ (fun _ ht => nomatch ht) big v w hi hx0
theorem ss_stableCmpFunc_int_l2_ok {RT : Ret} {r : qL0} (hx : AllExits F_n19 RT r base_n19_l2 [(2, Lx_n19_l2)]) (hr : qH (fun _ => none) r RT) : ∀ n, LpOk F_n19 RT r (Lh_n19_l2 (ss_stableCmpFunc_int_l2 n)) (stAt F_n19 [4, 1, 1, 1, 1]) :=
  loop_ok F_n19_ok 4000 (q := [4, 1, 1, 1, 1]) (body := codeAt F_n19 [5, 4, 1, 1, 1, 1]) (live := [0, 1, 2, 6]) (frz := []) (shs := qs24) (sho := [.arr (.int .i64) false]) (fun n v w => ss_stableCmpFunc_int_l2 n v.2.1 v.2.2.1.2.1 v.2.2.2.1 w.1) (cuts := fun n => [([4, 0, 1, 4, 1, 5, 4, 1, 1, 1, 1], Lc_n19_l3 (ss_stableCmpFunc_int_l2 n))]) (exits := [(2, Lx_n19_l2)]) (ret := (fun _ => none)) (by kernel_rfl) (fun _ _ => rfl) (fun n v w => by kernel_rfl) (fun n hb => ⟨Lc_n19_l3_ok hb hx hr, trivial⟩) hx hr
def Lc_n19_l2 : Lp U qL0 := ⟨[0, 1, 2, 6], [], qs24, [.arr (.int .i64) false], fun v w => (ss_stableCmpFunc_int_l2 big v.2.1 v.2.2.1.2.1 v.2.2.2.1 w.1).bind fun x0 => ss_stableCmpFunc_int_k3 x0⟩
theorem Lc_n19_l2_ok (r : qL0) : LpOk F_n19 (b_n19 r).enc r (Lc_n19_l2) (stAt F_n19 [4, 1, 1, 1, 1]) := fun v w hi h0 => by
  obtain ⟨x, hx0, h⟩ := bind_some h0
  exact ss_stableCmpFunc_int_l2_ok (r := x) (RT := (b_n19 r).enc) ⟨⟨[].map TI'.conc ++ [], by kernel_rfl, fun v' w' hi' h' => by obtain rfl := Option.some.inj h'; exact L_n19_k3_ok r v' w' hi' h⟩, trivial⟩ (fun _ ht => nomatch ht) big v w hi hx0
def L_n19_k1 : Lp U qL0 := ⟨[0, 1, 2, 6, 7], [], qs18, [.arr (.int .i64) false], fun v w => ss_stableCmpFunc_int_k1 v.2.1 v.2.2.1.2.1 v.2.2.2.1 v.2.2.2.2.1 w.1⟩
theorem L_n19_k1_ok (r : qL0) : LpOk F_n19 (b_n19 r).enc r (L_n19_k1) ([tc F_n19 [1, 1, 1]].map TI'.conc ++ []) := fun v w hi h => Pt.ev0 F_n19_ok (S := R_n19) (g := g_n19) (b := b_n19) (cuts := [([4, 1, 1, 1, 1], Lc_n19_l2)]) (pre := [tc F_n19 [1, 1, 1]]) (T := Lp.st F_n19 (L_n19_k1) v w) (by kernel_rfl) hi (Eq.trans (by kernel_rfl) h) ⟨by kernel_rfl, trivial⟩ ⟨(Lc_n19_l2_ok r), trivial⟩ fun _ => rfl
def base_n19_l1 : List Eng.Item := .lp (codeAt F_n19 [5, 4, 0, 1, 1]) :: ([.blk 0, tc F_n19 [1, 1, 1]].map TI'.conc ++ [])
def Lh_n19_l1 (rec_ : Tr_n19_0) : Lp U qT39 := ⟨[0, 1, 2, 6, 7, 8], [], qs10, [.arr (.int .i64) false], fun v w => rec_ v.2.1 v.2.2.1.2.1 v.2.2.2.1 v.2.2.2.2.1 v.2.2.2.2.2.1 w.1⟩
def Lx_n19_l1 : Lp U qT39 := ⟨[0, 1, 2, 6, 7], [], qs18, [.arr (.int .i64) false], fun v w => some (v.2.1, v.2.2.1.2.1, v.2.2.2.1, v.2.2.2.2.1, w.1)⟩
theorem ss_stableCmpFunc_int_l1_ok {RT : Ret} {r : qT39} (hx : AllExits F_n19 RT r base_n19_l1 [(0, Lx_n19_l1)]) (hr : qH (fun _ => none) r RT) : ∀ n, LpOk F_n19 RT r (Lh_n19_l1 (ss_stableCmpFunc_int_l1 n)) (stAt F_n19 [4, 0, 1, 1]) :=
  loop_ok F_n19_ok 4000 (q := [4, 0, 1, 1]) (body := codeAt F_n19 [5, 4, 0, 1, 1]) (live := [0, 1, 2, 6, 7, 8]) (frz := []) (shs := qs10) (sho := [.arr (.int .i64) false]) (fun n v w => ss_stableCmpFunc_int_l1 n v.2.1 v.2.2.1.2.1 v.2.2.2.1 v.2.2.2.2.1 v.2.2.2.2.2.1 w.1) (cuts := fun n => []) (exits := [(0, Lx_n19_l1)]) (ret := (fun _ => none)) (by kernel_rfl) (fun _ _ => rfl) (fun n v w => by kernel_rfl) (fun n hb => trivial) hx hr
def Lc_n19_l1 : Lp U qL0 := ⟨[0, 1, 2, 6, 7, 8], [], qs10, [.arr (.int .i64) false], fun v w => (ss_stableCmpFunc_int_l1 big v.2.1 v.2.2.1.2.1 v.2.2.2.1 v.2.2.2.2.1 v.2.2.2.2.2.1 w.1).bind fun (x0, x1, x2, x3, x4) => ss_stableCmpFunc_int_k1 x0 x1 x2 x3 x4⟩
theorem Lc_n19_l1_ok (r : qL0) : LpOk F_n19 (b_n19 r).enc r (Lc_n19_l1) (stAt F_n19 [4, 0, 1, 1]) := fun v w hi h0 => by
  obtain ⟨x, hx0, h⟩ := bind_some h0
  exact ss_stableCmpFunc_int_l1_ok (r := x) (RT := (b_n19 r).enc) ⟨⟨[tc F_n19 [1, 1, 1]].map TI'.conc ++ [], by kernel_rfl, fun v' w' hi' h' => by obtain rfl := Option.some.inj h'; exact L_n19_k1_ok r v' w' hi' h⟩, trivial⟩ (fun _ ht => nomatch ht) big v w hi hx0
def S_ss_stableCmpFunc_int : FSig U := ⟨qL0, [25, 3, 35], [.lend, .p, .p], [none, none, none], [.arr (.int .i64), .p (.int .i64), .fn 149 [] [.pp (.st 3)]], fun v => ss_stableCmpFunc_int_w v.1 v.2.1 v.2.2.1.2.1, b_n19⟩
theorem S_ss_stableCmpFunc_int_ok : SigOk X0.E 180 S_ss_stableCmpFunc_int.sig := FSig.ok uok fun v r h0 => ⟨fun_of_pt (F := F_n19) (RT := (b_n19 r).enc) rfl Tryd.func180 (by decide) rfl (Nat.le_of_ble_eq_true (by kernel_rfl)) (have h := (chkLen h0).1; Pt.ev0 F_n19_ok (S := R_n19) (g := g_n19) (b := b_n19) (cuts := [([4, 0, 1, 1], Lc_n19_l1)]) (pre := ([tc0 F_n19] : List TI')) (T := argTS (bldsA S_ss_stableCmpFunc_int.as v)) (by kernel_rfl) (argTS_inv _) (Eq.trans (by kernel_rfl) h) ⟨rfl, trivial⟩ ⟨(Lc_n19_l1_ok r), trivial⟩ fun _ => rfl), outsLen_of (Eq.trans (by kernel_rfl) (chkLen h0).2)⟩

/-! ### slices.SortStableFunc[[]int,int] -/
def c_n20 : Code := bodyOf Tryd.f148
def F_n20 : FC U := ⟨X0.at 9, Tryd.f148, c_n20, [(180, S_ss_stableCmpFunc_int.sig)], [0], [], []⟩
theorem F_n20_ok : FOk F_n20 := fok uok tok0 eok0 mixed rfl ⟨S_ss_stableCmpFunc_int_ok, trivial⟩
def R_n20 : RSh := ⟨[], [(0, .arr (.int .i64))]⟩
def g_n20 (v : RVal U R_n20) : qL0 := v.2.1
def b_n20 (q : qL0) : TRet U := R_n20.bld ((), (q, ()))
def S_ss_SortStableFunc_int_int : FSig U := ⟨qL0, [25, 35], [.lend, .p], [none, none], [.arr (.int .i64), .fn 149 [] [.pp (.st 3)]], fun v => ss_SortStableFunc_int_int_w v.1 v.2.1.2.1, b_n20⟩
theorem S_ss_SortStableFunc_int_int_ok : SigOk X0.E 148 S_ss_SortStableFunc_int_int.sig := FSig.ok uok fun v r h0 => ⟨fun_of_pt (F := F_n20) (RT := (b_n20 r).enc) rfl Tryd.func148 (by decide) rfl (Nat.le_of_ble_eq_true (by kernel_rfl)) (have h := (chkLen h0).1; Pt.ev0 F_n20_ok (S := R_n20) (g := g_n20) (b := b_n20) (cuts := []) (pre := ([tc0 F_n20] : List TI')) (T := argTS (bldsA S_ss_SortStableFunc_int_int.as v)) (by kernel_rfl) (argTS_inv _) (Eq.trans (by kernel_rfl) h) ⟨rfl, trivial⟩ trivial fun _ => rfl), outsLen_of (Eq.trans (by kernel_rfl) (chkLen h0).2)⟩

/-! ### tablefinder/table.within$1 -/
def c_n21 : Code := bodyOf Tryd.f155
def F_n21 : FC U := ⟨X0.at 11, Tryd.f155, c_n21, [], [], [.p], [none]⟩
theorem F_n21_ok : FOk F_n21 := fok uok tok0 eok0 mixed rfl trivial
def R_n21 : RSh := ⟨[.p .bool], []⟩
def g_n21 (v : RVal U R_n21) : Bool := v.1.1
def b_n21 (q : Bool) : TRet U := R_n21.bld ((q, ()), ())
def L_n21_j1 : Lp U Bool := ⟨[3], [], [.o (.v .bool)], [], fun v w => s_table_within_1_j1 v.1⟩
theorem L_n21_j1_ok (r : Bool) : LpOk F_n21 (b_n21 r).enc r (L_n21_j1) (stAt F_n21 [1, 1]) := fun v w hi h => Pt.ev0 F_n21_ok (S := R_n21) (g := g_n21) (b := b_n21) (cuts := []) (pre := [tc F_n21 [1, 1]]) (T := Lp.st F_n21 (L_n21_j1) v w) (by kernel_rfl) hi (Eq.trans (by kernel_rfl) h) ⟨by kernel_rfl, trivial⟩ trivial fun _ => rfl
def S_s_table_within_1 : FSig U := ⟨Bool, [3], [.p, .p], [none, none], [.p (.int .i64), .ptr (.int .i64)], fun v => s_table_within_1 v.1 v.2.1, b_n21⟩
theorem S_s_table_within_1_ok : SigOk X0.E 155 S_s_table_within_1.sig := FSig.ok0 F_n21_ok (R := R_n21) (g := g_n21) (cuts := [([1, 1], L_n21_j1)]) (pre := [tc0 F_n21]) rfl Tryd.func155 (by decide) rfl (fun _ => Nat.le_of_ble_eq_true (by kernel_rfl)) (fun _ => rfl) (by kernel_rfl) (fun _ _ h => Eq.trans (by kernel_rfl) h) ⟨rfl, trivial⟩ (fun r => ⟨(L_n21_j1_ok r), trivial⟩) fun _ => rfl

/-! ### tablefinder/table.every[int] -/
def c_n22 : Code := bodyOf Tryd.f154
def F_n22 : FC U := ⟨X0.at 18, Tryd.f154, c_n22, [(155, S_s_table_within_1.sig)], [], [.p], [none]⟩
theorem F_n22_ok : FOk F_n22 := fok uok tok0 eok0 mixed rfl ⟨S_s_table_within_1_ok, trivial⟩
def R_n22 : RSh := ⟨[.p .bool], []⟩
def g_n22 (v : RVal U R_n22) : Bool := v.1.1
def b_n22 (q : Bool) : TRet U := R_n22.bld ((q, ()), ())
def L_n22_k1 : Lp U Bool := ⟨[], [], [], [], fun v w => s_table_every_int_k1⟩
theorem L_n22_k1_ok (r : Bool) : LpOk F_n22 (b_n22 r).enc r (L_n22_k1) ([tc F_n22 [1, 1]].map TI'.conc ++ []) := fun v w hi h => Pt.ev0 F_n22_ok (S := R_n22) (g := g_n22) (b := b_n22) (cuts := []) (pre := [tc F_n22 [1, 1]]) (T := Lp.st F_n22 (L_n22_k1) v w) (by kernel_rfl) hi (Eq.trans (by kernel_rfl) h) ⟨by kernel_rfl, trivial⟩ trivial fun _ => rfl
def base_n22_l1 : List Eng.Item := .lp (codeAt F_n22 [5, 4, 1, 0, 1]) :: ([.blk 0, tc F_n22 [1, 1]].map TI'.conc ++ [])
def Lh_n22_l1 (rec_ : Int → qL0 → Int → Int → Option (Out Unit Bool)) : Lp U (Out Unit Bool) := ⟨[1, 7, 8, 9], [], [.fn 155 [] [.pp (.int .i64)], .o (.v (.sl (.int .i64))), qi, qi], [], fun v w => rec_ v.1.2.1 v.2.1 v.2.2.1 v.2.2.2.1⟩
def Lx_n22_l1 : Lp U (Out Unit Bool) := ⟨[], [], [], [], fun v w => some (.brk ())⟩
theorem s_table_every_int_l1_ok {RT : Ret} {r : (Out Unit Bool)} (hx : AllExits F_n22 RT r base_n22_l1 [(0, Lx_n22_l1)]) (hr : qH (retOf R_n22 fun v => Out.ret (β := Unit) (g_n22 v)) r RT) : ∀ n, LpOk F_n22 RT r (Lh_n22_l1 (s_table_every_int_l1 n)) (stAt F_n22 [4, 1, 0, 1]) :=
  loop_ok F_n22_ok 4000 (q := [4, 1, 0, 1]) (body := codeAt F_n22 [5, 4, 1, 0, 1]) (live := [1, 7, 8, 9]) (frz := []) (shs := [.fn 155 [] [.pp (.int .i64)], .o (.v (.sl (.int .i64))), qi, qi]) (sho := []) (fun n v w => s_table_every_int_l1 n v.1.2.1 v.2.1 v.2.2.1 v.2.2.2.1) (cuts := fun n => []) (exits := [(0, Lx_n22_l1)]) (ret := (retOf R_n22 fun v => Out.ret (β := Unit) (g_n22 v))) (by kernel_rfl) (fun _ _ => rfl) (fun n v w => by kernel_rfl) (fun n hb => trivial) hx hr
def Lc_n22_l1 : Lp U Bool := ⟨[1, 7, 8, 9], [], [.fn 155 [] [.pp (.int .i64)], .o (.v (.sl (.int .i64))), qi, qi], [], fun v w => (s_table_every_int_l1 big v.1.2.1 v.2.1 v.2.2.1 v.2.2.2.1).bind fun | .ret q_ => some q_ | .brk () => s_table_every_int_k1⟩
theorem Lc_n22_l1_ok (r : Bool) : LpOk F_n22 (b_n22 r).enc r (Lc_n22_l1) (stAt F_n22 [4, 1, 0, 1]) := fun v w hi h0 => by
  obtain ⟨x, hx0, h⟩ := bind_some h0
  exact s_table_every_int_l1_ok (r := x) (RT := (b_n22 r).enc) ⟨⟨[tc F_n22 [1, 1]].map TI'.conc ++ [], by kernel_rfl, fun v' w' hi' h' => by obtain rfl := Option.some.inj h'; exact L_n22_k1_ok r v' w' hi' h⟩, trivial⟩ (fun t ht => by obtain ⟨q, rfl, hq⟩ := retOut ht; obtain rfl := Option.some.inj h; exact retOf_enc uok (give := b_n22) (fun _ => rfl) hq) big v w hi hx0
def S_s_table_every_int : FSig U := ⟨Bool, [25, 183], [.p, .p], [none, none], [.p (.sl (.int .i64)), .fn 155 [] [.pp (.int .i64)]], fun v => s_table_every_int v.1 v.2.1.2.1, b_n22⟩
theorem S_s_table_every_int_ok : SigOk X0.E 154 S_s_table_every_int.sig := FSig.ok0 F_n22_ok (R := R_n22) (g := g_n22) (cuts := [([4, 1, 0, 1], Lc_n22_l1)]) (pre := [tc0 F_n22]) rfl Tryd.func154 (by decide) rfl (fun _ => Nat.le_of_ble_eq_true (by kernel_rfl)) (fun _ => rfl) (by kernel_rfl) (fun _ _ h => Eq.trans (by kernel_rfl) h) ⟨rfl, trivial⟩ (fun r => ⟨(Lc_n22_l1_ok r), trivial⟩) fun _ => rfl

/-! ### tablefinder/table.within -/
def c_n23 : Code := bodyOf Tryd.f110
def F_n23 : FC U := ⟨X0.at 8, Tryd.f110, c_n23, [(154, S_s_table_every_int.sig)], [], [.p], [none]⟩
theorem F_n23_ok : FOk F_n23 := fok uok tok0 eok0 mixed rfl ⟨S_s_table_every_int_ok, trivial⟩
def R_n23 : RSh := ⟨[.p .bool], []⟩
def g_n23 (v : RVal U R_n23) : Bool := v.1.1
def b_n23 (q : Bool) : TRet U := R_n23.bld ((q, ()), ())
def S_s_table_within : FSig U := ⟨Bool, [25, 3], [.p, .p], [none, none], [.p (.sl (.int .i64)), .p (.int .i64)], fun v => s_table_within v.1 v.2.1, b_n23⟩
theorem S_s_table_within_ok : SigOk X0.E 110 S_s_table_within.sig := FSig.ok0 F_n23_ok (R := R_n23) (g := g_n23) (cuts := []) (pre := [tc0 F_n23]) rfl Tryd.func110 (by decide) rfl (fun _ => Nat.le_of_ble_eq_true (by kernel_rfl)) (fun _ => rfl) (by kernel_rfl) (fun _ _ h => Eq.trans (by kernel_rfl) h) ⟨rfl, trivial⟩ (fun r => trivial) fun _ => rfl

/-! ### tablefinder/table.Select$1 -/
def c_n24 : Code := bodyOf Tryd.f112
def F_n24 : FC U := ⟨X0.at 37, Tryd.f112, c_n24, [], [], [.p], [some 2]⟩
theorem F_n24_ok : FOk F_n24 := fok uok tok0 eok0 mixed rfl trivial
def R_n24 : RSh := ⟨[.p (.st 2)], []⟩
def g_n24 (v : RVal U R_n24) : GaColumn := v.1.1
def b_n24 (q : GaColumn) : TRet U := R_n24.bld ((q, ()), ())
def L_n24_k1 : Lp U GaColumn := ⟨[4, 5], [], qs29, qo12, fun v w => s_table_Select_1_k1 w.1.1 w.2.1.1 w.2.2.1 w.2.2.2.1⟩
theorem L_n24_k1_ok (r : GaColumn) : LpOk F_n24 (b_n24 r).enc r (L_n24_k1) ([tc F_n24 [1, 1, 1]].map TI'.conc ++ []) := fun v w hi h => Pt.ev0 F_n24_ok (S := R_n24) (g := g_n24) (b := b_n24) (cuts := []) (pre := [tc F_n24 [1, 1, 1]]) (T := Lp.st F_n24 (L_n24_k1) v w) (by kernel_rfl) hi (Eq.trans (by kernel_rfl) h) ⟨by kernel_rfl, trivial⟩ trivial fun _ => rfl
def base_n24_l1 : List Eng.Item := .lp (codeAt F_n24 [5, 4, 1, 0, 1, 1]) :: ([.blk 0, tc F_n24 [1, 1, 1]].map TI'.conc ++ [])
def Lh_n24_l1 (rec_ : Int → GaTable → qL0 → Int → Int → Str → Str → qL2 → qL2 → Option qT37) : Lp U qT37 := ⟨[0, 1, 4, 5, 15, 16, 17], [], qs5, qo12, fun v w => rec_ v.1 v.2.1 v.2.2.2.2.1 v.2.2.2.2.2.1 v.2.2.2.2.2.2.1 w.1.1 w.2.1.1 w.2.2.1 w.2.2.2.1⟩
def Lx_n24_l1 : Lp U qT37 := ⟨[4, 5], [], qs29, qo12, fun v w => some (w.1.1, w.2.1.1, w.2.2.1, w.2.2.2.1)⟩
theorem s_table_Select_1_l1_ok {RT : Ret} {r : qT37} (hx : AllExits F_n24 RT r base_n24_l1 [(0, Lx_n24_l1)]) (hr : qH (fun _ => none) r RT) : ∀ n, LpOk F_n24 RT r (Lh_n24_l1 (s_table_Select_1_l1 n)) (stAt F_n24 [4, 1, 0, 1, 1]) :=
  loop_ok F_n24_ok 4000 (q := [4, 1, 0, 1, 1]) (body := codeAt F_n24 [5, 4, 1, 0, 1, 1]) (live := [0, 1, 4, 5, 15, 16, 17]) (frz := []) (shs := qs5) (sho := qo12) (fun n v w => s_table_Select_1_l1 n v.1 v.2.1 v.2.2.2.2.1 v.2.2.2.2.2.1 v.2.2.2.2.2.2.1 w.1.1 w.2.1.1 w.2.2.1 w.2.2.2.1) (cuts := fun n => []) (exits := [(0, Lx_n24_l1)]) (ret := (fun _ => none)) (by kernel_rfl) (fun _ _ => rfl) (fun n v w => by kernel_rfl) (fun n hb => trivial) hx hr
def Lc_n24_l1 : Lp U GaColumn := ⟨[0, 1, 4, 5, 15, 16, 17], [], qs5, qo12, fun v w => (s_table_Select_1_l1 big v.1 v.2.1 v.2.2.2.2.1 v.2.2.2.2.2.1 v.2.2.2.2.2.2.1 w.1.1 w.2.1.1 w.2.2.1 w.2.2.2.1).bind fun (x0, x1, x2, x3) => s_table_Select_1_k1 x0 x1 x2 x3⟩
theorem Lc_n24_l1_ok (r : GaColumn) : LpOk F_n24 (b_n24 r).enc r (Lc_n24_l1) (stAt F_n24 [4, 1, 0, 1, 1]) := fun v w hi h0 => by
  obtain ⟨x, hx0, h⟩ := bind_some h0
  exact s_table_Select_1_l1_ok (r := x) (RT := (b_n24 r).enc) ⟨⟨[tc F_n24 [1, 1, 1]].map TI'.conc ++ [], by kernel_rfl, fun v' w' hi' h' => by obtain rfl := Option.some.inj h'; exact L_n24_k1_ok r v' w' hi' h⟩, trivial⟩ (fun _ ht => nomatch ht) big v w hi hx0
def S_s_table_Select_1 : FSig U := ⟨GaColumn, [3], [.p, .p, .p], [none, none, none], [.p (.int .i64), .ptr (.st 3), .ptr (.sl (.int .i64))], fun v => s_table_Select_1 v.1 v.2.1 v.2.2.1, b_n24⟩
theorem S_s_table_Select_1_ok : SigOk X0.E 112 S_s_table_Select_1.sig := FSig.ok0 F_n24_ok (R := R_n24) (g := g_n24) (cuts := [([4, 1, 0, 1, 1], Lc_n24_l1)]) (pre := [tc0 F_n24]) rfl Tryd.func112 (by decide) rfl (fun _ => Nat.le_of_ble_eq_true (by kernel_rfl)) (fun _ => rfl) (by kernel_rfl) (fun _ _ h => Eq.trans (by kernel_rfl) h) ⟨rfl, trivial⟩ (fun r => ⟨(Lc_n24_l1_ok r), trivial⟩) fun _ => rfl

/-! ### tablefinder/table.with -/
def c_n25 : Code := bodyOf Tryd.f111
def F_n25 : FC U := ⟨X0.at 28, Tryd.f111, c_n25, [(112, S_s_table_Select_1.sig)], [], [.p], [some 3]⟩
theorem F_n25_ok : FOk F_n25 := fok uok tok0 eok0 mixed rfl ⟨S_s_table_Select_1_ok, trivial⟩
def R_n25 : RSh := ⟨[.p (.st 3)], []⟩
def g_n25 (v : RVal U R_n25) : GaTable := v.1.1
def b_n25 (q : GaTable) : TRet U := R_n25.bld ((q, ()), ())
def L_n25_k1 : Lp U GaTable := ⟨[6, 7], [], qs29, qo2, fun v w => s_table_with_k1 w.1.1 w.1.2.1 w.2.1.1 w.2.1.2.1 w.2.2.1 w.2.2.2.1⟩
theorem L_n25_k1_ok (r : GaTable) : LpOk F_n25 (b_n25 r).enc r (L_n25_k1) ([tc F_n25 [1, 1, 1]].map TI'.conc ++ []) := fun v w hi h => Pt.ev0 F_n25_ok (S := R_n25) (g := g_n25) (b := b_n25) (cuts := []) (pre := [tc F_n25 [1, 1, 1]]) (T := Lp.st F_n25 (L_n25_k1) v w) (by kernel_rfl) hi (Eq.trans (by kernel_rfl) h) ⟨by kernel_rfl, trivial⟩ trivial fun _ => rfl
def base_n25_l1 : List Eng.Item := .lp (codeAt F_n25 [5, 4, 1, 0, 1, 1]) :: ([.blk 0, tc F_n25 [1, 1, 1]].map TI'.conc ++ [])
def Lh_n25_l1 (rec_ : GaTable → qL0 → Int → Int → Int → Str → Int → Str → qL1 → qL1 → Option qT34) : Lp U qT34 := ⟨[2, 6, 7, 14, 15], [], [.fn 112 [] [.pp (.st 3), .pp (.sl (.int .i64))], .o (.ptr (0, 1, 1) 0 0), .o (.ptr (0, 2, 1) 0 0), qi, qi], qo2, fun v w => rec_ v.1.2.1 v.1.2.2.1 v.2.2.2.1 v.2.2.2.2.1 w.1.1 w.1.2.1 w.2.1.1 w.2.1.2.1 w.2.2.1 w.2.2.2.1⟩
def Lx_n25_l1 : Lp U qT34 := ⟨[6, 7], [], qs29, qo2, fun v w => some (w.1.1, w.1.2.1, w.2.1.1, w.2.1.2.1, w.2.2.1, w.2.2.2.1)⟩
theorem s_table_with_l1_ok {RT : Ret} {r : qT34} (hx : AllExits F_n25 RT r base_n25_l1 [(0, Lx_n25_l1)]) (hr : qH (fun _ => none) r RT) : ∀ n, LpOk F_n25 RT r (Lh_n25_l1 (s_table_with_l1 n)) (stAt F_n25 [4, 1, 0, 1, 1]) :=
  loop_ok F_n25_ok 4000 (q := [4, 1, 0, 1, 1]) (body := codeAt F_n25 [5, 4, 1, 0, 1, 1]) (live := [2, 6, 7, 14, 15]) (frz := []) (shs := [.fn 112 [] [.pp (.st 3), .pp (.sl (.int .i64))], .o (.ptr (0, 1, 1) 0 0), .o (.ptr (0, 2, 1) 0 0), qi, qi]) (sho := qo2) (fun n v w => s_table_with_l1 n v.1.2.1 v.1.2.2.1 v.2.2.2.1 v.2.2.2.2.1 w.1.1 w.1.2.1 w.2.1.1 w.2.1.2.1 w.2.2.1 w.2.2.2.1) (cuts := fun n => []) (exits := [(0, Lx_n25_l1)]) (ret := (fun _ => none)) (by kernel_rfl) (fun _ _ => rfl) (fun n v w => by kernel_rfl) (fun n hb => trivial) hx hr
def Lc_n25_l1 : Lp U GaTable := ⟨[2, 6, 7, 14, 15], [], [.fn 112 [] [.pp (.st 3), .pp (.sl (.int .i64))], .o (.ptr (0, 1, 1) 0 0), .o (.ptr (0, 2, 1) 0 0), qi, qi], qo2, fun v w => (s_table_with_l1 big v.1.2.1 v.1.2.2.1 v.2.2.2.1 v.2.2.2.2.1 w.1.1 w.1.2.1 w.2.1.1 w.2.1.2.1 w.2.2.1 w.2.2.2.1).bind fun (x0, x1, x2, x3, x4, x5) => s_table_with_k1 x0 x1 x2 x3 x4 x5⟩
theorem Lc_n25_l1_ok (r : GaTable) : LpOk F_n25 (b_n25 r).enc r (Lc_n25_l1) (stAt F_n25 [4, 1, 0, 1, 1]) := fun v w hi h0 => by
  obtain ⟨x, hx0, h⟩ := bind_some h0
  exact s_table_with_l1_ok (r := x) (RT := (b_n25 r).enc) ⟨⟨[tc F_n25 [1, 1, 1]].map TI'.conc ++ [], by kernel_rfl, fun v' w' hi' h' => by obtain rfl := Option.some.inj h'; exact L_n25_k1_ok r v' w' hi' h⟩, trivial⟩ (fun _ ht => nomatch ht) big v w hi hx0
def S_s_table_with : FSig U := ⟨GaTable, [24, 3, 154], [.p, .p, .p], [some 3, none, none], [.p (.st 3), .p (.int .i64), .fn 112 [] [.pp (.st 3), .pp (.sl (.int .i64))]], fun v => s_table_with v.1 v.2.1 v.2.2.1.2.1 v.2.2.1.2.2.1, b_n25⟩
theorem S_s_table_with_ok : SigOk X0.E 111 S_s_table_with.sig := FSig.ok0 F_n25_ok (R := R_n25) (g := g_n25) (cuts := [([4, 1, 0, 1, 1], Lc_n25_l1)]) (pre := [tc0 F_n25]) rfl Tryd.func111 (by decide) rfl (fun _ => Nat.le_of_ble_eq_true (by kernel_rfl)) (fun _ => rfl) (by kernel_rfl) (fun _ _ h => Eq.trans (by kernel_rfl) h) ⟨rfl, trivial⟩ (fun r => ⟨(Lc_n25_l1_ok r), trivial⟩) fun _ => rfl

/-! ### tablefinder/table.Select -/
def c_n26 : Code := bodyOf Tryd.f70
def F_n26 : FC U := ⟨X0.at 29, Tryd.f70, c_n26, [(75, S_s_table_Valid.sig), (68, S_s_table_Rows.sig), (110, S_s_table_within.sig), (111, S_s_table_with.sig)], [], [.p, .p], [some 3, none]⟩
theorem F_n26_ok : FOk F_n26 := fok uok tok0 eok0 mixed rfl ⟨S_s_table_Valid_ok, S_s_table_Rows_ok, S_s_table_within_ok, S_s_table_with_ok, trivial⟩
def R_n26 : RSh := ⟨[.p (.st 3), .p (.int .i64)], []⟩
def g_n26 (v : RVal U R_n26) : qT44 := (v.1.1, v.1.2.1)
def b_n26 (q : qT44) : TRet U := R_n26.bld ((q.1, (q.2, ())), ())
def S_s_table_Select : FSig U := ⟨qT44, [24, 25], [.p, .p], [some 3, none], [.p (.st 3), .p (.sl (.int .i64))], fun v => s_table_Select v.1 v.2.1, b_n26⟩
theorem S_s_table_Select_ok : SigOk X0.E 70 S_s_table_Select.sig := FSig.ok0 F_n26_ok (R := R_n26) (g := g_n26) (cuts := []) (pre := [tc0 F_n26]) rfl Tryd.func70 (by decide) rfl (fun _ => Nat.le_of_ble_eq_true (by kernel_rfl)) (fun _ => rfl) (by kernel_rfl) (fun _ _ h => Eq.trans (by kernel_rfl) h) ⟨rfl, trivial⟩ (fun r => trivial) fun _ => rfl

/-! ### tablefinder/table.Sort -/
def c_n27 : Code := bodyOf Tryd.f102
def F_n27 : FC U := ⟨X0.at 29, Tryd.f102, c_n27, [(68, S_s_table_Rows.sig), (75, S_s_table_Valid.sig), (148, S_ss_SortStableFunc_int_int.sig), (70, S_s_table_Select.sig)], [], [.p, .p], [some 3, none]⟩
theorem F_n27_ok : FOk F_n27 := fok uok tok0 eok0 mixed rfl ⟨S_s_table_Rows_ok, S_s_table_Valid_ok, S_ss_SortStableFunc_int_int_ok, S_s_table_Select_ok, trivial⟩
def R_n27 : RSh := ⟨[.p (.st 3), .p (.int .i64)], []⟩
def g_n27 (v : RVal U R_n27) : qT44 := (v.1.1, v.1.2.1)
def b_n27 (q : qT44) : TRet U := R_n27.bld ((q.1, (q.2, ())), ())
def L_n27_j2 : Lp U qT44 := ⟨[1, 2, 4], [1], [.o (.pp (.st 3)), .o (.ptr (0, 1, 1) 0 0), .o (.full (0, 2, 1))], [.box [qi, .o (.v .str), .o (.full (0, 3, 1))], .arr (.int .i64) false, .arr (.st 2) false], fun v w => s_table_Sort_j2 v.1 w.1.1 w.1.2.1 w.2.1 w.2.2.1⟩
theorem L_n27_j2_ok (r : qT44) : LpOk F_n27 (b_n27 r).enc r (L_n27_j2) (stAt F_n27 [1, 1, 1, 1]) := fun v w hi h => Pt.ev0 F_n27_ok (S := R_n27) (g := g_n27) (b := b_n27) (cuts := []) (pre := [tc F_n27 [1, 1, 1, 1]]) (T := Lp.st F_n27 (L_n27_j2) v w) (by kernel_rfl) hi (Eq.trans (by kernel_rfl) h) ⟨by kernel_rfl, trivial⟩ trivial fun _ => rfl
def L_n27_k1 : Lp U qT44 := ⟨[1, 2, 4], [], qs27, qo14, fun v w => s_table_Sort_k1 w.1 w.2.1.1 w.2.1.2.1 w.2.2.1 w.2.2.2.1⟩
theorem L_n27_k1_ok (r : qT44) : LpOk F_n27 (b_n27 r).enc r (L_n27_k1) ([tc F_n27 [1, 1, 1]].map TI'.conc ++ []) := fun v w hi h => Pt.ev0 F_n27_ok (S := R_n27) (g := g_n27) (b := b_n27) (cuts := [([1, 1, 1, 1], L_n27_j2)]) (pre := [tc F_n27 [1, 1, 1]]) (T := Lp.st F_n27 (L_n27_k1) v w) (by kernel_rfl) hi (Eq.trans (by kernel_rfl) h) ⟨by kernel_rfl, trivial⟩ ⟨(L_n27_j2_ok r), trivial⟩ fun _ => rfl
def base_n27_l1 : List Eng.Item := .lp (codeAt F_n27 [5, 4, 1, 0, 1, 1]) :: ([.blk 0, tc F_n27 [1, 1, 1]].map TI'.conc ++ [])
def Lh_n27_l1 (rec_ : Int → Int → GaTable → Int → Str → qL0 → qL1 → Option qT35) : Lp U qT35 := ⟨[1, 2, 4, 10, 11], [], qs16, qo14, fun v w => rec_ v.2.2.2.1 v.2.2.2.2.1 w.1 w.2.1.1 w.2.1.2.1 w.2.2.1 w.2.2.2.1⟩
def Lx_n27_l1 : Lp U qT35 := ⟨[1, 2, 4], [], qs27, qo14, fun v w => some (w.1, w.2.1.1, w.2.1.2.1, w.2.2.1, w.2.2.2.1)⟩
theorem s_table_Sort_l1_ok {RT : Ret} {r : qT35} (hx : AllExits F_n27 RT r base_n27_l1 [(0, Lx_n27_l1)]) (hr : qH (fun _ => none) r RT) : ∀ n, LpOk F_n27 RT r (Lh_n27_l1 (s_table_Sort_l1 n)) (stAt F_n27 [4, 1, 0, 1, 1]) :=
  loop_ok F_n27_ok 4000 (q := [4, 1, 0, 1, 1]) (body := codeAt F_n27 [5, 4, 1, 0, 1, 1]) (live := [1, 2, 4, 10, 11]) (frz := []) (shs := qs16) (sho := qo14) (fun n v w => s_table_Sort_l1 n v.2.2.2.1 v.2.2.2.2.1 w.1 w.2.1.1 w.2.1.2.1 w.2.2.1 w.2.2.2.1) (cuts := fun n => []) (exits := [(0, Lx_n27_l1)]) (ret := (fun _ => none)) (by kernel_rfl) (fun _ _ => rfl) (fun n v w => by kernel_rfl) (fun n hb => trivial) hx hr
def Lc_n27_l1 : Lp U qT44 := ⟨[1, 2, 4, 10, 11], [], qs16, qo14, fun v w => (s_table_Sort_l1 big v.2.2.2.1 v.2.2.2.2.1 w.1 w.2.1.1 w.2.1.2.1 w.2.2.1 w.2.2.2.1).bind fun (x0, x1, x2, x3, x4) => s_table_Sort_k1 x0 x1 x2 x3 x4⟩
theorem Lc_n27_l1_ok (r : qT44) : LpOk F_n27 (b_n27 r).enc r (Lc_n27_l1) (stAt F_n27 [4, 1, 0, 1, 1]) := fun v w hi h0 => by
  obtain ⟨x, hx0, h⟩ := bind_some h0
  exact s_table_Sort_l1_ok (r := x) (RT := (b_n27 r).enc) ⟨⟨[tc F_n27 [1, 1, 1]].map TI'.conc ++ [], by kernel_rfl, fun v' w' hi' h' => by obtain rfl := Option.some.inj h'; exact L_n27_k1_ok r v' w' hi' h⟩, trivial⟩ (fun _ ht => nomatch ht) big v w hi hx0
def S_s_table_Sort : FSig U := ⟨qT44, [24], [.p], [some 3], [.p (.st 3)], fun v => s_table_Sort v.1, b_n27⟩
theorem S_s_table_Sort_ok : SigOk X0.E 102 S_s_table_Sort.sig := FSig.ok0 F_n27_ok (R := R_n27) (g := g_n27) (cuts := [([4, 1, 0, 1, 1], Lc_n27_l1)]) (pre := [tc0 F_n27]) rfl Tryd.func102 (by decide) rfl (fun _ => Nat.le_of_ble_eq_true (by kernel_rfl)) (fun _ => rfl) (by kernel_rfl) (fun _ _ h => Eq.trans (by kernel_rfl) h) ⟨rfl, trivial⟩ (fun r => ⟨(Lc_n27_l1_ok r), trivial⟩) fun _ => rfl

/-! ### tablefinder/tablefinderlaw03.sane -/
def c_n28 : Code := bodyOf Tryd.f58
def F_n28 : FC U := ⟨X0.at 53, Tryd.f58, c_n28, [(102, S_s_table_Sort.sig), (75, S_s_table_Valid.sig), (68, S_s_table_Rows.sig)], [], [.p], [none]⟩
theorem F_n28_ok : FOk F_n28 := fok uok tok0 eok0 mixed rfl ⟨S_s_table_Sort_ok, S_s_table_Valid_ok, S_s_table_Rows_ok, trivial⟩
def R_n28 : RSh := ⟨[.p .bool], []⟩
def g_n28 (v : RVal U R_n28) : Bool := v.1.1
def b_n28 (q : Bool) : TRet U := R_n28.bld ((q, ()), ())
def L_n28_j1 : Lp U Bool := ⟨[0], [], [.o (.v .bool)], [], fun v w => sl03_sane_j1 v.1⟩
theorem L_n28_j1_ok (r : Bool) : LpOk F_n28 (b_n28 r).enc r (L_n28_j1) (stAt F_n28 [1, 1, 1, 1]) := fun v w hi h => Pt.ev0 F_n28_ok (S := R_n28) (g := g_n28) (b := b_n28) (cuts := []) (pre := [tc F_n28 [1, 1, 1, 1]]) (T := Lp.st F_n28 (L_n28_j1) v w) (by kernel_rfl) hi (Eq.trans (by kernel_rfl) h) ⟨by kernel_rfl, trivial⟩ trivial fun _ => rfl
def S_sl03_sane : FSig U := ⟨Bool, [], [], [], [], fun v => sl03_sane, b_n28⟩
theorem S_sl03_sane_ok : SigOk X0.E 58 S_sl03_sane.sig := FSig.ok0 F_n28_ok (R := R_n28) (g := g_n28) (cuts := [([1, 1, 1, 1], L_n28_j1)]) (pre := [tc0 F_n28]) rfl Tryd.func58 (by decide) rfl (fun _ => Nat.le_of_ble_eq_true (by kernel_rfl)) (fun _ => rfl) (by kernel_rfl) (fun _ _ h => Eq.trans (by kernel_rfl) h) ⟨rfl, trivial⟩ (fun r => ⟨(L_n28_j1_ok r), trivial⟩) fun _ => rfl

/-! ### tablefinder/tablefindermill.New -/
def c_n29 : Code := bodyOf Tryd.f59
def F_n29 : FC U := ⟨X0.at 11, Tryd.f59, c_n29, [], [], [.box], [none]⟩
theorem F_n29_ok : FOk F_n29 := fok uok tok0 eok0 mixed rfl trivial
def R_n29 : RSh := ⟨[.box (.st 5)], []⟩
def g_n29 (v : RVal U R_n29) : G_tablefindermill_Dice := v.1.1
def b_n29 (q : G_tablefindermill_Dice) : TRet U := R_n29.bld ((q, ()), ())
def L_n29_j1 : Lp U G_tablefindermill_Dice := ⟨[0], [], [.o (.v (.sl (.int .u8)))], [], fun v w => s_tablefindermill_New_j1 v.1⟩
theorem L_n29_j1_ok (r : G_tablefindermill_Dice) : LpOk F_n29 (b_n29 r).enc r (L_n29_j1) (stAt F_n29 [1, 1]) := fun v w hi h => Pt.ev0 F_n29_ok (S := R_n29) (g := g_n29) (b := b_n29) (cuts := []) (pre := [tc F_n29 [1, 1]]) (T := Lp.st F_n29 (L_n29_j1) v w) (by kernel_rfl) hi (Eq.trans (by kernel_rfl) h) ⟨by kernel_rfl, trivial⟩ trivial fun _ => rfl
def S_s_tablefindermill_New : FSig U := ⟨G_tablefindermill_Dice, [83], [.p], [none], [.p (.sl (.int .u8))], fun v => s_tablefindermill_New v.1, b_n29⟩
theorem S_s_tablefindermill_New_ok : SigOk X0.E 59 S_s_tablefindermill_New.sig := FSig.ok0 F_n29_ok (R := R_n29) (g := g_n29) (cuts := [([1, 1], L_n29_j1)]) (pre := [tc0 F_n29]) rfl Tryd.func59 (by decide) rfl (fun _ => Nat.le_of_ble_eq_true (by kernel_rfl)) (fun _ => rfl) (by kernel_rfl) (fun _ _ h => Eq.trans (by kernel_rfl) h) ⟨rfl, trivial⟩ (fun r => ⟨(L_n29_j1_ok r), trivial⟩) fun _ => rfl

/-! ### (*tablefinder/tablefindermill.Dice).Pick -/
def c_n30 : Code := bodyOf Tryd.f69
def F_n30 : FC U := ⟨X0.at 36, Tryd.f69, c_n30, [], [0], [.p], [none]⟩
theorem F_n30_ok : FOk F_n30 := fok uok tok0 eok0 mixed rfl trivial
def R_n30 : RSh := ⟨[.p (.int .i64)], [(0, .box (.st 5))]⟩
def g_n30 (v : RVal U R_n30) : qT43 := (v.1.1, v.2.1)
def b_n30 (q : qT43) : TRet U := R_n30.bld ((q.1, ()), (q.2, ()))
def S_s_tablefindermill_Dice_Pick : FSig U := ⟨qT43, [105, 3], [.lend, .p], [none, none], [.box (.st 5), .p (.int .i64)], fun v => s_tablefindermill_Dice_Pick v.1 v.2.1, b_n30⟩
theorem S_s_tablefindermill_Dice_Pick_ok : SigOk X0.E 69 S_s_tablefindermill_Dice_Pick.sig := FSig.ok0 F_n30_ok (R := R_n30) (g := g_n30) (cuts := []) (pre := [tc0 F_n30]) rfl Tryd.func69 (by decide) rfl (fun _ => Nat.le_of_ble_eq_true (by kernel_rfl)) (fun _ => rfl) (by kernel_rfl) (fun _ _ h => Eq.trans (by kernel_rfl) h) ⟨rfl, trivial⟩ (fun r => trivial) fun _ => rfl

/-! ### tablefinder/tablefindermill.Words -/
def c_n31 : Code := bodyOf Tryd.f103
def F_n31 : FC U := ⟨X0.at 2, Tryd.f103, c_n31, [], [], [.own], [none]⟩
theorem F_n31_ok : FOk F_n31 := fok uok tok0 eok0 mixed rfl trivial
def R_n31 : RSh := ⟨[.own .str], []⟩
def g_n31 (v : RVal U R_n31) : (List Str) := v.1.1
def b_n31 (q : (List Str)) : TRet U := R_n31.bld ((q, ()), ())
def S_s_tablefindermill_Words : FSig U := ⟨(List Str), [], [], [], [], fun v => s_tablefindermill_Words, b_n31⟩
theorem S_s_tablefindermill_Words_ok : SigOk X0.E 103 S_s_tablefindermill_Words.sig := FSig.ok0 F_n31_ok (R := R_n31) (g := g_n31) (cuts := []) (pre := [tc0 F_n31]) rfl Tryd.func103 (by decide) rfl (fun _ => Nat.le_of_ble_eq_true (by kernel_rfl)) (fun _ => rfl) (by kernel_rfl) (fun _ _ h => Eq.trans (by kernel_rfl) h) ⟨rfl, trivial⟩ (fun r => trivial) fun _ => rfl

/-! ### (*tablefinder/tablefindermill.Dice).Cell -/
def c_n32 : Code := bodyOf Tryd.f60
def F_n32 : FC U := ⟨X0.at 20, Tryd.f60, c_n32, [(69, S_s_tablefindermill_Dice_Pick.sig), (103, S_s_tablefindermill_Words.sig)], [0], [.p], [some 1]⟩
theorem F_n32_ok : FOk F_n32 := fok uok tok0 eok0 mixed rfl ⟨S_s_tablefindermill_Dice_Pick_ok, S_s_tablefindermill_Words_ok, trivial⟩
def R_n32 : RSh := ⟨[.p (.st 1)], [(0, .box (.st 5))]⟩
def g_n32 (v : RVal U R_n32) : qT42 := (v.1.1, v.2.1)
def b_n32 (q : qT42) : TRet U := R_n32.bld ((q.1, ()), (q.2, ()))
def S_s_tablefindermill_Dice_Cell : FSig U := ⟨qT42, [105], [.lend], [none], [.box (.st 5)], fun v => s_tablefindermill_Dice_Cell v.1, b_n32⟩
theorem S_s_tablefindermill_Dice_Cell_ok : SigOk X0.E 60 S_s_tablefindermill_Dice_Cell.sig := FSig.ok0 F_n32_ok (R := R_n32) (g := g_n32) (cuts := []) (pre := [tc0 F_n32]) rfl Tryd.func60 (by decide) rfl (fun _ => Nat.le_of_ble_eq_true (by kernel_rfl)) (fun _ => rfl) (by kernel_rfl) (fun _ _ h => Eq.trans (by kernel_rfl) h) ⟨rfl, trivial⟩ (fun r => trivial) fun _ => rfl

abbrev Tr_n34_0 : Type := Int → Bool → Int → G_tablefindermill_Dice → Str → Str → qL2 → qL2 → Option qT33
/-! ### (*tablefinder/tablefindermill.Dice).Column -/
def c_n34 : Code := bodyOf Tryd.f109
def F_n34 : FC U := ⟨X0.at 42, Tryd.f109, c_n34, [(69, S_s_tablefindermill_Dice_Pick.sig), (60, S_s_tablefindermill_Dice_Cell.sig), (118, S_s_strconv_Itoa.sig)], [0], [.p], [some 2]⟩
theorem F_n34_ok : FOk F_n34 := fok uok tok0 eok0 mixed rfl ⟨S_s_tablefindermill_Dice_Pick_ok, S_s_tablefindermill_Dice_Cell_ok, S_s_strconv_Itoa_ok, trivial⟩
def R_n34 : RSh := ⟨[.p (.st 2)], [(0, .box (.st 5))]⟩
def g_n34 (v : RVal U R_n34) : qT40 := (v.1.1, v.2.1)
def b_n34 (q : qT40) : TRet U := R_n34.bld ((q.1, ()), (q.2, ()))
def L_n34_k3 : Lp U qT40 := ⟨[4, 5], [], qs29, qo7, fun v w => s_tablefindermill_Dice_Column_k3 w.1 w.2.1.1 w.2.2.1.1 w.2.2.2.1 w.2.2.2.2.1⟩
theorem L_n34_k3_ok (r : qT40) : LpOk F_n34 (b_n34 r).enc r (L_n34_k3) ([tc F_n34 [1, 1, 1, 1]].map TI'.conc ++ []) := fun v w hi h => Pt.ev0 F_n34_ok (S := R_n34) (g := g_n34) (b := b_n34) (cuts := []) (pre := [tc F_n34 [1, 1, 1, 1]]) (T := Lp.st F_n34 (L_n34_k3) v w) (by kernel_rfl) hi (Eq.trans (by kernel_rfl) h) ⟨by kernel_rfl, trivial⟩ trivial fun _ => rfl
def base_n34_l1 : List Eng.Item := .lp (codeAt F_n34 [5, 4, 1, 0, 1, 1, 1]) :: ([.blk 0, tc F_n34 [1, 1, 1, 1]].map TI'.conc ++ [])
def Lh_n34_l1 (rec_ : Tr_n34_0) : Lp U qT33 := ⟨[0, 1, 4, 5, 6, 7], [], qs11, qo7, fun v w => rec_ v.2.1 v.2.2.2.2.1 v.2.2.2.2.2.1 w.1 w.2.1.1 w.2.2.1.1 w.2.2.2.1 w.2.2.2.2.1⟩
def Lx_n34_l1 : Lp U qT33 := ⟨[4, 5], [], qs29, qo7, fun v w => some (w.1, w.2.1.1, w.2.2.1.1, w.2.2.2.1, w.2.2.2.2.1)⟩
def L_n34_j2 (rec_ : Tr_n34_0) : Lp U qT33 := ⟨[0, 1, 4, 5, 6, 7, 8], [], [.o (.ptr (0, 0, 0) 0 0), qi, .o (.ptr (0, 1, 1) 0 0), .o (.ptr (0, 2, 1) 0 0), .o (.v .bool), qi, .o (.ptr (0, 3, 1) 0 0)], qo6, fun v w => s_tablefindermill_Dice_Column_j2 rec_ v.2.1 v.2.2.2.2.1 v.2.2.2.2.2.1 w.1 w.2.1.1 w.2.2.1.1 w.2.2.2.1 w.2.2.2.2.1 w.2.2.2.2.2.1⟩
theorem L_n34_j2_ok {RT : Ret} {r : qT33} {rec_ : Tr_n34_0} (hb : LpOk F_n34 RT r (Lh_n34_l1 rec_) base_n34_l1) (hx : AllExits F_n34 RT r base_n34_l1 [(0, Lx_n34_l1)]) (hr : qH (fun _ => none) r RT) : LpOk F_n34 RT r (L_n34_j2 rec_) (stAt F_n34 [1, 1, 4, 0, 1, 5, 4, 1, 0, 1, 1, 1]) := fun v w hi h => Pt.evlAt F_n34_ok (r := r) 4000 (cuts := []) (back := (some (Lh_n34_l1 rec_))) (exits := [(0, Lx_n34_l1)]) (ret := (fun _ => none)) (base := base_n34_l1) (pre := [tc F_n34 [1, 1, 4, 0, 1, 5, 4, 1, 0, 1, 1, 1], .blk 1, tc F_n34 [1, 1, 5, 4, 1, 0, 1, 1, 1]]) (T := Lp.st F_n34 (L_n34_j2 rec_) v w) (by kernel_rfl) hi (Eq.trans (by kernel_rfl) h) ⟨by kernel_rfl, by kernel_rfl, trivial⟩ trivial (fun L hL => by cases hL; exact hb) (fun hn => nomatch hn) hx hr
def L_n34_j1 (rec_ : Tr_n34_0) : Lp U qT33 := ⟨[0, 1, 4, 5, 6, 7, 8, 30], [], [.o (.ptr (0, 0, 0) 0 0), qi, .o (.ptr (0, 1, 1) 0 0), .o (.ptr (0, 2, 1) 0 0), .o (.v .bool), qi, .o (.ptr (0, 3, 1) 0 0), .o (.v .bool)], qo6, fun v w => s_tablefindermill_Dice_Column_j1 rec_ v.2.1 v.2.2.2.2.1 v.2.2.2.2.2.1 v.2.2.2.2.2.2.2.1 w.1 w.2.1.1 w.2.2.1.1 w.2.2.2.1 w.2.2.2.2.1 w.2.2.2.2.2.1⟩
theorem L_n34_j1_ok {RT : Ret} {r : qT33} {rec_ : Tr_n34_0} (hb : LpOk F_n34 RT r (Lh_n34_l1 rec_) base_n34_l1) (hx : AllExits F_n34 RT r base_n34_l1 [(0, Lx_n34_l1)]) (hr : qH (fun _ => none) r RT) : LpOk F_n34 RT r (L_n34_j1 rec_) (stAt F_n34 [1, 0, 1, 4, 0, 1, 5, 4, 1, 0, 1, 1, 1]) := fun v w hi h => Pt.evlAt F_n34_ok (r := r) 4000 (cuts := [([1, 1, 4, 0, 1, 5, 4, 1, 0, 1, 1, 1], (L_n34_j2 rec_))]) (back := (some (Lh_n34_l1 rec_))) (exits := [(0, Lx_n34_l1)]) (ret := (fun _ => none)) (base := base_n34_l1) (pre := [tc F_n34 [1, 0, 1, 4, 0, 1, 5, 4, 1, 0, 1, 1, 1], tc F_n34 [1, 1, 4, 0, 1, 5, 4, 1, 0, 1, 1, 1], .blk 1, tc F_n34 [1, 1, 5, 4, 1, 0, 1, 1, 1]]) (T := Lp.st F_n34 (L_n34_j1 rec_) v w) (by kernel_rfl) hi (Eq.trans (by kernel_rfl) h) ⟨by kernel_rfl, by kernel_rfl, by kernel_rfl, trivial⟩ ⟨(L_n34_j2_ok hb hx hr), trivial⟩ (fun L hL => by cases hL; exact hb) (fun hn => nomatch hn) hx hr
theorem s_tablefindermill_Dice_Column_l1_ok {RT : Ret} {r : qT33} (hx : AllExits F_n34 RT r base_n34_l1 [(0, Lx_n34_l1)]) (hr : qH (fun _ => none) r RT) : ∀ n, LpOk F_n34 RT r (Lh_n34_l1 (s_tablefindermill_Dice_Column_l1 n)) (stAt F_n34 [4, 1, 0, 1, 1, 1]) :=
  loop_ok F_n34_ok 4000 (q := [4, 1, 0, 1, 1, 1]) (body := codeAt F_n34 [5, 4, 1, 0, 1, 1, 1]) (live := [0, 1, 4, 5, 6, 7]) (frz := []) (shs := qs11) (sho := qo7) (fun n v w => s_tablefindermill_Dice_Column_l1 n v.2.1 v.2.2.2.2.1 v.2.2.2.2.2.1 w.1 w.2.1.1 w.2.2.1.1 w.2.2.2.1 w.2.2.2.2.1) (cuts := fun n => [([1, 0, 1, 4, 0, 1, 5, 4, 1, 0, 1, 1, 1], L_n34_j1 (s_tablefindermill_Dice_Column_l1 n))]) (exits := [(0, Lx_n34_l1)]) (ret := (fun _ => none)) (by kernel_rfl) (fun _ _ => rfl) (fun n v w => by kernel_rfl) (fun n hb => ⟨L_n34_j1_ok hb hx hr, trivial⟩) hx hr
def Lc_n34_l1 : Lp U qT40 := ⟨[0, 1, 4, 5, 6, 7], [], qs11, qo7, fun v w => (s_tablefindermill_Dice_Column_l1 big v.2.1 v.2.2.2.2.1 v.2.2.2.2.2.1 w.1 w.2.1.1 w.2.2.1.1 w.2.2.2.1 w.2.2.2.2.1).bind fun (x0, x1, x2, x3, x4) => s_tablefindermill_Dice_Column_k3 x0 x1 x2 x3 x4⟩
theorem Lc_n34_l1_ok (r : qT40) : LpOk F_n34 (b_n34 r).enc r (Lc_n34_l1) (stAt F_n34 [4, 1, 0, 1, 1, 1]) := fun v w hi h0 => by
  obtain ⟨x, hx0, h⟩ := bind_some h0
  exact s_tablefindermill_Dice_Column_l1_ok (r := x) (RT := (b_n34 r).enc) ⟨⟨[tc F_n34 [1, 1, 1, 1]].map TI'.conc ++ [], by kernel_rfl, fun v' w' hi' h' => by obtain rfl := Option.some.inj h'; exact L_n34_k3_ok r v' w' hi' h⟩, trivial⟩ (fun _ ht => nomatch ht) big v w hi hx0
def S_s_tablefindermill_Dice_Column : FSig U := ⟨qT40, [105, 3], [.lend, .p], [none, none], [.box (.st 5), .p (.int .i64)], fun v => s_tablefindermill_Dice_Column v.1 v.2.1, b_n34⟩
theorem S_s_tablefindermill_Dice_Column_ok : SigOk X0.E 109 S_s_tablefindermill_Dice_Column.sig := FSig.ok0 F_n34_ok (R := R_n34) (g := g_n34) (cuts := [([4, 1, 0, 1, 1, 1], Lc_n34_l1)]) (pre := [tc0 F_n34]) rfl Tryd.func109 (by decide) rfl (fun _ => Nat.le_of_ble_eq_true (by kernel_rfl)) (fun _ => rfl) (by kernel_rfl) (fun _ _ h => Eq.trans (by kernel_rfl) h) ⟨rfl, trivial⟩ (fun r => ⟨(Lc_n34_l1_ok r), trivial⟩) fun _ => rfl

/-! ### (*tablefinder/tablefindermill.Dice).Table -/
def c_n35 : Code := bodyOf Tryd.f67
def F_n35 : FC U := ⟨X0.at 40, Tryd.f67, c_n35, [(69, S_s_tablefindermill_Dice_Pick.sig), (109, S_s_tablefindermill_Dice_Column.sig)], [0], [.p], [some 3]⟩
theorem F_n35_ok : FOk F_n35 := fok uok tok0 eok0 mixed rfl ⟨S_s_tablefindermill_Dice_Pick_ok, S_s_tablefindermill_Dice_Column_ok, trivial⟩
def R_n35 : RSh := ⟨[.p (.st 3)], [(0, .box (.st 5))]⟩
def g_n35 (v : RVal U R_n35) : qT41 := (v.1.1, v.2.1)
def b_n35 (q : qT41) : TRet U := R_n35.bld ((q.1, ()), (q.2, ()))
def L_n35_k1 : Lp U qT41 := ⟨[8, 9], [], qs29, qo1, fun v w => s_tablefindermill_Dice_Table_k1 w.1 w.2.1.1 w.2.1.2.1 w.2.2.1.1 w.2.2.1.2.1 w.2.2.2.1 w.2.2.2.2.1⟩
theorem L_n35_k1_ok (r : qT41) : LpOk F_n35 (b_n35 r).enc r (L_n35_k1) ([tc F_n35 [1, 1, 1, 1]].map TI'.conc ++ []) := fun v w hi h => Pt.ev0 F_n35_ok (S := R_n35) (g := g_n35) (b := b_n35) (cuts := []) (pre := [tc F_n35 [1, 1, 1, 1]]) (T := Lp.st F_n35 (L_n35_k1) v w) (by kernel_rfl) hi (Eq.trans (by kernel_rfl) h) ⟨by kernel_rfl, trivial⟩ trivial fun _ => rfl
def base_n35_l1 : List Eng.Item := .lp (codeAt F_n35 [5, 4, 1, 0, 1, 1, 1]) :: ([.blk 0, tc F_n35 [1, 1, 1, 1]].map TI'.conc ++ [])
def Lh_n35_l1 (rec_ : Int → Int → G_tablefindermill_Dice → Int → Str → Int → Str → qL1 → qL1 → Option qT32) : Lp U qT32 := ⟨[0, 8, 9, 10, 11], [], qs15, qo1, fun v w => rec_ v.2.2.2.1 v.2.2.2.2.1 w.1 w.2.1.1 w.2.1.2.1 w.2.2.1.1 w.2.2.1.2.1 w.2.2.2.1 w.2.2.2.2.1⟩
def Lx_n35_l1 : Lp U qT32 := ⟨[8, 9], [], qs29, qo1, fun v w => some (w.1, w.2.1.1, w.2.1.2.1, w.2.2.1.1, w.2.2.1.2.1, w.2.2.2.1, w.2.2.2.2.1)⟩
theorem s_tablefindermill_Dice_Table_l1_ok {RT : Ret} {r : qT32} (hx : AllExits F_n35 RT r base_n35_l1 [(0, Lx_n35_l1)]) (hr : qH (fun _ => none) r RT) : ∀ n, LpOk F_n35 RT r (Lh_n35_l1 (s_tablefindermill_Dice_Table_l1 n)) (stAt F_n35 [4, 1, 0, 1, 1, 1]) :=
  loop_ok F_n35_ok 4000 (q := [4, 1, 0, 1, 1, 1]) (body := codeAt F_n35 [5, 4, 1, 0, 1, 1, 1]) (live := [0, 8, 9, 10, 11]) (frz := []) (shs := qs15) (sho := qo1) (fun n v w => s_tablefindermill_Dice_Table_l1 n v.2.2.2.1 v.2.2.2.2.1 w.1 w.2.1.1 w.2.1.2.1 w.2.2.1.1 w.2.2.1.2.1 w.2.2.2.1 w.2.2.2.2.1) (cuts := fun n => []) (exits := [(0, Lx_n35_l1)]) (ret := (fun _ => none)) (by kernel_rfl) (fun _ _ => rfl) (fun n v w => by kernel_rfl) (fun n hb => trivial) hx hr
def Lc_n35_l1 : Lp U qT41 := ⟨[0, 8, 9, 10, 11], [], qs15, qo1, fun v w => (s_tablefindermill_Dice_Table_l1 big v.2.2.2.1 v.2.2.2.2.1 w.1 w.2.1.1 w.2.1.2.1 w.2.2.1.1 w.2.2.1.2.1 w.2.2.2.1 w.2.2.2.2.1).bind fun (x0, x1, x2, x3, x4, x5, x6) => s_tablefindermill_Dice_Table_k1 x0 x1 x2 x3 x4 x5 x6⟩
theorem Lc_n35_l1_ok (r : qT41) : LpOk F_n35 (b_n35 r).enc r (Lc_n35_l1) (stAt F_n35 [4, 1, 0, 1, 1, 1]) := fun v w hi h0 => by
  obtain ⟨x, hx0, h⟩ := bind_some h0
  exact s_tablefindermill_Dice_Table_l1_ok (r := x) (RT := (b_n35 r).enc) ⟨⟨[tc F_n35 [1, 1, 1, 1]].map TI'.conc ++ [], by kernel_rfl, fun v' w' hi' h' => by obtain rfl := Option.some.inj h'; exact L_n35_k1_ok r v' w' hi' h⟩, trivial⟩ (fun _ ht => nomatch ht) big v w hi hx0
def S_s_tablefindermill_Dice_Table : FSig U := ⟨qT41, [105, 3, 3, 3], [.lend, .p, .p, .p], [none, none, none, none], [.box (.st 5), .p (.int .i64), .p (.int .i64), .p (.int .i64)], fun v => s_tablefindermill_Dice_Table v.1 v.2.1 v.2.2.1 v.2.2.2.1, b_n35⟩
theorem S_s_tablefindermill_Dice_Table_ok : SigOk X0.E 67 S_s_tablefindermill_Dice_Table.sig := FSig.ok0 F_n35_ok (R := R_n35) (g := g_n35) (cuts := [([4, 1, 0, 1, 1, 1], Lc_n35_l1)]) (pre := [tc0 F_n35]) rfl Tryd.func67 (by decide) rfl (fun _ => Nat.le_of_ble_eq_true (by kernel_rfl)) (fun _ => rfl) (by kernel_rfl) (fun _ _ h => Eq.trans (by kernel_rfl) h) ⟨rfl, trivial⟩ (fun r => ⟨(Lc_n35_l1_ok r), trivial⟩) fun _ => rfl

/-! ### slices.Clone[[]tablefinder/api.Cell,tablefinder/api.Cell] -/
def c_n40 : Code := bodyOf Tryd.f147
def F_n40 : FC U := ⟨X0.at 8, Tryd.f147, c_n40, [], [], [.own], [none]⟩
theorem F_n40_ok : FOk F_n40 := fok uok tok0 eok0 mixed rfl trivial
def R_n40 : RSh := ⟨[.own (.st 1)], []⟩
def g_n40 (v : RVal U R_n40) : qL2 := v.1.1
def b_n40 (q : qL2) : TRet U := R_n40.bld ((q, ()), ())
def L_n40_j1 : Lp U qL2 := ⟨[0, 4], [], [.o (.v (.sl (.st 1))), .o (.v .bool)], [], fun v w => ss_Clone_api_Cell_api_Cell_j1 v.1 v.2.1⟩
theorem L_n40_j1_ok (r : qL2) : LpOk F_n40 (b_n40 r).enc r (L_n40_j1) (stAt F_n40 [1, 0, 1]) := fun v w hi h => Pt.ev0 F_n40_ok (S := R_n40) (g := g_n40) (b := b_n40) (cuts := []) (pre := [tc F_n40 [1, 0, 1], tc F_n40 [1, 1]]) (T := Lp.st F_n40 (L_n40_j1) v w) (by kernel_rfl) hi (Eq.trans (by kernel_rfl) h) ⟨by kernel_rfl, by kernel_rfl, trivial⟩ trivial fun _ => rfl
def S_ss_Clone_api_Cell_api_Cell : FSig U := ⟨qL2, [47], [.p], [none], [.p (.sl (.st 1))], fun v => ss_Clone_api_Cell_api_Cell v.1, b_n40⟩
theorem S_ss_Clone_api_Cell_api_Cell_ok : SigOk X0.E 147 S_ss_Clone_api_Cell_api_Cell.sig := FSig.ok0 F_n40_ok (R := R_n40) (g := g_n40) (cuts := [([1, 0, 1], L_n40_j1)]) (pre := [tc0 F_n40]) rfl Tryd.func147 (by decide) rfl (fun _ => Nat.le_of_ble_eq_true (by kernel_rfl)) (fun _ => rfl) (by kernel_rfl) (fun _ _ h => Eq.trans (by kernel_rfl) h) ⟨rfl, trivial⟩ (fun r => ⟨(L_n40_j1_ok r), trivial⟩) fun _ => rfl

/-! ### tablefinder/table.column -/
def c_n41 : Code := bodyOf Tryd.f106
def F_n41 : FC U := ⟨X0.at 9, Tryd.f106, c_n41, [(147, S_ss_Clone_api_Cell_api_Cell.sig)], [], [.p], [some 2]⟩
theorem F_n41_ok : FOk F_n41 := fok uok tok0 eok0 mixed rfl ⟨S_ss_Clone_api_Cell_api_Cell_ok, trivial⟩
def R_n41 : RSh := ⟨[.p (.st 2)], []⟩
def g_n41 (v : RVal U R_n41) : GaColumn := v.1.1
def b_n41 (q : GaColumn) : TRet U := R_n41.bld ((q, ()), ())
def S_s_table_column : FSig U := ⟨GaColumn, [49], [.p], [some 2], [.p (.st 2)], fun v => s_table_column v.1, b_n41⟩
theorem S_s_table_column_ok : SigOk X0.E 106 S_s_table_column.sig := FSig.ok0 F_n41_ok (R := R_n41) (g := g_n41) (cuts := []) (pre := [tc0 F_n41]) rfl Tryd.func106 (by decide) rfl (fun _ => Nat.le_of_ble_eq_true (by kernel_rfl)) (fun _ => rfl) (by kernel_rfl) (fun _ _ h => Eq.trans (by kernel_rfl) h) ⟨rfl, trivial⟩ (fun r => trivial) fun _ => rfl

/-! ### tablefinder/table.Project$1 -/
def c_n50 : Code := bodyOf Tryd.f113
def F_n50 : FC U := ⟨X0.at 14, Tryd.f113, c_n50, [(106, S_s_table_column.sig)], [], [.p], [some 2]⟩
theorem F_n50_ok : FOk F_n50 := fok uok tok0 eok0 mixed rfl ⟨S_s_table_column_ok, trivial⟩
def R_n50 : RSh := ⟨[.p (.st 2)], []⟩
def g_n50 (v : RVal U R_n50) : GaColumn := v.1.1
def b_n50 (q : GaColumn) : TRet U := R_n50.bld ((q, ()), ())
def S_s_table_Project_1 : FSig U := ⟨GaColumn, [3], [.p, .p, .p], [none, none, none], [.p (.int .i64), .ptr (.st 3), .ptr (.sl (.int .i64))], fun v => s_table_Project_1 v.1 v.2.1 v.2.2.1, b_n50⟩
theorem S_s_table_Project_1_ok : SigOk X0.E 113 S_s_table_Project_1.sig := FSig.ok0 F_n50_ok (R := R_n50) (g := g_n50) (cuts := []) (pre := [tc0 F_n50]) rfl Tryd.func113 (by decide) rfl (fun _ => Nat.le_of_ble_eq_true (by kernel_rfl)) (fun _ => rfl) (by kernel_rfl) (fun _ _ h => Eq.trans (by kernel_rfl) h) ⟨rfl, trivial⟩ (fun r => trivial) fun _ => rfl

/-! ### tablefinder/table.with -/
def c_n51 : Code := bodyOf Tryd.f111
def F_n51 : FC U := ⟨X0.at 28, Tryd.f111, c_n51, [(113, S_s_table_Project_1.sig)], [], [.p], [some 3]⟩
theorem F_n51_ok : FOk F_n51 := fok uok tok0 eok0 mixed rfl ⟨S_s_table_Project_1_ok, trivial⟩
def R_n51 : RSh := ⟨[.p (.st 3)], []⟩
def g_n51 (v : RVal U R_n51) : GaTable := v.1.1
def b_n51 (q : GaTable) : TRet U := R_n51.bld ((q, ()), ())
def L_n51_k1 : Lp U GaTable := ⟨[6, 7], [], qs29, qo2, fun v w => s_table_with_2_k1 w.1.1 w.1.2.1 w.2.1.1 w.2.1.2.1 w.2.2.1 w.2.2.2.1⟩
theorem L_n51_k1_ok (r : GaTable) : LpOk F_n51 (b_n51 r).enc r (L_n51_k1) ([tc F_n51 [1, 1, 1]].map TI'.conc ++ []) := fun v w hi h => Pt.ev0 F_n51_ok (S := R_n51) (g := g_n51) (b := b_n51) (cuts := []) (pre := [tc F_n51 [1, 1, 1]]) (T := Lp.st F_n51 (L_n51_k1) v w) (by kernel_rfl) hi (Eq.trans (by kernel_rfl) h) ⟨by kernel_rfl, trivial⟩ trivial fun _ => rfl
def base_n51_l1 : List Eng.Item := .lp (codeAt F_n51 [5, 4, 1, 0, 1, 1]) :: ([.blk 0, tc F_n51 [1, 1, 1]].map TI'.conc ++ [])
def Lh_n51_l1 (rec_ : GaTable → qL0 → Int → Int → Int → Str → Int → Str → qL1 → qL1 → Option qT34) : Lp U qT34 := ⟨[2, 6, 7, 14, 15], [], [.fn 113 [] [.pp (.st 3), .pp (.sl (.int .i64))], .o (.ptr (0, 1, 1) 0 0), .o (.ptr (0, 2, 1) 0 0), qi, qi], qo2, fun v w => rec_ v.1.2.1 v.1.2.2.1 v.2.2.2.1 v.2.2.2.2.1 w.1.1 w.1.2.1 w.2.1.1 w.2.1.2.1 w.2.2.1 w.2.2.2.1⟩
def Lx_n51_l1 : Lp U qT34 := ⟨[6, 7], [], qs29, qo2, fun v w => some (w.1.1, w.1.2.1, w.2.1.1, w.2.1.2.1, w.2.2.1, w.2.2.2.1)⟩
theorem s_table_with_2_l1_ok {RT : Ret} {r : qT34} (hx : AllExits F_n51 RT r base_n51_l1 [(0, Lx_n51_l1)]) (hr : qH (fun _ => none) r RT) : ∀ n, LpOk F_n51 RT r (Lh_n51_l1 (s_table_with_2_l1 n)) (stAt F_n51 [4, 1, 0, 1, 1]) :=
  loop_ok F_n51_ok 4000 (q := [4, 1, 0, 1, 1]) (body := codeAt F_n51 [5, 4, 1, 0, 1, 1]) (live := [2, 6, 7, 14, 15]) (frz := []) (shs := [.fn 113 [] [.pp (.st 3), .pp (.sl (.int .i64))], .o (.ptr (0, 1, 1) 0 0), .o (.ptr (0, 2, 1) 0 0), qi, qi]) (sho := qo2) (fun n v w => s_table_with_2_l1 n v.1.2.1 v.1.2.2.1 v.2.2.2.1 v.2.2.2.2.1 w.1.1 w.1.2.1 w.2.1.1 w.2.1.2.1 w.2.2.1 w.2.2.2.1) (cuts := fun n => []) (exits := [(0, Lx_n51_l1)]) (ret := (fun _ => none)) (by kernel_rfl) (fun _ _ => rfl) (fun n v w => by kernel_rfl) (fun n hb => trivial) hx hr
def Lc_n51_l1 : Lp U GaTable := ⟨[2, 6, 7, 14, 15], [], [.fn 113 [] [.pp (.st 3), .pp (.sl (.int .i64))], .o (.ptr (0, 1, 1) 0 0), .o (.ptr (0, 2, 1) 0 0), qi, qi], qo2, fun v w => (s_table_with_2_l1 big v.1.2.1 v.1.2.2.1 v.2.2.2.1 v.2.2.2.2.1 w.1.1 w.1.2.1 w.2.1.1 w.2.1.2.1 w.2.2.1 w.2.2.2.1).bind fun (x0, x1, x2, x3, x4, x5) => s_table_with_2_k1 x0 x1 x2 x3 x4 x5⟩
theorem Lc_n51_l1_ok (r : GaTable) : LpOk F_n51 (b_n51 r).enc r (Lc_n51_l1) (stAt F_n51 [4, 1, 0, 1, 1]) := fun v w hi h0 => by
  obtain ⟨x, hx0, h⟩ := bind_some h0
  exact s_table_with_2_l1_ok (r := x) (RT := (b_n51 r).enc) ⟨⟨[tc F_n51 [1, 1, 1]].map TI'.conc ++ [], by kernel_rfl, fun v' w' hi' h' => by obtain rfl := Option.some.inj h'; exact L_n51_k1_ok r v' w' hi' h⟩, trivial⟩ (fun _ ht => nomatch ht) big v w hi hx0
def S_s_table_with_2 : FSig U := ⟨GaTable, [24, 3, 154], [.p, .p, .p], [some 3, none, none], [.p (.st 3), .p (.int .i64), .fn 113 [] [.pp (.st 3), .pp (.sl (.int .i64))]], fun v => s_table_with_2 v.1 v.2.1 v.2.2.1.2.1 v.2.2.1.2.2.1, b_n51⟩
theorem S_s_table_with_2_ok : SigOk X0.E 111 S_s_table_with_2.sig := FSig.ok0 F_n51_ok (R := R_n51) (g := g_n51) (cuts := [([4, 1, 0, 1, 1], Lc_n51_l1)]) (pre := [tc0 F_n51]) rfl Tryd.func111 (by decide) rfl (fun _ => Nat.le_of_ble_eq_true (by kernel_rfl)) (fun _ => rfl) (by kernel_rfl) (fun _ _ h => Eq.trans (by kernel_rfl) h) ⟨rfl, trivial⟩ (fun r => ⟨(Lc_n51_l1_ok r), trivial⟩) fun _ => rfl

/-! ### tablefinder/table.Project -/
def c_n52 : Code := bodyOf Tryd.f71
def F_n52 : FC U := ⟨X0.at 29, Tryd.f71, c_n52, [(75, S_s_table_Valid.sig), (110, S_s_table_within.sig), (111, S_s_table_with_2.sig)], [], [.p, .p], [some 3, none]⟩
theorem F_n52_ok : FOk F_n52 := fok uok tok0 eok0 mixed rfl ⟨S_s_table_Valid_ok, S_s_table_within_ok, S_s_table_with_2_ok, trivial⟩
def R_n52 : RSh := ⟨[.p (.st 3), .p (.int .i64)], []⟩
def g_n52 (v : RVal U R_n52) : qT44 := (v.1.1, v.1.2.1)
def b_n52 (q : qT44) : TRet U := R_n52.bld ((q.1, (q.2, ())), ())
def S_s_table_Project : FSig U := ⟨qT44, [24, 25], [.p, .p], [some 3, none], [.p (.st 3), .p (.sl (.int .i64))], fun v => s_table_Project v.1 v.2.1, b_n52⟩
theorem S_s_table_Project_ok : SigOk X0.E 71 S_s_table_Project.sig := FSig.ok0 F_n52_ok (R := R_n52) (g := g_n52) (cuts := []) (pre := [tc0 F_n52]) rfl Tryd.func71 (by decide) rfl (fun _ => Nat.le_of_ble_eq_true (by kernel_rfl)) (fun _ => rfl) (by kernel_rfl) (fun _ _ h => Eq.trans (by kernel_rfl) h) ⟨rfl, trivial⟩ (fun r => trivial) fun _ => rfl

/-! ### slices.Equal[[]tablefinder/api.Cell,tablefinder/api.Cell] -/
def c_n53 : Code := bodyOf Tryd.f116
def F_n53 : FC U := ⟨X0.at 26, Tryd.f116, c_n53, [], [], [.p], [none]⟩
theorem F_n53_ok : FOk F_n53 := fok uok tok0 eok0 mixed rfl trivial
def R_n53 : RSh := ⟨[.p .bool], []⟩
def g_n53 (v : RVal U R_n53) : Bool := v.1.1
def b_n53 (q : Bool) : TRet U := R_n53.bld ((q, ()), ())
def L_n53_k1 : Lp U Bool := ⟨[], [], [], [], fun v w => ss_Equal_api_Cell_api_Cell_k1⟩
theorem L_n53_k1_ok (r : Bool) : LpOk F_n53 (b_n53 r).enc r (L_n53_k1) ([tc F_n53 [1, 1, 1]].map TI'.conc ++ []) := fun v w hi h => Pt.ev0 F_n53_ok (S := R_n53) (g := g_n53) (b := b_n53) (cuts := []) (pre := [tc F_n53 [1, 1, 1]]) (T := Lp.st F_n53 (L_n53_k1) v w) (by kernel_rfl) hi (Eq.trans (by kernel_rfl) h) ⟨by kernel_rfl, trivial⟩ trivial fun _ => rfl
def base_n53_l1 : List Eng.Item := .lp (codeAt F_n53 [5, 4, 1, 0, 1, 1]) :: ([.blk 0, tc F_n53 [1, 1, 1]].map TI'.conc ++ [])
def Lh_n53_l1 (rec_ : qL2 → qL2 → Int → Int → Option (Out Unit Bool)) : Lp U (Out Unit Bool) := ⟨[0, 1, 12, 13], [], qs25, [], fun v w => rec_ v.1 v.2.1 v.2.2.1 v.2.2.2.1⟩
def Lx_n53_l1 : Lp U (Out Unit Bool) := ⟨[], [], [], [], fun v w => some (.brk ())⟩
theorem ss_Equal_api_Cell_api_Cell_l1_ok {RT : Ret} {r : (Out Unit Bool)} (hx : AllExits F_n53 RT r base_n53_l1 [(0, Lx_n53_l1)]) (hr : qH (retOf R_n53 fun v => Out.ret (β := Unit) (g_n53 v)) r RT) : ∀ n, LpOk F_n53 RT r (Lh_n53_l1 (ss_Equal_api_Cell_api_Cell_l1 n)) (stAt F_n53 [4, 1, 0, 1, 1]) :=
  loop_ok F_n53_ok 4000 (q := [4, 1, 0, 1, 1]) (body := codeAt F_n53 [5, 4, 1, 0, 1, 1]) (live := [0, 1, 12, 13]) (frz := []) (shs := qs25) (sho := []) (fun n v w => ss_Equal_api_Cell_api_Cell_l1 n v.1 v.2.1 v.2.2.1 v.2.2.2.1) (cuts := fun n => []) (exits := [(0, Lx_n53_l1)]) (ret := (retOf R_n53 fun v => Out.ret (β := Unit) (g_n53 v))) (by kernel_rfl) (fun _ _ => rfl) (fun n v w => by kernel_rfl) (fun n hb => trivial) hx hr
def Lc_n53_l1 : Lp U Bool := ⟨[0, 1, 12, 13], [], qs25, [], fun v w => (ss_Equal_api_Cell_api_Cell_l1 big v.1 v.2.1 v.2.2.1 v.2.2.2.1).bind fun | .ret q_ => some q_ | .brk () => ss_Equal_api_Cell_api_Cell_k1⟩
theorem Lc_n53_l1_ok (r : Bool) : LpOk F_n53 (b_n53 r).enc r (Lc_n53_l1) (stAt F_n53 [4, 1, 0, 1, 1]) := fun v w hi h0 => by
  obtain ⟨x, hx0, h⟩ := bind_some h0
  exact ss_Equal_api_Cell_api_Cell_l1_ok (r := x) (RT := (b_n53 r).enc) ⟨⟨[tc F_n53 [1, 1, 1]].map TI'.conc ++ [], by kernel_rfl, fun v' w' hi' h' => by obtain rfl := Option.some.inj h'; exact L_n53_k1_ok r v' w' hi' h⟩, trivial⟩ (fun t ht => by obtain ⟨q, rfl, hq⟩ := retOut ht; obtain rfl := Option.some.inj h; exact retOf_enc uok (give := b_n53) (fun _ => rfl) hq) big v w hi hx0
def S_ss_Equal_api_Cell_api_Cell : FSig U := ⟨Bool, [47, 47], [.p, .p], [none, none], [.p (.sl (.st 1)), .p (.sl (.st 1))], fun v => ss_Equal_api_Cell_api_Cell v.1 v.2.1, b_n53⟩
theorem S_ss_Equal_api_Cell_api_Cell_ok : SigOk X0.E 116 S_ss_Equal_api_Cell_api_Cell.sig := FSig.ok0 F_n53_ok (R := R_n53) (g := g_n53) (cuts := [([4, 1, 0, 1, 1], Lc_n53_l1)]) (pre := [tc0 F_n53]) rfl Tryd.func116 (by decide) rfl (fun _ => Nat.le_of_ble_eq_true (by kernel_rfl)) (fun _ => rfl) (by kernel_rfl) (fun _ _ h => Eq.trans (by kernel_rfl) h) ⟨rfl, trivial⟩ (fun r => ⟨(Lc_n53_l1_ok r), trivial⟩) fun _ => rfl

/-! ### tablefinder/table.Same$1 -/
def c_n54 : Code := bodyOf Tryd.f115
def F_n54 : FC U := ⟨X0.at 17, Tryd.f115, c_n54, [(116, S_ss_Equal_api_Cell_api_Cell.sig)], [], [.p], [none]⟩
theorem F_n54_ok : FOk F_n54 := fok uok tok0 eok0 mixed rfl ⟨S_ss_Equal_api_Cell_api_Cell_ok, trivial⟩
def R_n54 : RSh := ⟨[.p .bool], []⟩
def g_n54 (v : RVal U R_n54) : Bool := v.1.1
def b_n54 (q : Bool) : TRet U := R_n54.bld ((q, ()), ())
def L_n54_j1 : Lp U Bool := ⟨[4], [], [.o (.v .bool)], [], fun v w => s_table_Same_1_j1 v.1⟩
theorem L_n54_j1_ok (r : Bool) : LpOk F_n54 (b_n54 r).enc r (L_n54_j1) (stAt F_n54 [1, 1]) := fun v w hi h => Pt.ev0 F_n54_ok (S := R_n54) (g := g_n54) (b := b_n54) (cuts := []) (pre := [tc F_n54 [1, 1]]) (T := Lp.st F_n54 (L_n54_j1) v w) (by kernel_rfl) hi (Eq.trans (by kernel_rfl) h) ⟨by kernel_rfl, trivial⟩ trivial fun _ => rfl
def S_s_table_Same_1 : FSig U := ⟨Bool, [49, 49], [.p, .p], [some 2, some 2], [.p (.st 2), .p (.st 2)], fun v => s_table_Same_1 v.1 v.2.1, b_n54⟩
theorem S_s_table_Same_1_ok : SigOk X0.E 115 S_s_table_Same_1.sig := FSig.ok0 F_n54_ok (R := R_n54) (g := g_n54) (cuts := [([1, 1], L_n54_j1)]) (pre := [tc0 F_n54]) rfl Tryd.func115 (by decide) rfl (fun _ => Nat.le_of_ble_eq_true (by kernel_rfl)) (fun _ => rfl) (by kernel_rfl) (fun _ _ h => Eq.trans (by kernel_rfl) h) ⟨rfl, trivial⟩ (fun r => ⟨(L_n54_j1_ok r), trivial⟩) fun _ => rfl

/-! ### slices.EqualFunc[[]tablefinder/api.Column,[]tablefinder/api.Column,tablefinder/api.Column,tablefinder/api.Column] -/
def c_n55 : Code := bodyOf Tryd.f114
def F_n55 : FC U := ⟨X0.at 32, Tryd.f114, c_n55, [(115, S_s_table_Same_1.sig)], [], [.p], [none]⟩
theorem F_n55_ok : FOk F_n55 := fok uok tok0 eok0 mixed rfl ⟨S_s_table_Same_1_ok, trivial⟩
def R_n55 : RSh := ⟨[.p .bool], []⟩
def g_n55 (v : RVal U R_n55) : Bool := v.1.1
def b_n55 (q : Bool) : TRet U := R_n55.bld ((q, ()), ())
def L_n55_k1 : Lp U Bool := ⟨[], [], [], [], fun v w => ss_EqualFunc_api_Column_api_Column_api_Column_api_Column_k1⟩
theorem L_n55_k1_ok (r : Bool) : LpOk F_n55 (b_n55 r).enc r (L_n55_k1) ([tc F_n55 [1, 1, 1]].map TI'.conc ++ []) := fun v w hi h => Pt.ev0 F_n55_ok (S := R_n55) (g := g_n55) (b := b_n55) (cuts := []) (pre := [tc F_n55 [1, 1, 1]]) (T := Lp.st F_n55 (L_n55_k1) v w) (by kernel_rfl) hi (Eq.trans (by kernel_rfl) h) ⟨by kernel_rfl, trivial⟩ trivial fun _ => rfl
def base_n55_l1 : List Eng.Item := .lp (codeAt F_n55 [5, 4, 1, 0, 1, 1]) :: ([.blk 0, tc F_n55 [1, 1, 1]].map TI'.conc ++ [])
def Lh_n55_l1 (rec_ : qL1 → qL1 → Int → Int → Option (Out Unit Bool)) : Lp U (Out Unit Bool) := ⟨[1, 2, 15, 16, 17], [], qs20, [], fun v w => rec_ v.1 v.2.2.1 v.2.2.2.1 v.2.2.2.2.1⟩
def Lx_n55_l1 : Lp U (Out Unit Bool) := ⟨[], [], [], [], fun v w => some (.brk ())⟩
theorem ss_EqualFunc_api_Column_api_Column_api_Column_api_Column_l1_ok {RT : Ret} {r : (Out Unit Bool)} (hx : AllExits F_n55 RT r base_n55_l1 [(0, Lx_n55_l1)]) (hr : qH (retOf R_n55 fun v => Out.ret (β := Unit) (g_n55 v)) r RT) : ∀ n, LpOk F_n55 RT r (Lh_n55_l1 (ss_EqualFunc_api_Column_api_Column_api_Column_api_Column_l1 n)) (stAt F_n55 [4, 1, 0, 1, 1]) :=
  loop_ok F_n55_ok 4000 (q := [4, 1, 0, 1, 1]) (body := codeAt F_n55 [5, 4, 1, 0, 1, 1]) (live := [1, 2, 15, 16, 17]) (frz := []) (shs := qs20) (sho := []) (fun n v w => ss_EqualFunc_api_Column_api_Column_api_Column_api_Column_l1 n v.1 v.2.2.1 v.2.2.2.1 v.2.2.2.2.1) (cuts := fun n => []) (exits := [(0, Lx_n55_l1)]) (ret := (retOf R_n55 fun v => Out.ret (β := Unit) (g_n55 v))) (by kernel_rfl) (fun _ _ => rfl) (fun n v w => by kernel_rfl) (fun n hb => trivial) hx hr
def Lc_n55_l1 : Lp U Bool := ⟨[1, 2, 15, 16, 17], [], qs20, [], fun v w => (ss_EqualFunc_api_Column_api_Column_api_Column_api_Column_l1 big v.1 v.2.2.1 v.2.2.2.1 v.2.2.2.2.1).bind fun | .ret q_ => some q_ | .brk () => ss_EqualFunc_api_Column_api_Column_api_Column_api_Column_k1⟩
theorem Lc_n55_l1_ok (r : Bool) : LpOk F_n55 (b_n55 r).enc r (Lc_n55_l1) (stAt F_n55 [4, 1, 0, 1, 1]) := fun v w hi h0 => by
  obtain ⟨x, hx0, h⟩ := bind_some h0
  exact ss_EqualFunc_api_Column_api_Column_api_Column_api_Column_l1_ok (r := x) (RT := (b_n55 r).enc) ⟨⟨[tc F_n55 [1, 1, 1]].map TI'.conc ++ [], by kernel_rfl, fun v' w' hi' h' => by obtain rfl := Option.some.inj h'; exact L_n55_k1_ok r v' w' hi' h⟩, trivial⟩ (fun t ht => by obtain ⟨q, rfl, hq⟩ := retOut ht; obtain rfl := Option.some.inj h; exact retOf_enc uok (give := b_n55) (fun _ => rfl) hq) big v w hi hx0
def S_ss_EqualFunc_api_Column_api_Column_api_Column_api_Column : FSig U := ⟨Bool, [22, 22, 112], [.p, .p, .p], [none, none, none], [.p (.sl (.st 2)), .p (.sl (.st 2)), .fn 115 [] []], fun v => ss_EqualFunc_api_Column_api_Column_api_Column_api_Column v.1 v.2.1, b_n55⟩
theorem S_ss_EqualFunc_api_Column_api_Column_api_Column_api_Column_ok : SigOk X0.E 114 S_ss_EqualFunc_api_Column_api_Column_api_Column_api_Column.sig := FSig.ok0 F_n55_ok (R := R_n55) (g := g_n55) (cuts := [([4, 1, 0, 1, 1], Lc_n55_l1)]) (pre := [tc0 F_n55]) rfl Tryd.func114 (by decide) rfl (fun _ => Nat.le_of_ble_eq_true (by kernel_rfl)) (fun _ => rfl) (by kernel_rfl) (fun _ _ h => Eq.trans (by kernel_rfl) h) ⟨rfl, trivial⟩ (fun r => ⟨(Lc_n55_l1_ok r), trivial⟩) fun _ => rfl

/-! ### tablefinder/table.Same -/
def c_n56 : Code := bodyOf Tryd.f72
def F_n56 : FC U := ⟨X0.at 24, Tryd.f72, c_n56, [(114, S_ss_EqualFunc_api_Column_api_Column_api_Column_api_Column.sig)], [], [.p], [none]⟩
theorem F_n56_ok : FOk F_n56 := fok uok tok0 eok0 mixed rfl ⟨S_ss_EqualFunc_api_Column_api_Column_api_Column_api_Column_ok, trivial⟩
def R_n56 : RSh := ⟨[.p .bool], []⟩
def g_n56 (v : RVal U R_n56) : Bool := v.1.1
def b_n56 (q : Bool) : TRet U := R_n56.bld ((q, ()), ())
def L_n56_j1 : Lp U Bool := ⟨[4], [], [.o (.v .bool)], [], fun v w => s_table_Same_j1 v.1⟩
theorem L_n56_j1_ok (r : Bool) : LpOk F_n56 (b_n56 r).enc r (L_n56_j1) (stAt F_n56 [1, 1]) := fun v w hi h => Pt.ev0 F_n56_ok (S := R_n56) (g := g_n56) (b := b_n56) (cuts := []) (pre := [tc F_n56 [1, 1]]) (T := Lp.st F_n56 (L_n56_j1) v w) (by kernel_rfl) hi (Eq.trans (by kernel_rfl) h) ⟨by kernel_rfl, trivial⟩ trivial fun _ => rfl
def S_s_table_Same : FSig U := ⟨Bool, [24, 24], [.p, .p], [some 3, some 3], [.p (.st 3), .p (.st 3)], fun v => s_table_Same v.1 v.2.1, b_n56⟩
theorem S_s_table_Same_ok : SigOk X0.E 72 S_s_table_Same.sig := FSig.ok0 F_n56_ok (R := R_n56) (g := g_n56) (cuts := [([1, 1], L_n56_j1)]) (pre := [tc0 F_n56]) rfl Tryd.func72 (by decide) rfl (fun _ => Nat.le_of_ble_eq_true (by kernel_rfl)) (fun _ => rfl) (by kernel_rfl) (fun _ _ h => Eq.trans (by kernel_rfl) h) ⟨rfl, trivial⟩ (fun r => ⟨(L_n56_j1_ok r), trivial⟩) fun _ => rfl

abbrev Tr_n57_0 : Type := Int → G_tablefindermill_Dice → GaTable → qL0 → qL0 → qL0 → qL0 → Option qT31
/-! ### tablefinder/tablefinderlaw03.TableParts -/
def c_n57 : Code := bodyOf Tryd.f16
def F_n57 : FC U := ⟨X0.at 193, Tryd.f16, c_n57, [(58, S_sl03_sane.sig), (59, S_s_tablefindermill_New.sig), (67, S_s_tablefindermill_Dice_Table.sig), (68, S_s_table_Rows.sig), (69, S_s_tablefindermill_Dice_Pick.sig), (70, S_s_table_Select.sig), (71, S_s_table_Project.sig), (72, S_s_table_Same.sig)], [], [.p], [none]⟩
theorem F_n57_ok : FOk F_n57 := fok uok tok0 eok0 mixed rfl ⟨S_sl03_sane_ok, S_s_tablefindermill_New_ok, S_s_tablefindermill_Dice_Table_ok, S_s_table_Rows_ok, S_s_tablefindermill_Dice_Pick_ok, S_s_table_Select_ok, S_s_table_Project_ok, S_s_table_Same_ok, trivial⟩
def R_n57 : RSh := ⟨[.p .bool], []⟩
def g_n57 (v : RVal U R_n57) : Bool := v.1.1
def b_n57 (q : Bool) : TRet U := R_n57.bld ((q, ()), ())
def L_n57_j7 : Lp U Bool := ⟨[2], [], [.o (.v .bool)], [], fun v w => sl03_TableParts_j7 v.1⟩
theorem L_n57_j7_ok (r : Bool) : LpOk F_n57 (b_n57 r).enc r (L_n57_j7) (stAt F_n57 [1, 1, 1, 1, 1, 1, 1, 1, 1, 1, 1, 1, 1, 1, 1, 1, 1, 1, 1, 1, 1]) := fun v w hi h => Pt.ev0 F_n57_ok (S := R_n57) (g := g_n57) (b := b_n57) (cuts := []) (pre := [tc F_n57 [1, 1, 1, 1, 1, 1, 1, 1, 1, 1, 1, 1, 1, 1, 1, 1, 1, 1, 1, 1, 1]]) (T := Lp.st F_n57 (L_n57_j7) v w) (by kernel_rfl) hi (Eq.trans (by kernel_rfl) h) ⟨by kernel_rfl, trivial⟩ trivial fun _ => rfl
def L_n57_k6 : Lp U Bool := ⟨[4, 8, 12, 22], [], qs21, qo26, fun v w => sl03_TableParts_k6 w.1 w.2.1 w.2.2.1 w.2.2.2.1⟩
theorem L_n57_k6_ok (r : Bool) : LpOk F_n57 (b_n57 r).enc r (L_n57_k6) ([tc F_n57 [1, 1, 1, 1, 1, 1, 1, 1, 1, 1, 1, 1, 1, 1, 1, 1, 1, 1]].map TI'.conc ++ []) := fun v w hi h => Pt.ev0 F_n57_ok (S := R_n57) (g := g_n57) (b := b_n57) (cuts := [([1, 1, 1, 1, 1, 1, 1, 1, 1, 1, 1, 1, 1, 1, 1, 1, 1, 1, 1, 1, 1], L_n57_j7)]) (pre := [tc F_n57 [1, 1, 1, 1, 1, 1, 1, 1, 1, 1, 1, 1, 1, 1, 1, 1, 1, 1]]) (T := Lp.st F_n57 (L_n57_k6) v w) (by kernel_rfl) hi (Eq.trans (by kernel_rfl) h) ⟨by kernel_rfl, trivial⟩ ⟨(L_n57_j7_ok r), trivial⟩ fun _ => rfl
def base_n57_l4 : List Eng.Item := .lp (codeAt F_n57 [5, 4, 1, 0, 1, 1, 1, 1, 1, 1, 1, 1, 1, 1, 1, 1, 1, 1, 1, 1, 1]) :: ([.blk 6, tc F_n57 [1, 1, 1, 1, 1, 1, 1, 1, 1, 1, 1, 1, 1, 1, 1, 1, 1, 1]].map TI'.conc ++ [])
def Lh_n57_l4 (rec_ : qL0 → Int → G_tablefindermill_Dice → GaTable → qL0 → GaTable → qL0 → Option qT36) : Lp U qT36 := ⟨[3, 4, 5, 8, 12, 22, 23], [], qs3, qo22, fun v w => rec_ v.2.2.1 v.2.2.2.2.2.2.1 w.1 w.2.1 w.2.2.1 w.2.2.2.1 w.2.2.2.2.1⟩
def Lx_n57_l4 : Lp U qT36 := ⟨[4, 8, 12, 22], [], qs21, qo26, fun v w => some (w.1, w.2.1, w.2.2.1, w.2.2.2.1)⟩
theorem sl03_TableParts_l4_ok {RT : Ret} {r : qT36} (hx : AllExits F_n57 RT r base_n57_l4 [(6, Lx_n57_l4)]) (hr : qH (fun _ => none) r RT) : ∀ n, LpOk F_n57 RT r (Lh_n57_l4 (sl03_TableParts_l4 n)) (stAt F_n57 [4, 1, 0, 1, 1, 1, 1, 1, 1, 1, 1, 1, 1, 1, 1, 1, 1, 1, 1, 1]) :=
  loop_ok F_n57_ok 4000 (q := [4, 1, 0, 1, 1, 1, 1, 1, 1, 1, 1, 1, 1, 1, 1, 1, 1, 1, 1, 1]) (body := codeAt F_n57 [5, 4, 1, 0, 1, 1, 1, 1, 1, 1, 1, 1, 1, 1, 1, 1, 1, 1, 1, 1, 1]) (live := [3, 4, 5, 8, 12, 22, 23]) (frz := []) (shs := qs3) (sho := qo22) (fun n v w => sl03_TableParts_l4 n v.2.2.1 v.2.2.2.2.2.2.1 w.1 w.2.1 w.2.2.1 w.2.2.2.1 w.2.2.2.2.1) (cuts := fun n => []) (exits := [(6, Lx_n57_l4)]) (ret := (fun _ => none)) (by kernel_rfl) (fun _ _ => rfl) (fun n v w => by kernel_rfl) (fun n hb => trivial) hx hr
def Lc_n57_l4 : Lp U Bool := ⟨[3, 4, 5, 8, 12, 22, 23], [], qs3, qo22, fun v w => (sl03_TableParts_l4 big v.2.2.1 v.2.2.2.2.2.2.1 w.1 w.2.1 w.2.2.1 w.2.2.2.1 w.2.2.2.2.1).bind fun (x0, x1, x2, x3) => sl03_TableParts_k6 x0 x1 x2 x3⟩
theorem Lc_n57_l4_ok (r : Bool) : LpOk F_n57 (b_n57 r).enc r (Lc_n57_l4) (stAt F_n57 [4, 1, 0, 1, 1, 1, 1, 1, 1, 1, 1, 1, 1, 1, 1, 1, 1, 1, 1, 1]) := fun v w hi h0 => by
  obtain ⟨x, hx0, h⟩ := bind_some h0
  exact sl03_TableParts_l4_ok (r := x) (RT := (b_n57 r).enc) ⟨⟨[tc F_n57 [1, 1, 1, 1, 1, 1, 1, 1, 1, 1, 1, 1, 1, 1, 1, 1, 1, 1]].map TI'.conc ++ [], by kernel_rfl, fun v' w' hi' h' => by obtain rfl := Option.some.inj h'; exact L_n57_k6_ok r v' w' hi' h⟩, trivial⟩ (fun _ ht => nomatch ht) big v w hi hx0
def L_n57_j5 : Lp U Bool := ⟨[3, 4, 5, 8, 12, 142], [], [.o (.ptr (0, 1, 1) 0 0), .o (.ptr (0, 2, 1) 0 0), .o (.v (.sl (.int .i64))), .o (.full (0, 3, 1)), .o (.ptr (0, 4, 1) 0 0), .o (.v .bool)], [.boxS (.st 5), .boxS (.st 3), .arr (.int .i64) false, .boxS (.st 3)], fun v w => sl03_TableParts_j5 v.2.2.1 v.2.2.2.2.2.1 w.1 w.2.1 w.2.2.1 w.2.2.2.1⟩
theorem L_n57_j5_ok (r : Bool) : LpOk F_n57 (b_n57 r).enc r (L_n57_j5) (stAt F_n57 [1, 0, 1, 1, 1, 1, 1, 1, 1, 1, 1, 1, 1, 1, 1, 1]) := fun v w hi h => Pt.ev0 F_n57_ok (S := R_n57) (g := g_n57) (b := b_n57) (cuts := [([4, 1, 0, 1, 1, 1, 1, 1, 1, 1, 1, 1, 1, 1, 1, 1, 1, 1, 1, 1], Lc_n57_l4)]) (pre := [tc F_n57 [1, 0, 1, 1, 1, 1, 1, 1, 1, 1, 1, 1, 1, 1, 1, 1], tc F_n57 [1, 1, 1, 1, 1, 1, 1, 1, 1, 1, 1, 1, 1, 1, 1]]) (T := Lp.st F_n57 (L_n57_j5) v w) (by kernel_rfl) hi (Eq.trans (by kernel_rfl) h) ⟨by kernel_rfl, by kernel_rfl, trivial⟩ ⟨(Lc_n57_l4_ok r), trivial⟩ fun _ => rfl
def L_n57_k4 : Lp U Bool := ⟨[3, 4, 5, 6, 7, 8], [], qs8, qo13, fun v w => sl03_TableParts_k4 w.1 w.2.1 w.2.2.1 w.2.2.2.1 w.2.2.2.2.1 w.2.2.2.2.2.1⟩
theorem L_n57_k4_ok (r : Bool) : LpOk F_n57 (b_n57 r).enc r (L_n57_k4) ([tc F_n57 [1, 1, 1, 1, 1, 1, 1, 1, 1]].map TI'.conc ++ []) := fun v w hi h => Pt.ev0 F_n57_ok (S := R_n57) (g := g_n57) (b := b_n57) (cuts := [([1, 0, 1, 1, 1, 1, 1, 1, 1, 1, 1, 1, 1, 1, 1, 1], L_n57_j5)]) (pre := [tc F_n57 [1, 1, 1, 1, 1, 1, 1, 1, 1]]) (T := Lp.st F_n57 (L_n57_k4) v w) (by kernel_rfl) hi (Eq.trans (by kernel_rfl) h) ⟨by kernel_rfl, trivial⟩ ⟨(L_n57_j5_ok r), trivial⟩ fun _ => rfl
def base_n57_l3 : List Eng.Item := .lp (codeAt F_n57 [5, 4, 1, 0, 1, 1, 1, 1, 1, 1, 1, 1]) :: ([.blk 4, tc F_n57 [1, 1, 1, 1, 1, 1, 1, 1, 1]].map TI'.conc ++ [])
def Lh_n57_l3 (rec_ : Tr_n57_0) : Lp U qT31 := ⟨[3, 4, 5, 6, 7, 8, 11], [], qs4, qo13, fun v w => rec_ v.2.2.2.2.2.2.1 w.1 w.2.1 w.2.2.1 w.2.2.2.1 w.2.2.2.2.1 w.2.2.2.2.2.1⟩
def Lx_n57_l3 : Lp U qT31 := ⟨[3, 4, 5, 6, 7, 8], [], qs8, qo13, fun v w => some (w.1, w.2.1, w.2.2.1, w.2.2.2.1, w.2.2.2.2.1, w.2.2.2.2.2.1)⟩
theorem sl03_TableParts_l3_ok {RT : Ret} {r : qT31} (hx : AllExits F_n57 RT r base_n57_l3 [(4, Lx_n57_l3)]) (hr : qH (fun _ => none) r RT) : ∀ n, LpOk F_n57 RT r (Lh_n57_l3 (sl03_TableParts_l3 n)) (stAt F_n57 [4, 1, 0, 1, 1, 1, 1, 1, 1, 1, 1]) :=
  loop_ok F_n57_ok 4000 (q := [4, 1, 0, 1, 1, 1, 1, 1, 1, 1, 1]) (body := codeAt F_n57 [5, 4, 1, 0, 1, 1, 1, 1, 1, 1, 1, 1]) (live := [3, 4, 5, 6, 7, 8, 11]) (frz := []) (shs := qs4) (sho := qo13) (fun n v w => sl03_TableParts_l3 n v.2.2.2.2.2.2.1 w.1 w.2.1 w.2.2.1 w.2.2.2.1 w.2.2.2.2.1 w.2.2.2.2.2.1) (cuts := fun n => []) (exits := [(4, Lx_n57_l3)]) (ret := (fun _ => none)) (by kernel_rfl) (fun _ _ => rfl) (fun n v w => by kernel_rfl) (fun n hb => trivial) hx hr
def Lc_n57_l3 : Lp U Bool := ⟨[3, 4, 5, 6, 7, 8, 11], [], qs4, qo13, fun v w => (sl03_TableParts_l3 big v.2.2.2.2.2.2.1 w.1 w.2.1 w.2.2.1 w.2.2.2.1 w.2.2.2.2.1 w.2.2.2.2.2.1).bind fun (x0, x1, x2, x3, x4, x5) => sl03_TableParts_k4 x0 x1 x2 x3 x4 x5⟩
theorem Lc_n57_l3_ok (r : Bool) : LpOk F_n57 (b_n57 r).enc r (Lc_n57_l3) (stAt F_n57 [4, 1, 0, 1, 1, 1, 1, 1, 1, 1, 1]) := fun v w hi h0 => by
  obtain ⟨x, hx0, h⟩ := bind_some h0
  exact sl03_TableParts_l3_ok (r := x) (RT := (b_n57 r).enc) ⟨⟨[tc F_n57 [1, 1, 1, 1, 1, 1, 1, 1, 1]].map TI'.conc ++ [], by kernel_rfl, fun v' w' hi' h' => by obtain rfl := Option.some.inj h'; exact L_n57_k4_ok r v' w' hi' h⟩, trivial⟩ (fun _ ht => nomatch ht) big v w hi hx0
def L_n57_k3 : Lp U Bool := ⟨[3, 4, 5, 6, 7, 8], [], qs8, qo13, fun v w => sl03_TableParts_k3 w.1 w.2.1 w.2.2.1 w.2.2.2.1 w.2.2.2.2.1 w.2.2.2.2.2.1⟩
theorem L_n57_k3_ok (r : Bool) : LpOk F_n57 (b_n57 r).enc r (L_n57_k3) ([tc F_n57 [1, 1, 1, 1, 1, 1, 1, 1]].map TI'.conc ++ []) := fun v w hi h => Pt.ev0 F_n57_ok (S := R_n57) (g := g_n57) (b := b_n57) (cuts := [([4, 1, 0, 1, 1, 1, 1, 1, 1, 1, 1], Lc_n57_l3)]) (pre := [tc F_n57 [1, 1, 1, 1, 1, 1, 1, 1]]) (T := Lp.st F_n57 (L_n57_k3) v w) (by kernel_rfl) hi (Eq.trans (by kernel_rfl) h) ⟨by kernel_rfl, trivial⟩ ⟨(Lc_n57_l3_ok r), trivial⟩ fun _ => rfl
def base_n57_l2 : List Eng.Item := .lp (codeAt F_n57 [5, 4, 1, 0, 1, 1, 1, 1, 1, 1, 1]) :: ([.blk 2, tc F_n57 [1, 1, 1, 1, 1, 1, 1, 1]].map TI'.conc ++ [])
def Lh_n57_l2 (rec_ : Tr_n57_0) : Lp U qT31 := ⟨[3, 4, 5, 6, 7, 8, 10], [], qs4, qo13, fun v w => rec_ v.2.2.2.2.2.2.1 w.1 w.2.1 w.2.2.1 w.2.2.2.1 w.2.2.2.2.1 w.2.2.2.2.2.1⟩
def Lx_n57_l2 : Lp U qT31 := ⟨[3, 4, 5, 6, 7, 8], [], qs8, qo13, fun v w => some (w.1, w.2.1, w.2.2.1, w.2.2.2.1, w.2.2.2.2.1, w.2.2.2.2.2.1)⟩
theorem sl03_TableParts_l2_ok {RT : Ret} {r : qT31} (hx : AllExits F_n57 RT r base_n57_l2 [(2, Lx_n57_l2)]) (hr : qH (fun _ => none) r RT) : ∀ n, LpOk F_n57 RT r (Lh_n57_l2 (sl03_TableParts_l2 n)) (stAt F_n57 [4, 1, 0, 1, 1, 1, 1, 1, 1, 1]) :=
  loop_ok F_n57_ok 4000 (q := [4, 1, 0, 1, 1, 1, 1, 1, 1, 1]) (body := codeAt F_n57 [5, 4, 1, 0, 1, 1, 1, 1, 1, 1, 1]) (live := [3, 4, 5, 6, 7, 8, 10]) (frz := []) (shs := qs4) (sho := qo13) (fun n v w => sl03_TableParts_l2 n v.2.2.2.2.2.2.1 w.1 w.2.1 w.2.2.1 w.2.2.2.1 w.2.2.2.2.1 w.2.2.2.2.2.1) (cuts := fun n => []) (exits := [(2, Lx_n57_l2)]) (ret := (fun _ => none)) (by kernel_rfl) (fun _ _ => rfl) (fun n v w => by kernel_rfl) (fun n hb => trivial) hx hr
def Lc_n57_l2 : Lp U Bool := ⟨[3, 4, 5, 6, 7, 8, 10], [], qs4, qo13, fun v w => (sl03_TableParts_l2 big v.2.2.2.2.2.2.1 w.1 w.2.1 w.2.2.1 w.2.2.2.1 w.2.2.2.2.1 w.2.2.2.2.2.1).bind fun (x0, x1, x2, x3, x4, x5) => sl03_TableParts_k3 x0 x1 x2 x3 x4 x5⟩
theorem Lc_n57_l2_ok (r : Bool) : LpOk F_n57 (b_n57 r).enc r (Lc_n57_l2) (stAt F_n57 [4, 1, 0, 1, 1, 1, 1, 1, 1, 1]) := fun v w hi h0 => by
  obtain ⟨x, hx0, h⟩ := bind_some h0
  exact sl03_TableParts_l2_ok (r := x) (RT := (b_n57 r).enc) ⟨⟨[tc F_n57 [1, 1, 1, 1, 1, 1, 1, 1]].map TI'.conc ++ [], by kernel_rfl, fun v' w' hi' h' => by obtain rfl := Option.some.inj h'; exact L_n57_k3_ok r v' w' hi' h⟩, trivial⟩ (fun _ ht => nomatch ht) big v w hi hx0
def L_n57_k2 : Lp U Bool := ⟨[3, 4, 5, 6, 7, 8], [], qs8, qo13, fun v w => sl03_TableParts_k2 w.1 w.2.1 w.2.2.1 w.2.2.2.1 w.2.2.2.2.1 w.2.2.2.2.2.1⟩
theorem L_n57_k2_ok (r : Bool) : LpOk F_n57 (b_n57 r).enc r (L_n57_k2) ([tc F_n57 [1, 1, 1, 1, 1, 1, 1]].map TI'.conc ++ []) := fun v w hi h => Pt.ev0 F_n57_ok (S := R_n57) (g := g_n57) (b := b_n57) (cuts := [([4, 1, 0, 1, 1, 1, 1, 1, 1, 1], Lc_n57_l2)]) (pre := [tc F_n57 [1, 1, 1, 1, 1, 1, 1]]) (T := Lp.st F_n57 (L_n57_k2) v w) (by kernel_rfl) hi (Eq.trans (by kernel_rfl) h) ⟨by kernel_rfl, trivial⟩ ⟨(Lc_n57_l2_ok r), trivial⟩ fun _ => rfl
def base_n57_l1 : List Eng.Item := .lp (codeAt F_n57 [5, 4, 1, 0, 1, 1, 1, 1, 1, 1]) :: ([.blk 0, tc F_n57 [1, 1, 1, 1, 1, 1, 1]].map TI'.conc ++ [])
def Lh_n57_l1 (rec_ : Tr_n57_0) : Lp U qT31 := ⟨[3, 4, 5, 6, 7, 8, 9], [], qs4, qo13, fun v w => rec_ v.2.2.2.2.2.2.1 w.1 w.2.1 w.2.2.1 w.2.2.2.1 w.2.2.2.2.1 w.2.2.2.2.2.1⟩
def Lx_n57_l1 : Lp U qT31 := ⟨[3, 4, 5, 6, 7, 8], [], qs8, qo13, fun v w => some (w.1, w.2.1, w.2.2.1, w.2.2.2.1, w.2.2.2.2.1, w.2.2.2.2.2.1)⟩
theorem sl03_TableParts_l1_ok {RT : Ret} {r : qT31} (hx : AllExits F_n57 RT r base_n57_l1 [(0, Lx_n57_l1)]) (hr : qH (fun _ => none) r RT) : ∀ n, LpOk F_n57 RT r (Lh_n57_l1 (sl03_TableParts_l1 n)) (stAt F_n57 [4, 1, 0, 1, 1, 1, 1, 1, 1]) :=
  loop_ok F_n57_ok 4000 (q := [4, 1, 0, 1, 1, 1, 1, 1, 1]) (body := codeAt F_n57 [5, 4, 1, 0, 1, 1, 1, 1, 1, 1]) (live := [3, 4, 5, 6, 7, 8, 9]) (frz := []) (shs := qs4) (sho := qo13) (fun n v w => sl03_TableParts_l1 n v.2.2.2.2.2.2.1 w.1 w.2.1 w.2.2.1 w.2.2.2.1 w.2.2.2.2.1 w.2.2.2.2.2.1) (cuts := fun n => []) (exits := [(0, Lx_n57_l1)]) (ret := (fun _ => none)) (by kernel_rfl) (fun _ _ => rfl) (fun n v w => by kernel_rfl) (fun n hb => trivial) hx hr
def Lc_n57_l1 : Lp U Bool := ⟨[3, 4, 5, 6, 7, 8, 9], [], qs4, qo13, fun v w => (sl03_TableParts_l1 big v.2.2.2.2.2.2.1 w.1 w.2.1 w.2.2.1 w.2.2.2.1 w.2.2.2.2.1 w.2.2.2.2.2.1).bind fun (x0, x1, x2, x3, x4, x5) => sl03_TableParts_k2 x0 x1 x2 x3 x4 x5⟩
theorem Lc_n57_l1_ok (r : Bool) : LpOk F_n57 (b_n57 r).enc r (Lc_n57_l1) (stAt F_n57 [4, 1, 0, 1, 1, 1, 1, 1, 1]) := fun v w hi h0 => by
  obtain ⟨x, hx0, h⟩ := bind_some h0
  exact sl03_TableParts_l1_ok (r := x) (RT := (b_n57 r).enc) ⟨⟨[tc F_n57 [1, 1, 1, 1, 1, 1, 1]].map TI'.conc ++ [], by kernel_rfl, fun v' w' hi' h' => by obtain rfl := Option.some.inj h'; exact L_n57_k2_ok r v' w' hi' h⟩, trivial⟩ (fun _ ht => nomatch ht) big v w hi hx0
def L_n57_j1 : Lp U Bool := ⟨[3, 4, 41], [], qs28, [.boxS (.st 5), .boxS (.st 3)], fun v w => sl03_TableParts_j1 v.2.2.1 w.1 w.2.1⟩
theorem L_n57_j1_ok (r : Bool) : LpOk F_n57 (b_n57 r).enc r (L_n57_j1) (stAt F_n57 [1, 0, 1, 1, 1, 1]) := fun v w hi h => Pt.ev0 F_n57_ok (S := R_n57) (g := g_n57) (b := b_n57) (cuts := [([4, 1, 0, 1, 1, 1, 1, 1, 1], Lc_n57_l1)]) (pre := [tc F_n57 [1, 0, 1, 1, 1, 1], tc F_n57 [1, 1, 1, 1, 1]]) (T := Lp.st F_n57 (L_n57_j1) v w) (by kernel_rfl) hi (Eq.trans (by kernel_rfl) h) ⟨by kernel_rfl, by kernel_rfl, trivial⟩ ⟨(Lc_n57_l1_ok r), trivial⟩ fun _ => rfl
def S_sl03_TableParts : FSig U := ⟨Bool, [83], [.p], [none], [.p (.sl (.int .u8))], fun v => sl03_TableParts v.1, b_n57⟩
theorem S_sl03_TableParts_ok : SigOk X0.E 16 S_sl03_TableParts.sig := FSig.ok0 F_n57_ok (R := R_n57) (g := g_n57) (cuts := [([1, 0, 1, 1, 1, 1], L_n57_j1)]) (pre := [tc0 F_n57]) rfl Tryd.func16 (by decide) rfl (fun _ => Nat.le_of_ble_eq_true (by kernel_rfl)) (fun _ => rfl) (by kernel_rfl) (fun _ _ h => Eq.trans (by kernel_rfl) h) ⟨rfl, trivial⟩ (fun r => ⟨(L_n57_j1_ok r), trivial⟩) fun _ => rfl

end
end Go.Proofs
