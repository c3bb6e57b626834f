/- Printed by wip/tools/tgen.py: walks. -/
import Derived.Test.YtjdddnbddnhilaaDoorCpU
set_option linter.unusedVariables false
set_option linter.unusedSimpArgs false
set_option linter.unusedSectionVars false
namespace Go.Proofs
open Go Eng
set_option maxRecDepth 100000
noncomputable section

/-! ### names -/
abbrev qH {R : Type} (f : TRet U → Option R) (r : R) (RT : Ret) : Prop := ∀ t : TRet U, f t = some r → t.enc = RT
abbrev qi : Sh := .o (.v (.int .i64))
abbrev qo1 : List ShO := [.box [qi, .o (.v .bool), .o (.full (0, 3, 1)), .o (.v .bool), .o (.full (0, 4, 1)), .o (.v .bool), .o (.full (0, 5, 1)), .o (.v .bool), .o (.full (0, 6, 1)), .o (.v .bool), .o (.full (0, 7, 1)), .o (.v .bool), .o (.full (0, 8, 1)), .o (.v .bool), .o (.full (0, 9, 1)), .o (.v .bool), .o (.full (0, 10, 1)), .o (.v .bool), .o (.full (0, 11, 1)), .o (.v .bool), .o (.full (0, 12, 1))], .boxS (.st 3), .arr (.int .u32) false, .arr (.int .u32) false, .arr (.int .u32) false, .arr (.int .u32) false, .arr (.int .u32) false, .arr (.int .u32) false, .arr (.int .u32) false, .arr (.int .u32) false, .arr (.int .u32) false, .arr (.int .u32) false]
abbrev qs2 : List Sh := [.o (.v (.sl (.int .u32))), .o (.full (0, 1, 1)), qi, .o (.v (.int .u32)), .o (.v (.int .u64)), .o (.v (.sl (.int .u32))), qi, qi, .o (.v (.sl (.int .u32))), qi, qi]
abbrev qs3 : List Sh := [.o (.sl (0, 0, 0)), .o (.v (.sl (.int .u32))), qi, .o (.v (.int .u64)), .o (.v (.int .u32)), .o (.v (.int .u64)), .o (.v (.sl (.int .u32))), qi, qi]
abbrev qs4 : List Sh := [.o (.v (.sl (.int .u32))), .o (.full (0, 1, 1)), qi, .o (.v (.int .u64)), .o (.v (.sl (.int .u32))), qi, qi]
abbrev qo5 : List ShO := [.boxS (.st 1), .boxS (.st 1), .box [.o (.v .bool), .o (.full (0, 4, 1)), .o (.v .bool), .o (.full (0, 5, 1))], .arr (.int .u32) false, .arr (.int .u32) false]
abbrev qs6 : List Sh := [.o (.sl (0, 0, 0)), qi, .o (.v (.int .u64)), .o (.v (.int .u32)), .o (.v (.sl (.int .u32))), qi, qi]
abbrev qs7 : List Sh := [.o (.v (.sl (.int .u32))), .o (.v (.sl (.int .u32))), .o (.full (0, 1, 1)), .o (.v (.int .u32)), qi, qi]
abbrev qs8 : List Sh := [.o (.v (.sl (.int .u32))), .o (.v (.sl (.int .u32))), .o (.full (0, 1, 1)), qi, .o (.v (.int .u64)), qi]
abbrev qs9 : List Sh := [qi, .o (.full (0, 1, 1)), .o (.ptr (0, 2, 1) 0 0), .o (.full (0, 1, 1)), qi, qi]
abbrev qs10 : List Sh := [.o (.sl (0, 0, 0)), .o (.v (.sl (.int .u32))), qi, .o (.v (.int .u64)), .o (.v (.int .u32)), .o (.v (.int .u64))]
abbrev qs11 : List Sh := [.o (.v (.sl (.int .u32))), .o (.v (.sl (.int .u32))), .o (.full (0, 1, 1)), .o (.v (.sl (.int .u32))), qi]
abbrev qs12 : List Sh := [.o (.v (.sl (.int .u32))), .o (.v (.sl (.int .u32))), .o (.full (0, 1, 1)), qi, qi]
abbrev qs13 : List Sh := [.o (.v (.sl (.int .u32))), .o (.full (0, 1, 1)), .o (.v (.sl (.int .u32))), qi, qi]
abbrev qs14 : List Sh := [.o (.v (.sl (.int .u32))), .o (.v (.sl (.int .u32))), .o (.full (0, 1, 1)), qi, .o (.v (.int .u64))]
abbrev qs15 : List Sh := [.o (.v (.sl (.int .u32))), .o (.v (.sl (.int .u32))), .o (.full (0, 1, 1)), .o (.v (.int .u64)), qi]
abbrev qs16 : List Sh := [.o (.ptr (0, 1, 1) 0 0), .o (.ptr (0, 2, 1) 0 0), .o (.v (.sl (.st 2))), qi, qi]
abbrev qs17 : List Sh := [.o (.v (.sl (.int .u32))), .o (.v (.int .u32)), .o (.full (0, 1, 1)), .o (.v (.int .u32)), qi]
abbrev qs18 : List Sh := [qi, .o (.full (0, 1, 1)), .o (.v (.sl (.int .u32))), qi, qi]
abbrev qs19 : List Sh := [.o (.sl (0, 0, 0)), .o (.v (.sl (.int .u32))), qi, .o (.v (.int .u64)), .o (.v (.int .u64))]
abbrev qs20 : List Sh := [.o (.v (.sl (.int .u32))), .o (.v (.sl (.int .u32))), .o (.full (0, 1, 1)), qi]
abbrev qs21 : List Sh := [.o (.ptr (0, 1, 1) 0 0), .o (.v (.sl (.int .u32))), qi, qi]
abbrev qs22 : List Sh := [.o (.v (.sl (.int .u32))), .o (.full (0, 1, 1)), qi, qi]
abbrev qs23 : List Sh := [.o (.v (.sl (.int .u32))), .o (.v (.int .u32)), .o (.full (0, 1, 1)), qi]
abbrev qs24 : List Sh := [.o (.ptr (0, 1, 1) 0 0), .o (.ptr (0, 2, 1) 0 0), .o (.ptr (0, 3, 1) 0 0), .o (.v .bool)]
abbrev qs25 : List Sh := [.o (.sl (0, 0, 0)), .o (.v (.sl (.int .u32))), qi, .o (.v (.int .u64))]
abbrev qs26 : List Sh := [qi, qi, .o (.full (0, 1, 1)), .o (.full (0, 2, 1))]
abbrev qs27 : List Sh := [.o (.sl (0, 0, 0)), qi, .o (.v (.int .u64)), .o (.v (.int .u32))]
abbrev qs28 : List Sh := [.o (.v (.sl (.int .u32))), .o (.v (.sl (.int .u32))), qi]
abbrev qo29 : List ShO := [.box [.o (.v .bool), .o (.full (0, 2, 1))], .arr (.int .u32) false]
abbrev qs30 : List Sh := [.o (.ptr (0, 0, 0) 0 0), .o (.full (0, 1, 1)), qi]
abbrev qs31 : List Sh := [qi, .o (.full (0, 1, 1)), .o (.ptr (0, 2, 1) 0 0)]
abbrev qs32 : List Sh := [.o (.v (.sl (.st 0))), qi, qi]
abbrev qs33 : List Sh := [.o (.ptr (0, 1, 1) 0 0), .o (.ptr (0, 2, 1) 0 0), .o (.v .bool)]
abbrev qs34 : List Sh := [.o (.v (.sl (.int .u32))), .o (.v (.sl (.int .u32)))]
abbrev qs35 : List Sh := [.o (.ptr (0, 1, 1) 0 0), .o (.ptr (0, 2, 1) 0 0)]
abbrev qs36 : List Sh := [.o (.full (0, 1, 1)), .o (.v (.sl (.int .u32)))]
abbrev qs37 : List Sh := [.o (.v (.sl (.int .u32))), qi]
abbrev qo38 : List ShO := [.arr (.int .u32) false, .arr (.int .u32) false]
abbrev qs39 : List Sh := [.o (.full (0, 1, 1)), .o (.v (.int .u32))]
abbrev qs40 : List Sh := [.o (.v (.sl (.int .u32))), .o (.v .bool)]
abbrev qo41 : List ShO := [.boxS (.st 4), .arr (.st 2) false]
abbrev qo42 : List ShO := [.arr (.st 2) false, .boxS (.st 3)]
abbrev qs43 : List Sh := [.o (.v (.sl (.int .u32)))]
abbrev qT44 : Type := Int × Bool × Bool × Bool × Bool × Bool × Bool × Bool × Bool × Bool × Bool × GaMoments × qL0 × qL0 × qL0 × qL0 × qL0 × qL0 × qL0 × qL0 × qL0 × qL0
abbrev qT45 : Type := qL0 × Int × Int × qL0 × Int × Int × qL0
abbrev qT46 : Type := Nat × Nat × qL0 × Int × Int × Int × Int × qL0
abbrev qT47 : Type := qL0 × qL0 × Int × Int × qL0
abbrev qT48 : Type := Nat × Nat × qL0 × Int × Int × qL0
abbrev qT49 : Type := Int × qL1 × GaMoments
abbrev qT50 : Type := Nat × Nat × Int × Int × Int × qL0
abbrev qT51 : Type := Int × Int × qL0 × qL0
abbrev qT52 : Type := Gk_Dice × qL1
abbrev qT53 : Type := qL1 × Gk_Dice
abbrev qT54 : Type := qL0 × qL0 × Int
abbrev qT55 : Type := qL0 × qL0
abbrev qT56 : Type := GaFraction × Int × Bool
abbrev qT57 : Type := Int × qL0
abbrev qT58 : Type := qL0 × Int
abbrev qT59 : Type := GaFraction × Int
abbrev qT60 : Type := GaBig × GaBig
abbrev qT61 : Type := Int × Int

/-! ### tablefinder/tablefinderkit.Light -/
def c_n0 : Code := bodyOf Tryd.f18
def F_n0 : FC U := ⟨X0.at 6, Tryd.f18, c_n0, [], [], [.p], [none]⟩
theorem F_n0_ok : FOk F_n0 := fok uok tok0 eok0 mixed rfl trivial
def R_n0 : RSh := ⟨[.p .bool], []⟩
def g_n0 (v : RVal U R_n0) : Bool := v.1.1
def b_n0 (q : Bool) : TRet U := R_n0.bld ((q, ()), ())
def S_sk_Light : FSig U := ⟨Bool, [25], [.p], [none], [.p (.sl (.int .i64))], fun v => sk_Light v.1, b_n0⟩
theorem S_sk_Light_ok : SigOk X0.E 18 S_sk_Light.sig := FSig.ok0 F_n0_ok (R := R_n0) (g := g_n0) (cuts := []) (pre := [tc0 F_n0]) rfl Tryd.func18 (by decide) rfl (fun _ => Nat.le_of_ble_eq_true (by kernel_rfl)) (fun _ => rfl) (by kernel_rfl) (fun _ _ h => Eq.trans (by kernel_rfl) h) ⟨rfl, trivial⟩ (fun r => trivial) fun _ => rfl

/-! ### tablefinder/tablefinderref01.trim -/
def c_n1 : Code := bodyOf Tryd.f175
def F_n1 : FC U := ⟨X0.at 21, Tryd.f175, c_n1, [], [], [.p], [none]⟩
theorem F_n1_ok : FOk F_n1 := fok uok tok0 eok0 mixed rfl trivial
def R_n1 : RSh := ⟨[.p (.sl (.int .u32))], []⟩
def g_n1 (v : RVal U R_n1) : qL0 := v.1.1
def b_n1 (q : qL0) : TRet U := R_n1.bld ((q, ()), ())
def L_n1_k2 : Lp U qL0 := ⟨[0], [], qs43, [], fun v w => sr01_trim_k2 v.1⟩
theorem L_n1_k2_ok (r : qL0) : LpOk F_n1 (b_n1 r).enc r (L_n1_k2) ([tc F_n1 [1, 1]].map TI'.conc ++ []) := fun v w hi h => Pt.ev0 F_n1_ok (S := R_n1) (g := g_n1) (b := b_n1) (cuts := []) (pre := [tc F_n1 [1, 1]]) (T := Lp.st F_n1 (L_n1_k2) v w) (by kernel_rfl) hi (Eq.trans (by kernel_rfl) h) ⟨by kernel_rfl, trivial⟩ trivial fun _ => rfl
def base_n1_l1 : List Eng.Item := .lp (codeAt F_n1 [5, 4, 0, 1]) :: ([.blk 0, tc F_n1 [1, 1]].map TI'.conc ++ [])
def Lh_n1_l1 (rec_ : qL0 → Option qL0) : Lp U qL0 := ⟨[0], [], qs43, [], fun v w => rec_ v.1⟩
def Lx_n1_l1 : Lp U qL0 := ⟨[0], [], qs43, [], fun v w => some v.1⟩
def L_n1_j1 (rec_ : qL0 → Option qL0) : Lp U qL0 := ⟨[0, 14], [], qs40, [], fun v w => sr01_trim_j1 rec_ v.1 v.2.1⟩
theorem L_n1_j1_ok {RT : Ret} {r : qL0} {rec_ : qL0 → Option qL0} (hb : LpOk F_n1 RT r (Lh_n1_l1 rec_) base_n1_l1) (hx : AllExits F_n1 RT r base_n1_l1 [(0, Lx_n1_l1)]) (hr : qH (fun _ => none) r RT) : LpOk F_n1 RT r (L_n1_j1 rec_) (stAt F_n1 [1, 0, 5, 4, 0, 1]) := fun v w hi h => Pt.evlAt F_n1_ok (r := r) 4000 (cuts := []) (back := (some (Lh_n1_l1 rec_))) (exits := [(0, Lx_n1_l1)]) (ret := (fun _ => none)) (base := base_n1_l1) (pre := [tc F_n1 [1, 0, 5, 4, 0, 1], tc F_n1 [1, 5, 4, 0, 1]]) (T := Lp.st F_n1 (L_n1_j1 rec_) v w) (by kernel_rfl) hi (Eq.trans (by kernel_rfl) h) ⟨by kernel_rfl, by kernel_rfl, trivial⟩ trivial (fun L hL => by cases hL; exact hb) (fun hn => nomatch hn) hx hr
theorem sr01_trim_l1_ok {RT : Ret} {r : qL0} (hx : AllExits F_n1 RT r base_n1_l1 [(0, Lx_n1_l1)]) (hr : qH (fun _ => none) r RT) : ∀ n, LpOk F_n1 RT r (Lh_n1_l1 (sr01_trim_l1 n)) (stAt F_n1 [4, 0, 1]) :=
  loop_ok F_n1_ok 4000 (q := [4, 0, 1]) (body := codeAt F_n1 [5, 4, 0, 1]) (live := [0]) (frz := []) (shs := qs43) (sho := []) (fun n v w => sr01_trim_l1 n v.1) (cuts := fun n => [([1, 0, 5, 4, 0, 1], L_n1_j1 (sr01_trim_l1 n))]) (exits := [(0, Lx_n1_l1)]) (ret := (fun _ => none)) (by kernel_rfl) (fun _ _ => rfl) (fun n v w => by kernel_rfl) (fun n hb => ⟨L_n1_j1_ok hb hx hr, trivial⟩) hx hr
def Lc_n1_l1 : Lp U qL0 := ⟨[0], [], qs43, [], fun v w => (sr01_trim_l1 big v.1).bind fun x0 => sr01_trim_k2 x0⟩
theorem Lc_n1_l1_ok (r : qL0) : LpOk F_n1 (b_n1 r).enc r (Lc_n1_l1) (stAt F_n1 [4, 0, 1]) := fun v w hi h0 => by
  obtain ⟨x, hx0, h⟩ := bind_some h0
  exact sr01_trim_l1_ok (r := x) (RT := (b_n1 r).enc) ⟨⟨[tc F_n1 [1, 1]].map TI'.conc ++ [], by kernel_rfl, fun v' w' hi' h' => by obtain rfl := Option.some.inj h'; exact L_n1_k2_ok r v' w' hi' h⟩, trivial⟩ (fun _ ht => nomatch ht) big v w hi hx0
def S_sr01_trim : FSig U := ⟨qL0, [56], [.p], [none], [.p (.sl (.int .u32))], fun v => sr01_trim v.1, b_n1⟩
theorem S_sr01_trim_ok : SigOk X0.E 175 S_sr01_trim.sig := FSig.ok0 F_n1_ok (R := R_n1) (g := g_n1) (cuts := [([4, 0, 1], Lc_n1_l1)]) (pre := [tc0 F_n1]) rfl Tryd.func175 (by decide) rfl (fun _ => Nat.le_of_ble_eq_true (by kernel_rfl)) (fun _ => rfl) (by kernel_rfl) (fun _ _ h => Eq.trans (by kernel_rfl) h) ⟨rfl, trivial⟩ (fun r => ⟨(Lc_n1_l1_ok r), trivial⟩) fun _ => rfl

/-! ### tablefinder/tablefinderref01.big -/
def c_n2 : Code := bodyOf Tryd.f137
def F_n2 : FC U := ⟨X0.at 15, Tryd.f137, c_n2, [(175, S_sr01_trim.sig)], [], [.p], [some 0]⟩
theorem F_n2_ok : FOk F_n2 := fok uok tok0 eok0 mixed rfl ⟨S_sr01_trim_ok, trivial⟩
def R_n2 : RSh := ⟨[.p (.st 0)], []⟩
def g_n2 (v : RVal U R_n2) : GaBig := v.1.1
def b_n2 (q : GaBig) : TRet U := R_n2.bld ((q, ()), ())
def L_n2_j1 : Lp U GaBig := ⟨[4], [], [.o (.ptr (0, 1, 1) 0 0)], [.boxS (.st 0)], fun v w => sr01_big_j1 w.1⟩
theorem L_n2_j1_ok (r : GaBig) : LpOk F_n2 (b_n2 r).enc r (L_n2_j1) (stAt F_n2 [1, 1, 1]) := fun v w hi h => Pt.ev0 F_n2_ok (S := R_n2) (g := g_n2) (b := b_n2) (cuts := []) (pre := [tc F_n2 [1, 1, 1]]) (T := Lp.st F_n2 (L_n2_j1) v w) (by kernel_rfl) hi (Eq.trans (by kernel_rfl) h) ⟨by kernel_rfl, trivial⟩ trivial fun _ => rfl
def S_sr01_big : FSig U := ⟨GaBig, [4, 56], [.p, .p], [none, none], [.p .bool, .p (.sl (.int .u32))], fun v => sr01_big v.1 v.2.1, b_n2⟩
theorem S_sr01_big_ok : SigOk X0.E 137 S_sr01_big.sig := FSig.ok0 F_n2_ok (R := R_n2) (g := g_n2) (cuts := [([1, 1, 1], L_n2_j1)]) (pre := [tc0 F_n2]) rfl Tryd.func137 (by decide) rfl (fun _ => Nat.le_of_ble_eq_true (by kernel_rfl)) (fun _ => rfl) (by kernel_rfl) (fun _ _ h => Eq.trans (by kernel_rfl) h) ⟨rfl, trivial⟩ (fun r => ⟨(L_n2_j1_ok r), trivial⟩) fun _ => rfl

/-! ### tablefinder/tablefinderref01.FromInt -/
def c_n3 : Code := bodyOf Tryd.f162
def F_n3 : FC U := ⟨X0.at 19, Tryd.f162, c_n3, [(137, S_sr01_big.sig)], [], [.p], [some 0]⟩
theorem F_n3_ok : FOk F_n3 := fok uok tok0 eok0 mixed rfl ⟨S_sr01_big_ok, trivial⟩
def R_n3 : RSh := ⟨[.p (.st 0)], []⟩
def g_n3 (v : RVal U R_n3) : GaBig := v.1.1
def b_n3 (q : GaBig) : TRet U := R_n3.bld ((q, ()), ())
def L_n3_j1 : Lp U GaBig := ⟨[0, 2, 3], [], [qi, .o (.ptr (0, 1, 1) 0 0), .o (.v (.int .u64))], qo29, fun v w => sr01_FromInt_j1 v.1 v.2.2.1 w.1.1 w.2.1⟩
theorem L_n3_j1_ok (r : GaBig) : LpOk F_n3 (b_n3 r).enc r (L_n3_j1) (stAt F_n3 [1, 1, 1]) := fun v w hi h => Pt.ev0 F_n3_ok (S := R_n3) (g := g_n3) (b := b_n3) (cuts := []) (pre := [tc F_n3 [1, 1, 1]]) (T := Lp.st F_n3 (L_n3_j1) v w) (by kernel_rfl) hi (Eq.trans (by kernel_rfl) h) ⟨by kernel_rfl, trivial⟩ trivial fun _ => rfl
def S_sr01_FromInt : FSig U := ⟨GaBig, [3], [.p], [none], [.p (.int .i64)], fun v => sr01_FromInt v.1, b_n3⟩
theorem S_sr01_FromInt_ok : SigOk X0.E 162 S_sr01_FromInt.sig := FSig.ok0 F_n3_ok (R := R_n3) (g := g_n3) (cuts := [([1, 1, 1], L_n3_j1)]) (pre := [tc0 F_n3]) rfl Tryd.func162 (by decide) rfl (fun _ => Nat.le_of_ble_eq_true (by kernel_rfl)) (fun _ => rfl) (by kernel_rfl) (fun _ _ h => Eq.trans (by kernel_rfl) h) ⟨rfl, trivial⟩ (fun r => ⟨(L_n3_j1_ok r), trivial⟩) fun _ => rfl

/-! ### tablefinder/tablefinderref01.ValidBig -/
def c_n4 : Code := bodyOf Tryd.f134
def F_n4 : FC U := ⟨X0.at 31, Tryd.f134, c_n4, [], [], [.p], [none]⟩
theorem F_n4_ok : FOk F_n4 := fok uok tok0 eok0 mixed rfl trivial
def R_n4 : RSh := ⟨[.p .bool], []⟩
def g_n4 (v : RVal U R_n4) : Bool := v.1.1
def b_n4 (q : Bool) : TRet U := R_n4.bld ((q, ()), ())
def L_n4_j1 : Lp U Bool := ⟨[2], [], [.o (.v .bool)], [], fun v w => sr01_ValidBig_j1 v.1⟩
theorem L_n4_j1_ok (r : Bool) : LpOk F_n4 (b_n4 r).enc r (L_n4_j1) (stAt F_n4 [1, 1, 1]) := fun v w hi h => Pt.ev0 F_n4_ok (S := R_n4) (g := g_n4) (b := b_n4) (cuts := []) (pre := [tc F_n4 [1, 1, 1]]) (T := Lp.st F_n4 (L_n4_j1) v w) (by kernel_rfl) hi (Eq.trans (by kernel_rfl) h) ⟨by kernel_rfl, trivial⟩ trivial fun _ => rfl
def S_sr01_ValidBig : FSig U := ⟨Bool, [58], [.p], [some 0], [.p (.st 0)], fun v => sr01_ValidBig v.1, b_n4⟩
theorem S_sr01_ValidBig_ok : SigOk X0.E 134 S_sr01_ValidBig.sig := FSig.ok0 F_n4_ok (R := R_n4) (g := g_n4) (cuts := [([1, 1, 1], L_n4_j1)]) (pre := [tc0 F_n4]) rfl Tryd.func134 (by decide) rfl (fun _ => Nat.le_of_ble_eq_true (by kernel_rfl)) (fun _ => rfl) (by kernel_rfl) (fun _ _ h => Eq.trans (by kernel_rfl) h) ⟨rfl, trivial⟩ (fun r => ⟨(L_n4_j1_ok r), trivial⟩) fun _ => rfl

abbrev Tr_n5_0 : Type := qL0 → Int → Int → qL0 → Option qL0
/-! ### tablefinder/tablefinderref01.half -/
def c_n5 : Code := bodyOf Tryd.f173
def F_n5 : FC U := ⟨X0.at 39, Tryd.f173, c_n5, [(175, S_sr01_trim.sig)], [], [.p], [none]⟩
theorem F_n5_ok : FOk F_n5 := fok uok tok0 eok0 mixed rfl ⟨S_sr01_trim_ok, trivial⟩
def R_n5 : RSh := ⟨[.p (.sl (.int .u32))], []⟩
def g_n5 (v : RVal U R_n5) : qL0 := v.1.1
def b_n5 (q : qL0) : TRet U := R_n5.bld ((q, ()), ())
def L_n5_k2 : Lp U qL0 := ⟨[3], [], [.o (.full (0, 1, 1))], [.arr (.int .u32) false], fun v w => sr01_half_k2 w.1⟩
theorem L_n5_k2_ok (r : qL0) : LpOk F_n5 (b_n5 r).enc r (L_n5_k2) ([tc F_n5 [1, 1, 1]].map TI'.conc ++ []) := fun v w hi h => Pt.ev0 F_n5_ok (S := R_n5) (g := g_n5) (b := b_n5) (cuts := []) (pre := [tc F_n5 [1, 1, 1]]) (T := Lp.st F_n5 (L_n5_k2) v w) (by kernel_rfl) hi (Eq.trans (by kernel_rfl) h) ⟨by kernel_rfl, trivial⟩ trivial fun _ => rfl
def base_n5_l1 : List Eng.Item := .lp (codeAt F_n5 [5, 4, 1, 0, 1, 1]) :: ([.blk 0, tc F_n5 [1, 1, 1]].map TI'.conc ++ [])
def Lh_n5_l1 (rec_ : Tr_n5_0) : Lp U qL0 := ⟨[0, 3, 9, 10], [], qs22, [.arr (.int .u32) false], fun v w => rec_ v.1 v.2.2.1 v.2.2.2.1 w.1⟩
def Lx_n5_l1 : Lp U qL0 := ⟨[3], [], [.o (.full (0, 1, 1))], [.arr (.int .u32) false], fun v w => some w.1⟩
def L_n5_j1 (rec_ : Tr_n5_0) : Lp U qL0 := ⟨[0, 3, 9, 10], [], qs22, [.arr (.int .u32) false], fun v w => sr01_half_j1 rec_ v.1 v.2.2.1 v.2.2.2.1 w.1⟩
theorem L_n5_j1_ok {RT : Ret} {r : qL0} {rec_ : Tr_n5_0} (hb : LpOk F_n5 RT r (Lh_n5_l1 rec_) base_n5_l1) (hx : AllExits F_n5 RT r base_n5_l1 [(0, Lx_n5_l1)]) (hr : qH (fun _ => none) r RT) : LpOk F_n5 RT r (L_n5_j1 rec_) (stAt F_n5 [1, 1, 1, 5, 4, 1, 0, 1, 1]) := fun v w hi h => Pt.evlAt F_n5_ok (r := r) 4000 (cuts := []) (back := (some (Lh_n5_l1 rec_))) (exits := [(0, Lx_n5_l1)]) (ret := (fun _ => none)) (base := base_n5_l1) (pre := [tc F_n5 [1, 1, 1, 5, 4, 1, 0, 1, 1]]) (T := Lp.st F_n5 (L_n5_j1 rec_) v w) (by kernel_rfl) hi (Eq.trans (by kernel_rfl) h) ⟨by kernel_rfl, trivial⟩ trivial (fun L hL => by cases hL; exact hb) (fun hn => nomatch hn) hx hr
theorem sr01_half_l1_ok {RT : Ret} {r : qL0} (hx : AllExits F_n5 RT r base_n5_l1 [(0, Lx_n5_l1)]) (hr : qH (fun _ => none) r RT) : ∀ n, LpOk F_n5 RT r (Lh_n5_l1 (sr01_half_l1 n)) (stAt F_n5 [4, 1, 0, 1, 1]) :=
  loop_ok F_n5_ok 4000 (q := [4, 1, 0, 1, 1]) (body := codeAt F_n5 [5, 4, 1, 0, 1, 1]) (live := [0, 3, 9, 10]) (frz := []) (shs := qs22) (sho := [.arr (.int .u32) false]) (fun n v w => sr01_half_l1 n v.1 v.2.2.1 v.2.2.2.1 w.1) (cuts := fun n => [([1, 1, 1, 5, 4, 1, 0, 1, 1], L_n5_j1 (sr01_half_l1 n))]) (exits := [(0, Lx_n5_l1)]) (ret := (fun _ => none)) (by kernel_rfl) (fun _ _ => rfl) (fun n v w => by kernel_rfl) (fun n hb => ⟨L_n5_j1_ok hb hx hr, trivial⟩) hx hr
def Lc_n5_l1 : Lp U qL0 := ⟨[0, 3, 9, 10], [], qs22, [.arr (.int .u32) false], fun v w => (sr01_half_l1 big v.1 v.2.2.1 v.2.2.2.1 w.1).bind fun x0 => sr01_half_k2 x0⟩
theorem Lc_n5_l1_ok (r : qL0) : LpOk F_n5 (b_n5 r).enc r (Lc_n5_l1) (stAt F_n5 [4, 1, 0, 1, 1]) := fun v w hi h0 => by
  obtain ⟨x, hx0, h⟩ := bind_some h0
  exact sr01_half_l1_ok (r := x) (RT := (b_n5 r).enc) ⟨⟨[tc F_n5 [1, 1, 1]].map TI'.conc ++ [], by kernel_rfl, fun v' w' hi' h' => by obtain rfl := Option.some.inj h'; exact L_n5_k2_ok r v' w' hi' h⟩, trivial⟩ (fun _ ht => nomatch ht) big v w hi hx0
def S_sr01_half : FSig U := ⟨qL0, [56], [.p], [none], [.p (.sl (.int .u32))], fun v => sr01_half v.1, b_n5⟩
theorem S_sr01_half_ok : SigOk X0.E 173 S_sr01_half.sig := FSig.ok0 F_n5_ok (R := R_n5) (g := g_n5) (cuts := [([4, 1, 0, 1, 1], Lc_n5_l1)]) (pre := [tc0 F_n5]) rfl Tryd.func173 (by decide) rfl (fun _ => Nat.le_of_ble_eq_true (by kernel_rfl)) (fun _ => rfl) (by kernel_rfl) (fun _ _ h => Eq.trans (by kernel_rfl) h) ⟨rfl, trivial⟩ (fun r => ⟨(Lc_n5_l1_ok r), trivial⟩) fun _ => rfl

/-! ### tablefinder/tablefinderref01.cmp -/
def c_n6 : Code := bodyOf Tryd.f135
def F_n6 : FC U := ⟨X0.at 41, Tryd.f135, c_n6, [], [], [.p], [none]⟩
theorem F_n6_ok : FOk F_n6 := fok uok tok0 eok0 mixed rfl trivial
def R_n6 : RSh := ⟨[.p (.int .i64)], []⟩
def g_n6 (v : RVal U R_n6) : Int := v.1.1
def b_n6 (q : Int) : TRet U := R_n6.bld ((q, ()), ())
def L_n6_k1 : Lp U Int := ⟨[], [], [], [], fun v w => sr01_cmp_k1⟩
theorem L_n6_k1_ok (r : Int) : LpOk F_n6 (b_n6 r).enc r (L_n6_k1) ([tc F_n6 [1, 1, 1]].map TI'.conc ++ []) := fun v w hi h => Pt.ev0 F_n6_ok (S := R_n6) (g := g_n6) (b := b_n6) (cuts := []) (pre := [tc F_n6 [1, 1, 1]]) (T := Lp.st F_n6 (L_n6_k1) v w) (by kernel_rfl) hi (Eq.trans (by kernel_rfl) h) ⟨by kernel_rfl, trivial⟩ trivial fun _ => rfl
def base_n6_l1 : List Eng.Item := .lp (codeAt F_n6 [5, 4, 1, 0, 1, 1]) :: ([.blk 0, tc F_n6 [1, 1, 1]].map TI'.conc ++ [])
def Lh_n6_l1 (rec_ : qL0 → qL0 → Int → Option (Out Unit Int)) : Lp U (Out Unit Int) := ⟨[0, 1, 5], [], qs28, [], fun v w => rec_ v.1 v.2.1 v.2.2.1⟩
def Lx_n6_l1 : Lp U (Out Unit Int) := ⟨[], [], [], [], fun v w => some (.brk ())⟩
theorem sr01_cmp_l1_ok {RT : Ret} {r : (Out Unit Int)} (hx : AllExits F_n6 RT r base_n6_l1 [(0, Lx_n6_l1)]) (hr : qH (retOf R_n6 fun v => Out.ret (β := Unit) (g_n6 v)) r RT) : ∀ n, LpOk F_n6 RT r (Lh_n6_l1 (sr01_cmp_l1 n)) (stAt F_n6 [4, 1, 0, 1, 1]) :=
  loop_ok F_n6_ok 4000 (q := [4, 1, 0, 1, 1]) (body := codeAt F_n6 [5, 4, 1, 0, 1, 1]) (live := [0, 1, 5]) (frz := []) (shs := qs28) (sho := []) (fun n v w => sr01_cmp_l1 n v.1 v.2.1 v.2.2.1) (cuts := fun n => []) (exits := [(0, Lx_n6_l1)]) (ret := (retOf R_n6 fun v => Out.ret (β := Unit) (g_n6 v))) (by kernel_rfl) (fun _ _ => rfl) (fun n v w => by kernel_rfl) (fun n hb => trivial) hx hr
def Lc_n6_l1 : Lp U Int := ⟨[0, 1, 5], [], qs28, [], fun v w => (sr01_cmp_l1 big v.1 v.2.1 v.2.2.1).bind fun | .ret q_ => some q_ | .brk () => sr01_cmp_k1⟩
theorem Lc_n6_l1_ok (r : Int) : LpOk F_n6 (b_n6 r).enc r (Lc_n6_l1) (stAt F_n6 [4, 1, 0, 1, 1]) := fun v w hi h0 => by
  obtain ⟨x, hx0, h⟩ := bind_some h0
  exact sr01_cmp_l1_ok (r := x) (RT := (b_n6 r).enc) ⟨⟨[tc F_n6 [1, 1, 1]].map TI'.conc ++ [], by kernel_rfl, fun v' w' hi' h' => by obtain rfl := Option.some.inj h'; exact L_n6_k1_ok r v' w' hi' h⟩, trivial⟩ (fun t ht => by obtain ⟨q, rfl, hq⟩ := retOut ht; obtain rfl := Option.some.inj h; exact retOf_enc uok (give := b_n6) (fun _ => rfl) hq) big v w hi hx0
def S_sr01_cmp : FSig U := ⟨Int, [56, 56], [.p, .p], [none, none], [.p (.sl (.int .u32)), .p (.sl (.int .u32))], fun v => sr01_cmp v.1 v.2.1, b_n6⟩
theorem S_sr01_cmp_ok : SigOk X0.E 135 S_sr01_cmp.sig := FSig.ok0 F_n6_ok (R := R_n6) (g := g_n6) (cuts := [([4, 1, 0, 1, 1], Lc_n6_l1)]) (pre := [tc0 F_n6]) rfl Tryd.func135 (by decide) rfl (fun _ => Nat.le_of_ble_eq_true (by kernel_rfl)) (fun _ => rfl) (by kernel_rfl) (fun _ _ h => Eq.trans (by kernel_rfl) h) ⟨rfl, trivial⟩ (fun r => ⟨(Lc_n6_l1_ok r), trivial⟩) fun _ => rfl

abbrev Tr_n7_0 : Type := qL0 → qL0 → Int → Int → qL0 → Option qL0
/-! ### tablefinder/tablefinderref01.sub -/
def c_n7 : Code := bodyOf Tryd.f139
def F_n7 : FC U := ⟨X0.at 41, Tryd.f139, c_n7, [(175, S_sr01_trim.sig)], [], [.p], [none]⟩
theorem F_n7_ok : FOk F_n7 := fok uok tok0 eok0 mixed rfl ⟨S_sr01_trim_ok, trivial⟩
def R_n7 : RSh := ⟨[.p (.sl (.int .u32))], []⟩
def g_n7 (v : RVal U R_n7) : qL0 := v.1.1
def b_n7 (q : qL0) : TRet U := R_n7.bld ((q, ()), ())
def L_n7_k2 : Lp U qL0 := ⟨[5], [], [.o (.full (0, 1, 1))], [.arr (.int .u32) false], fun v w => sr01_sub_k2 w.1⟩
theorem L_n7_k2_ok (r : qL0) : LpOk F_n7 (b_n7 r).enc r (L_n7_k2) ([tc F_n7 [1, 1, 1, 1]].map TI'.conc ++ []) := fun v w hi h => Pt.ev0 F_n7_ok (S := R_n7) (g := g_n7) (b := b_n7) (cuts := []) (pre := [tc F_n7 [1, 1, 1, 1]]) (T := Lp.st F_n7 (L_n7_k2) v w) (by kernel_rfl) hi (Eq.trans (by kernel_rfl) h) ⟨by kernel_rfl, trivial⟩ trivial fun _ => rfl
def base_n7_l1 : List Eng.Item := .lp (codeAt F_n7 [5, 4, 1, 0, 1, 1, 1]) :: ([.blk 0, tc F_n7 [1, 1, 1, 1]].map TI'.conc ++ [])
def Lh_n7_l1 (rec_ : Tr_n7_0) : Lp U qL0 := ⟨[0, 1, 5, 6, 7], [], qs12, [.arr (.int .u32) false], fun v w => rec_ v.1 v.2.1 v.2.2.2.1 v.2.2.2.2.1 w.1⟩
def Lx_n7_l1 : Lp U qL0 := ⟨[5], [], [.o (.full (0, 1, 1))], [.arr (.int .u32) false], fun v w => some w.1⟩
def L_n7_j1 (rec_ : Tr_n7_0) : Lp U qL0 := ⟨[0, 1, 5, 6, 7], [], qs12, [.arr (.int .u32) false], fun v w => sr01_sub_j1 rec_ v.1 v.2.1 v.2.2.2.1 v.2.2.2.2.1 w.1⟩
theorem L_n7_j1_ok {RT : Ret} {r : qL0} {rec_ : Tr_n7_0} (hb : LpOk F_n7 RT r (Lh_n7_l1 rec_) base_n7_l1) (hx : AllExits F_n7 RT r base_n7_l1 [(0, Lx_n7_l1)]) (hr : qH (fun _ => none) r RT) : LpOk F_n7 RT r (L_n7_j1 rec_) (stAt F_n7 [1, 1, 4, 0, 1, 5, 4, 1, 0, 1, 1, 1]) := fun v w hi h => Pt.evlAt F_n7_ok (r := r) 4000 (cuts := []) (back := (some (Lh_n7_l1 rec_))) (exits := [(0, Lx_n7_l1)]) (ret := (fun _ => none)) (base := base_n7_l1) (pre := [tc F_n7 [1, 1, 4, 0, 1, 5, 4, 1, 0, 1, 1, 1], .blk 1, tc F_n7 [1, 1, 5, 4, 1, 0, 1, 1, 1]]) (T := Lp.st F_n7 (L_n7_j1 rec_) v w) (by kernel_rfl) hi (Eq.trans (by kernel_rfl) h) ⟨by kernel_rfl, by kernel_rfl, trivial⟩ trivial (fun L hL => by cases hL; exact hb) (fun hn => nomatch hn) hx hr
theorem sr01_sub_l1_ok {RT : Ret} {r : qL0} (hx : AllExits F_n7 RT r base_n7_l1 [(0, Lx_n7_l1)]) (hr : qH (fun _ => none) r RT) : ∀ n, LpOk F_n7 RT r (Lh_n7_l1 (sr01_sub_l1 n)) (stAt F_n7 [4, 1, 0, 1, 1, 1]) :=
  loop_ok F_n7_ok 4000 (q := [4, 1, 0, 1, 1, 1]) (body := codeAt F_n7 [5, 4, 1, 0, 1, 1, 1]) (live := [0, 1, 5, 6, 7]) (frz := []) (shs := qs12) (sho := [.arr (.int .u32) false]) (fun n v w => sr01_sub_l1 n v.1 v.2.1 v.2.2.2.1 v.2.2.2.2.1 w.1) (cuts := fun n => [([1, 1, 4, 0, 1, 5, 4, 1, 0, 1, 1, 1], L_n7_j1 (sr01_sub_l1 n))]) (exits := [(0, Lx_n7_l1)]) (ret := (fun _ => none)) (by kernel_rfl) (fun _ _ => rfl) (fun n v w => by kernel_rfl) (fun n hb => ⟨L_n7_j1_ok hb hx hr, trivial⟩) hx hr
def Lc_n7_l1 : Lp U qL0 := ⟨[0, 1, 5, 6, 7], [], qs12, [.arr (.int .u32) false], fun v w => (sr01_sub_l1 big v.1 v.2.1 v.2.2.2.1 v.2.2.2.2.1 w.1).bind fun x0 => sr01_sub_k2 x0⟩
theorem Lc_n7_l1_ok (r : qL0) : LpOk F_n7 (b_n7 r).enc r (Lc_n7_l1) (stAt F_n7 [4, 1, 0, 1, 1, 1]) := fun v w hi h0 => by
  obtain ⟨x, hx0, h⟩ := bind_some h0
  exact sr01_sub_l1_ok (r := x) (RT := (b_n7 r).enc) ⟨⟨[tc F_n7 [1, 1, 1, 1]].map TI'.conc ++ [], by kernel_rfl, fun v' w' hi' h' => by obtain rfl := Option.some.inj h'; exact L_n7_k2_ok r v' w' hi' h⟩, trivial⟩ (fun _ ht => nomatch ht) big v w hi hx0
def S_sr01_sub : FSig U := ⟨qL0, [56, 56], [.p, .p], [none, none], [.p (.sl (.int .u32)), .p (.sl (.int .u32))], fun v => sr01_sub v.1 v.2.1, b_n7⟩
theorem S_sr01_sub_ok : SigOk X0.E 139 S_sr01_sub.sig := FSig.ok0 F_n7_ok (R := R_n7) (g := g_n7) (cuts := [([4, 1, 0, 1, 1, 1], Lc_n7_l1)]) (pre := [tc0 F_n7]) rfl Tryd.func139 (by decide) rfl (fun _ => Nat.le_of_ble_eq_true (by kernel_rfl)) (fun _ => rfl) (by kernel_rfl) (fun _ _ h => Eq.trans (by kernel_rfl) h) ⟨rfl, trivial⟩ (fun r => ⟨(Lc_n7_l1_ok r), trivial⟩) fun _ => rfl

/-! ### tablefinder/tablefinderref01.twice -/
def c_n8 : Code := bodyOf Tryd.f174
def F_n8 : FC U := ⟨X0.at 33, Tryd.f174, c_n8, [(175, S_sr01_trim.sig)], [], [.p], [none]⟩
theorem F_n8_ok : FOk F_n8 := fok uok tok0 eok0 mixed rfl ⟨S_sr01_trim_ok, trivial⟩
def R_n8 : RSh := ⟨[.p (.sl (.int .u32))], []⟩
def g_n8 (v : RVal U R_n8) : qL0 := v.1.1
def b_n8 (q : qL0) : TRet U := R_n8.bld ((q, ()), ())
def L_n8_k1 : Lp U qL0 := ⟨[1, 5], [], [.o (.v (.int .u32)), .o (.full (0, 1, 1))], [.arr (.int .u32) false], fun v w => sr01_twice_k1 v.1 w.1⟩
theorem L_n8_k1_ok (r : qL0) : LpOk F_n8 (b_n8 r).enc r (L_n8_k1) ([tc F_n8 [1, 1, 1]].map TI'.conc ++ []) := fun v w hi h => Pt.ev0 F_n8_ok (S := R_n8) (g := g_n8) (b := b_n8) (cuts := []) (pre := [tc F_n8 [1, 1, 1]]) (T := Lp.st F_n8 (L_n8_k1) v w) (by kernel_rfl) hi (Eq.trans (by kernel_rfl) h) ⟨by kernel_rfl, trivial⟩ trivial fun _ => rfl
def base_n8_l1 : List Eng.Item := .lp (codeAt F_n8 [5, 4, 1, 0, 1, 1]) :: ([.blk 0, tc F_n8 [1, 1, 1]].map TI'.conc ++ [])
def Lh_n8_l1 (rec_ : qL0 → Int → Int → qL0 → Option qT57) : Lp U qT57 := ⟨[0, 1, 5, 6], [], qs23, [.arr (.int .u32) false], fun v w => rec_ v.1 v.2.1 v.2.2.2.1 w.1⟩
def Lx_n8_l1 : Lp U qT57 := ⟨[1, 5], [], [.o (.v (.int .u32)), .o (.full (0, 1, 1))], [.arr (.int .u32) false], fun v w => some (v.1, w.1)⟩
theorem sr01_twice_l1_ok {RT : Ret} {r : qT57} (hx : AllExits F_n8 RT r base_n8_l1 [(0, Lx_n8_l1)]) (hr : qH (fun _ => none) r RT) : ∀ n, LpOk F_n8 RT r (Lh_n8_l1 (sr01_twice_l1 n)) (stAt F_n8 [4, 1, 0, 1, 1]) :=
  loop_ok F_n8_ok 4000 (q := [4, 1, 0, 1, 1]) (body := codeAt F_n8 [5, 4, 1, 0, 1, 1]) (live := [0, 1, 5, 6]) (frz := []) (shs := qs23) (sho := [.arr (.int .u32) false]) (fun n v w => sr01_twice_l1 n v.1 v.2.1 v.2.2.2.1 w.1) (cuts := fun n => []) (exits := [(0, Lx_n8_l1)]) (ret := (fun _ => none)) (by kernel_rfl) (fun _ _ => rfl) (fun n v w => by kernel_rfl) (fun n hb => trivial) hx hr
def Lc_n8_l1 : Lp U qL0 := ⟨[0, 1, 5, 6], [], qs23, [.arr (.int .u32) false], fun v w => (sr01_twice_l1 big v.1 v.2.1 v.2.2.2.1 w.1).bind fun (x0, x1) => sr01_twice_k1 x0 x1⟩
theorem Lc_n8_l1_ok (r : qL0) : LpOk F_n8 (b_n8 r).enc r (Lc_n8_l1) (stAt F_n8 [4, 1, 0, 1, 1]) := fun v w hi h0 => by
  obtain ⟨x, hx0, h⟩ := bind_some h0
  exact sr01_twice_l1_ok (r := x) (RT := (b_n8 r).enc) ⟨⟨[tc F_n8 [1, 1, 1]].map TI'.conc ++ [], by kernel_rfl, fun v' w' hi' h' => by obtain rfl := Option.some.inj h'; exact L_n8_k1_ok r v' w' hi' h⟩, trivial⟩ (fun _ ht => nomatch ht) big v w hi hx0
def S_sr01_twice : FSig U := ⟨qL0, [56, 167], [.p, .p], [none, none], [.p (.sl (.int .u32)), .p (.int .u32)], fun v => sr01_twice v.1 v.2.1, b_n8⟩
theorem S_sr01_twice_ok : SigOk X0.E 174 S_sr01_twice.sig := FSig.ok0 F_n8_ok (R := R_n8) (g := g_n8) (cuts := [([4, 1, 0, 1, 1], Lc_n8_l1)]) (pre := [tc0 F_n8]) rfl Tryd.func174 (by decide) rfl (fun _ => Nat.le_of_ble_eq_true (by kernel_rfl)) (fun _ => rfl) (by kernel_rfl) (fun _ _ h => Eq.trans (by kernel_rfl) h) ⟨rfl, trivial⟩ (fun r => ⟨(Lc_n8_l1_ok r), trivial⟩) fun _ => rfl

abbrev Tr_n9_0 : Type := qL0 → qL0 → Int → Option qT54
abbrev Tr_n9_1 : Type := qL0 → qL0 → Int → Option qT58
/-! ### tablefinder/tablefinderref01.gcd -/
def c_n9 : Code := bodyOf Tryd.f136
def F_n9 : FC U := ⟨X0.at 57, Tryd.f136, c_n9, [(173, S_sr01_half.sig), (135, S_sr01_cmp.sig), (139, S_sr01_sub.sig), (174, S_sr01_twice.sig)], [], [.p], [none]⟩
theorem F_n9_ok : FOk F_n9 := fok uok tok0 eok0 mixed rfl ⟨S_sr01_half_ok, S_sr01_cmp_ok, S_sr01_sub_ok, S_sr01_twice_ok, trivial⟩
def R_n9 : RSh := ⟨[.p (.sl (.int .u32))], []⟩
def g_n9 (v : RVal U R_n9) : qL0 := v.1.1
def b_n9 (q : qL0) : TRet U := R_n9.bld ((q, ()), ())
def L_n9_k7 : Lp U qL0 := ⟨[0], [], qs43, [], fun v w => sr01_gcd_k7 v.1⟩
theorem L_n9_k7_ok (r : qL0) : LpOk F_n9 (b_n9 r).enc r (L_n9_k7) ([tc F_n9 [1, 1, 1, 1, 1]].map TI'.conc ++ []) := fun v w hi h => Pt.ev0 F_n9_ok (S := R_n9) (g := g_n9) (b := b_n9) (cuts := []) (pre := [tc F_n9 [1, 1, 1, 1, 1]]) (T := Lp.st F_n9 (L_n9_k7) v w) (by kernel_rfl) hi (Eq.trans (by kernel_rfl) h) ⟨by kernel_rfl, trivial⟩ trivial fun _ => rfl
def base_n9_l5 : List Eng.Item := .lp (codeAt F_n9 [5, 4, 0, 1, 1, 1, 1]) :: ([.blk 8, tc F_n9 [1, 1, 1, 1, 1]].map TI'.conc ++ [])
def Lh_n9_l5 (rec_ : qL0 → Int → Option qL0) : Lp U qL0 := ⟨[0, 5], [], qs37, [], fun v w => rec_ v.1 v.2.1⟩
def Lx_n9_l5 : Lp U qL0 := ⟨[0], [], qs43, [], fun v w => some v.1⟩
theorem sr01_gcd_l5_ok {RT : Ret} {r : qL0} (hx : AllExits F_n9 RT r base_n9_l5 [(8, Lx_n9_l5)]) (hr : qH (fun _ => none) r RT) : ∀ n, LpOk F_n9 RT r (Lh_n9_l5 (sr01_gcd_l5 n)) (stAt F_n9 [4, 0, 1, 1, 1, 1]) :=
  loop_ok F_n9_ok 4000 (q := [4, 0, 1, 1, 1, 1]) (body := codeAt F_n9 [5, 4, 0, 1, 1, 1, 1]) (live := [0, 5]) (frz := []) (shs := qs37) (sho := []) (fun n v w => sr01_gcd_l5 n v.1 v.2.1) (cuts := fun n => []) (exits := [(8, Lx_n9_l5)]) (ret := (fun _ => none)) (by kernel_rfl) (fun _ _ => rfl) (fun n v w => by kernel_rfl) (fun n hb => trivial) hx hr
def Lc_n9_l5 : Lp U qL0 := ⟨[0, 5], [], qs37, [], fun v w => (sr01_gcd_l5 big v.1 v.2.1).bind fun x0 => sr01_gcd_k7 x0⟩
theorem Lc_n9_l5_ok (r : qL0) : LpOk F_n9 (b_n9 r).enc r (Lc_n9_l5) (stAt F_n9 [4, 0, 1, 1, 1, 1]) := fun v w hi h0 => by
  obtain ⟨x, hx0, h⟩ := bind_some h0
  exact sr01_gcd_l5_ok (r := x) (RT := (b_n9 r).enc) ⟨⟨[tc F_n9 [1, 1, 1, 1, 1]].map TI'.conc ++ [], by kernel_rfl, fun v' w' hi' h' => by obtain rfl := Option.some.inj h'; exact L_n9_k7_ok r v' w' hi' h⟩, trivial⟩ (fun _ ht => nomatch ht) big v w hi hx0
def L_n9_k6 : Lp U qL0 := ⟨[0, 5], [], qs37, [], fun v w => sr01_gcd_k6 v.1 v.2.1⟩
theorem L_n9_k6_ok (r : qL0) : LpOk F_n9 (b_n9 r).enc r (L_n9_k6) ([tc F_n9 [1, 1, 1, 1]].map TI'.conc ++ []) := fun v w hi h => Pt.ev0 F_n9_ok (S := R_n9) (g := g_n9) (b := b_n9) (cuts := [([4, 0, 1, 1, 1, 1], Lc_n9_l5)]) (pre := [tc F_n9 [1, 1, 1, 1]]) (T := Lp.st F_n9 (L_n9_k6) v w) (by kernel_rfl) hi (Eq.trans (by kernel_rfl) h) ⟨by kernel_rfl, trivial⟩ ⟨(Lc_n9_l5_ok r), trivial⟩ fun _ => rfl
def base_n9_l2 : List Eng.Item := .lp (codeAt F_n9 [5, 4, 0, 1, 1, 1]) :: ([.blk 2, tc F_n9 [1, 1, 1, 1]].map TI'.conc ++ [])
def Lh_n9_l2 (rec_ : Tr_n9_1) : Lp U qT58 := ⟨[0, 1, 5], [], qs28, [], fun v w => rec_ v.1 v.2.1 v.2.2.1⟩
def Lx_n9_l2 : Lp U qT58 := ⟨[0, 5], [], qs37, [], fun v w => some (v.1, v.2.1)⟩
def L_n9_j5 (rec_ : Tr_n9_1) : Lp U qT58 := ⟨[0, 1, 5], [], qs28, [], fun v w => sr01_gcd_j5 rec_ v.1 v.2.1 v.2.2.1⟩
theorem L_n9_j5_ok {RT : Ret} {r : qT58} {rec_ : Tr_n9_1} (hb : LpOk F_n9 RT r (Lh_n9_l2 rec_) base_n9_l2) (hx : AllExits F_n9 RT r base_n9_l2 [(2, Lx_n9_l2)]) (hr : qH (fun _ => none) r RT) : LpOk F_n9 RT r (L_n9_j5 rec_) (stAt F_n9 [1, 1, 1, 4, 1, 5, 4, 0, 1, 1, 1]) := fun v w hi h => Pt.evlAt F_n9_ok (r := r) 4000 (cuts := []) (back := (some (Lh_n9_l2 rec_))) (exits := [(2, Lx_n9_l2)]) (ret := (fun _ => none)) (base := base_n9_l2) (pre := [tc F_n9 [1, 1, 1, 4, 1, 5, 4, 0, 1, 1, 1], .blk 3]) (T := Lp.st F_n9 (L_n9_j5 rec_) v w) (by kernel_rfl) hi (Eq.trans (by kernel_rfl) h) ⟨by kernel_rfl, trivial⟩ trivial (fun L hL => by cases hL; exact hb) (fun hn => nomatch hn) hx hr
def L_n9_k4 (rec_ : Tr_n9_1) : Lp U qT58 := ⟨[0, 1, 5], [], qs28, [], fun v w => sr01_gcd_k4 rec_ v.1 v.2.1 v.2.2.1⟩
theorem L_n9_k4_ok {RT : Ret} {r : qT58} {rec_ : Tr_n9_1} (hb : LpOk F_n9 RT r (Lh_n9_l2 rec_) base_n9_l2) (hx : AllExits F_n9 RT r base_n9_l2 [(2, Lx_n9_l2)]) (hr : qH (fun _ => none) r RT) : LpOk F_n9 RT r (L_n9_k4 rec_) ([tc F_n9 [1, 1, 4, 1, 5, 4, 0, 1, 1, 1], .blk 3].map TI'.conc ++ base_n9_l2) := fun v w hi h => Pt.evlAt F_n9_ok (r := r) 4000 (cuts := [([1, 1, 1, 4, 1, 5, 4, 0, 1, 1, 1], (L_n9_j5 rec_))]) (back := (some (Lh_n9_l2 rec_))) (exits := [(2, Lx_n9_l2)]) (ret := (fun _ => none)) (base := base_n9_l2) (pre := [tc F_n9 [1, 1, 4, 1, 5, 4, 0, 1, 1, 1], .blk 3]) (T := Lp.st F_n9 (L_n9_k4 rec_) v w) (by kernel_rfl) hi (Eq.trans (by kernel_rfl) h) ⟨by kernel_rfl, trivial⟩ ⟨(L_n9_j5_ok hb hx hr), trivial⟩ (fun L hL => by cases hL; exact hb) (fun hn => nomatch hn) hx hr
def base_n9_l4 : List Eng.Item := .lp (codeAt F_n9 [5, 4, 0, 1, 4, 1, 5, 4, 0, 1, 1, 1]) :: ([.blk 6, tc F_n9 [1, 1, 4, 1, 5, 4, 0, 1, 1, 1], .blk 3].map TI'.conc ++ base_n9_l2)
def Lh_n9_l4 (rec_ : Tr_n9_0) : Lp U qT54 := ⟨[0, 1, 5], [], qs28, [], fun v w => rec_ v.1 v.2.1 v.2.2.1⟩
def Lx_n9_l4 : Lp U qT54 := ⟨[0, 1, 5], [], qs28, [], fun v w => some (v.1, v.2.1, v.2.2.1)⟩
theorem sr01_gcd_l4_ok {RT : Ret} {r : qT54} (hx : AllExits F_n9 RT r base_n9_l4 [(6, Lx_n9_l4)]) (hr : qH (fun _ => none) r RT) : ∀ n, LpOk F_n9 RT r (Lh_n9_l4 (sr01_gcd_l4 n)) (stAt F_n9 [4, 0, 1, 4, 1, 5, 4, 0, 1, 1, 1]) :=
  loop_ok F_n9_ok 4000 (q := [4, 0, 1, 4, 1, 5, 4, 0, 1, 1, 1]) (body := codeAt F_n9 [5, 4, 0, 1, 4, 1, 5, 4, 0, 1, 1, 1]) (live := [0, 1, 5]) (frz := []) (shs := qs28) (sho := []) (fun n v w => sr01_gcd_l4 n v.1 v.2.1 v.2.2.1) (cuts := fun n => []) (exits := [(6, Lx_n9_l4)]) (ret := (fun _ => none)) (by kernel_rfl) (fun _ _ => rfl) (fun n v w => by kernel_rfl) (fun n hb => trivial) hx hr
def Lc_n9_l4 (rec_ : Tr_n9_1) : Lp U qT58 := ⟨[0, 1, 5], [], qs28, [], fun v w => (sr01_gcd_l4 big v.1 v.2.1 v.2.2.1).bind fun (x0, x1, x2) => sr01_gcd_k4 rec_ x0 x1 x2⟩
theorem Lc_n9_l4_ok {RT : Ret} {r : qT58} {rec_ : Tr_n9_1} (hb : LpOk F_n9 RT r (Lh_n9_l2 rec_) base_n9_l2) (hx : AllExits F_n9 RT r base_n9_l2 [(2, Lx_n9_l2)]) (hr : qH (fun _ => none) r RT) : LpOk F_n9 RT r (Lc_n9_l4 rec_) (stAt F_n9 [4, 0, 1, 4, 1, 5, 4, 0, 1, 1, 1]) := fun v w hi h0 => by
  obtain ⟨x, hx0, h⟩ := bind_some h0
  exact sr01_gcd_l4_ok (r := x) (RT := RT) ⟨⟨[tc F_n9 [1, 1, 4, 1, 5, 4, 0, 1, 1, 1], .blk 3].map TI'.conc ++ base_n9_l2, by kernel_rfl, fun v' w' hi' h' => by obtain rfl := Option.some.inj h'; exact L_n9_k4_ok hb hx hr v' w' hi' h⟩, trivial⟩ (fun _ ht => nomatch ht) big v w hi hx0
def L_n9_k3 (rec_ : Tr_n9_1) : Lp U qT58 := ⟨[0, 1, 5], [], qs28, [], fun v w => sr01_gcd_k3 rec_ v.1 v.2.1 v.2.2.1⟩
theorem L_n9_k3_ok {RT : Ret} {r : qT58} {rec_ : Tr_n9_1} (hb : LpOk F_n9 RT r (Lh_n9_l2 rec_) base_n9_l2) (hx : AllExits F_n9 RT r base_n9_l2 [(2, Lx_n9_l2)]) (hr : qH (fun _ => none) r RT) : LpOk F_n9 RT r (L_n9_k3 rec_) ([tc F_n9 [1, 4, 1, 5, 4, 0, 1, 1, 1], .blk 3].map TI'.conc ++ base_n9_l2) := fun v w hi h => Pt.evlAt F_n9_ok (r := r) 4000 (cuts := [([4, 0, 1, 4, 1, 5, 4, 0, 1, 1, 1], (Lc_n9_l4 rec_))]) (back := (some (Lh_n9_l2 rec_))) (exits := [(2, Lx_n9_l2)]) (ret := (fun _ => none)) (base := base_n9_l2) (pre := [tc F_n9 [1, 4, 1, 5, 4, 0, 1, 1, 1], .blk 3]) (T := Lp.st F_n9 (L_n9_k3 rec_) v w) (by kernel_rfl) hi (Eq.trans (by kernel_rfl) h) ⟨by kernel_rfl, trivial⟩ ⟨(Lc_n9_l4_ok hb hx hr), trivial⟩ (fun L hL => by cases hL; exact hb) (fun hn => nomatch hn) hx hr
def base_n9_l3 : List Eng.Item := .lp (codeAt F_n9 [5, 4, 0, 4, 1, 5, 4, 0, 1, 1, 1]) :: ([.blk 4, tc F_n9 [1, 4, 1, 5, 4, 0, 1, 1, 1], .blk 3].map TI'.conc ++ base_n9_l2)
def Lh_n9_l3 (rec_ : Tr_n9_0) : Lp U qT54 := ⟨[0, 1, 5], [], qs28, [], fun v w => rec_ v.1 v.2.1 v.2.2.1⟩
def Lx_n9_l3 : Lp U qT54 := ⟨[0, 1, 5], [], qs28, [], fun v w => some (v.1, v.2.1, v.2.2.1)⟩
theorem sr01_gcd_l3_ok {RT : Ret} {r : qT54} (hx : AllExits F_n9 RT r base_n9_l3 [(4, Lx_n9_l3)]) (hr : qH (fun _ => none) r RT) : ∀ n, LpOk F_n9 RT r (Lh_n9_l3 (sr01_gcd_l3 n)) (stAt F_n9 [4, 0, 4, 1, 5, 4, 0, 1, 1, 1]) :=
  loop_ok F_n9_ok 4000 (q := [4, 0, 4, 1, 5, 4, 0, 1, 1, 1]) (body := codeAt F_n9 [5, 4, 0, 4, 1, 5, 4, 0, 1, 1, 1]) (live := [0, 1, 5]) (frz := []) (shs := qs28) (sho := []) (fun n v w => sr01_gcd_l3 n v.1 v.2.1 v.2.2.1) (cuts := fun n => []) (exits := [(4, Lx_n9_l3)]) (ret := (fun _ => none)) (by kernel_rfl) (fun _ _ => rfl) (fun n v w => by kernel_rfl) (fun n hb => trivial) hx hr
def Lc_n9_l3 (rec_ : Tr_n9_1) : Lp U qT58 := ⟨[0, 1, 5], [], qs28, [], fun v w => (sr01_gcd_l3 big v.1 v.2.1 v.2.2.1).bind fun (x0, x1, x2) => sr01_gcd_k3 rec_ x0 x1 x2⟩
theorem Lc_n9_l3_ok {RT : Ret} {r : qT58} {rec_ : Tr_n9_1} (hb : LpOk F_n9 RT r (Lh_n9_l2 rec_) base_n9_l2) (hx : AllExits F_n9 RT r base_n9_l2 [(2, Lx_n9_l2)]) (hr : qH (fun _ => none) r RT) : LpOk F_n9 RT r (Lc_n9_l3 rec_) (stAt F_n9 [4, 0, 4, 1, 5, 4, 0, 1, 1, 1]) := fun v w hi h0 => by
  obtain ⟨x, hx0, h⟩ := bind_some h0
  exact sr01_gcd_l3_ok (r := x) (RT := RT) ⟨⟨[tc F_n9 [1, 4, 1, 5, 4, 0, 1, 1, 1], .blk 3].map TI'.conc ++ base_n9_l2, by kernel_rfl, fun v' w' hi' h' => by obtain rfl := Option.some.inj h'; exact L_n9_k3_ok hb hx hr v' w' hi' h⟩, trivial⟩ (fun _ ht => nomatch ht) big v w hi hx0
theorem sr01_gcd_l2_ok {RT : Ret} {r : qT58} (hx : AllExits F_n9 RT r base_n9_l2 [(2, Lx_n9_l2)]) (hr : qH (fun _ => none) r RT) : ∀ n, LpOk F_n9 RT r (Lh_n9_l2 (sr01_gcd_l2 n)) (stAt F_n9 [4, 0, 1, 1, 1]) :=
  loop_ok F_n9_ok 4000 (q := [4, 0, 1, 1, 1]) (body := codeAt F_n9 [5, 4, 0, 1, 1, 1]) (live := [0, 1, 5]) (frz := []) (shs := qs28) (sho := []) (fun n v w => sr01_gcd_l2 n v.1 v.2.1 v.2.2.1) (cuts := fun n => [([4, 0, 4, 1, 5, 4, 0, 1, 1, 1], Lc_n9_l3 (sr01_gcd_l2 n))]) (exits := [(2, Lx_n9_l2)]) (ret := (fun _ => none)) (by kernel_rfl) (fun _ _ => rfl) (fun n v w => by kernel_rfl) (fun n hb => ⟨Lc_n9_l3_ok hb hx hr, trivial⟩) hx hr
def Lc_n9_l2 : Lp U qL0 := ⟨[0, 1, 5], [], qs28, [], fun v w => (sr01_gcd_l2 big v.1 v.2.1 v.2.2.1).bind fun (x0, x1) => sr01_gcd_k6 x0 x1⟩
theorem Lc_n9_l2_ok (r : qL0) : LpOk F_n9 (b_n9 r).enc r (Lc_n9_l2) (stAt F_n9 [4, 0, 1, 1, 1]) := fun v w hi h0 => by
  obtain ⟨x, hx0, h⟩ := bind_some h0
  exact sr01_gcd_l2_ok (r := x) (RT := (b_n9 r).enc) ⟨⟨[tc F_n9 [1, 1, 1, 1]].map TI'.conc ++ [], by kernel_rfl, fun v' w' hi' h' => by obtain rfl := Option.some.inj h'; exact L_n9_k6_ok r v' w' hi' h⟩, trivial⟩ (fun _ ht => nomatch ht) big v w hi hx0
def L_n9_k2 : Lp U qL0 := ⟨[0, 1, 5], [], qs28, [], fun v w => sr01_gcd_k2 v.1 v.2.1 v.2.2.1⟩
theorem L_n9_k2_ok (r : qL0) : LpOk F_n9 (b_n9 r).enc r (L_n9_k2) ([tc F_n9 [1, 1, 1]].map TI'.conc ++ []) := fun v w hi h => Pt.ev0 F_n9_ok (S := R_n9) (g := g_n9) (b := b_n9) (cuts := [([4, 0, 1, 1, 1], Lc_n9_l2)]) (pre := [tc F_n9 [1, 1, 1]]) (T := Lp.st F_n9 (L_n9_k2) v w) (by kernel_rfl) hi (Eq.trans (by kernel_rfl) h) ⟨by kernel_rfl, trivial⟩ ⟨(Lc_n9_l2_ok r), trivial⟩ fun _ => rfl
def base_n9_l1 : List Eng.Item := .lp (codeAt F_n9 [5, 4, 0, 1, 1]) :: ([.blk 0, tc F_n9 [1, 1, 1]].map TI'.conc ++ [])
def Lh_n9_l1 (rec_ : Tr_n9_0) : Lp U qT54 := ⟨[0, 1, 5], [], qs28, [], fun v w => rec_ v.1 v.2.1 v.2.2.1⟩
def Lx_n9_l1 : Lp U qT54 := ⟨[0, 1, 5], [], qs28, [], fun v w => some (v.1, v.2.1, v.2.2.1)⟩
def L_n9_j1 (rec_ : Tr_n9_0) : Lp U qT54 := ⟨[0, 1, 5, 17], [], [.o (.v (.sl (.int .u32))), .o (.v (.sl (.int .u32))), qi, .o (.v .bool)], [], fun v w => sr01_gcd_j1 rec_ v.1 v.2.1 v.2.2.1 v.2.2.2.1⟩
theorem L_n9_j1_ok {RT : Ret} {r : qT54} {rec_ : Tr_n9_0} (hb : LpOk F_n9 RT r (Lh_n9_l1 rec_) base_n9_l1) (hx : AllExits F_n9 RT r base_n9_l1 [(0, Lx_n9_l1)]) (hr : qH (fun _ => none) r RT) : LpOk F_n9 RT r (L_n9_j1 rec_) (stAt F_n9 [1, 0, 5, 4, 0, 1, 1]) := fun v w hi h => Pt.evlAt F_n9_ok (r := r) 4000 (cuts := []) (back := (some (Lh_n9_l1 rec_))) (exits := [(0, Lx_n9_l1)]) (ret := (fun _ => none)) (base := base_n9_l1) (pre := [tc F_n9 [1, 0, 5, 4, 0, 1, 1], tc F_n9 [1, 5, 4, 0, 1, 1]]) (T := Lp.st F_n9 (L_n9_j1 rec_) v w) (by kernel_rfl) hi (Eq.trans (by kernel_rfl) h) ⟨by kernel_rfl, by kernel_rfl, trivial⟩ trivial (fun L hL => by cases hL; exact hb) (fun hn => nomatch hn) hx hr
theorem sr01_gcd_l1_ok {RT : Ret} {r : qT54} (hx : AllExits F_n9 RT r base_n9_l1 [(0, Lx_n9_l1)]) (hr : qH (fun _ => none) r RT) : ∀ n, LpOk F_n9 RT r (Lh_n9_l1 (sr01_gcd_l1 n)) (stAt F_n9 [4, 0, 1, 1]) :=
  loop_ok F_n9_ok 4000 (q := [4, 0, 1, 1]) (body := codeAt F_n9 [5, 4, 0, 1, 1]) (live := [0, 1, 5]) (frz := []) (shs := qs28) (sho := []) (fun n v w => sr01_gcd_l1 n v.1 v.2.1 v.2.2.1) (cuts := fun n => [([1, 0, 5, 4, 0, 1, 1], L_n9_j1 (sr01_gcd_l1 n))]) (exits := [(0, Lx_n9_l1)]) (ret := (fun _ => none)) (by kernel_rfl) (fun _ _ => rfl) (fun n v w => by kernel_rfl) (fun n hb => ⟨L_n9_j1_ok hb hx hr, trivial⟩) hx hr
def Lc_n9_l1 : Lp U qL0 := ⟨[0, 1, 5], [], qs28, [], fun v w => (sr01_gcd_l1 big v.1 v.2.1 v.2.2.1).bind fun (x0, x1, x2) => sr01_gcd_k2 x0 x1 x2⟩
theorem Lc_n9_l1_ok (r : qL0) : LpOk F_n9 (b_n9 r).enc r (Lc_n9_l1) (stAt F_n9 [4, 0, 1, 1]) := fun v w hi h0 => by
  obtain ⟨x, hx0, h⟩ := bind_some h0
  exact sr01_gcd_l1_ok (r := x) (RT := (b_n9 r).enc) ⟨⟨[tc F_n9 [1, 1, 1]].map TI'.conc ++ [], by kernel_rfl, fun v' w' hi' h' => by obtain rfl := Option.some.inj h'; exact L_n9_k2_ok r v' w' hi' h⟩, trivial⟩ (fun _ ht => nomatch ht) big v w hi hx0
def S_sr01_gcd : FSig U := ⟨qL0, [56, 56], [.p, .p], [none, none], [.p (.sl (.int .u32)), .p (.sl (.int .u32))], fun v => sr01_gcd v.1 v.2.1, b_n9⟩
theorem S_sr01_gcd_ok : SigOk X0.E 136 S_sr01_gcd.sig := FSig.ok0 F_n9_ok (R := R_n9) (g := g_n9) (cuts := [([4, 0, 1, 1], Lc_n9_l1)]) (pre := [tc0 F_n9]) rfl Tryd.func136 (by decide) rfl (fun _ => Nat.le_of_ble_eq_true (by kernel_rfl)) (fun _ => rfl) (by kernel_rfl) (fun _ _ h => Eq.trans (by kernel_rfl) h) ⟨rfl, trivial⟩ (fun r => ⟨(Lc_n9_l1_ok r), trivial⟩) fun _ => rfl

/-! ### tablefinder/tablefinderref01.bit -/
def c_n10 : Code := bodyOf Tryd.f205
def F_n10 : FC U := ⟨X0.at 15, Tryd.f205, c_n10, [], [], [.p], [none]⟩
theorem F_n10_ok : FOk F_n10 := fok uok tok0 eok0 mixed rfl trivial
def R_n10 : RSh := ⟨[.p (.int .u32)], []⟩
def g_n10 (v : RVal U R_n10) : Int := v.1.1
def b_n10 (q : Int) : TRet U := R_n10.bld ((q, ()), ())
def S_sr01_bit : FSig U := ⟨Int, [56, 3], [.p, .p], [none, none], [.p (.sl (.int .u32)), .p (.int .i64)], fun v => sr01_bit v.1 v.2.1, b_n10⟩
theorem S_sr01_bit_ok : SigOk X0.E 205 S_sr01_bit.sig := FSig.ok0 F_n10_ok (R := R_n10) (g := g_n10) (cuts := []) (pre := [tc0 F_n10]) rfl Tryd.func205 (by decide) rfl (fun _ => Nat.le_of_ble_eq_true (by kernel_rfl)) (fun _ => rfl) (by kernel_rfl) (fun _ _ h => Eq.trans (by kernel_rfl) h) ⟨rfl, trivial⟩ (fun r => trivial) fun _ => rfl

abbrev Tr_n11_0 : Type := qL0 → qL0 → qL0 → Int → qL0 → Option qT55
/-! ### tablefinder/tablefinderref01.div -/
def c_n11 : Code := bodyOf Tryd.f183
def F_n11 : FC U := ⟨X0.at 44, Tryd.f183, c_n11, [(205, S_sr01_bit.sig), (174, S_sr01_twice.sig), (135, S_sr01_cmp.sig), (139, S_sr01_sub.sig), (175, S_sr01_trim.sig)], [], [.p, .p], [none, none]⟩
theorem F_n11_ok : FOk F_n11 := fok uok tok0 eok0 mixed rfl ⟨S_sr01_bit_ok, S_sr01_twice_ok, S_sr01_cmp_ok, S_sr01_sub_ok, S_sr01_trim_ok, trivial⟩
def R_n11 : RSh := ⟨[.p (.sl (.int .u32)), .p (.sl (.int .u32))], []⟩
def g_n11 (v : RVal U R_n11) : qT55 := (v.1.1, v.1.2.1)
def b_n11 (q : qT55) : TRet U := R_n11.bld ((q.1, (q.2, ())), ())
def L_n11_k2 : Lp U qT55 := ⟨[4, 5], [], qs36, [.arr (.int .u32) false], fun v w => sr01_div_k2 v.2.1 w.1⟩
theorem L_n11_k2_ok (r : qT55) : LpOk F_n11 (b_n11 r).enc r (L_n11_k2) ([tc F_n11 [1, 1, 1]].map TI'.conc ++ []) := fun v w hi h => Pt.ev0 F_n11_ok (S := R_n11) (g := g_n11) (b := b_n11) (cuts := []) (pre := [tc F_n11 [1, 1, 1]]) (T := Lp.st F_n11 (L_n11_k2) v w) (by kernel_rfl) hi (Eq.trans (by kernel_rfl) h) ⟨by kernel_rfl, trivial⟩ trivial fun _ => rfl
def base_n11_l1 : List Eng.Item := .lp (codeAt F_n11 [5, 4, 1, 0, 1, 1]) :: ([.blk 0, tc F_n11 [1, 1, 1]].map TI'.conc ++ [])
def Lh_n11_l1 (rec_ : Tr_n11_0) : Lp U qT55 := ⟨[0, 1, 4, 5, 6], [5], qs11, [.arr (.int .u32) false], fun v w => rec_ v.1 v.2.1 v.2.2.2.1 v.2.2.2.2.1 w.1⟩
def Lx_n11_l1 : Lp U qT55 := ⟨[4, 5], [], qs36, [.arr (.int .u32) false], fun v w => some (v.2.1, w.1)⟩
def L_n11_j1 (rec_ : Tr_n11_0) : Lp U qT55 := ⟨[0, 1, 4, 5, 6], [], qs11, [.arr (.int .u32) false], fun v w => sr01_div_j1 rec_ v.1 v.2.1 v.2.2.2.1 v.2.2.2.2.1 w.1⟩
theorem L_n11_j1_ok {RT : Ret} {r : qT55} {rec_ : Tr_n11_0} (hb : LpOk F_n11 RT r (Lh_n11_l1 rec_) base_n11_l1) (hx : AllExits F_n11 RT r base_n11_l1 [(0, Lx_n11_l1)]) (hr : qH (fun _ => none) r RT) : LpOk F_n11 RT r (L_n11_j1 rec_) (stAt F_n11 [1, 1, 5, 4, 1, 0, 1, 1]) := fun v w hi h => Pt.evlAt F_n11_ok (r := r) 4000 (cuts := []) (back := (some (Lh_n11_l1 rec_))) (exits := [(0, Lx_n11_l1)]) (ret := (fun _ => none)) (base := base_n11_l1) (pre := [tc F_n11 [1, 1, 5, 4, 1, 0, 1, 1]]) (T := Lp.st F_n11 (L_n11_j1 rec_) v w) (by kernel_rfl) hi (Eq.trans (by kernel_rfl) h) ⟨by kernel_rfl, trivial⟩ trivial (fun L hL => by cases hL; exact hb) (fun hn => nomatch hn) hx hr
theorem sr01_div_l1_ok {RT : Ret} {r : qT55} (hx : AllExits F_n11 RT r base_n11_l1 [(0, Lx_n11_l1)]) (hr : qH (fun _ => none) r RT) : ∀ n, LpOk F_n11 RT r (Lh_n11_l1 (sr01_div_l1 n)) (stAt F_n11 [4, 1, 0, 1, 1]) :=
  loop_ok F_n11_ok 4000 (q := [4, 1, 0, 1, 1]) (body := codeAt F_n11 [5, 4, 1, 0, 1, 1]) (live := [0, 1, 4, 5, 6]) (frz := [5]) (shs := qs11) (sho := [.arr (.int .u32) false]) (fun n v w => sr01_div_l1 n v.1 v.2.1 v.2.2.2.1 v.2.2.2.2.1 w.1) (cuts := fun n => [([1, 1, 5, 4, 1, 0, 1, 1], L_n11_j1 (sr01_div_l1 n))]) (exits := [(0, Lx_n11_l1)]) (ret := (fun _ => none)) (by kernel_rfl) (fun _ _ => rfl) (fun n v w => by kernel_rfl) (fun n hb => ⟨L_n11_j1_ok hb hx hr, trivial⟩) hx hr
def Lc_n11_l1 : Lp U qT55 := ⟨[0, 1, 4, 5, 6], [5], qs11, [.arr (.int .u32) false], fun v w => (sr01_div_l1 big v.1 v.2.1 v.2.2.2.1 v.2.2.2.2.1 w.1).bind fun (x0, x1) => sr01_div_k2 x0 x1⟩
theorem Lc_n11_l1_ok (r : qT55) : LpOk F_n11 (b_n11 r).enc r (Lc_n11_l1) (stAt F_n11 [4, 1, 0, 1, 1]) := fun v w hi h0 => by
  obtain ⟨x, hx0, h⟩ := bind_some h0
  exact sr01_div_l1_ok (r := x) (RT := (b_n11 r).enc) ⟨⟨[tc F_n11 [1, 1, 1]].map TI'.conc ++ [], by kernel_rfl, fun v' w' hi' h' => by obtain rfl := Option.some.inj h'; exact L_n11_k2_ok r v' w' hi' h⟩, trivial⟩ (fun _ ht => nomatch ht) big v w hi hx0
def S_sr01_div : FSig U := ⟨qT55, [56, 56], [.p, .p], [none, none], [.p (.sl (.int .u32)), .p (.sl (.int .u32))], fun v => sr01_div v.1 v.2.1, b_n11⟩
theorem S_sr01_div_ok : SigOk X0.E 183 S_sr01_div.sig := FSig.ok0 F_n11_ok (R := R_n11) (g := g_n11) (cuts := [([4, 1, 0, 1, 1], Lc_n11_l1)]) (pre := [tc0 F_n11]) rfl Tryd.func183 (by decide) rfl (fun _ => Nat.le_of_ble_eq_true (by kernel_rfl)) (fun _ => rfl) (by kernel_rfl) (fun _ _ h => Eq.trans (by kernel_rfl) h) ⟨rfl, trivial⟩ (fun r => ⟨(Lc_n11_l1_ok r), trivial⟩) fun _ => rfl

/-! ### tablefinder/tablefinderref01.lowest -/
def c_n12 : Code := bodyOf Tryd.f160
def F_n12 : FC U := ⟨X0.at 45, Tryd.f160, c_n12, [(162, S_sr01_FromInt.sig), (136, S_sr01_gcd.sig), (183, S_sr01_div.sig), (137, S_sr01_big.sig)], [], [.p], [some 1]⟩
theorem F_n12_ok : FOk F_n12 := fok uok tok0 eok0 mixed rfl ⟨S_sr01_FromInt_ok, S_sr01_gcd_ok, S_sr01_div_ok, S_sr01_big_ok, trivial⟩
def R_n12 : RSh := ⟨[.p (.st 1)], []⟩
def g_n12 (v : RVal U R_n12) : GaFraction := v.1.1
def b_n12 (q : GaFraction) : TRet U := R_n12.bld ((q, ()), ())
def S_sr01_lowest : FSig U := ⟨GaFraction, [58, 58], [.p, .p], [some 0, some 0], [.p (.st 0), .p (.st 0)], fun v => sr01_lowest v.1 v.2.1, b_n12⟩
theorem S_sr01_lowest_ok : SigOk X0.E 160 S_sr01_lowest.sig := FSig.ok0 F_n12_ok (R := R_n12) (g := g_n12) (cuts := []) (pre := [tc0 F_n12]) rfl Tryd.func160 (by decide) rfl (fun _ => Nat.le_of_ble_eq_true (by kernel_rfl)) (fun _ => rfl) (by kernel_rfl) (fun _ _ h => Eq.trans (by kernel_rfl) h) ⟨rfl, trivial⟩ (fun r => trivial) fun _ => rfl

/-! ### tablefinder/tablefinderref01.Make -/
def c_n13 : Code := bodyOf Tryd.f161
def F_n13 : FC U := ⟨X0.at 23, Tryd.f161, c_n13, [(134, S_sr01_ValidBig.sig), (160, S_sr01_lowest.sig)], [], [.p, .p], [some 1, none]⟩
theorem F_n13_ok : FOk F_n13 := fok uok tok0 eok0 mixed rfl ⟨S_sr01_ValidBig_ok, S_sr01_lowest_ok, trivial⟩
def R_n13 : RSh := ⟨[.p (.st 1), .p (.int .i64)], []⟩
def g_n13 (v : RVal U R_n13) : qT59 := (v.1.1, v.1.2.1)
def b_n13 (q : qT59) : TRet U := R_n13.bld ((q.1, (q.2, ())), ())
def L_n13_j1 : Lp U qT59 := ⟨[2, 3, 4, 13], [], qs24, [.boxS (.st 0), .boxS (.st 0), .box [.o (.v .bool), .o (.full (0, 4, 1)), .o (.v .bool), .o (.full (0, 5, 1))], .arr (.int .u32) false, .arr (.int .u32) false], fun v w => sr01_Make_j1 v.2.2.2.1 w.1 w.2.1 w.2.2.1.1 w.2.2.1.2.2.1 w.2.2.2.1 w.2.2.2.2.1⟩
theorem L_n13_j1_ok (r : qT59) : LpOk F_n13 (b_n13 r).enc r (L_n13_j1) (stAt F_n13 [1, 0, 1]) := fun v w hi h => Pt.ev0 F_n13_ok (S := R_n13) (g := g_n13) (b := b_n13) (cuts := []) (pre := [tc F_n13 [1, 0, 1], tc F_n13 [1, 1]]) (T := Lp.st F_n13 (L_n13_j1) v w) (by kernel_rfl) hi (Eq.trans (by kernel_rfl) h) ⟨by kernel_rfl, by kernel_rfl, trivial⟩ trivial fun _ => rfl
def S_sr01_Make : FSig U := ⟨qT59, [58, 58], [.p, .p], [some 0, some 0], [.p (.st 0), .p (.st 0)], fun v => sr01_Make v.1 v.2.1, b_n13⟩
theorem S_sr01_Make_ok : SigOk X0.E 161 S_sr01_Make.sig := FSig.ok0 F_n13_ok (R := R_n13) (g := g_n13) (cuts := [([1, 0, 1], L_n13_j1)]) (pre := [tc0 F_n13]) rfl Tryd.func161 (by decide) rfl (fun _ => Nat.le_of_ble_eq_true (by kernel_rfl)) (fun _ => rfl) (by kernel_rfl) (fun _ _ h => Eq.trans (by kernel_rfl) h) ⟨rfl, trivial⟩ (fun r => ⟨(L_n13_j1_ok r), trivial⟩) fun _ => rfl

/-! ### tablefinder/tablefinderref01.Of -/
def c_n14 : Code := bodyOf Tryd.f127
def F_n14 : FC U := ⟨X0.at 13, Tryd.f127, c_n14, [(162, S_sr01_FromInt.sig), (161, S_sr01_Make.sig)], [], [.p, .p], [some 1, none]⟩
theorem F_n14_ok : FOk F_n14 := fok uok tok0 eok0 mixed rfl ⟨S_sr01_FromInt_ok, S_sr01_Make_ok, trivial⟩
def R_n14 : RSh := ⟨[.p (.st 1), .p (.int .i64)], []⟩
def g_n14 (v : RVal U R_n14) : qT59 := (v.1.1, v.1.2.1)
def b_n14 (q : qT59) : TRet U := R_n14.bld ((q.1, (q.2, ())), ())
def S_sr01_Of : FSig U := ⟨qT59, [3, 3], [.p, .p], [none, none], [.p (.int .i64), .p (.int .i64)], fun v => sr01_Of v.1 v.2.1, b_n14⟩
theorem S_sr01_Of_ok : SigOk X0.E 127 S_sr01_Of.sig := FSig.ok0 F_n14_ok (R := R_n14) (g := g_n14) (cuts := []) (pre := [tc0 F_n14]) rfl Tryd.func127 (by decide) rfl (fun _ => Nat.le_of_ble_eq_true (by kernel_rfl)) (fun _ => rfl) (by kernel_rfl) (fun _ _ h => Eq.trans (by kernel_rfl) h) ⟨rfl, trivial⟩ (fun r => trivial) fun _ => rfl

/-! ### tablefinder/tablefinderref23.Part -/
def c_n15 : Code := bodyOf Tryd.f84
def F_n15 : FC U := ⟨X0.at 14, Tryd.f84, c_n15, [(127, S_sr01_Of.sig)], [], [.p], [some 1]⟩
theorem F_n15_ok : FOk F_n15 := fok uok tok0 eok0 mixed rfl ⟨S_sr01_Of_ok, trivial⟩
def R_n15 : RSh := ⟨[.p (.st 1)], []⟩
def g_n15 (v : RVal U R_n15) : GaFraction := v.1.1
def b_n15 (q : GaFraction) : TRet U := R_n15.bld ((q, ()), ())
def S_sr23_Part : FSig U := ⟨GaFraction, [3, 3], [.p, .p], [none, none], [.p (.int .i64), .p (.int .i64)], fun v => sr23_Part v.1 v.2.1, b_n15⟩
theorem S_sr23_Part_ok : SigOk X0.E 84 S_sr23_Part.sig := FSig.ok0 F_n15_ok (R := R_n15) (g := g_n15) (cuts := []) (pre := [tc0 F_n15]) rfl Tryd.func84 (by decide) rfl (fun _ => Nat.le_of_ble_eq_true (by kernel_rfl)) (fun _ => rfl) (by kernel_rfl) (fun _ _ h => Eq.trans (by kernel_rfl) h) ⟨rfl, trivial⟩ (fun r => trivial) fun _ => rfl

/-! ### tablefinder/tablefinderref23.Int -/
def c_n16 : Code := bodyOf Tryd.f31
def F_n16 : FC U := ⟨X0.at 5, Tryd.f31, c_n16, [(84, S_sr23_Part.sig)], [], [.p], [some 1]⟩
theorem F_n16_ok : FOk F_n16 := fok uok tok0 eok0 mixed rfl ⟨S_sr23_Part_ok, trivial⟩
def R_n16 : RSh := ⟨[.p (.st 1)], []⟩
def g_n16 (v : RVal U R_n16) : GaFraction := v.1.1
def b_n16 (q : GaFraction) : TRet U := R_n16.bld ((q, ()), ())
def S_sr23_Int : FSig U := ⟨GaFraction, [3], [.p], [none], [.p (.int .i64)], fun v => sr23_Int v.1, b_n16⟩
theorem S_sr23_Int_ok : SigOk X0.E 31 S_sr23_Int.sig := FSig.ok0 F_n16_ok (R := R_n16) (g := g_n16) (cuts := []) (pre := [tc0 F_n16]) rfl Tryd.func31 (by decide) rfl (fun _ => Nat.le_of_ble_eq_true (by kernel_rfl)) (fun _ => rfl) (by kernel_rfl) (fun _ _ h => Eq.trans (by kernel_rfl) h) ⟨rfl, trivial⟩ (fun r => trivial) fun _ => rfl

/-! ### tablefinder/tablefinderlaw25.line -/
def c_n17 : Code := bodyOf Tryd.f80
def F_n17 : FC U := ⟨X0.at 11, Tryd.f80, c_n17, [(31, S_sr23_Int.sig)], [], [.own], [none]⟩
theorem F_n17_ok : FOk F_n17 := fok uok tok0 eok0 mixed rfl ⟨S_sr23_Int_ok, trivial⟩
def R_n17 : RSh := ⟨[.own (.st 2)], []⟩
def g_n17 (v : RVal U R_n17) : qL1 := v.1.1
def b_n17 (q : qL1) : TRet U := R_n17.bld ((q, ()), ())
def S_sl25_line : FSig U := ⟨qL1, [], [], [], [], fun v => sl25_line, b_n17⟩
theorem S_sl25_line_ok : SigOk X0.E 80 S_sl25_line.sig := FSig.ok0 F_n17_ok (R := R_n17) (g := g_n17) (cuts := []) (pre := [tc0 F_n17]) rfl Tryd.func80 (by decide) rfl (fun _ => Nat.le_of_ble_eq_true (by kernel_rfl)) (fun _ => rfl) (by kernel_rfl) (fun _ _ h => Eq.trans (by kernel_rfl) h) ⟨rfl, trivial⟩ (fun r => trivial) fun _ => rfl

/-! ### tablefinder/fraction.trimmed -/
def c_n18 : Code := bodyOf Tryd.f211
def F_n18 : FC U := ⟨X0.at 21, Tryd.f211, c_n18, [], [], [.p], [none]⟩
theorem F_n18_ok : FOk F_n18 := fok uok tok0 eok0 mixed rfl trivial
def R_n18 : RSh := ⟨[.p (.sl (.int .u32))], []⟩
def g_n18 (v : RVal U R_n18) : qL0 := v.1.1
def b_n18 (q : qL0) : TRet U := R_n18.bld ((q, ()), ())
def L_n18_k2 : Lp U qL0 := ⟨[0], [], qs43, [], fun v w => s_fraction_trimmed_k2 v.1⟩
theorem L_n18_k2_ok (r : qL0) : LpOk F_n18 (b_n18 r).enc r (L_n18_k2) ([tc F_n18 [1, 1]].map TI'.conc ++ []) := fun v w hi h => Pt.ev0 F_n18_ok (S := R_n18) (g := g_n18) (b := b_n18) (cuts := []) (pre := [tc F_n18 [1, 1]]) (T := Lp.st F_n18 (L_n18_k2) v w) (by kernel_rfl) hi (Eq.trans (by kernel_rfl) h) ⟨by kernel_rfl, trivial⟩ trivial fun _ => rfl
def base_n18_l1 : List Eng.Item := .lp (codeAt F_n18 [5, 4, 0, 1]) :: ([.blk 0, tc F_n18 [1, 1]].map TI'.conc ++ [])
def Lh_n18_l1 (rec_ : qL0 → Option qL0) : Lp U qL0 := ⟨[0], [], qs43, [], fun v w => rec_ v.1⟩
def Lx_n18_l1 : Lp U qL0 := ⟨[0], [], qs43, [], fun v w => some v.1⟩
def L_n18_j1 (rec_ : qL0 → Option qL0) : Lp U qL0 := ⟨[0, 14], [], qs40, [], fun v w => s_fraction_trimmed_j1 rec_ v.1 v.2.1⟩
theorem L_n18_j1_ok {RT : Ret} {r : qL0} {rec_ : qL0 → Option qL0} (hb : LpOk F_n18 RT r (Lh_n18_l1 rec_) base_n18_l1) (hx : AllExits F_n18 RT r base_n18_l1 [(0, Lx_n18_l1)]) (hr : qH (fun _ => none) r RT) : LpOk F_n18 RT r (L_n18_j1 rec_) (stAt F_n18 [1, 0, 5, 4, 0, 1]) := fun v w hi h => Pt.evlAt F_n18_ok (r := r) 4000 (cuts := []) (back := (some (Lh_n18_l1 rec_))) (exits := [(0, Lx_n18_l1)]) (ret := (fun _ => none)) (base := base_n18_l1) (pre := [tc F_n18 [1, 0, 5, 4, 0, 1], tc F_n18 [1, 5, 4, 0, 1]]) (T := Lp.st F_n18 (L_n18_j1 rec_) v w) (by kernel_rfl) hi (Eq.trans (by kernel_rfl) h) ⟨by kernel_rfl, by kernel_rfl, trivial⟩ trivial (fun L hL => by cases hL; exact hb) (fun hn => nomatch hn) hx hr
theorem s_fraction_trimmed_l1_ok {RT : Ret} {r : qL0} (hx : AllExits F_n18 RT r base_n18_l1 [(0, Lx_n18_l1)]) (hr : qH (fun _ => none) r RT) : ∀ n, LpOk F_n18 RT r (Lh_n18_l1 (s_fraction_trimmed_l1 n)) (stAt F_n18 [4, 0, 1]) :=
  loop_ok F_n18_ok 4000 (q := [4, 0, 1]) (body := codeAt F_n18 [5, 4, 0, 1]) (live := [0]) (frz := []) (shs := qs43) (sho := []) (fun n v w => s_fraction_trimmed_l1 n v.1) (cuts := fun n => [([1, 0, 5, 4, 0, 1], L_n18_j1 (s_fraction_trimmed_l1 n))]) (exits := [(0, Lx_n18_l1)]) (ret := (fun _ => none)) (by kernel_rfl) (fun _ _ => rfl) (fun n v w => by kernel_rfl) (fun n hb => ⟨L_n18_j1_ok hb hx hr, trivial⟩) hx hr
def Lc_n18_l1 : Lp U qL0 := ⟨[0], [], qs43, [], fun v w => (s_fraction_trimmed_l1 big v.1).bind fun x0 => s_fraction_trimmed_k2 x0⟩
theorem Lc_n18_l1_ok (r : qL0) : LpOk F_n18 (b_n18 r).enc r (Lc_n18_l1) (stAt F_n18 [4, 0, 1]) := fun v w hi h0 => by
  obtain ⟨x, hx0, h⟩ := bind_some h0
  exact s_fraction_trimmed_l1_ok (r := x) (RT := (b_n18 r).enc) ⟨⟨[tc F_n18 [1, 1]].map TI'.conc ++ [], by kernel_rfl, fun v' w' hi' h' => by obtain rfl := Option.some.inj h'; exact L_n18_k2_ok r v' w' hi' h⟩, trivial⟩ (fun _ ht => nomatch ht) big v w hi hx0
def S_s_fraction_trimmed : FSig U := ⟨qL0, [203], [.p], [none], [.p (.sl (.int .u32))], fun v => s_fraction_trimmed v.1, b_n18⟩
theorem S_s_fraction_trimmed_ok : SigOk X0.E 211 S_s_fraction_trimmed.sig := FSig.ok0 F_n18_ok (R := R_n18) (g := g_n18) (cuts := [([4, 0, 1], Lc_n18_l1)]) (pre := [tc0 F_n18]) rfl Tryd.func211 (by decide) rfl (fun _ => Nat.le_of_ble_eq_true (by kernel_rfl)) (fun _ => rfl) (by kernel_rfl) (fun _ _ h => Eq.trans (by kernel_rfl) h) ⟨rfl, trivial⟩ (fun r => ⟨(Lc_n18_l1_ok r), trivial⟩) fun _ => rfl

/-! ### tablefinder/fraction.natural -/
def c_n19 : Code := bodyOf Tryd.f192
def F_n19 : FC U := ⟨X0.at 10, Tryd.f192, c_n19, [(211, S_s_fraction_trimmed.sig)], [], [.p], [none]⟩
theorem F_n19_ok : FOk F_n19 := fok uok tok0 eok0 mixed rfl ⟨S_s_fraction_trimmed_ok, trivial⟩
def R_n19 : RSh := ⟨[.p (.sl (.int .u32))], []⟩
def g_n19 (v : RVal U R_n19) : qL0 := v.1.1
def b_n19 (q : qL0) : TRet U := R_n19.bld ((q, ()), ())
def S_s_fraction_natural : FSig U := ⟨qL0, [192], [.p], [none], [.p (.int .u64)], fun v => s_fraction_natural v.1, b_n19⟩
theorem S_s_fraction_natural_ok : SigOk X0.E 192 S_s_fraction_natural.sig := FSig.ok0 F_n19_ok (R := R_n19) (g := g_n19) (cuts := []) (pre := [tc0 F_n19]) rfl Tryd.func192 (by decide) rfl (fun _ => Nat.le_of_ble_eq_true (by kernel_rfl)) (fun _ => rfl) (by kernel_rfl) (fun _ _ h => Eq.trans (by kernel_rfl) h) ⟨rfl, trivial⟩ (fun r => trivial) fun _ => rfl

/-! ### tablefinder/fraction.signed -/
def c_n20 : Code := bodyOf Tryd.f187
def F_n20 : FC U := ⟨X0.at 14, Tryd.f187, c_n20, [], [], [.p], [some 0]⟩
theorem F_n20_ok : FOk F_n20 := fok uok tok0 eok0 mixed rfl trivial
def R_n20 : RSh := ⟨[.p (.st 0)], []⟩
def g_n20 (v : RVal U R_n20) : GaBig := v.1.1
def b_n20 (q : GaBig) : TRet U := R_n20.bld ((q, ()), ())
def L_n20_j1 : Lp U GaBig := ⟨[4], [], [.o (.ptr (0, 1, 1) 0 0)], qo29, fun v w => s_fraction_signed_j1 w.1.1 w.2.1⟩
theorem L_n20_j1_ok (r : GaBig) : LpOk F_n20 (b_n20 r).enc r (L_n20_j1) (stAt F_n20 [1, 1]) := fun v w hi h => Pt.ev0 F_n20_ok (S := R_n20) (g := g_n20) (b := b_n20) (cuts := []) (pre := [tc F_n20 [1, 1]]) (T := Lp.st F_n20 (L_n20_j1) v w) (by kernel_rfl) hi (Eq.trans (by kernel_rfl) h) ⟨by kernel_rfl, trivial⟩ trivial fun _ => rfl
def S_s_fraction_signed : FSig U := ⟨GaBig, [4, 203], [.p, .p], [none, none], [.p .bool, .p (.sl (.int .u32))], fun v => s_fraction_signed v.1 v.2.1, b_n20⟩
theorem S_s_fraction_signed_ok : SigOk X0.E 187 S_s_fraction_signed.sig := FSig.ok0 F_n20_ok (R := R_n20) (g := g_n20) (cuts := [([1, 1], L_n20_j1)]) (pre := [tc0 F_n20]) rfl Tryd.func187 (by decide) rfl (fun _ => Nat.le_of_ble_eq_true (by kernel_rfl)) (fun _ => rfl) (by kernel_rfl) (fun _ _ h => Eq.trans (by kernel_rfl) h) ⟨rfl, trivial⟩ (fun r => ⟨(L_n20_j1_ok r), trivial⟩) fun _ => rfl

/-! ### tablefinder/fraction.FromInt -/
def c_n21 : Code := bodyOf Tryd.f169
def F_n21 : FC U := ⟨X0.at 14, Tryd.f169, c_n21, [(192, S_s_fraction_natural.sig), (187, S_s_fraction_signed.sig)], [], [.p], [some 0]⟩
theorem F_n21_ok : FOk F_n21 := fok uok tok0 eok0 mixed rfl ⟨S_s_fraction_natural_ok, S_s_fraction_signed_ok, trivial⟩
def R_n21 : RSh := ⟨[.p (.st 0)], []⟩
def g_n21 (v : RVal U R_n21) : GaBig := v.1.1
def b_n21 (q : GaBig) : TRet U := R_n21.bld ((q, ()), ())
def S_s_fraction_FromInt : FSig U := ⟨GaBig, [3], [.p], [none], [.p (.int .i64)], fun v => s_fraction_FromInt v.1, b_n21⟩
theorem S_s_fraction_FromInt_ok : SigOk X0.E 169 S_s_fraction_FromInt.sig := FSig.ok0 F_n21_ok (R := R_n21) (g := g_n21) (cuts := []) (pre := [tc0 F_n21]) rfl Tryd.func169 (by decide) rfl (fun _ => Nat.le_of_ble_eq_true (by kernel_rfl)) (fun _ => rfl) (by kernel_rfl) (fun _ _ h => Eq.trans (by kernel_rfl) h) ⟨rfl, trivial⟩ (fun r => trivial) fun _ => rfl

/-! ### tablefinder/fraction.ValidBig -/
def c_n22 : Code := bodyOf Tryd.f206
def F_n22 : FC U := ⟨X0.at 31, Tryd.f206, c_n22, [], [], [.p], [none]⟩
theorem F_n22_ok : FOk F_n22 := fok uok tok0 eok0 mixed rfl trivial
def R_n22 : RSh := ⟨[.p .bool], []⟩
def g_n22 (v : RVal U R_n22) : Bool := v.1.1
def b_n22 (q : Bool) : TRet U := R_n22.bld ((q, ()), ())
def L_n22_j1 : Lp U Bool := ⟨[2], [], [.o (.v .bool)], [], fun v w => s_fraction_ValidBig_j1 v.1⟩
theorem L_n22_j1_ok (r : Bool) : LpOk F_n22 (b_n22 r).enc r (L_n22_j1) (stAt F_n22 [1, 1, 1]) := fun v w hi h => Pt.ev0 F_n22_ok (S := R_n22) (g := g_n22) (b := b_n22) (cuts := []) (pre := [tc F_n22 [1, 1, 1]]) (T := Lp.st F_n22 (L_n22_j1) v w) (by kernel_rfl) hi (Eq.trans (by kernel_rfl) h) ⟨by kernel_rfl, trivial⟩ trivial fun _ => rfl
def S_s_fraction_ValidBig : FSig U := ⟨Bool, [58], [.p], [some 0], [.p (.st 0)], fun v => s_fraction_ValidBig v.1, b_n22⟩
theorem S_s_fraction_ValidBig_ok : SigOk X0.E 206 S_s_fraction_ValidBig.sig := FSig.ok0 F_n22_ok (R := R_n22) (g := g_n22) (cuts := [([1, 1, 1], L_n22_j1)]) (pre := [tc0 F_n22]) rfl Tryd.func206 (by decide) rfl (fun _ => Nat.le_of_ble_eq_true (by kernel_rfl)) (fun _ => rfl) (by kernel_rfl) (fun _ _ h => Eq.trans (by kernel_rfl) h) ⟨rfl, trivial⟩ (fun r => ⟨(L_n22_j1_ok r), trivial⟩) fun _ => rfl

/-! ### tablefinder/fraction.bigs -/
def c_n23 : Code := bodyOf Tryd.f184
def F_n23 : FC U := ⟨X0.at 15, Tryd.f184, c_n23, [(206, S_s_fraction_ValidBig.sig)], [], [.p], [none]⟩
theorem F_n23_ok : FOk F_n23 := fok uok tok0 eok0 mixed rfl ⟨S_s_fraction_ValidBig_ok, trivial⟩
def R_n23 : RSh := ⟨[.p .bool], []⟩
def g_n23 (v : RVal U R_n23) : Bool := v.1.1
def b_n23 (q : Bool) : TRet U := R_n23.bld ((q, ()), ())
def L_n23_k1 : Lp U Bool := ⟨[], [], [], [], fun v w => s_fraction_bigs_k1⟩
theorem L_n23_k1_ok (r : Bool) : LpOk F_n23 (b_n23 r).enc r (L_n23_k1) ([tc F_n23 [1, 1]].map TI'.conc ++ []) := fun v w hi h => Pt.ev0 F_n23_ok (S := R_n23) (g := g_n23) (b := b_n23) (cuts := []) (pre := [tc F_n23 [1, 1]]) (T := Lp.st F_n23 (L_n23_k1) v w) (by kernel_rfl) hi (Eq.trans (by kernel_rfl) h) ⟨by kernel_rfl, trivial⟩ trivial fun _ => rfl
def base_n23_l1 : List Eng.Item := .lp (codeAt F_n23 [5, 4, 1, 0, 1]) :: ([.blk 0, tc F_n23 [1, 1]].map TI'.conc ++ [])
def Lh_n23_l1 (rec_ : (List GaBig) → Int → Int → Option (Out Unit Bool)) : Lp U (Out Unit Bool) := ⟨[5, 6, 7], [], qs32, [], fun v w => rec_ v.1 v.2.1 v.2.2.1⟩
def Lx_n23_l1 : Lp U (Out Unit Bool) := ⟨[], [], [], [], fun v w => some (.brk ())⟩
theorem s_fraction_bigs_l1_ok {RT : Ret} {r : (Out Unit Bool)} (hx : AllExits F_n23 RT r base_n23_l1 [(0, Lx_n23_l1)]) (hr : qH (retOf R_n23 fun v => Out.ret (β := Unit) (g_n23 v)) r RT) : ∀ n, LpOk F_n23 RT r (Lh_n23_l1 (s_fraction_bigs_l1 n)) (stAt F_n23 [4, 1, 0, 1]) :=
  loop_ok F_n23_ok 4000 (q := [4, 1, 0, 1]) (body := codeAt F_n23 [5, 4, 1, 0, 1]) (live := [5, 6, 7]) (frz := []) (shs := qs32) (sho := []) (fun n v w => s_fraction_bigs_l1 n v.1 v.2.1 v.2.2.1) (cuts := fun n => []) (exits := [(0, Lx_n23_l1)]) (ret := (retOf R_n23 fun v => Out.ret (β := Unit) (g_n23 v))) (by kernel_rfl) (fun _ _ => rfl) (fun n v w => by kernel_rfl) (fun n hb => trivial) hx hr
def Lc_n23_l1 : Lp U Bool := ⟨[5, 6, 7], [], qs32, [], fun v w => (s_fraction_bigs_l1 big v.1 v.2.1 v.2.2.1).bind fun | .ret q_ => some q_ | .brk () => s_fraction_bigs_k1⟩
theorem Lc_n23_l1_ok (r : Bool) : LpOk F_n23 (b_n23 r).enc r (Lc_n23_l1) (stAt F_n23 [4, 1, 0, 1]) := fun v w hi h0 => by
  obtain ⟨x, hx0, h⟩ := bind_some h0
  exact s_fraction_bigs_l1_ok (r := x) (RT := (b_n23 r).enc) ⟨⟨[tc F_n23 [1, 1]].map TI'.conc ++ [], by kernel_rfl, fun v' w' hi' h' => by obtain rfl := Option.some.inj h'; exact L_n23_k1_ok r v' w' hi' h⟩, trivial⟩ (fun t ht => by obtain ⟨q, rfl, hq⟩ := retOut ht; obtain rfl := Option.some.inj h; exact retOf_enc uok (give := b_n23) (fun _ => rfl) hq) big v w hi hx0
def S_s_fraction_bigs : FSig U := ⟨Bool, [227], [.p], [none], [.p (.sl (.st 0))], fun v => s_fraction_bigs v.1, b_n23⟩
theorem S_s_fraction_bigs_ok : SigOk X0.E 184 S_s_fraction_bigs.sig := FSig.ok0 F_n23_ok (R := R_n23) (g := g_n23) (cuts := [([4, 1, 0, 1], Lc_n23_l1)]) (pre := [tc0 F_n23]) rfl Tryd.func184 (by decide) rfl (fun _ => Nat.le_of_ble_eq_true (by kernel_rfl)) (fun _ => rfl) (by kernel_rfl) (fun _ _ h => Eq.trans (by kernel_rfl) h) ⟨rfl, trivial⟩ (fun r => ⟨(Lc_n23_l1_ok r), trivial⟩) fun _ => rfl

/-! ### cmp.isNaN[int] -/
def c_n24 : Code := bodyOf Tryd.f153
def F_n24 : FC U := ⟨X0.at 6, Tryd.f153, c_n24, [], [], [.p], [none]⟩
theorem F_n24_ok : FOk F_n24 := fok uok tok0 eok0 mixed rfl trivial
def R_n24 : RSh := ⟨[.p .bool], []⟩
def g_n24 (v : RVal U R_n24) : Bool := v.1.1
def b_n24 (q : Bool) : TRet U := R_n24.bld ((q, ()), ())
def S_s_cmp_isNaN_int : FSig U := ⟨Bool, [3], [.p], [none], [.p (.int .i64)], fun v => s_cmp_isNaN_int v.1, b_n24⟩
theorem S_s_cmp_isNaN_int_ok : SigOk X0.E 153 S_s_cmp_isNaN_int.sig := FSig.ok0 F_n24_ok (R := R_n24) (g := g_n24) (cuts := []) (pre := [tc0 F_n24]) rfl Tryd.func153 (by decide) rfl (fun _ => Nat.le_of_ble_eq_true (by kernel_rfl)) (fun _ => rfl) (by kernel_rfl) (fun _ _ h => Eq.trans (by kernel_rfl) h) ⟨rfl, trivial⟩ (fun r => trivial) fun _ => rfl

/-! ### cmp.Compare[int] -/
def c_n25 : Code := bodyOf Tryd.f108
def F_n25 : FC U := ⟨X0.at 20, Tryd.f108, c_n25, [(153, S_s_cmp_isNaN_int.sig)], [], [.p], [none]⟩
theorem F_n25_ok : FOk F_n25 := fok uok tok0 eok0 mixed rfl ⟨S_s_cmp_isNaN_int_ok, trivial⟩
def R_n25 : RSh := ⟨[.p (.int .i64)], []⟩
def g_n25 (v : RVal U R_n25) : Int := v.1.1
def b_n25 (q : Int) : TRet U := R_n25.bld ((q, ()), ())
def S_s_cmp_Compare_int : FSig U := ⟨Int, [3, 3], [.p, .p], [none, none], [.p (.int .i64), .p (.int .i64)], fun v => s_cmp_Compare_int v.1 v.2.1, b_n25⟩
theorem S_s_cmp_Compare_int_ok : SigOk X0.E 108 S_s_cmp_Compare_int.sig := FSig.ok0 F_n25_ok (R := R_n25) (g := g_n25) (cuts := []) (pre := [tc0 F_n25]) rfl Tryd.func108 (by decide) rfl (fun _ => Nat.le_of_ble_eq_true (by kernel_rfl)) (fun _ => rfl) (by kernel_rfl) (fun _ _ h => Eq.trans (by kernel_rfl) h) ⟨rfl, trivial⟩ (fun r => trivial) fun _ => rfl

/-! ### cmp.isNaN[uint32] -/
def c_n26 : Code := bodyOf Tryd.f226
def F_n26 : FC U := ⟨X0.at 6, Tryd.f226, c_n26, [], [], [.p], [none]⟩
theorem F_n26_ok : FOk F_n26 := fok uok tok0 eok0 mixed rfl trivial
def R_n26 : RSh := ⟨[.p .bool], []⟩
def g_n26 (v : RVal U R_n26) : Bool := v.1.1
def b_n26 (q : Bool) : TRet U := R_n26.bld ((q, ()), ())
def S_s_cmp_isNaN_uint32 : FSig U := ⟨Bool, [167], [.p], [none], [.p (.int .u32)], fun v => s_cmp_isNaN_uint32 v.1, b_n26⟩
theorem S_s_cmp_isNaN_uint32_ok : SigOk X0.E 226 S_s_cmp_isNaN_uint32.sig := FSig.ok0 F_n26_ok (R := R_n26) (g := g_n26) (cuts := []) (pre := [tc0 F_n26]) rfl Tryd.func226 (by decide) rfl (fun _ => Nat.le_of_ble_eq_true (by kernel_rfl)) (fun _ => rfl) (by kernel_rfl) (fun _ _ h => Eq.trans (by kernel_rfl) h) ⟨rfl, trivial⟩ (fun r => trivial) fun _ => rfl

/-! ### cmp.Compare[uint32] -/
def c_n27 : Code := bodyOf Tryd.f208
def F_n27 : FC U := ⟨X0.at 20, Tryd.f208, c_n27, [(226, S_s_cmp_isNaN_uint32.sig)], [], [.p], [none]⟩
theorem F_n27_ok : FOk F_n27 := fok uok tok0 eok0 mixed rfl ⟨S_s_cmp_isNaN_uint32_ok, trivial⟩
def R_n27 : RSh := ⟨[.p (.int .i64)], []⟩
def g_n27 (v : RVal U R_n27) : Int := v.1.1
def b_n27 (q : Int) : TRet U := R_n27.bld ((q, ()), ())
def S_s_cmp_Compare_uint32 : FSig U := ⟨Int, [167, 167], [.p, .p], [none, none], [.p (.int .u32), .p (.int .u32)], fun v => s_cmp_Compare_uint32 v.1 v.2.1, b_n27⟩
theorem S_s_cmp_Compare_uint32_ok : SigOk X0.E 208 S_s_cmp_Compare_uint32.sig := FSig.ok0 F_n27_ok (R := R_n27) (g := g_n27) (cuts := []) (pre := [tc0 F_n27]) rfl Tryd.func208 (by decide) rfl (fun _ => Nat.le_of_ble_eq_true (by kernel_rfl)) (fun _ => rfl) (by kernel_rfl) (fun _ _ h => Eq.trans (by kernel_rfl) h) ⟨rfl, trivial⟩ (fun r => trivial) fun _ => rfl

/-! ### (tablefinder/fraction.words).compare -/
def c_n28 : Code := bodyOf Tryd.f186
def F_n28 : FC U := ⟨X0.at 35, Tryd.f186, c_n28, [(108, S_s_cmp_Compare_int.sig), (208, S_s_cmp_Compare_uint32.sig)], [], [.p], [none]⟩
theorem F_n28_ok : FOk F_n28 := fok uok tok0 eok0 mixed rfl ⟨S_s_cmp_Compare_int_ok, S_s_cmp_Compare_uint32_ok, trivial⟩
def R_n28 : RSh := ⟨[.p (.int .i64)], []⟩
def g_n28 (v : RVal U R_n28) : Int := v.1.1
def b_n28 (q : Int) : TRet U := R_n28.bld ((q, ()), ())
def L_n28_k1 : Lp U Int := ⟨[], [], [], [], fun v w => s_fraction_words_compare_k1⟩
theorem L_n28_k1_ok (r : Int) : LpOk F_n28 (b_n28 r).enc r (L_n28_k1) ([tc F_n28 [1, 1, 1]].map TI'.conc ++ []) := fun v w hi h => Pt.ev0 F_n28_ok (S := R_n28) (g := g_n28) (b := b_n28) (cuts := []) (pre := [tc F_n28 [1, 1, 1]]) (T := Lp.st F_n28 (L_n28_k1) v w) (by kernel_rfl) hi (Eq.trans (by kernel_rfl) h) ⟨by kernel_rfl, trivial⟩ trivial fun _ => rfl
def base_n28_l1 : List Eng.Item := .lp (codeAt F_n28 [5, 4, 1, 0, 1, 1]) :: ([.blk 0, tc F_n28 [1, 1, 1]].map TI'.conc ++ [])
def Lh_n28_l1 (rec_ : qL0 → qL0 → Int → Option (Out Unit Int)) : Lp U (Out Unit Int) := ⟨[0, 1, 6], [], qs28, [], fun v w => rec_ v.1 v.2.1 v.2.2.1⟩
def Lx_n28_l1 : Lp U (Out Unit Int) := ⟨[], [], [], [], fun v w => some (.brk ())⟩
theorem s_fraction_words_compare_l1_ok {RT : Ret} {r : (Out Unit Int)} (hx : AllExits F_n28 RT r base_n28_l1 [(0, Lx_n28_l1)]) (hr : qH (retOf R_n28 fun v => Out.ret (β := Unit) (g_n28 v)) r RT) : ∀ n, LpOk F_n28 RT r (Lh_n28_l1 (s_fraction_words_compare_l1 n)) (stAt F_n28 [4, 1, 0, 1, 1]) :=
  loop_ok F_n28_ok 4000 (q := [4, 1, 0, 1, 1]) (body := codeAt F_n28 [5, 4, 1, 0, 1, 1]) (live := [0, 1, 6]) (frz := []) (shs := qs28) (sho := []) (fun n v w => s_fraction_words_compare_l1 n v.1 v.2.1 v.2.2.1) (cuts := fun n => []) (exits := [(0, Lx_n28_l1)]) (ret := (retOf R_n28 fun v => Out.ret (β := Unit) (g_n28 v))) (by kernel_rfl) (fun _ _ => rfl) (fun n v w => by kernel_rfl) (fun n hb => trivial) hx hr
def Lc_n28_l1 : Lp U Int := ⟨[0, 1, 6], [], qs28, [], fun v w => (s_fraction_words_compare_l1 big v.1 v.2.1 v.2.2.1).bind fun | .ret q_ => some q_ | .brk () => s_fraction_words_compare_k1⟩
theorem Lc_n28_l1_ok (r : Int) : LpOk F_n28 (b_n28 r).enc r (Lc_n28_l1) (stAt F_n28 [4, 1, 0, 1, 1]) := fun v w hi h0 => by
  obtain ⟨x, hx0, h⟩ := bind_some h0
  exact s_fraction_words_compare_l1_ok (r := x) (RT := (b_n28 r).enc) ⟨⟨[tc F_n28 [1, 1, 1]].map TI'.conc ++ [], by kernel_rfl, fun v' w' hi' h' => by obtain rfl := Option.some.inj h'; exact L_n28_k1_ok r v' w' hi' h⟩, trivial⟩ (fun t ht => by obtain ⟨q, rfl, hq⟩ := retOut ht; obtain rfl := Option.some.inj h; exact retOf_enc uok (give := b_n28) (fun _ => rfl) hq) big v w hi hx0
def S_s_fraction_words_compare : FSig U := ⟨Int, [203, 203], [.p, .p], [none, none], [.p (.sl (.int .u32)), .p (.sl (.int .u32))], fun v => s_fraction_words_compare v.1 v.2.1, b_n28⟩
theorem S_s_fraction_words_compare_ok : SigOk X0.E 186 S_s_fraction_words_compare.sig := FSig.ok0 F_n28_ok (R := R_n28) (g := g_n28) (cuts := [([4, 1, 0, 1, 1], Lc_n28_l1)]) (pre := [tc0 F_n28]) rfl Tryd.func186 (by decide) rfl (fun _ => Nat.le_of_ble_eq_true (by kernel_rfl)) (fun _ => rfl) (by kernel_rfl) (fun _ _ h => Eq.trans (by kernel_rfl) h) ⟨rfl, trivial⟩ (fun r => ⟨(Lc_n28_l1_ok r), trivial⟩) fun _ => rfl

/-! ### slices.Clone[tablefinder/fraction.words,uint32] -/
def c_n29 : Code := bodyOf Tryd.f221
def F_n29 : FC U := ⟨X0.at 8, Tryd.f221, c_n29, [], [], [.own], [none]⟩
theorem F_n29_ok : FOk F_n29 := fok uok tok0 eok0 mixed rfl trivial
def R_n29 : RSh := ⟨[.own (.int .u32)], []⟩
def g_n29 (v : RVal U R_n29) : qL0 := v.1.1
def b_n29 (q : qL0) : TRet U := R_n29.bld ((q, ()), ())
def L_n29_j1 : Lp U qL0 := ⟨[0, 4], [], qs40, [], fun v w => ss_Clone_fraction_words_uint32_j1 v.1 v.2.1⟩
theorem L_n29_j1_ok (r : qL0) : LpOk F_n29 (b_n29 r).enc r (L_n29_j1) (stAt F_n29 [1, 0, 1]) := fun v w hi h => Pt.ev0 F_n29_ok (S := R_n29) (g := g_n29) (b := b_n29) (cuts := []) (pre := [tc F_n29 [1, 0, 1], tc F_n29 [1, 1]]) (T := Lp.st F_n29 (L_n29_j1) v w) (by kernel_rfl) hi (Eq.trans (by kernel_rfl) h) ⟨by kernel_rfl, by kernel_rfl, trivial⟩ trivial fun _ => rfl
def S_ss_Clone_fraction_words_uint32 : FSig U := ⟨qL0, [203], [.p], [none], [.p (.sl (.int .u32))], fun v => ss_Clone_fraction_words_uint32 v.1, b_n29⟩
theorem S_ss_Clone_fraction_words_uint32_ok : SigOk X0.E 221 S_ss_Clone_fraction_words_uint32.sig := FSig.ok0 F_n29_ok (R := R_n29) (g := g_n29) (cuts := [([1, 0, 1], L_n29_j1)]) (pre := [tc0 F_n29]) rfl Tryd.func221 (by decide) rfl (fun _ => Nat.le_of_ble_eq_true (by kernel_rfl)) (fun _ => rfl) (by kernel_rfl) (fun _ _ h => Eq.trans (by kernel_rfl) h) ⟨rfl, trivial⟩ (fun r => ⟨(L_n29_j1_ok r), trivial⟩) fun _ => rfl

/-! ### math/bits.Div32 -/
def c_n30 : Code := bodyOf Tryd.f230
def F_n30 : FC U := ⟨X0.at 33, Tryd.f230, c_n30, [], [], [.p, .p], [none, none]⟩
theorem F_n30_ok : FOk F_n30 := fok uok tok0 eok0 mixed rfl trivial
def R_n30 : RSh := ⟨[.p (.int .u32), .p (.int .u32)], []⟩
def g_n30 (v : RVal U R_n30) : qT61 := (v.1.1, v.1.2.1)
def b_n30 (q : qT61) : TRet U := R_n30.bld ((q.1, (q.2, ())), ())
def L_n30_j1 : Lp U qT61 := ⟨[0, 1, 2, 15], [], [.o (.v (.int .u32)), .o (.v (.int .u32)), .o (.v (.int .u32)), .o (.v .bool)], [], fun v w => s_math_bits_Div32_j1 v.1 v.2.1 v.2.2.1 v.2.2.2.1⟩
theorem L_n30_j1_ok (r : qT61) : LpOk F_n30 (b_n30 r).enc r (L_n30_j1) (stAt F_n30 [1, 0, 1]) := fun v w hi h => Pt.ev0 F_n30_ok (S := R_n30) (g := g_n30) (b := b_n30) (cuts := []) (pre := [tc F_n30 [1, 0, 1], tc F_n30 [1, 1]]) (T := Lp.st F_n30 (L_n30_j1) v w) (by kernel_rfl) hi (Eq.trans (by kernel_rfl) h) ⟨by kernel_rfl, by kernel_rfl, trivial⟩ trivial fun _ => rfl
def S_s_math_bits_Div32 : FSig U := ⟨qT61, [167, 167, 167], [.p, .p, .p], [none, none, none], [.p (.int .u32), .p (.int .u32), .p (.int .u32)], fun v => s_math_bits_Div32 v.1 v.2.1 v.2.2.1, b_n30⟩
theorem S_s_math_bits_Div32_ok : SigOk X0.E 230 S_s_math_bits_Div32.sig := FSig.ok0 F_n30_ok (R := R_n30) (g := g_n30) (cuts := [([1, 0, 1], L_n30_j1)]) (pre := [tc0 F_n30]) rfl Tryd.func230 (by decide) rfl (fun _ => Nat.le_of_ble_eq_true (by kernel_rfl)) (fun _ => rfl) (by kernel_rfl) (fun _ _ h => Eq.trans (by kernel_rfl) h) ⟨rfl, trivial⟩ (fun r => ⟨(L_n30_j1_ok r), trivial⟩) fun _ => rfl

/-! ### (tablefinder/fraction.words).short -/
def c_n31 : Code := bodyOf Tryd.f222
def F_n31 : FC U := ⟨X0.at 35, Tryd.f222, c_n31, [(230, S_s_math_bits_Div32.sig), (211, S_s_fraction_trimmed.sig)], [], [.p, .p], [none, none]⟩
theorem F_n31_ok : FOk F_n31 := fok uok tok0 eok0 mixed rfl ⟨S_s_math_bits_Div32_ok, S_s_fraction_trimmed_ok, trivial⟩
def R_n31 : RSh := ⟨[.p (.sl (.int .u32)), .p (.int .u32)], []⟩
def g_n31 (v : RVal U R_n31) : qT58 := (v.1.1, v.1.2.1)
def b_n31 (q : qT58) : TRet U := R_n31.bld ((q.1, (q.2, ())), ())
def L_n31_k1 : Lp U qT58 := ⟨[6, 7], [], qs39, [.arr (.int .u32) false], fun v w => s_fraction_words_short_k1 v.2.1 w.1⟩
theorem L_n31_k1_ok (r : qT58) : LpOk F_n31 (b_n31 r).enc r (L_n31_k1) ([tc F_n31 [1, 1, 1, 1]].map TI'.conc ++ []) := fun v w hi h => Pt.ev0 F_n31_ok (S := R_n31) (g := g_n31) (b := b_n31) (cuts := []) (pre := [tc F_n31 [1, 1, 1, 1]]) (T := Lp.st F_n31 (L_n31_k1) v w) (by kernel_rfl) hi (Eq.trans (by kernel_rfl) h) ⟨by kernel_rfl, trivial⟩ trivial fun _ => rfl
def base_n31_l1 : List Eng.Item := .lp (codeAt F_n31 [5, 4, 1, 0, 1, 1, 1]) :: ([.blk 0, tc F_n31 [1, 1, 1, 1]].map TI'.conc ++ [])
def Lh_n31_l1 (rec_ : qL0 → Int → Int → Int → qL0 → Option qT57) : Lp U qT57 := ⟨[0, 1, 6, 7, 8], [], qs17, [.arr (.int .u32) false], fun v w => rec_ v.1 v.2.1 v.2.2.2.1 v.2.2.2.2.1 w.1⟩
def Lx_n31_l1 : Lp U qT57 := ⟨[6, 7], [], qs39, [.arr (.int .u32) false], fun v w => some (v.2.1, w.1)⟩
theorem s_fraction_words_short_l1_ok {RT : Ret} {r : qT57} (hx : AllExits F_n31 RT r base_n31_l1 [(0, Lx_n31_l1)]) (hr : qH (fun _ => none) r RT) : ∀ n, LpOk F_n31 RT r (Lh_n31_l1 (s_fraction_words_short_l1 n)) (stAt F_n31 [4, 1, 0, 1, 1, 1]) :=
  loop_ok F_n31_ok 4000 (q := [4, 1, 0, 1, 1, 1]) (body := codeAt F_n31 [5, 4, 1, 0, 1, 1, 1]) (live := [0, 1, 6, 7, 8]) (frz := []) (shs := qs17) (sho := [.arr (.int .u32) false]) (fun n v w => s_fraction_words_short_l1 n v.1 v.2.1 v.2.2.2.1 v.2.2.2.2.1 w.1) (cuts := fun n => []) (exits := [(0, Lx_n31_l1)]) (ret := (fun _ => none)) (by kernel_rfl) (fun _ _ => rfl) (fun n v w => by kernel_rfl) (fun n hb => trivial) hx hr
def Lc_n31_l1 : Lp U qT58 := ⟨[0, 1, 6, 7, 8], [], qs17, [.arr (.int .u32) false], fun v w => (s_fraction_words_short_l1 big v.1 v.2.1 v.2.2.2.1 v.2.2.2.2.1 w.1).bind fun (x0, x1) => s_fraction_words_short_k1 x0 x1⟩
theorem Lc_n31_l1_ok (r : qT58) : LpOk F_n31 (b_n31 r).enc r (Lc_n31_l1) (stAt F_n31 [4, 1, 0, 1, 1, 1]) := fun v w hi h0 => by
  obtain ⟨x, hx0, h⟩ := bind_some h0
  exact s_fraction_words_short_l1_ok (r := x) (RT := (b_n31 r).enc) ⟨⟨[tc F_n31 [1, 1, 1, 1]].map TI'.conc ++ [], by kernel_rfl, fun v' w' hi' h' => by obtain rfl := Option.some.inj h'; exact L_n31_k1_ok r v' w' hi' h⟩, trivial⟩ (fun _ ht => nomatch ht) big v w hi hx0
def S_s_fraction_words_short : FSig U := ⟨qT58, [203, 167], [.p, .p], [none, none], [.p (.sl (.int .u32)), .p (.int .u32)], fun v => s_fraction_words_short v.1 v.2.1, b_n31⟩
theorem S_s_fraction_words_short_ok : SigOk X0.E 222 S_s_fraction_words_short.sig := FSig.ok0 F_n31_ok (R := R_n31) (g := g_n31) (cuts := [([4, 1, 0, 1, 1, 1], Lc_n31_l1)]) (pre := [tc0 F_n31]) rfl Tryd.func222 (by decide) rfl (fun _ => Nat.le_of_ble_eq_true (by kernel_rfl)) (fun _ => rfl) (by kernel_rfl) (fun _ _ h => Eq.trans (by kernel_rfl) h) ⟨rfl, trivial⟩ (fun r => ⟨(Lc_n31_l1_ok r), trivial⟩) fun _ => rfl

/-! ### math/bits.Len32 -/
def c_n32 : Code := bodyOf Tryd.f231
def F_n32 : FC U := ⟨X0.at 19, Tryd.f231, c_n32, [], [], [.p], [none]⟩
theorem F_n32_ok : FOk F_n32 := fok uok tok0 eok0 mixed rfl trivial
def R_n32 : RSh := ⟨[.p (.int .i64)], []⟩
def g_n32 (v : RVal U R_n32) : Int := v.1.1
def b_n32 (q : Int) : TRet U := R_n32.bld ((q, ()), ())
def L_n32_j2 : Lp U Int := ⟨[0, 2], [], [.o (.v (.int .u32)), qi], [], fun v w => s_math_bits_Len32_j2 v.1 v.2.1⟩
theorem L_n32_j2_ok (r : Int) : LpOk F_n32 (b_n32 r).enc r (L_n32_j2) (stAt F_n32 [1, 1, 1]) := fun v w hi h => Pt.ev0 F_n32_ok (S := R_n32) (g := g_n32) (b := b_n32) (cuts := []) (pre := [tc F_n32 [1, 1, 1]]) (T := Lp.st F_n32 (L_n32_j2) v w) (by kernel_rfl) hi (Eq.trans (by kernel_rfl) h) ⟨by kernel_rfl, trivial⟩ trivial fun _ => rfl
def L_n32_j1 : Lp U Int := ⟨[0, 2], [], [.o (.v (.int .u32)), qi], [], fun v w => s_math_bits_Len32_j1 v.1 v.2.1⟩
theorem L_n32_j1_ok (r : Int) : LpOk F_n32 (b_n32 r).enc r (L_n32_j1) (stAt F_n32 [1, 1]) := fun v w hi h => Pt.ev0 F_n32_ok (S := R_n32) (g := g_n32) (b := b_n32) (cuts := [([1, 1, 1], L_n32_j2)]) (pre := [tc F_n32 [1, 1]]) (T := Lp.st F_n32 (L_n32_j1) v w) (by kernel_rfl) hi (Eq.trans (by kernel_rfl) h) ⟨by kernel_rfl, trivial⟩ ⟨(L_n32_j2_ok r), trivial⟩ fun _ => rfl
def S_s_math_bits_Len32 : FSig U := ⟨Int, [167], [.p], [none], [.p (.int .u32)], fun v => s_math_bits_Len32 v.1, b_n32⟩
theorem S_s_math_bits_Len32_ok : SigOk X0.E 231 S_s_math_bits_Len32.sig := FSig.ok0 F_n32_ok (R := R_n32) (g := g_n32) (cuts := [([1, 1], L_n32_j1)]) (pre := [tc0 F_n32]) rfl Tryd.func231 (by decide) rfl (fun _ => Nat.le_of_ble_eq_true (by kernel_rfl)) (fun _ => rfl) (by kernel_rfl) (fun _ _ h => Eq.trans (by kernel_rfl) h) ⟨rfl, trivial⟩ (fun r => ⟨(L_n32_j1_ok r), trivial⟩) fun _ => rfl

/-! ### math/bits.LeadingZeros32 -/
def c_n33 : Code := bodyOf Tryd.f223
def F_n33 : FC U := ⟨X0.at 6, Tryd.f223, c_n33, [(231, S_s_math_bits_Len32.sig)], [], [.p], [none]⟩
theorem F_n33_ok : FOk F_n33 := fok uok tok0 eok0 mixed rfl ⟨S_s_math_bits_Len32_ok, trivial⟩
def R_n33 : RSh := ⟨[.p (.int .i64)], []⟩
def g_n33 (v : RVal U R_n33) : Int := v.1.1
def b_n33 (q : Int) : TRet U := R_n33.bld ((q, ()), ())
def S_s_math_bits_LeadingZeros32 : FSig U := ⟨Int, [167], [.p], [none], [.p (.int .u32)], fun v => s_math_bits_LeadingZeros32 v.1, b_n33⟩
theorem S_s_math_bits_LeadingZeros32_ok : SigOk X0.E 223 S_s_math_bits_LeadingZeros32.sig := FSig.ok0 F_n33_ok (R := R_n33) (g := g_n33) (cuts := []) (pre := [tc0 F_n33]) rfl Tryd.func223 (by decide) rfl (fun _ => Nat.le_of_ble_eq_true (by kernel_rfl)) (fun _ => rfl) (by kernel_rfl) (fun _ _ h => Eq.trans (by kernel_rfl) h) ⟨rfl, trivial⟩ (fun r => trivial) fun _ => rfl

/-! ### (tablefinder/fraction.words).shifted -/
def c_n34 : Code := bodyOf Tryd.f224
def F_n34 : FC U := ⟨X0.at 41, Tryd.f224, c_n34, [], [], [.own], [none]⟩
theorem F_n34_ok : FOk F_n34 := fok uok tok0 eok0 mixed rfl trivial
def R_n34 : RSh := ⟨[.own (.int .u32)], []⟩
def g_n34 (v : RVal U R_n34) : qL0 := v.1.1
def b_n34 (q : qL0) : TRet U := R_n34.bld ((q, ()), ())
def L_n34_k1 : Lp U qL0 := ⟨[5], [], [.o (.full (0, 1, 1))], [.arr (.int .u32) false], fun v w => s_fraction_words_shifted_k1 w.1⟩
theorem L_n34_k1_ok (r : qL0) : LpOk F_n34 (b_n34 r).enc r (L_n34_k1) ([tc F_n34 [1, 1, 1]].map TI'.conc ++ []) := fun v w hi h => Pt.ev0 F_n34_ok (S := R_n34) (g := g_n34) (b := b_n34) (cuts := []) (pre := [tc F_n34 [1, 1, 1]]) (T := Lp.st F_n34 (L_n34_k1) v w) (by kernel_rfl) hi (Eq.trans (by kernel_rfl) h) ⟨by kernel_rfl, trivial⟩ trivial fun _ => rfl
def base_n34_l1 : List Eng.Item := .lp (codeAt F_n34 [5, 4, 1, 0, 1, 1]) :: ([.blk 0, tc F_n34 [1, 1, 1]].map TI'.conc ++ [])
def Lh_n34_l1 (rec_ : Int → qL0 → Int → Int → qL0 → Option qL0) : Lp U qL0 := ⟨[1, 5, 13, 14, 15], [], qs18, [.arr (.int .u32) false], fun v w => rec_ v.1 v.2.2.1 v.2.2.2.1 v.2.2.2.2.1 w.1⟩
def Lx_n34_l1 : Lp U qL0 := ⟨[5], [], [.o (.full (0, 1, 1))], [.arr (.int .u32) false], fun v w => some w.1⟩
theorem s_fraction_words_shifted_l1_ok {RT : Ret} {r : qL0} (hx : AllExits F_n34 RT r base_n34_l1 [(0, Lx_n34_l1)]) (hr : qH (fun _ => none) r RT) : ∀ n, LpOk F_n34 RT r (Lh_n34_l1 (s_fraction_words_shifted_l1 n)) (stAt F_n34 [4, 1, 0, 1, 1]) :=
  loop_ok F_n34_ok 4000 (q := [4, 1, 0, 1, 1]) (body := codeAt F_n34 [5, 4, 1, 0, 1, 1]) (live := [1, 5, 13, 14, 15]) (frz := []) (shs := qs18) (sho := [.arr (.int .u32) false]) (fun n v w => s_fraction_words_shifted_l1 n v.1 v.2.2.1 v.2.2.2.1 v.2.2.2.2.1 w.1) (cuts := fun n => []) (exits := [(0, Lx_n34_l1)]) (ret := (fun _ => none)) (by kernel_rfl) (fun _ _ => rfl) (fun n v w => by kernel_rfl) (fun n hb => trivial) hx hr
def Lc_n34_l1 : Lp U qL0 := ⟨[1, 5, 13, 14, 15], [], qs18, [.arr (.int .u32) false], fun v w => (s_fraction_words_shifted_l1 big v.1 v.2.2.1 v.2.2.2.1 v.2.2.2.2.1 w.1).bind fun x0 => s_fraction_words_shifted_k1 x0⟩
theorem Lc_n34_l1_ok (r : qL0) : LpOk F_n34 (b_n34 r).enc r (Lc_n34_l1) (stAt F_n34 [4, 1, 0, 1, 1]) := fun v w hi h0 => by
  obtain ⟨x, hx0, h⟩ := bind_some h0
  exact s_fraction_words_shifted_l1_ok (r := x) (RT := (b_n34 r).enc) ⟨⟨[tc F_n34 [1, 1, 1]].map TI'.conc ++ [], by kernel_rfl, fun v' w' hi' h' => by obtain rfl := Option.some.inj h'; exact L_n34_k1_ok r v' w' hi' h⟩, trivial⟩ (fun _ ht => nomatch ht) big v w hi hx0
def S_s_fraction_words_shifted : FSig U := ⟨qL0, [203, 3], [.p, .p], [none, none], [.p (.sl (.int .u32)), .p (.int .i64)], fun v => s_fraction_words_shifted v.1 v.2.1, b_n34⟩
theorem S_s_fraction_words_shifted_ok : SigOk X0.E 224 S_s_fraction_words_shifted.sig := FSig.ok0 F_n34_ok (R := R_n34) (g := g_n34) (cuts := [([4, 1, 0, 1, 1], Lc_n34_l1)]) (pre := [tc0 F_n34]) rfl Tryd.func224 (by decide) rfl (fun _ => Nat.le_of_ble_eq_true (by kernel_rfl)) (fun _ => rfl) (by kernel_rfl) (fun _ _ h => Eq.trans (by kernel_rfl) h) ⟨rfl, trivial⟩ (fun r => ⟨(Lc_n34_l1_ok r), trivial⟩) fun _ => rfl

/-! ### math/bits.Sub32 -/
def c_n35 : Code := bodyOf Tryd.f212
def F_n35 : FC U := ⟨X0.at 25, Tryd.f212, c_n35, [], [], [.p, .p], [none, none]⟩
theorem F_n35_ok : FOk F_n35 := fok uok tok0 eok0 mixed rfl trivial
def R_n35 : RSh := ⟨[.p (.int .u32), .p (.int .u32)], []⟩
def g_n35 (v : RVal U R_n35) : qT61 := (v.1.1, v.1.2.1)
def b_n35 (q : qT61) : TRet U := R_n35.bld ((q.1, (q.2, ())), ())
def S_s_math_bits_Sub32 : FSig U := ⟨qT61, [167, 167, 167], [.p, .p, .p], [none, none, none], [.p (.int .u32), .p (.int .u32), .p (.int .u32)], fun v => s_math_bits_Sub32 v.1 v.2.1 v.2.2.1, b_n35⟩
theorem S_s_math_bits_Sub32_ok : SigOk X0.E 212 S_s_math_bits_Sub32.sig := FSig.ok0 F_n35_ok (R := R_n35) (g := g_n35) (cuts := []) (pre := [tc0 F_n35]) rfl Tryd.func212 (by decide) rfl (fun _ => Nat.le_of_ble_eq_true (by kernel_rfl)) (fun _ => rfl) (by kernel_rfl) (fun _ _ h => Eq.trans (by kernel_rfl) h) ⟨rfl, trivial⟩ (fun r => trivial) fun _ => rfl

/-! ### math/bits.Add32 -/
def c_n36 : Code := bodyOf Tryd.f209
def F_n36 : FC U := ⟨X0.at 22, Tryd.f209, c_n36, [], [], [.p, .p], [none, none]⟩
theorem F_n36_ok : FOk F_n36 := fok uok tok0 eok0 mixed rfl trivial
def R_n36 : RSh := ⟨[.p (.int .u32), .p (.int .u32)], []⟩
def g_n36 (v : RVal U R_n36) : qT61 := (v.1.1, v.1.2.1)
def b_n36 (q : qT61) : TRet U := R_n36.bld ((q.1, (q.2, ())), ())
def S_s_math_bits_Add32 : FSig U := ⟨qT61, [167, 167, 167], [.p, .p, .p], [none, none, none], [.p (.int .u32), .p (.int .u32), .p (.int .u32)], fun v => s_math_bits_Add32 v.1 v.2.1 v.2.2.1, b_n36⟩
theorem S_s_math_bits_Add32_ok : SigOk X0.E 209 S_s_math_bits_Add32.sig := FSig.ok0 F_n36_ok (R := R_n36) (g := g_n36) (cuts := []) (pre := [tc0 F_n36]) rfl Tryd.func209 (by decide) rfl (fun _ => Nat.le_of_ble_eq_true (by kernel_rfl)) (fun _ => rfl) (by kernel_rfl) (fun _ _ h => Eq.trans (by kernel_rfl) h) ⟨rfl, trivial⟩ (fun r => trivial) fun _ => rfl

abbrev Tr_n37_2 : Type := Nat → Nat → qL0 → Int → Int → Int → qL0 → Option qT48
/-! ### tablefinder/fraction.digit -/
def c_n37 : Code := bodyOf Tryd.f225
def F_n37 : FC U := ⟨X0.at 161, Tryd.f225, c_n37, [(212, S_s_math_bits_Sub32.sig), (209, S_s_math_bits_Add32.sig)], [0], [.p], [none]⟩
theorem F_n37_ok : FOk F_n37 := fok uok tok0 eok0 mixed rfl ⟨S_s_math_bits_Sub32_ok, S_s_math_bits_Add32_ok, trivial⟩
def R_n37 : RSh := ⟨[.p (.int .u32)], [(0, .arr (.int .u32))]⟩
def g_n37 (v : RVal U R_n37) : qT57 := (v.1.1, v.2.1)
def b_n37 (q : qT57) : TRet U := R_n37.bld ((q.1, ()), (q.2, ()))
def L_n37_k4 : Lp U qT57 := ⟨[0, 5, 7, 13], [], qs27, [.arr (.int .u32) false], fun v w => s_fraction_digit_k4 v.1.1 v.1.2 v.2.1 v.2.2.1 v.2.2.2.1 w.1⟩
theorem L_n37_k4_ok (r : qT57) : LpOk F_n37 (b_n37 r).enc r (L_n37_k4) ([tc F_n37 [1, 1, 1, 1, 1, 1, 1, 1, 1, 1, 1, 1]].map TI'.conc ++ []) := fun v w hi h => Pt.ev0 F_n37_ok (S := R_n37) (g := g_n37) (b := b_n37) (cuts := []) (pre := [tc F_n37 [1, 1, 1, 1, 1, 1, 1, 1, 1, 1, 1, 1]]) (T := Lp.st F_n37 (L_n37_k4) v w) (by kernel_rfl) hi (Eq.trans (by kernel_rfl) h) ⟨by kernel_rfl, trivial⟩ trivial fun _ => rfl
def base_n37_l3 : List Eng.Item := .lp (codeAt F_n37 [5, 4, 1, 0, 1, 1, 1, 1, 1, 1, 1, 1, 1, 1, 1]) :: ([.blk 4, tc F_n37 [1, 1, 1, 1, 1, 1, 1, 1, 1, 1, 1, 1]].map TI'.conc ++ [])
def Lh_n37_l3 (rec_ : Nat → Nat → Int → Int → Int → qL0 → Int → Int → qL0 → Option qT50) : Lp U qT50 := ⟨[0, 5, 7, 13, 130, 131, 132], [], qs6, [.arr (.int .u32) false], fun v w => rec_ v.1.1 v.1.2 v.2.1 v.2.2.1 v.2.2.2.1 v.2.2.2.2.1 v.2.2.2.2.2.1 v.2.2.2.2.2.2.1 w.1⟩
def Lx_n37_l3 : Lp U qT50 := ⟨[0, 5, 7, 13], [], qs27, [.arr (.int .u32) false], fun v w => some (v.1.1, v.1.2, v.2.1, v.2.2.1, v.2.2.2.1, w.1)⟩
theorem s_fraction_digit_l3_ok {RT : Ret} {r : qT50} (hx : AllExits F_n37 RT r base_n37_l3 [(4, Lx_n37_l3)]) (hr : qH (fun _ => none) r RT) : ∀ n, LpOk F_n37 RT r (Lh_n37_l3 (s_fraction_digit_l3 n)) (stAt F_n37 [4, 1, 0, 1, 1, 1, 1, 1, 1, 1, 1, 1, 1, 1]) :=
  loop_ok F_n37_ok 4000 (q := [4, 1, 0, 1, 1, 1, 1, 1, 1, 1, 1, 1, 1, 1]) (body := codeAt F_n37 [5, 4, 1, 0, 1, 1, 1, 1, 1, 1, 1, 1, 1, 1, 1]) (live := [0, 5, 7, 13, 130, 131, 132]) (frz := []) (shs := qs6) (sho := [.arr (.int .u32) false]) (fun n v w => s_fraction_digit_l3 n v.1.1 v.1.2 v.2.1 v.2.2.1 v.2.2.2.1 v.2.2.2.2.1 v.2.2.2.2.2.1 v.2.2.2.2.2.2.1 w.1) (cuts := fun n => []) (exits := [(4, Lx_n37_l3)]) (ret := (fun _ => none)) (by kernel_rfl) (fun _ _ => rfl) (fun n v w => by kernel_rfl) (fun n hb => trivial) hx hr
def Lc_n37_l3 : Lp U qT57 := ⟨[0, 5, 7, 13, 130, 131, 132], [], qs6, [.arr (.int .u32) false], fun v w => (s_fraction_digit_l3 big v.1.1 v.1.2 v.2.1 v.2.2.1 v.2.2.2.1 v.2.2.2.2.1 v.2.2.2.2.2.1 v.2.2.2.2.2.2.1 w.1).bind fun (x0, x1, x2, x3, x4, x5) => s_fraction_digit_k4 x0 x1 x2 x3 x4 x5⟩
theorem Lc_n37_l3_ok (r : qT57) : LpOk F_n37 (b_n37 r).enc r (Lc_n37_l3) (stAt F_n37 [4, 1, 0, 1, 1, 1, 1, 1, 1, 1, 1, 1, 1, 1]) := fun v w hi h0 => by
  obtain ⟨x, hx0, h⟩ := bind_some h0
  exact s_fraction_digit_l3_ok (r := x) (RT := (b_n37 r).enc) ⟨⟨[tc F_n37 [1, 1, 1, 1, 1, 1, 1, 1, 1, 1, 1, 1]].map TI'.conc ++ [], by kernel_rfl, fun v' w' hi' h' => by obtain rfl := Option.some.inj h'; exact L_n37_k4_ok r v' w' hi' h⟩, trivial⟩ (fun _ ht => nomatch ht) big v w hi hx0
def L_n37_k3 : Lp U qT57 := ⟨[0, 1, 5, 7, 9, 10], [], qs10, [.arr (.int .u32) false], fun v w => s_fraction_digit_k3 v.1.1 v.1.2 v.2.1 v.2.2.1 v.2.2.2.1 v.2.2.2.2.1 v.2.2.2.2.2.1 w.1⟩
theorem L_n37_k3_ok (r : qT57) : LpOk F_n37 (b_n37 r).enc r (L_n37_k3) ([tc F_n37 [1, 1, 1, 1, 1, 1, 1, 1, 1]].map TI'.conc ++ []) := fun v w hi h => Pt.ev0 F_n37_ok (S := R_n37) (g := g_n37) (b := b_n37) (cuts := [([4, 1, 0, 1, 1, 1, 1, 1, 1, 1, 1, 1, 1, 1], Lc_n37_l3)]) (pre := [tc F_n37 [1, 1, 1, 1, 1, 1, 1, 1, 1]]) (T := Lp.st F_n37 (L_n37_k3) v w) (by kernel_rfl) hi (Eq.trans (by kernel_rfl) h) ⟨by kernel_rfl, trivial⟩ ⟨(Lc_n37_l3_ok r), trivial⟩ fun _ => rfl
def base_n37_l2 : List Eng.Item := .lp (codeAt F_n37 [5, 4, 1, 0, 1, 1, 1, 1, 1, 1, 1, 1]) :: ([.blk 2, tc F_n37 [1, 1, 1, 1, 1, 1, 1, 1, 1]].map TI'.conc ++ [])
def Lh_n37_l2 (rec_ : Nat → Nat → qL0 → Int → Int → Int → Int → qL0 → Int → Int → qL0 → Option qT46) : Lp U qT46 := ⟨[0, 1, 5, 7, 9, 10, 82, 83, 84], [], qs3, [.arr (.int .u32) false], fun v w => rec_ v.1.1 v.1.2 v.2.1 v.2.2.1 v.2.2.2.1 v.2.2.2.2.1 v.2.2.2.2.2.1 v.2.2.2.2.2.2.1 v.2.2.2.2.2.2.2.1 v.2.2.2.2.2.2.2.2.1 w.1⟩
def Lx_n37_l2 : Lp U qT46 := ⟨[0, 1, 5, 7, 9, 10], [], qs10, [.arr (.int .u32) false], fun v w => some (v.1.1, v.1.2, v.2.1, v.2.2.1, v.2.2.2.1, v.2.2.2.2.1, v.2.2.2.2.2.1, w.1)⟩
theorem s_fraction_digit_l2_ok {RT : Ret} {r : qT46} (hx : AllExits F_n37 RT r base_n37_l2 [(2, Lx_n37_l2)]) (hr : qH (fun _ => none) r RT) : ∀ n, LpOk F_n37 RT r (Lh_n37_l2 (s_fraction_digit_l2 n)) (stAt F_n37 [4, 1, 0, 1, 1, 1, 1, 1, 1, 1, 1]) :=
  loop_ok F_n37_ok 4000 (q := [4, 1, 0, 1, 1, 1, 1, 1, 1, 1, 1]) (body := codeAt F_n37 [5, 4, 1, 0, 1, 1, 1, 1, 1, 1, 1, 1]) (live := [0, 1, 5, 7, 9, 10, 82, 83, 84]) (frz := []) (shs := qs3) (sho := [.arr (.int .u32) false]) (fun n v w => s_fraction_digit_l2 n v.1.1 v.1.2 v.2.1 v.2.2.1 v.2.2.2.1 v.2.2.2.2.1 v.2.2.2.2.2.1 v.2.2.2.2.2.2.1 v.2.2.2.2.2.2.2.1 v.2.2.2.2.2.2.2.2.1 w.1) (cuts := fun n => []) (exits := [(2, Lx_n37_l2)]) (ret := (fun _ => none)) (by kernel_rfl) (fun _ _ => rfl) (fun n v w => by kernel_rfl) (fun n hb => trivial) hx hr
def Lc_n37_l2 : Lp U qT57 := ⟨[0, 1, 5, 7, 9, 10, 82, 83, 84], [], qs3, [.arr (.int .u32) false], fun v w => (s_fraction_digit_l2 big v.1.1 v.1.2 v.2.1 v.2.2.1 v.2.2.2.1 v.2.2.2.2.1 v.2.2.2.2.2.1 v.2.2.2.2.2.2.1 v.2.2.2.2.2.2.2.1 v.2.2.2.2.2.2.2.2.1 w.1).bind fun (x0, x1, x2, x3, x4, x5, x6, x7) => s_fraction_digit_k3 x0 x1 x2 x3 x4 x5 x6 x7⟩
theorem Lc_n37_l2_ok (r : qT57) : LpOk F_n37 (b_n37 r).enc r (Lc_n37_l2) (stAt F_n37 [4, 1, 0, 1, 1, 1, 1, 1, 1, 1, 1]) := fun v w hi h0 => by
  obtain ⟨x, hx0, h⟩ := bind_some h0
  exact s_fraction_digit_l2_ok (r := x) (RT := (b_n37 r).enc) ⟨⟨[tc F_n37 [1, 1, 1, 1, 1, 1, 1, 1, 1]].map TI'.conc ++ [], by kernel_rfl, fun v' w' hi' h' => by obtain rfl := Option.some.inj h'; exact L_n37_k3_ok r v' w' hi' h⟩, trivial⟩ (fun _ ht => nomatch ht) big v w hi hx0
def L_n37_k2 : Lp U qT57 := ⟨[0, 1, 5, 7], [], qs25, [.arr (.int .u32) false], fun v w => s_fraction_digit_k2 v.1.1 v.1.2 v.2.1 v.2.2.1 v.2.2.2.1 w.1⟩
theorem L_n37_k2_ok (r : qT57) : LpOk F_n37 (b_n37 r).enc r (L_n37_k2) ([tc F_n37 [1, 1, 1, 1, 1, 1]].map TI'.conc ++ []) := fun v w hi h => Pt.ev0 F_n37_ok (S := R_n37) (g := g_n37) (b := b_n37) (cuts := [([4, 1, 0, 1, 1, 1, 1, 1, 1, 1, 1], Lc_n37_l2)]) (pre := [tc F_n37 [1, 1, 1, 1, 1, 1]]) (T := Lp.st F_n37 (L_n37_k2) v w) (by kernel_rfl) hi (Eq.trans (by kernel_rfl) h) ⟨by kernel_rfl, trivial⟩ ⟨(Lc_n37_l2_ok r), trivial⟩ fun _ => rfl
def base_n37_l1 : List Eng.Item := .lp (codeAt F_n37 [5, 4, 0, 1, 1, 1, 1, 1]) :: ([.blk 0, tc F_n37 [1, 1, 1, 1, 1, 1]].map TI'.conc ++ [])
def Lh_n37_l1 (rec_ : Tr_n37_2) : Lp U qT48 := ⟨[0, 1, 5, 7, 8], [], qs19, [.arr (.int .u32) false], fun v w => rec_ v.1.1 v.1.2 v.2.1 v.2.2.1 v.2.2.2.1 v.2.2.2.2.1 w.1⟩
def Lx_n37_l1 : Lp U qT48 := ⟨[0, 1, 5, 7], [], qs25, [.arr (.int .u32) false], fun v w => some (v.1.1, v.1.2, v.2.1, v.2.2.1, v.2.2.2.1, w.1)⟩
def L_n37_j1 (rec_ : Tr_n37_2) : Lp U qT48 := ⟨[0, 1, 5, 7, 8, 71], [], [.o (.sl (0, 0, 0)), .o (.v (.sl (.int .u32))), qi, .o (.v (.int .u64)), .o (.v (.int .u64)), .o (.v .bool)], [.arr (.int .u32) false], fun v w => s_fraction_digit_j1 rec_ v.1.1 v.1.2 v.2.1 v.2.2.1 v.2.2.2.1 v.2.2.2.2.1 v.2.2.2.2.2.1 w.1⟩
theorem L_n37_j1_ok {RT : Ret} {r : qT48} {rec_ : Tr_n37_2} (hb : LpOk F_n37 RT r (Lh_n37_l1 rec_) base_n37_l1) (hx : AllExits F_n37 RT r base_n37_l1 [(0, Lx_n37_l1)]) (hr : qH (fun _ => none) r RT) : LpOk F_n37 RT r (L_n37_j1 rec_) (stAt F_n37 [1, 0, 5, 4, 0, 1, 1, 1, 1, 1]) := fun v w hi h => Pt.evlAt F_n37_ok (r := r) 4000 (cuts := []) (back := (some (Lh_n37_l1 rec_))) (exits := [(0, Lx_n37_l1)]) (ret := (fun _ => none)) (base := base_n37_l1) (pre := [tc F_n37 [1, 0, 5, 4, 0, 1, 1, 1, 1, 1], tc F_n37 [1, 5, 4, 0, 1, 1, 1, 1, 1]]) (T := Lp.st F_n37 (L_n37_j1 rec_) v w) (by kernel_rfl) hi (Eq.trans (by kernel_rfl) h) ⟨by kernel_rfl, by kernel_rfl, trivial⟩ trivial (fun L hL => by cases hL; exact hb) (fun hn => nomatch hn) hx hr
theorem s_fraction_digit_l1_ok {RT : Ret} {r : qT48} (hx : AllExits F_n37 RT r base_n37_l1 [(0, Lx_n37_l1)]) (hr : qH (fun _ => none) r RT) : ∀ n, LpOk F_n37 RT r (Lh_n37_l1 (s_fraction_digit_l1 n)) (stAt F_n37 [4, 0, 1, 1, 1, 1, 1]) :=
  loop_ok F_n37_ok 4000 (q := [4, 0, 1, 1, 1, 1, 1]) (body := codeAt F_n37 [5, 4, 0, 1, 1, 1, 1, 1]) (live := [0, 1, 5, 7, 8]) (frz := []) (shs := qs19) (sho := [.arr (.int .u32) false]) (fun n v w => s_fraction_digit_l1 n v.1.1 v.1.2 v.2.1 v.2.2.1 v.2.2.2.1 v.2.2.2.2.1 w.1) (cuts := fun n => [([1, 0, 5, 4, 0, 1, 1, 1, 1, 1], L_n37_j1 (s_fraction_digit_l1 n))]) (exits := [(0, Lx_n37_l1)]) (ret := (fun _ => none)) (by kernel_rfl) (fun _ _ => rfl) (fun n v w => by kernel_rfl) (fun n hb => ⟨L_n37_j1_ok hb hx hr, trivial⟩) hx hr
def Lc_n37_l1 : Lp U qT57 := ⟨[0, 1, 5, 7, 8], [], qs19, [.arr (.int .u32) false], fun v w => (s_fraction_digit_l1 big v.1.1 v.1.2 v.2.1 v.2.2.1 v.2.2.2.1 v.2.2.2.2.1 w.1).bind fun (x0, x1, x2, x3, x4, x5) => s_fraction_digit_k2 x0 x1 x2 x3 x4 x5⟩
theorem Lc_n37_l1_ok (r : qT57) : LpOk F_n37 (b_n37 r).enc r (Lc_n37_l1) (stAt F_n37 [4, 0, 1, 1, 1, 1, 1]) := fun v w hi h0 => by
  obtain ⟨x, hx0, h⟩ := bind_some h0
  exact s_fraction_digit_l1_ok (r := x) (RT := (b_n37 r).enc) ⟨⟨[tc F_n37 [1, 1, 1, 1, 1, 1]].map TI'.conc ++ [], by kernel_rfl, fun v' w' hi' h' => by obtain rfl := Option.some.inj h'; exact L_n37_k2_ok r v' w' hi' h⟩, trivial⟩ (fun _ ht => nomatch ht) big v w hi hx0
def S_s_fraction_digit : FSig U := ⟨qT57, [203, 203], [.part, .p], [none, none], [.part (.int .u32), .p (.sl (.int .u32))], fun v => s_fraction_digit_w v.1.1 v.1.2.1 v.1.2.2 v.2.1, b_n37⟩
theorem S_s_fraction_digit_ok : SigOk X0.E 225 S_s_fraction_digit.sig := FSig.ok uok fun v r h0 => ⟨fun_of_pt (F := F_n37) (RT := (b_n37 r).enc) rfl Tryd.func225 (by decide) rfl (Nat.le_of_ble_eq_true (by kernel_rfl)) (have h := (chkLen h0).1; Pt.ev0 F_n37_ok (S := R_n37) (g := g_n37) (b := b_n37) (cuts := [([4, 0, 1, 1, 1, 1, 1], Lc_n37_l1)]) (pre := ([tc0 F_n37] : List TI')) (T := argTS (bldsA S_s_fraction_digit.as v)) (by kernel_rfl) (argTS_inv _) (Eq.trans (by kernel_rfl) h) ⟨rfl, trivial⟩ ⟨(Lc_n37_l1_ok r), trivial⟩ fun _ => rfl), outsLen_of (Eq.trans (by kernel_rfl) (chkLen h0).2)⟩

/-! ### (tablefinder/fraction.words).at -/
def c_n38 : Code := bodyOf Tryd.f210
def F_n38 : FC U := ⟨X0.at 13, Tryd.f210, c_n38, [], [], [.p], [none]⟩
theorem F_n38_ok : FOk F_n38 := fok uok tok0 eok0 mixed rfl trivial
def R_n38 : RSh := ⟨[.p (.int .u32)], []⟩
def g_n38 (v : RVal U R_n38) : Int := v.1.1
def b_n38 (q : Int) : TRet U := R_n38.bld ((q, ()), ())
def S_s_fraction_words_at : FSig U := ⟨Int, [203, 3], [.p, .p], [none, none], [.p (.sl (.int .u32)), .p (.int .i64)], fun v => s_fraction_words_at v.1 v.2.1, b_n38⟩
theorem S_s_fraction_words_at_ok : SigOk X0.E 210 S_s_fraction_words_at.sig := FSig.ok0 F_n38_ok (R := R_n38) (g := g_n38) (cuts := []) (pre := [tc0 F_n38]) rfl Tryd.func210 (by decide) rfl (fun _ => Nat.le_of_ble_eq_true (by kernel_rfl)) (fun _ => rfl) (by kernel_rfl) (fun _ _ h => Eq.trans (by kernel_rfl) h) ⟨rfl, trivial⟩ (fun r => trivial) fun _ => rfl

/-! ### (tablefinder/fraction.words).over -/
def c_n39 : Code := bodyOf Tryd.f207
def F_n39 : FC U := ⟨X0.at 114, Tryd.f207, c_n39, [(186, S_s_fraction_words_compare.sig), (221, S_ss_Clone_fraction_words_uint32.sig), (222, S_s_fraction_words_short.sig), (211, S_s_fraction_trimmed.sig), (223, S_s_math_bits_LeadingZeros32.sig), (224, S_s_fraction_words_shifted.sig), (225, S_s_fraction_digit.sig), (210, S_s_fraction_words_at.sig)], [], [.p, .p], [none, none]⟩
theorem F_n39_ok : FOk F_n39 := fok uok tok0 eok0 mixed rfl ⟨S_s_fraction_words_compare_ok, S_ss_Clone_fraction_words_uint32_ok, S_s_fraction_words_short_ok, S_s_fraction_trimmed_ok, S_s_math_bits_LeadingZeros32_ok, S_s_fraction_words_shifted_ok, S_s_fraction_digit_ok, S_s_fraction_words_at_ok, trivial⟩
def R_n39 : RSh := ⟨[.p (.sl (.int .u32)), .p (.sl (.int .u32))], []⟩
def g_n39 (v : RVal U R_n39) : qT55 := (v.1.1, v.1.2.1)
def b_n39 (q : qT55) : TRet U := R_n39.bld ((q.1, (q.2, ())), ())
def L_n39_k2 : Lp U qT55 := ⟨[12, 14], [], qs36, [.arr (.int .u32) false], fun v w => s_fraction_words_over_k2 v.2.1 w.1⟩
theorem L_n39_k2_ok (r : qT55) : LpOk F_n39 (b_n39 r).enc r (L_n39_k2) ([tc F_n39 [1, 1, 1, 1, 1, 1, 1, 1, 1]].map TI'.conc ++ []) := fun v w hi h => Pt.ev0 F_n39_ok (S := R_n39) (g := g_n39) (b := b_n39) (cuts := []) (pre := [tc F_n39 [1, 1, 1, 1, 1, 1, 1, 1, 1]]) (T := Lp.st F_n39 (L_n39_k2) v w) (by kernel_rfl) hi (Eq.trans (by kernel_rfl) h) ⟨by kernel_rfl, trivial⟩ trivial fun _ => rfl
def base_n39_l2 : List Eng.Item := .lp (codeAt F_n39 [5, 4, 1, 0, 1, 1, 1, 1, 1, 1, 1, 1]) :: ([.blk 3, tc F_n39 [1, 1, 1, 1, 1, 1, 1, 1, 1]].map TI'.conc ++ [])
def Lh_n39_l2 (rec_ : Int → qL0 → Int → Int → qL0 → Option qT55) : Lp U qT55 := ⟨[9, 12, 14, 86, 87], [], qs18, [.arr (.int .u32) false], fun v w => rec_ v.1 v.2.2.1 v.2.2.2.1 v.2.2.2.2.1 w.1⟩
def Lx_n39_l2 : Lp U qT55 := ⟨[12, 14], [], qs36, [.arr (.int .u32) false], fun v w => some (v.2.1, w.1)⟩
theorem s_fraction_words_over_l2_ok {RT : Ret} {r : qT55} (hx : AllExits F_n39 RT r base_n39_l2 [(3, Lx_n39_l2)]) (hr : qH (fun _ => none) r RT) : ∀ n, LpOk F_n39 RT r (Lh_n39_l2 (s_fraction_words_over_l2 n)) (stAt F_n39 [4, 1, 0, 1, 1, 1, 1, 1, 1, 1, 1]) :=
  loop_ok F_n39_ok 4000 (q := [4, 1, 0, 1, 1, 1, 1, 1, 1, 1, 1]) (body := codeAt F_n39 [5, 4, 1, 0, 1, 1, 1, 1, 1, 1, 1, 1]) (live := [9, 12, 14, 86, 87]) (frz := []) (shs := qs18) (sho := [.arr (.int .u32) false]) (fun n v w => s_fraction_words_over_l2 n v.1 v.2.2.1 v.2.2.2.1 v.2.2.2.2.1 w.1) (cuts := fun n => []) (exits := [(3, Lx_n39_l2)]) (ret := (fun _ => none)) (by kernel_rfl) (fun _ _ => rfl) (fun n v w => by kernel_rfl) (fun n hb => trivial) hx hr
def Lc_n39_l2 : Lp U qT55 := ⟨[9, 12, 14, 86, 87], [], qs18, [.arr (.int .u32) false], fun v w => (s_fraction_words_over_l2 big v.1 v.2.2.1 v.2.2.2.1 v.2.2.2.2.1 w.1).bind fun (x0, x1) => s_fraction_words_over_k2 x0 x1⟩
theorem Lc_n39_l2_ok (r : qT55) : LpOk F_n39 (b_n39 r).enc r (Lc_n39_l2) (stAt F_n39 [4, 1, 0, 1, 1, 1, 1, 1, 1, 1, 1]) := fun v w hi h0 => by
  obtain ⟨x, hx0, h⟩ := bind_some h0
  exact s_fraction_words_over_l2_ok (r := x) (RT := (b_n39 r).enc) ⟨⟨[tc F_n39 [1, 1, 1, 1, 1, 1, 1, 1, 1]].map TI'.conc ++ [], by kernel_rfl, fun v' w' hi' h' => by obtain rfl := Option.some.inj h'; exact L_n39_k2_ok r v' w' hi' h⟩, trivial⟩ (fun _ ht => nomatch ht) big v w hi hx0
def L_n39_k1 : Lp U qT55 := ⟨[8, 9, 10, 12], [], qs26, qo38, fun v w => s_fraction_words_over_k1 v.1 v.2.1 w.1 w.2.1⟩
theorem L_n39_k1_ok (r : qT55) : LpOk F_n39 (b_n39 r).enc r (L_n39_k1) ([tc F_n39 [1, 1, 1, 1, 1, 1, 1]].map TI'.conc ++ []) := fun v w hi h => Pt.ev0 F_n39_ok (S := R_n39) (g := g_n39) (b := b_n39) (cuts := [([4, 1, 0, 1, 1, 1, 1, 1, 1, 1, 1], Lc_n39_l2)]) (pre := [tc F_n39 [1, 1, 1, 1, 1, 1, 1]]) (T := Lp.st F_n39 (L_n39_k1) v w) (by kernel_rfl) hi (Eq.trans (by kernel_rfl) h) ⟨by kernel_rfl, trivial⟩ ⟨(Lc_n39_l2_ok r), trivial⟩ fun _ => rfl
def base_n39_l1 : List Eng.Item := .lp (codeAt F_n39 [5, 4, 1, 0, 1, 1, 1, 1, 1, 1]) :: ([.blk 1, tc F_n39 [1, 1, 1, 1, 1, 1, 1]].map TI'.conc ++ [])
def Lh_n39_l1 (rec_ : Int → Int → qL0 → Int → qL0 → qL0 → Option qT51) : Lp U qT51 := ⟨[8, 9, 10, 11, 12, 13], [11], [qi, qi, .o (.full (0, 1, 1)), .o (.v (.sl (.int .u32))), .o (.full (0, 2, 1)), qi], qo38, fun v w => rec_ v.1 v.2.1 v.2.2.2.1 v.2.2.2.2.2.1 w.1 w.2.1⟩
def Lx_n39_l1 : Lp U qT51 := ⟨[8, 9, 10, 12], [], qs26, qo38, fun v w => some (v.1, v.2.1, w.1, w.2.1)⟩
theorem s_fraction_words_over_l1_ok {RT : Ret} {r : qT51} (hx : AllExits F_n39 RT r base_n39_l1 [(1, Lx_n39_l1)]) (hr : qH (fun _ => none) r RT) : ∀ n, LpOk F_n39 RT r (Lh_n39_l1 (s_fraction_words_over_l1 n)) (stAt F_n39 [4, 1, 0, 1, 1, 1, 1, 1, 1]) :=
  loop_ok F_n39_ok 4000 (q := [4, 1, 0, 1, 1, 1, 1, 1, 1]) (body := codeAt F_n39 [5, 4, 1, 0, 1, 1, 1, 1, 1, 1]) (live := [8, 9, 10, 11, 12, 13]) (frz := [11]) (shs := [qi, qi, .o (.full (0, 1, 1)), .o (.v (.sl (.int .u32))), .o (.full (0, 2, 1)), qi]) (sho := qo38) (fun n v w => s_fraction_words_over_l1 n v.1 v.2.1 v.2.2.2.1 v.2.2.2.2.2.1 w.1 w.2.1) (cuts := fun n => []) (exits := [(1, Lx_n39_l1)]) (ret := (fun _ => none)) (by kernel_rfl) (fun _ _ => rfl) (fun n v w => by kernel_rfl) (fun n hb => trivial) hx hr
def Lc_n39_l1 : Lp U qT55 := ⟨[8, 9, 10, 11, 12, 13], [11], [qi, qi, .o (.full (0, 1, 1)), .o (.v (.sl (.int .u32))), .o (.full (0, 2, 1)), qi], qo38, fun v w => (s_fraction_words_over_l1 big v.1 v.2.1 v.2.2.2.1 v.2.2.2.2.2.1 w.1 w.2.1).bind fun (x0, x1, x2, x3) => s_fraction_words_over_k1 x0 x1 x2 x3⟩
theorem Lc_n39_l1_ok (r : qT55) : LpOk F_n39 (b_n39 r).enc r (Lc_n39_l1) (stAt F_n39 [4, 1, 0, 1, 1, 1, 1, 1, 1]) := fun v w hi h0 => by
  obtain ⟨x, hx0, h⟩ := bind_some h0
  exact s_fraction_words_over_l1_ok (r := x) (RT := (b_n39 r).enc) ⟨⟨[tc F_n39 [1, 1, 1, 1, 1, 1, 1]].map TI'.conc ++ [], by kernel_rfl, fun v' w' hi' h' => by obtain rfl := Option.some.inj h'; exact L_n39_k1_ok r v' w' hi' h⟩, trivial⟩ (fun _ ht => nomatch ht) big v w hi hx0
def S_s_fraction_words_over : FSig U := ⟨qT55, [203, 203], [.p, .p], [none, none], [.p (.sl (.int .u32)), .p (.sl (.int .u32))], fun v => s_fraction_words_over v.1 v.2.1, b_n39⟩
theorem S_s_fraction_words_over_ok : SigOk X0.E 207 S_s_fraction_words_over.sig := FSig.ok0 F_n39_ok (R := R_n39) (g := g_n39) (cuts := [([4, 1, 0, 1, 1, 1, 1, 1, 1], Lc_n39_l1)]) (pre := [tc0 F_n39]) rfl Tryd.func207 (by decide) rfl (fun _ => Nat.le_of_ble_eq_true (by kernel_rfl)) (fun _ => rfl) (by kernel_rfl) (fun _ _ h => Eq.trans (by kernel_rfl) h) ⟨rfl, trivial⟩ (fun r => ⟨(Lc_n39_l1_ok r), trivial⟩) fun _ => rfl

/-! ### (tablefinder/fraction.words).common -/
def c_n40 : Code := bodyOf Tryd.f185
def F_n40 : FC U := ⟨X0.at 19, Tryd.f185, c_n40, [(207, S_s_fraction_words_over.sig)], [], [.p], [none]⟩
theorem F_n40_ok : FOk F_n40 := fok uok tok0 eok0 mixed rfl ⟨S_s_fraction_words_over_ok, trivial⟩
def R_n40 : RSh := ⟨[.p (.sl (.int .u32))], []⟩
def g_n40 (v : RVal U R_n40) : qL0 := v.1.1
def b_n40 (q : qL0) : TRet U := R_n40.bld ((q, ()), ())
def L_n40_k1 : Lp U qL0 := ⟨[0], [], qs43, [], fun v w => s_fraction_words_common_k1 v.1⟩
theorem L_n40_k1_ok (r : qL0) : LpOk F_n40 (b_n40 r).enc r (L_n40_k1) ([tc F_n40 [1, 1]].map TI'.conc ++ []) := fun v w hi h => Pt.ev0 F_n40_ok (S := R_n40) (g := g_n40) (b := b_n40) (cuts := []) (pre := [tc F_n40 [1, 1]]) (T := Lp.st F_n40 (L_n40_k1) v w) (by kernel_rfl) hi (Eq.trans (by kernel_rfl) h) ⟨by kernel_rfl, trivial⟩ trivial fun _ => rfl
def base_n40_l1 : List Eng.Item := .lp (codeAt F_n40 [5, 4, 0, 1]) :: ([.blk 0, tc F_n40 [1, 1]].map TI'.conc ++ [])
def Lh_n40_l1 (rec_ : qL0 → qL0 → Option qL0) : Lp U qL0 := ⟨[0, 1], [], qs34, [], fun v w => rec_ v.1 v.2.1⟩
def Lx_n40_l1 : Lp U qL0 := ⟨[0], [], qs43, [], fun v w => some v.1⟩
theorem s_fraction_words_common_l1_ok {RT : Ret} {r : qL0} (hx : AllExits F_n40 RT r base_n40_l1 [(0, Lx_n40_l1)]) (hr : qH (fun _ => none) r RT) : ∀ n, LpOk F_n40 RT r (Lh_n40_l1 (s_fraction_words_common_l1 n)) (stAt F_n40 [4, 0, 1]) :=
  loop_ok F_n40_ok 4000 (q := [4, 0, 1]) (body := codeAt F_n40 [5, 4, 0, 1]) (live := [0, 1]) (frz := []) (shs := qs34) (sho := []) (fun n v w => s_fraction_words_common_l1 n v.1 v.2.1) (cuts := fun n => []) (exits := [(0, Lx_n40_l1)]) (ret := (fun _ => none)) (by kernel_rfl) (fun _ _ => rfl) (fun n v w => by kernel_rfl) (fun n hb => trivial) hx hr
def Lc_n40_l1 : Lp U qL0 := ⟨[0, 1], [], qs34, [], fun v w => (s_fraction_words_common_l1 big v.1 v.2.1).bind fun x0 => s_fraction_words_common_k1 x0⟩
theorem Lc_n40_l1_ok (r : qL0) : LpOk F_n40 (b_n40 r).enc r (Lc_n40_l1) (stAt F_n40 [4, 0, 1]) := fun v w hi h0 => by
  obtain ⟨x, hx0, h⟩ := bind_some h0
  exact s_fraction_words_common_l1_ok (r := x) (RT := (b_n40 r).enc) ⟨⟨[tc F_n40 [1, 1]].map TI'.conc ++ [], by kernel_rfl, fun v' w' hi' h' => by obtain rfl := Option.some.inj h'; exact L_n40_k1_ok r v' w' hi' h⟩, trivial⟩ (fun _ ht => nomatch ht) big v w hi hx0
def S_s_fraction_words_common : FSig U := ⟨qL0, [203, 203], [.p, .p], [none, none], [.p (.sl (.int .u32)), .p (.sl (.int .u32))], fun v => s_fraction_words_common v.1 v.2.1, b_n40⟩
theorem S_s_fraction_words_common_ok : SigOk X0.E 185 S_s_fraction_words_common.sig := FSig.ok0 F_n40_ok (R := R_n40) (g := g_n40) (cuts := [([4, 0, 1], Lc_n40_l1)]) (pre := [tc0 F_n40]) rfl Tryd.func185 (by decide) rfl (fun _ => Nat.le_of_ble_eq_true (by kernel_rfl)) (fun _ => rfl) (by kernel_rfl) (fun _ _ h => Eq.trans (by kernel_rfl) h) ⟨rfl, trivial⟩ (fun r => ⟨(Lc_n40_l1_ok r), trivial⟩) fun _ => rfl

/-! ### tablefinder/fraction.reduced -/
def c_n41 : Code := bodyOf Tryd.f191
def F_n41 : FC U := ⟨X0.at 39, Tryd.f191, c_n41, [(185, S_s_fraction_words_common.sig), (207, S_s_fraction_words_over.sig), (187, S_s_fraction_signed.sig)], [], [.p], [some 1]⟩
theorem F_n41_ok : FOk F_n41 := fok uok tok0 eok0 mixed rfl ⟨S_s_fraction_words_common_ok, S_s_fraction_words_over_ok, S_s_fraction_signed_ok, trivial⟩
def R_n41 : RSh := ⟨[.p (.st 1)], []⟩
def g_n41 (v : RVal U R_n41) : GaFraction := v.1.1
def b_n41 (q : GaFraction) : TRet U := R_n41.bld ((q, ()), ())
def S_s_fraction_reduced : FSig U := ⟨GaFraction, [58, 58], [.p, .p], [some 0, some 0], [.p (.st 0), .p (.st 0)], fun v => s_fraction_reduced v.1 v.2.1, b_n41⟩
theorem S_s_fraction_reduced_ok : SigOk X0.E 191 S_s_fraction_reduced.sig := FSig.ok0 F_n41_ok (R := R_n41) (g := g_n41) (cuts := []) (pre := [tc0 F_n41]) rfl Tryd.func191 (by decide) rfl (fun _ => Nat.le_of_ble_eq_true (by kernel_rfl)) (fun _ => rfl) (by kernel_rfl) (fun _ _ h => Eq.trans (by kernel_rfl) h) ⟨rfl, trivial⟩ (fun r => trivial) fun _ => rfl

/-! ### tablefinder/fraction.Make -/
def c_n42 : Code := bodyOf Tryd.f168
def F_n42 : FC U := ⟨X0.at 22, Tryd.f168, c_n42, [(184, S_s_fraction_bigs.sig), (191, S_s_fraction_reduced.sig)], [], [.p, .p], [some 1, none]⟩
theorem F_n42_ok : FOk F_n42 := fok uok tok0 eok0 mixed rfl ⟨S_s_fraction_bigs_ok, S_s_fraction_reduced_ok, trivial⟩
def R_n42 : RSh := ⟨[.p (.st 1), .p (.int .i64)], []⟩
def g_n42 (v : RVal U R_n42) : qT59 := (v.1.1, v.1.2.1)
def b_n42 (q : qT59) : TRet U := R_n42.bld ((q.1, (q.2, ())), ())
def S_s_fraction_Make : FSig U := ⟨qT59, [58, 58], [.p, .p], [some 0, some 0], [.p (.st 0), .p (.st 0)], fun v => s_fraction_Make v.1 v.2.1, b_n42⟩
theorem S_s_fraction_Make_ok : SigOk X0.E 168 S_s_fraction_Make.sig := FSig.ok0 F_n42_ok (R := R_n42) (g := g_n42) (cuts := []) (pre := [tc0 F_n42]) rfl Tryd.func168 (by decide) rfl (fun _ => Nat.le_of_ble_eq_true (by kernel_rfl)) (fun _ => rfl) (by kernel_rfl) (fun _ _ h => Eq.trans (by kernel_rfl) h) ⟨rfl, trivial⟩ (fun r => trivial) fun _ => rfl

/-! ### tablefinder/fraction.Of -/
def c_n43 : Code := bodyOf Tryd.f130
def F_n43 : FC U := ⟨X0.at 13, Tryd.f130, c_n43, [(169, S_s_fraction_FromInt.sig), (168, S_s_fraction_Make.sig)], [], [.p, .p], [some 1, none]⟩
theorem F_n43_ok : FOk F_n43 := fok uok tok0 eok0 mixed rfl ⟨S_s_fraction_FromInt_ok, S_s_fraction_Make_ok, trivial⟩
def R_n43 : RSh := ⟨[.p (.st 1), .p (.int .i64)], []⟩
def g_n43 (v : RVal U R_n43) : qT59 := (v.1.1, v.1.2.1)
def b_n43 (q : qT59) : TRet U := R_n43.bld ((q.1, (q.2, ())), ())
def S_s_fraction_Of : FSig U := ⟨qT59, [3, 3], [.p, .p], [none, none], [.p (.int .i64), .p (.int .i64)], fun v => s_fraction_Of v.1 v.2.1, b_n43⟩
theorem S_s_fraction_Of_ok : SigOk X0.E 130 S_s_fraction_Of.sig := FSig.ok0 F_n43_ok (R := R_n43) (g := g_n43) (cuts := []) (pre := [tc0 F_n43]) rfl Tryd.func130 (by decide) rfl (fun _ => Nat.le_of_ble_eq_true (by kernel_rfl)) (fun _ => rfl) (by kernel_rfl) (fun _ _ h => Eq.trans (by kernel_rfl) h) ⟨rfl, trivial⟩ (fun r => trivial) fun _ => rfl

/-! ### tablefinder/num.Zero -/
def c_n44 : Code := bodyOf Tryd.f87
def F_n44 : FC U := ⟨X0.at 8, Tryd.f87, c_n44, [(130, S_s_fraction_Of.sig)], [], [.p], [some 1]⟩
theorem F_n44_ok : FOk F_n44 := fok uok tok0 eok0 mixed rfl ⟨S_s_fraction_Of_ok, trivial⟩
def R_n44 : RSh := ⟨[.p (.st 1)], []⟩
def g_n44 (v : RVal U R_n44) : GaFraction := v.1.1
def b_n44 (q : GaFraction) : TRet U := R_n44.bld ((q, ()), ())
def S_s_num_Zero : FSig U := ⟨GaFraction, [], [], [], [], fun v => s_num_Zero, b_n44⟩
theorem S_s_num_Zero_ok : SigOk X0.E 87 S_s_num_Zero.sig := FSig.ok0 F_n44_ok (R := R_n44) (g := g_n44) (cuts := []) (pre := [tc0 F_n44]) rfl Tryd.func87 (by decide) rfl (fun _ => Nat.le_of_ble_eq_true (by kernel_rfl)) (fun _ => rfl) (by kernel_rfl) (fun _ _ h => Eq.trans (by kernel_rfl) h) ⟨rfl, trivial⟩ (fun r => trivial) fun _ => rfl

/-! ### tablefinder/correlation.none -/
def c_n45 : Code := bodyOf Tryd.f90
def F_n45 : FC U := ⟨X0.at 7, Tryd.f90, c_n45, [(87, S_s_num_Zero.sig)], [], [.p], [some 3]⟩
theorem F_n45_ok : FOk F_n45 := fok uok tok0 eok0 mixed rfl ⟨S_s_num_Zero_ok, trivial⟩
def R_n45 : RSh := ⟨[.p (.st 3)], []⟩
def g_n45 (v : RVal U R_n45) : GaMoments := v.1.1
def b_n45 (q : GaMoments) : TRet U := R_n45.bld ((q, ()), ())
def S_s_correlation_none : FSig U := ⟨GaMoments, [], [], [], [], fun v => s_correlation_none, b_n45⟩
theorem S_s_correlation_none_ok : SigOk X0.E 90 S_s_correlation_none.sig := FSig.ok0 F_n45_ok (R := R_n45) (g := g_n45) (cuts := []) (pre := [tc0 F_n45]) rfl Tryd.func90 (by decide) rfl (fun _ => Nat.le_of_ble_eq_true (by kernel_rfl)) (fun _ => rfl) (by kernel_rfl) (fun _ _ h => Eq.trans (by kernel_rfl) h) ⟨rfl, trivial⟩ (fun r => trivial) fun _ => rfl

/-! ### tablefinder/fraction.Valid -/
def c_n46 : Code := bodyOf Tryd.f164
def F_n46 : FC U := ⟨X0.at 34, Tryd.f164, c_n46, [(184, S_s_fraction_bigs.sig), (185, S_s_fraction_words_common.sig), (186, S_s_fraction_words_compare.sig)], [], [.p], [none]⟩
theorem F_n46_ok : FOk F_n46 := fok uok tok0 eok0 mixed rfl ⟨S_s_fraction_bigs_ok, S_s_fraction_words_common_ok, S_s_fraction_words_compare_ok, trivial⟩
def R_n46 : RSh := ⟨[.p .bool], []⟩
def g_n46 (v : RVal U R_n46) : Bool := v.1.1
def b_n46 (q : Bool) : TRet U := R_n46.bld ((q, ()), ())
def L_n46_j1 : Lp U Bool := ⟨[2], [], [.o (.v .bool)], [], fun v w => s_fraction_Valid_j1 v.1⟩
theorem L_n46_j1_ok (r : Bool) : LpOk F_n46 (b_n46 r).enc r (L_n46_j1) (stAt F_n46 [1, 1]) := fun v w hi h => Pt.ev0 F_n46_ok (S := R_n46) (g := g_n46) (b := b_n46) (cuts := []) (pre := [tc F_n46 [1, 1]]) (T := Lp.st F_n46 (L_n46_j1) v w) (by kernel_rfl) hi (Eq.trans (by kernel_rfl) h) ⟨by kernel_rfl, trivial⟩ trivial fun _ => rfl
def S_s_fraction_Valid : FSig U := ⟨Bool, [60], [.p], [some 1], [.p (.st 1)], fun v => s_fraction_Valid v.1, b_n46⟩
theorem S_s_fraction_Valid_ok : SigOk X0.E 164 S_s_fraction_Valid.sig := FSig.ok0 F_n46_ok (R := R_n46) (g := g_n46) (cuts := [([1, 1], L_n46_j1)]) (pre := [tc0 F_n46]) rfl Tryd.func164 (by decide) rfl (fun _ => Nat.le_of_ble_eq_true (by kernel_rfl)) (fun _ => rfl) (by kernel_rfl) (fun _ _ h => Eq.trans (by kernel_rfl) h) ⟨rfl, trivial⟩ (fun r => ⟨(L_n46_j1_ok r), trivial⟩) fun _ => rfl

abbrev Tr_n47_1 : Type := qL0 → qL0 → Int → Int → qL0 → Option qL0
/-! ### (tablefinder/fraction.words).times -/
def c_n47 : Code := bodyOf Tryd.f190
def F_n47 : FC U := ⟨X0.at 67, Tryd.f190, c_n47, [(211, S_s_fraction_trimmed.sig)], [], [.p], [none]⟩
theorem F_n47_ok : FOk F_n47 := fok uok tok0 eok0 mixed rfl ⟨S_s_fraction_trimmed_ok, trivial⟩
def R_n47 : RSh := ⟨[.p (.sl (.int .u32))], []⟩
def g_n47 (v : RVal U R_n47) : qL0 := v.1.1
def b_n47 (q : qL0) : TRet U := R_n47.bld ((q, ()), ())
def L_n47_k2 : Lp U qL0 := ⟨[5], [], [.o (.full (0, 1, 1))], [.arr (.int .u32) false], fun v w => s_fraction_words_times_k2 w.1⟩
theorem L_n47_k2_ok (r : qL0) : LpOk F_n47 (b_n47 r).enc r (L_n47_k2) ([tc F_n47 [1, 1, 1]].map TI'.conc ++ []) := fun v w hi h => Pt.ev0 F_n47_ok (S := R_n47) (g := g_n47) (b := b_n47) (cuts := []) (pre := [tc F_n47 [1, 1, 1]]) (T := Lp.st F_n47 (L_n47_k2) v w) (by kernel_rfl) hi (Eq.trans (by kernel_rfl) h) ⟨by kernel_rfl, trivial⟩ trivial fun _ => rfl
def base_n47_l1 : List Eng.Item := .lp (codeAt F_n47 [5, 4, 1, 0, 1, 1]) :: ([.blk 0, tc F_n47 [1, 1, 1]].map TI'.conc ++ [])
def Lh_n47_l1 (rec_ : Tr_n47_1) : Lp U qL0 := ⟨[1, 5, 17, 18, 19], [], qs13, [.arr (.int .u32) false], fun v w => rec_ v.1 v.2.2.1 v.2.2.2.1 v.2.2.2.2.1 w.1⟩
def Lx_n47_l1 : Lp U qL0 := ⟨[5], [], [.o (.full (0, 1, 1))], [.arr (.int .u32) false], fun v w => some w.1⟩
def L_n47_k1 (rec_ : Tr_n47_1) : Lp U qL0 := ⟨[1, 5, 6, 8, 17, 18, 19], [], qs4, [.arr (.int .u32) false], fun v w => s_fraction_words_times_k1 rec_ v.1 v.2.2.1 v.2.2.2.1 v.2.2.2.2.1 v.2.2.2.2.2.1 v.2.2.2.2.2.2.1 w.1⟩
theorem L_n47_k1_ok {RT : Ret} {r : qL0} {rec_ : Tr_n47_1} (hb : LpOk F_n47 RT r (Lh_n47_l1 rec_) base_n47_l1) (hx : AllExits F_n47 RT r base_n47_l1 [(0, Lx_n47_l1)]) (hr : qH (fun _ => none) r RT) : LpOk F_n47 RT r (L_n47_k1 rec_) ([tc F_n47 [1, 1, 1, 4, 0, 1, 1, 5, 4, 1, 0, 1, 1], .blk 1, tc F_n47 [1, 1, 1, 5, 4, 1, 0, 1, 1]].map TI'.conc ++ base_n47_l1) := fun v w hi h => Pt.evlAt F_n47_ok (r := r) 4000 (cuts := []) (back := (some (Lh_n47_l1 rec_))) (exits := [(0, Lx_n47_l1)]) (ret := (fun _ => none)) (base := base_n47_l1) (pre := [tc F_n47 [1, 1, 1, 4, 0, 1, 1, 5, 4, 1, 0, 1, 1], .blk 1, tc F_n47 [1, 1, 1, 5, 4, 1, 0, 1, 1]]) (T := Lp.st F_n47 (L_n47_k1 rec_) v w) (by kernel_rfl) hi (Eq.trans (by kernel_rfl) h) ⟨by kernel_rfl, by kernel_rfl, trivial⟩ trivial (fun L hL => by cases hL; exact hb) (fun hn => nomatch hn) hx hr
def base_n47_l2 : List Eng.Item := .lp (codeAt F_n47 [5, 4, 1, 0, 1, 1, 4, 0, 1, 1, 5, 4, 1, 0, 1, 1]) :: ([.blk 2, tc F_n47 [1, 1, 1, 4, 0, 1, 1, 5, 4, 1, 0, 1, 1], .blk 1, tc F_n47 [1, 1, 1, 5, 4, 1, 0, 1, 1]].map TI'.conc ++ base_n47_l1)
def Lh_n47_l2 (rec_ : qL0 → Int → Int → Int → qL0 → Int → Int → qL0 → Int → Int → qL0 → Option qT45) : Lp U qT45 := ⟨[1, 5, 6, 7, 8, 17, 18, 19, 24, 25, 26], [], qs2, [.arr (.int .u32) false], fun v w => rec_ v.1 v.2.2.1 v.2.2.2.1 v.2.2.2.2.1 v.2.2.2.2.2.1 v.2.2.2.2.2.2.1 v.2.2.2.2.2.2.2.1 v.2.2.2.2.2.2.2.2.1 v.2.2.2.2.2.2.2.2.2.1 v.2.2.2.2.2.2.2.2.2.2.1 w.1⟩
def Lx_n47_l2 : Lp U qT45 := ⟨[1, 5, 6, 8, 17, 18, 19], [], qs4, [.arr (.int .u32) false], fun v w => some (v.1, v.2.2.1, v.2.2.2.1, v.2.2.2.2.1, v.2.2.2.2.2.1, v.2.2.2.2.2.2.1, w.1)⟩
theorem s_fraction_words_times_l2_ok {RT : Ret} {r : qT45} (hx : AllExits F_n47 RT r base_n47_l2 [(2, Lx_n47_l2)]) (hr : qH (fun _ => none) r RT) : ∀ n, LpOk F_n47 RT r (Lh_n47_l2 (s_fraction_words_times_l2 n)) (stAt F_n47 [4, 1, 0, 1, 1, 4, 0, 1, 1, 5, 4, 1, 0, 1, 1]) :=
  loop_ok F_n47_ok 4000 (q := [4, 1, 0, 1, 1, 4, 0, 1, 1, 5, 4, 1, 0, 1, 1]) (body := codeAt F_n47 [5, 4, 1, 0, 1, 1, 4, 0, 1, 1, 5, 4, 1, 0, 1, 1]) (live := [1, 5, 6, 7, 8, 17, 18, 19, 24, 25, 26]) (frz := []) (shs := qs2) (sho := [.arr (.int .u32) false]) (fun n v w => s_fraction_words_times_l2 n v.1 v.2.2.1 v.2.2.2.1 v.2.2.2.2.1 v.2.2.2.2.2.1 v.2.2.2.2.2.2.1 v.2.2.2.2.2.2.2.1 v.2.2.2.2.2.2.2.2.1 v.2.2.2.2.2.2.2.2.2.1 v.2.2.2.2.2.2.2.2.2.2.1 w.1) (cuts := fun n => []) (exits := [(2, Lx_n47_l2)]) (ret := (fun _ => none)) (by kernel_rfl) (fun _ _ => rfl) (fun n v w => by kernel_rfl) (fun n hb => trivial) hx hr
def Lc_n47_l2 (rec_ : Tr_n47_1) : Lp U qL0 := ⟨[1, 5, 6, 7, 8, 17, 18, 19, 24, 25, 26], [], qs2, [.arr (.int .u32) false], fun v w => (s_fraction_words_times_l2 big v.1 v.2.2.1 v.2.2.2.1 v.2.2.2.2.1 v.2.2.2.2.2.1 v.2.2.2.2.2.2.1 v.2.2.2.2.2.2.2.1 v.2.2.2.2.2.2.2.2.1 v.2.2.2.2.2.2.2.2.2.1 v.2.2.2.2.2.2.2.2.2.2.1 w.1).bind fun (x0, x1, x2, x3, x4, x5, x6) => s_fraction_words_times_k1 rec_ x0 x1 x2 x3 x4 x5 x6⟩
theorem Lc_n47_l2_ok {RT : Ret} {r : qL0} {rec_ : Tr_n47_1} (hb : LpOk F_n47 RT r (Lh_n47_l1 rec_) base_n47_l1) (hx : AllExits F_n47 RT r base_n47_l1 [(0, Lx_n47_l1)]) (hr : qH (fun _ => none) r RT) : LpOk F_n47 RT r (Lc_n47_l2 rec_) (stAt F_n47 [4, 1, 0, 1, 1, 4, 0, 1, 1, 5, 4, 1, 0, 1, 1]) := fun v w hi h0 => by
  obtain ⟨x, hx0, h⟩ := bind_some h0
  exact s_fraction_words_times_l2_ok (r := x) (RT := RT) ⟨⟨[tc F_n47 [1, 1, 1, 4, 0, 1, 1, 5, 4, 1, 0, 1, 1], .blk 1, tc F_n47 [1, 1, 1, 5, 4, 1, 0, 1, 1]].map TI'.conc ++ base_n47_l1, by kernel_rfl, fun v' w' hi' h' => by obtain rfl := Option.some.inj h'; exact L_n47_k1_ok hb hx hr v' w' hi' h⟩, trivial⟩ (fun _ ht => nomatch ht) big v w hi hx0
theorem s_fraction_words_times_l1_ok {RT : Ret} {r : qL0} (hx : AllExits F_n47 RT r base_n47_l1 [(0, Lx_n47_l1)]) (hr : qH (fun _ => none) r RT) : ∀ n, LpOk F_n47 RT r (Lh_n47_l1 (s_fraction_words_times_l1 n)) (stAt F_n47 [4, 1, 0, 1, 1]) :=
  loop_ok F_n47_ok 4000 (q := [4, 1, 0, 1, 1]) (body := codeAt F_n47 [5, 4, 1, 0, 1, 1]) (live := [1, 5, 17, 18, 19]) (frz := []) (shs := qs13) (sho := [.arr (.int .u32) false]) (fun n v w => s_fraction_words_times_l1 n v.1 v.2.2.1 v.2.2.2.1 v.2.2.2.2.1 w.1) (cuts := fun n => [([4, 1, 0, 1, 1, 4, 0, 1, 1, 5, 4, 1, 0, 1, 1], Lc_n47_l2 (s_fraction_words_times_l1 n))]) (exits := [(0, Lx_n47_l1)]) (ret := (fun _ => none)) (by kernel_rfl) (fun _ _ => rfl) (fun n v w => by kernel_rfl) (fun n hb => ⟨Lc_n47_l2_ok hb hx hr, trivial⟩) hx hr
def Lc_n47_l1 : Lp U qL0 := ⟨[1, 5, 17, 18, 19], [], qs13, [.arr (.int .u32) false], fun v w => (s_fraction_words_times_l1 big v.1 v.2.2.1 v.2.2.2.1 v.2.2.2.2.1 w.1).bind fun x0 => s_fraction_words_times_k2 x0⟩
theorem Lc_n47_l1_ok (r : qL0) : LpOk F_n47 (b_n47 r).enc r (Lc_n47_l1) (stAt F_n47 [4, 1, 0, 1, 1]) := fun v w hi h0 => by
  obtain ⟨x, hx0, h⟩ := bind_some h0
  exact s_fraction_words_times_l1_ok (r := x) (RT := (b_n47 r).enc) ⟨⟨[tc F_n47 [1, 1, 1]].map TI'.conc ++ [], by kernel_rfl, fun v' w' hi' h' => by obtain rfl := Option.some.inj h'; exact L_n47_k2_ok r v' w' hi' h⟩, trivial⟩ (fun _ ht => nomatch ht) big v w hi hx0
def S_s_fraction_words_times : FSig U := ⟨qL0, [203, 203], [.p, .p], [none, none], [.p (.sl (.int .u32)), .p (.sl (.int .u32))], fun v => s_fraction_words_times v.1 v.2.1, b_n47⟩
theorem S_s_fraction_words_times_ok : SigOk X0.E 190 S_s_fraction_words_times.sig := FSig.ok0 F_n47_ok (R := R_n47) (g := g_n47) (cuts := [([4, 1, 0, 1, 1], Lc_n47_l1)]) (pre := [tc0 F_n47]) rfl Tryd.func190 (by decide) rfl (fun _ => Nat.le_of_ble_eq_true (by kernel_rfl)) (fun _ => rfl) (by kernel_rfl) (fun _ _ h => Eq.trans (by kernel_rfl) h) ⟨rfl, trivial⟩ (fun r => ⟨(Lc_n47_l1_ok r), trivial⟩) fun _ => rfl

/-! ### tablefinder/fraction.product -/
def c_n48 : Code := bodyOf Tryd.f166
def F_n48 : FC U := ⟨X0.at 16, Tryd.f166, c_n48, [(190, S_s_fraction_words_times.sig), (187, S_s_fraction_signed.sig)], [], [.p], [some 0]⟩
theorem F_n48_ok : FOk F_n48 := fok uok tok0 eok0 mixed rfl ⟨S_s_fraction_words_times_ok, S_s_fraction_signed_ok, trivial⟩
def R_n48 : RSh := ⟨[.p (.st 0)], []⟩
def g_n48 (v : RVal U R_n48) : GaBig := v.1.1
def b_n48 (q : GaBig) : TRet U := R_n48.bld ((q, ()), ())
def S_s_fraction_product : FSig U := ⟨GaBig, [58, 58], [.p, .p], [some 0, some 0], [.p (.st 0), .p (.st 0)], fun v => s_fraction_product v.1 v.2.1, b_n48⟩
theorem S_s_fraction_product_ok : SigOk X0.E 166 S_s_fraction_product.sig := FSig.ok0 F_n48_ok (R := R_n48) (g := g_n48) (cuts := []) (pre := [tc0 F_n48]) rfl Tryd.func166 (by decide) rfl (fun _ => Nat.le_of_ble_eq_true (by kernel_rfl)) (fun _ => rfl) (by kernel_rfl) (fun _ _ h => Eq.trans (by kernel_rfl) h) ⟨rfl, trivial⟩ (fun r => trivial) fun _ => rfl

/-! ### (tablefinder/fraction.words).plus -/
def c_n49 : Code := bodyOf Tryd.f188
def F_n49 : FC U := ⟨X0.at 45, Tryd.f188, c_n49, [(210, S_s_fraction_words_at.sig), (209, S_s_math_bits_Add32.sig), (211, S_s_fraction_trimmed.sig)], [], [.p], [none]⟩
theorem F_n49_ok : FOk F_n49 := fok uok tok0 eok0 mixed rfl ⟨S_s_fraction_words_at_ok, S_s_math_bits_Add32_ok, S_s_fraction_trimmed_ok, trivial⟩
def R_n49 : RSh := ⟨[.p (.sl (.int .u32))], []⟩
def g_n49 (v : RVal U R_n49) : qL0 := v.1.1
def b_n49 (q : qL0) : TRet U := R_n49.bld ((q, ()), ())
def L_n49_k1 : Lp U qL0 := ⟨[5, 6], [], qs39, [.arr (.int .u32) false], fun v w => s_fraction_words_plus_k1 v.2.1 w.1⟩
theorem L_n49_k1_ok (r : qL0) : LpOk F_n49 (b_n49 r).enc r (L_n49_k1) ([tc F_n49 [1, 1, 1, 1]].map TI'.conc ++ []) := fun v w hi h => Pt.ev0 F_n49_ok (S := R_n49) (g := g_n49) (b := b_n49) (cuts := []) (pre := [tc F_n49 [1, 1, 1, 1]]) (T := Lp.st F_n49 (L_n49_k1) v w) (by kernel_rfl) hi (Eq.trans (by kernel_rfl) h) ⟨by kernel_rfl, trivial⟩ trivial fun _ => rfl
def base_n49_l1 : List Eng.Item := .lp (codeAt F_n49 [5, 4, 1, 0, 1, 1, 1]) :: ([.blk 0, tc F_n49 [1, 1, 1, 1]].map TI'.conc ++ [])
def Lh_n49_l1 (rec_ : qL0 → qL0 → Int → Int → Int → qL0 → Option qT57) : Lp U qT57 := ⟨[0, 1, 5, 6, 20, 21], [], qs7, [.arr (.int .u32) false], fun v w => rec_ v.1 v.2.1 v.2.2.2.1 v.2.2.2.2.1 v.2.2.2.2.2.1 w.1⟩
def Lx_n49_l1 : Lp U qT57 := ⟨[5, 6], [], qs39, [.arr (.int .u32) false], fun v w => some (v.2.1, w.1)⟩
theorem s_fraction_words_plus_l1_ok {RT : Ret} {r : qT57} (hx : AllExits F_n49 RT r base_n49_l1 [(0, Lx_n49_l1)]) (hr : qH (fun _ => none) r RT) : ∀ n, LpOk F_n49 RT r (Lh_n49_l1 (s_fraction_words_plus_l1 n)) (stAt F_n49 [4, 1, 0, 1, 1, 1]) :=
  loop_ok F_n49_ok 4000 (q := [4, 1, 0, 1, 1, 1]) (body := codeAt F_n49 [5, 4, 1, 0, 1, 1, 1]) (live := [0, 1, 5, 6, 20, 21]) (frz := []) (shs := qs7) (sho := [.arr (.int .u32) false]) (fun n v w => s_fraction_words_plus_l1 n v.1 v.2.1 v.2.2.2.1 v.2.2.2.2.1 v.2.2.2.2.2.1 w.1) (cuts := fun n => []) (exits := [(0, Lx_n49_l1)]) (ret := (fun _ => none)) (by kernel_rfl) (fun _ _ => rfl) (fun n v w => by kernel_rfl) (fun n hb => trivial) hx hr
def Lc_n49_l1 : Lp U qL0 := ⟨[0, 1, 5, 6, 20, 21], [], qs7, [.arr (.int .u32) false], fun v w => (s_fraction_words_plus_l1 big v.1 v.2.1 v.2.2.2.1 v.2.2.2.2.1 v.2.2.2.2.2.1 w.1).bind fun (x0, x1) => s_fraction_words_plus_k1 x0 x1⟩
theorem Lc_n49_l1_ok (r : qL0) : LpOk F_n49 (b_n49 r).enc r (Lc_n49_l1) (stAt F_n49 [4, 1, 0, 1, 1, 1]) := fun v w hi h0 => by
  obtain ⟨x, hx0, h⟩ := bind_some h0
  exact s_fraction_words_plus_l1_ok (r := x) (RT := (b_n49 r).enc) ⟨⟨[tc F_n49 [1, 1, 1, 1]].map TI'.conc ++ [], by kernel_rfl, fun v' w' hi' h' => by obtain rfl := Option.some.inj h'; exact L_n49_k1_ok r v' w' hi' h⟩, trivial⟩ (fun _ ht => nomatch ht) big v w hi hx0
def S_s_fraction_words_plus : FSig U := ⟨qL0, [203, 203], [.p, .p], [none, none], [.p (.sl (.int .u32)), .p (.sl (.int .u32))], fun v => s_fraction_words_plus v.1 v.2.1, b_n49⟩
theorem S_s_fraction_words_plus_ok : SigOk X0.E 188 S_s_fraction_words_plus.sig := FSig.ok0 F_n49_ok (R := R_n49) (g := g_n49) (cuts := [([4, 1, 0, 1, 1, 1], Lc_n49_l1)]) (pre := [tc0 F_n49]) rfl Tryd.func188 (by decide) rfl (fun _ => Nat.le_of_ble_eq_true (by kernel_rfl)) (fun _ => rfl) (by kernel_rfl) (fun _ _ h => Eq.trans (by kernel_rfl) h) ⟨rfl, trivial⟩ (fun r => ⟨(Lc_n49_l1_ok r), trivial⟩) fun _ => rfl

/-! ### (tablefinder/fraction.words).minus -/
def c_n50 : Code := bodyOf Tryd.f189
def F_n50 : FC U := ⟨X0.at 34, Tryd.f189, c_n50, [(210, S_s_fraction_words_at.sig), (212, S_s_math_bits_Sub32.sig), (211, S_s_fraction_trimmed.sig)], [], [.p], [none]⟩
theorem F_n50_ok : FOk F_n50 := fok uok tok0 eok0 mixed rfl ⟨S_s_fraction_words_at_ok, S_s_math_bits_Sub32_ok, S_s_fraction_trimmed_ok, trivial⟩
def R_n50 : RSh := ⟨[.p (.sl (.int .u32))], []⟩
def g_n50 (v : RVal U R_n50) : qL0 := v.1.1
def b_n50 (q : qL0) : TRet U := R_n50.bld ((q, ()), ())
def L_n50_k1 : Lp U qL0 := ⟨[5], [], [.o (.full (0, 1, 1))], [.arr (.int .u32) false], fun v w => s_fraction_words_minus_k1 w.1⟩
theorem L_n50_k1_ok (r : qL0) : LpOk F_n50 (b_n50 r).enc r (L_n50_k1) ([tc F_n50 [1, 1, 1, 1]].map TI'.conc ++ []) := fun v w hi h => Pt.ev0 F_n50_ok (S := R_n50) (g := g_n50) (b := b_n50) (cuts := []) (pre := [tc F_n50 [1, 1, 1, 1]]) (T := Lp.st F_n50 (L_n50_k1) v w) (by kernel_rfl) hi (Eq.trans (by kernel_rfl) h) ⟨by kernel_rfl, trivial⟩ trivial fun _ => rfl
def base_n50_l1 : List Eng.Item := .lp (codeAt F_n50 [5, 4, 1, 0, 1, 1, 1]) :: ([.blk 0, tc F_n50 [1, 1, 1, 1]].map TI'.conc ++ [])
def Lh_n50_l1 (rec_ : qL0 → qL0 → Int → Int → Int → qL0 → Option qL0) : Lp U qL0 := ⟨[0, 1, 5, 6, 12, 13], [], qs7, [.arr (.int .u32) false], fun v w => rec_ v.1 v.2.1 v.2.2.2.1 v.2.2.2.2.1 v.2.2.2.2.2.1 w.1⟩
def Lx_n50_l1 : Lp U qL0 := ⟨[5], [], [.o (.full (0, 1, 1))], [.arr (.int .u32) false], fun v w => some w.1⟩
theorem s_fraction_words_minus_l1_ok {RT : Ret} {r : qL0} (hx : AllExits F_n50 RT r base_n50_l1 [(0, Lx_n50_l1)]) (hr : qH (fun _ => none) r RT) : ∀ n, LpOk F_n50 RT r (Lh_n50_l1 (s_fraction_words_minus_l1 n)) (stAt F_n50 [4, 1, 0, 1, 1, 1]) :=
  loop_ok F_n50_ok 4000 (q := [4, 1, 0, 1, 1, 1]) (body := codeAt F_n50 [5, 4, 1, 0, 1, 1, 1]) (live := [0, 1, 5, 6, 12, 13]) (frz := []) (shs := qs7) (sho := [.arr (.int .u32) false]) (fun n v w => s_fraction_words_minus_l1 n v.1 v.2.1 v.2.2.2.1 v.2.2.2.2.1 v.2.2.2.2.2.1 w.1) (cuts := fun n => []) (exits := [(0, Lx_n50_l1)]) (ret := (fun _ => none)) (by kernel_rfl) (fun _ _ => rfl) (fun n v w => by kernel_rfl) (fun n hb => trivial) hx hr
def Lc_n50_l1 : Lp U qL0 := ⟨[0, 1, 5, 6, 12, 13], [], qs7, [.arr (.int .u32) false], fun v w => (s_fraction_words_minus_l1 big v.1 v.2.1 v.2.2.2.1 v.2.2.2.2.1 v.2.2.2.2.2.1 w.1).bind fun x0 => s_fraction_words_minus_k1 x0⟩
theorem Lc_n50_l1_ok (r : qL0) : LpOk F_n50 (b_n50 r).enc r (Lc_n50_l1) (stAt F_n50 [4, 1, 0, 1, 1, 1]) := fun v w hi h0 => by
  obtain ⟨x, hx0, h⟩ := bind_some h0
  exact s_fraction_words_minus_l1_ok (r := x) (RT := (b_n50 r).enc) ⟨⟨[tc F_n50 [1, 1, 1, 1]].map TI'.conc ++ [], by kernel_rfl, fun v' w' hi' h' => by obtain rfl := Option.some.inj h'; exact L_n50_k1_ok r v' w' hi' h⟩, trivial⟩ (fun _ ht => nomatch ht) big v w hi hx0
def S_s_fraction_words_minus : FSig U := ⟨qL0, [203, 203], [.p, .p], [none, none], [.p (.sl (.int .u32)), .p (.sl (.int .u32))], fun v => s_fraction_words_minus v.1 v.2.1, b_n50⟩
theorem S_s_fraction_words_minus_ok : SigOk X0.E 189 S_s_fraction_words_minus.sig := FSig.ok0 F_n50_ok (R := R_n50) (g := g_n50) (cuts := [([4, 1, 0, 1, 1, 1], Lc_n50_l1)]) (pre := [tc0 F_n50]) rfl Tryd.func189 (by decide) rfl (fun _ => Nat.le_of_ble_eq_true (by kernel_rfl)) (fun _ => rfl) (by kernel_rfl) (fun _ _ h => Eq.trans (by kernel_rfl) h) ⟨rfl, trivial⟩ (fun r => ⟨(Lc_n50_l1_ok r), trivial⟩) fun _ => rfl

/-! ### tablefinder/fraction.sum -/
def c_n51 : Code := bodyOf Tryd.f165
def F_n51 : FC U := ⟨X0.at 40, Tryd.f165, c_n51, [(188, S_s_fraction_words_plus.sig), (187, S_s_fraction_signed.sig), (186, S_s_fraction_words_compare.sig), (189, S_s_fraction_words_minus.sig)], [], [.p], [some 0]⟩
theorem F_n51_ok : FOk F_n51 := fok uok tok0 eok0 mixed rfl ⟨S_s_fraction_words_plus_ok, S_s_fraction_signed_ok, S_s_fraction_words_compare_ok, S_s_fraction_words_minus_ok, trivial⟩
def R_n51 : RSh := ⟨[.p (.st 0)], []⟩
def g_n51 (v : RVal U R_n51) : GaBig := v.1.1
def b_n51 (q : GaBig) : TRet U := R_n51.bld ((q, ()), ())
def S_s_fraction_sum : FSig U := ⟨GaBig, [58, 58], [.p, .p], [some 0, some 0], [.p (.st 0), .p (.st 0)], fun v => s_fraction_sum v.1 v.2.1, b_n51⟩
theorem S_s_fraction_sum_ok : SigOk X0.E 165 S_s_fraction_sum.sig := FSig.ok0 F_n51_ok (R := R_n51) (g := g_n51) (cuts := []) (pre := [tc0 F_n51]) rfl Tryd.func165 (by decide) rfl (fun _ => Nat.le_of_ble_eq_true (by kernel_rfl)) (fun _ => rfl) (by kernel_rfl) (fun _ _ h => Eq.trans (by kernel_rfl) h) ⟨rfl, trivial⟩ (fun r => trivial) fun _ => rfl

/-! ### tablefinder/fraction.plus -/
def c_n52 : Code := bodyOf Tryd.f176
def F_n52 : FC U := ⟨X0.at 22, Tryd.f176, c_n52, [(166, S_s_fraction_product.sig), (165, S_s_fraction_sum.sig)], [], [.p, .p], [some 0, some 0]⟩
theorem F_n52_ok : FOk F_n52 := fok uok tok0 eok0 mixed rfl ⟨S_s_fraction_product_ok, S_s_fraction_sum_ok, trivial⟩
def R_n52 : RSh := ⟨[.p (.st 0), .p (.st 0)], []⟩
def g_n52 (v : RVal U R_n52) : qT60 := (v.1.1, v.1.2.1)
def b_n52 (q : qT60) : TRet U := R_n52.bld ((q.1, (q.2, ())), ())
def S_s_fraction_plus : FSig U := ⟨qT60, [60, 60], [.p, .p], [some 1, some 1], [.p (.st 1), .p (.st 1)], fun v => s_fraction_plus v.1 v.2.1, b_n52⟩
theorem S_s_fraction_plus_ok : SigOk X0.E 176 S_s_fraction_plus.sig := FSig.ok0 F_n52_ok (R := R_n52) (g := g_n52) (cuts := []) (pre := [tc0 F_n52]) rfl Tryd.func176 (by decide) rfl (fun _ => Nat.le_of_ble_eq_true (by kernel_rfl)) (fun _ => rfl) (by kernel_rfl) (fun _ _ h => Eq.trans (by kernel_rfl) h) ⟨rfl, trivial⟩ (fun r => trivial) fun _ => rfl

/-! ### (tablefinder/fraction.operation).result -/
def c_n53 : Code := bodyOf Tryd.f171
def F_n53 : FC U := ⟨X0.at 47, Tryd.f171, c_n53, [(164, S_s_fraction_Valid.sig), (176, S_s_fraction_plus.sig), (191, S_s_fraction_reduced.sig)], [], [.p, .p], [some 1, none]⟩
theorem F_n53_ok : FOk F_n53 := fok uok tok0 eok0 mixed rfl ⟨S_s_fraction_Valid_ok, S_s_fraction_plus_ok, S_s_fraction_reduced_ok, trivial⟩
def R_n53 : RSh := ⟨[.p (.st 1), .p (.int .i64)], []⟩
def g_n53 (v : RVal U R_n53) : qT59 := (v.1.1, v.1.2.1)
def b_n53 (q : qT59) : TRet U := R_n53.bld ((q.1, (q.2, ())), ())
def L_n53_j1 : Lp U qT59 := ⟨[0, 4, 5, 6, 18], [], [.fn 176 [] [], .o (.ptr (0, 1, 1) 0 0), .o (.ptr (0, 2, 1) 0 0), .o (.ptr (0, 3, 1) 0 0), .o (.v .bool)], qo5, fun v w => s_fraction_operation_result_j1 v.2.2.2.2.1 w.1 w.2.1 w.2.2.1.1 w.2.2.1.2.2.1 w.2.2.2.1 w.2.2.2.2.1⟩
theorem L_n53_j1_ok (r : qT59) : LpOk F_n53 (b_n53 r).enc r (L_n53_j1) (stAt F_n53 [1, 0, 1]) := fun v w hi h => Pt.ev0 F_n53_ok (S := R_n53) (g := g_n53) (b := b_n53) (cuts := []) (pre := [tc F_n53 [1, 0, 1], tc F_n53 [1, 1]]) (T := Lp.st F_n53 (L_n53_j1) v w) (by kernel_rfl) hi (Eq.trans (by kernel_rfl) h) ⟨by kernel_rfl, by kernel_rfl, trivial⟩ trivial fun _ => rfl
def S_s_fraction_operation_result : FSig U := ⟨qT59, [189, 60, 60], [.p, .p, .p], [none, some 1, some 1], [.fn 176 [] [], .p (.st 1), .p (.st 1)], fun v => s_fraction_operation_result v.2.1 v.2.2.1, b_n53⟩
theorem S_s_fraction_operation_result_ok : SigOk X0.E 171 S_s_fraction_operation_result.sig := FSig.ok0 F_n53_ok (R := R_n53) (g := g_n53) (cuts := [([1, 0, 1], L_n53_j1)]) (pre := [tc0 F_n53]) rfl Tryd.func171 (by decide) rfl (fun _ => Nat.le_of_ble_eq_true (by kernel_rfl)) (fun _ => rfl) (by kernel_rfl) (fun _ _ h => Eq.trans (by kernel_rfl) h) ⟨rfl, trivial⟩ (fun r => ⟨(L_n53_j1_ok r), trivial⟩) fun _ => rfl

/-! ### tablefinder/fraction.Add -/
def c_n54 : Code := bodyOf Tryd.f141
def F_n54 : FC U := ⟨X0.at 11, Tryd.f141, c_n54, [(171, S_s_fraction_operation_result.sig)], [], [.p, .p], [some 1, none]⟩
theorem F_n54_ok : FOk F_n54 := fok uok tok0 eok0 mixed rfl ⟨S_s_fraction_operation_result_ok, trivial⟩
def R_n54 : RSh := ⟨[.p (.st 1), .p (.int .i64)], []⟩
def g_n54 (v : RVal U R_n54) : qT59 := (v.1.1, v.1.2.1)
def b_n54 (q : qT59) : TRet U := R_n54.bld ((q.1, (q.2, ())), ())
def S_s_fraction_Add : FSig U := ⟨qT59, [60, 60], [.p, .p], [some 1, some 1], [.p (.st 1), .p (.st 1)], fun v => s_fraction_Add v.1 v.2.1, b_n54⟩
theorem S_s_fraction_Add_ok : SigOk X0.E 141 S_s_fraction_Add.sig := FSig.ok0 F_n54_ok (R := R_n54) (g := g_n54) (cuts := []) (pre := [tc0 F_n54]) rfl Tryd.func141 (by decide) rfl (fun _ => Nat.le_of_ble_eq_true (by kernel_rfl)) (fun _ => rfl) (by kernel_rfl) (fun _ _ h => Eq.trans (by kernel_rfl) h) ⟨rfl, trivial⟩ (fun r => trivial) fun _ => rfl

/-! ### tablefinder/num.first -/
def c_n55 : Code := bodyOf Tryd.f131
def F_n55 : FC U := ⟨X0.at 6, Tryd.f131, c_n55, [], [], [.p], [some 1]⟩
theorem F_n55_ok : FOk F_n55 := fok uok tok0 eok0 mixed rfl trivial
def R_n55 : RSh := ⟨[.p (.st 1)], []⟩
def g_n55 (v : RVal U R_n55) : GaFraction := v.1.1
def b_n55 (q : GaFraction) : TRet U := R_n55.bld ((q, ()), ())
def S_s_num_first : FSig U := ⟨GaFraction, [60, 41], [.p, .p], [some 1, none], [.p (.st 1), .p (.int .i64)], fun v => s_num_first v.1 v.2.1, b_n55⟩
theorem S_s_num_first_ok : SigOk X0.E 131 S_s_num_first.sig := FSig.ok0 F_n55_ok (R := R_n55) (g := g_n55) (cuts := []) (pre := [tc0 F_n55]) rfl Tryd.func131 (by decide) rfl (fun _ => Nat.le_of_ble_eq_true (by kernel_rfl)) (fun _ => rfl) (by kernel_rfl) (fun _ _ h => Eq.trans (by kernel_rfl) h) ⟨rfl, trivial⟩ (fun r => trivial) fun _ => rfl

/-! ### tablefinder/num.Add -/
def c_n56 : Code := bodyOf Tryd.f96
def F_n56 : FC U := ⟨X0.at 11, Tryd.f96, c_n56, [(141, S_s_fraction_Add.sig), (131, S_s_num_first.sig)], [], [.p], [some 1]⟩
theorem F_n56_ok : FOk F_n56 := fok uok tok0 eok0 mixed rfl ⟨S_s_fraction_Add_ok, S_s_num_first_ok, trivial⟩
def R_n56 : RSh := ⟨[.p (.st 1)], []⟩
def g_n56 (v : RVal U R_n56) : GaFraction := v.1.1
def b_n56 (q : GaFraction) : TRet U := R_n56.bld ((q, ()), ())
def S_s_num_Add : FSig U := ⟨GaFraction, [60, 60], [.p, .p], [some 1, some 1], [.p (.st 1), .p (.st 1)], fun v => s_num_Add v.1 v.2.1, b_n56⟩
theorem S_s_num_Add_ok : SigOk X0.E 96 S_s_num_Add.sig := FSig.ok0 F_n56_ok (R := R_n56) (g := g_n56) (cuts := []) (pre := [tc0 F_n56]) rfl Tryd.func96 (by decide) rfl (fun _ => Nat.le_of_ble_eq_true (by kernel_rfl)) (fun _ => rfl) (by kernel_rfl) (fun _ _ h => Eq.trans (by kernel_rfl) h) ⟨rfl, trivial⟩ (fun r => trivial) fun _ => rfl

/-! ### tablefinder/fraction.times -/
def c_n57 : Code := bodyOf Tryd.f172
def F_n57 : FC U := ⟨X0.at 16, Tryd.f172, c_n57, [(166, S_s_fraction_product.sig)], [], [.p, .p], [some 0, some 0]⟩
theorem F_n57_ok : FOk F_n57 := fok uok tok0 eok0 mixed rfl ⟨S_s_fraction_product_ok, trivial⟩
def R_n57 : RSh := ⟨[.p (.st 0), .p (.st 0)], []⟩
def g_n57 (v : RVal U R_n57) : qT60 := (v.1.1, v.1.2.1)
def b_n57 (q : qT60) : TRet U := R_n57.bld ((q.1, (q.2, ())), ())
def S_s_fraction_times : FSig U := ⟨qT60, [60, 60], [.p, .p], [some 1, some 1], [.p (.st 1), .p (.st 1)], fun v => s_fraction_times v.1 v.2.1, b_n57⟩
theorem S_s_fraction_times_ok : SigOk X0.E 172 S_s_fraction_times.sig := FSig.ok0 F_n57_ok (R := R_n57) (g := g_n57) (cuts := []) (pre := [tc0 F_n57]) rfl Tryd.func172 (by decide) rfl (fun _ => Nat.le_of_ble_eq_true (by kernel_rfl)) (fun _ => rfl) (by kernel_rfl) (fun _ _ h => Eq.trans (by kernel_rfl) h) ⟨rfl, trivial⟩ (fun r => trivial) fun _ => rfl

/-! ### (tablefinder/fraction.operation).result -/
def c_n58 : Code := bodyOf Tryd.f171
def F_n58 : FC U := ⟨X0.at 47, Tryd.f171, c_n58, [(164, S_s_fraction_Valid.sig), (172, S_s_fraction_times.sig), (191, S_s_fraction_reduced.sig)], [], [.p, .p], [some 1, none]⟩
theorem F_n58_ok : FOk F_n58 := fok uok tok0 eok0 mixed rfl ⟨S_s_fraction_Valid_ok, S_s_fraction_times_ok, S_s_fraction_reduced_ok, trivial⟩
def R_n58 : RSh := ⟨[.p (.st 1), .p (.int .i64)], []⟩
def g_n58 (v : RVal U R_n58) : qT59 := (v.1.1, v.1.2.1)
def b_n58 (q : qT59) : TRet U := R_n58.bld ((q.1, (q.2, ())), ())
def L_n58_j1 : Lp U qT59 := ⟨[0, 4, 5, 6, 18], [], [.fn 172 [] [], .o (.ptr (0, 1, 1) 0 0), .o (.ptr (0, 2, 1) 0 0), .o (.ptr (0, 3, 1) 0 0), .o (.v .bool)], qo5, fun v w => s_fraction_operation_result_2_j1 v.2.2.2.2.1 w.1 w.2.1 w.2.2.1.1 w.2.2.1.2.2.1 w.2.2.2.1 w.2.2.2.2.1⟩
theorem L_n58_j1_ok (r : qT59) : LpOk F_n58 (b_n58 r).enc r (L_n58_j1) (stAt F_n58 [1, 0, 1]) := fun v w hi h => Pt.ev0 F_n58_ok (S := R_n58) (g := g_n58) (b := b_n58) (cuts := []) (pre := [tc F_n58 [1, 0, 1], tc F_n58 [1, 1]]) (T := Lp.st F_n58 (L_n58_j1) v w) (by kernel_rfl) hi (Eq.trans (by kernel_rfl) h) ⟨by kernel_rfl, by kernel_rfl, trivial⟩ trivial fun _ => rfl
def S_s_fraction_operation_result_2 : FSig U := ⟨qT59, [189, 60, 60], [.p, .p, .p], [none, some 1, some 1], [.fn 172 [] [], .p (.st 1), .p (.st 1)], fun v => s_fraction_operation_result_2 v.2.1 v.2.2.1, b_n58⟩
theorem S_s_fraction_operation_result_2_ok : SigOk X0.E 171 S_s_fraction_operation_result_2.sig := FSig.ok0 F_n58_ok (R := R_n58) (g := g_n58) (cuts := [([1, 0, 1], L_n58_j1)]) (pre := [tc0 F_n58]) rfl Tryd.func171 (by decide) rfl (fun _ => Nat.le_of_ble_eq_true (by kernel_rfl)) (fun _ => rfl) (by kernel_rfl) (fun _ _ h => Eq.trans (by kernel_rfl) h) ⟨rfl, trivial⟩ (fun r => ⟨(L_n58_j1_ok r), trivial⟩) fun _ => rfl

/-! ### tablefinder/fraction.Mul -/
def c_n59 : Code := bodyOf Tryd.f133
def F_n59 : FC U := ⟨X0.at 11, Tryd.f133, c_n59, [(171, S_s_fraction_operation_result_2.sig)], [], [.p, .p], [some 1, none]⟩
theorem F_n59_ok : FOk F_n59 := fok uok tok0 eok0 mixed rfl ⟨S_s_fraction_operation_result_2_ok, trivial⟩
def R_n59 : RSh := ⟨[.p (.st 1), .p (.int .i64)], []⟩
def g_n59 (v : RVal U R_n59) : qT59 := (v.1.1, v.1.2.1)
def b_n59 (q : qT59) : TRet U := R_n59.bld ((q.1, (q.2, ())), ())
def S_s_fraction_Mul : FSig U := ⟨qT59, [60, 60], [.p, .p], [some 1, some 1], [.p (.st 1), .p (.st 1)], fun v => s_fraction_Mul v.1 v.2.1, b_n59⟩
theorem S_s_fraction_Mul_ok : SigOk X0.E 133 S_s_fraction_Mul.sig := FSig.ok0 F_n59_ok (R := R_n59) (g := g_n59) (cuts := []) (pre := [tc0 F_n59]) rfl Tryd.func133 (by decide) rfl (fun _ => Nat.le_of_ble_eq_true (by kernel_rfl)) (fun _ => rfl) (by kernel_rfl) (fun _ _ h => Eq.trans (by kernel_rfl) h) ⟨rfl, trivial⟩ (fun r => trivial) fun _ => rfl

/-! ### tablefinder/num.Mul -/
def c_n60 : Code := bodyOf Tryd.f89
def F_n60 : FC U := ⟨X0.at 11, Tryd.f89, c_n60, [(133, S_s_fraction_Mul.sig), (131, S_s_num_first.sig)], [], [.p], [some 1]⟩
theorem F_n60_ok : FOk F_n60 := fok uok tok0 eok0 mixed rfl ⟨S_s_fraction_Mul_ok, S_s_num_first_ok, trivial⟩
def R_n60 : RSh := ⟨[.p (.st 1)], []⟩
def g_n60 (v : RVal U R_n60) : GaFraction := v.1.1
def b_n60 (q : GaFraction) : TRet U := R_n60.bld ((q, ()), ())
def S_s_num_Mul : FSig U := ⟨GaFraction, [60, 60], [.p, .p], [some 1, some 1], [.p (.st 1), .p (.st 1)], fun v => s_num_Mul v.1 v.2.1, b_n60⟩
theorem S_s_num_Mul_ok : SigOk X0.E 89 S_s_num_Mul.sig := FSig.ok0 F_n60_ok (R := R_n60) (g := g_n60) (cuts := []) (pre := [tc0 F_n60]) rfl Tryd.func89 (by decide) rfl (fun _ => Nat.le_of_ble_eq_true (by kernel_rfl)) (fun _ => rfl) (by kernel_rfl) (fun _ _ h => Eq.trans (by kernel_rfl) h) ⟨rfl, trivial⟩ (fun r => trivial) fun _ => rfl

/-! ### tablefinder/correlation.Add -/
def c_n61 : Code := bodyOf Tryd.f38
def F_n61 : FC U := ⟨X0.at 37, Tryd.f38, c_n61, [(96, S_s_num_Add.sig), (89, S_s_num_Mul.sig)], [], [.p], [some 3]⟩
theorem F_n61_ok : FOk F_n61 := fok uok tok0 eok0 mixed rfl ⟨S_s_num_Add_ok, S_s_num_Mul_ok, trivial⟩
def R_n61 : RSh := ⟨[.p (.st 3)], []⟩
def g_n61 (v : RVal U R_n61) : GaMoments := v.1.1
def b_n61 (q : GaMoments) : TRet U := R_n61.bld ((q, ()), ())
def S_s_correlation_Add : FSig U := ⟨GaMoments, [67, 60, 60], [.p, .p, .p], [some 3, some 1, some 1], [.p (.st 3), .p (.st 1), .p (.st 1)], fun v => s_correlation_Add v.1 v.2.1 v.2.2.1, b_n61⟩
theorem S_s_correlation_Add_ok : SigOk X0.E 38 S_s_correlation_Add.sig := FSig.ok0 F_n61_ok (R := R_n61) (g := g_n61) (cuts := []) (pre := [tc0 F_n61]) rfl Tryd.func38 (by decide) rfl (fun _ => Nat.le_of_ble_eq_true (by kernel_rfl)) (fun _ => rfl) (by kernel_rfl) (fun _ _ h => Eq.trans (by kernel_rfl) h) ⟨rfl, trivial⟩ (fun r => trivial) fun _ => rfl

/-! ### tablefinder/correlation.Of -/
def c_n62 : Code := bodyOf Tryd.f33
def F_n62 : FC U := ⟨X0.at 21, Tryd.f33, c_n62, [(90, S_s_correlation_none.sig), (38, S_s_correlation_Add.sig)], [], [.p], [some 3]⟩
theorem F_n62_ok : FOk F_n62 := fok uok tok0 eok0 mixed rfl ⟨S_s_correlation_none_ok, S_s_correlation_Add_ok, trivial⟩
def R_n62 : RSh := ⟨[.p (.st 3)], []⟩
def g_n62 (v : RVal U R_n62) : GaMoments := v.1.1
def b_n62 (q : GaMoments) : TRet U := R_n62.bld ((q, ()), ())
def L_n62_k1 : Lp U GaMoments := ⟨[2, 3], [], qs35, qo1, fun v w => s_correlation_Of_k1 w.1.1 w.1.2.1 w.1.2.2.2.1 w.1.2.2.2.2.2.1 w.1.2.2.2.2.2.2.2.1 w.1.2.2.2.2.2.2.2.2.2.1 w.1.2.2.2.2.2.2.2.2.2.2.2.1 w.1.2.2.2.2.2.2.2.2.2.2.2.2.2.1 w.1.2.2.2.2.2.2.2.2.2.2.2.2.2.2.2.1 w.1.2.2.2.2.2.2.2.2.2.2.2.2.2.2.2.2.2.1 w.1.2.2.2.2.2.2.2.2.2.2.2.2.2.2.2.2.2.2.2.1 w.2.1 w.2.2.1 w.2.2.2.1 w.2.2.2.2.1 w.2.2.2.2.2.1 w.2.2.2.2.2.2.1 w.2.2.2.2.2.2.2.1 w.2.2.2.2.2.2.2.2.1 w.2.2.2.2.2.2.2.2.2.1 w.2.2.2.2.2.2.2.2.2.2.1 w.2.2.2.2.2.2.2.2.2.2.2.1⟩
theorem L_n62_k1_ok (r : GaMoments) : LpOk F_n62 (b_n62 r).enc r (L_n62_k1) ([tc F_n62 [1, 1, 1]].map TI'.conc ++ []) := fun v w hi h => Pt.ev0 F_n62_ok (S := R_n62) (g := g_n62) (b := b_n62) (cuts := []) (pre := [tc F_n62 [1, 1, 1]]) (T := Lp.st F_n62 (L_n62_k1) v w) (by kernel_rfl) hi (Eq.trans (by kernel_rfl) h) ⟨by kernel_rfl, trivial⟩ trivial fun _ => rfl
def base_n62_l1 : List Eng.Item := .lp (codeAt F_n62 [5, 4, 1, 0, 1, 1]) :: ([.blk 0, tc F_n62 [1, 1, 1]].map TI'.conc ++ [])
def Lh_n62_l1 (rec_ : qL1 → Int → Int → Int → Bool → Bool → Bool → Bool → Bool → Bool → Bool → Bool → Bool → Bool → GaMoments → qL0 → qL0 → qL0 → qL0 → qL0 → qL0 → qL0 → qL0 → qL0 → qL0 → Option qT44) : Lp U qT44 := ⟨[2, 3, 7, 8, 9], [], qs16, qo1, fun v w => rec_ v.2.2.1 v.2.2.2.1 v.2.2.2.2.1 w.1.1 w.1.2.1 w.1.2.2.2.1 w.1.2.2.2.2.2.1 w.1.2.2.2.2.2.2.2.1 w.1.2.2.2.2.2.2.2.2.2.1 w.1.2.2.2.2.2.2.2.2.2.2.2.1 w.1.2.2.2.2.2.2.2.2.2.2.2.2.2.1 w.1.2.2.2.2.2.2.2.2.2.2.2.2.2.2.2.1 w.1.2.2.2.2.2.2.2.2.2.2.2.2.2.2.2.2.2.1 w.1.2.2.2.2.2.2.2.2.2.2.2.2.2.2.2.2.2.2.2.1 w.2.1 w.2.2.1 w.2.2.2.1 w.2.2.2.2.1 w.2.2.2.2.2.1 w.2.2.2.2.2.2.1 w.2.2.2.2.2.2.2.1 w.2.2.2.2.2.2.2.2.1 w.2.2.2.2.2.2.2.2.2.1 w.2.2.2.2.2.2.2.2.2.2.1 w.2.2.2.2.2.2.2.2.2.2.2.1⟩
def Lx_n62_l1 : Lp U qT44 := ⟨[2, 3], [], qs35, qo1, fun v w => some (w.1.1, w.1.2.1, w.1.2.2.2.1, w.1.2.2.2.2.2.1, w.1.2.2.2.2.2.2.2.1, w.1.2.2.2.2.2.2.2.2.2.1, w.1.2.2.2.2.2.2.2.2.2.2.2.1, w.1.2.2.2.2.2.2.2.2.2.2.2.2.2.1, w.1.2.2.2.2.2.2.2.2.2.2.2.2.2.2.2.1, w.1.2.2.2.2.2.2.2.2.2.2.2.2.2.2.2.2.2.1, w.1.2.2.2.2.2.2.2.2.2.2.2.2.2.2.2.2.2.2.2.1, w.2.1, w.2.2.1, w.2.2.2.1, w.2.2.2.2.1, w.2.2.2.2.2.1, w.2.2.2.2.2.2.1, w.2.2.2.2.2.2.2.1, w.2.2.2.2.2.2.2.2.1, w.2.2.2.2.2.2.2.2.2.1, w.2.2.2.2.2.2.2.2.2.2.1, w.2.2.2.2.2.2.2.2.2.2.2.1)⟩
theorem s_correlation_Of_l1_ok {RT : Ret} {r : qT44} (hx : AllExits F_n62 RT r base_n62_l1 [(0, Lx_n62_l1)]) (hr : qH (fun _ => none) r RT) : ∀ n, LpOk F_n62 RT r (Lh_n62_l1 (s_correlation_Of_l1 n)) (stAt F_n62 [4, 1, 0, 1, 1]) :=
  loop_ok F_n62_ok 4000 (q := [4, 1, 0, 1, 1]) (body := codeAt F_n62 [5, 4, 1, 0, 1, 1]) (live := [2, 3, 7, 8, 9]) (frz := []) (shs := qs16) (sho := qo1) (fun n v w => s_correlation_Of_l1 n v.2.2.1 v.2.2.2.1 v.2.2.2.2.1 w.1.1 w.1.2.1 w.1.2.2.2.1 w.1.2.2.2.2.2.1 w.1.2.2.2.2.2.2.2.1 w.1.2.2.2.2.2.2.2.2.2.1 w.1.2.2.2.2.2.2.2.2.2.2.2.1 w.1.2.2.2.2.2.2.2.2.2.2.2.2.2.1 w.1.2.2.2.2.2.2.2.2.2.2.2.2.2.2.2.1 w.1.2.2.2.2.2.2.2.2.2.2.2.2.2.2.2.2.2.1 w.1.2.2.2.2.2.2.2.2.2.2.2.2.2.2.2.2.2.2.2.1 w.2.1 w.2.2.1 w.2.2.2.1 w.2.2.2.2.1 w.2.2.2.2.2.1 w.2.2.2.2.2.2.1 w.2.2.2.2.2.2.2.1 w.2.2.2.2.2.2.2.2.1 w.2.2.2.2.2.2.2.2.2.1 w.2.2.2.2.2.2.2.2.2.2.1 w.2.2.2.2.2.2.2.2.2.2.2.1) (cuts := fun n => []) (exits := [(0, Lx_n62_l1)]) (ret := (fun _ => none)) (by kernel_rfl) (fun _ _ => rfl) (fun n v w => by kernel_rfl) (fun n hb => trivial) hx hr
def Lc_n62_l1 : Lp U GaMoments := ⟨[2, 3, 7, 8, 9], [], qs16, qo1, fun v w => (s_correlation_Of_l1 big v.2.2.1 v.2.2.2.1 v.2.2.2.2.1 w.1.1 w.1.2.1 w.1.2.2.2.1 w.1.2.2.2.2.2.1 w.1.2.2.2.2.2.2.2.1 w.1.2.2.2.2.2.2.2.2.2.1 w.1.2.2.2.2.2.2.2.2.2.2.2.1 w.1.2.2.2.2.2.2.2.2.2.2.2.2.2.1 w.1.2.2.2.2.2.2.2.2.2.2.2.2.2.2.2.1 w.1.2.2.2.2.2.2.2.2.2.2.2.2.2.2.2.2.2.1 w.1.2.2.2.2.2.2.2.2.2.2.2.2.2.2.2.2.2.2.2.1 w.2.1 w.2.2.1 w.2.2.2.1 w.2.2.2.2.1 w.2.2.2.2.2.1 w.2.2.2.2.2.2.1 w.2.2.2.2.2.2.2.1 w.2.2.2.2.2.2.2.2.1 w.2.2.2.2.2.2.2.2.2.1 w.2.2.2.2.2.2.2.2.2.2.1 w.2.2.2.2.2.2.2.2.2.2.2.1).bind fun (x0, x1, x2, x3, x4, x5, x6, x7, x8, x9, x10, x11, x12, x13, x14, x15, x16, x17, x18, x19, x20, x21) => s_correlation_Of_k1 x0 x1 x2 x3 x4 x5 x6 x7 x8 x9 x10 x11 x12 x13 x14 x15 x16 x17 x18 x19 x20 x21⟩
theorem Lc_n62_l1_ok (r : GaMoments) : LpOk F_n62 (b_n62 r).enc r (Lc_n62_l1) (stAt F_n62 [4, 1, 0, 1, 1]) := fun v w hi h0 => by
  obtain ⟨x, hx0, h⟩ := bind_some h0
  exact s_correlation_Of_l1_ok (r := x) (RT := (b_n62 r).enc) ⟨⟨[tc F_n62 [1, 1, 1]].map TI'.conc ++ [], by kernel_rfl, fun v' w' hi' h' => by obtain rfl := Option.some.inj h'; exact L_n62_k1_ok r v' w' hi' h⟩, trivial⟩ (fun _ ht => nomatch ht) big v w hi hx0
def S_s_correlation_Of : FSig U := ⟨GaMoments, [54], [.p], [none], [.p (.sl (.st 2))], fun v => s_correlation_Of v.1, b_n62⟩
theorem S_s_correlation_Of_ok : SigOk X0.E 33 S_s_correlation_Of.sig := FSig.ok0 F_n62_ok (R := R_n62) (g := g_n62) (cuts := [([4, 1, 0, 1, 1], Lc_n62_l1)]) (pre := [tc0 F_n62]) rfl Tryd.func33 (by decide) rfl (fun _ => Nat.le_of_ble_eq_true (by kernel_rfl)) (fun _ => rfl) (by kernel_rfl) (fun _ _ h => Eq.trans (by kernel_rfl) h) ⟨rfl, trivial⟩ (fun r => ⟨(Lc_n62_l1_ok r), trivial⟩) fun _ => rfl

/-! ### tablefinder/num.Of -/
def c_n63 : Code := bodyOf Tryd.f101
def F_n63 : FC U := ⟨X0.at 17, Tryd.f101, c_n63, [(130, S_s_fraction_Of.sig), (87, S_s_num_Zero.sig)], [], [.p], [some 1]⟩
theorem F_n63_ok : FOk F_n63 := fok uok tok0 eok0 mixed rfl ⟨S_s_fraction_Of_ok, S_s_num_Zero_ok, trivial⟩
def R_n63 : RSh := ⟨[.p (.st 1)], []⟩
def g_n63 (v : RVal U R_n63) : GaFraction := v.1.1
def b_n63 (q : GaFraction) : TRet U := R_n63.bld ((q, ()), ())
def S_s_num_Of : FSig U := ⟨GaFraction, [3, 3], [.p, .p], [none, none], [.p (.int .i64), .p (.int .i64)], fun v => s_num_Of v.1 v.2.1, b_n63⟩
theorem S_s_num_Of_ok : SigOk X0.E 101 S_s_num_Of.sig := FSig.ok0 F_n63_ok (R := R_n63) (g := g_n63) (cuts := []) (pre := [tc0 F_n63]) rfl Tryd.func101 (by decide) rfl (fun _ => Nat.le_of_ble_eq_true (by kernel_rfl)) (fun _ => rfl) (by kernel_rfl) (fun _ _ h => Eq.trans (by kernel_rfl) h) ⟨rfl, trivial⟩ (fun r => trivial) fun _ => rfl

/-! ### tablefinder/fraction.opposite -/
def c_n64 : Code := bodyOf Tryd.f167
def F_n64 : FC U := ⟨X0.at 15, Tryd.f167, c_n64, [], [], [.p], [some 0]⟩
theorem F_n64_ok : FOk F_n64 := fok uok tok0 eok0 mixed rfl trivial
def R_n64 : RSh := ⟨[.p (.st 0)], []⟩
def g_n64 (v : RVal U R_n64) : GaBig := v.1.1
def b_n64 (q : GaBig) : TRet U := R_n64.bld ((q, ()), ())
def L_n64_j1 : Lp U GaBig := ⟨[2], [], [.o (.ptr (0, 1, 1) 0 0)], [.boxS (.st 0)], fun v w => s_fraction_opposite_j1 w.1⟩
theorem L_n64_j1_ok (r : GaBig) : LpOk F_n64 (b_n64 r).enc r (L_n64_j1) (stAt F_n64 [1, 1]) := fun v w hi h => Pt.ev0 F_n64_ok (S := R_n64) (g := g_n64) (b := b_n64) (cuts := []) (pre := [tc F_n64 [1, 1]]) (T := Lp.st F_n64 (L_n64_j1) v w) (by kernel_rfl) hi (Eq.trans (by kernel_rfl) h) ⟨by kernel_rfl, trivial⟩ trivial fun _ => rfl
def S_s_fraction_opposite : FSig U := ⟨GaBig, [58], [.p], [some 0], [.p (.st 0)], fun v => s_fraction_opposite v.1, b_n64⟩
theorem S_s_fraction_opposite_ok : SigOk X0.E 167 S_s_fraction_opposite.sig := FSig.ok0 F_n64_ok (R := R_n64) (g := g_n64) (cuts := [([1, 1], L_n64_j1)]) (pre := [tc0 F_n64]) rfl Tryd.func167 (by decide) rfl (fun _ => Nat.le_of_ble_eq_true (by kernel_rfl)) (fun _ => rfl) (by kernel_rfl) (fun _ _ h => Eq.trans (by kernel_rfl) h) ⟨rfl, trivial⟩ (fun r => ⟨(L_n64_j1_ok r), trivial⟩) fun _ => rfl

/-! ### tablefinder/fraction.Sub -/
def c_n65 : Code := bodyOf Tryd.f163
def F_n65 : FC U := ⟨X0.at 20, Tryd.f163, c_n65, [(164, S_s_fraction_Valid.sig), (167, S_s_fraction_opposite.sig), (171, S_s_fraction_operation_result.sig)], [], [.p, .p], [some 1, none]⟩
theorem F_n65_ok : FOk F_n65 := fok uok tok0 eok0 mixed rfl ⟨S_s_fraction_Valid_ok, S_s_fraction_opposite_ok, S_s_fraction_operation_result_ok, trivial⟩
def R_n65 : RSh := ⟨[.p (.st 1), .p (.int .i64)], []⟩
def g_n65 (v : RVal U R_n65) : qT59 := (v.1.1, v.1.2.1)
def b_n65 (q : qT59) : TRet U := R_n65.bld ((q.1, (q.2, ())), ())
def S_s_fraction_Sub : FSig U := ⟨qT59, [60, 60], [.p, .p], [some 1, some 1], [.p (.st 1), .p (.st 1)], fun v => s_fraction_Sub v.1 v.2.1, b_n65⟩
theorem S_s_fraction_Sub_ok : SigOk X0.E 163 S_s_fraction_Sub.sig := FSig.ok0 F_n65_ok (R := R_n65) (g := g_n65) (cuts := []) (pre := [tc0 F_n65]) rfl Tryd.func163 (by decide) rfl (fun _ => Nat.le_of_ble_eq_true (by kernel_rfl)) (fun _ => rfl) (by kernel_rfl) (fun _ _ h => Eq.trans (by kernel_rfl) h) ⟨rfl, trivial⟩ (fun r => trivial) fun _ => rfl

/-! ### tablefinder/num.Sub -/
def c_n66 : Code := bodyOf Tryd.f128
def F_n66 : FC U := ⟨X0.at 11, Tryd.f128, c_n66, [(163, S_s_fraction_Sub.sig), (131, S_s_num_first.sig)], [], [.p], [some 1]⟩
theorem F_n66_ok : FOk F_n66 := fok uok tok0 eok0 mixed rfl ⟨S_s_fraction_Sub_ok, S_s_num_first_ok, trivial⟩
def R_n66 : RSh := ⟨[.p (.st 1)], []⟩
def g_n66 (v : RVal U R_n66) : GaFraction := v.1.1
def b_n66 (q : GaFraction) : TRet U := R_n66.bld ((q, ()), ())
def S_s_num_Sub : FSig U := ⟨GaFraction, [60, 60], [.p, .p], [some 1, some 1], [.p (.st 1), .p (.st 1)], fun v => s_num_Sub v.1 v.2.1, b_n66⟩
theorem S_s_num_Sub_ok : SigOk X0.E 128 S_s_num_Sub.sig := FSig.ok0 F_n66_ok (R := R_n66) (g := g_n66) (cuts := []) (pre := [tc0 F_n66]) rfl Tryd.func128 (by decide) rfl (fun _ => Nat.le_of_ble_eq_true (by kernel_rfl)) (fun _ => rfl) (by kernel_rfl) (fun _ _ h => Eq.trans (by kernel_rfl) h) ⟨rfl, trivial⟩ (fun r => trivial) fun _ => rfl

/-! ### tablefinder/correlation.part -/
def c_n67 : Code := bodyOf Tryd.f85
def F_n67 : FC U := ⟨X0.at 17, Tryd.f85, c_n67, [(101, S_s_num_Of.sig), (89, S_s_num_Mul.sig), (128, S_s_num_Sub.sig)], [], [.p], [some 1]⟩
theorem F_n67_ok : FOk F_n67 := fok uok tok0 eok0 mixed rfl ⟨S_s_num_Of_ok, S_s_num_Mul_ok, S_s_num_Sub_ok, trivial⟩
def R_n67 : RSh := ⟨[.p (.st 1)], []⟩
def g_n67 (v : RVal U R_n67) : GaFraction := v.1.1
def b_n67 (q : GaFraction) : TRet U := R_n67.bld ((q, ()), ())
def S_s_correlation_part : FSig U := ⟨GaFraction, [3, 60, 60, 60], [.p, .p, .p, .p], [none, some 1, some 1, some 1], [.p (.int .i64), .p (.st 1), .p (.st 1), .p (.st 1)], fun v => s_correlation_part v.1 v.2.1 v.2.2.1 v.2.2.2.1, b_n67⟩
theorem S_s_correlation_part_ok : SigOk X0.E 85 S_s_correlation_part.sig := FSig.ok0 F_n67_ok (R := R_n67) (g := g_n67) (cuts := []) (pre := [tc0 F_n67]) rfl Tryd.func85 (by decide) rfl (fun _ => Nat.le_of_ble_eq_true (by kernel_rfl)) (fun _ => rfl) (by kernel_rfl) (fun _ _ h => Eq.trans (by kernel_rfl) h) ⟨rfl, trivial⟩ (fun r => trivial) fun _ => rfl

/-! ### tablefinder/fraction.Cmp -/
def c_n68 : Code := bodyOf Tryd.f129
def F_n68 : FC U := ⟨X0.at 34, Tryd.f129, c_n68, [(164, S_s_fraction_Valid.sig), (166, S_s_fraction_product.sig), (167, S_s_fraction_opposite.sig), (165, S_s_fraction_sum.sig)], [], [.p], [none]⟩
theorem F_n68_ok : FOk F_n68 := fok uok tok0 eok0 mixed rfl ⟨S_s_fraction_Valid_ok, S_s_fraction_product_ok, S_s_fraction_opposite_ok, S_s_fraction_sum_ok, trivial⟩
def R_n68 : RSh := ⟨[.p (.int .i64)], []⟩
def g_n68 (v : RVal U R_n68) : Int := v.1.1
def b_n68 (q : Int) : TRet U := R_n68.bld ((q, ()), ())
def L_n68_j1 : Lp U Int := ⟨[2, 3, 13], [], qs33, [.boxS (.st 1), .boxS (.st 1)], fun v w => s_fraction_Cmp_j1 v.2.2.1 w.1 w.2.1⟩
theorem L_n68_j1_ok (r : Int) : LpOk F_n68 (b_n68 r).enc r (L_n68_j1) (stAt F_n68 [1, 0, 1]) := fun v w hi h => Pt.ev0 F_n68_ok (S := R_n68) (g := g_n68) (b := b_n68) (cuts := []) (pre := [tc F_n68 [1, 0, 1], tc F_n68 [1, 1]]) (T := Lp.st F_n68 (L_n68_j1) v w) (by kernel_rfl) hi (Eq.trans (by kernel_rfl) h) ⟨by kernel_rfl, by kernel_rfl, trivial⟩ trivial fun _ => rfl
def S_s_fraction_Cmp : FSig U := ⟨Int, [60, 60], [.p, .p], [some 1, some 1], [.p (.st 1), .p (.st 1)], fun v => s_fraction_Cmp v.1 v.2.1, b_n68⟩
theorem S_s_fraction_Cmp_ok : SigOk X0.E 129 S_s_fraction_Cmp.sig := FSig.ok0 F_n68_ok (R := R_n68) (g := g_n68) (cuts := [([1, 0, 1], L_n68_j1)]) (pre := [tc0 F_n68]) rfl Tryd.func129 (by decide) rfl (fun _ => Nat.le_of_ble_eq_true (by kernel_rfl)) (fun _ => rfl) (by kernel_rfl) (fun _ _ h => Eq.trans (by kernel_rfl) h) ⟨rfl, trivial⟩ (fun r => ⟨(L_n68_j1_ok r), trivial⟩) fun _ => rfl

/-! ### tablefinder/num.Sign -/
def c_n69 : Code := bodyOf Tryd.f86
def F_n69 : FC U := ⟨X0.at 6, Tryd.f86, c_n69, [(87, S_s_num_Zero.sig), (129, S_s_fraction_Cmp.sig)], [], [.p], [none]⟩
theorem F_n69_ok : FOk F_n69 := fok uok tok0 eok0 mixed rfl ⟨S_s_num_Zero_ok, S_s_fraction_Cmp_ok, trivial⟩
def R_n69 : RSh := ⟨[.p (.int .i64)], []⟩
def g_n69 (v : RVal U R_n69) : Int := v.1.1
def b_n69 (q : Int) : TRet U := R_n69.bld ((q, ()), ())
def S_s_num_Sign : FSig U := ⟨Int, [60], [.p], [some 1], [.p (.st 1)], fun v => s_num_Sign v.1, b_n69⟩
theorem S_s_num_Sign_ok : SigOk X0.E 86 S_s_num_Sign.sig := FSig.ok0 F_n69_ok (R := R_n69) (g := g_n69) (cuts := []) (pre := [tc0 F_n69]) rfl Tryd.func86 (by decide) rfl (fun _ => Nat.le_of_ble_eq_true (by kernel_rfl)) (fun _ => rfl) (by kernel_rfl) (fun _ _ h => Eq.trans (by kernel_rfl) h) ⟨rfl, trivial⟩ (fun r => trivial) fun _ => rfl

/-! ### tablefinder/fraction.over -/
def c_n70 : Code := bodyOf Tryd.f170
def F_n70 : FC U := ⟨X0.at 16, Tryd.f170, c_n70, [(166, S_s_fraction_product.sig)], [], [.p, .p], [some 0, some 0]⟩
theorem F_n70_ok : FOk F_n70 := fok uok tok0 eok0 mixed rfl ⟨S_s_fraction_product_ok, trivial⟩
def R_n70 : RSh := ⟨[.p (.st 0), .p (.st 0)], []⟩
def g_n70 (v : RVal U R_n70) : qT60 := (v.1.1, v.1.2.1)
def b_n70 (q : qT60) : TRet U := R_n70.bld ((q.1, (q.2, ())), ())
def S_s_fraction_over : FSig U := ⟨qT60, [60, 60], [.p, .p], [some 1, some 1], [.p (.st 1), .p (.st 1)], fun v => s_fraction_over v.1 v.2.1, b_n70⟩
theorem S_s_fraction_over_ok : SigOk X0.E 170 S_s_fraction_over.sig := FSig.ok0 F_n70_ok (R := R_n70) (g := g_n70) (cuts := []) (pre := [tc0 F_n70]) rfl Tryd.func170 (by decide) rfl (fun _ => Nat.le_of_ble_eq_true (by kernel_rfl)) (fun _ => rfl) (by kernel_rfl) (fun _ _ h => Eq.trans (by kernel_rfl) h) ⟨rfl, trivial⟩ (fun r => trivial) fun _ => rfl

/-! ### (tablefinder/fraction.operation).result -/
def c_n71 : Code := bodyOf Tryd.f171
def F_n71 : FC U := ⟨X0.at 47, Tryd.f171, c_n71, [(164, S_s_fraction_Valid.sig), (170, S_s_fraction_over.sig), (191, S_s_fraction_reduced.sig)], [], [.p, .p], [some 1, none]⟩
theorem F_n71_ok : FOk F_n71 := fok uok tok0 eok0 mixed rfl ⟨S_s_fraction_Valid_ok, S_s_fraction_over_ok, S_s_fraction_reduced_ok, trivial⟩
def R_n71 : RSh := ⟨[.p (.st 1), .p (.int .i64)], []⟩
def g_n71 (v : RVal U R_n71) : qT59 := (v.1.1, v.1.2.1)
def b_n71 (q : qT59) : TRet U := R_n71.bld ((q.1, (q.2, ())), ())
def L_n71_j1 : Lp U qT59 := ⟨[0, 4, 5, 6, 18], [], [.fn 170 [] [], .o (.ptr (0, 1, 1) 0 0), .o (.ptr (0, 2, 1) 0 0), .o (.ptr (0, 3, 1) 0 0), .o (.v .bool)], qo5, fun v w => s_fraction_operation_result_3_j1 v.2.2.2.2.1 w.1 w.2.1 w.2.2.1.1 w.2.2.1.2.2.1 w.2.2.2.1 w.2.2.2.2.1⟩
theorem L_n71_j1_ok (r : qT59) : LpOk F_n71 (b_n71 r).enc r (L_n71_j1) (stAt F_n71 [1, 0, 1]) := fun v w hi h => Pt.ev0 F_n71_ok (S := R_n71) (g := g_n71) (b := b_n71) (cuts := []) (pre := [tc F_n71 [1, 0, 1], tc F_n71 [1, 1]]) (T := Lp.st F_n71 (L_n71_j1) v w) (by kernel_rfl) hi (Eq.trans (by kernel_rfl) h) ⟨by kernel_rfl, by kernel_rfl, trivial⟩ trivial fun _ => rfl
def S_s_fraction_operation_result_3 : FSig U := ⟨qT59, [189, 60, 60], [.p, .p, .p], [none, some 1, some 1], [.fn 170 [] [], .p (.st 1), .p (.st 1)], fun v => s_fraction_operation_result_3 v.2.1 v.2.2.1, b_n71⟩
theorem S_s_fraction_operation_result_3_ok : SigOk X0.E 171 S_s_fraction_operation_result_3.sig := FSig.ok0 F_n71_ok (R := R_n71) (g := g_n71) (cuts := [([1, 0, 1], L_n71_j1)]) (pre := [tc0 F_n71]) rfl Tryd.func171 (by decide) rfl (fun _ => Nat.le_of_ble_eq_true (by kernel_rfl)) (fun _ => rfl) (by kernel_rfl) (fun _ _ h => Eq.trans (by kernel_rfl) h) ⟨rfl, trivial⟩ (fun r => ⟨(L_n71_j1_ok r), trivial⟩) fun _ => rfl

/-! ### tablefinder/fraction.Div -/
def c_n72 : Code := bodyOf Tryd.f132
def F_n72 : FC U := ⟨X0.at 11, Tryd.f132, c_n72, [(171, S_s_fraction_operation_result_3.sig)], [], [.p, .p], [some 1, none]⟩
theorem F_n72_ok : FOk F_n72 := fok uok tok0 eok0 mixed rfl ⟨S_s_fraction_operation_result_3_ok, trivial⟩
def R_n72 : RSh := ⟨[.p (.st 1), .p (.int .i64)], []⟩
def g_n72 (v : RVal U R_n72) : qT59 := (v.1.1, v.1.2.1)
def b_n72 (q : qT59) : TRet U := R_n72.bld ((q.1, (q.2, ())), ())
def S_s_fraction_Div : FSig U := ⟨qT59, [60, 60], [.p, .p], [some 1, some 1], [.p (.st 1), .p (.st 1)], fun v => s_fraction_Div v.1 v.2.1, b_n72⟩
theorem S_s_fraction_Div_ok : SigOk X0.E 132 S_s_fraction_Div.sig := FSig.ok0 F_n72_ok (R := R_n72) (g := g_n72) (cuts := []) (pre := [tc0 F_n72]) rfl Tryd.func132 (by decide) rfl (fun _ => Nat.le_of_ble_eq_true (by kernel_rfl)) (fun _ => rfl) (by kernel_rfl) (fun _ _ h => Eq.trans (by kernel_rfl) h) ⟨rfl, trivial⟩ (fun r => trivial) fun _ => rfl

/-! ### tablefinder/num.Div -/
def c_n73 : Code := bodyOf Tryd.f88
def F_n73 : FC U := ⟨X0.at 11, Tryd.f88, c_n73, [(132, S_s_fraction_Div.sig), (131, S_s_num_first.sig)], [], [.p], [some 1]⟩
theorem F_n73_ok : FOk F_n73 := fok uok tok0 eok0 mixed rfl ⟨S_s_fraction_Div_ok, S_s_num_first_ok, trivial⟩
def R_n73 : RSh := ⟨[.p (.st 1)], []⟩
def g_n73 (v : RVal U R_n73) : GaFraction := v.1.1
def b_n73 (q : GaFraction) : TRet U := R_n73.bld ((q, ()), ())
def S_s_num_Div : FSig U := ⟨GaFraction, [60, 60], [.p, .p], [some 1, some 1], [.p (.st 1), .p (.st 1)], fun v => s_num_Div v.1 v.2.1, b_n73⟩
theorem S_s_num_Div_ok : SigOk X0.E 88 S_s_num_Div.sig := FSig.ok0 F_n73_ok (R := R_n73) (g := g_n73) (cuts := []) (pre := [tc0 F_n73]) rfl Tryd.func88 (by decide) rfl (fun _ => Nat.le_of_ble_eq_true (by kernel_rfl)) (fun _ => rfl) (by kernel_rfl) (fun _ _ h => Eq.trans (by kernel_rfl) h) ⟨rfl, trivial⟩ (fun r => trivial) fun _ => rfl

/-! ### tablefinder/correlation.Square -/
def c_n74 : Code := bodyOf Tryd.f32
def F_n74 : FC U := ⟨X0.at 58, Tryd.f32, c_n74, [(85, S_s_correlation_part.sig), (86, S_s_num_Sign.sig), (87, S_s_num_Zero.sig), (89, S_s_num_Mul.sig), (88, S_s_num_Div.sig)], [], [.p, .p, .p], [some 1, none, none]⟩
theorem F_n74_ok : FOk F_n74 := fok uok tok0 eok0 mixed rfl ⟨S_s_correlation_part_ok, S_s_num_Sign_ok, S_s_num_Zero_ok, S_s_num_Mul_ok, S_s_num_Div_ok, trivial⟩
def R_n74 : RSh := ⟨[.p (.st 1), .p (.int .i64), .p .bool], []⟩
def g_n74 (v : RVal U R_n74) : qT56 := (v.1.1, v.1.2.1, v.1.2.2.1)
def b_n74 (q : qT56) : TRet U := R_n74.bld ((q.1, (q.2.1, (q.2.2, ()))), ())
def L_n74_j1 : Lp U qT56 := ⟨[2, 5, 6, 7, 47], [], [.o (.ptr (0, 1, 1) 0 0), .o (.ptr (0, 2, 1) 0 0), .o (.ptr (0, 3, 1) 0 0), .o (.ptr (0, 4, 1) 0 0), .o (.v .bool)], [.box [.o (.v .bool), .o (.full (0, 5, 1)), .o (.v .bool), .o (.full (0, 6, 1))], .boxS (.st 1), .boxS (.st 1), .boxS (.st 1), .arr (.int .u32) false, .arr (.int .u32) false], fun v w => s_correlation_Square_j1 v.2.2.2.2.1 w.1.1 w.1.2.2.1 w.2.1 w.2.2.1 w.2.2.2.1 w.2.2.2.2.1 w.2.2.2.2.2.1⟩
theorem L_n74_j1_ok (r : qT56) : LpOk F_n74 (b_n74 r).enc r (L_n74_j1) (stAt F_n74 [1, 0, 1, 1]) := fun v w hi h => Pt.ev0 F_n74_ok (S := R_n74) (g := g_n74) (b := b_n74) (cuts := []) (pre := [tc F_n74 [1, 0, 1, 1], tc F_n74 [1, 1, 1]]) (T := Lp.st F_n74 (L_n74_j1) v w) (by kernel_rfl) hi (Eq.trans (by kernel_rfl) h) ⟨by kernel_rfl, by kernel_rfl, trivial⟩ trivial fun _ => rfl
def S_s_correlation_Square : FSig U := ⟨qT56, [67], [.p], [some 3], [.p (.st 3)], fun v => s_correlation_Square v.1, b_n74⟩
theorem S_s_correlation_Square_ok : SigOk X0.E 32 S_s_correlation_Square.sig := FSig.ok0 F_n74_ok (R := R_n74) (g := g_n74) (cuts := [([1, 0, 1, 1], L_n74_j1)]) (pre := [tc0 F_n74]) rfl Tryd.func32 (by decide) rfl (fun _ => Nat.le_of_ble_eq_true (by kernel_rfl)) (fun _ => rfl) (by kernel_rfl) (fun _ _ h => Eq.trans (by kernel_rfl) h) ⟨rfl, trivial⟩ (fun r => ⟨(L_n74_j1_ok r), trivial⟩) fun _ => rfl

/-! ### tablefinder/tablefinderref23.sameBig -/
def c_n75 : Code := bodyOf Tryd.f91
def F_n75 : FC U := ⟨X0.at 37, Tryd.f91, c_n75, [], [], [.p], [none]⟩
theorem F_n75_ok : FOk F_n75 := fok uok tok0 eok0 mixed rfl trivial
def R_n75 : RSh := ⟨[.p .bool], []⟩
def g_n75 (v : RVal U R_n75) : Bool := v.1.1
def b_n75 (q : Bool) : TRet U := R_n75.bld ((q, ()), ())
def L_n75_k2 : Lp U Bool := ⟨[], [], [], [], fun v w => sr23_sameBig_k2⟩
theorem L_n75_k2_ok (r : Bool) : LpOk F_n75 (b_n75 r).enc r (L_n75_k2) ([tc F_n75 [1, 1, 1]].map TI'.conc ++ []) := fun v w hi h => Pt.ev0 F_n75_ok (S := R_n75) (g := g_n75) (b := b_n75) (cuts := []) (pre := [tc F_n75 [1, 1, 1]]) (T := Lp.st F_n75 (L_n75_k2) v w) (by kernel_rfl) hi (Eq.trans (by kernel_rfl) h) ⟨by kernel_rfl, trivial⟩ trivial fun _ => rfl
def base_n75_l1 : List Eng.Item := .lp (codeAt F_n75 [5, 4, 1, 0, 1, 1]) :: ([.blk 0, tc F_n75 [1, 1, 1]].map TI'.conc ++ [])
def Lh_n75_l1 (rec_ : qL0 → Int → Int → GaBig → Option (Out Unit Bool)) : Lp U (Out Unit Bool) := ⟨[3, 22, 23, 24], [], qs21, [.boxS (.st 0)], fun v w => rec_ v.2.1 v.2.2.1 v.2.2.2.1 w.1⟩
def Lx_n75_l1 : Lp U (Out Unit Bool) := ⟨[], [], [], [], fun v w => some (.brk ())⟩
theorem sr23_sameBig_l1_ok {RT : Ret} {r : (Out Unit Bool)} (hx : AllExits F_n75 RT r base_n75_l1 [(0, Lx_n75_l1)]) (hr : qH (retOf R_n75 fun v => Out.ret (β := Unit) (g_n75 v)) r RT) : ∀ n, LpOk F_n75 RT r (Lh_n75_l1 (sr23_sameBig_l1 n)) (stAt F_n75 [4, 1, 0, 1, 1]) :=
  loop_ok F_n75_ok 4000 (q := [4, 1, 0, 1, 1]) (body := codeAt F_n75 [5, 4, 1, 0, 1, 1]) (live := [3, 22, 23, 24]) (frz := []) (shs := qs21) (sho := [.boxS (.st 0)]) (fun n v w => sr23_sameBig_l1 n v.2.1 v.2.2.1 v.2.2.2.1 w.1) (cuts := fun n => []) (exits := [(0, Lx_n75_l1)]) (ret := (retOf R_n75 fun v => Out.ret (β := Unit) (g_n75 v))) (by kernel_rfl) (fun _ _ => rfl) (fun n v w => by kernel_rfl) (fun n hb => trivial) hx hr
def Lc_n75_l1 : Lp U Bool := ⟨[3, 22, 23, 24], [], qs21, [.boxS (.st 0)], fun v w => (sr23_sameBig_l1 big v.2.1 v.2.2.1 v.2.2.2.1 w.1).bind fun | .ret q_ => some q_ | .brk () => sr23_sameBig_k2⟩
theorem Lc_n75_l1_ok (r : Bool) : LpOk F_n75 (b_n75 r).enc r (Lc_n75_l1) (stAt F_n75 [4, 1, 0, 1, 1]) := fun v w hi h0 => by
  obtain ⟨x, hx0, h⟩ := bind_some h0
  exact sr23_sameBig_l1_ok (r := x) (RT := (b_n75 r).enc) ⟨⟨[tc F_n75 [1, 1, 1]].map TI'.conc ++ [], by kernel_rfl, fun v' w' hi' h' => by obtain rfl := Option.some.inj h'; exact L_n75_k2_ok r v' w' hi' h⟩, trivial⟩ (fun t ht => by obtain ⟨q, rfl, hq⟩ := retOut ht; obtain rfl := Option.some.inj h; exact retOf_enc uok (give := b_n75) (fun _ => rfl) hq) big v w hi hx0
def L_n75_j1 : Lp U Bool := ⟨[2, 3, 20], [], qs33, [.boxS (.st 0), .boxS (.st 0)], fun v w => sr23_sameBig_j1 v.2.2.1 w.1 w.2.1⟩
theorem L_n75_j1_ok (r : Bool) : LpOk F_n75 (b_n75 r).enc r (L_n75_j1) (stAt F_n75 [1, 0, 1]) := fun v w hi h => Pt.ev0 F_n75_ok (S := R_n75) (g := g_n75) (b := b_n75) (cuts := [([4, 1, 0, 1, 1], Lc_n75_l1)]) (pre := [tc F_n75 [1, 0, 1], tc F_n75 [1, 1]]) (T := Lp.st F_n75 (L_n75_j1) v w) (by kernel_rfl) hi (Eq.trans (by kernel_rfl) h) ⟨by kernel_rfl, by kernel_rfl, trivial⟩ ⟨(Lc_n75_l1_ok r), trivial⟩ fun _ => rfl
def S_sr23_sameBig : FSig U := ⟨Bool, [58, 58], [.p, .p], [some 0, some 0], [.p (.st 0), .p (.st 0)], fun v => sr23_sameBig v.1 v.2.1, b_n75⟩
theorem S_sr23_sameBig_ok : SigOk X0.E 91 S_sr23_sameBig.sig := FSig.ok0 F_n75_ok (R := R_n75) (g := g_n75) (cuts := [([1, 0, 1], L_n75_j1)]) (pre := [tc0 F_n75]) rfl Tryd.func91 (by decide) rfl (fun _ => Nat.le_of_ble_eq_true (by kernel_rfl)) (fun _ => rfl) (by kernel_rfl) (fun _ _ h => Eq.trans (by kernel_rfl) h) ⟨rfl, trivial⟩ (fun r => ⟨(L_n75_j1_ok r), trivial⟩) fun _ => rfl

/-! ### tablefinder/tablefinderref23.Same -/
def c_n76 : Code := bodyOf Tryd.f34
def F_n76 : FC U := ⟨X0.at 17, Tryd.f34, c_n76, [(91, S_sr23_sameBig.sig)], [], [.p], [none]⟩
theorem F_n76_ok : FOk F_n76 := fok uok tok0 eok0 mixed rfl ⟨S_sr23_sameBig_ok, trivial⟩
def R_n76 : RSh := ⟨[.p .bool], []⟩
def g_n76 (v : RVal U R_n76) : Bool := v.1.1
def b_n76 (q : Bool) : TRet U := R_n76.bld ((q, ()), ())
def L_n76_j1 : Lp U Bool := ⟨[4], [], [.o (.v .bool)], [], fun v w => sr23_Same_j1 v.1⟩
theorem L_n76_j1_ok (r : Bool) : LpOk F_n76 (b_n76 r).enc r (L_n76_j1) (stAt F_n76 [1, 1]) := fun v w hi h => Pt.ev0 F_n76_ok (S := R_n76) (g := g_n76) (b := b_n76) (cuts := []) (pre := [tc F_n76 [1, 1]]) (T := Lp.st F_n76 (L_n76_j1) v w) (by kernel_rfl) hi (Eq.trans (by kernel_rfl) h) ⟨by kernel_rfl, trivial⟩ trivial fun _ => rfl
def S_sr23_Same : FSig U := ⟨Bool, [60, 60], [.p, .p], [some 1, some 1], [.p (.st 1), .p (.st 1)], fun v => sr23_Same v.1 v.2.1, b_n76⟩
theorem S_sr23_Same_ok : SigOk X0.E 34 S_sr23_Same.sig := FSig.ok0 F_n76_ok (R := R_n76) (g := g_n76) (cuts := [([1, 1], L_n76_j1)]) (pre := [tc0 F_n76]) rfl Tryd.func34 (by decide) rfl (fun _ => Nat.le_of_ble_eq_true (by kernel_rfl)) (fun _ => rfl) (by kernel_rfl) (fun _ _ h => Eq.trans (by kernel_rfl) h) ⟨rfl, trivial⟩ (fun r => ⟨(L_n76_j1_ok r), trivial⟩) fun _ => rfl

/-! ### tablefinder/tablefinderlaw25.awake -/
def c_n77 : Code := bodyOf Tryd.f27
def F_n77 : FC U := ⟨X0.at 21, Tryd.f27, c_n77, [(80, S_sl25_line.sig), (33, S_s_correlation_Of.sig), (32, S_s_correlation_Square.sig), (31, S_sr23_Int.sig), (34, S_sr23_Same.sig)], [], [.p], [none]⟩
theorem F_n77_ok : FOk F_n77 := fok uok tok0 eok0 mixed rfl ⟨S_sl25_line_ok, S_s_correlation_Of_ok, S_s_correlation_Square_ok, S_sr23_Int_ok, S_sr23_Same_ok, trivial⟩
def R_n77 : RSh := ⟨[.p .bool], []⟩
def g_n77 (v : RVal U R_n77) : Bool := v.1.1
def b_n77 (q : Bool) : TRet U := R_n77.bld ((q, ()), ())
def L_n77_j1 : Lp U Bool := ⟨[0], [], [.o (.v .bool)], [], fun v w => sl25_awake_j1 v.1⟩
theorem L_n77_j1_ok (r : Bool) : LpOk F_n77 (b_n77 r).enc r (L_n77_j1) (stAt F_n77 [1, 1, 1]) := fun v w hi h => Pt.ev0 F_n77_ok (S := R_n77) (g := g_n77) (b := b_n77) (cuts := []) (pre := [tc F_n77 [1, 1, 1]]) (T := Lp.st F_n77 (L_n77_j1) v w) (by kernel_rfl) hi (Eq.trans (by kernel_rfl) h) ⟨by kernel_rfl, trivial⟩ trivial fun _ => rfl
def S_sl25_awake : FSig U := ⟨Bool, [], [], [], [], fun v => sl25_awake, b_n77⟩
theorem S_sl25_awake_ok : SigOk X0.E 27 S_sl25_awake.sig := FSig.ok0 F_n77_ok (R := R_n77) (g := g_n77) (cuts := [([1, 1, 1], L_n77_j1)]) (pre := [tc0 F_n77]) rfl Tryd.func27 (by decide) rfl (fun _ => Nat.le_of_ble_eq_true (by kernel_rfl)) (fun _ => rfl) (by kernel_rfl) (fun _ _ h => Eq.trans (by kernel_rfl) h) ⟨rfl, trivial⟩ (fun r => ⟨(L_n77_j1_ok r), trivial⟩) fun _ => rfl

/-! ### tablefinder/tablefinderkit.Roll -/
def c_n78 : Code := bodyOf Tryd.f20
def F_n78 : FC U := ⟨X0.at 6, Tryd.f20, c_n78, [], [], [.box], [none]⟩
theorem F_n78_ok : FOk F_n78 := fok uok tok0 eok0 mixed rfl trivial
def R_n78 : RSh := ⟨[.box (.st 4)], []⟩
def g_n78 (v : RVal U R_n78) : Gk_Dice := v.1.1
def b_n78 (q : Gk_Dice) : TRet U := R_n78.bld ((q, ()), ())
def S_sk_Roll : FSig U := ⟨Gk_Dice, [25], [.p], [none], [.p (.sl (.int .i64))], fun v => sk_Roll v.1, b_n78⟩
theorem S_sk_Roll_ok : SigOk X0.E 20 S_sk_Roll.sig := FSig.ok0 F_n78_ok (R := R_n78) (g := g_n78) (cuts := []) (pre := [tc0 F_n78]) rfl Tryd.func20 (by decide) rfl (fun _ => Nat.le_of_ble_eq_true (by kernel_rfl)) (fun _ => rfl) (by kernel_rfl) (fun _ _ h => Eq.trans (by kernel_rfl) h) ⟨rfl, trivial⟩ (fun r => trivial) fun _ => rfl

/-! ### tablefinder/tablefinderkit.Mod -/
def c_n79 : Code := bodyOf Tryd.f22
def F_n79 : FC U := ⟨X0.at 14, Tryd.f22, c_n79, [], [], [.p], [none]⟩
theorem F_n79_ok : FOk F_n79 := fok uok tok0 eok0 mixed rfl trivial
def R_n79 : RSh := ⟨[.p (.int .i64)], []⟩
def g_n79 (v : RVal U R_n79) : Int := v.1.1
def b_n79 (q : Int) : TRet U := R_n79.bld ((q, ()), ())
def S_sk_Mod : FSig U := ⟨Int, [3, 3], [.p, .p], [none, none], [.p (.int .i64), .p (.int .i64)], fun v => sk_Mod v.1 v.2.1, b_n79⟩
theorem S_sk_Mod_ok : SigOk X0.E 22 S_sk_Mod.sig := FSig.ok0 F_n79_ok (R := R_n79) (g := g_n79) (cuts := []) (pre := [tc0 F_n79]) rfl Tryd.func22 (by decide) rfl (fun _ => Nat.le_of_ble_eq_true (by kernel_rfl)) (fun _ => rfl) (by kernel_rfl) (fun _ _ h => Eq.trans (by kernel_rfl) h) ⟨rfl, trivial⟩ (fun r => trivial) fun _ => rfl

/-! ### (*tablefinder/tablefinderkit.Dice).Next -/
def c_n80 : Code := bodyOf Tryd.f51
def F_n80 : FC U := ⟨X0.at 35, Tryd.f51, c_n80, [(22, S_sk_Mod.sig)], [0], [.p], [none]⟩
theorem F_n80_ok : FOk F_n80 := fok uok tok0 eok0 mixed rfl ⟨S_sk_Mod_ok, trivial⟩
def R_n80 : RSh := ⟨[.p (.int .i64)], [(0, .box (.st 4))]⟩
def g_n80 (v : RVal U R_n80) : (Int × Gk_Dice) := (v.1.1, v.2.1)
def b_n80 (q : (Int × Gk_Dice)) : TRet U := R_n80.bld ((q.1, ()), (q.2, ()))
def S_sk_Dice_Next : FSig U := ⟨(Int × Gk_Dice), [29, 3], [.lend, .p], [none, none], [.box (.st 4), .p (.int .i64)], fun v => sk_Dice_Next v.1 v.2.1, b_n80⟩
theorem S_sk_Dice_Next_ok : SigOk X0.E 51 S_sk_Dice_Next.sig := FSig.ok0 F_n80_ok (R := R_n80) (g := g_n80) (cuts := []) (pre := [tc0 F_n80]) rfl Tryd.func51 (by decide) rfl (fun _ => Nat.le_of_ble_eq_true (by kernel_rfl)) (fun _ => rfl) (by kernel_rfl) (fun _ _ h => Eq.trans (by kernel_rfl) h) ⟨rfl, trivial⟩ (fun r => trivial) fun _ => rfl

/-! ### tablefinder/tablefinderkit.Fraction -/
def c_n81 : Code := bodyOf Tryd.f81
def F_n81 : FC U := ⟨X0.at 10, Tryd.f81, c_n81, [(51, S_sk_Dice_Next.sig), (84, S_sr23_Part.sig)], [0], [.p], [some 1]⟩
theorem F_n81_ok : FOk F_n81 := fok uok tok0 eok0 mixed rfl ⟨S_sk_Dice_Next_ok, S_sr23_Part_ok, trivial⟩
def R_n81 : RSh := ⟨[.p (.st 1)], [(0, .box (.st 4))]⟩
def g_n81 (v : RVal U R_n81) : (GaFraction × Gk_Dice) := (v.1.1, v.2.1)
def b_n81 (q : (GaFraction × Gk_Dice)) : TRet U := R_n81.bld ((q.1, ()), (q.2, ()))
def S_sk_Fraction : FSig U := ⟨(GaFraction × Gk_Dice), [29], [.lend], [none], [.box (.st 4)], fun v => sk_Fraction v.1, b_n81⟩
theorem S_sk_Fraction_ok : SigOk X0.E 81 S_sk_Fraction.sig := FSig.ok0 F_n81_ok (R := R_n81) (g := g_n81) (cuts := []) (pre := [tc0 F_n81]) rfl Tryd.func81 (by decide) rfl (fun _ => Nat.le_of_ble_eq_true (by kernel_rfl)) (fun _ => rfl) (by kernel_rfl) (fun _ _ h => Eq.trans (by kernel_rfl) h) ⟨rfl, trivial⟩ (fun r => trivial) fun _ => rfl

/-! ### tablefinder/tablefinderref01.Valid -/
def c_n82 : Code := bodyOf Tryd.f92
def F_n82 : FC U := ⟨X0.at 46, Tryd.f92, c_n82, [(134, S_sr01_ValidBig.sig), (135, S_sr01_cmp.sig), (136, S_sr01_gcd.sig)], [], [.p], [none]⟩
theorem F_n82_ok : FOk F_n82 := fok uok tok0 eok0 mixed rfl ⟨S_sr01_ValidBig_ok, S_sr01_cmp_ok, S_sr01_gcd_ok, trivial⟩
def R_n82 : RSh := ⟨[.p .bool], []⟩
def g_n82 (v : RVal U R_n82) : Bool := v.1.1
def b_n82 (q : Bool) : TRet U := R_n82.bld ((q, ()), ())
def L_n82_j1 : Lp U Bool := ⟨[1, 24], [], [.o (.ptr (0, 1, 1) 0 0), .o (.v .bool)], [.boxS (.st 1)], fun v w => sr01_Valid_j1 v.2.1 w.1⟩
theorem L_n82_j1_ok (r : Bool) : LpOk F_n82 (b_n82 r).enc r (L_n82_j1) (stAt F_n82 [1, 0, 1]) := fun v w hi h => Pt.ev0 F_n82_ok (S := R_n82) (g := g_n82) (b := b_n82) (cuts := []) (pre := [tc F_n82 [1, 0, 1], tc F_n82 [1, 1]]) (T := Lp.st F_n82 (L_n82_j1) v w) (by kernel_rfl) hi (Eq.trans (by kernel_rfl) h) ⟨by kernel_rfl, by kernel_rfl, trivial⟩ trivial fun _ => rfl
def S_sr01_Valid : FSig U := ⟨Bool, [60], [.p], [some 1], [.p (.st 1)], fun v => sr01_Valid v.1, b_n82⟩
theorem S_sr01_Valid_ok : SigOk X0.E 92 S_sr01_Valid.sig := FSig.ok0 F_n82_ok (R := R_n82) (g := g_n82) (cuts := [([1, 0, 1], L_n82_j1)]) (pre := [tc0 F_n82]) rfl Tryd.func92 (by decide) rfl (fun _ => Nat.le_of_ble_eq_true (by kernel_rfl)) (fun _ => rfl) (by kernel_rfl) (fun _ _ h => Eq.trans (by kernel_rfl) h) ⟨rfl, trivial⟩ (fun r => ⟨(L_n82_j1_ok r), trivial⟩) fun _ => rfl

abbrev Tr_n83_1 : Type := qL0 → qL0 → Int → qL0 → Option qL0
/-! ### tablefinder/tablefinderref01.mul -/
def c_n83 : Code := bodyOf Tryd.f140
def F_n83 : FC U := ⟨X0.at 67, Tryd.f140, c_n83, [(175, S_sr01_trim.sig)], [], [.p], [none]⟩
theorem F_n83_ok : FOk F_n83 := fok uok tok0 eok0 mixed rfl ⟨S_sr01_trim_ok, trivial⟩
def R_n83 : RSh := ⟨[.p (.sl (.int .u32))], []⟩
def g_n83 (v : RVal U R_n83) : qL0 := v.1.1
def b_n83 (q : qL0) : TRet U := R_n83.bld ((q, ()), ())
def L_n83_k2 : Lp U qL0 := ⟨[5], [], [.o (.full (0, 1, 1))], [.arr (.int .u32) false], fun v w => sr01_mul_k2 w.1⟩
theorem L_n83_k2_ok (r : qL0) : LpOk F_n83 (b_n83 r).enc r (L_n83_k2) ([tc F_n83 [1, 1, 1]].map TI'.conc ++ []) := fun v w hi h => Pt.ev0 F_n83_ok (S := R_n83) (g := g_n83) (b := b_n83) (cuts := []) (pre := [tc F_n83 [1, 1, 1]]) (T := Lp.st F_n83 (L_n83_k2) v w) (by kernel_rfl) hi (Eq.trans (by kernel_rfl) h) ⟨by kernel_rfl, trivial⟩ trivial fun _ => rfl
def base_n83_l1 : List Eng.Item := .lp (codeAt F_n83 [5, 4, 1, 0, 1, 1]) :: ([.blk 0, tc F_n83 [1, 1, 1]].map TI'.conc ++ [])
def Lh_n83_l1 (rec_ : Tr_n83_1) : Lp U qL0 := ⟨[0, 1, 5, 6], [], qs20, [.arr (.int .u32) false], fun v w => rec_ v.1 v.2.1 v.2.2.2.1 w.1⟩
def Lx_n83_l1 : Lp U qL0 := ⟨[5], [], [.o (.full (0, 1, 1))], [.arr (.int .u32) false], fun v w => some w.1⟩
def L_n83_k1 (rec_ : Tr_n83_1) : Lp U qL0 := ⟨[0, 1, 5, 6, 7], [], qs14, [.arr (.int .u32) false], fun v w => sr01_mul_k1 rec_ v.1 v.2.1 v.2.2.2.1 v.2.2.2.2.1 w.1⟩
theorem L_n83_k1_ok {RT : Ret} {r : qL0} {rec_ : Tr_n83_1} (hb : LpOk F_n83 RT r (Lh_n83_l1 rec_) base_n83_l1) (hx : AllExits F_n83 RT r base_n83_l1 [(0, Lx_n83_l1)]) (hr : qH (fun _ => none) r RT) : LpOk F_n83 RT r (L_n83_k1 rec_) ([tc F_n83 [1, 1, 4, 0, 1, 5, 4, 1, 0, 1, 1], .blk 1, tc F_n83 [1, 1, 5, 4, 1, 0, 1, 1]].map TI'.conc ++ base_n83_l1) := fun v w hi h => Pt.evlAt F_n83_ok (r := r) 4000 (cuts := []) (back := (some (Lh_n83_l1 rec_))) (exits := [(0, Lx_n83_l1)]) (ret := (fun _ => none)) (base := base_n83_l1) (pre := [tc F_n83 [1, 1, 4, 0, 1, 5, 4, 1, 0, 1, 1], .blk 1, tc F_n83 [1, 1, 5, 4, 1, 0, 1, 1]]) (T := Lp.st F_n83 (L_n83_k1 rec_) v w) (by kernel_rfl) hi (Eq.trans (by kernel_rfl) h) ⟨by kernel_rfl, by kernel_rfl, trivial⟩ trivial (fun L hL => by cases hL; exact hb) (fun hn => nomatch hn) hx hr
def base_n83_l2 : List Eng.Item := .lp (codeAt F_n83 [5, 4, 1, 0, 1, 4, 0, 1, 5, 4, 1, 0, 1, 1]) :: ([.blk 2, tc F_n83 [1, 1, 4, 0, 1, 5, 4, 1, 0, 1, 1], .blk 1, tc F_n83 [1, 1, 5, 4, 1, 0, 1, 1]].map TI'.conc ++ base_n83_l1)
def Lh_n83_l2 (rec_ : qL0 → qL0 → Int → Int → Int → qL0 → Option qT47) : Lp U qT47 := ⟨[0, 1, 5, 6, 7, 8], [], qs8, [.arr (.int .u32) false], fun v w => rec_ v.1 v.2.1 v.2.2.2.1 v.2.2.2.2.1 v.2.2.2.2.2.1 w.1⟩
def Lx_n83_l2 : Lp U qT47 := ⟨[0, 1, 5, 6, 7], [], qs14, [.arr (.int .u32) false], fun v w => some (v.1, v.2.1, v.2.2.2.1, v.2.2.2.2.1, w.1)⟩
theorem sr01_mul_l2_ok {RT : Ret} {r : qT47} (hx : AllExits F_n83 RT r base_n83_l2 [(2, Lx_n83_l2)]) (hr : qH (fun _ => none) r RT) : ∀ n, LpOk F_n83 RT r (Lh_n83_l2 (sr01_mul_l2 n)) (stAt F_n83 [4, 1, 0, 1, 4, 0, 1, 5, 4, 1, 0, 1, 1]) :=
  loop_ok F_n83_ok 4000 (q := [4, 1, 0, 1, 4, 0, 1, 5, 4, 1, 0, 1, 1]) (body := codeAt F_n83 [5, 4, 1, 0, 1, 4, 0, 1, 5, 4, 1, 0, 1, 1]) (live := [0, 1, 5, 6, 7, 8]) (frz := []) (shs := qs8) (sho := [.arr (.int .u32) false]) (fun n v w => sr01_mul_l2 n v.1 v.2.1 v.2.2.2.1 v.2.2.2.2.1 v.2.2.2.2.2.1 w.1) (cuts := fun n => []) (exits := [(2, Lx_n83_l2)]) (ret := (fun _ => none)) (by kernel_rfl) (fun _ _ => rfl) (fun n v w => by kernel_rfl) (fun n hb => trivial) hx hr
def Lc_n83_l2 (rec_ : Tr_n83_1) : Lp U qL0 := ⟨[0, 1, 5, 6, 7, 8], [], qs8, [.arr (.int .u32) false], fun v w => (sr01_mul_l2 big v.1 v.2.1 v.2.2.2.1 v.2.2.2.2.1 v.2.2.2.2.2.1 w.1).bind fun (x0, x1, x2, x3, x4) => sr01_mul_k1 rec_ x0 x1 x2 x3 x4⟩
theorem Lc_n83_l2_ok {RT : Ret} {r : qL0} {rec_ : Tr_n83_1} (hb : LpOk F_n83 RT r (Lh_n83_l1 rec_) base_n83_l1) (hx : AllExits F_n83 RT r base_n83_l1 [(0, Lx_n83_l1)]) (hr : qH (fun _ => none) r RT) : LpOk F_n83 RT r (Lc_n83_l2 rec_) (stAt F_n83 [4, 1, 0, 1, 4, 0, 1, 5, 4, 1, 0, 1, 1]) := fun v w hi h0 => by
  obtain ⟨x, hx0, h⟩ := bind_some h0
  exact sr01_mul_l2_ok (r := x) (RT := RT) ⟨⟨[tc F_n83 [1, 1, 4, 0, 1, 5, 4, 1, 0, 1, 1], .blk 1, tc F_n83 [1, 1, 5, 4, 1, 0, 1, 1]].map TI'.conc ++ base_n83_l1, by kernel_rfl, fun v' w' hi' h' => by obtain rfl := Option.some.inj h'; exact L_n83_k1_ok hb hx hr v' w' hi' h⟩, trivial⟩ (fun _ ht => nomatch ht) big v w hi hx0
theorem sr01_mul_l1_ok {RT : Ret} {r : qL0} (hx : AllExits F_n83 RT r base_n83_l1 [(0, Lx_n83_l1)]) (hr : qH (fun _ => none) r RT) : ∀ n, LpOk F_n83 RT r (Lh_n83_l1 (sr01_mul_l1 n)) (stAt F_n83 [4, 1, 0, 1, 1]) :=
  loop_ok F_n83_ok 4000 (q := [4, 1, 0, 1, 1]) (body := codeAt F_n83 [5, 4, 1, 0, 1, 1]) (live := [0, 1, 5, 6]) (frz := []) (shs := qs20) (sho := [.arr (.int .u32) false]) (fun n v w => sr01_mul_l1 n v.1 v.2.1 v.2.2.2.1 w.1) (cuts := fun n => [([4, 1, 0, 1, 4, 0, 1, 5, 4, 1, 0, 1, 1], Lc_n83_l2 (sr01_mul_l1 n))]) (exits := [(0, Lx_n83_l1)]) (ret := (fun _ => none)) (by kernel_rfl) (fun _ _ => rfl) (fun n v w => by kernel_rfl) (fun n hb => ⟨Lc_n83_l2_ok hb hx hr, trivial⟩) hx hr
def Lc_n83_l1 : Lp U qL0 := ⟨[0, 1, 5, 6], [], qs20, [.arr (.int .u32) false], fun v w => (sr01_mul_l1 big v.1 v.2.1 v.2.2.2.1 w.1).bind fun x0 => sr01_mul_k2 x0⟩
theorem Lc_n83_l1_ok (r : qL0) : LpOk F_n83 (b_n83 r).enc r (Lc_n83_l1) (stAt F_n83 [4, 1, 0, 1, 1]) := fun v w hi h0 => by
  obtain ⟨x, hx0, h⟩ := bind_some h0
  exact sr01_mul_l1_ok (r := x) (RT := (b_n83 r).enc) ⟨⟨[tc F_n83 [1, 1, 1]].map TI'.conc ++ [], by kernel_rfl, fun v' w' hi' h' => by obtain rfl := Option.some.inj h'; exact L_n83_k2_ok r v' w' hi' h⟩, trivial⟩ (fun _ ht => nomatch ht) big v w hi hx0
def S_sr01_mul : FSig U := ⟨qL0, [56, 56], [.p, .p], [none, none], [.p (.sl (.int .u32)), .p (.sl (.int .u32))], fun v => sr01_mul v.1 v.2.1, b_n83⟩
theorem S_sr01_mul_ok : SigOk X0.E 140 S_sr01_mul.sig := FSig.ok0 F_n83_ok (R := R_n83) (g := g_n83) (cuts := [([4, 1, 0, 1, 1], Lc_n83_l1)]) (pre := [tc0 F_n83]) rfl Tryd.func140 (by decide) rfl (fun _ => Nat.le_of_ble_eq_true (by kernel_rfl)) (fun _ => rfl) (by kernel_rfl) (fun _ _ h => Eq.trans (by kernel_rfl) h) ⟨rfl, trivial⟩ (fun r => ⟨(Lc_n83_l1_ok r), trivial⟩) fun _ => rfl

/-! ### tablefinder/tablefinderref01.Times -/
def c_n84 : Code := bodyOf Tryd.f94
def F_n84 : FC U := ⟨X0.at 16, Tryd.f94, c_n84, [(140, S_sr01_mul.sig), (137, S_sr01_big.sig)], [], [.p], [some 0]⟩
theorem F_n84_ok : FOk F_n84 := fok uok tok0 eok0 mixed rfl ⟨S_sr01_mul_ok, S_sr01_big_ok, trivial⟩
def R_n84 : RSh := ⟨[.p (.st 0)], []⟩
def g_n84 (v : RVal U R_n84) : GaBig := v.1.1
def b_n84 (q : GaBig) : TRet U := R_n84.bld ((q, ()), ())
def S_sr01_Times : FSig U := ⟨GaBig, [58, 58], [.p, .p], [some 0, some 0], [.p (.st 0), .p (.st 0)], fun v => sr01_Times v.1 v.2.1, b_n84⟩
theorem S_sr01_Times_ok : SigOk X0.E 94 S_sr01_Times.sig := FSig.ok0 F_n84_ok (R := R_n84) (g := g_n84) (cuts := []) (pre := [tc0 F_n84]) rfl Tryd.func94 (by decide) rfl (fun _ => Nat.le_of_ble_eq_true (by kernel_rfl)) (fun _ => rfl) (by kernel_rfl) (fun _ _ h => Eq.trans (by kernel_rfl) h) ⟨rfl, trivial⟩ (fun r => trivial) fun _ => rfl

abbrev Tr_n85_0 : Type := qL0 → qL0 → Int → Int → qL0 → Option qT57
/-! ### tablefinder/tablefinderref01.add -/
def c_n85 : Code := bodyOf Tryd.f138
def F_n85 : FC U := ⟨X0.at 54, Tryd.f138, c_n85, [], [], [.own], [none]⟩
theorem F_n85_ok : FOk F_n85 := fok uok tok0 eok0 mixed rfl trivial
def R_n85 : RSh := ⟨[.own (.int .u32)], []⟩
def g_n85 (v : RVal U R_n85) : qL0 := v.1.1
def b_n85 (q : qL0) : TRet U := R_n85.bld ((q, ()), ())
def L_n85_k4 : Lp U qL0 := ⟨[5, 6], [], [.o (.full (0, 1, 1)), .o (.v (.int .u64))], [.arr (.int .u32) false], fun v w => sr01_add_k4 v.2.1 w.1⟩
theorem L_n85_k4_ok (r : qL0) : LpOk F_n85 (b_n85 r).enc r (L_n85_k4) ([tc F_n85 [1, 1, 1, 1]].map TI'.conc ++ []) := fun v w hi h => Pt.ev0 F_n85_ok (S := R_n85) (g := g_n85) (b := b_n85) (cuts := []) (pre := [tc F_n85 [1, 1, 1, 1]]) (T := Lp.st F_n85 (L_n85_k4) v w) (by kernel_rfl) hi (Eq.trans (by kernel_rfl) h) ⟨by kernel_rfl, trivial⟩ trivial fun _ => rfl
def base_n85_l1 : List Eng.Item := .lp (codeAt F_n85 [5, 4, 1, 0, 1, 1, 1]) :: ([.blk 0, tc F_n85 [1, 1, 1, 1]].map TI'.conc ++ [])
def Lh_n85_l1 (rec_ : Tr_n85_0) : Lp U qT57 := ⟨[0, 1, 5, 6, 7], [], qs15, [.arr (.int .u32) false], fun v w => rec_ v.1 v.2.1 v.2.2.2.1 v.2.2.2.2.1 w.1⟩
def Lx_n85_l1 : Lp U qT57 := ⟨[5, 6], [], [.o (.full (0, 1, 1)), .o (.v (.int .u64))], [.arr (.int .u32) false], fun v w => some (v.2.1, w.1)⟩
def L_n85_j3 (rec_ : Tr_n85_0) : Lp U qT57 := ⟨[0, 1, 5, 6, 7], [], qs15, [.arr (.int .u32) false], fun v w => sr01_add_j3 rec_ v.1 v.2.1 v.2.2.2.1 v.2.2.2.2.1 w.1⟩
theorem L_n85_j3_ok {RT : Ret} {r : qT57} {rec_ : Tr_n85_0} (hb : LpOk F_n85 RT r (Lh_n85_l1 rec_) base_n85_l1) (hx : AllExits F_n85 RT r base_n85_l1 [(0, Lx_n85_l1)]) (hr : qH (fun _ => none) r RT) : LpOk F_n85 RT r (L_n85_j3 rec_) (stAt F_n85 [1, 1, 4, 0, 1, 5, 4, 1, 0, 1, 1, 1]) := fun v w hi h => Pt.evlAt F_n85_ok (r := r) 4000 (cuts := []) (back := (some (Lh_n85_l1 rec_))) (exits := [(0, Lx_n85_l1)]) (ret := (fun _ => none)) (base := base_n85_l1) (pre := [tc F_n85 [1, 1, 4, 0, 1, 5, 4, 1, 0, 1, 1, 1], .blk 1, tc F_n85 [1, 1, 5, 4, 1, 0, 1, 1, 1]]) (T := Lp.st F_n85 (L_n85_j3 rec_) v w) (by kernel_rfl) hi (Eq.trans (by kernel_rfl) h) ⟨by kernel_rfl, by kernel_rfl, trivial⟩ trivial (fun L hL => by cases hL; exact hb) (fun hn => nomatch hn) hx hr
def L_n85_j2 (rec_ : Tr_n85_0) : Lp U qT57 := ⟨[0, 1, 5, 6, 7], [], qs15, [.arr (.int .u32) false], fun v w => sr01_add_j2 rec_ v.1 v.2.1 v.2.2.2.1 v.2.2.2.2.1 w.1⟩
theorem L_n85_j2_ok {RT : Ret} {r : qT57} {rec_ : Tr_n85_0} (hb : LpOk F_n85 RT r (Lh_n85_l1 rec_) base_n85_l1) (hx : AllExits F_n85 RT r base_n85_l1 [(0, Lx_n85_l1)]) (hr : qH (fun _ => none) r RT) : LpOk F_n85 RT r (L_n85_j2 rec_) (stAt F_n85 [1, 4, 0, 1, 5, 4, 1, 0, 1, 1, 1]) := fun v w hi h => Pt.evlAt F_n85_ok (r := r) 4000 (cuts := [([1, 1, 4, 0, 1, 5, 4, 1, 0, 1, 1, 1], (L_n85_j3 rec_))]) (back := (some (Lh_n85_l1 rec_))) (exits := [(0, Lx_n85_l1)]) (ret := (fun _ => none)) (base := base_n85_l1) (pre := [tc F_n85 [1, 4, 0, 1, 5, 4, 1, 0, 1, 1, 1], .blk 1, tc F_n85 [1, 1, 5, 4, 1, 0, 1, 1, 1]]) (T := Lp.st F_n85 (L_n85_j2 rec_) v w) (by kernel_rfl) hi (Eq.trans (by kernel_rfl) h) ⟨by kernel_rfl, by kernel_rfl, trivial⟩ ⟨(L_n85_j3_ok hb hx hr), trivial⟩ (fun L hL => by cases hL; exact hb) (fun hn => nomatch hn) hx hr
def L_n85_j1 (rec_ : Tr_n85_0) : Lp U qT57 := ⟨[0, 1, 5, 6, 7, 17], [], [.o (.v (.sl (.int .u32))), .o (.v (.sl (.int .u32))), .o (.full (0, 1, 1)), .o (.v (.int .u64)), qi, .o (.v .bool)], [.arr (.int .u32) false], fun v w => sr01_add_j1 rec_ v.1 v.2.1 v.2.2.2.1 v.2.2.2.2.1 v.2.2.2.2.2.1 w.1⟩
theorem L_n85_j1_ok {RT : Ret} {r : qT57} {rec_ : Tr_n85_0} (hb : LpOk F_n85 RT r (Lh_n85_l1 rec_) base_n85_l1) (hx : AllExits F_n85 RT r base_n85_l1 [(0, Lx_n85_l1)]) (hr : qH (fun _ => none) r RT) : LpOk F_n85 RT r (L_n85_j1 rec_) (stAt F_n85 [1, 0, 5, 4, 1, 0, 1, 1, 1]) := fun v w hi h => Pt.evlAt F_n85_ok (r := r) 4000 (cuts := [([1, 4, 0, 1, 5, 4, 1, 0, 1, 1, 1], (L_n85_j2 rec_))]) (back := (some (Lh_n85_l1 rec_))) (exits := [(0, Lx_n85_l1)]) (ret := (fun _ => none)) (base := base_n85_l1) (pre := [tc F_n85 [1, 0, 5, 4, 1, 0, 1, 1, 1], tc F_n85 [1, 5, 4, 1, 0, 1, 1, 1]]) (T := Lp.st F_n85 (L_n85_j1 rec_) v w) (by kernel_rfl) hi (Eq.trans (by kernel_rfl) h) ⟨by kernel_rfl, by kernel_rfl, trivial⟩ ⟨(L_n85_j2_ok hb hx hr), trivial⟩ (fun L hL => by cases hL; exact hb) (fun hn => nomatch hn) hx hr
theorem sr01_add_l1_ok {RT : Ret} {r : qT57} (hx : AllExits F_n85 RT r base_n85_l1 [(0, Lx_n85_l1)]) (hr : qH (fun _ => none) r RT) : ∀ n, LpOk F_n85 RT r (Lh_n85_l1 (sr01_add_l1 n)) (stAt F_n85 [4, 1, 0, 1, 1, 1]) :=
  loop_ok F_n85_ok 4000 (q := [4, 1, 0, 1, 1, 1]) (body := codeAt F_n85 [5, 4, 1, 0, 1, 1, 1]) (live := [0, 1, 5, 6, 7]) (frz := []) (shs := qs15) (sho := [.arr (.int .u32) false]) (fun n v w => sr01_add_l1 n v.1 v.2.1 v.2.2.2.1 v.2.2.2.2.1 w.1) (cuts := fun n => [([1, 0, 5, 4, 1, 0, 1, 1, 1], L_n85_j1 (sr01_add_l1 n))]) (exits := [(0, Lx_n85_l1)]) (ret := (fun _ => none)) (by kernel_rfl) (fun _ _ => rfl) (fun n v w => by kernel_rfl) (fun n hb => ⟨L_n85_j1_ok hb hx hr, trivial⟩) hx hr
def Lc_n85_l1 : Lp U qL0 := ⟨[0, 1, 5, 6, 7], [], qs15, [.arr (.int .u32) false], fun v w => (sr01_add_l1 big v.1 v.2.1 v.2.2.2.1 v.2.2.2.2.1 w.1).bind fun (x0, x1) => sr01_add_k4 x0 x1⟩
theorem Lc_n85_l1_ok (r : qL0) : LpOk F_n85 (b_n85 r).enc r (Lc_n85_l1) (stAt F_n85 [4, 1, 0, 1, 1, 1]) := fun v w hi h0 => by
  obtain ⟨x, hx0, h⟩ := bind_some h0
  exact sr01_add_l1_ok (r := x) (RT := (b_n85 r).enc) ⟨⟨[tc F_n85 [1, 1, 1, 1]].map TI'.conc ++ [], by kernel_rfl, fun v' w' hi' h' => by obtain rfl := Option.some.inj h'; exact L_n85_k4_ok r v' w' hi' h⟩, trivial⟩ (fun _ ht => nomatch ht) big v w hi hx0
def S_sr01_add : FSig U := ⟨qL0, [56, 56], [.p, .p], [none, none], [.p (.sl (.int .u32)), .p (.sl (.int .u32))], fun v => sr01_add v.1 v.2.1, b_n85⟩
theorem S_sr01_add_ok : SigOk X0.E 138 S_sr01_add.sig := FSig.ok0 F_n85_ok (R := R_n85) (g := g_n85) (cuts := [([4, 1, 0, 1, 1, 1], Lc_n85_l1)]) (pre := [tc0 F_n85]) rfl Tryd.func138 (by decide) rfl (fun _ => Nat.le_of_ble_eq_true (by kernel_rfl)) (fun _ => rfl) (by kernel_rfl) (fun _ _ h => Eq.trans (by kernel_rfl) h) ⟨rfl, trivial⟩ (fun r => ⟨(Lc_n85_l1_ok r), trivial⟩) fun _ => rfl

/-! ### tablefinder/tablefinderref01.Plus -/
def c_n86 : Code := bodyOf Tryd.f93
def F_n86 : FC U := ⟨X0.at 40, Tryd.f93, c_n86, [(138, S_sr01_add.sig), (137, S_sr01_big.sig), (135, S_sr01_cmp.sig), (139, S_sr01_sub.sig)], [], [.p], [some 0]⟩
theorem F_n86_ok : FOk F_n86 := fok uok tok0 eok0 mixed rfl ⟨S_sr01_add_ok, S_sr01_big_ok, S_sr01_cmp_ok, S_sr01_sub_ok, trivial⟩
def R_n86 : RSh := ⟨[.p (.st 0)], []⟩
def g_n86 (v : RVal U R_n86) : GaBig := v.1.1
def b_n86 (q : GaBig) : TRet U := R_n86.bld ((q, ()), ())
def S_sr01_Plus : FSig U := ⟨GaBig, [58, 58], [.p, .p], [some 0, some 0], [.p (.st 0), .p (.st 0)], fun v => sr01_Plus v.1 v.2.1, b_n86⟩
theorem S_sr01_Plus_ok : SigOk X0.E 93 S_sr01_Plus.sig := FSig.ok0 F_n86_ok (R := R_n86) (g := g_n86) (cuts := []) (pre := [tc0 F_n86]) rfl Tryd.func93 (by decide) rfl (fun _ => Nat.le_of_ble_eq_true (by kernel_rfl)) (fun _ => rfl) (by kernel_rfl) (fun _ _ h => Eq.trans (by kernel_rfl) h) ⟨rfl, trivial⟩ (fun r => trivial) fun _ => rfl

/-! ### tablefinder/tablefinderref01.result -/
def c_n87 : Code := bodyOf Tryd.f126
def F_n87 : FC U := ⟨X0.at 24, Tryd.f126, c_n87, [(160, S_sr01_lowest.sig)], [], [.p, .p], [some 1, none]⟩
theorem F_n87_ok : FOk F_n87 := fok uok tok0 eok0 mixed rfl ⟨S_sr01_lowest_ok, trivial⟩
def R_n87 : RSh := ⟨[.p (.st 1), .p (.int .i64)], []⟩
def g_n87 (v : RVal U R_n87) : qT59 := (v.1.1, v.1.2.1)
def b_n87 (q : qT59) : TRet U := R_n87.bld ((q.1, (q.2, ())), ())
def L_n87_j1 : Lp U qT59 := ⟨[4, 6, 21], [], qs33, [.box [.o (.v .bool), .o (.full (0, 3, 1)), .o (.v .bool), .o (.full (0, 4, 1))], .boxS (.st 1), .arr (.int .u32) false, .arr (.int .u32) false], fun v w => sr01_result_j1 v.2.2.1 w.1.1 w.1.2.2.1 w.2.1 w.2.2.1 w.2.2.2.1⟩
theorem L_n87_j1_ok (r : qT59) : LpOk F_n87 (b_n87 r).enc r (L_n87_j1) (stAt F_n87 [1, 0, 1, 1]) := fun v w hi h => Pt.ev0 F_n87_ok (S := R_n87) (g := g_n87) (b := b_n87) (cuts := []) (pre := [tc F_n87 [1, 0, 1, 1], tc F_n87 [1, 1, 1]]) (T := Lp.st F_n87 (L_n87_j1) v w) (by kernel_rfl) hi (Eq.trans (by kernel_rfl) h) ⟨by kernel_rfl, by kernel_rfl, trivial⟩ trivial fun _ => rfl
def S_sr01_result : FSig U := ⟨qT59, [58, 58], [.p, .p], [some 0, some 0], [.p (.st 0), .p (.st 0)], fun v => sr01_result v.1 v.2.1, b_n87⟩
theorem S_sr01_result_ok : SigOk X0.E 126 S_sr01_result.sig := FSig.ok0 F_n87_ok (R := R_n87) (g := g_n87) (cuts := [([1, 0, 1, 1], L_n87_j1)]) (pre := [tc0 F_n87]) rfl Tryd.func126 (by decide) rfl (fun _ => Nat.le_of_ble_eq_true (by kernel_rfl)) (fun _ => rfl) (by kernel_rfl) (fun _ _ h => Eq.trans (by kernel_rfl) h) ⟨rfl, trivial⟩ (fun r => ⟨(L_n87_j1_ok r), trivial⟩) fun _ => rfl

/-! ### tablefinder/tablefinderref01.Add -/
def c_n88 : Code := bodyOf Tryd.f82
def F_n88 : FC U := ⟨X0.at 34, Tryd.f82, c_n88, [(92, S_sr01_Valid.sig), (94, S_sr01_Times.sig), (93, S_sr01_Plus.sig), (126, S_sr01_result.sig)], [], [.p, .p], [some 1, none]⟩
theorem F_n88_ok : FOk F_n88 := fok uok tok0 eok0 mixed rfl ⟨S_sr01_Valid_ok, S_sr01_Times_ok, S_sr01_Plus_ok, S_sr01_result_ok, trivial⟩
def R_n88 : RSh := ⟨[.p (.st 1), .p (.int .i64)], []⟩
def g_n88 (v : RVal U R_n88) : qT59 := (v.1.1, v.1.2.1)
def b_n88 (q : qT59) : TRet U := R_n88.bld ((q.1, (q.2, ())), ())
def L_n88_j1 : Lp U qT59 := ⟨[2, 3, 4, 13], [], qs24, qo5, fun v w => sr01_Add_j1 v.2.2.2.1 w.1 w.2.1 w.2.2.1.1 w.2.2.1.2.2.1 w.2.2.2.1 w.2.2.2.2.1⟩
theorem L_n88_j1_ok (r : qT59) : LpOk F_n88 (b_n88 r).enc r (L_n88_j1) (stAt F_n88 [1, 0, 1]) := fun v w hi h => Pt.ev0 F_n88_ok (S := R_n88) (g := g_n88) (b := b_n88) (cuts := []) (pre := [tc F_n88 [1, 0, 1], tc F_n88 [1, 1]]) (T := Lp.st F_n88 (L_n88_j1) v w) (by kernel_rfl) hi (Eq.trans (by kernel_rfl) h) ⟨by kernel_rfl, by kernel_rfl, trivial⟩ trivial fun _ => rfl
def S_sr01_Add : FSig U := ⟨qT59, [60, 60], [.p, .p], [some 1, some 1], [.p (.st 1), .p (.st 1)], fun v => sr01_Add v.1 v.2.1, b_n88⟩
theorem S_sr01_Add_ok : SigOk X0.E 82 S_sr01_Add.sig := FSig.ok0 F_n88_ok (R := R_n88) (g := g_n88) (cuts := [([1, 0, 1], L_n88_j1)]) (pre := [tc0 F_n88]) rfl Tryd.func82 (by decide) rfl (fun _ => Nat.le_of_ble_eq_true (by kernel_rfl)) (fun _ => rfl) (by kernel_rfl) (fun _ _ h => Eq.trans (by kernel_rfl) h) ⟨rfl, trivial⟩ (fun r => ⟨(L_n88_j1_ok r), trivial⟩) fun _ => rfl

/-! ### tablefinder/tablefinderref23.Add -/
def c_n89 : Code := bodyOf Tryd.f29
def F_n89 : FC U := ⟨X0.at 14, Tryd.f29, c_n89, [(82, S_sr01_Add.sig)], [], [.p], [some 1]⟩
theorem F_n89_ok : FOk F_n89 := fok uok tok0 eok0 mixed rfl ⟨S_sr01_Add_ok, trivial⟩
def R_n89 : RSh := ⟨[.p (.st 1)], []⟩
def g_n89 (v : RVal U R_n89) : GaFraction := v.1.1
def b_n89 (q : GaFraction) : TRet U := R_n89.bld ((q, ()), ())
def S_sr23_Add : FSig U := ⟨GaFraction, [60, 60], [.p, .p], [some 1, some 1], [.p (.st 1), .p (.st 1)], fun v => sr23_Add v.1 v.2.1, b_n89⟩
theorem S_sr23_Add_ok : SigOk X0.E 29 S_sr23_Add.sig := FSig.ok0 F_n89_ok (R := R_n89) (g := g_n89) (cuts := []) (pre := [tc0 F_n89]) rfl Tryd.func29 (by decide) rfl (fun _ => Nat.le_of_ble_eq_true (by kernel_rfl)) (fun _ => rfl) (by kernel_rfl) (fun _ _ h => Eq.trans (by kernel_rfl) h) ⟨rfl, trivial⟩ (fun r => trivial) fun _ => rfl

abbrev Tr_n90_0 : Type := Int → Gk_Dice → qL1 → Option qT52
/-! ### tablefinder/tablefinderlaw25.pairs -/
def c_n90 : Code := bodyOf Tryd.f28
def F_n90 : FC U := ⟨X0.at 34, Tryd.f28, c_n90, [(51, S_sk_Dice_Next.sig), (81, S_sk_Fraction.sig), (29, S_sr23_Add.sig), (31, S_sr23_Int.sig)], [0], [.own], [none]⟩
theorem F_n90_ok : FOk F_n90 := fok uok tok0 eok0 mixed rfl ⟨S_sk_Dice_Next_ok, S_sk_Fraction_ok, S_sr23_Add_ok, S_sr23_Int_ok, trivial⟩
def R_n90 : RSh := ⟨[.own (.st 2)], [(0, .box (.st 4))]⟩
def g_n90 (v : RVal U R_n90) : qT53 := (v.1.1, v.2.1)
def b_n90 (q : qT53) : TRet U := R_n90.bld ((q.1, ()), (q.2, ()))
def L_n90_k2 : Lp U qT53 := ⟨[3], [], [.o (.full (0, 1, 1))], qo41, fun v w => sl25_pairs_k2 w.1 w.2.1⟩
theorem L_n90_k2_ok (r : qT53) : LpOk F_n90 (b_n90 r).enc r (L_n90_k2) ([tc F_n90 [1, 1, 1]].map TI'.conc ++ []) := fun v w hi h => Pt.ev0 F_n90_ok (S := R_n90) (g := g_n90) (b := b_n90) (cuts := []) (pre := [tc F_n90 [1, 1, 1]]) (T := Lp.st F_n90 (L_n90_k2) v w) (by kernel_rfl) hi (Eq.trans (by kernel_rfl) h) ⟨by kernel_rfl, trivial⟩ trivial fun _ => rfl
def base_n90_l1 : List Eng.Item := .lp (codeAt F_n90 [5, 4, 1, 0, 1, 1]) :: ([.blk 0, tc F_n90 [1, 1, 1]].map TI'.conc ++ [])
def Lh_n90_l1 (rec_ : Tr_n90_0) : Lp U qT52 := ⟨[0, 3, 4], [], qs30, qo41, fun v w => rec_ v.2.2.1 w.1 w.2.1⟩
def Lx_n90_l1 : Lp U qT52 := ⟨[3], [], [.o (.full (0, 1, 1))], qo41, fun v w => some (w.1, w.2.1)⟩
def L_n90_j1 (rec_ : Tr_n90_0) : Lp U qT52 := ⟨[0, 3, 4, 5, 6], [], [.o (.ptr (0, 0, 0) 0 0), .o (.full (0, 1, 1)), qi, .o (.ptr (0, 2, 1) 0 0), .o (.ptr (0, 3, 1) 0 0)], [.boxS (.st 4), .arr (.st 2) false, .boxS (.st 1), .boxS (.st 1)], fun v w => sl25_pairs_j1 rec_ v.2.2.1 w.1 w.2.1 w.2.2.1 w.2.2.2.1⟩
theorem L_n90_j1_ok {RT : Ret} {r : qT52} {rec_ : Tr_n90_0} (hb : LpOk F_n90 RT r (Lh_n90_l1 rec_) base_n90_l1) (hx : AllExits F_n90 RT r base_n90_l1 [(0, Lx_n90_l1)]) (hr : qH (fun _ => none) r RT) : LpOk F_n90 RT r (L_n90_j1 rec_) (stAt F_n90 [1, 1, 1, 4, 0, 1, 5, 4, 1, 0, 1, 1]) := fun v w hi h => Pt.evlAt F_n90_ok (r := r) 4000 (cuts := []) (back := (some (Lh_n90_l1 rec_))) (exits := [(0, Lx_n90_l1)]) (ret := (fun _ => none)) (base := base_n90_l1) (pre := [tc F_n90 [1, 1, 1, 4, 0, 1, 5, 4, 1, 0, 1, 1], .blk 1, tc F_n90 [1, 1, 5, 4, 1, 0, 1, 1]]) (T := Lp.st F_n90 (L_n90_j1 rec_) v w) (by kernel_rfl) hi (Eq.trans (by kernel_rfl) h) ⟨by kernel_rfl, by kernel_rfl, trivial⟩ trivial (fun L hL => by cases hL; exact hb) (fun hn => nomatch hn) hx hr
theorem sl25_pairs_l1_ok {RT : Ret} {r : qT52} (hx : AllExits F_n90 RT r base_n90_l1 [(0, Lx_n90_l1)]) (hr : qH (fun _ => none) r RT) : ∀ n, LpOk F_n90 RT r (Lh_n90_l1 (sl25_pairs_l1 n)) (stAt F_n90 [4, 1, 0, 1, 1]) :=
  loop_ok F_n90_ok 4000 (q := [4, 1, 0, 1, 1]) (body := codeAt F_n90 [5, 4, 1, 0, 1, 1]) (live := [0, 3, 4]) (frz := []) (shs := qs30) (sho := qo41) (fun n v w => sl25_pairs_l1 n v.2.2.1 w.1 w.2.1) (cuts := fun n => [([1, 1, 1, 4, 0, 1, 5, 4, 1, 0, 1, 1], L_n90_j1 (sl25_pairs_l1 n))]) (exits := [(0, Lx_n90_l1)]) (ret := (fun _ => none)) (by kernel_rfl) (fun _ _ => rfl) (fun n v w => by kernel_rfl) (fun n hb => ⟨L_n90_j1_ok hb hx hr, trivial⟩) hx hr
def Lc_n90_l1 : Lp U qT53 := ⟨[0, 3, 4], [], qs30, qo41, fun v w => (sl25_pairs_l1 big v.2.2.1 w.1 w.2.1).bind fun (x0, x1) => sl25_pairs_k2 x0 x1⟩
theorem Lc_n90_l1_ok (r : qT53) : LpOk F_n90 (b_n90 r).enc r (Lc_n90_l1) (stAt F_n90 [4, 1, 0, 1, 1]) := fun v w hi h0 => by
  obtain ⟨x, hx0, h⟩ := bind_some h0
  exact sl25_pairs_l1_ok (r := x) (RT := (b_n90 r).enc) ⟨⟨[tc F_n90 [1, 1, 1]].map TI'.conc ++ [], by kernel_rfl, fun v' w' hi' h' => by obtain rfl := Option.some.inj h'; exact L_n90_k2_ok r v' w' hi' h⟩, trivial⟩ (fun _ ht => nomatch ht) big v w hi hx0
def S_sl25_pairs : FSig U := ⟨qT53, [29], [.lend], [none], [.box (.st 4)], fun v => sl25_pairs v.1, b_n90⟩
theorem S_sl25_pairs_ok : SigOk X0.E 28 S_sl25_pairs.sig := FSig.ok0 F_n90_ok (R := R_n90) (g := g_n90) (cuts := [([4, 1, 0, 1, 1], Lc_n90_l1)]) (pre := [tc0 F_n90]) rfl Tryd.func28 (by decide) rfl (fun _ => Nat.le_of_ble_eq_true (by kernel_rfl)) (fun _ => rfl) (by kernel_rfl) (fun _ _ h => Eq.trans (by kernel_rfl) h) ⟨rfl, trivial⟩ (fun r => ⟨(Lc_n90_l1_ok r), trivial⟩) fun _ => rfl

/-! ### tablefinder/tablefinderref25.SameMoments -/
def c_n91 : Code := bodyOf Tryd.f39
def F_n91 : FC U := ⟨X0.at 45, Tryd.f39, c_n91, [(34, S_sr23_Same.sig)], [], [.p], [none]⟩
theorem F_n91_ok : FOk F_n91 := fok uok tok0 eok0 mixed rfl ⟨S_sr23_Same_ok, trivial⟩
def R_n91 : RSh := ⟨[.p .bool], []⟩
def g_n91 (v : RVal U R_n91) : Bool := v.1.1
def b_n91 (q : Bool) : TRet U := R_n91.bld ((q, ()), ())
def L_n91_j1 : Lp U Bool := ⟨[4], [], [.o (.v .bool)], [], fun v w => sr25_SameMoments_j1 v.1⟩
theorem L_n91_j1_ok (r : Bool) : LpOk F_n91 (b_n91 r).enc r (L_n91_j1) (stAt F_n91 [1, 1]) := fun v w hi h => Pt.ev0 F_n91_ok (S := R_n91) (g := g_n91) (b := b_n91) (cuts := []) (pre := [tc F_n91 [1, 1]]) (T := Lp.st F_n91 (L_n91_j1) v w) (by kernel_rfl) hi (Eq.trans (by kernel_rfl) h) ⟨by kernel_rfl, trivial⟩ trivial fun _ => rfl
def S_sr25_SameMoments : FSig U := ⟨Bool, [67, 67], [.p, .p], [some 3, some 3], [.p (.st 3), .p (.st 3)], fun v => sr25_SameMoments v.1 v.2.1, b_n91⟩
theorem S_sr25_SameMoments_ok : SigOk X0.E 39 S_sr25_SameMoments.sig := FSig.ok0 F_n91_ok (R := R_n91) (g := g_n91) (cuts := [([1, 1], L_n91_j1)]) (pre := [tc0 F_n91]) rfl Tryd.func39 (by decide) rfl (fun _ => Nat.le_of_ble_eq_true (by kernel_rfl)) (fun _ => rfl) (by kernel_rfl) (fun _ _ h => Eq.trans (by kernel_rfl) h) ⟨rfl, trivial⟩ (fun r => ⟨(L_n91_j1_ok r), trivial⟩) fun _ => rfl

/-! ### tablefinder/tablefinderlaw25.CorrelationParts -/
def c_n92 : Code := bodyOf Tryd.f7
def F_n92 : FC U := ⟨X0.at 65, Tryd.f7, c_n92, [(18, S_sk_Light.sig), (27, S_sl25_awake.sig), (20, S_sk_Roll.sig), (28, S_sl25_pairs.sig), (33, S_s_correlation_Of.sig), (38, S_s_correlation_Add.sig), (22, S_sk_Mod.sig), (39, S_sr25_SameMoments.sig)], [], [.p], [none]⟩
theorem F_n92_ok : FOk F_n92 := fok uok tok0 eok0 mixed rfl ⟨S_sk_Light_ok, S_sl25_awake_ok, S_sk_Roll_ok, S_sl25_pairs_ok, S_s_correlation_Of_ok, S_s_correlation_Add_ok, S_sk_Mod_ok, S_sr25_SameMoments_ok, trivial⟩
def R_n92 : RSh := ⟨[.p .bool], []⟩
def g_n92 (v : RVal U R_n92) : Bool := v.1.1
def b_n92 (q : Bool) : TRet U := R_n92.bld ((q, ()), ())
def L_n92_j2 : Lp U Bool := ⟨[4], [], [.o (.v .bool)], [], fun v w => sl25_CorrelationParts_j2 v.1⟩
theorem L_n92_j2_ok (r : Bool) : LpOk F_n92 (b_n92 r).enc r (L_n92_j2) (stAt F_n92 [1, 1, 1, 1, 1, 1, 1, 1]) := fun v w hi h => Pt.ev0 F_n92_ok (S := R_n92) (g := g_n92) (b := b_n92) (cuts := []) (pre := [tc F_n92 [1, 1, 1, 1, 1, 1, 1, 1]]) (T := Lp.st F_n92 (L_n92_j2) v w) (by kernel_rfl) hi (Eq.trans (by kernel_rfl) h) ⟨by kernel_rfl, trivial⟩ trivial fun _ => rfl
def L_n92_k1 : Lp U Bool := ⟨[1, 5, 6], [], qs31, qo42, fun v w => sl25_CorrelationParts_k1 v.1 w.1 w.2.1⟩
theorem L_n92_k1_ok (r : Bool) : LpOk F_n92 (b_n92 r).enc r (L_n92_k1) ([tc F_n92 [1, 1, 1, 1, 1]].map TI'.conc ++ []) := fun v w hi h => Pt.ev0 F_n92_ok (S := R_n92) (g := g_n92) (b := b_n92) (cuts := [([1, 1, 1, 1, 1, 1, 1, 1], L_n92_j2)]) (pre := [tc F_n92 [1, 1, 1, 1, 1]]) (T := Lp.st F_n92 (L_n92_k1) v w) (by kernel_rfl) hi (Eq.trans (by kernel_rfl) h) ⟨by kernel_rfl, trivial⟩ ⟨(L_n92_j2_ok r), trivial⟩ fun _ => rfl
def base_n92_l1 : List Eng.Item := .lp (codeAt F_n92 [5, 4, 1, 0, 1, 1, 1, 1]) :: ([.blk 0, tc F_n92 [1, 1, 1, 1, 1]].map TI'.conc ++ [])
def Lh_n92_l1 (rec_ : Int → Int → Int → qL1 → GaMoments → Option qT49) : Lp U qT49 := ⟨[1, 5, 6, 19, 20, 21], [], qs9, qo42, fun v w => rec_ v.1 v.2.2.2.2.1 v.2.2.2.2.2.1 w.1 w.2.1⟩
def Lx_n92_l1 : Lp U qT49 := ⟨[1, 5, 6], [], qs31, qo42, fun v w => some (v.1, w.1, w.2.1)⟩
theorem sl25_CorrelationParts_l1_ok {RT : Ret} {r : qT49} (hx : AllExits F_n92 RT r base_n92_l1 [(0, Lx_n92_l1)]) (hr : qH (fun _ => none) r RT) : ∀ n, LpOk F_n92 RT r (Lh_n92_l1 (sl25_CorrelationParts_l1 n)) (stAt F_n92 [4, 1, 0, 1, 1, 1, 1]) :=
  loop_ok F_n92_ok 4000 (q := [4, 1, 0, 1, 1, 1, 1]) (body := codeAt F_n92 [5, 4, 1, 0, 1, 1, 1, 1]) (live := [1, 5, 6, 19, 20, 21]) (frz := []) (shs := qs9) (sho := qo42) (fun n v w => sl25_CorrelationParts_l1 n v.1 v.2.2.2.2.1 v.2.2.2.2.2.1 w.1 w.2.1) (cuts := fun n => []) (exits := [(0, Lx_n92_l1)]) (ret := (fun _ => none)) (by kernel_rfl) (fun _ _ => rfl) (fun n v w => by kernel_rfl) (fun n hb => trivial) hx hr
def Lc_n92_l1 : Lp U Bool := ⟨[1, 5, 6, 19, 20, 21], [], qs9, qo42, fun v w => (sl25_CorrelationParts_l1 big v.1 v.2.2.2.2.1 v.2.2.2.2.2.1 w.1 w.2.1).bind fun (x0, x1, x2) => sl25_CorrelationParts_k1 x0 x1 x2⟩
attribute [local irreducible] sl25_CorrelationParts_k1
theorem Lc_n92_l1_ok (r : Bool) : LpOk F_n92 (b_n92 r).enc r (Lc_n92_l1) (stAt F_n92 [4, 1, 0, 1, 1, 1, 1]) := fun v w hi h0 => by
  obtain ⟨x, hx0, h⟩ := bind_some h0
  exact sl25_CorrelationParts_l1_ok (r := x) (RT := (b_n92 r).enc) ⟨⟨[tc F_n92 [1, 1, 1, 1, 1]].map TI'.conc ++ [], by kernel_rfl, fun v' w' hi' h' => by obtain rfl := Option.some.inj h'; exact L_n92_k1_ok r v' w' hi' h⟩, trivial⟩ (fun _ ht => nomatch ht) big v w hi hx0
def S_sl25_CorrelationParts : FSig U := ⟨Bool, [25, 3], [.p, .p], [none, none], [.p (.sl (.int .i64)), .p (.int .i64)], fun v => sl25_CorrelationParts v.1 v.2.1, b_n92⟩
theorem S_sl25_CorrelationParts_ok : SigOk X0.E 7 S_sl25_CorrelationParts.sig := FSig.ok0 F_n92_ok (R := R_n92) (g := g_n92) (cuts := [([4, 1, 0, 1, 1, 1, 1], Lc_n92_l1)]) (pre := [tc0 F_n92]) rfl Tryd.func7 (by decide) rfl (fun _ => Nat.le_of_ble_eq_true (by kernel_rfl)) (fun _ => rfl) (by kernel_rfl) (fun _ _ h => Eq.trans (by kernel_rfl) h) ⟨rfl, trivial⟩ (fun r => ⟨(Lc_n92_l1_ok r), trivial⟩) fun _ => rfl

end
end Go.Proofs
