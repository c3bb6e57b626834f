/- Printed by wip/tools/tgen.py: walks. -/
import Derived.Test.YtjdddnbddnhilaaDoorRpU
import Derived.Test.YtjdddnbddnhilaaDoorRpX
set_option linter.unusedVariables false
set_option linter.unusedSimpArgs false
set_option linter.unusedSectionVars false
namespace Go.Proofs
open Go Eng
set_option maxRecDepth 100000

/-! ### tablefinder/tablefinderkit.Light -/
noncomputable def c_n1 : Code := bodyOf Tryd.f18
noncomputable def F_n1 : FC U := ⟨X0.at 6, Tryd.f18, c_n1, [], [], [.p], [none]⟩
theorem F_n1_ok : FOk F_n1 := fok uok tok0 eok0 mixed rfl trivial
noncomputable def R_n1 : RSh := ⟨[.p .bool], []⟩
noncomputable def g_n1 (v : RVal U R_n1) : Bool := v.1.1
noncomputable def b_n1 (q : Bool) : TRet U := R_n1.bld ((q, ()), ())
noncomputable def S_s_tablefinderkit_Light : FSig U := ⟨Bool, [25], [.p], [none], [.p (.sl (.int .i64))], fun v => s_tablefinderkit_Light v.1, b_n1⟩
theorem S_s_tablefinderkit_Light_ok : SigOk X0.E 18 S_s_tablefinderkit_Light.sig := FSig.ok0 F_n1_ok (R := R_n1) (g := g_n1) (cuts := []) (pre := [tc0 F_n1]) rfl Tryd.func18 (by decide) rfl (fun _ => Nat.le_of_ble_eq_true (by kernel_rfl)) (fun _ => rfl) (by kernel_rfl) (fun _ _ h => Eq.trans (by kernel_rfl) h) ⟨rfl, trivial⟩ (fun r => trivial) fun _ => rfl

/-! ### unicode/utf8.word[string] -/
noncomputable def c_n2 : Code := bodyOf Tryd.f204
noncomputable def F_n2 : FC U := ⟨X0.at 59, Tryd.f204, c_n2, [], [], [.p], [none]⟩
theorem F_n2_ok : FOk F_n2 := fok uok tok0 eok0 mixed rfl trivial
noncomputable def R_n2 : RSh := ⟨[.p (.int .u64)], []⟩
noncomputable def g_n2 (v : RVal U R_n2) : Int := v.1.1
noncomputable def b_n2 (q : Int) : TRet U := R_n2.bld ((q, ()), ())
noncomputable def S_s_unicode_utf8_word_string : FSig U := ⟨Int, [9], [.p], [none], [.p .str], fun v => s_unicode_utf8_word_string v.1, b_n2⟩
theorem S_s_unicode_utf8_word_string_ok : SigOk X0.E 204 S_s_unicode_utf8_word_string.sig := FSig.ok0 F_n2_ok (R := R_n2) (g := g_n2) (cuts := []) (pre := [tc0 F_n2]) rfl Tryd.func204 (by decide) rfl (fun _ => Nat.le_of_ble_eq_true (by kernel_rfl)) (fun _ => rfl) (by kernel_rfl) (fun _ _ h => Eq.trans (by kernel_rfl) h) ⟨rfl, trivial⟩ (fun r => trivial) fun _ => rfl

abbrev Tr_n3_0 : Type := Str → Option (Out Unit Bool)
/-! ### unicode/utf8.ValidString -/
noncomputable def c_n3 : Code := bodyOf Tryd.f182
noncomputable def F_n3 : FC U := ⟨X0.at 169, Tryd.f182, c_n3, [(204, S_s_unicode_utf8_word_string.sig)], [], [.p], [none]⟩
theorem F_n3_ok : FOk F_n3 := fok uok tok0 eok0 mixed rfl ⟨S_s_unicode_utf8_word_string_ok, trivial⟩
noncomputable def R_n3 : RSh := ⟨[.p .bool], []⟩
noncomputable def g_n3 (v : RVal U R_n3) : Bool := v.1.1
noncomputable def b_n3 (q : Bool) : TRet U := R_n3.bld ((q, ()), ())
noncomputable def L_n3_k9 : Lp U Bool := ⟨[], [], [], [], fun v w => s_unicode_utf8_ValidString_k9⟩
theorem L_n3_k9_ok (r : Bool) : LpOk F_n3 (b_n3 r).enc r (L_n3_k9) ([tc F_n3 [1, 1]].map TI'.conc ++ []) := fun v w hi h => Pt.ev0 F_n3_ok (S := R_n3) (g := g_n3) (b := b_n3) (cuts := []) (pre := [tc F_n3 [1, 1]]) (T := Lp.st F_n3 (L_n3_k9) v w) (by kernel_rfl) hi (Eq.trans (by kernel_rfl) h) ⟨by kernel_rfl, trivial⟩ trivial fun _ => rfl
noncomputable def base_n3_l1 : List Eng.Item := .lp (codeAt F_n3 [5, 4, 0, 1]) :: ([.blk 0, tc F_n3 [1, 1]].map TI'.conc ++ [])
noncomputable def Lh_n3_l1 (rec_ : Tr_n3_0) : Lp U (Out Unit Bool) := ⟨[0], [], [.o (.v .str)], [], fun v w => rec_ v.1⟩
noncomputable def Lx_n3_l1 : Lp U (Out Unit Bool) := ⟨[], [], [], [], fun v w => some (.brk ())⟩
noncomputable def L_n3_j8 (rec_ : Tr_n3_0) : Lp U (Out Unit Bool) := ⟨[0, 166], [], [.o (.v .str), .o (.v .bool)], [], fun v w => s_unicode_utf8_ValidString_j8 rec_ v.1 v.2.1⟩
theorem L_n3_j8_ok {RT : Ret} {r : (Out Unit Bool)} {rec_ : Tr_n3_0} (hb : LpOk F_n3 RT r (Lh_n3_l1 rec_) base_n3_l1) (hx : AllExits F_n3 RT r base_n3_l1 [(0, Lx_n3_l1)]) (hr : ∀ t : TRet U, (retOf R_n3 fun v => Out.ret (β := Unit) (g_n3 v)) t = some r → t.enc = RT) : LpOk F_n3 RT r (L_n3_j8 rec_) (stAt F_n3 [1, 0, 2, 1, 3, 1, 3, 1, 4, 1, 1, 1, 1, 1, 1, 4, 1, 5, 4, 0, 1]) := fun v w hi h => Pt.evlAt F_n3_ok (r := r) 4000 (cuts := []) (back := (some (Lh_n3_l1 rec_))) (exits := [(0, Lx_n3_l1)]) (ret := (retOf R_n3 fun v => Out.ret (β := Unit) (g_n3 v))) (base := base_n3_l1) (pre := [tc F_n3 [1, 0, 2, 1, 3, 1, 3, 1, 4, 1, 1, 1, 1, 1, 1, 4, 1, 5, 4, 0, 1], tc F_n3 [1, 2, 1, 3, 1, 3, 1, 4, 1, 1, 1, 1, 1, 1, 4, 1, 5, 4, 0, 1], .blk 4, .blk 1]) (T := Lp.st F_n3 (L_n3_j8 rec_) v w) (by kernel_rfl) hi (Eq.trans (by kernel_rfl) h) ⟨by kernel_rfl, by kernel_rfl, trivial⟩ trivial (fun L hL => by cases hL; exact hb) (fun hn => nomatch hn) hx hr
noncomputable def L_n3_j7 (rec_ : Tr_n3_0) : Lp U (Out Unit Bool) := ⟨[0, 125], [], [.o (.v .str), .o (.v .bool)], [], fun v w => s_unicode_utf8_ValidString_j7 rec_ v.1 v.2.1⟩
theorem L_n3_j7_ok {RT : Ret} {r : (Out Unit Bool)} {rec_ : Tr_n3_0} (hb : LpOk F_n3 RT r (Lh_n3_l1 rec_) base_n3_l1) (hx : AllExits F_n3 RT r base_n3_l1 [(0, Lx_n3_l1)]) (hr : ∀ t : TRet U, (retOf R_n3 fun v => Out.ret (β := Unit) (g_n3 v)) t = some r → t.enc = RT) : LpOk F_n3 RT r (L_n3_j7 rec_) (stAt F_n3 [1, 0, 2, 1, 3, 1, 4, 1, 1, 1, 1, 1, 1, 4, 1, 5, 4, 0, 1]) := fun v w hi h => Pt.evlAt F_n3_ok (r := r) 4000 (cuts := []) (back := (some (Lh_n3_l1 rec_))) (exits := [(0, Lx_n3_l1)]) (ret := (retOf R_n3 fun v => Out.ret (β := Unit) (g_n3 v))) (base := base_n3_l1) (pre := [tc F_n3 [1, 0, 2, 1, 3, 1, 4, 1, 1, 1, 1, 1, 1, 4, 1, 5, 4, 0, 1], tc F_n3 [1, 2, 1, 3, 1, 4, 1, 1, 1, 1, 1, 1, 4, 1, 5, 4, 0, 1], .blk 4, .blk 1]) (T := Lp.st F_n3 (L_n3_j7 rec_) v w) (by kernel_rfl) hi (Eq.trans (by kernel_rfl) h) ⟨by kernel_rfl, by kernel_rfl, trivial⟩ trivial (fun L hL => by cases hL; exact hb) (fun hn => nomatch hn) hx hr
noncomputable def L_n3_j6 (rec_ : Tr_n3_0) : Lp U (Out Unit Bool) := ⟨[0, 94], [], [.o (.v .str), .o (.v .bool)], [], fun v w => s_unicode_utf8_ValidString_j6 rec_ v.1 v.2.1⟩
theorem L_n3_j6_ok {RT : Ret} {r : (Out Unit Bool)} {rec_ : Tr_n3_0} (hb : LpOk F_n3 RT r (Lh_n3_l1 rec_) base_n3_l1) (hx : AllExits F_n3 RT r base_n3_l1 [(0, Lx_n3_l1)]) (hr : ∀ t : TRet U, (retOf R_n3 fun v => Out.ret (β := Unit) (g_n3 v)) t = some r → t.enc = RT) : LpOk F_n3 RT r (L_n3_j6 rec_) (stAt F_n3 [1, 0, 2, 1, 4, 1, 1, 1, 1, 1, 1, 4, 1, 5, 4, 0, 1]) := fun v w hi h => Pt.evlAt F_n3_ok (r := r) 4000 (cuts := []) (back := (some (Lh_n3_l1 rec_))) (exits := [(0, Lx_n3_l1)]) (ret := (retOf R_n3 fun v => Out.ret (β := Unit) (g_n3 v))) (base := base_n3_l1) (pre := [tc F_n3 [1, 0, 2, 1, 4, 1, 1, 1, 1, 1, 1, 4, 1, 5, 4, 0, 1], tc F_n3 [1, 2, 1, 4, 1, 1, 1, 1, 1, 1, 4, 1, 5, 4, 0, 1], .blk 4, .blk 1]) (T := Lp.st F_n3 (L_n3_j6 rec_) v w) (by kernel_rfl) hi (Eq.trans (by kernel_rfl) h) ⟨by kernel_rfl, by kernel_rfl, trivial⟩ trivial (fun L hL => by cases hL; exact hb) (fun hn => nomatch hn) hx hr
noncomputable def L_n3_j5 (rec_ : Tr_n3_0) : Lp U (Out Unit Bool) := ⟨[0], [], [.o (.v .str)], [], fun v w => s_unicode_utf8_ValidString_j5 rec_ v.1⟩
theorem L_n3_j5_ok {RT : Ret} {r : (Out Unit Bool)} {rec_ : Tr_n3_0} (hb : LpOk F_n3 RT r (Lh_n3_l1 rec_) base_n3_l1) (hx : AllExits F_n3 RT r base_n3_l1 [(0, Lx_n3_l1)]) (hr : ∀ t : TRet U, (retOf R_n3 fun v => Out.ret (β := Unit) (g_n3 v)) t = some r → t.enc = RT) : LpOk F_n3 RT r (L_n3_j5 rec_) (stAt F_n3 [1, 1, 2, 1, 0, 1, 4, 1, 5, 4, 0, 1]) := fun v w hi h => Pt.evlAt F_n3_ok (r := r) 4000 (cuts := []) (back := (some (Lh_n3_l1 rec_))) (exits := [(0, Lx_n3_l1)]) (ret := (retOf R_n3 fun v => Out.ret (β := Unit) (g_n3 v))) (base := base_n3_l1) (pre := [tc F_n3 [1, 1, 2, 1, 0, 1, 4, 1, 5, 4, 0, 1], tc F_n3 [1, 1, 4, 1, 5, 4, 0, 1], .blk 1]) (T := Lp.st F_n3 (L_n3_j5 rec_) v w) (by kernel_rfl) hi (Eq.trans (by kernel_rfl) h) ⟨by kernel_rfl, by kernel_rfl, trivial⟩ trivial (fun L hL => by cases hL; exact hb) (fun hn => nomatch hn) hx hr
noncomputable def L_n3_k4 (rec_ : Tr_n3_0) : Lp U (Out Unit Bool) := ⟨[0], [], [.o (.v .str)], [], fun v w => s_unicode_utf8_ValidString_k4 rec_ v.1⟩
theorem L_n3_k4_ok {RT : Ret} {r : (Out Unit Bool)} {rec_ : Tr_n3_0} (hb : LpOk F_n3 RT r (Lh_n3_l1 rec_) base_n3_l1) (hx : AllExits F_n3 RT r base_n3_l1 [(0, Lx_n3_l1)]) (hr : ∀ t : TRet U, (retOf R_n3 fun v => Out.ret (β := Unit) (g_n3 v)) t = some r → t.enc = RT) : LpOk F_n3 RT r (L_n3_k4 rec_) ([tc F_n3 [1, 1, 2, 1, 0, 1, 4, 1, 5, 4, 0, 1], tc F_n3 [1, 1, 4, 1, 5, 4, 0, 1], .blk 1].map TI'.conc ++ base_n3_l1) := fun v w hi h => Pt.evlAt F_n3_ok (r := r) 4000 (cuts := []) (back := (some (Lh_n3_l1 rec_))) (exits := [(0, Lx_n3_l1)]) (ret := (retOf R_n3 fun v => Out.ret (β := Unit) (g_n3 v))) (base := base_n3_l1) (pre := [tc F_n3 [1, 1, 2, 1, 0, 1, 4, 1, 5, 4, 0, 1], tc F_n3 [1, 1, 4, 1, 5, 4, 0, 1], .blk 1]) (T := Lp.st F_n3 (L_n3_k4 rec_) v w) (by kernel_rfl) hi (Eq.trans (by kernel_rfl) h) ⟨by kernel_rfl, by kernel_rfl, trivial⟩ trivial (fun L hL => by cases hL; exact hb) (fun hn => nomatch hn) hx hr
noncomputable def base_n3_l2 : List Eng.Item := .lp (codeAt F_n3 [5, 4, 1, 2, 1, 1, 2, 1, 0, 1, 2, 1, 0, 1, 4, 1, 5, 4, 0, 1]) :: ([.blk 2, tc F_n3 [1, 1, 2, 1, 0, 1, 4, 1, 5, 4, 0, 1], tc F_n3 [1, 1, 4, 1, 5, 4, 0, 1], .blk 1].map TI'.conc ++ base_n3_l1)
noncomputable def Lh_n3_l2 (rec_ : Str → Option Str) : Lp U Str := ⟨[0], [], [.o (.v .str)], [], fun v w => rec_ v.1⟩
noncomputable def Lx_n3_l2 : Lp U Str := ⟨[0], [], [.o (.v .str)], [], fun v w => some v.1⟩
noncomputable def L_n3_j3 (rec_ : Str → Option Str) : Lp U Str := ⟨[0, 62], [], [.o (.v .str), .o (.v .bool)], [], fun v w => s_unicode_utf8_ValidString_j3 rec_ v.1 v.2.1⟩
theorem L_n3_j3_ok {RT : Ret} {r : Str} {rec_ : Str → Option Str} (hb : LpOk F_n3 RT r (Lh_n3_l2 rec_) base_n3_l2) (hx : AllExits F_n3 RT r base_n3_l2 [(2, Lx_n3_l2)]) (hr : ∀ t : TRet U, (fun _ => none) t = some r → t.enc = RT) : LpOk F_n3 RT r (L_n3_j3 rec_) (stAt F_n3 [1, 0, 5, 4, 1, 2, 1, 1, 2, 1, 0, 1, 2, 1, 0, 1, 4, 1, 5, 4, 0, 1]) := fun v w hi h => Pt.evlAt F_n3_ok (r := r) 4000 (cuts := []) (back := (some (Lh_n3_l2 rec_))) (exits := [(2, Lx_n3_l2)]) (ret := (fun _ => none)) (base := base_n3_l2) (pre := [tc F_n3 [1, 0, 5, 4, 1, 2, 1, 1, 2, 1, 0, 1, 2, 1, 0, 1, 4, 1, 5, 4, 0, 1], tc F_n3 [1, 5, 4, 1, 2, 1, 1, 2, 1, 0, 1, 2, 1, 0, 1, 4, 1, 5, 4, 0, 1]]) (T := Lp.st F_n3 (L_n3_j3 rec_) v w) (by kernel_rfl) hi (Eq.trans (by kernel_rfl) h) ⟨by kernel_rfl, by kernel_rfl, trivial⟩ trivial (fun L hL => by cases hL; exact hb) (fun hn => nomatch hn) hx hr
theorem s_unicode_utf8_ValidString_l2_ok {RT : Ret} {r : Str} (hx : AllExits F_n3 RT r base_n3_l2 [(2, Lx_n3_l2)]) (hr : ∀ t : TRet U, (fun _ => none) t = some r → t.enc = RT) : ∀ n, LpOk F_n3 RT r (Lh_n3_l2 (s_unicode_utf8_ValidString_l2 n)) (stAt F_n3 [4, 1, 2, 1, 1, 2, 1, 0, 1, 2, 1, 0, 1, 4, 1, 5, 4, 0, 1]) :=
  loop_ok F_n3_ok 4000 (q := [4, 1, 2, 1, 1, 2, 1, 0, 1, 2, 1, 0, 1, 4, 1, 5, 4, 0, 1]) (body := codeAt F_n3 [5, 4, 1, 2, 1, 1, 2, 1, 0, 1, 2, 1, 0, 1, 4, 1, 5, 4, 0, 1]) (live := [0]) (frz := []) (shs := [.o (.v .str)]) (sho := []) (fun n v w => s_unicode_utf8_ValidString_l2 n v.1) (cuts := fun n => [([1, 0, 5, 4, 1, 2, 1, 1, 2, 1, 0, 1, 2, 1, 0, 1, 4, 1, 5, 4, 0, 1], L_n3_j3 (s_unicode_utf8_ValidString_l2 n))]) (exits := [(2, Lx_n3_l2)]) (ret := (fun _ => none)) (by kernel_rfl) (fun _ _ => rfl) (fun n v w => by kernel_rfl) (fun n hb => ⟨L_n3_j3_ok hb hx hr, trivial⟩) hx hr
noncomputable def Lc_n3_l2 (rec_ : Tr_n3_0) : Lp U (Out Unit Bool) := ⟨[0], [], [.o (.v .str)], [], fun v w => (s_unicode_utf8_ValidString_l2 big v.1).bind fun x0 => s_unicode_utf8_ValidString_k4 rec_ x0⟩
theorem Lc_n3_l2_ok {RT : Ret} {r : (Out Unit Bool)} {rec_ : Tr_n3_0} (hb : LpOk F_n3 RT r (Lh_n3_l1 rec_) base_n3_l1) (hx : AllExits F_n3 RT r base_n3_l1 [(0, Lx_n3_l1)]) (hr : ∀ t : TRet U, (retOf R_n3 fun v => Out.ret (β := Unit) (g_n3 v)) t = some r → t.enc = RT) : LpOk F_n3 RT r (Lc_n3_l2 rec_) (stAt F_n3 [4, 1, 2, 1, 1, 2, 1, 0, 1, 2, 1, 0, 1, 4, 1, 5, 4, 0, 1]) := fun v w hi h0 => by
  obtain ⟨x, hx0, h⟩ := bind_some h0
  exact s_unicode_utf8_ValidString_l2_ok (r := x) (RT := RT) ⟨⟨[tc F_n3 [1, 1, 2, 1, 0, 1, 4, 1, 5, 4, 0, 1], tc F_n3 [1, 1, 4, 1, 5, 4, 0, 1], .blk 1].map TI'.conc ++ base_n3_l1, by kernel_rfl, fun v' w' hi' h' => by obtain rfl := Option.some.inj h'; exact L_n3_k4_ok hb hx hr v' w' hi' h⟩, trivial⟩ (fun _ ht => nomatch ht) big v w hi hx0
noncomputable def L_n3_j2 (rec_ : Tr_n3_0) : Lp U (Out Unit Bool) := ⟨[0, 39], [], [.o (.v .str), .o (.v .bool)], [], fun v w => s_unicode_utf8_ValidString_j2 rec_ v.1 v.2.1⟩
theorem L_n3_j2_ok {RT : Ret} {r : (Out Unit Bool)} {rec_ : Tr_n3_0} (hb : LpOk F_n3 RT r (Lh_n3_l1 rec_) base_n3_l1) (hx : AllExits F_n3 RT r base_n3_l1 [(0, Lx_n3_l1)]) (hr : ∀ t : TRet U, (retOf R_n3 fun v => Out.ret (β := Unit) (g_n3 v)) t = some r → t.enc = RT) : LpOk F_n3 RT r (L_n3_j2 rec_) (stAt F_n3 [1, 1, 2, 1, 0, 1, 2, 1, 0, 1, 4, 1, 5, 4, 0, 1]) := fun v w hi h => Pt.evlAt F_n3_ok (r := r) 4000 (cuts := [([1, 1, 2, 1, 0, 1, 4, 1, 5, 4, 0, 1], (L_n3_j5 rec_)), ([4, 1, 2, 1, 1, 2, 1, 0, 1, 2, 1, 0, 1, 4, 1, 5, 4, 0, 1], (Lc_n3_l2 rec_))]) (back := (some (Lh_n3_l1 rec_))) (exits := [(0, Lx_n3_l1)]) (ret := (retOf R_n3 fun v => Out.ret (β := Unit) (g_n3 v))) (base := base_n3_l1) (pre := [tc F_n3 [1, 1, 2, 1, 0, 1, 2, 1, 0, 1, 4, 1, 5, 4, 0, 1], tc F_n3 [1, 1, 2, 1, 0, 1, 4, 1, 5, 4, 0, 1], tc F_n3 [1, 1, 4, 1, 5, 4, 0, 1], .blk 1]) (T := Lp.st F_n3 (L_n3_j2 rec_) v w) (by kernel_rfl) hi (Eq.trans (by kernel_rfl) h) ⟨by kernel_rfl, by kernel_rfl, by kernel_rfl, trivial⟩ ⟨(L_n3_j5_ok hb hx hr), (Lc_n3_l2_ok hb hx hr), trivial⟩ (fun L hL => by cases hL; exact hb) (fun hn => nomatch hn) hx hr
noncomputable def L_n3_j1 (rec_ : Tr_n3_0) : Lp U (Out Unit Bool) := ⟨[0, 24], [], [.o (.v .str), .o (.v .bool)], [], fun v w => s_unicode_utf8_ValidString_j1 rec_ v.1 v.2.1⟩
theorem L_n3_j1_ok {RT : Ret} {r : (Out Unit Bool)} {rec_ : Tr_n3_0} (hb : LpOk F_n3 RT r (Lh_n3_l1 rec_) base_n3_l1) (hx : AllExits F_n3 RT r base_n3_l1 [(0, Lx_n3_l1)]) (hr : ∀ t : TRet U, (retOf R_n3 fun v => Out.ret (β := Unit) (g_n3 v)) t = some r → t.enc = RT) : LpOk F_n3 RT r (L_n3_j1 rec_) (stAt F_n3 [1, 0, 1, 2, 1, 0, 1, 4, 1, 5, 4, 0, 1]) := fun v w hi h => Pt.evlAt F_n3_ok (r := r) 4000 (cuts := [([1, 1, 2, 1, 0, 1, 2, 1, 0, 1, 4, 1, 5, 4, 0, 1], (L_n3_j2 rec_)), ([1, 1, 2, 1, 0, 1, 4, 1, 5, 4, 0, 1], (L_n3_j5 rec_))]) (back := (some (Lh_n3_l1 rec_))) (exits := [(0, Lx_n3_l1)]) (ret := (retOf R_n3 fun v => Out.ret (β := Unit) (g_n3 v))) (base := base_n3_l1) (pre := [tc F_n3 [1, 0, 1, 2, 1, 0, 1, 4, 1, 5, 4, 0, 1], tc F_n3 [1, 1, 2, 1, 0, 1, 4, 1, 5, 4, 0, 1], tc F_n3 [1, 1, 4, 1, 5, 4, 0, 1], .blk 1]) (T := Lp.st F_n3 (L_n3_j1 rec_) v w) (by kernel_rfl) hi (Eq.trans (by kernel_rfl) h) ⟨by kernel_rfl, by kernel_rfl, by kernel_rfl, trivial⟩ ⟨(L_n3_j2_ok hb hx hr), (L_n3_j5_ok hb hx hr), trivial⟩ (fun L hL => by cases hL; exact hb) (fun hn => nomatch hn) hx hr
theorem s_unicode_utf8_ValidString_l1_ok {RT : Ret} {r : (Out Unit Bool)} (hx : AllExits F_n3 RT r base_n3_l1 [(0, Lx_n3_l1)]) (hr : ∀ t : TRet U, (retOf R_n3 fun v => Out.ret (β := Unit) (g_n3 v)) t = some r → t.enc = RT) : ∀ n, LpOk F_n3 RT r (Lh_n3_l1 (s_unicode_utf8_ValidString_l1 n)) (stAt F_n3 [4, 0, 1]) :=
  loop_ok F_n3_ok 4000 (q := [4, 0, 1]) (body := codeAt F_n3 [5, 4, 0, 1]) (live := [0]) (frz := []) (shs := [.o (.v .str)]) (sho := []) (fun n v w => s_unicode_utf8_ValidString_l1 n v.1) (cuts := fun n => [([1, 0, 1, 2, 1, 0, 1, 4, 1, 5, 4, 0, 1], L_n3_j1 (s_unicode_utf8_ValidString_l1 n)), ([1, 0, 2, 1, 4, 1, 1, 1, 1, 1, 1, 4, 1, 5, 4, 0, 1], L_n3_j6 (s_unicode_utf8_ValidString_l1 n)), ([1, 0, 2, 1, 3, 1, 4, 1, 1, 1, 1, 1, 1, 4, 1, 5, 4, 0, 1], L_n3_j7 (s_unicode_utf8_ValidString_l1 n)), ([1, 0, 2, 1, 3, 1, 3, 1, 4, 1, 1, 1, 1, 1, 1, 4, 1, 5, 4, 0, 1], L_n3_j8 (s_unicode_utf8_ValidString_l1 n))]) (exits := [(0, Lx_n3_l1)]) (ret := (retOf R_n3 fun v => Out.ret (β := Unit) (g_n3 v))) (by kernel_rfl) (fun _ _ => rfl) (fun n v w => by kernel_rfl) (fun n hb => ⟨L_n3_j1_ok hb hx hr, L_n3_j6_ok hb hx hr, L_n3_j7_ok hb hx hr, L_n3_j8_ok hb hx hr, trivial⟩) hx hr
noncomputable def Lc_n3_l1 : Lp U Bool := ⟨[0], [], [.o (.v .str)], [], fun v w => (s_unicode_utf8_ValidString_l1 big v.1).bind fun | .ret q_ => some q_ | .brk () => s_unicode_utf8_ValidString_k9⟩
theorem Lc_n3_l1_ok (r : Bool) : LpOk F_n3 (b_n3 r).enc r (Lc_n3_l1) (stAt F_n3 [4, 0, 1]) := fun v w hi h0 => by
  obtain ⟨x, hx0, h⟩ := bind_some h0
  exact s_unicode_utf8_ValidString_l1_ok (r := x) (RT := (b_n3 r).enc) ⟨⟨[tc F_n3 [1, 1]].map TI'.conc ++ [], by kernel_rfl, fun v' w' hi' h' => by obtain rfl := Option.some.inj h'; exact L_n3_k9_ok r v' w' hi' h⟩, trivial⟩ (fun t ht => by obtain ⟨q, rfl, hq⟩ := retOut ht; obtain rfl := Option.some.inj h; exact retOf_enc uok (give := b_n3) (fun _ => rfl) hq) big v w hi hx0
noncomputable def S_s_unicode_utf8_ValidString : FSig U := ⟨Bool, [9], [.p], [none], [.p .str], fun v => s_unicode_utf8_ValidString v.1, b_n3⟩
theorem S_s_unicode_utf8_ValidString_ok : SigOk X0.E 182 S_s_unicode_utf8_ValidString.sig := FSig.ok0 F_n3_ok (R := R_n3) (g := g_n3) (cuts := [([4, 0, 1], Lc_n3_l1)]) (pre := [tc0 F_n3]) rfl Tryd.func182 (by decide) rfl (fun _ => Nat.le_of_ble_eq_true (by kernel_rfl)) (fun _ => rfl) (by kernel_rfl) (fun _ _ h => Eq.trans (by kernel_rfl) h) ⟨rfl, trivial⟩ (fun r => ⟨(Lc_n3_l1_ok r), trivial⟩) fun _ => rfl

/-! ### tablefinder/text.Valid -/
noncomputable def c_n4 : Code := bodyOf Tryd.f157
noncomputable def F_n4 : FC U := ⟨X0.at 5, Tryd.f157, c_n4, [(182, S_s_unicode_utf8_ValidString.sig)], [], [.p], [none]⟩
theorem F_n4_ok : FOk F_n4 := fok uok tok0 eok0 mixed rfl ⟨S_s_unicode_utf8_ValidString_ok, trivial⟩
noncomputable def R_n4 : RSh := ⟨[.p .bool], []⟩
noncomputable def g_n4 (v : RVal U R_n4) : Bool := v.1.1
noncomputable def b_n4 (q : Bool) : TRet U := R_n4.bld ((q, ()), ())
noncomputable def S_s_text_Valid : FSig U := ⟨Bool, [9], [.p], [none], [.p .str], fun v => s_text_Valid v.1, b_n4⟩
theorem S_s_text_Valid_ok : SigOk X0.E 157 S_s_text_Valid.sig := FSig.ok0 F_n4_ok (R := R_n4) (g := g_n4) (cuts := []) (pre := [tc0 F_n4]) rfl Tryd.func157 (by decide) rfl (fun _ => Nat.le_of_ble_eq_true (by kernel_rfl)) (fun _ => rfl) (by kernel_rfl) (fun _ _ h => Eq.trans (by kernel_rfl) h) ⟨rfl, trivial⟩ (fun r => trivial) fun _ => rfl

/-! ### tablefinder/table.fine -/
noncomputable def c_n5 : Code := bodyOf Tryd.f119
noncomputable def F_n5 : FC U := ⟨X0.at 10, Tryd.f119, c_n5, [(157, S_s_text_Valid.sig)], [], [.p], [none]⟩
theorem F_n5_ok : FOk F_n5 := fok uok tok0 eok0 mixed rfl ⟨S_s_text_Valid_ok, trivial⟩
noncomputable def R_n5 : RSh := ⟨[.p .bool], []⟩
noncomputable def g_n5 (v : RVal U R_n5) : Bool := v.1.1
noncomputable def b_n5 (q : Bool) : TRet U := R_n5.bld ((q, ()), ())
noncomputable def L_n5_j1 : Lp U Bool := ⟨[2], [], [.o (.v .bool)], [], fun v w => s_table_fine_j1 v.1⟩
theorem L_n5_j1_ok (r : Bool) : LpOk F_n5 (b_n5 r).enc r (L_n5_j1) (stAt F_n5 [1, 1]) := fun v w hi h => Pt.ev0 F_n5_ok (S := R_n5) (g := g_n5) (b := b_n5) (cuts := []) (pre := [tc F_n5 [1, 1]]) (T := Lp.st F_n5 (L_n5_j1) v w) (by kernel_rfl) hi (Eq.trans (by kernel_rfl) h) ⟨by kernel_rfl, trivial⟩ trivial fun _ => rfl
noncomputable def S_s_table_fine : FSig U := ⟨Bool, [9], [.p], [none], [.p .str], fun v => s_table_fine v.1, b_n5⟩
theorem S_s_table_fine_ok : SigOk X0.E 119 S_s_table_fine.sig := FSig.ok0 F_n5_ok (R := R_n5) (g := g_n5) (cuts := [([1, 1], L_n5_j1)]) (pre := [tc0 F_n5]) rfl Tryd.func119 (by decide) rfl (fun _ => Nat.le_of_ble_eq_true (by kernel_rfl)) (fun _ => rfl) (by kernel_rfl) (fun _ _ h => Eq.trans (by kernel_rfl) h) ⟨rfl, trivial⟩ (fun r => ⟨(L_n5_j1_ok r), trivial⟩) fun _ => rfl

/-! ### tablefinder/table.Rows -/
noncomputable def c_n6 : Code := bodyOf Tryd.f68
noncomputable def F_n6 : FC U := ⟨X0.at 13, Tryd.f68, c_n6, [], [], [.p], [none]⟩
theorem F_n6_ok : FOk F_n6 := fok uok tok0 eok0 mixed rfl trivial
noncomputable def R_n6 : RSh := ⟨[.p (.int .i64)], []⟩
noncomputable def g_n6 (v : RVal U R_n6) : Int := v.1.1
noncomputable def b_n6 (q : Int) : TRet U := R_n6.bld ((q, ()), ())
noncomputable def S_s_table_Rows : FSig U := ⟨Int, [24], [.p], [some 2], [.p (.st 2)], fun v => s_table_Rows v.1, b_n6⟩
theorem S_s_table_Rows_ok : SigOk X0.E 68 S_s_table_Rows.sig := FSig.ok0 F_n6_ok (R := R_n6) (g := g_n6) (cuts := []) (pre := [tc0 F_n6]) rfl Tryd.func68 (by decide) rfl (fun _ => Nat.le_of_ble_eq_true (by kernel_rfl)) (fun _ => rfl) (by kernel_rfl) (fun _ _ h => Eq.trans (by kernel_rfl) h) ⟨rfl, trivial⟩ (fun r => trivial) fun _ => rfl

/-! ### tablefinder/table.ValidCell -/
noncomputable def c_n7 : Code := bodyOf Tryd.f123
noncomputable def F_n7 : FC U := ⟨X0.at 16, Tryd.f123, c_n7, [(119, S_s_table_fine.sig)], [], [.p], [none]⟩
theorem F_n7_ok : FOk F_n7 := fok uok tok0 eok0 mixed rfl ⟨S_s_table_fine_ok, trivial⟩
noncomputable def R_n7 : RSh := ⟨[.p .bool], []⟩
noncomputable def g_n7 (v : RVal U R_n7) : Bool := v.1.1
noncomputable def b_n7 (q : Bool) : TRet U := R_n7.bld ((q, ()), ())
noncomputable def L_n7_j1 : Lp U Bool := ⟨[2], [], [.o (.v .bool)], [], fun v w => s_table_ValidCell_j1 v.1⟩
theorem L_n7_j1_ok (r : Bool) : LpOk F_n7 (b_n7 r).enc r (L_n7_j1) (stAt F_n7 [1, 1]) := fun v w hi h => Pt.ev0 F_n7_ok (S := R_n7) (g := g_n7) (b := b_n7) (cuts := []) (pre := [tc F_n7 [1, 1]]) (T := Lp.st F_n7 (L_n7_j1) v w) (by kernel_rfl) hi (Eq.trans (by kernel_rfl) h) ⟨by kernel_rfl, trivial⟩ trivial fun _ => rfl
noncomputable def S_s_table_ValidCell : FSig U := ⟨Bool, [51], [.p], [some 0], [.p (.st 0)], fun v => s_table_ValidCell v.1, b_n7⟩
theorem S_s_table_ValidCell_ok : SigOk X0.E 123 S_s_table_ValidCell.sig := FSig.ok0 F_n7_ok (R := R_n7) (g := g_n7) (cuts := [([1, 1], L_n7_j1)]) (pre := [tc0 F_n7]) rfl Tryd.func123 (by decide) rfl (fun _ => Nat.le_of_ble_eq_true (by kernel_rfl)) (fun _ => rfl) (by kernel_rfl) (fun _ _ h => Eq.trans (by kernel_rfl) h) ⟨rfl, trivial⟩ (fun r => ⟨(L_n7_j1_ok r), trivial⟩) fun _ => rfl

/-! ### tablefinder/table.every[tablefinder/api.Cell] -/
noncomputable def c_n8 : Code := bodyOf Tryd.f122
noncomputable def F_n8 : FC U := ⟨X0.at 18, Tryd.f122, c_n8, [(123, S_s_table_ValidCell.sig)], [], [.p], [none]⟩
theorem F_n8_ok : FOk F_n8 := fok uok tok0 eok0 mixed rfl ⟨S_s_table_ValidCell_ok, trivial⟩
noncomputable def R_n8 : RSh := ⟨[.p .bool], []⟩
noncomputable def g_n8 (v : RVal U R_n8) : Bool := v.1.1
noncomputable def b_n8 (q : Bool) : TRet U := R_n8.bld ((q, ()), ())
noncomputable def L_n8_k1 : Lp U Bool := ⟨[], [], [], [], fun v w => s_table_every_api_Cell_k1⟩
theorem L_n8_k1_ok (r : Bool) : LpOk F_n8 (b_n8 r).enc r (L_n8_k1) ([tc F_n8 [1, 1]].map TI'.conc ++ []) := fun v w hi h => Pt.ev0 F_n8_ok (S := R_n8) (g := g_n8) (b := b_n8) (cuts := []) (pre := [tc F_n8 [1, 1]]) (T := Lp.st F_n8 (L_n8_k1) v w) (by kernel_rfl) hi (Eq.trans (by kernel_rfl) h) ⟨by kernel_rfl, trivial⟩ trivial fun _ => rfl
noncomputable def base_n8_l1 : List Eng.Item := .lp (codeAt F_n8 [5, 4, 1, 0, 1]) :: ([.blk 0, tc F_n8 [1, 1]].map TI'.conc ++ [])
noncomputable def Lh_n8_l1 (rec_ : (List G_api_Cell) → Int → Int → Option (Out Unit Bool)) : Lp U (Out Unit Bool) := ⟨[1, 7, 8, 9], [], [.fn 123 [] [], .o (.v (.sl (.st 0))), .o (.v (.int .i64)), .o (.v (.int .i64))], [], fun v w => rec_ v.2.1 v.2.2.1 v.2.2.2.1⟩
noncomputable def Lx_n8_l1 : Lp U (Out Unit Bool) := ⟨[], [], [], [], fun v w => some (.brk ())⟩
theorem s_table_every_api_Cell_l1_ok {RT : Ret} {r : (Out Unit Bool)} (hx : AllExits F_n8 RT r base_n8_l1 [(0, Lx_n8_l1)]) (hr : ∀ t : TRet U, (retOf R_n8 fun v => Out.ret (β := Unit) (g_n8 v)) t = some r → t.enc = RT) : ∀ n, LpOk F_n8 RT r (Lh_n8_l1 (s_table_every_api_Cell_l1 n)) (stAt F_n8 [4, 1, 0, 1]) :=
  loop_ok F_n8_ok 4000 (q := [4, 1, 0, 1]) (body := codeAt F_n8 [5, 4, 1, 0, 1]) (live := [1, 7, 8, 9]) (frz := []) (shs := [.fn 123 [] [], .o (.v (.sl (.st 0))), .o (.v (.int .i64)), .o (.v (.int .i64))]) (sho := []) (fun n v w => s_table_every_api_Cell_l1 n v.2.1 v.2.2.1 v.2.2.2.1) (cuts := fun n => []) (exits := [(0, Lx_n8_l1)]) (ret := (retOf R_n8 fun v => Out.ret (β := Unit) (g_n8 v))) (by kernel_rfl) (fun _ _ => rfl) (fun n v w => by kernel_rfl) (fun n hb => trivial) hx hr
noncomputable def Lc_n8_l1 : Lp U Bool := ⟨[1, 7, 8, 9], [], [.fn 123 [] [], .o (.v (.sl (.st 0))), .o (.v (.int .i64)), .o (.v (.int .i64))], [], fun v w => (s_table_every_api_Cell_l1 big v.2.1 v.2.2.1 v.2.2.2.1).bind fun | .ret q_ => some q_ | .brk () => s_table_every_api_Cell_k1⟩
theorem Lc_n8_l1_ok (r : Bool) : LpOk F_n8 (b_n8 r).enc r (Lc_n8_l1) (stAt F_n8 [4, 1, 0, 1]) := fun v w hi h0 => by
  obtain ⟨x, hx0, h⟩ := bind_some h0
  exact s_table_every_api_Cell_l1_ok (r := x) (RT := (b_n8 r).enc) ⟨⟨[tc F_n8 [1, 1]].map TI'.conc ++ [], by kernel_rfl, fun v' w' hi' h' => by obtain rfl := Option.some.inj h'; exact L_n8_k1_ok r v' w' hi' h⟩, trivial⟩ (fun t ht => by obtain ⟨q, rfl, hq⟩ := retOut ht; obtain rfl := Option.some.inj h; exact retOf_enc uok (give := b_n8) (fun _ => rfl) hq) big v w hi hx0
noncomputable def S_s_table_every_api_Cell : FSig U := ⟨Bool, [47, 162], [.p, .p], [none, none], [.p (.sl (.st 0)), .fn 123 [] []], fun v => s_table_every_api_Cell v.1, b_n8⟩
theorem S_s_table_every_api_Cell_ok : SigOk X0.E 122 S_s_table_every_api_Cell.sig := FSig.ok0 F_n8_ok (R := R_n8) (g := g_n8) (cuts := [([4, 1, 0, 1], Lc_n8_l1)]) (pre := [tc0 F_n8]) rfl Tryd.func122 (by decide) rfl (fun _ => Nat.le_of_ble_eq_true (by kernel_rfl)) (fun _ => rfl) (by kernel_rfl) (fun _ _ h => Eq.trans (by kernel_rfl) h) ⟨rfl, trivial⟩ (fun r => ⟨(Lc_n8_l1_ok r), trivial⟩) fun _ => rfl

/-! ### tablefinder/table.Valid$1 -/
noncomputable def c_n9 : Code := bodyOf Tryd.f121
noncomputable def F_n9 : FC U := ⟨X0.at 22, Tryd.f121, c_n9, [(119, S_s_table_fine.sig), (68, S_s_table_Rows.sig), (122, S_s_table_every_api_Cell.sig)], [], [.p], [none]⟩
theorem F_n9_ok : FOk F_n9 := fok uok tok0 eok0 mixed rfl ⟨S_s_table_fine_ok, S_s_table_Rows_ok, S_s_table_every_api_Cell_ok, trivial⟩
noncomputable def R_n9 : RSh := ⟨[.p .bool], []⟩
noncomputable def g_n9 (v : RVal U R_n9) : Bool := v.1.1
noncomputable def b_n9 (q : Bool) : TRet U := R_n9.bld ((q, ()), ())
noncomputable def L_n9_j1 : Lp U Bool := ⟨[3], [], [.o (.v .bool)], [], fun v w => s_table_Valid_1_j1 v.1⟩
theorem L_n9_j1_ok (r : Bool) : LpOk F_n9 (b_n9 r).enc r (L_n9_j1) (stAt F_n9 [1, 1]) := fun v w hi h => Pt.ev0 F_n9_ok (S := R_n9) (g := g_n9) (b := b_n9) (cuts := []) (pre := [tc F_n9 [1, 1]]) (T := Lp.st F_n9 (L_n9_j1) v w) (by kernel_rfl) hi (Eq.trans (by kernel_rfl) h) ⟨by kernel_rfl, trivial⟩ trivial fun _ => rfl
noncomputable def S_s_table_Valid_1 : FSig U := ⟨Bool, [49], [.p, .p], [some 1, none], [.p (.st 1), .ptr (.st 2)], fun v => s_table_Valid_1 v.1 v.2.1, b_n9⟩
theorem S_s_table_Valid_1_ok : SigOk X0.E 121 S_s_table_Valid_1.sig := FSig.ok0 F_n9_ok (R := R_n9) (g := g_n9) (cuts := [([1, 1], L_n9_j1)]) (pre := [tc0 F_n9]) rfl Tryd.func121 (by decide) rfl (fun _ => Nat.le_of_ble_eq_true (by kernel_rfl)) (fun _ => rfl) (by kernel_rfl) (fun _ _ h => Eq.trans (by kernel_rfl) h) ⟨rfl, trivial⟩ (fun r => ⟨(L_n9_j1_ok r), trivial⟩) fun _ => rfl

/-! ### slices.IndexFunc[[]tablefinder/api.Column,tablefinder/api.Column] -/
noncomputable def c_n10 : Code := bodyOf Tryd.f158
noncomputable def F_n10 : FC U := ⟨X0.at 19, Tryd.f158, c_n10, [(121, S_s_table_Valid_1.sig)], [], [.p], [none]⟩
theorem F_n10_ok : FOk F_n10 := fok uok tok0 eok0 mixed rfl ⟨S_s_table_Valid_1_ok, trivial⟩
noncomputable def R_n10 : RSh := ⟨[.p (.int .i64)], []⟩
noncomputable def g_n10 (v : RVal U R_n10) : Int := v.1.1
noncomputable def b_n10 (q : Int) : TRet U := R_n10.bld ((q, ()), ())
noncomputable def L_n10_k1 : Lp U Int := ⟨[], [], [], [], fun v w => s_slices_IndexFunc_api_Column_api_Column_k1⟩
theorem L_n10_k1_ok (r : Int) : LpOk F_n10 (b_n10 r).enc r (L_n10_k1) ([tc F_n10 [1, 1]].map TI'.conc ++ []) := fun v w hi h => Pt.ev0 F_n10_ok (S := R_n10) (g := g_n10) (b := b_n10) (cuts := []) (pre := [tc F_n10 [1, 1]]) (T := Lp.st F_n10 (L_n10_k1) v w) (by kernel_rfl) hi (Eq.trans (by kernel_rfl) h) ⟨by kernel_rfl, trivial⟩ trivial fun _ => rfl
noncomputable def base_n10_l1 : List Eng.Item := .lp (codeAt F_n10 [5, 4, 1, 0, 1]) :: ([.blk 0, tc F_n10 [1, 1]].map TI'.conc ++ [])
noncomputable def Lh_n10_l1 (rec_ : (List G_api_Column) → G_api_Table → Int → Int → Option (Out Unit Int)) : Lp U (Out Unit Int) := ⟨[0, 1, 7, 8], [], [.o (.v (.sl (.st 1))), .fn 121 [] [.pp (.st 2)], .o (.v (.int .i64)), .o (.v (.int .i64))], [], fun v w => rec_ v.1 v.2.1.2.1 v.2.2.1 v.2.2.2.1⟩
noncomputable def Lx_n10_l1 : Lp U (Out Unit Int) := ⟨[], [], [], [], fun v w => some (.brk ())⟩
theorem s_slices_IndexFunc_api_Column_api_Column_l1_ok {RT : Ret} {r : (Out Unit Int)} (hx : AllExits F_n10 RT r base_n10_l1 [(0, Lx_n10_l1)]) (hr : ∀ t : TRet U, (retOf R_n10 fun v => Out.ret (β := Unit) (g_n10 v)) t = some r → t.enc = RT) : ∀ n, LpOk F_n10 RT r (Lh_n10_l1 (s_slices_IndexFunc_api_Column_api_Column_l1 n)) (stAt F_n10 [4, 1, 0, 1]) :=
  loop_ok F_n10_ok 4000 (q := [4, 1, 0, 1]) (body := codeAt F_n10 [5, 4, 1, 0, 1]) (live := [0, 1, 7, 8]) (frz := []) (shs := [.o (.v (.sl (.st 1))), .fn 121 [] [.pp (.st 2)], .o (.v (.int .i64)), .o (.v (.int .i64))]) (sho := []) (fun n v w => s_slices_IndexFunc_api_Column_api_Column_l1 n v.1 v.2.1.2.1 v.2.2.1 v.2.2.2.1) (cuts := fun n => []) (exits := [(0, Lx_n10_l1)]) (ret := (retOf R_n10 fun v => Out.ret (β := Unit) (g_n10 v))) (by kernel_rfl) (fun _ _ => rfl) (fun n v w => by kernel_rfl) (fun n hb => trivial) hx hr
noncomputable def Lc_n10_l1 : Lp U Int := ⟨[0, 1, 7, 8], [], [.o (.v (.sl (.st 1))), .fn 121 [] [.pp (.st 2)], .o (.v (.int .i64)), .o (.v (.int .i64))], [], fun v w => (s_slices_IndexFunc_api_Column_api_Column_l1 big v.1 v.2.1.2.1 v.2.2.1 v.2.2.2.1).bind fun | .ret q_ => some q_ | .brk () => s_slices_IndexFunc_api_Column_api_Column_k1⟩
theorem Lc_n10_l1_ok (r : Int) : LpOk F_n10 (b_n10 r).enc r (Lc_n10_l1) (stAt F_n10 [4, 1, 0, 1]) := fun v w hi h0 => by
  obtain ⟨x, hx0, h⟩ := bind_some h0
  exact s_slices_IndexFunc_api_Column_api_Column_l1_ok (r := x) (RT := (b_n10 r).enc) ⟨⟨[tc F_n10 [1, 1]].map TI'.conc ++ [], by kernel_rfl, fun v' w' hi' h' => by obtain rfl := Option.some.inj h'; exact L_n10_k1_ok r v' w' hi' h⟩, trivial⟩ (fun t ht => by obtain ⟨q, rfl, hq⟩ := retOut ht; obtain rfl := Option.some.inj h; exact retOf_enc uok (give := b_n10) (fun _ => rfl) hq) big v w hi hx0
noncomputable def S_s_slices_IndexFunc_api_Column_api_Column : FSig U := ⟨Int, [22, 163], [.p, .p], [none, none], [.p (.sl (.st 1)), .fn 121 [] [.pp (.st 2)]], fun v => s_slices_IndexFunc_api_Column_api_Column v.1 v.2.1.2.1, b_n10⟩
theorem S_s_slices_IndexFunc_api_Column_api_Column_ok : SigOk X0.E 158 S_s_slices_IndexFunc_api_Column_api_Column.sig := FSig.ok0 F_n10_ok (R := R_n10) (g := g_n10) (cuts := [([4, 1, 0, 1], Lc_n10_l1)]) (pre := [tc0 F_n10]) rfl Tryd.func158 (by decide) rfl (fun _ => Nat.le_of_ble_eq_true (by kernel_rfl)) (fun _ => rfl) (by kernel_rfl) (fun _ _ h => Eq.trans (by kernel_rfl) h) ⟨rfl, trivial⟩ (fun r => ⟨(Lc_n10_l1_ok r), trivial⟩) fun _ => rfl

/-! ### slices.ContainsFunc[[]tablefinder/api.Column,tablefinder/api.Column] -/
noncomputable def c_n11 : Code := bodyOf Tryd.f120
noncomputable def F_n11 : FC U := ⟨X0.at 9, Tryd.f120, c_n11, [(158, S_s_slices_IndexFunc_api_Column_api_Column.sig)], [], [.p], [none]⟩
theorem F_n11_ok : FOk F_n11 := fok uok tok0 eok0 mixed rfl ⟨S_s_slices_IndexFunc_api_Column_api_Column_ok, trivial⟩
noncomputable def R_n11 : RSh := ⟨[.p .bool], []⟩
noncomputable def g_n11 (v : RVal U R_n11) : Bool := v.1.1
noncomputable def b_n11 (q : Bool) : TRet U := R_n11.bld ((q, ()), ())
noncomputable def S_s_slices_ContainsFunc_api_Column_api_Column : FSig U := ⟨Bool, [22, 163], [.p, .p], [none, none], [.p (.sl (.st 1)), .fn 121 [] [.pp (.st 2)]], fun v => s_slices_ContainsFunc_api_Column_api_Column v.1 v.2.1.2.1, b_n11⟩
theorem S_s_slices_ContainsFunc_api_Column_api_Column_ok : SigOk X0.E 120 S_s_slices_ContainsFunc_api_Column_api_Column.sig := FSig.ok0 F_n11_ok (R := R_n11) (g := g_n11) (cuts := []) (pre := [tc0 F_n11]) rfl Tryd.func120 (by decide) rfl (fun _ => Nat.le_of_ble_eq_true (by kernel_rfl)) (fun _ => rfl) (by kernel_rfl) (fun _ _ h => Eq.trans (by kernel_rfl) h) ⟨rfl, trivial⟩ (fun r => trivial) fun _ => rfl

/-! ### tablefinder/table.Valid -/
noncomputable def c_n12 : Code := bodyOf Tryd.f75
noncomputable def F_n12 : FC U := ⟨X0.at 33, Tryd.f75, c_n12, [(119, S_s_table_fine.sig), (68, S_s_table_Rows.sig), (120, S_s_slices_ContainsFunc_api_Column_api_Column.sig)], [], [.p], [none]⟩
theorem F_n12_ok : FOk F_n12 := fok uok tok0 eok0 mixed rfl ⟨S_s_table_fine_ok, S_s_table_Rows_ok, S_s_slices_ContainsFunc_api_Column_api_Column_ok, trivial⟩
noncomputable def R_n12 : RSh := ⟨[.p .bool], []⟩
noncomputable def g_n12 (v : RVal U R_n12) : Bool := v.1.1
noncomputable def b_n12 (q : Bool) : TRet U := R_n12.bld ((q, ()), ())
noncomputable def L_n12_j1 : Lp U Bool := ⟨[1, 27], [], [.o (.ptr (0, 1, 1) 0 0), .o (.v .bool)], [.boxS (.st 2)], fun v w => s_table_Valid_j1 v.2.1 w.1⟩
theorem L_n12_j1_ok (r : Bool) : LpOk F_n12 (b_n12 r).enc r (L_n12_j1) (stAt F_n12 [1, 0, 1]) := fun v w hi h => Pt.ev0 F_n12_ok (S := R_n12) (g := g_n12) (b := b_n12) (cuts := []) (pre := [tc F_n12 [1, 0, 1], tc F_n12 [1, 1]]) (T := Lp.st F_n12 (L_n12_j1) v w) (by kernel_rfl) hi (Eq.trans (by kernel_rfl) h) ⟨by kernel_rfl, by kernel_rfl, trivial⟩ trivial fun _ => rfl
noncomputable def S_s_table_Valid : FSig U := ⟨Bool, [24], [.p], [some 2], [.p (.st 2)], fun v => s_table_Valid v.1, b_n12⟩
theorem S_s_table_Valid_ok : SigOk X0.E 75 S_s_table_Valid.sig := FSig.ok0 F_n12_ok (R := R_n12) (g := g_n12) (cuts := [([1, 0, 1], L_n12_j1)]) (pre := [tc0 F_n12]) rfl Tryd.func75 (by decide) rfl (fun _ => Nat.le_of_ble_eq_true (by kernel_rfl)) (fun _ => rfl) (by kernel_rfl) (fun _ _ h => Eq.trans (by kernel_rfl) h) ⟨rfl, trivial⟩ (fun r => ⟨(L_n12_j1_ok r), trivial⟩) fun _ => rfl

abbrev Tr_n13_0 : Type := (List G_api_Cell) → Int → Int → (List (Str × Int)) → Option (List (Str × Int))
/-! ### tablefinder/relation.counts -/
noncomputable def c_n13 : Code := bodyOf Tryd.f76
noncomputable def F_n13 : FC U := ⟨X0.at 24, Tryd.f76, c_n13, [], [], [.map], [none]⟩
theorem F_n13_ok : FOk F_n13 := fok uok tok0 eok0 mixed rfl trivial
noncomputable def R_n13 : RSh := ⟨[.map .str (.int .i64)], []⟩
noncomputable def g_n13 (v : RVal U R_n13) : (List (Str × Int)) := v.1.1
noncomputable def b_n13 (q : (List (Str × Int))) : TRet U := R_n13.bld ((q, ()), ())
noncomputable def L_n13_k2 : Lp U (List (Str × Int)) := ⟨[3], [], [.o (.map (0, 1, 1))], [.map .str (.int .i64)], fun v w => s_relation_counts_k2 w.1⟩
theorem L_n13_k2_ok (r : (List (Str × Int))) : LpOk F_n13 (b_n13 r).enc r (L_n13_k2) ([tc F_n13 [1, 1, 1]].map TI'.conc ++ []) := fun v w hi h => Pt.ev0 F_n13_ok (S := R_n13) (g := g_n13) (b := b_n13) (cuts := []) (pre := [tc F_n13 [1, 1, 1]]) (T := Lp.st F_n13 (L_n13_k2) v w) (by kernel_rfl) hi (Eq.trans (by kernel_rfl) h) ⟨by kernel_rfl, trivial⟩ trivial fun _ => rfl
noncomputable def base_n13_l1 : List Eng.Item := .lp (codeAt F_n13 [5, 4, 1, 0, 1, 1]) :: ([.blk 0, tc F_n13 [1, 1, 1]].map TI'.conc ++ [])
noncomputable def Lh_n13_l1 (rec_ : Tr_n13_0) : Lp U (List (Str × Int)) := ⟨[3, 8, 9, 10], [], [.o (.map (0, 1, 1)), .o (.v (.sl (.st 0))), .o (.v (.int .i64)), .o (.v (.int .i64))], [.map .str (.int .i64)], fun v w => rec_ v.2.1 v.2.2.1 v.2.2.2.1 w.1⟩
noncomputable def Lx_n13_l1 : Lp U (List (Str × Int)) := ⟨[3], [], [.o (.map (0, 1, 1))], [.map .str (.int .i64)], fun v w => some w.1⟩
noncomputable def L_n13_j1 (rec_ : Tr_n13_0) : Lp U (List (Str × Int)) := ⟨[3, 8, 9, 10], [], [.o (.map (0, 1, 1)), .o (.v (.sl (.st 0))), .o (.v (.int .i64)), .o (.v (.int .i64))], [.map .str (.int .i64)], fun v w => s_relation_counts_j1 rec_ v.2.1 v.2.2.1 v.2.2.2.1 w.1⟩
theorem L_n13_j1_ok {RT : Ret} {r : (List (Str × Int))} {rec_ : Tr_n13_0} (hb : LpOk F_n13 RT r (Lh_n13_l1 rec_) base_n13_l1) (hx : AllExits F_n13 RT r base_n13_l1 [(0, Lx_n13_l1)]) (hr : ∀ t : TRet U, (fun _ => none) t = some r → t.enc = RT) : LpOk F_n13 RT r (L_n13_j1 rec_) (stAt F_n13 [1, 1, 1, 5, 4, 1, 0, 1, 1]) := fun v w hi h => Pt.evlAt F_n13_ok (r := r) 4000 (cuts := []) (back := (some (Lh_n13_l1 rec_))) (exits := [(0, Lx_n13_l1)]) (ret := (fun _ => none)) (base := base_n13_l1) (pre := [tc F_n13 [1, 1, 1, 5, 4, 1, 0, 1, 1]]) (T := Lp.st F_n13 (L_n13_j1 rec_) v w) (by kernel_rfl) hi (Eq.trans (by kernel_rfl) h) ⟨by kernel_rfl, trivial⟩ trivial (fun L hL => by cases hL; exact hb) (fun hn => nomatch hn) hx hr
theorem s_relation_counts_l1_ok {RT : Ret} {r : (List (Str × Int))} (hx : AllExits F_n13 RT r base_n13_l1 [(0, Lx_n13_l1)]) (hr : ∀ t : TRet U, (fun _ => none) t = some r → t.enc = RT) : ∀ n, LpOk F_n13 RT r (Lh_n13_l1 (s_relation_counts_l1 n)) (stAt F_n13 [4, 1, 0, 1, 1]) :=
  loop_ok F_n13_ok 4000 (q := [4, 1, 0, 1, 1]) (body := codeAt F_n13 [5, 4, 1, 0, 1, 1]) (live := [3, 8, 9, 10]) (frz := []) (shs := [.o (.map (0, 1, 1)), .o (.v (.sl (.st 0))), .o (.v (.int .i64)), .o (.v (.int .i64))]) (sho := [.map .str (.int .i64)]) (fun n v w => s_relation_counts_l1 n v.2.1 v.2.2.1 v.2.2.2.1 w.1) (cuts := fun n => [([1, 1, 1, 5, 4, 1, 0, 1, 1], L_n13_j1 (s_relation_counts_l1 n))]) (exits := [(0, Lx_n13_l1)]) (ret := (fun _ => none)) (by kernel_rfl) (fun _ _ => rfl) (fun n v w => by kernel_rfl) (fun n hb => ⟨L_n13_j1_ok hb hx hr, trivial⟩) hx hr
noncomputable def Lc_n13_l1 : Lp U (List (Str × Int)) := ⟨[3, 8, 9, 10], [], [.o (.map (0, 1, 1)), .o (.v (.sl (.st 0))), .o (.v (.int .i64)), .o (.v (.int .i64))], [.map .str (.int .i64)], fun v w => (s_relation_counts_l1 big v.2.1 v.2.2.1 v.2.2.2.1 w.1).bind fun x0 => s_relation_counts_k2 x0⟩
theorem Lc_n13_l1_ok (r : (List (Str × Int))) : LpOk F_n13 (b_n13 r).enc r (Lc_n13_l1) (stAt F_n13 [4, 1, 0, 1, 1]) := fun v w hi h0 => by
  obtain ⟨x, hx0, h⟩ := bind_some h0
  exact s_relation_counts_l1_ok (r := x) (RT := (b_n13 r).enc) ⟨⟨[tc F_n13 [1, 1, 1]].map TI'.conc ++ [], by kernel_rfl, fun v' w' hi' h' => by obtain rfl := Option.some.inj h'; exact L_n13_k2_ok r v' w' hi' h⟩, trivial⟩ (fun _ ht => nomatch ht) big v w hi hx0
noncomputable def S_s_relation_counts : FSig U := ⟨(List (Str × Int)), [49], [.p], [some 1], [.p (.st 1)], fun v => s_relation_counts v.1, b_n13⟩
theorem S_s_relation_counts_ok : SigOk X0.E 76 S_s_relation_counts.sig := FSig.ok0 F_n13_ok (R := R_n13) (g := g_n13) (cuts := [([4, 1, 0, 1, 1], Lc_n13_l1)]) (pre := [tc0 F_n13]) rfl Tryd.func76 (by decide) rfl (fun _ => Nat.le_of_ble_eq_true (by kernel_rfl)) (fun _ => rfl) (by kernel_rfl) (fun _ _ h => Eq.trans (by kernel_rfl) h) ⟨rfl, trivial⟩ (fun r => ⟨(Lc_n13_l1_ok r), trivial⟩) fun _ => rfl

/-! ### tablefinder/relation.against -/
noncomputable def c_n14 : Code := bodyOf Tryd.f77
noncomputable def F_n14 : FC U := ⟨X0.at 34, Tryd.f77, c_n14, [], [], [.p, .p, .p], [none, none, none]⟩
theorem F_n14_ok : FOk F_n14 := fok uok tok0 eok0 mixed rfl trivial
noncomputable def R_n14 : RSh := ⟨[.p (.int .i64), .p (.int .i64), .p (.int .i64)], []⟩
noncomputable def g_n14 (v : RVal U R_n14) : (Int × Int × Int) := (v.1.1, v.1.2.1, v.1.2.2.1)
noncomputable def b_n14 (q : (Int × Int × Int)) : TRet U := R_n14.bld ((q.1, (q.2.1, (q.2.2, ()))), ())
noncomputable def L_n14_k1 : Lp U (Int × Int × Int) := ⟨[6, 7, 8], [], [.o (.v (.int .i64)), .o (.v (.int .i64)), .o (.v (.int .i64))], [], fun v w => s_relation_against_k1 v.1 v.2.1 v.2.2.1⟩
theorem L_n14_k1_ok (r : (Int × Int × Int)) : LpOk F_n14 (b_n14 r).enc r (L_n14_k1) ([tc F_n14 [1, 1, 1]].map TI'.conc ++ []) := fun v w hi h => Pt.ev0 F_n14_ok (S := R_n14) (g := g_n14) (b := b_n14) (cuts := []) (pre := [tc F_n14 [1, 1, 1]]) (T := Lp.st F_n14 (L_n14_k1) v w) (by kernel_rfl) hi (Eq.trans (by kernel_rfl) h) ⟨by kernel_rfl, trivial⟩ trivial fun _ => rfl
noncomputable def base_n14_l1 : List Eng.Item := .lp (codeAt F_n14 [5, 4, 1, 0, 1, 1]) :: ([.blk 0, tc F_n14 [1, 1, 1]].map TI'.conc ++ [])
noncomputable def Lh_n14_l1 (rec_ : (List (Str × Int)) → Int → Int → Int → (List (Str × Int)) → (Option (Str × Int)) → Option (Int × Int × Int)) : Lp U (Int × Int × Int) := ⟨[1, 6, 7, 8, 13], [], [.o (.v (.map .str (.int .i64))), .o (.v (.int .i64)), .o (.v (.int .i64)), .o (.v (.int .i64)), .o (.it (0, 1, 1))], [.mit .str (.int .i64)], fun v w => rec_ v.1 v.2.1 v.2.2.1 v.2.2.2.1 w.1.1 w.1.2⟩
noncomputable def Lx_n14_l1 : Lp U (Int × Int × Int) := ⟨[6, 7, 8], [], [.o (.v (.int .i64)), .o (.v (.int .i64)), .o (.v (.int .i64))], [], fun v w => some (v.1, v.2.1, v.2.2.1)⟩
theorem s_relation_against_l1_ok {RT : Ret} {r : (Int × Int × Int)} (hx : AllExits F_n14 RT r base_n14_l1 [(0, Lx_n14_l1)]) (hr : ∀ t : TRet U, (fun _ => none) t = some r → t.enc = RT) : ∀ n, LpOk F_n14 RT r (Lh_n14_l1 (s_relation_against_l1 n)) (stAt F_n14 [4, 1, 0, 1, 1]) :=
  loop_ok F_n14_ok 4000 (q := [4, 1, 0, 1, 1]) (body := codeAt F_n14 [5, 4, 1, 0, 1, 1]) (live := [1, 6, 7, 8, 13]) (frz := []) (shs := [.o (.v (.map .str (.int .i64))), .o (.v (.int .i64)), .o (.v (.int .i64)), .o (.v (.int .i64)), .o (.it (0, 1, 1))]) (sho := [.mit .str (.int .i64)]) (fun n v w => s_relation_against_l1 n v.1 v.2.1 v.2.2.1 v.2.2.2.1 w.1.1 w.1.2) (cuts := fun n => []) (exits := [(0, Lx_n14_l1)]) (ret := (fun _ => none)) (by kernel_rfl) (fun _ _ => rfl) (fun n v w => by kernel_rfl) (fun n hb => trivial) hx hr
noncomputable def Lc_n14_l1 : Lp U (Int × Int × Int) := ⟨[1, 6, 7, 8, 13], [], [.o (.v (.map .str (.int .i64))), .o (.v (.int .i64)), .o (.v (.int .i64)), .o (.v (.int .i64)), .o (.it (0, 1, 1))], [.mit .str (.int .i64)], fun v w => (s_relation_against_l1 big v.1 v.2.1 v.2.2.1 v.2.2.2.1 w.1.1 w.1.2).bind fun (x0, x1, x2) => s_relation_against_k1 x0 x1 x2⟩
theorem Lc_n14_l1_ok (r : (Int × Int × Int)) : LpOk F_n14 (b_n14 r).enc r (Lc_n14_l1) (stAt F_n14 [4, 1, 0, 1, 1]) := fun v w hi h0 => by
  obtain ⟨x, hx0, h⟩ := bind_some h0
  exact s_relation_against_l1_ok (r := x) (RT := (b_n14 r).enc) ⟨⟨[tc F_n14 [1, 1, 1]].map TI'.conc ++ [], by kernel_rfl, fun v' w' hi' h' => by obtain rfl := Option.some.inj h'; exact L_n14_k1_ok r v' w' hi' h⟩, trivial⟩ (fun _ ht => nomatch ht) big v w hi hx0
noncomputable def S_s_relation_against : FSig U := ⟨(Int × Int × Int), [116, 116, 3], [.p, .p, .p], [none, none, none], [.p (.map .str (.int .i64)), .p (.map .str (.int .i64)), .p (.int .i64)], fun v => s_relation_against v.1 v.2.1 v.2.2.1, b_n14⟩
theorem S_s_relation_against_ok : SigOk X0.E 77 S_s_relation_against.sig := FSig.ok0 F_n14_ok (R := R_n14) (g := g_n14) (cuts := [([4, 1, 0, 1, 1], Lc_n14_l1)]) (pre := [tc0 F_n14]) rfl Tryd.func77 (by decide) rfl (fun _ => Nat.le_of_ble_eq_true (by kernel_rfl)) (fun _ => rfl) (by kernel_rfl) (fun _ _ h => Eq.trans (by kernel_rfl) h) ⟨rfl, trivial⟩ (fun r => ⟨(Lc_n14_l1_ok r), trivial⟩) fun _ => rfl

/-! ### tablefinder/relation.Of -/
noncomputable def c_n15 : Code := bodyOf Tryd.f23
noncomputable def F_n15 : FC U := ⟨X0.at 102, Tryd.f23, c_n15, [(75, S_s_table_Valid.sig), (76, S_s_relation_counts.sig), (68, S_s_table_Rows.sig), (77, S_s_relation_against.sig)], [], [.p, .p], [some 4, none]⟩
theorem F_n15_ok : FOk F_n15 := fok uok tok0 eok0 mixed rfl ⟨S_s_table_Valid_ok, S_s_relation_counts_ok, S_s_table_Rows_ok, S_s_relation_against_ok, trivial⟩
noncomputable def R_n15 : RSh := ⟨[.p (.st 4), .p (.int .i64)], []⟩
noncomputable def g_n15 (v : RVal U R_n15) : (G_api_Relation × Int) := (v.1.1, v.1.2.1)
noncomputable def b_n15 (q : (G_api_Relation × Int)) : TRet U := R_n15.bld ((q.1, (q.2, ())), ())
noncomputable def L_n15_j2 : Lp U (G_api_Relation × Int) := ⟨[1, 3, 4, 6, 8, 23], [], [.o (.v (.int .i64)), .o (.v (.int .i64)), .o (.ptr (0, 1, 1) 0 0), .o (.ptr (0, 2, 1) 0 0), .o (.ptr (0, 3, 1) 0 0), .o (.v .bool)], [.boxS (.st 2), .boxS (.st 2), .boxS (.st 4)], fun v w => s_relation_Of_j2 v.1 v.2.1 v.2.2.2.2.2.1 w.1 w.2.1 w.2.2.1⟩
theorem L_n15_j2_ok (r : (G_api_Relation × Int)) : LpOk F_n15 (b_n15 r).enc r (L_n15_j2) (stAt F_n15 [1, 3, 1, 4, 0, 1]) := fun v w hi h => Pt.ev0 F_n15_ok (S := R_n15) (g := g_n15) (b := b_n15) (cuts := []) (pre := [tc F_n15 [1, 3, 1, 4, 0, 1], .blk 0, tc F_n15 [1, 1]]) (T := Lp.st F_n15 (L_n15_j2) v w) (by kernel_rfl) hi (Eq.trans (by kernel_rfl) h) ⟨by kernel_rfl, by kernel_rfl, trivial⟩ trivial fun _ => rfl
noncomputable def L_n15_j1 : Lp U (G_api_Relation × Int) := ⟨[1, 3, 4, 6, 8, 13], [], [.o (.v (.int .i64)), .o (.v (.int .i64)), .o (.ptr (0, 1, 1) 0 0), .o (.ptr (0, 2, 1) 0 0), .o (.ptr (0, 3, 1) 0 0), .o (.v .bool)], [.boxS (.st 2), .boxS (.st 2), .boxS (.st 4)], fun v w => s_relation_Of_j1 v.1 v.2.1 v.2.2.2.2.2.1 w.1 w.2.1 w.2.2.1⟩
theorem L_n15_j1_ok (r : (G_api_Relation × Int)) : LpOk F_n15 (b_n15 r).enc r (L_n15_j1) (stAt F_n15 [1, 4, 0, 1]) := fun v w hi h => Pt.ev0 F_n15_ok (S := R_n15) (g := g_n15) (b := b_n15) (cuts := [([1, 3, 1, 4, 0, 1], L_n15_j2)]) (pre := [tc F_n15 [1, 4, 0, 1], .blk 0, tc F_n15 [1, 1]]) (T := Lp.st F_n15 (L_n15_j1) v w) (by kernel_rfl) hi (Eq.trans (by kernel_rfl) h) ⟨by kernel_rfl, by kernel_rfl, trivial⟩ ⟨(L_n15_j2_ok r), trivial⟩ fun _ => rfl
noncomputable def S_s_relation_Of : FSig U := ⟨(G_api_Relation × Int), [24, 3, 24, 3], [.p, .p, .p, .p], [some 2, none, some 2, none], [.p (.st 2), .p (.int .i64), .p (.st 2), .p (.int .i64)], fun v => s_relation_Of v.1 v.2.1 v.2.2.1 v.2.2.2.1, b_n15⟩
theorem S_s_relation_Of_ok : SigOk X0.E 23 S_s_relation_Of.sig := FSig.ok0 F_n15_ok (R := R_n15) (g := g_n15) (cuts := [([1, 4, 0, 1], L_n15_j1)]) (pre := [tc0 F_n15]) rfl Tryd.func23 (by decide) rfl (fun _ => Nat.le_of_ble_eq_true (by kernel_rfl)) (fun _ => rfl) (by kernel_rfl) (fun _ _ h => Eq.trans (by kernel_rfl) h) ⟨rfl, trivial⟩ (fun r => ⟨(L_n15_j1_ok r), trivial⟩) fun _ => rfl

/-! ### tablefinder/relation.Kind -/
noncomputable def c_n16 : Code := bodyOf Tryd.f26
noncomputable def F_n16 : FC U := ⟨X0.at 24, Tryd.f26, c_n16, [], [], [.p], [none]⟩
theorem F_n16_ok : FOk F_n16 := fok uok tok0 eok0 mixed rfl trivial
noncomputable def R_n16 : RSh := ⟨[.p (.int .i64)], []⟩
noncomputable def g_n16 (v : RVal U R_n16) : Int := v.1.1
noncomputable def b_n16 (q : Int) : TRet U := R_n16.bld ((q, ()), ())
noncomputable def L_n16_j1 : Lp U Int := ⟨[1, 7], [], [.o (.ptr (0, 1, 1) 0 0), .o (.v .bool)], [.boxS (.st 4)], fun v w => s_relation_Kind_j1 v.2.1 w.1⟩
theorem L_n16_j1_ok (r : Int) : LpOk F_n16 (b_n16 r).enc r (L_n16_j1) (stAt F_n16 [1, 3, 1, 4, 0, 1]) := fun v w hi h => Pt.ev0 F_n16_ok (S := R_n16) (g := g_n16) (b := b_n16) (cuts := []) (pre := [tc F_n16 [1, 3, 1, 4, 0, 1], .blk 0, tc F_n16 [1, 1]]) (T := Lp.st F_n16 (L_n16_j1) v w) (by kernel_rfl) hi (Eq.trans (by kernel_rfl) h) ⟨by kernel_rfl, by kernel_rfl, trivial⟩ trivial fun _ => rfl
noncomputable def S_s_relation_Kind : FSig U := ⟨Int, [40], [.p], [some 4], [.p (.st 4)], fun v => s_relation_Kind v.1, b_n16⟩
theorem S_s_relation_Kind_ok : SigOk X0.E 26 S_s_relation_Kind.sig := FSig.ok0 F_n16_ok (R := R_n16) (g := g_n16) (cuts := [([1, 3, 1, 4, 0, 1], L_n16_j1)]) (pre := [tc0 F_n16]) rfl Tryd.func26 (by decide) rfl (fun _ => Nat.le_of_ble_eq_true (by kernel_rfl)) (fun _ => rfl) (by kernel_rfl) (fun _ _ h => Eq.trans (by kernel_rfl) h) ⟨rfl, trivial⟩ (fun r => ⟨(L_n16_j1_ok r), trivial⟩) fun _ => rfl

/-! ### tablefinder/tablefinderlaw29.awake -/
noncomputable def c_n17 : Code := bodyOf Tryd.f19
noncomputable def F_n17 : FC U := ⟨X0.at 38, Tryd.f19, c_n17, [(23, S_s_relation_Of.sig), (26, S_s_relation_Kind.sig)], [], [.p], [none]⟩
theorem F_n17_ok : FOk F_n17 := fok uok tok0 eok0 mixed rfl ⟨S_s_relation_Of_ok, S_s_relation_Kind_ok, trivial⟩
noncomputable def R_n17 : RSh := ⟨[.p .bool], []⟩
noncomputable def g_n17 (v : RVal U R_n17) : Bool := v.1.1
noncomputable def b_n17 (q : Bool) : TRet U := R_n17.bld ((q, ()), ())
noncomputable def L_n17_j1 : Lp U Bool := ⟨[0], [], [.o (.v .bool)], [], fun v w => s_tablefinderlaw29_awake_j1 v.1⟩
theorem L_n17_j1_ok (r : Bool) : LpOk F_n17 (b_n17 r).enc r (L_n17_j1) (stAt F_n17 [1, 1, 1, 1, 1]) := fun v w hi h => Pt.ev0 F_n17_ok (S := R_n17) (g := g_n17) (b := b_n17) (cuts := []) (pre := [tc F_n17 [1, 1, 1, 1, 1]]) (T := Lp.st F_n17 (L_n17_j1) v w) (by kernel_rfl) hi (Eq.trans (by kernel_rfl) h) ⟨by kernel_rfl, trivial⟩ trivial fun _ => rfl
noncomputable def S_s_tablefinderlaw29_awake : FSig U := ⟨Bool, [], [], [], [], fun v => s_tablefinderlaw29_awake, b_n17⟩
theorem S_s_tablefinderlaw29_awake_ok : SigOk X0.E 19 S_s_tablefinderlaw29_awake.sig := FSig.ok0 F_n17_ok (R := R_n17) (g := g_n17) (cuts := [([1, 1, 1, 1, 1], L_n17_j1)]) (pre := [tc0 F_n17]) rfl Tryd.func19 (by decide) rfl (fun _ => Nat.le_of_ble_eq_true (by kernel_rfl)) (fun _ => rfl) (by kernel_rfl) (fun _ _ h => Eq.trans (by kernel_rfl) h) ⟨rfl, trivial⟩ (fun r => ⟨(L_n17_j1_ok r), trivial⟩) fun _ => rfl

/-! ### tablefinder/tablefinderkit.Roll -/
noncomputable def c_n18 : Code := bodyOf Tryd.f20
noncomputable def F_n18 : FC U := ⟨X0.at 6, Tryd.f20, c_n18, [], [], [.box], [none]⟩
theorem F_n18_ok : FOk F_n18 := fok uok tok0 eok0 mixed rfl trivial
noncomputable def R_n18 : RSh := ⟨[.box (.st 6)], []⟩
noncomputable def g_n18 (v : RVal U R_n18) : G_tablefinderkit_Dice := v.1.1
noncomputable def b_n18 (q : G_tablefinderkit_Dice) : TRet U := R_n18.bld ((q, ()), ())
noncomputable def S_s_tablefinderkit_Roll : FSig U := ⟨G_tablefinderkit_Dice, [25], [.p], [none], [.p (.sl (.int .i64))], fun v => s_tablefinderkit_Roll v.1, b_n18⟩
theorem S_s_tablefinderkit_Roll_ok : SigOk X0.E 20 S_s_tablefinderkit_Roll.sig := FSig.ok0 F_n18_ok (R := R_n18) (g := g_n18) (cuts := []) (pre := [tc0 F_n18]) rfl Tryd.func20 (by decide) rfl (fun _ => Nat.le_of_ble_eq_true (by kernel_rfl)) (fun _ => rfl) (by kernel_rfl) (fun _ _ h => Eq.trans (by kernel_rfl) h) ⟨rfl, trivial⟩ (fun r => trivial) fun _ => rfl

/-! ### tablefinder/tablefinderkit.Mod -/
noncomputable def c_n19 : Code := bodyOf Tryd.f22
noncomputable def F_n19 : FC U := ⟨X0.at 14, Tryd.f22, c_n19, [], [], [.p], [none]⟩
theorem F_n19_ok : FOk F_n19 := fok uok tok0 eok0 mixed rfl trivial
noncomputable def R_n19 : RSh := ⟨[.p (.int .i64)], []⟩
noncomputable def g_n19 (v : RVal U R_n19) : Int := v.1.1
noncomputable def b_n19 (q : Int) : TRet U := R_n19.bld ((q, ()), ())
noncomputable def S_s_tablefinderkit_Mod : FSig U := ⟨Int, [3, 3], [.p, .p], [none, none], [.p (.int .i64), .p (.int .i64)], fun v => s_tablefinderkit_Mod v.1 v.2.1, b_n19⟩
theorem S_s_tablefinderkit_Mod_ok : SigOk X0.E 22 S_s_tablefinderkit_Mod.sig := FSig.ok0 F_n19_ok (R := R_n19) (g := g_n19) (cuts := []) (pre := [tc0 F_n19]) rfl Tryd.func22 (by decide) rfl (fun _ => Nat.le_of_ble_eq_true (by kernel_rfl)) (fun _ => rfl) (by kernel_rfl) (fun _ _ h => Eq.trans (by kernel_rfl) h) ⟨rfl, trivial⟩ (fun r => trivial) fun _ => rfl

/-! ### (*tablefinder/tablefinderkit.Dice).Next -/
noncomputable def c_n20 : Code := bodyOf Tryd.f51
noncomputable def F_n20 : FC U := ⟨X0.at 35, Tryd.f51, c_n20, [(22, S_s_tablefinderkit_Mod.sig)], [0], [.p], [none]⟩
theorem F_n20_ok : FOk F_n20 := fok uok tok0 eok0 mixed rfl ⟨S_s_tablefinderkit_Mod_ok, trivial⟩
noncomputable def R_n20 : RSh := ⟨[.p (.int .i64)], [(0, .box (.st 6))]⟩
noncomputable def g_n20 (v : RVal U R_n20) : (Int × G_tablefinderkit_Dice) := (v.1.1, v.2.1)
noncomputable def b_n20 (q : (Int × G_tablefinderkit_Dice)) : TRet U := R_n20.bld ((q.1, ()), (q.2, ()))
noncomputable def S_s_tablefinderkit_Dice_Next : FSig U := ⟨(Int × G_tablefinderkit_Dice), [29, 3], [.lend, .p], [none, none], [.box (.st 6), .p (.int .i64)], fun v => s_tablefinderkit_Dice_Next v.1 v.2.1, b_n20⟩
theorem S_s_tablefinderkit_Dice_Next_ok : SigOk X0.E 51 S_s_tablefinderkit_Dice_Next.sig := FSig.ok0 F_n20_ok (R := R_n20) (g := g_n20) (cuts := []) (pre := [tc0 F_n20]) rfl Tryd.func51 (by decide) rfl (fun _ => Nat.le_of_ble_eq_true (by kernel_rfl)) (fun _ => rfl) (by kernel_rfl) (fun _ _ h => Eq.trans (by kernel_rfl) h) ⟨rfl, trivial⟩ (fun r => trivial) fun _ => rfl

/-! ### (*tablefinder/tablefinderkit.Dice).Word -/
noncomputable def c_n21 : Code := bodyOf Tryd.f73
noncomputable def F_n21 : FC U := ⟨X0.at 12, Tryd.f73, c_n21, [(51, S_s_tablefinderkit_Dice_Next.sig)], [0], [.p], [none]⟩
theorem F_n21_ok : FOk F_n21 := fok uok tok0 eok0 mixed rfl ⟨S_s_tablefinderkit_Dice_Next_ok, trivial⟩
noncomputable def R_n21 : RSh := ⟨[.p .str], [(0, .box (.st 6))]⟩
noncomputable def g_n21 (v : RVal U R_n21) : (Str × G_tablefinderkit_Dice) := (v.1.1, v.2.1)
noncomputable def b_n21 (q : (Str × G_tablefinderkit_Dice)) : TRet U := R_n21.bld ((q.1, ()), (q.2, ()))
noncomputable def S_s_tablefinderkit_Dice_Word : FSig U := ⟨(Str × G_tablefinderkit_Dice), [29, 88], [.lend, .p], [none, none], [.box (.st 6), .p (.sl .str)], fun v => s_tablefinderkit_Dice_Word v.1 v.2.1, b_n21⟩
theorem S_s_tablefinderkit_Dice_Word_ok : SigOk X0.E 73 S_s_tablefinderkit_Dice_Word.sig := FSig.ok0 F_n21_ok (R := R_n21) (g := g_n21) (cuts := []) (pre := [tc0 F_n21]) rfl Tryd.func73 (by decide) rfl (fun _ => Nat.le_of_ble_eq_true (by kernel_rfl)) (fun _ => rfl) (by kernel_rfl) (fun _ _ h => Eq.trans (by kernel_rfl) h) ⟨rfl, trivial⟩ (fun r => trivial) fun _ => rfl

/-! ### tablefinder/tablefinderkit.Cell -/
noncomputable def c_n22 : Code := bodyOf Tryd.f50
noncomputable def F_n22 : FC U := ⟨X0.at 11, Tryd.f50, c_n22, [(51, S_s_tablefinderkit_Dice_Next.sig), (73, S_s_tablefinderkit_Dice_Word.sig)], [0], [.p], [some 0]⟩
theorem F_n22_ok : FOk F_n22 := fok uok tok0 eok0 mixed rfl ⟨S_s_tablefinderkit_Dice_Next_ok, S_s_tablefinderkit_Dice_Word_ok, trivial⟩
noncomputable def R_n22 : RSh := ⟨[.p (.st 0)], [(0, .box (.st 6))]⟩
noncomputable def g_n22 (v : RVal U R_n22) : (G_api_Cell × G_tablefinderkit_Dice) := (v.1.1, v.2.1)
noncomputable def b_n22 (q : (G_api_Cell × G_tablefinderkit_Dice)) : TRet U := R_n22.bld ((q.1, ()), (q.2, ()))
noncomputable def S_s_tablefinderkit_Cell : FSig U := ⟨(G_api_Cell × G_tablefinderkit_Dice), [29], [.lend], [none], [.box (.st 6)], fun v => s_tablefinderkit_Cell v.1, b_n22⟩
theorem S_s_tablefinderkit_Cell_ok : SigOk X0.E 50 S_s_tablefinderkit_Cell.sig := FSig.ok0 F_n22_ok (R := R_n22) (g := g_n22) (cuts := []) (pre := [tc0 F_n22]) rfl Tryd.func50 (by decide) rfl (fun _ => Nat.le_of_ble_eq_true (by kernel_rfl)) (fun _ => rfl) (by kernel_rfl) (fun _ _ h => Eq.trans (by kernel_rfl) h) ⟨rfl, trivial⟩ (fun r => trivial) fun _ => rfl

/-! ### tablefinder/tablefinderkit.Number -/
noncomputable def c_n24 : Code := bodyOf Tryd.f117
noncomputable def F_n24 : FC U := ⟨X0.at 19, Tryd.f117, c_n24, [(51, S_s_tablefinderkit_Dice_Next.sig), (73, S_s_tablefinderkit_Dice_Word.sig), (118, S_s_strconv_Itoa.sig)], [0], [.p], [some 0]⟩
theorem F_n24_ok : FOk F_n24 := fok uok tok0 eok0 mixed rfl ⟨S_s_tablefinderkit_Dice_Next_ok, S_s_tablefinderkit_Dice_Word_ok, S_s_strconv_Itoa_ok, trivial⟩
noncomputable def R_n24 : RSh := ⟨[.p (.st 0)], [(0, .box (.st 6))]⟩
noncomputable def g_n24 (v : RVal U R_n24) : (G_api_Cell × G_tablefinderkit_Dice) := (v.1.1, v.2.1)
noncomputable def b_n24 (q : (G_api_Cell × G_tablefinderkit_Dice)) : TRet U := R_n24.bld ((q.1, ()), (q.2, ()))
noncomputable def S_s_tablefinderkit_Number : FSig U := ⟨(G_api_Cell × G_tablefinderkit_Dice), [29], [.lend], [none], [.box (.st 6)], fun v => s_tablefinderkit_Number v.1, b_n24⟩
theorem S_s_tablefinderkit_Number_ok : SigOk X0.E 117 S_s_tablefinderkit_Number.sig := FSig.ok0 F_n24_ok (R := R_n24) (g := g_n24) (cuts := []) (pre := [tc0 F_n24]) rfl Tryd.func117 (by decide) rfl (fun _ => Nat.le_of_ble_eq_true (by kernel_rfl)) (fun _ => rfl) (by kernel_rfl) (fun _ _ h => Eq.trans (by kernel_rfl) h) ⟨rfl, trivial⟩ (fun r => trivial) fun _ => rfl

abbrev Tr_n25_0 : Type := Int → Int → Int → G_tablefinderkit_Dice → Str → Str → (List G_api_Cell) → (List G_api_Cell) → Option (G_tablefinderkit_Dice × Str × Str × (List G_api_Cell) × (List G_api_Cell))
/-! ### tablefinder/tablefinderkit.Column -/
noncomputable def c_n25 : Code := bodyOf Tryd.f74
noncomputable def F_n25 : FC U := ⟨X0.at 46, Tryd.f74, c_n25, [(73, S_s_tablefinderkit_Dice_Word.sig), (51, S_s_tablefinderkit_Dice_Next.sig), (50, S_s_tablefinderkit_Cell.sig), (117, S_s_tablefinderkit_Number.sig), (118, S_s_strconv_Itoa.sig)], [0], [.p], [some 1]⟩
theorem F_n25_ok : FOk F_n25 := fok uok tok0 eok0 mixed rfl ⟨S_s_tablefinderkit_Dice_Word_ok, S_s_tablefinderkit_Dice_Next_ok, S_s_tablefinderkit_Cell_ok, S_s_tablefinderkit_Number_ok, S_s_strconv_Itoa_ok, trivial⟩
noncomputable def R_n25 : RSh := ⟨[.p (.st 1)], [(0, .box (.st 6))]⟩
noncomputable def g_n25 (v : RVal U R_n25) : (G_api_Column × G_tablefinderkit_Dice) := (v.1.1, v.2.1)
noncomputable def b_n25 (q : (G_api_Column × G_tablefinderkit_Dice)) : TRet U := R_n25.bld ((q.1, ()), (q.2, ()))
noncomputable def L_n25_k2 : Lp U (G_api_Column × G_tablefinderkit_Dice) := ⟨[4, 5], [], [.o (.ptr (0, 1, 1) 0 0), .o (.ptr (0, 2, 1) 0 0)], [.boxS (.st 6), .box [.o (.v .str), .o (.full (0, 3, 1))], .box [.o (.v .str), .o (.full (0, 4, 1))], .arr (.st 0) false, .arr (.st 0) false], fun v w => s_tablefinderkit_Column_k2 w.1 w.2.1.1 w.2.2.1.1 w.2.2.2.1 w.2.2.2.2.1⟩
theorem L_n25_k2_ok (r : (G_api_Column × G_tablefinderkit_Dice)) : LpOk F_n25 (b_n25 r).enc r (L_n25_k2) ([tc F_n25 [1, 1, 1, 1]].map TI'.conc ++ []) := fun v w hi h => Pt.ev0 F_n25_ok (S := R_n25) (g := g_n25) (b := b_n25) (cuts := []) (pre := [tc F_n25 [1, 1, 1, 1]]) (T := Lp.st F_n25 (L_n25_k2) v w) (by kernel_rfl) hi (Eq.trans (by kernel_rfl) h) ⟨by kernel_rfl, trivial⟩ trivial fun _ => rfl
noncomputable def base_n25_l1 : List Eng.Item := .lp (codeAt F_n25 [5, 4, 1, 0, 1, 1, 1]) :: ([.blk 0, tc F_n25 [1, 1, 1, 1]].map TI'.conc ++ [])
noncomputable def Lh_n25_l1 (rec_ : Tr_n25_0) : Lp U (G_tablefinderkit_Dice × Str × Str × (List G_api_Cell) × (List G_api_Cell)) := ⟨[0, 4, 5, 6, 15, 16], [], [.o (.ptr (0, 0, 0) 0 0), .o (.ptr (0, 1, 1) 0 0), .o (.ptr (0, 2, 1) 0 0), .o (.v (.int .i64)), .o (.v (.int .i64)), .o (.v (.int .i64))], [.boxS (.st 6), .box [.o (.v .str), .o (.full (0, 3, 1))], .box [.o (.v .str), .o (.full (0, 4, 1))], .arr (.st 0) false, .arr (.st 0) false], fun v w => rec_ v.2.2.2.1 v.2.2.2.2.1 v.2.2.2.2.2.1 w.1 w.2.1.1 w.2.2.1.1 w.2.2.2.1 w.2.2.2.2.1⟩
noncomputable def Lx_n25_l1 : Lp U (G_tablefinderkit_Dice × Str × Str × (List G_api_Cell) × (List G_api_Cell)) := ⟨[4, 5], [], [.o (.ptr (0, 1, 1) 0 0), .o (.ptr (0, 2, 1) 0 0)], [.boxS (.st 6), .box [.o (.v .str), .o (.full (0, 3, 1))], .box [.o (.v .str), .o (.full (0, 4, 1))], .arr (.st 0) false, .arr (.st 0) false], fun v w => some (w.1, w.2.1.1, w.2.2.1.1, w.2.2.2.1, w.2.2.2.2.1)⟩
noncomputable def L_n25_j1 (rec_ : Tr_n25_0) : Lp U (G_tablefinderkit_Dice × Str × Str × (List G_api_Cell) × (List G_api_Cell)) := ⟨[0, 4, 5, 6, 8, 15, 16], [], [.o (.ptr (0, 0, 0) 0 0), .o (.ptr (0, 1, 1) 0 0), .o (.ptr (0, 2, 1) 0 0), .o (.v (.int .i64)), .o (.ptr (0, 3, 1) 0 0), .o (.v (.int .i64)), .o (.v (.int .i64))], [.boxS (.st 6), .box [.o (.v .str), .o (.full (0, 4, 1))], .box [.o (.v .str), .o (.full (0, 5, 1))], .boxS (.st 0), .arr (.st 0) false, .arr (.st 0) false], fun v w => s_tablefinderkit_Column_j1 rec_ v.2.2.2.1 v.2.2.2.2.2.1 v.2.2.2.2.2.2.1 w.1 w.2.1.1 w.2.2.1.1 w.2.2.2.1 w.2.2.2.2.1 w.2.2.2.2.2.1⟩
theorem L_n25_j1_ok {RT : Ret} {r : (G_tablefinderkit_Dice × Str × Str × (List G_api_Cell) × (List G_api_Cell))} {rec_ : Tr_n25_0} (hb : LpOk F_n25 RT r (Lh_n25_l1 rec_) base_n25_l1) (hx : AllExits F_n25 RT r base_n25_l1 [(0, Lx_n25_l1)]) (hr : ∀ t : TRet U, (fun _ => none) t = some r → t.enc = RT) : LpOk F_n25 RT r (L_n25_j1 rec_) (stAt F_n25 [1, 1, 1, 4, 0, 1, 1, 5, 4, 1, 0, 1, 1, 1]) := fun v w hi h => Pt.evlAt F_n25_ok (r := r) 4000 (cuts := []) (back := (some (Lh_n25_l1 rec_))) (exits := [(0, Lx_n25_l1)]) (ret := (fun _ => none)) (base := base_n25_l1) (pre := [tc F_n25 [1, 1, 1, 4, 0, 1, 1, 5, 4, 1, 0, 1, 1, 1], .blk 1, tc F_n25 [1, 1, 1, 5, 4, 1, 0, 1, 1, 1]]) (T := Lp.st F_n25 (L_n25_j1 rec_) v w) (by kernel_rfl) hi (Eq.trans (by kernel_rfl) h) ⟨by kernel_rfl, by kernel_rfl, trivial⟩ trivial (fun L hL => by cases hL; exact hb) (fun hn => nomatch hn) hx hr
theorem s_tablefinderkit_Column_l1_ok {RT : Ret} {r : (G_tablefinderkit_Dice × Str × Str × (List G_api_Cell) × (List G_api_Cell))} (hx : AllExits F_n25 RT r base_n25_l1 [(0, Lx_n25_l1)]) (hr : ∀ t : TRet U, (fun _ => none) t = some r → t.enc = RT) : ∀ n, LpOk F_n25 RT r (Lh_n25_l1 (s_tablefinderkit_Column_l1 n)) (stAt F_n25 [4, 1, 0, 1, 1, 1]) :=
  loop_ok F_n25_ok 4000 (q := [4, 1, 0, 1, 1, 1]) (body := codeAt F_n25 [5, 4, 1, 0, 1, 1, 1]) (live := [0, 4, 5, 6, 15, 16]) (frz := []) (shs := [.o (.ptr (0, 0, 0) 0 0), .o (.ptr (0, 1, 1) 0 0), .o (.ptr (0, 2, 1) 0 0), .o (.v (.int .i64)), .o (.v (.int .i64)), .o (.v (.int .i64))]) (sho := [.boxS (.st 6), .box [.o (.v .str), .o (.full (0, 3, 1))], .box [.o (.v .str), .o (.full (0, 4, 1))], .arr (.st 0) false, .arr (.st 0) false]) (fun n v w => s_tablefinderkit_Column_l1 n v.2.2.2.1 v.2.2.2.2.1 v.2.2.2.2.2.1 w.1 w.2.1.1 w.2.2.1.1 w.2.2.2.1 w.2.2.2.2.1) (cuts := fun n => [([1, 1, 1, 4, 0, 1, 1, 5, 4, 1, 0, 1, 1, 1], L_n25_j1 (s_tablefinderkit_Column_l1 n))]) (exits := [(0, Lx_n25_l1)]) (ret := (fun _ => none)) (by kernel_rfl) (fun _ _ => rfl) (fun n v w => by kernel_rfl) (fun n hb => ⟨L_n25_j1_ok hb hx hr, trivial⟩) hx hr
noncomputable def Lc_n25_l1 : Lp U (G_api_Column × G_tablefinderkit_Dice) := ⟨[0, 4, 5, 6, 15, 16], [], [.o (.ptr (0, 0, 0) 0 0), .o (.ptr (0, 1, 1) 0 0), .o (.ptr (0, 2, 1) 0 0), .o (.v (.int .i64)), .o (.v (.int .i64)), .o (.v (.int .i64))], [.boxS (.st 6), .box [.o (.v .str), .o (.full (0, 3, 1))], .box [.o (.v .str), .o (.full (0, 4, 1))], .arr (.st 0) false, .arr (.st 0) false], fun v w => (s_tablefinderkit_Column_l1 big v.2.2.2.1 v.2.2.2.2.1 v.2.2.2.2.2.1 w.1 w.2.1.1 w.2.2.1.1 w.2.2.2.1 w.2.2.2.2.1).bind fun (x0, x1, x2, x3, x4) => s_tablefinderkit_Column_k2 x0 x1 x2 x3 x4⟩
theorem Lc_n25_l1_ok (r : (G_api_Column × G_tablefinderkit_Dice)) : LpOk F_n25 (b_n25 r).enc r (Lc_n25_l1) (stAt F_n25 [4, 1, 0, 1, 1, 1]) := fun v w hi h0 => by
  obtain ⟨x, hx0, h⟩ := bind_some h0
  exact s_tablefinderkit_Column_l1_ok (r := x) (RT := (b_n25 r).enc) ⟨⟨[tc F_n25 [1, 1, 1, 1]].map TI'.conc ++ [], by kernel_rfl, fun v' w' hi' h' => by obtain rfl := Option.some.inj h'; exact L_n25_k2_ok r v' w' hi' h⟩, trivial⟩ (fun _ ht => nomatch ht) big v w hi hx0
noncomputable def S_s_tablefinderkit_Column : FSig U := ⟨(G_api_Column × G_tablefinderkit_Dice), [29, 3], [.lend, .p], [none, none], [.box (.st 6), .p (.int .i64)], fun v => s_tablefinderkit_Column v.1 v.2.1, b_n25⟩
theorem S_s_tablefinderkit_Column_ok : SigOk X0.E 74 S_s_tablefinderkit_Column.sig := FSig.ok0 F_n25_ok (R := R_n25) (g := g_n25) (cuts := [([4, 1, 0, 1, 1, 1], Lc_n25_l1)]) (pre := [tc0 F_n25]) rfl Tryd.func74 (by decide) rfl (fun _ => Nat.le_of_ble_eq_true (by kernel_rfl)) (fun _ => rfl) (by kernel_rfl) (fun _ _ h => Eq.trans (by kernel_rfl) h) ⟨rfl, trivial⟩ (fun r => ⟨(Lc_n25_l1_ok r), trivial⟩) fun _ => rfl

/-! ### tablefinder/tablefinderkit.Table -/
noncomputable def c_n26 : Code := bodyOf Tryd.f21
noncomputable def F_n26 : FC U := ⟨X0.at 35, Tryd.f21, c_n26, [(73, S_s_tablefinderkit_Dice_Word.sig), (51, S_s_tablefinderkit_Dice_Next.sig), (74, S_s_tablefinderkit_Column.sig)], [0], [.p], [some 2]⟩
theorem F_n26_ok : FOk F_n26 := fok uok tok0 eok0 mixed rfl ⟨S_s_tablefinderkit_Dice_Word_ok, S_s_tablefinderkit_Dice_Next_ok, S_s_tablefinderkit_Column_ok, trivial⟩
noncomputable def R_n26 : RSh := ⟨[.p (.st 2)], [(0, .box (.st 6))]⟩
noncomputable def g_n26 (v : RVal U R_n26) : (G_api_Table × G_tablefinderkit_Dice) := (v.1.1, v.2.1)
noncomputable def b_n26 (q : (G_api_Table × G_tablefinderkit_Dice)) : TRet U := R_n26.bld ((q.1, ()), (q.2, ()))
noncomputable def L_n26_j2 : Lp U (G_api_Table × G_tablefinderkit_Dice) := ⟨[4, 5], [], [.o (.ptr (0, 1, 1) 0 0), .o (.ptr (0, 2, 1) 0 0)], [.boxS (.st 6), .box [.o (.v (.int .i64)), .o (.v .str), .o (.full (0, 3, 1))], .box [.o (.v (.int .i64)), .o (.v .str), .o (.full (0, 4, 1))], .arr (.st 1) false, .arr (.st 1) false], fun v w => s_tablefinderkit_Table_j2 w.1 w.2.1.1 w.2.1.2.1 w.2.2.1.1 w.2.2.1.2.1 w.2.2.2.1 w.2.2.2.2.1⟩
theorem L_n26_j2_ok (r : (G_api_Table × G_tablefinderkit_Dice)) : LpOk F_n26 (b_n26 r).enc r (L_n26_j2) (stAt F_n26 [1, 1, 1, 1, 1]) := fun v w hi h => Pt.ev0 F_n26_ok (S := R_n26) (g := g_n26) (b := b_n26) (cuts := []) (pre := [tc F_n26 [1, 1, 1, 1, 1]]) (T := Lp.st F_n26 (L_n26_j2) v w) (by kernel_rfl) hi (Eq.trans (by kernel_rfl) h) ⟨by kernel_rfl, trivial⟩ trivial fun _ => rfl
noncomputable def L_n26_k1 : Lp U (G_api_Table × G_tablefinderkit_Dice) := ⟨[0, 4, 5], [], [.o (.ptr (0, 0, 0) 0 0), .o (.ptr (0, 1, 1) 0 0), .o (.ptr (0, 2, 1) 0 0)], [.boxS (.st 6), .box [.o (.v (.int .i64)), .o (.v .str), .o (.full (0, 3, 1))], .box [.o (.v (.int .i64)), .o (.v .str), .o (.full (0, 4, 1))], .arr (.st 1) false, .arr (.st 1) false], fun v w => s_tablefinderkit_Table_k1 w.1 w.2.1.1 w.2.1.2.1 w.2.2.1.1 w.2.2.1.2.1 w.2.2.2.1 w.2.2.2.2.1⟩
theorem L_n26_k1_ok (r : (G_api_Table × G_tablefinderkit_Dice)) : LpOk F_n26 (b_n26 r).enc r (L_n26_k1) ([tc F_n26 [1, 1, 1, 1]].map TI'.conc ++ []) := fun v w hi h => Pt.ev0 F_n26_ok (S := R_n26) (g := g_n26) (b := b_n26) (cuts := [([1, 1, 1, 1, 1], L_n26_j2)]) (pre := [tc F_n26 [1, 1, 1, 1]]) (T := Lp.st F_n26 (L_n26_k1) v w) (by kernel_rfl) hi (Eq.trans (by kernel_rfl) h) ⟨by kernel_rfl, trivial⟩ ⟨(L_n26_j2_ok r), trivial⟩ fun _ => rfl
noncomputable def base_n26_l1 : List Eng.Item := .lp (codeAt F_n26 [5, 4, 1, 0, 1, 1, 1]) :: ([.blk 0, tc F_n26 [1, 1, 1, 1]].map TI'.conc ++ [])
noncomputable def Lh_n26_l1 (rec_ : Int → Int → G_tablefinderkit_Dice → Int → Str → Int → Str → (List G_api_Column) → (List G_api_Column) → Option (G_tablefinderkit_Dice × Int × Str × Int × Str × (List G_api_Column) × (List G_api_Column))) : Lp U (G_tablefinderkit_Dice × Int × Str × Int × Str × (List G_api_Column) × (List G_api_Column)) := ⟨[0, 4, 5, 6, 7], [], [.o (.ptr (0, 0, 0) 0 0), .o (.ptr (0, 1, 1) 0 0), .o (.ptr (0, 2, 1) 0 0), .o (.v (.int .i64)), .o (.v (.int .i64))], [.boxS (.st 6), .box [.o (.v (.int .i64)), .o (.v .str), .o (.full (0, 3, 1))], .box [.o (.v (.int .i64)), .o (.v .str), .o (.full (0, 4, 1))], .arr (.st 1) false, .arr (.st 1) false], fun v w => rec_ v.2.2.2.1 v.2.2.2.2.1 w.1 w.2.1.1 w.2.1.2.1 w.2.2.1.1 w.2.2.1.2.1 w.2.2.2.1 w.2.2.2.2.1⟩
noncomputable def Lx_n26_l1 : Lp U (G_tablefinderkit_Dice × Int × Str × Int × Str × (List G_api_Column) × (List G_api_Column)) := ⟨[0, 4, 5], [], [.o (.ptr (0, 0, 0) 0 0), .o (.ptr (0, 1, 1) 0 0), .o (.ptr (0, 2, 1) 0 0)], [.boxS (.st 6), .box [.o (.v (.int .i64)), .o (.v .str), .o (.full (0, 3, 1))], .box [.o (.v (.int .i64)), .o (.v .str), .o (.full (0, 4, 1))], .arr (.st 1) false, .arr (.st 1) false], fun v w => some (w.1, w.2.1.1, w.2.1.2.1, w.2.2.1.1, w.2.2.1.2.1, w.2.2.2.1, w.2.2.2.2.1)⟩
theorem s_tablefinderkit_Table_l1_ok {RT : Ret} {r : (G_tablefinderkit_Dice × Int × Str × Int × Str × (List G_api_Column) × (List G_api_Column))} (hx : AllExits F_n26 RT r base_n26_l1 [(0, Lx_n26_l1)]) (hr : ∀ t : TRet U, (fun _ => none) t = some r → t.enc = RT) : ∀ n, LpOk F_n26 RT r (Lh_n26_l1 (s_tablefinderkit_Table_l1 n)) (stAt F_n26 [4, 1, 0, 1, 1, 1]) :=
  loop_ok F_n26_ok 4000 (q := [4, 1, 0, 1, 1, 1]) (body := codeAt F_n26 [5, 4, 1, 0, 1, 1, 1]) (live := [0, 4, 5, 6, 7]) (frz := []) (shs := [.o (.ptr (0, 0, 0) 0 0), .o (.ptr (0, 1, 1) 0 0), .o (.ptr (0, 2, 1) 0 0), .o (.v (.int .i64)), .o (.v (.int .i64))]) (sho := [.boxS (.st 6), .box [.o (.v (.int .i64)), .o (.v .str), .o (.full (0, 3, 1))], .box [.o (.v (.int .i64)), .o (.v .str), .o (.full (0, 4, 1))], .arr (.st 1) false, .arr (.st 1) false]) (fun n v w => s_tablefinderkit_Table_l1 n v.2.2.2.1 v.2.2.2.2.1 w.1 w.2.1.1 w.2.1.2.1 w.2.2.1.1 w.2.2.1.2.1 w.2.2.2.1 w.2.2.2.2.1) (cuts := fun n => []) (exits := [(0, Lx_n26_l1)]) (ret := (fun _ => none)) (by kernel_rfl) (fun _ _ => rfl) (fun n v w => by kernel_rfl) (fun n hb => trivial) hx hr
noncomputable def Lc_n26_l1 : Lp U (G_api_Table × G_tablefinderkit_Dice) := ⟨[0, 4, 5, 6, 7], [], [.o (.ptr (0, 0, 0) 0 0), .o (.ptr (0, 1, 1) 0 0), .o (.ptr (0, 2, 1) 0 0), .o (.v (.int .i64)), .o (.v (.int .i64))], [.boxS (.st 6), .box [.o (.v (.int .i64)), .o (.v .str), .o (.full (0, 3, 1))], .box [.o (.v (.int .i64)), .o (.v .str), .o (.full (0, 4, 1))], .arr (.st 1) false, .arr (.st 1) false], fun v w => (s_tablefinderkit_Table_l1 big v.2.2.2.1 v.2.2.2.2.1 w.1 w.2.1.1 w.2.1.2.1 w.2.2.1.1 w.2.2.1.2.1 w.2.2.2.1 w.2.2.2.2.1).bind fun (x0, x1, x2, x3, x4, x5, x6) => s_tablefinderkit_Table_k1 x0 x1 x2 x3 x4 x5 x6⟩
theorem Lc_n26_l1_ok (r : (G_api_Table × G_tablefinderkit_Dice)) : LpOk F_n26 (b_n26 r).enc r (Lc_n26_l1) (stAt F_n26 [4, 1, 0, 1, 1, 1]) := fun v w hi h0 => by
  obtain ⟨x, hx0, h⟩ := bind_some h0
  exact s_tablefinderkit_Table_l1_ok (r := x) (RT := (b_n26 r).enc) ⟨⟨[tc F_n26 [1, 1, 1, 1]].map TI'.conc ++ [], by kernel_rfl, fun v' w' hi' h' => by obtain rfl := Option.some.inj h'; exact L_n26_k1_ok r v' w' hi' h⟩, trivial⟩ (fun _ ht => nomatch ht) big v w hi hx0
noncomputable def S_s_tablefinderkit_Table : FSig U := ⟨(G_api_Table × G_tablefinderkit_Dice), [29, 3], [.lend, .p], [none, none], [.box (.st 6), .p (.int .i64)], fun v => s_tablefinderkit_Table v.1 v.2.1, b_n26⟩
theorem S_s_tablefinderkit_Table_ok : SigOk X0.E 21 S_s_tablefinderkit_Table.sig := FSig.ok0 F_n26_ok (R := R_n26) (g := g_n26) (cuts := [([4, 1, 0, 1, 1, 1], Lc_n26_l1)]) (pre := [tc0 F_n26]) rfl Tryd.func21 (by decide) rfl (fun _ => Nat.le_of_ble_eq_true (by kernel_rfl)) (fun _ => rfl) (by kernel_rfl) (fun _ _ h => Eq.trans (by kernel_rfl) h) ⟨rfl, trivial⟩ (fun r => ⟨(Lc_n26_l1_ok r), trivial⟩) fun _ => rfl

/-! ### tablefinder/tablefinderref03.Rows -/
noncomputable def c_n32 : Code := bodyOf Tryd.f53
noncomputable def F_n32 : FC U := ⟨X0.at 13, Tryd.f53, c_n32, [], [], [.p], [none]⟩
theorem F_n32_ok : FOk F_n32 := fok uok tok0 eok0 mixed rfl trivial
noncomputable def R_n32 : RSh := ⟨[.p (.int .i64)], []⟩
noncomputable def g_n32 (v : RVal U R_n32) : Int := v.1.1
noncomputable def b_n32 (q : Int) : TRet U := R_n32.bld ((q, ()), ())
noncomputable def S_s_tablefinderref03_Rows : FSig U := ⟨Int, [24], [.p], [some 2], [.p (.st 2)], fun v => s_tablefinderref03_Rows v.1, b_n32⟩
theorem S_s_tablefinderref03_Rows_ok : SigOk X0.E 53 S_s_tablefinderref03_Rows.sig := FSig.ok0 F_n32_ok (R := R_n32) (g := g_n32) (cuts := []) (pre := [tc0 F_n32]) rfl Tryd.func53 (by decide) rfl (fun _ => Nat.le_of_ble_eq_true (by kernel_rfl)) (fun _ => rfl) (by kernel_rfl) (fun _ _ h => Eq.trans (by kernel_rfl) h) ⟨rfl, trivial⟩ (fun r => trivial) fun _ => rfl

/-! ### tablefinder/fraction.trimmed -/
noncomputable def c_n35 : Code := bodyOf Tryd.f211
noncomputable def F_n35 : FC U := ⟨X0.at 21, Tryd.f211, c_n35, [], [], [.p], [none]⟩
theorem F_n35_ok : FOk F_n35 := fok uok tok0 eok0 mixed rfl trivial
noncomputable def R_n35 : RSh := ⟨[.p (.sl (.int .u32))], []⟩
noncomputable def g_n35 (v : RVal U R_n35) : (List Int) := v.1.1
noncomputable def b_n35 (q : (List Int)) : TRet U := R_n35.bld ((q, ()), ())
noncomputable def L_n35_k2 : Lp U (List Int) := ⟨[0], [], [.o (.v (.sl (.int .u32)))], [], fun v w => s_fraction_trimmed_k2 v.1⟩
theorem L_n35_k2_ok (r : (List Int)) : LpOk F_n35 (b_n35 r).enc r (L_n35_k2) ([tc F_n35 [1, 1]].map TI'.conc ++ []) := fun v w hi h => Pt.ev0 F_n35_ok (S := R_n35) (g := g_n35) (b := b_n35) (cuts := []) (pre := [tc F_n35 [1, 1]]) (T := Lp.st F_n35 (L_n35_k2) v w) (by kernel_rfl) hi (Eq.trans (by kernel_rfl) h) ⟨by kernel_rfl, trivial⟩ trivial fun _ => rfl
noncomputable def base_n35_l1 : List Eng.Item := .lp (codeAt F_n35 [5, 4, 0, 1]) :: ([.blk 0, tc F_n35 [1, 1]].map TI'.conc ++ [])
noncomputable def Lh_n35_l1 (rec_ : (List Int) → Option (List Int)) : Lp U (List Int) := ⟨[0], [], [.o (.v (.sl (.int .u32)))], [], fun v w => rec_ v.1⟩
noncomputable def Lx_n35_l1 : Lp U (List Int) := ⟨[0], [], [.o (.v (.sl (.int .u32)))], [], fun v w => some v.1⟩
noncomputable def L_n35_j1 (rec_ : (List Int) → Option (List Int)) : Lp U (List Int) := ⟨[0, 14], [], [.o (.v (.sl (.int .u32))), .o (.v .bool)], [], fun v w => s_fraction_trimmed_j1 rec_ v.1 v.2.1⟩
theorem L_n35_j1_ok {RT : Ret} {r : (List Int)} {rec_ : (List Int) → Option (List Int)} (hb : LpOk F_n35 RT r (Lh_n35_l1 rec_) base_n35_l1) (hx : AllExits F_n35 RT r base_n35_l1 [(0, Lx_n35_l1)]) (hr : ∀ t : TRet U, (fun _ => none) t = some r → t.enc = RT) : LpOk F_n35 RT r (L_n35_j1 rec_) (stAt F_n35 [1, 0, 5, 4, 0, 1]) := fun v w hi h => Pt.evlAt F_n35_ok (r := r) 4000 (cuts := []) (back := (some (Lh_n35_l1 rec_))) (exits := [(0, Lx_n35_l1)]) (ret := (fun _ => none)) (base := base_n35_l1) (pre := [tc F_n35 [1, 0, 5, 4, 0, 1], tc F_n35 [1, 5, 4, 0, 1]]) (T := Lp.st F_n35 (L_n35_j1 rec_) v w) (by kernel_rfl) hi (Eq.trans (by kernel_rfl) h) ⟨by kernel_rfl, by kernel_rfl, trivial⟩ trivial (fun L hL => by cases hL; exact hb) (fun hn => nomatch hn) hx hr
theorem s_fraction_trimmed_l1_ok {RT : Ret} {r : (List Int)} (hx : AllExits F_n35 RT r base_n35_l1 [(0, Lx_n35_l1)]) (hr : ∀ t : TRet U, (fun _ => none) t = some r → t.enc = RT) : ∀ n, LpOk F_n35 RT r (Lh_n35_l1 (s_fraction_trimmed_l1 n)) (stAt F_n35 [4, 0, 1]) :=
  loop_ok F_n35_ok 4000 (q := [4, 0, 1]) (body := codeAt F_n35 [5, 4, 0, 1]) (live := [0]) (frz := []) (shs := [.o (.v (.sl (.int .u32)))]) (sho := []) (fun n v w => s_fraction_trimmed_l1 n v.1) (cuts := fun n => [([1, 0, 5, 4, 0, 1], L_n35_j1 (s_fraction_trimmed_l1 n))]) (exits := [(0, Lx_n35_l1)]) (ret := (fun _ => none)) (by kernel_rfl) (fun _ _ => rfl) (fun n v w => by kernel_rfl) (fun n hb => ⟨L_n35_j1_ok hb hx hr, trivial⟩) hx hr
noncomputable def Lc_n35_l1 : Lp U (List Int) := ⟨[0], [], [.o (.v (.sl (.int .u32)))], [], fun v w => (s_fraction_trimmed_l1 big v.1).bind fun x0 => s_fraction_trimmed_k2 x0⟩
theorem Lc_n35_l1_ok (r : (List Int)) : LpOk F_n35 (b_n35 r).enc r (Lc_n35_l1) (stAt F_n35 [4, 0, 1]) := fun v w hi h0 => by
  obtain ⟨x, hx0, h⟩ := bind_some h0
  exact s_fraction_trimmed_l1_ok (r := x) (RT := (b_n35 r).enc) ⟨⟨[tc F_n35 [1, 1]].map TI'.conc ++ [], by kernel_rfl, fun v' w' hi' h' => by obtain rfl := Option.some.inj h'; exact L_n35_k2_ok r v' w' hi' h⟩, trivial⟩ (fun _ ht => nomatch ht) big v w hi hx0
noncomputable def S_s_fraction_trimmed : FSig U := ⟨(List Int), [203], [.p], [none], [.p (.sl (.int .u32))], fun v => s_fraction_trimmed v.1, b_n35⟩
theorem S_s_fraction_trimmed_ok : SigOk X0.E 211 S_s_fraction_trimmed.sig := FSig.ok0 F_n35_ok (R := R_n35) (g := g_n35) (cuts := [([4, 0, 1], Lc_n35_l1)]) (pre := [tc0 F_n35]) rfl Tryd.func211 (by decide) rfl (fun _ => Nat.le_of_ble_eq_true (by kernel_rfl)) (fun _ => rfl) (by kernel_rfl) (fun _ _ h => Eq.trans (by kernel_rfl) h) ⟨rfl, trivial⟩ (fun r => ⟨(Lc_n35_l1_ok r), trivial⟩) fun _ => rfl

/-! ### tablefinder/fraction.natural -/
noncomputable def c_n36 : Code := bodyOf Tryd.f192
noncomputable def F_n36 : FC U := ⟨X0.at 10, Tryd.f192, c_n36, [(211, S_s_fraction_trimmed.sig)], [], [.p], [none]⟩
theorem F_n36_ok : FOk F_n36 := fok uok tok0 eok0 mixed rfl ⟨S_s_fraction_trimmed_ok, trivial⟩
noncomputable def R_n36 : RSh := ⟨[.p (.sl (.int .u32))], []⟩
noncomputable def g_n36 (v : RVal U R_n36) : (List Int) := v.1.1
noncomputable def b_n36 (q : (List Int)) : TRet U := R_n36.bld ((q, ()), ())
noncomputable def S_s_fraction_natural : FSig U := ⟨(List Int), [192], [.p], [none], [.p (.int .u64)], fun v => s_fraction_natural v.1, b_n36⟩
theorem S_s_fraction_natural_ok : SigOk X0.E 192 S_s_fraction_natural.sig := FSig.ok0 F_n36_ok (R := R_n36) (g := g_n36) (cuts := []) (pre := [tc0 F_n36]) rfl Tryd.func192 (by decide) rfl (fun _ => Nat.le_of_ble_eq_true (by kernel_rfl)) (fun _ => rfl) (by kernel_rfl) (fun _ _ h => Eq.trans (by kernel_rfl) h) ⟨rfl, trivial⟩ (fun r => trivial) fun _ => rfl

/-! ### tablefinder/fraction.signed -/
noncomputable def c_n37 : Code := bodyOf Tryd.f187
noncomputable def F_n37 : FC U := ⟨X0.at 14, Tryd.f187, c_n37, [], [], [.p], [some 9]⟩
theorem F_n37_ok : FOk F_n37 := fok uok tok0 eok0 mixed rfl trivial
noncomputable def R_n37 : RSh := ⟨[.p (.st 9)], []⟩
noncomputable def g_n37 (v : RVal U R_n37) : G_api_Big := v.1.1
noncomputable def b_n37 (q : G_api_Big) : TRet U := R_n37.bld ((q, ()), ())
noncomputable def L_n37_j1 : Lp U G_api_Big := ⟨[4], [], [.o (.ptr (0, 1, 1) 0 0)], [.box [.o (.v .bool), .o (.full (0, 2, 1))], .arr (.int .u32) false], fun v w => s_fraction_signed_j1 w.1.1 w.2.1⟩
theorem L_n37_j1_ok (r : G_api_Big) : LpOk F_n37 (b_n37 r).enc r (L_n37_j1) (stAt F_n37 [1, 1]) := fun v w hi h => Pt.ev0 F_n37_ok (S := R_n37) (g := g_n37) (b := b_n37) (cuts := []) (pre := [tc F_n37 [1, 1]]) (T := Lp.st F_n37 (L_n37_j1) v w) (by kernel_rfl) hi (Eq.trans (by kernel_rfl) h) ⟨by kernel_rfl, trivial⟩ trivial fun _ => rfl
noncomputable def S_s_fraction_signed : FSig U := ⟨G_api_Big, [4, 203], [.p, .p], [none, none], [.p .bool, .p (.sl (.int .u32))], fun v => s_fraction_signed v.1 v.2.1, b_n37⟩
theorem S_s_fraction_signed_ok : SigOk X0.E 187 S_s_fraction_signed.sig := FSig.ok0 F_n37_ok (R := R_n37) (g := g_n37) (cuts := [([1, 1], L_n37_j1)]) (pre := [tc0 F_n37]) rfl Tryd.func187 (by decide) rfl (fun _ => Nat.le_of_ble_eq_true (by kernel_rfl)) (fun _ => rfl) (by kernel_rfl) (fun _ _ h => Eq.trans (by kernel_rfl) h) ⟨rfl, trivial⟩ (fun r => ⟨(L_n37_j1_ok r), trivial⟩) fun _ => rfl

/-! ### tablefinder/fraction.FromInt -/
noncomputable def c_n38 : Code := bodyOf Tryd.f169
noncomputable def F_n38 : FC U := ⟨X0.at 14, Tryd.f169, c_n38, [(192, S_s_fraction_natural.sig), (187, S_s_fraction_signed.sig)], [], [.p], [some 9]⟩
theorem F_n38_ok : FOk F_n38 := fok uok tok0 eok0 mixed rfl ⟨S_s_fraction_natural_ok, S_s_fraction_signed_ok, trivial⟩
noncomputable def R_n38 : RSh := ⟨[.p (.st 9)], []⟩
noncomputable def g_n38 (v : RVal U R_n38) : G_api_Big := v.1.1
noncomputable def b_n38 (q : G_api_Big) : TRet U := R_n38.bld ((q, ()), ())
noncomputable def S_s_fraction_FromInt : FSig U := ⟨G_api_Big, [3], [.p], [none], [.p (.int .i64)], fun v => s_fraction_FromInt v.1, b_n38⟩
theorem S_s_fraction_FromInt_ok : SigOk X0.E 169 S_s_fraction_FromInt.sig := FSig.ok0 F_n38_ok (R := R_n38) (g := g_n38) (cuts := []) (pre := [tc0 F_n38]) rfl Tryd.func169 (by decide) rfl (fun _ => Nat.le_of_ble_eq_true (by kernel_rfl)) (fun _ => rfl) (by kernel_rfl) (fun _ _ h => Eq.trans (by kernel_rfl) h) ⟨rfl, trivial⟩ (fun r => trivial) fun _ => rfl

/-! ### tablefinder/fraction.ValidBig -/
noncomputable def c_n39 : Code := bodyOf Tryd.f206
noncomputable def F_n39 : FC U := ⟨X0.at 31, Tryd.f206, c_n39, [], [], [.p], [none]⟩
theorem F_n39_ok : FOk F_n39 := fok uok tok0 eok0 mixed rfl trivial
noncomputable def R_n39 : RSh := ⟨[.p .bool], []⟩
noncomputable def g_n39 (v : RVal U R_n39) : Bool := v.1.1
noncomputable def b_n39 (q : Bool) : TRet U := R_n39.bld ((q, ()), ())
noncomputable def L_n39_j1 : Lp U Bool := ⟨[2], [], [.o (.v .bool)], [], fun v w => s_fraction_ValidBig_j1 v.1⟩
theorem L_n39_j1_ok (r : Bool) : LpOk F_n39 (b_n39 r).enc r (L_n39_j1) (stAt F_n39 [1, 1, 1]) := fun v w hi h => Pt.ev0 F_n39_ok (S := R_n39) (g := g_n39) (b := b_n39) (cuts := []) (pre := [tc F_n39 [1, 1, 1]]) (T := Lp.st F_n39 (L_n39_j1) v w) (by kernel_rfl) hi (Eq.trans (by kernel_rfl) h) ⟨by kernel_rfl, trivial⟩ trivial fun _ => rfl
noncomputable def S_s_fraction_ValidBig : FSig U := ⟨Bool, [58], [.p], [some 9], [.p (.st 9)], fun v => s_fraction_ValidBig v.1, b_n39⟩
theorem S_s_fraction_ValidBig_ok : SigOk X0.E 206 S_s_fraction_ValidBig.sig := FSig.ok0 F_n39_ok (R := R_n39) (g := g_n39) (cuts := [([1, 1, 1], L_n39_j1)]) (pre := [tc0 F_n39]) rfl Tryd.func206 (by decide) rfl (fun _ => Nat.le_of_ble_eq_true (by kernel_rfl)) (fun _ => rfl) (by kernel_rfl) (fun _ _ h => Eq.trans (by kernel_rfl) h) ⟨rfl, trivial⟩ (fun r => ⟨(L_n39_j1_ok r), trivial⟩) fun _ => rfl

/-! ### tablefinder/fraction.bigs -/
noncomputable def c_n40 : Code := bodyOf Tryd.f184
noncomputable def F_n40 : FC U := ⟨X0.at 15, Tryd.f184, c_n40, [(206, S_s_fraction_ValidBig.sig)], [], [.p], [none]⟩
theorem F_n40_ok : FOk F_n40 := fok uok tok0 eok0 mixed rfl ⟨S_s_fraction_ValidBig_ok, trivial⟩
noncomputable def R_n40 : RSh := ⟨[.p .bool], []⟩
noncomputable def g_n40 (v : RVal U R_n40) : Bool := v.1.1
noncomputable def b_n40 (q : Bool) : TRet U := R_n40.bld ((q, ()), ())
noncomputable def L_n40_k1 : Lp U Bool := ⟨[], [], [], [], fun v w => s_fraction_bigs_k1⟩
theorem L_n40_k1_ok (r : Bool) : LpOk F_n40 (b_n40 r).enc r (L_n40_k1) ([tc F_n40 [1, 1]].map TI'.conc ++ []) := fun v w hi h => Pt.ev0 F_n40_ok (S := R_n40) (g := g_n40) (b := b_n40) (cuts := []) (pre := [tc F_n40 [1, 1]]) (T := Lp.st F_n40 (L_n40_k1) v w) (by kernel_rfl) hi (Eq.trans (by kernel_rfl) h) ⟨by kernel_rfl, trivial⟩ trivial fun _ => rfl
noncomputable def base_n40_l1 : List Eng.Item := .lp (codeAt F_n40 [5, 4, 1, 0, 1]) :: ([.blk 0, tc F_n40 [1, 1]].map TI'.conc ++ [])
noncomputable def Lh_n40_l1 (rec_ : (List G_api_Big) → Int → Int → Option (Out Unit Bool)) : Lp U (Out Unit Bool) := ⟨[5, 6, 7], [], [.o (.v (.sl (.st 9))), .o (.v (.int .i64)), .o (.v (.int .i64))], [], fun v w => rec_ v.1 v.2.1 v.2.2.1⟩
noncomputable def Lx_n40_l1 : Lp U (Out Unit Bool) := ⟨[], [], [], [], fun v w => some (.brk ())⟩
theorem s_fraction_bigs_l1_ok {RT : Ret} {r : (Out Unit Bool)} (hx : AllExits F_n40 RT r base_n40_l1 [(0, Lx_n40_l1)]) (hr : ∀ t : TRet U, (retOf R_n40 fun v => Out.ret (β := Unit) (g_n40 v)) t = some r → t.enc = RT) : ∀ n, LpOk F_n40 RT r (Lh_n40_l1 (s_fraction_bigs_l1 n)) (stAt F_n40 [4, 1, 0, 1]) :=
  loop_ok F_n40_ok 4000 (q := [4, 1, 0, 1]) (body := codeAt F_n40 [5, 4, 1, 0, 1]) (live := [5, 6, 7]) (frz := []) (shs := [.o (.v (.sl (.st 9))), .o (.v (.int .i64)), .o (.v (.int .i64))]) (sho := []) (fun n v w => s_fraction_bigs_l1 n v.1 v.2.1 v.2.2.1) (cuts := fun n => []) (exits := [(0, Lx_n40_l1)]) (ret := (retOf R_n40 fun v => Out.ret (β := Unit) (g_n40 v))) (by kernel_rfl) (fun _ _ => rfl) (fun n v w => by kernel_rfl) (fun n hb => trivial) hx hr
noncomputable def Lc_n40_l1 : Lp U Bool := ⟨[5, 6, 7], [], [.o (.v (.sl (.st 9))), .o (.v (.int .i64)), .o (.v (.int .i64))], [], fun v w => (s_fraction_bigs_l1 big v.1 v.2.1 v.2.2.1).bind fun | .ret q_ => some q_ | .brk () => s_fraction_bigs_k1⟩
theorem Lc_n40_l1_ok (r : Bool) : LpOk F_n40 (b_n40 r).enc r (Lc_n40_l1) (stAt F_n40 [4, 1, 0, 1]) := fun v w hi h0 => by
  obtain ⟨x, hx0, h⟩ := bind_some h0
  exact s_fraction_bigs_l1_ok (r := x) (RT := (b_n40 r).enc) ⟨⟨[tc F_n40 [1, 1]].map TI'.conc ++ [], by kernel_rfl, fun v' w' hi' h' => by obtain rfl := Option.some.inj h'; exact L_n40_k1_ok r v' w' hi' h⟩, trivial⟩ (fun t ht => by obtain ⟨q, rfl, hq⟩ := retOut ht; obtain rfl := Option.some.inj h; exact retOf_enc uok (give := b_n40) (fun _ => rfl) hq) big v w hi hx0
noncomputable def S_s_fraction_bigs : FSig U := ⟨Bool, [227], [.p], [none], [.p (.sl (.st 9))], fun v => s_fraction_bigs v.1, b_n40⟩
theorem S_s_fraction_bigs_ok : SigOk X0.E 184 S_s_fraction_bigs.sig := FSig.ok0 F_n40_ok (R := R_n40) (g := g_n40) (cuts := [([4, 1, 0, 1], Lc_n40_l1)]) (pre := [tc0 F_n40]) rfl Tryd.func184 (by decide) rfl (fun _ => Nat.le_of_ble_eq_true (by kernel_rfl)) (fun _ => rfl) (by kernel_rfl) (fun _ _ h => Eq.trans (by kernel_rfl) h) ⟨rfl, trivial⟩ (fun r => ⟨(Lc_n40_l1_ok r), trivial⟩) fun _ => rfl

/-! ### cmp.isNaN[int] -/
noncomputable def c_n41 : Code := bodyOf Tryd.f153
noncomputable def F_n41 : FC U := ⟨X0.at 6, Tryd.f153, c_n41, [], [], [.p], [none]⟩
theorem F_n41_ok : FOk F_n41 := fok uok tok0 eok0 mixed rfl trivial
noncomputable def R_n41 : RSh := ⟨[.p .bool], []⟩
noncomputable def g_n41 (v : RVal U R_n41) : Bool := v.1.1
noncomputable def b_n41 (q : Bool) : TRet U := R_n41.bld ((q, ()), ())
noncomputable def S_s_cmp_isNaN_int : FSig U := ⟨Bool, [3], [.p], [none], [.p (.int .i64)], fun v => s_cmp_isNaN_int v.1, b_n41⟩
theorem S_s_cmp_isNaN_int_ok : SigOk X0.E 153 S_s_cmp_isNaN_int.sig := FSig.ok0 F_n41_ok (R := R_n41) (g := g_n41) (cuts := []) (pre := [tc0 F_n41]) rfl Tryd.func153 (by decide) rfl (fun _ => Nat.le_of_ble_eq_true (by kernel_rfl)) (fun _ => rfl) (by kernel_rfl) (fun _ _ h => Eq.trans (by kernel_rfl) h) ⟨rfl, trivial⟩ (fun r => trivial) fun _ => rfl

/-! ### cmp.Compare[int] -/
noncomputable def c_n42 : Code := bodyOf Tryd.f108
noncomputable def F_n42 : FC U := ⟨X0.at 20, Tryd.f108, c_n42, [(153, S_s_cmp_isNaN_int.sig)], [], [.p], [none]⟩
theorem F_n42_ok : FOk F_n42 := fok uok tok0 eok0 mixed rfl ⟨S_s_cmp_isNaN_int_ok, trivial⟩
noncomputable def R_n42 : RSh := ⟨[.p (.int .i64)], []⟩
noncomputable def g_n42 (v : RVal U R_n42) : Int := v.1.1
noncomputable def b_n42 (q : Int) : TRet U := R_n42.bld ((q, ()), ())
noncomputable def S_s_cmp_Compare_int : FSig U := ⟨Int, [3, 3], [.p, .p], [none, none], [.p (.int .i64), .p (.int .i64)], fun v => s_cmp_Compare_int v.1 v.2.1, b_n42⟩
theorem S_s_cmp_Compare_int_ok : SigOk X0.E 108 S_s_cmp_Compare_int.sig := FSig.ok0 F_n42_ok (R := R_n42) (g := g_n42) (cuts := []) (pre := [tc0 F_n42]) rfl Tryd.func108 (by decide) rfl (fun _ => Nat.le_of_ble_eq_true (by kernel_rfl)) (fun _ => rfl) (by kernel_rfl) (fun _ _ h => Eq.trans (by kernel_rfl) h) ⟨rfl, trivial⟩ (fun r => trivial) fun _ => rfl

/-! ### cmp.isNaN[uint32] -/
noncomputable def c_n43 : Code := bodyOf Tryd.f226
noncomputable def F_n43 : FC U := ⟨X0.at 6, Tryd.f226, c_n43, [], [], [.p], [none]⟩
theorem F_n43_ok : FOk F_n43 := fok uok tok0 eok0 mixed rfl trivial
noncomputable def R_n43 : RSh := ⟨[.p .bool], []⟩
noncomputable def g_n43 (v : RVal U R_n43) : Bool := v.1.1
noncomputable def b_n43 (q : Bool) : TRet U := R_n43.bld ((q, ()), ())
noncomputable def S_s_cmp_isNaN_uint32 : FSig U := ⟨Bool, [167], [.p], [none], [.p (.int .u32)], fun v => s_cmp_isNaN_uint32 v.1, b_n43⟩
theorem S_s_cmp_isNaN_uint32_ok : SigOk X0.E 226 S_s_cmp_isNaN_uint32.sig := FSig.ok0 F_n43_ok (R := R_n43) (g := g_n43) (cuts := []) (pre := [tc0 F_n43]) rfl Tryd.func226 (by decide) rfl (fun _ => Nat.le_of_ble_eq_true (by kernel_rfl)) (fun _ => rfl) (by kernel_rfl) (fun _ _ h => Eq.trans (by kernel_rfl) h) ⟨rfl, trivial⟩ (fun r => trivial) fun _ => rfl

/-! ### cmp.Compare[uint32] -/
noncomputable def c_n44 : Code := bodyOf Tryd.f208
noncomputable def F_n44 : FC U := ⟨X0.at 20, Tryd.f208, c_n44, [(226, S_s_cmp_isNaN_uint32.sig)], [], [.p], [none]⟩
theorem F_n44_ok : FOk F_n44 := fok uok tok0 eok0 mixed rfl ⟨S_s_cmp_isNaN_uint32_ok, trivial⟩
noncomputable def R_n44 : RSh := ⟨[.p (.int .i64)], []⟩
noncomputable def g_n44 (v : RVal U R_n44) : Int := v.1.1
noncomputable def b_n44 (q : Int) : TRet U := R_n44.bld ((q, ()), ())
noncomputable def S_s_cmp_Compare_uint32 : FSig U := ⟨Int, [167, 167], [.p, .p], [none, none], [.p (.int .u32), .p (.int .u32)], fun v => s_cmp_Compare_uint32 v.1 v.2.1, b_n44⟩
theorem S_s_cmp_Compare_uint32_ok : SigOk X0.E 208 S_s_cmp_Compare_uint32.sig := FSig.ok0 F_n44_ok (R := R_n44) (g := g_n44) (cuts := []) (pre := [tc0 F_n44]) rfl Tryd.func208 (by decide) rfl (fun _ => Nat.le_of_ble_eq_true (by kernel_rfl)) (fun _ => rfl) (by kernel_rfl) (fun _ _ h => Eq.trans (by kernel_rfl) h) ⟨rfl, trivial⟩ (fun r => trivial) fun _ => rfl

/-! ### (tablefinder/fraction.words).compare -/
noncomputable def c_n45 : Code := bodyOf Tryd.f186
noncomputable def F_n45 : FC U := ⟨X0.at 35, Tryd.f186, c_n45, [(108, S_s_cmp_Compare_int.sig), (208, S_s_cmp_Compare_uint32.sig)], [], [.p], [none]⟩
theorem F_n45_ok : FOk F_n45 := fok uok tok0 eok0 mixed rfl ⟨S_s_cmp_Compare_int_ok, S_s_cmp_Compare_uint32_ok, trivial⟩
noncomputable def R_n45 : RSh := ⟨[.p (.int .i64)], []⟩
noncomputable def g_n45 (v : RVal U R_n45) : Int := v.1.1
noncomputable def b_n45 (q : Int) : TRet U := R_n45.bld ((q, ()), ())
noncomputable def L_n45_k1 : Lp U Int := ⟨[], [], [], [], fun v w => s_fraction_words_compare_k1⟩
theorem L_n45_k1_ok (r : Int) : LpOk F_n45 (b_n45 r).enc r (L_n45_k1) ([tc F_n45 [1, 1, 1]].map TI'.conc ++ []) := fun v w hi h => Pt.ev0 F_n45_ok (S := R_n45) (g := g_n45) (b := b_n45) (cuts := []) (pre := [tc F_n45 [1, 1, 1]]) (T := Lp.st F_n45 (L_n45_k1) v w) (by kernel_rfl) hi (Eq.trans (by kernel_rfl) h) ⟨by kernel_rfl, trivial⟩ trivial fun _ => rfl
noncomputable def base_n45_l1 : List Eng.Item := .lp (codeAt F_n45 [5, 4, 1, 0, 1, 1]) :: ([.blk 0, tc F_n45 [1, 1, 1]].map TI'.conc ++ [])
noncomputable def Lh_n45_l1 (rec_ : (List Int) → (List Int) → Int → Option (Out Unit Int)) : Lp U (Out Unit Int) := ⟨[0, 1, 6], [], [.o (.v (.sl (.int .u32))), .o (.v (.sl (.int .u32))), .o (.v (.int .i64))], [], fun v w => rec_ v.1 v.2.1 v.2.2.1⟩
noncomputable def Lx_n45_l1 : Lp U (Out Unit Int) := ⟨[], [], [], [], fun v w => some (.brk ())⟩
theorem s_fraction_words_compare_l1_ok {RT : Ret} {r : (Out Unit Int)} (hx : AllExits F_n45 RT r base_n45_l1 [(0, Lx_n45_l1)]) (hr : ∀ t : TRet U, (retOf R_n45 fun v => Out.ret (β := Unit) (g_n45 v)) t = some r → t.enc = RT) : ∀ n, LpOk F_n45 RT r (Lh_n45_l1 (s_fraction_words_compare_l1 n)) (stAt F_n45 [4, 1, 0, 1, 1]) :=
  loop_ok F_n45_ok 4000 (q := [4, 1, 0, 1, 1]) (body := codeAt F_n45 [5, 4, 1, 0, 1, 1]) (live := [0, 1, 6]) (frz := []) (shs := [.o (.v (.sl (.int .u32))), .o (.v (.sl (.int .u32))), .o (.v (.int .i64))]) (sho := []) (fun n v w => s_fraction_words_compare_l1 n v.1 v.2.1 v.2.2.1) (cuts := fun n => []) (exits := [(0, Lx_n45_l1)]) (ret := (retOf R_n45 fun v => Out.ret (β := Unit) (g_n45 v))) (by kernel_rfl) (fun _ _ => rfl) (fun n v w => by kernel_rfl) (fun n hb => trivial) hx hr
noncomputable def Lc_n45_l1 : Lp U Int := ⟨[0, 1, 6], [], [.o (.v (.sl (.int .u32))), .o (.v (.sl (.int .u32))), .o (.v (.int .i64))], [], fun v w => (s_fraction_words_compare_l1 big v.1 v.2.1 v.2.2.1).bind fun | .ret q_ => some q_ | .brk () => s_fraction_words_compare_k1⟩
theorem Lc_n45_l1_ok (r : Int) : LpOk F_n45 (b_n45 r).enc r (Lc_n45_l1) (stAt F_n45 [4, 1, 0, 1, 1]) := fun v w hi h0 => by
  obtain ⟨x, hx0, h⟩ := bind_some h0
  exact s_fraction_words_compare_l1_ok (r := x) (RT := (b_n45 r).enc) ⟨⟨[tc F_n45 [1, 1, 1]].map TI'.conc ++ [], by kernel_rfl, fun v' w' hi' h' => by obtain rfl := Option.some.inj h'; exact L_n45_k1_ok r v' w' hi' h⟩, trivial⟩ (fun t ht => by obtain ⟨q, rfl, hq⟩ := retOut ht; obtain rfl := Option.some.inj h; exact retOf_enc uok (give := b_n45) (fun _ => rfl) hq) big v w hi hx0
noncomputable def S_s_fraction_words_compare : FSig U := ⟨Int, [203, 203], [.p, .p], [none, none], [.p (.sl (.int .u32)), .p (.sl (.int .u32))], fun v => s_fraction_words_compare v.1 v.2.1, b_n45⟩
theorem S_s_fraction_words_compare_ok : SigOk X0.E 186 S_s_fraction_words_compare.sig := FSig.ok0 F_n45_ok (R := R_n45) (g := g_n45) (cuts := [([4, 1, 0, 1, 1], Lc_n45_l1)]) (pre := [tc0 F_n45]) rfl Tryd.func186 (by decide) rfl (fun _ => Nat.le_of_ble_eq_true (by kernel_rfl)) (fun _ => rfl) (by kernel_rfl) (fun _ _ h => Eq.trans (by kernel_rfl) h) ⟨rfl, trivial⟩ (fun r => ⟨(Lc_n45_l1_ok r), trivial⟩) fun _ => rfl

/-! ### slices.Clone[tablefinder/fraction.words,uint32] -/
noncomputable def c_n46 : Code := bodyOf Tryd.f221
noncomputable def F_n46 : FC U := ⟨X0.at 8, Tryd.f221, c_n46, [], [], [.own], [none]⟩
theorem F_n46_ok : FOk F_n46 := fok uok tok0 eok0 mixed rfl trivial
noncomputable def R_n46 : RSh := ⟨[.own (.int .u32)], []⟩
noncomputable def g_n46 (v : RVal U R_n46) : (List Int) := v.1.1
noncomputable def b_n46 (q : (List Int)) : TRet U := R_n46.bld ((q, ()), ())
noncomputable def L_n46_j1 : Lp U (List Int) := ⟨[0, 4], [], [.o (.v (.sl (.int .u32))), .o (.v .bool)], [], fun v w => s_slices_Clone_fraction_words_uint32_j1 v.1 v.2.1⟩
theorem L_n46_j1_ok (r : (List Int)) : LpOk F_n46 (b_n46 r).enc r (L_n46_j1) (stAt F_n46 [1, 0, 1]) := fun v w hi h => Pt.ev0 F_n46_ok (S := R_n46) (g := g_n46) (b := b_n46) (cuts := []) (pre := [tc F_n46 [1, 0, 1], tc F_n46 [1, 1]]) (T := Lp.st F_n46 (L_n46_j1) v w) (by kernel_rfl) hi (Eq.trans (by kernel_rfl) h) ⟨by kernel_rfl, by kernel_rfl, trivial⟩ trivial fun _ => rfl
noncomputable def S_s_slices_Clone_fraction_words_uint32 : FSig U := ⟨(List Int), [203], [.p], [none], [.p (.sl (.int .u32))], fun v => s_slices_Clone_fraction_words_uint32 v.1, b_n46⟩
theorem S_s_slices_Clone_fraction_words_uint32_ok : SigOk X0.E 221 S_s_slices_Clone_fraction_words_uint32.sig := FSig.ok0 F_n46_ok (R := R_n46) (g := g_n46) (cuts := [([1, 0, 1], L_n46_j1)]) (pre := [tc0 F_n46]) rfl Tryd.func221 (by decide) rfl (fun _ => Nat.le_of_ble_eq_true (by kernel_rfl)) (fun _ => rfl) (by kernel_rfl) (fun _ _ h => Eq.trans (by kernel_rfl) h) ⟨rfl, trivial⟩ (fun r => ⟨(L_n46_j1_ok r), trivial⟩) fun _ => rfl

/-! ### math/bits.Div32 -/
noncomputable def c_n47 : Code := bodyOf Tryd.f230
noncomputable def F_n47 : FC U := ⟨X0.at 33, Tryd.f230, c_n47, [], [], [.p, .p], [none, none]⟩
theorem F_n47_ok : FOk F_n47 := fok uok tok0 eok0 mixed rfl trivial
noncomputable def R_n47 : RSh := ⟨[.p (.int .u32), .p (.int .u32)], []⟩
noncomputable def g_n47 (v : RVal U R_n47) : (Int × Int) := (v.1.1, v.1.2.1)
noncomputable def b_n47 (q : (Int × Int)) : TRet U := R_n47.bld ((q.1, (q.2, ())), ())
noncomputable def L_n47_j1 : Lp U (Int × Int) := ⟨[0, 1, 2, 15], [], [.o (.v (.int .u32)), .o (.v (.int .u32)), .o (.v (.int .u32)), .o (.v .bool)], [], fun v w => s_math_bits_Div32_j1 v.1 v.2.1 v.2.2.1 v.2.2.2.1⟩
theorem L_n47_j1_ok (r : (Int × Int)) : LpOk F_n47 (b_n47 r).enc r (L_n47_j1) (stAt F_n47 [1, 0, 1]) := fun v w hi h => Pt.ev0 F_n47_ok (S := R_n47) (g := g_n47) (b := b_n47) (cuts := []) (pre := [tc F_n47 [1, 0, 1], tc F_n47 [1, 1]]) (T := Lp.st F_n47 (L_n47_j1) v w) (by kernel_rfl) hi (Eq.trans (by kernel_rfl) h) ⟨by kernel_rfl, by kernel_rfl, trivial⟩ trivial fun _ => rfl
noncomputable def S_s_math_bits_Div32 : FSig U := ⟨(Int × Int), [167, 167, 167], [.p, .p, .p], [none, none, none], [.p (.int .u32), .p (.int .u32), .p (.int .u32)], fun v => s_math_bits_Div32 v.1 v.2.1 v.2.2.1, b_n47⟩
theorem S_s_math_bits_Div32_ok : SigOk X0.E 230 S_s_math_bits_Div32.sig := FSig.ok0 F_n47_ok (R := R_n47) (g := g_n47) (cuts := [([1, 0, 1], L_n47_j1)]) (pre := [tc0 F_n47]) rfl Tryd.func230 (by decide) rfl (fun _ => Nat.le_of_ble_eq_true (by kernel_rfl)) (fun _ => rfl) (by kernel_rfl) (fun _ _ h => Eq.trans (by kernel_rfl) h) ⟨rfl, trivial⟩ (fun r => ⟨(L_n47_j1_ok r), trivial⟩) fun _ => rfl

/-! ### (tablefinder/fraction.words).short -/
noncomputable def c_n48 : Code := bodyOf Tryd.f222
noncomputable def F_n48 : FC U := ⟨X0.at 35, Tryd.f222, c_n48, [(230, S_s_math_bits_Div32.sig), (211, S_s_fraction_trimmed.sig)], [], [.p, .p], [none, none]⟩
theorem F_n48_ok : FOk F_n48 := fok uok tok0 eok0 mixed rfl ⟨S_s_math_bits_Div32_ok, S_s_fraction_trimmed_ok, trivial⟩
noncomputable def R_n48 : RSh := ⟨[.p (.sl (.int .u32)), .p (.int .u32)], []⟩
noncomputable def g_n48 (v : RVal U R_n48) : ((List Int) × Int) := (v.1.1, v.1.2.1)
noncomputable def b_n48 (q : ((List Int) × Int)) : TRet U := R_n48.bld ((q.1, (q.2, ())), ())
noncomputable def L_n48_k1 : Lp U ((List Int) × Int) := ⟨[6, 7], [], [.o (.full (0, 1, 1)), .o (.v (.int .u32))], [.arr (.int .u32) false], fun v w => s_fraction_words_short_k1 v.2.1 w.1⟩
theorem L_n48_k1_ok (r : ((List Int) × Int)) : LpOk F_n48 (b_n48 r).enc r (L_n48_k1) ([tc F_n48 [1, 1, 1, 1]].map TI'.conc ++ []) := fun v w hi h => Pt.ev0 F_n48_ok (S := R_n48) (g := g_n48) (b := b_n48) (cuts := []) (pre := [tc F_n48 [1, 1, 1, 1]]) (T := Lp.st F_n48 (L_n48_k1) v w) (by kernel_rfl) hi (Eq.trans (by kernel_rfl) h) ⟨by kernel_rfl, trivial⟩ trivial fun _ => rfl
noncomputable def base_n48_l1 : List Eng.Item := .lp (codeAt F_n48 [5, 4, 1, 0, 1, 1, 1]) :: ([.blk 0, tc F_n48 [1, 1, 1, 1]].map TI'.conc ++ [])
noncomputable def Lh_n48_l1 (rec_ : (List Int) → Int → Int → Int → (List Int) → Option (Int × (List Int))) : Lp U (Int × (List Int)) := ⟨[0, 1, 6, 7, 8], [], [.o (.v (.sl (.int .u32))), .o (.v (.int .u32)), .o (.full (0, 1, 1)), .o (.v (.int .u32)), .o (.v (.int .i64))], [.arr (.int .u32) false], fun v w => rec_ v.1 v.2.1 v.2.2.2.1 v.2.2.2.2.1 w.1⟩
noncomputable def Lx_n48_l1 : Lp U (Int × (List Int)) := ⟨[6, 7], [], [.o (.full (0, 1, 1)), .o (.v (.int .u32))], [.arr (.int .u32) false], fun v w => some (v.2.1, w.1)⟩
theorem s_fraction_words_short_l1_ok {RT : Ret} {r : (Int × (List Int))} (hx : AllExits F_n48 RT r base_n48_l1 [(0, Lx_n48_l1)]) (hr : ∀ t : TRet U, (fun _ => none) t = some r → t.enc = RT) : ∀ n, LpOk F_n48 RT r (Lh_n48_l1 (s_fraction_words_short_l1 n)) (stAt F_n48 [4, 1, 0, 1, 1, 1]) :=
  loop_ok F_n48_ok 4000 (q := [4, 1, 0, 1, 1, 1]) (body := codeAt F_n48 [5, 4, 1, 0, 1, 1, 1]) (live := [0, 1, 6, 7, 8]) (frz := []) (shs := [.o (.v (.sl (.int .u32))), .o (.v (.int .u32)), .o (.full (0, 1, 1)), .o (.v (.int .u32)), .o (.v (.int .i64))]) (sho := [.arr (.int .u32) false]) (fun n v w => s_fraction_words_short_l1 n v.1 v.2.1 v.2.2.2.1 v.2.2.2.2.1 w.1) (cuts := fun n => []) (exits := [(0, Lx_n48_l1)]) (ret := (fun _ => none)) (by kernel_rfl) (fun _ _ => rfl) (fun n v w => by kernel_rfl) (fun n hb => trivial) hx hr
noncomputable def Lc_n48_l1 : Lp U ((List Int) × Int) := ⟨[0, 1, 6, 7, 8], [], [.o (.v (.sl (.int .u32))), .o (.v (.int .u32)), .o (.full (0, 1, 1)), .o (.v (.int .u32)), .o (.v (.int .i64))], [.arr (.int .u32) false], fun v w => (s_fraction_words_short_l1 big v.1 v.2.1 v.2.2.2.1 v.2.2.2.2.1 w.1).bind fun (x0, x1) => s_fraction_words_short_k1 x0 x1⟩
theorem Lc_n48_l1_ok (r : ((List Int) × Int)) : LpOk F_n48 (b_n48 r).enc r (Lc_n48_l1) (stAt F_n48 [4, 1, 0, 1, 1, 1]) := fun v w hi h0 => by
  obtain ⟨x, hx0, h⟩ := bind_some h0
  exact s_fraction_words_short_l1_ok (r := x) (RT := (b_n48 r).enc) ⟨⟨[tc F_n48 [1, 1, 1, 1]].map TI'.conc ++ [], by kernel_rfl, fun v' w' hi' h' => by obtain rfl := Option.some.inj h'; exact L_n48_k1_ok r v' w' hi' h⟩, trivial⟩ (fun _ ht => nomatch ht) big v w hi hx0
noncomputable def S_s_fraction_words_short : FSig U := ⟨((List Int) × Int), [203, 167], [.p, .p], [none, none], [.p (.sl (.int .u32)), .p (.int .u32)], fun v => s_fraction_words_short v.1 v.2.1, b_n48⟩
theorem S_s_fraction_words_short_ok : SigOk X0.E 222 S_s_fraction_words_short.sig := FSig.ok0 F_n48_ok (R := R_n48) (g := g_n48) (cuts := [([4, 1, 0, 1, 1, 1], Lc_n48_l1)]) (pre := [tc0 F_n48]) rfl Tryd.func222 (by decide) rfl (fun _ => Nat.le_of_ble_eq_true (by kernel_rfl)) (fun _ => rfl) (by kernel_rfl) (fun _ _ h => Eq.trans (by kernel_rfl) h) ⟨rfl, trivial⟩ (fun r => ⟨(Lc_n48_l1_ok r), trivial⟩) fun _ => rfl

/-! ### math/bits.Len32 -/
noncomputable def c_n49 : Code := bodyOf Tryd.f231
noncomputable def F_n49 : FC U := ⟨X0.at 19, Tryd.f231, c_n49, [], [], [.p], [none]⟩
theorem F_n49_ok : FOk F_n49 := fok uok tok0 eok0 mixed rfl trivial
noncomputable def R_n49 : RSh := ⟨[.p (.int .i64)], []⟩
noncomputable def g_n49 (v : RVal U R_n49) : Int := v.1.1
noncomputable def b_n49 (q : Int) : TRet U := R_n49.bld ((q, ()), ())
noncomputable def L_n49_j2 : Lp U Int := ⟨[0, 2], [], [.o (.v (.int .u32)), .o (.v (.int .i64))], [], fun v w => s_math_bits_Len32_j2 v.1 v.2.1⟩
theorem L_n49_j2_ok (r : Int) : LpOk F_n49 (b_n49 r).enc r (L_n49_j2) (stAt F_n49 [1, 1, 1]) := fun v w hi h => Pt.ev0 F_n49_ok (S := R_n49) (g := g_n49) (b := b_n49) (cuts := []) (pre := [tc F_n49 [1, 1, 1]]) (T := Lp.st F_n49 (L_n49_j2) v w) (by kernel_rfl) hi (Eq.trans (by kernel_rfl) h) ⟨by kernel_rfl, trivial⟩ trivial fun _ => rfl
noncomputable def L_n49_j1 : Lp U Int := ⟨[0, 2], [], [.o (.v (.int .u32)), .o (.v (.int .i64))], [], fun v w => s_math_bits_Len32_j1 v.1 v.2.1⟩
theorem L_n49_j1_ok (r : Int) : LpOk F_n49 (b_n49 r).enc r (L_n49_j1) (stAt F_n49 [1, 1]) := fun v w hi h => Pt.ev0 F_n49_ok (S := R_n49) (g := g_n49) (b := b_n49) (cuts := [([1, 1, 1], L_n49_j2)]) (pre := [tc F_n49 [1, 1]]) (T := Lp.st F_n49 (L_n49_j1) v w) (by kernel_rfl) hi (Eq.trans (by kernel_rfl) h) ⟨by kernel_rfl, trivial⟩ ⟨(L_n49_j2_ok r), trivial⟩ fun _ => rfl
noncomputable def S_s_math_bits_Len32 : FSig U := ⟨Int, [167], [.p], [none], [.p (.int .u32)], fun v => s_math_bits_Len32 v.1, b_n49⟩
theorem S_s_math_bits_Len32_ok : SigOk X0.E 231 S_s_math_bits_Len32.sig := FSig.ok0 F_n49_ok (R := R_n49) (g := g_n49) (cuts := [([1, 1], L_n49_j1)]) (pre := [tc0 F_n49]) rfl Tryd.func231 (by decide) rfl (fun _ => Nat.le_of_ble_eq_true (by kernel_rfl)) (fun _ => rfl) (by kernel_rfl) (fun _ _ h => Eq.trans (by kernel_rfl) h) ⟨rfl, trivial⟩ (fun r => ⟨(L_n49_j1_ok r), trivial⟩) fun _ => rfl

/-! ### math/bits.LeadingZeros32 -/
noncomputable def c_n50 : Code := bodyOf Tryd.f223
noncomputable def F_n50 : FC U := ⟨X0.at 6, Tryd.f223, c_n50, [(231, S_s_math_bits_Len32.sig)], [], [.p], [none]⟩
theorem F_n50_ok : FOk F_n50 := fok uok tok0 eok0 mixed rfl ⟨S_s_math_bits_Len32_ok, trivial⟩
noncomputable def R_n50 : RSh := ⟨[.p (.int .i64)], []⟩
noncomputable def g_n50 (v : RVal U R_n50) : Int := v.1.1
noncomputable def b_n50 (q : Int) : TRet U := R_n50.bld ((q, ()), ())
noncomputable def S_s_math_bits_LeadingZeros32 : FSig U := ⟨Int, [167], [.p], [none], [.p (.int .u32)], fun v => s_math_bits_LeadingZeros32 v.1, b_n50⟩
theorem S_s_math_bits_LeadingZeros32_ok : SigOk X0.E 223 S_s_math_bits_LeadingZeros32.sig := FSig.ok0 F_n50_ok (R := R_n50) (g := g_n50) (cuts := []) (pre := [tc0 F_n50]) rfl Tryd.func223 (by decide) rfl (fun _ => Nat.le_of_ble_eq_true (by kernel_rfl)) (fun _ => rfl) (by kernel_rfl) (fun _ _ h => Eq.trans (by kernel_rfl) h) ⟨rfl, trivial⟩ (fun r => trivial) fun _ => rfl

/-! ### (tablefinder/fraction.words).shifted -/
noncomputable def c_n51 : Code := bodyOf Tryd.f224
noncomputable def F_n51 : FC U := ⟨X0.at 41, Tryd.f224, c_n51, [], [], [.own], [none]⟩
theorem F_n51_ok : FOk F_n51 := fok uok tok0 eok0 mixed rfl trivial
noncomputable def R_n51 : RSh := ⟨[.own (.int .u32)], []⟩
noncomputable def g_n51 (v : RVal U R_n51) : (List Int) := v.1.1
noncomputable def b_n51 (q : (List Int)) : TRet U := R_n51.bld ((q, ()), ())
noncomputable def L_n51_k1 : Lp U (List Int) := ⟨[5], [], [.o (.full (0, 1, 1))], [.arr (.int .u32) false], fun v w => s_fraction_words_shifted_k1 w.1⟩
theorem L_n51_k1_ok (r : (List Int)) : LpOk F_n51 (b_n51 r).enc r (L_n51_k1) ([tc F_n51 [1, 1, 1]].map TI'.conc ++ []) := fun v w hi h => Pt.ev0 F_n51_ok (S := R_n51) (g := g_n51) (b := b_n51) (cuts := []) (pre := [tc F_n51 [1, 1, 1]]) (T := Lp.st F_n51 (L_n51_k1) v w) (by kernel_rfl) hi (Eq.trans (by kernel_rfl) h) ⟨by kernel_rfl, trivial⟩ trivial fun _ => rfl
noncomputable def base_n51_l1 : List Eng.Item := .lp (codeAt F_n51 [5, 4, 1, 0, 1, 1]) :: ([.blk 0, tc F_n51 [1, 1, 1]].map TI'.conc ++ [])
noncomputable def Lh_n51_l1 (rec_ : Int → (List Int) → Int → Int → (List Int) → Option (List Int)) : Lp U (List Int) := ⟨[1, 5, 13, 14, 15], [], [.o (.v (.int .i64)), .o (.full (0, 1, 1)), .o (.v (.sl (.int .u32))), .o (.v (.int .i64)), .o (.v (.int .i64))], [.arr (.int .u32) false], fun v w => rec_ v.1 v.2.2.1 v.2.2.2.1 v.2.2.2.2.1 w.1⟩
noncomputable def Lx_n51_l1 : Lp U (List Int) := ⟨[5], [], [.o (.full (0, 1, 1))], [.arr (.int .u32) false], fun v w => some w.1⟩
theorem s_fraction_words_shifted_l1_ok {RT : Ret} {r : (List Int)} (hx : AllExits F_n51 RT r base_n51_l1 [(0, Lx_n51_l1)]) (hr : ∀ t : TRet U, (fun _ => none) t = some r → t.enc = RT) : ∀ n, LpOk F_n51 RT r (Lh_n51_l1 (s_fraction_words_shifted_l1 n)) (stAt F_n51 [4, 1, 0, 1, 1]) :=
  loop_ok F_n51_ok 4000 (q := [4, 1, 0, 1, 1]) (body := codeAt F_n51 [5, 4, 1, 0, 1, 1]) (live := [1, 5, 13, 14, 15]) (frz := []) (shs := [.o (.v (.int .i64)), .o (.full (0, 1, 1)), .o (.v (.sl (.int .u32))), .o (.v (.int .i64)), .o (.v (.int .i64))]) (sho := [.arr (.int .u32) false]) (fun n v w => s_fraction_words_shifted_l1 n v.1 v.2.2.1 v.2.2.2.1 v.2.2.2.2.1 w.1) (cuts := fun n => []) (exits := [(0, Lx_n51_l1)]) (ret := (fun _ => none)) (by kernel_rfl) (fun _ _ => rfl) (fun n v w => by kernel_rfl) (fun n hb => trivial) hx hr
noncomputable def Lc_n51_l1 : Lp U (List Int) := ⟨[1, 5, 13, 14, 15], [], [.o (.v (.int .i64)), .o (.full (0, 1, 1)), .o (.v (.sl (.int .u32))), .o (.v (.int .i64)), .o (.v (.int .i64))], [.arr (.int .u32) false], fun v w => (s_fraction_words_shifted_l1 big v.1 v.2.2.1 v.2.2.2.1 v.2.2.2.2.1 w.1).bind fun x0 => s_fraction_words_shifted_k1 x0⟩
theorem Lc_n51_l1_ok (r : (List Int)) : LpOk F_n51 (b_n51 r).enc r (Lc_n51_l1) (stAt F_n51 [4, 1, 0, 1, 1]) := fun v w hi h0 => by
  obtain ⟨x, hx0, h⟩ := bind_some h0
  exact s_fraction_words_shifted_l1_ok (r := x) (RT := (b_n51 r).enc) ⟨⟨[tc F_n51 [1, 1, 1]].map TI'.conc ++ [], by kernel_rfl, fun v' w' hi' h' => by obtain rfl := Option.some.inj h'; exact L_n51_k1_ok r v' w' hi' h⟩, trivial⟩ (fun _ ht => nomatch ht) big v w hi hx0
noncomputable def S_s_fraction_words_shifted : FSig U := ⟨(List Int), [203, 3], [.p, .p], [none, none], [.p (.sl (.int .u32)), .p (.int .i64)], fun v => s_fraction_words_shifted v.1 v.2.1, b_n51⟩
theorem S_s_fraction_words_shifted_ok : SigOk X0.E 224 S_s_fraction_words_shifted.sig := FSig.ok0 F_n51_ok (R := R_n51) (g := g_n51) (cuts := [([4, 1, 0, 1, 1], Lc_n51_l1)]) (pre := [tc0 F_n51]) rfl Tryd.func224 (by decide) rfl (fun _ => Nat.le_of_ble_eq_true (by kernel_rfl)) (fun _ => rfl) (by kernel_rfl) (fun _ _ h => Eq.trans (by kernel_rfl) h) ⟨rfl, trivial⟩ (fun r => ⟨(Lc_n51_l1_ok r), trivial⟩) fun _ => rfl

/-! ### math/bits.Sub32 -/
noncomputable def c_n52 : Code := bodyOf Tryd.f212
noncomputable def F_n52 : FC U := ⟨X0.at 25, Tryd.f212, c_n52, [], [], [.p, .p], [none, none]⟩
theorem F_n52_ok : FOk F_n52 := fok uok tok0 eok0 mixed rfl trivial
noncomputable def R_n52 : RSh := ⟨[.p (.int .u32), .p (.int .u32)], []⟩
noncomputable def g_n52 (v : RVal U R_n52) : (Int × Int) := (v.1.1, v.1.2.1)
noncomputable def b_n52 (q : (Int × Int)) : TRet U := R_n52.bld ((q.1, (q.2, ())), ())
noncomputable def S_s_math_bits_Sub32 : FSig U := ⟨(Int × Int), [167, 167, 167], [.p, .p, .p], [none, none, none], [.p (.int .u32), .p (.int .u32), .p (.int .u32)], fun v => s_math_bits_Sub32 v.1 v.2.1 v.2.2.1, b_n52⟩
theorem S_s_math_bits_Sub32_ok : SigOk X0.E 212 S_s_math_bits_Sub32.sig := FSig.ok0 F_n52_ok (R := R_n52) (g := g_n52) (cuts := []) (pre := [tc0 F_n52]) rfl Tryd.func212 (by decide) rfl (fun _ => Nat.le_of_ble_eq_true (by kernel_rfl)) (fun _ => rfl) (by kernel_rfl) (fun _ _ h => Eq.trans (by kernel_rfl) h) ⟨rfl, trivial⟩ (fun r => trivial) fun _ => rfl

/-! ### math/bits.Add32 -/
noncomputable def c_n53 : Code := bodyOf Tryd.f209
noncomputable def F_n53 : FC U := ⟨X0.at 22, Tryd.f209, c_n53, [], [], [.p, .p], [none, none]⟩
theorem F_n53_ok : FOk F_n53 := fok uok tok0 eok0 mixed rfl trivial
noncomputable def R_n53 : RSh := ⟨[.p (.int .u32), .p (.int .u32)], []⟩
noncomputable def g_n53 (v : RVal U R_n53) : (Int × Int) := (v.1.1, v.1.2.1)
noncomputable def b_n53 (q : (Int × Int)) : TRet U := R_n53.bld ((q.1, (q.2, ())), ())
noncomputable def S_s_math_bits_Add32 : FSig U := ⟨(Int × Int), [167, 167, 167], [.p, .p, .p], [none, none, none], [.p (.int .u32), .p (.int .u32), .p (.int .u32)], fun v => s_math_bits_Add32 v.1 v.2.1 v.2.2.1, b_n53⟩
theorem S_s_math_bits_Add32_ok : SigOk X0.E 209 S_s_math_bits_Add32.sig := FSig.ok0 F_n53_ok (R := R_n53) (g := g_n53) (cuts := []) (pre := [tc0 F_n53]) rfl Tryd.func209 (by decide) rfl (fun _ => Nat.le_of_ble_eq_true (by kernel_rfl)) (fun _ => rfl) (by kernel_rfl) (fun _ _ h => Eq.trans (by kernel_rfl) h) ⟨rfl, trivial⟩ (fun r => trivial) fun _ => rfl

abbrev Tr_n54_2 : Type := Nat → Nat → (List Int) → Int → Int → Int → (List Int) → Option (Nat × Nat × (List Int) × Int × Int × (List Int))
/-! ### tablefinder/fraction.digit -/
noncomputable def c_n54 : Code := bodyOf Tryd.f225
noncomputable def F_n54 : FC U := ⟨X0.at 161, Tryd.f225, c_n54, [(212, S_s_math_bits_Sub32.sig), (209, S_s_math_bits_Add32.sig)], [0], [.p], [none]⟩
theorem F_n54_ok : FOk F_n54 := fok uok tok0 eok0 mixed rfl ⟨S_s_math_bits_Sub32_ok, S_s_math_bits_Add32_ok, trivial⟩
noncomputable def R_n54 : RSh := ⟨[.p (.int .u32)], [(0, .arr (.int .u32))]⟩
noncomputable def g_n54 (v : RVal U R_n54) : (Int × (List Int)) := (v.1.1, v.2.1)
noncomputable def b_n54 (q : (Int × (List Int))) : TRet U := R_n54.bld ((q.1, ()), (q.2, ()))
noncomputable def L_n54_k4 : Lp U (Int × (List Int)) := ⟨[0, 5, 7, 13], [], [.o (.sl (0, 0, 0)), .o (.v (.int .i64)), .o (.v (.int .u64)), .o (.v (.int .u32))], [.arr (.int .u32) false], fun v w => s_fraction_digit_k4 v.1.1 v.1.2 v.2.1 v.2.2.1 v.2.2.2.1 w.1⟩
theorem L_n54_k4_ok (r : (Int × (List Int))) : LpOk F_n54 (b_n54 r).enc r (L_n54_k4) ([tc F_n54 [1, 1, 1, 1, 1, 1, 1, 1, 1, 1, 1, 1]].map TI'.conc ++ []) := fun v w hi h => Pt.ev0 F_n54_ok (S := R_n54) (g := g_n54) (b := b_n54) (cuts := []) (pre := [tc F_n54 [1, 1, 1, 1, 1, 1, 1, 1, 1, 1, 1, 1]]) (T := Lp.st F_n54 (L_n54_k4) v w) (by kernel_rfl) hi (Eq.trans (by kernel_rfl) h) ⟨by kernel_rfl, trivial⟩ trivial fun _ => rfl
noncomputable def base_n54_l3 : List Eng.Item := .lp (codeAt F_n54 [5, 4, 1, 0, 1, 1, 1, 1, 1, 1, 1, 1, 1, 1, 1]) :: ([.blk 4, tc F_n54 [1, 1, 1, 1, 1, 1, 1, 1, 1, 1, 1, 1]].map TI'.conc ++ [])
noncomputable def Lh_n54_l3 (rec_ : Nat → Nat → Int → Int → Int → (List Int) → Int → Int → (List Int) → Option (Nat × Nat × Int × Int × Int × (List Int))) : Lp U (Nat × Nat × Int × Int × Int × (List Int)) := ⟨[0, 5, 7, 13, 130, 131, 132], [], [.o (.sl (0, 0, 0)), .o (.v (.int .i64)), .o (.v (.int .u64)), .o (.v (.int .u32)), .o (.v (.sl (.int .u32))), .o (.v (.int .i64)), .o (.v (.int .i64))], [.arr (.int .u32) false], fun v w => rec_ v.1.1 v.1.2 v.2.1 v.2.2.1 v.2.2.2.1 v.2.2.2.2.1 v.2.2.2.2.2.1 v.2.2.2.2.2.2.1 w.1⟩
noncomputable def Lx_n54_l3 : Lp U (Nat × Nat × Int × Int × Int × (List Int)) := ⟨[0, 5, 7, 13], [], [.o (.sl (0, 0, 0)), .o (.v (.int .i64)), .o (.v (.int .u64)), .o (.v (.int .u32))], [.arr (.int .u32) false], fun v w => some (v.1.1, v.1.2, v.2.1, v.2.2.1, v.2.2.2.1, w.1)⟩
theorem s_fraction_digit_l3_ok {RT : Ret} {r : (Nat × Nat × Int × Int × Int × (List Int))} (hx : AllExits F_n54 RT r base_n54_l3 [(4, Lx_n54_l3)]) (hr : ∀ t : TRet U, (fun _ => none) t = some r → t.enc = RT) : ∀ n, LpOk F_n54 RT r (Lh_n54_l3 (s_fraction_digit_l3 n)) (stAt F_n54 [4, 1, 0, 1, 1, 1, 1, 1, 1, 1, 1, 1, 1, 1]) :=
  loop_ok F_n54_ok 4000 (q := [4, 1, 0, 1, 1, 1, 1, 1, 1, 1, 1, 1, 1, 1]) (body := codeAt F_n54 [5, 4, 1, 0, 1, 1, 1, 1, 1, 1, 1, 1, 1, 1, 1]) (live := [0, 5, 7, 13, 130, 131, 132]) (frz := []) (shs := [.o (.sl (0, 0, 0)), .o (.v (.int .i64)), .o (.v (.int .u64)), .o (.v (.int .u32)), .o (.v (.sl (.int .u32))), .o (.v (.int .i64)), .o (.v (.int .i64))]) (sho := [.arr (.int .u32) false]) (fun n v w => s_fraction_digit_l3 n v.1.1 v.1.2 v.2.1 v.2.2.1 v.2.2.2.1 v.2.2.2.2.1 v.2.2.2.2.2.1 v.2.2.2.2.2.2.1 w.1) (cuts := fun n => []) (exits := [(4, Lx_n54_l3)]) (ret := (fun _ => none)) (by kernel_rfl) (fun _ _ => rfl) (fun n v w => by kernel_rfl) (fun n hb => trivial) hx hr
noncomputable def Lc_n54_l3 : Lp U (Int × (List Int)) := ⟨[0, 5, 7, 13, 130, 131, 132], [], [.o (.sl (0, 0, 0)), .o (.v (.int .i64)), .o (.v (.int .u64)), .o (.v (.int .u32)), .o (.v (.sl (.int .u32))), .o (.v (.int .i64)), .o (.v (.int .i64))], [.arr (.int .u32) false], fun v w => (s_fraction_digit_l3 big v.1.1 v.1.2 v.2.1 v.2.2.1 v.2.2.2.1 v.2.2.2.2.1 v.2.2.2.2.2.1 v.2.2.2.2.2.2.1 w.1).bind fun (x0, x1, x2, x3, x4, x5) => s_fraction_digit_k4 x0 x1 x2 x3 x4 x5⟩
theorem Lc_n54_l3_ok (r : (Int × (List Int))) : LpOk F_n54 (b_n54 r).enc r (Lc_n54_l3) (stAt F_n54 [4, 1, 0, 1, 1, 1, 1, 1, 1, 1, 1, 1, 1, 1]) := fun v w hi h0 => by
  obtain ⟨x, hx0, h⟩ := bind_some h0
  exact s_fraction_digit_l3_ok (r := x) (RT := (b_n54 r).enc) ⟨⟨[tc F_n54 [1, 1, 1, 1, 1, 1, 1, 1, 1, 1, 1, 1]].map TI'.conc ++ [], by kernel_rfl, fun v' w' hi' h' => by obtain rfl := Option.some.inj h'; exact L_n54_k4_ok r v' w' hi' h⟩, trivial⟩ (fun _ ht => nomatch ht) big v w hi hx0
noncomputable def L_n54_k3 : Lp U (Int × (List Int)) := ⟨[0, 1, 5, 7, 9, 10], [], [.o (.sl (0, 0, 0)), .o (.v (.sl (.int .u32))), .o (.v (.int .i64)), .o (.v (.int .u64)), .o (.v (.int .u32)), .o (.v (.int .u64))], [.arr (.int .u32) false], fun v w => s_fraction_digit_k3 v.1.1 v.1.2 v.2.1 v.2.2.1 v.2.2.2.1 v.2.2.2.2.1 v.2.2.2.2.2.1 w.1⟩
theorem L_n54_k3_ok (r : (Int × (List Int))) : LpOk F_n54 (b_n54 r).enc r (L_n54_k3) ([tc F_n54 [1, 1, 1, 1, 1, 1, 1, 1, 1]].map TI'.conc ++ []) := fun v w hi h => Pt.ev0 F_n54_ok (S := R_n54) (g := g_n54) (b := b_n54) (cuts := [([4, 1, 0, 1, 1, 1, 1, 1, 1, 1, 1, 1, 1, 1], Lc_n54_l3)]) (pre := [tc F_n54 [1, 1, 1, 1, 1, 1, 1, 1, 1]]) (T := Lp.st F_n54 (L_n54_k3) v w) (by kernel_rfl) hi (Eq.trans (by kernel_rfl) h) ⟨by kernel_rfl, trivial⟩ ⟨(Lc_n54_l3_ok r), trivial⟩ fun _ => rfl
noncomputable def base_n54_l2 : List Eng.Item := .lp (codeAt F_n54 [5, 4, 1, 0, 1, 1, 1, 1, 1, 1, 1, 1]) :: ([.blk 2, tc F_n54 [1, 1, 1, 1, 1, 1, 1, 1, 1]].map TI'.conc ++ [])
noncomputable def Lh_n54_l2 (rec_ : Nat → Nat → (List Int) → Int → Int → Int → Int → (List Int) → Int → Int → (List Int) → Option (Nat × Nat × (List Int) × Int × Int × Int × Int × (List Int))) : Lp U (Nat × Nat × (List Int) × Int × Int × Int × Int × (List Int)) := ⟨[0, 1, 5, 7, 9, 10, 82, 83, 84], [], [.o (.sl (0, 0, 0)), .o (.v (.sl (.int .u32))), .o (.v (.int .i64)), .o (.v (.int .u64)), .o (.v (.int .u32)), .o (.v (.int .u64)), .o (.v (.sl (.int .u32))), .o (.v (.int .i64)), .o (.v (.int .i64))], [.arr (.int .u32) false], fun v w => rec_ v.1.1 v.1.2 v.2.1 v.2.2.1 v.2.2.2.1 v.2.2.2.2.1 v.2.2.2.2.2.1 v.2.2.2.2.2.2.1 v.2.2.2.2.2.2.2.1 v.2.2.2.2.2.2.2.2.1 w.1⟩
noncomputable def Lx_n54_l2 : Lp U (Nat × Nat × (List Int) × Int × Int × Int × Int × (List Int)) := ⟨[0, 1, 5, 7, 9, 10], [], [.o (.sl (0, 0, 0)), .o (.v (.sl (.int .u32))), .o (.v (.int .i64)), .o (.v (.int .u64)), .o (.v (.int .u32)), .o (.v (.int .u64))], [.arr (.int .u32) false], fun v w => some (v.1.1, v.1.2, v.2.1, v.2.2.1, v.2.2.2.1, v.2.2.2.2.1, v.2.2.2.2.2.1, w.1)⟩
theorem s_fraction_digit_l2_ok {RT : Ret} {r : (Nat × Nat × (List Int) × Int × Int × Int × Int × (List Int))} (hx : AllExits F_n54 RT r base_n54_l2 [(2, Lx_n54_l2)]) (hr : ∀ t : TRet U, (fun _ => none) t = some r → t.enc = RT) : ∀ n, LpOk F_n54 RT r (Lh_n54_l2 (s_fraction_digit_l2 n)) (stAt F_n54 [4, 1, 0, 1, 1, 1, 1, 1, 1, 1, 1]) :=
  loop_ok F_n54_ok 4000 (q := [4, 1, 0, 1, 1, 1, 1, 1, 1, 1, 1]) (body := codeAt F_n54 [5, 4, 1, 0, 1, 1, 1, 1, 1, 1, 1, 1]) (live := [0, 1, 5, 7, 9, 10, 82, 83, 84]) (frz := []) (shs := [.o (.sl (0, 0, 0)), .o (.v (.sl (.int .u32))), .o (.v (.int .i64)), .o (.v (.int .u64)), .o (.v (.int .u32)), .o (.v (.int .u64)), .o (.v (.sl (.int .u32))), .o (.v (.int .i64)), .o (.v (.int .i64))]) (sho := [.arr (.int .u32) false]) (fun n v w => s_fraction_digit_l2 n v.1.1 v.1.2 v.2.1 v.2.2.1 v.2.2.2.1 v.2.2.2.2.1 v.2.2.2.2.2.1 v.2.2.2.2.2.2.1 v.2.2.2.2.2.2.2.1 v.2.2.2.2.2.2.2.2.1 w.1) (cuts := fun n => []) (exits := [(2, Lx_n54_l2)]) (ret := (fun _ => none)) (by kernel_rfl) (fun _ _ => rfl) (fun n v w => by kernel_rfl) (fun n hb => trivial) hx hr
noncomputable def Lc_n54_l2 : Lp U (Int × (List Int)) := ⟨[0, 1, 5, 7, 9, 10, 82, 83, 84], [], [.o (.sl (0, 0, 0)), .o (.v (.sl (.int .u32))), .o (.v (.int .i64)), .o (.v (.int .u64)), .o (.v (.int .u32)), .o (.v (.int .u64)), .o (.v (.sl (.int .u32))), .o (.v (.int .i64)), .o (.v (.int .i64))], [.arr (.int .u32) false], fun v w => (s_fraction_digit_l2 big v.1.1 v.1.2 v.2.1 v.2.2.1 v.2.2.2.1 v.2.2.2.2.1 v.2.2.2.2.2.1 v.2.2.2.2.2.2.1 v.2.2.2.2.2.2.2.1 v.2.2.2.2.2.2.2.2.1 w.1).bind fun (x0, x1, x2, x3, x4, x5, x6, x7) => s_fraction_digit_k3 x0 x1 x2 x3 x4 x5 x6 x7⟩
theorem Lc_n54_l2_ok (r : (Int × (List Int))) : LpOk F_n54 (b_n54 r).enc r (Lc_n54_l2) (stAt F_n54 [4, 1, 0, 1, 1, 1, 1, 1, 1, 1, 1]) := fun v w hi h0 => by
  obtain ⟨x, hx0, h⟩ := bind_some h0
  exact s_fraction_digit_l2_ok (r := x) (RT := (b_n54 r).enc) ⟨⟨[tc F_n54 [1, 1, 1, 1, 1, 1, 1, 1, 1]].map TI'.conc ++ [], by kernel_rfl, fun v' w' hi' h' => by obtain rfl := Option.some.inj h'; exact L_n54_k3_ok r v' w' hi' h⟩, trivial⟩ (fun _ ht => nomatch ht) big v w hi hx0
noncomputable def L_n54_k2 : Lp U (Int × (List Int)) := ⟨[0, 1, 5, 7], [], [.o (.sl (0, 0, 0)), .o (.v (.sl (.int .u32))), .o (.v (.int .i64)), .o (.v (.int .u64))], [.arr (.int .u32) false], fun v w => s_fraction_digit_k2 v.1.1 v.1.2 v.2.1 v.2.2.1 v.2.2.2.1 w.1⟩
theorem L_n54_k2_ok (r : (Int × (List Int))) : LpOk F_n54 (b_n54 r).enc r (L_n54_k2) ([tc F_n54 [1, 1, 1, 1, 1, 1]].map TI'.conc ++ []) := fun v w hi h => Pt.ev0 F_n54_ok (S := R_n54) (g := g_n54) (b := b_n54) (cuts := [([4, 1, 0, 1, 1, 1, 1, 1, 1, 1, 1], Lc_n54_l2)]) (pre := [tc F_n54 [1, 1, 1, 1, 1, 1]]) (T := Lp.st F_n54 (L_n54_k2) v w) (by kernel_rfl) hi (Eq.trans (by kernel_rfl) h) ⟨by kernel_rfl, trivial⟩ ⟨(Lc_n54_l2_ok r), trivial⟩ fun _ => rfl
noncomputable def base_n54_l1 : List Eng.Item := .lp (codeAt F_n54 [5, 4, 0, 1, 1, 1, 1, 1]) :: ([.blk 0, tc F_n54 [1, 1, 1, 1, 1, 1]].map TI'.conc ++ [])
noncomputable def Lh_n54_l1 (rec_ : Tr_n54_2) : Lp U (Nat × Nat × (List Int) × Int × Int × (List Int)) := ⟨[0, 1, 5, 7, 8], [], [.o (.sl (0, 0, 0)), .o (.v (.sl (.int .u32))), .o (.v (.int .i64)), .o (.v (.int .u64)), .o (.v (.int .u64))], [.arr (.int .u32) false], fun v w => rec_ v.1.1 v.1.2 v.2.1 v.2.2.1 v.2.2.2.1 v.2.2.2.2.1 w.1⟩
noncomputable def Lx_n54_l1 : Lp U (Nat × Nat × (List Int) × Int × Int × (List Int)) := ⟨[0, 1, 5, 7], [], [.o (.sl (0, 0, 0)), .o (.v (.sl (.int .u32))), .o (.v (.int .i64)), .o (.v (.int .u64))], [.arr (.int .u32) false], fun v w => some (v.1.1, v.1.2, v.2.1, v.2.2.1, v.2.2.2.1, w.1)⟩
noncomputable def L_n54_j1 (rec_ : Tr_n54_2) : Lp U (Nat × Nat × (List Int) × Int × Int × (List Int)) := ⟨[0, 1, 5, 7, 8, 71], [], [.o (.sl (0, 0, 0)), .o (.v (.sl (.int .u32))), .o (.v (.int .i64)), .o (.v (.int .u64)), .o (.v (.int .u64)), .o (.v .bool)], [.arr (.int .u32) false], fun v w => s_fraction_digit_j1 rec_ v.1.1 v.1.2 v.2.1 v.2.2.1 v.2.2.2.1 v.2.2.2.2.1 v.2.2.2.2.2.1 w.1⟩
theorem L_n54_j1_ok {RT : Ret} {r : (Nat × Nat × (List Int) × Int × Int × (List Int))} {rec_ : Tr_n54_2} (hb : LpOk F_n54 RT r (Lh_n54_l1 rec_) base_n54_l1) (hx : AllExits F_n54 RT r base_n54_l1 [(0, Lx_n54_l1)]) (hr : ∀ t : TRet U, (fun _ => none) t = some r → t.enc = RT) : LpOk F_n54 RT r (L_n54_j1 rec_) (stAt F_n54 [1, 0, 5, 4, 0, 1, 1, 1, 1, 1]) := fun v w hi h => Pt.evlAt F_n54_ok (r := r) 4000 (cuts := []) (back := (some (Lh_n54_l1 rec_))) (exits := [(0, Lx_n54_l1)]) (ret := (fun _ => none)) (base := base_n54_l1) (pre := [tc F_n54 [1, 0, 5, 4, 0, 1, 1, 1, 1, 1], tc F_n54 [1, 5, 4, 0, 1, 1, 1, 1, 1]]) (T := Lp.st F_n54 (L_n54_j1 rec_) v w) (by kernel_rfl) hi (Eq.trans (by kernel_rfl) h) ⟨by kernel_rfl, by kernel_rfl, trivial⟩ trivial (fun L hL => by cases hL; exact hb) (fun hn => nomatch hn) hx hr
theorem s_fraction_digit_l1_ok {RT : Ret} {r : (Nat × Nat × (List Int) × Int × Int × (List Int))} (hx : AllExits F_n54 RT r base_n54_l1 [(0, Lx_n54_l1)]) (hr : ∀ t : TRet U, (fun _ => none) t = some r → t.enc = RT) : ∀ n, LpOk F_n54 RT r (Lh_n54_l1 (s_fraction_digit_l1 n)) (stAt F_n54 [4, 0, 1, 1, 1, 1, 1]) :=
  loop_ok F_n54_ok 4000 (q := [4, 0, 1, 1, 1, 1, 1]) (body := codeAt F_n54 [5, 4, 0, 1, 1, 1, 1, 1]) (live := [0, 1, 5, 7, 8]) (frz := []) (shs := [.o (.sl (0, 0, 0)), .o (.v (.sl (.int .u32))), .o (.v (.int .i64)), .o (.v (.int .u64)), .o (.v (.int .u64))]) (sho := [.arr (.int .u32) false]) (fun n v w => s_fraction_digit_l1 n v.1.1 v.1.2 v.2.1 v.2.2.1 v.2.2.2.1 v.2.2.2.2.1 w.1) (cuts := fun n => [([1, 0, 5, 4, 0, 1, 1, 1, 1, 1], L_n54_j1 (s_fraction_digit_l1 n))]) (exits := [(0, Lx_n54_l1)]) (ret := (fun _ => none)) (by kernel_rfl) (fun _ _ => rfl) (fun n v w => by kernel_rfl) (fun n hb => ⟨L_n54_j1_ok hb hx hr, trivial⟩) hx hr
noncomputable def Lc_n54_l1 : Lp U (Int × (List Int)) := ⟨[0, 1, 5, 7, 8], [], [.o (.sl (0, 0, 0)), .o (.v (.sl (.int .u32))), .o (.v (.int .i64)), .o (.v (.int .u64)), .o (.v (.int .u64))], [.arr (.int .u32) false], fun v w => (s_fraction_digit_l1 big v.1.1 v.1.2 v.2.1 v.2.2.1 v.2.2.2.1 v.2.2.2.2.1 w.1).bind fun (x0, x1, x2, x3, x4, x5) => s_fraction_digit_k2 x0 x1 x2 x3 x4 x5⟩
theorem Lc_n54_l1_ok (r : (Int × (List Int))) : LpOk F_n54 (b_n54 r).enc r (Lc_n54_l1) (stAt F_n54 [4, 0, 1, 1, 1, 1, 1]) := fun v w hi h0 => by
  obtain ⟨x, hx0, h⟩ := bind_some h0
  exact s_fraction_digit_l1_ok (r := x) (RT := (b_n54 r).enc) ⟨⟨[tc F_n54 [1, 1, 1, 1, 1, 1]].map TI'.conc ++ [], by kernel_rfl, fun v' w' hi' h' => by obtain rfl := Option.some.inj h'; exact L_n54_k2_ok r v' w' hi' h⟩, trivial⟩ (fun _ ht => nomatch ht) big v w hi hx0
noncomputable def S_s_fraction_digit : FSig U := ⟨(Int × (List Int)), [203, 203], [.part, .p], [none, none], [.part (.int .u32), .p (.sl (.int .u32))], fun v => s_fraction_digit_w v.1.1 v.1.2.1 v.1.2.2 v.2.1, b_n54⟩
theorem S_s_fraction_digit_ok : SigOk X0.E 225 S_s_fraction_digit.sig := FSig.ok uok fun v r h0 => ⟨fun_of_pt (F := F_n54) (RT := (b_n54 r).enc) rfl Tryd.func225 (by decide) rfl (Nat.le_of_ble_eq_true (by kernel_rfl)) (have h := (chkLen h0).1; Pt.ev0 F_n54_ok (S := R_n54) (g := g_n54) (b := b_n54) (cuts := [([4, 0, 1, 1, 1, 1, 1], Lc_n54_l1)]) (pre := ([tc0 F_n54] : List TI')) (T := argTS (bldsA S_s_fraction_digit.as v)) (by kernel_rfl) (argTS_inv _) (Eq.trans (by kernel_rfl) h) ⟨rfl, trivial⟩ ⟨(Lc_n54_l1_ok r), trivial⟩ fun _ => rfl), outsLen_of (Eq.trans (by kernel_rfl) (chkLen h0).2)⟩

/-! ### (tablefinder/fraction.words).at -/
noncomputable def c_n55 : Code := bodyOf Tryd.f210
noncomputable def F_n55 : FC U := ⟨X0.at 13, Tryd.f210, c_n55, [], [], [.p], [none]⟩
theorem F_n55_ok : FOk F_n55 := fok uok tok0 eok0 mixed rfl trivial
noncomputable def R_n55 : RSh := ⟨[.p (.int .u32)], []⟩
noncomputable def g_n55 (v : RVal U R_n55) : Int := v.1.1
noncomputable def b_n55 (q : Int) : TRet U := R_n55.bld ((q, ()), ())
noncomputable def S_s_fraction_words_at : FSig U := ⟨Int, [203, 3], [.p, .p], [none, none], [.p (.sl (.int .u32)), .p (.int .i64)], fun v => s_fraction_words_at v.1 v.2.1, b_n55⟩
theorem S_s_fraction_words_at_ok : SigOk X0.E 210 S_s_fraction_words_at.sig := FSig.ok0 F_n55_ok (R := R_n55) (g := g_n55) (cuts := []) (pre := [tc0 F_n55]) rfl Tryd.func210 (by decide) rfl (fun _ => Nat.le_of_ble_eq_true (by kernel_rfl)) (fun _ => rfl) (by kernel_rfl) (fun _ _ h => Eq.trans (by kernel_rfl) h) ⟨rfl, trivial⟩ (fun r => trivial) fun _ => rfl

/-! ### (tablefinder/fraction.words).over -/
noncomputable def c_n56 : Code := bodyOf Tryd.f207
noncomputable def F_n56 : FC U := ⟨X0.at 114, Tryd.f207, c_n56, [(186, S_s_fraction_words_compare.sig), (221, S_s_slices_Clone_fraction_words_uint32.sig), (222, S_s_fraction_words_short.sig), (211, S_s_fraction_trimmed.sig), (223, S_s_math_bits_LeadingZeros32.sig), (224, S_s_fraction_words_shifted.sig), (225, S_s_fraction_digit.sig), (210, S_s_fraction_words_at.sig)], [], [.p, .p], [none, none]⟩
theorem F_n56_ok : FOk F_n56 := fok uok tok0 eok0 mixed rfl ⟨S_s_fraction_words_compare_ok, S_s_slices_Clone_fraction_words_uint32_ok, S_s_fraction_words_short_ok, S_s_fraction_trimmed_ok, S_s_math_bits_LeadingZeros32_ok, S_s_fraction_words_shifted_ok, S_s_fraction_digit_ok, S_s_fraction_words_at_ok, trivial⟩
noncomputable def R_n56 : RSh := ⟨[.p (.sl (.int .u32)), .p (.sl (.int .u32))], []⟩
noncomputable def g_n56 (v : RVal U R_n56) : ((List Int) × (List Int)) := (v.1.1, v.1.2.1)
noncomputable def b_n56 (q : ((List Int) × (List Int))) : TRet U := R_n56.bld ((q.1, (q.2, ())), ())
noncomputable def L_n56_k2 : Lp U ((List Int) × (List Int)) := ⟨[12, 14], [], [.o (.full (0, 1, 1)), .o (.v (.sl (.int .u32)))], [.arr (.int .u32) false], fun v w => s_fraction_words_over_k2 v.2.1 w.1⟩
theorem L_n56_k2_ok (r : ((List Int) × (List Int))) : LpOk F_n56 (b_n56 r).enc r (L_n56_k2) ([tc F_n56 [1, 1, 1, 1, 1, 1, 1, 1, 1]].map TI'.conc ++ []) := fun v w hi h => Pt.ev0 F_n56_ok (S := R_n56) (g := g_n56) (b := b_n56) (cuts := []) (pre := [tc F_n56 [1, 1, 1, 1, 1, 1, 1, 1, 1]]) (T := Lp.st F_n56 (L_n56_k2) v w) (by kernel_rfl) hi (Eq.trans (by kernel_rfl) h) ⟨by kernel_rfl, trivial⟩ trivial fun _ => rfl
noncomputable def base_n56_l2 : List Eng.Item := .lp (codeAt F_n56 [5, 4, 1, 0, 1, 1, 1, 1, 1, 1, 1, 1]) :: ([.blk 3, tc F_n56 [1, 1, 1, 1, 1, 1, 1, 1, 1]].map TI'.conc ++ [])
noncomputable def Lh_n56_l2 (rec_ : Int → (List Int) → Int → Int → (List Int) → Option ((List Int) × (List Int))) : Lp U ((List Int) × (List Int)) := ⟨[9, 12, 14, 86, 87], [], [.o (.v (.int .i64)), .o (.full (0, 1, 1)), .o (.v (.sl (.int .u32))), .o (.v (.int .i64)), .o (.v (.int .i64))], [.arr (.int .u32) false], fun v w => rec_ v.1 v.2.2.1 v.2.2.2.1 v.2.2.2.2.1 w.1⟩
noncomputable def Lx_n56_l2 : Lp U ((List Int) × (List Int)) := ⟨[12, 14], [], [.o (.full (0, 1, 1)), .o (.v (.sl (.int .u32)))], [.arr (.int .u32) false], fun v w => some (v.2.1, w.1)⟩
theorem s_fraction_words_over_l2_ok {RT : Ret} {r : ((List Int) × (List Int))} (hx : AllExits F_n56 RT r base_n56_l2 [(3, Lx_n56_l2)]) (hr : ∀ t : TRet U, (fun _ => none) t = some r → t.enc = RT) : ∀ n, LpOk F_n56 RT r (Lh_n56_l2 (s_fraction_words_over_l2 n)) (stAt F_n56 [4, 1, 0, 1, 1, 1, 1, 1, 1, 1, 1]) :=
  loop_ok F_n56_ok 4000 (q := [4, 1, 0, 1, 1, 1, 1, 1, 1, 1, 1]) (body := codeAt F_n56 [5, 4, 1, 0, 1, 1, 1, 1, 1, 1, 1, 1]) (live := [9, 12, 14, 86, 87]) (frz := []) (shs := [.o (.v (.int .i64)), .o (.full (0, 1, 1)), .o (.v (.sl (.int .u32))), .o (.v (.int .i64)), .o (.v (.int .i64))]) (sho := [.arr (.int .u32) false]) (fun n v w => s_fraction_words_over_l2 n v.1 v.2.2.1 v.2.2.2.1 v.2.2.2.2.1 w.1) (cuts := fun n => []) (exits := [(3, Lx_n56_l2)]) (ret := (fun _ => none)) (by kernel_rfl) (fun _ _ => rfl) (fun n v w => by kernel_rfl) (fun n hb => trivial) hx hr
noncomputable def Lc_n56_l2 : Lp U ((List Int) × (List Int)) := ⟨[9, 12, 14, 86, 87], [], [.o (.v (.int .i64)), .o (.full (0, 1, 1)), .o (.v (.sl (.int .u32))), .o (.v (.int .i64)), .o (.v (.int .i64))], [.arr (.int .u32) false], fun v w => (s_fraction_words_over_l2 big v.1 v.2.2.1 v.2.2.2.1 v.2.2.2.2.1 w.1).bind fun (x0, x1) => s_fraction_words_over_k2 x0 x1⟩
theorem Lc_n56_l2_ok (r : ((List Int) × (List Int))) : LpOk F_n56 (b_n56 r).enc r (Lc_n56_l2) (stAt F_n56 [4, 1, 0, 1, 1, 1, 1, 1, 1, 1, 1]) := fun v w hi h0 => by
  obtain ⟨x, hx0, h⟩ := bind_some h0
  exact s_fraction_words_over_l2_ok (r := x) (RT := (b_n56 r).enc) ⟨⟨[tc F_n56 [1, 1, 1, 1, 1, 1, 1, 1, 1]].map TI'.conc ++ [], by kernel_rfl, fun v' w' hi' h' => by obtain rfl := Option.some.inj h'; exact L_n56_k2_ok r v' w' hi' h⟩, trivial⟩ (fun _ ht => nomatch ht) big v w hi hx0
noncomputable def L_n56_k1 : Lp U ((List Int) × (List Int)) := ⟨[8, 9, 10, 12], [], [.o (.v (.int .i64)), .o (.v (.int .i64)), .o (.full (0, 1, 1)), .o (.full (0, 2, 1))], [.arr (.int .u32) false, .arr (.int .u32) false], fun v w => s_fraction_words_over_k1 v.1 v.2.1 w.1 w.2.1⟩
theorem L_n56_k1_ok (r : ((List Int) × (List Int))) : LpOk F_n56 (b_n56 r).enc r (L_n56_k1) ([tc F_n56 [1, 1, 1, 1, 1, 1, 1]].map TI'.conc ++ []) := fun v w hi h => Pt.ev0 F_n56_ok (S := R_n56) (g := g_n56) (b := b_n56) (cuts := [([4, 1, 0, 1, 1, 1, 1, 1, 1, 1, 1], Lc_n56_l2)]) (pre := [tc F_n56 [1, 1, 1, 1, 1, 1, 1]]) (T := Lp.st F_n56 (L_n56_k1) v w) (by kernel_rfl) hi (Eq.trans (by kernel_rfl) h) ⟨by kernel_rfl, trivial⟩ ⟨(Lc_n56_l2_ok r), trivial⟩ fun _ => rfl
noncomputable def base_n56_l1 : List Eng.Item := .lp (codeAt F_n56 [5, 4, 1, 0, 1, 1, 1, 1, 1, 1]) :: ([.blk 1, tc F_n56 [1, 1, 1, 1, 1, 1, 1]].map TI'.conc ++ [])
noncomputable def Lh_n56_l1 (rec_ : Int → Int → (List Int) → Int → (List Int) → (List Int) → Option (Int × Int × (List Int) × (List Int))) : Lp U (Int × Int × (List Int) × (List Int)) := ⟨[8, 9, 10, 11, 12, 13], [11], [.o (.v (.int .i64)), .o (.v (.int .i64)), .o (.full (0, 1, 1)), .o (.v (.sl (.int .u32))), .o (.full (0, 2, 1)), .o (.v (.int .i64))], [.arr (.int .u32) false, .arr (.int .u32) false], fun v w => rec_ v.1 v.2.1 v.2.2.2.1 v.2.2.2.2.2.1 w.1 w.2.1⟩
noncomputable def Lx_n56_l1 : Lp U (Int × Int × (List Int) × (List Int)) := ⟨[8, 9, 10, 12], [], [.o (.v (.int .i64)), .o (.v (.int .i64)), .o (.full (0, 1, 1)), .o (.full (0, 2, 1))], [.arr (.int .u32) false, .arr (.int .u32) false], fun v w => some (v.1, v.2.1, w.1, w.2.1)⟩
theorem s_fraction_words_over_l1_ok {RT : Ret} {r : (Int × Int × (List Int) × (List Int))} (hx : AllExits F_n56 RT r base_n56_l1 [(1, Lx_n56_l1)]) (hr : ∀ t : TRet U, (fun _ => none) t = some r → t.enc = RT) : ∀ n, LpOk F_n56 RT r (Lh_n56_l1 (s_fraction_words_over_l1 n)) (stAt F_n56 [4, 1, 0, 1, 1, 1, 1, 1, 1]) :=
  loop_ok F_n56_ok 4000 (q := [4, 1, 0, 1, 1, 1, 1, 1, 1]) (body := codeAt F_n56 [5, 4, 1, 0, 1, 1, 1, 1, 1, 1]) (live := [8, 9, 10, 11, 12, 13]) (frz := [11]) (shs := [.o (.v (.int .i64)), .o (.v (.int .i64)), .o (.full (0, 1, 1)), .o (.v (.sl (.int .u32))), .o (.full (0, 2, 1)), .o (.v (.int .i64))]) (sho := [.arr (.int .u32) false, .arr (.int .u32) false]) (fun n v w => s_fraction_words_over_l1 n v.1 v.2.1 v.2.2.2.1 v.2.2.2.2.2.1 w.1 w.2.1) (cuts := fun n => []) (exits := [(1, Lx_n56_l1)]) (ret := (fun _ => none)) (by kernel_rfl) (fun _ _ => rfl) (fun n v w => by kernel_rfl) (fun n hb => trivial) hx hr
noncomputable def Lc_n56_l1 : Lp U ((List Int) × (List Int)) := ⟨[8, 9, 10, 11, 12, 13], [11], [.o (.v (.int .i64)), .o (.v (.int .i64)), .o (.full (0, 1, 1)), .o (.v (.sl (.int .u32))), .o (.full (0, 2, 1)), .o (.v (.int .i64))], [.arr (.int .u32) false, .arr (.int .u32) false], fun v w => (s_fraction_words_over_l1 big v.1 v.2.1 v.2.2.2.1 v.2.2.2.2.2.1 w.1 w.2.1).bind fun (x0, x1, x2, x3) => s_fraction_words_over_k1 x0 x1 x2 x3⟩
theorem Lc_n56_l1_ok (r : ((List Int) × (List Int))) : LpOk F_n56 (b_n56 r).enc r (Lc_n56_l1) (stAt F_n56 [4, 1, 0, 1, 1, 1, 1, 1, 1]) := fun v w hi h0 => by
  obtain ⟨x, hx0, h⟩ := bind_some h0
  exact s_fraction_words_over_l1_ok (r := x) (RT := (b_n56 r).enc) ⟨⟨[tc F_n56 [1, 1, 1, 1, 1, 1, 1]].map TI'.conc ++ [], by kernel_rfl, fun v' w' hi' h' => by obtain rfl := Option.some.inj h'; exact L_n56_k1_ok r v' w' hi' h⟩, trivial⟩ (fun _ ht => nomatch ht) big v w hi hx0
noncomputable def S_s_fraction_words_over : FSig U := ⟨((List Int) × (List Int)), [203, 203], [.p, .p], [none, none], [.p (.sl (.int .u32)), .p (.sl (.int .u32))], fun v => s_fraction_words_over v.1 v.2.1, b_n56⟩
theorem S_s_fraction_words_over_ok : SigOk X0.E 207 S_s_fraction_words_over.sig := FSig.ok0 F_n56_ok (R := R_n56) (g := g_n56) (cuts := [([4, 1, 0, 1, 1, 1, 1, 1, 1], Lc_n56_l1)]) (pre := [tc0 F_n56]) rfl Tryd.func207 (by decide) rfl (fun _ => Nat.le_of_ble_eq_true (by kernel_rfl)) (fun _ => rfl) (by kernel_rfl) (fun _ _ h => Eq.trans (by kernel_rfl) h) ⟨rfl, trivial⟩ (fun r => ⟨(Lc_n56_l1_ok r), trivial⟩) fun _ => rfl

/-! ### (tablefinder/fraction.words).common -/
noncomputable def c_n57 : Code := bodyOf Tryd.f185
noncomputable def F_n57 : FC U := ⟨X0.at 19, Tryd.f185, c_n57, [(207, S_s_fraction_words_over.sig)], [], [.p], [none]⟩
theorem F_n57_ok : FOk F_n57 := fok uok tok0 eok0 mixed rfl ⟨S_s_fraction_words_over_ok, trivial⟩
noncomputable def R_n57 : RSh := ⟨[.p (.sl (.int .u32))], []⟩
noncomputable def g_n57 (v : RVal U R_n57) : (List Int) := v.1.1
noncomputable def b_n57 (q : (List Int)) : TRet U := R_n57.bld ((q, ()), ())
noncomputable def L_n57_k1 : Lp U (List Int) := ⟨[0], [], [.o (.v (.sl (.int .u32)))], [], fun v w => s_fraction_words_common_k1 v.1⟩
theorem L_n57_k1_ok (r : (List Int)) : LpOk F_n57 (b_n57 r).enc r (L_n57_k1) ([tc F_n57 [1, 1]].map TI'.conc ++ []) := fun v w hi h => Pt.ev0 F_n57_ok (S := R_n57) (g := g_n57) (b := b_n57) (cuts := []) (pre := [tc F_n57 [1, 1]]) (T := Lp.st F_n57 (L_n57_k1) v w) (by kernel_rfl) hi (Eq.trans (by kernel_rfl) h) ⟨by kernel_rfl, trivial⟩ trivial fun _ => rfl
noncomputable def base_n57_l1 : List Eng.Item := .lp (codeAt F_n57 [5, 4, 0, 1]) :: ([.blk 0, tc F_n57 [1, 1]].map TI'.conc ++ [])
noncomputable def Lh_n57_l1 (rec_ : (List Int) → (List Int) → Option (List Int)) : Lp U (List Int) := ⟨[0, 1], [], [.o (.v (.sl (.int .u32))), .o (.v (.sl (.int .u32)))], [], fun v w => rec_ v.1 v.2.1⟩
noncomputable def Lx_n57_l1 : Lp U (List Int) := ⟨[0], [], [.o (.v (.sl (.int .u32)))], [], fun v w => some v.1⟩
theorem s_fraction_words_common_l1_ok {RT : Ret} {r : (List Int)} (hx : AllExits F_n57 RT r base_n57_l1 [(0, Lx_n57_l1)]) (hr : ∀ t : TRet U, (fun _ => none) t = some r → t.enc = RT) : ∀ n, LpOk F_n57 RT r (Lh_n57_l1 (s_fraction_words_common_l1 n)) (stAt F_n57 [4, 0, 1]) :=
  loop_ok F_n57_ok 4000 (q := [4, 0, 1]) (body := codeAt F_n57 [5, 4, 0, 1]) (live := [0, 1]) (frz := []) (shs := [.o (.v (.sl (.int .u32))), .o (.v (.sl (.int .u32)))]) (sho := []) (fun n v w => s_fraction_words_common_l1 n v.1 v.2.1) (cuts := fun n => []) (exits := [(0, Lx_n57_l1)]) (ret := (fun _ => none)) (by kernel_rfl) (fun _ _ => rfl) (fun n v w => by kernel_rfl) (fun n hb => trivial) hx hr
noncomputable def Lc_n57_l1 : Lp U (List Int) := ⟨[0, 1], [], [.o (.v (.sl (.int .u32))), .o (.v (.sl (.int .u32)))], [], fun v w => (s_fraction_words_common_l1 big v.1 v.2.1).bind fun x0 => s_fraction_words_common_k1 x0⟩
theorem Lc_n57_l1_ok (r : (List Int)) : LpOk F_n57 (b_n57 r).enc r (Lc_n57_l1) (stAt F_n57 [4, 0, 1]) := fun v w hi h0 => by
  obtain ⟨x, hx0, h⟩ := bind_some h0
  exact s_fraction_words_common_l1_ok (r := x) (RT := (b_n57 r).enc) ⟨⟨[tc F_n57 [1, 1]].map TI'.conc ++ [], by kernel_rfl, fun v' w' hi' h' => by obtain rfl := Option.some.inj h'; exact L_n57_k1_ok r v' w' hi' h⟩, trivial⟩ (fun _ ht => nomatch ht) big v w hi hx0
noncomputable def S_s_fraction_words_common : FSig U := ⟨(List Int), [203, 203], [.p, .p], [none, none], [.p (.sl (.int .u32)), .p (.sl (.int .u32))], fun v => s_fraction_words_common v.1 v.2.1, b_n57⟩
theorem S_s_fraction_words_common_ok : SigOk X0.E 185 S_s_fraction_words_common.sig := FSig.ok0 F_n57_ok (R := R_n57) (g := g_n57) (cuts := [([4, 0, 1], Lc_n57_l1)]) (pre := [tc0 F_n57]) rfl Tryd.func185 (by decide) rfl (fun _ => Nat.le_of_ble_eq_true (by kernel_rfl)) (fun _ => rfl) (by kernel_rfl) (fun _ _ h => Eq.trans (by kernel_rfl) h) ⟨rfl, trivial⟩ (fun r => ⟨(Lc_n57_l1_ok r), trivial⟩) fun _ => rfl

/-! ### tablefinder/fraction.reduced -/
noncomputable def c_n58 : Code := bodyOf Tryd.f191
noncomputable def F_n58 : FC U := ⟨X0.at 39, Tryd.f191, c_n58, [(185, S_s_fraction_words_common.sig), (207, S_s_fraction_words_over.sig), (187, S_s_fraction_signed.sig)], [], [.p], [some 10]⟩
theorem F_n58_ok : FOk F_n58 := fok uok tok0 eok0 mixed rfl ⟨S_s_fraction_words_common_ok, S_s_fraction_words_over_ok, S_s_fraction_signed_ok, trivial⟩
noncomputable def R_n58 : RSh := ⟨[.p (.st 10)], []⟩
noncomputable def g_n58 (v : RVal U R_n58) : G_api_Fraction := v.1.1
noncomputable def b_n58 (q : G_api_Fraction) : TRet U := R_n58.bld ((q, ()), ())
noncomputable def S_s_fraction_reduced : FSig U := ⟨G_api_Fraction, [58, 58], [.p, .p], [some 9, some 9], [.p (.st 9), .p (.st 9)], fun v => s_fraction_reduced v.1 v.2.1, b_n58⟩
theorem S_s_fraction_reduced_ok : SigOk X0.E 191 S_s_fraction_reduced.sig := FSig.ok0 F_n58_ok (R := R_n58) (g := g_n58) (cuts := []) (pre := [tc0 F_n58]) rfl Tryd.func191 (by decide) rfl (fun _ => Nat.le_of_ble_eq_true (by kernel_rfl)) (fun _ => rfl) (by kernel_rfl) (fun _ _ h => Eq.trans (by kernel_rfl) h) ⟨rfl, trivial⟩ (fun r => trivial) fun _ => rfl

/-! ### tablefinder/fraction.Make -/
noncomputable def c_n59 : Code := bodyOf Tryd.f168
noncomputable def F_n59 : FC U := ⟨X0.at 22, Tryd.f168, c_n59, [(184, S_s_fraction_bigs.sig), (191, S_s_fraction_reduced.sig)], [], [.p, .p], [some 10, none]⟩
theorem F_n59_ok : FOk F_n59 := fok uok tok0 eok0 mixed rfl ⟨S_s_fraction_bigs_ok, S_s_fraction_reduced_ok, trivial⟩
noncomputable def R_n59 : RSh := ⟨[.p (.st 10), .p (.int .i64)], []⟩
noncomputable def g_n59 (v : RVal U R_n59) : (G_api_Fraction × Int) := (v.1.1, v.1.2.1)
noncomputable def b_n59 (q : (G_api_Fraction × Int)) : TRet U := R_n59.bld ((q.1, (q.2, ())), ())
noncomputable def S_s_fraction_Make : FSig U := ⟨(G_api_Fraction × Int), [58, 58], [.p, .p], [some 9, some 9], [.p (.st 9), .p (.st 9)], fun v => s_fraction_Make v.1 v.2.1, b_n59⟩
theorem S_s_fraction_Make_ok : SigOk X0.E 168 S_s_fraction_Make.sig := FSig.ok0 F_n59_ok (R := R_n59) (g := g_n59) (cuts := []) (pre := [tc0 F_n59]) rfl Tryd.func168 (by decide) rfl (fun _ => Nat.le_of_ble_eq_true (by kernel_rfl)) (fun _ => rfl) (by kernel_rfl) (fun _ _ h => Eq.trans (by kernel_rfl) h) ⟨rfl, trivial⟩ (fun r => trivial) fun _ => rfl

/-! ### tablefinder/fraction.Of -/
noncomputable def c_n60 : Code := bodyOf Tryd.f130
noncomputable def F_n60 : FC U := ⟨X0.at 13, Tryd.f130, c_n60, [(169, S_s_fraction_FromInt.sig), (168, S_s_fraction_Make.sig)], [], [.p, .p], [some 10, none]⟩
theorem F_n60_ok : FOk F_n60 := fok uok tok0 eok0 mixed rfl ⟨S_s_fraction_FromInt_ok, S_s_fraction_Make_ok, trivial⟩
noncomputable def R_n60 : RSh := ⟨[.p (.st 10), .p (.int .i64)], []⟩
noncomputable def g_n60 (v : RVal U R_n60) : (G_api_Fraction × Int) := (v.1.1, v.1.2.1)
noncomputable def b_n60 (q : (G_api_Fraction × Int)) : TRet U := R_n60.bld ((q.1, (q.2, ())), ())
noncomputable def S_s_fraction_Of : FSig U := ⟨(G_api_Fraction × Int), [3, 3], [.p, .p], [none, none], [.p (.int .i64), .p (.int .i64)], fun v => s_fraction_Of v.1 v.2.1, b_n60⟩
theorem S_s_fraction_Of_ok : SigOk X0.E 130 S_s_fraction_Of.sig := FSig.ok0 F_n60_ok (R := R_n60) (g := g_n60) (cuts := []) (pre := [tc0 F_n60]) rfl Tryd.func130 (by decide) rfl (fun _ => Nat.le_of_ble_eq_true (by kernel_rfl)) (fun _ => rfl) (by kernel_rfl) (fun _ _ h => Eq.trans (by kernel_rfl) h) ⟨rfl, trivial⟩ (fun r => trivial) fun _ => rfl

/-! ### tablefinder/num.Zero -/
noncomputable def c_n61 : Code := bodyOf Tryd.f87
noncomputable def F_n61 : FC U := ⟨X0.at 8, Tryd.f87, c_n61, [(130, S_s_fraction_Of.sig)], [], [.p], [some 10]⟩
theorem F_n61_ok : FOk F_n61 := fok uok tok0 eok0 mixed rfl ⟨S_s_fraction_Of_ok, trivial⟩
noncomputable def R_n61 : RSh := ⟨[.p (.st 10)], []⟩
noncomputable def g_n61 (v : RVal U R_n61) : G_api_Fraction := v.1.1
noncomputable def b_n61 (q : G_api_Fraction) : TRet U := R_n61.bld ((q, ()), ())
noncomputable def S_s_num_Zero : FSig U := ⟨G_api_Fraction, [], [], [], [], fun v => s_num_Zero, b_n61⟩
theorem S_s_num_Zero_ok : SigOk X0.E 87 S_s_num_Zero.sig := FSig.ok0 F_n61_ok (R := R_n61) (g := g_n61) (cuts := []) (pre := [tc0 F_n61]) rfl Tryd.func87 (by decide) rfl (fun _ => Nat.le_of_ble_eq_true (by kernel_rfl)) (fun _ => rfl) (by kernel_rfl) (fun _ _ h => Eq.trans (by kernel_rfl) h) ⟨rfl, trivial⟩ (fun r => trivial) fun _ => rfl

/-! ### tablefinder/num.Of -/
noncomputable def c_n62 : Code := bodyOf Tryd.f101
noncomputable def F_n62 : FC U := ⟨X0.at 17, Tryd.f101, c_n62, [(130, S_s_fraction_Of.sig), (87, S_s_num_Zero.sig)], [], [.p], [some 10]⟩
theorem F_n62_ok : FOk F_n62 := fok uok tok0 eok0 mixed rfl ⟨S_s_fraction_Of_ok, S_s_num_Zero_ok, trivial⟩
noncomputable def R_n62 : RSh := ⟨[.p (.st 10)], []⟩
noncomputable def g_n62 (v : RVal U R_n62) : G_api_Fraction := v.1.1
noncomputable def b_n62 (q : G_api_Fraction) : TRet U := R_n62.bld ((q, ()), ())
noncomputable def S_s_num_Of : FSig U := ⟨G_api_Fraction, [3, 3], [.p, .p], [none, none], [.p (.int .i64), .p (.int .i64)], fun v => s_num_Of v.1 v.2.1, b_n62⟩
theorem S_s_num_Of_ok : SigOk X0.E 101 S_s_num_Of.sig := FSig.ok0 F_n62_ok (R := R_n62) (g := g_n62) (cuts := []) (pre := [tc0 F_n62]) rfl Tryd.func101 (by decide) rfl (fun _ => Nat.le_of_ble_eq_true (by kernel_rfl)) (fun _ => rfl) (by kernel_rfl) (fun _ _ h => Eq.trans (by kernel_rfl) h) ⟨rfl, trivial⟩ (fun r => trivial) fun _ => rfl

/-! ### tablefinder/relation.Contained -/
noncomputable def c_n63 : Code := bodyOf Tryd.f56
noncomputable def F_n63 : FC U := ⟨X0.at 18, Tryd.f56, c_n63, [(87, S_s_num_Zero.sig), (101, S_s_num_Of.sig)], [], [.p], [some 10]⟩
theorem F_n63_ok : FOk F_n63 := fok uok tok0 eok0 mixed rfl ⟨S_s_num_Zero_ok, S_s_num_Of_ok, trivial⟩
noncomputable def R_n63 : RSh := ⟨[.p (.st 10)], []⟩
noncomputable def g_n63 (v : RVal U R_n63) : G_api_Fraction := v.1.1
noncomputable def b_n63 (q : G_api_Fraction) : TRet U := R_n63.bld ((q, ()), ())
noncomputable def S_s_relation_Contained : FSig U := ⟨G_api_Fraction, [40], [.p], [some 4], [.p (.st 4)], fun v => s_relation_Contained v.1, b_n63⟩
theorem S_s_relation_Contained_ok : SigOk X0.E 56 S_s_relation_Contained.sig := FSig.ok0 F_n63_ok (R := R_n63) (g := g_n63) (cuts := []) (pre := [tc0 F_n63]) rfl Tryd.func56 (by decide) rfl (fun _ => Nat.le_of_ble_eq_true (by kernel_rfl)) (fun _ => rfl) (by kernel_rfl) (fun _ _ h => Eq.trans (by kernel_rfl) h) ⟨rfl, trivial⟩ (fun r => trivial) fun _ => rfl

/-! ### tablefinder/tablefinderref01.trim -/
noncomputable def c_n64 : Code := bodyOf Tryd.f175
noncomputable def F_n64 : FC U := ⟨X0.at 21, Tryd.f175, c_n64, [], [], [.p], [none]⟩
theorem F_n64_ok : FOk F_n64 := fok uok tok0 eok0 mixed rfl trivial
noncomputable def R_n64 : RSh := ⟨[.p (.sl (.int .u32))], []⟩
noncomputable def g_n64 (v : RVal U R_n64) : (List Int) := v.1.1
noncomputable def b_n64 (q : (List Int)) : TRet U := R_n64.bld ((q, ()), ())
noncomputable def L_n64_k2 : Lp U (List Int) := ⟨[0], [], [.o (.v (.sl (.int .u32)))], [], fun v w => s_tablefinderref01_trim_k2 v.1⟩
theorem L_n64_k2_ok (r : (List Int)) : LpOk F_n64 (b_n64 r).enc r (L_n64_k2) ([tc F_n64 [1, 1]].map TI'.conc ++ []) := fun v w hi h => Pt.ev0 F_n64_ok (S := R_n64) (g := g_n64) (b := b_n64) (cuts := []) (pre := [tc F_n64 [1, 1]]) (T := Lp.st F_n64 (L_n64_k2) v w) (by kernel_rfl) hi (Eq.trans (by kernel_rfl) h) ⟨by kernel_rfl, trivial⟩ trivial fun _ => rfl
noncomputable def base_n64_l1 : List Eng.Item := .lp (codeAt F_n64 [5, 4, 0, 1]) :: ([.blk 0, tc F_n64 [1, 1]].map TI'.conc ++ [])
noncomputable def Lh_n64_l1 (rec_ : (List Int) → Option (List Int)) : Lp U (List Int) := ⟨[0], [], [.o (.v (.sl (.int .u32)))], [], fun v w => rec_ v.1⟩
noncomputable def Lx_n64_l1 : Lp U (List Int) := ⟨[0], [], [.o (.v (.sl (.int .u32)))], [], fun v w => some v.1⟩
noncomputable def L_n64_j1 (rec_ : (List Int) → Option (List Int)) : Lp U (List Int) := ⟨[0, 14], [], [.o (.v (.sl (.int .u32))), .o (.v .bool)], [], fun v w => s_tablefinderref01_trim_j1 rec_ v.1 v.2.1⟩
theorem L_n64_j1_ok {RT : Ret} {r : (List Int)} {rec_ : (List Int) → Option (List Int)} (hb : LpOk F_n64 RT r (Lh_n64_l1 rec_) base_n64_l1) (hx : AllExits F_n64 RT r base_n64_l1 [(0, Lx_n64_l1)]) (hr : ∀ t : TRet U, (fun _ => none) t = some r → t.enc = RT) : LpOk F_n64 RT r (L_n64_j1 rec_) (stAt F_n64 [1, 0, 5, 4, 0, 1]) := fun v w hi h => Pt.evlAt F_n64_ok (r := r) 4000 (cuts := []) (back := (some (Lh_n64_l1 rec_))) (exits := [(0, Lx_n64_l1)]) (ret := (fun _ => none)) (base := base_n64_l1) (pre := [tc F_n64 [1, 0, 5, 4, 0, 1], tc F_n64 [1, 5, 4, 0, 1]]) (T := Lp.st F_n64 (L_n64_j1 rec_) v w) (by kernel_rfl) hi (Eq.trans (by kernel_rfl) h) ⟨by kernel_rfl, by kernel_rfl, trivial⟩ trivial (fun L hL => by cases hL; exact hb) (fun hn => nomatch hn) hx hr
theorem s_tablefinderref01_trim_l1_ok {RT : Ret} {r : (List Int)} (hx : AllExits F_n64 RT r base_n64_l1 [(0, Lx_n64_l1)]) (hr : ∀ t : TRet U, (fun _ => none) t = some r → t.enc = RT) : ∀ n, LpOk F_n64 RT r (Lh_n64_l1 (s_tablefinderref01_trim_l1 n)) (stAt F_n64 [4, 0, 1]) :=
  loop_ok F_n64_ok 4000 (q := [4, 0, 1]) (body := codeAt F_n64 [5, 4, 0, 1]) (live := [0]) (frz := []) (shs := [.o (.v (.sl (.int .u32)))]) (sho := []) (fun n v w => s_tablefinderref01_trim_l1 n v.1) (cuts := fun n => [([1, 0, 5, 4, 0, 1], L_n64_j1 (s_tablefinderref01_trim_l1 n))]) (exits := [(0, Lx_n64_l1)]) (ret := (fun _ => none)) (by kernel_rfl) (fun _ _ => rfl) (fun n v w => by kernel_rfl) (fun n hb => ⟨L_n64_j1_ok hb hx hr, trivial⟩) hx hr
noncomputable def Lc_n64_l1 : Lp U (List Int) := ⟨[0], [], [.o (.v (.sl (.int .u32)))], [], fun v w => (s_tablefinderref01_trim_l1 big v.1).bind fun x0 => s_tablefinderref01_trim_k2 x0⟩
theorem Lc_n64_l1_ok (r : (List Int)) : LpOk F_n64 (b_n64 r).enc r (Lc_n64_l1) (stAt F_n64 [4, 0, 1]) := fun v w hi h0 => by
  obtain ⟨x, hx0, h⟩ := bind_some h0
  exact s_tablefinderref01_trim_l1_ok (r := x) (RT := (b_n64 r).enc) ⟨⟨[tc F_n64 [1, 1]].map TI'.conc ++ [], by kernel_rfl, fun v' w' hi' h' => by obtain rfl := Option.some.inj h'; exact L_n64_k2_ok r v' w' hi' h⟩, trivial⟩ (fun _ ht => nomatch ht) big v w hi hx0
noncomputable def S_s_tablefinderref01_trim : FSig U := ⟨(List Int), [56], [.p], [none], [.p (.sl (.int .u32))], fun v => s_tablefinderref01_trim v.1, b_n64⟩
theorem S_s_tablefinderref01_trim_ok : SigOk X0.E 175 S_s_tablefinderref01_trim.sig := FSig.ok0 F_n64_ok (R := R_n64) (g := g_n64) (cuts := [([4, 0, 1], Lc_n64_l1)]) (pre := [tc0 F_n64]) rfl Tryd.func175 (by decide) rfl (fun _ => Nat.le_of_ble_eq_true (by kernel_rfl)) (fun _ => rfl) (by kernel_rfl) (fun _ _ h => Eq.trans (by kernel_rfl) h) ⟨rfl, trivial⟩ (fun r => ⟨(Lc_n64_l1_ok r), trivial⟩) fun _ => rfl

/-! ### tablefinder/tablefinderref01.big -/
noncomputable def c_n65 : Code := bodyOf Tryd.f137
noncomputable def F_n65 : FC U := ⟨X0.at 15, Tryd.f137, c_n65, [(175, S_s_tablefinderref01_trim.sig)], [], [.p], [some 9]⟩
theorem F_n65_ok : FOk F_n65 := fok uok tok0 eok0 mixed rfl ⟨S_s_tablefinderref01_trim_ok, trivial⟩
noncomputable def R_n65 : RSh := ⟨[.p (.st 9)], []⟩
noncomputable def g_n65 (v : RVal U R_n65) : G_api_Big := v.1.1
noncomputable def b_n65 (q : G_api_Big) : TRet U := R_n65.bld ((q, ()), ())
noncomputable def L_n65_j1 : Lp U G_api_Big := ⟨[4], [], [.o (.ptr (0, 1, 1) 0 0)], [.boxS (.st 9)], fun v w => s_tablefinderref01_big_j1 w.1⟩
theorem L_n65_j1_ok (r : G_api_Big) : LpOk F_n65 (b_n65 r).enc r (L_n65_j1) (stAt F_n65 [1, 1, 1]) := fun v w hi h => Pt.ev0 F_n65_ok (S := R_n65) (g := g_n65) (b := b_n65) (cuts := []) (pre := [tc F_n65 [1, 1, 1]]) (T := Lp.st F_n65 (L_n65_j1) v w) (by kernel_rfl) hi (Eq.trans (by kernel_rfl) h) ⟨by kernel_rfl, trivial⟩ trivial fun _ => rfl
noncomputable def S_s_tablefinderref01_big : FSig U := ⟨G_api_Big, [4, 56], [.p, .p], [none, none], [.p .bool, .p (.sl (.int .u32))], fun v => s_tablefinderref01_big v.1 v.2.1, b_n65⟩
theorem S_s_tablefinderref01_big_ok : SigOk X0.E 137 S_s_tablefinderref01_big.sig := FSig.ok0 F_n65_ok (R := R_n65) (g := g_n65) (cuts := [([1, 1, 1], L_n65_j1)]) (pre := [tc0 F_n65]) rfl Tryd.func137 (by decide) rfl (fun _ => Nat.le_of_ble_eq_true (by kernel_rfl)) (fun _ => rfl) (by kernel_rfl) (fun _ _ h => Eq.trans (by kernel_rfl) h) ⟨rfl, trivial⟩ (fun r => ⟨(L_n65_j1_ok r), trivial⟩) fun _ => rfl

/-! ### tablefinder/tablefinderref01.FromInt -/
noncomputable def c_n66 : Code := bodyOf Tryd.f162
noncomputable def F_n66 : FC U := ⟨X0.at 19, Tryd.f162, c_n66, [(137, S_s_tablefinderref01_big.sig)], [], [.p], [some 9]⟩
theorem F_n66_ok : FOk F_n66 := fok uok tok0 eok0 mixed rfl ⟨S_s_tablefinderref01_big_ok, trivial⟩
noncomputable def R_n66 : RSh := ⟨[.p (.st 9)], []⟩
noncomputable def g_n66 (v : RVal U R_n66) : G_api_Big := v.1.1
noncomputable def b_n66 (q : G_api_Big) : TRet U := R_n66.bld ((q, ()), ())
noncomputable def L_n66_j1 : Lp U G_api_Big := ⟨[0, 2, 3], [], [.o (.v (.int .i64)), .o (.ptr (0, 1, 1) 0 0), .o (.v (.int .u64))], [.box [.o (.v .bool), .o (.full (0, 2, 1))], .arr (.int .u32) false], fun v w => s_tablefinderref01_FromInt_j1 v.1 v.2.2.1 w.1.1 w.2.1⟩
theorem L_n66_j1_ok (r : G_api_Big) : LpOk F_n66 (b_n66 r).enc r (L_n66_j1) (stAt F_n66 [1, 1, 1]) := fun v w hi h => Pt.ev0 F_n66_ok (S := R_n66) (g := g_n66) (b := b_n66) (cuts := []) (pre := [tc F_n66 [1, 1, 1]]) (T := Lp.st F_n66 (L_n66_j1) v w) (by kernel_rfl) hi (Eq.trans (by kernel_rfl) h) ⟨by kernel_rfl, trivial⟩ trivial fun _ => rfl
noncomputable def S_s_tablefinderref01_FromInt : FSig U := ⟨G_api_Big, [3], [.p], [none], [.p (.int .i64)], fun v => s_tablefinderref01_FromInt v.1, b_n66⟩
theorem S_s_tablefinderref01_FromInt_ok : SigOk X0.E 162 S_s_tablefinderref01_FromInt.sig := FSig.ok0 F_n66_ok (R := R_n66) (g := g_n66) (cuts := [([1, 1, 1], L_n66_j1)]) (pre := [tc0 F_n66]) rfl Tryd.func162 (by decide) rfl (fun _ => Nat.le_of_ble_eq_true (by kernel_rfl)) (fun _ => rfl) (by kernel_rfl) (fun _ _ h => Eq.trans (by kernel_rfl) h) ⟨rfl, trivial⟩ (fun r => ⟨(L_n66_j1_ok r), trivial⟩) fun _ => rfl

/-! ### tablefinder/tablefinderref01.ValidBig -/
noncomputable def c_n67 : Code := bodyOf Tryd.f134
noncomputable def F_n67 : FC U := ⟨X0.at 31, Tryd.f134, c_n67, [], [], [.p], [none]⟩
theorem F_n67_ok : FOk F_n67 := fok uok tok0 eok0 mixed rfl trivial
noncomputable def R_n67 : RSh := ⟨[.p .bool], []⟩
noncomputable def g_n67 (v : RVal U R_n67) : Bool := v.1.1
noncomputable def b_n67 (q : Bool) : TRet U := R_n67.bld ((q, ()), ())
noncomputable def L_n67_j1 : Lp U Bool := ⟨[2], [], [.o (.v .bool)], [], fun v w => s_tablefinderref01_ValidBig_j1 v.1⟩
theorem L_n67_j1_ok (r : Bool) : LpOk F_n67 (b_n67 r).enc r (L_n67_j1) (stAt F_n67 [1, 1, 1]) := fun v w hi h => Pt.ev0 F_n67_ok (S := R_n67) (g := g_n67) (b := b_n67) (cuts := []) (pre := [tc F_n67 [1, 1, 1]]) (T := Lp.st F_n67 (L_n67_j1) v w) (by kernel_rfl) hi (Eq.trans (by kernel_rfl) h) ⟨by kernel_rfl, trivial⟩ trivial fun _ => rfl
noncomputable def S_s_tablefinderref01_ValidBig : FSig U := ⟨Bool, [58], [.p], [some 9], [.p (.st 9)], fun v => s_tablefinderref01_ValidBig v.1, b_n67⟩
theorem S_s_tablefinderref01_ValidBig_ok : SigOk X0.E 134 S_s_tablefinderref01_ValidBig.sig := FSig.ok0 F_n67_ok (R := R_n67) (g := g_n67) (cuts := [([1, 1, 1], L_n67_j1)]) (pre := [tc0 F_n67]) rfl Tryd.func134 (by decide) rfl (fun _ => Nat.le_of_ble_eq_true (by kernel_rfl)) (fun _ => rfl) (by kernel_rfl) (fun _ _ h => Eq.trans (by kernel_rfl) h) ⟨rfl, trivial⟩ (fun r => ⟨(L_n67_j1_ok r), trivial⟩) fun _ => rfl

abbrev Tr_n68_0 : Type := (List Int) → Int → Int → (List Int) → Option (List Int)
/-! ### tablefinder/tablefinderref01.half -/
noncomputable def c_n68 : Code := bodyOf Tryd.f173
noncomputable def F_n68 : FC U := ⟨X0.at 39, Tryd.f173, c_n68, [(175, S_s_tablefinderref01_trim.sig)], [], [.p], [none]⟩
theorem F_n68_ok : FOk F_n68 := fok uok tok0 eok0 mixed rfl ⟨S_s_tablefinderref01_trim_ok, trivial⟩
noncomputable def R_n68 : RSh := ⟨[.p (.sl (.int .u32))], []⟩
noncomputable def g_n68 (v : RVal U R_n68) : (List Int) := v.1.1
noncomputable def b_n68 (q : (List Int)) : TRet U := R_n68.bld ((q, ()), ())
noncomputable def L_n68_k2 : Lp U (List Int) := ⟨[3], [], [.o (.full (0, 1, 1))], [.arr (.int .u32) false], fun v w => s_tablefinderref01_half_k2 w.1⟩
theorem L_n68_k2_ok (r : (List Int)) : LpOk F_n68 (b_n68 r).enc r (L_n68_k2) ([tc F_n68 [1, 1, 1]].map TI'.conc ++ []) := fun v w hi h => Pt.ev0 F_n68_ok (S := R_n68) (g := g_n68) (b := b_n68) (cuts := []) (pre := [tc F_n68 [1, 1, 1]]) (T := Lp.st F_n68 (L_n68_k2) v w) (by kernel_rfl) hi (Eq.trans (by kernel_rfl) h) ⟨by kernel_rfl, trivial⟩ trivial fun _ => rfl
noncomputable def base_n68_l1 : List Eng.Item := .lp (codeAt F_n68 [5, 4, 1, 0, 1, 1]) :: ([.blk 0, tc F_n68 [1, 1, 1]].map TI'.conc ++ [])
noncomputable def Lh_n68_l1 (rec_ : Tr_n68_0) : Lp U (List Int) := ⟨[0, 3, 9, 10], [], [.o (.v (.sl (.int .u32))), .o (.full (0, 1, 1)), .o (.v (.int .i64)), .o (.v (.int .i64))], [.arr (.int .u32) false], fun v w => rec_ v.1 v.2.2.1 v.2.2.2.1 w.1⟩
noncomputable def Lx_n68_l1 : Lp U (List Int) := ⟨[3], [], [.o (.full (0, 1, 1))], [.arr (.int .u32) false], fun v w => some w.1⟩
noncomputable def L_n68_j1 (rec_ : Tr_n68_0) : Lp U (List Int) := ⟨[0, 3, 9, 10], [], [.o (.v (.sl (.int .u32))), .o (.full (0, 1, 1)), .o (.v (.int .i64)), .o (.v (.int .i64))], [.arr (.int .u32) false], fun v w => s_tablefinderref01_half_j1 rec_ v.1 v.2.2.1 v.2.2.2.1 w.1⟩
theorem L_n68_j1_ok {RT : Ret} {r : (List Int)} {rec_ : Tr_n68_0} (hb : LpOk F_n68 RT r (Lh_n68_l1 rec_) base_n68_l1) (hx : AllExits F_n68 RT r base_n68_l1 [(0, Lx_n68_l1)]) (hr : ∀ t : TRet U, (fun _ => none) t = some r → t.enc = RT) : LpOk F_n68 RT r (L_n68_j1 rec_) (stAt F_n68 [1, 1, 1, 5, 4, 1, 0, 1, 1]) := fun v w hi h => Pt.evlAt F_n68_ok (r := r) 4000 (cuts := []) (back := (some (Lh_n68_l1 rec_))) (exits := [(0, Lx_n68_l1)]) (ret := (fun _ => none)) (base := base_n68_l1) (pre := [tc F_n68 [1, 1, 1, 5, 4, 1, 0, 1, 1]]) (T := Lp.st F_n68 (L_n68_j1 rec_) v w) (by kernel_rfl) hi (Eq.trans (by kernel_rfl) h) ⟨by kernel_rfl, trivial⟩ trivial (fun L hL => by cases hL; exact hb) (fun hn => nomatch hn) hx hr
theorem s_tablefinderref01_half_l1_ok {RT : Ret} {r : (List Int)} (hx : AllExits F_n68 RT r base_n68_l1 [(0, Lx_n68_l1)]) (hr : ∀ t : TRet U, (fun _ => none) t = some r → t.enc = RT) : ∀ n, LpOk F_n68 RT r (Lh_n68_l1 (s_tablefinderref01_half_l1 n)) (stAt F_n68 [4, 1, 0, 1, 1]) :=
  loop_ok F_n68_ok 4000 (q := [4, 1, 0, 1, 1]) (body := codeAt F_n68 [5, 4, 1, 0, 1, 1]) (live := [0, 3, 9, 10]) (frz := []) (shs := [.o (.v (.sl (.int .u32))), .o (.full (0, 1, 1)), .o (.v (.int .i64)), .o (.v (.int .i64))]) (sho := [.arr (.int .u32) false]) (fun n v w => s_tablefinderref01_half_l1 n v.1 v.2.2.1 v.2.2.2.1 w.1) (cuts := fun n => [([1, 1, 1, 5, 4, 1, 0, 1, 1], L_n68_j1 (s_tablefinderref01_half_l1 n))]) (exits := [(0, Lx_n68_l1)]) (ret := (fun _ => none)) (by kernel_rfl) (fun _ _ => rfl) (fun n v w => by kernel_rfl) (fun n hb => ⟨L_n68_j1_ok hb hx hr, trivial⟩) hx hr
noncomputable def Lc_n68_l1 : Lp U (List Int) := ⟨[0, 3, 9, 10], [], [.o (.v (.sl (.int .u32))), .o (.full (0, 1, 1)), .o (.v (.int .i64)), .o (.v (.int .i64))], [.arr (.int .u32) false], fun v w => (s_tablefinderref01_half_l1 big v.1 v.2.2.1 v.2.2.2.1 w.1).bind fun x0 => s_tablefinderref01_half_k2 x0⟩
theorem Lc_n68_l1_ok (r : (List Int)) : LpOk F_n68 (b_n68 r).enc r (Lc_n68_l1) (stAt F_n68 [4, 1, 0, 1, 1]) := fun v w hi h0 => by
  obtain ⟨x, hx0, h⟩ := bind_some h0
  exact s_tablefinderref01_half_l1_ok (r := x) (RT := (b_n68 r).enc) ⟨⟨[tc F_n68 [1, 1, 1]].map TI'.conc ++ [], by kernel_rfl, fun v' w' hi' h' => by obtain rfl := Option.some.inj h'; exact L_n68_k2_ok r v' w' hi' h⟩, trivial⟩ (fun _ ht => nomatch ht) big v w hi hx0
noncomputable def S_s_tablefinderref01_half : FSig U := ⟨(List Int), [56], [.p], [none], [.p (.sl (.int .u32))], fun v => s_tablefinderref01_half v.1, b_n68⟩
theorem S_s_tablefinderref01_half_ok : SigOk X0.E 173 S_s_tablefinderref01_half.sig := FSig.ok0 F_n68_ok (R := R_n68) (g := g_n68) (cuts := [([4, 1, 0, 1, 1], Lc_n68_l1)]) (pre := [tc0 F_n68]) rfl Tryd.func173 (by decide) rfl (fun _ => Nat.le_of_ble_eq_true (by kernel_rfl)) (fun _ => rfl) (by kernel_rfl) (fun _ _ h => Eq.trans (by kernel_rfl) h) ⟨rfl, trivial⟩ (fun r => ⟨(Lc_n68_l1_ok r), trivial⟩) fun _ => rfl

/-! ### tablefinder/tablefinderref01.cmp -/
noncomputable def c_n69 : Code := bodyOf Tryd.f135
noncomputable def F_n69 : FC U := ⟨X0.at 41, Tryd.f135, c_n69, [], [], [.p], [none]⟩
theorem F_n69_ok : FOk F_n69 := fok uok tok0 eok0 mixed rfl trivial
noncomputable def R_n69 : RSh := ⟨[.p (.int .i64)], []⟩
noncomputable def g_n69 (v : RVal U R_n69) : Int := v.1.1
noncomputable def b_n69 (q : Int) : TRet U := R_n69.bld ((q, ()), ())
noncomputable def L_n69_k1 : Lp U Int := ⟨[], [], [], [], fun v w => s_tablefinderref01_cmp_k1⟩
theorem L_n69_k1_ok (r : Int) : LpOk F_n69 (b_n69 r).enc r (L_n69_k1) ([tc F_n69 [1, 1, 1]].map TI'.conc ++ []) := fun v w hi h => Pt.ev0 F_n69_ok (S := R_n69) (g := g_n69) (b := b_n69) (cuts := []) (pre := [tc F_n69 [1, 1, 1]]) (T := Lp.st F_n69 (L_n69_k1) v w) (by kernel_rfl) hi (Eq.trans (by kernel_rfl) h) ⟨by kernel_rfl, trivial⟩ trivial fun _ => rfl
noncomputable def base_n69_l1 : List Eng.Item := .lp (codeAt F_n69 [5, 4, 1, 0, 1, 1]) :: ([.blk 0, tc F_n69 [1, 1, 1]].map TI'.conc ++ [])
noncomputable def Lh_n69_l1 (rec_ : (List Int) → (List Int) → Int → Option (Out Unit Int)) : Lp U (Out Unit Int) := ⟨[0, 1, 5], [], [.o (.v (.sl (.int .u32))), .o (.v (.sl (.int .u32))), .o (.v (.int .i64))], [], fun v w => rec_ v.1 v.2.1 v.2.2.1⟩
noncomputable def Lx_n69_l1 : Lp U (Out Unit Int) := ⟨[], [], [], [], fun v w => some (.brk ())⟩
theorem s_tablefinderref01_cmp_l1_ok {RT : Ret} {r : (Out Unit Int)} (hx : AllExits F_n69 RT r base_n69_l1 [(0, Lx_n69_l1)]) (hr : ∀ t : TRet U, (retOf R_n69 fun v => Out.ret (β := Unit) (g_n69 v)) t = some r → t.enc = RT) : ∀ n, LpOk F_n69 RT r (Lh_n69_l1 (s_tablefinderref01_cmp_l1 n)) (stAt F_n69 [4, 1, 0, 1, 1]) :=
  loop_ok F_n69_ok 4000 (q := [4, 1, 0, 1, 1]) (body := codeAt F_n69 [5, 4, 1, 0, 1, 1]) (live := [0, 1, 5]) (frz := []) (shs := [.o (.v (.sl (.int .u32))), .o (.v (.sl (.int .u32))), .o (.v (.int .i64))]) (sho := []) (fun n v w => s_tablefinderref01_cmp_l1 n v.1 v.2.1 v.2.2.1) (cuts := fun n => []) (exits := [(0, Lx_n69_l1)]) (ret := (retOf R_n69 fun v => Out.ret (β := Unit) (g_n69 v))) (by kernel_rfl) (fun _ _ => rfl) (fun n v w => by kernel_rfl) (fun n hb => trivial) hx hr
noncomputable def Lc_n69_l1 : Lp U Int := ⟨[0, 1, 5], [], [.o (.v (.sl (.int .u32))), .o (.v (.sl (.int .u32))), .o (.v (.int .i64))], [], fun v w => (s_tablefinderref01_cmp_l1 big v.1 v.2.1 v.2.2.1).bind fun | .ret q_ => some q_ | .brk () => s_tablefinderref01_cmp_k1⟩
theorem Lc_n69_l1_ok (r : Int) : LpOk F_n69 (b_n69 r).enc r (Lc_n69_l1) (stAt F_n69 [4, 1, 0, 1, 1]) := fun v w hi h0 => by
  obtain ⟨x, hx0, h⟩ := bind_some h0
  exact s_tablefinderref01_cmp_l1_ok (r := x) (RT := (b_n69 r).enc) ⟨⟨[tc F_n69 [1, 1, 1]].map TI'.conc ++ [], by kernel_rfl, fun v' w' hi' h' => by obtain rfl := Option.some.inj h'; exact L_n69_k1_ok r v' w' hi' h⟩, trivial⟩ (fun t ht => by obtain ⟨q, rfl, hq⟩ := retOut ht; obtain rfl := Option.some.inj h; exact retOf_enc uok (give := b_n69) (fun _ => rfl) hq) big v w hi hx0
noncomputable def S_s_tablefinderref01_cmp : FSig U := ⟨Int, [56, 56], [.p, .p], [none, none], [.p (.sl (.int .u32)), .p (.sl (.int .u32))], fun v => s_tablefinderref01_cmp v.1 v.2.1, b_n69⟩
theorem S_s_tablefinderref01_cmp_ok : SigOk X0.E 135 S_s_tablefinderref01_cmp.sig := FSig.ok0 F_n69_ok (R := R_n69) (g := g_n69) (cuts := [([4, 1, 0, 1, 1], Lc_n69_l1)]) (pre := [tc0 F_n69]) rfl Tryd.func135 (by decide) rfl (fun _ => Nat.le_of_ble_eq_true (by kernel_rfl)) (fun _ => rfl) (by kernel_rfl) (fun _ _ h => Eq.trans (by kernel_rfl) h) ⟨rfl, trivial⟩ (fun r => ⟨(Lc_n69_l1_ok r), trivial⟩) fun _ => rfl

abbrev Tr_n70_0 : Type := (List Int) → (List Int) → Int → Int → (List Int) → Option (List Int)
/-! ### tablefinder/tablefinderref01.sub -/
noncomputable def c_n70 : Code := bodyOf Tryd.f139
noncomputable def F_n70 : FC U := ⟨X0.at 41, Tryd.f139, c_n70, [(175, S_s_tablefinderref01_trim.sig)], [], [.p], [none]⟩
theorem F_n70_ok : FOk F_n70 := fok uok tok0 eok0 mixed rfl ⟨S_s_tablefinderref01_trim_ok, trivial⟩
noncomputable def R_n70 : RSh := ⟨[.p (.sl (.int .u32))], []⟩
noncomputable def g_n70 (v : RVal U R_n70) : (List Int) := v.1.1
noncomputable def b_n70 (q : (List Int)) : TRet U := R_n70.bld ((q, ()), ())
noncomputable def L_n70_k2 : Lp U (List Int) := ⟨[5], [], [.o (.full (0, 1, 1))], [.arr (.int .u32) false], fun v w => s_tablefinderref01_sub_k2 w.1⟩
theorem L_n70_k2_ok (r : (List Int)) : LpOk F_n70 (b_n70 r).enc r (L_n70_k2) ([tc F_n70 [1, 1, 1, 1]].map TI'.conc ++ []) := fun v w hi h => Pt.ev0 F_n70_ok (S := R_n70) (g := g_n70) (b := b_n70) (cuts := []) (pre := [tc F_n70 [1, 1, 1, 1]]) (T := Lp.st F_n70 (L_n70_k2) v w) (by kernel_rfl) hi (Eq.trans (by kernel_rfl) h) ⟨by kernel_rfl, trivial⟩ trivial fun _ => rfl
noncomputable def base_n70_l1 : List Eng.Item := .lp (codeAt F_n70 [5, 4, 1, 0, 1, 1, 1]) :: ([.blk 0, tc F_n70 [1, 1, 1, 1]].map TI'.conc ++ [])
noncomputable def Lh_n70_l1 (rec_ : Tr_n70_0) : Lp U (List Int) := ⟨[0, 1, 5, 6, 7], [], [.o (.v (.sl (.int .u32))), .o (.v (.sl (.int .u32))), .o (.full (0, 1, 1)), .o (.v (.int .i64)), .o (.v (.int .i64))], [.arr (.int .u32) false], fun v w => rec_ v.1 v.2.1 v.2.2.2.1 v.2.2.2.2.1 w.1⟩
noncomputable def Lx_n70_l1 : Lp U (List Int) := ⟨[5], [], [.o (.full (0, 1, 1))], [.arr (.int .u32) false], fun v w => some w.1⟩
noncomputable def L_n70_j1 (rec_ : Tr_n70_0) : Lp U (List Int) := ⟨[0, 1, 5, 6, 7], [], [.o (.v (.sl (.int .u32))), .o (.v (.sl (.int .u32))), .o (.full (0, 1, 1)), .o (.v (.int .i64)), .o (.v (.int .i64))], [.arr (.int .u32) false], fun v w => s_tablefinderref01_sub_j1 rec_ v.1 v.2.1 v.2.2.2.1 v.2.2.2.2.1 w.1⟩
theorem L_n70_j1_ok {RT : Ret} {r : (List Int)} {rec_ : Tr_n70_0} (hb : LpOk F_n70 RT r (Lh_n70_l1 rec_) base_n70_l1) (hx : AllExits F_n70 RT r base_n70_l1 [(0, Lx_n70_l1)]) (hr : ∀ t : TRet U, (fun _ => none) t = some r → t.enc = RT) : LpOk F_n70 RT r (L_n70_j1 rec_) (stAt F_n70 [1, 1, 4, 0, 1, 5, 4, 1, 0, 1, 1, 1]) := fun v w hi h => Pt.evlAt F_n70_ok (r := r) 4000 (cuts := []) (back := (some (Lh_n70_l1 rec_))) (exits := [(0, Lx_n70_l1)]) (ret := (fun _ => none)) (base := base_n70_l1) (pre := [tc F_n70 [1, 1, 4, 0, 1, 5, 4, 1, 0, 1, 1, 1], .blk 1, tc F_n70 [1, 1, 5, 4, 1, 0, 1, 1, 1]]) (T := Lp.st F_n70 (L_n70_j1 rec_) v w) (by kernel_rfl) hi (Eq.trans (by kernel_rfl) h) ⟨by kernel_rfl, by kernel_rfl, trivial⟩ trivial (fun L hL => by cases hL; exact hb) (fun hn => nomatch hn) hx hr
theorem s_tablefinderref01_sub_l1_ok {RT : Ret} {r : (List Int)} (hx : AllExits F_n70 RT r base_n70_l1 [(0, Lx_n70_l1)]) (hr : ∀ t : TRet U, (fun _ => none) t = some r → t.enc = RT) : ∀ n, LpOk F_n70 RT r (Lh_n70_l1 (s_tablefinderref01_sub_l1 n)) (stAt F_n70 [4, 1, 0, 1, 1, 1]) :=
  loop_ok F_n70_ok 4000 (q := [4, 1, 0, 1, 1, 1]) (body := codeAt F_n70 [5, 4, 1, 0, 1, 1, 1]) (live := [0, 1, 5, 6, 7]) (frz := []) (shs := [.o (.v (.sl (.int .u32))), .o (.v (.sl (.int .u32))), .o (.full (0, 1, 1)), .o (.v (.int .i64)), .o (.v (.int .i64))]) (sho := [.arr (.int .u32) false]) (fun n v w => s_tablefinderref01_sub_l1 n v.1 v.2.1 v.2.2.2.1 v.2.2.2.2.1 w.1) (cuts := fun n => [([1, 1, 4, 0, 1, 5, 4, 1, 0, 1, 1, 1], L_n70_j1 (s_tablefinderref01_sub_l1 n))]) (exits := [(0, Lx_n70_l1)]) (ret := (fun _ => none)) (by kernel_rfl) (fun _ _ => rfl) (fun n v w => by kernel_rfl) (fun n hb => ⟨L_n70_j1_ok hb hx hr, trivial⟩) hx hr
noncomputable def Lc_n70_l1 : Lp U (List Int) := ⟨[0, 1, 5, 6, 7], [], [.o (.v (.sl (.int .u32))), .o (.v (.sl (.int .u32))), .o (.full (0, 1, 1)), .o (.v (.int .i64)), .o (.v (.int .i64))], [.arr (.int .u32) false], fun v w => (s_tablefinderref01_sub_l1 big v.1 v.2.1 v.2.2.2.1 v.2.2.2.2.1 w.1).bind fun x0 => s_tablefinderref01_sub_k2 x0⟩
theorem Lc_n70_l1_ok (r : (List Int)) : LpOk F_n70 (b_n70 r).enc r (Lc_n70_l1) (stAt F_n70 [4, 1, 0, 1, 1, 1]) := fun v w hi h0 => by
  obtain ⟨x, hx0, h⟩ := bind_some h0
  exact s_tablefinderref01_sub_l1_ok (r := x) (RT := (b_n70 r).enc) ⟨⟨[tc F_n70 [1, 1, 1, 1]].map TI'.conc ++ [], by kernel_rfl, fun v' w' hi' h' => by obtain rfl := Option.some.inj h'; exact L_n70_k2_ok r v' w' hi' h⟩, trivial⟩ (fun _ ht => nomatch ht) big v w hi hx0
noncomputable def S_s_tablefinderref01_sub : FSig U := ⟨(List Int), [56, 56], [.p, .p], [none, none], [.p (.sl (.int .u32)), .p (.sl (.int .u32))], fun v => s_tablefinderref01_sub v.1 v.2.1, b_n70⟩
theorem S_s_tablefinderref01_sub_ok : SigOk X0.E 139 S_s_tablefinderref01_sub.sig := FSig.ok0 F_n70_ok (R := R_n70) (g := g_n70) (cuts := [([4, 1, 0, 1, 1, 1], Lc_n70_l1)]) (pre := [tc0 F_n70]) rfl Tryd.func139 (by decide) rfl (fun _ => Nat.le_of_ble_eq_true (by kernel_rfl)) (fun _ => rfl) (by kernel_rfl) (fun _ _ h => Eq.trans (by kernel_rfl) h) ⟨rfl, trivial⟩ (fun r => ⟨(Lc_n70_l1_ok r), trivial⟩) fun _ => rfl

/-! ### tablefinder/tablefinderref01.twice -/
noncomputable def c_n71 : Code := bodyOf Tryd.f174
noncomputable def F_n71 : FC U := ⟨X0.at 33, Tryd.f174, c_n71, [(175, S_s_tablefinderref01_trim.sig)], [], [.p], [none]⟩
theorem F_n71_ok : FOk F_n71 := fok uok tok0 eok0 mixed rfl ⟨S_s_tablefinderref01_trim_ok, trivial⟩
noncomputable def R_n71 : RSh := ⟨[.p (.sl (.int .u32))], []⟩
noncomputable def g_n71 (v : RVal U R_n71) : (List Int) := v.1.1
noncomputable def b_n71 (q : (List Int)) : TRet U := R_n71.bld ((q, ()), ())
noncomputable def L_n71_k1 : Lp U (List Int) := ⟨[1, 5], [], [.o (.v (.int .u32)), .o (.full (0, 1, 1))], [.arr (.int .u32) false], fun v w => s_tablefinderref01_twice_k1 v.1 w.1⟩
theorem L_n71_k1_ok (r : (List Int)) : LpOk F_n71 (b_n71 r).enc r (L_n71_k1) ([tc F_n71 [1, 1, 1]].map TI'.conc ++ []) := fun v w hi h => Pt.ev0 F_n71_ok (S := R_n71) (g := g_n71) (b := b_n71) (cuts := []) (pre := [tc F_n71 [1, 1, 1]]) (T := Lp.st F_n71 (L_n71_k1) v w) (by kernel_rfl) hi (Eq.trans (by kernel_rfl) h) ⟨by kernel_rfl, trivial⟩ trivial fun _ => rfl
noncomputable def base_n71_l1 : List Eng.Item := .lp (codeAt F_n71 [5, 4, 1, 0, 1, 1]) :: ([.blk 0, tc F_n71 [1, 1, 1]].map TI'.conc ++ [])
noncomputable def Lh_n71_l1 (rec_ : (List Int) → Int → Int → (List Int) → Option (Int × (List Int))) : Lp U (Int × (List Int)) := ⟨[0, 1, 5, 6], [], [.o (.v (.sl (.int .u32))), .o (.v (.int .u32)), .o (.full (0, 1, 1)), .o (.v (.int .i64))], [.arr (.int .u32) false], fun v w => rec_ v.1 v.2.1 v.2.2.2.1 w.1⟩
noncomputable def Lx_n71_l1 : Lp U (Int × (List Int)) := ⟨[1, 5], [], [.o (.v (.int .u32)), .o (.full (0, 1, 1))], [.arr (.int .u32) false], fun v w => some (v.1, w.1)⟩
theorem s_tablefinderref01_twice_l1_ok {RT : Ret} {r : (Int × (List Int))} (hx : AllExits F_n71 RT r base_n71_l1 [(0, Lx_n71_l1)]) (hr : ∀ t : TRet U, (fun _ => none) t = some r → t.enc = RT) : ∀ n, LpOk F_n71 RT r (Lh_n71_l1 (s_tablefinderref01_twice_l1 n)) (stAt F_n71 [4, 1, 0, 1, 1]) :=
  loop_ok F_n71_ok 4000 (q := [4, 1, 0, 1, 1]) (body := codeAt F_n71 [5, 4, 1, 0, 1, 1]) (live := [0, 1, 5, 6]) (frz := []) (shs := [.o (.v (.sl (.int .u32))), .o (.v (.int .u32)), .o (.full (0, 1, 1)), .o (.v (.int .i64))]) (sho := [.arr (.int .u32) false]) (fun n v w => s_tablefinderref01_twice_l1 n v.1 v.2.1 v.2.2.2.1 w.1) (cuts := fun n => []) (exits := [(0, Lx_n71_l1)]) (ret := (fun _ => none)) (by kernel_rfl) (fun _ _ => rfl) (fun n v w => by kernel_rfl) (fun n hb => trivial) hx hr
noncomputable def Lc_n71_l1 : Lp U (List Int) := ⟨[0, 1, 5, 6], [], [.o (.v (.sl (.int .u32))), .o (.v (.int .u32)), .o (.full (0, 1, 1)), .o (.v (.int .i64))], [.arr (.int .u32) false], fun v w => (s_tablefinderref01_twice_l1 big v.1 v.2.1 v.2.2.2.1 w.1).bind fun (x0, x1) => s_tablefinderref01_twice_k1 x0 x1⟩
theorem Lc_n71_l1_ok (r : (List Int)) : LpOk F_n71 (b_n71 r).enc r (Lc_n71_l1) (stAt F_n71 [4, 1, 0, 1, 1]) := fun v w hi h0 => by
  obtain ⟨x, hx0, h⟩ := bind_some h0
  exact s_tablefinderref01_twice_l1_ok (r := x) (RT := (b_n71 r).enc) ⟨⟨[tc F_n71 [1, 1, 1]].map TI'.conc ++ [], by kernel_rfl, fun v' w' hi' h' => by obtain rfl := Option.some.inj h'; exact L_n71_k1_ok r v' w' hi' h⟩, trivial⟩ (fun _ ht => nomatch ht) big v w hi hx0
noncomputable def S_s_tablefinderref01_twice : FSig U := ⟨(List Int), [56, 167], [.p, .p], [none, none], [.p (.sl (.int .u32)), .p (.int .u32)], fun v => s_tablefinderref01_twice v.1 v.2.1, b_n71⟩
theorem S_s_tablefinderref01_twice_ok : SigOk X0.E 174 S_s_tablefinderref01_twice.sig := FSig.ok0 F_n71_ok (R := R_n71) (g := g_n71) (cuts := [([4, 1, 0, 1, 1], Lc_n71_l1)]) (pre := [tc0 F_n71]) rfl Tryd.func174 (by decide) rfl (fun _ => Nat.le_of_ble_eq_true (by kernel_rfl)) (fun _ => rfl) (by kernel_rfl) (fun _ _ h => Eq.trans (by kernel_rfl) h) ⟨rfl, trivial⟩ (fun r => ⟨(Lc_n71_l1_ok r), trivial⟩) fun _ => rfl

abbrev Tr_n72_0 : Type := (List Int) → (List Int) → Int → Option ((List Int) × (List Int) × Int)
abbrev Tr_n72_1 : Type := (List Int) → (List Int) → Int → Option ((List Int) × Int)
/-! ### tablefinder/tablefinderref01.gcd -/
noncomputable def c_n72 : Code := bodyOf Tryd.f136
noncomputable def F_n72 : FC U := ⟨X0.at 57, Tryd.f136, c_n72, [(173, S_s_tablefinderref01_half.sig), (135, S_s_tablefinderref01_cmp.sig), (139, S_s_tablefinderref01_sub.sig), (174, S_s_tablefinderref01_twice.sig)], [], [.p], [none]⟩
theorem F_n72_ok : FOk F_n72 := fok uok tok0 eok0 mixed rfl ⟨S_s_tablefinderref01_half_ok, S_s_tablefinderref01_cmp_ok, S_s_tablefinderref01_sub_ok, S_s_tablefinderref01_twice_ok, trivial⟩
noncomputable def R_n72 : RSh := ⟨[.p (.sl (.int .u32))], []⟩
noncomputable def g_n72 (v : RVal U R_n72) : (List Int) := v.1.1
noncomputable def b_n72 (q : (List Int)) : TRet U := R_n72.bld ((q, ()), ())
noncomputable def L_n72_k7 : Lp U (List Int) := ⟨[0], [], [.o (.v (.sl (.int .u32)))], [], fun v w => s_tablefinderref01_gcd_k7 v.1⟩
theorem L_n72_k7_ok (r : (List Int)) : LpOk F_n72 (b_n72 r).enc r (L_n72_k7) ([tc F_n72 [1, 1, 1, 1, 1]].map TI'.conc ++ []) := fun v w hi h => Pt.ev0 F_n72_ok (S := R_n72) (g := g_n72) (b := b_n72) (cuts := []) (pre := [tc F_n72 [1, 1, 1, 1, 1]]) (T := Lp.st F_n72 (L_n72_k7) v w) (by kernel_rfl) hi (Eq.trans (by kernel_rfl) h) ⟨by kernel_rfl, trivial⟩ trivial fun _ => rfl
noncomputable def base_n72_l5 : List Eng.Item := .lp (codeAt F_n72 [5, 4, 0, 1, 1, 1, 1]) :: ([.blk 8, tc F_n72 [1, 1, 1, 1, 1]].map TI'.conc ++ [])
noncomputable def Lh_n72_l5 (rec_ : (List Int) → Int → Option (List Int)) : Lp U (List Int) := ⟨[0, 5], [], [.o (.v (.sl (.int .u32))), .o (.v (.int .i64))], [], fun v w => rec_ v.1 v.2.1⟩
noncomputable def Lx_n72_l5 : Lp U (List Int) := ⟨[0], [], [.o (.v (.sl (.int .u32)))], [], fun v w => some v.1⟩
theorem s_tablefinderref01_gcd_l5_ok {RT : Ret} {r : (List Int)} (hx : AllExits F_n72 RT r base_n72_l5 [(8, Lx_n72_l5)]) (hr : ∀ t : TRet U, (fun _ => none) t = some r → t.enc = RT) : ∀ n, LpOk F_n72 RT r (Lh_n72_l5 (s_tablefinderref01_gcd_l5 n)) (stAt F_n72 [4, 0, 1, 1, 1, 1]) :=
  loop_ok F_n72_ok 4000 (q := [4, 0, 1, 1, 1, 1]) (body := codeAt F_n72 [5, 4, 0, 1, 1, 1, 1]) (live := [0, 5]) (frz := []) (shs := [.o (.v (.sl (.int .u32))), .o (.v (.int .i64))]) (sho := []) (fun n v w => s_tablefinderref01_gcd_l5 n v.1 v.2.1) (cuts := fun n => []) (exits := [(8, Lx_n72_l5)]) (ret := (fun _ => none)) (by kernel_rfl) (fun _ _ => rfl) (fun n v w => by kernel_rfl) (fun n hb => trivial) hx hr
noncomputable def Lc_n72_l5 : Lp U (List Int) := ⟨[0, 5], [], [.o (.v (.sl (.int .u32))), .o (.v (.int .i64))], [], fun v w => (s_tablefinderref01_gcd_l5 big v.1 v.2.1).bind fun x0 => s_tablefinderref01_gcd_k7 x0⟩
theorem Lc_n72_l5_ok (r : (List Int)) : LpOk F_n72 (b_n72 r).enc r (Lc_n72_l5) (stAt F_n72 [4, 0, 1, 1, 1, 1]) := fun v w hi h0 => by
  obtain ⟨x, hx0, h⟩ := bind_some h0
  exact s_tablefinderref01_gcd_l5_ok (r := x) (RT := (b_n72 r).enc) ⟨⟨[tc F_n72 [1, 1, 1, 1, 1]].map TI'.conc ++ [], by kernel_rfl, fun v' w' hi' h' => by obtain rfl := Option.some.inj h'; exact L_n72_k7_ok r v' w' hi' h⟩, trivial⟩ (fun _ ht => nomatch ht) big v w hi hx0
noncomputable def L_n72_k6 : Lp U (List Int) := ⟨[0, 5], [], [.o (.v (.sl (.int .u32))), .o (.v (.int .i64))], [], fun v w => s_tablefinderref01_gcd_k6 v.1 v.2.1⟩
theorem L_n72_k6_ok (r : (List Int)) : LpOk F_n72 (b_n72 r).enc r (L_n72_k6) ([tc F_n72 [1, 1, 1, 1]].map TI'.conc ++ []) := fun v w hi h => Pt.ev0 F_n72_ok (S := R_n72) (g := g_n72) (b := b_n72) (cuts := [([4, 0, 1, 1, 1, 1], Lc_n72_l5)]) (pre := [tc F_n72 [1, 1, 1, 1]]) (T := Lp.st F_n72 (L_n72_k6) v w) (by kernel_rfl) hi (Eq.trans (by kernel_rfl) h) ⟨by kernel_rfl, trivial⟩ ⟨(Lc_n72_l5_ok r), trivial⟩ fun _ => rfl
noncomputable def base_n72_l2 : List Eng.Item := .lp (codeAt F_n72 [5, 4, 0, 1, 1, 1]) :: ([.blk 2, tc F_n72 [1, 1, 1, 1]].map TI'.conc ++ [])
noncomputable def Lh_n72_l2 (rec_ : Tr_n72_1) : Lp U ((List Int) × Int) := ⟨[0, 1, 5], [], [.o (.v (.sl (.int .u32))), .o (.v (.sl (.int .u32))), .o (.v (.int .i64))], [], fun v w => rec_ v.1 v.2.1 v.2.2.1⟩
noncomputable def Lx_n72_l2 : Lp U ((List Int) × Int) := ⟨[0, 5], [], [.o (.v (.sl (.int .u32))), .o (.v (.int .i64))], [], fun v w => some (v.1, v.2.1)⟩
noncomputable def L_n72_j5 (rec_ : Tr_n72_1) : Lp U ((List Int) × Int) := ⟨[0, 1, 5], [], [.o (.v (.sl (.int .u32))), .o (.v (.sl (.int .u32))), .o (.v (.int .i64))], [], fun v w => s_tablefinderref01_gcd_j5 rec_ v.1 v.2.1 v.2.2.1⟩
theorem L_n72_j5_ok {RT : Ret} {r : ((List Int) × Int)} {rec_ : Tr_n72_1} (hb : LpOk F_n72 RT r (Lh_n72_l2 rec_) base_n72_l2) (hx : AllExits F_n72 RT r base_n72_l2 [(2, Lx_n72_l2)]) (hr : ∀ t : TRet U, (fun _ => none) t = some r → t.enc = RT) : LpOk F_n72 RT r (L_n72_j5 rec_) (stAt F_n72 [1, 1, 1, 4, 1, 5, 4, 0, 1, 1, 1]) := fun v w hi h => Pt.evlAt F_n72_ok (r := r) 4000 (cuts := []) (back := (some (Lh_n72_l2 rec_))) (exits := [(2, Lx_n72_l2)]) (ret := (fun _ => none)) (base := base_n72_l2) (pre := [tc F_n72 [1, 1, 1, 4, 1, 5, 4, 0, 1, 1, 1], .blk 3]) (T := Lp.st F_n72 (L_n72_j5 rec_) v w) (by kernel_rfl) hi (Eq.trans (by kernel_rfl) h) ⟨by kernel_rfl, trivial⟩ trivial (fun L hL => by cases hL; exact hb) (fun hn => nomatch hn) hx hr
noncomputable def L_n72_k4 (rec_ : Tr_n72_1) : Lp U ((List Int) × Int) := ⟨[0, 1, 5], [], [.o (.v (.sl (.int .u32))), .o (.v (.sl (.int .u32))), .o (.v (.int .i64))], [], fun v w => s_tablefinderref01_gcd_k4 rec_ v.1 v.2.1 v.2.2.1⟩
theorem L_n72_k4_ok {RT : Ret} {r : ((List Int) × Int)} {rec_ : Tr_n72_1} (hb : LpOk F_n72 RT r (Lh_n72_l2 rec_) base_n72_l2) (hx : AllExits F_n72 RT r base_n72_l2 [(2, Lx_n72_l2)]) (hr : ∀ t : TRet U, (fun _ => none) t = some r → t.enc = RT) : LpOk F_n72 RT r (L_n72_k4 rec_) ([tc F_n72 [1, 1, 4, 1, 5, 4, 0, 1, 1, 1], .blk 3].map TI'.conc ++ base_n72_l2) := fun v w hi h => Pt.evlAt F_n72_ok (r := r) 4000 (cuts := [([1, 1, 1, 4, 1, 5, 4, 0, 1, 1, 1], (L_n72_j5 rec_))]) (back := (some (Lh_n72_l2 rec_))) (exits := [(2, Lx_n72_l2)]) (ret := (fun _ => none)) (base := base_n72_l2) (pre := [tc F_n72 [1, 1, 4, 1, 5, 4, 0, 1, 1, 1], .blk 3]) (T := Lp.st F_n72 (L_n72_k4 rec_) v w) (by kernel_rfl) hi (Eq.trans (by kernel_rfl) h) ⟨by kernel_rfl, trivial⟩ ⟨(L_n72_j5_ok hb hx hr), trivial⟩ (fun L hL => by cases hL; exact hb) (fun hn => nomatch hn) hx hr
noncomputable def base_n72_l4 : List Eng.Item := .lp (codeAt F_n72 [5, 4, 0, 1, 4, 1, 5, 4, 0, 1, 1, 1]) :: ([.blk 6, tc F_n72 [1, 1, 4, 1, 5, 4, 0, 1, 1, 1], .blk 3].map TI'.conc ++ base_n72_l2)
noncomputable def Lh_n72_l4 (rec_ : Tr_n72_0) : Lp U ((List Int) × (List Int) × Int) := ⟨[0, 1, 5], [], [.o (.v (.sl (.int .u32))), .o (.v (.sl (.int .u32))), .o (.v (.int .i64))], [], fun v w => rec_ v.1 v.2.1 v.2.2.1⟩
noncomputable def Lx_n72_l4 : Lp U ((List Int) × (List Int) × Int) := ⟨[0, 1, 5], [], [.o (.v (.sl (.int .u32))), .o (.v (.sl (.int .u32))), .o (.v (.int .i64))], [], fun v w => some (v.1, v.2.1, v.2.2.1)⟩
theorem s_tablefinderref01_gcd_l4_ok {RT : Ret} {r : ((List Int) × (List Int) × Int)} (hx : AllExits F_n72 RT r base_n72_l4 [(6, Lx_n72_l4)]) (hr : ∀ t : TRet U, (fun _ => none) t = some r → t.enc = RT) : ∀ n, LpOk F_n72 RT r (Lh_n72_l4 (s_tablefinderref01_gcd_l4 n)) (stAt F_n72 [4, 0, 1, 4, 1, 5, 4, 0, 1, 1, 1]) :=
  loop_ok F_n72_ok 4000 (q := [4, 0, 1, 4, 1, 5, 4, 0, 1, 1, 1]) (body := codeAt F_n72 [5, 4, 0, 1, 4, 1, 5, 4, 0, 1, 1, 1]) (live := [0, 1, 5]) (frz := []) (shs := [.o (.v (.sl (.int .u32))), .o (.v (.sl (.int .u32))), .o (.v (.int .i64))]) (sho := []) (fun n v w => s_tablefinderref01_gcd_l4 n v.1 v.2.1 v.2.2.1) (cuts := fun n => []) (exits := [(6, Lx_n72_l4)]) (ret := (fun _ => none)) (by kernel_rfl) (fun _ _ => rfl) (fun n v w => by kernel_rfl) (fun n hb => trivial) hx hr
noncomputable def Lc_n72_l4 (rec_ : Tr_n72_1) : Lp U ((List Int) × Int) := ⟨[0, 1, 5], [], [.o (.v (.sl (.int .u32))), .o (.v (.sl (.int .u32))), .o (.v (.int .i64))], [], fun v w => (s_tablefinderref01_gcd_l4 big v.1 v.2.1 v.2.2.1).bind fun (x0, x1, x2) => s_tablefinderref01_gcd_k4 rec_ x0 x1 x2⟩
theorem Lc_n72_l4_ok {RT : Ret} {r : ((List Int) × Int)} {rec_ : Tr_n72_1} (hb : LpOk F_n72 RT r (Lh_n72_l2 rec_) base_n72_l2) (hx : AllExits F_n72 RT r base_n72_l2 [(2, Lx_n72_l2)]) (hr : ∀ t : TRet U, (fun _ => none) t = some r → t.enc = RT) : LpOk F_n72 RT r (Lc_n72_l4 rec_) (stAt F_n72 [4, 0, 1, 4, 1, 5, 4, 0, 1, 1, 1]) := fun v w hi h0 => by
  obtain ⟨x, hx0, h⟩ := bind_some h0
  exact s_tablefinderref01_gcd_l4_ok (r := x) (RT := RT) ⟨⟨[tc F_n72 [1, 1, 4, 1, 5, 4, 0, 1, 1, 1], .blk 3].map TI'.conc ++ base_n72_l2, by kernel_rfl, fun v' w' hi' h' => by obtain rfl := Option.some.inj h'; exact L_n72_k4_ok hb hx hr v' w' hi' h⟩, trivial⟩ (fun _ ht => nomatch ht) big v w hi hx0
noncomputable def L_n72_k3 (rec_ : Tr_n72_1) : Lp U ((List Int) × Int) := ⟨[0, 1, 5], [], [.o (.v (.sl (.int .u32))), .o (.v (.sl (.int .u32))), .o (.v (.int .i64))], [], fun v w => s_tablefinderref01_gcd_k3 rec_ v.1 v.2.1 v.2.2.1⟩
theorem L_n72_k3_ok {RT : Ret} {r : ((List Int) × Int)} {rec_ : Tr_n72_1} (hb : LpOk F_n72 RT r (Lh_n72_l2 rec_) base_n72_l2) (hx : AllExits F_n72 RT r base_n72_l2 [(2, Lx_n72_l2)]) (hr : ∀ t : TRet U, (fun _ => none) t = some r → t.enc = RT) : LpOk F_n72 RT r (L_n72_k3 rec_) ([tc F_n72 [1, 4, 1, 5, 4, 0, 1, 1, 1], .blk 3].map TI'.conc ++ base_n72_l2) := fun v w hi h => Pt.evlAt F_n72_ok (r := r) 4000 (cuts := [([4, 0, 1, 4, 1, 5, 4, 0, 1, 1, 1], (Lc_n72_l4 rec_))]) (back := (some (Lh_n72_l2 rec_))) (exits := [(2, Lx_n72_l2)]) (ret := (fun _ => none)) (base := base_n72_l2) (pre := [tc F_n72 [1, 4, 1, 5, 4, 0, 1, 1, 1], .blk 3]) (T := Lp.st F_n72 (L_n72_k3 rec_) v w) (by kernel_rfl) hi (Eq.trans (by kernel_rfl) h) ⟨by kernel_rfl, trivial⟩ ⟨(Lc_n72_l4_ok hb hx hr), trivial⟩ (fun L hL => by cases hL; exact hb) (fun hn => nomatch hn) hx hr
noncomputable def base_n72_l3 : List Eng.Item := .lp (codeAt F_n72 [5, 4, 0, 4, 1, 5, 4, 0, 1, 1, 1]) :: ([.blk 4, tc F_n72 [1, 4, 1, 5, 4, 0, 1, 1, 1], .blk 3].map TI'.conc ++ base_n72_l2)
noncomputable def Lh_n72_l3 (rec_ : Tr_n72_0) : Lp U ((List Int) × (List Int) × Int) := ⟨[0, 1, 5], [], [.o (.v (.sl (.int .u32))), .o (.v (.sl (.int .u32))), .o (.v (.int .i64))], [], fun v w => rec_ v.1 v.2.1 v.2.2.1⟩
noncomputable def Lx_n72_l3 : Lp U ((List Int) × (List Int) × Int) := ⟨[0, 1, 5], [], [.o (.v (.sl (.int .u32))), .o (.v (.sl (.int .u32))), .o (.v (.int .i64))], [], fun v w => some (v.1, v.2.1, v.2.2.1)⟩
theorem s_tablefinderref01_gcd_l3_ok {RT : Ret} {r : ((List Int) × (List Int) × Int)} (hx : AllExits F_n72 RT r base_n72_l3 [(4, Lx_n72_l3)]) (hr : ∀ t : TRet U, (fun _ => none) t = some r → t.enc = RT) : ∀ n, LpOk F_n72 RT r (Lh_n72_l3 (s_tablefinderref01_gcd_l3 n)) (stAt F_n72 [4, 0, 4, 1, 5, 4, 0, 1, 1, 1]) :=
  loop_ok F_n72_ok 4000 (q := [4, 0, 4, 1, 5, 4, 0, 1, 1, 1]) (body := codeAt F_n72 [5, 4, 0, 4, 1, 5, 4, 0, 1, 1, 1]) (live := [0, 1, 5]) (frz := []) (shs := [.o (.v (.sl (.int .u32))), .o (.v (.sl (.int .u32))), .o (.v (.int .i64))]) (sho := []) (fun n v w => s_tablefinderref01_gcd_l3 n v.1 v.2.1 v.2.2.1) (cuts := fun n => []) (exits := [(4, Lx_n72_l3)]) (ret := (fun _ => none)) (by kernel_rfl) (fun _ _ => rfl) (fun n v w => by kernel_rfl) (fun n hb => trivial) hx hr
noncomputable def Lc_n72_l3 (rec_ : Tr_n72_1) : Lp U ((List Int) × Int) := ⟨[0, 1, 5], [], [.o (.v (.sl (.int .u32))), .o (.v (.sl (.int .u32))), .o (.v (.int .i64))], [], fun v w => (s_tablefinderref01_gcd_l3 big v.1 v.2.1 v.2.2.1).bind fun (x0, x1, x2) => s_tablefinderref01_gcd_k3 rec_ x0 x1 x2⟩
theorem Lc_n72_l3_ok {RT : Ret} {r : ((List Int) × Int)} {rec_ : Tr_n72_1} (hb : LpOk F_n72 RT r (Lh_n72_l2 rec_) base_n72_l2) (hx : AllExits F_n72 RT r base_n72_l2 [(2, Lx_n72_l2)]) (hr : ∀ t : TRet U, (fun _ => none) t = some r → t.enc = RT) : LpOk F_n72 RT r (Lc_n72_l3 rec_) (stAt F_n72 [4, 0, 4, 1, 5, 4, 0, 1, 1, 1]) := fun v w hi h0 => by
  obtain ⟨x, hx0, h⟩ := bind_some h0
  exact s_tablefinderref01_gcd_l3_ok (r := x) (RT := RT) ⟨⟨[tc F_n72 [1, 4, 1, 5, 4, 0, 1, 1, 1], .blk 3].map TI'.conc ++ base_n72_l2, by kernel_rfl, fun v' w' hi' h' => by obtain rfl := Option.some.inj h'; exact L_n72_k3_ok hb hx hr v' w' hi' h⟩, trivial⟩ (fun _ ht => nomatch ht) big v w hi hx0
theorem s_tablefinderref01_gcd_l2_ok {RT : Ret} {r : ((List Int) × Int)} (hx : AllExits F_n72 RT r base_n72_l2 [(2, Lx_n72_l2)]) (hr : ∀ t : TRet U, (fun _ => none) t = some r → t.enc = RT) : ∀ n, LpOk F_n72 RT r (Lh_n72_l2 (s_tablefinderref01_gcd_l2 n)) (stAt F_n72 [4, 0, 1, 1, 1]) :=
  loop_ok F_n72_ok 4000 (q := [4, 0, 1, 1, 1]) (body := codeAt F_n72 [5, 4, 0, 1, 1, 1]) (live := [0, 1, 5]) (frz := []) (shs := [.o (.v (.sl (.int .u32))), .o (.v (.sl (.int .u32))), .o (.v (.int .i64))]) (sho := []) (fun n v w => s_tablefinderref01_gcd_l2 n v.1 v.2.1 v.2.2.1) (cuts := fun n => [([4, 0, 4, 1, 5, 4, 0, 1, 1, 1], Lc_n72_l3 (s_tablefinderref01_gcd_l2 n))]) (exits := [(2, Lx_n72_l2)]) (ret := (fun _ => none)) (by kernel_rfl) (fun _ _ => rfl) (fun n v w => by kernel_rfl) (fun n hb => ⟨Lc_n72_l3_ok hb hx hr, trivial⟩) hx hr
noncomputable def Lc_n72_l2 : Lp U (List Int) := ⟨[0, 1, 5], [], [.o (.v (.sl (.int .u32))), .o (.v (.sl (.int .u32))), .o (.v (.int .i64))], [], fun v w => (s_tablefinderref01_gcd_l2 big v.1 v.2.1 v.2.2.1).bind fun (x0, x1) => s_tablefinderref01_gcd_k6 x0 x1⟩
theorem Lc_n72_l2_ok (r : (List Int)) : LpOk F_n72 (b_n72 r).enc r (Lc_n72_l2) (stAt F_n72 [4, 0, 1, 1, 1]) := fun v w hi h0 => by
  obtain ⟨x, hx0, h⟩ := bind_some h0
  exact s_tablefinderref01_gcd_l2_ok (r := x) (RT := (b_n72 r).enc) ⟨⟨[tc F_n72 [1, 1, 1, 1]].map TI'.conc ++ [], by kernel_rfl, fun v' w' hi' h' => by obtain rfl := Option.some.inj h'; exact L_n72_k6_ok r v' w' hi' h⟩, trivial⟩ (fun _ ht => nomatch ht) big v w hi hx0
noncomputable def L_n72_k2 : Lp U (List Int) := ⟨[0, 1, 5], [], [.o (.v (.sl (.int .u32))), .o (.v (.sl (.int .u32))), .o (.v (.int .i64))], [], fun v w => s_tablefinderref01_gcd_k2 v.1 v.2.1 v.2.2.1⟩
theorem L_n72_k2_ok (r : (List Int)) : LpOk F_n72 (b_n72 r).enc r (L_n72_k2) ([tc F_n72 [1, 1, 1]].map TI'.conc ++ []) := fun v w hi h => Pt.ev0 F_n72_ok (S := R_n72) (g := g_n72) (b := b_n72) (cuts := [([4, 0, 1, 1, 1], Lc_n72_l2)]) (pre := [tc F_n72 [1, 1, 1]]) (T := Lp.st F_n72 (L_n72_k2) v w) (by kernel_rfl) hi (Eq.trans (by kernel_rfl) h) ⟨by kernel_rfl, trivial⟩ ⟨(Lc_n72_l2_ok r), trivial⟩ fun _ => rfl
noncomputable def base_n72_l1 : List Eng.Item := .lp (codeAt F_n72 [5, 4, 0, 1, 1]) :: ([.blk 0, tc F_n72 [1, 1, 1]].map TI'.conc ++ [])
noncomputable def Lh_n72_l1 (rec_ : Tr_n72_0) : Lp U ((List Int) × (List Int) × Int) := ⟨[0, 1, 5], [], [.o (.v (.sl (.int .u32))), .o (.v (.sl (.int .u32))), .o (.v (.int .i64))], [], fun v w => rec_ v.1 v.2.1 v.2.2.1⟩
noncomputable def Lx_n72_l1 : Lp U ((List Int) × (List Int) × Int) := ⟨[0, 1, 5], [], [.o (.v (.sl (.int .u32))), .o (.v (.sl (.int .u32))), .o (.v (.int .i64))], [], fun v w => some (v.1, v.2.1, v.2.2.1)⟩
noncomputable def L_n72_j1 (rec_ : Tr_n72_0) : Lp U ((List Int) × (List Int) × Int) := ⟨[0, 1, 5, 17], [], [.o (.v (.sl (.int .u32))), .o (.v (.sl (.int .u32))), .o (.v (.int .i64)), .o (.v .bool)], [], fun v w => s_tablefinderref01_gcd_j1 rec_ v.1 v.2.1 v.2.2.1 v.2.2.2.1⟩
theorem L_n72_j1_ok {RT : Ret} {r : ((List Int) × (List Int) × Int)} {rec_ : Tr_n72_0} (hb : LpOk F_n72 RT r (Lh_n72_l1 rec_) base_n72_l1) (hx : AllExits F_n72 RT r base_n72_l1 [(0, Lx_n72_l1)]) (hr : ∀ t : TRet U, (fun _ => none) t = some r → t.enc = RT) : LpOk F_n72 RT r (L_n72_j1 rec_) (stAt F_n72 [1, 0, 5, 4, 0, 1, 1]) := fun v w hi h => Pt.evlAt F_n72_ok (r := r) 4000 (cuts := []) (back := (some (Lh_n72_l1 rec_))) (exits := [(0, Lx_n72_l1)]) (ret := (fun _ => none)) (base := base_n72_l1) (pre := [tc F_n72 [1, 0, 5, 4, 0, 1, 1], tc F_n72 [1, 5, 4, 0, 1, 1]]) (T := Lp.st F_n72 (L_n72_j1 rec_) v w) (by kernel_rfl) hi (Eq.trans (by kernel_rfl) h) ⟨by kernel_rfl, by kernel_rfl, trivial⟩ trivial (fun L hL => by cases hL; exact hb) (fun hn => nomatch hn) hx hr
theorem s_tablefinderref01_gcd_l1_ok {RT : Ret} {r : ((List Int) × (List Int) × Int)} (hx : AllExits F_n72 RT r base_n72_l1 [(0, Lx_n72_l1)]) (hr : ∀ t : TRet U, (fun _ => none) t = some r → t.enc = RT) : ∀ n, LpOk F_n72 RT r (Lh_n72_l1 (s_tablefinderref01_gcd_l1 n)) (stAt F_n72 [4, 0, 1, 1]) :=
  loop_ok F_n72_ok 4000 (q := [4, 0, 1, 1]) (body := codeAt F_n72 [5, 4, 0, 1, 1]) (live := [0, 1, 5]) (frz := []) (shs := [.o (.v (.sl (.int .u32))), .o (.v (.sl (.int .u32))), .o (.v (.int .i64))]) (sho := []) (fun n v w => s_tablefinderref01_gcd_l1 n v.1 v.2.1 v.2.2.1) (cuts := fun n => [([1, 0, 5, 4, 0, 1, 1], L_n72_j1 (s_tablefinderref01_gcd_l1 n))]) (exits := [(0, Lx_n72_l1)]) (ret := (fun _ => none)) (by kernel_rfl) (fun _ _ => rfl) (fun n v w => by kernel_rfl) (fun n hb => ⟨L_n72_j1_ok hb hx hr, trivial⟩) hx hr
noncomputable def Lc_n72_l1 : Lp U (List Int) := ⟨[0, 1, 5], [], [.o (.v (.sl (.int .u32))), .o (.v (.sl (.int .u32))), .o (.v (.int .i64))], [], fun v w => (s_tablefinderref01_gcd_l1 big v.1 v.2.1 v.2.2.1).bind fun (x0, x1, x2) => s_tablefinderref01_gcd_k2 x0 x1 x2⟩
theorem Lc_n72_l1_ok (r : (List Int)) : LpOk F_n72 (b_n72 r).enc r (Lc_n72_l1) (stAt F_n72 [4, 0, 1, 1]) := fun v w hi h0 => by
  obtain ⟨x, hx0, h⟩ := bind_some h0
  exact s_tablefinderref01_gcd_l1_ok (r := x) (RT := (b_n72 r).enc) ⟨⟨[tc F_n72 [1, 1, 1]].map TI'.conc ++ [], by kernel_rfl, fun v' w' hi' h' => by obtain rfl := Option.some.inj h'; exact L_n72_k2_ok r v' w' hi' h⟩, trivial⟩ (fun _ ht => nomatch ht) big v w hi hx0
noncomputable def S_s_tablefinderref01_gcd : FSig U := ⟨(List Int), [56, 56], [.p, .p], [none, none], [.p (.sl (.int .u32)), .p (.sl (.int .u32))], fun v => s_tablefinderref01_gcd v.1 v.2.1, b_n72⟩
theorem S_s_tablefinderref01_gcd_ok : SigOk X0.E 136 S_s_tablefinderref01_gcd.sig := FSig.ok0 F_n72_ok (R := R_n72) (g := g_n72) (cuts := [([4, 0, 1, 1], Lc_n72_l1)]) (pre := [tc0 F_n72]) rfl Tryd.func136 (by decide) rfl (fun _ => Nat.le_of_ble_eq_true (by kernel_rfl)) (fun _ => rfl) (by kernel_rfl) (fun _ _ h => Eq.trans (by kernel_rfl) h) ⟨rfl, trivial⟩ (fun r => ⟨(Lc_n72_l1_ok r), trivial⟩) fun _ => rfl

/-! ### tablefinder/tablefinderref01.bit -/
noncomputable def c_n73 : Code := bodyOf Tryd.f205
noncomputable def F_n73 : FC U := ⟨X0.at 15, Tryd.f205, c_n73, [], [], [.p], [none]⟩
theorem F_n73_ok : FOk F_n73 := fok uok tok0 eok0 mixed rfl trivial
noncomputable def R_n73 : RSh := ⟨[.p (.int .u32)], []⟩
noncomputable def g_n73 (v : RVal U R_n73) : Int := v.1.1
noncomputable def b_n73 (q : Int) : TRet U := R_n73.bld ((q, ()), ())
noncomputable def S_s_tablefinderref01_bit : FSig U := ⟨Int, [56, 3], [.p, .p], [none, none], [.p (.sl (.int .u32)), .p (.int .i64)], fun v => s_tablefinderref01_bit v.1 v.2.1, b_n73⟩
theorem S_s_tablefinderref01_bit_ok : SigOk X0.E 205 S_s_tablefinderref01_bit.sig := FSig.ok0 F_n73_ok (R := R_n73) (g := g_n73) (cuts := []) (pre := [tc0 F_n73]) rfl Tryd.func205 (by decide) rfl (fun _ => Nat.le_of_ble_eq_true (by kernel_rfl)) (fun _ => rfl) (by kernel_rfl) (fun _ _ h => Eq.trans (by kernel_rfl) h) ⟨rfl, trivial⟩ (fun r => trivial) fun _ => rfl

abbrev Tr_n74_0 : Type := (List Int) → (List Int) → (List Int) → Int → (List Int) → Option ((List Int) × (List Int))
/-! ### tablefinder/tablefinderref01.div -/
noncomputable def c_n74 : Code := bodyOf Tryd.f183
noncomputable def F_n74 : FC U := ⟨X0.at 44, Tryd.f183, c_n74, [(205, S_s_tablefinderref01_bit.sig), (174, S_s_tablefinderref01_twice.sig), (135, S_s_tablefinderref01_cmp.sig), (139, S_s_tablefinderref01_sub.sig), (175, S_s_tablefinderref01_trim.sig)], [], [.p, .p], [none, none]⟩
theorem F_n74_ok : FOk F_n74 := fok uok tok0 eok0 mixed rfl ⟨S_s_tablefinderref01_bit_ok, S_s_tablefinderref01_twice_ok, S_s_tablefinderref01_cmp_ok, S_s_tablefinderref01_sub_ok, S_s_tablefinderref01_trim_ok, trivial⟩
noncomputable def R_n74 : RSh := ⟨[.p (.sl (.int .u32)), .p (.sl (.int .u32))], []⟩
noncomputable def g_n74 (v : RVal U R_n74) : ((List Int) × (List Int)) := (v.1.1, v.1.2.1)
noncomputable def b_n74 (q : ((List Int) × (List Int))) : TRet U := R_n74.bld ((q.1, (q.2, ())), ())
noncomputable def L_n74_k2 : Lp U ((List Int) × (List Int)) := ⟨[4, 5], [], [.o (.full (0, 1, 1)), .o (.v (.sl (.int .u32)))], [.arr (.int .u32) false], fun v w => s_tablefinderref01_div_k2 v.2.1 w.1⟩
theorem L_n74_k2_ok (r : ((List Int) × (List Int))) : LpOk F_n74 (b_n74 r).enc r (L_n74_k2) ([tc F_n74 [1, 1, 1]].map TI'.conc ++ []) := fun v w hi h => Pt.ev0 F_n74_ok (S := R_n74) (g := g_n74) (b := b_n74) (cuts := []) (pre := [tc F_n74 [1, 1, 1]]) (T := Lp.st F_n74 (L_n74_k2) v w) (by kernel_rfl) hi (Eq.trans (by kernel_rfl) h) ⟨by kernel_rfl, trivial⟩ trivial fun _ => rfl
noncomputable def base_n74_l1 : List Eng.Item := .lp (codeAt F_n74 [5, 4, 1, 0, 1, 1]) :: ([.blk 0, tc F_n74 [1, 1, 1]].map TI'.conc ++ [])
noncomputable def Lh_n74_l1 (rec_ : Tr_n74_0) : Lp U ((List Int) × (List Int)) := ⟨[0, 1, 4, 5, 6], [5], [.o (.v (.sl (.int .u32))), .o (.v (.sl (.int .u32))), .o (.full (0, 1, 1)), .o (.v (.sl (.int .u32))), .o (.v (.int .i64))], [.arr (.int .u32) false], fun v w => rec_ v.1 v.2.1 v.2.2.2.1 v.2.2.2.2.1 w.1⟩
noncomputable def Lx_n74_l1 : Lp U ((List Int) × (List Int)) := ⟨[4, 5], [], [.o (.full (0, 1, 1)), .o (.v (.sl (.int .u32)))], [.arr (.int .u32) false], fun v w => some (v.2.1, w.1)⟩
noncomputable def L_n74_j1 (rec_ : Tr_n74_0) : Lp U ((List Int) × (List Int)) := ⟨[0, 1, 4, 5, 6], [], [.o (.v (.sl (.int .u32))), .o (.v (.sl (.int .u32))), .o (.full (0, 1, 1)), .o (.v (.sl (.int .u32))), .o (.v (.int .i64))], [.arr (.int .u32) false], fun v w => s_tablefinderref01_div_j1 rec_ v.1 v.2.1 v.2.2.2.1 v.2.2.2.2.1 w.1⟩
theorem L_n74_j1_ok {RT : Ret} {r : ((List Int) × (List Int))} {rec_ : Tr_n74_0} (hb : LpOk F_n74 RT r (Lh_n74_l1 rec_) base_n74_l1) (hx : AllExits F_n74 RT r base_n74_l1 [(0, Lx_n74_l1)]) (hr : ∀ t : TRet U, (fun _ => none) t = some r → t.enc = RT) : LpOk F_n74 RT r (L_n74_j1 rec_) (stAt F_n74 [1, 1, 5, 4, 1, 0, 1, 1]) := fun v w hi h => Pt.evlAt F_n74_ok (r := r) 4000 (cuts := []) (back := (some (Lh_n74_l1 rec_))) (exits := [(0, Lx_n74_l1)]) (ret := (fun _ => none)) (base := base_n74_l1) (pre := [tc F_n74 [1, 1, 5, 4, 1, 0, 1, 1]]) (T := Lp.st F_n74 (L_n74_j1 rec_) v w) (by kernel_rfl) hi (Eq.trans (by kernel_rfl) h) ⟨by kernel_rfl, trivial⟩ trivial (fun L hL => by cases hL; exact hb) (fun hn => nomatch hn) hx hr
theorem s_tablefinderref01_div_l1_ok {RT : Ret} {r : ((List Int) × (List Int))} (hx : AllExits F_n74 RT r base_n74_l1 [(0, Lx_n74_l1)]) (hr : ∀ t : TRet U, (fun _ => none) t = some r → t.enc = RT) : ∀ n, LpOk F_n74 RT r (Lh_n74_l1 (s_tablefinderref01_div_l1 n)) (stAt F_n74 [4, 1, 0, 1, 1]) :=
  loop_ok F_n74_ok 4000 (q := [4, 1, 0, 1, 1]) (body := codeAt F_n74 [5, 4, 1, 0, 1, 1]) (live := [0, 1, 4, 5, 6]) (frz := [5]) (shs := [.o (.v (.sl (.int .u32))), .o (.v (.sl (.int .u32))), .o (.full (0, 1, 1)), .o (.v (.sl (.int .u32))), .o (.v (.int .i64))]) (sho := [.arr (.int .u32) false]) (fun n v w => s_tablefinderref01_div_l1 n v.1 v.2.1 v.2.2.2.1 v.2.2.2.2.1 w.1) (cuts := fun n => [([1, 1, 5, 4, 1, 0, 1, 1], L_n74_j1 (s_tablefinderref01_div_l1 n))]) (exits := [(0, Lx_n74_l1)]) (ret := (fun _ => none)) (by kernel_rfl) (fun _ _ => rfl) (fun n v w => by kernel_rfl) (fun n hb => ⟨L_n74_j1_ok hb hx hr, trivial⟩) hx hr
noncomputable def Lc_n74_l1 : Lp U ((List Int) × (List Int)) := ⟨[0, 1, 4, 5, 6], [5], [.o (.v (.sl (.int .u32))), .o (.v (.sl (.int .u32))), .o (.full (0, 1, 1)), .o (.v (.sl (.int .u32))), .o (.v (.int .i64))], [.arr (.int .u32) false], fun v w => (s_tablefinderref01_div_l1 big v.1 v.2.1 v.2.2.2.1 v.2.2.2.2.1 w.1).bind fun (x0, x1) => s_tablefinderref01_div_k2 x0 x1⟩
theorem Lc_n74_l1_ok (r : ((List Int) × (List Int))) : LpOk F_n74 (b_n74 r).enc r (Lc_n74_l1) (stAt F_n74 [4, 1, 0, 1, 1]) := fun v w hi h0 => by
  obtain ⟨x, hx0, h⟩ := bind_some h0
  exact s_tablefinderref01_div_l1_ok (r := x) (RT := (b_n74 r).enc) ⟨⟨[tc F_n74 [1, 1, 1]].map TI'.conc ++ [], by kernel_rfl, fun v' w' hi' h' => by obtain rfl := Option.some.inj h'; exact L_n74_k2_ok r v' w' hi' h⟩, trivial⟩ (fun _ ht => nomatch ht) big v w hi hx0
noncomputable def S_s_tablefinderref01_div : FSig U := ⟨((List Int) × (List Int)), [56, 56], [.p, .p], [none, none], [.p (.sl (.int .u32)), .p (.sl (.int .u32))], fun v => s_tablefinderref01_div v.1 v.2.1, b_n74⟩
theorem S_s_tablefinderref01_div_ok : SigOk X0.E 183 S_s_tablefinderref01_div.sig := FSig.ok0 F_n74_ok (R := R_n74) (g := g_n74) (cuts := [([4, 1, 0, 1, 1], Lc_n74_l1)]) (pre := [tc0 F_n74]) rfl Tryd.func183 (by decide) rfl (fun _ => Nat.le_of_ble_eq_true (by kernel_rfl)) (fun _ => rfl) (by kernel_rfl) (fun _ _ h => Eq.trans (by kernel_rfl) h) ⟨rfl, trivial⟩ (fun r => ⟨(Lc_n74_l1_ok r), trivial⟩) fun _ => rfl

/-! ### tablefinder/tablefinderref01.lowest -/
noncomputable def c_n75 : Code := bodyOf Tryd.f160
noncomputable def F_n75 : FC U := ⟨X0.at 45, Tryd.f160, c_n75, [(162, S_s_tablefinderref01_FromInt.sig), (136, S_s_tablefinderref01_gcd.sig), (183, S_s_tablefinderref01_div.sig), (137, S_s_tablefinderref01_big.sig)], [], [.p], [some 10]⟩
theorem F_n75_ok : FOk F_n75 := fok uok tok0 eok0 mixed rfl ⟨S_s_tablefinderref01_FromInt_ok, S_s_tablefinderref01_gcd_ok, S_s_tablefinderref01_div_ok, S_s_tablefinderref01_big_ok, trivial⟩
noncomputable def R_n75 : RSh := ⟨[.p (.st 10)], []⟩
noncomputable def g_n75 (v : RVal U R_n75) : G_api_Fraction := v.1.1
noncomputable def b_n75 (q : G_api_Fraction) : TRet U := R_n75.bld ((q, ()), ())
noncomputable def S_s_tablefinderref01_lowest : FSig U := ⟨G_api_Fraction, [58, 58], [.p, .p], [some 9, some 9], [.p (.st 9), .p (.st 9)], fun v => s_tablefinderref01_lowest v.1 v.2.1, b_n75⟩
theorem S_s_tablefinderref01_lowest_ok : SigOk X0.E 160 S_s_tablefinderref01_lowest.sig := FSig.ok0 F_n75_ok (R := R_n75) (g := g_n75) (cuts := []) (pre := [tc0 F_n75]) rfl Tryd.func160 (by decide) rfl (fun _ => Nat.le_of_ble_eq_true (by kernel_rfl)) (fun _ => rfl) (by kernel_rfl) (fun _ _ h => Eq.trans (by kernel_rfl) h) ⟨rfl, trivial⟩ (fun r => trivial) fun _ => rfl

/-! ### tablefinder/tablefinderref01.Make -/
noncomputable def c_n76 : Code := bodyOf Tryd.f161
noncomputable def F_n76 : FC U := ⟨X0.at 23, Tryd.f161, c_n76, [(134, S_s_tablefinderref01_ValidBig.sig), (160, S_s_tablefinderref01_lowest.sig)], [], [.p, .p], [some 10, none]⟩
theorem F_n76_ok : FOk F_n76 := fok uok tok0 eok0 mixed rfl ⟨S_s_tablefinderref01_ValidBig_ok, S_s_tablefinderref01_lowest_ok, trivial⟩
noncomputable def R_n76 : RSh := ⟨[.p (.st 10), .p (.int .i64)], []⟩
noncomputable def g_n76 (v : RVal U R_n76) : (G_api_Fraction × Int) := (v.1.1, v.1.2.1)
noncomputable def b_n76 (q : (G_api_Fraction × Int)) : TRet U := R_n76.bld ((q.1, (q.2, ())), ())
noncomputable def L_n76_j1 : Lp U (G_api_Fraction × Int) := ⟨[2, 3, 4, 13], [], [.o (.ptr (0, 1, 1) 0 0), .o (.ptr (0, 2, 1) 0 0), .o (.ptr (0, 3, 1) 0 0), .o (.v .bool)], [.boxS (.st 9), .boxS (.st 9), .box [.o (.v .bool), .o (.full (0, 4, 1)), .o (.v .bool), .o (.full (0, 5, 1))], .arr (.int .u32) false, .arr (.int .u32) false], fun v w => s_tablefinderref01_Make_j1 v.2.2.2.1 w.1 w.2.1 w.2.2.1.1 w.2.2.1.2.2.1 w.2.2.2.1 w.2.2.2.2.1⟩
theorem L_n76_j1_ok (r : (G_api_Fraction × Int)) : LpOk F_n76 (b_n76 r).enc r (L_n76_j1) (stAt F_n76 [1, 0, 1]) := fun v w hi h => Pt.ev0 F_n76_ok (S := R_n76) (g := g_n76) (b := b_n76) (cuts := []) (pre := [tc F_n76 [1, 0, 1], tc F_n76 [1, 1]]) (T := Lp.st F_n76 (L_n76_j1) v w) (by kernel_rfl) hi (Eq.trans (by kernel_rfl) h) ⟨by kernel_rfl, by kernel_rfl, trivial⟩ trivial fun _ => rfl
noncomputable def S_s_tablefinderref01_Make : FSig U := ⟨(G_api_Fraction × Int), [58, 58], [.p, .p], [some 9, some 9], [.p (.st 9), .p (.st 9)], fun v => s_tablefinderref01_Make v.1 v.2.1, b_n76⟩
theorem S_s_tablefinderref01_Make_ok : SigOk X0.E 161 S_s_tablefinderref01_Make.sig := FSig.ok0 F_n76_ok (R := R_n76) (g := g_n76) (cuts := [([1, 0, 1], L_n76_j1)]) (pre := [tc0 F_n76]) rfl Tryd.func161 (by decide) rfl (fun _ => Nat.le_of_ble_eq_true (by kernel_rfl)) (fun _ => rfl) (by kernel_rfl) (fun _ _ h => Eq.trans (by kernel_rfl) h) ⟨rfl, trivial⟩ (fun r => ⟨(L_n76_j1_ok r), trivial⟩) fun _ => rfl

/-! ### tablefinder/tablefinderref01.Of -/
noncomputable def c_n77 : Code := bodyOf Tryd.f127
noncomputable def F_n77 : FC U := ⟨X0.at 13, Tryd.f127, c_n77, [(162, S_s_tablefinderref01_FromInt.sig), (161, S_s_tablefinderref01_Make.sig)], [], [.p, .p], [some 10, none]⟩
theorem F_n77_ok : FOk F_n77 := fok uok tok0 eok0 mixed rfl ⟨S_s_tablefinderref01_FromInt_ok, S_s_tablefinderref01_Make_ok, trivial⟩
noncomputable def R_n77 : RSh := ⟨[.p (.st 10), .p (.int .i64)], []⟩
noncomputable def g_n77 (v : RVal U R_n77) : (G_api_Fraction × Int) := (v.1.1, v.1.2.1)
noncomputable def b_n77 (q : (G_api_Fraction × Int)) : TRet U := R_n77.bld ((q.1, (q.2, ())), ())
noncomputable def S_s_tablefinderref01_Of : FSig U := ⟨(G_api_Fraction × Int), [3, 3], [.p, .p], [none, none], [.p (.int .i64), .p (.int .i64)], fun v => s_tablefinderref01_Of v.1 v.2.1, b_n77⟩
theorem S_s_tablefinderref01_Of_ok : SigOk X0.E 127 S_s_tablefinderref01_Of.sig := FSig.ok0 F_n77_ok (R := R_n77) (g := g_n77) (cuts := []) (pre := [tc0 F_n77]) rfl Tryd.func127 (by decide) rfl (fun _ => Nat.le_of_ble_eq_true (by kernel_rfl)) (fun _ => rfl) (by kernel_rfl) (fun _ _ h => Eq.trans (by kernel_rfl) h) ⟨rfl, trivial⟩ (fun r => trivial) fun _ => rfl

/-! ### tablefinder/tablefinderref23.Part -/
noncomputable def c_n78 : Code := bodyOf Tryd.f84
noncomputable def F_n78 : FC U := ⟨X0.at 14, Tryd.f84, c_n78, [(127, S_s_tablefinderref01_Of.sig)], [], [.p], [some 10]⟩
theorem F_n78_ok : FOk F_n78 := fok uok tok0 eok0 mixed rfl ⟨S_s_tablefinderref01_Of_ok, trivial⟩
noncomputable def R_n78 : RSh := ⟨[.p (.st 10)], []⟩
noncomputable def g_n78 (v : RVal U R_n78) : G_api_Fraction := v.1.1
noncomputable def b_n78 (q : G_api_Fraction) : TRet U := R_n78.bld ((q, ()), ())
noncomputable def S_s_tablefinderref23_Part : FSig U := ⟨G_api_Fraction, [3, 3], [.p, .p], [none, none], [.p (.int .i64), .p (.int .i64)], fun v => s_tablefinderref23_Part v.1 v.2.1, b_n78⟩
theorem S_s_tablefinderref23_Part_ok : SigOk X0.E 84 S_s_tablefinderref23_Part.sig := FSig.ok0 F_n78_ok (R := R_n78) (g := g_n78) (cuts := []) (pre := [tc0 F_n78]) rfl Tryd.func84 (by decide) rfl (fun _ => Nat.le_of_ble_eq_true (by kernel_rfl)) (fun _ => rfl) (by kernel_rfl) (fun _ _ h => Eq.trans (by kernel_rfl) h) ⟨rfl, trivial⟩ (fun r => trivial) fun _ => rfl

/-! ### tablefinder/tablefinderref23.Int -/
noncomputable def c_n79 : Code := bodyOf Tryd.f31
noncomputable def F_n79 : FC U := ⟨X0.at 5, Tryd.f31, c_n79, [(84, S_s_tablefinderref23_Part.sig)], [], [.p], [some 10]⟩
theorem F_n79_ok : FOk F_n79 := fok uok tok0 eok0 mixed rfl ⟨S_s_tablefinderref23_Part_ok, trivial⟩
noncomputable def R_n79 : RSh := ⟨[.p (.st 10)], []⟩
noncomputable def g_n79 (v : RVal U R_n79) : G_api_Fraction := v.1.1
noncomputable def b_n79 (q : G_api_Fraction) : TRet U := R_n79.bld ((q, ()), ())
noncomputable def S_s_tablefinderref23_Int : FSig U := ⟨G_api_Fraction, [3], [.p], [none], [.p (.int .i64)], fun v => s_tablefinderref23_Int v.1, b_n79⟩
theorem S_s_tablefinderref23_Int_ok : SigOk X0.E 31 S_s_tablefinderref23_Int.sig := FSig.ok0 F_n79_ok (R := R_n79) (g := g_n79) (cuts := []) (pre := [tc0 F_n79]) rfl Tryd.func31 (by decide) rfl (fun _ => Nat.le_of_ble_eq_true (by kernel_rfl)) (fun _ => rfl) (by kernel_rfl) (fun _ _ h => Eq.trans (by kernel_rfl) h) ⟨rfl, trivial⟩ (fun r => trivial) fun _ => rfl

/-! ### tablefinder/tablefinderref23.sameBig -/
noncomputable def c_n80 : Code := bodyOf Tryd.f91
noncomputable def F_n80 : FC U := ⟨X0.at 37, Tryd.f91, c_n80, [], [], [.p], [none]⟩
theorem F_n80_ok : FOk F_n80 := fok uok tok0 eok0 mixed rfl trivial
noncomputable def R_n80 : RSh := ⟨[.p .bool], []⟩
noncomputable def g_n80 (v : RVal U R_n80) : Bool := v.1.1
noncomputable def b_n80 (q : Bool) : TRet U := R_n80.bld ((q, ()), ())
noncomputable def L_n80_k2 : Lp U Bool := ⟨[], [], [], [], fun v w => s_tablefinderref23_sameBig_k2⟩
theorem L_n80_k2_ok (r : Bool) : LpOk F_n80 (b_n80 r).enc r (L_n80_k2) ([tc F_n80 [1, 1, 1]].map TI'.conc ++ []) := fun v w hi h => Pt.ev0 F_n80_ok (S := R_n80) (g := g_n80) (b := b_n80) (cuts := []) (pre := [tc F_n80 [1, 1, 1]]) (T := Lp.st F_n80 (L_n80_k2) v w) (by kernel_rfl) hi (Eq.trans (by kernel_rfl) h) ⟨by kernel_rfl, trivial⟩ trivial fun _ => rfl
noncomputable def base_n80_l1 : List Eng.Item := .lp (codeAt F_n80 [5, 4, 1, 0, 1, 1]) :: ([.blk 0, tc F_n80 [1, 1, 1]].map TI'.conc ++ [])
noncomputable def Lh_n80_l1 (rec_ : (List Int) → Int → Int → G_api_Big → Option (Out Unit Bool)) : Lp U (Out Unit Bool) := ⟨[3, 22, 23, 24], [], [.o (.ptr (0, 1, 1) 0 0), .o (.v (.sl (.int .u32))), .o (.v (.int .i64)), .o (.v (.int .i64))], [.boxS (.st 9)], fun v w => rec_ v.2.1 v.2.2.1 v.2.2.2.1 w.1⟩
noncomputable def Lx_n80_l1 : Lp U (Out Unit Bool) := ⟨[], [], [], [], fun v w => some (.brk ())⟩
theorem s_tablefinderref23_sameBig_l1_ok {RT : Ret} {r : (Out Unit Bool)} (hx : AllExits F_n80 RT r base_n80_l1 [(0, Lx_n80_l1)]) (hr : ∀ t : TRet U, (retOf R_n80 fun v => Out.ret (β := Unit) (g_n80 v)) t = some r → t.enc = RT) : ∀ n, LpOk F_n80 RT r (Lh_n80_l1 (s_tablefinderref23_sameBig_l1 n)) (stAt F_n80 [4, 1, 0, 1, 1]) :=
  loop_ok F_n80_ok 4000 (q := [4, 1, 0, 1, 1]) (body := codeAt F_n80 [5, 4, 1, 0, 1, 1]) (live := [3, 22, 23, 24]) (frz := []) (shs := [.o (.ptr (0, 1, 1) 0 0), .o (.v (.sl (.int .u32))), .o (.v (.int .i64)), .o (.v (.int .i64))]) (sho := [.boxS (.st 9)]) (fun n v w => s_tablefinderref23_sameBig_l1 n v.2.1 v.2.2.1 v.2.2.2.1 w.1) (cuts := fun n => []) (exits := [(0, Lx_n80_l1)]) (ret := (retOf R_n80 fun v => Out.ret (β := Unit) (g_n80 v))) (by kernel_rfl) (fun _ _ => rfl) (fun n v w => by kernel_rfl) (fun n hb => trivial) hx hr
noncomputable def Lc_n80_l1 : Lp U Bool := ⟨[3, 22, 23, 24], [], [.o (.ptr (0, 1, 1) 0 0), .o (.v (.sl (.int .u32))), .o (.v (.int .i64)), .o (.v (.int .i64))], [.boxS (.st 9)], fun v w => (s_tablefinderref23_sameBig_l1 big v.2.1 v.2.2.1 v.2.2.2.1 w.1).bind fun | .ret q_ => some q_ | .brk () => s_tablefinderref23_sameBig_k2⟩
theorem Lc_n80_l1_ok (r : Bool) : LpOk F_n80 (b_n80 r).enc r (Lc_n80_l1) (stAt F_n80 [4, 1, 0, 1, 1]) := fun v w hi h0 => by
  obtain ⟨x, hx0, h⟩ := bind_some h0
  exact s_tablefinderref23_sameBig_l1_ok (r := x) (RT := (b_n80 r).enc) ⟨⟨[tc F_n80 [1, 1, 1]].map TI'.conc ++ [], by kernel_rfl, fun v' w' hi' h' => by obtain rfl := Option.some.inj h'; exact L_n80_k2_ok r v' w' hi' h⟩, trivial⟩ (fun t ht => by obtain ⟨q, rfl, hq⟩ := retOut ht; obtain rfl := Option.some.inj h; exact retOf_enc uok (give := b_n80) (fun _ => rfl) hq) big v w hi hx0
noncomputable def L_n80_j1 : Lp U Bool := ⟨[2, 3, 20], [], [.o (.ptr (0, 1, 1) 0 0), .o (.ptr (0, 2, 1) 0 0), .o (.v .bool)], [.boxS (.st 9), .boxS (.st 9)], fun v w => s_tablefinderref23_sameBig_j1 v.2.2.1 w.1 w.2.1⟩
theorem L_n80_j1_ok (r : Bool) : LpOk F_n80 (b_n80 r).enc r (L_n80_j1) (stAt F_n80 [1, 0, 1]) := fun v w hi h => Pt.ev0 F_n80_ok (S := R_n80) (g := g_n80) (b := b_n80) (cuts := [([4, 1, 0, 1, 1], Lc_n80_l1)]) (pre := [tc F_n80 [1, 0, 1], tc F_n80 [1, 1]]) (T := Lp.st F_n80 (L_n80_j1) v w) (by kernel_rfl) hi (Eq.trans (by kernel_rfl) h) ⟨by kernel_rfl, by kernel_rfl, trivial⟩ ⟨(Lc_n80_l1_ok r), trivial⟩ fun _ => rfl
noncomputable def S_s_tablefinderref23_sameBig : FSig U := ⟨Bool, [58, 58], [.p, .p], [some 9, some 9], [.p (.st 9), .p (.st 9)], fun v => s_tablefinderref23_sameBig v.1 v.2.1, b_n80⟩
theorem S_s_tablefinderref23_sameBig_ok : SigOk X0.E 91 S_s_tablefinderref23_sameBig.sig := FSig.ok0 F_n80_ok (R := R_n80) (g := g_n80) (cuts := [([1, 0, 1], L_n80_j1)]) (pre := [tc0 F_n80]) rfl Tryd.func91 (by decide) rfl (fun _ => Nat.le_of_ble_eq_true (by kernel_rfl)) (fun _ => rfl) (by kernel_rfl) (fun _ _ h => Eq.trans (by kernel_rfl) h) ⟨rfl, trivial⟩ (fun r => ⟨(L_n80_j1_ok r), trivial⟩) fun _ => rfl

/-! ### tablefinder/tablefinderref23.Same -/
noncomputable def c_n81 : Code := bodyOf Tryd.f34
noncomputable def F_n81 : FC U := ⟨X0.at 17, Tryd.f34, c_n81, [(91, S_s_tablefinderref23_sameBig.sig)], [], [.p], [none]⟩
theorem F_n81_ok : FOk F_n81 := fok uok tok0 eok0 mixed rfl ⟨S_s_tablefinderref23_sameBig_ok, trivial⟩
noncomputable def R_n81 : RSh := ⟨[.p .bool], []⟩
noncomputable def g_n81 (v : RVal U R_n81) : Bool := v.1.1
noncomputable def b_n81 (q : Bool) : TRet U := R_n81.bld ((q, ()), ())
noncomputable def L_n81_j1 : Lp U Bool := ⟨[4], [], [.o (.v .bool)], [], fun v w => s_tablefinderref23_Same_j1 v.1⟩
theorem L_n81_j1_ok (r : Bool) : LpOk F_n81 (b_n81 r).enc r (L_n81_j1) (stAt F_n81 [1, 1]) := fun v w hi h => Pt.ev0 F_n81_ok (S := R_n81) (g := g_n81) (b := b_n81) (cuts := []) (pre := [tc F_n81 [1, 1]]) (T := Lp.st F_n81 (L_n81_j1) v w) (by kernel_rfl) hi (Eq.trans (by kernel_rfl) h) ⟨by kernel_rfl, trivial⟩ trivial fun _ => rfl
noncomputable def S_s_tablefinderref23_Same : FSig U := ⟨Bool, [60, 60], [.p, .p], [some 10, some 10], [.p (.st 10), .p (.st 10)], fun v => s_tablefinderref23_Same v.1 v.2.1, b_n81⟩
theorem S_s_tablefinderref23_Same_ok : SigOk X0.E 34 S_s_tablefinderref23_Same.sig := FSig.ok0 F_n81_ok (R := R_n81) (g := g_n81) (cuts := [([1, 1], L_n81_j1)]) (pre := [tc0 F_n81]) rfl Tryd.func34 (by decide) rfl (fun _ => Nat.le_of_ble_eq_true (by kernel_rfl)) (fun _ => rfl) (by kernel_rfl) (fun _ _ h => Eq.trans (by kernel_rfl) h) ⟨rfl, trivial⟩ (fun r => ⟨(L_n81_j1_ok r), trivial⟩) fun _ => rfl

abbrev Tr_n82_0 : Type := Int → Int → Int → (List G_api_Cell) → Int → Int → G_api_Table → G_api_Relation → (List (Str × Int)) → Option (Int × Int × Int × G_api_Table × G_api_Relation × (List (Str × Int)))
/-! ### tablefinder/tablefinderlaw29.RelationParts -/
noncomputable def c_n82 : Code := bodyOf Tryd.f14
noncomputable def F_n82 : FC U := ⟨X0.at 142, Tryd.f14, c_n82, [(18, S_s_tablefinderkit_Light.sig), (19, S_s_tablefinderlaw29_awake.sig), (20, S_s_tablefinderkit_Roll.sig), (21, S_s_tablefinderkit_Table.sig), (22, S_s_tablefinderkit_Mod.sig), (23, S_s_relation_Of.sig), (53, S_s_tablefinderref03_Rows.sig), (26, S_s_relation_Kind.sig), (56, S_s_relation_Contained.sig), (31, S_s_tablefinderref23_Int.sig), (34, S_s_tablefinderref23_Same.sig)], [], [.p], [none]⟩
theorem F_n82_ok : FOk F_n82 := fok uok tok0 eok0 mixed rfl ⟨S_s_tablefinderkit_Light_ok, S_s_tablefinderlaw29_awake_ok, S_s_tablefinderkit_Roll_ok, S_s_tablefinderkit_Table_ok, S_s_tablefinderkit_Mod_ok, S_s_relation_Of_ok, S_s_tablefinderref03_Rows_ok, S_s_relation_Kind_ok, S_s_relation_Contained_ok, S_s_tablefinderref23_Int_ok, S_s_tablefinderref23_Same_ok, trivial⟩
noncomputable def R_n82 : RSh := ⟨[.p .bool], []⟩
noncomputable def g_n82 (v : RVal U R_n82) : Bool := v.1.1
noncomputable def b_n82 (q : Bool) : TRet U := R_n82.bld ((q, ()), ())
noncomputable def L_n82_j5 : Lp U Bool := ⟨[4], [], [.o (.v .bool)], [], fun v w => s_tablefinderlaw29_RelationParts_j5 v.1⟩
theorem L_n82_j5_ok (r : Bool) : LpOk F_n82 (b_n82 r).enc r (L_n82_j5) (stAt F_n82 [1, 1, 1, 1, 1, 1, 1, 1, 1, 1, 1, 1, 1, 1]) := fun v w hi h => Pt.ev0 F_n82_ok (S := R_n82) (g := g_n82) (b := b_n82) (cuts := []) (pre := [tc F_n82 [1, 1, 1, 1, 1, 1, 1, 1, 1, 1, 1, 1, 1, 1]]) (T := Lp.st F_n82 (L_n82_j5) v w) (by kernel_rfl) hi (Eq.trans (by kernel_rfl) h) ⟨by kernel_rfl, trivial⟩ trivial fun _ => rfl
noncomputable def L_n82_j4 : Lp U Bool := ⟨[8, 10, 15], [], [.o (.ptr (0, 1, 1) 0 0), .o (.map (0, 2, 1)), .o (.v (.int .i64))], [.boxS (.st 4), .map .str (.int .i64)], fun v w => s_tablefinderlaw29_RelationParts_j4 v.2.2.1 w.1 w.2.1⟩
theorem L_n82_j4_ok (r : Bool) : LpOk F_n82 (b_n82 r).enc r (L_n82_j4) (stAt F_n82 [1, 1, 1, 1, 1, 1, 1, 1, 1, 1, 1, 1, 1]) := fun v w hi h => Pt.ev0 F_n82_ok (S := R_n82) (g := g_n82) (b := b_n82) (cuts := [([1, 1, 1, 1, 1, 1, 1, 1, 1, 1, 1, 1, 1, 1], L_n82_j5)]) (pre := [tc F_n82 [1, 1, 1, 1, 1, 1, 1, 1, 1, 1, 1, 1, 1]]) (T := Lp.st F_n82 (L_n82_j4) v w) (by kernel_rfl) hi (Eq.trans (by kernel_rfl) h) ⟨by kernel_rfl, trivial⟩ ⟨(L_n82_j5_ok r), trivial⟩ fun _ => rfl
noncomputable def L_n82_j3 : Lp U Bool := ⟨[8, 10, 12, 118], [], [.o (.ptr (0, 1, 1) 0 0), .o (.map (0, 2, 1)), .o (.v (.int .i64)), .o (.v .bool)], [.boxS (.st 4), .map .str (.int .i64)], fun v w => s_tablefinderlaw29_RelationParts_j3 v.2.2.1 v.2.2.2.1 w.1 w.2.1⟩
theorem L_n82_j3_ok (r : Bool) : LpOk F_n82 (b_n82 r).enc r (L_n82_j3) (stAt F_n82 [1, 0, 1, 1, 1, 1, 1, 1, 1, 1, 1, 1]) := fun v w hi h => Pt.ev0 F_n82_ok (S := R_n82) (g := g_n82) (b := b_n82) (cuts := [([1, 1, 1, 1, 1, 1, 1, 1, 1, 1, 1, 1, 1], L_n82_j4)]) (pre := [tc F_n82 [1, 0, 1, 1, 1, 1, 1, 1, 1, 1, 1, 1], tc F_n82 [1, 1, 1, 1, 1, 1, 1, 1, 1, 1, 1]]) (T := Lp.st F_n82 (L_n82_j3) v w) (by kernel_rfl) hi (Eq.trans (by kernel_rfl) h) ⟨by kernel_rfl, by kernel_rfl, trivial⟩ ⟨(L_n82_j4_ok r), trivial⟩ fun _ => rfl
noncomputable def L_n82_k2 : Lp U Bool := ⟨[6, 8, 9, 10, 11, 12], [], [.o (.ptr (0, 1, 1) 0 0), .o (.ptr (0, 2, 1) 0 0), .o (.v (.int .i64)), .o (.map (0, 3, 1)), .o (.v (.int .i64)), .o (.v (.int .i64))], [.boxS (.st 2), .boxS (.st 4), .map .str (.int .i64)], fun v w => s_tablefinderlaw29_RelationParts_k2 v.2.2.1 v.2.2.2.2.1 v.2.2.2.2.2.1 w.1 w.2.1 w.2.2.1⟩
theorem L_n82_k2_ok (r : Bool) : LpOk F_n82 (b_n82 r).enc r (L_n82_k2) ([tc F_n82 [1, 1, 1, 1, 1, 1, 1, 1, 1, 1]].map TI'.conc ++ []) := fun v w hi h => Pt.ev0 F_n82_ok (S := R_n82) (g := g_n82) (b := b_n82) (cuts := [([1, 0, 1, 1, 1, 1, 1, 1, 1, 1, 1, 1], L_n82_j3)]) (pre := [tc F_n82 [1, 1, 1, 1, 1, 1, 1, 1, 1, 1]]) (T := Lp.st F_n82 (L_n82_k2) v w) (by kernel_rfl) hi (Eq.trans (by kernel_rfl) h) ⟨by kernel_rfl, trivial⟩ ⟨(L_n82_j3_ok r), trivial⟩ fun _ => rfl
noncomputable def base_n82_l1 : List Eng.Item := .lp (codeAt F_n82 [5, 4, 1, 0, 1, 1, 1, 1, 1, 1, 1, 1, 1]) :: ([.blk 0, tc F_n82 [1, 1, 1, 1, 1, 1, 1, 1, 1, 1]].map TI'.conc ++ [])
noncomputable def Lh_n82_l1 (rec_ : Tr_n82_0) : Lp U (Int × Int × Int × G_api_Table × G_api_Relation × (List (Str × Int))) := ⟨[6, 8, 9, 10, 11, 12, 48, 49, 50], [], [.o (.ptr (0, 1, 1) 0 0), .o (.ptr (0, 2, 1) 0 0), .o (.v (.int .i64)), .o (.map (0, 3, 1)), .o (.v (.int .i64)), .o (.v (.int .i64)), .o (.v (.sl (.st 0))), .o (.v (.int .i64)), .o (.v (.int .i64))], [.boxS (.st 2), .boxS (.st 4), .map .str (.int .i64)], fun v w => rec_ v.2.2.1 v.2.2.2.2.1 v.2.2.2.2.2.1 v.2.2.2.2.2.2.1 v.2.2.2.2.2.2.2.1 v.2.2.2.2.2.2.2.2.1 w.1 w.2.1 w.2.2.1⟩
noncomputable def Lx_n82_l1 : Lp U (Int × Int × Int × G_api_Table × G_api_Relation × (List (Str × Int))) := ⟨[6, 8, 9, 10, 11, 12], [], [.o (.ptr (0, 1, 1) 0 0), .o (.ptr (0, 2, 1) 0 0), .o (.v (.int .i64)), .o (.map (0, 3, 1)), .o (.v (.int .i64)), .o (.v (.int .i64))], [.boxS (.st 2), .boxS (.st 4), .map .str (.int .i64)], fun v w => some (v.2.2.1, v.2.2.2.2.1, v.2.2.2.2.2.1, w.1, w.2.1, w.2.2.1)⟩
noncomputable def L_n82_j1 (rec_ : Tr_n82_0) : Lp U (Int × Int × Int × G_api_Table × G_api_Relation × (List (Str × Int))) := ⟨[6, 8, 9, 10, 11, 12, 48, 49, 50], [], [.o (.ptr (0, 1, 1) 0 0), .o (.ptr (0, 2, 1) 0 0), .o (.v (.int .i64)), .o (.map (0, 3, 1)), .o (.v (.int .i64)), .o (.v (.int .i64)), .o (.v (.sl (.st 0))), .o (.v (.int .i64)), .o (.v (.int .i64))], [.boxS (.st 2), .boxS (.st 4), .map .str (.int .i64)], fun v w => s_tablefinderlaw29_RelationParts_j1 rec_ v.2.2.1 v.2.2.2.2.1 v.2.2.2.2.2.1 v.2.2.2.2.2.2.1 v.2.2.2.2.2.2.2.1 v.2.2.2.2.2.2.2.2.1 w.1 w.2.1 w.2.2.1⟩
theorem L_n82_j1_ok {RT : Ret} {r : (Int × Int × Int × G_api_Table × G_api_Relation × (List (Str × Int)))} {rec_ : Tr_n82_0} (hb : LpOk F_n82 RT r (Lh_n82_l1 rec_) base_n82_l1) (hx : AllExits F_n82 RT r base_n82_l1 [(0, Lx_n82_l1)]) (hr : ∀ t : TRet U, (fun _ => none) t = some r → t.enc = RT) : LpOk F_n82 RT r (L_n82_j1 rec_) (stAt F_n82 [1, 1, 1, 5, 4, 1, 0, 1, 1, 1, 1, 1, 1, 1, 1, 1]) := fun v w hi h => Pt.evlAt F_n82_ok (r := r) 4000 (cuts := []) (back := (some (Lh_n82_l1 rec_))) (exits := [(0, Lx_n82_l1)]) (ret := (fun _ => none)) (base := base_n82_l1) (pre := [tc F_n82 [1, 1, 1, 5, 4, 1, 0, 1, 1, 1, 1, 1, 1, 1, 1, 1]]) (T := Lp.st F_n82 (L_n82_j1 rec_) v w) (by kernel_rfl) hi (Eq.trans (by kernel_rfl) h) ⟨by kernel_rfl, trivial⟩ trivial (fun L hL => by cases hL; exact hb) (fun hn => nomatch hn) hx hr
theorem s_tablefinderlaw29_RelationParts_l1_ok {RT : Ret} {r : (Int × Int × Int × G_api_Table × G_api_Relation × (List (Str × Int)))} (hx : AllExits F_n82 RT r base_n82_l1 [(0, Lx_n82_l1)]) (hr : ∀ t : TRet U, (fun _ => none) t = some r → t.enc = RT) : ∀ n, LpOk F_n82 RT r (Lh_n82_l1 (s_tablefinderlaw29_RelationParts_l1 n)) (stAt F_n82 [4, 1, 0, 1, 1, 1, 1, 1, 1, 1, 1, 1]) :=
  loop_ok F_n82_ok 4000 (q := [4, 1, 0, 1, 1, 1, 1, 1, 1, 1, 1, 1]) (body := codeAt F_n82 [5, 4, 1, 0, 1, 1, 1, 1, 1, 1, 1, 1, 1]) (live := [6, 8, 9, 10, 11, 12, 48, 49, 50]) (frz := []) (shs := [.o (.ptr (0, 1, 1) 0 0), .o (.ptr (0, 2, 1) 0 0), .o (.v (.int .i64)), .o (.map (0, 3, 1)), .o (.v (.int .i64)), .o (.v (.int .i64)), .o (.v (.sl (.st 0))), .o (.v (.int .i64)), .o (.v (.int .i64))]) (sho := [.boxS (.st 2), .boxS (.st 4), .map .str (.int .i64)]) (fun n v w => s_tablefinderlaw29_RelationParts_l1 n v.2.2.1 v.2.2.2.2.1 v.2.2.2.2.2.1 v.2.2.2.2.2.2.1 v.2.2.2.2.2.2.2.1 v.2.2.2.2.2.2.2.2.1 w.1 w.2.1 w.2.2.1) (cuts := fun n => [([1, 1, 1, 5, 4, 1, 0, 1, 1, 1, 1, 1, 1, 1, 1, 1], L_n82_j1 (s_tablefinderlaw29_RelationParts_l1 n))]) (exits := [(0, Lx_n82_l1)]) (ret := (fun _ => none)) (by kernel_rfl) (fun _ _ => rfl) (fun n v w => by kernel_rfl) (fun n hb => ⟨L_n82_j1_ok hb hx hr, trivial⟩) hx hr
noncomputable def Lc_n82_l1 : Lp U Bool := ⟨[6, 8, 9, 10, 11, 12, 48, 49, 50], [], [.o (.ptr (0, 1, 1) 0 0), .o (.ptr (0, 2, 1) 0 0), .o (.v (.int .i64)), .o (.map (0, 3, 1)), .o (.v (.int .i64)), .o (.v (.int .i64)), .o (.v (.sl (.st 0))), .o (.v (.int .i64)), .o (.v (.int .i64))], [.boxS (.st 2), .boxS (.st 4), .map .str (.int .i64)], fun v w => (s_tablefinderlaw29_RelationParts_l1 big v.2.2.1 v.2.2.2.2.1 v.2.2.2.2.2.1 v.2.2.2.2.2.2.1 v.2.2.2.2.2.2.2.1 v.2.2.2.2.2.2.2.2.1 w.1 w.2.1 w.2.2.1).bind fun (x0, x1, x2, x3, x4, x5) => s_tablefinderlaw29_RelationParts_k2 x0 x1 x2 x3 x4 x5⟩
theorem Lc_n82_l1_ok (r : Bool) : LpOk F_n82 (b_n82 r).enc r (Lc_n82_l1) (stAt F_n82 [4, 1, 0, 1, 1, 1, 1, 1, 1, 1, 1, 1]) := fun v w hi h0 => by
  obtain ⟨x, hx0, h⟩ := bind_some h0
  exact s_tablefinderlaw29_RelationParts_l1_ok (r := x) (RT := (b_n82 r).enc) ⟨⟨[tc F_n82 [1, 1, 1, 1, 1, 1, 1, 1, 1, 1]].map TI'.conc ++ [], by kernel_rfl, fun v' w' hi' h' => by obtain rfl := Option.some.inj h'; exact L_n82_k2_ok r v' w' hi' h⟩, trivial⟩ (fun _ ht => nomatch ht) big v w hi hx0
noncomputable def S_s_tablefinderlaw29_RelationParts : FSig U := ⟨Bool, [25, 3], [.p, .p], [none, none], [.p (.sl (.int .i64)), .p (.int .i64)], fun v => s_tablefinderlaw29_RelationParts v.1 v.2.1, b_n82⟩
theorem S_s_tablefinderlaw29_RelationParts_ok : SigOk X0.E 14 S_s_tablefinderlaw29_RelationParts.sig := FSig.ok0 F_n82_ok (R := R_n82) (g := g_n82) (cuts := [([4, 1, 0, 1, 1, 1, 1, 1, 1, 1, 1, 1], Lc_n82_l1)]) (pre := [tc0 F_n82]) rfl Tryd.func14 (by decide) rfl (fun _ => Nat.le_of_ble_eq_true (by kernel_rfl)) (fun _ => rfl) (by kernel_rfl) (fun _ _ h => Eq.trans (by kernel_rfl) h) ⟨rfl, trivial⟩ (fun r => ⟨(Lc_n82_l1_ok r), trivial⟩) fun _ => rfl

end Go.Proofs
