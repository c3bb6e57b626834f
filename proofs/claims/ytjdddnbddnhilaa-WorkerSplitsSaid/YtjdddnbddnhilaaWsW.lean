/- Printed by wip/tools/genall.py: walks. -/
import Derived.Test.YtjdddnbddnhilaaWsS
import Derived.Test.YtjdddnbddnhilaaProg
import Derived.KernelRfl
set_option linter.unusedVariables false
set_option linter.unusedSimpArgs false
namespace Go.Proofs
open Go Eng
set_option linter.unusedVariables false

def enc_G_api_Task (x : G_api_Task) : P := .agg [(.int .i64 x.From), (.int .i64 x.To)]

def tys : List (Option TI) := [
  none,
  some ⟨.func, 1, 8, [.p .nilfn]⟩,
  some ⟨.int .i64, 1, 8, [.p (.int .i64 0)]⟩,
  some ⟨.int .i64, 1, 8, [.p (.int .i64 0)]⟩,
  some ⟨.bool, 1, 1, [.p (.bool false)]⟩,
  some ⟨.int .u8, 1, 1, [.p (.int .u8 0)]⟩,
  none,
  none,
  none,
  some ⟨.str, 1, 16, [.p (.str [])]⟩,
  none,
  none,
  some ⟨.int .u64, 1, 8, [.p (.int .u64 0)]⟩,
  none,
  none,
  none,
  none,
  none,
  none,
  none,
  none,
  some ⟨.int .i32, 1, 4, [.p (.int .i32 0)]⟩,
  some ⟨.func, 1, 8, [.p .nilfn]⟩,
  some ⟨.sl 28, 1, 24, [.nils 2]⟩,
  some ⟨.int .i64, 1, 8, [.p (.int .i64 0)]⟩,
  none,
  some ⟨.func, 1, 8, [.p .nilfn]⟩,
  some ⟨.struct [(0, 3), (1, 3)], 2, 16, [.p (.int .i64 0), .p (.int .i64 0)]⟩,
  some ⟨.struct [(0, 3), (1, 3)], 2, 16, [.p (.int .i64 0), .p (.int .i64 0)]⟩,
  some ⟨.func, 1, 8, [.p .nilfn]⟩,
  some ⟨.func, 1, 8, [.p .nilfn]⟩,
  some ⟨.sl 3, 1, 24, [.nils 1]⟩,
  some ⟨.func, 1, 8, [.p .nilfn]⟩,
  some ⟨.sl 40, 1, 24, [.nils 4]⟩,
  some ⟨.func, 1, 8, [.p .nilfn]⟩,
  some ⟨.ptr 58, 1, 8, [.p .nilp]⟩,
  some ⟨.func, 1, 8, [.p .nilfn]⟩,
  some ⟨.struct [(0, 3), (1, 3)], 2, 16, [.p (.int .i64 0), .p (.int .i64 0)]⟩,
  some ⟨.struct [(0, 3), (1, 3)], 2, 16, [.p (.int .i64 0), .p (.int .i64 0)]⟩,
  some ⟨.struct [(0, 9), (1, 4), (2, 3), (3, 3)], 4, 40, [.p (.str []), .p (.bool false), .p (.int .i64 0), .p (.int .i64 0)]⟩,
  some ⟨.struct [(0, 9), (1, 4), (2, 3), (3, 3)], 4, 40, [.p (.str []), .p (.bool false), .p (.int .i64 0), .p (.int .i64 0)]⟩,
  some ⟨.sl 4, 1, 24, [.nils 1]⟩,
  some ⟨.func, 1, 8, [.p .nilfn]⟩,
  some ⟨.func, 1, 8, [.p .nilfn]⟩,
  some ⟨.struct [(0, 4), (1, 9)], 2, 24, [.p (.bool false), .p (.str [])]⟩,
  some ⟨.struct [(0, 4), (1, 9)], 2, 24, [.p (.bool false), .p (.str [])]⟩,
  some ⟨.sl 45, 1, 24, [.nils 2]⟩,
  some ⟨.struct [(0, 9), (1, 46)], 2, 40, [.p (.str []), .nils 2]⟩,
  some ⟨.struct [(0, 9), (1, 46)], 2, 40, [.p (.str []), .nils 2]⟩,
  some ⟨.sl 53, 1, 24, [.nils 3]⟩,
  some ⟨.func, 1, 8, [.p .nilfn]⟩,
  some ⟨.sl 48, 1, 24, [.nils 2]⟩,
  some ⟨.struct [(0, 3), (1, 9), (2, 51)], 3, 48, [.p (.int .i64 0), .p (.str []), .nils 2]⟩,
  some ⟨.struct [(0, 3), (1, 9), (2, 51)], 3, 48, [.p (.int .i64 0), .p (.str []), .nils 2]⟩,
  some ⟨.func, 1, 8, [.p .nilfn]⟩,
  some ⟨.func, 1, 8, [.p .nilfn]⟩,
  some ⟨.func, 1, 8, [.p .nilfn]⟩,
  some ⟨.struct [(0, 31), (1, 3)], 2, 32, [.nils 1, .p (.int .i64 0)]⟩,
  some ⟨.struct [(0, 31), (1, 3)], 2, 32, [.nils 1, .p (.int .i64 0)]⟩,
  some ⟨.func, 1, 8, [.p .nilfn]⟩,
  some ⟨.func, 1, 8, [.p .nilfn]⟩,
  some ⟨.func, 1, 8, [.p .nilfn]⟩,
  none,
  some ⟨.func, 1, 8, [.p .nilfn]⟩,
  some ⟨.sl 9, 1, 24, [.nils 1]⟩,
  some ⟨.func, 1, 8, [.p .nilfn]⟩,
  some ⟨.func, 1, 8, [.p .nilfn]⟩,
  some ⟨.func, 1, 8, [.p .nilfn]⟩,
  some ⟨.func, 1, 8, [.p .nilfn]⟩,
  some ⟨.int .u64, 1, 8, [.p (.int .u64 0)]⟩,
  none,
  some ⟨.func, 1, 8, [.p .nilfn]⟩,
  some ⟨.int .u32, 1, 4, [.p (.int .u32 0)]⟩,
  none,
  some ⟨.func, 1, 8, [.p .nilfn]⟩,
  some ⟨.int .u64, 1, 8, [.p (.int .u64 0)]⟩,
  none,
  some ⟨.func, 1, 8, [.p .nilfn]⟩,
  some ⟨.func, 1, 8, [.p .nilfn]⟩,
  none,
  none,
  some ⟨.arr 0 16, 0, 0, []⟩,
  none,
  none,
  some ⟨.func, 1, 8, [.p .nilfn]⟩,
  none,
  none,
  some ⟨.func, 1, 8, [.p .nilfn]⟩,
  some ⟨.ptr 5, 1, 8, [.p .nilp]⟩,
  none,
  none,
  none,
  none,
  none]
noncomputable def E0 : Env := { prog := Try.prog, tys := tys, globs := [], nt := 0 }
theorem E0ok (n : Nat) : EnvOk (E0.at n) := ⟨by kernel_rfl⟩
theorem mixed : Try.prog.follows .mixedOrders = true := by kernel_rfl

/-! ### tablefinder/tablefinderkit.Mod -/
noncomputable def c5 : Code := bodyOf Try.f5
noncomputable abbrev s_tablefinderkit_Mod_C (W : World) (Lt S0 : Nat → Prop) (lays : Nat → Option Lay) : Ctx := ⟨E0.at 14, W, Lt, S0, lays⟩
def s_tablefinderkit_Mod_R : Int → Ret
  | q0 => ⟨[.p (.int .i64 q0)], []⟩

theorem s_tablefinderkit_Mod_fun (n : Int) (m : Int) (ro : Int) (h : s_tablefinderkit_Mod n m = some ro) : Fun E0 5 [.p (.int .i64 n), .p (.int .i64 m)] (s_tablefinderkit_Mod_R ro) := by
  refine fun_of_awp (fn := Try.f5) (c := c5) Try.func5 (by decide) rfl (Nat.le_of_ble_eq_true (by kernel_rfl)) ?_
  intro W Lt S0 lays
  unfold s_tablefinderkit_Mod at h
  refine awp_to 10 [(0, (.p (.int .i64 n))), (1, (.p (.int .i64 m))), (6, (.p (.bool (decide (m < 1)))))] [] [.c (sub [1, 0, 1] c5), .c (sub [1, 1] c5)] [] (E0ok 14) (by kernel_rfl) trivial ?_
  generalize hb1 : (decide (m < 1)) = b1 at h ⊢
  cases b1
  · simp only [cond_false] at h
    obtain ⟨hc2, h⟩ := chk_some h
    obtain ⟨hc3, h⟩ := chk_some h
    obtain ⟨hc4, h⟩ := chk_some h
    refine awp_to 13 [(4, (.p (.int .i64 (Int.tmod ((Int.tmod n m) + m) m))))] [] [.c (sub [1, 1, 1] c5)] [(decide (m ≠ 0)), (inK .i64 ((Int.tmod n m) + m)), (decide (m ≠ 0))] (E0ok 14) (by kernel_rfl) ⟨hc2, hc3, hc4⟩ ?_
    obtain rfl := Option.some.inj h
    exact awp_ret (s_tablefinderkit_Mod_R (Int.tmod ((Int.tmod n m) + m) m)) [] [.p] [] (E0ok 14) (by kernel_rfl) rfl trivial rfl
  · simp only [cond_true] at h
    refine awp_to 5 [(4, (.p (.int .i64 0)))] [] [.c (sub [1, 0, 1, 2, 1] c5), .c (sub [1, 1] c5)] [] (E0ok 14) (by kernel_rfl) trivial ?_
    obtain rfl := Option.some.inj h
    exact awp_ret (s_tablefinderkit_Mod_R 0) [] [.p] [] (E0ok 14) (by kernel_rfl) rfl trivial rfl

/-! ### tablefinder/worker.Split -/
noncomputable def c6 : Code := bodyOf Try.f6
noncomputable abbrev s_worker_Split_C (W : World) (Lt S0 : Nat → Prop) (lays : Nat → Option Lay) : Ctx := ⟨E0.at 43, W, Lt, S0, lays⟩
def s_worker_Split_R : ((List G_api_Task) × Int) → Ret
  | (q0, q1) => ⟨[.own 2 (q0.map enc_G_api_Task), .p (.int .i64 q1)], []⟩

def s_worker_Split_l1_K (W : World) (Lt S0 : Nat → Prop) (lays : Nat → Option Lay) (ro : ((List G_api_Task) × Int)) (n : Int) (workers : Int) : (List G_api_Task) → Prop
  | out_1 => AWP (s_worker_Split_C W Lt S0 lays) ⟨none, []⟩ (retG (s_worker_Split_C W Lt S0 lays) Try.f6 (s_worker_Split_R ro)) [.c (sub [1, 1, 1, 1] c6)] (mkS 1 [(6, (.sl (0, 1, 1) 0 out_1.length))] [((0, 1, 1), (.arr 2 (out_1.map enc_G_api_Task) false))])
noncomputable def s_worker_Split_l1_H (W : World) (Lt S0 : Nat → Prop) (lays : Nat → Option Lay) (ro : ((List G_api_Task) × Int)) (n : Int) (workers : Int) (i : Int) (out : (List G_api_Task)) : Prop :=
  AWP (s_worker_Split_C W Lt S0 lays) ⟨none, []⟩ (retG (s_worker_Split_C W Lt S0 lays) Try.f6 (s_worker_Split_R ro)) [.c (sub [1, 1, 1, 0, 1, 4, 5] c6), .lp (sub [1, 1, 1, 0, 1, 4, 5] c6), .blk 0, .c (sub [1, 1, 1, 1] c6)] (mkS 1 [(0, (.p (.int .i64 n))), (1, (.p (.int .i64 workers))), (6, (.sl (0, 1, 1) 0 out.length)), (22, (.p (.int .i64 workers))), (23, (.p (.int .i64 i)))] [((0, 1, 1), (.arr 2 (out.map enc_G_api_Task) false))])


theorem s_worker_Split_l1_b_ok {W : World} {Lt S0 : Nat → Prop} {lays : Nat → Option Lay} (n : Int) (workers : Int) (i : Int) (out : (List G_api_Task)) {rec_ : Int → (List G_api_Task) → Option (List G_api_Task)} (ro : ((List G_api_Task) × Int)) (xo : (List G_api_Task)) (hk : s_worker_Split_l1_K W Lt S0 lays ro n workers xo) (hrec : ∀ (i : Int) (out : (List G_api_Task)), rec_ i out = some xo → s_worker_Split_l1_H W Lt S0 lays ro n workers i out) (h : s_worker_Split_l1_b rec_ n workers i out = some xo) :
    s_worker_Split_l1_H W Lt S0 lays ro n workers i out := by
  unfold s_worker_Split_l1_H
  unfold s_worker_Split_l1_b at h
  refine awp_to 5 [(0, (.p (.int .i64 n))), (1, (.p (.int .i64 workers))), (6, (.sl (0, 1, 1) 0 out.length)), (22, (.p (.int .i64 workers))), (23, (.p (.int .i64 i))), (24, (.p (.bool (decide (i < workers)))))] [((0, 1, 1), (0, 1, 1), (.arr 2 (out.map enc_G_api_Task) false))] [.c (sub [1, 1, 1, 0, 1, 4, 5, 1, 0] c6), .c (sub [1, 1, 1, 0, 1, 4, 5, 1, 1] c6), .lp (sub [1, 1, 1, 0, 1, 4, 5] c6), .blk 0, .c (sub [1, 1, 1, 1] c6)] [] (E0ok 43) (by kernel_rfl) trivial ?_
  generalize hb5 : (decide (i < workers)) = b5 at h ⊢
  cases b5
  · simp only [cond_false] at h
    refine awp_to 2 [(6, (.sl (0, 1, 1) 0 out.length))] [((0, 1, 1), (0, 1, 1), (.arr 2 (out.map enc_G_api_Task) false))] [.c (sub [1, 1, 1, 1] c6)] [] (E0ok 43) (by kernel_rfl) trivial ?_
    obtain rfl := Option.some.inj h
    exact hk
  · simp only [cond_true] at h
    refine awp_to 9 [(0, (.p (.int .i64 n))), (1, (.p (.int .i64 workers))), (6, (.sl (0, 1, 1) 0 out.length)), (7, (.p (.int .i64 i))), (22, (.p (.int .i64 workers))), (23, (.p (.int .i64 i)))] [((0, 1, 1), (0, 1, 1), (.arr 2 (out.map enc_G_api_Task) false))] [.c (sub [1, 1, 1, 0, 1, 4, 5, 1, 1, 0, 4, 1] c6), .blk 1, .c (sub [1, 1, 1, 0, 1, 4, 5, 1, 1, 1] c6), .lp (sub [1, 1, 1, 0, 1, 4, 5] c6), .blk 0, .c (sub [1, 1, 1, 1] c6)] [] (E0ok 43) (by kernel_rfl) trivial ?_
    refine awp_drawAt (id := 7) (ops := opsOf (sub [1, 1, 1, 0, 1, 4, 5, 1, 1, 0, 4, 1] c6)) (by kernel_rfl) (E0ok 43) mixed ?_
    obtain ⟨hc6, h⟩ := chk_some h
    obtain ⟨hc7, h⟩ := chk_some h
    obtain ⟨hc8, h⟩ := chk_some h
    obtain ⟨hc9, h⟩ := chk_some h
    obtain ⟨hc10, h⟩ := chk_some h
    obtain ⟨hc11, h⟩ := chk_some h
    obtain ⟨hc12, h⟩ := chk_some h
    refine dw_to 14 [(0, (.p (.int .i64 n))), (1, (.p (.int .i64 workers))), (22, (.p (.int .i64 workers))), (23, (.p (.int .i64 i))), (26, (.sl (0, 1, 1) 0 out.length)), (39, (.sl (1, 13, 0) 0 1))] [((0, 1, 1), (.arr 2 (out.map enc_G_api_Task) false)), ((1, 13, 0), (.arr 2 ([(G_api_Task.mk (Int.tdiv (i * n) workers) (Int.tdiv ((i + 1) * n) workers))].map enc_G_api_Task) false))] [⟨[], [], []⟩, ⟨[], [], []⟩, ⟨[], [], []⟩, ⟨[], [], []⟩, ⟨[], [], []⟩, ⟨[], [], []⟩, ⟨[], [], []⟩, ⟨[], [], []⟩, ⟨[], [], []⟩, ⟨[], [], []⟩, ⟨[], [], []⟩, ⟨[], [], []⟩, ⟨[], [], []⟩, ⟨[], [], []⟩] [(inK .i64 (i * n)), (decide (workers ≠ 0)), (inK .i64 (Int.tdiv (i * n) workers)), (inK .i64 (i + 1)), (inK .i64 ((i + 1) * n)), (decide (workers ≠ 0)), (inK .i64 (Int.tdiv ((i + 1) * n) workers))] (by kernel_rfl) ⟨hc6, hc7, hc8, hc9, hc10, hc11, hc12⟩ ?_
    obtain ⟨hc13, h⟩ := chk_some h
    refine dw_opEq (ops := opsOf (sub [1, 1, 1, 0, 1, 4, 5, 1, 1, 0, 4, 1] c6)) (o := opAt (sub [1, 1, 1, 0, 1, 4, 5, 1, 1, 0, 4, 1] c6) 14) rfl _ _ ⟨[(0, 1, 1), (1, 13, 0)], [(0, 1, 1)], []⟩ (by kernel_rfl) (by kernel_rfl) (appEff (out : List G_api_Task) ([(G_api_Task.mk (Int.tdiv (i * n) workers) (Int.tdiv ((i + 1) * n) workers))] : List G_api_Task) enc_G_api_Task 2 16 (1, 14, 0) (0, 1, 1) (([(G_api_Task.mk (Int.tdiv (i * n) workers) (Int.tdiv ((i + 1) * n) workers))] : List G_api_Task).map enc_G_api_Task) rfl) hc13 [(0, (.p (.int .i64 n))), (1, (.p (.int .i64 workers))), (22, (.p (.int .i64 workers))), (23, (.p (.int .i64 i))), (40, (.sl (1, 14, 0) 0 (out ++ [(G_api_Task.mk (Int.tdiv (i * n) workers) (Int.tdiv ((i + 1) * n) workers))]).length))] [((1, 14, 0), (.arr 2 ((out ++ [(G_api_Task.mk (Int.tdiv (i * n) workers) (Int.tdiv ((i + 1) * n) workers))]).map enc_G_api_Task) false))] (by kernel_rfl) [⟨[], [], []⟩, ⟨[], [], []⟩, ⟨[], [], []⟩, ⟨[], [], []⟩, ⟨[], [], []⟩, ⟨[], [], []⟩, ⟨[], [], []⟩, ⟨[], [], []⟩, ⟨[], [], []⟩, ⟨[], [], []⟩, ⟨[], [], []⟩, ⟨[], [], []⟩, ⟨[], [], []⟩, ⟨[], [], []⟩, ⟨[(0, 1, 1), (1, 13, 0)], [(0, 1, 1)], []⟩] (by kernel_rfl) ?_
    refine dw_to 1 [(0, (.p (.int .i64 n))), (1, (.p (.int .i64 workers))), (6, (.sl (1, 14, 0) 0 (out ++ [(G_api_Task.mk (Int.tdiv (i * n) workers) (Int.tdiv ((i + 1) * n) workers))]).length)), (22, (.p (.int .i64 workers))), (23, (.p (.int .i64 i)))] [((1, 14, 0), (.arr 2 ((out ++ [(G_api_Task.mk (Int.tdiv (i * n) workers) (Int.tdiv ((i + 1) * n) workers))]).map enc_G_api_Task) false))] [⟨[], [], []⟩, ⟨[], [], []⟩, ⟨[], [], []⟩, ⟨[], [], []⟩, ⟨[], [], []⟩, ⟨[], [], []⟩, ⟨[], [], []⟩, ⟨[], [], []⟩, ⟨[], [], []⟩, ⟨[], [], []⟩, ⟨[], [], []⟩, ⟨[], [], []⟩, ⟨[], [], []⟩, ⟨[], [], []⟩, ⟨[(0, 1, 1), (1, 13, 0)], [(0, 1, 1)], []⟩, ⟨[], [], []⟩] [] (by kernel_rfl) trivial ?_
    refine dw_end (by kernel_rfl) (by kernel_rfl) ?_
    obtain ⟨hc14, h⟩ := chk_some h
    refine awp_to 6 [(0, (.p (.int .i64 n))), (1, (.p (.int .i64 workers))), (6, (.sl (0, 1, 1) 0 (out ++ [(G_api_Task.mk (Int.tdiv (i * n) workers) (Int.tdiv ((i + 1) * n) workers))]).length)), (22, (.p (.int .i64 workers))), (23, (.p (.int .i64 (i + 1))))] [((0, 1, 1), (1, 14, 0), (.arr 2 ((out ++ [(G_api_Task.mk (Int.tdiv (i * n) workers) (Int.tdiv ((i + 1) * n) workers))]).map enc_G_api_Task) false))] [.c (sub [1, 1, 1, 0, 1, 4, 5] c6), .lp (sub [1, 1, 1, 0, 1, 4, 5] c6), .blk 0, .c (sub [1, 1, 1, 1] c6)] [(inK .i64 (i + 1))] (E0ok 43) (by kernel_rfl) hc14 ?_
    exact hrec (i + 1) (out ++ [(G_api_Task.mk (Int.tdiv (i * n) workers) (Int.tdiv ((i + 1) * n) workers))]) h

theorem s_worker_Split_l1_ok {W : World} {Lt S0 : Nat → Prop} {lays : Nat → Option Lay} (n : Int) (workers : Int) (ro : ((List G_api_Task) × Int)) (xo : (List G_api_Task)) (hk : s_worker_Split_l1_K W Lt S0 lays ro n workers xo) : ∀ (n_ : Nat) (i : Int) (out : (List G_api_Task)), s_worker_Split_l1 n workers n_ i out = some xo → s_worker_Split_l1_H W Lt S0 lays ro n workers i out := by
  intro n_
  induction n_ with
  | zero => intro i out h; simp [s_worker_Split_l1] at h
  | succ n_ ih => intro i out h; exact s_worker_Split_l1_b_ok n workers i out ro xo hk ih h

theorem s_worker_Split_j1_ok {W : World} {Lt S0 : Nat → Prop} {lays : Nat → Option Lay}  (ro : ((List G_api_Task) × Int)) (h : s_worker_Split_j1  = some ro) :
    AWP (s_worker_Split_C W Lt S0 lays) ⟨none, []⟩ (retG (s_worker_Split_C W Lt S0 lays) Try.f6 (s_worker_Split_R ro)) [.c (sub [1, 0, 1, 2] c6), .c (sub [1, 1] c6)] (mkS 1 [] []) := by
  unfold s_worker_Split_j1 at h
  refine awp_to 5 [(4, (.sl (0, 1, 1) 0 0)), (5, (.p (.int .i64 2)))] [((0, 1, 1), (1, 0, 0), (.arr 2 [] false))] [.c (sub [1, 0, 1, 2, 1] c6), .c (sub [1, 1] c6)] [] (E0ok 43) (by kernel_rfl) trivial ?_
  obtain rfl := Option.some.inj h
  exact awp_ret (s_worker_Split_R (([] : (List G_api_Task)), 2)) [decide (0 = (([] : (List G_api_Task)).map enc_G_api_Task).length)] [.own, .p] [] (E0ok 43) (by kernel_rfl) rfl (by simp [andL]) rfl

theorem s_worker_Split_fun (n : Int) (workers : Int) (ro : ((List G_api_Task) × Int)) (h : s_worker_Split n workers = some ro) : Fun E0 6 [.p (.int .i64 n), .p (.int .i64 workers)] (s_worker_Split_R ro) := by
  refine fun_of_awp (fn := Try.f6) (c := c6) Try.func6 (by decide) rfl (Nat.le_of_ble_eq_true (by kernel_rfl)) ?_
  intro W Lt S0 lays
  unfold s_worker_Split at h
  refine awp_to 11 [(0, (.p (.int .i64 n))), (1, (.p (.int .i64 workers))), (10, (.p (.bool (decide (workers < 1)))))] [] [.ops (opsOf (sub [1, 0, 0] c6)) 3, .c (sub [1, 0, 1] c6), .c (sub [1, 1] c6)] [] (E0ok 43) (by kernel_rfl) trivial ?_
  generalize hb1 : (decide (workers < 1)) = b1 at h ⊢
  cases b1
  · simp only [cond_false] at h
    refine awp_to 4 [(0, (.p (.int .i64 n))), (1, (.p (.int .i64 workers))), (14, (.p (.bool (decide (workers > 8)))))] [] [.ops (opsOf (sub [1, 0, 0] c6)) 7, .c (sub [1, 0, 1] c6), .c (sub [1, 1] c6)] [] (E0ok 43) (by kernel_rfl) trivial ?_
    generalize hb2 : (decide (workers > 8)) = b2 at h ⊢
    cases b2
    · simp only [cond_false] at h
      refine awp_to 4 [(0, (.p (.int .i64 n))), (1, (.p (.int .i64 workers))), (18, (.p (.bool (decide (n < 0)))))] [] [.ops (opsOf (sub [1, 0, 0] c6)) 11, .c (sub [1, 0, 1] c6), .c (sub [1, 1] c6)] [] (E0ok 43) (by kernel_rfl) trivial ?_
      generalize hb3 : (decide (n < 0)) = b3 at h ⊢
      cases b3
      · simp only [cond_false] at h
        refine awp_to 4 [(0, (.p (.int .i64 n))), (1, (.p (.int .i64 workers))), (21, (.p (.bool (decide (n > 1024)))))] [] [.c (sub [1, 0, 1] c6), .c (sub [1, 1] c6)] [] (E0ok 43) (by kernel_rfl) trivial ?_
        generalize hb4 : (decide (n > 1024)) = b4 at h ⊢
        cases b4
        · simp only [cond_false] at h
          refine awp_to 14 [(0, (.p (.int .i64 n))), (1, (.p (.int .i64 workers))), (6, (.sl (0, 1, 1) 0 0)), (22, (.p (.int .i64 workers))), (23, (.p (.int .i64 0)))] [((0, 1, 1), (1, 0, 0), (.arr 2 [] false))] [.c (sub [1, 1, 1, 0, 1, 4, 5] c6), .lp (sub [1, 1, 1, 0, 1, 4, 5] c6), .blk 0, .c (sub [1, 1, 1, 1] c6)] [] (E0ok 43) (by kernel_rfl) trivial ?_
          obtain ⟨out_1, hr15, h⟩ := bind_some h
          refine s_worker_Split_l1_ok n workers ro out_1 ?_ big (0 : Int) [] hr15
          show AWP (s_worker_Split_C W Lt S0 lays) ⟨none, []⟩ (retG (s_worker_Split_C W Lt S0 lays) Try.f6 (s_worker_Split_R ro)) [.c (sub [1, 1, 1, 1] c6)] (mkS 1 [(6, (.sl (0, 1, 1) 0 out_1.length))] [((0, 1, 1), (.arr 2 (out_1.map enc_G_api_Task) false))])
          refine awp_to 6 [(4, (.sl (0, 1, 1) 0 out_1.length)), (5, (.p (.int .i64 0)))] [((0, 1, 1), (0, 1, 1), (.arr 2 (out_1.map enc_G_api_Task) false))] [.c (sub [1, 1, 1, 1, 1] c6)] [] (E0ok 43) (by kernel_rfl) trivial ?_
          obtain rfl := Option.some.inj h
          exact awp_ret (s_worker_Split_R (out_1, 0)) [decide (out_1.length = (out_1.map enc_G_api_Task).length)] [.own, .p] [] (E0ok 43) (by kernel_rfl) rfl (by simp [andL]) rfl
        · simp only [cond_true] at h
          refine awp_to 1 [] [] [.c (sub [1, 0, 1, 2] c6), .c (sub [1, 1] c6)] [] (E0ok 43) (by kernel_rfl) trivial ?_
          exact s_worker_Split_j1_ok  ro h
      · simp only [cond_true] at h
        refine awp_to 5 [] [] [.c (sub [1, 0, 1, 2] c6), .c (sub [1, 1] c6)] [] (E0ok 43) (by kernel_rfl) trivial ?_
        exact s_worker_Split_j1_ok  ro h
    · simp only [cond_true] at h
      refine awp_to 9 [] [] [.c (sub [1, 0, 1, 2] c6), .c (sub [1, 1] c6)] [] (E0ok 43) (by kernel_rfl) trivial ?_
      exact s_worker_Split_j1_ok  ro h
  · simp only [cond_true] at h
    refine awp_to 13 [] [] [.c (sub [1, 0, 1, 2] c6), .c (sub [1, 1] c6)] [] (E0ok 43) (by kernel_rfl) trivial ?_
    exact s_worker_Split_j1_ok  ro h

/-! ### tablefinder/tablefinderlaw44.awake -/
noncomputable def c7 : Code := bodyOf Try.f7
noncomputable abbrev s_tablefinderlaw44_awake_C (W : World) (Lt S0 : Nat → Prop) (lays : Nat → Option Lay) : Ctx := ⟨E0.at 35, W, Lt, S0, lays⟩
def s_tablefinderlaw44_awake_R : Bool → Ret
  | q0 => ⟨[.p (.bool q0)], []⟩

theorem s_tablefinderlaw44_awake_fun  (ro : Bool) (h : s_tablefinderlaw44_awake  = some ro) : Fun E0 7 [] (s_tablefinderlaw44_awake_R ro) := by
  refine fun_of_awp (fn := Try.f7) (c := c7) Try.func7 (by decide) rfl (Nat.le_of_ble_eq_true (by kernel_rfl)) ?_
  intro W Lt S0 lays
  unfold s_tablefinderlaw44_awake at h
  refine awp_to 6 [] [] [.ops (opsOf (sub [1, 0] c7)) 0, .c (sub [1, 1] c7)] [] (E0ok 35) (by kernel_rfl) trivial ?_
  obtain ⟨⟨l, e⟩, hr1, h⟩ := bind_some h
  dsimp only at h
  refine awp_call (ops := opsOf (sub [1, 0] c7)) (o := opAt (sub [1, 0] c7) 0) (c := callOf (opAt (sub [1, 0] c7) 0)) (E0ok 35) (by kernel_rfl) (by kernel_rfl) (by kernel_rfl) (by kernel_rfl) [3, 3] [.p, .p] (f := 6) («as» := [{ arg := .p (.int .i64 10), fs := [] }, { arg := .p (.int .i64 3), fs := [] }]) (by kernel_rfl) trivial (args := [.p (.int .i64 10), .p (.int .i64 3)]) rfl (s_worker_Split_fun 10 3 _ hr1) (e := { val := (.tup [(.sl (1, 0, 0) 0 (l.map enc_G_api_Task).length), (.p (.int .i64 e))]), new := [(0, (.arr 2 (l.map enc_G_api_Task) false))], wr := [], frz := [] }) (e' := { val := (.tup [(.sl (1, 0, 0) 0 l.length), (.p (.int .i64 e))]), new := [(0, (.arr 2 (l.map enc_G_api_Task) false))], wr := [], frz := [] }) (by kernel_rfl) (by simp only [List.length_map]) ?_
  refine awp_to 11 [(1, (.sl (0, 1, 1) 0 l.length)), (9, (.p (.bool (e == 0))))] [((0, 1, 1), (1, 0, 0), (.arr 2 (l.map enc_G_api_Task) false))] [.ops (opsOf (sub [1, 1, 0] c7)) 3, .c (sub [1, 1, 1] c7)] [] (E0ok 35) (by kernel_rfl) trivial ?_
  generalize hb2 : (e == 0) = b2 at h ⊢
  cases b2
  · simp only [cond_false] at h
    refine awp_to 27 [(0, (.p (.bool false)))] [] [.c (sub [1, 1, 1] c7)] [] (E0ok 35) (by kernel_rfl) trivial ?_
    obtain rfl := Option.some.inj h
    exact awp_ret (s_tablefinderlaw44_awake_R false) [] [.p] [] (E0ok 35) (by kernel_rfl) rfl trivial rfl
  · simp only [cond_true] at h
    refine awp_to 5 [(1, (.sl (0, 1, 1) 0 l.length)), (14, (.p (.bool ((l.length : Int) == 3))))] [((0, 1, 1), (0, 1, 1), (.arr 2 (l.map enc_G_api_Task) false))] [.ops (opsOf (sub [1, 1, 0] c7)) 8, .c (sub [1, 1, 1] c7)] [] (E0ok 35) (by kernel_rfl) trivial ?_
    generalize hb3 : ((l.length : Int) == 3) = b3 at h ⊢
    cases b3
    · simp only [cond_false] at h
      refine awp_to 22 [(0, (.p (.bool false)))] [] [.c (sub [1, 1, 1] c7)] [] (E0ok 35) (by kernel_rfl) trivial ?_
      obtain rfl := Option.some.inj h
      exact awp_ret (s_tablefinderlaw44_awake_R false) [] [.p] [] (E0ok 35) (by kernel_rfl) rfl trivial rfl
    · simp only [cond_true] at h
      refine awp_to 1 [(1, (.sl (0, 1, 1) 0 l.length)), (14, (.p (.bool true))), (15, (.sl (0, 1, 1) 0 l.length))] [((0, 1, 1), (0, 1, 1), (.arr 2 (l.map enc_G_api_Task) false))] [.ops (opsOf (sub [1, 1, 0] c7)) 9, .c (sub [1, 1, 1] c7)] [] (E0ok 35) (by kernel_rfl) trivial ?_
      obtain ⟨l_e, hx4, h⟩ := bind_some h
      refine awp_opEq _ _ (ops := opsOf (sub [1, 1, 0] c7)) (o := opAt (sub [1, 1, 0] c7) 9) (E0ok 35) (by kernel_rfl) (by kernel_rfl) (by kernel_rfl) (idxoEff (0, 1, 1) (0 + (0 : Int).toNat) l.length hx4) (by kernel_rfl) (by kernel_rfl) rfl ?_
      refine awp_to 0 [(1, (.sl (0, 1, 1) 0 l.length)), (14, (.p (.bool true))), (16, (.ptr (0, 1, 1) (0 + (0 : Int).toNat) 0))] [((0, 1, 1), (0, 1, 1), (.arr 2 (l.map enc_G_api_Task) false))] [.ops (opsOf (sub [1, 1, 0] c7)) 10, .c (sub [1, 1, 1] c7)] [] (E0ok 35) (by kernel_rfl) trivial ?_
      refine awp_opEq _ _ (ops := opsOf (sub [1, 1, 0] c7)) (o := opAt (sub [1, 1, 0] c7) 10) (E0ok 35) (by kernel_rfl) (by kernel_rfl) (core_load_arr (t := 28) (a := .tmp 16) (ti := ((E0.at 35).ty 28).getD default) (id := (0, 1, 1)) (i' := (0 + (0 : Int).toNat)) (j := 0) (sz := 2) (es := (l : List G_api_Task).map enc_G_api_Task) (fix := false) (x := (enc_G_api_Task l_e)) (by kernel_rfl) (by kernel_rfl) (by kernel_rfl) (by kernel_rfl) (by rw [Nat.zero_add, getD_idx enc_G_api_Task hx4]; kernel_rfl)) rfl (by kernel_rfl) (by kernel_rfl) trivial ?_
      refine awp_to 4 [(1, (.sl (0, 1, 1) 0 l.length)), (21, (.p (.bool ((l_e.From == 0) && ((l_e.To == 3) && true)))))] [((0, 1, 1), (0, 1, 1), (.arr 2 (l.map enc_G_api_Task) false))] [.ops (opsOf (sub [1, 1, 0] c7)) 15, .c (sub [1, 1, 1] c7)] [] (E0ok 35) (by kernel_rfl) trivial ?_
      generalize hb5 : ((l_e.From == 0) && ((l_e.To == 3) && true)) = b5 at h ⊢
      cases b5
      · simp only [cond_false] at h
        refine awp_to 15 [(0, (.p (.bool false)))] [] [.c (sub [1, 1, 1] c7)] [] (E0ok 35) (by kernel_rfl) trivial ?_
        obtain rfl := Option.some.inj h
        exact awp_ret (s_tablefinderlaw44_awake_R false) [] [.p] [] (E0ok 35) (by kernel_rfl) rfl trivial rfl
      · simp only [cond_true] at h
        refine awp_to 1 [(1, (.sl (0, 1, 1) 0 l.length)), (21, (.p (.bool true))), (22, (.sl (0, 1, 1) 0 l.length))] [((0, 1, 1), (0, 1, 1), (.arr 2 (l.map enc_G_api_Task) false))] [.ops (opsOf (sub [1, 1, 0] c7)) 16, .c (sub [1, 1, 1] c7)] [] (E0ok 35) (by kernel_rfl) trivial ?_
        obtain ⟨l_e_1, hx6, h⟩ := bind_some h
        refine awp_opEq _ _ (ops := opsOf (sub [1, 1, 0] c7)) (o := opAt (sub [1, 1, 0] c7) 16) (E0ok 35) (by kernel_rfl) (by kernel_rfl) (by kernel_rfl) (idxoEff (0, 1, 1) (0 + (1 : Int).toNat) l.length hx6) (by kernel_rfl) (by kernel_rfl) rfl ?_
        refine awp_to 0 [(1, (.sl (0, 1, 1) 0 l.length)), (21, (.p (.bool true))), (23, (.ptr (0, 1, 1) (0 + (1 : Int).toNat) 0))] [((0, 1, 1), (0, 1, 1), (.arr 2 (l.map enc_G_api_Task) false))] [.ops (opsOf (sub [1, 1, 0] c7)) 17, .c (sub [1, 1, 1] c7)] [] (E0ok 35) (by kernel_rfl) trivial ?_
        refine awp_opEq _ _ (ops := opsOf (sub [1, 1, 0] c7)) (o := opAt (sub [1, 1, 0] c7) 17) (E0ok 35) (by kernel_rfl) (by kernel_rfl) (core_load_arr (t := 28) (a := .tmp 23) (ti := ((E0.at 35).ty 28).getD default) (id := (0, 1, 1)) (i' := (0 + (1 : Int).toNat)) (j := 0) (sz := 2) (es := (l : List G_api_Task).map enc_G_api_Task) (fix := false) (x := (enc_G_api_Task l_e_1)) (by kernel_rfl) (by kernel_rfl) (by kernel_rfl) (by kernel_rfl) (by rw [Nat.zero_add, getD_idx enc_G_api_Task hx6]; kernel_rfl)) rfl (by kernel_rfl) (by kernel_rfl) trivial ?_
        refine awp_to 4 [(1, (.sl (0, 1, 1) 0 l.length)), (28, (.p (.bool ((l_e_1.From == 3) && ((l_e_1.To == 6) && true)))))] [((0, 1, 1), (0, 1, 1), (.arr 2 (l.map enc_G_api_Task) false))] [.ops (opsOf (sub [1, 1, 0] c7)) 22, .c (sub [1, 1, 1] c7)] [] (E0ok 35) (by kernel_rfl) trivial ?_
        generalize hb7 : ((l_e_1.From == 3) && ((l_e_1.To == 6) && true)) = b7 at h ⊢
        cases b7
        · simp only [cond_false] at h
          refine awp_to 8 [(0, (.p (.bool false)))] [] [.c (sub [1, 1, 1] c7)] [] (E0ok 35) (by kernel_rfl) trivial ?_
          obtain rfl := Option.some.inj h
          exact awp_ret (s_tablefinderlaw44_awake_R false) [] [.p] [] (E0ok 35) (by kernel_rfl) rfl trivial rfl
        · simp only [cond_true] at h
          refine awp_to 1 [(28, (.p (.bool true))), (29, (.sl (0, 1, 1) 0 l.length))] [((0, 1, 1), (0, 1, 1), (.arr 2 (l.map enc_G_api_Task) false))] [.ops (opsOf (sub [1, 1, 0] c7)) 23, .c (sub [1, 1, 1] c7)] [] (E0ok 35) (by kernel_rfl) trivial ?_
          obtain ⟨l_e_2, hx8, h⟩ := bind_some h
          refine awp_opEq _ _ (ops := opsOf (sub [1, 1, 0] c7)) (o := opAt (sub [1, 1, 0] c7) 23) (E0ok 35) (by kernel_rfl) (by kernel_rfl) (by kernel_rfl) (idxoEff (0, 1, 1) (0 + (2 : Int).toNat) l.length hx8) (by kernel_rfl) (by kernel_rfl) rfl ?_
          refine awp_to 0 [(28, (.p (.bool true))), (30, (.ptr (0, 1, 1) (0 + (2 : Int).toNat) 0))] [((0, 1, 1), (0, 1, 1), (.arr 2 (l.map enc_G_api_Task) false))] [.ops (opsOf (sub [1, 1, 0] c7)) 24, .c (sub [1, 1, 1] c7)] [] (E0ok 35) (by kernel_rfl) trivial ?_
          refine awp_opEq _ _ (ops := opsOf (sub [1, 1, 0] c7)) (o := opAt (sub [1, 1, 0] c7) 24) (E0ok 35) (by kernel_rfl) (by kernel_rfl) (core_load_arr (t := 28) (a := .tmp 30) (ti := ((E0.at 35).ty 28).getD default) (id := (0, 1, 1)) (i' := (0 + (2 : Int).toNat)) (j := 0) (sz := 2) (es := (l : List G_api_Task).map enc_G_api_Task) (fix := false) (x := (enc_G_api_Task l_e_2)) (by kernel_rfl) (by kernel_rfl) (by kernel_rfl) (by kernel_rfl) (by rw [Nat.zero_add, getD_idx enc_G_api_Task hx8]; kernel_rfl)) rfl (by kernel_rfl) (by kernel_rfl) trivial ?_
          refine awp_to 5 [(0, (.p (.bool ((l_e_2.From == 6) && ((l_e_2.To == 10) && true)))))] [] [.c (sub [1, 1, 1] c7)] [] (E0ok 35) (by kernel_rfl) trivial ?_
          obtain rfl := Option.some.inj h
          exact awp_ret (s_tablefinderlaw44_awake_R ((l_e_2.From == 6) && ((l_e_2.To == 10) && true))) [] [.p] [] (E0ok 35) (by kernel_rfl) rfl trivial rfl

/-! ### tablefinder/tablefinderlaw44.WorkerSplits -/
noncomputable def c3 : Code := bodyOf Try.f3
noncomputable abbrev s_tablefinderlaw44_WorkerSplits_C (W : World) (Lt S0 : Nat → Prop) (lays : Nat → Option Lay) : Ctx := ⟨E0.at 99, W, Lt, S0, lays⟩
def s_tablefinderlaw44_WorkerSplits_R : Bool → Ret
  | q0 => ⟨[.p (.bool q0)], []⟩

def s_tablefinderlaw44_WorkerSplits_l1_K (W : World) (Lt S0 : Nat → Prop) (lays : Nat → Option Lay) (ro : Bool) (k : Int) (q : Int) (l : (List G_api_Task)) : (Out Unit Bool) → Prop
  | .brk () => AWP (s_tablefinderlaw44_WorkerSplits_C W Lt S0 lays) ⟨none, []⟩ (retG (s_tablefinderlaw44_WorkerSplits_C W Lt S0 lays) Try.f3 (s_tablefinderlaw44_WorkerSplits_R ro)) [.c (sub [1, 1, 1, 1, 1] c3)] (mkS 1 [] [])
  | .ret q_ => q_ = ro
noncomputable def s_tablefinderlaw44_WorkerSplits_l1_H (W : World) (Lt S0 : Nat → Prop) (lays : Nat → Option Lay) (ro : Bool) (k : Int) (q : Int) (l : (List G_api_Task)) (i : Int) : Prop :=
  AWP (s_tablefinderlaw44_WorkerSplits_C W Lt S0 lays) ⟨none, []⟩ (retG (s_tablefinderlaw44_WorkerSplits_C W Lt S0 lays) Try.f3 (s_tablefinderlaw44_WorkerSplits_R ro)) [.c (sub [1, 1, 1, 1, 0, 1, 4, 5] c3), .lp (sub [1, 1, 1, 1, 0, 1, 4, 5] c3), .blk 0, .c (sub [1, 1, 1, 1, 1] c3)] (mkS 1 [(5, (.p (.int .i64 k))), (6, (.p (.int .i64 (1 + q)))), (7, (.sl (0, 1, 1) 0 l.length)), (47, (.sl (0, 1, 1) 0 l.length)), (48, (.p (.int .i64 (l.length : Int)))), (49, (.p (.int .i64 i)))] [((0, 1, 1), (.arr 2 (l.map enc_G_api_Task) false))])


theorem s_tablefinderlaw44_WorkerSplits_j3_ok {W : World} {Lt S0 : Nat → Prop} {lays : Nat → Option Lay} (k : Int) (q : Int) (l : (List G_api_Task)) (i : Int) {rec_ : Int → Option (Out Unit Bool)} (ro : Bool) (xo : (Out Unit Bool)) (hk : s_tablefinderlaw44_WorkerSplits_l1_K W Lt S0 lays ro k q l xo) (hrec : ∀ (i : Int), rec_ i = some xo → s_tablefinderlaw44_WorkerSplits_l1_H W Lt S0 lays ro k q l i) (h : s_tablefinderlaw44_WorkerSplits_j3 rec_ k q l i = some xo) :
    AWP (s_tablefinderlaw44_WorkerSplits_C W Lt S0 lays) ⟨none, []⟩ (retG (s_tablefinderlaw44_WorkerSplits_C W Lt S0 lays) Try.f3 (s_tablefinderlaw44_WorkerSplits_R ro)) [.c (sub [1, 1, 1, 1, 0, 1, 4, 5, 1, 1, 0, 4, 1, 1, 3] c3), .blk 1, .c (sub [1, 1, 1, 1, 0, 1, 4, 5, 1, 1, 1] c3), .lp (sub [1, 1, 1, 1, 0, 1, 4, 5] c3), .blk 0, .c (sub [1, 1, 1, 1, 1] c3)] (mkS 1 [(5, (.p (.int .i64 k))), (6, (.p (.int .i64 (1 + q)))), (7, (.sl (0, 1, 1) 0 l.length)), (47, (.sl (0, 1, 1) 0 l.length)), (48, (.p (.int .i64 (l.length : Int)))), (49, (.p (.int .i64 i)))] [((0, 1, 1), (.arr 2 (l.map enc_G_api_Task) false))]) := by
  unfold s_tablefinderlaw44_WorkerSplits_j3 at h
  obtain ⟨hc37, h⟩ := chk_some h
  refine awp_to 7 [(5, (.p (.int .i64 k))), (6, (.p (.int .i64 (1 + q)))), (7, (.sl (0, 1, 1) 0 l.length)), (47, (.sl (0, 1, 1) 0 l.length)), (48, (.p (.int .i64 (l.length : Int)))), (49, (.p (.int .i64 (i + 1))))] [((0, 1, 1), (0, 1, 1), (.arr 2 (l.map enc_G_api_Task) false))] [.c (sub [1, 1, 1, 1, 0, 1, 4, 5] c3), .lp (sub [1, 1, 1, 1, 0, 1, 4, 5] c3), .blk 0, .c (sub [1, 1, 1, 1, 1] c3)] [(inK .i64 (i + 1))] (E0ok 99) (by kernel_rfl) hc37 ?_
  exact hrec (i + 1) h

theorem s_tablefinderlaw44_WorkerSplits_j2_ok {W : World} {Lt S0 : Nat → Prop} {lays : Nat → Option Lay} (k : Int) (q : Int) (l : (List G_api_Task)) {rec_ : Int → Option (Out Unit Bool)} (ro : Bool) (xo : (Out Unit Bool)) (hk : s_tablefinderlaw44_WorkerSplits_l1_K W Lt S0 lays ro k q l xo) (hrec : ∀ (i : Int), rec_ i = some xo → s_tablefinderlaw44_WorkerSplits_l1_H W Lt S0 lays ro k q l i) (h : s_tablefinderlaw44_WorkerSplits_j2 rec_ k q l = some xo) :
    AWP (s_tablefinderlaw44_WorkerSplits_C W Lt S0 lays) ⟨none, []⟩ (retG (s_tablefinderlaw44_WorkerSplits_C W Lt S0 lays) Try.f3 (s_tablefinderlaw44_WorkerSplits_R ro)) [.c (sub [1, 1, 1, 1, 0, 1, 4, 5, 1, 1, 0, 4, 1, 1, 2] c3), .blk 1, .c (sub [1, 1, 1, 1, 0, 1, 4, 5, 1, 1, 1] c3), .lp (sub [1, 1, 1, 1, 0, 1, 4, 5] c3), .blk 0, .c (sub [1, 1, 1, 1, 1] c3)] (mkS 1 [] []) := by
  unfold s_tablefinderlaw44_WorkerSplits_j2 at h
  refine awp_to 4 [(4, (.p (.bool false)))] [] [.c (sub [1, 1, 1, 1, 0, 1, 4, 5, 1, 1, 0, 4, 1, 1, 2, 1] c3), .blk 1, .c (sub [1, 1, 1, 1, 0, 1, 4, 5, 1, 1, 1] c3), .lp (sub [1, 1, 1, 1, 0, 1, 4, 5] c3), .blk 0, .c (sub [1, 1, 1, 1, 1] c3)] [] (E0ok 99) (by kernel_rfl) trivial ?_
  obtain rfl := Option.some.inj h
  subst hk
  exact awp_ret (s_tablefinderlaw44_WorkerSplits_R false) [] [.p] [] (E0ok 99) (by kernel_rfl) rfl trivial rfl

theorem s_tablefinderlaw44_WorkerSplits_l1_b_ok {W : World} {Lt S0 : Nat → Prop} {lays : Nat → Option Lay} (k : Int) (q : Int) (l : (List G_api_Task)) (i : Int) {rec_ : Int → Option (Out Unit Bool)} (ro : Bool) (xo : (Out Unit Bool)) (hk : s_tablefinderlaw44_WorkerSplits_l1_K W Lt S0 lays ro k q l xo) (hrec : ∀ (i : Int), rec_ i = some xo → s_tablefinderlaw44_WorkerSplits_l1_H W Lt S0 lays ro k q l i) (h : s_tablefinderlaw44_WorkerSplits_l1_b rec_ k q l i = some xo) :
    s_tablefinderlaw44_WorkerSplits_l1_H W Lt S0 lays ro k q l i := by
  unfold s_tablefinderlaw44_WorkerSplits_l1_H
  unfold s_tablefinderlaw44_WorkerSplits_l1_b at h
  refine awp_to 5 [(5, (.p (.int .i64 k))), (6, (.p (.int .i64 (1 + q)))), (7, (.sl (0, 1, 1) 0 l.length)), (47, (.sl (0, 1, 1) 0 l.length)), (48, (.p (.int .i64 (l.length : Int)))), (49, (.p (.int .i64 i))), (50, (.p (.bool (decide (i < (l.length : Int))))))] [((0, 1, 1), (0, 1, 1), (.arr 2 (l.map enc_G_api_Task) false))] [.c (sub [1, 1, 1, 1, 0, 1, 4, 5, 1, 0] c3), .c (sub [1, 1, 1, 1, 0, 1, 4, 5, 1, 1] c3), .lp (sub [1, 1, 1, 1, 0, 1, 4, 5] c3), .blk 0, .c (sub [1, 1, 1, 1, 1] c3)] [] (E0ok 99) (by kernel_rfl) trivial ?_
  generalize hb12 : (decide (i < (l.length : Int))) = b12 at h ⊢
  cases b12
  · simp only [cond_false] at h
    refine awp_to 2 [] [] [.c (sub [1, 1, 1, 1, 1] c3)] [] (E0ok 99) (by kernel_rfl) trivial ?_
    obtain rfl := Option.some.inj h
    exact hk
  · simp only [cond_true] at h
    refine awp_to 7 [(5, (.p (.int .i64 k))), (6, (.p (.int .i64 (1 + q)))), (7, (.sl (0, 1, 1) 0 l.length)), (47, (.sl (0, 1, 1) 0 l.length)), (48, (.p (.int .i64 (l.length : Int)))), (49, (.p (.int .i64 i))), (51, (.p (.int .i64 i)))] [((0, 1, 1), (0, 1, 1), (.arr 2 (l.map enc_G_api_Task) false))] [.ops (opsOf (sub [1, 1, 1, 1, 0, 1, 4, 5, 1, 1, 0, 4, 0] c3)) 1, .c (sub [1, 1, 1, 1, 0, 1, 4, 5, 1, 1, 0, 4, 1] c3), .blk 1, .c (sub [1, 1, 1, 1, 0, 1, 4, 5, 1, 1, 1] c3), .lp (sub [1, 1, 1, 1, 0, 1, 4, 5] c3), .blk 0, .c (sub [1, 1, 1, 1, 1] c3)] [] (E0ok 99) (by kernel_rfl) trivial ?_
    obtain ⟨t, hx13, h⟩ := bind_some h
    refine awp_opEq _ _ (ops := opsOf (sub [1, 1, 1, 1, 0, 1, 4, 5, 1, 1, 0, 4, 0] c3)) (o := opAt (sub [1, 1, 1, 1, 0, 1, 4, 5, 1, 1, 0, 4, 0] c3) 1) (E0ok 99) (by kernel_rfl) (by kernel_rfl) (by kernel_rfl) (idxoEff (0, 1, 1) (0 + i.toNat) l.length hx13) (by kernel_rfl) (by kernel_rfl) rfl ?_
    refine awp_to 0 [(5, (.p (.int .i64 k))), (6, (.p (.int .i64 (1 + q)))), (7, (.sl (0, 1, 1) 0 l.length)), (47, (.sl (0, 1, 1) 0 l.length)), (48, (.p (.int .i64 (l.length : Int)))), (49, (.p (.int .i64 i))), (51, (.p (.int .i64 i))), (52, (.ptr (0, 1, 1) (0 + i.toNat) 0))] [((0, 1, 1), (0, 1, 1), (.arr 2 (l.map enc_G_api_Task) false))] [.ops (opsOf (sub [1, 1, 1, 1, 0, 1, 4, 5, 1, 1, 0, 4, 0] c3)) 2, .c (sub [1, 1, 1, 1, 0, 1, 4, 5, 1, 1, 0, 4, 1] c3), .blk 1, .c (sub [1, 1, 1, 1, 0, 1, 4, 5, 1, 1, 1] c3), .lp (sub [1, 1, 1, 1, 0, 1, 4, 5] c3), .blk 0, .c (sub [1, 1, 1, 1, 1] c3)] [] (E0ok 99) (by kernel_rfl) trivial ?_
    refine awp_opEq _ _ (ops := opsOf (sub [1, 1, 1, 1, 0, 1, 4, 5, 1, 1, 0, 4, 0] c3)) (o := opAt (sub [1, 1, 1, 1, 0, 1, 4, 5, 1, 1, 0, 4, 0] c3) 2) (E0ok 99) (by kernel_rfl) (by kernel_rfl) (core_load_arr (t := 28) (a := .tmp 52) (ti := ((E0.at 99).ty 28).getD default) (id := (0, 1, 1)) (i' := (0 + i.toNat)) (j := 0) (sz := 2) (es := (l : List G_api_Task).map enc_G_api_Task) (fix := false) (x := (enc_G_api_Task t)) (by kernel_rfl) (by kernel_rfl) (by kernel_rfl) (by kernel_rfl) (by rw [Nat.zero_add, getD_idx enc_G_api_Task hx13]; kernel_rfl)) rfl (by kernel_rfl) (by kernel_rfl) trivial ?_
    refine awp_to 5 [(5, (.p (.int .i64 k))), (6, (.p (.int .i64 (1 + q)))), (7, (.sl (0, 1, 1) 0 l.length)), (9, (.p (.int .i64 i))), (10, (.ptr (0, 2, 1) 0 0)), (47, (.sl (0, 1, 1) 0 l.length)), (48, (.p (.int .i64 (l.length : Int)))), (49, (.p (.int .i64 i)))] [((0, 1, 1), (0, 1, 1), (.arr 2 (l.map enc_G_api_Task) false)), ((0, 2, 1), (1, 3, 0), (.box [(.p (.int .i64 t.From)), (.p (.int .i64 t.To))]))] [.c (sub [1, 1, 1, 1, 0, 1, 4, 5, 1, 1, 0, 4, 1, 0] c3), .c (sub [1, 1, 1, 1, 0, 1, 4, 5, 1, 1, 0, 4, 1, 1] c3), .blk 1, .c (sub [1, 1, 1, 1, 0, 1, 4, 5, 1, 1, 1] c3), .lp (sub [1, 1, 1, 1, 0, 1, 4, 5] c3), .blk 0, .c (sub [1, 1, 1, 1, 1] c3)] [] (E0ok 99) (by kernel_rfl) trivial ?_
    refine awp_drawAt (id := 8) (ops := opsOf (sub [1, 1, 1, 1, 0, 1, 4, 5, 1, 1, 0, 4, 1, 0] c3)) (by kernel_rfl) (E0ok 99) mixed ?_
    refine dw_to 6 [(5, (.p (.int .i64 k))), (6, (.p (.int .i64 (1 + q)))), (7, (.sl (0, 1, 1) 0 l.length)), (9, (.p (.int .i64 i))), (10, (.ptr (0, 2, 1) 0 0)), (47, (.sl (0, 1, 1) 0 l.length)), (48, (.p (.int .i64 (l.length : Int)))), (49, (.p (.int .i64 i))), (59, (.p (.bool (decide (t.To < t.From)))))] [((0, 1, 1), (.arr 2 (l.map enc_G_api_Task) false)), ((0, 2, 1), (.box [(.p (.int .i64 t.From)), (.p (.int .i64 t.To))]))] [⟨[], [], []⟩, ⟨[(0, 2, 1)], [], []⟩, ⟨[], [], []⟩, ⟨[(0, 2, 1)], [], []⟩, ⟨[], [], []⟩, ⟨[], [], []⟩] [] (by kernel_rfl) trivial ?_
    generalize hb14 : (decide (t.To < t.From)) = b14 at h ⊢
    cases b14
    · simp only [cond_false] at h
      refine dw_to 3 [(5, (.p (.int .i64 k))), (6, (.p (.int .i64 (1 + q)))), (7, (.sl (0, 1, 1) 0 l.length)), (9, (.p (.int .i64 i))), (10, (.ptr (0, 2, 1) 0 0)), (47, (.sl (0, 1, 1) 0 l.length)), (48, (.p (.int .i64 (l.length : Int)))), (49, (.p (.int .i64 i))), (59, (.p (.bool false))), (62, (.p (.bool (decide (i > 0)))))] [((0, 1, 1), (.arr 2 (l.map enc_G_api_Task) false)), ((0, 2, 1), (.box [(.p (.int .i64 t.From)), (.p (.int .i64 t.To))]))] [⟨[], [], []⟩, ⟨[(0, 2, 1)], [], []⟩, ⟨[], [], []⟩, ⟨[(0, 2, 1)], [], []⟩, ⟨[], [], []⟩, ⟨[], [], []⟩, ⟨[], [], []⟩, ⟨[], [], []⟩, ⟨[], [], []⟩] [] (by kernel_rfl) trivial ?_
      generalize hb15 : (decide (i > 0)) = b15 at h ⊢
      cases b15
      · simp only [cond_false] at h
        obtain ⟨hc16, h⟩ := chk_some h
        obtain ⟨hc17, h⟩ := chk_some h
        obtain ⟨hc18, h⟩ := chk_some h
        obtain ⟨hc19, h⟩ := chk_some h
        refine dw_to 24 [(5, (.p (.int .i64 k))), (6, (.p (.int .i64 (1 + q)))), (7, (.sl (0, 1, 1) 0 l.length)), (10, (.ptr (0, 2, 1) 0 0)), (47, (.sl (0, 1, 1) 0 l.length)), (48, (.p (.int .i64 (l.length : Int)))), (49, (.p (.int .i64 i))), (86, (.p (.bool (decide ((t.To - t.From) > ((Int.tdiv k (1 + q)) + 1))))))] [((0, 1, 1), (.arr 2 (l.map enc_G_api_Task) false)), ((0, 2, 1), (.box [(.p (.int .i64 t.From)), (.p (.int .i64 t.To))]))] [⟨[], [], []⟩, ⟨[(0, 2, 1)], [], []⟩, ⟨[], [], []⟩, ⟨[(0, 2, 1)], [], []⟩, ⟨[], [], []⟩, ⟨[], [], []⟩, ⟨[], [], []⟩, ⟨[], [], []⟩, ⟨[], [], []⟩, ⟨[], [], []⟩, ⟨[], [], []⟩, ⟨[], [], []⟩, ⟨[], [], []⟩, ⟨[], [], []⟩, ⟨[], [], []⟩, ⟨[], [], []⟩, ⟨[], [], []⟩, ⟨[], [], []⟩, ⟨[], [], []⟩, ⟨[], [], []⟩, ⟨[], [], []⟩, ⟨[], [], []⟩, ⟨[(0, 2, 1)], [], []⟩, ⟨[], [], []⟩, ⟨[(0, 2, 1)], [], []⟩, ⟨[], [], []⟩, ⟨[], [], []⟩, ⟨[], [], []⟩, ⟨[], [], []⟩, ⟨[], [], []⟩, ⟨[], [], []⟩, ⟨[], [], []⟩, ⟨[], [], []⟩] [(inK .i64 (t.To - t.From)), (decide ((1 + q) ≠ 0)), (inK .i64 (Int.tdiv k (1 + q))), (inK .i64 ((Int.tdiv k (1 + q)) + 1))] (by kernel_rfl) ⟨hc16, hc17, hc18, hc19⟩ ?_
        generalize hb20 : (decide ((t.To - t.From) > ((Int.tdiv k (1 + q)) + 1))) = b20 at h ⊢
        cases b20
        · simp only [cond_false] at h
          obtain ⟨hc21, h⟩ := chk_some h
          obtain ⟨hc22, h⟩ := chk_some h
          obtain ⟨hc23, h⟩ := chk_some h
          refine dw_to 10 [(5, (.p (.int .i64 k))), (6, (.p (.int .i64 (1 + q)))), (7, (.sl (0, 1, 1) 0 l.length)), (47, (.sl (0, 1, 1) 0 l.length)), (48, (.p (.int .i64 (l.length : Int)))), (49, (.p (.int .i64 i))), (96, (.p (.bool (decide ((t.To - t.From) < (Int.tdiv k (1 + q)))))))] [((0, 1, 1), (.arr 2 (l.map enc_G_api_Task) false))] [⟨[], [], []⟩, ⟨[(0, 2, 1)], [], []⟩, ⟨[], [], []⟩, ⟨[(0, 2, 1)], [], []⟩, ⟨[], [], []⟩, ⟨[], [], []⟩, ⟨[], [], []⟩, ⟨[], [], []⟩, ⟨[], [], []⟩, ⟨[], [], []⟩, ⟨[], [], []⟩, ⟨[], [], []⟩, ⟨[], [], []⟩, ⟨[], [], []⟩, ⟨[], [], []⟩, ⟨[], [], []⟩, ⟨[], [], []⟩, ⟨[], [], []⟩, ⟨[], [], []⟩, ⟨[], [], []⟩, ⟨[], [], []⟩, ⟨[], [], []⟩, ⟨[(0, 2, 1)], [], []⟩, ⟨[], [], []⟩, ⟨[(0, 2, 1)], [], []⟩, ⟨[], [], []⟩, ⟨[], [], []⟩, ⟨[], [], []⟩, ⟨[], [], []⟩, ⟨[], [], []⟩, ⟨[], [], []⟩, ⟨[], [], []⟩, ⟨[], [], []⟩, ⟨[], [], []⟩, ⟨[(0, 2, 1)], [], []⟩, ⟨[], [], []⟩, ⟨[(0, 2, 1)], [], []⟩, ⟨[], [], []⟩, ⟨[], [], []⟩, ⟨[], [], []⟩, ⟨[], [], []⟩, ⟨[], [], []⟩, ⟨[], [], []⟩] [(inK .i64 (t.To - t.From)), (decide ((1 + q) ≠ 0)), (inK .i64 (Int.tdiv k (1 + q)))] (by kernel_rfl) ⟨hc21, hc22, hc23⟩ ?_
          refine dw_end (by kernel_rfl) (by kernel_rfl) ?_
          refine awp_to 0 [(5, (.p (.int .i64 k))), (6, (.p (.int .i64 (1 + q)))), (7, (.sl (0, 1, 1) 0 l.length)), (47, (.sl (0, 1, 1) 0 l.length)), (48, (.p (.int .i64 (l.length : Int)))), (49, (.p (.int .i64 i))), (96, (.p (.bool (decide ((t.To - t.From) < (Int.tdiv k (1 + q)))))))] [((0, 1, 1), (0, 1, 1), (.arr 2 (l.map enc_G_api_Task) false))] [.c (sub [1, 1, 1, 1, 0, 1, 4, 5, 1, 1, 0, 4, 1, 1] c3), .blk 1, .c (sub [1, 1, 1, 1, 0, 1, 4, 5, 1, 1, 1] c3), .lp (sub [1, 1, 1, 1, 0, 1, 4, 5] c3), .blk 0, .c (sub [1, 1, 1, 1, 1] c3)] [] (E0ok 99) (by kernel_rfl) trivial ?_
          generalize hb24 : (decide ((t.To - t.From) < (Int.tdiv k (1 + q)))) = b24 at h ⊢
          cases b24
          · simp only [cond_false] at h
            refine awp_to 1 [(5, (.p (.int .i64 k))), (6, (.p (.int .i64 (1 + q)))), (7, (.sl (0, 1, 1) 0 l.length)), (47, (.sl (0, 1, 1) 0 l.length)), (48, (.p (.int .i64 (l.length : Int)))), (49, (.p (.int .i64 i)))] [((0, 1, 1), (0, 1, 1), (.arr 2 (l.map enc_G_api_Task) false))] [.c (sub [1, 1, 1, 1, 0, 1, 4, 5, 1, 1, 0, 4, 1, 1, 3] c3), .blk 1, .c (sub [1, 1, 1, 1, 0, 1, 4, 5, 1, 1, 1] c3), .lp (sub [1, 1, 1, 1, 0, 1, 4, 5] c3), .blk 0, .c (sub [1, 1, 1, 1, 1] c3)] [] (E0ok 99) (by kernel_rfl) trivial ?_
            exact s_tablefinderlaw44_WorkerSplits_j3_ok k q l i ro xo hk hrec h
          · simp only [cond_true] at h
            refine awp_to 1 [] [] [.c (sub [1, 1, 1, 1, 0, 1, 4, 5, 1, 1, 0, 4, 1, 1, 2] c3), .blk 1, .c (sub [1, 1, 1, 1, 0, 1, 4, 5, 1, 1, 1] c3), .lp (sub [1, 1, 1, 1, 0, 1, 4, 5] c3), .blk 0, .c (sub [1, 1, 1, 1, 1] c3)] [] (E0ok 99) (by kernel_rfl) trivial ?_
            exact s_tablefinderlaw44_WorkerSplits_j2_ok k q l ro xo hk hrec h
        · simp only [cond_true] at h
          refine dw_to 10 [(5, (.p (.int .i64 k))), (6, (.p (.int .i64 (1 + q)))), (7, (.sl (0, 1, 1) 0 l.length)), (47, (.sl (0, 1, 1) 0 l.length)), (48, (.p (.int .i64 (l.length : Int)))), (49, (.p (.int .i64 i))), (96, (.p (.bool true)))] [((0, 1, 1), (.arr 2 (l.map enc_G_api_Task) false))] [⟨[], [], []⟩, ⟨[(0, 2, 1)], [], []⟩, ⟨[], [], []⟩, ⟨[(0, 2, 1)], [], []⟩, ⟨[], [], []⟩, ⟨[], [], []⟩, ⟨[], [], []⟩, ⟨[], [], []⟩, ⟨[], [], []⟩, ⟨[], [], []⟩, ⟨[], [], []⟩, ⟨[], [], []⟩, ⟨[], [], []⟩, ⟨[], [], []⟩, ⟨[], [], []⟩, ⟨[], [], []⟩, ⟨[], [], []⟩, ⟨[], [], []⟩, ⟨[], [], []⟩, ⟨[], [], []⟩, ⟨[], [], []⟩, ⟨[], [], []⟩, ⟨[(0, 2, 1)], [], []⟩, ⟨[], [], []⟩, ⟨[(0, 2, 1)], [], []⟩, ⟨[], [], []⟩, ⟨[], [], []⟩, ⟨[], [], []⟩, ⟨[], [], []⟩, ⟨[], [], []⟩, ⟨[], [], []⟩, ⟨[], [], []⟩, ⟨[], [], []⟩, ⟨[], [], []⟩, ⟨[], [], []⟩, ⟨[], [], []⟩, ⟨[], [], []⟩, ⟨[], [], []⟩, ⟨[], [], []⟩, ⟨[], [], []⟩, ⟨[], [], []⟩, ⟨[], [], []⟩, ⟨[], [], []⟩] [] (by kernel_rfl) trivial ?_
          refine dw_end (by kernel_rfl) (by kernel_rfl) ?_
          refine awp_to 1 [] [] [.c (sub [1, 1, 1, 1, 0, 1, 4, 5, 1, 1, 0, 4, 1, 1, 2] c3), .blk 1, .c (sub [1, 1, 1, 1, 0, 1, 4, 5, 1, 1, 1] c3), .lp (sub [1, 1, 1, 1, 0, 1, 4, 5] c3), .blk 0, .c (sub [1, 1, 1, 1, 1] c3)] [] (E0ok 99) (by kernel_rfl) trivial ?_
          exact s_tablefinderlaw44_WorkerSplits_j2_ok k q l ro xo hk hrec h
      · simp only [cond_true] at h
        obtain ⟨hc25, h⟩ := chk_some h
        refine dw_to 3 [(5, (.p (.int .i64 k))), (6, (.p (.int .i64 (1 + q)))), (7, (.sl (0, 1, 1) 0 l.length)), (10, (.ptr (0, 2, 1) 0 0)), (47, (.sl (0, 1, 1) 0 l.length)), (48, (.p (.int .i64 (l.length : Int)))), (49, (.p (.int .i64 i))), (59, (.p (.bool false))), (62, (.p (.bool true))), (63, (.sl (0, 1, 1) 0 l.length)), (65, (.p (.int .i64 (i - 1))))] [((0, 1, 1), (.arr 2 (l.map enc_G_api_Task) false)), ((0, 2, 1), (.box [(.p (.int .i64 t.From)), (.p (.int .i64 t.To))]))] [⟨[], [], []⟩, ⟨[(0, 2, 1)], [], []⟩, ⟨[], [], []⟩, ⟨[(0, 2, 1)], [], []⟩, ⟨[], [], []⟩, ⟨[], [], []⟩, ⟨[], [], []⟩, ⟨[], [], []⟩, ⟨[], [], []⟩, ⟨[], [], []⟩, ⟨[], [], []⟩, ⟨[], [], []⟩] [(inK .i64 (i - 1))] (by kernel_rfl) hc25 ?_
        obtain ⟨l_e_2, hx26, h⟩ := bind_some h
        refine dw_opEq (ops := opsOf (sub [1, 1, 1, 1, 0, 1, 4, 5, 1, 1, 0, 4, 1, 0] c3)) (o := opAt (sub [1, 1, 1, 1, 0, 1, 4, 5, 1, 1, 0, 4, 1, 0] c3) 12) rfl _ _ ⟨[(0, 1, 1)], [], []⟩ (by kernel_rfl) (by kernel_rfl) (idxoEff (0, 1, 1) (0 + (i - 1).toNat) l.length hx26) rfl [(5, (.p (.int .i64 k))), (6, (.p (.int .i64 (1 + q)))), (7, (.sl (0, 1, 1) 0 l.length)), (10, (.ptr (0, 2, 1) 0 0)), (47, (.sl (0, 1, 1) 0 l.length)), (48, (.p (.int .i64 (l.length : Int)))), (49, (.p (.int .i64 i))), (59, (.p (.bool false))), (62, (.p (.bool true))), (66, (.ptr (0, 1, 1) (0 + (i - 1).toNat) 0))] [((0, 1, 1), (.arr 2 (l.map enc_G_api_Task) false)), ((0, 2, 1), (.box [(.p (.int .i64 t.From)), (.p (.int .i64 t.To))]))] (by kernel_rfl) [⟨[], [], []⟩, ⟨[(0, 2, 1)], [], []⟩, ⟨[], [], []⟩, ⟨[(0, 2, 1)], [], []⟩, ⟨[], [], []⟩, ⟨[], [], []⟩, ⟨[], [], []⟩, ⟨[], [], []⟩, ⟨[], [], []⟩, ⟨[], [], []⟩, ⟨[], [], []⟩, ⟨[], [], []⟩, ⟨[(0, 1, 1)], [], []⟩] (by kernel_rfl) ?_
        refine dw_to 1 [(5, (.p (.int .i64 k))), (6, (.p (.int .i64 (1 + q)))), (7, (.sl (0, 1, 1) 0 l.length)), (10, (.ptr (0, 2, 1) 0 0)), (47, (.sl (0, 1, 1) 0 l.length)), (48, (.p (.int .i64 (l.length : Int)))), (49, (.p (.int .i64 i))), (59, (.p (.bool false))), (62, (.p (.bool true))), (67, (.ptr (0, 1, 1) (0 + (i - 1).toNat) 1))] [((0, 1, 1), (.arr 2 (l.map enc_G_api_Task) false)), ((0, 2, 1), (.box [(.p (.int .i64 t.From)), (.p (.int .i64 t.To))]))] [⟨[], [], []⟩, ⟨[(0, 2, 1)], [], []⟩, ⟨[], [], []⟩, ⟨[(0, 2, 1)], [], []⟩, ⟨[], [], []⟩, ⟨[], [], []⟩, ⟨[], [], []⟩, ⟨[], [], []⟩, ⟨[], [], []⟩, ⟨[], [], []⟩, ⟨[], [], []⟩, ⟨[], [], []⟩, ⟨[(0, 1, 1)], [], []⟩, ⟨[], [], []⟩] [] (by kernel_rfl) trivial ?_
        refine dw_opEq (ops := opsOf (sub [1, 1, 1, 1, 0, 1, 4, 5, 1, 1, 0, 4, 1, 0] c3)) (o := opAt (sub [1, 1, 1, 1, 0, 1, 4, 5, 1, 1, 0, 4, 1, 0] c3) 14) rfl _ _ ⟨[(0, 1, 1)], [], []⟩ (by kernel_rfl) (stepD_core (by kernel_rfl) (core_load_arr (t := 3) (a := .tmp 67) (ti := ((E0.at 99).ty 3).getD default) (id := (0, 1, 1)) (i' := (0 + (i - 1).toNat)) (j := 1) (sz := 2) (es := (l : List G_api_Task).map enc_G_api_Task) (fix := false) (x := (.int .i64 l_e_2.To)) (by kernel_rfl) (by kernel_rfl) (by kernel_rfl) (by kernel_rfl) (by rw [Nat.zero_add, getD_idx enc_G_api_Task hx26]; kernel_rfl)) _ (by kernel_rfl) (by kernel_rfl)) rfl trivial [(5, (.p (.int .i64 k))), (6, (.p (.int .i64 (1 + q)))), (7, (.sl (0, 1, 1) 0 l.length)), (10, (.ptr (0, 2, 1) 0 0)), (47, (.sl (0, 1, 1) 0 l.length)), (48, (.p (.int .i64 (l.length : Int)))), (49, (.p (.int .i64 i))), (59, (.p (.bool false))), (62, (.p (.bool true))), (68, (.p (.int .i64 l_e_2.To)))] [((0, 1, 1), (.arr 2 (l.map enc_G_api_Task) false)), ((0, 2, 1), (.box [(.p (.int .i64 t.From)), (.p (.int .i64 t.To))]))] (by kernel_rfl) [⟨[], [], []⟩, ⟨[(0, 2, 1)], [], []⟩, ⟨[], [], []⟩, ⟨[(0, 2, 1)], [], []⟩, ⟨[], [], []⟩, ⟨[], [], []⟩, ⟨[], [], []⟩, ⟨[], [], []⟩, ⟨[], [], []⟩, ⟨[], [], []⟩, ⟨[], [], []⟩, ⟨[], [], []⟩, ⟨[(0, 1, 1)], [], []⟩, ⟨[], [], []⟩, ⟨[(0, 1, 1)], [], []⟩] (by kernel_rfl) ?_
        refine dw_to 6 [(5, (.p (.int .i64 k))), (6, (.p (.int .i64 (1 + q)))), (7, (.sl (0, 1, 1) 0 l.length)), (10, (.ptr (0, 2, 1) 0 0)), (47, (.sl (0, 1, 1) 0 l.length)), (48, (.p (.int .i64 (l.length : Int)))), (49, (.p (.int .i64 i))), (74, (.p (.bool (l_e_2.To != t.From))))] [((0, 1, 1), (.arr 2 (l.map enc_G_api_Task) false)), ((0, 2, 1), (.box [(.p (.int .i64 t.From)), (.p (.int .i64 t.To))]))] [⟨[], [], []⟩, ⟨[(0, 2, 1)], [], []⟩, ⟨[], [], []⟩, ⟨[(0, 2, 1)], [], []⟩, ⟨[], [], []⟩, ⟨[], [], []⟩, ⟨[], [], []⟩, ⟨[], [], []⟩, ⟨[], [], []⟩, ⟨[], [], []⟩, ⟨[], [], []⟩, ⟨[], [], []⟩, ⟨[(0, 1, 1)], [], []⟩, ⟨[], [], []⟩, ⟨[(0, 1, 1)], [], []⟩, ⟨[], [], []⟩, ⟨[(0, 2, 1)], [], []⟩, ⟨[], [], []⟩, ⟨[], [], []⟩, ⟨[], [], []⟩, ⟨[], [], []⟩] [] (by kernel_rfl) trivial ?_
        generalize hb27 : (l_e_2.To != t.From) = b27 at h ⊢
        cases b27
        · simp only [cond_false] at h
          obtain ⟨hc28, h⟩ := chk_some h
          obtain ⟨hc29, h⟩ := chk_some h
          obtain ⟨hc30, h⟩ := chk_some h
          obtain ⟨hc31, h⟩ := chk_some h
          refine dw_to 12 [(5, (.p (.int .i64 k))), (6, (.p (.int .i64 (1 + q)))), (7, (.sl (0, 1, 1) 0 l.length)), (10, (.ptr (0, 2, 1) 0 0)), (47, (.sl (0, 1, 1) 0 l.length)), (48, (.p (.int .i64 (l.length : Int)))), (49, (.p (.int .i64 i))), (86, (.p (.bool (decide ((t.To - t.From) > ((Int.tdiv k (1 + q)) + 1))))))] [((0, 1, 1), (.arr 2 (l.map enc_G_api_Task) false)), ((0, 2, 1), (.box [(.p (.int .i64 t.From)), (.p (.int .i64 t.To))]))] [⟨[], [], []⟩, ⟨[(0, 2, 1)], [], []⟩, ⟨[], [], []⟩, ⟨[(0, 2, 1)], [], []⟩, ⟨[], [], []⟩, ⟨[], [], []⟩, ⟨[], [], []⟩, ⟨[], [], []⟩, ⟨[], [], []⟩, ⟨[], [], []⟩, ⟨[], [], []⟩, ⟨[], [], []⟩, ⟨[(0, 1, 1)], [], []⟩, ⟨[], [], []⟩, ⟨[(0, 1, 1)], [], []⟩, ⟨[], [], []⟩, ⟨[(0, 2, 1)], [], []⟩, ⟨[], [], []⟩, ⟨[], [], []⟩, ⟨[], [], []⟩, ⟨[], [], []⟩, ⟨[], [], []⟩, ⟨[(0, 2, 1)], [], []⟩, ⟨[], [], []⟩, ⟨[(0, 2, 1)], [], []⟩, ⟨[], [], []⟩, ⟨[], [], []⟩, ⟨[], [], []⟩, ⟨[], [], []⟩, ⟨[], [], []⟩, ⟨[], [], []⟩, ⟨[], [], []⟩, ⟨[], [], []⟩] [(inK .i64 (t.To - t.From)), (decide ((1 + q) ≠ 0)), (inK .i64 (Int.tdiv k (1 + q))), (inK .i64 ((Int.tdiv k (1 + q)) + 1))] (by kernel_rfl) ⟨hc28, hc29, hc30, hc31⟩ ?_
          generalize hb32 : (decide ((t.To - t.From) > ((Int.tdiv k (1 + q)) + 1))) = b32 at h ⊢
          cases b32
          · simp only [cond_false] at h
            obtain ⟨hc33, h⟩ := chk_some h
            obtain ⟨hc34, h⟩ := chk_some h
            obtain ⟨hc35, h⟩ := chk_some h
            refine dw_to 10 [(5, (.p (.int .i64 k))), (6, (.p (.int .i64 (1 + q)))), (7, (.sl (0, 1, 1) 0 l.length)), (47, (.sl (0, 1, 1) 0 l.length)), (48, (.p (.int .i64 (l.length : Int)))), (49, (.p (.int .i64 i))), (96, (.p (.bool (decide ((t.To - t.From) < (Int.tdiv k (1 + q)))))))] [((0, 1, 1), (.arr 2 (l.map enc_G_api_Task) false))] [⟨[], [], []⟩, ⟨[(0, 2, 1)], [], []⟩, ⟨[], [], []⟩, ⟨[(0, 2, 1)], [], []⟩, ⟨[], [], []⟩, ⟨[], [], []⟩, ⟨[], [], []⟩, ⟨[], [], []⟩, ⟨[], [], []⟩, ⟨[], [], []⟩, ⟨[], [], []⟩, ⟨[], [], []⟩, ⟨[(0, 1, 1)], [], []⟩, ⟨[], [], []⟩, ⟨[(0, 1, 1)], [], []⟩, ⟨[], [], []⟩, ⟨[(0, 2, 1)], [], []⟩, ⟨[], [], []⟩, ⟨[], [], []⟩, ⟨[], [], []⟩, ⟨[], [], []⟩, ⟨[], [], []⟩, ⟨[(0, 2, 1)], [], []⟩, ⟨[], [], []⟩, ⟨[(0, 2, 1)], [], []⟩, ⟨[], [], []⟩, ⟨[], [], []⟩, ⟨[], [], []⟩, ⟨[], [], []⟩, ⟨[], [], []⟩, ⟨[], [], []⟩, ⟨[], [], []⟩, ⟨[], [], []⟩, ⟨[], [], []⟩, ⟨[(0, 2, 1)], [], []⟩, ⟨[], [], []⟩, ⟨[(0, 2, 1)], [], []⟩, ⟨[], [], []⟩, ⟨[], [], []⟩, ⟨[], [], []⟩, ⟨[], [], []⟩, ⟨[], [], []⟩, ⟨[], [], []⟩] [(inK .i64 (t.To - t.From)), (decide ((1 + q) ≠ 0)), (inK .i64 (Int.tdiv k (1 + q)))] (by kernel_rfl) ⟨hc33, hc34, hc35⟩ ?_
            refine dw_end (by kernel_rfl) (by kernel_rfl) ?_
            refine awp_to 0 [(5, (.p (.int .i64 k))), (6, (.p (.int .i64 (1 + q)))), (7, (.sl (0, 1, 1) 0 l.length)), (47, (.sl (0, 1, 1) 0 l.length)), (48, (.p (.int .i64 (l.length : Int)))), (49, (.p (.int .i64 i))), (96, (.p (.bool (decide ((t.To - t.From) < (Int.tdiv k (1 + q)))))))] [((0, 1, 1), (0, 1, 1), (.arr 2 (l.map enc_G_api_Task) false))] [.c (sub [1, 1, 1, 1, 0, 1, 4, 5, 1, 1, 0, 4, 1, 1] c3), .blk 1, .c (sub [1, 1, 1, 1, 0, 1, 4, 5, 1, 1, 1] c3), .lp (sub [1, 1, 1, 1, 0, 1, 4, 5] c3), .blk 0, .c (sub [1, 1, 1, 1, 1] c3)] [] (E0ok 99) (by kernel_rfl) trivial ?_
            generalize hb36 : (decide ((t.To - t.From) < (Int.tdiv k (1 + q)))) = b36 at h ⊢
            cases b36
            · simp only [cond_false] at h
              refine awp_to 1 [(5, (.p (.int .i64 k))), (6, (.p (.int .i64 (1 + q)))), (7, (.sl (0, 1, 1) 0 l.length)), (47, (.sl (0, 1, 1) 0 l.length)), (48, (.p (.int .i64 (l.length : Int)))), (49, (.p (.int .i64 i)))] [((0, 1, 1), (0, 1, 1), (.arr 2 (l.map enc_G_api_Task) false))] [.c (sub [1, 1, 1, 1, 0, 1, 4, 5, 1, 1, 0, 4, 1, 1, 3] c3), .blk 1, .c (sub [1, 1, 1, 1, 0, 1, 4, 5, 1, 1, 1] c3), .lp (sub [1, 1, 1, 1, 0, 1, 4, 5] c3), .blk 0, .c (sub [1, 1, 1, 1, 1] c3)] [] (E0ok 99) (by kernel_rfl) trivial ?_
              exact s_tablefinderlaw44_WorkerSplits_j3_ok k q l i ro xo hk hrec h
            · simp only [cond_true] at h
              refine awp_to 1 [] [] [.c (sub [1, 1, 1, 1, 0, 1, 4, 5, 1, 1, 0, 4, 1, 1, 2] c3), .blk 1, .c (sub [1, 1, 1, 1, 0, 1, 4, 5, 1, 1, 1] c3), .lp (sub [1, 1, 1, 1, 0, 1, 4, 5] c3), .blk 0, .c (sub [1, 1, 1, 1, 1] c3)] [] (E0ok 99) (by kernel_rfl) trivial ?_
              exact s_tablefinderlaw44_WorkerSplits_j2_ok k q l ro xo hk hrec h
          · simp only [cond_true] at h
            refine dw_to 10 [(5, (.p (.int .i64 k))), (6, (.p (.int .i64 (1 + q)))), (7, (.sl (0, 1, 1) 0 l.length)), (47, (.sl (0, 1, 1) 0 l.length)), (48, (.p (.int .i64 (l.length : Int)))), (49, (.p (.int .i64 i))), (96, (.p (.bool true)))] [((0, 1, 1), (.arr 2 (l.map enc_G_api_Task) false))] [⟨[], [], []⟩, ⟨[(0, 2, 1)], [], []⟩, ⟨[], [], []⟩, ⟨[(0, 2, 1)], [], []⟩, ⟨[], [], []⟩, ⟨[], [], []⟩, ⟨[], [], []⟩, ⟨[], [], []⟩, ⟨[], [], []⟩, ⟨[], [], []⟩, ⟨[], [], []⟩, ⟨[], [], []⟩, ⟨[(0, 1, 1)], [], []⟩, ⟨[], [], []⟩, ⟨[(0, 1, 1)], [], []⟩, ⟨[], [], []⟩, ⟨[(0, 2, 1)], [], []⟩, ⟨[], [], []⟩, ⟨[], [], []⟩, ⟨[], [], []⟩, ⟨[], [], []⟩, ⟨[], [], []⟩, ⟨[(0, 2, 1)], [], []⟩, ⟨[], [], []⟩, ⟨[(0, 2, 1)], [], []⟩, ⟨[], [], []⟩, ⟨[], [], []⟩, ⟨[], [], []⟩, ⟨[], [], []⟩, ⟨[], [], []⟩, ⟨[], [], []⟩, ⟨[], [], []⟩, ⟨[], [], []⟩, ⟨[], [], []⟩, ⟨[], [], []⟩, ⟨[], [], []⟩, ⟨[], [], []⟩, ⟨[], [], []⟩, ⟨[], [], []⟩, ⟨[], [], []⟩, ⟨[], [], []⟩, ⟨[], [], []⟩, ⟨[], [], []⟩] [] (by kernel_rfl) trivial ?_
            refine dw_end (by kernel_rfl) (by kernel_rfl) ?_
            refine awp_to 1 [] [] [.c (sub [1, 1, 1, 1, 0, 1, 4, 5, 1, 1, 0, 4, 1, 1, 2] c3), .blk 1, .c (sub [1, 1, 1, 1, 0, 1, 4, 5, 1, 1, 1] c3), .lp (sub [1, 1, 1, 1, 0, 1, 4, 5] c3), .blk 0, .c (sub [1, 1, 1, 1, 1] c3)] [] (E0ok 99) (by kernel_rfl) trivial ?_
            exact s_tablefinderlaw44_WorkerSplits_j2_ok k q l ro xo hk hrec h
        · simp only [cond_true] at h
          refine dw_to 22 [(5, (.p (.int .i64 k))), (6, (.p (.int .i64 (1 + q)))), (7, (.sl (0, 1, 1) 0 l.length)), (47, (.sl (0, 1, 1) 0 l.length)), (48, (.p (.int .i64 (l.length : Int)))), (49, (.p (.int .i64 i))), (96, (.p (.bool true)))] [((0, 1, 1), (.arr 2 (l.map enc_G_api_Task) false))] [⟨[], [], []⟩, ⟨[(0, 2, 1)], [], []⟩, ⟨[], [], []⟩, ⟨[(0, 2, 1)], [], []⟩, ⟨[], [], []⟩, ⟨[], [], []⟩, ⟨[], [], []⟩, ⟨[], [], []⟩, ⟨[], [], []⟩, ⟨[], [], []⟩, ⟨[], [], []⟩, ⟨[], [], []⟩, ⟨[(0, 1, 1)], [], []⟩, ⟨[], [], []⟩, ⟨[(0, 1, 1)], [], []⟩, ⟨[], [], []⟩, ⟨[(0, 2, 1)], [], []⟩, ⟨[], [], []⟩, ⟨[], [], []⟩, ⟨[], [], []⟩, ⟨[], [], []⟩, ⟨[], [], []⟩, ⟨[], [], []⟩, ⟨[], [], []⟩, ⟨[], [], []⟩, ⟨[], [], []⟩, ⟨[], [], []⟩, ⟨[], [], []⟩, ⟨[], [], []⟩, ⟨[], [], []⟩, ⟨[], [], []⟩, ⟨[], [], []⟩, ⟨[], [], []⟩, ⟨[], [], []⟩, ⟨[], [], []⟩, ⟨[], [], []⟩, ⟨[], [], []⟩, ⟨[], [], []⟩, ⟨[], [], []⟩, ⟨[], [], []⟩, ⟨[], [], []⟩, ⟨[], [], []⟩, ⟨[], [], []⟩] [] (by kernel_rfl) trivial ?_
          refine dw_end (by kernel_rfl) (by kernel_rfl) ?_
          refine awp_to 1 [] [] [.c (sub [1, 1, 1, 1, 0, 1, 4, 5, 1, 1, 0, 4, 1, 1, 2] c3), .blk 1, .c (sub [1, 1, 1, 1, 0, 1, 4, 5, 1, 1, 1] c3), .lp (sub [1, 1, 1, 1, 0, 1, 4, 5] c3), .blk 0, .c (sub [1, 1, 1, 1, 1] c3)] [] (E0ok 99) (by kernel_rfl) trivial ?_
          exact s_tablefinderlaw44_WorkerSplits_j2_ok k q l ro xo hk hrec h
    · simp only [cond_true] at h
      refine dw_to 37 [(5, (.p (.int .i64 k))), (6, (.p (.int .i64 (1 + q)))), (7, (.sl (0, 1, 1) 0 l.length)), (47, (.sl (0, 1, 1) 0 l.length)), (48, (.p (.int .i64 (l.length : Int)))), (49, (.p (.int .i64 i))), (96, (.p (.bool true)))] [((0, 1, 1), (.arr 2 (l.map enc_G_api_Task) false))] [⟨[], [], []⟩, ⟨[(0, 2, 1)], [], []⟩, ⟨[], [], []⟩, ⟨[(0, 2, 1)], [], []⟩, ⟨[], [], []⟩, ⟨[], [], []⟩, ⟨[], [], []⟩, ⟨[], [], []⟩, ⟨[], [], []⟩, ⟨[], [], []⟩, ⟨[], [], []⟩, ⟨[], [], []⟩, ⟨[], [], []⟩, ⟨[], [], []⟩, ⟨[], [], []⟩, ⟨[], [], []⟩, ⟨[], [], []⟩, ⟨[], [], []⟩, ⟨[], [], []⟩, ⟨[], [], []⟩, ⟨[], [], []⟩, ⟨[], [], []⟩, ⟨[], [], []⟩, ⟨[], [], []⟩, ⟨[], [], []⟩, ⟨[], [], []⟩, ⟨[], [], []⟩, ⟨[], [], []⟩, ⟨[], [], []⟩, ⟨[], [], []⟩, ⟨[], [], []⟩, ⟨[], [], []⟩, ⟨[], [], []⟩, ⟨[], [], []⟩, ⟨[], [], []⟩, ⟨[], [], []⟩, ⟨[], [], []⟩, ⟨[], [], []⟩, ⟨[], [], []⟩, ⟨[], [], []⟩, ⟨[], [], []⟩, ⟨[], [], []⟩, ⟨[], [], []⟩] [] (by kernel_rfl) trivial ?_
      refine dw_end (by kernel_rfl) (by kernel_rfl) ?_
      refine awp_to 1 [] [] [.c (sub [1, 1, 1, 1, 0, 1, 4, 5, 1, 1, 0, 4, 1, 1, 2] c3), .blk 1, .c (sub [1, 1, 1, 1, 0, 1, 4, 5, 1, 1, 1] c3), .lp (sub [1, 1, 1, 1, 0, 1, 4, 5] c3), .blk 0, .c (sub [1, 1, 1, 1, 1] c3)] [] (E0ok 99) (by kernel_rfl) trivial ?_
      exact s_tablefinderlaw44_WorkerSplits_j2_ok k q l ro xo hk hrec h

theorem s_tablefinderlaw44_WorkerSplits_l1_ok {W : World} {Lt S0 : Nat → Prop} {lays : Nat → Option Lay} (k : Int) (q : Int) (l : (List G_api_Task)) (ro : Bool) (xo : (Out Unit Bool)) (hk : s_tablefinderlaw44_WorkerSplits_l1_K W Lt S0 lays ro k q l xo) : ∀ (n_ : Nat) (i : Int), s_tablefinderlaw44_WorkerSplits_l1 k q l n_ i = some xo → s_tablefinderlaw44_WorkerSplits_l1_H W Lt S0 lays ro k q l i := by
  intro n_
  induction n_ with
  | zero => intro i h; simp [s_tablefinderlaw44_WorkerSplits_l1] at h
  | succ n_ ih => intro i h; exact s_tablefinderlaw44_WorkerSplits_l1_b_ok k q l i ro xo hk ih h

theorem s_tablefinderlaw44_WorkerSplits_j1_ok {W : World} {Lt S0 : Nat → Prop} {lays : Nat → Option Lay}  (ro : Bool) (h : s_tablefinderlaw44_WorkerSplits_j1  = some ro) :
    AWP (s_tablefinderlaw44_WorkerSplits_C W Lt S0 lays) ⟨none, []⟩ (retG (s_tablefinderlaw44_WorkerSplits_C W Lt S0 lays) Try.f3 (s_tablefinderlaw44_WorkerSplits_R ro)) [.c (sub [1, 1, 1, 0, 1, 2] c3), .c (sub [1, 1, 1, 1] c3)] (mkS 1 [] []) := by
  unfold s_tablefinderlaw44_WorkerSplits_j1 at h
  refine awp_to 4 [(4, (.p (.bool false)))] [] [.c (sub [1, 1, 1, 0, 1, 2, 1] c3), .c (sub [1, 1, 1, 1] c3)] [] (E0ok 99) (by kernel_rfl) trivial ?_
  obtain rfl := Option.some.inj h
  exact awp_ret (s_tablefinderlaw44_WorkerSplits_R false) [] [.p] [] (E0ok 99) (by kernel_rfl) rfl trivial rfl

theorem s_tablefinderlaw44_WorkerSplits_fun (n : Int) (workers : Int) (ro : Bool) (h : s_tablefinderlaw44_WorkerSplits n workers = some ro) : Fun E0 3 [.p (.int .i64 n), .p (.int .i64 workers)] (s_tablefinderlaw44_WorkerSplits_R ro) := by
  refine fun_of_awp (fn := Try.f3) (c := c3) Try.func3 (by decide) rfl (Nat.le_of_ble_eq_true (by kernel_rfl)) ?_
  intro W Lt S0 lays
  unfold s_tablefinderlaw44_WorkerSplits at h
  refine awp_to 7 [(1, (.p (.int .i64 workers))), (11, (.p (.int .i64 n)))] [] [.ops (opsOf (sub [1, 0] c3)) 1, .c (sub [1, 1] c3)] [] (E0ok 99) (by kernel_rfl) trivial ?_
  obtain ⟨k, hr1, h⟩ := bind_some h
  refine awp_call (ops := opsOf (sub [1, 0] c3)) (o := opAt (sub [1, 0] c3) 1) (c := callOf (opAt (sub [1, 0] c3) 1)) (E0ok 99) (by kernel_rfl) (by kernel_rfl) (by kernel_rfl) (by kernel_rfl) [3, 3] [.p, .p] (f := 5) («as» := [{ arg := .p (.int .i64 n), fs := [] }, { arg := .p (.int .i64 1025), fs := [] }]) (by kernel_rfl) trivial (args := [.p (.int .i64 n), .p (.int .i64 1025)]) rfl (s_tablefinderkit_Mod_fun n 1025 _ hr1) (e := { val := (.p (.int .i64 k)), new := [], wr := [], frz := [] }) (e' := { val := (.p (.int .i64 k)), new := [], wr := [], frz := [] }) (by kernel_rfl) rfl ?_
  refine awp_to 1 [(12, (.p (.int .i64 k))), (13, (.p (.int .i64 workers)))] [] [.ops (opsOf (sub [1, 0] c3)) 3, .c (sub [1, 1] c3)] [] (E0ok 99) (by kernel_rfl) trivial ?_
  obtain ⟨q, hr2, h⟩ := bind_some h
  refine awp_call (ops := opsOf (sub [1, 0] c3)) (o := opAt (sub [1, 0] c3) 3) (c := callOf (opAt (sub [1, 0] c3) 3)) (E0ok 99) (by kernel_rfl) (by kernel_rfl) (by kernel_rfl) (by kernel_rfl) [3, 3] [.p, .p] (f := 5) («as» := [{ arg := .p (.int .i64 workers), fs := [] }, { arg := .p (.int .i64 8), fs := [] }]) (by kernel_rfl) trivial (args := [.p (.int .i64 workers), .p (.int .i64 8)]) rfl (s_tablefinderkit_Mod_fun workers 8 _ hr2) (e := { val := (.p (.int .i64 q)), new := [], wr := [], frz := [] }) (e' := { val := (.p (.int .i64 q)), new := [], wr := [], frz := [] }) (by kernel_rfl) rfl ?_
  obtain ⟨hc3, h⟩ := chk_some h
  refine awp_to 8 [(5, (.p (.int .i64 k))), (6, (.p (.int .i64 (1 + q)))), (17, (.p (.int .i64 k))), (18, (.p (.int .i64 (1 + q))))] [] [.ops (opsOf (sub [1, 1, 0] c3)) 2, .c (sub [1, 1, 1] c3)] [(inK .i64 (1 + q))] (E0ok 99) (by kernel_rfl) hc3 ?_
  obtain ⟨⟨l, e⟩, hr4, h⟩ := bind_some h
  dsimp only at h
  refine awp_call (ops := opsOf (sub [1, 1, 0] c3)) (o := opAt (sub [1, 1, 0] c3) 2) (c := callOf (opAt (sub [1, 1, 0] c3) 2)) (E0ok 99) (by kernel_rfl) (by kernel_rfl) (by kernel_rfl) (by kernel_rfl) [3, 3] [.p, .p] (f := 6) («as» := [{ arg := .p (.int .i64 k), fs := [] }, { arg := .p (.int .i64 (1 + q)), fs := [] }]) (by kernel_rfl) trivial (args := [.p (.int .i64 k), .p (.int .i64 (1 + q))]) rfl (s_worker_Split_fun k (1 + q) _ hr4) (e := { val := (.tup [(.sl (1, 2, 0) 0 (l.map enc_G_api_Task).length), (.p (.int .i64 e))]), new := [(0, (.arr 2 (l.map enc_G_api_Task) false))], wr := [], frz := [] }) (e' := { val := (.tup [(.sl (1, 2, 0) 0 l.length), (.p (.int .i64 e))]), new := [(0, (.arr 2 (l.map enc_G_api_Task) false))], wr := [], frz := [] }) (by kernel_rfl) (by simp only [List.length_map]) ?_
  refine awp_to 12 [(5, (.p (.int .i64 k))), (6, (.p (.int .i64 (1 + q)))), (7, (.sl (0, 1, 1) 0 l.length)), (24, (.p (.bool (e != 0))))] [((0, 1, 1), (1, 2, 0), (.arr 2 (l.map enc_G_api_Task) false))] [.ops (opsOf (sub [1, 1, 1, 0, 0] c3)) 3, .c (sub [1, 1, 1, 0, 1] c3), .c (sub [1, 1, 1, 1] c3)] [] (E0ok 99) (by kernel_rfl) trivial ?_
  generalize hb5 : (e != 0) = b5 at h ⊢
  cases b5
  · simp only [cond_false] at h
    refine awp_to 6 [(5, (.p (.int .i64 k))), (6, (.p (.int .i64 (1 + q)))), (7, (.sl (0, 1, 1) 0 l.length)), (30, (.p (.bool ((l.length : Int) != (1 + q)))))] [((0, 1, 1), (0, 1, 1), (.arr 2 (l.map enc_G_api_Task) false))] [.ops (opsOf (sub [1, 1, 1, 0, 0] c3)) 9, .c (sub [1, 1, 1, 0, 1] c3), .c (sub [1, 1, 1, 1] c3)] [] (E0ok 99) (by kernel_rfl) trivial ?_
    generalize hb6 : ((l.length : Int) != (1 + q)) = b6 at h ⊢
    cases b6
    · simp only [cond_false] at h
      refine awp_to 1 [(5, (.p (.int .i64 k))), (6, (.p (.int .i64 (1 + q)))), (7, (.sl (0, 1, 1) 0 l.length)), (30, (.p (.bool false))), (31, (.sl (0, 1, 1) 0 l.length))] [((0, 1, 1), (0, 1, 1), (.arr 2 (l.map enc_G_api_Task) false))] [.ops (opsOf (sub [1, 1, 1, 0, 0] c3)) 10, .c (sub [1, 1, 1, 0, 1] c3), .c (sub [1, 1, 1, 1] c3)] [] (E0ok 99) (by kernel_rfl) trivial ?_
      obtain ⟨l_e, hx7, h⟩ := bind_some h
      refine awp_opEq _ _ (ops := opsOf (sub [1, 1, 1, 0, 0] c3)) (o := opAt (sub [1, 1, 1, 0, 0] c3) 10) (E0ok 99) (by kernel_rfl) (by kernel_rfl) (by kernel_rfl) (idxoEff (0, 1, 1) (0 + (0 : Int).toNat) l.length hx7) (by kernel_rfl) (by kernel_rfl) rfl ?_
      refine awp_to 1 [(5, (.p (.int .i64 k))), (6, (.p (.int .i64 (1 + q)))), (7, (.sl (0, 1, 1) 0 l.length)), (30, (.p (.bool false))), (33, (.ptr (0, 1, 1) (0 + (0 : Int).toNat) 0))] [((0, 1, 1), (0, 1, 1), (.arr 2 (l.map enc_G_api_Task) false))] [.ops (opsOf (sub [1, 1, 1, 0, 0] c3)) 12, .c (sub [1, 1, 1, 0, 1] c3), .c (sub [1, 1, 1, 1] c3)] [] (E0ok 99) (by kernel_rfl) trivial ?_
      refine awp_opEq _ _ (ops := opsOf (sub [1, 1, 1, 0, 0] c3)) (o := opAt (sub [1, 1, 1, 0, 0] c3) 12) (E0ok 99) (by kernel_rfl) (by kernel_rfl) (core_load_arr (t := 3) (a := .tmp 33) (ti := ((E0.at 99).ty 3).getD default) (id := (0, 1, 1)) (i' := (0 + (0 : Int).toNat)) (j := 0) (sz := 2) (es := (l : List G_api_Task).map enc_G_api_Task) (fix := false) (x := (.int .i64 l_e.From)) (by kernel_rfl) (by kernel_rfl) (by kernel_rfl) (by kernel_rfl) (by rw [Nat.zero_add, getD_idx enc_G_api_Task hx7]; kernel_rfl)) rfl (by kernel_rfl) (by kernel_rfl) trivial ?_
      refine awp_to 3 [(5, (.p (.int .i64 k))), (6, (.p (.int .i64 (1 + q)))), (7, (.sl (0, 1, 1) 0 l.length)), (37, (.p (.bool (l_e.From != 0))))] [((0, 1, 1), (0, 1, 1), (.arr 2 (l.map enc_G_api_Task) false))] [.ops (opsOf (sub [1, 1, 1, 0, 0] c3)) 16, .c (sub [1, 1, 1, 0, 1] c3), .c (sub [1, 1, 1, 1] c3)] [] (E0ok 99) (by kernel_rfl) trivial ?_
      generalize hb8 : (l_e.From != 0) = b8 at h ⊢
      cases b8
      · simp only [cond_false] at h
        obtain ⟨hc9, h⟩ := chk_some h
        refine awp_to 3 [(5, (.p (.int .i64 k))), (6, (.p (.int .i64 (1 + q)))), (7, (.sl (0, 1, 1) 0 l.length)), (37, (.p (.bool false))), (38, (.sl (0, 1, 1) 0 l.length)), (40, (.p (.int .i64 ((1 + q) - 1))))] [((0, 1, 1), (0, 1, 1), (.arr 2 (l.map enc_G_api_Task) false))] [.ops (opsOf (sub [1, 1, 1, 0, 0] c3)) 19, .c (sub [1, 1, 1, 0, 1] c3), .c (sub [1, 1, 1, 1] c3)] [(inK .i64 ((1 + q) - 1))] (E0ok 99) (by kernel_rfl) hc9 ?_
        obtain ⟨l_e_1, hx10, h⟩ := bind_some h
        refine awp_opEq _ _ (ops := opsOf (sub [1, 1, 1, 0, 0] c3)) (o := opAt (sub [1, 1, 1, 0, 0] c3) 19) (E0ok 99) (by kernel_rfl) (by kernel_rfl) (by kernel_rfl) (idxoEff (0, 1, 1) (0 + ((1 + q) - 1).toNat) l.length hx10) (by kernel_rfl) (by kernel_rfl) rfl ?_
        refine awp_to 1 [(5, (.p (.int .i64 k))), (6, (.p (.int .i64 (1 + q)))), (7, (.sl (0, 1, 1) 0 l.length)), (37, (.p (.bool false))), (42, (.ptr (0, 1, 1) (0 + ((1 + q) - 1).toNat) 1))] [((0, 1, 1), (0, 1, 1), (.arr 2 (l.map enc_G_api_Task) false))] [.ops (opsOf (sub [1, 1, 1, 0, 0] c3)) 21, .c (sub [1, 1, 1, 0, 1] c3), .c (sub [1, 1, 1, 1] c3)] [] (E0ok 99) (by kernel_rfl) trivial ?_
        refine awp_opEq _ _ (ops := opsOf (sub [1, 1, 1, 0, 0] c3)) (o := opAt (sub [1, 1, 1, 0, 0] c3) 21) (E0ok 99) (by kernel_rfl) (by kernel_rfl) (core_load_arr (t := 3) (a := .tmp 42) (ti := ((E0.at 99).ty 3).getD default) (id := (0, 1, 1)) (i' := (0 + ((1 + q) - 1).toNat)) (j := 1) (sz := 2) (es := (l : List G_api_Task).map enc_G_api_Task) (fix := false) (x := (.int .i64 l_e_1.To)) (by kernel_rfl) (by kernel_rfl) (by kernel_rfl) (by kernel_rfl) (by rw [Nat.zero_add, getD_idx enc_G_api_Task hx10]; kernel_rfl)) rfl (by kernel_rfl) (by kernel_rfl) trivial ?_
        refine awp_to 4 [(5, (.p (.int .i64 k))), (6, (.p (.int .i64 (1 + q)))), (7, (.sl (0, 1, 1) 0 l.length)), (46, (.p (.bool (l_e_1.To != k))))] [((0, 1, 1), (0, 1, 1), (.arr 2 (l.map enc_G_api_Task) false))] [.c (sub [1, 1, 1, 0, 1] c3), .c (sub [1, 1, 1, 1] c3)] [] (E0ok 99) (by kernel_rfl) trivial ?_
        generalize hb11 : (l_e_1.To != k) = b11 at h ⊢
        cases b11
        · simp only [cond_false] at h
          refine awp_to 11 [(5, (.p (.int .i64 k))), (6, (.p (.int .i64 (1 + q)))), (7, (.sl (0, 1, 1) 0 l.length)), (47, (.sl (0, 1, 1) 0 l.length)), (48, (.p (.int .i64 (l.length : Int)))), (49, (.p (.int .i64 0)))] [((0, 1, 1), (0, 1, 1), (.arr 2 (l.map enc_G_api_Task) false))] [.c (sub [1, 1, 1, 1, 0, 1, 4, 5] c3), .lp (sub [1, 1, 1, 1, 0, 1, 4, 5] c3), .blk 0, .c (sub [1, 1, 1, 1, 1] c3)] [] (E0ok 99) (by kernel_rfl) trivial ?_
          obtain ⟨xo40, hr38, h⟩ := bind_some h
          rcases xo40 with _ | q_
          · dsimp only at h
            refine s_tablefinderlaw44_WorkerSplits_l1_ok k q l ro (.brk ()) ?_ big (0 : Int) hr38
            show AWP (s_tablefinderlaw44_WorkerSplits_C W Lt S0 lays) ⟨none, []⟩ (retG (s_tablefinderlaw44_WorkerSplits_C W Lt S0 lays) Try.f3 (s_tablefinderlaw44_WorkerSplits_R ro)) [.c (sub [1, 1, 1, 1, 1] c3)] (mkS 1 [] [])
            refine awp_to 2 [] [] [.ops (opsOf (sub [1, 1, 1, 1, 1, 0] c3)) 0, .c (sub [1, 1, 1, 1, 1, 1] c3)] [] (E0ok 99) (by kernel_rfl) trivial ?_
            obtain ⟨q_1, hr41, h⟩ := bind_some h
            refine awp_call (ops := opsOf (sub [1, 1, 1, 1, 1, 0] c3)) (o := opAt (sub [1, 1, 1, 1, 1, 0] c3) 0) (c := callOf (opAt (sub [1, 1, 1, 1, 1, 0] c3) 0)) (E0ok 99) (by kernel_rfl) (by kernel_rfl) (by kernel_rfl) (by kernel_rfl) [] [] (f := 7) («as» := []) (by kernel_rfl) trivial (args := []) rfl (s_tablefinderlaw44_awake_fun _ hr41) (e := { val := (.p (.bool q_1)), new := [], wr := [], frz := [] }) (e' := { val := (.p (.bool q_1)), new := [], wr := [], frz := [] }) (by kernel_rfl) rfl ?_
            refine awp_to 2 [(4, (.p (.bool q_1)))] [] [.c (sub [1, 1, 1, 1, 1, 1] c3)] [] (E0ok 99) (by kernel_rfl) trivial ?_
            obtain rfl := Option.some.inj h
            exact awp_ret (s_tablefinderlaw44_WorkerSplits_R q_1) [] [.p] [] (E0ok 99) (by kernel_rfl) rfl trivial rfl
          · dsimp only at h
            obtain rfl := Option.some.inj h
            exact s_tablefinderlaw44_WorkerSplits_l1_ok k q l _ (.ret q_) rfl big (0 : Int) hr38
        · simp only [cond_true] at h
          refine awp_to 1 [] [] [.c (sub [1, 1, 1, 0, 1, 2] c3), .c (sub [1, 1, 1, 1] c3)] [] (E0ok 99) (by kernel_rfl) trivial ?_
          exact s_tablefinderlaw44_WorkerSplits_j1_ok  ro h
      · simp only [cond_true] at h
        refine awp_to 11 [] [] [.c (sub [1, 1, 1, 0, 1, 2] c3), .c (sub [1, 1, 1, 1] c3)] [] (E0ok 99) (by kernel_rfl) trivial ?_
        exact s_tablefinderlaw44_WorkerSplits_j1_ok  ro h
    · simp only [cond_true] at h
      refine awp_to 18 [] [] [.c (sub [1, 1, 1, 0, 1, 2] c3), .c (sub [1, 1, 1, 1] c3)] [] (E0ok 99) (by kernel_rfl) trivial ?_
      exact s_tablefinderlaw44_WorkerSplits_j1_ok  ro h
  · simp only [cond_true] at h
    refine awp_to 24 [] [] [.c (sub [1, 1, 1, 0, 1, 2] c3), .c (sub [1, 1, 1, 1] c3)] [] (E0ok 99) (by kernel_rfl) trivial ?_
    exact s_tablefinderlaw44_WorkerSplits_j1_ok  ro h

end Go.Proofs
