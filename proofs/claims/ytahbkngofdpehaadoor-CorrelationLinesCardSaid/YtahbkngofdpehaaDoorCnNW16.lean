/- The second implementation: difference. -/
import Derived.Test.YtahbkngofdpehaaDoorCnNW15
set_option linter.unusedVariables false
set_option linter.unusedSimpArgs false
set_option linter.unusedSectionVars false
namespace Go.Proofs
open Go Eng

theorem shr_i64 (t : Int) : shrK .i64 t 32 = t / 4294967296 := by
  unfold shrK
  rw [show min (32 : Int).toNat (IntKind.bits .i64) = 32 from by decide, Int.fdiv_eq_ediv_of_nonneg _ (by decide)]
  rfl
theorem subR_eq (a b : Nat) (hab : b ≤ a) (ha : (wd a).length ≤ 100000) : s_tablefinderref01_sub (iL (wd a)) (iL (wd b)) = some (iL (wd (a - b))) := by
  have hlb : (wd b).length ≤ (wd a).length := wd_mono hab
  refine eq_of_wp ?_
  unfold s_tablefinderref01_sub
  rw [wp_bind]
  refine wp_mono (uptoS_wp s_tablefinderref01_sub_l1_FB (wd a).length (by omega) (fun i (s : Nat × List Nat) => (iL (wd a), iL (wd b), -(s.1 : Int), i, iL s.2)) (fun i s => s.1 ≤ 1 ∧ s.2.length = i ∧ Dg s.2 ∧ val ((wd a).take i) + Bw ^ i * s.1 = val s.2 + val ((wd b).take i))
    (Q := fun y => ∃ (o : List Nat), y = iL o ∧ Dg o ∧ o.length = (wd a).length ∧ val o = a - b) (0, []) ⟨by simp, rfl, dg_nil, by simp [val]⟩ ?_ ?_) ?_
  · rintro rec i ⟨c, o⟩ hi ⟨hc, hl, hd, hv⟩ ih
    dsimp only at hc hl hd hv ih
    have h1 := (wd_dg a).get hi
    have h2 := getD_dg (wd_dg b) i
    have ey0 : (wd b).getD i 0 = (if i < (wd b).length then (wd b).getD i 0 else 0) := by
      by_cases h : i < (wd b).length
      · rw [if_pos h]
      · rw [if_neg h, List.getD_eq_getElem?_getD, List.getElem?_eq_none (by omega)]; rfl
    have fin : ∀ y : Nat, (wd b).getD i 0 = y → wp (s_tablefinderref01_sub_j1 (fun a b c i out => rec (a, b, c, i, out)) (iL (wd a)) (iL (wd b)) (-(c : Int) + ((wd a)[i] : Int) - (y : Int)) (i : Int) (iL o)) (fun y => ∃ (o : List Nat), y = iL o ∧ Dg o ∧ o.length = (wd a).length ∧ val o = a - b) := fun y ey => by
      rw [ey] at h2
      generalize ex : (wd a)[i] = x at h1
      have ew : IntKind.wrap .u32 (-(c : Int) + (x : Int) - (y : Int)) = (((x + 4294967296 - y - c) % 4294967296 : Nat) : Int) := by
        simp only [Bw] at h1 h2
        rw [IntKind.wrap_u32]; omega
      have es : shrK .i64 (-(c : Int) + (x : Int) - (y : Int)) 32 = -(((if x < y + c then 1 else 0) : Nat) : Int) := by
        simp only [Bw] at h1 h2
        rw [shr_i64]; split <;> omega
      unfold s_tablefinderref01_sub_j1
      rw [ew, es, wp_chk, wp_chk, wp_chk, iL_len]
      refine ⟨room_ok (by simp only [List.length_singleton]; omega), by decide, inK_i64 (by omega), ?_⟩
      have := ih ((if x < y + c then 1 else 0), o ++ [(x + 4294967296 - y - c) % 4294967296]) ⟨by dsimp only; split <;> omega, by simp [hl], hd.app (dg_one (Nat.mod_lt _ (by decide))), ?_⟩
      · rw [iL_app] at this
        exact this
      · dsimp only
        rw [val_snoc, hl, Nat.pow_succ, val_take_succ hi, val_take_getD, ex, ey, Nat.mul_assoc]
        have e : x + Bw * (if x < y + c then 1 else 0) = (x + 4294967296 - y - c) % 4294967296 + y + c := by simp only [Bw] at h1 h2 ⊢; split <;> omega
        have e2 : Bw ^ i * (x + Bw * (if x < y + c then 1 else 0)) = Bw ^ i * ((x + 4294967296 - y - c) % 4294967296 + y + c) := by rw [e]
        rw [Nat.mul_add, Nat.mul_add, Nat.mul_add] at e2
        omega
    unfold s_tablefinderref01_sub_l1_B s_tablefinderref01_sub_l1_b
    dsimp only
    rw [wp_bif, iL_len, iL_len]
    refine ⟨fun _ => ?_, fun h => by have := of_decide_eq_false h; omega⟩
    have wx : IntKind.wrap .i64 ((wd a)[i] : Int) = ((wd a)[i] : Int) := wrap_i64 (by simp only [Bw] at h1; omega)
    rw [iL_idx hi, wp_bind, wp_some, wx, wp_chk, wp_bif]
    refine ⟨inK_i64 (by simp only [Bw] at h1; omega), fun h => ?_, fun h => ?_⟩
    · have hib : i < (wd b).length := by have := of_decide_eq_true h; omega
      have hy := (wd_dg b).get hib
      have wy : IntKind.wrap .i64 ((wd b)[i] : Int) = ((wd b)[i] : Int) := wrap_i64 (by simp only [Bw] at hy; omega)
      rw [iL_idx hib, wp_bind, wp_some, wy, wp_chk]
      refine ⟨inK_i64 (by simp only [Bw] at h1 hy; omega), fin _ ?_⟩
      rw [List.getD_eq_getElem?_getD, List.getElem?_eq_getElem hib]; rfl
    · have hib : ¬ i < (wd b).length := by have := of_decide_eq_false h; omega
      have := fin 0 (by rw [ey0, if_neg hib])
      rw [Int.natCast_zero, Int.sub_zero] at this
      exact this
  · rintro rec ⟨c, o⟩ ⟨hc, hl, hd, hv⟩
    unfold s_tablefinderref01_sub_l1_B s_tablefinderref01_sub_l1_b
    dsimp only at hc hl hd hv ⊢
    rw [wp_bif, iL_len]
    refine ⟨fun h => by have := of_decide_eq_true h; omega, fun _ => ?_⟩
    rw [wp_some]
    rw [List.take_length, List.take_of_length_le (by omega), val_wd, val_wd] at hv
    have := val_lt hd
    rw [hl] at this
    have hc0 : c = 0 := by
      rcases Nat.eq_zero_or_pos c with h | h
      · exact h
      · have : c = 1 := by omega
        rw [this, Nat.mul_one] at hv
        omega
    rw [hc0, Nat.mul_zero] at hv
    exact ⟨o, rfl, hd, hl, by omega⟩
  · rintro y ⟨o, rfl, hd, hl, hv⟩
    unfold s_tablefinderref01_sub_k2
    rw [trimR_eq hd (by omega), wp_bind, wp_some, wp_some, hv]
end Go.Proofs
