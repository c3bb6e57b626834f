/- The second implementation: comparison, doubling. -/
import Derived.Test.YtahbkngofdpehaaDoorCnNW14
set_option linter.unusedVariables false
set_option linter.unusedSimpArgs false
set_option linter.unusedSectionVars false
namespace Go.Proofs
open Go Eng

theorem cmpR_eq (a b : Nat) (ha : (wd a).length ≤ 100000) (hb : (wd b).length ≤ 100000) : s_tablefinderref01_cmp (iL (wd a)) (iL (wd b)) = some (natC a b) := by
  refine eq_of_wp ?_
  unfold s_tablefinderref01_cmp
  rw [iL_len, iL_len, wp_bif]
  refine ⟨fun h => ?_, fun h => ?_⟩
  · have hne : (wd a).length ≠ (wd b).length := fun e => by rw [e] at h; simp at h
    rw [wp_bif]
    refine ⟨fun h => ?_, fun h => ?_⟩
    · have h1 : (wd a).length < (wd b).length := by have := of_decide_eq_true h; omega
      rw [wp_some, natC_lt (len_lt h1)]
    · have h1 : (wd b).length < (wd a).length := by have := of_decide_eq_false h; omega
      rw [wp_some, natC_gt (len_lt h1)]
  · have hl : (wd a).length = (wd b).length := by
      simp only [bne_eq_false_iff_eq] at h; omega
    rw [wp_chk, wp_bind]
    refine ⟨inK_i64 (by omega), ?_⟩
    refine wp_mono (downS_wp s_tablefinderref01_cmp_l1_FB (wd a).length (by omega) (fun i (s : Unit) => (iL (wd a), iL (wd b), i)) (fun k _ => (wd a).drop k = (wd b).drop k)
      (Q := fun r => r = .ret (natC a b) ∨ r = .brk () ∧ a = b) () (by rw [List.drop_length, hl, List.drop_length]) ?_ ?_) ?_
    · rintro rec k ⟨⟩ hk hP ih
      have hk2 : k < (wd b).length := by omega
      unfold s_tablefinderref01_cmp_l1_B s_tablefinderref01_cmp_l1_b
      dsimp only
      rw [wp_bif]
      refine ⟨fun _ => ?_, fun h => by have := of_decide_eq_false h; omega⟩
      have ha := val_split hk
      have hb := val_split hk2
      rw [val_wd] at ha hb
      have la : val ((wd a).take k) < Bw ^ k := by have := val_lt ((wd_dg a).take k); rwa [List.length_take, Nat.min_eq_left (by omega)] at this
      have lb : val ((wd b).take k) < Bw ^ k := by have := val_lt ((wd_dg b).take k); rwa [List.length_take, Nat.min_eq_left (by omega)] at this
      rw [iL_idx hk, wp_bind, wp_some, iL_idx hk2, wp_bind, wp_some, wp_bif]
      refine ⟨fun hc => ?_, fun hc => ?_⟩
      · have h1 : (wd a)[k] < (wd b)[k] := by have := of_decide_eq_true hc; omega
        have : a < b := by
          rw [ha, hb, hP]
          exact val_cmp (A := 0) (B := 0) la (by omega)
        rw [wp_some]
        exact .inl (by rw [natC_lt this])
      · rw [wp_bind, wp_some, wp_bind, wp_some, wp_bif]
        refine ⟨fun hc2 => ?_, fun hc2 => ?_⟩
        · have h1 : (wd b)[k] < (wd a)[k] := by have := of_decide_eq_true hc2; omega
          have : b < a := by
            rw [ha, hb, hP]
            exact val_cmp (A := 0) (B := 0) lb (by omega)
          rw [wp_some]
          exact .inl (by rw [natC_gt this])
        · rw [wp_chk]
          refine ⟨inK_i64 (by omega), ih () ?_⟩
          have h1 : (wd a)[k] = (wd b)[k] := by
            have q1 := of_decide_eq_false hc
            have q2 := of_decide_eq_false hc2
            omega
          rw [← List.getElem_cons_drop (h := hk), ← List.getElem_cons_drop (h := hk2), h1, hP]
    · rintro rec ⟨⟩ hP
      unfold s_tablefinderref01_cmp_l1_B s_tablefinderref01_cmp_l1_b
      dsimp only
      rw [wp_bif]
      refine ⟨fun h => by have := of_decide_eq_true h; omega, fun _ => ?_⟩
      rw [wp_some]
      rw [List.drop_zero, List.drop_zero] at hP
      exact .inr ⟨rfl, by rw [← val_wd a, ← val_wd b, hP]⟩
    · rintro r (rfl | ⟨rfl, rfl⟩)
      · exact wp_some.2 rfl
      · unfold s_tablefinderref01_cmp_k1
        exact wp_some.2 (natC_self a).symm

theorem shl_u32 {a : Nat} (k : Nat) (hk : k ≤ 32) : shlK .u32 (a : Int) (k : Int) = ((a * 2 ^ k % 4294967296 : Nat) : Int) := by
  unfold shlK
  rw [Int.toNat_natCast, show IntKind.bits .u32 = 32 from rfl, Nat.min_eq_left (by omega)]
  have e : (a : Int) * (2 : Int) ^ k = ((a * 2 ^ k : Nat) : Int) := by push_cast; rfl
  rw [e, wrap32_nat]
theorem twice_eq (a d : Nat) (hd : d ≤ 1) (ha : (wd a).length ≤ 100000) : s_tablefinderref01_twice (iL (wd a)) (d : Int) = some (iL (wd (2 * a + d))) := by
  refine eq_of_wp ?_
  unfold s_tablefinderref01_twice
  rw [wp_bind]
  refine wp_mono (uptoS_wp s_tablefinderref01_twice_l1_FB (wd a).length (by omega) (fun i (s : Nat × List Nat) => (iL (wd a), (s.1 : Int), i, iL s.2)) (fun i s => s.1 ≤ 1 ∧ s.2.length = i ∧ Dg s.2 ∧ val s.2 + Bw ^ i * s.1 = 2 * val ((wd a).take i) + d)
    (Q := fun y => ∃ (c : Nat) (o : List Nat), y = ((c : Int), iL o) ∧ c ≤ 1 ∧ Dg o ∧ o.length = (wd a).length ∧ val o + Bw ^ (wd a).length * c = 2 * a + d) (d, []) ⟨hd, rfl, dg_nil, by simp [val]⟩ ?_ ?_) ?_
  · rintro rec i ⟨c, o⟩ hi ⟨hc, hl, hod, hv⟩ ih
    dsimp only at hc hl hod hv ih
    have h1 := (wd_dg a).get hi
    unfold s_tablefinderref01_twice_l1_B s_tablefinderref01_twice_l1_b
    dsimp only
    rw [wp_bif, iL_len]
    refine ⟨fun _ => ?_, fun h => by have := of_decide_eq_false h; omega⟩
    rw [iL_idx hi, wp_bind, wp_some]
    generalize ex : (wd a)[i] = x at h1
    have eor : orK .u32 (shlK .u32 (x : Int) 1) (c : Int) = ((c + x * 2 ^ 1 % Bw : Nat) : Int) := by
      rw [show (1 : Int) = ((1 : Nat) : Int) from rfl, shl_u32 1 (by omega), or_u32 (Nat.mod_lt _ (by decide)) (by omega), Nat.or_comm]
      congr 1
      exact or_shift (by decide) (by omega) h1
    have esh : shrK .u32 (x : Int) 31 = ((x / 2 ^ 31 : Nat) : Int) := shr_u32 31 (by omega)
    rw [eor, Option.bind_some, esh, wp_chk, wp_chk, wp_chk, wp_chk, iL_len]
    have hx : c + x * 2 ^ 1 % Bw < Bw := by simp only [Bw] at h1 ⊢; omega
    refine ⟨by decide, room_ok (by simp only [List.length_singleton]; omega), by decide, inK_i64 (by omega), ?_⟩
    have := ih (x / 2 ^ 31, o ++ [c + x * 2 ^ 1 % Bw]) ⟨by simp only [Bw] at h1; dsimp only; omega, by simp [hl], hod.app (dg_one hx), ?_⟩
    · rw [iL_app] at this
      exact this
    · dsimp only
      have q : c + x * 2 ^ 1 % Bw + Bw * (x / 2 ^ 31) = c + 2 * x := by simp only [Bw] at h1 ⊢; omega
      have q2 : Bw ^ i * (c + x * 2 ^ 1 % Bw + Bw * (x / 2 ^ 31)) = Bw ^ i * (c + 2 * x) := by rw [q]
      have q3 : Bw ^ i * (2 * x) = 2 * (Bw ^ i * x) := Nat.mul_left_comm _ _ _
      rw [Nat.mul_add, Nat.mul_add (Bw ^ i) c (2 * x), q3] at q2
      rw [val_snoc, hl, val_take_succ hi, ex]
      generalize c + x * 2 ^ 1 % Bw = dg at *
      generalize x / 2 ^ 31 = cy at *
      rw [Nat.pow_succ, Nat.mul_assoc]
      omega
  · rintro rec ⟨c, o⟩ ⟨hc, hl, hod, hv⟩
    dsimp only at hc hl hod hv
    unfold s_tablefinderref01_twice_l1_B s_tablefinderref01_twice_l1_b
    dsimp only
    rw [wp_bif, iL_len]
    refine ⟨fun h => by have := of_decide_eq_true h; omega, fun _ => ?_⟩
    rw [wp_some]
    rw [List.take_length, val_wd] at hv
    exact ⟨c, o, rfl, hc, hod, hl, hv⟩
  · rintro y ⟨c, o, rfl, hc, hod, hl, hv⟩
    dsimp only
    unfold s_tablefinderref01_twice_k1
    have e : iL o ++ [(c : Int)] = iL (o ++ [c]) := by rw [iL_app]; rfl
    rw [wp_chk, iL_len, e, trimR_eq (hod.app (dg_one (by simp only [Bw]; omega))) (by simp; omega), wp_bind, wp_some, wp_some, val_snoc, hl, hv]
    exact ⟨room_ok (by simp only [List.length_singleton]; omega), rfl⟩
end Go.Proofs
