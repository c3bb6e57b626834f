/- The second implementation: product, sum. -/
import Derived.Test.YtahbkngofdpehaaDoorCnNW26
set_option linter.unusedVariables false
set_option linter.unusedSimpArgs false
set_option linter.unusedSectionVars false
namespace Go.Proofs
open Go Eng

theorem mulR_eq (a b : Nat) (ha : (wd a).length ≤ 100000) (hb : (wd b).length ≤ 100000) : s_tablefinderref01_mul (iL (wd a)) (iL (wd b)) = some (iL (wd (a * b))) := by
  refine eq_of_wp ?_
  unfold s_tablefinderref01_mul
  rw [iL_len, iL_len, wp_chk, wp_chk, wp_bind, ← Int.natCast_add, Int.toNat_natCast, iL_rep]
  refine ⟨inK_i64 (by omega), mkOk_nat (by omega), ?_⟩
  generalize hm : (wd a).length = m at ha ⊢
  generalize hn : (wd b).length = n at hb ⊢
  refine wp_mono (uptoS_wp s_tablefinderref01_mul_l1_FB m (by omega) (fun i (s : List Nat) => (iL (wd a), iL (wd b), i, iL s)) (fun i s => s.length = m + n ∧ Dg s ∧ val s = val ((wd a).take i) * b ∧ ∀ k, i + n ≤ k → k < m + n → s[k]? = some 0)
    (Q := fun y => ∃ (o : List Nat), y = iL o ∧ Dg o ∧ o.length = m + n ∧ val o = a * b) (List.replicate (m + n) 0) ⟨by simp, dg_rep _, by rw [val_rep]; simp [val], fun k _ h => by rw [List.getElem?_replicate, if_pos h]⟩ ?_ ?_) ?_
  · rintro rec i s hlt ⟨hl, hd, hv, hz⟩ ih
    have hi : i < (wd a).length := by omega
    have h1 := (wd_dg a).get hi
    unfold s_tablefinderref01_mul_l1_B s_tablefinderref01_mul_l1_b
    dsimp only
    rw [wp_bif, iL_len, hm]
    refine ⟨fun _ => ?_, fun h => by simp only [decide_eq_false_iff_not] at h; omega⟩
    rw [wp_bind]
    generalize ex : (wd a)[i] = x at h1
    refine wp_mono (uptoS_wp s_tablefinderref01_mul_l2_FB n (by omega) (fun j (t : Nat × List Nat) => (iL (wd a), iL (wd b), (i : Int), (t.1 : Int), j, iL t.2)) (fun j t => t.1 < Bw ∧ t.2.length = m + n ∧ Dg t.2 ∧ val t.2 + Bw ^ (i + j) * t.1 = val s + Bw ^ i * (x * val ((wd b).take j)) ∧ ∀ k, i + n ≤ k → k < m + n → t.2[k]? = some 0)
      (Q := fun y => ∃ (c : Nat) (o : List Nat), y = (iL (wd a), iL (wd b), (i : Int), (c : Int), iL o) ∧ c < Bw ∧ o.length = m + n ∧ Dg o ∧ val o + Bw ^ (i + n) * c = val s + Bw ^ i * (x * b) ∧ ∀ k, i + n ≤ k → k < m + n → o[k]? = some 0) (0, s) ⟨by simp only [Bw]; omega, hl, hd, by simp [val], hz⟩ ?_ ?_) ?_
    · rintro rec2 j ⟨c, o⟩ hj ⟨hc, hol, hod, hov, hoz⟩ ih2
      dsimp only at hc hol hod hov hoz ih2
      have hj2 : j < (wd b).length := by omega
      have h2 := (wd_dg b).get hj2
      have hij : i + j < o.length := by omega
      have h3 := hod.get hij
      unfold s_tablefinderref01_mul_l2_B s_tablefinderref01_mul_l2_b
      dsimp only
      rw [wp_bif, iL_len, hn]
      refine ⟨fun _ => ?_, fun h => by simp only [decide_eq_false_iff_not] at h; omega⟩
      rw [iL_idx hi, ex, wp_bind, wp_some, iL_idx hj2, wp_bind, wp_some, wp_chk, wp_chk, ← Int.natCast_add, Int.toNat_natCast, iL_get hij, wp_bind, wp_some, wp_chk, wp_chk, wp_chk, wp_chk]
      generalize ey : (wd b)[j] = y at h2
      generalize ee : o[i + j] = e at h3
      rw [mac64 hc h1 h2 h3, wrap32_nat, show (32 : Int) = ((32 : Nat) : Int) from rfl, shr_u64 32 (by omega), iL_len, iL_set]
      refine ⟨inK_i64 (by omega), inR_ok ⟨by omega, by omega⟩, inK_i64 (by omega), inR_ok ⟨by omega, by omega⟩, by decide, inK_i64 (by omega), ?_⟩
      refine ih2 ((c + x * y + e) / Bw, o.set (i + j) ((c + x * y + e) % Bw)) ⟨mac_hi hc h1 h2 h3, by simp [hol], hod.set _ (Nat.mod_lt _ (by decide)), ?_, fun k hk hk2 => ?_⟩
      · dsimp only
        have q1 := val_set o (i + j) ((c + x * y + e) % Bw) hij
        rw [ee] at q1
        have q2 : Bw ^ (i + j) * ((c + x * y + e) % Bw + Bw * ((c + x * y + e) / Bw)) = Bw ^ (i + j) * (c + x * y + e) := by rw [Nat.mod_add_div]
        rw [Nat.mul_add, Nat.mul_add, Nat.mul_add] at q2
        rw [← Nat.add_assoc, Nat.pow_succ, Nat.mul_assoc, val_take_succ hj2, ey, Nat.mul_add, Nat.mul_add]
        have q3 : Bw ^ i * (x * (Bw ^ j * y)) = Bw ^ (i + j) * (x * y) := by rw [Nat.pow_add, Nat.mul_assoc, Nat.mul_left_comm x]
        omega
      · dsimp only
        rw [List.getElem?_set_ne (by omega)]
        exact hoz k hk hk2
    · rintro rec2 ⟨c, o⟩ ⟨hc, hol, hod, hov, hoz⟩
      dsimp only at hc hol hod hov hoz
      unfold s_tablefinderref01_mul_l2_B s_tablefinderref01_mul_l2_b
      dsimp only
      rw [wp_bif, iL_len, hn]
      refine ⟨fun h => by have := of_decide_eq_true h; omega, fun _ => ?_⟩
      rw [wp_some]
      rw [List.take_of_length_le (by omega), val_wd] at hov
      exact ⟨c, o, rfl, hc, hol, hod, hov, hoz⟩
    · rintro y ⟨c, o, rfl, hc, hol, hod, hov, hoz⟩
      dsimp only
      unfold s_tablefinderref01_mul_k1
      rw [iL_len, hn, wp_chk, wp_chk, wp_chk, ← Int.natCast_add, Int.toNat_natCast, wrap32_lt hc, iL_set, iL_len]
      refine ⟨inK_i64 (by omega), inR_ok ⟨by omega, by omega⟩, inK_i64 (by omega), ?_⟩
      have hp : i + n < o.length := by omega
      have h0 : o[i + n] = 0 := by
        have := hoz (i + n) (Nat.le_refl _) (by omega)
        rw [List.getElem?_eq_getElem hp] at this
        exact Option.some.inj this
      have q1 := val_set o (i + n) c hp
      rw [h0, Nat.mul_zero, Nat.add_zero] at q1
      refine ih (o.set (i + n) c) ⟨by simp [hol], hod.set _ hc, ?_, fun k hk hk2 => ?_⟩
      · rw [q1, hov, hv, val_take_succ hi, ex, Nat.add_mul, Nat.mul_assoc]
      · rw [List.getElem?_set_ne (by omega)]
        exact hoz k (by omega) hk2
  · rintro rec s ⟨hl, hd, hv, hz⟩
    unfold s_tablefinderref01_mul_l1_B s_tablefinderref01_mul_l1_b
    dsimp only
    rw [wp_bif, iL_len, hm]
    refine ⟨fun h => by have := of_decide_eq_true h; omega, fun _ => ?_⟩
    rw [wp_some]
    rw [List.take_of_length_le (by omega), val_wd] at hv
    exact ⟨s, rfl, hd, hl, hv⟩
  · rintro y ⟨o, rfl, hd, hl, hv⟩
    unfold s_tablefinderref01_mul_k2
    rw [trimR_eq hd (by omega), wp_bind, wp_some, wp_some, hv]


theorem addR_eq (a b : Nat) (ha : (wd a).length ≤ 100000) (hb : (wd b).length ≤ 100000) : ∃ o : List Nat, s_tablefinderref01_add (iL (wd a)) (iL (wd b)) = some (iL o) ∧ Dg o ∧ o.length ≤ 100001 ∧ val o = a + b := by
  obtain ⟨m, hma, hmb, hm2, hmx⟩ : ∃ m : Nat, (wd a).length ≤ m ∧ (wd b).length ≤ m ∧ m ≤ 100000 ∧ ∀ i, i < m → i < (wd a).length ∨ i < (wd b).length := by
    by_cases h : (wd a).length ≤ (wd b).length
    · exact ⟨(wd b).length, h, Nat.le_refl _, hb, fun i hi => .inr hi⟩
    · exact ⟨(wd a).length, Nat.le_refl _, by omega, ha, fun i hi => .inl hi⟩
  suffices h : wp (s_tablefinderref01_add (iL (wd a)) (iL (wd b))) (fun x => ∃ o : List Nat, x = iL o ∧ Dg o ∧ o.length ≤ 100001 ∧ val o = a + b) by
    obtain ⟨x, hx, o, rfl, h⟩ := h
    exact ⟨o, hx, h⟩
  unfold s_tablefinderref01_add
  rw [wp_bind]
  refine wp_mono (uptoS_wp s_tablefinderref01_add_l1_FB m (by omega) (fun i (s : Nat × List Nat) => (iL (wd a), iL (wd b), (s.1 : Int), i, iL s.2)) (fun i s => s.1 ≤ 1 ∧ s.2.length = i ∧ Dg s.2 ∧ val s.2 + Bw ^ i * s.1 = val ((wd a).take i) + val ((wd b).take i))
    (Q := fun y => ∃ (c : Nat) (o : List Nat), y = ((c : Int), iL o) ∧ c ≤ 1 ∧ Dg o ∧ o.length = m ∧ val o + Bw ^ m * c = a + b) (0, []) ⟨by simp, rfl, dg_nil, by simp [val]⟩ ?_ ?_) ?_
  · rintro rec i ⟨c, o⟩ hlt ⟨hc, hl, hd, hv⟩ ih
    dsimp only at hc hl hd hv ih
    have h1 := getD_dg (wd_dg a) i
    have h2 := getD_dg (wd_dg b) i
    have j3 : ∀ x y : Nat, (wd a).getD i 0 = x → (wd b).getD i 0 = y → wp (s_tablefinderref01_add_j3 (fun a b c i out => rec (a, b, c, i, out)) (iL (wd a)) (iL (wd b)) ((c + x + y : Nat) : Int) (i : Int) (iL o)) (fun y => ∃ (c : Nat) (o : List Nat), y = ((c : Int), iL o) ∧ c ≤ 1 ∧ Dg o ∧ o.length = m ∧ val o + Bw ^ m * c = a + b) := fun x y ex ey => by
      rw [ex] at h1
      rw [ey] at h2
      unfold s_tablefinderref01_add_j3
      rw [wp_chk, wp_chk, wp_chk, wrap32_nat, show (32 : Int) = ((32 : Nat) : Int) from rfl, shr_u64 32 (by omega), iL_len]
      refine ⟨room_ok (by simp only [List.length_singleton]; omega), by decide, inK_i64 (by omega), ?_⟩
      have := ih ((c + x + y) / Bw, o ++ [(c + x + y) % Bw]) ⟨by simp only [Bw] at h1 h2 ⊢; omega, by simp [hl], hd.app (dg_one (Nat.mod_lt _ (by decide))), ?_⟩
      · rw [iL_app] at this
        exact this
      · dsimp only
        rw [val_snoc, hl, Nat.pow_succ, val_take_getD, val_take_getD, ex, ey, Nat.add_assoc, Nat.mul_assoc, ← Nat.mul_add, Nat.mod_add_div, Nat.mul_add, Nat.mul_add]
        omega
    have j2 : ∀ x : Nat, (wd a).getD i 0 = x → wp (s_tablefinderref01_add_j2 (fun a b c i out => rec (a, b, c, i, out)) (iL (wd a)) (iL (wd b)) ((c + x : Nat) : Int) (i : Int) (iL o)) (fun y => ∃ (c : Nat) (o : List Nat), y = ((c : Int), iL o) ∧ c ≤ 1 ∧ Dg o ∧ o.length = m ∧ val o + Bw ^ m * c = a + b) := fun x ex => by
      have hx := h1
      rw [ex] at hx
      unfold s_tablefinderref01_add_j2
      rw [iL_len, wp_bif]
      refine ⟨fun h => ?_, fun h => ?_⟩
      · have hib : i < (wd b).length := by have := of_decide_eq_true h; omega
        have ey : (wd b).getD i 0 = (wd b)[i] := by rw [List.getD_eq_getElem?_getD, List.getElem?_eq_getElem hib]; rfl
        have hy := (wd_dg b).get hib
        rw [iL_idx hib, wp_bind, wp_some, wrap64_lt (by simp only [Bw] at hy; omega), ← Int.natCast_add, wrap64_lt (by simp only [Bw] at hx hy; omega)]
        exact j3 x _ ex ey
      · have hib : ¬ i < (wd b).length := by have := of_decide_eq_false h; omega
        exact j3 x 0 ex (by rw [List.getD_eq_getElem?_getD, List.getElem?_eq_none (by omega)]; rfl)
    have j1 : wp (s_tablefinderref01_add_j1 (fun a b c i out => rec (a, b, c, i, out)) (iL (wd a)) (iL (wd b)) (c : Int) (i : Int) true (iL o)) (fun y => ∃ (c : Nat) (o : List Nat), y = ((c : Int), iL o) ∧ c ≤ 1 ∧ Dg o ∧ o.length = m ∧ val o + Bw ^ m * c = a + b) := by
      unfold s_tablefinderref01_add_j1
      rw [cond_true, iL_len, wp_bif]
      refine ⟨fun h => ?_, fun h => ?_⟩
      · have hib : i < (wd a).length := by have := of_decide_eq_true h; omega
        have ey : (wd a).getD i 0 = (wd a)[i] := by rw [List.getD_eq_getElem?_getD, List.getElem?_eq_getElem hib]; rfl
        have hy := (wd_dg a).get hib
        rw [iL_idx hib, wp_bind, wp_some, wrap64_lt (by simp only [Bw] at hy; omega), ← Int.natCast_add, wrap64_lt (by simp only [Bw] at hy; omega)]
        exact j2 _ ey
      · have hib : ¬ i < (wd a).length := by have := of_decide_eq_false h; omega
        exact j2 0 (by rw [List.getD_eq_getElem?_getD, List.getElem?_eq_none (by omega)]; rfl)
    unfold s_tablefinderref01_add_l1_B s_tablefinderref01_add_l1_b
    dsimp only
    rw [iL_len, iL_len, wp_bif]
    refine ⟨fun _ => j1, fun h => ?_⟩
    have hib : ¬ i < (wd a).length := by have := of_decide_eq_false h; omega
    rw [decide_eq_true (by rcases hmx i hlt with h | h <;> omega)]
    exact j1
  · rintro rec ⟨c, o⟩ ⟨hc, hl, hd, hv⟩
    dsimp only at hc hl hd hv
    unfold s_tablefinderref01_add_l1_B s_tablefinderref01_add_l1_b
    dsimp only
    rw [iL_len, iL_len, decide_eq_false (by omega), cond_false, decide_eq_false (by omega)]
    unfold s_tablefinderref01_add_j1
    rw [cond_false, wp_some]
    rw [List.take_of_length_le hma, List.take_of_length_le hmb, val_wd, val_wd] at hv
    exact ⟨c, o, rfl, hc, hd, hl, hv⟩
  · rintro y ⟨c, o, rfl, hc, hd, hl, hv⟩
    dsimp only
    unfold s_tablefinderref01_add_k4
    have e : iL o ++ [(c : Int)] = iL (o ++ [c]) := by rw [iL_app]; rfl
    rw [wrap32_lt (by omega), wp_chk, iL_len, e, wp_some]
    exact ⟨room_ok (by simp only [List.length_singleton]; omega), _, rfl, hd.app (dg_one (by unfold Bw; omega)), by simp; omega, by rw [val_snoc, hl, hv]⟩
end Go.Proofs
