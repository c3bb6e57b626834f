/- Numbers of many words: products, shifts. -/
import Derived.Test.YtahbkngofdpehaaDoorCnNW2
set_option linter.unusedVariables false
set_option linter.unusedSimpArgs false
set_option linter.unusedSectionVars false
namespace Go.Proofs
open Go Eng

theorem val_set : ∀ (l : List Nat) (i x : Nat) (h : i < l.length), val (l.set i x) + Bw ^ i * l[i] = val l + Bw ^ i * x
  | [], i, x, h => absurd h (by simp)
  | d :: l, 0, x, h => by simp only [List.set_cons_zero, val, Nat.pow_zero, Nat.one_mul, List.getElem_cons_zero]; omega
  | d :: l, i + 1, x, h => by
    have := val_set l i x (by simpa using h)
    have e : Bw * (val (l.set i x) + Bw ^ i * l[i]'(by simpa using h)) = Bw * (val l + Bw ^ i * x) := by rw [this]
    rw [Nat.mul_add, Nat.mul_add] at e
    simp only [List.set_cons_succ, val, Nat.pow_succ, List.getElem_cons_succ]
    rw [Nat.mul_comm (Bw ^ i) Bw, Nat.mul_assoc, Nat.mul_assoc]
    omega

theorem mul_le' {x y : Nat} (hx : x ≤ 4294967295) (hy : y ≤ 4294967295) : x * y ≤ 18446744065119617025 := Nat.mul_le_mul hx hy
theorem mul_bound {x y : Nat} (hx : x < Bw) (hy : y < Bw) : x * y ≤ 18446744065119617025 := mul_le' (by simp only [Bw] at hx; omega) (by simp only [Bw] at hy; omega)
theorem mac64 {c x y e : Nat} (hc : c < Bw) (hx : x < Bw) (hy : y < Bw) (he : e < Bw) : IntKind.wrap .u64 ((c : Int) + IntKind.wrap .u64 (IntKind.wrap .u64 (IntKind.wrap .u64 (x : Int) * IntKind.wrap .u64 (y : Int)) + IntKind.wrap .u64 (e : Int))) = ((c + x * y + e : Nat) : Int) := by
  have := mul_bound hx hy
  simp only [Bw] at hc hx hy he
  rw [wrap64_lt (by omega), wrap64_lt (by omega), wrap64_lt (by omega), ← Int.natCast_mul, wrap64_lt (by omega), ← Int.natCast_add, wrap64_lt (by omega), ← Int.natCast_add, wrap64_lt (by omega)]
  congr 1; omega
theorem mac_hi {c x y e : Nat} (hc : c < Bw) (hx : x < Bw) (hy : y < Bw) (he : e < Bw) : (c + x * y + e) / Bw < Bw := by
  have := mul_bound hx hy
  simp only [Bw] at hc hx hy he ⊢
  omega

theorem times_eq (a b : Nat) (ha : (wd a).length ≤ 100000) (hb : (wd b).length ≤ 100000) : s_fraction_words_times (iL (wd a)) (iL (wd b)) = some (iL (wd (a * b))) := by
  refine eq_of_wp ?_
  unfold s_fraction_words_times
  rw [iL_len, iL_len, wp_chk, wp_chk, wp_bind, ← Int.natCast_add, Int.toNat_natCast, iL_rep]
  refine ⟨inK_i64 (by omega), mkOk_nat (by omega), ?_⟩
  generalize hm : (wd a).length = m at ha ⊢
  generalize hn : (wd b).length = n at hb ⊢
  refine wp_mono (uptoS_wp s_fraction_words_times_l1_FB m (by omega) (fun i (s : List Nat) => (iL (wd b), iL (wd a), (m : Int), i, iL s)) (fun i s => s.length = m + n ∧ Dg s ∧ val s = val ((wd a).take i) * b ∧ ∀ k, i + n ≤ k → k < m + n → s[k]? = some 0)
    (Q := fun y => ∃ (o : List Nat), y = iL o ∧ Dg o ∧ o.length = m + n ∧ val o = a * b) (List.replicate (m + n) 0) ⟨by simp, dg_rep _, by rw [val_rep]; simp [val], fun k _ h => by rw [List.getElem?_replicate, if_pos h]⟩ ?_ ?_) ?_
  · rintro rec i s hlt ⟨hl, hd, hv, hz⟩ ih
    have hi : i < (wd a).length := by omega
    have h1 := (wd_dg a).get hi
    unfold s_fraction_words_times_l1_B s_fraction_words_times_l1_b
    dsimp only
    rw [wp_bif]
    refine ⟨fun _ => ?_, fun h => by simp only [decide_eq_false_iff_not] at h; omega⟩
    rw [iL_idx hi, wp_bind, wp_some, wp_bind, iL_len, hn]
    generalize ex : (wd a)[i] = x at h1
    refine wp_mono (uptoS_wp s_fraction_words_times_l2_FB n (by omega) (fun j (t : Nat × List Nat) => (iL (wd b), (i : Int), (x : Int), (t.1 : Int), iL (wd a), (m : Int), (i : Int), iL (wd b), (n : Int), j, iL t.2)) (fun j t => t.1 < Bw ∧ t.2.length = m + n ∧ Dg t.2 ∧ val t.2 + Bw ^ (i + j) * t.1 = val s + Bw ^ i * (x * val ((wd b).take j)) ∧ ∀ k, i + n ≤ k → k < m + n → t.2[k]? = some 0)
      (Q := fun y => ∃ (c : Nat) (o : List Nat), y = (iL (wd b), (i : Int), (c : Int), iL (wd a), (m : Int), (i : Int), iL o) ∧ c < Bw ∧ o.length = m + n ∧ Dg o ∧ val o + Bw ^ (i + n) * c = val s + Bw ^ i * (x * b) ∧ ∀ k, i + n ≤ k → k < m + n → o[k]? = some 0) (0, s) ⟨by simp only [Bw]; omega, hl, hd, by simp [val], hz⟩ ?_ ?_) ?_
    · rintro rec2 j ⟨c, o⟩ hj ⟨hc, hol, hod, hov, hoz⟩ ih2
      dsimp only at hc hol hod hov hoz ih2
      have hj2 : j < (wd b).length := by omega
      have h2 := (wd_dg b).get hj2
      have hij : i + j < o.length := by omega
      have h3 := hod.get hij
      unfold s_fraction_words_times_l2_B s_fraction_words_times_l2_b
      dsimp only
      rw [wp_bif]
      refine ⟨fun _ => ?_, fun h => by simp only [decide_eq_false_iff_not] at h; omega⟩
      rw [iL_idx hj2, wp_bind, wp_some, wp_chk, wp_chk, ← Int.natCast_add, Int.toNat_natCast, iL_get hij, wp_bind, wp_some, wp_chk, wp_chk, wp_chk, wp_chk]
      generalize ey : (wd b)[j] = y at h2
      generalize ee : o[i + j] = e at h3
      rw [mac64 hc h1 h2 h3, wrap32_nat, show (32 : Int) = ((32 : Nat) : Int) from rfl, shr_u64 32 (by omega), iL_len, iL_set]
      refine ⟨inK_i64 (by omega), inR_ok ⟨by omega, by omega⟩, inK_i64 (by omega), inR_ok ⟨by omega, by omega⟩, by decide, inK_i64 (by omega), ?_⟩
      refine ih2 ((c + x * y + e) / Bw, o.set (i + j) ((c + x * y + e) % Bw)) ⟨mac_hi hc h1 h2 h3, by simp [hol], hod.set _ (Nat.mod_lt _ (by decide)), ?_, fun k hk hk2 => ?_⟩
      · dsimp only
        have q1 := val_set o (i + j) ((c + x * y + e) % Bw) hij
        rw [ee] at q1
        have q2 : Bw ^ (i + j) * ((c + x * y + e) % Bw + Bw * ((c + x * y + e) / Bw)) = Bw ^ (i + j) * (c + x * y + e) := by rw [Nat.mod_add_div]
        rw [Nat.mul_add, Nat.mul_add, Nat.mul_add] at q2
        rw [← Nat.add_assoc, Nat.pow_succ, Nat.mul_assoc, val_take_succ hj2, ey, Nat.mul_add, Nat.mul_add]
        have q3 : Bw ^ i * (x * (Bw ^ j * y)) = Bw ^ (i + j) * (x * y) := by rw [Nat.pow_add, Nat.mul_assoc, Nat.mul_left_comm x]
        omega
      · dsimp only
        rw [List.getElem?_set_ne (by omega)]
        exact hoz k hk hk2
    · rintro rec2 ⟨c, o⟩ ⟨hc, hol, hod, hov, hoz⟩
      dsimp only at hc hol hod hov hoz
      unfold s_fraction_words_times_l2_B s_fraction_words_times_l2_b
      dsimp only
      rw [wp_bif]
      refine ⟨fun h => by have := of_decide_eq_true h; omega, fun _ => ?_⟩
      rw [wp_some]
      rw [List.take_of_length_le (by omega), val_wd] at hov
      exact ⟨c, o, rfl, hc, hol, hod, hov, hoz⟩
    · rintro y ⟨c, o, rfl, hc, hol, hod, hov, hoz⟩
      dsimp only
      unfold s_fraction_words_times_k1
      rw [iL_len, hn, wp_chk, wp_chk, wp_chk, ← Int.natCast_add, Int.toNat_natCast, wrap32_lt hc, iL_set, iL_len]
      refine ⟨inK_i64 (by omega), inR_ok ⟨by omega, by omega⟩, inK_i64 (by omega), ?_⟩
      have hp : i + n < o.length := by omega
      have h0 : o[i + n] = 0 := by
        have := hoz (i + n) (Nat.le_refl _) (by omega)
        rw [List.getElem?_eq_getElem hp] at this
        exact Option.some.inj this
      have q1 := val_set o (i + n) c hp
      rw [h0, Nat.mul_zero, Nat.add_zero] at q1
      refine ih (o.set (i + n) c) ⟨by simp [hol], hod.set _ hc, ?_, fun k hk hk2 => ?_⟩
      · rw [q1, hov, hv, val_take_succ hi, ex, Nat.add_mul, Nat.mul_assoc]
      · rw [List.getElem?_set_ne (by omega)]
        exact hoz k (by omega) hk2
  · rintro rec s ⟨hl, hd, hv, hz⟩
    unfold s_fraction_words_times_l1_B s_fraction_words_times_l1_b
    dsimp only
    rw [wp_bif]
    refine ⟨fun h => by have := of_decide_eq_true h; omega, fun _ => ?_⟩
    rw [wp_some]
    rw [List.take_of_length_le (by omega), val_wd] at hv
    exact ⟨s, rfl, hd, hl, hv⟩
  · rintro y ⟨o, rfl, hd, hl, hv⟩
    unfold s_fraction_words_times_k2
    rw [trim_eq hd (by omega), wp_bind, wp_some, wp_some, hv]

/-! ## Shifts to the left by less than a word -/

theorem or_shift {c d s : Nat} (hs : s ≤ 31) (hc : c < 2 ^ s) (hd : d < Bw) : c ||| (d * 2 ^ s % Bw) = c + d * 2 ^ s % Bw := by
  have e : Bw = 2 ^ (32 - s) * 2 ^ s := by rw [← Nat.pow_add, show 32 - s + s = 32 by omega]
  rw [e, Nat.mul_mod_mul_right]
  have := Nat.shiftLeft_add_eq_or_of_lt hc (d % 2 ^ (32 - s))
  rw [Nat.shiftLeft_eq] at this
  rw [Nat.or_comm, ← this, Nat.add_comm]
theorem shl_u64 {d s : Nat} (hs : s ≤ 32) (hd : d < Bw) : shlK .u64 (IntKind.wrap .u64 (d : Int)) (s : Int) = ((d * 2 ^ s : Nat) : Int) := by
  have h2 : 2 ^ s ≤ 2 ^ 32 := Nat.pow_le_pow_right (by decide) hs
  have h3 : d * 2 ^ s ≤ 4294967295 * 4294967296 := Nat.mul_le_mul (by simp only [Bw] at hd; omega) h2
  unfold shlK
  simp only [Bw] at hd
  rw [wrap64_lt (by omega), Int.toNat_natCast, show IntKind.bits .u64 = 64 from rfl, Nat.min_eq_left (by omega)]
  have e : (d : Int) * (2 : Int) ^ s = ((d * 2 ^ s : Nat) : Int) := by push_cast; rfl
  rw [e, wrap64_lt (by omega)]

theorem shifted_eq (l : List Nat) (s : Nat) (hs : s ≤ 31) (hl : l.length ≤ 100000) (hd : Dg l) : ∃ o : List Nat, s_fraction_words_shifted (iL l) (s : Int) = some (iL o) ∧ Dg o ∧ o.length = l.length + 1 ∧ val o = val l * 2 ^ s := by
  have : wp (s_fraction_words_shifted (iL l) (s : Int)) (fun y => ∃ o : List Nat, y = iL o ∧ Dg o ∧ o.length = l.length + 1 ∧ val o = val l * 2 ^ s) := by
    have h2 : 2 ^ s ≤ 2 ^ 31 := Nat.pow_le_pow_right (by decide) hs
    unfold s_fraction_words_shifted s_fraction_words_shifted_k1
    rw [iL_len, wp_chk, wp_chk, wp_bind, show (l.length : Int) + 1 = ((l.length + 1 : Nat) : Int) from rfl, Int.toNat_natCast, iL_rep]
    refine ⟨inK_i64 (by omega), mkOk_nat (by omega), ?_⟩
    refine wp_mono (uptoS_wp s_fraction_words_shifted_l1_FB l.length (by omega) (fun i (t : List Nat × Nat) => ((s : Int), iL l, (l.length : Int), i, iL (t.1 ++ t.2 :: List.replicate (l.length - t.1.length) 0))) (fun i t => t.1.length = i ∧ t.2 < 2 ^ s ∧ Dg t.1 ∧ val t.1 + Bw ^ i * t.2 = val (l.take i) * 2 ^ s)
      (Q := fun y => ∃ o : List Nat, y = iL o ∧ Dg o ∧ o.length = l.length + 1 ∧ val o = val l * 2 ^ s) ([], 0) ⟨rfl, Nat.two_pow_pos s, dg_nil, by simp [val]⟩ ?_ ?_) ?_
    · rintro rec i ⟨o, c⟩ hi ⟨hol, hc, hod, hv⟩ ih
      dsimp only at hol hc hod hv ih
      have h1 := hd.get hi
      have hcB : c < Bw := by simp only [Bw]; omega
      unfold s_fraction_words_shifted_l1_B s_fraction_words_shifted_l1_b
      dsimp only
      rw [wp_bif]
      refine ⟨fun _ => ?_, fun h => by simp only [decide_eq_false_iff_not] at h; omega⟩
      rw [iL_idx hi, wp_bind, wp_some]
      generalize ex : l[i] = x at h1
      have hlen : (o ++ c :: List.replicate (l.length - o.length) 0).length = l.length + 1 := by simp; omega
      have hg : (iL (o ++ c :: List.replicate (l.length - o.length) 0))[i]? = some (c : Int) := by
        rw [iL_get (by rw [hlen]; omega)]
        congr 2
        rw [List.getElem_append_right (by omega)]
        simp [hol]
      rw [shl_u64 (by omega) h1, show (32 : Int) = ((32 : Nat) : Int) from rfl, shr_u64 32 (by omega), wrap32_nat]
      have hx2 : x * 2 ^ s / 2 ^ 32 < 2 ^ s := (Nat.div_lt_iff_lt_mul (by decide)).2 (by
        rw [Nat.mul_comm (2 ^ s)]
        exact Nat.mul_lt_mul_of_pos_right h1 (Nat.two_pow_pos s))
      rw [wrap32_lt (by omega), Int.toNat_natCast, show ((i : Int) + 1).toNat = i + 1 by omega, hg]
      rw [wp_chk, wp_chk, wp_bind, wp_some, wp_chk, wp_chk, wp_chk, wp_chk, wp_chk, or_u32 hcB (Nat.mod_lt _ (by decide)), or_shift hs hc h1]
      have hsum : c + x * 2 ^ s % Bw < Bw := by
        have e : Bw = 2 ^ (32 - s) * 2 ^ s := by rw [← Nat.pow_add, show 32 - s + s = 32 by omega]
        have hm : x % 2 ^ (32 - s) + 1 ≤ 2 ^ (32 - s) := Nat.mod_lt _ (Nat.two_pow_pos _)
        have := Nat.mul_le_mul_right (2 ^ s) hm
        rw [Nat.add_mul, Nat.one_mul] at this
        rw [e, Nat.mul_mod_mul_right]
        omega
      have es : ((o ++ c :: List.replicate (l.length - o.length) 0).set i (c + x * 2 ^ s % Bw)).set (i + 1) (x * 2 ^ s / 2 ^ 32) = (o ++ [c + x * 2 ^ s % Bw]) ++ (x * 2 ^ s / 2 ^ 32) :: List.replicate (l.length - (o.length + 1)) 0 := by
        rw [List.set_append_right _ _ (by omega), hol, Nat.sub_self, List.set_cons_zero, List.set_append_right _ _ (by omega), hol, show i + 1 - i = 1 by omega, show l.length - i = (l.length - (i + 1)) + 1 by omega, List.replicate_succ]
        simp
      rw [iL_set, iL_set, es]
      simp only [iL_len, List.length_set, hlen]
      refine ⟨by simp, inR_ok ⟨by omega, by omega⟩, inR_ok ⟨by omega, by omega⟩, inK_i64 (by omega), by decide, inR_ok ⟨by omega, by omega⟩, inK_i64 (by omega), ?_⟩
      have := ih (o ++ [c + x * 2 ^ s % Bw], x * 2 ^ s / 2 ^ 32) ⟨by simp [hol], hx2, hod.app (dg_one hsum), ?_⟩
      · simp only [List.length_append, List.length_singleton] at this
        exact this
      · dsimp only
        have q : Bw ^ i * (x * 2 ^ s % Bw + Bw * (x * 2 ^ s / 2 ^ 32)) = Bw ^ i * (x * 2 ^ s) := by
          have := Nat.mod_add_div (x * 2 ^ s) Bw
          rw [show (2 : Nat) ^ 32 = Bw from rfl, this]
        rw [Nat.mul_add] at q
        rw [val_snoc, hol, Nat.pow_succ, Nat.mul_assoc, val_take_succ hi, ex, Nat.mul_add, Nat.add_mul, Nat.mul_assoc (Bw ^ i) x]
        omega
    · rintro rec ⟨o, c⟩ ⟨hol, hc, hod, hv⟩
      dsimp only at hol hc hod hv
      unfold s_fraction_words_shifted_l1_B s_fraction_words_shifted_l1_b
      dsimp only
      rw [wp_bif]
      refine ⟨fun h => by have := of_decide_eq_true h; omega, fun _ => ?_⟩
      rw [wp_some]
      rw [List.take_length] at hv
      refine ⟨o ++ [c], ?_, hod.app (dg_one (by simp only [Bw]; omega)), by simp [hol], ?_⟩
      · rw [hol, Nat.sub_self]; rfl
      · rw [val_snoc, hol]; exact hv
    · rintro y hy
      exact wp_some.2 hy
  obtain ⟨y, hy, o, rfl, h1, h2, h3⟩ := this
  exact ⟨o, hy, h1, h2, h3⟩
end Go.Proofs
