/- Numbers of many words: the whole division, the greatest common divisor. -/
import Derived.Test.YtahbkngofdpehaaDoorCnNW6
set_option linter.unusedVariables false
set_option linter.unusedSimpArgs false
set_option linter.unusedSectionVars false
namespace Go.Proofs
open Go Eng

theorem over_eq (a b : Nat) (hb0 : b ≠ 0) (ha : (wd a).length ≤ 50000) (hb : (wd b).length ≤ 50000) : s_fraction_words_over (iL (wd a)) (iL (wd b)) = some (iL (wd (a / b)), iL (wd (a % b))) := by
  refine eq_of_wp ?_
  unfold s_fraction_words_over
  rw [compare_eq a b (by omega) (by omega), wp_bind, wp_some, wp_bif]
  refine ⟨fun h => ?_, fun h => ?_⟩
  · have hab : a < b := by
      have := of_decide_eq_true h
      rcases Nat.lt_trichotomy a b with h1 | h1 | h1
      · exact h1
      · rw [h1, natC_self] at this; omega
      · rw [natC_gt h1] at this; omega
    rw [clone_eq _ (by omega), wp_bind, wp_some, wp_some, Nat.div_eq_of_lt hab, Nat.mod_eq_of_lt hab, wd_zero, iL_nil]
  · have hab : b ≤ a := by
      have := of_decide_eq_false h
      rcases Nat.lt_trichotomy a b with h1 | h1 | h1
      · rw [natC_lt h1] at this; omega
      · omega
      · omega
    have hlb := wd_len_pos hb0
    rw [iL_len, iL_len, wp_bif]
    refine ⟨fun h => ?_, fun h => ?_⟩
    · have h1 : (wd b).length = 1 := by have := eq_of_beq h; omega
      have hbB : b < Bw := by have := wd_lt_len b; rwa [h1, Nat.pow_one] at this
      have eb : idx (iL (wd b)) 0 = some (b : Int) := by
        rw [wd_pos hb0, Nat.mod_eq_of_lt hbB]; rfl
      rw [eb, wp_bind, wp_some, short_eq a b hb0 hbB (by omega), wp_bind, wp_some]
      dsimp only
      have hr : a % b < Bw := Nat.lt_trans (Nat.mod_lt _ (by omega)) hbB
      rw [show ([((a % b : Nat) : Int)] : List Int) = iL [a % b] from rfl, trim_eq (dg_one hr) (by simp), wp_bind, wp_some, wp_some]
      simp only [val, Nat.mul_zero, Nat.add_zero]
    · obtain ⟨m, hm⟩ : ∃ m, (wd b).length = m + 2 := ⟨(wd b).length - 2, by
        have : (wd b).length ≠ 1 := fun e => by rw [e] at h; exact absurd h (by decide)
        omega⟩
      have hla : m + 2 ≤ (wd a).length := by
        rcases Nat.lt_or_ge (wd a).length (wd b).length with h1 | h1
        · have := len_lt h1; omega
        · omega
      have hi : m + 1 < (wd b).length := by omega
      have htop : (wd b)[m + 1] ≠ 0 := fun e => by
        have h1 := val_take_succ hi
        rw [e, Nat.mul_zero, Nat.add_zero, List.take_of_length_le (by omega), val_wd] at h1
        have h2 := val_lt ((wd_dg b).take (m + 1))
        rw [List.length_take, Nat.min_eq_left (by omega)] at h2
        have h3 := wd_low hi
        omega
      obtain ⟨s, hs, hse, hs1, hs2⟩ := lead32 htop ((wd_dg b).get hi)
      have e1 : ((m + 2 : Nat) : Int) - 1 = ((m + 1 : Nat) : Int) := by omega
      rw [hm, e1, iL_idx hi, wp_chk, wp_bind, wp_some, hse, wp_bind, wp_some]
      refine ⟨inK_i64 (by omega), ?_⟩
      obtain ⟨u, hu, hud, hul, huv⟩ := shifted_eq (wd a) s hs (by omega) (wd_dg a)
      obtain ⟨v, hv, hvd, hvl, hvv⟩ := shifted_eq (wd b) s hs (by omega) (wd_dg b)
      rw [hu, wp_bind, wp_some, hv, wp_bind, wp_some, wp_chk, wp_chk, wp_chk, wp_chk, wp_chk]
      rw [val_wd] at huv hvv
      have hvlt : val v < Bw ^ (m + 2) := by
        have h1 := val_take_succ hi
        rw [List.take_of_length_le (by omega), val_wd] at h1
        have h2 := val_lt ((wd_dg b).take (m + 1))
        rw [List.length_take, Nat.min_eq_left (by omega)] at h2
        have h3 : b + 1 ≤ Bw ^ (m + 1) * ((wd b)[m + 1] + 1) := by rw [Nat.mul_add, Nat.mul_one]; omega
        have h4 := Nat.mul_le_mul_right (2 ^ s) h3
        have h5 := Nat.mul_le_mul_left (Bw ^ (m + 1)) (lead_bound hs hs2)
        rw [Nat.mul_assoc] at h4
        have h6 := Nat.two_pow_pos s
        rw [Nat.add_mul, Nat.one_mul] at h4
        rw [hvv, Nat.pow_succ]
        show _ < Bw ^ (m + 1) * 4294967296
        omega
      obtain ⟨K, hK⟩ : ∃ K, (wd a).length = K + m + 1 := ⟨(wd a).length - m - 1, by omega⟩
      have eK : ((wd a).length : Int) - ((m + 2 : Nat) : Int) + 1 = (K : Int) := by omega
      have ed : ((iL v).drop 0).take (((m + 2 : Nat) : Int).toNat - 0) = iL (v.take (m + 2)) := by
        rw [List.drop_zero, Int.toNat_natCast, Nat.sub_zero, iL_take]
      have hdv : val (v.take (m + 2)) = b * 2 ^ s := by rw [val_take_all hvlt, hvv]
      have hdl : (v.take (m + 2)).length = m + 2 := by rw [List.length_take]; omega
      have hdd := hvd.take (m + 2)
      rw [eK, ed, Int.toNat_natCast, iL_rep, iL_len v, iL_len (List.replicate K 0), List.length_replicate]
      refine ⟨within_ok ⟨by omega, by omega, by omega⟩, inK_i64 (by omega), inK_i64 (by omega), mkOk_nat (by omega), inK_i64 (by omega), ?_⟩
      generalize v.take (m + 2) = d at *
      have hp := Nat.two_pow_pos s
      have h1 : 1 ≤ d[m + 1] := by
        rcases Nat.eq_zero_or_pos d[m + 1] with hz | hz
        · exfalso
          have h1 := val_take_succ (l := d) (k := m + 1) (by omega)
          rw [hz, Nat.mul_zero, Nat.add_zero, List.take_of_length_le (by omega)] at h1
          have h2 := val_lt (hdd.take (m + 1))
          rw [List.length_take, Nat.min_eq_left (by omega)] at h2
          rw [hdv] at h1
          have h3 := wd_low hi
          have := Nat.le_mul_of_pos_right b hp
          omega
        · exact hz
      have hUlt : a * 2 ^ s < Bw ^ K * val d := by
        have h2 := wd_lt_len a
        have h3 := Nat.mul_le_mul_left (Bw ^ K) (wd_low hi)
        rw [← Nat.pow_add, ← Nat.add_assoc, ← hK] at h3
        rw [hdv, ← Nat.mul_assoc]
        exact Nat.mul_lt_mul_of_pos_right (by omega) hp
      rw [wp_bind]
      refine wp_mono (steps_wp (s := s) hdl hdd h1 (by omega) hud huv hUlt (by omega) (by omega)) ?_
      rintro y ⟨u', qs, rfl, hu'l, hu'd, hql, hqd, hv', hlt'⟩
      dsimp only
      have hDpos : 0 < val d := by omega
      have eq1 : val qs = a / b := by
        rw [← Nat.mul_div_mul_right a b hp, ← hdv, ← hv', Nat.add_mul_div_right _ _ hDpos, Nat.div_eq_of_lt hlt', Nat.zero_add]
      have eq2 : val u' = a % b * 2 ^ s := by
        rw [← Nat.mul_mod_mul_right, ← hdv, ← hv', Nat.add_mul_mod_self_right, Nat.mod_eq_of_lt hlt']
      have hDlt := val_lt hdd
      rw [hdl] at hDlt
      have hut : val (u'.take (m + 2)) = val u' := val_take_all (by omega)
      obtain ⟨k', hk', hkv, hke⟩ := trim2 u' (m + 2) (by omega) (by omega)
      unfold s_fraction_words_over_k1
      rw [Int.toNat_natCast, Nat.sub_zero, hke, wp_chk, wp_bind, wp_some, iL_len]
      refine ⟨within_ok ⟨by omega, by omega, by omega⟩, ?_⟩
      dsimp only
      rw [wp_bind]
      refine wp_mono (shr_wp (R := a % b) (iL qs) hs hu'd (by omega) (by omega) (by rw [hkv, hut, eq2])) ?_
      rintro y ⟨o, rfl, hol, hod, hov⟩
      dsimp only
      unfold s_fraction_words_over_k2
      have eo : ((iL (o ++ u'.drop k')).drop 0).take k' = iL o := by
        rw [List.drop_zero, iL_take, List.take_left' hol]
      rw [eo, trim_eq hqd (by omega), wp_bind, wp_some, trim_eq hod (by omega), wp_bind, wp_some, wp_some, eq1, hov]

theorem wd_mono {a b : Nat} (h : a ≤ b) : (wd a).length ≤ (wd b).length := wd_len_le (Nat.lt_of_le_of_lt h (wd_lt_len b))
theorem common_go : ∀ (n a b : Nat), b ≤ a → a * b < 2 ^ n → (wd a).length ≤ 50000 → ∀ f, n < f → s_fraction_words_common_l1 f (iL (wd a)) (iL (wd b)) = some (iL (wd (Nat.gcd a b)))
  | n, a, b, hba, hn, ha, 0, hf => absurd hf (by omega)
  | n, a, b, hba, hn, ha, f + 1, hf => by
    show s_fraction_words_common_l1_b (s_fraction_words_common_l1 f) _ _ = _
    unfold s_fraction_words_common_l1_b
    rw [iL_len]
    by_cases h0 : b = 0
    · subst h0
      rw [wd_zero, Nat.gcd_zero_right]; rfl
    · have hl := wd_len_pos h0
      rw [decide_eq_true (by omega), cond_true, over_eq a b h0 ha (Nat.le_trans (wd_mono hba) ha), Option.bind_some]
      dsimp only
      have hlt := Nat.mod_lt a (show 0 < b by omega)
      cases n with
      | zero =>
        have : 1 * 1 ≤ a * b := Nat.mul_le_mul (by omega) (by omega)
        rw [Nat.pow_zero] at hn; omega
      | succ n =>
        have hdm := Nat.div_add_mod a b
        have hq : 1 ≤ a / b := (Nat.le_div_iff_mul_le (by omega)).2 (by omega)
        have h1 := Nat.mul_le_mul_left b hq
        have h2 : b * (2 * (a % b)) ≤ b * a := Nat.mul_le_mul_left b (by omega)
        rw [Nat.mul_left_comm, Nat.mul_comm b a] at h2
        rw [common_go n b (a % b) (by omega) (by rw [Nat.pow_succ] at hn; omega) (Nat.le_trans (wd_mono hba) ha) f (by omega), Nat.gcd_comm a b, Nat.gcd_rec b a, Nat.gcd_comm]
theorem common_eq (a b : Nat) (ha : (wd a).length ≤ 50000) (hb : (wd b).length ≤ 50000) : s_fraction_words_common (iL (wd a)) (iL (wd b)) = some (iL (wd (Nat.gcd a b))) := by
  have bnd : ∀ x y : Nat, x * y < 2 ^ (32 * (wd x).length + 32 * (wd y).length) := fun x y => by
    have e : ∀ z, z < 2 ^ (32 * (wd z).length) := fun z => by
      have := wd_lt_len z
      rwa [show Bw = 2 ^ 32 from rfl, ← Nat.pow_mul] at this
    have h1 := Nat.mul_lt_mul_of_lt_of_le (e x) (Nat.le_of_lt (e y)) (Nat.two_pow_pos _)
    rwa [← Nat.pow_add] at h1
  have key : s_fraction_words_common_l1 big (iL (wd a)) (iL (wd b)) = some (iL (wd (Nat.gcd a b))) := by
    obtain ⟨k, hk, hk2⟩ : ∃ k, big = k + 1 ∧ 3200004 < k := ⟨36893488147419103231, by rw [big_eq], by omega⟩
    rw [hk]
    rcases Nat.lt_or_ge a b with h | h
    · show s_fraction_words_common_l1_b (s_fraction_words_common_l1 k) _ _ = _
      unfold s_fraction_words_common_l1_b
      have h0 : b ≠ 0 := by omega
      have hl := wd_len_pos h0
      rw [iL_len, decide_eq_true (by omega), cond_true, over_eq a b h0 ha hb, Option.bind_some]
      dsimp only
      rw [Nat.mod_eq_of_lt h, common_go _ b a (by omega) (bnd b a) hb k (by omega), Nat.gcd_comm]
    · exact common_go _ a b h (bnd a b) ha (k + 1) (by omega)
  unfold s_fraction_words_common s_fraction_words_common_k1
  rw [key, Option.bind_some]
end Go.Proofs
