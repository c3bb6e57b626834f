/- The second implementation: halving. -/
import Derived.Test.YtahbkngofdpehaaDoorCnNW16
set_option linter.unusedVariables false
set_option linter.unusedSimpArgs false
set_option linter.unusedSectionVars false
namespace Go.Proofs
open Go Eng

theorem halfR_eq (a : Nat) (ha : (wd a).length ≤ 100000) : s_tablefinderref01_half (iL (wd a)) = some (iL (wd (a / 2))) := by
  refine eq_of_wp ?_
  unfold s_tablefinderref01_half
  rw [List.nil_append, wp_chk, wp_bind, iL_len]
  refine ⟨room_ok (by rw [List.length_nil]; omega), ?_⟩
  refine wp_mono (uptoS_wp s_tablefinderref01_half_l1_FB (wd a).length (by omega) (fun i (o : List Nat) => (iL (wd a), ((wd a).length : Int), i, iL (o ++ (wd a).drop o.length))) (fun i o => o.length = i ∧ Dg o ∧ val o * 2 + (wd a).getD 0 0 % 2 = val ((wd a).take i) + Bw ^ i * ((wd a).getD i 0 % 2))
    (Q := fun y => ∃ (o : List Nat), y = iL o ∧ Dg o ∧ o.length = (wd a).length ∧ val o = a / 2) [] ⟨rfl, dg_nil, by simp [val]⟩ ?_ ?_) ?_
  · rintro rec i o hi ⟨hol, hod, hov⟩ ih
    have h1 := (wd_dg a).get hi
    have hyB := getD_dg (wd_dg a) (i + 1)
    have hlen : (o ++ (wd a).drop o.length).length = (wd a).length := by simp; omega
    have gx : (iL (o ++ (wd a).drop o.length))[i]? = some ((wd a)[i] : Int) := by
      rw [iL_get (by omega)]
      congr 2
      rw [List.getElem_append_right (by omega)]
      simp [hol]
    have fin : ∀ z : Nat, z = (wd a)[i] / 2 + (wd a).getD (i + 1) 0 * 2 ^ 31 % Bw → wp (s_tablefinderref01_half_j1 (fun a t9 i out => rec (a, t9, i, out)) (iL (wd a)) ((wd a).length : Int) (i : Int) (iL ((o ++ (wd a).drop o.length).set i z))) (fun y => ∃ (o : List Nat), y = iL o ∧ Dg o ∧ o.length = (wd a).length ∧ val o = a / 2) := fun z hz => by
      unfold s_tablefinderref01_half_j1
      have es : (o ++ (wd a).drop o.length).set i z = (o ++ [z]) ++ (wd a).drop (o ++ [z]).length := by
        rw [List.set_append_right _ _ (by omega), hol, Nat.sub_self, ← List.getElem_cons_drop (h := hi), List.set_cons_zero]
        simp [hol]
      have eg : (wd a).getD i 0 = (wd a)[i] := by rw [List.getD_eq_getElem?_getD, List.getElem?_eq_getElem hi]; rfl
      rw [eg] at hov
      rw [wp_chk, es]
      generalize ex : (wd a)[i] = x at *
      generalize ey : (wd a).getD (i + 1) 0 = y at *
      have hzB : z < Bw := by simp only [Bw] at h1 hz ⊢; omega
      refine ⟨inK_i64 (by omega), ih (o ++ [z]) ⟨by simp [hol], hod.app (dg_one hzB), ?_⟩⟩
      have hd1 : z * 2 + x % 2 = x + Bw * (y % 2) := by simp only [Bw] at h1 hz ⊢; omega
      have q1 : Bw ^ i * (z * 2 + x % 2) = Bw ^ i * (x + Bw * (y % 2)) := by rw [hd1]
      rw [Nat.mul_add, Nat.mul_add] at q1
      rw [val_snoc, hol, val_take_succ hi, ex, Nat.pow_succ, Nat.add_mul, Nat.mul_assoc, Nat.mul_assoc]
      omega
    unfold s_tablefinderref01_half_l1_B s_tablefinderref01_half_l1_b
    dsimp only
    rw [wp_bif]
    refine ⟨fun _ => ?_, fun h => by have := of_decide_eq_false h; omega⟩
    have esh : shrK .u32 ((wd a)[i] : Int) 1 = (((wd a)[i] / 2 : Nat) : Int) := shr_u32 1 (by omega)
    rw [Int.toNat_natCast, gx, wp_chk, wp_bind, wp_some, wp_chk, wp_chk, wp_chk, esh, iL_set, iL_len, iL_len, hlen, wp_bif]
    refine ⟨inR_ok ⟨by omega, by omega⟩, by decide, inR_ok ⟨by omega, by omega⟩, inK_i64 (by omega), fun h => ?_, fun h => ?_⟩
    · have hi2 : i + 1 < (wd a).length := by have := of_decide_eq_true h; omega
      have gz : (iL ((o ++ (wd a).drop o.length).set i ((wd a)[i] / 2)))[i]? = some (((wd a)[i] / 2 : Nat) : Int) := by
        rw [iL_get (by rw [List.length_set]; omega), List.getElem_set_self]
      have e1 : (i : Int) + 1 = ((i + 1 : Nat) : Int) := rfl
      have eg : (wd a).getD (i + 1) 0 = (wd a)[i + 1] := by rw [List.getD_eq_getElem?_getD, List.getElem?_eq_getElem hi2]; rfl
      have eor : orK .u32 (((wd a)[i] / 2 : Nat) : Int) (shlK .u32 ((wd a)[i + 1] : Int) 31) = (((wd a)[i] / 2 + (wd a).getD (i + 1) 0 * 2 ^ 31 % Bw : Nat) : Int) := by
        rw [eg, show (31 : Int) = ((31 : Nat) : Int) from rfl, shl_u32 31 (by omega), or_u32 (by simp only [Bw] at h1; omega) (Nat.mod_lt _ (by decide))]
        congr 1
        exact or_shift (by decide) (by simp only [Bw] at h1; omega) ((wd_dg a).get hi2)
      rw [e1, iL_idx hi2, gz, wp_chk, wp_bind, wp_some, wp_chk, wp_bind, wp_some, wp_chk, wp_chk, eor, iL_len, List.length_set, hlen, iL_set, List.set_set]
      exact ⟨inR_ok ⟨by omega, by omega⟩, inK_i64 (by omega), by decide, inR_ok ⟨by omega, by omega⟩, fin _ rfl⟩
    · have hi2 : ¬ i + 1 < (wd a).length := by have := of_decide_eq_false h; omega
      refine fin _ ?_
      rw [List.getD_eq_getElem?_getD, List.getElem?_eq_none (by omega)]
      simp
  · rintro rec o ⟨hol, hod, hov⟩
    unfold s_tablefinderref01_half_l1_B s_tablefinderref01_half_l1_b
    dsimp only
    rw [wp_bif]
    refine ⟨fun h => by have := of_decide_eq_true h; omega, fun _ => ?_⟩
    rw [wp_some]
    have eg : (wd a).getD (wd a).length 0 = 0 := by rw [List.getD_eq_getElem?_getD, List.getElem?_eq_none (by omega)]; rfl
    rw [eg, Nat.zero_mod, Nat.mul_zero, Nat.add_zero, List.take_length, val_wd] at hov
    refine ⟨o, by rw [hol, List.drop_length, List.append_nil], hod, hol, ?_⟩
    omega
  · rintro y ⟨o, rfl, hd, hl, hv⟩
    unfold s_tablefinderref01_half_k2
    rw [trimR_eq hd (by omega), wp_bind, wp_some, wp_some, hv]
end Go.Proofs
