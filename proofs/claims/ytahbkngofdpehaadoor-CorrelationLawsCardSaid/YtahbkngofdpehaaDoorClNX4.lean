/- The law CorrelationLaws. -/
import Derived.Test.YtahbkngofdpehaaDoorClNX3
set_option linter.unusedVariables false
set_option linter.unusedSimpArgs false
set_option linter.unusedSectionVars false
namespace Go.Proofs
open Go Eng

theorem sc_sz {b : Nat} {l : Rl} (hl : l.length ≤ 20) (hb : b ≤ 20) (h : SzL b l) (hu : uR l ≠ 0) (hv : vR l ≠ 0) : Sz 6676 (scR l) := by
  have c1 : l.length * (b + 1) ≤ 20 * 21 := Nat.mul_le_mul hl (by omega)
  have c2 : l.length * (b + b + 1) ≤ 20 * 41 := Nat.mul_le_mul hl (by omega)
  have h1 := (sR_sz (f := fun p => p.1) (fun p h _ => h) _ l rfl h).mono (show _ ≤ 421 by omega)
  have h2 := (sR_sz (f := fun p => p.2) (fun p _ h => h) _ l rfl h).mono (show _ ≤ 421 by omega)
  have h3 := (sR_sz (f := fun p => p.1 * p.1) (fun p h _ => h.mul h) _ l rfl h).mono (show _ ≤ 821 by omega)
  have h4 := (sR_sz (f := fun p => p.2 * p.2) (fun p _ h => h.mul h) _ l rfl h).mono (show _ ≤ 821 by omega)
  have h5 := (sR_sz (f := fun p => p.1 * p.2) (fun p h h' => h.mul h') _ l rfl h).mono (show _ ≤ 821 by omega)
  have z1 : Sz 1669 (cR l) := (part_eq (n := l.length) (by omega) h5 h1 h2 (by omega)).2
  have z2 : Sz 1669 (uR l) := (part_eq (n := l.length) (by omega) h3 h1 h1 (by omega)).2
  have z3 : Sz 1669 (vR l) := (part_eq (n := l.length) (by omega) h4 h2 h2 (by omega)).2
  exact (Sz.div (mul_ne hu hv) (z1.mul z1) (z2.mul z3)).mono (by omega)
theorem ratC_le {a : Rat} (h : a ≤ 1) : ratC a 1 ≤ 0 := by
  unfold ratC
  by_cases h1 : a < 1
  · rw [if_pos h1]; decide
  · rw [if_neg h1, if_neg (by grind)]; decide
theorem int_lt (k : Int) : ((k : Rat) < 0) ↔ k < 0 := Rat.intCast_neg_iff
theorem int_ne {k : Int} (h : k ≠ 0) : (k : Rat) ≠ 0 := fun e => h (Rat.intCast_eq_zero_iff.1 e)

theorem laws_loop {l : Rl} (hl : l.length ≤ 8) (hz : SzL 9 l) (by_ k m : Int) (hk : -5 ≤ k ∧ k ≤ 5) (hm : s_tablefinderkit_Mod by_ 9 = some m) (hm2 : 0 ≤ m ∧ m < 9) :
    wp (s_tablefinderlaw25_CorrelationLaws_l1 big by_ k ((l.map fP).length : Int) 0 (l.map fP) [] [] []) (fun x => x = (k, l.map fP, (l.map fun p => (p.2, p.1)).map fP, (l.map (mv (k : Rat) ((m - 4 : Int) : Rat))).map fP, l.reverse.map fP)) := by
  have hlen : (l.map fP).length = l.length := List.length_map _
  refine uptoS_wp s_tablefinderlaw25_CorrelationLaws_l1_FB l.length (by omega) (fun i (s : Rl × Rl × Rl) => (by_, k, (l.length : Int), i, l.map fP, s.1.map fP, s.2.1.map fP, s.2.2.map fP))
    (fun i s => s.1 = (l.take i).map (fun p => (p.2, p.1)) ∧ s.2.1 = (l.take i).map (mv (k : Rat) ((m - 4 : Int) : Rat)) ∧ s.2.2 = l.reverse.take i) ([], [], []) ⟨rfl, rfl, rfl⟩ ?_ ?_ |> fun h => by rw [hlen]; exact h
  · rintro rec i ⟨u, v, w⟩ hi ⟨hu, hv, hw⟩ ih
    dsimp only at hu hv hw ih
    have hp := hz _ (List.getElem_mem hi)
    have hj : l.length - 1 - i < l.length := by omega
    have e1 : ((l.length : Int) - 1 - (i : Int)) = ((l.length - 1 - i : Nat) : Int) := by omega
    have lu : u.length = i := by rw [hu, List.length_map, List.length_take]; omega
    have lv : v.length = i := by rw [hv, List.length_map, List.length_take]; omega
    have lw : w.length = i := by rw [hw, List.length_take, List.length_reverse]; omega
    unfold s_tablefinderlaw25_CorrelationLaws_l1_B s_tablefinderlaw25_CorrelationLaws_l1_b
    dsimp only
    have zk : Sz 3 (k : Rat) := sz_int (by omega) (by decide)
    have zm : Sz 3 ((m - 4 : Int) : Rat) := sz_int (by omega) (by decide)
    rw [wp_bif]
    refine ⟨fun _ => ?_, fun h => by have := of_decide_eq_false h; omega⟩
    rw [wp_chk, wp_bind, Int.toNat_natCast, hlen, List.getElem?_map, List.getElem?_eq_getElem hi, Option.map_some, wp_some]
    rw [wp_chk, wp_chk, wp_chk, wp_chk, int23_eq k (by omega) (by omega), wp_bind, wp_some]
    refine ⟨inR_ok ⟨by omega, by omega⟩, by decide, by decide, room_ok (by simp only [List.length_map, List.length_singleton]; omega), by decide, ?_⟩
    show wp ((s_tablefinderref23_Mul (fOf l[i].1) (fOf (k : Rat))).bind _) _
    rw [mul23_eq hp.1 zk (by omega), wp_bind, wp_some, hm, wp_bind, wp_some, wp_chk, int23_eq (m - 4) (by omega) (by omega), wp_bind, wp_some, add23_eq (hp.1.mul zk) zm (by omega), wp_bind, wp_some]
    rw [wp_chk, wp_chk, wp_chk, wp_chk, wp_chk, e1, Int.toNat_natCast, wp_bind, List.getElem?_map, List.getElem?_eq_getElem hj, Option.map_some, wp_some, wp_chk, wp_chk]
    refine ⟨inK_i64 (by omega), by decide, room_ok (by simp only [List.length_map, List.length_singleton]; omega), inK_i64 (by omega), inK_i64 (by omega), inR_ok ⟨by omega, by omega⟩, room_ok (by simp only [List.length_map, List.length_singleton]; omega), inK_i64 (by omega), ?_⟩
    have := ih (u ++ [(l[i].2, l[i].1)], v ++ [mv (k : Rat) ((m - 4 : Int) : Rat) l[i]], w ++ [l[l.length - 1 - i]]) ⟨?_, ?_, ?_⟩
    · dsimp only at this
      rw [List.map_append, List.map_append, List.map_append] at this
      exact this
    · rw [hu, List.take_succ_eq_append_getElem hi, List.map_append]; rfl
    · rw [hv, List.take_succ_eq_append_getElem hi, List.map_append]; rfl
    · rw [hw, List.take_succ_eq_append_getElem (by rw [List.length_reverse]; exact hi), List.getElem_reverse]
  · rintro rec ⟨u, v, w⟩ ⟨hu, hv, hw⟩
    dsimp only at hu hv hw
    unfold s_tablefinderlaw25_CorrelationLaws_l1_B s_tablefinderlaw25_CorrelationLaws_l1_b
    dsimp only
    rw [wp_bif]
    refine ⟨fun h => by have := of_decide_eq_true h; omega, fun _ => ?_⟩
    rw [wp_some, hu, hv, hw, List.take_length, List.take_of_length_le (by rw [List.length_reverse]; omega)]

theorem laws_end {l : Rl} (hl : l.length ≤ 8) (hz : SzL 9 l) (k m : Int) (hk : -5 ≤ k ∧ k ≤ 5) (hk0 : k ≠ 0) (hm2 : 0 ≤ m ∧ m < 9) :
    s_tablefinderlaw25_CorrelationLaws_k2 k (l.map fP) ((l.map fun p => (p.2, p.1)).map fP) ((l.map (mv (k : Rat) ((m - 4 : Int) : Rat))).map fP) (l.reverse.map fP) = some true := by
  have zk : Sz 3 (k : Rat) := sz_int (by omega) (by decide)
  have zm : Sz 3 ((m - 4 : Int) : Rat) := sz_int (by omega) (by decide)
  have z1 : SzL 9 (l.map fun p => (p.2, p.1)) := fun p hp => by
    obtain ⟨q, hq, rfl⟩ := List.mem_map.1 hp
    exact ⟨(hz q hq).2, (hz q hq).1⟩
  have z2 : SzL 16 (l.map (mv (k : Rat) ((m - 4 : Int) : Rat))) := fun p hp => by
    obtain ⟨q, hq, rfl⟩ := List.mem_map.1 hp
    exact ⟨((hz q hq).1.mul zk).add zm, (hz q hq).2.mono (by omega)⟩
  have z3 : SzL 9 l.reverse := fun p hp => hz p (List.mem_reverse.1 hp)
  have l1 : (l.map fun p => (p.2, p.1)).length ≤ 20 := by rw [List.length_map]; omega
  have l2 : (l.map (mv (k : Rat) ((m - 4 : Int) : Rat))).length ≤ 20 := by rw [List.length_map]; omega
  have l3 : l.reverse.length ≤ 20 := by rw [List.length_reverse]; omega
  have e1 := square_eq l1 (by decide) z1
  have e2 := square_eq l2 (by decide) z2
  have e3 := square_eq l3 (by decide) z3
  rw [sq_turn] at e1
  rw [sq_moved _ _ (int_ne hk0)] at e2
  rw [sq_rev] at e3
  have e0 := square_eq (by omega) (by decide) hz
  rcases hS : sqR l with ⟨s, a, ok⟩
  rw [hS] at e0 e1 e2 e3
  dsimp only at e2
  unfold s_tablefinderlaw25_CorrelationLaws_k2
  rw [corOf_eq (by omega) (by decide) hz, Option.bind_some, e0, Option.bind_some]
  dsimp only
  rw [corOf_eq l1 (by decide) z1, Option.bind_some, e1, Option.bind_some]
  dsimp only
  rw [corOf_eq l2 (by decide) z2, Option.bind_some, e2, Option.bind_some]
  dsimp only
  rw [corOf_eq l3 (by decide) z3, Option.bind_some, e3, Option.bind_some]
  dsimp only
  rw [beq_self_eq_true, Bool.not_true, cond_false, cond_false]
  unfold s_tablefinderlaw25_CorrelationLaws_j3
  rw [cond_false]
  unfold sqR at hS
  by_cases h : l.length < 3 ∨ uR l = 0 ∨ vR l = 0
  · rw [if_pos h] at hS
    cases hS
    rw [awake25]; rfl
  · have hu : uR l ≠ 0 := fun e => h (.inr (.inl e))
    have hv : vR l ≠ 0 := fun e => h (.inr (.inr e))
    have hs := sc_sz (by omega) (by decide) hz hu hv
    have hq := hs.wq (by decide)
    have e : cR l * cR l / (uR l * vR l) = scR l := rfl
    have q0 := sz_zero.wq (by decide)
    have q1 := sz_one.wq (by decide)
    rw [if_neg h, e] at hS
    cases hS
    rw [Bool.not_true, cond_false]
    have key : ∀ sg : Int, (if (k : Rat) < 0 then -ratC (cR l) 0 else ratC (cR l) 0) = sg * ratC (cR l) 0 → (-1 ≤ sg ∧ sg ≤ 1) → s_tablefinderlaw25_CorrelationLaws_j4 (ratC (cR l) 0) (ratC (cR l) 0) (if (k : Rat) < 0 then -ratC (cR l) 0 else ratC (cR l) 0) (ratC (cR l) 0) sg (fOf (scR l)) (fOf (scR l)) (fOf (scR l)) (fOf (scR l)) = some true := fun sg hsg hb => by
      have hr : -1 ≤ ratC (cR l) 0 ∧ ratC (cR l) 0 ≤ 1 := by
        unfold ratC
        split
        · decide
        · split <;> decide
      have hin : -1 ≤ sg * ratC (cR l) 0 ∧ sg * ratC (cR l) 0 ≤ 1 := by
        rw [← hsg]; split <;> omega
      unfold s_tablefinderlaw25_CorrelationLaws_j4 s_tablefinderlaw25_CorrelationLaws_j5
      rw [same23_eq _ _ hq hq, decide_eq_true rfl, Option.bind_some, cond_true, Option.bind_some, cond_true, Option.bind_some, cond_true, beq_self_eq_true, cond_true, inK_i64 (by omega), chk_true, hsg, beq_self_eq_true, cond_true, cond_true, zero23_eq, Option.bind_some, less23_eq hq q0, Option.bind_some, decide_eq_false (Rat.not_lt.2 (sc_nonneg hu hv)), Bool.not_false, cond_true, int1_eq, Option.bind_some, cmpF_eq hq q1, Option.bind_some, decide_eq_true (ratC_le (sc_le hu hv)), cond_true, Option.bind_some, same23_eq _ _ hq q0, Option.bind_some, ratC_zero, decide_eq_decide.2 (sc_zero hu hv).symm, beq_self_eq_true, cond_true, awake25, Option.bind_some]
    by_cases hn : k < 0
    · rw [decide_eq_true hn, cond_true]
      exact key (-1) (by rw [if_pos ((int_lt k).2 hn)]; omega) (by decide)
    · rw [decide_eq_false hn, cond_false]
      exact key 1 (by rw [if_neg (fun h => hn ((int_lt k).1 h))]; omega) (by decide)

theorem correlationLaws_law (t : List Int) (by_ times : Int) : s_tablefinderlaw25_CorrelationLaws t by_ times = some true := by
  refine eq_of_wp ?_
  unfold s_tablefinderlaw25_CorrelationLaws s_tablefinderkit_Light
  rw [wp_bind, wp_some, wp_bif]
  refine ⟨fun _ => by rw [awake25, wp_bind, wp_some, wp_some], fun hl => ?_⟩
  simp only [Bool.not_eq_false', decide_eq_true_eq] at hl
  unfold s_tablefinderkit_Roll
  rw [wp_bind, wp_some, wp_bind]
  refine wp_mono (pairs_wp (d := ⟨t, 0⟩) ⟨by simp, by simp, by simp only; omega⟩) ?_
  rintro ⟨l', d'⟩ ⟨l, hll, hlen, hz⟩
  dsimp only at hll ⊢
  subst hll
  rw [wp_bind]
  refine wp_mono (mod_wp times (m := 5) (by omega)) fun q hq => ?_
  obtain ⟨m, hm, hm2⟩ := mod_wp by_ (m := 9) (by omega)
  have fin : ∀ k : Int, (-5 ≤ k ∧ k ≤ 5) → k ≠ 0 → wp (s_tablefinderlaw25_CorrelationLaws_j1 by_ k (l.map fP) [] [] []) (fun x => x = true) := fun k hk hk0 => by
    unfold s_tablefinderlaw25_CorrelationLaws_j1
    rw [wp_bind]
    refine wp_mono (laws_loop hlen hz by_ k m hk hm hm2) ?_
    rintro x rfl
    dsimp only
    rw [laws_end hlen hz k m hk hk0 hm2, wp_some]
  rw [wp_chk, wp_bif]
  refine ⟨inK_i64 (by omega), fun _ => ?_, fun _ => fin _ (by omega) (by omega)⟩
  rw [wp_chk]
  exact ⟨inK_i64 (by omega), fin _ (by omega) (by omega)⟩
end Go.Proofs
