/- The law CorrelationLines. -/
import Derived.Test.YtahbkngofdpehaaDoorCnNX3b
set_option linter.unusedVariables false
set_option linter.unusedSimpArgs false
set_option linter.unusedSectionVars false
namespace Go.Proofs
open Go Eng

theorem sc_sz {b : Nat} {l : Rl} (hl : l.length ≤ 20) (hb : b ≤ 20) (h : SzL b l) (hu : uR l ≠ 0) (hv : vR l ≠ 0) : Sz 6676 (scR l) := by
  have c1 : l.length * (b + 1) ≤ 20 * 21 := Nat.mul_le_mul hl (by omega)
  have c2 : l.length * (b + b + 1) ≤ 20 * 41 := Nat.mul_le_mul hl (by omega)
  have h1 := (sR_sz (f := fun p => p.1) (fun p h _ => h) _ l rfl h).mono (show _ ≤ 421 by omega)
  have h2 := (sR_sz (f := fun p => p.2) (fun p _ h => h) _ l rfl h).mono (show _ ≤ 421 by omega)
  have h3 := (sR_sz (f := fun p => p.1 * p.1) (fun p h _ => h.mul h) _ l rfl h).mono (show _ ≤ 821 by omega)
  have h4 := (sR_sz (f := fun p => p.2 * p.2) (fun p _ h => h.mul h) _ l rfl h).mono (show _ ≤ 821 by omega)
  have h5 := (sR_sz (f := fun p => p.1 * p.2) (fun p h h' => h.mul h') _ l rfl h).mono (show _ ≤ 821 by omega)
  have z1 : Sz 1669 (cR l) := (part_eq (n := l.length) (by omega) h5 h1 h2 (by omega)).2
  have z2 : Sz 1669 (uR l) := (part_eq (n := l.length) (by omega) h3 h1 h1 (by omega)).2
  have z3 : Sz 1669 (vR l) := (part_eq (n := l.length) (by omega) h4 h2 h2 (by omega)).2
  exact (Sz.div (mul_ne hu hv) (z1.mul z1) (z2.mul z3)).mono (by omega)

theorem corOf2_eq {b : Nat} {l : Rl} (hl : l.length ≤ 20) (hb : b ≤ 20) (h : SzL b l) : s_correlation_Of_2_w (l.map fP) = some (mR l, l.map fP) := by
  have key : s_correlation_Of_2 (l.map fP) = some (mR l, l.map fP) := by
    have hml : (l.map fP).length = l.length := List.length_map _
    refine eq_of_wp ?_
    unfold s_correlation_Of_2
    rw [none_eq, wp_bind, wp_some, wp_bind, hml]
    refine wp_mono (uptoS_wp s_correlation_Of_2_l1_FB l.length (by omega) (fun i (m : G_api_Moments) => ((l.length : Int), i, l.map fP, 0, false, false, false, false, false, false, false, false, false, false, m, [], [], [], [], [], [], [], [], [], [])) (fun i m => m = mR (l.take i)) (Q := fun y => ∃ a1 b1 b2 b3 b4 b5 b6 b7 b8 b9 b10 c1 c2 c3 c4 c5 c6 c7 c8 c9 c10, y = (l.map fP, a1, b1, b2, b3, b4, b5, b6, b7, b8, b9, b10, mR l, c1, c2, c3, c4, c5, c6, c7, c8, c9, c10)) (mR []) rfl ?_ ?_) ?_
    · rintro rec i m hi rfl ih
      unfold s_correlation_Of_2_l1_B s_correlation_Of_2_l1_b
      dsimp only
      rw [wp_bif]
      refine ⟨fun _ => ?_, fun h => by have := of_decide_eq_false h; omega⟩
      rw [wp_chk, wp_bind, Int.toNat_natCast, hml, List.getElem?_map, List.getElem?_eq_getElem hi, Option.map_some, wp_some, wp_chk, wp_chk, corAdd_eq (by rw [List.length_take]; omega) hb (fun p hp => h p (List.mem_of_mem_take hp)) (h _ (List.getElem_mem hi)), wp_bind, wp_some, wp_chk]
      refine ⟨inR_ok ⟨by omega, by omega⟩, by decide, by decide, inK_i64 (by omega), ih _ ?_⟩
      rw [List.take_succ_eq_append_getElem hi]
    · rintro rec m rfl
      unfold s_correlation_Of_2_l1_B s_correlation_Of_2_l1_b
      dsimp only
      rw [wp_bif]
      refine ⟨fun h => by have := of_decide_eq_true h; omega, fun _ => ?_⟩
      rw [wp_some, List.take_length]
      exact ⟨_, _, _, _, _, _, _, _, _, _, _, _, _, _, _, _, _, _, _, _, _, rfl⟩
    · rintro y ⟨a1, b1, b2, b3, b4, b5, b6, b7, b8, b9, b10, c1, c2, c3, c4, c5, c6, c7, c8, c9, c10, rfl⟩
      exact wp_some.2 rfl
  unfold s_correlation_Of_2_w
  rw [key, Option.bind_some, decide_eq_true rfl]; rfl

def lnP (k m x : Int) : Rat × Rat := ((x : Rat), ((k * x + m : Int) : Rat))
theorem lnP_on (k m : Int) (xs : List Int) : OnL (k : Rat) (m : Rat) (xs.map (lnP k m)) := fun p hp => by
  obtain ⟨x, _, rfl⟩ := List.mem_map.1 hp
  show ((k * x + m : Int) : Rat) = (x : Rat) * (k : Rat) + (m : Rat)
  rw [Rat.intCast_add, Rat.intCast_mul, Rat.mul_comm]
abbrev I8 (xs : List Int) : Prop := ∀ x ∈ xs, -128 ≤ x ∧ x ≤ 127
theorem mul_k {k x : Int} (hk : -7 ≤ k ∧ k ≤ 7) (hx : -128 ≤ x ∧ x ≤ 127) : -896 ≤ k * x ∧ k * x ≤ 896 := by
  have h : (k * x).natAbs ≤ 896 := by
    rw [Int.natAbs_mul]
    exact (Nat.mul_le_mul (show k.natAbs ≤ 7 by omega) (show x.natAbs ≤ 128 by omega))
  omega
theorem lnP_sz {k m : Int} {xs : List Int} (hx : I8 xs) (hk : -7 ≤ k ∧ k ≤ 7) (hm : 0 ≤ m ∧ m < 100) : SzL 12 (xs.map (lnP k m)) := fun p hp => by
  obtain ⟨x, h, rfl⟩ := List.mem_map.1 hp
  have h1 := hx x h
  have h2 := mul_k hk h1
  exact ⟨(sz_int (k := 8) (by omega) (by decide)).mono (by omega), (sz_int (k := 10) (by omega) (by decide)).mono (by omega)⟩
def difB (xs : List Int) (i : Nat) : Bool := (xs.take i).any fun x => x != xs.headD 0

theorem lines_loop {xs : List Int} (hl : xs.length ≤ 12) (hx : I8 xs) (off k m : Int) (beside : Bool) (hk : -7 ≤ k ∧ k ≤ 7) (hm : s_tablefinderkit_Mod off 100 = some m) (hm2 : 0 ≤ m ∧ m < 100) :
    wp (s_tablefinderlaw25_CorrelationLines_l1 big xs off beside k false xs (xs.length : Int) 0 []) (fun y => y = (xs, off, beside, k, difB xs xs.length, (xs.map (lnP k m)).map fP)) := by
  refine uptoS_wp s_tablefinderlaw25_CorrelationLines_l1_FB xs.length (by omega) (fun i (s : Bool × Rl) => (xs, off, beside, k, s.1, xs, (xs.length : Int), i, s.2.map fP))
    (fun i s => s.1 = difB xs i ∧ s.2 = (xs.take i).map (lnP k m)) (false, []) ⟨rfl, rfl⟩ ?_ ?_
  · rintro rec i ⟨d, l⟩ hi ⟨hd, hll⟩ ih
    dsimp only at hd hll ih
    have h1 := hx _ (List.getElem_mem hi)
    have h2 := mul_k hk h1
    have ll : l.length = i := by rw [hll, List.length_map, List.length_take]; omega
    have j2 : ∀ d', d' = difB xs (i + 1) → wp (s_tablefinderlaw25_CorrelationLines_j2 (fun xs off beside k different t28 t29 t30 l => rec (xs, off, beside, k, different, t28, t29, t30, l)) xs off beside k d' xs[i] xs (xs.length : Int) (i : Int) (l.map fP)) (fun y => y = (xs, off, beside, k, difB xs xs.length, (xs.map (lnP k m)).map fP)) := fun d' hd' => by
      unfold s_tablefinderlaw25_CorrelationLines_j2
      rw [wrap_i64 (by omega), int23_eq _ (by omega) (by omega), wp_bind, wp_some, wp_chk, hm, wp_bind, wp_some, wp_chk, int23_eq _ (by omega) (by omega), wp_bind, wp_some, wp_chk, wp_chk]
      refine ⟨inK_i64 (by omega), inK_i64 (by omega), room_ok (by simp only [List.length_map, List.length_singleton]; omega), inK_i64 (by omega), ?_⟩
      have := ih (d', l ++ [lnP k m xs[i]]) ⟨hd', by rw [hll, List.take_succ_eq_append_getElem hi, List.map_append]; rfl⟩
      dsimp only at this
      rw [List.map_append] at this
      exact this
    unfold s_tablefinderlaw25_CorrelationLines_l1_B s_tablefinderlaw25_CorrelationLines_l1_b
    dsimp only
    have h0 : 0 < xs.length := by omega
    have eh : xs[0] = xs.headD 0 := by cases xs with | nil => simp at h0 | cons a b => rfl
    have ed : difB xs (i + 1) = (difB xs i || xs[i] != xs.headD 0) := by
      unfold difB
      rw [List.take_succ_eq_append_getElem hi, List.any_append]; simp
    rw [wp_bif]
    refine ⟨fun _ => ?_, fun h => by have := of_decide_eq_false h; omega⟩
    rw [idx_nat hi, wp_bind, wp_some, wp_bif]
    refine ⟨fun h => j2 true ?_, fun h => ?_⟩
    · rw [ed, ← hd, h, Bool.true_or]
    · rw [show (0 : Int) = ((0 : Nat) : Int) from rfl, idx_nat h0, wp_bind, wp_some]
      refine j2 _ ?_
      rw [ed, ← hd, h, Bool.false_or, eh]
  · rintro rec ⟨d, l⟩ ⟨hd, hll⟩
    dsimp only at hd hll
    unfold s_tablefinderlaw25_CorrelationLines_l1_B s_tablefinderlaw25_CorrelationLines_l1_b
    dsimp only
    rw [wp_bif]
    refine ⟨fun h => by have := of_decide_eq_true h; omega, fun _ => ?_⟩
    rw [wp_some, hd, hll, List.take_length]

theorem dif_u {xs : List Int} (k m : Int) : difB xs xs.length = true ↔ uR (xs.map (lnP k m)) ≠ 0 := by
  unfold difB
  rw [List.take_length]
  constructor
  · intro h e
    obtain ⟨x, hx, hne⟩ := List.any_eq_true.1 h
    cases xs with
    | nil => simp at hx
    | cons a b =>
      have := u_zero e (lnP k m x) (List.mem_map_of_mem hx) (lnP k m a) (List.mem_map_of_mem (by simp))
      have h2 : (x : Rat) = (a : Rat) := this
      rw [Rat.intCast_inj] at h2
      rw [h2] at hne
      simp at hne
  · intro h
    refine Decidable.byContradiction fun hn => h (u_alike ((xs.headD 0 : Int) : Rat) fun p hp => ?_)
    obtain ⟨x, hx, rfl⟩ := List.mem_map.1 hp
    have : x = xs.headD 0 := Decidable.byContradiction fun hne => hn (List.any_eq_true.2 ⟨x, hx, by simpa using hne⟩)
    show (x : Rat) = _
    rw [← this]
theorem max_k {k : Int} (hk : -7 ≤ k ∧ k ≤ 7) (hk0 : k ≠ 0) : ((if (0 - k) > k then (0 - k) else k) ≠ 0) ∧ Int.tdiv k (if (0 - k) > k then (0 - k) else k) = if k < 0 then -1 else 1 := by
  by_cases h : k < 0
  · rw [if_pos (by omega), if_pos h]
    refine ⟨by omega, ?_⟩
    have e : k = -(0 - k) := by omega
    conv => lhs; lhs; rw [e]
    rw [Int.neg_tdiv, Int.tdiv_self (by omega)]
  · rw [if_neg (by omega), if_neg h]
    exact ⟨hk0, Int.tdiv_self hk0⟩

theorem lines_beside {xs : List Int} (hl : xs.length ≤ 12) (h3 : ¬ xs.length < 3) (hx : I8 xs) (off k m : Int) (hk : -7 ≤ k ∧ k ≤ 7) (hm : s_tablefinderkit_Mod off 100 = some m) (hm2 : 0 ≤ m ∧ m < 100) (hu : uR (xs.map (lnP k m)) ≠ 0) (beside : Bool) (s : G_api_Fraction) :
    s_tablefinderlaw25_CorrelationLines_j5 xs off beside k false ((xs.map (lnP k m)).map fP) s = some true := by
  unfold s_tablefinderlaw25_CorrelationLines_j5
  rw [cond_false]
  cases beside with
  | false => rw [cond_false, awake25]; rfl
  | true =>
    cases xs with
    | nil => simp at h3
    | cons a b =>
      have h1 := hx a (by simp)
      have h2 := mul_k hk h1
      have z2 : Sz 10 ((k * a + m : Int) : Rat) := sz_int (by omega) (by decide)
      have hlen : (((a :: b).map (lnP k m)).map fP).length = b.length + 1 := by simp
      simp only [List.length_cons] at hl h3
      have e0 : (((a :: b).map (lnP k m)).map fP)[((0 : Int)).toNat]? = some (fP (lnP k m a)) := rfl
      rw [cond_true, hlen, inR_ok ⟨by omega, by omega⟩, chk_true, inR_ok ⟨by omega, by omega⟩, chk_true, e0, Option.bind_some, int1_eq, Option.bind_some]
      show ((s_tablefinderref23_Add (fOf ((k * a + m : Int) : Rat)) (fOf 1)).bind _) = _
      have ei : idx (a :: b) 0 = some a := rfl
      rw [add23_eq z2 sz_one (by omega), Option.bind_some, chk_true, chk_true, Option.bind_some, ei, Option.bind_some, wrap_i64 (by omega), int23_eq _ (by omega) (by omega), Option.bind_some, Option.bind_some, wrap_i64 (by omega), inK_i64 (by omega), chk_true, hm, Option.bind_some, inK_i64 (by omega), chk_true, int23_eq _ (by omega) (by omega), Option.bind_some]
      generalize hL : (lnP k m a).1 = x0
      have er : ((((a :: b).map (lnP k m)).map fP).set (((0 : Int)).toNat) (G_arr2_G_api_Fraction.mk (fP (lnP k m a)).e0 (fOf (((k * a + m : Int) : Rat) + 1)))) ++ [G_arr2_G_api_Fraction.mk (fOf (a : Rat)) (fOf ((k * a + m : Int) : Rat))] = (((a : Rat), ((k * a + m : Int) : Rat) + 1) :: b.map (lnP k m) ++ [((a : Rat), ((k * a + m : Int) : Rat))]).map fP := by
        simp [fP, lnP]
      have hz : SzL 12 (((a : Rat), ((k * a + m : Int) : Rat) + 1) :: b.map (lnP k m) ++ [((a : Rat), ((k * a + m : Int) : Rat))]) := fun p hp => by
        have za : Sz 12 (a : Rat) := (sz_int (k := 8) (by omega) (by decide)).mono (by omega)
        simp only [List.cons_append, List.mem_cons, List.mem_append, List.not_mem_nil, or_false] at hp
        rcases hp with rfl | hp | rfl
        · exact ⟨za, z2.add sz_one⟩
        · exact lnP_sz (fun x h => hx x (by simp [h])) hk hm2 p hp
        · exact ⟨za, z2.mono (by omega)⟩
      have ll : (((a : Rat), ((k * a + m : Int) : Rat) + 1) :: b.map (lnP k m) ++ [((a : Rat), ((k * a + m : Int) : Rat))]).length = b.length + 2 := by simp
      rw [er]
      have hu2 : uR (((a : Rat), ((k * a + m : Int) : Rat) + 1) :: b.map (lnP k m) ++ [((a : Rat), ((k * a + m : Int) : Rat))]) ≠ 0 := fun e => by
        refine hu (u_alike (a : Rat) fun p hp => ?_)
        rcases List.mem_cons.1 hp with rfl | hp
        · rfl
        · exact u_zero e p (by simp [hp]) ((a : Rat), ((k * a + m : Int) : Rat)) (by simp)
      obtain ⟨sg, hsq, hlt⟩ := sq_beside (p := ((a : Rat), ((k * a + m : Int) : Rat) + 1)) (q := ((a : Rat), ((k * a + m : Int) : Rat))) (by rw [ll]; omega) hu2 (by simp) (by simp) rfl (fun h => by dsimp only at h; grind)
      have hv2 : vR (((a : Rat), ((k * a + m : Int) : Rat) + 1) :: b.map (lnP k m) ++ [((a : Rat), ((k * a + m : Int) : Rat))]) ≠ 0 := fun e => by
        unfold sqR at hsq
        rw [if_pos (.inr (.inr e))] at hsq
        exact Bool.false_ne_true (congrArg (fun x => x.2.2) hsq)
      have hqs := (sc_sz (by rw [ll]; omega) (by decide) hz hu2 hv2).wq (by decide)
      have hc2 := corOf2_eq (by rw [ll]; omega) (by decide) hz
      have hs2 := square_eq (by rw [ll]; omega) (by decide) hz
      rw [hsq] at hs2
      generalize ((a : Rat), ((k * a + m : Int) : Rat) + 1) :: b.map (lnP k m) ++ [((a : Rat), ((k * a + m : Int) : Rat))] = L at *
      rw [room_ok (by simp only [List.length_set, List.length_map, List.length_cons, List.length_nil]; omega), chk_true, hc2, Option.bind_some]
      dsimp only
      rw [hs2, Option.bind_some]
      dsimp only
      rw [cond_true, Option.bind_some, less23_eq hqs (sz_one.wq (by decide)), decide_eq_true hlt, Option.bind_some, cond_true, awake25]
      rfl

theorem lines_end {xs : List Int} (hl : xs.length ≤ 12) (hx : I8 xs) (off k m : Int) (beside : Bool) (hk : -7 ≤ k ∧ k ≤ 7) (hk0 : k ≠ 0) (hm : s_tablefinderkit_Mod off 100 = some m) (hm2 : 0 ≤ m ∧ m < 100) :
    s_tablefinderlaw25_CorrelationLines_k3 xs off beside k (difB xs xs.length) ((xs.map (lnP k m)).map fP) = some true := by
  have hz := lnP_sz hx hk hm2
  have ll : (xs.map (lnP k m)).length ≤ 20 := by rw [List.length_map]; omega
  have hs := square_eq ll (by decide) hz
  have hne : (k : Rat) ≠ 0 := fun e => hk0 (Rat.intCast_eq_zero_iff.1 e)
  rw [sq_line hne (lnP_on k m xs), List.length_map] at hs
  have hd := dif_u (xs := xs) k m
  unfold s_tablefinderlaw25_CorrelationLines_k3
  rw [corOf2_eq ll (by decide) hz, Option.bind_some]
  dsimp only
  rw [hs]
  have good : xs.length ≥ 3 → uR (xs.map (lnP k m)) ≠ 0 → s_tablefinderlaw25_CorrelationLines_j4 xs off beside k (if (k : Rat) < 0 then -1 else 1) true false ((xs.map (lnP k m)).map fP) (fOf 1) = some true := fun h3 hu => by
    obtain ⟨m1, m2⟩ := max_k hk hk0
    have sg : (if (k : Rat) < 0 then (-1 : Int) else 1) = if k < 0 then -1 else 1 := ite_iff Rat.intCast_neg_iff _ _
    have hq := sz_one.wq (by decide)
    unfold s_tablefinderlaw25_CorrelationLines_j4
    rw [cond_false, Bool.not_true, cond_false, int1_eq, Option.bind_some, same23_eq _ _ hq hq, decide_eq_true rfl, Option.bind_some, Bool.not_true, cond_false, inK_i64 (by omega), chk_true, decide_eq_true m1, chk_true, m2, sg, bne_self_eq_false, inK_i64 (by split <;> omega), chk_true]
    exact lines_beside hl (by omega) hx off k m hk hm hm2 hu beside _
  have bad : ∀ sg s, s_tablefinderlaw25_CorrelationLines_j4 xs off beside k sg false false ((xs.map (lnP k m)).map fP) s = some true := fun sg s => by
    unfold s_tablefinderlaw25_CorrelationLines_j4
    rw [cond_false, Bool.not_false, cond_true, awake25]; rfl
  by_cases hu : uR (xs.map (lnP k m)) = 0
  · rw [if_pos (.inr hu), Option.bind_some]
    dsimp only
    have : difB xs xs.length = false := by
      rw [← Bool.not_eq_true, hd]; exact fun h => h hu
    rw [this, cond_false]
    exact bad _ _
  · rw [hd.2 hu]
    by_cases h3 : xs.length < 3
    · rw [if_pos (.inl h3), Option.bind_some]
      dsimp only
      rw [cond_true, decide_eq_false (by omega)]
      exact bad _ _
    · rw [if_neg (fun h => h.elim h3 hu), Option.bind_some]
      dsimp only
      rw [cond_true, decide_eq_true (by omega)]
      exact good (by omega) hu

theorem correlationLines_law (xs : List Int) (slope off : Int) (beside : Bool) (hx : ∀ x ∈ xs, -128 ≤ x ∧ x ≤ 127) : s_tablefinderlaw25_CorrelationLines xs slope off beside = some true := by
  refine eq_of_wp ?_
  unfold s_tablefinderlaw25_CorrelationLines
  rw [wp_bif]
  refine ⟨fun _ => by rw [awake25, wp_bind, wp_some, wp_some], fun hl => ?_⟩
  have hl := of_decide_eq_false hl
  rw [wp_bind]
  refine wp_mono (mod_wp slope (m := 7) (by omega)) fun q hq => ?_
  obtain ⟨m, hm, hm2⟩ := mod_wp off (m := 100) (by omega)
  have fin : ∀ k : Int, (-7 ≤ k ∧ k ≤ 7) → k ≠ 0 → wp (s_tablefinderlaw25_CorrelationLines_j1 xs off beside k) (fun x => x = true) := fun k hk hk0 => by
    unfold s_tablefinderlaw25_CorrelationLines_j1
    rw [wp_bind]
    refine wp_mono (lines_loop (by omega) hx off k m beside hk hm hm2) ?_
    rintro x rfl
    dsimp only
    rw [lines_end (by omega) hx off k m beside hk hk0 hm hm2, wp_some]
  rw [wp_chk, wp_bif]
  refine ⟨inK_i64 (by omega), fun _ => ?_, fun _ => fin _ (by omega) (by omega)⟩
  rw [wp_chk]
  exact ⟨inK_i64 (by omega), fin _ (by omega) (by omega)⟩
end Go.Proofs
