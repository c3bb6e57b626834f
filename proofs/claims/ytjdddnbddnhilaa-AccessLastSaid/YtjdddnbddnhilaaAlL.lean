/- The plain law of AccessLast. -/
import Derived.Test.YtjdddnbddnhilaaAlS
import Derived.Test.YtjdddnbddnhilaaAlK
import Derived.KernelRfl
set_option linter.unusedVariables false
set_option linter.unusedSimpArgs false
set_option linter.unusedSectionVars false
namespace Go.Proofs
open Go Eng

theorem mod_wp (n : Int) {m : Int} (h : 1 ≤ m ∧ m ≤ 1000000) : wp (s_tablefinderkit_Mod n m) (fun r => 0 ≤ r ∧ r < m) := by
  have ha : -m < Int.tmod n m ∧ Int.tmod n m < m := ⟨Int.lt_tmod_of_pos n (by omega), Int.tmod_lt_of_pos n (by omega)⟩
  unfold s_tablefinderkit_Mod
  have h3 : decide (m < 1) = false := decide_eq_false (by omega)
  have h4 : decide (m ≠ 0) = true := decide_eq_true (by omega)
  rw [h3, cond_false, wp_chk, wp_chk, wp_chk, wp_some]
  exact ⟨h4, inK_i64 (by omega), h4, Int.tmod_nonneg _ (by omega), Int.tmod_lt_of_pos _ (by omega)⟩

def DiceOk (d : G_tablefinderkit_Dice) : Prop := 0 ≤ d.at_ ∧ d.at_ ≤ d.l.length ∧ d.l.length ≤ 500

theorem next_wp {d : G_tablefinderkit_Dice} (hd : DiceOk d) {n : Int} (hn : 1 ≤ n ∧ n ≤ 1000000) : wp (s_tablefinderkit_Dice_Next d n) (fun r => (0 ≤ r.1 ∧ r.1 < n) ∧ DiceOk r.2) := by
  unfold s_tablefinderkit_Dice_Next
  have hd0 := hd
  obtain ⟨h0, h1, h2⟩ := hd0
  rw [wp_bif]
  refine ⟨fun h => ?_, fun h => ?_⟩
  · rw [wp_some]; exact ⟨by simp only; omega, hd⟩
  · simp only [decide_eq_false_iff_not] at h
    simp only [wp_chk, wp_bind, wp_idx, wp_some]
    refine ⟨inK_i64 (by omega), inK_i64 (by omega), by omega, by omega, wp_mono (mod_wp _ hn) fun r hr => ⟨hr, ?_⟩⟩
    simp only [DiceOk]; omega

theorem word_wp {d : G_tablefinderkit_Dice} (hd : DiceOk d) {l : List Str} (hl : 1 ≤ l.length ∧ l.length ≤ 1000000) : wp (s_tablefinderkit_Dice_Word d l) (fun r => r.1 ∈ l ∧ DiceOk r.2) := by
  unfold s_tablefinderkit_Dice_Word
  rw [wp_bind]
  refine wp_mono (next_wp hd (by omega)) fun r hr => ?_
  obtain ⟨q, d'⟩ := r
  obtain ⟨⟨h0, h1⟩, h2⟩ := hr
  simp only [wp_bind, wp_idx, wp_some]
  exact ⟨h0, by omega, List.getElem_mem _, h2⟩

def uAll : G_api_Permission := ⟨[117], true, 0, -1⟩

theorem rules_wp {d : G_tablefinderkit_Dice} (hd : DiceOk d) : wp (s_tablefinderkit_Rules d) (fun r => r.1.length ≤ 5 ∧ (∃ t, r.1 = uAll :: t) ∧ DiceOk r.2) := by
  unfold s_tablefinderkit_Rules
  rw [wp_bind]
  refine wp_mono (next_wp hd (by omega)) fun r hr => ?_
  obtain ⟨k, d1⟩ := r
  obtain ⟨hk, hd1⟩ := hr
  dsimp only at hk hd1 ⊢
  rw [wp_bind]
  refine wp_mono (loop_wp (f := fun n s => s_tablefinderkit_Rules_l1 n s.1 s.2.1 s.2.2) (body := fun rec s => s_tablefinderkit_Rules_l1_b (fun a b c => rec (a, b, c)) s.1 s.2.1 s.2.2) (fun n s => rfl)
    (fun s => 0 ≤ s.1 ∧ s.1 + s.2.2.length ≤ 5 ∧ DiceOk s.2.1 ∧ ∃ t, s.2.2 = uAll :: t) (fun s => s.1.toNat) (fun x => x.2.length ≤ 5 ∧ (∃ t, x.2 = uAll :: t) ∧ DiceOk x.1) ?_ big (k, d1, [uAll]) ?_ (big_lt (by dsimp only; omega))) ?_
  · rintro rec ⟨k, d, l⟩ ⟨hk, hl, hd, t, ht⟩ ih
    dsimp only at hk hl hd ht ih ⊢
    unfold s_tablefinderkit_Rules_l1_b
    rw [wp_bif]
    refine ⟨fun h => ?_, fun h => ?_⟩
    · simp only [decide_eq_true_eq] at h
      rw [wp_bind]
      refine wp_mono (word_wp hd (by simp)) fun r hr => ?_
      obtain ⟨q, d1⟩ := r
      dsimp only
      rw [wp_bind]
      refine wp_mono (next_wp hr.2 (by omega)) fun r1 hr1 => ?_
      obtain ⟨q1, d2⟩ := r1
      dsimp only
      rw [wp_bind]
      refine wp_mono (next_wp hr1.2 (by omega)) fun r2 hr2 => ?_
      obtain ⟨q2, d3⟩ := r2
      dsimp only
      rw [wp_bind]
      refine wp_mono (next_wp hr2.2 (by omega)) fun r3 hr3 => ?_
      obtain ⟨q3, d4⟩ := r3
      obtain ⟨hq3, hd4⟩ := hr3
      dsimp only at hq3 hd4 ⊢
      simp only [wp_chk]
      refine ⟨inK_i64 (by omega), room_ok (by simp; omega), inK_i64 (by omega), ih _ ⟨by omega, by simp; omega, hd4, _, by rw [ht]; rfl⟩ (by dsimp only; omega)⟩
    · rw [wp_some]
      simp only [decide_eq_false_iff_not] at h
      exact ⟨by dsimp only; omega, ⟨t, ht⟩, hd⟩
  · exact ⟨by dsimp only; omega, by simp; omega, hd1, [], rfl⟩
  · rintro ⟨d2, l⟩ h
    unfold s_tablefinderkit_Rules_k1
    rw [wp_some]
    exact h

theorem awake_law : s_tablefinderlaw42_awake = some true := by kernel_rfl

def match1 (u : Str) (r : G_api_Ref) (p : G_api_Permission) : Bool := p.User == u && (p.Table == 0 || p.Table == r.Table) && (p.Column == -1 || p.Column == r.Column)
def mayS (l : List G_api_Permission) (u : Str) (r : G_api_Ref) : Bool := match l.reverse.find? (match1 u r) with | some p => p.Allow | none => false
theorem may_eq (l : List G_api_Permission) (u : Str) (r : G_api_Ref) : s_access_May l u r = some (mayS l u r) := rfl
theorem mayS_hit {l : List G_api_Permission} {u : Str} {r : G_api_Ref} {p : G_api_Permission} (h : match1 u r p = true) : mayS (l ++ [p]) u r = p.Allow := by
  unfold mayS; rw [List.reverse_append]; simp [h]
theorem mayS_miss {l l' : List G_api_Permission} {u : Str} {r : G_api_Ref} (h : ∀ p ∈ l', match1 u r p = false) : mayS (l ++ l') u r = mayS l u r := by
  unfold mayS
  rw [List.reverse_append, List.find?_append]
  have : l'.reverse.find? (match1 u r) = none := List.find?_eq_none.2 fun p hp => by rw [h p (List.mem_reverse.1 hp)]; simp
  rw [this]; rfl
theorem mayS_none {l : List G_api_Permission} {u : Str} {r : G_api_Ref} (h : ∀ p ∈ l, match1 u r p = false) : mayS l u r = false := by
  have := mayS_miss (l := []) (l' := l) h
  rw [List.nil_append] at this
  rw [this]; rfl
theorem find_filter {α : Type} (p q : α → Bool) (h : ∀ x, p x = true → q x = true) : ∀ l : List α, (l.filter q).find? p = l.find? p
  | [] => rfl
  | x :: l => by
    rw [List.filter_cons]
    cases hq : q x with
    | true => simp only [if_true, List.find?_cons, find_filter p q h l]
    | false =>
      have : p x = false := by cases hp : p x with | false => rfl | true => rw [h x hp] at hq; cases hq
      simp only [Bool.false_eq_true, if_false, List.find?_cons, this, find_filter p q h l]
theorem mayS_mine {l : List G_api_Permission} {u : Str} {r : G_api_Ref} : mayS (l.filter fun p => p.User == u) u r = mayS l u r := by
  unfold mayS
  rw [← List.filter_reverse, find_filter]
  intro x hx
  simp only [match1, Bool.and_eq_true] at hx
  exact hx.1.1

theorem take_all {α : Type} (l : List α) : l.take ((l.length : Int)).toNat = l := by simp

theorem filter_take_succ {α : Type} (p : α → Bool) {l : List α} {i : Nat} (h : i < l.length) : (l.take (i + 1)).filter p = (l.take i).filter p ++ (if p l[i] then [l[i]] else []) := by
  rw [List.take_succ_eq_append_getElem h, List.filter_append]
  cases hp : p l[i] <;> simp [hp]

theorem mine_loop (l : List G_api_Permission) (hl : l.length ≤ 5) (x : G_api_Ref) : wp (s_tablefinderlaw42_AccessLast_l1 big (l.length : Int) 0 l x []) (fun r => r = (l, x, l.filter fun p => p.User == [117])) := by
  refine loop_wp (f := fun n s => s_tablefinderlaw42_AccessLast_l1 n s.1 s.2.1 s.2.2.1 s.2.2.2.1 s.2.2.2.2) (body := fun rec s => s_tablefinderlaw42_AccessLast_l1_b (fun a b c d e => rec (a, b, c, d, e)) s.1 s.2.1 s.2.2.1 s.2.2.2.1 s.2.2.2.2) (fun n s => rfl)
    (fun s => ∃ i : Nat, i ≤ l.length ∧ s = ((l.length : Int), (i : Int), l, x, (l.take i).filter fun p => p.User == [117])) (fun s => l.length - s.2.1.toNat) _ ?_ big ((l.length : Int), 0, l, x, []) ⟨0, Nat.zero_le _, rfl⟩ (big_lt (by dsimp only; omega))
  rintro rec s ⟨i, hi, rfl⟩ ih
  dsimp only at ih ⊢
  unfold s_tablefinderlaw42_AccessLast_l1_b s_tablefinderlaw42_AccessLast_j1
  have hlen : ((l.take i).filter fun p => p.User == [117]).length ≤ 5 := Nat.le_trans (List.length_filter_le _ _) (by rw [List.length_take]; omega)
  simp only [wp_bif, wp_chk, wp_bind, wp_get, wp_some, decide_eq_true_eq, decide_eq_false_iff_not]
  refine ⟨fun h => ?_, fun h => ?_⟩
  · have hlt : i < l.length := by omega
    have hf := filter_take_succ (fun p : G_api_Permission => p.User == [117]) hlt
    refine ⟨inR_ok (by omega), by simpa using hlt, fun hu => ⟨room_ok (by simp only [List.length_singleton]; omega), inK_i64 (by omega), ih _ ⟨i + 1, by omega, ?_⟩ (by dsimp only; omega)⟩, fun hu => ⟨inK_i64 (by omega), ih _ ⟨i + 1, by omega, ?_⟩ (by dsimp only; omega)⟩⟩
    · simp only [Int.toNat_natCast] at hu ⊢
      rw [hf, hu]; simp
    · simp only [Int.toNat_natCast] at hu
      rw [hf, hu]; simp
  · have : i = l.length := by omega
    subst this
    simp

theorem inner_loop (l : List G_api_Permission) (hl : l.length ≤ 5) (x : G_api_Ref) (allow : Bool) (a b : Int) (mine : List G_api_Permission) (bs : List Bool) (ps : List G_api_Permission) (hps : ps.length ≤ 10) (h : ∀ p ∈ ps, match1 [117] x p = true ∧ p.Allow = allow) :
    wp (s_tablefinderlaw42_AccessLast_l3 big l allow a b (ps.length : Int) 0 x mine bs ps) (fun r => r = .brk (l, allow, a, b, x, mine, bs)) := by
  refine loop_wp (f := fun n s => s_tablefinderlaw42_AccessLast_l3 n l allow a b (ps.length : Int) s x mine bs ps) (body := fun rec s => s_tablefinderlaw42_AccessLast_l3_b (fun _ _ _ _ _ s _ _ _ _ => rec s) l allow a b (ps.length : Int) s x mine bs ps) (fun n s => ?_)
    (fun s => ∃ i : Nat, i ≤ ps.length ∧ s = (i : Int)) (fun s => ps.length - s.toNat) _ ?_ big 0 ⟨0, Nat.zero_le _, rfl⟩ (big_lt (by omega))
  · rfl
  rintro rec s ⟨i, hi, rfl⟩ ih
  unfold s_tablefinderlaw42_AccessLast_l3_b
  simp only [wp_bif, wp_chk, wp_bind, wp_get, wp_some, decide_eq_true_eq, decide_eq_false_iff_not, take_all, may_eq]
  refine ⟨fun hlt => ?_, fun hge => by trivial⟩
  have hlt' : i < ps.length := by omega
  have hp := h ps[i] (List.getElem_mem _)
  simp only [Int.toNat_natCast]
  refine ⟨inR_ok (by omega), hlt', by simp, by rfl, room_ok (by simp; omega), ?_⟩
  rw [mayS_hit hp.1, hp.2]
  refine ⟨fun hc => by simp at hc, fun _ => ⟨inK_i64 (by omega), ih _ ⟨i + 1, by omega, rfl⟩ (by omega)⟩⟩

theorem outer_loop (l : List G_api_Permission) (hl : l.length ≤ 5) (x : G_api_Ref) (hx : (1 ≤ x.Table ∧ x.Table ≤ 4) ∧ 0 ≤ x.Column ∧ x.Column ≤ 2) (mine : List G_api_Permission) :
    wp (s_tablefinderlaw42_AccessLast_l2 big l 2 0 x mine [true, false]) (fun r => r = .brk (l, x, mine)) := by
  refine loop_wp (f := fun n s => s_tablefinderlaw42_AccessLast_l2 n s.1 s.2.1 s.2.2.1 s.2.2.2.1 s.2.2.2.2.1 s.2.2.2.2.2) (body := fun rec s => s_tablefinderlaw42_AccessLast_l2_b (fun a b c d e f => rec (a, b, c, d, e, f)) s.1 s.2.1 s.2.2.1 s.2.2.2.1 s.2.2.2.2.1 s.2.2.2.2.2) (fun n s => rfl)
    (fun s => ∃ i : Nat, i ≤ 2 ∧ s = (l, 2, (i : Int), x, mine, [true, false])) (fun s => 2 - s.2.2.1.toNat) _ ?_ big (l, 2, 0, x, mine, [true, false]) ⟨0, Nat.zero_le _, rfl⟩ (big_lt (by dsimp only; omega))
  rintro rec s ⟨i, hi, rfl⟩ ih
  dsimp only at ih ⊢
  unfold s_tablefinderlaw42_AccessLast_l2_b
  simp only [wp_bif, wp_chk, wp_bind, wp_get, wp_some, decide_eq_true_eq, decide_eq_false_iff_not]
  refine ⟨fun hlt => ?_, fun hge => by trivial⟩
  refine ⟨inR_ok (by simp; omega), by simp; omega, ?_⟩
  refine wp_mono (inner_loop l hl x _ _ _ _ _ _ (by simp) (by simp [match1])) ?_
  rintro r rfl
  dsimp only
  unfold s_tablefinderlaw42_AccessLast_k3
  simp only [wp_bif, wp_chk, wp_bind, wp_get, wp_some, decide_eq_true_eq, decide_eq_false_iff_not, take_all, may_eq]
  refine ⟨by simp, inK_i64 (by omega), inK_i64 (by omega), by rfl, room_ok (by simp; omega), ?_⟩
  rw [mayS_miss (by simp [match1]; omega)]
  refine ⟨fun hc => by simp at hc, fun _ => ⟨inK_i64 (by omega), ih _ ⟨i + 1, by omega, rfl⟩ (by dsimp only; omega)⟩⟩

theorem accessLast_law (t : List Int) (r : Int) (hr : 0 ≤ r ∧ r ≤ 255) : s_tablefinderlaw42_AccessLast t r = some true := by
  refine eq_of_wp ?_
  unfold s_tablefinderlaw42_AccessLast s_tablefinderkit_Light s_tablefinderkit_Roll
  simp only [wp_bind, wp_some]
  rw [wp_bif]
  refine ⟨fun _ => ?_, fun ht => ?_⟩
  · rw [awake_law]
    exact ⟨true, rfl, rfl⟩
  · simp only [Bool.not_eq_false', decide_eq_true_eq] at ht
    rw [wp_bind, wp_some, wp_bind]
    refine wp_mono (rules_wp (d := ⟨t, 0⟩) ⟨by simp, by simp, by simp only; omega⟩) ?_
    rintro ⟨l, d⟩ ⟨hl, ⟨tl, htl⟩, _⟩
    dsimp only at hl htl ⊢
    have h4 := tmod_bounds r hr.1 (m := 4) (by omega)
    have hd : 0 ≤ Int.tdiv r 4 ∧ Int.tdiv r 4 ≤ 255 := ⟨Int.tdiv_nonneg hr.1 (by omega), Int.le_trans (Int.tdiv_le_self _ hr.1) hr.2⟩
    have h3 := tmod_bounds (Int.tdiv r 4) hd.1 (m := 3) (by omega)
    rw [wrap_u8 hd, wrap_i64 (n := Int.tmod r 4) (by omega), wrap_i64 (n := Int.tmod (Int.tdiv r 4) 3) (by omega)]
    simp only [wp_chk, wp_bind]
    refine ⟨by rfl, inK_i64 (by omega), by rfl, by rfl, wp_mono (mine_loop l hl _) ?_⟩
    rintro q rfl
    dsimp only
    unfold s_tablefinderlaw42_AccessLast_k2
    rw [wp_bind]
    refine wp_mono (outer_loop l hl _ ⟨⟨by simp only; omega, by simp only; omega⟩, by simp only; omega, by simp only; omega⟩ _) ?_
    rintro q rfl
    dsimp only
    unfold s_tablefinderlaw42_AccessLast_k4 s_tablefinderlaw42_AccessLast_j5
    simp only [wp_bind, wp_some, may_eq, awake_law, wp_bif, mayS_mine]
    rw [mayS_none (u := [118]) (by
      intro p hp
      have := (List.mem_filter.1 hp).2
      simp only [beq_iff_eq] at this
      simp [match1, this])]
    simp

end Go.Proofs
