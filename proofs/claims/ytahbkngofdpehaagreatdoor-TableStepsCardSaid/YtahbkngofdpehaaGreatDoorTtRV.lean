/- utf8.ValidString answers at every string. -/
import Derived.Test.YtahbkngofdpehaaGreatDoorTtS
import Derived.Test.YtahbkngofdpehaaGreatDoorTtPK
import Derived.KernelRfl
set_option linter.unusedVariables false
set_option linter.unusedSimpArgs false
set_option linter.unusedSectionVars false
namespace Go.Proofs
open Go Eng

theorem word_wp {s : Str} (h : 8 ≤ s.length) : wp (s_unicode_utf8_word_string s) (fun _ => True) := by
  unfold s_unicode_utf8_word_string
  simp only [wp_bind, wp_idx, wp_chk, wp_some]
  refine ⟨by omega, by omega, by omega, by omega, by decide, by omega, by omega, by decide, by omega, by omega, by decide, by omega, by omega, by decide, by omega, by omega, by decide, by omega, by omega, by decide, by omega, by omega, by decide, trivial⟩

def tabOk (cs : List (Lf carU)) : Bool := cs.all fun l => match l.as (.int .u8) with | some x => decide (0 ≤ x ∧ x ≤ 255) | none => false
theorem tab_wp {cs : List (Lf carU)} (hc : tabOk cs = true) {n : Nat} (h : n < cs.length) : wp (tabB (car := carU) (.int .u8) cs n) (fun x : Int => 0 ≤ x ∧ x ≤ 255) := by
  unfold tabB
  rw [List.getElem?_eq_getElem h]
  have := List.all_eq_true.1 hc _ (List.getElem_mem h)
  dsimp only
  split at this
  · rename_i x hx
    exact ⟨x, hx, of_decide_eq_true this⟩
  · simp at this
theorem first_ok : tabOk glob_utf8_first = true := by kernel_rfl
theorem accept_ok : tabOk glob_utf8_acceptRanges = true := by kernel_rfl
theorem first_len : glob_utf8_first.length = 256 := by kernel_rfl
theorem accept_len : glob_utf8_acceptRanges.length = 32 := by kernel_rfl
theorem shr4_all : ((List.range 256).all fun n => decide (0 ≤ shrK .u8 (n : Int) 4 ∧ shrK .u8 (n : Int) 4 ≤ 15)) = true := by kernel_rfl
theorem shr4 {c : Int} (h : 0 ≤ c ∧ c ≤ 255) : 0 ≤ shrK .u8 c 4 ∧ shrK .u8 c 4 ≤ 15 := by
  have := List.all_eq_true.1 shr4_all c.toNat (List.mem_range.2 (by omega))
  have e : ((c.toNat : Nat) : Int) = c := by omega
  rw [e] at this
  exact of_decide_eq_true this

theorem l2_wp (s : Str) (hs : s.length ≤ 9223372036854775807) : wp (s_unicode_utf8_ValidString_l2 big s) (fun r => r.length ≤ s.length) := by
  refine loop_wp (f := fun n s => s_unicode_utf8_ValidString_l2 n s) (body := fun rec s => s_unicode_utf8_ValidString_l2_b rec s) (fun n s => rfl)
    (fun t => t.length ≤ s.length) (fun t => t.length) _ ?_ big s (Nat.le_refl _) (big_lt (by omega))
  intro rec t ht ih
  unfold s_unicode_utf8_ValidString_l2_b s_unicode_utf8_ValidString_j3
  rw [wp_bif]
  refine ⟨fun h => ?_, fun h => ?_⟩
  · simp only [decide_eq_true_eq] at h
    have d8 : (t.drop ((8 : Int)).toNat).length = t.length - 8 := by simp
    have d16 : (t.drop ((16 : Int)).toNat).length = t.length - 16 := by simp
    have d24 : (t.drop ((24 : Int)).toNat).length = t.length - 24 := by simp
    have d32 : (t.drop ((32 : Int)).toNat).length = t.length - 32 := by simp
    rw [wp_bind]
    refine wp_mono (word_wp (by omega)) fun _ _ => ?_
    rw [wp_chk, wp_bind]
    refine ⟨within_ok (by omega), wp_mono (word_wp (by omega)) fun _ _ => ?_⟩
    rw [wp_chk, wp_bind]
    refine ⟨within_ok (by omega), wp_mono (word_wp (by omega)) fun _ _ => ?_⟩
    rw [wp_chk, wp_bind]
    refine ⟨within_ok (by omega), wp_mono (word_wp (by omega)) fun _ _ => ?_⟩
    rw [wp_bif]
    refine ⟨fun _ => ?_, fun _ => ?_⟩
    · rw [wp_chk]
      exact ⟨within_ok (by omega), ih _ (by omega) (by omega)⟩
    · rw [wp_some]; exact ht
  · simp only [cond_false, wp_some]; exact ht

theorem l1_wp (s : Str) (hs : s.length ≤ 9223372036854775807) : wp (s_unicode_utf8_ValidString_l1 big s) (fun _ => True) := by
  refine loop_wp (f := fun n s => s_unicode_utf8_ValidString_l1 n s) (body := fun rec s => s_unicode_utf8_ValidString_l1_b rec s) (fun n s => rfl)
    (fun t => t.length ≤ s.length) (fun t => t.length) _ ?_ big s (Nat.le_refl _) (big_lt (by omega))
  intro rec t ht ih
  have go : ∀ k : Nat, 0 < k → k ≤ t.length → wp (rec (t.drop k)) (fun _ => True) := fun k h0 h => ih _ (by rw [List.length_drop]; omega) (by rw [List.length_drop]; omega)
  have go' : ∀ t' : Str, t'.length < t.length → wp (rec t') (fun _ => True) := fun t' h => ih _ (by omega) h
  unfold s_unicode_utf8_ValidString_l1_b
  rw [wp_bif]
  refine ⟨fun h => ?_, fun h => by rw [wp_some]; trivial⟩
  simp only [decide_eq_true_eq] at h
  rw [wp_bind, wp_idx]
  refine ⟨by omega, by omega, ?_⟩
  rw [wp_bif]
  refine ⟨fun hc => ?_, fun hc => ?_⟩
  · have d1 : (t.drop ((1 : Int)).toNat).length = t.length - 1 := by simp
    have d9 : ((t.drop ((1 : Int)).toNat).drop ((8 : Int)).toNat).length = t.length - 9 := by simp
    have d17 : (((t.drop ((1 : Int)).toNat).drop ((8 : Int)).toNat).drop ((8 : Int)).toNat).length = t.length - 17 := by simp
    have d25 : (((t.drop ((1 : Int)).toNat).drop ((8 : Int)).toNat).drop ((16 : Int)).toNat).length = t.length - 25 := by simp
    generalize h1 : t.drop ((1 : Int)).toNat = t1 at *
    generalize h9 : t1.drop ((8 : Int)).toNat = t9 at *
    have j2 : ∀ b, 16 < t9.length ∨ b = false → wp (s_unicode_utf8_ValidString_j2 rec t9 b) (fun _ => True) := fun b hb => by
      unfold s_unicode_utf8_ValidString_j2 s_unicode_utf8_ValidString_j5 s_unicode_utf8_ValidString_k4
      rw [wp_bif]
      refine ⟨fun hb' => ?_, fun _ => go' _ (by omega)⟩
      have : 16 < t9.length := hb.resolve_right (by simp [hb'])
      rw [wp_chk, wp_bind]
      exact ⟨within_ok (by omega), wp_mono (l2_wp _ (by omega)) fun r hr => go' _ (by omega)⟩
    have j1 : ∀ b, 8 < t1.length ∨ b = false → wp (s_unicode_utf8_ValidString_j1 rec t1 b) (fun _ => True) := fun b hb => by
      unfold s_unicode_utf8_ValidString_j1 s_unicode_utf8_ValidString_j5
      rw [h9, wp_bif]
      refine ⟨fun hb' => ?_, fun _ => go' _ (by omega)⟩
      have : 8 < t1.length := hb.resolve_right (by simp [hb'])
      rw [wp_chk, wp_bif]
      refine ⟨within_ok (by omega), fun h16 => ?_, fun h16 => j2 _ (.inr rfl)⟩
      simp only [decide_eq_true_eq] at h16
      rw [wp_bind]
      refine wp_mono (word_wp (by omega)) fun _ _ => ?_
      rw [wp_chk, wp_bind]
      exact ⟨within_ok (by omega), wp_mono (word_wp (by omega)) fun _ _ => j2 _ (.inl (by omega))⟩
    rw [wp_chk, wp_bif]
    refine ⟨within_ok (by omega), fun h8 => ?_, fun h8 => j1 _ (.inr rfl)⟩
    simp only [decide_eq_true_eq] at h8
    rw [wp_bind]
    exact wp_mono (word_wp (by omega)) fun _ _ => j1 _ (.inl (by omega))
  · have hcb : ((t[(0 : Int).toNat].toNat : Nat) : Int) < 256 := by
      have := t[(0 : Int).toNat].toNat_lt
      omega
    generalize t[(0 : Int).toNat].toNat = c at *
    rw [wp_chk, wp_bind]
    refine ⟨inR_ok (by omega), wp_mono (tab_wp first_ok (by rw [first_len]; omega)) fun x hx => ?_⟩
    have hsh := shr4 hx
    rw [wp_chk, wp_chk, wp_bind]
    refine ⟨by decide, inR_ok (by omega), wp_mono (tab_wp accept_ok (by rw [accept_len]; omega)) fun lo _ => ?_⟩
    rw [wp_bind]
    refine wp_mono (tab_wp accept_ok (by rw [accept_len]; omega)) fun hi _ => ?_
    have j6 : ∀ b, 2 ≤ t.length ∨ b = true → wp (s_unicode_utf8_ValidString_j6 rec t b) (fun _ => True) := fun b hb => by
      unfold s_unicode_utf8_ValidString_j6
      rw [wp_bif, wp_some, wp_chk]
      refine ⟨fun _ => trivial, fun hb' => ?_⟩
      have : 2 ≤ t.length := hb.resolve_right (by simp [hb'])
      exact ⟨within_ok (by omega), go 2 (by omega) this⟩
    have j7 : ∀ b, 3 ≤ t.length ∨ b = true → wp (s_unicode_utf8_ValidString_j7 rec t b) (fun _ => True) := fun b hb => by
      unfold s_unicode_utf8_ValidString_j7
      rw [wp_bif, wp_some, wp_chk]
      refine ⟨fun _ => trivial, fun hb' => ?_⟩
      have : 3 ≤ t.length := hb.resolve_right (by simp [hb'])
      exact ⟨within_ok (by omega), go 3 (by omega) this⟩
    have j8 : ∀ b, 4 ≤ t.length ∨ b = true → wp (s_unicode_utf8_ValidString_j8 rec t b) (fun _ => True) := fun b hb => by
      unfold s_unicode_utf8_ValidString_j8
      rw [wp_bif, wp_some, wp_chk]
      refine ⟨fun _ => trivial, fun hb' => ?_⟩
      have : 4 ≤ t.length := hb.resolve_right (by simp [hb'])
      exact ⟨within_ok (by omega), go 4 (by omega) this⟩
    simp only [wp_bif, wp_bind, wp_idx, wp_some, decide_eq_true_eq, decide_eq_false_iff_not]
    refine ⟨fun _ => ⟨fun _ => j6 _ (.inr rfl), fun _ => ⟨by omega, by omega, fun _ => j6 _ (.inr rfl), fun _ => ⟨by omega, by omega, j6 _ (.inl (by omega))⟩⟩⟩,
      fun _ => ⟨fun _ => ⟨fun _ => j7 _ (.inr rfl), fun _ => ⟨by omega, by omega, fun _ => j7 _ (.inr rfl), fun _ => ⟨by omega, by omega, fun _ => j7 _ (.inr rfl), fun _ => ⟨by omega, by omega, fun _ => j7 _ (.inr rfl), fun _ => ⟨by omega, by omega, j7 _ (.inl (by omega))⟩⟩⟩⟩⟩,
        fun _ => ⟨fun _ => ⟨fun _ => j8 _ (.inr rfl), fun _ => ⟨by omega, by omega, fun _ => j8 _ (.inr rfl), fun _ => ⟨by omega, by omega, fun _ => j8 _ (.inr rfl), fun _ => ⟨by omega, by omega, fun _ => j8 _ (.inr rfl), fun _ => ⟨by omega, by omega, fun _ => j8 _ (.inr rfl), fun _ => ⟨by omega, by omega, fun _ => j8 _ (.inr rfl), fun _ => ⟨by omega, by omega, j8 _ (.inl (by omega))⟩⟩⟩⟩⟩⟩⟩, fun _ => trivial⟩⟩⟩

theorem valid_wp (s : Str) (hs : s.length ≤ 9223372036854775807) : wp (s_unicode_utf8_ValidString s) (fun _ => True) := by
  unfold s_unicode_utf8_ValidString s_unicode_utf8_ValidString_k9
  rw [wp_bind]
  refine wp_mono (l1_wp s hs) fun r _ => ?_
  cases r with
  | ret b => rw [wp_some]; trivial
  | brk u => rw [wp_some]; trivial
/-- What it answers. -/
def vs (s : Str) : Bool := (s_unicode_utf8_ValidString s).getD false
theorem valid_eq (s : Str) (hs : s.length ≤ 9223372036854775807) : s_unicode_utf8_ValidString s = some (vs s) := by
  obtain ⟨b, hb, _⟩ := valid_wp s hs
  unfold vs
  rw [hb]; rfl

end Go.Proofs
