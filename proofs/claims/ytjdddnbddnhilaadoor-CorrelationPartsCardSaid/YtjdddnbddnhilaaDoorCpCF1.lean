/- Numbers of one word: the digits' arithmetic. -/
import Derived.Test.YtjdddnbddnhilaaDoorCpS
import Derived.Test.YtjdddnbddnhilaaDoorCpPKb
import Derived.KernelRfl
set_option linter.unusedVariables false
set_option linter.unusedSimpArgs false
set_option linter.unusedSectionVars false
namespace Go.Proofs
open Go Eng

def wd (n : Nat) : List Int := if n = 0 then [] else [(n : Int)]
theorem wd_zero : wd 0 = [] := rfl
theorem wd_pos {n : Nat} (h : n ≠ 0) : wd n = [(n : Int)] := if_neg h
theorem wd_len (n : Nat) : (wd n).length ≤ 1 := by unfold wd; split <;> simp

theorem wrap_u32 {n : Int} (h : 0 ≤ n ∧ n ≤ 4294967295) : IntKind.wrap .u32 n = n := by rw [IntKind.wrap_u32]; omega
theorem shr32 {n : Int} (h : 0 ≤ n ∧ n ≤ 4294967295) : shrK .u64 n 32 = 0 := by
  unfold shrK
  rw [show min (32 : Int).toNat (IntKind.bits .u64) = 32 from by decide, Int.fdiv_eq_ediv_of_nonneg _ (by decide)]
  exact Int.ediv_eq_zero_of_lt h.1 (by omega)

/-- Without the zeros at the end. -/
def trimL (l : List Int) : List Int := (l.reverse.dropWhile (· == 0)).reverse
theorem trimL_snoc (l : List Int) (x : Int) : trimL (l ++ [x]) = if x = 0 then trimL l else l ++ [x] := by
  unfold trimL
  rw [List.reverse_append, List.reverse_singleton, List.singleton_append, List.dropWhile_cons]
  by_cases h : x = 0
  · simp [h]
  · simp [h]
theorem trim_eq (l : List Int) (hl : l.length ≤ 1000000) : s_fraction_trimmed l = some (trimL l) := by
  refine eq_of_wp ?_
  unfold s_fraction_trimmed s_fraction_trimmed_k2
  rw [wp_bind]
  refine wp_mono (whileS_wp s_fraction_trimmed_l1_FB (fun (w : List Int) => w) (fun w => trimL w = trimL l ∧ w.length ≤ 1000000) List.length (Q := fun x => x = trimL l) l ⟨rfl, hl⟩ (by omega) ?_) (fun x hx => by rw [wp_some]; exact hx)
  rintro rec w ⟨hw, hwl⟩ ih
  unfold s_fraction_trimmed_l1_B s_fraction_trimmed_l1_b s_fraction_trimmed_j1
  rcases List.eq_nil_or_concat w with rfl | ⟨v, x, rfl⟩
  · show wp (some []) _
    rw [wp_some]; exact hw
  · rw [List.concat_eq_append] at hw hwl ⊢
    rw [trimL_snoc] at hw
    have hlen : (v ++ [x]).length = v.length + 1 := by simp
    rw [wp_bif]
    refine ⟨fun _ => ?_, fun h => by simp only [decide_eq_false_iff_not] at h; omega⟩
    rw [wp_chk, wp_bind, wp_idx]
    refine ⟨inK_i64 (by omega), by omega, by omega, ?_⟩
    have hx : (v ++ [x])[(((v ++ [x]).length : Int) - 1).toNat]'(by omega) = x := by
      rw [List.getElem_append_right (by omega)]; simp
    rw [hx, wp_bif]
    refine ⟨fun h => ?_, fun h => ?_⟩
    · rw [if_pos (by simpa using h)] at hw
      rw [wp_chk, wp_chk]
      refine ⟨inK_i64 (by omega), within_ok (by omega), ?_⟩
      have : (v ++ [x]).take (((v ++ [x]).length : Int) - 1).toNat = v := by
        rw [show (((v ++ [x]).length : Int) - 1).toNat = v.length by omega]; simp
      rw [this]
      exact ih v ⟨hw, by omega⟩ (by simp)
    · rw [if_neg (by simpa using h)] at hw
      rw [wp_some]; exact hw
theorem trimL_wd (a : Nat) : trimL [(a : Int)] = wd a := by
  have := trimL_snoc [] (a : Int)
  rw [List.nil_append] at this
  rw [this]
  unfold wd
  by_cases h : a = 0
  · subst h; rfl
  · rw [if_neg (by omega), if_neg h]
theorem trim_nil : s_fraction_trimmed [] = some [] := trim_eq [] (by simp)
theorem trim_one (a : Nat) : s_fraction_trimmed [(a : Int)] = some (wd a) := by rw [trim_eq _ (by simp), trimL_wd]
theorem trim_two (a : Nat) : s_fraction_trimmed [(a : Int), 0] = some (wd a) := by
  rw [trim_eq _ (by simp), ← trimL_wd]
  exact congrArg some (trimL_snoc [(a : Int)] 0)

theorem add32 {a b : Nat} (h : a + b < 4294967296) : s_math_bits_Add32 (a : Int) (b : Int) 0 = some (((a + b : Nat) : Int), 0) := by
  unfold s_math_bits_Add32
  rw [wrap_u64 (n := (a : Int)) (by omega), wrap_u64 (n := (b : Int)) (by omega), wrap_u64 (n := (a : Int) + (b : Int)) (by omega), wrap_u64 (n := (0 : Int)) (by omega), wrap_u64 (n := (a : Int) + (b : Int) + 0) (by omega), wrap_u32 (by omega), shr32 (by omega), wrap_u32 (n := 0) (by omega)]
  show some _ = some _
  simp
theorem sub32 {a b : Nat} (h : b ≤ a) (ha : a < 4294967296) : wp (s_math_bits_Sub32 (a : Int) (b : Int) 0) (fun x => x.1 = ((a - b : Nat) : Int)) := by
  unfold s_math_bits_Sub32
  rw [wp_chk, wp_some, wrap_u32 (n := (a : Int) - (b : Int)) (by omega), wrap_u32 (by omega)]
  exact ⟨rfl, by simp only; omega⟩
theorem div32 {a b : Nat} (hb : b ≠ 0) (ha : a < 4294967296) (hb2 : b < 4294967296) : s_math_bits_Div32 0 (a : Int) (b : Int) = some (((a / b : Nat) : Int), ((a % b : Nat) : Int)) := by
  unfold s_math_bits_Div32 s_math_bits_Div32_j1
  have e : orK .u64 (shlK .u64 (IntKind.wrap .u64 0) 32) (IntKind.wrap .u64 (a : Int)) = (a : Int) := by
    rw [show shlK .u64 (IntKind.wrap .u64 0) 32 = 0 from by decide, wrap_u64 (n := (a : Int)) (by omega)]
    unfold orK
    rw [show BitVec.ofInt (IntKind.bits .u64) 0 = 0#_ from by decide, BitVec.zero_or, BitVec.toNat_ofInt, wrap_u64 (by simp [show IntKind.bits .u64 = 64 from rfl]; omega)]
    simp only [show IntKind.bits .u64 = 64 from rfl]
    omega
  have eb : ((b : Int) != 0) = true := by simp; omega
  have q1 : a / b ≤ a := Nat.div_le_self ..
  have q2 : a % b < b := Nat.mod_lt _ (by omega)
  rw [eb, cond_true, decide_eq_false (by omega : ¬ (b : Int) ≤ 0), cond_false, e, wrap_u64 (n := (b : Int)) (by omega)]
  have t1 : Int.tdiv (a : Int) (b : Int) = ((a / b : Nat) : Int) := by rw [Int.tdiv_eq_ediv_of_nonneg (by omega)]; rfl
  have t2 : Int.tmod (a : Int) (b : Int) = ((a % b : Nat) : Int) := by rw [Int.tmod_eq_emod_of_nonneg (by omega)]; rfl
  rw [t1, t2]
  generalize a / b = q at *
  generalize a % b = r at *
  rw [wrap_u64 (n := (q : Int)) (by omega), wrap_u32 (n := (q : Int)) (by omega), wrap_u32 (n := (r : Int)) (by omega)]
  have c : decide ((b : Int) ≠ 0) = true := decide_eq_true (by omega)
  rw [c]; rfl

theorem at_zero (b : Nat) : s_fraction_words_at (wd b) 0 = some (b : Int) := by
  by_cases h : b = 0
  · subst h; rfl
  · rw [wd_pos h]; rfl

theorem at_zero' {a : Nat} : s_fraction_words_at (wd a) 0 = some (a : Int) := at_zero a

theorem plus_eq {a b : Nat} (h : a + b < 4294967296) : s_fraction_words_plus (wd a) (wd b) = some (wd (a + b)) := by
  refine eq_of_wp ?_
  have la := wd_len a
  have lb := wd_len b
  have key : ∀ m : Int, (m = 0 ∧ a = 0 ∧ b = 0) ∨ m = 1 → wp ((s_fraction_words_plus_l1 big (wd a) (wd b) (0 : Int) m (0 : Int) ([] : List Int)).bind fun (x0, x1) => s_fraction_words_plus_k1 x0 x1) (· = wd (a + b)) := fun m hm => by
    rw [wp_bind]
    obtain ⟨k, rfl⟩ : ∃ k : Nat, m = (k : Int) := ⟨m.toNat, by omega⟩
    refine wp_mono (uptoS_wp s_fraction_words_plus_l1_FB k (by omega) (fun i (t : Int × List Int) => (wd a, wd b, t.1, (k : Int), i, t.2)) (fun i t => (i = 0 ∧ t = (0, [])) ∨ (i = 1 ∧ t = (0, [((a + b : Nat) : Int)]))) (Q := fun x => (k = 0 ∧ x = (0, [])) ∨ (k = 1 ∧ x = (0, [((a + b : Nat) : Int)]))) (0, []) (.inl ⟨rfl, rfl⟩) (fun rec i t hi hP ih => ?_) (fun rec t hP => ?_)) ?_
    · rcases hP with ⟨rfl, rfl⟩ | ⟨rfl, _⟩
      · unfold s_fraction_words_plus_l1_B s_fraction_words_plus_l1_b
        dsimp only
        rw [wp_bif]
        refine ⟨fun _ => ?_, fun h => by simp only [decide_eq_false_iff_not] at h; omega⟩
        rw [show ((0 : Nat) : Int) = 0 from rfl, at_zero, wp_bind, wp_some, at_zero, wp_bind, wp_some, add32 h, wp_bind, wp_some]
        dsimp only
        rw [wp_chk, wp_chk]
        exact ⟨by rfl, by decide, ih (0, [((a + b : Nat) : Int)]) (.inr ⟨rfl, rfl⟩)⟩
      · omega
    · unfold s_fraction_words_plus_l1_B s_fraction_words_plus_l1_b
      dsimp only
      rw [wp_bif]
      refine ⟨fun h => by simp only [decide_eq_true_eq] at h; omega, fun _ => ?_⟩
      rw [wp_some]
      rcases hP with ⟨h1, rfl⟩ | ⟨h1, rfl⟩
      · exact .inl ⟨h1, rfl⟩
      · exact .inr ⟨h1, rfl⟩
    · rintro x (⟨h1, rfl⟩ | ⟨h1, rfl⟩)
      · have hab : a + b = 0 := by omega
        dsimp only
        unfold s_fraction_words_plus_k1
        rw [wp_chk, wp_bind]
        refine ⟨by decide, ?_⟩
        rw [hab, List.nil_append, show ([0] : List Int) = [((0 : Nat) : Int)] from rfl, trim_one, wp_some, wp_some]
      · dsimp only
        unfold s_fraction_words_plus_k1
        rw [wp_chk, wp_bind]
        refine ⟨by rfl, ?_⟩
        rw [List.singleton_append, trim_two, wp_some, wp_some]
  unfold s_fraction_words_plus
  generalize hm : (if ((wd b).length : Int) > ((wd a).length : Int) then ((wd b).length : Int) else ((wd a).length : Int)) = m
  have hm' : (m = 0 ∧ a = 0 ∧ b = 0) ∨ m = 1 := by
    subst hm
    by_cases ha : a = 0 <;> by_cases hb : b = 0 <;> simp [wd, ha, hb]
  rw [wp_chk, wp_chk]
  refine ⟨inK_i64 (by omega), ?_, ?_⟩
  · rcases hm' with ⟨rfl, _⟩ | rfl <;> rfl
  · exact key m hm'
end Go.Proofs
