/- A range over a map, in whatever order; the two programs' relations. -/
import Derived.Test.YtjdddnbddnhilaaDoorRpRC
set_option linter.unusedVariables false
set_option linter.unusedSimpArgs false
set_option linter.unusedSectionVars false
namespace Go.Proofs
open Go Eng

theorem map_loop {σ X α : Type} (g : Nat → σ → List α → Option α → Option X) (body : Nat → σ → α → List α → Option X) (step : σ → α → σ) (fin : σ → X) (P : σ → List α → Prop)
    (hg : ∀ n s l a, g (n + 1) s l a = bif List.isEmpty l then some (fin s) else pickAll l fun q rest => body n s q rest)
    (hb : ∀ n s l q rest, P s l → (q :: rest).Perm l → ∃ a, body n s q rest = g n (step s q) rest a ∧ P (step s q) rest)
    (comm : ∀ s x y, step (step s x) y = step (step s y) x) : ∀ n s l a, P s l → l.length < n → g n s l a = some (fin (l.foldl step s)) := by
  intro n
  induction n with
  | zero => intro s l a _ h; omega
  | succ n ih =>
    intro s l a hP hl
    rw [hg]
    cases hl0 : l with
    | nil => rfl
    | cons x r =>
      rw [← hl0]
      have hne : l ≠ [] := by rw [hl0]; simp
      have he : List.isEmpty l = false := by rw [hl0]; rfl
      rw [he, cond_false]
      refine pickAll_eq hne fun j q hq => ?_
      obtain ⟨hj, hjq⟩ := List.getElem?_eq_some_iff.1 hq
      have hperm : (q :: l.eraseIdx j).Perm l := by rw [← hjq]; exact erase_perm l j hj
      obtain ⟨a', h1, h2⟩ := hb n s l q (l.eraseIdx j) hP hperm
      have hlen : (l.eraseIdx j).length < n := by
        have := hperm.length_eq
        simp only [List.length_cons] at this
        omega
      rw [h1, ih _ _ a' h2 hlen]
      have := hperm.foldl_eq' (f := step) (fun x _ y _ z => comm z x y) s
      rw [← this]; rfl

theorem perm_sum {l l' : List Int} (h : l.Perm l') : l.sum = l'.sum := by
  induction h with
  | nil => rfl
  | cons x _ ih => simp [ih]
  | swap x y l => simp only [List.sum_cons]; omega
  | trans _ _ h1 h2 => exact h1.trans h2

def stepA (b : Cnt) (s : Int × Int × Int) (q : Str × Int) : Int × Int × Int :=
  if getC b q.1 > 0 then (s.1 + 1, if q.2 > s.2.1 then q.2 else s.2.1, s.2.2 - q.2) else s

theorem stepA_comm (b : Cnt) (s : Int × Int × Int) (x y : Str × Int) : stepA b (stepA b s x) y = stepA b (stepA b s y) x := by
  unfold stepA
  by_cases hx : getC b x.1 > 0 <;> by_cases hy : getC b y.1 > 0 <;> simp only [hx, hy, if_true, if_false]
  refine Prod.ext rfl (Prod.ext ?_ ?_)
  · dsimp only
    (repeat' split) <;> omega
  · dsimp only; omega

def BndA (s : Int × Int × Int) (l : Cnt) : Prop := 0 ≤ s.1 ∧ s.1 + l.length ≤ 1000000000000000 ∧ (∀ e ∈ l, 1 ≤ e.2) ∧ s.2.2 ≤ 1000000000000000 ∧ -1000000000000000 ≤ s.2.2 - (l.map (·.2)).sum

theorem against_eq (a b : Cnt) (rows : Int) (h : BndA (0, 0, rows) a) : s_relation_against a b rows = some (a.foldl (stepA b) (0, 0, rows)) := by
  unfold s_relation_against s_relation_against_k1
  have hlen : a.length ≤ 1000000000000000 := by have := h.2.1; dsimp only at this; omega
  have := map_loop (g := fun n s l at_ => s_relation_against_l1 n b s.1 s.2.1 s.2.2 l at_)
    (body := fun n s q rest => bif (decide (getC b q.1 > 0)) then (chk (inK .i64 (s.1 + 1)) <| chk (inK .i64 (s.2.2 - q.2)) <| s_relation_against_l1 n b (s.1 + 1) (if q.2 > s.2.1 then q.2 else s.2.1) (s.2.2 - q.2) rest (some (q.1, q.2))) else (s_relation_against_l1 n b s.1 s.2.1 s.2.2 rest (some (q.1, q.2))))
    (step := stepA b) (fin := fun s => s) (P := BndA) (fun n s l at_ => rfl) (fun n s l q rest hP hperm => ?_) (stepA_comm b) big (0, 0, rows) a none h (big_lt (by omega))
  · rw [this]; rfl
  · obtain ⟨p1, p2, p3, p4, p5⟩ := hP
    have hs := perm_sum (hperm.map (·.2))
    have hl := hperm.length_eq
    simp only [List.map_cons, List.sum_cons] at hs
    simp only [List.length_cons] at hl
    have hq : 1 ≤ q.2 := p3 q (hperm.mem_iff.1 (by simp))
    have hr : ∀ e ∈ rest, 1 ≤ e.2 := fun e he => p3 e (hperm.mem_iff.1 (by simp [he]))
    have h0 := sum_pos rest hr
    refine ⟨some (q.1, q.2), ?_, ?_⟩
    · unfold stepA
      by_cases hg : getC b q.1 > 0
      · rw [decide_eq_true hg, if_pos hg, cond_true, inK_i64 (by omega), inK_i64 (by omega)]; rfl
      · rw [decide_eq_false hg, if_neg hg, cond_false]
    · unfold stepA BndA
      split
      · dsimp only; exact ⟨by omega, by omega, hr, by omega, by omega⟩
      · exact ⟨by omega, by omega, hr, by omega, by omega⟩

end Go.Proofs
