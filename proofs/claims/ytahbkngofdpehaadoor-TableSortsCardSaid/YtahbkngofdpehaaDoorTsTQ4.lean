/- Rows in order; an insertion sort; table.Sort. -/
import Derived.Test.YtahbkngofdpehaaDoorTsTQ3
set_option linter.unusedVariables false
set_option linter.unusedSimpArgs false
set_option linter.unusedSectionVars false
namespace Go.Proofs
open Go Eng

/-! ## Rows in order -/

def rowC : List G_api_Cell → List G_api_Cell → Int
  | a :: r, b :: s => if cellC a b = 0 then rowC r s else cellC a b
  | _, _ => 0
def AllM (l : List G_api_Cell) : Prop := ∀ c ∈ l, CellM c
theorem cell_eq {a b : G_api_Cell} (ha : CellM a) (hb : CellM b) (h : cellC a b = 0) : a = b := by
  obtain ⟨h1, h2⟩ := (cellC_zero ha hb).1 h
  cases a; cases b; simp only at h1 h2; rw [h1, h2]
theorem cellC_self (a : G_api_Cell) : cellC a a = 0 := by have := cellC_neg a a; omega
theorem rowC_neg : ∀ (a b : List G_api_Cell), rowC b a = -rowC a b
  | [], [] => rfl
  | [], _ :: _ => rfl
  | _ :: _, [] => rfl
  | x :: a, y :: b => by
    unfold rowC
    have := cellC_neg x y
    have ih := rowC_neg a b
    by_cases h : cellC x y = 0
    · rw [if_pos h, if_pos (by omega), ih]
    · rw [if_neg h, if_neg (by omega), this]
theorem rowC_self (a : List G_api_Cell) : rowC a a = 0 := by have := rowC_neg a a; omega
theorem rowC_zero : ∀ {a b : List G_api_Cell}, AllM a → AllM b → a.length = b.length → rowC a b = 0 → a = b
  | [], [], _, _, _, _ => rfl
  | [], _ :: _, _, _, h, _ => by simp at h
  | _ :: _, [], _, _, h, _ => by simp at h
  | x :: a, y :: b, ha, hb, hl, h => by
    unfold rowC at h
    by_cases hc : cellC x y = 0
    · rw [if_pos hc] at h
      rw [cell_eq (ha x (by simp)) (hb y (by simp)) hc, rowC_zero (fun c hc => ha c (by simp [hc])) (fun c hc => hb c (by simp [hc])) (by simpa using hl) h]
    · rw [if_neg hc] at h; exact absurd h hc
theorem rowC_trans : ∀ {a b c : List G_api_Cell}, AllM a → AllM b → AllM c → a.length = b.length → b.length = c.length → rowC a b ≤ 0 → rowC b c ≤ 0 → rowC a c ≤ 0
  | [], [], [], _, _, _, _, _, _, _ => by decide
  | [], _ :: _, _, _, _, _, h, _, _, _ => by simp at h
  | _ :: _, [], _, _, _, _, h, _, _, _ => by simp at h
  | _, [], _ :: _, _, _, _, _, h, _, _ => by simp at h
  | _, _ :: _, [], _, _, _, _, h, _, _ => by simp at h
  | x :: a, y :: b, z :: c, ha, hb, hc, h1, h2, p, q => by
    have xm := ha x (by simp); have ym := hb y (by simp); have zm := hc z (by simp)
    unfold rowC at p q ⊢
    by_cases e1 : cellC x y = 0
    · have := cell_eq xm ym e1; subst this
      rw [if_pos e1] at p
      by_cases e2 : cellC x z = 0
      · rw [if_pos e2] at q ⊢
        exact rowC_trans (fun c h => ha c (by simp [h])) (fun c h => hb c (by simp [h])) (fun d h => hc d (by simp [h])) (by simpa using h1) (by simpa using h2) p q
      · rw [if_neg e2] at q ⊢; exact q
    · rw [if_neg e1] at p
      by_cases e2 : cellC y z = 0
      · have := cell_eq ym zm e2; subst this
        rw [if_neg e1]; exact p
      · rw [if_neg e2] at q
        have t := cellC_trans p q
        by_cases e3 : cellC x z = 0
        · have := cell_eq xm zm e3; subst this
          have := cellC_neg x y
          omega
        · rw [if_neg e3]; exact t

/-! ## Insertion from the right -/

section
variable {α : Type} (lt : α → α → Bool)
def insV (x : α) : List α → List α
  | [] => [x]
  | p :: r => if lt x p then p :: insV x r else x :: p :: r
def insR (x : α) (A : List α) : List α := (insV lt x A.reverse).reverse
def isort (l : List α) : List α := l.foldl (fun s x => insR lt x s) []
variable {lt}
theorem insR_nil (x : α) : insR lt x [] = [x] := rfl
theorem insR_snoc (x p : α) (A : List α) : insR lt x (A ++ [p]) = if lt x p then insR lt x A ++ [p] else A ++ [p, x] := by
  unfold insR
  rw [List.reverse_append, List.reverse_singleton, List.singleton_append, insV]
  split
  · rw [List.reverse_cons]
  · simp
theorem insV_perm (x : α) : ∀ l : List α, (insV lt x l).Perm (x :: l)
  | [] => .refl _
  | p :: r => by
    unfold insV
    split
    · exact ((insV_perm x r).cons p).trans (.swap _ _ _)
    · exact .refl _
theorem insR_perm (x : α) (A : List α) : (insR lt x A).Perm (A ++ [x]) := by
  unfold insR
  refine (List.reverse_perm _).trans ((insV_perm x _).trans ?_)
  refine (List.Perm.cons x (List.reverse_perm A)).trans ?_
  exact (List.perm_append_singleton x A).symm
theorem isort_snoc (l : List α) (x : α) : isort lt (l ++ [x]) = insR lt x (isort lt l) := by simp [isort]
theorem isort_perm (l : List α) : (isort lt l).Perm l := by
  have key : ∀ (l s : List α), (l.foldl (fun s x => insR lt x s) s).Perm (s ++ l) := by
    intro l
    induction l with
    | nil => intro s; simp
    | cons x l ih =>
      intro s
      refine (ih _).trans ?_
      refine ((insR_perm x s).append_right l).trans ?_
      simp
  simpa [isort] using key l []
theorem isort_len (l : List α) : (isort lt l).length = l.length := (isort_perm l).length_eq

/-- A list whose order is right. -/
theorem insV_sorted (P : α → Prop) (le : α → α → Prop) (hlt : ∀ x p, P x → P p → lt x p = true → le x p) (hnlt : ∀ x p, P x → P p → lt x p = false → le p x) (htr : ∀ a b c, P a → P b → P c → le a b → le b c → le a c)
    (x : α) (hx : P x) : ∀ l : List α, (∀ y ∈ l, P y) → l.Pairwise (fun a b => le b a) → (insV lt x l).Pairwise (fun a b => le b a)
  | [], _, _ => by simp [insV]
  | p :: r, hP, h => by
    have hp := hP p (by simp)
    have hr := List.pairwise_cons.1 h
    unfold insV
    cases hc : lt x p with
    | true =>
      rw [if_pos rfl, List.pairwise_cons]
      refine ⟨fun y hy => ?_, insV_sorted P le hlt hnlt htr x hx r (fun y hy => hP y (by simp [hy])) hr.2⟩
      rcases List.mem_cons.1 ((insV_perm x r).mem_iff.1 hy) with rfl | hy
      · exact hlt _ _ hx hp hc
      · exact hr.1 y hy
    | false =>
      rw [if_neg (by simp), List.pairwise_cons]
      refine ⟨fun y hy => ?_, h⟩
      have hxp := hnlt x p hx hp hc
      rcases List.mem_cons.1 hy with rfl | hy
      · exact hxp
      · exact htr _ _ _ (hP y (by simp [hy])) hp hx (hr.1 y hy) hxp
theorem isort_sorted (P : α → Prop) (le : α → α → Prop) (hlt : ∀ x p, P x → P p → lt x p = true → le x p) (hnlt : ∀ x p, P x → P p → lt x p = false → le p x) (htr : ∀ a b c, P a → P b → P c → le a b → le b c → le a c)
    (l : List α) (hl : ∀ y ∈ l, P y) : (isort lt l).Pairwise le := by
  have key : ∀ (l s : List α), (∀ y ∈ l, P y) → (∀ y ∈ s, P y) → s.Pairwise le → (l.foldl (fun s x => insR lt x s) s).Pairwise le := by
    intro l
    induction l with
    | nil => intro s _ _ h; exact h
    | cons x l ih =>
      intro s hl hs h
      refine ih _ (fun y hy => hl y (by simp [hy])) (fun y hy => ?_) ?_
      · rcases List.mem_append.1 ((insR_perm x s).mem_iff.1 hy) with hy | hy
        · exact hs y hy
        · simp only [List.mem_singleton] at hy; subst hy; exact hl _ (by simp)
      · unfold insR
        rw [List.pairwise_reverse]
        exact insV_sorted P le hlt hnlt htr x (hl x (by simp)) s.reverse (fun y hy => hs y (List.mem_reverse.1 hy)) (by rw [List.pairwise_reverse]; exact h)
  exact key l [] hl (by simp) (by simp)
/-- What is in order stays as it is. -/
theorem isort_id (l : List α) (h : l.Pairwise fun a b => lt b a = false) : isort lt l = l := by
  have key : ∀ (l s : List α), (s ++ l).Pairwise (fun a b => lt b a = false) → l.foldl (fun s x => insR lt x s) s = s ++ l := by
    intro l
    induction l with
    | nil => intro s _; simp
    | cons x l ih =>
      intro s h
      have hx : insR lt x s = s ++ [x] := by
        rcases List.eq_nil_or_concat s with rfl | ⟨A, p, rfl⟩
        · rfl
        · rw [List.concat_eq_append] at h ⊢
          rw [insR_snoc, if_neg]
          · simp
          · have := (List.pairwise_append.1 h).2.2 p (by simp) x (by simp)
            simp [this]
      simp only [List.foldl_cons, hx]
      rw [ih (s ++ [x]) (by simpa using h)]
      simp
  simpa [isort] using key l [] (by simpa using h)
/-- Lists in order with the same elements are the same. -/
theorem sorted_eq (P : α → Prop) (le : α → α → Prop) (hanti : ∀ a b, P a → P b → le a b → le b a → a = b) : ∀ {l l' : List α}, (∀ y ∈ l, P y) → l.Perm l' → l.Pairwise le → l'.Pairwise le → l = l'
  | [], l', _, hp, _, _ => (List.nil_perm.1 hp).symm
  | x :: l, [], _, hp, _, _ => by have := hp.length_eq; simp at this
  | x :: l, y :: l', hP, hp, h, h' => by
    have hx := List.pairwise_cons.1 h
    have hy := List.pairwise_cons.1 h'
    have hPy : P y := hP y (hp.mem_iff.2 (by simp))
    have e : x = y := by
      rcases List.mem_cons.1 (hp.mem_iff.1 (List.mem_cons_self (a := x) (l := l))) with e | hxm
      · exact e
      · rcases List.mem_cons.1 (hp.mem_iff.2 (List.mem_cons_self (a := y) (l := l'))) with e | hym
        · exact e.symm
        · exact hanti x y (hP x (by simp)) hPy (hx.1 y hym) (hy.1 x hxm)
    subst e
    rw [sorted_eq P le hanti (fun z hz => hP z (by simp [hz])) hp.cons_inv hx.2 hy.2]
end
end Go.Proofs
