/- Rows in order; an insertion sort; table.Sort. -/
import Derived.Test.YtahbkngofdpehaaGreatDoorTtTQ3g
set_option linter.unusedVariables false
set_option linter.unusedSimpArgs false
set_option linter.unusedSectionVars false
namespace Go.Proofs
open Go Eng

/-! ## Rows in order -/

def rowC : List G_api_Cell → List G_api_Cell → Int
  | a :: r, b :: s => if cellC a b = 0 then rowC r s else cellC a b
  | _, _ => 0
def AllM (l : List G_api_Cell) : Prop := ∀ c ∈ l, CellM c
theorem ceq_of {a b : G_api_Cell} (ha : CellM a) (hb : CellM b) (h : cellC a b = 0) : a = b := by
  obtain ⟨h1, h2⟩ := (cellC_zero ha hb).1 h
  cases a; cases b; simp only at h1 h2; rw [h1, h2]
theorem rowC_neg : ∀ (a b : List G_api_Cell), rowC b a = -rowC a b
  | [], [] => rfl
  | [], _ :: _ => rfl
  | _ :: _, [] => rfl
  | x :: a, y :: b => by
    unfold rowC
    have := cellC_neg x y
    have ih := rowC_neg a b
    by_cases h : cellC x y = 0
    · rw [if_pos h, if_pos (by omega), ih]
    · rw [if_neg h, if_neg (by omega), this]
theorem rowC_self (a : List G_api_Cell) : rowC a a = 0 := by have := rowC_neg a a; omega
theorem rowC_zero : ∀ {a b : List G_api_Cell}, AllM a → AllM b → a.length = b.length → rowC a b = 0 → a = b
  | [], [], _, _, _, _ => rfl
  | [], _ :: _, _, _, h, _ => by simp at h
  | _ :: _, [], _, _, h, _ => by simp at h
  | x :: a, y :: b, ha, hb, hl, h => by
    unfold rowC at h
    by_cases hc : cellC x y = 0
    · rw [if_pos hc] at h
      rw [ceq_of (ha x (by simp)) (hb y (by simp)) hc, rowC_zero (fun c hc => ha c (by simp [hc])) (fun c hc => hb c (by simp [hc])) (by simpa using hl) h]
    · rw [if_neg hc] at h; exact absurd h hc
section
variable {α : Type} (lt : α → α → Bool)
def insV (x : α) : List α → List α
  | [] => [x]
  | p :: r => if lt x p then p :: insV x r else x :: p :: r
def insR (x : α) (A : List α) : List α := (insV lt x A.reverse).reverse
def isort (l : List α) : List α := l.foldl (fun s x => insR lt x s) []
variable {lt}
theorem insR_nil (x : α) : insR lt x [] = [x] := rfl
theorem insR_snoc (x p : α) (A : List α) : insR lt x (A ++ [p]) = if lt x p then insR lt x A ++ [p] else A ++ [p, x] := by
  unfold insR
  rw [List.reverse_append, List.reverse_singleton, List.singleton_append, insV]
  split
  · rw [List.reverse_cons]
  · simp
theorem insV_perm (x : α) : ∀ l : List α, (insV lt x l).Perm (x :: l)
  | [] => .refl _
  | p :: r => by
    unfold insV
    split
    · exact ((insV_perm x r).cons p).trans (.swap _ _ _)
    · exact .refl _
theorem insR_perm (x : α) (A : List α) : (insR lt x A).Perm (A ++ [x]) := by
  unfold insR
  refine (List.reverse_perm _).trans ((insV_perm x _).trans ?_)
  refine (List.Perm.cons x (List.reverse_perm A)).trans ?_
  exact (List.perm_append_singleton x A).symm
theorem isort_snoc (l : List α) (x : α) : isort lt (l ++ [x]) = insR lt x (isort lt l) := by simp [isort]
theorem isort_perm (l : List α) : (isort lt l).Perm l := by
  have key : ∀ (l s : List α), (l.foldl (fun s x => insR lt x s) s).Perm (s ++ l) := by
    intro l
    induction l with
    | nil => intro s; simp
    | cons x l ih =>
      intro s
      refine (ih _).trans ?_
      refine ((insR_perm x s).append_right l).trans ?_
      simp
  simpa [isort] using key l []
theorem isort_len (l : List α) : (isort lt l).length = l.length := (isort_perm l).length_eq

end
end Go.Proofs
