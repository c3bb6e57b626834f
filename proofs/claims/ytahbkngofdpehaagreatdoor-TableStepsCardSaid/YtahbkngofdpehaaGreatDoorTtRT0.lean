/- Tables: which are valid: the definitions. -/
import Derived.Test.YtahbkngofdpehaaGreatDoorTtRV
set_option linter.unusedVariables false
set_option linter.unusedSimpArgs false
set_option linter.unusedSectionVars false
namespace Go.Proofs
open Go Eng
theorem all_loop {α X : Type} {f : Nat → Int → Option (Out Unit X)} {body : (Int → Option (Out Unit X)) → Int → Option (Out Unit X)} (xs : List α) (p : α → Bool) (x : X) (hf : ∀ n i, f (n + 1) i = body (f n) i) (hlen : xs.length ≤ 1000000000000)
    (hb : ∀ (rec : Int → Option (Out Unit X)) (i : Nat) (h : i < xs.length) (Q : Out Unit X → Prop), (p xs[i] = false → Q (.ret x)) → (p xs[i] = true → wp (rec ((i : Int) + 1)) Q) → wp (body rec i) Q)
    (he : ∀ (rec : Int → Option (Out Unit X)) (Q : Out Unit X → Prop), Q (.brk ()) → wp (body rec (xs.length : Int)) Q) :
    wp (f big 0) (fun r => r = if xs.all p then .brk () else .ret x) := by
  refine loop_wp hf (fun i => ∃ k : Nat, k ≤ xs.length ∧ i = (k : Int) ∧ (xs.take k).all p = true) (fun i => xs.length - i.toNat) _ ?_ big 0 ⟨0, Nat.zero_le _, rfl, by simp⟩ (big_lt (by omega))
  rintro rec i ⟨k, hk, rfl, hp⟩ ih
  by_cases hlt : k < xs.length
  · refine hb rec k hlt _ (fun h => ?_) (fun h => ih _ ⟨k + 1, by omega, by omega, ?_⟩ (by omega))
    · have : xs.all p = false := List.all_eq_false.2 ⟨xs[k], List.getElem_mem _, by rw [h]; simp⟩
      rw [this]; rfl
    · rw [List.take_succ_eq_append_getElem hlt, List.all_append, hp]; simp [h]
  · have : k = xs.length := by omega
    subst this
    refine he rec _ ?_
    rw [List.take_length] at hp
    rw [hp]; rfl

def fineS (s : Str) : Bool := decide ((s.length : Int) ≤ 1024) && vs s
def cellS (c : G_api_Cell) : Bool := fineS c.Text && (!c.Null || c.Text == [])
def rowsS (t : G_api_Table) : Int := match t.Columns with | [] => 0 | c :: _ => c.Cells.length
def colS (n : Int) (c : G_api_Column) : Bool := fineS c.Name && ((c.Cells.length : Int) == n && c.Cells.all cellS)
def tableS (t : G_api_Table) : Bool := decide (0 ≤ t.ID) && (decide (t.ID ≤ 1073741824) && (fineS t.Name && (decide ((t.Columns.length : Int) ≤ 64) && (decide (rowsS t ≤ 4096) && t.Columns.all (colS (rowsS t))))))

def rowsL : List G_api_Column → Int
  | [] => 0
  | c :: _ => (c.Cells.length : Int)
theorem rows_head : ∀ (cs : List G_api_Column) (h : 0 < cs.length), rowsL cs = (cs[0].Cells.length : Int)
  | _ :: _, _ => rfl
theorem rowsS_eq (t : G_api_Table) : rowsS t = rowsL t.Columns := by unfold rowsS rowsL; rfl

def TextsOk (t : G_api_Table) : Prop := t.Name.length ≤ 9223372036854775807 ∧ ∀ c ∈ t.Columns, c.Name.length ≤ 9223372036854775807 ∧ ∀ x ∈ c.Cells, x.Text.length ≤ 9223372036854775807

def rcolS (n : Int) (c : G_api_Column) : Bool := fineS c.Name && (decide ((c.Cells.length : Int) ≤ 4096) && ((c.Cells.length : Int) == n && c.Cells.all cellS))


end Go.Proofs
