/- The law AccessRules. -/
import Derived.Test.YtahbkngofdpehaaDoorAaAWb
set_option linter.unusedVariables false
set_option linter.unusedSimpArgs false
set_option linter.unusedSectionVars false
namespace Go.Proofs
open Go Eng

def okP (p : G_api_Permission) : Bool := !(p.User == []) && (decide (p.User.length ≤ 40) && (decide (0 ≤ p.Table) && (decide (p.Table ≤ 1073741824) && (decide (-1 ≤ p.Column) && decide (p.Column < 64)))))
def validP (l : List G_api_Permission) : Bool := l.all okP && decide ((l.length : Int) ≤ 64)

theorem valid_out {l : List G_api_Permission} {o : Option (Out (List G_api_Permission) Bool)} (h : wp o (fun x => x = if l.all okP then .brk l else .ret false)) (f : List G_api_Permission → Option Bool) (hf : ∀ l, f l = some (decide ((l.length : Int) ≤ 64))) :
    (o.bind fun | .ret q => some q | .brk x => f x) = some (validP l) := by
  obtain ⟨x, rfl, rfl⟩ := h
  unfold validP
  cases l.all okP with
  | true => exact hf l
  | false => rfl

theorem pvalid_eq (l : List G_api_Permission) (hl : l.length ≤ 1000) : s_access_Valid l = some (validP l) := by
  unfold s_access_Valid
  refine valid_out (f := s_access_Valid_k2) ?_ (fun _ => rfl)
  refine forS_wp s_access_Valid_l1_FB l (by omega) (fun k (_ : Unit) => (l, l, (l.length : Int), k)) (fun k _ => (l.take k).all okP = true) () (by simp) (fun rec k _ hlt hP ih => ?_) (fun rec _ hP => ?_)
  · unfold s_access_Valid_l1_B s_access_Valid_l1_b s_access_Valid_j1
    dsimp only
    rw [wp_bif]
    refine ⟨fun _ => ?_, fun h => by simp only [decide_eq_false_iff_not] at h; omega⟩
    rw [wp_bind, idx_nat hlt, wp_some]
    have bad : okP l[k] = false → wp (some (.ret false)) (fun x : Out (List G_api_Permission) Bool => x = if l.all okP then .brk l else .ret false) := fun h => by
      have : l.all okP = false := List.all_eq_false.2 ⟨_, List.getElem_mem hlt, by rw [h]; simp⟩
      rw [wp_some, this]; rfl
    have good : okP l[k] = true → wp (chk (inK .i64 ((k : Int) + 1)) (rec (l, l, (l.length : Int), (k : Int) + 1))) (fun x => x = if l.all okP then .brk l else .ret false) := fun h => by
      rw [wp_chk]
      exact ⟨inK_i64 (by omega), ih () (by rw [List.take_succ_eq_append_getElem hlt, List.all_append, hP]; simp [h])⟩
    unfold okP at bad good
    rw [wp_bif]
    refine ⟨fun h => by rw [cond_true]; exact bad (by rw [h]; rfl), fun h1 => ?_⟩
    rw [wp_bif]
    refine ⟨fun h => by rw [cond_true]; simp only [decide_eq_true_eq] at h; exact bad (by rw [decide_eq_false (show ¬ l[k].User.length ≤ 40 by omega)]; simp), fun h2 => ?_⟩
    rw [wp_bif]
    refine ⟨fun h => by rw [cond_true]; simp only [decide_eq_true_eq] at h; exact bad (by rw [decide_eq_false (show ¬ 0 ≤ l[k].Table by omega)]; simp), fun h3 => ?_⟩
    rw [wp_bif]
    refine ⟨fun h => by rw [cond_true]; simp only [decide_eq_true_eq] at h; exact bad (by rw [decide_eq_false (show ¬ l[k].Table ≤ 1073741824 by omega)]; simp), fun h4 => ?_⟩
    rw [wp_bif]
    refine ⟨fun h => by rw [cond_true]; simp only [decide_eq_true_eq] at h; exact bad (by rw [decide_eq_false (show ¬ -1 ≤ l[k].Column by omega)]; simp), fun h5 => ?_⟩
    simp only [decide_eq_false_iff_not] at h2 h3 h4 h5
    rw [wp_bif]
    refine ⟨fun h => ?_, fun h => ?_⟩
    · simp only [decide_eq_true_eq] at h
      exact bad (by rw [decide_eq_false (show ¬ l[k].Column < 64 by omega)]; simp)
    · simp only [decide_eq_false_iff_not] at h
      exact good (by rw [h1, decide_eq_true (show l[k].User.length ≤ 40 by omega), decide_eq_true (show 0 ≤ l[k].Table by omega), decide_eq_true (show l[k].Table ≤ 1073741824 by omega), decide_eq_true (show -1 ≤ l[k].Column by omega), decide_eq_true (show l[k].Column < 64 by omega)]; rfl)
  · rw [List.take_length] at hP
    unfold s_access_Valid_l1_B s_access_Valid_l1_b
    dsimp only
    rw [wp_bif]
    exact ⟨fun h => by simp only [decide_eq_true_eq] at h; omega, fun _ => by rw [wp_some, hP]; rfl⟩

def exP : List G_api_Permission := [⟨[117], true, 0, -1⟩, ⟨[117], false, 7, 0⟩]
def exT : G_api_Table := ⟨7, [], [⟨[110], [⟨false, [120]⟩]⟩, ⟨[110], [⟨false, [120]⟩]⟩]⟩
theorem exT_tiny : TinyT exT := ⟨by decide, by decide, by intro c hc; simp only [exT, List.mem_cons, List.not_mem_nil, or_false, or_self] at hc; subst hc; decide⟩
theorem awake42 : s_tablefinderlaw42_awake = some true := by
  have hv : s_access_Visible exP [117] [exT] = some (visS exP [117] [exT]) := visible_eq exP [117] (by decide) (by simp only [List.mem_singleton, forall_eq]; exact exT_tiny)
  have hp : s_access_Valid exP = some (validP exP) := pvalid_eq exP (by decide)
  unfold s_tablefinderlaw42_awake
  rw [show (([(G_api_Permission.mk ([117] : Str) true 0 (-1)), (G_api_Permission.mk ([117] : Str) false 7 0)] : (List G_api_Permission))) = exP from rfl, show ([(G_api_Table.mk 7 ([] : Str) ([(G_api_Column.mk ([110] : Str) ([(G_api_Cell.mk false ([120] : Str))] : (List G_api_Cell))), (G_api_Column.mk ([110] : Str) ([(G_api_Cell.mk false ([120] : Str))] : (List G_api_Cell)))] : (List G_api_Column)))] : (List G_api_Table)) = [exT] from rfl, hv, hp]
  show (_ : Option Bool) = some true
  kernel_rfl
theorem awake42_wp {Q : Bool → Prop} (h : Q true) : wp (s_tablefinderlaw42_awake.bind fun q => some q) Q := by
  rw [awake42]; exact ⟨true, rfl, h⟩

end Go.Proofs
