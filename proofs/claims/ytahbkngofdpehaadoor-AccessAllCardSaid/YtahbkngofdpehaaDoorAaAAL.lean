/- AccessAll: a user who may see everything sees the tables that have columns as they are, one who may see nothing sees none. -/
import Derived.Test.YtahbkngofdpehaaDoorAaAXb
set_option linter.unusedVariables false
set_option linter.unusedSimpArgs false
set_option linter.unusedSectionVars false
namespace Go.Proofs
open Go Eng

def allP (b : Bool) : G_api_Permission := ⟨[119], b, 0, -1⟩
theorem may_all (m : List G_api_Permission) (b : Bool) (id : Int) (k : Nat) : mayT (m ++ [allP b]) [119] id k = b := by
  unfold mayT
  rw [mayS_snoc, show match1 [119] ⟨id, (k : Int)⟩ (allP b) = true from rfl, if_pos rfl]
  rfl
theorem any_all (m : List G_api_Permission) (b : Bool) (id : Int) (cols : List G_api_Column) : anyS (mayT (m ++ [allP b]) [119] id) cols = (b && !cols.isEmpty) := by
  unfold anyS
  have : mayT (m ++ [allP b]) [119] id = fun _ => b := funext fun k => may_all m b id k
  rw [this]
  cases cols with
  | nil => simp
  | cons c l => cases b <;> simp [List.zipIdx]
theorem view_all (m : List G_api_Permission) (id : Int) (n : Nat) (cols : List G_api_Column) : viewS (mayT (m ++ [allP true]) [119] id) n cols = cols := by
  unfold viewS
  have : mayT (m ++ [allP true]) [119] id = fun _ => true := funext fun k => may_all m true id k
  rw [this]
  simp
def wantS (ts : List G_api_Table) : List G_api_Table := ts.filter fun t => !t.Columns.isEmpty
theorem vis_all (m : List G_api_Permission) (ts : List G_api_Table) : visS (m ++ [allP true]) [119] ts = wantS ts := by
  unfold visS wantS
  have e1 : (fun t : G_api_Table => anyS (mayT (m ++ [allP true]) [119] t.ID) t.Columns) = fun t => !t.Columns.isEmpty := funext fun t => by rw [any_all]; rfl
  have e2 : seenT (m ++ [allP true]) [119] = id := funext fun t => by unfold seenT; rw [view_all]; rfl
  rw [e1, e2, List.map_id]
theorem vis_none (m : List G_api_Permission) (ts : List G_api_Table) : visS (m ++ [allP false]) [119] ts = [] := by
  unfold visS
  have e1 : (fun t : G_api_Table => anyS (mayT (m ++ [allP false]) [119] t.ID) t.Columns) = fun _ => false := funext fun t => by rw [any_all]; rfl
  rw [e1]; simp
theorem vis_nil (u : Str) (ts : List G_api_Table) : visS [] u ts = [] := by
  unfold visS
  have e1 : (fun t : G_api_Table => anyS (mayT [] u t.ID) t.Columns) = fun _ => false := funext fun t => by
    unfold anyS
    have : mayT [] u t.ID = fun _ => false := funext fun k => rfl
    rw [this]; simp
  rw [e1]; simp

theorem want_snoc (l : List G_api_Table) (t : G_api_Table) : wantS (l ++ [t]) = if t.Columns.isEmpty then wantS l else wantS l ++ [t] := by
  unfold wantS
  rw [List.filter_append]
  cases h : t.Columns.isEmpty <;> simp [h]

theorem want_loop (rules : List G_api_Permission) {ts : List G_api_Table} (hl : ts.length ≤ 10) :
    wp (s_tablefinderlaw42_AccessAll_l1 big (ts.length : Int) 0 ts rules []) (fun y => y = (ts, rules, wantS ts)) := by
  refine forS_wp s_tablefinderlaw42_AccessAll_l1_FB ts (by omega) (fun i (t : List G_api_Table) => ((ts.length : Int), i, ts, rules, t)) (fun i t => t.length ≤ i ∧ t = wantS (ts.take i)) [] ⟨by simp, rfl⟩ ?_ ?_
  · rintro rec i t hlt ⟨htl, rfl⟩ ih
    unfold s_tablefinderlaw42_AccessAll_l1_B s_tablefinderlaw42_AccessAll_l1_b s_tablefinderlaw42_AccessAll_j2
    dsimp only
    rw [wp_bif]
    refine ⟨fun _ => ?_, fun h => by simp only [decide_eq_false_iff_not] at h; omega⟩
    have hs := want_snoc (ts.take i) ts[i]
    rw [← List.take_succ_eq_append_getElem hlt] at hs
    rw [wp_chk, wp_bind, wp_get]
    refine ⟨inR_nat hlt, by simpa using hlt, ?_⟩
    simp only [Int.toNat_natCast]
    rw [wp_bif]
    refine ⟨fun h => ?_, fun h => ?_⟩
    · have hne : ts[i].Columns.isEmpty = false := by
        simp only [decide_eq_true_eq] at h
        cases hc : ts[i].Columns with
        | nil => rw [hc] at h; simp at h
        | cons c l => rfl
      rw [hne, if_neg (by simp)] at hs
      rw [wp_chk, wp_chk]
      exact ⟨room_ok (by simp only [List.length_singleton]; omega), inK_i64 (by omega), ih _ ⟨by simp; omega, hs.symm⟩⟩
    · have he : ts[i].Columns.isEmpty = true := by
        simp only [decide_eq_false_iff_not] at h
        cases hc : ts[i].Columns with
        | nil => rfl
        | cons c l => rw [hc] at h; simp at h
      rw [he, if_pos rfl] at hs
      rw [wp_chk]
      exact ⟨inK_i64 (by omega), ih _ ⟨by omega, hs.symm⟩⟩
  · rintro rec t ⟨_, rfl⟩
    rw [List.take_length]
    unfold s_tablefinderlaw42_AccessAll_l1_B s_tablefinderlaw42_AccessAll_l1_b
    dsimp only
    rw [wp_bif]
    exact ⟨fun h => by simp only [decide_eq_true_eq] at h; omega, fun _ => by rw [wp_some]⟩

theorem accessAll_law (t : List Int) (raw : List G_api_Permission) : s_tablefinderlaw42_AccessAll t raw = some true := by
  refine eq_of_wp ?_
  have jt : wp (s_tablefinderlaw42_AccessAll_j1 t raw true) (· = true) := by
    unfold s_tablefinderlaw42_AccessAll_j1
    rw [cond_true]
    exact awake42_wp rfl
  unfold s_tablefinderlaw42_AccessAll s_tablefinderkit_Light
  rw [wp_bind, wp_some, wp_bif]
  refine ⟨fun _ => jt, fun hl => ?_⟩
  simp only [Bool.not_eq_false', decide_eq_true_eq] at hl
  by_cases hr : (raw.length : Int) > 40
  · rw [decide_eq_true hr]; exact jt
  rw [decide_eq_false hr]
  unfold s_tablefinderlaw42_AccessAll_j1 s_tablefinderkit_Roll
  rw [cond_false, wp_bind, wp_some, wp_bind]
  refine wp_mono (tables_wp (d := ⟨t, 0⟩) ⟨by simp, by simp, by simp only; omega⟩ (by omega)) fun ⟨ts, d2⟩ ⟨hts, _⟩ => ?_
  dsimp only at hts ⊢
  have htt : ∀ t ∈ ts, TinyT t := fun t ht => tiny_of (hts.tabs t ht).1
  rw [Int.toNat_natCast, List.take_length, wp_chk, wp_chk, wp_chk]
  refine ⟨decide_eq_true (by omega), rfl, room_ok (by simp only [List.length_singleton]; omega), ?_⟩
  rw [wp_bind]
  refine wp_mono (want_loop _ hts.len) ?_
  rintro x rfl
  dsimp only
  unfold s_tablefinderlaw42_AccessAll_k3
  rw [wp_chk]
  refine ⟨room_ok (by simp only [List.length_singleton, List.length_append]; omega), ?_⟩
  have hv := vis_short (raw ++ [allP true]) [119] hts.len htt
  rw [vis_all] at hv
  show wp ((s_access_Visible (raw ++ [allP true]) [119] ts).bind _) _
  rw [visible_eq _ _ hts.len htt, vis_all, wp_bind, wp_some, sameL_self _ hv.1 hv.2, wp_bind, wp_some, cond_true]
  show wp ((s_access_Visible ((raw ++ [allP true]) ++ [allP false]) [119] ts).bind _) _
  rw [visible_eq _ _ hts.len htt, vis_none, wp_bind, wp_some]
  show wp ((s_access_Visible [] [119] ts).bind _) _
  rw [visible_eq _ _ hts.len htt, vis_nil, wp_bind, wp_some]
  unfold s_tablefinderlaw42_AccessAll_j4
  exact awake42_wp rfl
end Go.Proofs
