/- The law AccessRules: the loops. -/
import Derived.Test.YtjdddnbddnhilaaDoorArAX
set_option linter.unusedVariables false
set_option linter.unusedSimpArgs false
set_option linter.unusedSectionVars false
namespace Go.Proofs
open Go Eng

theorem refs_loop (user : Str) (a b : Int) (ts : List GaTable) (m : List GaPermission) (hm : m.length ≤ 1000) (u : Str) (c d e f : Int) (r : GaRef) (ms : List (List GaPermission)) (us : List Str) (rs : List GaRef) (hr : rs.length ≤ 10) :
    wp (sl42_AccessRules_l4 big user a b ts m u c d e f (rs.length : Int) 0 r ms us rs) (fun x => x = .brk (user, a, b, ts, m, u, c, d, e, f, r, ms, us)) := by
  refine forS_wp sl42_AccessRules_l4_FB rs (by omega) (fun k (_ : Unit) => (user, a, b, ts, m, u, c, d, e, f, (rs.length : Int), k, r, ms, us, rs)) (fun _ _ => True) () trivial (fun rec k _ hlt _ ih => ?_) (fun rec _ _ => ?_)
  · unfold sl42_AccessRules_l4_B sl42_AccessRules_l4_b
    dsimp only
    rw [wp_bif]
    refine ⟨fun _ => ?_, fun h => by simp only [decide_eq_false_iff_not] at h; omega⟩
    rw [wp_chk, wp_bind, wp_get]
    refine ⟨inR_nat hlt, by simpa using hlt, ?_⟩
    rw [may_eq, wp_bind, wp_some, rmay_eq m hm, wp_bind, wp_some, wp_bif]
    refine ⟨fun h => by simp at h, fun _ => ?_⟩
    rw [wp_chk]
    exact ⟨inK_i64 (by omega), ih () trivial⟩
  · unfold sl42_AccessRules_l4_B sl42_AccessRules_l4_b
    dsimp only
    rw [wp_bif]
    exact ⟨fun h => by simp only [decide_eq_true_eq] at h; omega, fun _ => by rw [wp_some]⟩

theorem users_loop (user : Str) (a b : Int) (ts : List GaTable) (hts : ts.length ≤ 10) (htt : ∀ t ∈ ts, TinyT t) (m : List GaPermission) (hm : m.length ≤ 1000) (c d : Int) (r : GaRef) (ms : List (List GaPermission)) (us : List Str) (hu : us.length ≤ 10) :
    wp (sl42_AccessRules_l3 big user a b ts m c d (us.length : Int) 0 r ms us) (fun x => x = .brk (user, a, b, ts, c, d, r, ms)) := by
  refine forS_wp sl42_AccessRules_l3_FB us (by omega) (fun k (_ : Unit) => (user, a, b, ts, m, c, d, (us.length : Int), k, r, ms, us)) (fun _ _ => True) () trivial (fun rec k _ hlt _ ih => ?_) (fun rec _ _ => ?_)
  · unfold sl42_AccessRules_l3_B sl42_AccessRules_l3_b
    dsimp only
    rw [wp_bif]
    refine ⟨fun _ => ?_, fun h => by simp only [decide_eq_false_iff_not] at h; omega⟩
    rw [wp_chk, wp_bind, wp_get]
    refine ⟨inR_nat hlt, by simpa using hlt, ?_⟩
    rw [wp_bind]
    refine wp_mono (mod_wp b (m := 6) (by omega)) fun q _ => ?_
    rw [wp_bind]
    refine wp_mono (mod_wp a (m := 4) (by omega)) fun q1 _ => ?_
    rw [wp_bind]
    refine wp_mono (refs_loop user a b ts m hm _ _ _ _ _ r ms us _ (by simp)) ?_
    rintro x rfl
    dsimp only
    unfold sl42_AccessRules_k5
    have hs := vis_short m (us[(k : Int).toNat]'(by simpa using hlt)) hts htt
    rw [visible_eq m _ hts htt, wp_bind, wp_some, rvisible_eq m hm _ hts htt, wp_bind, wp_some, sameL_self _ hs.1 hs.2, wp_bind, wp_some, Bool.not_true, cond_false, wp_chk]
    exact ⟨inK_i64 (by omega), ih () trivial⟩
  · unfold sl42_AccessRules_l3_B sl42_AccessRules_l3_b
    dsimp only
    rw [wp_bif]
    exact ⟨fun h => by simp only [decide_eq_true_eq] at h; omega, fun _ => by rw [wp_some]⟩

theorem perms_loop (user : Str) (a b : Int) (ts : List GaTable) (hts : ts.length ≤ 10) (htt : ∀ t ∈ ts, TinyT t) (r : GaRef) (ms : List (List GaPermission)) (hl : ms.length ≤ 10) (hm : ∀ m ∈ ms, m.length ≤ 1000) :
    wp (sl42_AccessRules_l2 big user a b ts (ms.length : Int) 0 r ms) (fun x => x = .brk ()) := by
  refine forS_wp sl42_AccessRules_l2_FB ms (by omega) (fun k (_ : Unit) => (user, a, b, ts, (ms.length : Int), k, r, ms)) (fun _ _ => True) () trivial (fun rec k _ hlt _ ih => ?_) (fun rec _ _ => ?_)
  · unfold sl42_AccessRules_l2_B sl42_AccessRules_l2_b sl42_AccessRules_k6
    dsimp only
    rw [wp_bif]
    refine ⟨fun _ => ?_, fun h => by simp only [decide_eq_false_iff_not] at h; omega⟩
    rw [wp_chk, wp_bind, wp_get]
    refine ⟨inR_nat hlt, by simpa using hlt, ?_⟩
    simp only [Int.toNat_natCast]
    have hmk := hm _ (List.getElem_mem hlt)
    rw [pvalid_eq _ hmk, wp_bind, wp_some, rpvalid_eq _ hmk, wp_bind, wp_some, wp_bif]
    refine ⟨fun h => by simp at h, fun _ => ?_⟩
    rw [wp_bind]
    refine wp_mono (users_loop user a b ts hts htt _ hmk _ _ r ms _ (by simp)) ?_
    rintro x rfl
    dsimp only
    rw [wp_chk]
    exact ⟨inK_i64 (by omega), ih () trivial⟩
  · unfold sl42_AccessRules_l2_B sl42_AccessRules_l2_b
    dsimp only
    rw [wp_bif]
    exact ⟨fun h => by simp only [decide_eq_true_eq] at h; omega, fun _ => by rw [wp_some]⟩

theorem fill_loop (raw : List GaPermission) (user : Str) (a b : Int) (r : GaRef) (d : Gk_Dice) (l : List GaPermission) (h1 : 1 ≤ l.length) (h5 : l.length ≤ 5) :
    wp (sl42_AccessRules_l1 big raw user a b r d l) (fun x => ∃ l', x = (raw, user, a, b, r, d, l') ∧ l'.length ≤ 70) := by
  refine whileS_wp sl42_AccessRules_l1_FB (fun (l : List GaPermission) => (raw, user, a, b, r, d, l)) (fun l => 1 ≤ l.length ∧ l.length ≤ 70) (fun l => 70 - l.length) l ⟨h1, by omega⟩ (by omega) ?_
  rintro rec l ⟨h1, h2⟩ ih
  unfold sl42_AccessRules_l1_B sl42_AccessRules_l1_b
  dsimp only
  rw [wp_bind]
  refine wp_mono (mod_wp b (m := 2) (by omega)) fun q hq => ?_
  rw [wp_chk, wp_bif]
  refine ⟨inK_i64 (by omega), fun h => ?_, fun _ => by rw [wp_some]; exact ⟨l, rfl, h2⟩⟩
  simp only [decide_eq_true_eq] at h
  rw [wp_chk, wp_bind, wp_get]
  refine ⟨inR_ok (by omega), by simp; omega, ?_⟩
  rw [wp_chk]
  exact ⟨room_ok (by simp only [List.length_singleton]; omega), ih _ ⟨by simp, by simp; omega⟩ (by simp; omega)⟩

theorem accessRules_law (t : List Int) (raw : List GaPermission) (user : Str) (r : GaRef) (what a b : Int) : sl42_AccessRules t raw user r what a b = some true := by
  refine eq_of_wp ?_
  have j1 : wp (sl42_AccessRules_j1 t raw user what a b true r) (· = true) := by
    unfold sl42_AccessRules_j1
    rw [cond_true]; exact awake42_wp rfl
  unfold sl42_AccessRules sk_Light
  rw [wp_bind, wp_some, wp_bif]
  refine ⟨fun _ => j1, fun hl => ?_⟩
  simp only [Bool.not_eq_false', decide_eq_true_eq] at hl
  rw [wp_bif]
  refine ⟨fun _ => j1, fun hraw => ?_⟩
  simp only [decide_eq_false_iff_not] at hraw
  cases hu : decide ((user.length : Int) > 100) with
  | true => exact j1
  | false =>
    have j3 : ∀ (d : Gk_Dice) (l : List GaPermission), DiceOk d → l.length ≤ 1000 → wp ((sk_Tables d 4).bind fun (tables, t97) => sl42_AccessRules_j4 raw user a b r l tables) (· = true) := fun d l hd hl => by
      rw [wp_bind]
      refine wp_mono (tables_wp hd (by omega)) fun ⟨ts, d2⟩ ⟨hts, _⟩ => ?_
      dsimp only at hts ⊢
      unfold sl42_AccessRules_j4 sl42_AccessRules_k7
      rw [wp_bind]
      refine wp_mono (perms_loop user a b ts hts.len (fun t ht => tiny_of (hts.tabs t ht).1) r _ (by simp) ?_) ?_
      · intro m hm
        simp only [List.mem_cons, List.not_mem_nil, or_false] at hm
        rcases hm with rfl | rfl
        · exact hl
        · omega
      · rintro x rfl
        exact awake42_wp rfl
    unfold sl42_AccessRules_j1 sk_Roll
    rw [cond_false, wp_bind, wp_some, wp_bind]
    refine wp_mono (rules_wp (d := ⟨t, 0⟩) ⟨by simp, by simp, by simp only; omega⟩) fun ⟨l, d1⟩ ⟨hlen, hd1⟩ => ?_
    dsimp only at hlen hd1 ⊢
    rw [wp_bind]
    refine wp_mono (mod_wp a (m := (l.length : Int)) (by omega)) fun q1 hq1 => ?_
    rw [wp_chk, wp_bind]
    refine ⟨inR_ok hq1, wp_mono (mod_wp what (m := 7) (by omega)) fun q2 hq2 => ?_⟩
    have hlt : q1.toNat < l.length := by omega
    unfold sl42_AccessRules_j3 sl42_AccessRules_k2
    rw [wp_bif]
    refine ⟨fun _ => ?_, fun _ => ?_⟩
    · rw [wp_bind]
      refine wp_mono (mod_wp b (m := 3) (by omega)) fun q3 hq3 => ?_
      have h3 : q3 = 0 ∨ q3 = 1 ∨ q3 = 2 := by omega
      rw [wp_chk, wp_bind, wp_get]
      refine ⟨inR_ok (by simp only [List.length_cons, List.length_nil]; omega), by simp only [List.length_cons, List.length_nil]; omega, ?_⟩
      rw [wp_chk, wp_bind, wp_get]
      refine ⟨?_, hlt, j3 _ _ hd1 (by simp; omega)⟩
      rcases h3 with rfl | rfl | rfl <;> rfl
    rw [wp_bif]
    refine ⟨fun _ => ?_, fun _ => ?_⟩
    · rw [wp_bind]
      refine wp_mono (mod_wp b (m := 3) (by omega)) fun q3 hq3 => ?_
      rw [wp_chk, wp_bind, wp_get]
      refine ⟨inR_ok (by simp only [List.length_cons, List.length_nil]; omega), by simp only [List.length_cons, List.length_nil]; omega, ?_⟩
      rw [wp_bind, wp_get]
      exact ⟨hlt, j3 _ _ hd1 (by simp; omega)⟩
    rw [wp_bif]
    refine ⟨fun _ => ?_, fun _ => ?_⟩
    · rw [wp_bind]
      refine wp_mono (mod_wp b (m := 3) (by omega)) fun q3 hq3 => ?_
      rw [wp_chk, wp_bind, wp_get]
      refine ⟨inR_ok (by simp only [List.length_cons, List.length_nil]; omega), by simp only [List.length_cons, List.length_nil]; omega, ?_⟩
      rw [wp_bind, wp_get]
      exact ⟨hlt, j3 _ _ hd1 (by simp; omega)⟩
    rw [wp_bif]
    refine ⟨fun _ => ?_, fun _ => j3 _ _ hd1 (by omega)⟩
    rw [wp_bind]
    refine wp_mono (fill_loop raw user a b r d1 l hlen.1 hlen.2) ?_
    rintro x ⟨l', rfl, hl'⟩
    exact j3 d1 l' hd1 (by omega)

end Go.Proofs
