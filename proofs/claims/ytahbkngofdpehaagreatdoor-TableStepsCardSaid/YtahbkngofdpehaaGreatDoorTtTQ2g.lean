/- Rows as texts, and how often each is there. -/
import Derived.Test.YtahbkngofdpehaaGreatDoorTtTQ1g
set_option linter.unusedVariables false
set_option linter.unusedSimpArgs false
set_option linter.unusedSectionVars false
namespace Go.Proofs
open Go Eng

abbrev Cnt := List (Str × Int)
def getC (m : Cnt) (s : Str) : Int := (lookB (k := .str) (v := (.int .i64)) (car := carU) m s).getD (0 : Int)
def addC (m : Cnt) (s : Str) : Cnt := setB (k := .str) (v := (.int .i64)) (car := carU) m s (getC m s + 1)
def lookC (m : Cnt) (s : Str) : Option Int := lookB (k := .str) (v := (.int .i64)) (car := carU) m s
theorem find_key (m : Cnt) (s : Str) : lookC m s = (m.find? fun e => s == e.1).map (·.2) := rfl
theorem lookC_cons (k : Str) (v : Int) (m : Cnt) (s : Str) : lookC ((k, v) :: m) s = if s = k then some v else lookC m s := by
  rw [find_key, find_key, List.find?_cons]
  by_cases h : s = k
  · subst h; simp
  · rw [if_neg h]
    have : (s == k) = false := by simpa using h
    simp only [this]
theorem addC_cons (k : Str) (v : Int) (m : Cnt) (s : Str) (hn : k ∉ m.map (·.1)) : addC ((k, v) :: m) s = if s = k then (k, v + 1) :: m else (k, v) :: addC m s := by
  have hg : getC ((k, v) :: m) s = (lookC ((k, v) :: m) s).getD 0 := rfl
  have hg' : getC m s = (lookC m s).getD 0 := rfl
  unfold addC
  rw [hg, lookC_cons]
  by_cases h : s = k
  · subst h
    have hm : ∀ e ∈ m, keyB (car := carU) .str s e.1 = false := fun e he => by
      show (s == e.1) = false
      rw [beq_eq_false_iff_ne]; intro hc
      exact hn (List.mem_map.2 ⟨e, he, hc.symm⟩)
    have hk : keyB (car := carU) .str s s = true := by show (s == s) = true; simp
    simp only [setB, List.any_cons, if_true, List.map_cons, hk, Bool.true_or, Option.getD_some, List.cons.injEq, true_and]
    conv => rhs; rw [← List.map_id m]
    exact List.map_congr_left fun e he => by simp [hm e he]
  · have hk : keyB (car := carU) .str s k = false := by show (s == k) = false; simpa using h
    rw [if_neg h, if_neg h, hg']
    simp only [setB, List.any_cons, hk, Bool.false_or, List.map_cons, Bool.false_eq_true, if_false]
    split <;> rfl

/-- The count of a list of texts: distinct keys, each with its number. -/
structure CntOf (l : List Str) (m : Cnt) : Prop where
  nodup : (m.map (·.1)).Nodup
  look : ∀ k, lookC m k = if k ∈ l then some ((l.count k : Nat) : Int) else none

theorem lookC_mem : ∀ {m : Cnt} {k : Str} {v : Int}, lookC m k = some v → (k, v) ∈ m
  | [], _, _, h => by simp [find_key] at h
  | (q, u) :: m, k, v, h => by
    rw [lookC_cons] at h
    split at h
    · rename_i he; simp only [Option.some.injEq] at h; subst he h; simp
    · exact List.mem_cons_of_mem _ (lookC_mem h)
theorem lookC_of_mem : ∀ {m : Cnt} {k : Str} {v : Int}, (m.map (·.1)).Nodup → (k, v) ∈ m → lookC m k = some v
  | [], _, _, _, h => by simp at h
  | (q, u) :: m, k, v, hn, h => by
    rw [List.map_cons, List.nodup_cons] at hn
    rw [lookC_cons]
    rcases List.mem_cons.1 h with h | h
    · simp only [Prod.mk.injEq] at h; rw [if_pos h.1, h.2]
    · rw [if_neg (fun (e : k = q) => hn.1 (List.mem_map.2 ⟨(k, v), h, e⟩))]; exact lookC_of_mem hn.2 h
theorem lookC_keys {m : Cnt} {k : Str} : (lookC m k).isSome = true ↔ k ∈ m.map (·.1) := by
  induction m with
  | nil => simp [find_key]
  | cons e m ih =>
    obtain ⟨q, u⟩ := e
    rw [lookC_cons, List.map_cons, List.mem_cons, ← ih]
    by_cases h : k = q
    · simp [h]
    · simp [h]

theorem lookC_addC : ∀ (m : Cnt) (s k : Str), (m.map (·.1)).Nodup → lookC (addC m s) k = if k = s then some (getC m s + 1) else lookC m k
  | [], s, k, _ => by
    have : addC [] s = [(s, 1)] := rfl
    rw [this, lookC_cons]
    rfl
  | (q, v) :: m, s, k, hn => by
    rw [List.map_cons, List.nodup_cons] at hn
    rw [addC_cons _ _ _ _ hn.1]
    have hg : getC ((q, v) :: m) s = (lookC ((q, v) :: m) s).getD 0 := rfl
    rw [hg, lookC_cons q v m s]
    by_cases h : s = q
    · subst h
      rw [if_pos rfl, if_pos rfl, lookC_cons, lookC_cons]
      by_cases hk : k = s
      · rw [if_pos hk, if_pos hk]; rfl
      · rw [if_neg hk, if_neg hk, if_neg hk]
    · rw [if_neg h, if_neg h, lookC_cons, lookC_addC m s k hn.2, lookC_cons]
      by_cases hk : k = s
      · subst hk; rw [if_neg h, if_pos rfl, if_pos rfl]; rfl
      · rw [if_neg hk, if_neg hk]
theorem nodup_addC : ∀ (m : Cnt) (s : Str), (m.map (·.1)).Nodup → ((addC m s).map (·.1)).Nodup
  | [], s, _ => by
    have : addC [] s = [(s, 1)] := rfl
    rw [this]; simp
  | (q, v) :: m, s, hn => by
    have hn0 := hn
    rw [List.map_cons, List.nodup_cons] at hn
    rw [addC_cons _ _ _ _ hn.1]
    split
    · exact hn0
    · rename_i h
      rw [List.map_cons, List.nodup_cons]
      refine ⟨fun hm => ?_, nodup_addC m s hn.2⟩
      have := lookC_keys.2 hm
      rw [lookC_addC m s q hn.2, if_neg (fun e => h e.symm)] at this
      exact hn.1 (lookC_keys.1 this)

theorem cntOf_nil : CntOf [] [] := ⟨by simp, fun k => by simp [find_key]⟩
theorem CntOf.get {l : List Str} {m : Cnt} (h : CntOf l m) (k : Str) : getC m k = ((l.count k : Nat) : Int) := by
  show (lookC m k).getD 0 = _
  rw [h.look]
  split
  · rfl
  · rename_i hk
    rw [List.count_eq_zero.2 hk]; rfl
theorem CntOf.snoc {l : List Str} {m : Cnt} (h : CntOf l m) (s : Str) : CntOf (l ++ [s]) (addC m s) := by
  refine ⟨nodup_addC m s h.nodup, fun k => ?_⟩
  rw [lookC_addC m s k h.nodup, h.get, h.look]
  by_cases hk : k = s
  · subst hk
    rw [if_pos rfl, if_pos (by simp), List.count_append, List.count_singleton_self]
    rfl
  · rw [if_neg hk]
    have e : (k ∈ l ++ [s]) = (k ∈ l) := by simp [hk]
    have e2 : (l ++ [s]).count k = l.count k := by
      rw [List.count_append, List.count_eq_zero (l := [s]) |>.2 (by simpa using hk)]; rfl
    simp only [e, e2]

theorem CntOf.keys {l : List Str} {m : Cnt} (h : CntOf l m) (k : Str) : k ∈ m.map (·.1) ↔ k ∈ l := by
  rw [← lookC_keys, h.look]
  split
  · rename_i hk; simp [hk]
  · rename_i hk; simp [hk]
theorem CntOf.len {l l' : List Str} {m m' : Cnt} (h : CntOf l m) (h' : CntOf l' m') (hl : ∀ k, k ∈ l ↔ k ∈ l') : m.length = m'.length := by
  have : (m.map (·.1)).Perm (m'.map (·.1)) := (List.perm_ext_iff_of_nodup h.nodup h'.nodup).2 fun k => by rw [h.keys, h'.keys, hl]
  simpa using this.length_eq

/-! ## maps.Equal -/

theorem erase_perm {α : Type} : ∀ (l : List α) (j : Nat) (h : j < l.length), (l[j] :: l.eraseIdx j).Perm l
  | x :: l, 0, _ => .refl _
  | x :: l, j + 1, h => by
    have := erase_perm l j (by simpa using h)
    exact (List.Perm.swap _ _ _).trans (this.cons x)

def goodE (m2 : Cnt) (q : Str × Int) : Bool := lookC m2 q.1 == some q.2
theorem meq_step (m2 : Cnt) (rec : Cnt → Cnt → Option (Str × Int) → Option (Out Unit Bool)) (q : Str × Int) (rest : Cnt) :
    (bif (!(lookB (k := .str) (v := (.int .i64)) (car := carU) m2 q.1).isSome) then (
      s_maps_Equal_map_string_int_map_string_int_string_int_j1 rec m2 true rest (some (q.1, q.2))
    ) else (
      s_maps_Equal_map_string_int_map_string_int_string_int_j1 rec m2 (q.2 != ((lookB (k := .str) (v := (.int .i64)) (car := carU) m2 q.1).getD (0 : Int))) rest (some (q.1, q.2))
    )) = if goodE m2 q = true then rec m2 rest (some q) else some (.ret false) := by
  unfold s_maps_Equal_map_string_int_map_string_int_string_int_j1 goodE
  show (bif (!(lookC m2 q.1).isSome) then _ else bif (q.2 != (lookC m2 q.1).getD 0) then _ else _) = _
  cases h : lookC m2 q.1 with
  | none => simp
  | some v =>
    simp only [Option.isSome_some, Bool.not_true, cond_false, Option.getD_some]
    by_cases hv : q.2 = v
    · subst hv; simp
    · have : (q.2 != v) = true := by simpa using hv
      rw [this, cond_true, if_neg (by simpa using fun e => hv e.symm)]

theorem meq_loop (m2 : Cnt) : ∀ (n : Nat) (l : Cnt) (a : Option (Str × Int)), l.length < n → s_maps_Equal_map_string_int_map_string_int_string_int_l1 n m2 l a = some (if l.all (goodE m2) then .brk () else .ret false) := by
  intro n
  induction n with
  | zero => intro l a h; omega
  | succ n ih =>
    intro l a hl
    show s_maps_Equal_map_string_int_map_string_int_string_int_l1_b _ _ _ _ = _
    unfold s_maps_Equal_map_string_int_map_string_int_string_int_l1_b
    cases l with
    | nil => rfl
    | cons x r =>
      rw [show List.isEmpty (x :: r) = false from rfl, cond_false]
      refine pickAll_eq (by simp) fun j q hq => ?_
      rw [meq_step]
      obtain ⟨hj, hjq⟩ := List.getElem?_eq_some_iff.1 hq
      have hlen : ((x :: r).eraseIdx j).length < n := by rw [List.length_eraseIdx, if_pos hj]; simp only [List.length_cons] at hl ⊢; omega
      have hmem : q ∈ x :: r := hjq ▸ List.getElem_mem hj
      have hperm : (q :: (x :: r).eraseIdx j).Perm (x :: r) := by
        rw [← hjq]; exact erase_perm _ j hj
      have hall : (x :: r).all (goodE m2) = (goodE m2 q && ((x :: r).eraseIdx j).all (goodE m2)) := by
        rw [← List.all_cons]
        rw [Bool.eq_iff_iff, List.all_eq_true, List.all_eq_true]
        exact ⟨fun h y hy => h y (hperm.mem_iff.1 hy), fun h y hy => h y (hperm.mem_iff.2 hy)⟩
      rw [hall]
      cases hg : goodE m2 q with
      | false => simp
      | true => rw [if_pos rfl, ih _ _ hlen, Bool.true_and]

theorem mapsEq {m1 m2 : Cnt} (h1 : m1.length ≤ 1000000) (h2 : m2.length ≤ 1000000) : s_maps_Equal_map_string_int_map_string_int_string_int m1 m2 = some (decide (m1.length = m2.length) && m1.all (goodE m2)) := by
  have hm : maxInt = 9223372036854775807 := by decide
  unfold s_maps_Equal_map_string_int_map_string_int_string_int
  rw [decide_eq_true (by omega), chk_true, decide_eq_true (by omega), chk_true]
  by_cases h : m1.length = m2.length
  · have : ((m1.length : Int) != (m2.length : Int)) = false := by rw [h]; simp
    rw [this, cond_false, meq_loop m2 big m1 none (by rw [big_eq]; omega), Option.bind_some, decide_eq_true h, Bool.true_and]
    unfold s_maps_Equal_map_string_int_map_string_int_string_int_k2
    cases m1.all (goodE m2) <;> rfl
  · have : ((m1.length : Int) != (m2.length : Int)) = true := by rw [bne_iff_ne]; omega
    rw [this, cond_true, decide_eq_false h, Bool.false_and]

theorem mapsEq_perm {l l' : List Str} {m m' : Cnt} (h : CntOf l m) (h' : CntOf l' m') (hp : l.Perm l') (hl : m.length ≤ 1000000) : s_maps_Equal_map_string_int_map_string_int_string_int m m' = some true := by
  have hlen := h.len h' fun k => hp.mem_iff
  rw [mapsEq hl (by omega), decide_eq_true hlen, Bool.true_and]
  have : m.all (goodE m') = true := by
    rw [List.all_eq_true]
    rintro ⟨k, v⟩ hkv
    have h1 := lookC_of_mem h.nodup hkv
    rw [h.look] at h1
    unfold goodE
    rw [h'.look]
    split at h1
    · rename_i hk
      rw [if_pos (hp.mem_iff.1 hk), ← hp.count_eq, h1]; simp
    · simp at h1
  rw [this]
end Go.Proofs
