/- Relations of columns: values in closed form. -/
import Derived.Test.YtjdddnbddnhilaaDoorRrRH
set_option linter.unusedVariables false
set_option linter.unusedSimpArgs false
set_option linter.unusedSectionVars false
namespace Go.Proofs
open Go Eng

/-! ## Which tables are valid -/
theorem fineS_of {s : Str} (h : s ∈ texts) : fineS s = true := by
  unfold fineS
  rw [vs_of h, decide_eq_true (by have := short_of h; omega)]; rfl
theorem cellS_of {c : G_api_Cell} (h : CellIn c) : cellS c = true := by
  unfold cellS
  rw [fineS_of h.1]
  cases hn : c.Null with
  | false => rfl
  | true => rw [h.2 hn]; rfl
theorem rowsS_in {t : G_api_Table} {r : Nat} (h : ∀ c ∈ t.Columns, ColIn r c) (h0 : t.Columns ≠ []) : rowsS t = r := by
  rw [rowsS_eq]
  cases hc : t.Columns with
  | nil => exact absurd hc h0
  | cons c l => rw [hc] at h; simp only [rowsL]; rw [(h c (by simp)).2.1]
theorem tableS_of {t : G_api_Table} (h : TabIn t) (hid : 0 ≤ t.ID ∧ t.ID ≤ 1000) : tableS t = true := by
  obtain ⟨hn, hl, r, hr, hc⟩ := h
  have hrows : rowsS t ≤ 4096 := by
    by_cases h0 : t.Columns = []
    · rw [rowsS_eq, h0]; simp [rowsL]
    · rw [rowsS_in hc h0]; omega
  unfold tableS
  rw [decide_eq_true hid.1, decide_eq_true (show t.ID ≤ 1073741824 by omega), fineS_of hn, decide_eq_true (show (t.Columns.length : Int) ≤ 64 by omega), decide_eq_true hrows]
  simp only [Bool.true_and, List.all_eq_true]
  intro c hcm
  have h1 := hc c hcm
  have h0 : t.Columns ≠ [] := List.ne_nil_of_mem hcm
  unfold colS
  rw [fineS_of h1.1, rowsS_in hc h0, h1.2.1]
  simp only [Bool.true_and, beq_self_eq_true, List.all_eq_true]
  exact fun x hx => cellS_of (h1.2.2 x hx)

/-! ## The keys of counts -/
theorem any_key (m : Cnt) (s : Str) : (m.any fun e => keyB (car := carU) .str s e.1) = decide (s ∈ m.map (·.1)) := by
  rw [Bool.eq_iff_iff, List.any_eq_true, decide_eq_true_eq, List.mem_map]
  constructor
  · rintro ⟨e, he, h⟩
    have : (s == e.1) = true := h
    exact ⟨e, he, (beq_iff_eq.1 this).symm⟩
  · rintro ⟨e, he, rfl⟩
    exact ⟨e, he, beq_self_eq_true e.1⟩

theorem keys_addC (m : Cnt) (s : Str) : (addC m s).map (·.1) = if s ∈ m.map (·.1) then m.map (·.1) else m.map (·.1) ++ [s] := by
  unfold addC setB
  rw [any_key]
  by_cases h : s ∈ m.map (·.1)
  · rw [decide_eq_true h, if_pos rfl, if_pos h, List.map_map]
    exact List.map_congr_left fun e _ => by dsimp only [Function.comp]; split <;> rfl
  · rw [decide_eq_false h, if_neg (by simp), if_neg h, List.map_append]; rfl

theorem set_true (l : List Str) (s : Str) : setB (k := .str) (v := .bool) (car := carU) (l.map fun x => (x, true)) s true = (if s ∈ l then l else l ++ [s]).map fun x => (x, true) := by
  have ha : ((l.map fun x => (x, true)).any fun e => keyB (car := carU) .str s e.1) = decide (s ∈ l) := by
    rw [Bool.eq_iff_iff, List.any_eq_true, decide_eq_true_eq]
    constructor
    · rintro ⟨e, he, h⟩
      obtain ⟨x, hx, rfl⟩ := List.mem_map.1 he
      have : (s == x) = true := h
      rw [beq_iff_eq.1 this]; exact hx
    · intro h
      exact ⟨(s, true), List.mem_map.2 ⟨s, h, rfl⟩, beq_self_eq_true s⟩
  unfold setB
  rw [ha]
  by_cases h : s ∈ l
  · rw [decide_eq_true h, if_pos rfl, if_pos h, List.map_map]
    exact List.map_congr_left fun e _ => by dsimp only [Function.comp]; split <;> rfl
  · rw [decide_eq_false h, if_neg (by simp), if_neg h, List.map_append]; rfl

theorem getC_addC : ∀ (m : Cnt) (s q : Str), (m.map (·.1)).Nodup → getC (addC m s) q = getC m q + (if q = s then 1 else 0)
  | [], s, q, _ => by
    rw [addC_nil, getC_cons]
    by_cases h : q = s
    · rw [h]; simp [getC, lookB]
    · have : (q == s) = false := by simpa using h
      rw [this]; simp [h]
  | (k, v) :: m, s, q, hn => by
    have hn0 := hn
    rw [List.map_cons, List.nodup_cons] at hn
    rw [addC_cons _ _ _ _ hn.1]
    by_cases hs : s = k
    · subst hs
      rw [if_pos (by simp), getC_cons, getC_cons]
      by_cases h : q = s
      · subst h; simp
      · have : (q == s) = false := by simpa using h
        rw [this]; simp [h]
    · have e : (s == k) = false := by simpa using hs
      rw [e, if_neg (by simp), getC_cons, getC_cons, getC_addC m s q hn.2]
      by_cases h : q = k
      · subst h
        have : ¬ q = s := fun e => hs e.symm
        simp [this]
      · have : (q == k) = false := by simpa using h
        rw [this]; rfl

/-- How often a text is in a list of cells. -/
def cntC (s : Str) (l : List G_api_Cell) : Nat := (l.filter fun z => !z.Null && s == z.Text).length
theorem cntC_cons (s : Str) (c : G_api_Cell) (l : List G_api_Cell) : cntC s (c :: l) = (if c.Null = false ∧ s = c.Text then 1 else 0) + cntC s l := by
  unfold cntC
  rw [List.filter_cons]
  cases hn : c.Null with
  | true => simp
  | false =>
    by_cases h : s = c.Text
    · simp [h]; omega
    · have : (s == c.Text) = false := by simpa using h
      simp [h, this]

theorem getC_cntL : ∀ (l : List G_api_Cell) (m : Cnt) (n : Nat) (s : Str), CntOk n m → getC (cntL l m) s = getC m s + cntC s l
  | [], m, n, s, _ => by simp [cntL, cntC]
  | c :: l, m, n, s, h => by
    unfold cntL
    rw [cntC_cons]
    cases hn : c.Null with
    | true => rw [if_pos rfl, getC_cntL l m n s h]; simp
    | false =>
      rw [if_neg (by simp), getC_cntL l _ (n + 1) s (addC_ok h), getC_addC m _ s h.nodup]
      by_cases hs : s = c.Text
      · rw [if_pos hs, if_pos ⟨rfl, hs⟩]; omega
      · rw [if_neg hs, if_neg (by simp [hs])]; omega
theorem getC_cnt (l : List G_api_Cell) (s : Str) : getC (cntL l []) s = cntC s l := by
  rw [getC_cntL l [] 0 s ⟨by simp, by simp, by simp⟩]; simp [getC, lookB]

theorem cntC_pos {s : Str} {l : List G_api_Cell} : 0 < cntC s l ↔ ∃ c ∈ l, c.Null = false ∧ c.Text = s := by
  unfold cntC
  rw [List.length_pos_iff_exists_mem]
  constructor
  · rintro ⟨c, hc⟩
    obtain ⟨h1, h2⟩ := List.mem_filter.1 hc
    simp only [Bool.and_eq_true, Bool.not_eq_true', beq_iff_eq] at h2
    exact ⟨c, h1, h2.1, h2.2.symm⟩
  · rintro ⟨c, hc, h1, h2⟩
    exact ⟨c, List.mem_filter.2 ⟨hc, by simp [h1, h2]⟩⟩
theorem cntC_le (s : Str) (l : List G_api_Cell) : cntC s l ≤ l.length := List.length_filter_le _ _

/-! ## The sum over hits -/
def wgt (y m : Cnt) : Int := ((hits m y).map (·.2)).sum
theorem wgt_cons (y : Cnt) (k : Str) (v : Int) (m : Cnt) : wgt y ((k, v) :: m) = (if getC y k > 0 then v else 0) + wgt y m := by
  unfold wgt hits
  by_cases h : getC y k > 0
  · rw [List.filter_cons_of_pos (by simpa using h), if_pos h]; simp
  · rw [List.filter_cons_of_neg (by simpa using h), if_neg h]; simp
theorem wgt_addC (y : Cnt) : ∀ (m : Cnt) (s : Str), (m.map (·.1)).Nodup → wgt y (addC m s) = wgt y m + (if getC y s > 0 then 1 else 0)
  | [], s, _ => by rw [addC_nil, wgt_cons]; simp [wgt, hits]
  | (k, v) :: m, s, hn => by
    rw [List.map_cons, List.nodup_cons] at hn
    rw [addC_cons _ _ _ _ hn.1]
    by_cases hs : s = k
    · subst hs
      rw [if_pos (by simp), wgt_cons, wgt_cons]
      dsimp only
      (repeat' split) <;> omega
    · have e : (s == k) = false := by simpa using hs
      rw [e, if_neg (by simp), wgt_cons, wgt_cons, wgt_addC y m s hn.2]
      dsimp only
      omega
/-- How many cells have a text that y knows. -/
def cntP (y : Cnt) (l : List G_api_Cell) : Nat := (l.filter fun c => !c.Null && decide (getC y c.Text > 0)).length
theorem wgt_cntL (y : Cnt) : ∀ (l : List G_api_Cell) (m : Cnt) (n : Nat), CntOk n m → wgt y (cntL l m) = wgt y m + cntP y l
  | [], m, n, _ => by simp [cntL, cntP]
  | c :: l, m, n, h => by
    unfold cntL
    have hp : cntP y (c :: l) = (if c.Null = false ∧ getC y c.Text > 0 then 1 else 0) + cntP y l := by
      unfold cntP
      rw [List.filter_cons]
      cases hn : c.Null with
      | true => simp
      | false => by_cases hg : getC y c.Text > 0 <;> simp [hg]; omega
    rw [hp]
    cases hn : c.Null with
    | true => rw [if_pos rfl, wgt_cntL y l m n h]; simp
    | false =>
      rw [if_neg (by simp), wgt_cntL y l _ (n + 1) (addC_ok h), wgt_addC y m _ h.nodup]
      by_cases hs : getC y c.Text > 0
      · rw [if_pos hs, if_pos ⟨rfl, hs⟩]; omega
      · rw [if_neg hs, if_neg (by simp [hs])]; omega
theorem wgt_cnt (y : Cnt) (l : List G_api_Cell) : wgt y (cntL l []) = cntP y l := by
  rw [wgt_cntL y l [] 0 ⟨by simp, by simp, by simp⟩]; simp [wgt, hits]

theorem hits_keys (m y : Cnt) : (hits m y).map (·.1) = (m.map (·.1)).filter fun s => decide (getC y s > 0) := by
  unfold hits; rw [List.filter_map]; rfl

/-! ## Greatest numbers -/
theorem maxF_le {l : List Int} {b : Int} (h : ∀ v ∈ l, v ≤ b) : ∀ m, m ≤ b → l.foldl maxF m ≤ b := by
  induction l with
  | nil => intro m hm; exact hm
  | cons x l ih =>
    intro m hm
    have := h x (by simp)
    exact ih (fun v hv => h v (by simp [hv])) _ (by unfold maxF; split <;> omega)
theorem le_maxF : ∀ {l : List Int} (m : Int), m ≤ l.foldl maxF m
  | [], m => Int.le_refl m
  | x :: l, m => Int.le_trans (by unfold maxF; split <;> omega) (le_maxF (l := l) (maxF m x))
theorem mem_le_maxF : ∀ {l : List Int} {v : Int}, v ∈ l → ∀ m, v ≤ l.foldl maxF m
  | x :: l, v, h, m => by
    rcases List.mem_cons.1 h with rfl | h
    · exact Int.le_trans (show v ≤ maxF m v by unfold maxF; split <;> omega) (le_maxF (l := l) (maxF m v))
    · exact mem_le_maxF h _

/-! ## A relation's numbers -/
def mostS (x y : Cnt) : Int := ((hits x y).map (·.2)).foldl maxF 0
def relV (a b : G_api_Ref) (A B : List G_api_Cell) (ra rb : Int) : G_api_Relation :=
  let x := cntL A []
  let y := cntL B []
  ⟨a, b, (hits x y).length, (x.length : Int) - (hits x y).length, (y.length : Int) - (hits x y).length, mostS x y, mostS y x, ra - cntP y A, rb - cntP x B⟩

theorem relS_val {a b : G_api_Table} {i j : Int} {ca cb : G_api_Column} (ha : tableS a = true) (hb : tableS b = true) (hi : 0 ≤ i) (hj : 0 ≤ j) (hca : a.Columns[i.toNat]? = some ca) (hcb : b.Columns[j.toNat]? = some cb) :
    relS a i b j = (relV ⟨a.ID, i⟩ ⟨b.ID, j⟩ ca.Cells cb.Cells (rowsS a) (rowsS b), 0) := by
  have h1 := (List.getElem?_eq_some_iff.1 hca).1
  have h2 := (List.getElem?_eq_some_iff.1 hcb).1
  unfold relS
  rw [ha, hb, Bool.and_self, if_pos rfl, if_pos ⟨hi, by omega, hj, by omega⟩, hca, hcb]
  simp only [Option.getD_some, foldA, relV, max_same, mostS, Int.zero_add]
  have e1 := wgt_cnt (cntL cb.Cells []) ca.Cells
  have e2 := wgt_cnt (cntL ca.Cells []) cb.Cells
  unfold wgt at e1 e2
  rw [e1, e2]

theorem cok (l : List G_api_Cell) : CntOk l.length (cntL l []) := cnt0 l
theorem hits_comm (A B : List G_api_Cell) : (hits (cntL A []) (cntL B [])).length = (hits (cntL B []) (cntL A [])).length := by
  have := (hits_perm (cok A).nodup (cok B).nodup (cok A).pos (cok B).pos).length_eq
  simpa using this

def turnR (r : G_api_Relation) : G_api_Relation := ⟨r.B, r.A, r.Common, r.OnlyB, r.OnlyA, r.MostB, r.MostA, r.LostB, r.LostA⟩
theorem relV_turn (a b : G_api_Ref) (A B : List G_api_Cell) (ra rb : Int) : turnR (relV a b A B ra rb) = relV b a B A rb ra := by
  unfold turnR relV
  simp only [hits_comm B A]

theorem kind0 (r : G_api_Relation) : ∃ q, s_relation_Kind r = some q ∧ ((q == 0) = (r.Common == 0)) := by
  unfold s_relation_Kind s_relation_Kind_j1
  cases hc : r.Common == 0
  · by_cases h1 : r.MostA ≤ 1 <;> by_cases h2 : r.MostB ≤ 1 <;> simp [h1, h2]
  · exact ⟨0, rfl, rfl⟩


theorem sizeOk_of {t : G_api_Table} (h : TabIn t) : SizeOk t := (tabOk_of h).1
theorem cntL_snoc (l : List G_api_Cell) (c : G_api_Cell) : cntL (l ++ [c]) [] = if c.Null then cntL l [] else addC (cntL l []) c.Text := by
  rw [cntL_append]; rfl

theorem cntC_append (s : Str) (l l' : List G_api_Cell) : cntC s (l ++ l') = cntC s l + cntC s l' := by
  unfold cntC; rw [List.filter_append, List.length_append]
theorem cntC_one (s : Str) (c : G_api_Cell) : cntC s [c] = if c.Null = false ∧ s = c.Text then 1 else 0 := by
  rw [cntC_cons]; simp [cntC]
theorem cntP_append (y : Cnt) (l l' : List G_api_Cell) : cntP y (l ++ l') = cntP y l + cntP y l' := by
  unfold cntP; rw [List.filter_append, List.length_append]
theorem cntP_one (y : Cnt) (c : G_api_Cell) : cntP y [c] = if c.Null = false ∧ getC y c.Text > 0 then 1 else 0 := by
  unfold cntP
  rw [List.filter_cons, List.filter_nil]
  cases hn : c.Null with
  | true => simp
  | false =>
    by_cases hg : getC y c.Text > 0 <;> simp [hg]
theorem cntP_le (y : Cnt) (l : List G_api_Cell) : cntP y l ≤ l.length := List.length_filter_le _ _


end Go.Proofs
