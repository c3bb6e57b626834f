/- The two programs' relations are the same. -/
import Derived.Test.YtjdddnbddnhilaaDoorRkRO
set_option linter.unusedVariables false
set_option linter.unusedSimpArgs false
set_option linter.unusedSectionVars false
namespace Go.Proofs
open Go Eng

theorem getC_mem : ∀ {m : Cnt}, (m.map (·.1)).Nodup → ∀ {k : Str} {v : Int}, (k, v) ∈ m → getC m k = v
  | (q, w) :: m, hn, k, v, h => by
    rw [List.map_cons, List.nodup_cons] at hn
    rw [getC_cons]
    rcases List.mem_cons.1 h with h1 | h1
    · cases h1; simp
    · have : k ≠ q := fun e => hn.1 (List.mem_map.2 ⟨(k, v), h1, e⟩)
      have e : (k == q) = false := by simpa using this
      rw [e]; exact getC_mem hn.2 h1
theorem getC_pos_mem : ∀ {m : Cnt} {k : Str}, 0 < getC m k → (k, getC m k) ∈ m
  | [], k, h => by simp [getC, lookB] at h
  | (q, w) :: m, k, h => by
    rw [getC_cons] at h ⊢
    split
    · rename_i e
      have : k = q := by simpa using e
      subst this; simp
    · rename_i e
      rw [if_neg e] at h
      exact List.mem_cons_of_mem _ (getC_pos_mem h)

def hits (a b : Cnt) : Cnt := a.filter fun q => decide (getC b q.1 > 0)

theorem hits_perm {x y : Cnt} (hx : (x.map (·.1)).Nodup) (hy : (y.map (·.1)).Nodup) (px : ∀ e ∈ x, 1 ≤ e.2) (py : ∀ e ∈ y, 1 ≤ e.2) :
    ((hits x y).map fun q => (q.1, getC y q.1)).Perm (hits y x) := by
  have nd : ∀ {m : Cnt}, (m.map (·.1)).Nodup → m.Nodup := fun {m} h => (List.pairwise_map.1 h).imp fun hne e => hne (by rw [e])
  have n1 : ((hits x y).map (·.1)).Nodup := (List.Sublist.map _ List.filter_sublist).nodup hx
  refine (List.perm_ext_iff_of_nodup (nd ?_) ((nd hy).filter _)).2 fun e => ?_
  · rw [List.map_map]; exact n1
  · constructor
    · intro h
      obtain ⟨q, hq, rfl⟩ := List.mem_map.1 h
      obtain ⟨hqx, hqy⟩ := List.mem_filter.1 hq
      have hpos := of_decide_eq_true hqy
      refine List.mem_filter.2 ⟨getC_pos_mem hpos, decide_eq_true ?_⟩
      have := getC_mem hx (k := q.1) (v := q.2) hqx
      have := px q hqx
      dsimp only; omega
    · intro h
      obtain ⟨hey, hex⟩ := List.mem_filter.1 h
      have hpos := of_decide_eq_true hex
      have hk := getC_mem hy (k := e.1) (v := e.2) hey
      refine List.mem_map.2 ⟨(e.1, getC x e.1), List.mem_filter.2 ⟨getC_pos_mem hpos, decide_eq_true ?_⟩, ?_⟩
      · dsimp only; have := py e hey; omega
      · dsimp only; rw [hk]

theorem foldA : ∀ (b : Cnt) (a : Cnt) (s : Int × Int × Int), a.foldl (stepA b) s = (s.1 + (hits a b).length, (hits a b).foldl (fun m q => if q.2 > m then q.2 else m) s.2.1, s.2.2 - ((hits a b).map (·.2)).sum)
  | b, [], s => by simp [hits]
  | b, q :: a, s => by
    rw [List.foldl_cons, foldA b a]
    unfold hits stepA
    by_cases h : getC b q.1 > 0
    · rw [List.filter_cons_of_pos (by simpa using h), if_pos h]
      simp only [List.length_cons, List.foldl_cons, List.map_cons, List.sum_cons]
      refine Prod.ext ?_ (Prod.ext rfl ?_) <;> dsimp only <;> omega
    · rw [List.filter_cons_of_neg (by simpa using h), if_neg h]

/-! ## The document's loop -/
def stepO (y : Cnt) (r : G_api_Relation) (q : Str × Int) : G_api_Relation :=
  if getC y q.1 == 0 then ⟨r.A, r.B, r.Common, r.OnlyA + 1, r.OnlyB, r.MostA, r.MostB, r.LostA, r.LostB⟩
  else ⟨r.A, r.B, r.Common + 1, r.OnlyA, r.OnlyB, if q.2 > r.MostA then q.2 else r.MostA, if getC y q.1 > r.MostB then getC y q.1 else r.MostB, r.LostA - q.2, r.LostB - getC y q.1⟩

theorem stepO_comm (y : Cnt) (r : G_api_Relation) (a b : Str × Int) : stepO y (stepO y r a) b = stepO y (stepO y r b) a := by
  unfold stepO
  cases ha : getC y a.1 == 0 <;> cases hb : getC y b.1 == 0 <;> simp only [Bool.false_eq_true, if_true, if_false]
  congr 1
  · (repeat' split) <;> omega
  · (repeat' split) <;> omega
  · omega
  · omega

def BndO (N : Int) (r : G_api_Relation) (l : Cnt) : Prop := 0 ≤ r.OnlyA ∧ 0 ≤ r.Common ∧ r.OnlyA + r.Common + l.length ≤ 1000000000000 ∧ (∀ e ∈ l, 1 ≤ e.2) ∧ r.LostA ≤ 1000000000000000 ∧ -1000000000000000 ≤ r.LostA - (l.map (·.2)).sum ∧
  r.LostB ≤ 1000000000000000 ∧ -1000000000000000 ≤ r.LostB - N * l.length

theorem ofLoop_eq (y : Cnt) (N : Int) (hN : ∀ s, 0 ≤ getC y s ∧ getC y s ≤ N) (t8 r : G_api_Relation) (x : Cnt) (h : BndO N r x) : s_tablefinderref29_Of_l1 big t8 y r x none = some (t8, y, x.foldl (stepO y) r) := by
  have hlen : x.length ≤ 1000000000000 := by have := h.1; have := h.2.1; have := h.2.2.1; omega
  have := map_loop (g := fun n s l at_ => s_tablefinderref29_Of_l1 n t8 y s l at_)
    (body := fun n s q rest => bif (getC y q.1 == 0) then (chk (inK .i64 (s.OnlyA + 1)) <| s_tablefinderref29_Of_l1 n t8 y ⟨s.A, s.B, s.Common, s.OnlyA + 1, s.OnlyB, s.MostA, s.MostB, s.LostA, s.LostB⟩ rest (some (q.1, q.2)))
      else (chk (inK .i64 (s.Common + 1)) <| chk (inK .i64 (s.LostA - q.2)) <| chk (inK .i64 (s.LostB - getC y q.1)) <| s_tablefinderref29_Of_l1 n t8 y ⟨s.A, s.B, s.Common + 1, s.OnlyA, s.OnlyB, if q.2 > s.MostA then q.2 else s.MostA, if getC y q.1 > s.MostB then getC y q.1 else s.MostB, s.LostA - q.2, s.LostB - getC y q.1⟩ rest (some (q.1, q.2))))
    (step := stepO y) (fin := fun s => (t8, y, s)) (P := BndO N) (fun n s l at_ => rfl) (fun n s l q rest hP hperm => ?_) (stepO_comm y) big r x none h (big_lt (by omega))
  · exact this
  · obtain ⟨p1, p2, p3, p4, p5, p6, p7, p8⟩ := hP
    have hs := perm_sum (hperm.map (·.2))
    have hl := hperm.length_eq
    simp only [List.map_cons, List.sum_cons] at hs
    simp only [List.length_cons] at hl
    have hq : 1 ≤ q.2 := p4 q (hperm.mem_iff.1 (by simp))
    have hr : ∀ e ∈ rest, 1 ≤ e.2 := fun e he => p4 e (hperm.mem_iff.1 (by simp [he]))
    have h0 := sum_pos rest hr
    have hg := hN q.1
    have hm : N * (l.length : Int) = N * rest.length + N := by rw [← hl]; simp [Int.mul_add]
    have hm0 : 0 ≤ N * (rest.length : Int) := Int.mul_nonneg (by omega) (by omega)
    refine ⟨some (q.1, q.2), ?_, ?_⟩
    · unfold stepO
      cases h : getC y q.1 == 0
      · simp only [cond_false, Bool.false_eq_true, if_false]
        rw [inK_i64 (by omega), inK_i64 (by omega), inK_i64 (by omega)]; rfl
      · simp only [cond_true, if_true]
        rw [inK_i64 (by omega)]; rfl
    · unfold stepO BndO
      split
      · dsimp only; exact ⟨by omega, by omega, by omega, hr, by omega, by omega, by omega, by omega⟩
      · dsimp only; exact ⟨by omega, by omega, by omega, hr, by omega, by omega, by omega, by omega⟩

def maxF (m : Int) (v : Int) : Int := if v > m then v else m
theorem foldO (y : Cnt) (hy : ∀ s, 0 ≤ getC y s) : ∀ (x : Cnt) (r : G_api_Relation), x.foldl (stepO y) r = ⟨r.A, r.B, r.Common + (hits x y).length, r.OnlyA + (x.length - (hits x y).length), r.OnlyB,
    ((hits x y).map (·.2)).foldl maxF r.MostA, ((hits x y).map fun q => getC y q.1).foldl maxF r.MostB, r.LostA - ((hits x y).map (·.2)).sum, r.LostB - ((hits x y).map fun q => getC y q.1).sum⟩
  | [], r => by simp [hits]
  | q :: x, r => by
    rw [List.foldl_cons, foldO y hy x]
    unfold hits stepO
    have := hy q.1
    by_cases h : getC y q.1 > 0
    · have e : (getC y q.1 == 0) = false := by rw [beq_eq_false_iff_ne]; omega
      rw [List.filter_cons_of_pos (by simpa using h), e]
      simp only [Bool.false_eq_true, if_false, List.length_cons, List.map_cons, List.foldl_cons, List.sum_cons]
      congr 1 <;> first | rfl | omega
    · have e : (getC y q.1 == 0) = true := by rw [beq_iff_eq]; omega
      rw [List.filter_cons_of_neg (by simpa using h), e]
      simp only [if_true, List.length_cons]
      congr 1 <;> first | rfl | omega

theorem maxF_comm (m a b : Int) : maxF (maxF m a) b = maxF (maxF m b) a := by unfold maxF; (repeat' split) <;> omega

theorem max_same (l : Cnt) : ∀ m, l.foldl (fun m q => if q.2 > m then q.2 else m) m = (l.map (·.2)).foldl maxF m := by
  induction l with
  | nil => intro m; rfl
  | cons q l ih => intro m; rw [List.foldl_cons, List.map_cons, List.foldl_cons, ih]; rfl

theorem vals_perm {x y : Cnt} (hx : (x.map (·.1)).Nodup) (hy : (y.map (·.1)).Nodup) (px : ∀ e ∈ x, 1 ≤ e.2) (py : ∀ e ∈ y, 1 ≤ e.2) :
    ((hits x y).map fun q => getC y q.1).Perm ((hits y x).map (·.2)) := by
  have := (hits_perm hx hy px py).map (·.2)
  rw [List.map_map] at this
  exact this

theorem hits_len (x y : Cnt) : (hits x y).length ≤ x.length := List.length_filter_le _ _

/-- Behind the checks the two programs reckon the same. -/
theorem core_same (x y : Cnt) (ra rb : Int) (A B : G_api_Ref) (n m : Nat) (hx : CntOk n x) (hy : CntOk m y) :
    x.foldl (stepO y) ⟨A, B, 0, 0, 0, 0, 0, ra, rb⟩ = ⟨A, B, (x.foldl (stepA y) (0, 0, ra)).1, (x.length : Int) - (x.foldl (stepA y) (0, 0, ra)).1, 0, (x.foldl (stepA y) (0, 0, ra)).2.1, (y.foldl (stepA x) (0, 0, rb)).2.1, (x.foldl (stepA y) (0, 0, ra)).2.2, (y.foldl (stepA x) (0, 0, rb)).2.2⟩ := by
  rw [foldO y (fun s => (getC_le hy.pos s).1), foldA, foldA]
  have hp := vals_perm hx.nodup hy.nodup hx.pos hy.pos
  have h1 := perm_sum hp
  have h2 := hp.foldl_eq' (f := maxF) (fun a _ b _ z => maxF_comm z a b) 0
  dsimp only
  rw [max_same, max_same, ← h2, ← h1]
  congr 1 <;> omega

def relS (a : G_api_Table) (i : Int) (b : G_api_Table) (j : Int) : G_api_Relation × Int :=
  if tableS a && tableS b then
    if 0 ≤ i ∧ i < a.Columns.length ∧ 0 ≤ j ∧ j < b.Columns.length then
      (let x := cntL (a.Columns[i.toNat]?.getD default).Cells []
       let y := cntL (b.Columns[j.toNat]?.getD default).Cells []
       let p := x.foldl (stepA y) (0, 0, rowsS a)
       let q := y.foldl (stepA x) (0, 0, rowsS b)
       ⟨⟨a.ID, i⟩, ⟨b.ID, j⟩, p.1, (x.length : Int) - p.1, (y.length : Int) - p.1, p.2.1, q.2.1, p.2.2, q.2.2⟩, 0)
    else (⟨⟨0, 0⟩, ⟨0, 0⟩, 0, 0, 0, 0, 0, 0, 0⟩, 2)
  else (⟨⟨0, 0⟩, ⟨0, 0⟩, 0, 0, 0, 0, 0, 0, 0⟩, 1)

end Go.Proofs
