/- Counting: how often each text is in a column. -/
import Derived.Test.YtjdddnbddnhilaaDoorRpRT
set_option linter.unusedVariables false
set_option linter.unusedSimpArgs false
set_option linter.unusedSectionVars false
namespace Go.Proofs
open Go Eng

abbrev Cnt := List (Str × Int)
def getC (m : Cnt) (s : Str) : Int := (lookB (k := .str) (v := (.int .i64)) (car := carU) m s).getD (0 : Int)
def addC (m : Cnt) (s : Str) : Cnt := setB (k := .str) (v := (.int .i64)) (car := carU) m s (getC m s + 1)
def cntL : List G_api_Cell → Cnt → Cnt
  | [], m => m
  | c :: r, m => cntL r (if c.Null then m else addC m c.Text)

theorem find_key (m : Cnt) (s : Str) : (lookB (k := .str) (v := (.int .i64)) (car := carU) m s) = (m.find? fun e => s == e.1).map (·.2) := rfl

structure CntOk (n : Nat) (m : Cnt) : Prop where
  nodup : (m.map (·.1)).Nodup
  pos : ∀ e ∈ m, 1 ≤ e.2
  sum : (m.map (·.2)).sum ≤ n

theorem getC_cons (k : Str) (v : Int) (m : Cnt) (s : Str) : getC ((k, v) :: m) s = if s == k then v else getC m s := by
  unfold getC
  rw [find_key, find_key, List.find?_cons]
  cases s == k <;> rfl
theorem addC_cons (k : Str) (v : Int) (m : Cnt) (s : Str) (hn : k ∉ m.map (·.1)) : addC ((k, v) :: m) s = if s == k then (k, v + 1) :: m else (k, v) :: addC m s := by
  unfold addC
  rw [getC_cons]
  cases h : s == k with
  | true =>
    have : s = k := by simpa using h
    subst this
    have hm : ∀ e ∈ m, keyB (car := carU) .str s e.1 = false := fun e he => by
      show (s == e.1) = false
      rw [beq_eq_false_iff_ne]; intro hc
      exact hn (List.mem_map.2 ⟨e, he, hc.symm⟩)
    simp only [setB, List.any_cons, if_true, List.map_cons]
    have hk : keyB (car := carU) .str s s = true := by show (s == s) = true; simp
    simp only [hk, Bool.true_or, if_true, List.cons.injEq, true_and]
    conv => rhs; rw [← List.map_id m]
    exact List.map_congr_left fun e he => by simp [hm e he]
  | false =>
    have hk : keyB (car := carU) .str s k = false := h
    simp only [setB, List.any_cons, hk, Bool.false_or, List.map_cons, Bool.false_eq_true, if_false]
    split <;> rfl

theorem addC_nil (s : Str) : addC [] s = [(s, 1)] := rfl

theorem addC_keys : ∀ (m : Cnt) (s : Str), (m.map (·.1)).Nodup → ∀ k, k ∈ (addC m s).map (·.1) ↔ k = s ∨ k ∈ m.map (·.1)
  | [], s, _, k => by simp [addC_nil]
  | (q, v) :: m, s, hn, k => by
    rw [List.map_cons, List.nodup_cons] at hn
    rw [addC_cons _ _ _ _ hn.1]
    split
    · rename_i h
      have : s = q := by simpa using h
      subst this
      simp
    · rw [List.map_cons, List.mem_cons, addC_keys m s hn.2 k, List.map_cons, List.mem_cons]
      constructor
      · rintro (h | h | h)
        · exact .inr (.inl h)
        · exact .inl h
        · exact .inr (.inr h)
      · rintro (h | h | h)
        · exact .inr (.inl h)
        · exact .inl h
        · exact .inr (.inr h)

theorem addC_ok : ∀ {n : Nat} {m : Cnt} {s : Str}, CntOk n m → CntOk (n + 1) (addC m s)
  | n, [], s, h => ⟨by simp [addC_nil], by simp [addC_nil], by simp [addC_nil]; omega⟩
  | n, (q, v) :: m, s, ⟨hn, hp, hs⟩ => by
    have hn0 := hn
    rw [List.map_cons, List.nodup_cons] at hn
    have hv := hp (q, v) (by simp)
    simp only [List.map_cons, List.sum_cons] at hs
    rw [addC_cons _ _ _ _ hn.1]
    split
    · refine ⟨by simpa using hn0, fun e he => ?_, by simp only [List.map_cons, List.sum_cons]; omega⟩
      rcases List.mem_cons.1 he with rfl | he
      · dsimp only at hv ⊢; omega
      · exact hp e (by simp [he])
    · rename_i hne
      have hpos : ∀ l : Cnt, (∀ e ∈ l, 1 ≤ e.2) → 0 ≤ (l.map (·.2)).sum := fun l hl => by
        induction l with
        | nil => simp
        | cons x l ih =>
          have := hl x (by simp)
          have := ih fun e he => hl e (by simp [he])
          simp only [List.map_cons, List.sum_cons]; omega
      have h0 := hpos m fun e he => hp e (by simp [he])
      obtain ⟨i1, i2, i3⟩ := addC_ok (n := n - v.toNat) (m := m) (s := s) ⟨hn.2, fun e he => hp e (by simp [he]), by dsimp only at hv; omega⟩
      refine ⟨?_, fun e he => ?_, ?_⟩
      · rw [List.map_cons, List.nodup_cons]
        refine ⟨fun hm => ?_, i1⟩
        rcases (addC_keys m s hn.2 q).1 hm with h | h
        · subst h; simp at hne
        · exact hn.1 h
      · rcases List.mem_cons.1 he with rfl | he
        · exact hv
        · exact i2 e he
      · simp only [List.map_cons, List.sum_cons]
        dsimp only at hv
        omega

theorem cntL_ok : ∀ {n : Nat} {l : List G_api_Cell} {m : Cnt}, CntOk n m → CntOk (n + l.length) (cntL l m)
  | n, [], m, h => h
  | n, c :: l, m, h => by
    unfold cntL
    rw [List.length_cons]
    split
    · have := cntL_ok (n := n) (l := l) h
      exact ⟨this.nodup, this.pos, by have := this.sum; omega⟩
    · have := cntL_ok (n := n + 1) (l := l) (addC_ok (s := c.Text) h)
      exact ⟨this.nodup, this.pos, by have := this.sum; omega⟩

theorem sum_pos : ∀ l : Cnt, (∀ e ∈ l, 1 ≤ e.2) → 0 ≤ (l.map (·.2)).sum
  | [], _ => by simp
  | x :: l, hl => by
    have := hl x (by simp)
    have := sum_pos l fun e he => hl e (by simp [he])
    simp only [List.map_cons, List.sum_cons]; omega
theorem getC_le : ∀ {m : Cnt}, (∀ e ∈ m, 1 ≤ e.2) → ∀ s, 0 ≤ getC m s ∧ getC m s ≤ (m.map (·.2)).sum
  | [], _, s => by simp [getC, lookB]
  | (q, v) :: m, h, s => by
    rw [getC_cons]
    have hv := h (q, v) (by simp)
    have h0 := sum_pos m fun e he => h e (by simp [he])
    have ih := getC_le (m := m) (fun e he => h e (by simp [he])) s
    simp only [List.map_cons, List.sum_cons]
    dsimp only at hv
    split <;> omega

theorem cntL_append : ∀ (l l' : List G_api_Cell) (m : Cnt), cntL (l ++ l') m = cntL l' (cntL l m)
  | [], _, _ => rfl
  | c :: l, l', m => by rw [List.cons_append, cntL, cntL, cntL_append l l']

theorem counts_eq (c : G_api_Column) (hl : c.Cells.length ≤ 1000000000000) : s_relation_counts c = some (cntL c.Cells []) := by
  refine eq_of_wp ?_
  unfold s_relation_counts
  rw [wp_bind]
  refine wp_mono (loop_wp (f := fun n s => s_relation_counts_l1 n c.Cells (c.Cells.length : Int) s.1 s.2) (body := fun rec s => s_relation_counts_l1_b (fun _ _ i m => rec (i, m)) c.Cells (c.Cells.length : Int) s.1 s.2) (fun n s => rfl)
    (fun s => ∃ k : Nat, k ≤ c.Cells.length ∧ s = ((k : Int), cntL (c.Cells.take k) [])) (fun s => c.Cells.length - s.1.toNat) (fun r => r = cntL c.Cells []) ?_ big (0, []) ⟨0, Nat.zero_le _, rfl⟩ (big_lt (by dsimp only; omega))) (fun r h => by unfold s_relation_counts_k2; rw [wp_some]; exact h)
  rintro rec s ⟨k, hk, rfl⟩ ih
  dsimp only at ih ⊢
  unfold s_relation_counts_l1_b s_relation_counts_j1
  rw [wp_bif]
  refine ⟨fun h => ?_, fun h => ?_⟩
  · simp only [decide_eq_true_eq] at h
    have hlt : k < c.Cells.length := by omega
    have hok := cntL_ok (n := 0) (l := c.Cells.take k) (m := []) ⟨by simp, by simp, by simp⟩
    have hg := getC_le hok.pos c.Cells[k].Text
    have hlen : (c.Cells.take k).length ≤ c.Cells.length := List.length_take_le' ..
    have hsum := hok.sum
    have ht : cntL (c.Cells.take (k + 1)) [] = if c.Cells[k].Null then cntL (c.Cells.take k) [] else addC (cntL (c.Cells.take k) []) c.Cells[k].Text := by
      rw [List.take_succ_eq_append_getElem hlt, cntL_append]; rfl
    rw [wp_bind, wp_idx]
    refine ⟨by omega, by omega, ?_⟩
    simp only [Int.toNat_natCast]
    rw [wp_bif, wp_chk, wp_chk, wp_chk]
    refine ⟨fun hn => ⟨inK_i64 ?_, inK_i64 (by omega), ih _ ⟨k + 1, by omega, ?_⟩ (by dsimp only; omega)⟩, fun hn => ⟨inK_i64 (by omega), ih _ ⟨k + 1, by omega, ?_⟩ (by dsimp only; omega)⟩⟩
    · show -9223372036854775808 ≤ getC _ _ + 1 ∧ getC _ _ + 1 ≤ 9223372036854775807
      omega
    · simp only [Bool.not_eq_true'] at hn
      rw [ht, hn]; rfl
    · simp only [Bool.not_eq_false'] at hn
      rw [ht, hn]; rfl
  · simp only [decide_eq_false_iff_not] at h
    have : k = c.Cells.length := by omega
    subst this
    rw [wp_some, List.take_length]

theorem rcounts_same (c : G_api_Column) : s_tablefinderref29_counts c = s_relation_counts c := by
  have hl : ∀ n a b d m, s_tablefinderref29_counts_l1 n a b d m = s_relation_counts_l1 n a b d m := by
    intro n
    induction n with
    | zero => intros; rfl
    | succ n ih =>
      intro a b d m
      show s_tablefinderref29_counts_l1_b (s_tablefinderref29_counts_l1 n) a b d m = s_relation_counts_l1_b (s_relation_counts_l1 n) a b d m
      rw [show s_tablefinderref29_counts_l1 n = s_relation_counts_l1 n from by funext a b d m; exact ih a b d m]
      rfl
  unfold s_tablefinderref29_counts s_relation_counts
  rw [hl]; rfl

end Go.Proofs
