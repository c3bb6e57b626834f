import Derived.RangeFuncBox
import Derived.RangeFuncNested
import Derived.RangeFuncLeaves
import Derived.Shelf.Abstract
import Derived.WalkKit
import Derived.OwnWalkIn
import Derived.TacticsInMore
import Derived.LoopNIn
import Derived.LoopIn
import Derived.Test.YtahbkngofdpehaaDoorProg
set_option linter.unusedVariables false
set_option linter.unusedSimpArgs false
set_option linter.unusedSectionVars false
namespace Go.Proofs
open Go.RowKit Go.Shelf
attribute [local go_sem] Oper.semAt_some

structure Prm where
  u : ByteArray
  al : Bool
  t : Int
  c : Int

def Prm.val (p : Prm) : Value := .agg #[.string p.u, .bool p.al, .int .i64 p.t, .int .i64 p.c]

def back (zs : List Prm) (k : Nat) : List (Nat × Prm) := (List.range k).map fun j => (zs.length - 1 - j, zs[zs.length - 1 - j]?.getD ⟨⟨#[]⟩, false, 0, 0⟩)
theorem back_succ (zs : List Prm) (k : Nat) : back zs (k + 1) = back zs k ++ [(zs.length - 1 - k, zs[zs.length - 1 - k]?.getD ⟨⟨#[]⟩, false, 0, 0⟩)] := by simp [back, List.range_succ]
theorem back_length (zs : List Prm) (k : Nat) : (back zs k).length = k := by simp [back]

set_option maxRecDepth 100000 in
set_option maxHeartbeats 2000000 in
theorem Tryd.back1_in (F : Fence) (n : Nat) (h7 : F.fn 129) (hro : F.round = none) (hn : 1 ≤ n) (l Bs n₀ b off cap : Nat) (zs : List Prm) (hreach : zs.length ≤ 281474976710656) (hb : b < n₀) (hBn : Bs < n₀) (J Jx : List (Nat × Prm) → World → Prop)
    (hY : ∀ pre x W, J pre W → pre.length < zs.length → YieldAt F (n - 1) Tryd.prog l #[.int .i64 (x.1 : Int), x.2.val] W fun e W' =>
      (e = .returned (.bool true) ∧ J (pre ++ [x]) W' ∧ Below n₀ W W') ∨ (e = .returned (.bool false) ∧ Jx (pre ++ [x]) W'))
    (W : World) (hBs : W.cell? ⟨Bs, 0, none⟩ = some (.slice (some ⟨b, off, none⟩) zs.length cap))
    (hc : ∀ j p, zs[j]? = some p → W.cell? ⟨b, off + j * 4, none⟩ = some (.string p.u) ∧ W.cell? ⟨b, off + j * 4 + 1, none⟩ = some (.bool p.al) ∧ W.cell? ⟨b, off + j * 4 + 2, none⟩ = some (.int .i64 p.t) ∧ W.cell? ⟨b, off + j * 4 + 3, none⟩ = some (.int .i64 p.c)) (h0 : J [] W) :
    CallsIn F n Tryd.prog 129 #[.func (.yield l) #[] #[], .pointer (some ⟨Bs, 0, none⟩)] W fun e W' => (∃ v, e = .returned v) ∧
      (J (back zs zs.length) W' ∨ (∃ k, k ≤ zs.length ∧ Jx (back zs k) W')) := by
  refine callsIn_of_wp Tryd.func129 rfl h7 ?_ hro
  simp only [Tryd.ntmps129, List.size_toArray, List.length_cons, List.length_nil, Nat.reduceAdd, Nat.reduceSub, Array.replicate_succ, Array.replicate_zero, List.push_toArray, List.append_toArray, List.nil_append, List.cons_append]
  gi_wp2
  gi_loopw [3] (fun i wr => ∃ k : Nat, k ≤ zs.length ∧ i = .int .i64 ((zs.length : Int) - 1 - k) ∧ J (back zs k) wr ∧ Below n₀ W wr)
    (fun i _ => (intOf i + 1).toNat)
  case atStart => exact ⟨0, Nat.zero_le _, by simp, h0, Below.refl _ _⟩
  case round =>
    obtain ⟨k, hk, rfl, hJs, hnx⟩ := hrel
    have hcb : wr.cell? ⟨Bs, 0, none⟩ = some (.slice (some ⟨b, off, none⟩) zs.length cap) := (hnx.cell (p := ⟨Bs, 0, none⟩) hBn).trans hBs
    by_cases hlt : k < zs.length
    · obtain ⟨m, hm⟩ : ∃ m, m = zs.length - 1 - k := ⟨_, rfl⟩
      have hml : m < zs.length := by omega
      have hmi : (zs.length : Int) - 1 - k = (m : Int) := by omega
      obtain ⟨p, hp⟩ : ∃ p, zs[m]? = some p := ⟨_, List.getElem?_eq_getElem hml⟩
      obtain ⟨c0, c1, c2, c3⟩ := hc m p hp
      have d0 := (hnx.cell (p := ⟨b, off + m * 4, none⟩) hb).trans c0
      have d1 := (hnx.cell (p := ⟨b, off + m * 4 + 1, none⟩) hb).trans c1
      have d2 := (hnx.cell (p := ⟨b, off + m * 4 + 2, none⟩) hb).trans c2
      have d3 := (hnx.cell (p := ⟨b, off + m * 4 + 3, none⟩) hb).trans c3
      obtain ⟨fn, tmps, assign, body, hy, hR⟩ := hY _ (m, p) wr hJs (by rw [back_length]; exact hlt)
      dsimp only [Prm.val] at hy
      have hbk : back zs k ++ [(m, p)] = back zs (k + 1) := by rw [back_succ, ← hm, hp]; rfl
      rw [hmi]
      have HM : Hid ((zs.length : Int) - 1 - k = (m : Int)) := hmi
      have HB : Hid (back zs k ++ [(m, p)] = back zs (k + 1)) := hbk
      clear hm hmi hbk
      gi_wp2
      refine hR.mono ?_
      rw [HB.out]
      rintro e W3 (⟨rfl, hJ3, hk3⟩ | ⟨rfl, hJx3⟩)
      · gi_wp2
        have HM2 := HM.out
        go_roundw
        case rel => exact ⟨k + 1, by omega, by simp; omega, hJ3, hnx.trans hk3⟩
        case measure => simp [intOf]
      · gi_wp2
        refine bodyPost_ret (results_none rfl _ _ _) rfl ?_
        exact ⟨⟨_, rfl⟩, .inr ⟨k + 1, by omega, hJx3⟩⟩
    · obtain rfl : k = zs.length := by omega
      have e0 : (zs.length : Int) - 1 - (zs.length : Int) = -1 := by omega
      rw [e0]
      gi_wp2
      go_end0
      exact ⟨⟨_, rfl⟩, .inl hJs⟩

set_option maxRecDepth 100000 in
set_option maxHeartbeats 1000000 in
theorem Tryd.back1_nil_in (F : Fence) (n : Nat) (h7 : F.fn 129) (hro : F.round = none) (l Bs : Nat) (a : Option Addr) (cap : Nat) (J : List (Nat × Prm) → World → Prop) (W : World) (hBs : W.cell? ⟨Bs, 0, none⟩ = some (.slice a 0 cap)) (h0 : J [] W) :
    CallsIn F n Tryd.prog 129 #[.func (.yield l) #[] #[], .pointer (some ⟨Bs, 0, none⟩)] W fun e W' => (∃ v, e = .returned v) ∧ J [] W' := by
  refine callsIn_of_wp Tryd.func129 rfl h7 ?_ hro
  simp only [Tryd.ntmps129, List.size_toArray, List.length_cons, List.length_nil, Nat.reduceAdd, Nat.reduceSub, Array.replicate_succ, Array.replicate_zero, List.push_toArray, List.append_toArray, List.nil_append, List.cons_append]
  gi_wp2
  gi_loopw [3] (fun i wr => i = .int .i64 (-1) ∧ J [] wr) (fun _ _ => 0)
  case atStart => exact ⟨rfl, h0⟩
  case round =>
    obtain ⟨rfl, hJs⟩ := hrel
    gi_wp2
    go_end0
    exact ⟨⟨_, rfl⟩, hJs⟩

/-- THE SLICE VALUE sv HOLDS zs, in a block below n₀. -/
def Prms (n₀ : Nat) (W : World) (sv : Value) (zs : List Prm) : Prop :=
  ∃ a cap, sv = .slice a zs.length cap ∧ (zs ≠ [] → ∃ b off, a = some ⟨b, off, none⟩ ∧ b < n₀ ∧
    ∀ j p, zs[j]? = some p → W.cell? ⟨b, off + j * 4, none⟩ = some (.string p.u) ∧ W.cell? ⟨b, off + j * 4 + 1, none⟩ = some (.bool p.al) ∧ W.cell? ⟨b, off + j * 4 + 2, none⟩ = some (.int .i64 p.t) ∧ W.cell? ⟨b, off + j * 4 + 3, none⟩ = some (.int .i64 p.c))
theorem Prms.below {n₀ : Nat} {A B : World} (h : Below n₀ A B) {sv : Value} {zs : List Prm} (hp : Prms n₀ A sv zs) : Prms n₀ B sv zs := by
  obtain ⟨a, cap, e, hc⟩ := hp
  refine ⟨a, cap, e, fun hne => ?_⟩
  obtain ⟨b, off, ea, hb, hcs⟩ := hc hne
  refine ⟨b, off, ea, hb, fun j p hj => ?_⟩
  obtain ⟨c0, c1, c2, c3⟩ := hcs j p hj
  exact ⟨(h.cell (p := ⟨b, off + j * 4, none⟩) hb).trans c0, (h.cell (p := ⟨b, off + j * 4 + 1, none⟩) hb).trans c1, (h.cell (p := ⟨b, off + j * 4 + 2, none⟩) hb).trans c2, (h.cell (p := ⟨b, off + j * 4 + 3, none⟩) hb).trans c3⟩
theorem Prms.mono {n₀ n₁ : Nat} (h : n₀ ≤ n₁) {W : World} {sv : Value} {zs : List Prm} (hp : Prms n₀ W sv zs) : Prms n₁ W sv zs := by
  obtain ⟨a, cap, e, hc⟩ := hp
  refine ⟨a, cap, e, fun hne => ?_⟩
  obtain ⟨b, off, ea, hb, hcs⟩ := hc hne
  exact ⟨b, off, ea, Nat.lt_of_lt_of_le hb h, hcs⟩

theorem Tryd.back_stops (F : Fence) (n : Nat) (h7 : F.fn 129) (hro : F.round = none) (hn : 1 ≤ n) (Bs n₀ : Nat) (sv : Value) (zs : List Prm) (hreach : zs.length ≤ 281474976710656) (w : World) (hBs : Bs < w.heap.size) (hBn : Bs < n₀) (hn₀ : n₀ ≤ w.heap.size)
    (hc : w.cell? ⟨Bs, 0, none⟩ = some sv) (hI : Prms n₀ w sv zs) :
    SeqStopsK F n Tryd.prog 129 #[.pointer (some ⟨Bs, 0, none⟩)] (fun x : Nat × Prm => #[Value.int .i64 (x.1 : Int), x.2.val]) (Below n₀) (fun ys => ys = back zs zs.length) (fun pre => ∃ k, k ≤ zs.length ∧ pre = back zs k) zs.length w := fun l J Jx W hW _ _ hY h0 => by
  have hc' := (hW.cell (p := ⟨Bs, 0, none⟩) hBs).trans hc
  obtain ⟨a, cap, rfl, hcs⟩ := hI.below (hW.mono hn₀)
  cases hz : zs with
  | nil =>
    subst hz
    exact (Tryd.back1_nil_in F n h7 hro l Bs a cap J W hc' h0).mono fun e W' ⟨he, hj⟩ => ⟨he, .inl ⟨_, rfl, hj⟩⟩
  | cons z l' =>
    have hne : zs ≠ [] := by rw [hz]; simp
    rw [← hz]
    obtain ⟨b, off, rfl, hb, hcs⟩ := hcs hne
    refine (Tryd.back1_in F n h7 hro hn l Bs n₀ b off cap zs hreach hb hBn J Jx hY W hc' hcs h0).mono ?_
    rintro e W' ⟨he, hj | ⟨k, hk, hj⟩⟩
    · exact ⟨he, .inl ⟨_, rfl, hj⟩⟩
    · exact ⟨he, .inr ⟨_, ⟨k, hk, rfl⟩, hj⟩⟩

set_option maxHeartbeats 1000000 in
theorem Tryd.back_in (F : Fence) (n : Nat) (h5 : F.fn 90) (hro : F.round = none) (a : Option Addr) (len cap : Nat) (w : World) :
    CallsIn F n Tryd.prog 90 #[.slice a len cap] w fun e w' => e = .returned (.func (.func 129) #[] #[.pointer (some ⟨w.heap.size, 0, none⟩)]) ∧ w' = w.alloc (.cells #[.slice a len cap] 50) := by
  refine callsIn_of_wp Tryd.func90 rfl h5 ?_ hro
  simp only [Tryd.ntmps90, List.size_toArray, List.length_cons, List.length_nil, Nat.reduceAdd, Nat.reduceSub, Array.replicate_succ, Array.replicate_zero, List.push_toArray, List.append_toArray, List.nil_append, List.cons_append]
  gi_wp2
  go_ret
  exact ⟨rfl, rfl⟩

def Prm.for (u : ByteArray) (t c : Int) (p : Prm) : Bool := p.u.toList == u.toList && (p.t == 0 || p.t == t) && (p.c == -1 || p.c == c)

def mayL (u : ByteArray) (t c : Int) : List Prm → Bool
  | [] => false
  | p :: r => if p.for u t c then p.al else mayL u t c r

theorem mayL_none {u : ByteArray} {t c : Int} {l : List Prm} (h : ∀ p ∈ l, Prm.for u t c p = false) : mayL u t c l = false := by
  induction l with
  | nil => rfl
  | cons p r ih => rw [mayL, h p (by simp)]; simp only [Bool.false_eq_true, if_false]; exact ih fun q hq => h q (by simp [hq])
theorem mayL_first {u : ByteArray} {t c : Int} {l r : List Prm} {p : Prm} (h : ∀ p ∈ l, Prm.for u t c p = false) (hp : Prm.for u t c p = true) : mayL u t c (l ++ p :: r) = p.al := by
  induction l with
  | nil => simp [mayL, hp]
  | cons q l ih => rw [List.cons_append, mayL, h q (by simp)]; simp only [Bool.false_eq_true, if_false]; exact ih fun q hq => h q (by simp [hq])
theorem back_map {zs : List Prm} {k : Nat} (hk : k ≤ zs.length) : (back zs k).map (·.2) = zs.reverse.take k := by
  apply List.ext_getElem
  · simp [back, hk]
  · intro i h1 h2
    have : i < zs.length := by simp [back] at h1; omega
    simp [back, List.getElem_reverse, List.getElem?_eq_getElem (show zs.length - 1 - i < zs.length by omega)]
theorem mem_back {zs : List Prm} {j : Nat} (hj : j < zs.length) : (j, zs[j]) ∈ back zs zs.length := by
  simp only [back, List.mem_map, List.mem_range]
  refine ⟨zs.length - 1 - j, by omega, ?_⟩
  have : zs.length - 1 - (zs.length - 1 - j) = j := by omega
  rw [this, List.getElem?_eq_getElem hj]; rfl
theorem mayL_back {u : ByteArray} {t c : Int} {zs : List Prm} {k : Nat} (hk : k ≤ zs.length) {ini : List (Nat × Prm)} {last : Nat × Prm} (e : back zs k = ini ++ [last])
    (h : ∀ x ∈ ini, Prm.for u t c x.2 = false) (hl : Prm.for u t c last.2 = true) : mayL u t c zs.reverse = last.2.al := by
  have h1 := back_map hk
  rw [e, List.map_append, List.map_cons, List.map_nil] at h1
  rw [← List.take_append_drop k zs.reverse, ← h1, List.append_assoc, List.singleton_append]
  exact mayL_first (fun p hp => by obtain ⟨x, hx, rfl⟩ := List.mem_map.1 hp; exact h x hx) hl

set_option maxRecDepth 100000 in
set_option maxHeartbeats 2000000 in
theorem Tryd.May_in (F : Fence) (n : Nat) (h4 : F.fn 55) (h6 : F.fn 90) (h8 : F.fn 129) (hro : F.round = none) (hn : 3 ≤ n) (a : Option Addr) (len cap : Nat) (user : ByteArray) (rt rc : Int) (zs : List Prm) (hreach : zs.length ≤ 281474976710656) (w : World) (hI : Prms w.heap.size w (.slice a len cap) zs) :
    CallsIn F n Tryd.prog 55 #[.slice a len cap, .string user, .agg #[.int .i64 rt, .int .i64 rc]] w fun e W' => e = .returned (.bool (mayL user rt rc zs.reverse)) ∧ Below w.heap.size w W' := by
  have h1 : 1 ≤ n := by omega
  refine callsIn_of_wp_marks Tryd.func55 rfl h4 ?_ hro
  simp only [Tryd.ntmps55, List.size_toArray, List.length_cons, List.length_nil, Nat.reduceAdd, Nat.reduceSub, Array.replicate_succ, Array.replicate_zero, List.push_toArray, List.append_toArray, List.nil_append, List.cons_append]
  gi_wp2_with (gi_at_call 90; refine (Tryd.back_in F (n - 1) h6 hro _ _ _ _).mono ?_; rintro e w' ⟨rfl, rfl⟩)
  obtain ⟨W0, hW0⟩ : ∃ W0, ((((w.alloc (.cells #[.string user] 9)).alloc (.cells #[.int .i64 rt, .int .i64 rc] 99)).alloc (.cells #[.bool false] 4)).alloc (.cells #[.slice a len cap] 50)) = W0 := ⟨_, rfl⟩
  have hs0 : W0.heap.size = w.heap.size + 4 := by rw [← hW0]; simp
  have hs1 : (w.alloc (.cells #[.string user] 9)).heap.size = w.heap.size + 1 := by simp
  have hs2 : ((w.alloc (.cells #[.string user] 9)).alloc (.cells #[.int .i64 rt, .int .i64 rc] 99)).heap.size = w.heap.size + 1 + 1 := by simp
  have hs3 : (((w.alloc (.cells #[.string user] 9)).alloc (.cells #[.int .i64 rt, .int .i64 rc] 99)).alloc (.cells #[.bool false] 4)).heap.size = w.heap.size + 1 + 1 + 1 := by simp
  have hb0 : W0.heap[w.heap.size]? = some (.cells #[.string user] 9) := by
    rw [← hW0, Below.heap_alloc _ _ _ (by omega), Below.heap_alloc _ _ _ (by omega), Below.heap_alloc _ _ _ (by omega)]; exact World.alloc_heap_new _ _
  have hb1 : W0.heap[w.heap.size + 1]? = some (.cells #[.int .i64 rt, .int .i64 rc] 99) := by
    rw [← hW0, Below.heap_alloc _ _ _ (by omega), Below.heap_alloc _ _ _ (by omega), ← hs1]; exact World.alloc_heap_new _ _
  have hb2 : W0.heap[w.heap.size + 1 + 1]? = some (.cells #[.bool false] 4) := by
    rw [← hW0, Below.heap_alloc _ _ _ (by omega), ← hs2]; exact World.alloc_heap_new _ _
  have hb3 : W0.heap[w.heap.size + 1 + 1 + 1]? = some (.cells #[.slice a len cap] 50) := by
    rw [← hW0, ← hs3]; exact World.alloc_heap_new _ _
  have hB0 : Below w.heap.size w W0 := by
    rw [← hW0]; exact ((((Below.refl _ w).alloc (Nat.le_refl _) _).alloc (by simp) _).alloc (by simp; omega) _).alloc (by simp; omega) _
  rw [hW0]
  have hc3 : W0.cell? ⟨w.heap.size + 1 + 1 + 1, 0, none⟩ = some (.slice a len cap) := by simp [World.cell?, hb3]
  refine wpIn_rangeFunc_ownH hro h1 (gf := 129) (lb := #[.pointer (some ⟨w.heap.size + 1 + 1 + 1, 0, none⟩)]) rfl h8 (enters_of Tryd.func129 (by kernel_rfl) rfl)
    (Tryd.back_stops F (n - 1) h8 hro (by omega) (w.heap.size + 1 + 1 + 1) (w.heap.size + 4) _ zs hreach W0 (by omega) (by omega) (by omega) hc3 ((hI.below hB0).mono (by omega))) belowK_t (belowK_b (by omega)) (Below.refl _ _) (fun _ => rfl)
    (fun pre W => (∀ x ∈ pre, Prm.for user rt rc x.2 = false) ∧ Below (w.heap.size + 4) W0 W)
    (fun c pre W => (c = .ret ∧ ∃ ini last, pre = ini ++ [last] ∧ (∀ x ∈ ini, Prm.for user rt rc x.2 = false) ∧ Prm.for user rt rc last.2 = true ∧ W.cell? ⟨w.heap.size + 1 + 1, 0, none⟩ = some (.bool last.2.al)) ∧ Below w.heap.size W0 W)
    (OwnFrom.and (Own.from (fun s A B row hs hg hr => hs) _) (ownFrom_below (by omega) (by omega)))
    (fun c => OwnFrom.and (Own.from (fun s A B row hs hg hr => by obtain ⟨hc, ini, last, e1, e2, e3, e4⟩ := hs; exact ⟨hc, ini, last, e1, e2, e3, cell_kept e4 hg hr⟩) _) (ownFrom_below (by omega) (by omega)))
    ⟨by simp, Below.refl _ _⟩
    (fun x a' W => ∃ Bx, w.heap.size + 4 ≤ Bx ∧ (W.cell? ⟨Bx, 0, none⟩ = some (.string x.2.u) ∧ W.cell? ⟨Bx, 1, none⟩ = some (.bool x.2.al) ∧ W.cell? ⟨Bx, 2, none⟩ = some (.int .i64 x.2.t) ∧ W.cell? ⟨Bx, 3, none⟩ = some (.int .i64 x.2.c)) ∧
      a' = { tmps := #[.slice a len cap, .string user, .agg #[.int .i64 rt, .int .i64 rc], undef, .pointer (some ⟨w.heap.size, 0, none⟩), .pointer (some ⟨w.heap.size + 1, 0, none⟩), .pointer (some ⟨w.heap.size + 1 + 1, 0, none⟩), undef, .pointer (some ⟨Bx, 0, none⟩), .slice a len cap, .func (.func 129) #[] #[.pointer (some ⟨w.heap.size + 1 + 1 + 1, 0, none⟩)], .int .i64 (x.1 : Int), x.2.val, undef, undef, undef, undef, undef, undef, undef, undef, undef, undef, undef, undef, undef, undef, undef, undef, undef, undef, undef, undef, undef, undef, undef, undef, undef, undef, undef, undef, undef, undef], defers := [] })
    (fun x a' _ X Y row hs hg hr => by
      obtain ⟨Bx, h1, ⟨c0, c1, c2, c3⟩, h3⟩ := hs
      exact ⟨Bx, h1, ⟨cell_kept c0 hg (fun r e => (hr r e).2), cell_kept c1 hg (fun r e => (hr r e).2), cell_kept c2 hg (fun r e => (hr r e).2), cell_kept c3 hg (fun r e => (hr r e).2)⟩, h3⟩)
    ?assign ?body ?done ?stop
  case assign =>
    rintro l pre x W K ⟨hp, hB⟩ hK
    obtain ⟨xi, xp⟩ := x
    dsimp only [Prm.val] at hK ⊢
    have hsz := hB.size
    have hnb : (W.alloc (.cells #[.string xp.u, .bool xp.al, .int .i64 xp.t, .int .i64 xp.c] 54)).heap[W.heap.size]? = some (.cells #[.string xp.u, .bool xp.al, .int .i64 xp.t, .int .i64 xp.c] 54) := World.alloc_heap_new _ _
    gi_wp2
    refine hK _ _ ((KeepsOthers.alloc _ _).from _) ((Below.refl _ W).alloc (by omega) _) ⟨hp, hB.alloc (by omega) _⟩ ⟨W.heap.size, by omega, ⟨?_, ?_, ?_, ?_⟩, rfl⟩ <;> (simp only [World.cell?, hnb]; rfl)
  case body =>
    rintro l pre x a' W hl ⟨r, hr⟩ ⟨hp, hB⟩ ⟨Bx, hBx, ⟨c0, c1, c2, c3⟩, rfl⟩ hlt
    have d0 : W.cell? ⟨w.heap.size, 0, none⟩ = some (.string user) := by simp [World.cell?, (hB.block _ (by omega)).trans hb0]
    have d1 : W.cell? ⟨w.heap.size + 1, 0, none⟩ = some (.int .i64 rt) := by simp [World.cell?, (hB.block _ (by omega)).trans hb1]
    have d2 : W.cell? ⟨w.heap.size + 1, 1, none⟩ = some (.int .i64 rc) := by simp [World.cell?, (hB.block _ (by omega)).trans hb1]
    have d3 : W.cell? ⟨w.heap.size + 1 + 1, 0, none⟩ = some (.bool false) := by simp [World.cell?, (hB.block _ (by omega)).trans hb2]
    have d4 : W.frozen? ⟨w.heap.size + 1 + 1, 0, none⟩ = false := by simp [World.frozen?, (hB.block _ (by omega)).trans hb2]
    obtain ⟨xi, xp⟩ := x
    dsimp only [Prm.val] at c0 c1 c2 c3 ⊢
    gi_wp2
    all_goals first
      | (have hx : Prm.for user rt rc xp = true := by simp_all [Prm.for]
         exact ⟨(KeepsOthers.setCell _ _ _).from _, ⟨rfl, pre, (xi, xp), rfl, hp, hx, World.cell?_setCell_same' _ _ _ (by rw [d3]; rfl)⟩, (hB.mono (by omega)).setCell (p := ⟨w.heap.size + 1 + 1, 0, none⟩) (by simp; omega) _⟩)
      | (have hx : Prm.for user rt rc xp = false := by simp_all [Prm.for]
         exact ⟨KeepsFrom.refl _ _, Below.refl _ _, fun p hp' => (List.mem_append.1 hp').elim (hp p) (fun e => by simp at e; subst e; exact hx), hB⟩)
  case done =>
    rintro D ys W hD rfl ⟨hne, hB⟩ hK
    have d3 : W.cell? ⟨w.heap.size + 1 + 1, 0, none⟩ = some (.bool false) := by simp [World.cell?, (hB.block _ (by omega)).trans hb2]
    have d4 : W.frozen? ⟨w.heap.size + 1 + 1, 0, none⟩ = false := by simp [World.frozen?, (hB.block _ (by omega)).trans hb2]
    gi_wp2
    have hK' := (KeepsOthers.setCell W ⟨w.heap.size + 1 + 1, 0, none⟩ (.bool false)).same D _ hK rfl
    refine ⟨by simp, .inl ⟨_, _, rfl, run_takeDeferred hK', ?_⟩⟩
    have hc5 := cell_kept (World.cell?_setCell_same' W ⟨w.heap.size + 1 + 1, 0, none⟩ (.bool false) (by rw [d3]; rfl)) (grownBy_putObj' _ D (.deferred none)) (fun r e => by cases e; exact ⟨_, hK', rfl⟩)
    have hmay : mayL user rt rc zs.reverse = false := mayL_none fun p hp => by
      obtain ⟨j, hj, rfl⟩ := List.getElem_of_mem (List.mem_reverse.1 hp)
      exact hne (j, zs[j]) (mem_back hj)
    refine ⟨.bool false, ?_, by rw [hmay], (hB0.trans ((hB.mono (by omega)).setCell (p := ⟨w.heap.size + 1 + 1, 0, none⟩) (by simp; omega) _)).trans (belowK_b (w := w) (Nat.le_refl _) _ D _ _ (by omega) hK' rfl rfl)⟩
    simp [results, Tryd.f55, go_sem, hc5]
  case stop =>
    rintro D c pre W hD ⟨k, hk, rfl⟩ ⟨⟨rfl, ini, last, e1, e2, e3, hcr⟩, hB⟩ hK
    gi_wp2
    refine ⟨by simp, .inl ⟨_, _, rfl, run_takeDeferred hK, ?_⟩⟩
    have hc5 := cell_kept hcr (grownBy_putObj' _ D (.deferred none)) (fun r e => by cases e; exact ⟨_, hK, rfl⟩)
    have hmay : mayL user rt rc zs.reverse = last.2.al := mayL_back hk e1 e2 e3
    refine ⟨.bool last.2.al, ?_, by rw [hmay], (hB0.trans hB).trans (belowK_b (w := w) (Nat.le_refl _) W D _ _ (by omega) hK rfl rfl)⟩
    simp [results, Tryd.f55, go_sem, hc5]

end Go.Proofs
