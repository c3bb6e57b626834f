/- The engine, text 2: an abstract evaluator of Go code over pure data, proved sound. -/
import Derived.Test.YtjdddnbddnhilaaE1
import Derived.Laws.Tables
import Derived.Laws.AppendOwn
import Derived.Laws.IdiomRangeMap
import Derived.Laws.RangeAny
import Derived.CallsIn
set_option linter.unusedVariables false
set_option linter.unusedSimpArgs false
set_option linter.unusedSectionVars false
/- The engine, part O: aggregates and arrays that are built out of parts. -/
namespace Eng
open Go

/-- What a part is laid by. -/
theorem fold_set (off : Nat) : ∀ (l : List Value) (k : Nat) (cs : Array Value),
    ((l.zipIdx k).foldl (fun cs (c, j) => cs.setIfInBounds (off + j) c) cs).size = cs.size ∧
    ∀ m, ((l.zipIdx k).foldl (fun cs (c, j) => cs.setIfInBounds (off + j) c) cs)[m]? = if off + k ≤ m ∧ m < off + k + l.length ∧ m < cs.size then l[m - (off + k)]? else cs[m]?
  | [], k, cs => ⟨rfl, fun m => by simp; omega⟩
  | x :: l, k, cs => by
    obtain ⟨h1, h2⟩ := fold_set off l (k + 1) (cs.setIfInBounds (off + k) x)
    simp only [List.zipIdx_cons, List.foldl_cons]
    refine ⟨by rw [h1]; simp, fun m => ?_⟩
    rw [h2 m]
    simp only [Array.size_setIfInBounds, List.length_cons]
    by_cases h : off + k ≤ m ∧ m < off + k + (l.length + 1) ∧ m < cs.size
    · by_cases he : m = off + k
      · subst he
        rw [if_neg (by omega), if_pos h]
        simp [Array.getElem?_setIfInBounds, h.2.2]
      · rw [if_pos (by omega), if_pos h]
        have : m - (off + k) = (m - (off + (k + 1))) + 1 := by omega
        rw [this]; simp
    · rw [if_neg h, if_neg (by omega)]
      rw [Array.getElem?_setIfInBounds]
      split
      · rename_i he
        subst he
        split
        · omega
        · rename_i hs; simp [hs]
      · rfl

theorem fold_set' (off : Nat) (v : Array Value) (cs : Array Value) :
    (v.zipIdx.foldl (fun cs (c, j) => cs.setIfInBounds (off + j) c) cs).size = cs.size ∧
    ∀ m, (v.zipIdx.foldl (fun cs (c, j) => cs.setIfInBounds (off + j) c) cs)[m]? = if off ≤ m ∧ m < off + v.size ∧ m < cs.size then v[m - off]? else cs[m]? := by
  have := fold_set off v.toList 0 cs
  rw [← Array.foldl_toList, Array.toList_zipIdx]
  simpa using this

theorem splice_len {α : Type} (xs : List α) (j : Nat) (ys : List α) (h : j + ys.length ≤ xs.length) : (splice xs j ys).length = xs.length := by
  simp [splice]; omega

theorem splice_get {α : Type} (xs : List α) (j : Nat) (ys : List α) (h : j + ys.length ≤ xs.length) (m : Nat) :
    (splice xs j ys)[m]? = if j ≤ m ∧ m < j + ys.length then ys[m - j]? else xs[m]? := by
  unfold splice
  have hl : (xs.take j).length = j := by simp; omega
  by_cases h1 : m < j
  · rw [if_neg (by omega), List.append_assoc, List.getElem?_append_left (by omega), List.getElem?_take, if_pos h1]
  · by_cases h2 : m < j + ys.length
    · rw [if_pos (by omega), List.append_assoc, List.getElem?_append_right (by omega), hl, List.getElem?_append_left (by omega)]
    · rw [if_neg (by omega), List.getElem?_append_right (by simp; omega), List.getElem?_drop]
      congr 1
      simp; omega


/-- What is read as pure data leads to present objects alone. -/
theorem toP_ids {lk : Id → Option Obj} : ∀ (n : Nat) (d : D) (x : P), d.toP lk n = some x → ∀ id, id ∈ d.ids lk n → ∃ o, lk id = some o ∧ o ≠ .gone := by
  have base : ∀ (n : Nat) (d : D) (x : P), (∀ cs, d ≠ .agg cs) → (∀ id i j, d ≠ .ptr id i j) → (∀ f a b, d ≠ .fn f a b) → d.toP lk n = some x → ∀ id, id ∈ d.ids lk n → ∃ o, lk id = some o ∧ o ≠ .gone := by
    intro n d x h1 h2 h3 ht id hi
    cases d with
    | sl id' off len =>
      simp only [ids_sl, List.mem_singleton] at hi
      subst hi
      rw [toP_sl] at ht
      split at ht
      · rename_i sz es fix hlk; exact ⟨_, hlk, by simp⟩
      · simp at ht
    | map id' =>
      simp only [ids_map, List.mem_singleton] at hi
      subst hi
      rw [toP_map] at ht
      split at ht
      · rename_i hlk; exact ⟨_, hlk, by simp⟩
      · simp at ht
    | agg cs => exact absurd rfl (h1 cs)
    | ptr id i j => exact absurd rfl (h2 id i j)
    | fn f a b => exact absurd rfl (h3 f a b)
    | it id => cases n <;> simp [D.toP] at ht
    | tup vs => cases n <;> simp [D.toP] at ht
    | _ => cases n <;> simp [D.ids] at hi
  intro n
  induction n with
  | zero =>
    intro d x ht
    refine base 0 d x ?_ ?_ ?_ ht
    all_goals (intros; intro hc; subst hc; simp [D.toP] at ht)
  | succ n ih =>
    have list : ∀ (cs : List D) ps, allM (D.toP lk n) cs = some ps → ∀ id, id ∈ cs.flatMap (D.ids lk n) → ∃ o, lk id = some o ∧ o ≠ .gone := by
      intro cs ps hps id hid
      obtain ⟨hl, hi⟩ := allM_some hps
      obtain ⟨c, hc, hid⟩ := List.mem_flatMap.1 hid
      obtain ⟨k, hk, rfl⟩ := List.mem_iff_getElem.1 hc
      exact ih _ _ (hi k cs[k] ps[k] (by simp [hk]) (by simp [hl, hk])) id hid
    intro d x ht id hid
    cases d with
    | agg cs =>
      simp only [D.toP, Option.map_eq_some_iff] at ht
      obtain ⟨ps, hps, rfl⟩ := ht
      exact list cs ps hps id (by simpa [D.ids] using hid)
    | ptr id' i j =>
      simp only [D.toP] at ht
      simp only [D.ids, List.mem_cons] at hid
      split at ht
      · rename_i cs hlk
        rcases hid with rfl | hid
        · exact ⟨_, hlk, by simp⟩
        · rw [hlk] at hid
          split at ht
          · simp only [Option.map_eq_some_iff] at ht
            obtain ⟨ps, hps, rfl⟩ := ht
            exact list _ ps hps id hid
          · simp at ht
      · rename_i sz es fix hlk
        rcases hid with rfl | hid
        · exact ⟨_, hlk, by simp⟩
        · rw [hlk] at hid; simp at hid
      · simp at ht
    | fn f a b =>
      simp only [D.toP] at ht
      simp only [D.ids, List.mem_append] at hid
      split at ht
      · rename_i pa pb hpa hpb
        rcases hid with hid | hid
        · exact list a pa hpa id hid
        · exact list b pb hpb id hid
      · simp at ht
    | _ => exact base (n + 1) _ x (by simp) (by simp) (by simp) ht id hid

section
variable {C : Ctx} {X : Nat → Prop} {ρ : Id → Option Lay} {S : Nat → Prop} {st : St} {a : Act} {w : World} {i : Nat} {o : Oper} {e : Eff}

theorem mkAgg_rel {us : Array Value} {cs : List D} (hl : us.size = cs.length) (h : ∀ (j : Nat) u d, us[j]? = some u → cs[j]? = some d → RelD w S ρ u d ∧ oneC u) : RelD w S ρ (.agg us) (.mkAgg cs) := by
  unfold D.mkAgg
  split
  · rename_i ps hp
    have := allM_pure hp
    subst this
    refine .p _ _ (.agg us ps (by simpa using hl) (fun j v hv => ?_) (fun j v c hv hc => ?_))
    · have hj : j < (ps.map D.p).length := by have := (Array.getElem?_eq_some_iff.1 hv).1; omega
      exact (h j v _ hv (List.getElem?_eq_getElem hj)).2
    · exact (h j v (.p c) hv (by simp [hc])).1.of_p
  · refine .agg us cs hl (fun j v hv => ?_) (fun j v c hv hc => (h j v c hv hc).1)
    have hj : j < cs.length := by have := (Array.getElem?_eq_some_iff.1 hv).1; omega
    exact (h j v _ hv (List.getElem?_eq_getElem hj)).2

section
variable (h : Rep C X ρ S st a.tmps w) (hi : ¬ X i) (ht : ∀ d, o.dst = some d → d < C.E.nt) (hlit : o.op.operands.all litOk = true) (hE : EnvOk C.E)
include h

/-- Parts laid into an aggregate. -/
theorem fillAt_run {ti : TI} {place : Nat → Option (Nat × Nat)} (hp : ∀ i off t tp, ti.part C.E i = some (off, t) → C.E.ty t = some tp → place i = some (off, tp.size)) :
    ∀ (parts : List (Nat × Operand)), (∀ p ∈ parts, litOk p.2 = true) → ∀ (us : Array Value) (cs cs' : List D), us.size = cs.length → (∀ (j : Nat) u d, us[j]? = some u → cs[j]? = some d → RelD w S ρ u d ∧ oneC u) →
      fillAt C.E st.slots ti parts cs = some cs' →
      ∃ us', Instr.fill place us (parts.map fun p => (p.1, a.eval p.2)) = some us' ∧ us'.size = cs'.length ∧ ∀ (j : Nat) u d, us'[j]? = some u → cs'[j]? = some d → RelD w S ρ u d ∧ oneC u := by
  intro parts
  induction parts with
  | nil => intro _ us cs cs' hl hr hf; simp only [fillAt, Option.some.injEq] at hf; subst hf; exact ⟨us, rfl, hl, hr⟩
  | cons p parts ih =>
    intro hlp us cs cs' hl hr hf
    obtain ⟨k, x⟩ := p
    simp only [fillAt] at hf
    split at hf
    · rename_i off t hpt
      split at hf
      · rename_i tp hty
        split at hf
        · rename_i hsz
          obtain ⟨h1, h2, h3⟩ := hsz
          have hx := ev_rel h t (x := x) (hlp (k, x) (by simp))
          obtain ⟨hc1, hc2⟩ := cells_rel hx h3
          obtain ⟨g1, g2⟩ := fold_set' off (a.eval x).cells us
          obtain ⟨us', e1, e2, e3⟩ := ih (fun p hp => hlp p (by simp [hp])) ((a.eval x).cells.zipIdx.foldl (fun cs (c, j) => cs.setIfInBounds (off + j) c) us) _ cs' (by rw [g1, splice_len _ _ _ h2]; exact hl) (by
            intro j u d hu hd
            rw [g2] at hu
            rw [splice_get _ _ _ h2] at hd
            by_cases hj : off ≤ j ∧ j < off + (a.eval x).cells.size
            · rw [if_pos ⟨hj.1, hj.2, by omega⟩] at hu
              rw [if_pos (by omega)] at hd
              exact hc2 _ u d hu hd
            · rw [if_neg (by omega)] at hu
              rw [if_neg (by omega)] at hd
              exact hr j u d hu hd) hf
          refine ⟨us', ?_, e2, e3⟩
          simp only [List.map_cons, Instr.fill, hp k off t tp hpt hty]
          rw [if_neg (by simp; omega)]
          exact e1
        · simp at hf
      · simp at hf
    · simp at hf

include hi ht hE hlit
theorem does_build {t : TypeId} {parts : Array (Nat × Operand)} (ho : o.op = .build t parts) (hc : core C.E st.ep i o.op o.type st.slots st.objs = some e) : Does C X st a w i o e := by
  rw [ho] at hc
  have hlp : ∀ p ∈ parts.toList, litOk p.2 = true := by
    intro p hp
    rw [ho] at hlit
    simp only [Op.operands, Array.all_eq_true_iff_forall_mem] at hlit
    exact hlit p.2 (by simp; exact ⟨p.1, by simpa using hp⟩)
  simp only [core] at hc
  split at hc
  · rename_i ti hty
    split at hc
    · rename_i hag
      split at hc
      · rename_i cs hcs
        simp only [Option.some.injEq] at hc
        obtain ⟨ii, ds, z, hti⟩ := hE.is hty
        obtain ⟨z', hz, hl1, hl2, hrel⟩ := zeros_rel (ρ := ρ) (S := S) (w := w) hE hty
        have hzz : z' = z := by
          have h1 := hz w
          rw [run_zeroValue' hti.info hti.zero w] at h1
          simpa using h1.symm
        subst hzz
        have run : ∃ us', C.E.prog.built t (parts.map fun p => (p.1, a.eval p.2)).toList = some us' ∧ us'.size = cs.length ∧ ∀ (j : Nat) u d, us'[j]? = some u → cs[j]? = some d → RelD w S ρ u d ∧ oneC u := by
          cases hd : ti.d with
          | struct fs =>
            have htd := hti.td
            have heq := hti.eq
            rw [hd] at htd heq
            cases ds <;> simp [tdOk] at htd
            rename_i gs
            simp only [Bool.and_eq_true, List.all_eq_true] at heq
            have hplaces : ∃ places, gs.toList.mapM (fun f => (C.E.prog.info? f.type).map fun i => (f.offset, i.size)) = some places ∧
                ∀ (k : Nat) off tt tp, fs[k]? = some (off, tt) → C.E.ty tt = some tp → places.toArray[k]? = some (off, tp.size) := by
              have gen : ∀ (l : List Field), (∀ f ∈ l, (C.E.prog.info? f.type).isSome = true) → ∃ places, l.mapM (fun f => (C.E.prog.info? f.type).map fun i => (f.offset, i.size)) = some places ∧
                  ∀ (k : Nat) off tt tp, (l.map fun f => (f.offset, f.type))[k]? = some (off, tt) → C.E.ty tt = some tp → places.toArray[k]? = some (off, tp.size) := by
                intro l
                induction l with
                | nil => intro _; exact ⟨[], rfl, by simp⟩
                | cons f l ih =>
                  intro hall
                  obtain ⟨p1, q1, q2⟩ := ih fun f hf => hall f (by simp [hf])
                  obtain ⟨inf, hinf⟩ := Option.isSome_iff_exists.1 (hall f (by simp))
                  refine ⟨(f.offset, inf.size) :: p1, by simp [List.mapM_cons, hinf, q1], fun k off tt tp hk htt => ?_⟩
                  cases k with
                  | zero =>
                    simp only [List.map_cons, List.getElem?_cons_zero, Option.some.injEq, Prod.mk.injEq] at hk
                    obtain ⟨rfl, rfl⟩ := hk
                    obtain ⟨inf', hinf', hs', _⟩ := hE.info htt
                    rw [hinf] at hinf'; obtain rfl := Option.some.inj hinf'
                    simp [hs']
                  | succ k =>
                    simp only [List.map_cons, List.getElem?_cons_succ] at hk
                    have := q2 k off tt tp hk htt
                    simpa using this
              obtain ⟨p1, q1, q2⟩ := gen gs.toList (fun f hf => by
                have := heq.2 (f.offset, f.type) (by rw [← htd.1]; exact List.mem_map.2 ⟨f, hf, rfl⟩)
                simpa using this)
              exact ⟨p1, q1, fun k off tt tp hk htt => q2 k off tt tp (by rw [htd.1]; exact hk) htt⟩
            obtain ⟨places, q1, q2⟩ := hplaces
            obtain ⟨us', e1, e2, e3⟩ := fillAt_run h (ti := ti) (place := (places.toArray[·]?)) (fun k off tt tp hp htt => by
              simp only [TI.part, hd] at hp
              exact q2 k off tt tp hp htt) parts.toList hlp z'.cells _ cs (by simpa using hl1) hrel hcs
            refine ⟨us', ?_, e2, e3⟩
            simp only [Program.built, hti.info, hti.und, hti.zero, q1]
            simpa using e1
          | arr n el =>
            have htd := hti.td
            rw [hd] at htd
            cases ds <;> simp [tdOk] at htd
            obtain ⟨rfl, rfl⟩ := htd
            rename_i n el
            have heq := hti.eq
            rw [hd] at heq
            cases hte : C.E.prog.info? el with
            | none => simp [hte] at heq
            | some ie =>
              obtain ⟨us', e1, e2, e3⟩ := fillAt_run h (ti := ti) (place := fun k => some (k * ie.size, ie.size)) (fun k off tt tp hp htt => by
                simp only [TI.part, hd] at hp
                split at hp
                · rename_i te hte'
                  simp only [Option.some.injEq, Prod.mk.injEq] at hp
                  obtain ⟨rfl, rfl⟩ := hp
                  rw [hte'] at htt; obtain rfl := Option.some.inj htt
                  obtain ⟨inf', hinf', hs', _⟩ := hE.info hte'
                  rw [hte] at hinf'; obtain rfl := Option.some.inj hinf'
                  rw [hs']
                · simp at hp) parts.toList hlp z'.cells _ cs (by simpa using hl1) hrel hcs
              refine ⟨us', ?_, e2, e3⟩
              simp only [Program.built, hti.info, hti.und, hti.zero, hte]
              simpa using e1
          | _ => simp [TI.isAgg, hd] at hag
        obtain ⟨us', e1, e2, e3⟩ := run
        subst hc
        refine Does.quiet h hi ht (v := .agg us') ?_ rfl rfl rfl (mkAgg_rel e2 e3)
        have := run_build (P := C.E.prog) w t (parts.map fun p => (p.1, a.eval p.2)) us' e1
        simp only [execOp, ho, Sem.run_bind, this, Result.andThen_ok, Sem.run_pure]
      · simp at hc
    · simp at hc
  · simp at hc

/-- Cells that read as a list of elements. -/
def RelEs (w : World) (S : Nat → Prop) (sz : Nat) (us : Array Value) (es : List P) : Prop :=
  us.size = es.length * sz ∧ ∃ evs : Nat → Value, (∀ j, j < es.length → (evs j).cells.size = sz ∧ ∀ (k : Nat) v, (evs j).cells[k]? = some v → us[j * sz + k]? = some v) ∧ ∀ (j : Nat) x, es[j]? = some x → RelP w S (evs j) x

omit h hi ht hlit hE in
theorem RelEs.set {sz : Nat} {us : Array Value} {es : List P} (hr : RelEs w S sz us es) {k : Nat} {v : Value} {y : P} (hk : k < es.length) (hv : v.cells.size = sz) (hy : RelP w S v y) :
    RelEs w S sz (v.cells.zipIdx.foldl (fun cs (c, j) => cs.setIfInBounds (k * sz + j) c) us) (es.set k y) := by
  obtain ⟨h1, evs, h2, h3⟩ := hr
  obtain ⟨g1, g2⟩ := fold_set' (k * sz) v.cells us
  have hks : (k + 1) * sz ≤ es.length * sz := Nat.mul_le_mul_right _ hk
  rw [Nat.add_mul, Nat.one_mul] at hks
  refine ⟨by rw [g1, h1]; simp, fun j => if j = k then v else evs j, fun j hj => ?_, fun j x hx => ?_⟩
  · simp only [List.length_set] at hj
    by_cases hjk : j = k
    · subst hjk
      simp only [if_true]
      refine ⟨hv, fun m u hu => ?_⟩
      have hm : m < sz := by have := (Array.getElem?_eq_some_iff.1 hu).1; omega
      rw [g2, if_pos (by omega), show j * sz + m - j * sz = m by omega]
      exact hu
    · simp only [hjk, if_false]
      refine ⟨(h2 j hj).1, fun m u hu => ?_⟩
      have hm : m < sz := by have := (Array.getElem?_eq_some_iff.1 hu).1; have := (h2 j hj).1; omega
      rw [g2, if_neg]
      · exact (h2 j hj).2 m u hu
      · rintro ⟨q1, q2, _⟩
        rcases Nat.lt_or_gt_of_ne hjk with hlt | hgt
        · have : (j + 1) * sz ≤ k * sz := Nat.mul_le_mul_right _ hlt
          rw [Nat.add_mul, Nat.one_mul] at this; omega
        · have : (k + 1) * sz ≤ j * sz := Nat.mul_le_mul_right _ hgt
          rw [Nat.add_mul, Nat.one_mul] at this; omega
  · by_cases hjk : j = k
    · subst hjk
      rw [List.getElem?_set_self hk] at hx
      simp only [Option.some.injEq] at hx; subst hx
      simpa using hy
    · rw [List.getElem?_set_ne (Ne.symm hjk)] at hx
      simpa [hjk] using h3 j x hx

omit hi ht hlit hE in
theorem fillElems_run {t : Nat} {te : TI} {S' : Nat → Prop} (hS : ∀ b, S b → S' b) :
    ∀ (parts : List (Nat × Operand)), (∀ p ∈ parts, litOk p.2 = true) → (∀ id, id ∈ idsOf C.E st.slots st.objs t parts → ∀ L b, ρ id = some L → L.blk = some b → S' b) → ∀ (us : Array Value) (es es' : List P), RelEs w S' te.size us es →
      fillElems C.E st.slots st.objs t te parts es = some es' →
      ∃ us', Instr.fill (fun i => some (i * te.size, te.size)) us (parts.map fun p => (p.1, a.eval p.2)) = some us' ∧ RelEs w S' te.size us' es' := by
  intro parts
  induction parts with
  | nil => intro _ _ us es es' hr hf; simp only [fillElems, Option.some.injEq] at hf; subst hf; exact ⟨us, rfl, hr⟩
  | cons p parts ih =>
    intro hlp hids us es es' hr hf
    obtain ⟨k, x⟩ := p
    simp only [fillElems] at hf
    split at hf
    · rename_i y hy
      split at hf
      · rename_i hsz
        obtain ⟨h1, h2⟩ := hsz
        have hx := ev_rel h t (x := x) (hlp (k, x) (by simp))
        have hp := toP_rel (S' := S') h.objs hS depth _ _ _ hx hy (fun id hid => hids id (by
          simp only [idsOf, List.flatMap_cons, List.mem_append]; exact .inl hid))
        have hsv : (a.eval x).cells.size = te.size := by rw [hp.size]; exact h1
        obtain ⟨us', e1, e2⟩ := ih (fun p hp => hlp p (by simp [hp])) (fun id hid => hids id (by
          simp only [idsOf, List.flatMap_cons, List.mem_append]; exact .inr hid)) _ _ es' (hr.set h2 hsv hp) hf
        refine ⟨us', ?_, e2⟩
        simp only [List.map_cons, Instr.fill]
        have hks : (k + 1) * te.size ≤ es.length * te.size := Nat.mul_le_mul_right _ h2
        rw [Nat.add_mul, Nat.one_mul] at hks
        rw [if_neg (by simp [hr.1]; omega)]
        exact e1
      · simp at hf
    · simp at hf

theorem does_buildSlice {t : TypeId} {n : Nat} {parts : Array (Nat × Operand)} (ho : o.op = .buildSlice t n parts) (hc : core C.E st.ep i o.op o.type st.slots st.objs = some e) : Does C X st a w i o e := by
  rw [ho] at hc
  have hlp : ∀ p ∈ parts.toList, litOk p.2 = true := by
    intro p hp
    rw [ho] at hlit
    simp only [Op.operands, Array.all_eq_true_iff_forall_mem] at hlit
    exact hlit p.2 (by simp; exact ⟨p.1, by simpa using hp⟩)
  simp only [core] at hc
  split at hc
  · rename_i el sz by_ ze hty
    split at hc
    · rename_i te hte
      split at hc
      · rename_i es hes
        split at hc
        · rename_i hbig
          obtain ⟨hbig, hbn⟩ := hbig
          simp only [Option.some.injEq] at hc
          have hu := hE.slice hty rfl
          obtain ⟨z, hz, hzs, hzr⟩ := zeroP_rel (w := w) (S := S) hE hte
          have hszr : ∀ w, (Go.sizeOf el).run C.E.prog w = .ok te.size w := sizeOf_run hE hte
          have hlen : ∀ (parts : List (Nat × Operand)) es es', fillElems C.E st.slots st.objs el te parts es = some es' → es'.length = es.length := by
            intro parts
            induction parts with
            | nil => intro es es' hf; simp only [fillElems, Option.some.injEq] at hf; subst hf; rfl
            | cons p parts ih =>
              intro es es' hf
              obtain ⟨k, x⟩ := p
              simp only [fillElems] at hf
              split at hf
              · split at hf
                · rw [ih _ _ hf]; simp
                · simp at hf
              · simp at hf
          have hel : es.length = n := by rw [hlen _ _ _ hes]; simp
          -- the initial cells
          obtain ⟨us0, hus0, hr0⟩ : ∃ us0 : Array Value, (Array.range (n * te.size)).map (z.cells[· % z.cells.size]!) = us0 ∧ RelEs w S te.size us0 (List.replicate n te.zeroP) := by
            refine ⟨(Array.range (n * te.size)).map (z.cells[· % z.cells.size]!), rfl, by simp, fun _ => z, fun j hj => ⟨hzs, fun k v hv => ?_⟩, fun j x hx => ?_⟩
            · have hk : k < te.size := by have : k < z.cells.size := (Array.getElem?_eq_some_iff.1 hv).1; omega
              simp only [List.length_replicate] at hj
              have hlt : j * te.size + k < n * te.size := by
                have : (j + 1) * te.size ≤ n * te.size := Nat.mul_le_mul_right _ hj
                rw [Nat.add_mul] at this; omega
              have : (j * te.size + k) % te.size = k := by rw [Nat.mul_comm, Nat.mul_add_mod]; exact Nat.mod_eq_of_lt hk
              simp only [Array.getElem?_map, hzs]
              rw [Array.getElem?_range, if_pos hlt]
              simp only [Option.map_some, this, getElem!_def, hv]
            · rw [List.getElem?_replicate] at hx
              split at hx
              · simp only [Option.some.injEq] at hx; subst hx; exact hzr
              · simp at hx
          have hids : ∀ (parts : List (Nat × Operand)) es es', fillElems C.E st.slots st.objs el te parts es = some es' → ∀ id, id ∈ idsOf C.E st.slots st.objs el parts → ∃ o, st.objs id = some o ∧ o ≠ .gone := by
            intro parts
            induction parts with
            | nil => intro _ _ _ id hid; simp [idsOf] at hid
            | cons p parts ih =>
              intro es es' hf id hid
              obtain ⟨k, x⟩ := p
              simp only [fillElems] at hf
              simp only [idsOf, List.flatMap_cons, List.mem_append] at hid
              split at hf
              · rename_i y hy
                split at hf
                · rcases hid with hid | hid
                  · exact toP_ids depth _ _ hy id hid
                  · exact ih _ _ hf id hid
                · simp at hf
              · simp at hf
          let FS : Nat → Prop := fun b => S b ∨ ∃ id o L, id ∈ idsOf C.E st.slots st.objs el parts.toList ∧ st.objs id = some o ∧ o ≠ .gone ∧ ρ id = some L ∧ L.blk = some b
          obtain ⟨us, hfill, hsz', evs, hev, hrel⟩ := fillElems_run (a := a) h (t := el) (te := te) (S' := FS) (fun b hb => .inl hb) parts.toList hlp (fun id hid L b hL hb => by
            obtain ⟨o', h1, h2⟩ := hids _ _ _ hes id hid
            exact .inr ⟨id, o', L, hid, h1, h2, hL, hb⟩) us0 _ es (⟨hr0.1, by
              obtain ⟨evs, q1, q2⟩ := hr0.2
              exact ⟨evs, q1, fun j x hx => (q2 j x hx).mono (fun _ _ _ => rfl) fun b hb => .inl hb⟩⟩) hes
          refine Does.arr h hi ht (cells := us) (t := el) (sz := te.size) (len := n) (cap := n) (es := es) (evs := evs) (w' := w.alloc (.cells us el)) rfl ⟨rfl, rfl⟩ (by simp) ?_ hel (Nat.le_refl _) ?_ (by rw [hsz', hel]) (fun j hj => (hev j (by omega)).1)
            (fun j k v hj hv => (hev j (by omega)).2 k v hv) (fs := idsOf C.E st.slots st.objs el parts.toList) (fun id hid => ?_) (fun S' hS hF j x hx => ?_) hc.symm
          · have hbig' : ¬ (n * te.size > 2 ^ 24) := by omega
            simp only [execOp, ho, Instr.buildSlice, Sem.run_bind, run_underlying' hu, Result.andThen_ok, hszr, hbig', if_false, Sem.run_pure]
            by_cases h0 : n * te.size = 0
            · rw [h0] at hus0
              simp only [Array.range_zero', Array.map_empty] at hus0
              subst hus0
              simp [h0, Array.range_zero', hfill, newRow]
            · simp only [h0, if_false]
              simp [hz, hus0, hfill, newRow]
          · unfold lenMax; omega
          · obtain ⟨o', h1, h2⟩ := hids _ _ _ hes id hid
            obtain ⟨L, hL, _⟩ := h.objs id o' h1 h2
            simp [hL]
          · refine (hrel j x hx).mono (fun _ _ _ => rfl) fun b hb => ?_
            rcases hb with hb | ⟨id, o', L, q1, q2, q3, q4, q5⟩
            · exact hS b hb
            · exact hF id q1 o' L b q2 q3 q4 q5
        · simp at hc
      · simp at hc
    · simp at hc
  · simp at hc

end
end
end Eng

/- The engine, part P: stores. -/
namespace Eng
open Go

theorem size_setCells (b : Nat) : ∀ (vs : List Value) (o : Nat) (w : World), (w.setCells b o vs).heap.size = w.heap.size
  | [], _, _ => rfl
  | v :: r, o, w => by rw [World.setCells, size_setCells b r]; simp
theorem heap_setCells (b : Nat) : ∀ (vs : List Value) (o : Nat) (w : World) (k : Nat), k ≠ b → (w.setCells b o vs).heap[k]? = w.heap[k]?
  | [], _, _, _, _ => rfl
  | v :: r, o, w, k, h => by
    rw [World.setCells, heap_setCells b r _ _ k h]
    simp only [World.setCell]
    rw [Array.getElem?_modify]
    simp [Ne.symm h]

/-- What the cells of a row read as once some of them are set. -/
theorem cell_setCells {w : World} {b o : Nat} {vs : List Value} (hc : ∀ j, j < vs.length → (w.cell? ⟨b, o + j, none⟩).isSome = true) (m : Nat) :
    (w.setCells b o vs).cell? ⟨b, m, none⟩ = if o ≤ m ∧ m < o + vs.length then vs[m - o]? else w.cell? ⟨b, m, none⟩ := by
  by_cases h : o ≤ m ∧ m < o + vs.length
  · rw [if_pos h]
    have := World.cell?_setCells_in b vs o w hc (m - o) (by omega)
    rw [show o + (m - o) = m by omega] at this
    rw [this]; simp
  · rw [if_neg h]
    exact World.cell?_setCells_out b vs o w _ (fun _ _ => by simp; omega)

section
variable {C : Ctx} {X : Nat → Prop} {ρ : Id → Option Lay} {S : Nat → Prop} {st : St} {a : Act} {w : World} {i : Nat} {o : Oper} {e : Eff}

theorem storeAt_run {t : TypeId} {ti : TI} {b o' : Nat} {v : Value} (hE : EnvOk C.E) (hty : C.E.ty t = some ti) (hl : v.cells.size = ti.size)
    (hc : ∀ j, j < v.cells.size → (w.cell? ⟨b, o' + j, none⟩).isSome = true) (hf : ∀ j, j < v.cells.size → w.frozen? ⟨b, o' + j, none⟩ = false) (h1 : ∀ u ∈ v.cells.toList, u.oneCell' = true) :
    (Instr.storeAt t (.pointer (some ⟨b, o', none⟩)) v).run C.E.prog w = .ok () (w.setCells b o' v.cells.toList) := by
  have hst := run_storeCells_cells (P := C.E.prog) b o' v.cells.toList 0 w (by simpa using hc) (by simpa using hf) h1
  have hsz : (Go.sizeOf t).run C.E.prog w = .ok ti.size w := sizeOf_run hE hty w
  simp only [Nat.add_zero] at hst
  simp [Instr.storeAt, Instr.sureAddr, storeVar, hsz, hl, hst]

section
variable (h : Rep C X ρ S st a.tmps w) (hi : ¬ X i) (ht : ∀ d, o.dst = some d → d < C.E.nt) (hlit : o.op.operands.all litOk = true) (hE : EnvOk C.E)
include h hi ht hlit hE

theorem does_store {t : TypeId} {ad x : Operand} (ho : o.op = .store t ad x) (hc : core C.E st.ep i o.op o.type st.slots st.objs = some e) (hw : wrOk st e = true) : Does C X st a w i o e := by
  rw [ho] at hc hlit
  simp [Op.operands] at hlit
  have h1 := ev_rel h 0 hlit.1
  have h2 := ev_rel h t hlit.2
  simp only [core] at hc
  split at hc
  · rename_i ti hty
    split at hc
    · rename_i id i' j hp
      rw [hp] at h1
      generalize hv : a.eval ad = pv at h1
      cases h1 with
      | ptr _ _ _ L b hL hil hLb =>
      split at hc
      · -- a variable
        rename_i cs hlk
        split at hc
        · rename_i hcnd
          obtain ⟨rfl, hl, hjl, hok⟩ := hcnd
          simp only [Option.some.injEq] at hc
          subst hc
          simp only [Nat.zero_mul, Nat.add_zero] at hv
          obtain ⟨hc1, hc2⟩ := cells_rel h2 hok
          obtain ⟨L', hL', b', hLb', hsz, hln, hcell⟩ := h.objs id _ hlk (by simp)
          rw [hL] at hL'; obtain rfl := Option.some.inj hL'
          rw [hLb] at hLb'; obtain rfl := Option.some.inj hLb'
          have hfz : st.fz id = false := by simpa [wrOk] using hw
          have hown := h.own id _ L b hlk (by simp) hL hLb
          have hnS : ¬ S b := hown.2.2.2 hfz
          have hat : ∀ (m : Nat) (hm : m < cs.length), ∃ v, w.cell? ⟨b, L.base + m, none⟩ = some v ∧ w.frozen? ⟨b, L.base + m, none⟩ = false ∧ oneC v ∧ RelD w S ρ v cs[m] := fun m hm => hcell m cs[m] (by simp [hm])
          have hcs : ∀ m, m < (a.eval x).cells.size → (w.cell? ⟨b, L.base + j + m, none⟩).isSome = true := fun m hm => by
            obtain ⟨v, q, _⟩ := hat (j + m) (by omega)
            rw [show L.base + j + m = L.base + (j + m) by omega, q]; rfl
          have hrun := storeAt_run (w := w) (b := b) (o' := L.base + j) (v := a.eval x) hE hty (by omega) hcs (fun m hm => by
            obtain ⟨v, _, q, _⟩ := hat (j + m) (by omega)
            rw [show L.base + j + m = L.base + (j + m) by omega]; exact q) (fun u hu => by
            obtain ⟨m, hm, rfl⟩ := List.mem_iff_getElem.1 hu
            simp at hm
            exact (hc2 m _ _ (by simp [hm]) (List.getElem?_eq_getElem (by omega))).2)
          let w' := w.setCells b (L.base + j) (a.eval x).cells.toList
          have hcell' := fun m => cell_setCells (w := w) (b := b) (o := L.base + j) (vs := (a.eval x).cells.toList) (by simpa using hcs) m
          have kS : Keep S w w' := fun b' hb' _ => heap_setCells b _ _ _ b' (fun e => hnS (e ▸ hb'))
          let ds := (ev C.E st.slots t x).cells
          have hds : ds.length = (ev C.E st.slots t x).cells.length := rfl
          let ρ' : Id → Option Lay := fun id => if id.1 = st.ep ∧ id.2.1 = i then vlay ds 0 id.2.2 else ρ id
          have f := h.fresh hi
          have hρ : ∀ id L, ρ id = some L → ρ' id = some L := by
            intro id L' hL
            simp only [ρ']
            split
            · rename_i hc
              obtain ⟨ep, jj, k⟩ := id
              simp only at hc
              obtain ⟨rfl, rfl⟩ := hc
              rw [f k] at hL; simp at hL
            · exact hL
          have hvl : ∀ k L, vlay ds 0 k = some L → ρ' (st.ep, i, k) = some L := fun k L' hk => by simp [ρ', hk]
          have nv : ∀ k o L b, (k, o) ∈ virtNew 0 ds → ρ' (st.ep, i, k) = some L → L.blk = some b → False := by
            intro k o L b hm hL hb
            obtain ⟨h1, sz, h2, _⟩ := virtNew_mem _ _ _ _ hm
            rw [hvl _ ⟨none, 0, sz, 0, 0⟩ (by simp [vlay]; rw [show k - 0 = k by omega] at h2; rw [h2])] at hL
            simp only [Option.some.injEq] at hL; subst hL; simp at hb
          refine ⟨.skip, undef, w', ?_, .inr ⟨rfl, rfl⟩, ρ', h.step ρ' hi ht (by rw [show w'.heap.size = w.heap.size from size_setCells _ _ _ _]; exact Nat.le_refl _) (Quiet.setCells _ _ _ _) ?_ ?_ hρ ?_ (by simp) ?_ ?_ ?_ ?_⟩
          · simp only [execOp, ho, hv, Sem.run_bind, hrun, Result.andThen_ok, Sem.run_pure]; rfl
          · intro b' hb' hne
            exact heap_setCells b _ _ _ b' (fun e => hne id _ L (List.mem_singleton.2 rfl) hL (e ▸ hLb))
          · intro id' o' hm
            simp only [List.mem_singleton, Prod.mk.injEq] at hm
            obtain ⟨rfl, rfl⟩ := hm
            exact ⟨hfz, _, hlk, by simp⟩
          · intro id' hn
            simp only [ρ'] at hn
            split at hn
            · rename_i hc; exact .inr hc
            · exact .inl hn
          · intro k o' hm
            obtain ⟨h1, sz, h2, rfl⟩ := virtNew_mem _ _ _ _ hm
            refine ⟨⟨none, 0, sz, 0, 0⟩, hvl _ _ (by simp [vlay]; rw [show k - 0 = k by omega] at h2; rw [h2]), by simp, fun S' _ _ _ => relObj_empty sz false⟩
          · intro k o1 L1 k' o2 L2 b1 hm _ hL1 hb1 _ _ _ _
            exact (nv _ _ _ _ hm hL1 hb1).elim
          · intro id' o' L1 hm _ hL1 S' hS _
            simp only [List.mem_singleton, Prod.mk.injEq] at hm
            obtain ⟨rfl, rfl⟩ := hm
            rw [hL] at hL1; obtain rfl := Option.some.inj hL1
            have hvlen : (virt st.ep i 0 ds).length = ds.length := virt_len _ _ _ _
            have hsl := splice_len cs j (virt st.ep i 0 ds) (by rw [hvlen]; exact hjl)
            refine ⟨b, hLb, by rw [hsl]; exact hsz, hln, fun m d hd => ?_⟩
            have hm : m < cs.length := by have : m < (splice cs j (virt st.ep i 0 ds)).length := (List.getElem?_eq_some_iff.1 hd).1
                                          omega
            rw [splice_get _ _ _ (by rw [hvlen]; exact hjl)] at hd
            obtain ⟨v0, q1, q2, q3, q4⟩ := hat m hm
            rw [show w'.frozen? ⟨b, L.base + m, none⟩ = w.frozen? ⟨b, L.base + m, none⟩ from World.frozen?_setCells _ _ _ _ _]
            rw [hcell' (L.base + m)]
            by_cases hin : j ≤ m ∧ m < j + ds.length
            · rw [if_pos (by rw [hvlen]; exact hin)] at hd
              have hu : m - j < (a.eval x).cells.size := by rw [hc1]; omega
              rw [if_pos (by simp; omega)]
              have hu' : m - j < ds.length := by omega
              obtain ⟨r1, r2⟩ := hc2 (m - j) (a.eval x).cells[m - j] ds[m - j] (by simp [hu]) (List.getElem?_eq_getElem hu')
              obtain ⟨d', hd', hr⟩ := virt_rel (i := i) (ep := st.ep) (k0 := 0) kS hS hρ hvl (List.getElem?_eq_getElem hu' : ds[m - j]? = some ds[m - j]) r1
              rw [hd] at hd'; obtain rfl := Option.some.inj hd'
              refine ⟨(a.eval x).cells[m - j], ?_, q2, r2, hr⟩
              rw [show L.base + m - (L.base + j) = m - j by omega]
              simp [hu]
            · rw [if_neg (by rw [hvlen]; exact hin)] at hd
              rw [if_neg (by simp; omega)]
              rw [List.getElem?_eq_getElem hm] at hd
              obtain rfl := Option.some.inj hd
              exact ⟨v0, q1, q2, q3, q4.mono kS hS hρ⟩
          · intro S' _ _ d _; exact .undef
        · simp at hc
      · -- an element of an array of the call's own
        rename_i sz es fix hlk
        split at hc
        · rename_i y hy
          split at hc
          · rename_i hcnd
            obtain ⟨hyl, hjs, hpos⟩ := hcnd
            simp only [Option.some.injEq] at hc
            subst hc
            obtain ⟨L', hL', hsz, hel, hlc, hlm, hbn, hcells, evs, hev, hcell, hrel⟩ := h.objs id _ hlk (by simp)
            rw [hL] at hL'; obtain rfl := Option.some.inj hL'
            subst hsz
            have hids := toP_ids depth _ _ hy
            have hapart : ∀ f, f ∈ (ev C.E st.slots t x).ids st.objs depth → id ≠ f := by
              simp only [wrOk, Bool.and_eq_true, List.all_eq_true, List.mem_singleton, forall_eq, decide_eq_true_eq] at hw
              exact hw.2
            let FS : Nat → Prop := fun b => S b ∨ ∃ id' o L, id' ∈ (ev C.E st.slots t x).ids st.objs depth ∧ st.objs id' = some o ∧ o ≠ .gone ∧ ρ id' = some L ∧ L.blk = some b
            have hvy : RelP w FS (a.eval x) y := toP_rel (S' := FS) h.objs (fun b hb => .inl hb) depth _ _ _ h2 hy (fun id' hid L b hL hb => by
              obtain ⟨o', q1, q2⟩ := hids id' hid
              exact .inr ⟨id', o', L, hid, q1, q2, hL, hb⟩)
            have hvs : (a.eval x).cells.size = ti.size := by rw [hvy.size]; exact hyl
            have hfz : st.fz id = false := by
              simp only [wrOk, Bool.and_eq_true, List.all_eq_true, List.mem_singleton, forall_eq, Bool.not_eq_true'] at hw
              exact hw.1
            have hown := h.own id _ L b hlk (by simp) hL hLb
            have hnS : ¬ S b := hown.2.2.2 hfz
            have hblk : (i' + 1) * L.sz ≤ L.cap * L.sz := Nat.mul_le_mul_right _ (by omega)
            rw [Nat.add_mul, Nat.one_mul] at hblk
            have hcs : ∀ m, m < (a.eval x).cells.size → (w.cell? ⟨b, L.base + i' * L.sz + j + m, none⟩).isSome = true ∧ w.frozen? ⟨b, L.base + i' * L.sz + j + m, none⟩ = false := fun m hm => by
              obtain ⟨⟨v, q⟩, q2⟩ := hcells b hLb (i' * L.sz + j + m) (by omega)
              rw [show L.base + i' * L.sz + j + m = L.base + (i' * L.sz + j + m) by omega, q, q2]; exact ⟨rfl, rfl⟩
            have h1c : ∀ u ∈ (a.eval x).cells.toList, u.oneCell' = true := fun u hu => by
              obtain ⟨m, hm, rfl⟩ := List.mem_iff_getElem.1 hu
              simp at hm
              exact (hvy.cell (j := m) (u := (a.eval x).cells[m]) (c := y.cells[m]'(by omega)) (by simp [hm]) (List.getElem?_eq_getElem (by omega))).2
            have hrun := storeAt_run (w := w) (b := b) (o' := L.base + i' * L.sz + j) (v := a.eval x) hE hty hvs (fun m hm => (hcs m hm).1) (fun m hm => (hcs m hm).2) h1c
            let w' := w.setCells b (L.base + i' * L.sz + j) (a.eval x).cells.toList
            have hcell' := fun m => cell_setCells (w := w) (b := b) (o := L.base + i' * L.sz + j) (vs := (a.eval x).cells.toList) (by simpa using fun m hm => (hcs m hm).1) m
            have kS : Keep S w w' := fun b' hb' _ => heap_setCells b _ _ _ b' (fun e => hnS (e ▸ hb'))
            refine ⟨.skip, undef, w', ?_, .inr ⟨rfl, rfl⟩, ρ, h.step ρ hi ht (by rw [show w'.heap.size = w.heap.size from size_setCells _ _ _ _]; exact Nat.le_refl _) (Quiet.setCells _ _ _ _) ?_ ?_ (fun _ _ h => h) (fun id h => .inl h) ?_ (fun _ _ hm => by simp at hm) (fun _ _ _ _ _ _ _ hm => by simp at hm) ?_ ?_⟩
            · simp only [execOp, ho, hv, Sem.run_bind, hrun, Result.andThen_ok, Sem.run_pure]; rfl
            · intro b' hb' hne
              exact heap_setCells b _ _ _ b' (fun e => hne id _ L (List.mem_singleton.2 rfl) hL (e ▸ hLb))
            · intro id' o' hm
              simp only [List.mem_singleton, Prod.mk.injEq] at hm
              obtain ⟨rfl, rfl⟩ := hm
              exact ⟨hfz, _, hlk, by simp⟩
            · intro id' hid
              obtain ⟨o', q1, q2⟩ := hids id' hid
              obtain ⟨L', hL', _⟩ := h.objs id' o' q1 q2
              refine ⟨by simp [hL'], fun o'' hm => ?_⟩
              simp only [List.mem_singleton, Prod.mk.injEq] at hm
              obtain ⟨rfl, _⟩ := hm
              exact hapart _ hid rfl
            · intro id' o' L1 hm _ hL1 S' hS hF
              simp only [List.mem_singleton, Prod.mk.injEq] at hm
              obtain ⟨rfl, rfl⟩ := hm
              rw [hL] at hL1; obtain rfl := Option.some.inj hL1
              have hie : i' < es.length := by omega
              have hge : es.getD i' default = es[i'] := by simp [hie]
              have hFS : ∀ b, FS b → S' b := fun b hb => by
                rcases hb with hb | ⟨idq, o', L, q1, q2, q3, q4, q5⟩
                · exact hS b hb
                · exact hF idq q1 o' L b q2 q3 q4 q5
              have kF : Keep FS w w' := fun b' hb' hlt => by
                refine heap_setCells b _ _ _ b' (fun e => ?_)
                subst e
                rcases hb' with hb | ⟨idq, o', L', q1, q2, q3, q4, q5⟩
                · exact hnS hb
                · have := h.inj idq o' L' id' _ L b' q2 q3 q4 q5 hlk (by simp) hL hLb
                  subst this
                  exact hapart _ q1 rfl
              -- the element that has been stored to
              have hri := hrel i' es[i'] (by simp [hie])
              have hsi := hri.size
              have hevi := hev i' hil
              have hput : ∃ v' : Value, v'.cells.size = L.sz ∧ (∀ (k : Nat) u, v'.cells[k]? = some u → w'.cell? ⟨b, L.base + i' * L.sz + k, none⟩ = some u) ∧ RelP w' S' v' (es[i'].put L.sz j y) := by
                have hold : ∀ (k : Nat) u, (evs i').cells[k]? = some u → w.cell? ⟨b, L.base + i' * L.sz + k, none⟩ = some u := fun k u hu => hcell b hLb i' k u hil hu
                unfold P.put
                split
                · rename_i hwhole
                  obtain ⟨rfl, hws⟩ := hwhole
                  refine ⟨a.eval x, by omega, fun k u hu => ?_, hvy.mono kF hFS⟩
                  have hk : k < (a.eval x).cells.size := (Array.getElem?_eq_some_iff.1 hu).1
                  rw [hcell', if_pos (by simp; omega)]
                  rw [show L.base + i' * L.sz + k - (L.base + i' * L.sz + 0) = k by omega]
                  simpa using hu
                · rename_i hpart
                  have hbig : 2 ≤ L.sz := by
                    rcases Nat.lt_or_ge L.sz 2 with hlt | hge
                    · exact absurd ⟨by omega, by omega⟩ hpart
                    · exact hge
                  generalize hex : es[i'] = ex at hri hsi
                  generalize hevv : evs i' = ev' at hri hsi hevi hold
                  cases hri with
                  | agg vs cs hl ho hr =>
                    dsimp only
                    have hcl : cs.length = L.sz := by rw [← hl]; simpa [Value.cells] using hevi
                    obtain ⟨g1, g2⟩ := fold_set' j (a.eval x).cells vs
                    generalize (a.eval x).cells.zipIdx.foldl (fun cs (c, m) => cs.setIfInBounds (j + m) c) vs = nv at g1 g2
                    have hold : ∀ (k : Nat) u, vs[k]? = some u → w.cell? ⟨b, L.base + i' * L.sz + k, none⟩ = some u := hold
                    refine ⟨.agg nv, show nv.size = L.sz by omega, fun k u hu => ?_, ?_⟩
                    · replace hu : nv[k]? = some u := hu
                      rw [g2] at hu
                      rw [hcell']
                      by_cases hin : j ≤ k ∧ k < j + (a.eval x).cells.size
                      · rw [if_pos ⟨hin.1, hin.2, by omega⟩] at hu
                        rw [if_pos (by simp; omega), show L.base + i' * L.sz + k - (L.base + i' * L.sz + j) = k - j by omega]
                        simpa using hu
                      · rw [if_neg (by omega)] at hu
                        rw [if_neg (by simp; omega)]
                        exact hold k u hu
                    · have hsp := splice_len cs j y.cells (by omega)
                      refine .agg _ _ (by rw [g1, hsp]; exact hl) (fun k u hu => ?_) (fun k u c hu hc => ?_)
                      · rw [g2] at hu
                        by_cases hin : j ≤ k ∧ k < j + (a.eval x).cells.size ∧ k < vs.size
                        · rw [if_pos hin] at hu
                          exact h1c u (by have := Array.mem_of_getElem? hu; simpa using this)
                        · rw [if_neg hin] at hu
                          exact ho k u hu
                      · rw [g2] at hu
                        rw [splice_get _ _ _ (by omega)] at hc
                        by_cases hin : j ≤ k ∧ k < j + (a.eval x).cells.size
                        · rw [if_pos ⟨hin.1, hin.2, by omega⟩] at hu
                          rw [if_pos (by omega)] at hc
                          exact ((hvy.cell hu hc).1).mono kF hFS
                        · rw [if_neg (by omega)] at hu
                          rw [if_neg (by omega)] at hc
                          exact (hr k u c hu hc).mono kS hS
                  | _ => simp [P.cells] at hsi; omega
              obtain ⟨v', p1, p2, p3⟩ := hput
              have other : ∀ (q k : Nat), q ≠ i' → k < L.sz → w'.cell? ⟨b, L.base + q * L.sz + k, none⟩ = w.cell? ⟨b, L.base + q * L.sz + k, none⟩ := by
                intro q k hq hk
                rw [hcell', if_neg]
                simp only [Array.length_toList]
                rintro ⟨r1, r2⟩
                rcases Nat.lt_or_gt_of_ne hq with hlt | hgt
                · have : (q + 1) * L.sz ≤ i' * L.sz := Nat.mul_le_mul_right _ hlt
                  rw [Nat.add_mul, Nat.one_mul] at this; omega
                · have : (i' + 1) * L.sz ≤ q * L.sz := Nat.mul_le_mul_right _ hgt
                  rw [Nat.add_mul, Nat.one_mul] at this; omega
              refine ⟨rfl, by simpa using hel, hlc, hlm, hbn, fun b1 hb1 m hm => ?_, fun q => if q = i' then v' else evs q, fun q hq => ?_, fun b1 hb1 q k u hq hu => ?_, fun q z hz => ?_⟩
              · rw [hLb] at hb1; obtain rfl := Option.some.inj hb1
                obtain ⟨⟨v0, q1⟩, q2⟩ := hcells b hLb m hm
                rw [show w'.frozen? ⟨b, L.base + m, none⟩ = w.frozen? ⟨b, L.base + m, none⟩ from World.frozen?_setCells _ _ _ _ _]
                refine ⟨?_, q2⟩
                rw [hcell']
                by_cases hin : L.base + i' * L.sz + j ≤ L.base + m ∧ L.base + m < L.base + i' * L.sz + j + (a.eval x).cells.toList.length
                · rw [if_pos hin]
                  exact ⟨_, List.getElem?_eq_getElem (by omega)⟩
                · rw [if_neg hin]; exact ⟨v0, q1⟩
              · by_cases hqi : q = i'
                · simp only [hqi, if_true]; exact p1
                · simp only [hqi, if_false]; exact hev q hq
              · rw [hLb] at hb1; obtain rfl := Option.some.inj hb1
                by_cases hqi : q = i'
                · subst hqi
                  simp only [if_true] at hu
                  exact p2 k u hu
                · simp only [hqi, if_false] at hu
                  have hk : k < L.sz := by have := (Array.getElem?_eq_some_iff.1 hu).1; have := hev q hq; omega
                  rw [other q k hqi hk]
                  exact hcell b hLb q k u hq hu
              · by_cases hqi : q = i'
                · subst hqi
                  rw [List.getElem?_set_self hie] at hz
                  simp only [Option.some.injEq] at hz
                  rw [hge] at hz
                  subst hz
                  simpa using p3
                · rw [List.getElem?_set_ne (Ne.symm hqi)] at hz
                  simp only [hqi, if_false]
                  exact (hrel q z hz).mono kS hS
            · intro S' _ _ d _; exact .undef
          · simp at hc
        · simp at hc
      · simp at hc
    · simp at hc
  · simp at hc

end
end
end Eng

/- The engine, part Q: append and copy. -/
namespace Eng
open Go

section
variable {C : Ctx} {X : Nat → Prop} {ρ : Id → Option Lay} {S : Nat → Prop} {st : St} {a : Act} {w : World} {i : Nat} {o : Oper} {e : Eff}

/-- The cells of a row of elements, one after the other. -/
def flat (sz : Nat) (evs : Nat → Value) : Nat → List Value
  | 0 => []
  | n + 1 => flat sz evs n ++ (evs n).cells.toList

theorem flat_len {sz : Nat} {evs : Nat → Value} : ∀ {n : Nat}, (∀ j, j < n → (evs j).cells.size = sz) → (flat sz evs n).length = n * sz
  | 0, _ => by simp [flat]
  | n + 1, h => by
    have := flat_len (n := n) fun j hj => h j (by omega)
    have h2 := h n (by omega)
    simp only [flat, List.length_append, this, Array.length_toList, h2, Nat.add_mul, Nat.one_mul]

theorem flat_get {sz : Nat} {evs : Nat → Value} : ∀ {n : Nat}, (∀ j, j < n → (evs j).cells.size = sz) → ∀ (j k : Nat) u, j < n → (evs j).cells[k]? = some u → (flat sz evs n)[j * sz + k]? = some u
  | 0, _, j, k, u, hj, _ => by omega
  | n + 1, h, j, k, u, hj, hu => by
    have hl := flat_len (n := n) fun j hj => h j (by omega)
    have hk : k < sz := by have := (Array.getElem?_eq_some_iff.1 hu).1; have := h j hj; omega
    simp only [flat]
    by_cases hjn : j = n
    · subst hjn
      rw [List.getElem?_append_right (by omega), hl, show j * sz + k - j * sz = k by omega]
      simpa using hu
    · have : (j + 1) * sz ≤ n * sz := Nat.mul_le_mul_right _ (by omega)
      rw [Nat.add_mul, Nat.one_mul] at this
      rw [List.getElem?_append_left (by omega)]
      exact flat_get (fun j hj => h j (by omega)) j k u (by omega) hu

/-- Each cell of a row belongs to one of its elements. -/
theorem flat_inv {sz : Nat} {evs : Nat → Value} : ∀ {n : Nat}, (∀ j, j < n → (evs j).cells.size = sz) → ∀ (m : Nat) u, (flat sz evs n)[m]? = some u → ∃ j k, j < n ∧ m = j * sz + k ∧ (evs j).cells[k]? = some u
  | 0, _, m, u, hu => by simp [flat] at hu
  | n + 1, h, m, u, hu => by
    have hl := flat_len (n := n) fun j hj => h j (by omega)
    simp only [flat] at hu
    by_cases hm : m < n * sz
    · rw [List.getElem?_append_left (by omega)] at hu
      obtain ⟨j, k, h1, h2, h3⟩ := flat_inv (fun j hj => h j (by omega)) m u hu
      exact ⟨j, k, by omega, h2, h3⟩
    · rw [List.getElem?_append_right (by omega), hl] at hu
      exact ⟨n, m - n * sz, by omega, by omega, by simpa using hu⟩

/-- What is appended or copied, as the model reads it: so many elements, their cells. -/
def Src (P : Program) (w : World) (S : Nat → Prop) (sz : Nat) (v : Value) (xs : List Eng.P) : Prop :=
  ∃ (news : List Value) (evs : Nat → Value), news.length = xs.length * sz ∧ xs.length ≤ maxInt ∧ (∀ w', (Builtin.lenOf v).run P w' = .ok xs.length w') ∧
    (∀ n, n ≤ xs.length → ∀ w', w'.heap = w.heap → (Builtin.firstCells sz n v).run P w' = .ok (news.take (n * sz)).toArray w') ∧ (∀ u ∈ news, oneC u) ∧
    (∀ j, j < xs.length → (evs j).cells.size = sz ∧ ∀ (k : Nat) u, (evs j).cells[k]? = some u → news[j * sz + k]? = some u) ∧ ∀ (j : Nat) x, xs[j]? = some x → RelP w S (evs j) x

theorem cell_heap {w w' : World} (h : w'.heap = w.heap) (x : Addr) : w'.cell? x = w.cell? x := by simp [World.cell?, h]

theorem src_of_cells {P : Program} {ad : Option Addr} {len cap sz : Nat} {es : List Eng.P} {evs : Nat → Value} (hl : es.length = len) (hm : len ≤ lenMax)
    (hsz : ∀ i, i < len → (evs i).cells.size = sz)
    (hcell : ∀ i, i < len → ∃ b o, ad = some ⟨b, o, none⟩ ∧ ∀ (j : Nat) v, (evs i).cells[j]? = some v → w.cell? ⟨b, o + i * sz + j, none⟩ = some v)
    (hr : ∀ (i : Nat) x, es[i]? = some x → RelP w S (evs i) x) : Src P w S sz (.slice ad len cap) es := by
  subst hl
  have hfl := flat_len hsz
  refine ⟨flat sz evs es.length, evs, hfl, by unfold lenMax at hm; unfold maxInt; omega, fun w' => by simp [Builtin.lenOf], fun n hn w' hw => ?_, fun u hu => ?_, fun j hj => ⟨hsz j hj, fun k u hu => flat_get hsz j k u hj hu⟩, hr⟩
  · cases ad with
    | none =>
      have h0 : es.length = 0 := by
        rcases Nat.eq_zero_or_pos es.length with h | h
        · exact h
        · obtain ⟨b, o', hb, _⟩ := hcell 0 h; simp at hb
      have : n = 0 := by omega
      subst this
      simp [Builtin.firstCells]
    | some ad =>
      have hlen : ((flat sz evs es.length).take (n * sz)).length = n * sz := by
        have : n * sz ≤ es.length * sz := Nat.mul_le_mul_right _ hn
        simp; omega
      refine run_firstCells_some (P := P) w' sz n ad es.length cap _ hlen fun m u hu => ?_
      rw [List.getElem?_take] at hu
      split at hu
      · obtain ⟨j, k, hj, rfl, hk⟩ := flat_inv hsz m u hu
        obtain ⟨b, o', hb, hc⟩ := hcell j hj
        simp only [Option.some.injEq] at hb
        subst hb
        rw [add_addr, cell_heap hw, ← Nat.add_assoc]
        exact hc k u hk
      · simp at hu
  · obtain ⟨m, hm', rfl⟩ := List.mem_iff_getElem.1 hu
    obtain ⟨j, k, hj, _, hk⟩ := flat_inv hsz m _ (List.getElem?_eq_getElem hm')
    have h1 := hr j es[j] (by simp [hj])
    have h2 := h1.size
    have hkl : k < es[j].cells.length := by have := (Array.getElem?_eq_some_iff.1 hk).1; omega
    exact (h1.cell hk (List.getElem?_eq_getElem hkl)).2

theorem src_rel {P : Program} {lk : Id → Option Obj} (hob : Objs w S ρ lk) {v : Value} {x : D} {sz : Nat} {xs : List Eng.P} (hx : RelD w S ρ v x) (hs : srcOf lk sz x = some xs) : Src P w S sz v xs := by
  unfold srcOf at hs
  split at hs
  · -- a string
    rename_i s
    split at hs
    · rename_i h1
      subst h1
      simp only [Option.some.injEq] at hs
      subst hs
      obtain ⟨rfl, hl⟩ := hx.of_p.str_inv
      refine ⟨s.map fun b => Value.int .u8 b.toNat, fun j => .int .u8 (s.getD j 0).toNat, by simp [bytesP], by simpa [bytesP] using hl, fun w' => by simp [Builtin.lenOf, bytesP, size_mk], fun n hn w' _ => ?_, fun u hu => ?_, fun j hj => ⟨rfl, fun k u hu => ?_⟩, fun j x hx => ?_⟩
      · simp only [bytesP, List.length_map] at hn
        simp [Builtin.firstCells]
      · obtain ⟨b, _, rfl⟩ := List.mem_map.1 hu; rfl
      · cases k with
        | succ k => simp [Value.cells] at hu
        | zero =>
          simp only [bytesP, List.length_map] at hj
          simp [Value.cells] at hu
          subst hu
          simp [hj]
      · have hj : j < s.length := by have := (List.getElem?_eq_some_iff.1 hx).1; simpa [bytesP] using this
        simp [bytesP, hj] at hx
        subst hx
        have hsj : (s.getD j 0) = s[j] := by simp [hj]
        dsimp only
        rw [hsj]
        have hb := s[j].toNat_lt
        refine .int .u8 _ ?_ ?_ <;> simp [IntKind.min, IntKind.max, IntKind.signed, IntKind.bits] <;> omega
    · simp at hs
  · split at hs
    · rename_i sz' es ht
      split at hs
      · rename_i hsz'
        subst hsz'
        simp only [Option.some.injEq] at hs
        subst hs
        cases hx with
        | p v x h =>
          simp at ht
          subst ht
          cases h with
          | sl ad len cap sz es evs hl hm hc hsz hcell hr =>
            exact src_of_cells hl hm hsz (fun i hi => let ⟨b, o, h1, _, h2⟩ := hcell i hi; ⟨b, o, h1, h2⟩) hr
        | nils sz =>
          simp at ht
          obtain ⟨rfl, rfl⟩ := ht
          exact src_of_cells (evs := fun _ => default) rfl (by simp) (by simp) (by simp) (by simp)
        | clip ad n sz es h =>
          simp at ht
          obtain ⟨rfl, rfl⟩ := ht
          cases h with
          | sl ad len cap sz es evs hl hm hc hsz hcell hr =>
            exact src_of_cells hl hm hsz (fun i hi => let ⟨b, o, h1, _, h2⟩ := hcell i hi; ⟨b, o, h1, h2⟩) hr
        | sl id off len cap ad L hL hl hm' hc ha =>
          rw [toP_sl] at ht
          split at ht
          · rename_i sz es fix hlk
            simp only [Option.some.injEq, Eng.P.sl.injEq] at ht
            obtain ⟨rfl, rfl⟩ := ht
            obtain ⟨L', hL', hsz, hel, hlc, hlm, hbn, hcells, evs, hev, hcell, hrel⟩ := hob id _ hlk (by simp)
            rw [hL] at hL'; obtain rfl := Option.some.inj hL'
            refine src_of_cells (evs := fun i => evs (off + i)) (by simp; omega) (by omega) (fun i hi' => hev _ (by omega)) (fun i hi' => ?_) (fun i x hx => ?_)
            · rcases ha with h0 | ⟨b, hb, rfl, hcap⟩
              · omega
              · refine ⟨b, _, rfl, fun j u hu => ?_⟩
                have := hcell b hb (off + i) j u (by omega) hu
                rw [Nat.add_mul] at this
                rw [hsz, ← this]
                congr 2; omega
            · rw [List.getElem?_take] at hx
              split at hx
              · rw [List.getElem?_drop] at hx; exact hrel _ x hx
              · simp at hx
          · simp at ht
        | dead v => simp [D.toP] at ht
        | undef => simp [D.toP] at ht
        | anyb b => simp [D.toP] at ht
        | agg vs cs hl h1 h => simp [D.toP] at ht
        | tup vs cs hl h => simp [D.toP] at ht
        | ptr id i j L b hL hi hb =>
          simp only [D.toP] at ht
          split at ht
          · split at ht <;> simp at ht
          · simp at ht
          · simp at ht
        | map id L b hL hb =>
          rw [toP_map] at ht
          split at ht <;> simp at ht
        | it id L b hL hb => simp [D.toP] at ht
        | fn f fs cs a b hf hc h h' =>
          simp only [D.toP] at ht
          split at ht <;> simp at ht
      · simp at hs
    · simp at hs

/-! ## append -/

theorem run_append_in {P : Program} {t u ty el : TypeId} {te : TI} {ds : TypeDesc} {E : Env} (hE : EnvOk E) (hP : E.prog = P) (ht : P.underlying t = some (.slice el)) (hte : E.ty el = some te) (hu : P.underlying u = some ds) (hds : ∀ k, ds ≠ .int k)
    {b o sLen sCap : Nat} {x : Value} {news : List Value} {m : Nat} (hlo : ∀ w', (Builtin.lenOf x).run P w' = .ok m w') (hf : (Builtin.firstCells te.size m x).run P w = .ok news.toArray w)
    (hroom : sLen + m ≤ sCap) (hc : ∀ j, j < news.length → (w.cell? ⟨b, o + sLen * te.size + j, none⟩).isSome = true) (hz : ∀ j, j < news.length → w.frozen? ⟨b, o + sLen * te.size + j, none⟩ = false) (h1 : ∀ u ∈ news, u.oneCell' = true) :
    (Builtin.append_ #[t, u] ty #[.slice (some ⟨b, o, none⟩) sLen sCap, x]).run P w = .ok (.slice (some ⟨b, o, none⟩) (sLen + m) sCap) (w.setCells b (o + sLen * te.size) news) := by
  subst hP
  have hszr : ∀ w, (Go.sizeOf el).run E.prog w = .ok te.size w := sizeOf_run hE hte
  have hst := run_storeCells_cells (P := E.prog) b (o + sLen * te.size) news 0 w (by simpa using hc) (by simpa using hz) h1
  simp only [Nat.add_zero] at hst
  have hint : (match ds with | .int _ => true | _ => false) = false := by cases ds <;> first | rfl | exact absurd rfl (hds _)
  simp [Builtin.append_, run_underlying' ht, run_underlying' hu, hszr, hint, hlo, hroom, hf, add_addr, hst]

theorem run_append_nil0 {P : Program} {t u ty el : TypeId} {te : TI} {ds : TypeDesc} {E : Env} (hE : EnvOk E) (hP : E.prog = P) (ht : P.underlying t = some (.slice el)) (hte : E.ty el = some te) (hu : P.underlying u = some ds) (hds : ∀ k, ds ≠ .int k)
    {x : Value} {ad : Option Addr} {sCap : Nat} (hlo : ∀ w', (Builtin.lenOf x).run P w' = .ok 0 w') (hf : (Builtin.firstCells te.size 0 x).run P w = .ok #[] w) :
    (Builtin.append_ #[t, u] ty #[.slice ad 0 sCap, x]).run P w = .ok (.slice ad 0 sCap) w := by
  subst hP
  have hszr : ∀ w, (Go.sizeOf el).run E.prog w = .ok te.size w := sizeOf_run hE hte
  have hint : (match ds with | .int _ => true | _ => false) = false := by cases ds <;> first | rfl | exact absurd rfl (hds _)
  cases ad with
  | none => simp [Builtin.append_, run_underlying' ht, run_underlying' hu, hszr, hint, hlo, hf]
  | some ad => simp [Builtin.append_, run_underlying' ht, run_underlying' hu, hszr, hint, hlo, hf, storeCells]

theorem run_append_new {P : Program} {t u ty el : TypeId} {te : TI} {ds : TypeDesc} {E : Env} (hE : EnvOk E) (hP : E.prog = P) (ht : P.underlying t = some (.slice el)) (hte : E.ty el = some te) (hu : P.underlying u = some ds) (hds : ∀ k, ds ≠ .int k)
    {ad : Option Addr} {sLen sCap : Nat} {x : Value} {olds news : List Value} {m : Nat} (hlo : ∀ w', (Builtin.lenOf x).run P w' = .ok m w') (hf : ∀ w', w'.heap = w.heap → (Builtin.firstCells te.size m x).run P w' = .ok news.toArray w')
    (hfo : ∀ w', w'.heap = w.heap → (Builtin.firstCells te.size sLen (.slice ad sLen sCap)).run P w' = .ok olds.toArray w')
    (hg : sCap < sLen + m) (h63 : sLen + m ≤ maxInt) (hfit : (sLen + m) * te.bytes ≤ roomB) :
    ∃ (rest : Array Value), rest.size = (grownCap w (sLen + m) sCap el - (sLen + m)) * te.size ∧
    (Builtin.append_ #[t, u] ty #[.slice ad sLen sCap, x]).run P w =
      .ok (.slice (some ⟨w.heap.size, 0, none⟩) (sLen + m) (grownCap w (sLen + m) sCap el)) (w.drew.alloc (.cells (olds.toArray ++ news.toArray ++ rest) el)) := by
  subst hP
  obtain ⟨ii, dd, z, hti⟩ := hE.is hte
  have hszr : ∀ w, (Go.sizeOf el).run E.prog w = .ok te.size w := sizeOf_run hE hte
  have hint : (match ds with | .int _ => true | _ => false) = false := by cases ds <;> first | rfl | exact absurd rfl (hds _)
  have hn : ¬ (sLen + m ≤ sCap) := by omega
  have h63' : ¬ (9223372036854775807 < ((sLen : Int) + (m : Int))) := by unfold maxInt at h63; omega
  have h48 := growslice_fits hg hfit
  have h48' : ¬ (281474976710656 < Builtin.nextslicecap (sLen + m) sCap * ii.bytes) := by rw [hti.bytes]; omega
  have hz : ∀ w, (zeroValue el).run E.prog w = .ok z w := fun w => run_zeroValue' hti.info hti.zero w
  have hzs : z.cells.size = te.size := by have := (zsOk_get hti.zs).1; simp at this; rw [this]; exact hti.zl
  refine ⟨Builtin.zeroCells z.cells (grownCap w (sLen + m) sCap el - (sLen + m)), by rw [size_zeroCells, hzs], ?_⟩
  have hf' := hf w.drew rfl
  have hfo' := hfo w.drew rfl
  simp [Builtin.append_, run_underlying' ht, run_underlying' hu, hszr, hint, hlo, hn, run_typeInfo' hti.info, h63', h48', Question.forced, hf', hfo', hz, newRow, grownCap]
  congr 2
  apply Array.ext'
  simp [List.append_assoc]

/-- The elements of two rows, one behind the other. -/
def evs2 (n : Nat) (f g : Nat → Value) : Nat → Value := fun j => if j < n then f j else g (j - n)

section
variable (h : Rep C X ρ S st a.tmps w) (hi : ¬ X i) (ht : ∀ d, o.dst = some d → d < C.E.nt) (hlit : o.op.operands.all litOk = true) (hE : EnvOk C.E)
include h hi ht hlit hE

/-- A new array: some elements, then others. -/
theorem append_new {args : Array Operand} {t u el : Nat} {te : TI} {ds : TypeDesc} (ho : o.op = .call { callee := .builtin .append, args, argTypes := #[t, u] }) {ad : Option Addr} {sLen sCap : Nat} {x : Value} (hargs : args.map a.eval = #[.slice ad sLen sCap, x])
    (hut : C.E.prog.underlying t = some (.slice el)) (hte : C.E.ty el = some te) (huu : C.E.prog.underlying u = some ds) (hds : ∀ k, ds ≠ .int k) {es xs : List P} (hold : Src C.E.prog w S te.size (.slice ad sLen sCap) es) (hnew : Src C.E.prog w S te.size x xs)
    (hl : es.length = sLen) (hg : sCap < sLen + xs.length) (hfit : (sLen + xs.length) * max te.bytes 1 ≤ roomB) {wr : List (Id × Obj)} (hwr : ∀ x ∈ wr, x.2 = .gone) (hw0 : ∀ id o, (id, o) ∈ wr → st.fz id = false ∧ ∃ o', st.objs id = some o' ∧ o' ≠ .gone) {c : List Bool}
    (he : e = { val := .sl (st.ep, i, 0) 0 (sLen + xs.length), new := [(0, .arr te.size (es ++ xs) false)], wr := wr, cond := c }) : Does C X st a w i o e := by
  subst he
  obtain ⟨olds, evs, o1, o2, o3, o4, o5, o6, o7⟩ := hold
  obtain ⟨news, evs', n1, n2, n3, n4, n5, n6, n7⟩ := hnew
  have hb1 : (sLen + xs.length) * te.bytes ≤ roomB := Nat.le_trans (Nat.mul_le_mul_left _ (Nat.le_max_left _ _)) hfit
  have hb2 : sLen + xs.length ≤ roomB := by
    have := Nat.mul_le_mul_left (sLen + xs.length) (Nat.le_max_right te.bytes 1)
    omega
  obtain ⟨rest, hrs, hrun⟩ := run_append_new (w := w) (ty := o.type) hE rfl hut hte huu hds (m := xs.length) n3 (news := news) (fun w' hw' => by
      have := n4 xs.length (Nat.le_refl _) w' hw'
      rwa [List.take_of_length_le (by omega)] at this) (ad := ad) (sLen := sLen) (olds := olds) (fun w' hw' => by
      have := o4 sLen (by omega) w' hw'
      rwa [List.take_of_length_le (by rw [o1, hl]; exact Nat.le_refl _)] at this) hg (by unfold roomB at hb2; unfold maxInt; omega) hb1
  have hcap := grownCap_ge w (sLen + xs.length) sCap el
  generalize grownCap w (sLen + xs.length) sCap el = cap at hrun hrs hcap
  let L : Lay := ⟨some w.heap.size, 0, te.size, sLen + xs.length, cap⟩
  let w' := w.drew.alloc (.cells (olds.toArray ++ news.toArray ++ rest) el)
  have hw : w'.heap = w.heap.push (.cells (olds.toArray ++ news.toArray ++ rest) el) := rfl
  let ρ' : Id → Option Lay := upd ρ (st.ep, i, 0) (some L)
  have f := h.fresh hi
  have hρ : ∀ id L, ρ id = some L → ρ' id = some L := by
    intro id L' hL
    simp only [ρ', upd]
    split
    · rename_i hc; subst hc; rw [f] at hL; simp at hL
    · exact hL
  have hbox : ρ' (st.ep, i, 0) = some L := by simp [ρ', upd]
  have kp : ∀ b, b < w.heap.size → w'.heap[b]? = w.heap[b]? := fun b hb => push_old hw hb
  have hsz : w'.heap.size = w.heap.size + 1 := by rw [hw]; simp
  have hc : ∀ j, w'.cell? ⟨w.heap.size, j, none⟩ = (olds.toArray ++ news.toArray ++ rest)[j]? := fun j => by simp [World.cell?, push_new hw]
  have hfz : ∀ j, w'.frozen? ⟨w.heap.size, j, none⟩ = false := fun j => by simp [World.frozen?, push_new hw]
  have hos : olds.length = sLen * te.size := by rw [o1, hl]
  have hall : (olds.toArray ++ news.toArray ++ rest).size = cap * te.size := by
    simp only [Array.size_append, List.size_toArray, hos, n1, hrs]
    rw [← Nat.add_mul, ← Nat.add_mul]; congr 1; omega
  refine ⟨_, _, w', ?_, .inl rfl, ρ', h.step (v := .slice (some ⟨w.heap.size, 0, none⟩) (sLen + xs.length) cap) ρ' hi ht (by omega) ⟨rfl, rfl⟩ (fun b hb _ => kp b hb) hw0 hρ ?_ (by simp) ?_ ?_ (fun id o' L hm hg => absurd (hwr _ hm) hg) ?_⟩
  · obtain ⟨cs, hx⟩ := exec_builtin (a := a) (w := w) (P := C.E.prog) ho
    rw [hx, hargs]
    exact run_v hrun
  · intro id hn
    simp only [ρ', upd] at hn
    split at hn
    · rename_i hc; subst hc; exact .inr ⟨rfl, rfl⟩
    · exact .inl hn
  · intro k o' hm
    simp only [List.mem_singleton, Prod.mk.injEq] at hm
    obtain ⟨rfl, rfl⟩ := hm
    refine ⟨L, hbox, fun b hb => ?_, fun S' hS hF _ => ⟨rfl, by simp [L, hl], hcap, by simp only [L]; unfold roomB at hb2; unfold lenMax; omega, by simp [L], fun b hb j hj => ?_, evs2 sLen evs evs', fun j hj => ?_, fun b hb j k v hj hv => ?_, fun j x hx => ?_⟩⟩
    · simp only [L, Option.some.injEq] at hb; subst hb; exact ⟨.inl (Nat.le_refl _), by omega⟩
    · simp only [L, Option.some.injEq] at hb; subst hb
      simp only [L] at hj
      have hj' : j < (olds.toArray ++ news.toArray ++ rest).size := by omega
      exact ⟨⟨_, by simp only [L, Nat.zero_add, hc]; exact Array.getElem?_eq_getElem hj'⟩, by simp [L, hfz]⟩
    · simp only [L] at hj
      unfold evs2
      split
      · exact (o6 j (by omega)).1
      · exact (n6 (j - sLen) (by omega)).1
    · simp only [L, Option.some.injEq] at hb; subst hb
      simp only [L] at hj
      simp only [L, Nat.zero_add, hc]
      unfold evs2 at hv
      split at hv
      · rename_i hlt
        have := (o6 j (by omega)).2 k v hv
        have hl' : j * te.size + k < olds.length := (List.getElem?_eq_some_iff.1 this).1
        rw [Array.getElem?_append, if_pos (by simp; omega), Array.getElem?_append, if_pos (by simpa using hl')]
        simpa using this
      · rename_i hlt
        have := (n6 (j - sLen) (by omega)).2 k v hv
        have hl' : (j - sLen) * te.size + k < news.length := (List.getElem?_eq_some_iff.1 this).1
        have hjs : j * te.size = sLen * te.size + (j - sLen) * te.size := by rw [← Nat.add_mul]; congr 1; omega
        rw [Array.getElem?_append, if_pos (by simp; omega), Array.getElem?_append, if_neg (by simp; omega)]
        simp only [List.size_toArray, List.getElem?_toArray]
        rw [show j * te.size + k - olds.length = (j - sLen) * te.size + k by omega]
        exact this
    · have kS : Keep S w w' := fun b _ hb => kp b hb
      unfold evs2
      by_cases hlt : j < sLen
      · rw [List.getElem?_append_left (by omega)] at hx
        rw [if_pos hlt]
        exact (o7 j x hx).mono kS hS
      · rw [List.getElem?_append_right (by omega), hl] at hx
        rw [if_neg hlt]
        exact (n7 _ x hx).mono kS hS
  · intro k o1 L1 k' o2 L2 b hm _ hL hb hm' _ hL' hb'
    simp only [List.mem_singleton, Prod.mk.injEq] at hm hm'
    rw [hm.1, hm'.1]
  · intro S' _ _ d _
    exact .sl _ 0 _ cap _ L hbox (by simp [L]) (by unfold roomB at hb2; unfold lenMax; omega) hcap (.inr ⟨w.heap.size, rfl, by simp [L], by simp [L]⟩)

/-- No new array: the elements are laid into the room that there is. -/
theorem append_in {args : Array Operand} {t u el : Nat} {te : TI} {ds : TypeDesc} (ho : o.op = .call { callee := .builtin .append, args, argTypes := #[t, u] }) {ad : Option Addr} {sLen sCap : Nat} {x : Value} (hargs : args.map a.eval = #[.slice ad sLen sCap, x])
    (hut : C.E.prog.underlying t = some (.slice el)) (hte : C.E.ty el = some te) (huu : C.E.prog.underlying u = some ds) (hds : ∀ k, ds ≠ .int k) {es xs : List P} (hnew : Src C.E.prog w S te.size x xs) {id : Id} {L0 : Lay} {fix : Bool}
    (hlk : st.objs id = some (.arr te.size es fix)) (hL0 : ρ id = some L0) (hfz : st.fz id = false) (hle : sLen ≤ L0.len) (hlm : sLen ≤ sCap) (ha : sCap = 0 ∨ ∃ b, L0.blk = some b ∧ ad = some ⟨b, L0.base, none⟩ ∧ sCap ≤ L0.cap)
    (hroom : sLen + xs.length ≤ sCap) (hfit : (sLen + xs.length) * max te.bytes 1 ≤ roomB) {c : List Bool}
    (he : e = { val := .sl (st.ep, i, 0) 0 (sLen + xs.length), new := [(0, .arr te.size (es.take sLen ++ xs) false)], wr := [(id, .gone)], cond := c }) : Does C X st a w i o e := by
  subst he
  obtain ⟨news, evs', n1, n2, n3, n4, n5, n6, n7⟩ := hnew
  have hb2 : sLen + xs.length ≤ roomB := by
    have := Nat.mul_le_mul_left (sLen + xs.length) (Nat.le_max_right te.bytes 1)
    omega
  have hnf := n4 xs.length (Nat.le_refl _) w rfl
  rw [List.take_of_length_le (by omega)] at hnf
  obtain ⟨L', hL', hsz, hel, hlc, hlm', hbn, hcells, evs, hev, hcell, hrel⟩ := h.objs id _ hlk (by simp)
  rw [hL0] at hL'; obtain rfl := Option.some.inj hL'
  have f := h.fresh hi
  have wrg : ∀ id' o', (id', o') ∈ [(id, Obj.gone)] → st.fz id' = false ∧ ∃ o', st.objs id' = some o' ∧ o' ≠ .gone := by
    intro id' o' hm
    simp only [List.mem_singleton, Prod.mk.injEq] at hm
    obtain ⟨rfl, rfl⟩ := hm
    exact ⟨hfz, _, hlk, by simp⟩
  obtain ⟨csb, hx⟩ := exec_builtin (a := a) (w := w) (P := C.E.prog) ho
  -- where the new object lies
  have key : ∀ (L : Lay) (w' : World), L.len = sLen + xs.length → (w'.heap.size = w.heap.size) → Quiet w w' → (∀ b, L.blk = some b → L0.blk = some b) → (∀ b, L0.blk ≠ some b → w'.heap[b]? = w.heap[b]?) →
      (Builtin.append_ #[t, u] o.type #[.slice ad sLen sCap, x]).run C.E.prog w = .ok (.slice ad (sLen + xs.length) sCap) w' →
      (∀ S' ρ', (∀ b, S b → S' b) → RelObj w' S' ρ' L (.arr te.size (es.take sLen ++ xs) false)) →
      (∀ S' ρ', ρ' (st.ep, i, 0) = some L → RelD w' S' ρ' (.slice ad (sLen + xs.length) sCap) (.sl (st.ep, i, 0) 0 (sLen + xs.length))) →
      Does C X st a w i o { val := .sl (st.ep, i, 0) 0 (sLen + xs.length), new := [(0, .arr te.size (es.take sLen ++ xs) false)], wr := [(id, .gone)], cond := c } := by
    intro L w' _ hws hqu hLb hkeep hrun hobj hval
    let ρ' : Id → Option Lay := upd ρ (st.ep, i, 0) (some L)
    have hρ : ∀ id L, ρ id = some L → ρ' id = some L := by
      intro id L' hL
      simp only [ρ', upd]
      split
      · rename_i hc; subst hc; rw [f] at hL; simp at hL
      · exact hL
    have hbox : ρ' (st.ep, i, 0) = some L := by simp [ρ', upd]
    refine ⟨_, _, w', ?_, .inl rfl, ρ', h.step (v := .slice ad (sLen + xs.length) sCap) ρ' hi ht (by omega) hqu ?_ wrg hρ ?_ (by simp) ?_ ?_ (fun id o' L hm hg => by simp only [List.mem_singleton, Prod.mk.injEq] at hm; exact absurd hm.2 hg) ?_⟩
    · rw [hx, hargs]
      exact run_v hrun
    · intro b hb hne
      exact hkeep b (hne id _ L0 (List.mem_singleton.2 rfl) hL0)
    · intro id hn
      simp only [ρ', upd] at hn
      split at hn
      · rename_i hc; subst hc; exact .inr ⟨rfl, rfl⟩
      · exact .inl hn
    · intro k o' hm
      simp only [List.mem_singleton, Prod.mk.injEq] at hm
      obtain ⟨rfl, rfl⟩ := hm
      refine ⟨L, hbox, fun b hb => ⟨.inr ⟨id, _, L0, List.mem_singleton.2 rfl, hlk, by simp, hL0, hLb b hb, fun o'' hm => ?_⟩, ?_⟩, fun S' hS hF _ => hobj S' ρ' hS⟩
      · simp only [List.mem_singleton, Prod.mk.injEq] at hm; exact hm.2
      · have := (h.own id _ L0 b hlk (by simp) hL0 (hLb b hb)).1; omega
    · intro k o1 L1 k' o2 L2 b hm _ hL hb hm' _ hL' hb'
      simp only [List.mem_singleton, Prod.mk.injEq] at hm hm'
      rw [hm.1, hm'.1]
    · intro S' _ _ d _
      exact hval S' ρ' hbox
  rcases ha with h0 | ⟨b, hLb, rfl, hcap⟩
  · -- nothing at all
    have hs0 : sLen = 0 := by omega
    have hx0 : xs.length = 0 := by omega
    subst hs0
    have hxs : xs = [] := List.eq_nil_of_length_eq_zero hx0
    subst hxs
    refine key ⟨none, 0, te.size, 0, 0⟩ w rfl rfl (Quiet.refl _) (by simp) (fun _ _ => rfl) ?_ (fun S' ρ' _ => ?_) (fun S' ρ' hL => ?_)
    · exact run_append_nil0 hE rfl hut hte huu hds n3 (by simpa using n4 0 (by simp) w rfl)
    · simpa using relObj_empty te.size false
    · exact .sl _ 0 _ _ _ _ hL (by simp) (by simp) (by simp) (.inl h0)
  · have hcs : ∀ m, m < news.length → (w.cell? ⟨b, L0.base + sLen * te.size + m, none⟩).isSome = true ∧ w.frozen? ⟨b, L0.base + sLen * te.size + m, none⟩ = false := fun m hm => by
      have hle2 : (sLen + xs.length) * te.size ≤ L0.cap * te.size := Nat.mul_le_mul_right _ (by omega)
      rw [Nat.add_mul, ← n1] at hle2
      obtain ⟨⟨v, q⟩, q2⟩ := hcells b hLb (sLen * te.size + m) (by omega)
      rw [show L0.base + sLen * te.size + m = L0.base + (sLen * te.size + m) by omega, q, q2]; exact ⟨rfl, rfl⟩
    have hrun := run_append_in (w := w) (ty := o.type) hE rfl hut hte huu hds (b := b) (o := L0.base) (sLen := sLen) (sCap := sCap) n3 hnf hroom (fun m hm => (hcs m hm).1) (fun m hm => (hcs m hm).2) n5
    clear hte hx hnf n4
    generalize te.size = tsz at *
    subst hsz
    have hcell' := fun m => cell_setCells (w := w) (b := b) (o := L0.base + sLen * L0.sz) (vs := news) (fun m hm => (hcs m hm).1) m
    have hown := h.own id _ L0 b hlk (by simp) hL0 hLb
    have hnS : ¬ S b := hown.2.2.2 hfz
    have kS : Keep S w (w.setCells b (L0.base + sLen * L0.sz) news) := fun b' hb' _ => heap_setCells b _ _ _ b' (fun e => hnS (e ▸ hb'))
    refine key ⟨some b, L0.base, L0.sz, sLen + xs.length, sCap⟩ _ rfl (size_setCells _ _ _ _) (Quiet.setCells _ _ _ _) (fun b1 hb1 => by simp only [Option.some.injEq] at hb1; subst hb1; exact hLb) (fun b' hne => heap_setCells b _ _ _ b' (fun e => hne (e ▸ hLb))) hrun (fun S' ρ' hS => ?_) (fun S' ρ' hL => ?_)
    · have hlel : sLen ≤ es.length := by omega
      refine ⟨rfl, by simp; omega, hroom, by dsimp only; unfold roomB at hb2; unfold lenMax; omega, by simp, fun b1 hb1 m hm => ?_, evs2 sLen evs evs', fun j hj => ?_, fun b1 hb1 j k v hj hv => ?_, fun j x hx => ?_⟩
      · simp only [Option.some.injEq] at hb1; subst hb1
        have hle2 : sCap * L0.sz ≤ L0.cap * L0.sz := Nat.mul_le_mul_right _ hcap
        obtain ⟨⟨v, q⟩, q2⟩ := hcells b hLb m (by dsimp only at hm; omega)
        refine ⟨?_, by rw [World.frozen?_setCells]; exact q2⟩
        dsimp only
        rw [hcell']
        split
        · exact ⟨_, List.getElem?_eq_getElem (by omega)⟩
        · exact ⟨v, q⟩
      · dsimp only at hj
        unfold evs2
        split
        · exact hev j (by omega)
        · exact (n6 (j - sLen) (by omega)).1
      · simp only [Option.some.injEq] at hb1; subst hb1
        dsimp only at hj ⊢
        unfold evs2 at hv
        rw [hcell']
        split at hv
        · rename_i hlt
          have hk : k < L0.sz := by have := (Array.getElem?_eq_some_iff.1 hv).1; have := hev j (by omega); omega
          have : (j + 1) * L0.sz ≤ sLen * L0.sz := Nat.mul_le_mul_right _ hlt
          rw [Nat.add_mul, Nat.one_mul] at this
          rw [if_neg (by omega)]
          exact hcell b hLb j k v (by omega) hv
        · rename_i hlt
          have := (n6 (j - sLen) (by omega)).2 k v hv
          have hl' : (j - sLen) * L0.sz + k < news.length := (List.getElem?_eq_some_iff.1 this).1
          have hjs : j * L0.sz = sLen * L0.sz + (j - sLen) * L0.sz := by rw [← Nat.add_mul]; congr 1; omega
          rw [if_pos (by omega), show L0.base + j * L0.sz + k - (L0.base + sLen * L0.sz) = (j - sLen) * L0.sz + k by omega]
          exact this
      · unfold evs2
        by_cases hlt : j < sLen
        · rw [List.getElem?_append_left (by simp; omega), List.getElem?_take, if_pos hlt] at hx
          rw [if_pos hlt]
          exact (hrel j x hx).mono kS hS
        · rw [List.getElem?_append_right (by simp; omega)] at hx
          rw [if_neg hlt]
          have : j - (es.take sLen).length = j - sLen := by simp; omega
          rw [this] at hx
          exact (n7 _ x hx).mono kS hS
    · exact .sl _ 0 _ _ _ _ hL (by simp) (by unfold roomB at hb2; unfold lenMax; omega) hroom (.inr ⟨b, rfl, by simp, by simp⟩)

theorem does_append {args : Array Operand} {ats : Array TypeId} (ho : o.op = .call { callee := .builtin .append, args, argTypes := ats }) (hc : core C.E st.ep i o.op o.type st.slots st.objs = some e) (hcond : ∀ q ∈ e.cond, q = true) (hw : wrOk st e = true) : Does C X st a w i o e := by
  rw [ho] at hc hlit
  simp only [core, builtinD] at hc
  unfold appendE at hc
  split at hc <;> (try simp only [reduceCtorEq] at hc)
  rename_i t u s x hds hlen
  have hats : ats = #[t, u] := by rw [← Array.toArray_toList (xs := ats), hds]
  subst hats
  have huse : ∃ te ds, C.E.elem t = some te ∧ C.E.prog.underlying u = some ds ∧ (∀ k, ds ≠ .int k) ∧ appendD st.objs st.ep i te s x = some e := by
    split at hc
    · rename_i te el hel htu
      obtain ⟨d, hu, hd⟩ := hE.und htu
      exact ⟨te, d, hel, hu, fun k hk => by subst hk; simp [tdOk] at hd, hc⟩
    · rename_i te hel htu
      obtain ⟨d, hu, hd⟩ := hE.und htu
      exact ⟨te, d, hel, hu, fun k hk => by subst hk; simp [tdOk] at hd, hc⟩
    · simp at hc
  obtain ⟨te, ds, hel, huu, hdsn, hc'⟩ := huse
  clear hc
  have hc := hc'
  clear hc'
  obtain ⟨hl, hr⟩ := argsD_rel h args.toList [t, u] (fun x hx => by
    simp [Op.operands, Call.operands] at hlit
    obtain ⟨j, hj, rfl⟩ := Array.mem_iff_getElem.1 (Array.mem_toList_iff.1 hx); exact hlit j hj)
  simp only [List.toList_toArray] at hlen hl hr
  rw [hlen] at hl hr
  obtain ⟨el, hty, hte⟩ : ∃ el, (∃ sz by_ ze, C.E.ty t = some { d := .sl el, size := sz, bytes := by_, zero := ze }) ∧ C.E.ty el = some te := by
    unfold Env.elem at hel
    split at hel
    · rename_i e' _ _ _ hq; exact ⟨e', ⟨_, _, _, hq⟩, hel⟩
    · simp at hel
  obtain ⟨_, _, _, hty⟩ := hty
  have hut := hE.slice hty rfl
  match hxx : args.toList, hl with
  | [xs0, xx0], _ =>
    rw [hxx] at hr
    have hrs := hr 0 (a.eval xs0) s rfl rfl
    have hrx := hr 1 (a.eval xx0) x rfl rfl
    have hargs : args.map a.eval = #[a.eval xs0, a.eval xx0] := by rw [← Array.toArray_toList (xs := args), hxx]; simp
    unfold appendD at hc
    split at hc
    · simp at hc
    · rename_i xs hxs
      have hnew := src_rel (P := C.E.prog) h.objs hrx hxs
      generalize a.eval xx0 = vx at hargs hnew hrx
      generalize hvs : a.eval xs0 = vs at hargs hrs
      split at hc
      · -- onto nil
        rename_i sz0
        simp only [Option.some.injEq] at hc
        cases hrs with
        | nils =>
        have hcnd := of_decide_eq_true (hcond _ (by rw [← hc]; exact List.mem_cons_self))
        by_cases h0 : xs.length = 0
        · have hxs0 : xs = [] := List.eq_nil_of_length_eq_zero h0
          subst hxs0
          obtain ⟨news, evs', n1, n2, n3, n4, n5, n6, n7⟩ := hnew
          have hrun := run_append_nil0 (w := w) (ty := o.type) (ad := none) (sCap := 0) hE rfl hut hte huu hdsn n3 (by simpa using n4 0 (by simp) w rfl)
          obtain ⟨csb, hx⟩ := exec_builtin (a := a) (w := w) (P := C.E.prog) ho
          have f := h.fresh hi
          let ρ' : Id → Option Lay := upd ρ (st.ep, i, 0) (some ⟨none, 0, te.size, 0, 0⟩)
          have hρ : ∀ id L, ρ id = some L → ρ' id = some L := by
            intro id L' hL
            simp only [ρ', upd]
            split
            · rename_i hc; subst hc; rw [f] at hL; simp at hL
            · exact hL
          have hbox : ρ' (st.ep, i, 0) = some ⟨none, 0, te.size, 0, 0⟩ := by simp [ρ', upd]
          subst hc
          refine ⟨_, _, w, ?_, .inl rfl, ρ', h.step (v := .slice none 0 0) ρ' hi ht (Nat.le_refl _) (Quiet.refl _) (fun _ _ _ => rfl) (by simp) hρ ?_ (by simp) ?_ ?_ (by simp) ?_⟩
          · rw [hx, hargs]; exact run_v hrun
          · intro id hn
            simp only [ρ', upd] at hn
            split at hn
            · rename_i hc; subst hc; exact .inr ⟨rfl, rfl⟩
            · exact .inl hn
          · intro k o' hm
            simp only [List.mem_singleton, Prod.mk.injEq] at hm
            obtain ⟨rfl, rfl⟩ := hm
            exact ⟨_, hbox, by simp, fun S' _ _ _ => relObj_empty te.size false⟩
          · intro k o1 L1 k' o2 L2 b hm _ hL hb hm' _ hL' hb'
            simp only [List.mem_singleton, Prod.mk.injEq] at hm hm'
            rw [hm.1, hm'.1]
          · intro S' _ _ d _
            exact .sl _ 0 0 0 none _ hbox (by simp) (by simp) (by simp) (.inl rfl)
        · refine append_new h hi ht (by rw [ho]; exact hlit) hE ho hargs hut hte huu hdsn (es := []) ?_ hnew rfl (by omega) (by simpa using hcnd) (wr := []) (by simp) (by simp) (c := [decide (xs.length * max te.bytes 1 ≤ roomB)]) (by rw [← hc]; simp)
          exact src_of_cells (evs := fun _ => default) rfl (by simp) (by simp) (by simp) (by simp)
      · -- onto a slice without room
        rename_i sz0 es _
        split at hc
        · rename_i hsz0
          subst hsz0
          simp only [Option.some.injEq] at hc
          cases hrs with
          | clip ad n _ _ hp =>
          obtain ⟨hne, hcnd⟩ := of_decide_eq_true (hcond _ (by rw [← hc]; exact List.mem_cons_self))
          have hpos : 0 < xs.length := by
            rcases Nat.eq_zero_or_pos xs.length with h0 | h0
            · rw [List.eq_nil_of_length_eq_zero h0] at hne; simp at hne
            · exact h0
          cases hp with
          | sl _ _ _ _ _ evs hel' hm hc' hsz hcell hr' =>
            subst hel'
            refine append_new h hi ht (by rw [ho]; exact hlit) hE ho hargs hut hte huu hdsn (es := es) ?_ hnew rfl (by omega) hcnd (wr := []) (by simp) (by simp) (c := [decide (xs.isEmpty = false ∧ (es.length + xs.length) * max te.bytes 1 ≤ roomB)]) (by rw [← hc])
            exact src_of_cells rfl hm hsz (fun i hi => let ⟨b, o, h1, _, h2⟩ := hcell i hi; ⟨b, o, h1, h2⟩) hr'
        · simp at hc
      · -- onto a slice of the call's own
        rename_i id len _
        split at hc
        · rename_i sz0 es hlk
          split at hc
          · rename_i hsz0
            subst hsz0
            simp only [Option.some.injEq] at hc
            have hsrc := src_rel (P := C.E.prog) (sz := te.size) (xs := es.take len) h.objs hrs (by simp [srcOf, toP_sl, hlk])
            cases hrs with
            | sl _ _ _ cap ad L hL hll hm hcp ha =>
            have hcnd := of_decide_eq_true (hcond _ (by rw [← hc]; exact List.mem_cons_self))
            have hfz : st.fz id = false := by
              rw [← hc] at hw
              simp only [wrOk, Bool.and_eq_true, List.all_eq_true, List.mem_singleton, forall_eq, Bool.not_eq_true'] at hw
              exact hw.1
            obtain ⟨L', hL', hsz, hel2, hlc, _⟩ := h.objs id _ hlk (by simp)
            rw [hL] at hL'; obtain rfl := Option.some.inj hL'
            by_cases hroom : len + xs.length ≤ cap
            · refine append_in h hi ht (by rw [ho]; exact hlit) hE ho hargs hut hte huu hdsn hnew hlk hL hfz (by omega) hcp ?_ hroom hcnd (c := [decide ((len + xs.length) * max te.bytes 1 ≤ roomB)]) (by rw [← hc])
              rcases ha with h0 | ⟨b, h1, h2, h3⟩
              · exact .inl h0
              · exact .inr ⟨b, h1, by simpa using h2, by omega⟩
            · refine append_new h hi ht (by rw [ho]; exact hlit) hE ho hargs hut hte huu hdsn hsrc hnew (by simp; omega) (by omega) hcnd (wr := [(id, .gone)]) (by simp) ?_ (c := [decide ((len + xs.length) * max te.bytes 1 ≤ roomB)]) (by rw [← hc])
              intro id' o' hm
              simp only [List.mem_singleton, Prod.mk.injEq] at hm
              obtain ⟨rfl, rfl⟩ := hm
              exact ⟨hfz, _, hlk, by simp⟩
          · simp at hc
        · simp at hc
      · simp at hc

end
end
end Eng

/- The engine, part R: copy. -/
namespace Eng
open Go

section
variable {C : Ctx} {X : Nat → Prop} {ρ : Id → Option Lay} {S : Nat → Prop} {st : St} {a : Act} {w : World} {i : Nat} {o : Oper} {e : Eff}
variable (h : Rep C X ρ S st a.tmps w) (hi : ¬ X i) (ht : ∀ d, o.dst = some d → d < C.E.nt) (hlit : o.op.operands.all litOk = true) (hE : EnvOk C.E)
include h hi ht hlit hE

theorem does_copy {args : Array Operand} {ats : Array TypeId} (ho : o.op = .call { callee := .builtin .copy, args, argTypes := ats }) (hc : core C.E st.ep i o.op o.type st.slots st.objs = some e) (hw : wrOk st e = true) : Does C X st a w i o e := by
  rw [ho] at hc hlit
  simp only [core, builtinD] at hc
  unfold copyE at hc
  split at hc <;> (try simp only [reduceCtorEq] at hc)
  rename_i t ts d s hds hlen
  split at hc <;> (try simp only [reduceCtorEq] at hc)
  rename_i te hel
  have hats : ats[0]? = some t := by rw [← Array.getElem?_toList, hds]; rfl
  obtain ⟨hl, hr⟩ := argsD_rel h args.toList ats.toList (fun x hx => by
    simp [Op.operands, Call.operands] at hlit
    obtain ⟨j, hj, rfl⟩ := Array.mem_iff_getElem.1 (Array.mem_toList_iff.1 hx); exact hlit j hj)
  rw [hlen] at hl hr
  obtain ⟨el, hty, hte⟩ : ∃ el, (∃ sz by_ ze, C.E.ty t = some { d := .sl el, size := sz, bytes := by_, zero := ze }) ∧ C.E.ty el = some te := by
    unfold Env.elem at hel
    split at hel
    · rename_i e' _ _ _ hq; exact ⟨e', ⟨_, _, _, hq⟩, hel⟩
    · simp at hel
  obtain ⟨_, _, _, hty⟩ := hty
  have hut := hE.slice hty rfl
  have hszr : ∀ w, (Go.sizeOf el).run C.E.prog w = .ok te.size w := sizeOf_run hE hte
  match hxx : args.toList, hl with
  | [xd0, xs0], _ =>
    rw [hxx] at hr
    have hrd := hr 0 (a.eval xd0) d rfl rfl
    have hrs := hr 1 (a.eval xs0) s rfl rfl
    have hargs : args.map a.eval = #[a.eval xd0, a.eval xs0] := by rw [← Array.toArray_toList (xs := args), hxx]; simp
    generalize a.eval xs0 = vx at hargs hrs
    generalize a.eval xd0 = vd at hargs hrd
    unfold copyD at hc
    split at hc <;> (try simp only [reduceCtorEq] at hc)
    rename_i id off len _
    split at hc <;> (try simp only [reduceCtorEq] at hc)
    rename_i sz es fix hlk
    split at hc <;> (try simp only [reduceCtorEq] at hc)
    rename_i xs hxs
    split at hc <;> (try simp only [reduceCtorEq] at hc)
    rename_i hsz0
    simp only [Option.some.injEq] at hc
    subst hc
    obtain ⟨news, evs', n1, n2, n3, n4, n5, n6, n7⟩ := src_rel (P := C.E.prog) h.objs hrs hxs
    cases hrd with
    | sl _ _ _ cap ad L hL hll hm hcp ha =>
    have hfz : st.fz id = false := by
      simp only [wrOk, Bool.and_eq_true, List.all_eq_true, List.mem_singleton, forall_eq, Bool.not_eq_true'] at hw
      exact hw.1
    obtain ⟨L', hL', hsz, hel2, hlc, hlm', hbn, hcells, evs, hev, hcell, hrel⟩ := h.objs id _ hlk (by simp)
    rw [hL] at hL'; obtain rfl := Option.some.inj hL'
    have hmin : min xs.length len ≤ xs.length := Nat.min_le_left _ _
    have hmin2 : min xs.length len ≤ len := Nat.min_le_right _ _
    generalize hn : min xs.length len = n at hmin hmin2
    have hn' : Nat.min xs.length len = n := hn
    have hnf := n4 n hmin w rfl
    rw [hsz0] at hnf
    obtain ⟨csb, hx⟩ := exec_builtin (a := a) (w := w) (P := C.E.prog) ho
    have hval : IntKind.i64.min ≤ (n : Int) ∧ (n : Int) ≤ IntKind.i64.max := natInt (by omega)
    have hchg : ∀ w', w'.heap.size = w.heap.size → Quiet w w' → (∀ b, L.blk ≠ some b → w'.heap[b]? = w.heap[b]?) → (Builtin.copy_ ats o.type #[.slice ad len cap, vx]).run C.E.prog w = .ok (goInt n) w' →
        (∀ S', (∀ b, S b → S' b) → RelObj w' S' ρ L (.arr sz (splice es off (xs.take n)) fix)) →
        Does C X st a w i o { val := .p (.int .i64 (n : Nat)), wr := [(id, .arr sz (splice es off (xs.take n)) fix)] } := by
      intro w' hws hqu hkeep hrun hobj
      refine ⟨_, _, w', ?_, .inl rfl, ρ, h.step (v := .int .i64 n) ρ hi ht (by omega) hqu ?_ ?_ (fun _ _ h => h) (fun id h => .inl h) (by simp) (fun _ _ hm => by simp at hm) (fun _ _ _ _ _ _ _ hm => by simp at hm) ?_ ?_⟩
      · rw [hx, hargs]; exact run_v hrun
      · intro b hb hne
        exact hkeep b (hne id _ L (List.mem_singleton.2 rfl) hL)
      · intro id' o' hm
        simp only [List.mem_singleton, Prod.mk.injEq] at hm
        obtain ⟨rfl, rfl⟩ := hm
        exact ⟨hfz, _, hlk, by simp⟩
      · intro id' o' L1 hm _ hL1 S' hS _
        simp only [List.mem_singleton, Prod.mk.injEq] at hm
        obtain ⟨rfl, rfl⟩ := hm
        rw [hL] at hL1; obtain rfl := Option.some.inj hL1
        exact hobj S' hS
      · intro S' _ _ d _; exact .p _ _ (.int _ _ hval.1 hval.2)
    rcases ha with h0 | ⟨b, hLb, rfl, hcap⟩
    · have hn0 : n = 0 := by omega
      subst hn0
      refine hchg w rfl (Quiet.refl _) (fun _ _ => rfl) ?_ (fun S' hS => ?_)
      · have hf : (Builtin.firstCells te.size 0 vx).run C.E.prog w = .ok #[] w := by simpa using hnf
        cases ad <;> simp [Builtin.copy_, hats, run_underlying' hut, n3, hn', hszr, hf, storeCells]
      · have hsp : splice es off (xs.take 0) = es := by simp [splice]
        rw [hsp]
        exact (show RelObj w S ρ L (.arr sz es fix) from ⟨hsz, hel2, hlc, hlm', hbn, hcells, evs, hev, hcell, hrel⟩).mono (fun _ _ _ => rfl) hS (fun _ _ h => h) (fun _ _ => rfl)
    · have hnl : (news.take (n * sz)).length = n * sz := by
        have : n * sz ≤ xs.length * sz := Nat.mul_le_mul_right _ hmin
        simp; omega
      have hin : ∀ m, m < n * sz → off * sz + m < L.cap * sz := fun m hm => by
        have : (off + n) * sz ≤ L.cap * sz := Nat.mul_le_mul_right _ (by omega)
        rw [Nat.add_mul] at this; omega
      have hcs : ∀ m, m < (news.take (n * sz)).length → (w.cell? ⟨b, L.base + off * sz + m, none⟩).isSome = true ∧ w.frozen? ⟨b, L.base + off * sz + m, none⟩ = false := fun m hm => by
        obtain ⟨⟨v, q⟩, q2⟩ := hcells b hLb (off * sz + m) (hin m (by omega))
        rw [show L.base + off * sz + m = L.base + (off * sz + m) by omega, q, q2]; exact ⟨rfl, rfl⟩
      have hst := run_storeCells_cells (P := C.E.prog) b (L.base + off * sz) (news.take (n * sz)) 0 w (fun m hm => by simpa using (hcs m hm).1) (fun m hm => by simpa using (hcs m hm).2) (fun u hu => n5 u (List.mem_of_mem_take hu))
      have hcell' := fun m => cell_setCells (w := w) (b := b) (o := L.base + off * sz) (vs := news.take (n * sz)) (fun m hm => (hcs m hm).1) m
      have hown := h.own id _ L b hlk (by simp) hL hLb
      have hnS : ¬ S b := hown.2.2.2 hfz
      have kS : Keep S w (w.setCells b (L.base + off * sz) (news.take (n * sz))) := fun b' hb' _ => heap_setCells b _ _ _ b' (fun e => hnS (e ▸ hb'))
      simp only [Nat.add_zero] at hst
      refine hchg (w.setCells b (L.base + off * sz) (news.take (n * sz))) (size_setCells _ _ _ _) (Quiet.setCells _ _ _ _) (fun b' hne => heap_setCells b _ _ _ b' (fun e => hne (e ▸ hLb))) ?_ (fun S' hS => ?_)
      · have hsz' : ∀ w, (Go.sizeOf el).run C.E.prog w = .ok sz w := fun w => by rw [hszr, hsz0]
        rw [hsz]
        rw [← hsz0] at hnf
        simp [Builtin.copy_, hats, run_underlying' hut, n3, hn', hsz', hnf, hst]
      · have hxt : (xs.take n).length = n := by simp; omega
        have hsp := splice_len es off (xs.take n) (by omega)
        refine ⟨hsz, by rw [hsp]; exact hel2, hlc, hlm', hbn, fun b1 hb1 m hm => ?_, fun j => if off ≤ j ∧ j < off + n then evs' (j - off) else evs j, fun j hj => ?_, fun b1 hb1 j k u hj hu => ?_, fun j z hz => ?_⟩
        · rw [hLb] at hb1; obtain rfl := Option.some.inj hb1
          obtain ⟨⟨v0, q1⟩, q2⟩ := hcells b hLb m hm
          refine ⟨?_, by rw [World.frozen?_setCells]; exact q2⟩
          rw [hcell']
          split
          · exact ⟨_, List.getElem?_eq_getElem (by omega)⟩
          · exact ⟨v0, q1⟩
        · dsimp only
          split
          · exact (n6 (j - off) (by omega)).1
          · exact hev j hj
        · rw [hLb] at hb1; obtain rfl := Option.some.inj hb1
          dsimp only at hu
          rw [hcell']
          split at hu
          · rename_i hin'
            have hq := (n6 (j - off) (by omega)).2 k u hu
            have hk : k < sz := by have := (Array.getElem?_eq_some_iff.1 hu).1; have := (n6 (j - off) (by omega)).1; omega
            have h1 : j * sz = off * sz + (j - off) * sz := by rw [← Nat.add_mul]; congr 1; omega
            have h2 : (j - off + 1) * sz ≤ n * sz := Nat.mul_le_mul_right _ (by omega)
            rw [Nat.add_mul, Nat.one_mul] at h2
            rw [if_pos (by omega), show L.base + j * sz + k - (L.base + off * sz) = (j - off) * sz + k by omega, List.getElem?_take, if_pos (by omega)]
            exact hq
          · rename_i hout
            have hk : k < sz := by have := (Array.getElem?_eq_some_iff.1 hu).1; have := hev j hj; omega
            rw [if_neg]
            · exact hcell b hLb j k u hj hu
            · rintro ⟨r1, r2⟩
              rcases Nat.lt_or_ge j off with hlt | hge
              · have : (j + 1) * sz ≤ off * sz := Nat.mul_le_mul_right _ hlt
                rw [Nat.add_mul, Nat.one_mul] at this; omega
              · have : (off + n) * sz ≤ j * sz := Nat.mul_le_mul_right _ (by omega)
                rw [Nat.add_mul] at this; omega
        · rw [splice_get _ _ _ (by omega), hxt] at hz
          dsimp only
          split at hz
          · rename_i hin'
            rw [if_pos hin']
            rw [List.getElem?_take, if_pos (by omega)] at hz
            exact (n7 _ z hz).mono kS hS
          · rename_i hout
            rw [if_neg hout]
            exact (hrel j z hz).mono kS hS

end
end Eng

/- The engine, part S: keys of maps. -/
namespace Eng
open Go

theorem eqc_leaf {td : TD} {x y : P} (hx : leafOk td x = true) (hy : leafOk td y = true) : P.key x y = true ↔ x = y := by
  cases td <;> cases x <;> simp [leafOk] at hx <;> cases y <;> simp [leafOk] at hy
  · simp [P.key, P.eqv, P.eqc]
  · subst hx; subst hy; simp [P.key, P.eqv, P.eqc]
  · simp [P.key, P.eqv, P.eqc]

theorem key_self {td : TD} {x : P} (hx : leafOk td x = true) : P.key x x = true := (eqc_leaf hx hx).2 rfl

/-- No key twice, each key a plain cell. -/
def Keys (td : TD) (kv : List (P × P)) : Prop := (kv.Pairwise fun a b => P.key a.1 b.1 = false) ∧ ∀ q ∈ kv, leafOk td q.1 = true

theorem Keys.perm {td : TD} {a b : List (P × P)} (h : Keys td a) (hp : a.Perm b) : Keys td b := by
  have hl : ∀ q ∈ b, leafOk td q.1 = true := fun q hq => h.2 q (hp.mem_iff.2 hq)
  refine ⟨?_, hl⟩
  have h' : a.Pairwise fun x y => x.1 ≠ y.1 := h.1.imp_of_mem fun ha hb hk e => by
    have := (eqc_leaf (h.2 _ ha) (h.2 _ hb)).2 e
    rw [hk] at this; simp at this
  have h'' : b.Pairwise fun x y => x.1 ≠ y.1 := (hp.pairwise_iff (fun hab => Ne.symm hab)).1 h'
  exact h''.imp_of_mem fun ha hb hk => by
    cases hc : P.key _ _ with
    | false => rfl
    | true => exact absurd ((eqc_leaf (hl _ ha) (hl _ hb)).1 hc) hk

theorem Keys.uniq {td : TD} {kv : List (P × P)} (h : Keys td kv) {k : P} {v v' : P} (h1 : (k, v) ∈ kv) (h2 : (k, v') ∈ kv) : v = v' := by
  obtain ⟨i, hi, he⟩ := List.mem_iff_getElem.1 h1
  obtain ⟨j, hj, he'⟩ := List.mem_iff_getElem.1 h2
  have hkk := key_self (h.2 _ h1)
  rcases Nat.lt_trichotomy i j with hlt | heq | hgt
  · have := List.pairwise_iff_getElem.1 h.1 i j hi hj hlt
    rw [he, he'] at this; simp [hkk] at this
  · subst heq; rw [he] at he'; simpa using he'
  · have := List.pairwise_iff_getElem.1 h.1 j i hj hi hgt
    rw [he, he'] at this; simp [hkk] at this

theorem kfind_mem {td : TD} {kv : List (P × P)} (h : Keys td kv) {k : P} (hk : leafOk td k = true) (v : P) : kfind kv k = some v ↔ (k, v) ∈ kv := by
  unfold kfind
  rw [Option.map_eq_some_iff]
  constructor
  · rintro ⟨q, hq, rfl⟩
    have h1 := List.find?_some hq
    have h2 := List.mem_of_find?_eq_some hq
    have := (eqc_leaf hk (h.2 _ h2)).1 h1
    rw [this]; exact h2
  · intro hm
    cases hf : kv.find? fun e => P.key k e.1 with
    | none =>
      have := List.find?_eq_none.1 hf _ hm
      simp [key_self hk] at this
    | some q =>
      have h1 := List.find?_some hf
      have h2 := List.mem_of_find?_eq_some hf
      have h3 := (eqc_leaf hk (h.2 _ h2)).1 h1
      obtain ⟨q1, q2⟩ := q
      simp only at h3
      subst h3
      exact ⟨_, rfl, h.uniq h2 hm⟩

theorem kfind_none {td : TD} {kv : List (P × P)} {k : P} : kfind kv k = none ↔ ∀ q ∈ kv, P.key k q.1 = false := by
  unfold kfind
  simp

theorem kfind_perm {td : TD} {a b : List (P × P)} (h : Keys td a) (hp : a.Perm b) {k : P} (hk : leafOk td k = true) : kfind a k = kfind b k := by
  cases hb : kfind b k with
  | some v => exact (kfind_mem h hk v).2 (hp.mem_iff.2 ((kfind_mem (h.perm hp) hk v).1 hb))
  | none =>
    cases ha : kfind a k with
    | none => rfl
    | some v =>
      have := (kfind_mem (h.perm hp) hk v).2 (hp.mem_iff.1 ((kfind_mem h hk v).1 ha))
      rw [hb] at this; simp at this

theorem kset_hit {td : TD} {kv : List (P × P)} (hK : Keys td kv) {k v v' : P} (hk : leafOk td k = true) {j : Nat} (hj : kv[j]? = some (k, v)) : kset kv k v' = kv.set j (k, v') := by
  have hany : kv.any (fun e => P.key k e.1) = true := List.any_eq_true.2 ⟨(k, v), List.mem_of_getElem? hj, key_self hk⟩
  unfold kset
  rw [if_pos hany]
  apply List.ext_getElem?
  intro m
  rw [List.getElem?_map]
  by_cases hm : m = j
  · subst hm
    have hlt : m < kv.length := (List.getElem?_eq_some_iff.1 hj).1
    rw [hj, List.getElem?_set_self hlt]
    simp [key_self hk]
  · rw [List.getElem?_set_ne (Ne.symm hm)]
    cases hq : kv[m]? with
    | none => rfl
    | some q =>
      have : P.key k q.1 = false := by
        cases hc : P.key k q.1 with
        | false => rfl
        | true =>
          exfalso
          have heq := (eqc_leaf hk (hK.2 q (List.mem_of_getElem? hq))).1 hc
          obtain ⟨hlt, he⟩ := List.getElem?_eq_some_iff.1 hj
          obtain ⟨hlt', he'⟩ := List.getElem?_eq_some_iff.1 hq
          have hkk := key_self hk
          rcases Nat.lt_or_gt_of_ne hm with hl | hg
          · have := List.pairwise_iff_getElem.1 hK.1 m j hlt' hlt hl
            rw [he, he', ← heq] at this; simp [hkk] at this
          · have := List.pairwise_iff_getElem.1 hK.1 j m hlt hlt' hg
            rw [he, he', ← heq] at this; simp [hkk] at this
      simp [this]

theorem kset_miss {kv : List (P × P)} {k v : P} (h : kfind kv k = none) : kset kv k v = kv ++ [(k, v)] := by
  unfold kset
  rw [if_neg]
  intro hany
  obtain ⟨q, hq, hk⟩ := List.any_eq_true.1 hany
  have := (kfind_none (td := .bool)).1 h q hq
  rw [hk] at this; simp at this

theorem kset_perm {td : TD} {a b : List (P × P)} (hK : Keys td a) (hp : a.Perm b) {k v : P} (hk : leafOk td k = true) : (kset a k v).Perm (kset b k v) := by
  unfold kset
  have : a.any (fun e => P.key k e.1) = b.any (fun e => P.key k e.1) := by
    rw [Bool.eq_iff_iff, List.any_eq_true, List.any_eq_true]
    constructor
    · rintro ⟨q, h1, h2⟩; exact ⟨q, hp.mem_iff.1 h1, h2⟩
    · rintro ⟨q, h1, h2⟩; exact ⟨q, hp.mem_iff.2 h1, h2⟩
  rw [this]
  split
  · exact hp.map _
  · exact hp.append_right _

theorem kset_keys {td : TD} {kv : List (P × P)} (hK : Keys td kv) {k v : P} (hk : leafOk td k = true) : Keys td (kset kv k v) := by
  unfold kset
  split
  · refine ⟨?_, ?_⟩
    · rw [List.pairwise_map]
      refine hK.1.imp fun {a b} hab => ?_
      by_cases h1 : P.key k a.1 <;> by_cases h2 : P.key k b.1 <;> simp [h1, h2, hab]
    · intro q hq
      obtain ⟨a, ha, rfl⟩ := List.mem_map.1 hq
      split <;> exact hK.2 a ha
  · rename_i hany
    refine ⟨List.pairwise_append.2 ⟨hK.1, List.pairwise_singleton _ _, fun a ha b hb => ?_⟩, ?_⟩
    · simp only [List.mem_singleton] at hb
      subst hb
      cases hc : P.key a.1 k with
      | false => rfl
      | true =>
        exfalso
        have heq := (eqc_leaf (hK.2 a ha) hk).1 hc
        exact hany (List.any_eq_true.2 ⟨a, ha, by rw [heq]; exact key_self hk⟩)
    · intro q hq
      rcases List.mem_append.1 hq with hq | hq
      · exact hK.2 q hq
      · simp only [List.mem_singleton] at hq; subst hq; exact hk

theorem kdel_hit {td : TD} {kv : List (P × P)} (hK : Keys td kv) {k v : P} (hk : leafOk td k = true) {j : Nat} (hj : kv[j]? = some (k, v)) : kdel kv k = kv.eraseIdx j := by
  unfold kdel
  induction kv generalizing j with
  | nil => simp at hj
  | cons q kv ih =>
    have hK' : Keys td kv := ⟨(List.pairwise_cons.1 hK.1).2, fun q hq => hK.2 q (by simp [hq])⟩
    cases j with
    | zero =>
      simp only [List.getElem?_cons_zero, Option.some.injEq] at hj
      subst hj
      simp only [List.filter_cons, key_self hk, Bool.not_true, Bool.false_eq_true, if_false, List.eraseIdx_cons_zero]
      apply List.filter_eq_self.2
      intro a ha
      have := (List.pairwise_cons.1 hK.1).1 a ha
      simpa using this
    | succ j =>
      simp only [List.getElem?_cons_succ] at hj
      have : P.key k q.1 = false := by
        cases hc : P.key k q.1 with
        | false => rfl
        | true =>
          have heq := (eqc_leaf hk (hK.2 q (by simp))).1 hc
          have := (List.pairwise_cons.1 hK.1).1 _ (List.mem_of_getElem? hj)
          rw [← heq, key_self hk] at this; simp at this
      simp only [List.filter_cons, this, Bool.not_false, if_true, List.eraseIdx_cons_succ]
      rw [ih hK' hj]

theorem kdel_miss {kv : List (P × P)} {k : P} (h : kfind kv k = none) : kdel kv k = kv := by
  unfold kdel
  apply List.filter_eq_self.2
  intro a ha
  simp [(kfind_none (td := .bool)).1 h a ha]

theorem kdel_perm {a b : List (P × P)} (hp : a.Perm b) (k : P) : (kdel a k).Perm (kdel b k) := hp.filter _

theorem kdel_keys {td : TD} {kv : List (P × P)} (hK : Keys td kv) (k : P) : Keys td (kdel kv k) :=
  ⟨hK.1.filter _, fun q hq => hK.2 q (List.mem_filter.1 hq).1⟩

section
variable {w : World} {S : Nat → Prop}

/-- What a key's type is, and that of the map's table. -/
def kindOk (d : TypeDesc) (td : TD) : Prop := tdOk d td = true ∧ td.same td = true

theorem same_eq {a b : TD} (h : a.same b = true) : a = b ∧ b.same b = true := by
  cases a <;> cases b <;> simp [TD.same] at h ⊢ <;> simp [h]

theorem beq_bytes (s t : List UInt8) : ((ByteArray.mk s.toArray) == (ByteArray.mk t.toArray)) = (s == t) := by
  rw [beq_toListBytes, toList_mk, toList_mk]

theorem sameNow_rel {d : TypeDesc} {td : TD} (hd : kindOk d td) {x y : P} {u v : Value} (hx : leafOk td x = true) (hy : leafOk td y = true) (hu : RelP w S u x) (hv : RelP w S v y) : Instr.sameNow d u v = some (P.key x y) := by
  obtain ⟨h1, h2⟩ := hd
  cases td <;> simp [TD.same] at h2 <;> cases d <;> simp [tdOk] at h1 <;> cases x <;> simp [leafOk] at hx <;> cases y <;> simp [leafOk] at hy
  · rw [hu.bool_inv, hv.bool_inv]; simp [Instr.sameNow, P.key, P.eqv, P.eqc]
  · subst hx; subst hy; rw [hu.int_inv.1, hv.int_inv.1]; simp [Instr.sameNow, P.key, P.eqv, P.eqc]
  · rw [hu.str_inv.1, hv.str_inv.1]
    rename_i s t
    simp only [Instr.sameNow, P.key, P.eqv, P.eqc, Option.getD_some, Option.some.injEq]
    exact beq_bytes s t

theorem findNow_rel {d : TypeDesc} {td : TD} (hd : kindOk d td) {x : P} {u : Value} (hx : leafOk td x = true) (hu : RelP w S u x) : ∀ (es : List MapEntry) (kv : List (P × P)) (n : Nat), es.length = kv.length → (∀ q ∈ kv, leafOk td q.1 = true) →
    (∀ (i : Nat) e q, es[i]? = some e → kv[i]? = some q → RelP w S e.key q.1) →
    (∀ q ∈ kv, P.key x q.1 = false) ∧ Instr.findNow d u es n = some none ∨
    ∃ (j : Nat) (e : MapEntry) (q : P × P), es[j]? = some e ∧ kv[j]? = some q ∧ P.key x q.1 = true ∧ Instr.findNow d u es n = some (some (n + j, e.val))
  | [], [], n, _, _, _ => .inl ⟨by simp, rfl⟩
  | [], _ :: _, n, h, _, _ => by simp at h
  | _ :: _, [], n, h, _, _ => by simp at h
  | e :: es, q :: kv, n, hl, hk, hr => by
    have hs := sameNow_rel hd hx (hk q (by simp)) hu (hr 0 e q rfl rfl)
    simp only [Instr.findNow, hs]
    cases hc : P.key x q.1 with
    | true => exact .inr ⟨0, e, q, rfl, rfl, hc, by simp⟩
    | false =>
      rcases findNow_rel hd hx hu es kv (n + 1) (by simpa using hl) (fun q hq => hk q (by simp [hq])) (fun i e q he hq => hr (i + 1) e q (by simpa using he) (by simpa using hq)) with ⟨h1, h2⟩ | ⟨j, e', q', h1, h2, h3, h4⟩
      · exact .inl ⟨by simp [hc]; exact fun a b hab => h1 (a, b) hab, h2⟩
      · exact .inr ⟨j + 1, e', q', by simpa using h1, by simpa using h2, h3, by rw [h4, Nat.add_assoc, Nat.add_comm 1]⟩

theorem findKey_rel {P : Program} {kt : TypeId} {d : TypeDesc} {td : TD} (hu : P.underlying kt = some d) (hd : kindOk d td) {x : Eng.P} {u : Value} (hx : leafOk td x = true) (hr : RelP w S u x) {es : List MapEntry} {kv : List (Eng.P × Eng.P)} (hl : es.length = kv.length) (hk : Keys td kv)
    (hrk : ∀ (i : Nat) e q, es[i]? = some e → kv[i]? = some q → RelP w S e.key q.1) :
    (kfind kv x = none ∧ ∀ w', (Instr.findKey kt u es).run P w' = .ok none w') ∨
    ∃ (j : Nat) (e : MapEntry) (v : Eng.P), es[j]? = some e ∧ kv[j]? = some (x, v) ∧ kfind kv x = some v ∧ ∀ w', (Instr.findKey kt u es).run P w' = .ok (some (j, e.val)) w' := by
  rcases findNow_rel hd hx hr es kv 0 hl hk.2 hrk with ⟨h1, h2⟩ | ⟨j, e, q, h1, h2, h3, h4⟩
  · exact .inl ⟨(kfind_none (td := td)).2 h1, fun w' => by simp [Instr.findKey, run_underlying' hu, h2]⟩
  · have hm := List.mem_of_getElem? h2
    have := (eqc_leaf hx (hk.2 q hm)).1 h3
    obtain ⟨q1, q2⟩ := q
    simp only at this
    subst this
    exact .inr ⟨j, e, q2, h1, h2, (kfind_mem hk hx q2).2 hm, fun w' => by simp [Instr.findKey, run_underlying' hu, h4]⟩

theorem checkKey_leaf {P : Program} {kt : TypeId} {d : TypeDesc} {td : TD} (hu : P.underlying kt = some d) (hd : kindOk d td) (b : Bool) (v : Value) (w' : World) : (Instr.checkKey b 10000 kt v).run P w' = .ok () w' := by
  obtain ⟨h1, h2⟩ := hd
  show (Instr.checkKey b (9999 + 1) kt v).run P w' = .ok () w'
  generalize 9999 = n
  cases td <;> simp [TD.same] at h2 <;> cases d <;> simp [tdOk] at h1 <;> simp [Instr.checkKey, run_underlying' hu]

theorem keyThatStays_leaf {P : Program} {td : TD} {x : Eng.P} {u v : Value} (hx : leafOk td x = true) (hu : RelP w S u x) (hv : RelP w S v x) (w' : World) : (Instr.keyThatStays u v).run P w' = .ok v w' := by
  have : Instr.sameBits 10000 u v = true := by
    cases td <;> cases x <;> simp [leafOk] at hx
    · rw [hu.bool_inv, hv.bool_inv]; simp [Instr.sameBits]
    · rw [hu.int_inv.1, hv.int_inv.1]; simp [Instr.sameBits]
    · rw [hu.str_inv.1, hv.str_inv.1]; simp [Instr.sameBits, beq_bytes]
  simp [Instr.keyThatStays, this]

end
end Eng

/- The engine, part T: maps: look-ups, stores, deletions; iterators. -/
namespace Eng
open Go

section
variable {C : Ctx} {X : Nat → Prop} {ρ : Id → Option Lay} {S : Nat → Prop} {st : St} {a : Act} {w : World} {i : Nat} {o : Oper} {e : Eff}

theorem leaf_any {td : TD} {S' : Nat → Prop} {v : Value} {x : P} (hx : leafOk td x = true) (h : RelP w S v x) : RelP w S' v x := by
  cases td <;> cases x <;> simp [leafOk] at hx
  · rw [h.bool_inv]; exact .bool _
  · obtain ⟨rfl, h0, h1⟩ := h.int_inv; exact .int _ _ h0 h1
  · obtain ⟨rfl, h0⟩ := h.str_inv; exact .str _ h0

theorem EnvOk.key {E : Env} (hE : EnvOk E) {t : Nat} {ti : TI} {kt el : Nat} (hty : E.ty t = some ti) (hd : ti.d = .map kt el) {td : TD} (hs : (E.keyTD t).same td = true) : ∃ d, E.prog.underlying kt = some d ∧ kindOk d td := by
  have hk : E.keyTD t = (match E.td kt with | some d => d | none => .other) := by
    unfold Env.keyTD
    rw [hty]
    cases ti
    simp only at hd
    subst hd
    rfl
  rw [hk] at hs
  cases hq : E.td kt with
  | none => rw [hq] at hs; simp [TD.same] at hs
  | some d =>
    rw [hq] at hs
    obtain ⟨h1, h2⟩ := same_eq hs
    simp only at h1
    subst h1
    obtain ⟨d', h3, h4⟩ := hE.und hq
    exact ⟨d', h3, h4, h2⟩

section
variable (h : Rep C X ρ S st a.tmps w) (hi : ¬ X i) (ht : ∀ d, o.dst = some d → d < C.E.nt) (hlit : o.op.operands.all litOk = true) (hE : EnvOk C.E)
include h hi ht hlit hE

theorem does_lookup {t : TypeId} {m k : Operand} {ok : Bool} (ho : o.op = .lookup t m k ok) (hc : core C.E st.ep i o.op o.type st.slots st.objs = some e) : Does C X st a w i o e := by
  rw [ho] at hc hlit
  simp [Op.operands] at hlit
  have h1 := ev_rel h 0 hlit.1
  simp only [core] at hc
  split at hc
  · rename_i kt el sz by_ ze hty
    have h2 := ev_rel h kt hlit.2
    split at hc
    · rename_i te td kv kp hte hm hk
      split at hc
      · rename_i hcnd
        simp only [Bool.and_eq_true] at hcnd
        obtain ⟨hs, hleaf⟩ := hcnd
        simp only [Option.some.injEq] at hc
        have hum := hE.map hty rfl
        obtain ⟨d, hud, hkd⟩ := hE.key hty rfl hs
        have hkp : RelP w S (a.eval k) kp := leaf_any (S := fun _ => True) hleaf (toP_rel (S' := fun _ => True) h.objs (fun _ _ => trivial) 1 _ _ _ h2 hk (fun _ _ _ _ _ _ => trivial))
        obtain ⟨z, hz, hzs, hzr⟩ := zeroP_rel (w := w) (S := S) hE hte
        generalize hvk : a.eval k = vk at hkp
        generalize hvm : a.eval m = vm at h1
        -- what the map holds
        have hmap : (vm = .map none ∧ kv = []) ∨ ∃ r es clock kv', vm = .map (some r) ∧ w.heap[r]? = some (.map es clock) ∧ kv'.Perm kv ∧ es.size = kv'.length ∧ Keys td kv' ∧
            ∀ (i : Nat) e q, es[i]? = some e → kv'[i]? = some q → RelP w S e.key q.1 ∧ RelP w S e.val q.2 := by
          unfold mapOf at hm
          split at hm
          · rename_i td' kv' hx
            simp only [Option.some.injEq, Prod.mk.injEq] at hm
            obtain ⟨rfl, rfl⟩ := hm
            rw [hx] at h1
            have h1 := h1.of_p
            cases h1 with
            | nilmap => exact .inl ⟨rfl, rfl⟩
            | map td r es clock kv kv' hS hb hp hl hk hv hd hkey hborn hbd => exact .inr ⟨r, es, clock, kv', rfl, hb, hp, hl, ⟨hd, hkey⟩, fun i e q he hq => ⟨hk i e q he hq, hv i e q he hq⟩⟩
          · rename_i id hx
            split at hm
            · rename_i td' kv' hlk
              simp only [Option.some.injEq, Prod.mk.injEq] at hm
              obtain ⟨rfl, rfl⟩ := hm
              rw [hx] at h1
              cases h1 with
              | map id L r hL hLb =>
                obtain ⟨L', hL', r', hr', es, clock, kv', hb, hp, hl, hkv, hd2, hkey, hborn, hbd⟩ := h.objs id _ hlk (by simp)
                rw [hL] at hL'; obtain rfl := Option.some.inj hL'
                rw [hLb] at hr'; obtain rfl := Option.some.inj hr'
                exact .inr ⟨r, es, clock, kv', rfl, hb, hp, hl, ⟨hd2, hkey⟩, hkv⟩
            · simp at hm
          · simp at hm
        -- what comes out
        have hout : ∃ v b, (Instr.lookup t vm vk ok).run C.E.prog w = .ok (if ok then .tuple #[v, .bool b] else v) w ∧
            (match kfind kv kp with | some x => RelP w S v x ∧ b = true | none => RelP w S v te.zeroP ∧ b = false) := by
          rcases hmap with ⟨rfl, rfl⟩ | ⟨r, es, clock, kv', rfl, hb, hp, hl, hK, hrel⟩
          · refine ⟨z, false, ?_, hzr, rfl⟩
            have hck := checkKey_leaf hud hkd true vk w
            have hfk : (Instr.findKey kt vk (#[] : Array MapEntry).toList).run C.E.prog w = .ok none w := by simp [Instr.findKey, run_underlying' hud, Instr.findNow]
            cases ok <;> simp [Instr.lookup, run_underlying' hum, hck, hfk, hz] <;> simpa using hfk
          · have hck := checkKey_leaf hud hkd es.isEmpty vk w
            rcases findKey_rel (es := es.toList) hud hkd hleaf hkp (by simpa using hl) hK (fun i e q he hq => (hrel i e q (by simpa using he) hq).1) with ⟨g1, g2⟩ | ⟨j, e', v', g1, g2, g3, g4⟩
            · rw [← kfind_perm hK hp hleaf, g1]
              refine ⟨z, false, ?_, hzr, rfl⟩
              cases ok <;> simp [Instr.lookup, run_underlying' hum, getObj, Sem.run, hb, hck, g2, hz]
            · rw [← kfind_perm hK hp hleaf, g3]
              refine ⟨e'.val, true, ?_, (hrel j e' _ (by simpa using g1) g2).2, rfl⟩
              cases ok <;> simp [Instr.lookup, run_underlying' hum, getObj, Sem.run, hb, hck, g4]
        obtain ⟨v, b, hrun, hv⟩ := hout
        subst hc
        refine Does.quiet h hi ht (v := if ok then .tuple #[v, .bool b] else v) (by simp only [execOp, ho, hvm, hvk, Sem.run_bind, hrun, Result.andThen_ok, Sem.run_pure]) rfl rfl rfl ?_
        have tup : ∀ (x : P), RelP w S v x → RelD w S ρ (.tuple #[v, .bool b]) (.tup [.p x, .p (.bool b)]) := by
          intro x hx
          refine .tup _ _ rfl fun i u c hu hc => ?_
          match i with
          | 0 => simp at hu hc; subst hu hc; exact .p _ _ hx
          | 1 => simp at hu hc; subst hu hc; exact .p _ _ (.bool b)
          | i + 2 => simp at hc
        cases hf : kfind kv kp with
        | some x =>
          rw [hf] at hv
          obtain ⟨hv, rfl⟩ := hv
          cases ok
          · exact .p _ _ hv
          · exact tup x hv
        | none =>
          rw [hf] at hv
          obtain ⟨hv, rfl⟩ := hv
          cases ok
          · exact .p _ _ hv
          · exact tup _ hv
      · simp at hc
    · simp at hc
  · simp at hc

/-- A map of the call's own that is written to. -/
theorem Does.map {id : Id} {td : TD} {kv kv2 : List (P × P)} {r : Nat} {L : Lay} {fs : List Id} {w' : World} {c : List Bool} {n : Next} {es : Array MapEntry} {clock : Nat} {kv' : List (P × P)}
    (hlk : st.objs id = some (.map td kv)) (hL : ρ id = some L) (hLb : L.blk = some r) (hfz : st.fz id = false) (hfs : ∀ f ∈ fs, ∃ o, st.objs f = some o ∧ o ≠ .gone) (hap : ∀ f ∈ fs, id ≠ f)
    (hrun : (execOp a.eval o).run C.E.prog w = .ok n w') (hn : n = .value undef ∨ n = .skip)
    (hheap : w'.heap = w.heap.setIfInBounds r (.map es clock)) (hqu : Quiet w w') (hK : Keys td kv') (hp : kv'.Perm kv2) (hl : es.size = kv'.length)
    (hrel : ∀ S', (∀ b, S b → S' b) → (∀ f, f ∈ fs → ∀ o L b, st.objs f = some o → o ≠ .gone → ρ f = some L → L.blk = some b → S' b) → ∀ (i : Nat) e q, es[i]? = some e → kv'[i]? = some q → RelP w S' e.key q.1 ∧ RelP w S' e.val q.2)
    (hborn : ∀ (i : Nat) e, es[i]? = some e → e.born < clock) (hbd : ∀ (i j : Nat) e e', es[i]? = some e → es[j]? = some e' → e.born = e'.born → i = j)
    (he : e = { val := .undef, wr := [(id, .map td kv2)], frz := fs, cond := c }) : Does C X st a w i o e := by
  subst he
  have hown := h.own id _ L r hlk (by simp) hL hLb
  have hnS : ¬ S r := hown.2.2.2 hfz
  have hold : ∀ b, b ≠ r → w'.heap[b]? = w.heap[b]? := fun b hb => by rw [hheap]; exact Array.getElem?_setIfInBounds_ne (Ne.symm hb)
  have hnew : w'.heap[r]? = some (.map es clock) := by rw [hheap]; simp [hown.1]
  have hsz : w'.heap.size = w.heap.size := by rw [hheap]; simp
  let FS : Nat → Prop := fun b => S b ∨ ∃ f o L, f ∈ fs ∧ st.objs f = some o ∧ o ≠ .gone ∧ ρ f = some L ∧ L.blk = some b
  have kF : Keep FS w w' := fun b hb _ => hold b fun e => by
    subst e
    rcases hb with hb | ⟨f, o', L', q1, q2, q3, q4, q5⟩
    · exact hnS hb
    · exact hap f q1 (h.inj id _ L f o' L' b hlk (by simp) hL hLb q2 q3 q4 q5)
  refine ⟨n, undef, w', hrun, by rcases hn with rfl | rfl; exact .inl rfl; exact .inr ⟨rfl, rfl⟩, ρ, h.step ρ hi ht (by omega) hqu ?_ ?_ (fun _ _ h => h) (fun id h => .inl h) ?_ (fun _ _ hm => by simp at hm) (fun _ _ _ _ _ _ _ hm => by simp at hm) ?_ ?_⟩
  · intro b hb hne
    exact hold b (fun e => hne id _ L (List.mem_singleton.2 rfl) hL (e ▸ hLb))
  · intro id' o' hm
    simp only [List.mem_singleton, Prod.mk.injEq] at hm
    obtain ⟨rfl, rfl⟩ := hm
    exact ⟨hfz, _, hlk, by simp⟩
  · intro f hf
    obtain ⟨o', q1, q2⟩ := hfs f hf
    obtain ⟨L', hL', _⟩ := h.objs f o' q1 q2
    refine ⟨by simp [hL'], fun o'' hm => ?_⟩
    simp only [List.mem_singleton, Prod.mk.injEq] at hm
    exact hap f hf hm.1.symm
  · intro id' o' L1 hm _ hL1 S' hS hF
    simp only [List.mem_singleton, Prod.mk.injEq] at hm
    obtain ⟨rfl, rfl⟩ := hm
    rw [hL] at hL1; obtain rfl := Option.some.inj hL1
    have hFS : ∀ b, FS b → S' b := fun b hb => by
      rcases hb with hb | ⟨idq, o', L, q1, q2, q3, q4, q5⟩
      · exact hS b hb
      · exact hF idq q1 o' L b q2 q3 q4 q5
    have hr := hrel FS (fun b hb => .inl hb) (fun f hf o L b q2 q3 q4 q5 => .inr ⟨f, o, L, hf, q2, q3, q4, q5⟩)
    exact ⟨r, hLb, es, clock, kv', hnew, hp, hl, fun i e q he hq => ⟨(hr i e q he hq).1.mono kF hFS, (hr i e q he hq).2.mono kF hFS⟩, hK.1, hK.2, hborn, hbd⟩
  · intro S' _ _ d _; exact .undef

theorem does_mapUpdate {t : TypeId} {m k v : Operand} (ho : o.op = .mapUpdate t m k v ∨ o.op = .insert t m k v) (hc : core C.E st.ep i o.op o.type st.slots st.objs = some e) (hw : wrOk st e = true) : Does C X st a w i o e := by
  have hlm : litOk m = true ∧ litOk k = true ∧ litOk v = true := by
    rcases ho with ho | ho <;> rw [ho] at hlit <;> simpa [Op.operands, and_assoc] using hlit
  have hc : mapUpdateE C.E st.slots st.objs t m k v = some e := by rcases ho with ho | ho <;> rw [ho] at hc <;> simpa [core] using hc
  have hexec : (execOp a.eval o).run C.E.prog w = ((Instr.mapUpdate t (a.eval m) (a.eval k) (a.eval v)).run C.E.prog w).andThen fun _ w' => .ok .skip w' := by
    rcases ho with ho | ho <;> simp only [execOp, ho, Sem.run_bind, Sem.run_pure]
  have h1 := ev_rel h 0 hlm.1
  unfold mapUpdateE at hc
  split at hc
  · rename_i kt vt sz by_ ze hty
    have h2 := ev_rel h kt hlm.2.1
    have h3 := ev_rel h vt hlm.2.2
    split at hc
    · rename_i id hm
      split at hc
      · rename_i td kv kp vp hlk hk hv
        split at hc
        · rename_i hcnd
          simp only [Bool.and_eq_true] at hcnd
          obtain ⟨hs, hleaf⟩ := hcnd
          simp only [Option.some.injEq] at hc
          have hum := hE.map hty rfl
          obtain ⟨d, hud, hkd⟩ := hE.key hty rfl hs
          have hkp : RelP w S (a.eval k) kp := leaf_any (S := fun _ => True) hleaf (toP_rel (S' := fun _ => True) h.objs (fun _ _ => trivial) 1 _ _ _ h2 hk (fun _ _ _ _ _ _ => trivial))
          have hids := toP_ids depth _ _ hv
          have hvp : ∀ S', (∀ b, S b → S' b) → (∀ f, f ∈ (ev C.E st.slots vt v).ids st.objs depth → ∀ o L b, st.objs f = some o → o ≠ .gone → ρ f = some L → L.blk = some b → S' b) → RelP w S' (a.eval v) vp := fun S' hS hF =>
            toP_rel (S' := S') h.objs hS depth _ _ _ h3 hv (fun id hid L b hL hb => by
              obtain ⟨o', q1, q2⟩ := hids id hid
              exact hF id hid o' L b q1 q2 hL hb)
          generalize hvk : a.eval k = vk at hkp hexec
          generalize hvm : a.eval m = vm at h1 hexec
          generalize hvv : a.eval v = vv at hvp hexec
          rw [hm] at h1
          rw [← hc] at hw
          simp only [wrOk, Bool.and_eq_true, List.all_eq_true, List.mem_singleton, forall_eq, Bool.not_eq_true', decide_eq_true_eq] at hw
          cases h1 with
          | map _ L r hL hLb =>
            obtain ⟨L', hL', r', hr', es, clock, kv', hb, hp, hl, hkv, hd2, hkey, hborn, hbd⟩ := h.objs id _ hlk (by simp)
            rw [hL] at hL'; obtain rfl := Option.some.inj hL'
            rw [hLb] at hr'; obtain rfl := Option.some.inj hr'
            have hK : Keys td kv' := ⟨hd2, hkey⟩
            have hck := checkKey_leaf hud hkd false vk w
            rcases findKey_rel (es := es.toList) hud hkd hleaf hkp (by simpa using hl) hK (fun i e q he hq => (hkv i e q (by simpa using he) hq).1) with ⟨g1, g2⟩ | ⟨j, e', v', g1, g2, g3, g4⟩
            · refine Does.map h hi ht hlit hE (w' := { w with heap := w.heap.setIfInBounds r (.map (es.push { key := vk, val := vv, born := clock }) (clock + 1)) }) hlk hL hLb hw.1 hids hw.2 (n := .skip) ?_ (.inr rfl) rfl ⟨rfl, rfl⟩ (kset_keys hK hleaf (v := vp)) (kset_perm hK hp hleaf) ?_ ?_ ?_ ?_ (c := []) hc.symm
              · rw [hexec]
                simp [Instr.mapUpdate, run_underlying' hum, getObj, setObj, Sem.run, hb, hck, g2]
              · rw [kset_miss g1]; simp [hl]
              · intro S' hS hF n e q he hq
                rw [kset_miss g1] at hq
                rw [Array.getElem?_push] at he
                split at he
                · rename_i hn
                  simp only [Option.some.injEq] at he; subst he
                  rw [hn, hl, List.getElem?_append_right (Nat.le_refl _)] at hq
                  simp at hq; subst hq
                  exact ⟨hkp.mono (fun _ _ _ => rfl) hS, hvp S' hS hF⟩
                · have hn : n < kv'.length := by have := (Array.getElem?_eq_some_iff.1 he).1; omega
                  rw [List.getElem?_append_left hn] at hq
                  exact ⟨(hkv n e q he hq).1.mono (fun _ _ _ => rfl) hS, (hkv n e q he hq).2.mono (fun _ _ _ => rfl) hS⟩
              · intro n e he
                rw [Array.getElem?_push] at he
                split at he
                · simp only [Option.some.injEq] at he; subst he; simp
                · have := hborn n e he; omega
              · intro n m e e' he he' hb
                rw [Array.getElem?_push] at he he'
                split at he <;> split at he'
                · omega
                · simp only [Option.some.injEq] at he; subst he
                  have := hborn m e' he'; simp at hb; omega
                · simp only [Option.some.injEq] at he'; subst he'
                  have := hborn n e he; simp at hb; omega
                · exact hbd n m e e' he he' hb
            · have hje : es[j]? = some e' := by simpa using g1
              have hjl : j < es.size := (Array.getElem?_eq_some_iff.1 hje).1
              refine Does.map h hi ht hlit hE (w' := { w with heap := w.heap.setIfInBounds r (.map (es.modify j fun e => { e with key := vk, val := vv }) clock) }) hlk hL hLb hw.1 hids hw.2 (n := .skip) ?_ (.inr rfl) rfl ⟨rfl, rfl⟩ (kset_keys hK hleaf (v := vp)) (kset_perm hK hp hleaf) ?_ ?_ ?_ ?_ (c := []) hc.symm
              · have hst := keyThatStays_leaf (P := C.E.prog) hleaf (hkv j e' _ hje g2).1 hkp w
                rw [hexec]
                simp [Instr.mapUpdate, run_underlying' hum, getObj, setObj, Sem.run, hb, hck, g4, hje, hst]
              · rw [kset_hit hK hleaf g2]; simp [hl]
              · intro S' hS hF n e q he hq
                rw [kset_hit hK hleaf g2] at hq
                rw [Array.getElem?_modify] at he
                split at he
                · rename_i hjn
                  subst hjn
                  rw [hje] at he
                  simp only [Option.map_some, Option.some.injEq] at he; subst he
                  rw [List.getElem?_set_self (by omega)] at hq
                  simp only [Option.some.injEq] at hq; subst hq
                  exact ⟨hkp.mono (fun _ _ _ => rfl) hS, hvp S' hS hF⟩
                · rename_i hjn
                  rw [List.getElem?_set_ne hjn] at hq
                  exact ⟨(hkv n e q he hq).1.mono (fun _ _ _ => rfl) hS, (hkv n e q he hq).2.mono (fun _ _ _ => rfl) hS⟩
              · intro n e he
                rw [Array.getElem?_modify] at he
                split at he
                · rename_i hjn; subst hjn
                  rw [hje] at he
                  simp only [Option.map_some, Option.some.injEq] at he; subst he
                  exact hborn _ e' hje
                · exact hborn n e he
              · have hbm : ∀ (n : Nat) (e : MapEntry), (es.modify j fun e => { e with key := vk, val := vv })[n]? = some e → ∃ e0, es[n]? = some e0 ∧ e0.born = e.born := by
                  intro n e he
                  rw [Array.getElem?_modify] at he
                  split at he
                  · rename_i hjn; subst hjn
                    rw [hje] at he
                    simp only [Option.map_some, Option.some.injEq] at he; subst he
                    exact ⟨e', hje, rfl⟩
                  · exact ⟨e, he, rfl⟩
                intro n m e1 e2 he1 he2 hb
                obtain ⟨a1, q1, q2⟩ := hbm n e1 he1
                obtain ⟨a2, q3, q4⟩ := hbm m e2 he2
                exact hbd n m a1 a2 q1 q3 (by omega)
        · simp at hc
      · simp at hc
    · simp at hc
  · simp at hc

theorem does_next {it : Operand} (ho : o.op = .next it true) (hc : core C.E st.ep i o.op o.type st.slots st.objs = some e) (hw : wrOk st e = true) : Does C X st a w i o e := by
  rw [ho] at hc hlit
  simp [Op.operands] at hlit
  have h1 := ev_rel h 0 hlit
  simp only [core] at hc
  split at hc
  · rename_i id hx
    rw [hx] at h1
    generalize hv : a.eval it = v at h1
    split at hc
    · rename_i s pos hlk
      cases h1 with
      | it _ L b hL hLb =>
      obtain ⟨L', hL', b', hLb', hheap, hsl⟩ := h.objs id _ hlk (by simp)
      rw [hL] at hL'; obtain rfl := Option.some.inj hL'
      rw [hLb] at hLb'; obtain rfl := Option.some.inj hLb'
      split at hc
      · rename_i hlt
        simp only [Option.some.injEq] at hc
        subst hc
        have hfz : st.fz id = false := by
          simp only [wrOk, Bool.and_eq_true, List.all_eq_true, List.mem_singleton, forall_eq, Bool.not_eq_true'] at hw
          exact hw.1
        have hown := h.own id _ L b hlk (by simp) hL hLb
        have hr32 : IntKind.i32.min ≤ ((Utf8.decode ⟨s.toArray⟩ pos).1 : Int) ∧ ((Utf8.decode ⟨s.toArray⟩ pos).1 : Int) ≤ IntKind.i32.max := by
          have := decode_le ⟨s.toArray⟩ pos
          have e1 : IntKind.i32.min = -2147483648 := by decide
          have e2 : IntKind.i32.max = 2147483647 := by decide
          omega
        refine ⟨.value (.tuple #[.bool true, goInt pos, .int .i32 (Utf8.decode ⟨s.toArray⟩ pos).1]), _, { w with heap := w.heap.setIfInBounds b (.stringIter ⟨s.toArray⟩ (pos + (Utf8.decode ⟨s.toArray⟩ pos).2)) }, ?_, .inl rfl, ρ,
          h.step (v := .tuple #[.bool true, goInt pos, .int .i32 (Utf8.decode ⟨s.toArray⟩ pos).1]) ρ hi ht (by simp) ⟨rfl, rfl⟩ ?_ ?_ (fun _ _ h => h) (fun id h => .inl h) (by simp) (fun _ _ hm => by simp at hm) (fun _ _ _ _ _ _ _ hm => by simp at hm) ?_ ?_⟩
        · simp [execOp, ho, hv, Instr.next, getObj, setObj, Sem.run, hheap, size_mk, hlt]
        · intro b1 hb1 hne
          have hbb : b ≠ b1 := fun e => hne id _ L (List.mem_singleton.2 rfl) hL (by rw [hLb, e])
          exact Array.getElem?_setIfInBounds_ne hbb
        · intro id' o' hm
          simp only [List.mem_singleton, Prod.mk.injEq] at hm
          obtain ⟨rfl, rfl⟩ := hm
          exact ⟨hfz, _, hlk, by simp⟩
        · intro id' o' L1 hm _ hL1 S' hS _
          simp only [List.mem_singleton, Prod.mk.injEq] at hm
          obtain ⟨rfl, rfl⟩ := hm
          rw [hL] at hL1; obtain rfl := Option.some.inj hL1
          exact ⟨b, hLb, by simp [hown.1], hsl⟩
        · intro S' _ _ d _
          refine .tup _ _ rfl fun j u c hu hc => ?_
          match j with
          | 0 => simp at hu hc; subst hu hc; exact .p _ _ (.bool true)
          | 1 => simp at hu hc; subst hu hc; exact .p _ _ (.int _ _ (natInt (by omega)).1 (natInt (by omega)).2)
          | 2 => simp at hu hc; subst hu hc; exact .p _ _ (.int _ _ hr32.1 hr32.2)
          | j + 3 => simp at hc
      · rename_i hge
        simp only [Option.some.injEq] at hc
        subst hc
        refine Does.quiet h hi ht (v := .tuple #[.bool false]) (by simp [execOp, ho, hv, Instr.next, getObj, Sem.run, hheap, size_mk, hge]) rfl rfl rfl ?_
        refine .tup _ _ rfl fun j u c hu hc => ?_
        match j with
        | 0 => simp at hu hc; subst hu hc; exact .p _ _ (.bool false)
        | j + 1 => simp at hc
    · simp at hc
  · simp at hc

theorem does_entry {it : Operand} (ho : o.op = .entry it) (hc : core C.E st.ep i o.op o.type st.slots st.objs = some e) : Does C X st a w i o e := by
  rw [ho] at hc hlit
  simp [Op.operands] at hlit
  have h1 := ev_rel h 0 hlit
  simp only [core] at hc
  split at hc
  · rename_i id hx
    rw [hx] at h1
    generalize hv : a.eval it = v at h1
    split at hc
    · rename_i rest k x hlk
      cases h1 with
      | it _ L b hL hLb =>
      obtain ⟨L', hL', b', hLb', hmit⟩ := h.objs id _ hlk (by simp)
      rw [hL] at hL'; obtain rfl := Option.some.inj hL'
      rw [hLb] at hLb'; obtain rfl := Option.some.inj hLb'
      simp only [Option.some.injEq] at hc
      subst hc
      rcases hmit with ⟨_, _, _, _, _, hcn⟩ | ⟨m, es, clock, seen, kv', hm, hbm, hbr, hl, hr, hborn, hbd, hperm, q, e', he', hq, hback⟩
      · simp at hcn
      · have hfind : es.find? (fun e => e.born == e'.born) = some e' := by
          have hsome : ∃ y, es.find? (fun e => e.born == e'.born) = some y := by
            cases hf : es.find? (fun e => e.born == e'.born) with
            | some y => exact ⟨y, rfl⟩
            | none =>
              have := Array.find?_eq_none.1 hf e' (Array.mem_of_getElem? he')
              simp at this
          obtain ⟨y, hy⟩ := hsome
          have h1 := Array.find?_some hy
          have h2 := Array.mem_of_find?_eq_some hy
          obtain ⟨n, hn, rfl⟩ := Array.mem_iff_getElem.1 h2
          simp only [beq_iff_eq] at h1
          have := hbd n q es[n] e' (by simp [hn]) he' h1
          subst this
          rw [hy]
          simp [hn] at he'
          rw [he']
        have hrun : (Instr.entry (.pointer (some ⟨b, 0, none⟩))).run C.E.prog w = .ok (.tuple #[e'.key, e'.val]) w := by
          simp [Instr.entry, getObj, Sem.run, hbr, hbm, hback, hfind]
        refine Does.quiet h hi ht (v := .tuple #[e'.key, e'.val]) (by simp only [execOp, ho, hv, Sem.run_bind, hrun, Result.andThen_ok, Sem.run_pure]) rfl rfl rfl ?_
        have hkv := hr q e' _ he' hq
        refine .tup _ _ rfl fun j u c hu hc => ?_
        match j with
        | 0 => simp at hu hc; subst hu hc; exact .p _ _ hkv.1
        | 1 => simp at hu hc; subst hu hc; exact .p _ _ hkv.2
        | j + 2 => simp at hc
    · simp at hc
  · simp at hc

theorem does_delete {args : Array Operand} {ats : Array TypeId} (ho : o.op = .call { callee := .builtin .delete, args, argTypes := ats }) (hc : core C.E st.ep i o.op o.type st.slots st.objs = some e) (hw : wrOk st e = true) : Does C X st a w i o e := by
  have hlit' := hlit
  rw [ho] at hc hlit'
  simp only [core, builtinD] at hc
  unfold deleteE at hc
  split at hc <;> (try simp only [reduceCtorEq] at hc)
  rename_i t ts id k hds hlen
  have hats : ats[0]? = some t := by rw [← Array.getElem?_toList, hds]; rfl
  obtain ⟨hl, hr⟩ := argsD_rel h args.toList ats.toList (fun x hx => by
    simp [Op.operands, Call.operands] at hlit'
    obtain ⟨j, hj, rfl⟩ := Array.mem_iff_getElem.1 (Array.mem_toList_iff.1 hx); exact hlit' j hj)
  rw [hlen] at hl hr
  split at hc <;> (try simp only [reduceCtorEq] at hc)
  rename_i kt el td kv kp htd hlk hk
  split at hc <;> (try simp only [reduceCtorEq] at hc)
  rename_i hcnd
  simp only [Bool.and_eq_true] at hcnd
  obtain ⟨hs, hleaf⟩ := hcnd
  simp only [Option.some.injEq] at hc
  obtain ⟨ti, hty, htid⟩ : ∃ ti, C.E.ty t = some ti ∧ ti.d = .map kt el := by
    unfold Env.td at htd
    split at htd
    · rename_i ti hti; exact ⟨ti, hti, by simpa using htd⟩
    · simp at htd
  have hum := hE.map hty htid
  obtain ⟨d, hud, hkd⟩ := hE.key hty htid hs
  match hxx : args.toList, hl with
  | [xm0, xk0], _ =>
    rw [hxx] at hr
    have hrm := hr 0 (a.eval xm0) (.map id) rfl rfl
    have hrk := hr 1 (a.eval xk0) k rfl rfl
    have hargs : args.map a.eval = #[a.eval xm0, a.eval xk0] := by rw [← Array.toArray_toList (xs := args), hxx]; simp
    generalize a.eval xk0 = vk at hargs hrk
    generalize a.eval xm0 = vm at hargs hrm
    have hkp : RelP w S vk kp := leaf_any (S := fun _ => True) hleaf (toP_rel (S' := fun _ => True) h.objs (fun _ _ => trivial) 1 _ _ _ hrk hk (fun _ _ _ _ _ _ => trivial))
    obtain ⟨csb, hx⟩ := exec_builtin (a := a) (w := w) (P := C.E.prog) ho
    cases hrm with
    | map _ L r hL hLb =>
      have hw' := hw
      rw [← hc] at hw'
      simp only [wrOk, Bool.and_eq_true, List.all_eq_true, List.mem_singleton, forall_eq, Bool.not_eq_true', decide_eq_true_eq] at hw'
      obtain ⟨L', hL', r', hr', es, clock, kv', hb, hp, hl, hkv, hd2, hkey, hborn, hbd⟩ := h.objs id _ hlk (by simp)
      rw [hL] at hL'; obtain rfl := Option.some.inj hL'
      rw [hLb] at hr'; obtain rfl := Option.some.inj hr'
      have hK : Keys td kv' := ⟨hd2, hkey⟩
      have hck := checkKey_leaf hud hkd es.isEmpty vk w
      rcases findKey_rel (es := es.toList) hud hkd hleaf hkp (by simpa using hl) hK (fun i e q he hq => (hkv i e q (by simpa using he) hq).1) with ⟨g1, g2⟩ | ⟨j, e', v', g1, g2, g3, g4⟩
      · refine Does.map h hi ht hlit hE (w' := { w with heap := w.heap.setIfInBounds r (.map es clock) }) (fs := []) hlk hL hLb hw'.1 (by simp) (by simp) (n := .value (.tuple #[])) ?_ (.inl rfl) rfl ⟨rfl, rfl⟩ (kdel_keys hK kp) (kdel_perm hp kp) ?_ ?_ hborn hbd (c := []) hc.symm
        · rw [hx, hargs]
          refine run_v ?_
          simp [Builtin.delete_, hats, run_underlying' hum, getObj, setObj, Sem.run, hb, hck, g2]
        · rw [kdel_miss g1]; exact hl
        · intro S' hS _ n e q he hq
          rw [kdel_miss g1] at hq
          exact ⟨(hkv n e q he hq).1.mono (fun _ _ _ => rfl) hS, (hkv n e q he hq).2.mono (fun _ _ _ => rfl) hS⟩
      · have hje : es[j]? = some e' := by simpa using g1
        have hjl : j < es.size := (Array.getElem?_eq_some_iff.1 hje).1
        have her : ∀ n, (es.eraseIdxIfInBounds j)[n]? = if n < j then es[n]? else es[n + 1]? := by
          intro n
          have hsub : (es.eraseIdxIfInBounds j).toList = es.toList.eraseIdx j := by
            unfold Array.eraseIdxIfInBounds
            simp [hjl]
          rw [← Array.getElem?_toList, hsub, List.getElem?_eraseIdx]
          simp
        refine Does.map h hi ht hlit hE (w' := { w with heap := w.heap.setIfInBounds r (.map (es.eraseIdxIfInBounds j) clock) }) (fs := []) hlk hL hLb hw'.1 (by simp) (by simp) (n := .value (.tuple #[])) ?_ (.inl rfl) rfl ⟨rfl, rfl⟩ (kdel_keys hK kp) (kdel_perm hp kp) ?_ ?_ ?_ ?_ (c := []) hc.symm
        · rw [hx, hargs]
          refine run_v ?_
          simp [Builtin.delete_, hats, run_underlying' hum, getObj, setObj, Sem.run, hb, hck, g4]
        · rw [kdel_hit hK hleaf g2]
          have : (es.eraseIdxIfInBounds j).size = es.size - 1 := by unfold Array.eraseIdxIfInBounds; simp [hjl]
          rw [this, List.length_eraseIdx, if_pos (by omega), hl]
        · intro S' hS _ n e q he hq
          rw [kdel_hit hK hleaf g2, List.getElem?_eraseIdx] at hq
          rw [her] at he
          split at he
          · rename_i hn; rw [if_pos hn] at hq
            exact ⟨(hkv n e q he hq).1.mono (fun _ _ _ => rfl) hS, (hkv n e q he hq).2.mono (fun _ _ _ => rfl) hS⟩
          · rename_i hn; rw [if_neg hn] at hq
            exact ⟨(hkv _ e q he hq).1.mono (fun _ _ _ => rfl) hS, (hkv _ e q he hq).2.mono (fun _ _ _ => rfl) hS⟩
        · intro n e he
          rw [her] at he
          split at he
          · exact hborn _ e he
          · exact hborn _ e he
        · intro n m e1 e2 he1 he2 hb
          rw [her] at he1 he2
          split at he1 <;> split at he2
          · exact hbd n m e1 e2 he1 he2 hb
          · have := hbd n (m + 1) e1 e2 he1 he2 hb; omega
          · have := hbd (n + 1) m e1 e2 he1 he2 hb; omega
          · have := hbd (n + 1) (m + 1) e1 e2 he1 he2 hb; omega

end
end
end Eng

/- The engine, part U: every operation. -/
namespace Eng
open Go

section
variable {C : Ctx} {X : Nat → Prop} {ρ : Id → Option Lay} {S : Nat → Prop} {st : St} {a : Act} {w : World} {i : Nat} {o : Oper} {e : Eff}

theorem dstOk_lt {E : Env} (h : dstOk E o = true) : ∀ d, o.dst = some d → d < E.nt := fun d hd' => by
  unfold dstOk at h
  rw [hd'] at h; simpa using h

/-- Every operation that calls nothing does what its effect says. -/
theorem does (h : Rep C X ρ S st a.tmps w) (hi : ¬ X i) (hok : opOk C.E o = true) (hE : EnvOk C.E)
    (hc : core C.E st.ep i o.op o.type st.slots st.objs = some e) (hw : wrOk st e = true) (hcond : ∀ q ∈ e.cond, q = true) : Does C X st a w i o e := by
  simp only [opOk, Bool.and_eq_true] at hok
  obtain ⟨hd, hlit⟩ := hok
  have ht := dstOk_lt hd
  cases ho : o.op with
  | move x => exact does_move h hi ht hlit ho hc
  | assign x => exact does_assign h hi ht hlit ho hc
  | pick c x y => exact does_pick h hi ht hlit ho hc
  | alloc t => exact does_alloc h hi ht hE ho hc
  | box t x => exact does_box h hi ht hlit hE ho hc
  | build t ps => exact does_build h hi ht hlit hE ho hc
  | buildSlice t n ps => exact does_buildSlice h hi ht hlit hE ho hc
  | insert t m k v => exact does_mapUpdate h hi ht hlit hE (.inr ho) hc hw
  | load t x => exact does_load h hi ht hlit hE ho hc
  | store t x y => exact does_store h hi ht hlit hE ho hc hw
  | nilCheck x => exact does_nilCheck h hi ht hlit ho hc
  | binOp b t x y u => exact does_binOp h hi ht hlit hE ho hc hcond
  | unOp u t x => exact does_unOp h hi ht hlit ho hc hcond
  | convert s t x => exact does_convert h hi ht hlit hE ho hc hcond
  | makeFunc f fs cs => exact does_makeFunc h hi ht hlit ho hc
  | makeMap t r =>
    cases r with
    | none => exact does_makeMap h hi ht ho hc
    | some r => rw [ho] at hc; simp [core] at hc
  | makeSlice t l c => exact does_makeSlice h hi ht hlit hE ho hc hcond
  | slice t x lo hi' mx => exact does_slice h hi ht hlit hE ho hc hcond
  | fieldAddr t x f => exact does_fieldAddr h hi ht hlit hE ho hc
  | field t x f => exact does_field h hi ht hlit hE ho hc
  | indexAddr t x ix => exact does_indexAddr h hi ht hlit hE ho hc hcond
  | index t x ix => exact does_index h hi ht hlit hE ho hc hcond
  | lookup t m k ok => exact does_lookup h hi ht hlit hE ho hc
  | mapUpdate t m k v => exact does_mapUpdate h hi ht hlit hE (.inl ho) hc hw
  | range t x => exact does_range h hi ht hlit hE ho hc
  | next it s =>
    cases s with
    | true => exact does_next h hi ht hlit hE ho hc hw
    | false => rw [ho] at hc; simp [core] at hc
  | entry it => exact does_entry h hi ht hlit hE ho hc
  | extract x n => exact does_extract h hi ht hlit ho hc
  | call c =>
    obtain ⟨cal, args, ats⟩ := c
    cases cal with
    | builtin b =>
      cases b with
      | len => exact does_len h hi ht hlit hE ho hc hcond
      | append => exact does_append h hi ht hlit hE ho hc hcond hw
      | copy => exact does_copy h hi ht hlit hE ho hc hw
      | max => exact does_max h hi ht hlit ho hc
      | min => exact does_min h hi ht hlit ho hc
      | delete => exact does_delete h hi ht hlit hE ho hc hw
      | _ => rw [ho] at hc; simp [core, builtinD] at hc
    | _ => rw [ho] at hc; simp [core] at hc
  | _ => rw [ho] at hc; simp [core] at hc

end
end Eng

/- The engine, part V: what it means that the rest of a body goes well, and how it is walked. -/
namespace Eng
open Go

/-- The fence that lets everything in; r: the loop in whose round the frame is. -/
def fence (r : Option Nat) : Fence := { fn := fun _ => True, depth := none, alive := false, round := r }

theorem fenced_all (P : Program) (r : Option Nat) (m : Machine) : m.fenced P (fence r) := by
  intro g _
  refine ⟨fun h => ?_, Or.inl trivial, fun _ _ => trivial, fun _ h => ?_⟩
  · simp [fence] at h
  · simp [fence] at h

def conc : Item → Go.Item
  | .c c => .code c
  | .blk id => .inBlock id
  | .lp c => .inLoop c
  | .ops ops i => .inRegion ops (List.range' i (ops.size - i))

def Xof : List Item → Nat → Prop
  | .ops _ i :: _ => fun j => j < i
  | _ => fun _ => False

abbrev Goal := Exit → Act → World → Prop

/-- Of the frame: the loop in whose round it is; the deferred calls that it owes. -/
structure Fm where
  r : Option Nat
  ds : List Deferred

def AWP (C : Ctx) (r : Fm) (G : Goal) (k : List Item) (st : St) : Prop :=
  ∀ ρ S a w, Rep C (Xof k) ρ S st a.tmps w → a.defers = r.ds →
    ∀ (b : Frame) (k0 : List Go.Item) (cs : List Frame), b.roundOf = r.r →
      ∃ e a' w', G e a' w' ∧ ArrivesIn (Machine.fenced C.E.prog (fence r.r)) C.E.prog (lone (b.atR a (k.map conc ++ k0)) cs w) b k0 cs e a' w'

theorem Rep.weakX {C : Ctx} {X X' : Nat → Prop} {ρ : Id → Option Lay} {S : Nat → Prop} {st : St} {tm : Array Value} {w : World} (h : Rep C X ρ S st tm w) (hX : ∀ j, X j → X' j) : Rep C X' ρ S st tm w :=
  { h with young := fun id hn => (h.young id hn).imp (fun h => h) fun ⟨h1, h2⟩ => ⟨h1, hX _ h2⟩ }

theorem Rep.nextEp {C : Ctx} {X : Nat → Prop} {ρ : Id → Option Lay} {S : Nat → Prop} {st : St} {tm : Array Value} {w : World} (h : Rep C X ρ S st tm w) : Rep C (fun _ => False) ρ S st.next tm w :=
  { h with
    young := by
      intro id hn
      rcases h.young id hn with h1 | ⟨h1, _⟩
      · exact .inl (Nat.lt_succ_of_lt h1)
      · exact .inl (h1 ▸ Nat.lt_succ_self _)
    ep1 := Nat.le_succ_of_le h.ep1 }

section
variable {C : Ctx} {r : Fm} {G : Goal}

/-- A step of the machine, or some of them. -/
theorem awp_step {k k1 : List Item} {st st1 : St}
    (h : ∀ ρ S a w, Rep C (Xof k) ρ S st a.tmps w → a.defers = r.ds → ∃ ρ' S' a' w', Rep C (Xof k1) ρ' S' st1 a'.tmps w' ∧ a'.defers = r.ds ∧
      ∀ (b : Frame) (k0 : List Go.Item) (cs : List Frame), b.roundOf = r.r → StepsIn (Machine.fenced C.E.prog (fence r.r)) C.E.prog (lone (b.atR a (k.map conc ++ k0)) cs w) (lone (b.atR a' (k1.map conc ++ k0)) cs w'))
    (h1 : AWP C r G k1 st1) : AWP C r G k st := by
  intro ρ S a w hr hd b k0 cs hb
  obtain ⟨ρ', S', a', w', hr', hd', hs⟩ := h ρ S a w hr hd
  obtain ⟨e, a2, w2, hg, harr⟩ := h1 ρ' S' a' w' hr' hd' b k0 cs hb
  exact ⟨e, a2, w2, hg, .of_steps (hs b k0 cs hb) harr⟩

/-- One quiet step of control. -/
theorem awp_ctl {k k1 : List Item} {st : St} (hX : ∀ j, Xof k j → Xof k1 j)
    (h : ∀ (a : Act) (w : World) (b : Frame) (k0 : List Go.Item) (cs : List Frame), step C.E.prog (lone (b.atR a (k.map conc ++ k0)) cs w) = .next (lone (b.atR a (k1.map conc ++ k0)) cs w))
    (h1 : AWP C r G k1 st) : AWP C r G k st :=
  awp_step (fun ρ S a w hr hd => ⟨ρ, S, a, w, hr.weakX hX, hd, fun b k0 cs _ => .one (fenced_all _ _ _) (h a w b k0 cs)⟩) h1

theorem exitK_conc {id : Nat} : ∀ {k k' : List Item} {k0 : List Go.Item}, exitK id k = some k' → exitTo id (k.map conc ++ k0) = some (k'.map conc ++ k0)
  | [], _, _, h => by simp [exitK] at h
  | x :: k, k', k0, h => by
    cases x with
    | blk j =>
      simp only [exitK] at h
      split at h
      · rename_i hj
        simp only [Option.some.injEq] at h
        subst h hj
        simp [exitTo, conc]
      · rename_i hj
        have : (j == id) = false := by simpa using hj
        simp only [List.map_cons, List.cons_append, conc, exitTo, this, Bool.false_eq_true, if_false]
        exact exitK_conc h
    | c _ => simp only [exitK] at h; simp only [List.map_cons, List.cons_append, conc, exitTo]; exact exitK_conc h
    | ops _ _ => simp only [exitK] at h; simp only [List.map_cons, List.cons_append, conc, exitTo]; exact exitK_conc h
    | lp _ => simp only [exitK] at h; simp only [List.map_cons, List.cons_append, conc, exitTo]; exact exitK_conc h

@[simp] theorem put_defers (a : Act) (d : Option Tmp) (v : Value) : (a.put d v).defers = a.defers := by cases d <;> rfl
theorem guard_rel {ρ : Id → Option Lay} {S : Nat → Prop} {X : Nat → Prop} {st : St} {a : Act} {w : World} (h : Rep C X ρ S st a.tmps w) {ops : Array Oper} {o : Oper} {v : Bool} (hg : guardOf ops st o.guard = some v) :
    Region.wanted o (yielded ops a.tmps) = v := by
  unfold Region.wanted
  cases hgd : o.guard with
  | none => rw [hgd] at hg; simp [guardOf] at hg; simp [hg]
  | some gw =>
    obtain ⟨g, wv⟩ := gw
    rw [hgd] at hg
    simp only [guardOf] at hg
    simp only [yielded]
    cases hb : (ops[g]?).bind (·.dst) with
    | none => rw [hb] at hg; simp at hg; subst hg; simp
    | some t =>
      rw [hb] at hg
      dsimp only at hg
      have hs := h.slots t
      split at hg
      · rename_i b hst
        simp only [Option.some.injEq] at hg
        subst hg
        rw [hst] at hs
        have := hs.of_p.bool_inv
        simp only [Option.bind_some]
        cases hq : a.tmps[t]? with
        | none => simp [hq] at this; simp [undef] at this
        | some v => simp [hq] at this; subst this; simp
      · rename_i hst
        simp only [Option.some.injEq] at hg
        subst hg
        rw [hst] at hs
        generalize hv : a.tmps.getD t undef = v at hs
        cases hs
        simp only [Option.bind_some]
        cases hq : a.tmps[t]? with
        | none => simp
        | some v => simp [hq] at hv; subst hv; simp [undef]
      · simp at hg

theorem range'_cons {n i : Nat} (h : i < n) : List.range' i (n - i) = i :: List.range' (i + 1) (n - (i + 1)) := by
  have : n - i = (n - (i + 1)) + 1 := by omega
  rw [this, List.range'_succ]

/-- One operation that calls nothing. -/
theorem awp_op {ops : Array Oper} {i : Nat} {o : Oper} {k : List Item} {st : St} {e : Eff} (hE : EnvOk C.E) (ho : ops[i]? = some o) (hg : guardOf ops st o.guard = some true)
    (hc : core C.E st.ep i o.op o.type st.slots st.objs = some e) (hok : opOk C.E o = true) (hw : wrOk st e = true) (hcond : ∀ q ∈ e.cond, q = true)
    (h1 : AWP C r G (.ops ops (i + 1) :: k) (st.app i o.dst e)) : AWP C r G (.ops ops i :: k) st := by
  have hi : i < ops.size := (Array.getElem?_eq_some_iff.1 ho).1
  refine awp_step (fun ρ S a w hr hd => ?_) h1
  have hr' : Rep C (fun j => j < i) ρ S st a.tmps w := hr
  obtain ⟨n, v, w', hrun, hn, ρ', S', hrep⟩ := does hr' (by omega) hok hE hc hw hcond
  have hwant := guard_rel hr' hg
  refine ⟨ρ', S', a.put o.dst v, w', hrep.weakX (fun j hj => ?_), by simp [hd], fun b k0 cs hb => ?_⟩
  · simp only [Xof]; omega
  · have hsem : o.semAt b.roundOf a.eval = execOp a.eval o := Oper.semAt_eq _ _ _ (fun c hc' => by rw [hc'] at hc; simp [core] at hc)
    have hst := stepGR_op (P := C.E.prog) (b := b) (a := a) (k := k.map conc ++ k0) (cs := cs) (w := w) (i := i) (rest := List.range' (i + 1) (ops.size - (i + 1))) ho hwant
    have hfin := Frame.finish_atR b a ops i (List.range' (i + 1) (ops.size - (i + 1))) (k.map conc ++ k0) v
    simp only [ho, Option.bind_some] at hfin
    refine .one (fenced_all _ _ _) ?_
    simp only [List.map_cons, List.cons_append, conc, range'_cons hi]
    refine step_lone_go ?_
    rw [hst, hsem, ← hfin]
    rcases hn with rfl | ⟨rfl, rfl⟩ <;> simp [stepG.apply, hrun]

/-- An operation whose guard says no. -/
theorem awp_skip {ops : Array Oper} {i : Nat} {o : Oper} {k : List Item} {st : St} (ho : ops[i]? = some o) (hg : guardOf ops st o.guard = some false) (ht : ∀ d, o.dst = some d → d < C.E.nt)
    (h1 : AWP C r G (.ops ops (i + 1) :: k) (st.setO o.dst .undef)) : AWP C r G (.ops ops i :: k) st := by
  have hi : i < ops.size := (Array.getElem?_eq_some_iff.1 ho).1
  refine awp_step (fun ρ S a w hr hd => ?_) h1
  have hr' : Rep C (fun j => j < i) ρ S st a.tmps w := hr
  have hwant := guard_rel hr' hg
  obtain ⟨S', hrep⟩ := hr'.step (i := i) (t := o.dst) (e := { val := .undef }) (v := undef) (w' := w) ρ (by omega) ht (Nat.le_refl _) (Quiet.refl _) (fun _ _ _ => rfl) (by simp) (fun _ _ h => h) (fun id h => .inl h) (by simp) (fun _ _ hm => by simp at hm) (fun _ _ _ _ _ _ _ hm => by simp at hm) (by simp) (fun _ _ _ _ _ => .undef)
  refine ⟨ρ, S', a.put o.dst undef, w, ?_, by simp [hd], fun b k0 cs hb => ?_⟩
  · have : st.app i o.dst { val := .undef } = st.setO o.dst .undef := by simp [St.app, St.objL, St.freezeL]
    rw [← this]
    exact hrep.weakX (fun j hj => by simp only [Xof]; omega)
  · have hst := stepR_op_skip (P := C.E.prog) (b := b) (a := a) (k := k.map conc ++ k0) (cs := cs) (w := w) (ops := ops) (i := i) (rest := List.range' (i + 1) (ops.size - (i + 1))) (by simp [ho, hwant])
    simp only [ho, Option.bind_some] at hst
    refine .one (fenced_all _ _ _) ?_
    simp only [List.map_cons, List.cons_append, conc, range'_cons hi]
    exact hst

theorem run_grow {E : Env} : ∀ (n : Nat) (k : List Item) (st : St) (ps : List Bool) {k' : List Item} {st' : St} {ps' : List Bool}, run E n k st ps = some (k', st', ps') → ∀ p ∈ ps, p ∈ ps' := by
  intro n
  induction n with
  | zero => intro k st ps k' st' ps' h; simp only [run, Option.some.injEq, Prod.mk.injEq] at h; obtain ⟨rfl, rfl, rfl⟩ := h; exact fun _ h => h
  | succ n ih =>
    intro k st ps k' st' ps' h p hp
    match k with
    | [] => simp [run] at h
    | .c c :: k =>
      cases c with
      | region id ops dr => cases dr <;> simp only [run, reduceCtorEq] at h; exact ih _ _ _ h p hp
      | cond c x y =>
        simp only [run] at h
        split at h
        · split at h
          · exact ih _ _ _ h p hp
          · exact ih _ _ _ h p hp
          · simp at h
        · simp at h
      | exit id =>
        simp only [run] at h
        split at h
        · exact ih _ _ _ h p hp
        · simp at h
      | _ => first | (simp only [run] at h; exact ih _ _ _ h p hp) | simp [run] at h
    | .blk id :: k => simp only [run] at h; exact ih _ _ _ h p hp
    | .lp x :: k => simp only [run] at h; exact ih _ _ _ h p hp
    | .ops ops i :: k =>
      simp only [run] at h
      split at h
      · exact ih _ _ _ h p hp
      · split at h
        · split at h
          · exact ih _ _ _ h p (List.mem_append_left _ hp)
          · simp at h
        · split at h
          · exact ih _ _ _ h p hp
          · simp at h
        · simp at h

/-- The walk by reckoning. -/
theorem awp_run (hE : EnvOk C.E) : ∀ (n : Nat) (k : List Item) (st : St) (ps : List Bool) {k' : List Item} {st' : St} {ps' : List Bool}, run C.E n k st ps = some (k', st', ps') →
    (∀ p ∈ ps', p = true) → AWP C r G k' st' → AWP C r G k st := by
  intro n
  induction n with
  | zero => intro k st ps k' st' ps' h _ h1; simp only [run, Option.some.injEq, Prod.mk.injEq] at h; obtain ⟨rfl, rfl, rfl⟩ := h; exact h1
  | succ n ih =>
    intro k st ps k' st' ps' h hp h1
    have grow := @run_grow C.E
    match k with
    | [] => simp [run] at h
    | .c c :: k =>
      cases c with
      | skip => simp only [run] at h; exact awp_ctl (k1 := k) (fun _ h => h.elim) (fun a w b k0 cs => stepR_skip) (ih _ _ _ h hp h1)
      | seq x y => simp only [run] at h; exact awp_ctl (k1 := .c x :: .c y :: k) (fun _ h => h.elim) (fun a w b k0 cs => stepR_seq) (ih _ _ _ h hp h1)
      | block id x => simp only [run] at h; exact awp_ctl (k1 := .c x :: .blk id :: k) (fun _ h => h.elim) (fun a w b k0 cs => stepR_block) (ih _ _ _ h hp h1)
      | loop x => simp only [run] at h; exact awp_ctl (k1 := .c x :: .lp x :: k) (fun _ h => h.elim) (fun a w b k0 cs => stepR_loop) (ih _ _ _ h hp h1)
      | region id ops dr =>
        cases dr with
        | true => simp [run] at h
        | false =>
          simp only [run] at h
          refine awp_ctl (k1 := .ops ops 0 :: k) (fun _ h => h.elim) (fun a w b k0 cs => ?_) (ih _ _ _ h hp h1)
          have := stepR_region (P := C.E.prog) (b := b) (a := a) (k := k.map conc ++ k0) (cs := cs) (w := w) (ops := ops) (id := id)
          simpa [conc, List.range_eq_range'] using this
      | cond c x y =>
        simp only [run] at h
        have go : ∀ t : Bool, ev C.E st.slots 0 c = .p (.bool t) → litOk c = true → AWP C r G (.c (if t then x else y) :: k) st → AWP C r G (.c (.cond c x y) :: k) st := by
          intro t ht hl h2
          refine awp_step (fun ρ S a w hr hd => ⟨ρ, S, a, w, hr.weakX (fun _ h => h.elim), hd, fun b k0 cs _ => .one (fenced_all _ _ _) ?_⟩) h2
          have := ev_rel hr 0 hl
          rw [ht] at this
          exact stepR_cond this.of_p.bool_inv
        split at h
        · rename_i hl
          split at h
          · rename_i hv; exact go true hv hl (ih _ _ _ h hp h1)
          · rename_i hv; exact go false hv hl (ih _ _ _ h hp h1)
          · simp at h
        · simp at h
      | exit id =>
        simp only [run] at h
        split at h
        · rename_i k2 hk
          exact awp_ctl (k1 := k2) (fun _ h => h.elim) (fun a w b k0 cs => stepR_exit (exitK_conc hk)) (ih _ _ _ h hp h1)
        · simp at h
      | _ => simp [run] at h
    | .blk id :: k => simp only [run] at h; exact awp_ctl (k1 := k) (fun _ h => h.elim) (fun a w b k0 cs => stepR_inBlock) (ih _ _ _ h hp h1)
    | .lp x :: k => simp only [run] at h; exact awp_ctl (k1 := .c x :: .lp x :: k) (fun _ h => h.elim) (fun a w b k0 cs => stepR_inLoop) (ih _ _ _ h hp h1)
    | .ops ops i :: k =>
      simp only [run] at h
      split at h
      · -- the region's end
        rename_i hn
        refine awp_step (fun ρ S a w hr hd => ⟨ρ, S, a, w, (Rep.nextEp hr).weakX (fun _ h => h.elim), hd, fun b k0 cs _ => .one (fenced_all _ _ _) ?_⟩) (ih _ _ _ h hp h1)
        have hi : ops.size ≤ i := by simpa using hn
        have : ops.size - i = 0 := by omega
        simp only [List.map_cons, List.cons_append, conc, this, List.range'_zero]
        exact stepR_region_end
      · rename_i o ho
        split at h
        · rename_i hg
          split at h
          · rename_i st2 qs hro
            unfold runOp at hro
            split at hro
            · rename_i e hc
              split at hro
              · rename_i hok
                simp only [Bool.and_eq_true] at hok
                simp only [Option.some.injEq, Prod.mk.injEq] at hro
                obtain ⟨rfl, rfl⟩ := hro
                exact awp_op hE ho hg hc hok.2 hok.1 (fun q hq => hp q (grow _ _ _ _ h q (List.mem_append_right _ hq))) (ih _ _ _ h hp h1)
              · simp at hro
            · simp at hro
          · simp at h
        · rename_i hg
          split at h
          · rename_i hd
            exact awp_skip ho hg (dstOk_lt hd) (ih _ _ _ h hp h1)
          · simp at h
        · simp at h

end
end Eng

/- The engine, part X: the step of a fit where the callee has frozen blocks of its own; contracts. -/
namespace Eng
open Go

/-- The one step by which a fit is carried on: what an operation has made, changed and frozen. -/
theorem Rep.stepN {C : Ctx} {X : Nat → Prop} {ρ : Id → Option Lay} {S : Nat → Prop} {st : St} {a : Act} {w : World} (h : Rep C X ρ S st a.tmps w)
    {i : Nat} {t : Option Nat} {e : Eff} {v : Value} {w' : World} (ρ' : Id → Option Lay) (N : Nat → Prop)
    (hN : ∀ b, N b → b < w'.heap.size ∧ (w.heap.size ≤ b ∨ ∃ id o' L', (id, Obj.gone) ∈ e.wr ∧ st.objs id = some o' ∧ o' ≠ .gone ∧ ρ id = some L' ∧ L'.blk = some b ∧ (∀ o'', (id, o'') ∈ e.wr → o'' = .gone)))
    (hNm : ∀ k o L b, (k, o) ∈ e.new → ρ' (st.ep, i, k) = some L → L.blk = some b → ¬ N b)
    (hi : ¬ X i) (ht : ∀ d, t = some d → d < C.E.nt)
    (size : w.heap.size ≤ w'.heap.size) (hq : Quiet w w')
    (keep : ∀ b, b < w.heap.size → (∀ id o L, (id, o) ∈ e.wr → ρ id = some L → L.blk ≠ some b) → w'.heap[b]? = w.heap[b]?)
    (wr : ∀ id o, (id, o) ∈ e.wr → st.fz id = false ∧ ∃ o', st.objs id = some o' ∧ o' ≠ .gone)
    (hρ : ∀ id L, ρ id = some L → ρ' id = some L)
    (hnew : ∀ id, ρ' id ≠ none → ρ id ≠ none ∨ (id.1 = st.ep ∧ id.2.1 = i))
    (frz : ∀ id, id ∈ e.frz → ρ id ≠ none ∧ ∀ o', (id, o') ∉ e.wr)
    (made : ∀ k o, (k, o) ∈ e.new → ∃ L, ρ' (st.ep, i, k) = some L ∧ (∀ b, L.blk = some b →
      (w.heap.size ≤ b ∨ ∃ id o' L', (id, Obj.gone) ∈ e.wr ∧ st.objs id = some o' ∧ o' ≠ .gone ∧ ρ id = some L' ∧ L'.blk = some b ∧ (∀ o'', (id, o'') ∈ e.wr → o'' = .gone)) ∧ b < w'.heap.size) ∧
      ∀ S', (∀ b, N b → S' b) → (∀ b, S b → S' b) → (∀ id, id ∈ e.frz → ∀ o L b, st.objs id = some o → o ≠ .gone → ρ id = some L → L.blk = some b → S' b) → o ≠ .gone → RelObj w' S' ρ' L o)
    (apart : ∀ k o L k' o' L' b, (k, o) ∈ e.new → o ≠ .gone → ρ' (st.ep, i, k) = some L → L.blk = some b → (k', o') ∈ e.new → o' ≠ .gone → ρ' (st.ep, i, k') = some L' → L'.blk = some b → k = k')
    (changed : ∀ id o L, (id, o) ∈ e.wr → o ≠ .gone → ρ id = some L → ∀ S', (∀ b, N b → S' b) → (∀ b, S b → S' b) → (∀ id, id ∈ e.frz → ∀ o L b, st.objs id = some o → o ≠ .gone → ρ id = some L → L.blk = some b → S' b) → RelObj w' S' ρ' L o)
    (val : ∀ S', (∀ b, N b → S' b) → (∀ b, S b → S' b) → (∀ id, id ∈ e.frz → ∀ o L b, st.objs id = some o → o ≠ .gone → ρ id = some L → L.blk = some b → S' b) → (∀ d, t = some d → RelD w' S' ρ' v e.val)) :
    ∃ S', Rep C (fun j => X j ∨ j = i) ρ' S' (st.app i t e) (a.put t v).tmps w' := by
  -- the blocks that are frozen from now on
  let S' : Nat → Prop := fun b => (S b ∨ N b) ∨ ∃ id o L, id ∈ e.frz ∧ st.objs id = some o ∧ o ≠ .gone ∧ ρ id = some L ∧ L.blk = some b
  have hSS : ∀ b, S b → S' b := fun b hb => .inl (.inl hb)
  have hNS : ∀ b, N b → S' b := fun b hb => .inl (.inr hb)
  have hwrS : ∀ b, S b → ∀ id o L, (id, o) ∈ e.wr → ρ id = some L → L.blk ≠ some b := fun b hb id o L hm hL hbl => by
    obtain ⟨hf, o', ho', hg⟩ := wr id o hm
    exact ((h.own id o' L b ho' hg hL hbl).2.2.2 hf) hb
  have kp : Keep S w w' := fun b hb _ => keep b (h.sIn b hb) (hwrS b hb)
  have hnot : ∀ k, st.objs (st.ep, i, k) = none := fun k => by
    cases hc : st.objs (st.ep, i, k) with
    | none => rfl
    | some o =>
      have := h.young _ (h.known (st.ep, i, k) (by simp [hc]))
      simp [hi] at this
  -- an old object that is not written to lies as it lay
  have old : ∀ id o L, st.objs id = some o → o ≠ .gone → (∀ o', (id, o') ∉ e.wr) → ρ id = some L → ∀ b, L.blk = some b → w'.heap[b]? = w.heap[b]? := by
    intro id o L ho hg hnw hL b hb
    refine keep b (h.own id o L b ho hg hL hb).1 fun id' o' L' hm hL' hb' => ?_
    obtain ⟨_, o'', ho'', hg''⟩ := wr id' o' hm
    have := h.inj id o L id' o'' L' b ho hg hL hb ho'' hg'' hL' hb'
    subst this
    exact hnw o' hm
  have rold : ∀ id L, ρ id ≠ none → ρ' id = some L → ρ id = some L := fun id L hn hL => by
    cases hc : ρ id with
    | none => exact absurd hc hn
    | some L0 => have := hρ id L0 hc; rw [hL] at this; rw [this]
  have fresh : ∀ k, ρ (st.ep, i, k) = none := fun k => by
    cases hc : ρ (st.ep, i, k) with
    | none => rfl
    | some L => have := h.young (st.ep, i, k) (by simp [hc]); simp [hi] at this
  -- a block that two present objects of the old state share
  have one : ∀ id o L id' o' L' b, st.objs id = some o → o ≠ .gone → ρ id = some L → L.blk = some b → st.objs id' = some o' → o' ≠ .gone → ρ id' = some L' → L'.blk = some b → id = id' := h.inj
  refine ⟨S', ⟨?_, by have := h.grow; omega, ?_, fun b hb => .inl (.inl (h.s0 b hb)), ?_, ?_, ?_, ?_, ?_, ?_, ?_, ?_, fun g cs hm => (h.glob g cs hm).mono kp hSS, ?_, by rw [app_ep]; exact h.ep1, h.quiet.trans hq, ?_⟩⟩
  · rw [← h.nt]; cases t <;> simp [Act.put]
  · intro b hb hl
    rw [← h.frame b hb hl]
    refine keep b (by have := h.grow; omega) fun id o L hm hL hbl => ?_
    obtain ⟨_, o', ho', hg⟩ := wr id o hm
    rcases (h.own id o' L b ho' hg hL hbl).2.1 with h1 | h1
    · omega
    · exact hl h1
  · intro b hb
    rcases hb with (hb | hb) | ⟨id, o, L, hm, ho, hg, hL, hbl⟩
    · have := h.sIn b hb; omega
    · exact (hN b hb).1
    · have := (h.own id o L b ho hg hL hbl).1; omega
  · intro k
    rw [app_slots, getD_put a t v k (fun d hd => by rw [h.nt]; exact ht d hd)]
    by_cases hk : t = some k
    · simp only [hk, if_true]
      exact val S' hNS hSS (fun id hm o L b ho hg hL hbl => .inr ⟨id, o, L, hm, ho, hg, hL, hbl⟩) k hk
    · simp only [hk, if_false]
      exact (h.slots k).mono kp hSS hρ
  · intro id o ho hg
    rcases app_objs st i t e id o ho with ⟨k, rfl, hm⟩ | hm | ⟨hnw, ho⟩
    · obtain ⟨L, hL, _, hr⟩ := made k o hm
      exact ⟨L, hL, hr S' hNS hSS (fun id hm o L b ho hg hL hbl => .inr ⟨id, o, L, hm, ho, hg, hL, hbl⟩) hg⟩
    · obtain ⟨_, o', ho', hg'⟩ := wr id o hm
      obtain ⟨L, hL, _⟩ := h.objs id o' ho' hg'
      exact ⟨L, hρ _ _ hL, changed id o L hm hg hL S' hNS hSS (fun id hm o L b ho hg hL hbl => .inr ⟨id, o, L, hm, ho, hg, hL, hbl⟩)⟩
    · obtain ⟨L, hL, hr⟩ := h.objs id o ho hg
      exact ⟨L, hρ _ _ hL, hr.mono kp hSS hρ (old id o L ho hg hnw hL)⟩
  · intro id o L b ho hg hL hbl
    rw [app_fz]
    rcases app_objs st i t e id o ho with ⟨k, rfl, hm⟩ | hm | ⟨hnw, ho⟩
    · obtain ⟨L', hL', hb, _⟩ := made k o hm
      rw [hL] at hL'; obtain rfl := Option.some.inj hL'
      obtain ⟨hbn, hblt⟩ := hb b hbl
      have hnf : st.fz (st.ep, i, k) = false := by
        cases hc : st.fz (st.ep, i, k) with
        | false => rfl
        | true => exact absurd (fresh k) (h.fzk _ hc)
      have hnc : (st.ep, i, k) ∉ e.frz := fun hm' => (frz _ hm').1 (fresh k)
      have hnS' : ¬ S' b := by
        rintro ((hS | hS) | ⟨id1, o1, L1, hm1, ho1, hg1, hL1, hb1⟩)
        · rcases hbn with hbn | ⟨id', o', L', hm', ho', hg', hL', hb', _⟩
          · have := h.sIn b hS; omega
          · exact (h.own id' o' L' b ho' hg' hL' hb').2.2.2 (wr _ _ hm').1 hS
        · exact hNm k o L b hm hL hbl hS
        · rcases hbn with hbn | ⟨id', o', L', hm', ho', hg', hL', hb', _⟩
          · have := (h.own id1 o1 L1 b ho1 hg1 hL1 hb1).1; omega
          · have := one _ _ _ _ _ _ _ ho1 hg1 hL1 hb1 ho' hg' hL' hb'
            subst this
            exact (frz _ hm1).2 _ hm'
      refine ⟨hblt, ?_, fun hf => ?_, fun _ => hnS'⟩
      · rcases hbn with hbn | ⟨id', o', L', hm', ho', hg', hL', hb', _⟩
        · have := h.grow; exact .inl (by omega)
        · exact (h.own id' o' L' b ho' hg' hL' hb').2.1
      · simp [hnf, hnc] at hf
    · obtain ⟨hf0, o', ho', hg'⟩ := wr id o hm
      have hL0 := rold id L (h.known id (by simp [ho'])) hL
      obtain ⟨h1, h2, h3, h4⟩ := h.own id o' L b ho' hg' hL0 hbl
      have hnc : id ∉ e.frz := fun hm' => (frz _ hm').2 _ hm
      refine ⟨by omega, h2, fun hf => by simp [hf0, hnc] at hf, fun _ => ?_⟩
      rintro ((hS | hS) | ⟨id1, o1, L1, hm1, ho1, hg1, hL1, hb1⟩)
      · exact h4 hf0 hS
      · rcases (hN b hS).2 with hbn | ⟨idg, og, Lg, q1, q2, q3, q4, q5, q6⟩
        · omega
        · have := one _ _ _ _ _ _ _ q2 q3 q4 q5 ho' hg' hL0 hbl
          subst this
          exact hg (q6 _ hm)
      · have := one _ _ _ _ _ _ _ ho1 hg1 hL1 hb1 ho' hg' hL0 hbl
        subst this; exact hnc hm1
    · have hL0 := rold id L (h.known id (by simp [ho])) hL
      obtain ⟨h1, h2, h3, h4⟩ := h.own id o L b ho hg hL0 hbl
      refine ⟨by omega, h2, fun hf => ?_, fun hf => ?_⟩
      · simp only [Bool.or_eq_true, List.contains_iff_mem] at hf
        rcases hf with hf | hf
        · exact .inr ⟨id, o, L, hf, ho, hg, hL0, hbl⟩
        · exact .inl (.inl (h3 hf))
      · simp only [Bool.or_eq_false_iff] at hf
        rintro ((hS | hS) | ⟨id1, o1, L1, hm1, ho1, hg1, hL1, hb1⟩)
        · exact h4 hf.2 hS
        · rcases (hN b hS).2 with hbn | ⟨idg, og, Lg, q1, q2, q3, q4, q5, q6⟩
          · omega
          · have := one _ _ _ _ _ _ _ q2 q3 q4 q5 ho hg hL0 hbl
            subst this
            exact hnw _ q1
        · have := one _ _ _ _ _ _ _ ho1 hg1 hL1 hb1 ho hg hL0 hbl
          subst this
          have := hf.1
          simp [hm1] at this
  · -- no block has two objects
    have newOld : ∀ k o L id' o' L' b, (k, o) ∈ e.new → o ≠ .gone → ρ' (st.ep, i, k) = some L → L.blk = some b → (st.app i t e).objs id' = some o' → o' ≠ .gone →
        ((id', o') ∈ e.wr ∨ ((∀ o'', (id', o'') ∉ e.wr) ∧ st.objs id' = some o')) → ρ' id' = some L' → L'.blk = some b → False := by
      intro k o L id' o' L' b hm hg hL hbl _ hg' hcase hL' hbl'
      obtain ⟨L0, hL0, hb, _⟩ := made k o hm
      rw [hL] at hL0; obtain rfl := Option.some.inj hL0
      have hpres : ∃ o1, st.objs id' = some o1 ∧ o1 ≠ .gone := by
        rcases hcase with hc | hc
        · exact (wr _ _ hc).2
        · exact ⟨o', hc.2, hg'⟩
      obtain ⟨o1, ho1, hg1⟩ := hpres
      have hL1 := rold id' L' (h.known id' (by simp [ho1])) hL'
      rcases (hb b hbl).1 with hbn | ⟨id2, o2, L2, hm2, ho2, hg2, hL2, hb2, hall⟩
      · have := (h.own id' o1 L' b ho1 hg1 hL1 hbl').1; omega
      · have := one _ _ _ _ _ _ _ ho1 hg1 hL1 hbl' ho2 hg2 hL2 hb2
        subst this
        rcases hcase with hc | hc
        · exact hg' (hall _ hc)
        · exact hc.1 _ hm2
    intro id o L id' o' L' b ho hg hL hbl ho' hg' hL' hbl'
    rcases app_objs st i t e id o ho with ⟨k, rfl, hm⟩ | hc
    · rcases app_objs st i t e id' o' ho' with ⟨k', rfl, hm'⟩ | hc'
      · rw [apart k o L k' o' L' b hm hg hL hbl hm' hg' hL' hbl']
      · exact (newOld k o L id' o' L' b hm hg hL hbl ho' hg' hc' hL' hbl').elim
    · rcases app_objs st i t e id' o' ho' with ⟨k', rfl, hm'⟩ | hc'
      · exact (newOld k' o' L' id o L b hm' hg' hL' hbl' ho hg hc hL hbl).elim
      · have pres : ∀ id o, o ≠ .gone → ((id, o) ∈ e.wr ∨ ((∀ o'', (id, o'') ∉ e.wr) ∧ st.objs id = some o)) → ∃ o1, st.objs id = some o1 ∧ o1 ≠ .gone := by
          intro id o hg hc
          rcases hc with hc | hc
          · exact (wr _ _ hc).2
          · exact ⟨o, hc.2, hg⟩
        obtain ⟨o1, ho1, hg1⟩ := pres id o hg hc
        obtain ⟨o2, ho2, hg2⟩ := pres id' o' hg' hc'
        exact one _ _ _ _ _ _ _ ho1 hg1 (rold id L (h.known id (by simp [ho1])) hL) hbl ho2 hg2 (rold id' L' (h.known id' (by simp [ho2])) hL') hbl'
  · intro id hn
    cases ho : (st.app i t e).objs id with
    | none => exact absurd ho hn
    | some o =>
      rcases app_objs st i t e id o ho with ⟨k, rfl, hm⟩ | hm | ⟨_, ho⟩
      · obtain ⟨L, hL, _⟩ := made k o hm; simp [hL]
      · obtain ⟨_, o', ho', _⟩ := wr id o hm
        have := h.known id (by simp [ho'])
        cases hc : ρ id with
        | none => exact absurd hc this
        | some L => simp [hρ _ _ hc]
      · have := h.known id (by simp [ho])
        cases hc : ρ id with
        | none => exact absurd hc this
        | some L => simp [hρ _ _ hc]
  · intro id hn
    rw [app_ep]
    rcases hnew id hn with h1 | ⟨h1, h2⟩
    · rcases h.young id h1 with h2 | ⟨h2, h3⟩
      · exact .inl h2
      · exact .inr ⟨h2, .inl h3⟩
    · exact .inr ⟨h1, .inr h2⟩
  · intro id hf
    rw [app_fz] at hf
    simp only [Bool.or_eq_true, List.contains_iff_mem] at hf
    have : ρ id ≠ none := by
      rcases hf with hf | hf
      · exact (frz id hf).1
      · exact h.fzk id hf
    cases hc : ρ id with
    | none => exact absurd hc this
    | some L => simp [hρ _ _ hc]
  · intro b hb
    rcases hb with (hb | hb) | ⟨id, o, L, hm, ho, hg, hL, hbl⟩
    · exact h.sOut b hb
    · rcases (hN b hb).2 with hbn | ⟨idg, og, Lg, q1, q2, q3, q4, q5, q6⟩
      · have := h.grow; exact .inr (.inl (by omega))
      · exact .inr (h.own _ _ _ b q2 q3 q4 q5).2.1
    · exact .inr (h.own id o L b ho hg hL hbl).2.1
  · intro k L hk hn
    rcases hnew _ hn with h1 | ⟨h1, _⟩
    · exact hρ _ _ (h.lay k L hk h1)
    · have := h.ep1; simp only at h1; omega

end Eng

/- The engine, part Y: states told anew: other names, what is not looked at any more left out, what nothing can change any more as pure data. -/
namespace Eng
open Go

/-- The new name of an old one; pi: new, old. -/
def ren (pi : List (Id × Id)) (old : Id) : Option Id :=
  match pi with
  | [] => none
  | (n, o) :: r => if o = old then some n else ren r old

/-- Read as pure data, if nothing can change it any more. -/
def D.pur (lk : Id → Option Obj) (fz : Id → Bool) (d : D) : Option D :=
  if (d.ids lk depth).all fz then match d.toP lk depth with | some x => some (.p x) | none => none else none

def D.can (lk : Id → Option Obj) (fz : Id → Bool) (pi : List (Id × Id)) : Nat → D → Option D
  | _, .p x => some (.p x)
  | _, .dead => some .dead
  | _, .undef => some .undef
  | _, .anyb => some .anyb
  | _, .nils sz => some (.nils sz)
  | _, .clip sz es => some (.clip sz es)
  | _, .sl id off len => match ren pi id with
    | some id' => some (.sl id' off len)
    | none => D.pur lk fz (.sl id off len)
  | _, .map id => match ren pi id with
    | some id' => some (.map id')
    | none => D.pur lk fz (.map id)
  | _, .it id => match ren pi id with
    | some id' => some (.it id')
    | none => none
  | _, .ptr id i j => match ren pi id with
    | some id' => some (.ptr id' i j)
    | none => D.pur lk fz (.ptr id i j)
  | n + 1, .agg cs => match allM (D.can lk fz pi n) cs with
    | some ds => some (.mkAgg ds)
    | none => none
  | n + 1, .tup cs => match allM (D.can lk fz pi n) cs with
    | some ds => some (.tup ds)
    | none => none
  | n + 1, .fn f a b => match allM (D.can lk fz pi n) a, allM (D.can lk fz pi n) b with
    | some a', some b' => some (match allM D.pure? a', allM D.pure? b' with
      | some x, some y => .p (.fn f x y)
      | _, _ => .fn f a' b')
    | _, _ => none
  | _, _ => none

def Obj.can (lk : Id → Option Obj) (fz : Id → Bool) (pi : List (Id × Id)) : Obj → Option Obj
  | .box cs => match allM (D.can lk fz pi depth) cs with
    | some ds => some (.box ds)
    | none => none
  | .arr sz es fix => some (.arr sz es fix)
  | .map td kv => some (.map td kv)
  | .sit s pos => some (.sit s pos)
  | .mit rest cur => some (.mit rest cur)
  | .gone => none

/-- The layout of the new names. -/
def rhoOf (pi : List (Id × Id)) (ρ : Id → Option Lay) : Id → Option Lay := fun id => match assocO pi id with
  | some old => ρ old
  | none => none

def nodupB {α : Type} [DecidableEq α] : List α → Bool
  | [] => true
  | a :: r => r.all (fun b => decide (b ≠ a)) && nodupB r

def piOk (st : St) (pi : List (Id × Id)) (ep : Nat) : Bool :=
  nodupB (pi.map (·.1)) && nodupB (pi.map (·.2)) && pi.all fun x => decide (x.1.1 < ep) && !st.fz x.2

theorem assocO_mem {α β : Type} [DecidableEq α] : ∀ {l : List (α × β)} {a : α} {b : β}, assocO l a = some b → (a, b) ∈ l
  | [], a, b, h => by simp [assocO] at h
  | (x, y) :: r, a, b, h => by
    simp only [assocO] at h
    split at h
    · rename_i he; simp only [Option.some.injEq] at h; subst he h; exact List.mem_cons_self
    · exact List.mem_cons_of_mem _ (assocO_mem h)

theorem assocO_of_mem {α β : Type} [DecidableEq α] : ∀ {l : List (α × β)} {a : α} {b : β}, nodupB (l.map (·.1)) = true → (a, b) ∈ l → assocO l a = some b
  | [], a, b, _, h => by simp at h
  | (x, y) :: r, a, b, hn, h => by
    simp only [List.map_cons, nodupB, Bool.and_eq_true] at hn
    simp only [assocO]
    rcases List.mem_cons.1 h with h | h
    · simp only [Prod.mk.injEq] at h; obtain ⟨rfl, rfl⟩ := h; simp
    · have hne : a ≠ x := by
        have := List.all_eq_true.1 hn.1 a (List.mem_map.2 ⟨(a, b), h, rfl⟩)
        simpa using this
      rw [if_neg hne]
      exact assocO_of_mem hn.2 h

theorem ren_mem {pi : List (Id × Id)} {old new : Id} (h : ren pi old = some new) : (new, old) ∈ pi := by
  induction pi with
  | nil => simp [ren] at h
  | cons x r ih =>
    obtain ⟨n, o⟩ := x
    simp only [ren] at h
    split at h
    · rename_i he; simp only [Option.some.injEq] at h; subst he h; exact List.mem_cons_self
    · exact List.mem_cons_of_mem _ (ih h)

theorem nodup_snd {pi : List (Id × Id)} (h : nodupB (pi.map (·.2)) = true) {a b o : Id} (h1 : (a, o) ∈ pi) (h2 : (b, o) ∈ pi) : a = b := by
  induction pi with
  | nil => simp at h1
  | cons x r ih =>
    obtain ⟨n, o'⟩ := x
    simp only [List.map_cons, nodupB, Bool.and_eq_true] at h
    have hne : ∀ c, (c, o) ∈ r → o ≠ o' := fun c hc => by
      have := List.all_eq_true.1 h.1 o (List.mem_map.2 ⟨(c, o), hc, rfl⟩)
      simpa using this
    rcases List.mem_cons.1 h1 with h1 | h1 <;> rcases List.mem_cons.1 h2 with h2 | h2
    · simp only [Prod.mk.injEq] at h1 h2; rw [h1.1, h2.1]
    · simp only [Prod.mk.injEq] at h1; exact absurd h1.2 (hne _ h2)
    · simp only [Prod.mk.injEq] at h2; exact absurd h2.2 (hne _ h1)
    · exact ih h.2 h1 h2

section
variable {C : Ctx} {X : Nat → Prop} {ρ : Id → Option Lay} {S : Nat → Prop} {st : St} {tm : Array Value} {w : World}

theorem pur_rel (h : Rep C X ρ S st tm w) {v : Value} {d d' : D} (hr : RelD w S ρ v d) (hp : D.pur st.objs st.fz d = some d') {ρ' : Id → Option Lay} : RelD w S ρ' v d' := by
  unfold D.pur at hp
  split at hp
  · rename_i hall
    split at hp
    · rename_i x hx
      simp only [Option.some.injEq] at hp
      subst hp
      refine .p _ _ (toP_rel (S' := S) h.objs (fun _ h => h) depth _ _ _ hr hx fun id hid L b hL hb => ?_)
      obtain ⟨o, q1, q2⟩ := toP_ids depth _ _ hx id hid
      exact (h.own id o L b q1 q2 hL hb).2.2.1 (List.all_eq_true.1 hall id hid)
    · simp at hp
  · simp at hp

theorem can_rel (h : Rep C X ρ S st tm w) {pi : List (Id × Id)} (hn : nodupB (pi.map (·.1)) = true) : ∀ (n : Nat) (v : Value) (d d' : D), RelD w S ρ v d → d.can st.objs st.fz pi n = some d' → RelD w S (rhoOf pi ρ) v d' := by
  have hρ : ∀ {old new : Id} {L : Lay}, ren pi old = some new → ρ old = some L → rhoOf pi ρ new = some L := by
    intro old new L hr hL
    simp only [rhoOf, assocO_of_mem hn (ren_mem hr)]
    exact hL
  have base : ∀ (n : Nat) (v : Value) (d d' : D), (∀ cs, d ≠ .agg cs) → (∀ cs, d ≠ .tup cs) → (∀ f a b, d ≠ .fn f a b) → RelD w S ρ v d → d.can st.objs st.fz pi n = some d' → RelD w S (rhoOf pi ρ) v d' := by
    intro n v d d' h1 h2 h3 hr hc
    cases hr with
    | p v x hp => cases n <;> simp [D.can] at hc <;> subst hc <;> exact .p _ _ hp
    | dead v => cases n <;> simp [D.can] at hc <;> subst hc <;> exact .dead _
    | undef => cases n <;> simp [D.can] at hc <;> subst hc <;> exact .undef
    | anyb b => cases n <;> simp [D.can] at hc <;> subst hc <;> exact .anyb _
    | nils sz => cases n <;> simp [D.can] at hc <;> subst hc <;> exact .nils _
    | clip a m sz es hp => cases n <;> simp [D.can] at hc <;> subst hc <;> exact .clip _ _ _ _ hp
    | agg vs cs => exact absurd rfl (h1 cs)
    | tup vs cs => exact absurd rfl (h2 cs)
    | fn f fs cs a b => exact absurd rfl (h3 f a b)
    | sl id off len cap a L hL hl hm hcp ha =>
      have hc : (match ren pi id with | some id' => some (D.sl id' off len) | none => D.pur st.objs st.fz (.sl id off len)) = some d' := by cases n <;> exact hc
      split at hc
      · rename_i id' hid
        simp only [Option.some.injEq] at hc; subst hc
        exact .sl id' off len cap a L (hρ hid hL) hl hm hcp ha
      · exact pur_rel h (.sl id off len cap a L hL hl hm hcp ha) hc
    | ptr id i j L b hL hi hb =>
      have hc : (match ren pi id with | some id' => some (D.ptr id' i j) | none => D.pur st.objs st.fz (.ptr id i j)) = some d' := by cases n <;> exact hc
      split at hc
      · rename_i id' hid
        simp only [Option.some.injEq] at hc; subst hc
        exact .ptr id' i j L b (hρ hid hL) hi hb
      · exact pur_rel h (.ptr id i j L b hL hi hb) hc
    | map id L b hL hb =>
      have hc : (match ren pi id with | some id' => some (D.map id') | none => D.pur st.objs st.fz (.map id)) = some d' := by cases n <;> exact hc
      split at hc
      · rename_i id' hid
        simp only [Option.some.injEq] at hc; subst hc
        exact .map id' L b (hρ hid hL) hb
      · exact pur_rel h (.map id L b hL hb) hc
    | it id L b hL hb =>
      have hc : (match ren pi id with | some id' => some (D.it id') | none => none) = some d' := by cases n <;> exact hc
      split at hc
      · rename_i id' hid
        simp only [Option.some.injEq] at hc; subst hc
        exact .it id' L b (hρ hid hL) hb
      · simp at hc
  intro n
  induction n with
  | zero =>
    intro v d d' hr hc
    refine base 0 v d d' ?_ ?_ ?_ hr hc
    all_goals (intros; intro he; subst he; simp [D.can] at hc)
  | succ n ih =>
    intro v d d' hr hc
    cases hr with
    | agg vs cs hl h1 hh =>
      simp only [D.can] at hc
      split at hc
      · rename_i ds hds
        simp only [Option.some.injEq] at hc; subst hc
        obtain ⟨q1, q2⟩ := allM_some hds
        refine mkAgg_rel (by omega) fun j u d hu hd => ⟨?_, h1 j u hu⟩
        have hj : j < cs.length := by have := (Array.getElem?_eq_some_iff.1 hu).1; omega
        exact ih _ _ _ (hh j u cs[j] hu (by simp [hj])) (q2 j cs[j] d (by simp [hj]) hd)
      · simp at hc
    | tup vs cs hl hh =>
      simp only [D.can] at hc
      split at hc
      · rename_i ds hds
        simp only [Option.some.injEq] at hc; subst hc
        obtain ⟨q1, q2⟩ := allM_some hds
        refine .tup _ _ (by omega) fun j u d hu hd => ?_
        have hj : j < cs.length := by have := (Array.getElem?_eq_some_iff.1 hu).1; omega
        exact ih _ _ _ (hh j u cs[j] hu (by simp [hj])) (q2 j cs[j] d (by simp [hj]) hd)
      · simp at hc
    | fn f fs cs a b hf hcl hh hh' =>
      simp only [D.can] at hc
      split at hc
      · rename_i a' b' ha hb
        simp only [Option.some.injEq] at hc; subst hc
        obtain ⟨q1, q2⟩ := allM_some ha
        obtain ⟨q3, q4⟩ := allM_some hb
        have e1 : ∀ (j : Nat) u d, fs[j]? = some u → a'[j]? = some d → RelD w S (rhoOf pi ρ) u d := fun j u d hu hd => by
          have hj : j < a.length := by have := (Array.getElem?_eq_some_iff.1 hu).1; omega
          exact ih _ _ _ (hh j u a[j] hu (by simp [hj])) (q2 j a[j] d (by simp [hj]) hd)
        have e2 : ∀ (j : Nat) u d, cs[j]? = some u → b'[j]? = some d → RelD w S (rhoOf pi ρ) u d := fun j u d hu hd => by
          have hj : j < b.length := by have := (Array.getElem?_eq_some_iff.1 hu).1; omega
          exact ih _ _ _ (hh' j u b[j] hu (by simp [hj])) (q4 j b[j] d (by simp [hj]) hd)
        split
        · rename_i x y hx hy
          have hx' := allM_pure hx
          have hy' := allM_pure hy
          subst hx' hy'
          simp only [List.length_map] at q1 q3
          refine .p _ _ (.fn f fs cs x y (by omega) (by omega) (fun j u c hu hc => ?_) (fun j u c hu hc => ?_))
          · exact (e1 j u (.p c) hu (by simp [hc])).of_p
          · exact (e2 j u (.p c) hu (by simp [hc])).of_p
        · exact .fn f fs cs a' b' (by omega) (by omega) e1 e2
      · simp at hc
    | _ => exact base (n + 1) _ _ d' (by simp) (by simp) (by simp) (by constructor <;> assumption) hc

theorem objCan_rel (h : Rep C X ρ S st tm w) {pi : List (Id × Id)} (hn : nodupB (pi.map (·.1)) = true) {L : Lay} {o o' : Obj} (hr : RelObj w S ρ L o) (hc : o.can st.objs st.fz pi = some o') : RelObj w S (rhoOf pi ρ) L o' := by
  cases o with
  | box cs =>
    simp only [Obj.can] at hc
    split at hc
    · rename_i ds hds
      simp only [Option.some.injEq] at hc; subst hc
      obtain ⟨q1, q2⟩ := allM_some hds
      obtain ⟨b, r1, r2, r3, r4⟩ := hr
      refine ⟨b, r1, by omega, r3, fun j d hd => ?_⟩
      have hj : j < cs.length := by have := (List.getElem?_eq_some_iff.1 hd).1; omega
      obtain ⟨v, s1, s2, s3, s4⟩ := r4 j cs[j] (by simp [hj])
      exact ⟨v, s1, s2, s3, can_rel h hn _ _ _ _ s4 (q2 j cs[j] d (by simp [hj]) hd)⟩
    · simp at hc
  | arr sz es fix => simp only [Obj.can, Option.some.injEq] at hc; subst hc; exact hr
  | map td kv => simp only [Obj.can, Option.some.injEq] at hc; subst hc; exact hr
  | sit s pos => simp only [Obj.can, Option.some.injEq] at hc; subst hc; exact hr
  | mit rest cur => simp only [Obj.can, Option.some.injEq] at hc; subst hc; exact hr
  | gone => simp [Obj.can] at hc

theorem Obj.can_gone {lk : Id → Option Obj} {fz : Id → Bool} {pi : List (Id × Id)} {o o' : Obj} (hc : o.can lk fz pi = some o') : o ≠ .gone ∧ o' ≠ .gone := by
  cases o <;> simp [Obj.can] at hc <;> refine ⟨by simp, ?_⟩
  · split at hc <;> simp at hc; subst hc; simp
  all_goals (subst hc; simp)

/-- The objects told anew. -/
def canObjs (st : St) (pi : List (Id × Id)) : Option (List Obj) := allM (fun x => match st.objs x.2 with | some o => o.can st.objs st.fz pi | none => none) pi

def objsOf (pi : List (Id × Id)) (os : List Obj) : Id → Option Obj := assocO ((pi.map (·.1)).zip os)

theorem objsOf_get : ∀ {pi : List (Id × Id)} {os : List Obj} {id : Id} {o : Obj}, objsOf pi os id = some o → ∃ (j : Nat) (old : Id), pi[j]? = some (id, old) ∧ os[j]? = some o
  | [], os, id, o, h => by simp [objsOf, assocO] at h
  | x :: r, [], id, o, h => by simp [objsOf, assocO] at h
  | (n, old) :: r, u :: os, id, o, h => by
    simp only [objsOf, List.map_cons, List.zip_cons_cons, assocO] at h
    split at h
    · rename_i he; simp only [Option.some.injEq] at h; subst he h; exact ⟨0, old, rfl, rfl⟩
    · obtain ⟨j, old', q1, q2⟩ := objsOf_get (pi := r) (os := os) h
      exact ⟨j + 1, old', by simpa using q1, by simpa using q2⟩

/-- A fit, told anew. -/
theorem Rep.select (h : Rep C X ρ S st tm w) {pi : List (Id × Id)} {ep : Nat} {st' : St} {tm' : Array Value} {C' : Ctx}
    (hpi : piOk st pi ep = true) (hobj : ∀ new o', st'.objs new = some o' → ∃ old o, (new, old) ∈ pi ∧ st.objs old = some o ∧ o ≠ .gone ∧ ∀ L, ρ old = some L → RelObj w S ρ L o → RelObj w S (rhoOf pi ρ) L o')
    (hE : C'.E.globs = C.E.globs) (hnt : tm'.size = C'.E.nt)
    (hqt : Quiet C'.W w) (hgrow : C'.H.size ≤ w.heap.size) (hframe : ∀ b, b < C'.H.size → ¬ C'.Lt b → w.heap[b]? = C'.H[b]?) (hs0 : ∀ b, C'.S0 b → S b)
    (hlt : ∀ new old o L b, (new, old) ∈ pi → st.objs old = some o → o ≠ .gone → ρ old = some L → L.blk = some b → C'.H.size ≤ b ∨ C'.Lt b)
    (hfz : ∀ id, st'.fz id = false) (hep : st'.ep = ep) (hep1 : 1 ≤ ep) (hslots : ∀ k, RelD w S (rhoOf pi ρ) (tm'.getD k undef) (st'.slots k))
    (hsO : ∀ b, S b → C'.S0 b ∨ C'.H.size ≤ b ∨ C'.Lt b) (hlay : ∀ k L, C'.lays k = some L → rhoOf pi ρ (0, k, 0) ≠ none → rhoOf pi ρ (0, k, 0) = some L) :
    Rep C' (fun _ => False) (rhoOf pi ρ) S st' tm' w := by
  simp only [piOk, Bool.and_eq_true, List.all_eq_true, decide_eq_true_eq, Bool.not_eq_true'] at hpi
  obtain ⟨⟨hn1, hn2⟩, hall⟩ := hpi
  have hrho : ∀ {new old : Id}, (new, old) ∈ pi → rhoOf pi ρ new = ρ old := fun hm => by simp only [rhoOf, assocO_of_mem hn1 hm]
  refine ⟨hnt, hgrow, hframe, hs0, h.sIn, hslots, ?_, ?_, ?_, ?_, ?_, ?_, ?_, hsO, hep ▸ hep1, hqt, hlay⟩
  · intro id o' ho hg
    obtain ⟨old, o, q1, q2, q3, q4⟩ := hobj id o' ho
    obtain ⟨L, hL, hr⟩ := h.objs old o q2 q3
    exact ⟨L, by rw [hrho q1]; exact hL, q4 L hL hr⟩
  · intro id o' L b ho hg hL hb
    obtain ⟨old, o, q1, q2, q3, q4⟩ := hobj id o' ho
    rw [hrho q1] at hL
    obtain ⟨r1, r2, r3, r4⟩ := h.own old o L b q2 q3 hL hb
    have hf := (hall _ q1).2
    refine ⟨r1, hlt id old o L b q1 q2 q3 hL hb, fun hq => ?_, fun _ => r4 hf⟩
    rw [hfz id] at hq; simp at hq
  · intro id o1 L id' o2 L' b ho hg hL hb ho' hg' hL' hb'
    obtain ⟨old, o, q1, q2, q3, q4⟩ := hobj id o1 ho
    obtain ⟨old', o', r1, r2, r3, r4⟩ := hobj id' o2 ho'
    rw [hrho q1] at hL
    rw [hrho r1] at hL'
    have := h.inj old o L old' o' L' b q2 q3 hL hb r2 r3 hL' hb'
    subst this
    exact nodup_snd hn2 q1 r1
  · intro id hne
    cases ho : st'.objs id with
    | none => exact absurd ho hne
    | some o' =>
      obtain ⟨old, o, q1, q2, q3, q4⟩ := hobj id o' ho
      rw [hrho q1]
      exact h.known old (by simp [q2])
  · intro id hne
    left
    rw [hep]
    unfold rhoOf at hne
    cases hq : assocO pi id with
    | none => rw [hq] at hne; simp at hne
    | some old => exact (hall _ (assocO_mem hq)).1
  · intro id hf; rw [hfz id] at hf; simp at hf
  · intro g cs hm; exact h.glob g cs (hE ▸ hm)

/-- A state that is told outright. -/
def mkS (ep : Nat) (ls : List (Nat × D)) (lo : List (Id × Obj)) : St := { slots := assoc .dead ls, objs := assocO lo, fz := fun _ => false, ep := ep }

theorem assoc_mem {α β : Type} [DecidableEq α] (d : β) : ∀ (l : List (α × β)) (a : α), assoc d l a = d ∨ (a, assoc d l a) ∈ l
  | [], a => .inl rfl
  | (x, y) :: r, a => by
    simp only [assoc]
    split
    · rename_i he; subst he; exact .inr List.mem_cons_self
    · exact (assoc_mem d r a).imp (fun h => h) fun h => List.mem_cons_of_mem _ h

/-- The names of what was lent stay. -/
def piKeep (pi : List (Id × Id)) : Bool := pi.all fun x => decide (x.1.2.2 ≠ 0) || decide (x.1 = x.2)

theorem Rep.canon (h : Rep C X ρ S st tm w) {pi : List (Id × Id)} {ep : Nat} {ls : List Nat} {ds : List D} {os : List Obj} (hep : 1 ≤ ep) (hpi : piOk st pi ep = true) (hkeep : piKeep pi = true) (hos : canObjs st pi = some os)
    (hds : allM (fun t => (st.slots t).can st.objs st.fz pi depth) ls = some ds) : Rep C (fun _ => False) (rhoOf pi ρ) S (mkS ep (ls.zip ds) ((pi.map (·.1)).zip os)) tm w := by
  have hn1 : nodupB (pi.map (·.1)) = true := by
    simp only [piOk, Bool.and_eq_true] at hpi; exact hpi.1.1
  obtain ⟨hol, hoi⟩ := allM_some hos
  obtain ⟨hdl, hdi⟩ := allM_some hds
  refine h.select hpi ?_ rfl h.nt h.quiet h.grow h.frame h.s0 (fun new old o L b _ q2 q3 q4 q5 => (h.own old o L b q2 q3 q4 q5).2.1) (fun _ => rfl) rfl hep ?_ h.sOut ?_
  · intro new o' ho
    obtain ⟨j, old, q1, q2⟩ := objsOf_get ho
    have := hoi j _ _ q1 q2
    have hm := List.mem_of_getElem? q1
    dsimp only at this
    split at this
    · rename_i o hoo
      exact ⟨old, o, hm, hoo, (Obj.can_gone this).1, fun L _ hr => objCan_rel h hn1 hr this⟩
    · simp at this
  · intro k
    rcases assoc_mem D.dead (ls.zip ds) k with hk | hk
    · show RelD _ _ _ _ (assoc D.dead (ls.zip ds) k)
      rw [hk]; exact .dead _
    · obtain ⟨j, hj⟩ := List.mem_iff_getElem?.1 hk
      rw [List.getElem?_zip_eq_some] at hj
      have := hdi j _ _ hj.1 hj.2
      exact can_rel h hn1 _ _ _ _ (h.slots k) this
  · intro k L hk hn
    unfold rhoOf at hn ⊢
    cases hq : assocO pi (0, k, 0) with
    | none => rw [hq] at hn; simp at hn
    | some old =>
      rw [hq] at hn
      have hm := assocO_mem hq
      have := List.all_eq_true.1 hkeep _ hm
      simp only [ne_eq, not_true_eq_false, decide_false, Bool.false_or, decide_eq_true_eq] at this
      subst this
      exact h.lay k L hk hn

end

/-- To run, and to tell the state anew. -/
def runCan (E : Env) (n : Nat) (k : List Item) (st : St) (ls : List Nat) (pi : List (Id × Id)) (ep : Nat) : Option (List Item × List D × List Obj × List Bool) :=
  match run E n k st [] with
  | some (k', st', ps) => if piOk st' pi ep && piKeep pi then match allM (fun t => (st'.slots t).can st'.objs st'.fz pi depth) ls, canObjs st' pi with
    | some ds, some os => some (k', ds, os, ps)
    | _, _ => none
    else none
  | none => none

def andL : List Bool → Prop
  | [] => True
  | [a] => a = true
  | a :: r => a = true ∧ andL r

theorem andL_all : ∀ {l : List Bool}, andL l → ∀ p ∈ l, p = true
  | [], _, p, hp => by simp at hp
  | [a], h, p, hp => by simp at hp; subst hp; exact h
  | a :: b :: r, h, p, hp => by
    rcases List.mem_cons.1 hp with rfl | hp
    · exact h.1
    · exact andL_all h.2 p hp

theorem zip_fst_snd {α β : Type} (l : List (α × β)) : (l.map (·.1)).zip (l.map (·.2)) = l := by
  induction l with
  | nil => rfl
  | cons x r ih => simp only [List.map_cons, List.zip_cons_cons, ih]

theorem zip_lo : ∀ lo : List (Id × Id × Obj), (List.map (fun x => x.fst) (List.map (fun x => (x.fst, x.snd.fst)) lo)).zip (List.map (fun x => x.snd.snd) lo) = lo.map fun x => (x.1, x.2.2)
  | [] => rfl
  | x :: r => by simp only [List.map_cons, List.zip_cons_cons, zip_lo r]

section
variable {C : Ctx} {r : Fm} {G : Goal}

/-- The walk by reckoning, the state told anew at its end. lo: new name, old name, what the object holds. -/
theorem awp_to (n : Nat) (ls : List (Nat × D)) (lo : List (Id × Id × Obj)) (k' : List Item) (ps : List Bool) {k : List Item} {st : St} (hE : EnvOk C.E)
    (hr : runCan C.E n k st (ls.map (·.1)) (lo.map fun x => (x.1, x.2.1)) 1 = some (k', ls.map (·.2), lo.map (fun x => x.2.2), ps)) (hp : andL ps)
    (h1 : AWP C r G k' (mkS 1 ls (lo.map fun x => (x.1, x.2.2)))) : AWP C r G k st := by
  unfold runCan at hr
  split at hr
  · rename_i k2 st2 ps2 hrun
    split at hr
    · rename_i hpi
      simp only [Bool.and_eq_true] at hpi
      split at hr
      · rename_i ds os hds hos
        simp only [Option.some.injEq, Prod.mk.injEq] at hr
        obtain ⟨rfl, rfl, rfl, rfl⟩ := hr
        refine awp_run hE n k st [] hrun (andL_all hp) ?_
        intro ρ S a w hrep hd
        have h2 := hrep.canon (Nat.le_refl 1) hpi.1 hpi.2 hos hds
        rw [zip_fst_snd] at h2
        have e := zip_lo lo
        rw [e] at h2
        exact h1 _ S a w (h2.weakX fun _ h => h.elim) hd
      · simp at hr
    · simp at hr
  · simp at hr

/-- One operation, its effect told in other words. -/
theorem awp_opEq (e e' : Eff) {ops : Array Oper} {i : Nat} {o : Oper} {k : List Item} {st : St} (hE : EnvOk C.E) (ho : ops[i]? = some o) (hg : guardOf ops st o.guard = some true)
    (hc : core C.E st.ep i o.op o.type st.slots st.objs = some e) (he : e = e') (hok : opOk C.E o = true) (hw : wrOk st e' = true) (hcond : andL e'.cond)
    (h1 : AWP C r G (.ops ops (i + 1) :: k) (st.app i o.dst e')) : AWP C r G (.ops ops i :: k) st := by
  subst he
  exact awp_op hE ho hg hc hok hw (andL_all hcond) h1

end
end Eng

/- The engine, part Z: contracts: what a call comes to. -/
namespace Eng
open Go

/-- What is handed over: pure data; or an object that is lent: a variable behind a pointer, an array behind a slice, a map. -/
inductive Arg where
  | p (x : P)
  | box (cs : List P)
  | arr (sz : Nat) (es : List P)
  | map (td : TD) (kv : List (P × P))
  deriving Inhabited

/-- What comes back: pure data; an object of the receiver's own; a part of an array that was lent. -/
inductive RV where
  | p (x : P)
  | own (sz : Nat) (es : List P)
  | box (cs : List P)
  | map (td : TD) (kv : List (P × P))
  | view (k off len : Nat)
  deriving Inhabited

/-- outs: what the objects that were lent hold behind the call; one that is not told is lost. -/
structure Ret where
  res : List RV
  outs : List (Nat × Arg) := []
  deriving Inhabited

def Arg.d (k : Nat) : Arg → D
  | .p x => .p x
  | .box _ => .ptr (0, k, 0) 0 0
  | .arr _ es => .sl (0, k, 0) 0 es.length
  | .map _ _ => .map (0, k, 0)
def Arg.o : Arg → Option Obj
  | .p _ => none
  | .box cs => some (.box (cs.map .p))
  | .arr sz es => some (.arr sz es false)
  | .map td kv => some (.map td kv)
def argDs : Nat → List Arg → List (Nat × D)
  | _, [] => []
  | k, a :: r => (k, a.d k) :: argDs (k + 1) r
def argOs : Nat → List Arg → List (Id × Obj)
  | _, [] => []
  | k, a :: r => match a.o with
    | some o => ((0, k, 0), o) :: argOs (k + 1) r
    | none => argOs (k + 1) r
def argSt (args : List Arg) : St := mkS 1 (argDs 0 args) (argOs 0 args)

def RV.d (j : Nat) : RV → D
  | .p x => .p x
  | .own _ es => .sl (1, j, 0) 0 es.length
  | .box _ => .ptr (1, j, 0) 0 0
  | .map _ _ => .map (1, j, 0)
  | .view k off len => .sl (0, k, 0) off len
def RV.o : RV → Option Obj
  | .own sz es => some (.arr sz es false)
  | .box cs => some (.box (cs.map .p))
  | .map td kv => some (.map td kv)
  | _ => none
def rvDs : Nat → List RV → List (Nat × D)
  | _, [] => []
  | j, x :: r => (j, x.d j) :: rvDs (j + 1) r
def rvOs : Nat → List RV → List (Id × Obj)
  | _, [] => []
  | j, x :: r => match x.o with
    | some o => ((1, j, 0), o) :: rvOs (j + 1) r
    | none => rvOs (j + 1) r
def outOs : List (Nat × Arg) → List (Id × Obj)
  | [] => []
  | (k, a) :: r => match a.o with
    | some o => ((0, k, 0), o) :: outOs r
    | none => outOs r
def retSt (ret : Ret) : St := mkS 2 (rvDs 0 ret.res) (rvOs 0 ret.res ++ outOs ret.outs)

def tupV (vs : Array Value) : Value := if h : vs.size = 1 then vs[0] else .tuple vs

def Env.at (E : Env) (n : Nat) : Env := { E with nt := n }

/-- THE CONTRACT: whenever the arguments read as told, the call returns, what comes back reads as told, and nothing else has changed. -/
def Fun (E : Env) (f : Nat) (args : List Arg) (ret : Ret) : Prop :=
  (∃ fn, E.prog.funcs[f]? = some fn ∧ (fn.name == "runtime.NumGoroutine") = false ∧ fn.body.isNone = false) ∧
  ∀ (w : World) (Lt S : Nat → Prop) (lays : Nat → Option Lay) (ρ : Id → Option Lay) (vals : Array Value), vals.size = args.length →
    Rep ⟨E.at vals.size, w, Lt, S, lays⟩ (fun _ => False) ρ S (argSt args) vals w →
    CallsIn (fence none) 0 E.prog f vals w fun e w' => ∃ vs ρ' S', e = .returned (tupV vs) ∧ vs.size = ret.res.length ∧
      Rep ⟨E.at vs.size, w, Lt, S, lays⟩ (fun _ => False) ρ' S' (retSt ret) vs w'

def retG (C : Ctx) (fn : Func) (ret : Ret) : Goal := fun e a w' =>
  (e = .normal ∨ e = .ret) ∧ a.defers = [] ∧ ∃ vs ρ' S', (results fn a.tmps).run C.E.prog w' = .ok (tupV vs) w' ∧ vs.size = ret.res.length ∧
    Rep ⟨C.E.at vs.size, C.W, C.Lt, C.S0, C.lays⟩ (fun _ => False) ρ' S' (retSt ret) vs w'

theorem fun_of_awp {E : Env} {f : Nat} {fn : Func} {c : Code} {args : List Arg} {ret : Ret} (hf : E.prog.funcs[f]? = some fn) (hn : (fn.name == "runtime.NumGoroutine") = false) (hb : fn.body = some c) (hl : args.length ≤ fn.ntmps)
    (h : ∀ W Lt S0 lays, AWP ⟨E.at fn.ntmps, W, Lt, S0, lays⟩ ⟨none, []⟩ (retG ⟨E.at fn.ntmps, W, Lt, S0, lays⟩ fn ret) [.c c] (argSt args)) : Fun E f args ret := by
  refine ⟨⟨fn, hf, hn, by rw [hb]; rfl⟩, fun w Lt S lays ρ vals hv hrep => ?_⟩
  refine callsIn_of_wp hf hb trivial ?_ rfl
  intro b k cs hro _ _
  have hrep' : Rep ⟨E.at fn.ntmps, w, Lt, S, lays⟩ (Xof [.c c]) ρ S (argSt args) (vals ++ Array.replicate (fn.ntmps - vals.size) undef) w := by
    refine ⟨by simp [Env.at]; omega, hrep.grow, hrep.frame, hrep.s0, hrep.sIn, fun k => ?_, hrep.objs, hrep.own, hrep.inj, hrep.known, fun id hn => (hrep.young id hn).imp (fun h => h) (fun h => h.2.elim), hrep.fzk, hrep.glob, hrep.sOut, hrep.ep1, hrep.quiet, hrep.lay⟩
    have := hrep.slots k
    have e : (vals ++ Array.replicate (fn.ntmps - vals.size) undef).getD k undef = vals.getD k undef := by
      simp only [Array.getD_eq_getD_getElem?, Array.getElem?_append]
      split
      · rfl
      · rename_i hk
        rw [Array.getElem?_eq_none (Nat.le_of_not_lt hk), Array.getElem?_replicate]
        split <;> rfl
    rw [e]; exact this
  obtain ⟨e, a', w', ⟨he, hd, vs, ρ', S', hres, hvs, hr⟩, harr⟩ := h w Lt S lays ρ S { tmps := vals ++ Array.replicate (fn.ntmps - vals.size) undef, defers := [] } w hrep' rfl b k cs hro
  refine ⟨e, a', w', ?_, harr⟩
  have : a'.defers = [] ∧ ∃ v, (results fn a'.tmps).run E.prog w' = .ok v w' ∧ ∃ vs ρ' S', Ending.returned v = .returned (tupV vs) ∧ vs.size = ret.res.length ∧ Rep ⟨E.at vs.size, w, Lt, S, lays⟩ (fun _ => False) ρ' S' (retSt ret) vs w' :=
    ⟨hd, _, hres, vs, ρ', S', rfl, hvs, hr⟩
  rcases he with rfl | rfl <;> exact this

end Eng

/- The engine, part ZB: to return. -/
namespace Eng
open Go

section
variable {C : Ctx} {X : Nat → Prop} {ρ : Id → Option Lay} {S : Nat → Prop} {st : St} {tm : Array Value} {w : World}

theorem Rep.freeze (h : Rep C X ρ S st tm w) (fs : List Id) (hfs : ∀ f ∈ fs, ∃ o, st.objs f = some o ∧ o ≠ .gone) : ∃ S', (∀ b, S b → S' b) ∧ (∀ f ∈ fs, ∀ L b, ρ f = some L → L.blk = some b → S' b) ∧ Rep C X ρ S' (st.freezeL fs) tm w ∧ ∀ b, S' b → S b ∨ ∃ f L, f ∈ fs ∧ ρ f = some L ∧ L.blk = some b := by
  let S' : Nat → Prop := fun b => S b ∨ ∃ f L, f ∈ fs ∧ ρ f = some L ∧ L.blk = some b
  have hSS : ∀ b, S b → S' b := fun b hb => .inl hb
  have kp : Keep S w w := fun _ _ _ => rfl
  refine ⟨S', hSS, fun f hf L b hL hb => .inr ⟨f, L, hf, hL, hb⟩, ⟨h.nt, h.grow, h.frame, fun b hb => .inl (h.s0 b hb), ?_, ?_, ?_, ?_, ?_, ?_, ?_, ?_, fun g cs hm => (h.glob g cs hm).mono kp hSS, ?_, by rw [freezeL_ep]; exact h.ep1, h.quiet, h.lay⟩, fun _ h => h⟩
  · intro b hb
    rcases hb with hb | ⟨f, L, hf, hL, hb⟩
    · exact h.sIn b hb
    · obtain ⟨o, ho, hg⟩ := hfs f hf
      exact (h.own f o L b ho hg hL hb).1
  · intro k; rw [freezeL_slots]; exact (h.slots k).mono kp hSS fun _ _ h => h
  · intro id o ho hg
    rw [freezeL_objs] at ho
    obtain ⟨L, hL, hr⟩ := h.objs id o ho hg
    exact ⟨L, hL, hr.mono kp hSS (fun _ _ h => h) fun _ _ => rfl⟩
  · intro id o L b ho hg hL hb
    rw [freezeL_objs] at ho
    obtain ⟨r1, r2, r3, r4⟩ := h.own id o L b ho hg hL hb
    rw [freezeL_fz]
    refine ⟨r1, r2, fun hf => ?_, fun hf => ?_⟩
    · simp only [Bool.or_eq_true, List.contains_iff_mem] at hf
      rcases hf with hf | hf
      · exact .inr ⟨id, L, hf, hL, hb⟩
      · exact .inl (r3 hf)
    · simp only [Bool.or_eq_false_iff] at hf
      rintro (hS | ⟨f, L', hf', hL', hb'⟩)
      · exact r4 hf.2 hS
      · obtain ⟨o', ho', hg'⟩ := hfs f hf'
        have := h.inj id o L f o' L' b ho hg hL hb ho' hg' hL' hb'
        subst this
        have := hf.1
        simp [hf'] at this
  · intro id o L id' o' L' b ho hg hL hb ho' hg' hL' hb'
    rw [freezeL_objs] at ho ho'
    exact h.inj id o L id' o' L' b ho hg hL hb ho' hg' hL' hb'
  · intro id hn; rw [freezeL_objs] at hn; exact h.known id hn
  · intro id hn; rw [freezeL_ep]; exact h.young id hn
  · intro id hf
    rw [freezeL_fz] at hf
    simp only [Bool.or_eq_true, List.contains_iff_mem] at hf
    rcases hf with hf | hf
    · obtain ⟨o, ho, hg⟩ := hfs id hf
      obtain ⟨L, hL, _⟩ := h.objs id o ho hg
      simp [hL]
    · exact h.fzk id hf
  · intro b hb
    rcases hb with hb | ⟨f, L, hf, hL, hb⟩
    · exact h.sOut b hb
    · obtain ⟨o, ho, hg⟩ := hfs f hf
      exact .inr (h.own f o L b ho hg hL hb).2.1

end

/-- What a result is read from. -/
def resD (E : Env) (st : St) : ResultVar → Option D
  | .tmp t => some (st.slots t)
  | .cell ad t => match E.ty t with
    | some ti => match st.slots ad with
      | .p (.ptr cs) => match loadP ti cs with
        | some x => some (.p x)
        | none => none
      | .ptr id 0 j => match st.objs id with
        | some (.box cs) => loadD ti (cs.drop j)
        | _ => none
      | _ => none
    | none => none

inductive RM where
  | p | own | box | map | view
  deriving Inhabited

/-- An object, handed over: what it holds; what must not change any more. -/
def objArg (st : St) : Obj → Option (Arg × List Id)
  | .box ds => match allM (fun d => d.toP st.objs depth) ds with
    | some cs => some (.box cs, ds.flatMap fun d => d.ids st.objs depth)
    | none => none
  | .arr sz es false => some (.arr sz es, [])
  | .map td kv => some (.map td kv, [])
  | _ => none

/-- A result: the value; frozen; where its object lies; conditions. -/
structure RE where
  rv : RV
  fs : List Id := []
  id : Option Id := none
  cond : List Bool := []

def resE (st : St) (m : RM) (d : D) : Option RE :=
  match m, d with
  | .p, d => match d.toP st.objs depth with
    | some x => some { rv := .p x, fs := d.ids st.objs depth }
    | none => none
  | .own, .sl id 0 len => match st.objs id with
    | some (.arr sz es false) => some { rv := .own sz es, id := some id, cond := [decide (len = es.length)] }
    | _ => none
  | .box, .ptr id 0 0 => match st.objs id with
    | some (.box ds) => match allM (fun d => d.toP st.objs depth) ds with
      | some cs => some { rv := .box cs, fs := ds.flatMap fun d => d.ids st.objs depth, id := some id }
      | none => none
    | _ => none
  | .map, .map id => match st.objs id with
    | some (.map td kv) => some { rv := .map td kv, id := some id }
    | _ => none
  | .view, .sl (0, k, 0) off len => some { rv := .view k off len }
  | _, _ => none

def outE (st : St) (k : Nat) : Option ((Nat × Arg) × List Id) :=
  match st.objs (0, k, 0) with
  | some o => match objArg st o with
    | some (a, fs) => some ((k, a), fs)
    | none => none
  | none => none

/-- New names of the results' objects, from number j on. -/
def rvPi : Nat → List RE → List (Id × Id)
  | _, [] => []
  | j, x :: r => match x.id with
    | some id => ((1, j, 0), id) :: rvPi (j + 1) r
    | none => rvPi (j + 1) r

def viewOk (os : List Nat) : RV → Bool
  | .view k _ _ => os.contains k
  | _ => true

/-- All that a return says. -/
def retE (E : Env) (st : St) (rs : List ResultVar) (ms : List RM) (outs : List Nat) : Option (Ret × List Bool) :=
  match allM (resD E st) rs with
  | some ds => if ds.length = ms.length then match allM (fun x => resE st x.1 x.2) (ms.zip ds), allM (outE st) outs with
    | some res, some os =>
      let fs := res.flatMap (·.fs) ++ os.flatMap (·.2)
      let pi := rvPi 0 res ++ outs.map fun k => ((0, k, 0), (0, k, 0))
      if piOk (st.freezeL fs) pi 2 && res.all (fun x => viewOk outs x.rv) then some (⟨res.map (·.rv), os.map (·.1)⟩, res.flatMap (·.cond)) else none
    | _, _ => none
    else none
  | none => none

theorem results_run {P : Program} {fn : Func} {tm : Array Value} {w : World} {vs : List Value} (hl : vs.length = fn.results.size)
    (h : ∀ (j : Nat) rv v, fn.results[j]? = some rv → vs[j]? = some v → (match rv with | .tmp t => pure (tm.getD t undef) | .cell a t => do loadVar t (← asAddr (tm.getD a undef)) : Sem Value).run P w = .ok v w) :
    (results fn tm).run P w = .ok (tupV vs.toArray) w := by
  have key : ∀ (l : List ResultVar) (us : List Value), us.length = l.length → (∀ (j : Nat) rv v, l[j]? = some rv → us[j]? = some v → (match rv with | .tmp t => pure (tm.getD t undef) | .cell a t => do loadVar t (← asAddr (tm.getD a undef)) : Sem Value).run P w = .ok v w) →
      (l.mapM fun | .tmp t => pure (tm.getD t undef) | .cell a t => do loadVar t (← asAddr (tm.getD a undef)) : Sem (List Value)).run P w = .ok us w := by
    intro l
    induction l with
    | nil => intro us hu _; have := List.eq_nil_of_length_eq_zero hu; subst this; simp
    | cons rv l ih =>
      intro us hu hh
      match us, hu with
      | v :: us, hu =>
        have h0 := hh 0 rv v rfl rfl
        have h1 := ih us (by simpa using hu) fun j rv v hr hv => hh (j + 1) rv v (by simpa using hr) (by simpa using hv)
        rw [List.mapM_cons, Sem.run_bind, h0, Result.andThen_ok, Sem.run_bind, h1, Result.andThen_ok, Sem.run_pure]
  have := key fn.results.toList vs (by simpa using hl) (fun j rv v hr hv => h j rv v (by simpa using hr) hv)
  unfold results
  rw [Array.mapM_eq_mapM_toList]
  rw [Sem.run_bind, Sem.run_map]
  erw [this]
  simp only [Result.andThen_ok, Sem.run_pure]
  rfl

theorem freezeL_self {st : St} {fs : List Id} : (st.freezeL fs).objs = st.objs := freezeL_objs _ _

section
variable {C : Ctx} {X : Nat → Prop} {ρ : Id → Option Lay} {S : Nat → Prop} {st : St} {w : World}

theorem resD_rel {a : Act} (hE : EnvOk C.E) (h : Rep C X ρ S st a.tmps w) {rv : ResultVar} {d : D} (hd : resD C.E st rv = some d) :
    ∃ v, (match rv with | .tmp t => pure (a.tmps.getD t undef) | .cell ad t => do loadVar t (← asAddr (a.tmps.getD ad undef)) : Sem Value).run C.E.prog w = .ok v w ∧ RelD w S ρ v d := by
  cases rv with
  | tmp t =>
    simp only [resD, Option.some.injEq] at hd
    subst hd
    exact ⟨_, by simp, h.slots t⟩
  | cell ad t =>
    simp only [resD] at hd
    split at hd
    · rename_i ti hty
      obtain ⟨ii, ds, z, hti⟩ := hE.is hty
      have hs := h.slots ad
      generalize hv : a.tmps.getD ad undef = pv at hs
      split at hd
      · rename_i cs hst
        split at hd
        · rename_i x hx
          simp only [Option.some.injEq] at hd
          subst hd
          rw [hst] at hs
          have hs := hs.of_p
          cases hs with
          | ptr b o' _ vs hS hcell h1 hr =>
            obtain ⟨hle, hrel⟩ := loadP_rel (w := w) (S := S) hx hti.one
            have get : ∀ (j : Nat) u, ((List.range ti.size).map vs)[j]? = some u → j < ti.size ∧ u = vs j := by
              intro j u hu
              have hlt : j < ti.size := by have := (List.getElem?_eq_some_iff.1 hu).1; simpa using this
              simp [hlt] at hu
              exact ⟨hlt, hu.symm⟩
            have hrun := loadVar_run (C := C) (w := w) hE hty b o' ((List.range ti.size).map vs) (by simp) (fun j u hu => by
              obtain ⟨hlt, rfl⟩ := get j u hu
              exact hcell j cs[j] (by simp))
            refine ⟨valOf ti ((List.range ti.size).map vs).toArray, by
              have hv' : a.tmps[ad]?.getD undef = .pointer (some ⟨b, o', none⟩) := by simpa using hv
              simp [asAddr, hv', hrun], .p _ _ (hrel _ (by simp) fun j u c hu hc => ?_)⟩
            obtain ⟨hlt, rfl⟩ := get j u hu
            exact ⟨hr j c hc, h1 j c hc⟩
        · simp at hd
      · rename_i id j hst
        split at hd
        · rename_i cs hlk
          rw [hst] at hs
          cases hs with
          | ptr _ _ _ L b hL hi hb =>
            obtain ⟨hle, hrel⟩ := loadD_rel (w := w) (S := S) (ρ := ρ) hd hti.one
            obtain ⟨L', hL', b', hb', hsz, hln, hcs⟩ := h.objs id _ hlk (by simp)
            rw [hL] at hL'; obtain rfl := Option.some.inj hL'
            rw [hb] at hb'; obtain rfl := Option.some.inj hb'
            have get : ∀ k, k < ti.size → ∃ u, w.cell? ⟨b, L.base + 0 * L.sz + j + k, none⟩ = some u ∧ oneC u ∧ ∀ c, (cs.drop j)[k]? = some c → RelD w S ρ u c := by
              intro k hk
              simp at hle
              obtain ⟨u, hu, _, h1, hr⟩ := hcs (j + k) cs[j + k] (by simp)
              refine ⟨u, by rw [← hu]; congr 2; omega, h1, fun c hc => ?_⟩
              rw [List.getElem?_drop] at hc
              obtain ⟨_, rfl⟩ := List.getElem?_eq_some_iff.1 hc
              exact hr
            let us : List Value := (List.range ti.size).map fun k => (w.cell? ⟨b, L.base + 0 * L.sz + j + k, none⟩).getD default
            have hus : ∀ (k : Nat) u, us[k]? = some u → k < ti.size ∧ w.cell? ⟨b, L.base + 0 * L.sz + j + k, none⟩ = some u := by
              intro k u hu
              have hlt : k < ti.size := by have := (List.getElem?_eq_some_iff.1 hu).1; simpa [us] using this
              obtain ⟨u', q1, _⟩ := get k hlt
              simp [us, hlt] at hu
              simp only [Nat.zero_mul, Nat.add_zero] at q1 ⊢
              rw [q1] at hu
              exact ⟨hlt, by rw [q1]; simpa using hu⟩
            have hrun := loadVar_run (C := C) (w := w) hE hty b (L.base + 0 * L.sz + j) us (by simp [us]) (fun k u hu => (hus k u hu).2)
            refine ⟨valOf ti us.toArray, by
              have hv' : a.tmps[ad]?.getD undef = .pointer (some ⟨b, L.base + 0 * L.sz + j, none⟩) := by simpa using hv
              simp only [Nat.zero_mul, Nat.add_zero] at hv' hrun
              simp [asAddr, hv', hrun], hrel _ (by simp [us]) fun k u c hu hc => ?_⟩
            obtain ⟨q1, q2⟩ := hus k u hu
            obtain ⟨u', r1, r2, r3⟩ := get k q1
            rw [q2] at r1; obtain rfl := Option.some.inj r1
            exact ⟨r3 c hc, r2⟩
        · simp at hd
      · simp at hd
    · simp at hd

end

theorem rvPi_mem : ∀ (n : Nat) (l : List RE) (j : Nat) (x : RE) (id : Id), l[j]? = some x → x.id = some id → ((1, n + j, 0), id) ∈ rvPi n l
  | n, [], j, x, id, h, _ => by simp at h
  | n, y :: l, j, x, id, h, hid => by
    cases j with
    | zero =>
      simp only [List.getElem?_cons_zero, Option.some.injEq] at h
      subst h
      simp [rvPi, hid]
    | succ j =>
      simp only [List.getElem?_cons_succ] at h
      have := rvPi_mem (n + 1) l j x id h hid
      rw [show n + (j + 1) = n + 1 + j by omega]
      unfold rvPi
      split
      · exact List.mem_cons_of_mem _ this
      · exact this

theorem rvDs_mem : ∀ (n : Nat) (l : List RV) (k : Nat) (d : D), (k, d) ∈ rvDs n l → ∃ j x, l[j]? = some x ∧ k = n + j ∧ d = x.d (n + j)
  | n, [], k, d, h => by simp [rvDs] at h
  | n, x :: l, k, d, h => by
    rcases List.mem_cons.1 h with h | h
    · simp only [Prod.mk.injEq] at h; obtain ⟨rfl, rfl⟩ := h; exact ⟨0, x, rfl, rfl, rfl⟩
    · obtain ⟨j, x', q1, q2, q3⟩ := rvDs_mem (n + 1) l k d h
      exact ⟨j + 1, x', by simpa using q1, by omega, by rw [q3]; congr 1; omega⟩

theorem rvOs_mem : ∀ (n : Nat) (l : List RV) (id : Id) (o : Obj), (id, o) ∈ rvOs n l → ∃ j x, l[j]? = some x ∧ id = (1, n + j, 0) ∧ x.o = some o
  | n, [], id, o, h => by simp [rvOs] at h
  | n, x :: l, id, o, h => by
    have hrec : (id, o) ∈ rvOs (n + 1) l → ∃ j x', (x :: l)[j]? = some x' ∧ id = (1, n + j, 0) ∧ x'.o = some o := fun h => by
      obtain ⟨j, x', q1, q2, q3⟩ := rvOs_mem (n + 1) l id o h
      exact ⟨j + 1, x', by simpa using q1, by rw [q2]; congr 2; omega, q3⟩
    unfold rvOs at h
    split at h
    · rename_i u hu
      rcases List.mem_cons.1 h with h | h
      · simp only [Prod.mk.injEq] at h; obtain ⟨rfl, rfl⟩ := h; exact ⟨0, x, rfl, rfl, hu⟩
      · exact hrec h
    · exact hrec h

theorem outOs_mem : ∀ (l : List (Nat × Arg)) (id : Id) (o : Obj), (id, o) ∈ outOs l → ∃ k a, (k, a) ∈ l ∧ id = (0, k, 0) ∧ a.o = some o
  | [], id, o, h => by simp [outOs] at h
  | (k, a) :: l, id, o, h => by
    have hrec : (id, o) ∈ outOs l → ∃ k' a', (k', a') ∈ (k, a) :: l ∧ id = (0, k', 0) ∧ a'.o = some o := fun h => by
      obtain ⟨k', a', q1, q2⟩ := outOs_mem l id o h
      exact ⟨k', a', List.mem_cons_of_mem _ q1, q2⟩
    unfold outOs at h
    split at h
    · rename_i u hu
      rcases List.mem_cons.1 h with h | h
      · simp only [Prod.mk.injEq] at h; obtain ⟨rfl, rfl⟩ := h; exact ⟨k, a, List.mem_cons_self, rfl, hu⟩
      · exact hrec h
    · exact hrec h

section
variable {C : Ctx} {X : Nat → Prop} {ρ ρ' : Id → Option Lay} {S S' : Nat → Prop} {st : St} {tm : Array Value} {w : World}

/-- What an object holds, told as pure data. -/
theorem objArg_rel (h : Rep C X ρ S st tm w) (hS : ∀ b, S b → S' b) {L : Lay} {o : Obj} {a : Arg} {fs : List Id} (ha : objArg st o = some (a, fs)) (hfs : ∀ f ∈ fs, ∀ L b, ρ f = some L → L.blk = some b → S' b) (hr : RelObj w S ρ L o) :
    ∃ o', a.o = some o' ∧ o ≠ .gone ∧ RelObj w S' ρ' L o' := by
  have kp : Keep S w w := fun _ _ _ => rfl
  cases o with
  | box ds =>
    simp only [objArg] at ha
    split at ha
    · rename_i cs hcs
      simp only [Option.some.injEq, Prod.mk.injEq] at ha
      obtain ⟨rfl, rfl⟩ := ha
      obtain ⟨q1, q2⟩ := allM_some hcs
      obtain ⟨b, r1, r2, r3, r4⟩ := hr
      refine ⟨_, rfl, by simp, b, r1, by simp; omega, r3, fun j d hd => ?_⟩
      rw [List.getElem?_map, Option.map_eq_some_iff] at hd
      obtain ⟨c, hc, rfl⟩ := hd
      have hj : j < ds.length := by have := (List.getElem?_eq_some_iff.1 hc).1; omega
      obtain ⟨v, s1, s2, s3, s4⟩ := r4 j ds[j] (by simp [hj])
      exact ⟨v, s1, s2, s3, .p _ _ (toP_rel h.objs hS depth _ _ _ s4 (q2 j ds[j] c (by simp [hj]) hc) fun id hid L b => hfs id (List.mem_flatMap.2 ⟨ds[j], List.getElem_mem _, hid⟩) L b)⟩
    · simp at ha
  | arr sz es fix =>
    cases fix with
    | true => simp [objArg] at ha
    | false =>
      simp only [objArg, Option.some.injEq, Prod.mk.injEq] at ha
      obtain ⟨rfl, rfl⟩ := ha
      exact ⟨_, rfl, by simp, hr.mono (ρ' := ρ) kp hS (fun _ _ h => h) fun _ _ => rfl⟩
  | map td kv =>
    simp only [objArg, Option.some.injEq, Prod.mk.injEq] at ha
    obtain ⟨rfl, rfl⟩ := ha
    exact ⟨_, rfl, by simp, hr.mono (ρ' := ρ) kp hS (fun _ _ h => h) fun _ _ => rfl⟩
  | _ => simp [objArg] at ha

theorem objArg_ids (h : Rep C X ρ S st tm w) {o : Obj} {a : Arg} {fs : List Id} (ha : objArg st o = some (a, fs)) : ∀ f ∈ fs, ∃ o, st.objs f = some o ∧ o ≠ .gone := by
  intro f hf
  cases o with
  | box ds =>
    simp only [objArg] at ha
    split at ha
    · rename_i cs hcs
      simp only [Option.some.injEq, Prod.mk.injEq] at ha
      obtain ⟨rfl, rfl⟩ := ha
      obtain ⟨q1, q2⟩ := allM_some hcs
      obtain ⟨d, hd, hid⟩ := List.mem_flatMap.1 hf
      obtain ⟨j, hj, rfl⟩ := List.mem_iff_getElem.1 hd
      exact toP_ids depth _ _ (q2 j ds[j] cs[j] (by simp [hj]) (by simp [q1, hj])) f hid
    · simp at ha
  | arr sz es fix =>
    cases fix <;> simp [objArg] at ha
    obtain ⟨_, rfl⟩ := ha; simp at hf
  | map td kv =>
    simp only [objArg, Option.some.injEq, Prod.mk.injEq] at ha
    obtain ⟨_, rfl⟩ := ha; simp at hf
  | _ => simp [objArg] at ha

theorem resE_ids {m : RM} {d : D} {x : RE} (hx : resE st m d = some x) : ∀ f ∈ x.fs, ∃ o, st.objs f = some o ∧ o ≠ .gone := by
  intro f hf
  unfold resE at hx
  split at hx
  · split at hx
    · rename_i y hy
      simp only [Option.some.injEq] at hx; subst hx
      exact toP_ids depth _ _ hy f hf
    · simp at hx
  · split at hx <;> simp at hx; subst hx; simp at hf
  · split at hx
    · rename_i ds hlk
      split at hx
      · rename_i cs hcs
        simp only [Option.some.injEq] at hx; subst hx
        obtain ⟨q1, q2⟩ := allM_some hcs
        obtain ⟨d, hd, hid⟩ := List.mem_flatMap.1 hf
        obtain ⟨j, hj, rfl⟩ := List.mem_iff_getElem.1 hd
        exact toP_ids depth _ _ (q2 j ds[j] cs[j] (by simp [hj]) (by simp [q1, hj])) f hid
      · simp at hx
    · simp at hx
  · split at hx <;> simp at hx; subst hx; simp at hf
  · simp only [Option.some.injEq] at hx; subst hx; simp at hf
  · simp at hx

end

section
variable {C : Ctx} {r : Fm}

/-- To return. -/
theorem awp_retC {fn : Func} {k : List Item} {st : St} {ret0 ret : Ret} {ps : List Bool} (e : Exit) (he : e = .normal ∨ e = .ret) (ms : List RM) (outs : List Nat) (hE : EnvOk C.E) (hr : retE C.E st fn.results.toList ms outs = some (ret0, ps)) (hre : ret0 = ret) (hp : andL ps) (hds : r.ds = [])
    (hX : ∀ j, ¬ Xof k j)
    (harr : ∀ (a : Act) (w : World) (b : Frame) (k0 : List Go.Item) (cs : List Frame), b.roundOf = r.r → ArrivesIn (Machine.fenced C.E.prog (fence r.r)) C.E.prog (lone (b.atR a (k.map conc ++ k0)) cs w) b k0 cs e a w) : AWP C r (retG C fn ret) k st := by
  subst hre
  intro ρ S a w hrep hd b k0 cs hb
  refine ⟨e, a, w, ⟨he, by rw [hd, hds], ?_⟩, harr a w b k0 cs hb⟩
  unfold retE at hr
  split at hr
  · rename_i ds hds'
    split at hr
    · rename_i hlen
      split at hr
      · rename_i res os hres hos
        dsimp only at hr
        split at hr
        · rename_i hok
          simp only [Bool.and_eq_true, List.all_eq_true] at hok
          obtain ⟨hpi, hview⟩ := hok
          simp only [Option.some.injEq, Prod.mk.injEq] at hr
          obtain ⟨rfl, rfl⟩ := hr
          obtain ⟨d1, d2⟩ := allM_some hds'
          obtain ⟨r1, r2⟩ := allM_some hres
          obtain ⟨o1, o2⟩ := allM_some hos
          -- the values
          have hv : ∀ j : Nat, ∃ v, ∀ rv d, fn.results[j]? = some rv → ds[j]? = some d → (match rv with | .tmp t => pure (a.tmps.getD t undef) | .cell ad t => do loadVar t (← asAddr (a.tmps.getD ad undef)) : Sem Value).run C.E.prog w = .ok v w ∧ RelD w S ρ v d := by
            intro j
            cases hq : fn.results[j]? with
            | none => exact ⟨undef, fun rv d h => by simp at h⟩
            | some rv =>
              have hj : j < ds.length := by rw [d1]; have := (Array.getElem?_eq_some_iff.1 hq).1; simpa using this
              obtain ⟨v, q1, q2⟩ := resD_rel (a := a) hE hrep (d2 j rv ds[j] (by simpa using hq) (by simp [hj]))
              refine ⟨v, fun rv' d h1 h2 => ?_⟩
              obtain rfl := Option.some.inj h1
              rw [List.getElem?_eq_getElem hj] at h2
              obtain rfl := Option.some.inj h2
              exact ⟨q1, q2⟩
          let f : Nat → Value := fun j => (hv j).choose
          have hf : ∀ (j : Nat) rv d, fn.results[j]? = some rv → ds[j]? = some d → _ := fun j => (hv j).choose_spec
          let vs : List Value := (List.range fn.results.size).map f
          have hvl : vs.length = fn.results.size := by simp [vs]
          have hvj : ∀ (j : Nat) v, vs[j]? = some v → j < fn.results.size ∧ v = f j := by
            intro j v hv
            have hj : j < fn.results.size := by have := (List.getElem?_eq_some_iff.1 hv).1; omega
            simp [vs, hj] at hv
            exact ⟨hj, hv.symm⟩
          have hrun := results_run (P := C.E.prog) (fn := fn) (tm := a.tmps) (w := w) hvl (fun j rv v hrv hv => by
            obtain ⟨hj, rfl⟩ := hvj j v hv
            have hj' : j < ds.length := by rw [d1]; simpa using hj
            exact (hf j rv ds[j] hrv (by simp [hj'])).1)
          have hlr : ds.length = fn.results.size := by rw [d1]; simp
          have hrl : res.length = fn.results.size := by rw [r1, List.length_zip]; omega
          -- what is frozen now
          let fs := res.flatMap (·.fs) ++ os.flatMap (·.2)
          have hfs : ∀ g ∈ fs, ∃ o, st.objs g = some o ∧ o ≠ .gone := by
            intro g hg
            rcases List.mem_append.1 hg with hg | hg
            · obtain ⟨x, hx, hgx⟩ := List.mem_flatMap.1 hg
              obtain ⟨j, hj, rfl⟩ := List.mem_iff_getElem.1 hx
              have hz : j < (ms.zip ds).length := by omega
              exact resE_ids (r2 j (ms.zip ds)[j] res[j] (by simp only [List.getElem?_eq_getElem hz]) (List.getElem?_eq_getElem hj)) g hgx
            · obtain ⟨x, hx, hgx⟩ := List.mem_flatMap.1 hg
              obtain ⟨j, hj, rfl⟩ := List.mem_iff_getElem.1 hx
              have hz : j < outs.length := by omega
              have := o2 j outs[j] os[j] (List.getElem?_eq_getElem hz) (List.getElem?_eq_getElem hj)
              unfold outE at this
              split at this
              · split at this
                · rename_i a' fs' ha'
                  have e1 := Option.some.inj this
                  rw [← e1] at hgx
                  exact objArg_ids hrep ha' g hgx
                · simp at this
              · simp at this
          obtain ⟨S', hSS, hFS, hrep', _⟩ := hrep.freeze fs hfs
          let pi := rvPi 0 res ++ outs.map fun k => (((0, k, 0) : Id), ((0, k, 0) : Id))
          have hn1 : nodupB (pi.map (·.1)) = true := by
            have := hpi
            simp only [piOk, Bool.and_eq_true] at this
            exact this.1.1
          have hrho : ∀ {new old : Id}, (new, old) ∈ pi → rhoOf pi ρ new = ρ old := fun hm => by simp only [rhoOf, assocO_of_mem hn1 hm]
          refine ⟨vs.toArray, rhoOf pi ρ, S', hrun, by simp [hvl, hrl], hrep'.select (C' := ⟨C.E.at vs.toArray.size, C.W, C.Lt, C.S0, C.lays⟩) hpi ?_ rfl rfl hrep'.quiet hrep'.grow hrep'.frame hrep'.s0 (fun new old o L b _ q2 q3 q4 q5 => (hrep'.own old o L b q2 q3 q4 q5).2.1) (fun _ => rfl) rfl (by decide) ?_ hrep'.sOut ?_⟩
          · intro new o' ho
            have hm := assocO_mem ho
            rw [freezeL_objs]
            rcases List.mem_append.1 hm with hm | hm
            · obtain ⟨j, x, q1, q2, q3⟩ := rvOs_mem 0 _ _ _ hm
              rw [Nat.zero_add] at q2
              rw [List.getElem?_map, Option.map_eq_some_iff] at q1
              obtain ⟨re, q1, rfl⟩ := q1
              have hj : j < res.length := (List.getElem?_eq_some_iff.1 q1).1
              have hz : j < (ms.zip ds).length := by omega
              have hre := r2 j (ms.zip ds)[j] re (by simp only [List.getElem?_eq_getElem hz]) q1
              generalize (ms.zip ds)[j] = md at hre
              obtain ⟨m, d⟩ := md
              have hin : ∀ id, re.id = some id → (new, id) ∈ pi := fun id hid => List.mem_append_left _ (by rw [q2]; have := rvPi_mem 0 res j re id q1 hid; rwa [Nat.zero_add] at this)
              have hfsm : ∀ g ∈ re.fs, ∀ L b, ρ g = some L → L.blk = some b → S' b := fun g hg => hFS g (List.mem_append_left _ (List.mem_flatMap.2 ⟨re, List.mem_of_getElem? q1, hg⟩))
              dsimp only at hre
              unfold resE at hre
              split at hre
              · split at hre
                · simp only [Option.some.injEq] at hre; subst hre; simp [RV.o] at q3
                · simp at hre
              · rename_i id len
                split at hre
                · rename_i sz es hlk
                  simp only [Option.some.injEq] at hre; subst hre
                  simp only [RV.o, Option.some.injEq] at q3; subst q3
                  exact ⟨id, _, hin id rfl, hlk, by simp, fun L _ hr => hr⟩
                · simp at hre
              · rename_i id
                split at hre
                · rename_i dsb hlk
                  split at hre
                  · rename_i csb hcs
                    simp only [Option.some.injEq] at hre; subst hre
                    simp only [RV.o, Option.some.injEq] at q3; subst q3
                    refine ⟨id, _, hin id rfl, hlk, by simp, fun L hL _ => ?_⟩
                    obtain ⟨L', hL', hro⟩ := hrep.objs id _ hlk (by simp)
                    rw [hL] at hL'; obtain rfl := Option.some.inj hL'
                    obtain ⟨o', p1, _, p3⟩ := objArg_rel (ρ' := rhoOf pi ρ) hrep hSS (a := .box csb) (fs := dsb.flatMap fun d => d.ids st.objs depth) (by simp [objArg, hcs]) hfsm hro
                    simp only [Arg.o, Option.some.injEq] at p1; subst p1
                    exact p3
                  · simp at hre
                · simp at hre
              · rename_i id
                split at hre
                · rename_i td kv hlk
                  simp only [Option.some.injEq] at hre; subst hre
                  simp only [RV.o, Option.some.injEq] at q3; subst q3
                  exact ⟨id, _, hin id rfl, hlk, by simp, fun L _ hr => hr⟩
                · simp at hre
              · simp only [Option.some.injEq] at hre; subst hre; simp [RV.o] at q3
              · simp at hre
            · obtain ⟨kk, aa, q1, q2, q3⟩ := outOs_mem _ _ _ hm
              obtain ⟨x, hx, hxe⟩ := List.mem_map.1 q1
              obtain ⟨j, hj, rfl⟩ := List.mem_iff_getElem.1 hx
              have hz : j < outs.length := by omega
              have hout := o2 j outs[j] os[j] (List.getElem?_eq_getElem hz) (List.getElem?_eq_getElem hj)
              unfold outE at hout
              split at hout
              · rename_i o hlk
                split at hout
                · rename_i a' fs' ha'
                  have e1 := Option.some.inj hout
                  rw [← e1] at hxe
                  simp only [Prod.mk.injEq] at hxe
                  obtain ⟨rfl, rfl⟩ := hxe
                  obtain ⟨L, hL, hro⟩ := hrep.objs _ o hlk (objArg_rel (ρ' := rhoOf pi ρ) (S' := fun _ => True) hrep (fun _ _ => trivial) ha' (fun _ _ _ _ _ _ => trivial) (hrep.objs _ o hlk (by intro hg; subst hg; simp [objArg] at ha')).choose_spec.2).choose_spec.2.1
                  have hfsm : ∀ g ∈ fs', ∀ L b, ρ g = some L → L.blk = some b → S' b := fun g hg => hFS g (List.mem_append_right _ (List.mem_flatMap.2 ⟨os[j], List.getElem_mem hj, by rw [← e1]; exact hg⟩))
                  obtain ⟨o2', p1, p2, p3⟩ := objArg_rel (ρ' := rhoOf pi ρ) hrep hSS ha' hfsm hro
                  rw [p1] at q3; obtain rfl := Option.some.inj q3
                  refine ⟨(0, outs[j], 0), o, List.mem_append_right _ (List.mem_map.2 ⟨outs[j], List.getElem_mem hz, by rw [q2]⟩), hlk, p2, fun L' hL' _ => ?_⟩
                  rw [hL] at hL'; obtain rfl := Option.some.inj hL'
                  exact p3
                · simp at hout
              · simp at hout
          · intro k'
            show RelD w S' (rhoOf pi ρ) (vs.toArray.getD k' undef) (assoc D.dead (rvDs 0 (res.map (·.rv))) k')
            rcases assoc_mem D.dead (rvDs 0 (res.map (·.rv))) k' with hk | hk
            · rw [hk]; exact .dead _
            · obtain ⟨j, x, q1, q2, q3⟩ := rvDs_mem 0 _ _ _ hk
              rw [Nat.zero_add] at q2 q3
              subst q2
              rw [q3]
              rw [List.getElem?_map, Option.map_eq_some_iff] at q1
              obtain ⟨re, q1, rfl⟩ := q1
              have hj : k' < res.length := (List.getElem?_eq_some_iff.1 q1).1
              have hz : k' < (ms.zip ds).length := by omega
              have hdj : k' < ds.length := by omega
              have hre := r2 k' (ms.zip ds)[k'] re (by simp only [List.getElem?_eq_getElem hz]) q1
              simp only [List.getElem_zip] at hre
              have hjr : k' < fn.results.size := by omega
              have hrel : RelD w S ρ (f k') ds[k'] := (hf k' fn.results[k'] ds[k'] (by simp [hjr]) (by simp [hdj])).2
              have hval : vs.toArray.getD k' undef = f k' := by simp [vs, hjr]
              rw [hval]
              have hin : ∀ id, re.id = some id → ((1, k', 0), id) ∈ pi := fun id hid => List.mem_append_left _ (by have := rvPi_mem 0 res k' re id q1 hid; rwa [Nat.zero_add] at this)
              have hfsm : ∀ g ∈ re.fs, ∀ L b, ρ g = some L → L.blk = some b → S' b := fun g hg => hFS g (List.mem_append_left _ (List.mem_flatMap.2 ⟨re, List.mem_of_getElem? q1, hg⟩))
              have hcm : ∀ c ∈ re.cond, c = true := fun c hc => andL_all hp c (List.mem_flatMap.2 ⟨re, List.mem_of_getElem? q1, hc⟩)
              have hvw := hview re (List.mem_of_getElem? q1)
              generalize ds[k'] = d at hre hrel
              generalize f k' = v at hrel ⊢
              generalize ms[k'] = m at hre
              have kp : Keep S w w := fun _ _ _ => rfl
              unfold resE at hre
              split at hre
              · split at hre
                · rename_i x hx
                  simp only [Option.some.injEq] at hre; subst hre
                  exact .p _ _ (toP_rel hrep.objs hSS depth _ _ _ hrel hx hfsm)
                · simp at hre
              · rename_i id len
                split at hre
                · rename_i sz es hlk
                  simp only [Option.some.injEq] at hre; subst hre
                  have hle : len = es.length := of_decide_eq_true (hcm _ List.mem_cons_self)
                  subst hle
                  cases hrel with
                  | sl _ _ _ cap ad L hL hl hm hcp ha => exact .sl _ 0 _ cap ad L (by rw [hrho (hin id rfl)]; exact hL) hl hm hcp ha
                · simp at hre
              · rename_i id
                split at hre
                · split at hre
                  · simp only [Option.some.injEq] at hre; subst hre
                    cases hrel with
                    | ptr _ _ _ L b hL hi hb => exact .ptr _ 0 0 L b (by rw [hrho (hin id rfl)]; exact hL) hi hb
                  · simp at hre
                · simp at hre
              · rename_i id
                split at hre
                · simp only [Option.some.injEq] at hre; subst hre
                  cases hrel with
                  | map _ L b hL hb => exact .map _ L b (by rw [hrho (hin id rfl)]; exact hL) hb
                · simp at hre
              · rename_i kk off len
                simp only [Option.some.injEq] at hre; subst hre
                simp only [viewOk, List.contains_iff_mem] at hvw
                cases hrel with
                | sl _ _ _ cap ad L hL hl hm hcp ha => exact .sl _ off _ cap ad L (by rw [hrho (List.mem_append_right _ (List.mem_map.2 ⟨kk, hvw, rfl⟩))]; exact hL) hl hm hcp ha
              · simp at hre
          · intro k L hk hn
            unfold rhoOf at hn ⊢
            cases hq : assocO pi (0, k, 0) with
            | none => rw [hq] at hn; simp at hn
            | some old =>
              rw [hq] at hn
              have hm := assocO_mem hq
              have : old = (0, k, 0) := by
                rcases List.mem_append.1 hm with hm | hm
                · exfalso
                  have : ∀ (n : Nat) (l : List RE) (a b : Id), (a, b) ∈ rvPi n l → a.1 = 1 := by
                    intro n l
                    induction l generalizing n with
                    | nil => intro a b h; simp [rvPi] at h
                    | cons x l ih =>
                      intro a b h
                      unfold rvPi at h
                      split at h
                      · rcases List.mem_cons.1 h with h | h
                        · simp only [Prod.mk.injEq] at h; rw [h.1]
                        · exact ih _ a b h
                      · exact ih _ a b h
                  have := this _ _ _ _ hm
                  simp at this
                · obtain ⟨j, _, he⟩ := List.mem_map.1 hm
                  simp only [Prod.mk.injEq] at he
                  rw [← he.2]
                  have := he.1.2.1
                  rw [this]
              subst this
              exact hrep'.lay k L hk hn
        · simp at hr
      · simp at hr
    · simp at hr
  · simp at hr

end
end Eng

/- The engine, part ZC: to return; to call. -/
namespace Eng
open Go

section
variable {C : Ctx} {r : Fm}

theorem awp_ret {fn : Func} {k : List Item} {st : St} {ret : Ret} (ret0 : Ret) (ps : List Bool) (ms : List RM) (outs : List Nat) (hE : EnvOk C.E) (hr : retE C.E st fn.results.toList ms outs = some (ret0, ps)) (hre : ret0 = ret) (hp : andL ps) (hds : r.ds = []) :
    AWP C r (retG C fn ret) (.c .ret :: k) st :=
  awp_retC .ret (.inr rfl) ms outs hE hr hre hp hds (fun _ h => h.elim) fun _ _ _ k0 _ _ =>
    ⟨fun hn => ⟨_, .one (fenced_all _ _ _) (stepR_ret hn)⟩, fun _ => ⟨k.map conc ++ k0, .refl _⟩⟩

theorem awp_end {fn : Func} {st : St} {ret : Ret} (ret0 : Ret) (ps : List Bool) (ms : List RM) (outs : List Nat) (hE : EnvOk C.E) (hr : retE C.E st fn.results.toList ms outs = some (ret0, ps)) (hre : ret0 = ret) (hp : andL ps) (hds : r.ds = []) :
    AWP C r (retG C fn ret) [] st :=
  awp_retC .normal (.inl rfl) ms outs hE hr hre hp hds (fun _ h => h.elim) fun _ _ _ _ _ _ => .refl _

end

/-! ## To call -/

/-- How an argument is handed over. -/
inductive AM where
  | p | lend
  deriving Inhabited

/-- An argument that is handed over: how it reads; frozen; the object that is lent; conditions. -/
structure AE where
  arg : Arg
  fs : List Id := []
  id : Option Id := none
  cond : List Bool := []

def argE (st : St) (m : AM) (d : D) : Option AE :=
  match m, d with
  | .p, d => match d.toP st.objs depth with
    | some x => some { arg := .p x, fs := d.ids st.objs depth }
    | none => none
  | .lend, .ptr id 0 0 => match st.objs id with
    | some (.box ds) => match allM (fun d => d.toP st.objs depth) ds with
      | some cs => some { arg := .box cs, fs := ds.flatMap fun d => d.ids st.objs depth, id := some id }
      | none => none
    | _ => none
  | .lend, .sl id 0 len => match st.objs id with
    | some (.arr sz es false) => some { arg := .arr sz es, id := some id, cond := [decide (len = es.length)] }
    | _ => none
  | .lend, .map id => match st.objs id with
    | some (.map td kv) => some { arg := .map td kv, id := some id }
    | _ => none
  | _, _ => none

def calleeD : D → Option (Nat × List D × List D)
  | .p (.fn f a b) => some (f, a.map .p, b.map .p)
  | .fn f a b => some (f, a, b)
  | _ => none

def argPi : Nat → List AE → List (Id × Id)
  | _, [] => []
  | k, x :: r => match x.id with
    | some id => ((0, k, 0), id) :: argPi (k + 1) r
    | none => argPi (k + 1) r

def backO (outs : List (Nat × Arg)) (k : Nat) : Obj := match assocO outs k with
  | some a => match a.o with
    | some o => o
    | none => .gone
  | none => .gone

/-- What the lent objects hold behind the call. -/
def backL (outs : List (Nat × Arg)) : Nat → List AE → List (Id × Obj)
  | _, [] => []
  | k, x :: r => match x.id with
    | some id => (id, backO outs k) :: backL outs (k + 1) r
    | none => backL outs (k + 1) r

/-- A result, as the caller sees it. -/
def RV.at (ep i : Nat) (as : List AE) (j : Nat) : RV → Option D
  | .p x => some (.p x)
  | .own _ es => some (.sl (ep, i, j) 0 es.length)
  | .box _ => some (.ptr (ep, i, j) 0 0)
  | .map _ _ => some (.map (ep, i, j))
  | .view k off len => match as[k]? with
    | some a => match a.id with
      | some id => some (.sl id off len)
      | none => none
    | none => none
def rvAts (ep i : Nat) (as : List AE) : Nat → List RV → Option (List D)
  | _, [] => some []
  | j, x :: r => match x.at ep i as j, rvAts ep i as (j + 1) r with
    | some d, some ds => some (d :: ds)
    | _, _ => none
def rvNews : Nat → List RV → List (Nat × Obj)
  | _, [] => []
  | j, x :: r => match x.o with
    | some o => (j, o) :: rvNews (j + 1) r
    | none => rvNews (j + 1) r

def tupD : List D → D
  | [d] => d
  | ds => .tup ds

/-- A call's effect. -/
def callE (st : St) (i : Nat) (as : List AE) (ret : Ret) : Option Eff :=
  match rvAts st.ep i as 0 ret.res with
  | some ds => some { val := tupD ds, new := rvNews 0 ret.res, wr := backL ret.outs 0 as, frz := as.flatMap (·.fs) }
  | none => none

/-- All that a call says ahead of itself: the callee, the arguments, conditions. -/
def preE (E : Env) (st : St) (c : Call) (pts : List Nat) (ms : List AM) : Option (Nat × List AE) :=
  match c.callee with
  | .value f => match calleeD (ev E st.slots 0 f) with
    | some (g, first, caps) =>
      let ds := first ++ argsD E st.slots c.args.toList pts ++ caps
      if ds.length = ms.length then match allM (fun x => argE st x.1 x.2) (ms.zip ds) with
        | some as => if piOk (st.freezeL (as.flatMap (·.fs))) (argPi 0 as) 1 && (c.args.toList.all litOk) && litOk f then some (g, as) else none
        | none => none
      else none
    | none => none
  | _ => none

end Eng

