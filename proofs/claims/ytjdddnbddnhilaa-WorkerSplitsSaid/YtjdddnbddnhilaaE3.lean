/- The engine, text 3: an abstract evaluator of Go code over pure data, proved sound. -/
import Derived.Test.YtjdddnbddnhilaaE2
import Derived.ChangeSame
set_option linter.unusedVariables false
set_option linter.unusedSimpArgs false
set_option linter.unusedSectionVars false
/- The engine, part ZD: a call's step. -/
namespace Eng
open Go

theorem argDs_mem : ∀ (n : Nat) (l : List Arg) (k : Nat) (d : D), (k, d) ∈ argDs n l → ∃ j x, l[j]? = some x ∧ k = n + j ∧ d = x.d (n + j)
  | n, [], k, d, h => by simp [argDs] at h
  | n, x :: l, k, d, h => by
    rcases List.mem_cons.1 h with h | h
    · simp only [Prod.mk.injEq] at h; obtain ⟨rfl, rfl⟩ := h; exact ⟨0, x, rfl, rfl, rfl⟩
    · obtain ⟨j, x', q1, q2, q3⟩ := argDs_mem (n + 1) l k d h
      exact ⟨j + 1, x', by simpa using q1, by omega, by rw [q3]; congr 1; omega⟩

theorem argOs_mem : ∀ (n : Nat) (l : List Arg) (id : Id) (o : Obj), (id, o) ∈ argOs n l → ∃ j x, l[j]? = some x ∧ id = (0, n + j, 0) ∧ x.o = some o
  | n, [], id, o, h => by simp [argOs] at h
  | n, x :: l, id, o, h => by
    have hrec : (id, o) ∈ argOs (n + 1) l → ∃ j x', (x :: l)[j]? = some x' ∧ id = (0, n + j, 0) ∧ x'.o = some o := fun h => by
      obtain ⟨j, x', q1, q2, q3⟩ := argOs_mem (n + 1) l id o h
      exact ⟨j + 1, x', by simpa using q1, by rw [q2]; congr 2; omega, q3⟩
    unfold argOs at h
    split at h
    · rename_i u hu
      rcases List.mem_cons.1 h with h | h
      · simp only [Prod.mk.injEq] at h; obtain ⟨rfl, rfl⟩ := h; exact ⟨0, x, rfl, rfl, hu⟩
      · exact hrec h
    · exact hrec h

theorem argPi_mem : ∀ (n : Nat) (l : List AE) (j : Nat) (x : AE) (id : Id), l[j]? = some x → x.id = some id → ((0, n + j, 0), id) ∈ argPi n l
  | n, [], j, x, id, h, _ => by simp at h
  | n, y :: l, j, x, id, h, hid => by
    cases j with
    | zero =>
      simp only [List.getElem?_cons_zero, Option.some.injEq] at h
      subst h
      simp [argPi, hid]
    | succ j =>
      simp only [List.getElem?_cons_succ] at h
      have := argPi_mem (n + 1) l j x id h hid
      rw [show n + (j + 1) = n + 1 + j by omega]
      unfold argPi
      split
      · exact List.mem_cons_of_mem _ this
      · exact this

theorem argPi_inv : ∀ (n : Nat) (l : List AE) (a b : Id), (a, b) ∈ argPi n l → ∃ j x, l[j]? = some x ∧ a = (0, n + j, 0) ∧ x.id = some b
  | n, [], a, b, h => by simp [argPi] at h
  | n, x :: l, a, b, h => by
    have hrec : (a, b) ∈ argPi (n + 1) l → ∃ j x', (x :: l)[j]? = some x' ∧ a = (0, n + j, 0) ∧ x'.id = some b := fun h => by
      obtain ⟨j, x', q1, q2, q3⟩ := argPi_inv (n + 1) l a b h
      exact ⟨j + 1, x', by simpa using q1, by rw [q2]; congr 2; omega, q3⟩
    unfold argPi at h
    split at h
    · rename_i u hu
      rcases List.mem_cons.1 h with h | h
      · simp only [Prod.mk.injEq] at h; obtain ⟨rfl, rfl⟩ := h; exact ⟨0, x, rfl, rfl, hu⟩
      · exact hrec h
    · exact hrec h

theorem backL_mem {outs : List (Nat × Arg)} : ∀ (n : Nat) (l : List AE) (id : Id) (o : Obj), (id, o) ∈ backL outs n l → ∃ j x, l[j]? = some x ∧ x.id = some id ∧ o = backO outs (n + j)
  | n, [], id, o, h => by simp [backL] at h
  | n, x :: l, id, o, h => by
    have hrec : (id, o) ∈ backL outs (n + 1) l → ∃ j x', (x :: l)[j]? = some x' ∧ x'.id = some id ∧ o = backO outs (n + j) := fun h => by
      obtain ⟨j, x', q1, q2, q3⟩ := backL_mem (n + 1) l id o h
      exact ⟨j + 1, x', by simpa using q1, q2, by rw [q3, show n + 1 + j = n + (j + 1) by omega]⟩
    unfold backL at h
    split at h
    · rename_i u hu
      rcases List.mem_cons.1 h with h | h
      · simp only [Prod.mk.injEq] at h; obtain ⟨rfl, rfl⟩ := h; exact ⟨0, x, rfl, hu, rfl⟩
      · exact hrec h
    · exact hrec h

theorem backL_in {outs : List (Nat × Arg)} : ∀ (n : Nat) (l : List AE) (j : Nat) (x : AE) (id : Id), l[j]? = some x → x.id = some id → (id, backO outs (n + j)) ∈ backL outs n l
  | n, [], j, x, id, h, _ => by simp at h
  | n, y :: l, j, x, id, h, hid => by
    cases j with
    | zero =>
      simp only [List.getElem?_cons_zero, Option.some.injEq] at h
      subst h
      simp [backL, hid]
    | succ j =>
      simp only [List.getElem?_cons_succ] at h
      have := backL_in (outs := outs) (n + 1) l j x id h hid
      rw [show n + (j + 1) = n + 1 + j by omega]
      unfold backL
      split
      · exact List.mem_cons_of_mem _ this
      · exact this

theorem rvNews_mem : ∀ (n : Nat) (l : List RV) (j : Nat) (o : Obj), (j, o) ∈ rvNews n l → ∃ m x, l[m]? = some x ∧ j = n + m ∧ x.o = some o
  | n, [], j, o, h => by simp [rvNews] at h
  | n, x :: l, j, o, h => by
    have hrec : (j, o) ∈ rvNews (n + 1) l → ∃ m x', (x :: l)[m]? = some x' ∧ j = n + m ∧ x'.o = some o := fun h => by
      obtain ⟨m, x', q1, q2, q3⟩ := rvNews_mem (n + 1) l j o h
      exact ⟨m + 1, x', by simpa using q1, by omega, q3⟩
    unfold rvNews at h
    split at h
    · rename_i u hu
      rcases List.mem_cons.1 h with h | h
      · simp only [Prod.mk.injEq] at h; obtain ⟨rfl, rfl⟩ := h; exact ⟨0, x, rfl, rfl, hu⟩
      · exact hrec h
    · exact hrec h

theorem rvOs_in : ∀ (n : Nat) (l : List RV) (j : Nat) (x : RV) (o : Obj), l[j]? = some x → x.o = some o → assocO (rvOs n l) (1, n + j, 0) = some o
  | n, [], j, x, o, h, _ => by simp at h
  | n, y :: l, j, x, o, h, ho => by
    cases j with
    | zero =>
      simp only [List.getElem?_cons_zero, Option.some.injEq] at h
      subst h
      simp [rvOs, ho, assocO]
    | succ j =>
      simp only [List.getElem?_cons_succ] at h
      have := rvOs_in (n + 1) l j x o h ho
      rw [show n + (j + 1) = n + 1 + j by omega]
      unfold rvOs
      split
      · simp only [assocO]
        rw [if_neg (by simp; omega)]
        exact this
      · exact this

theorem rvAts_get {ep i : Nat} {as : List AE} : ∀ (n : Nat) (l : List RV) (ds : List D), rvAts ep i as n l = some ds → ds.length = l.length ∧ ∀ (j : Nat) x d, l[j]? = some x → ds[j]? = some d → x.at ep i as (n + j) = some d
  | n, [], ds, h => by simp [rvAts] at h; subst h; exact ⟨rfl, by simp⟩
  | n, x :: l, ds, h => by
    unfold rvAts at h
    split at h
    · rename_i d ds' hd hds
      simp only [Option.some.injEq] at h; subst h
      obtain ⟨q1, q2⟩ := rvAts_get (n + 1) l ds' hds
      refine ⟨by simp [q1], fun j x' d' hx hd' => ?_⟩
      cases j with
      | zero => simp at hx hd'; subst hx hd'; exact hd
      | succ j =>
        simp at hx hd'
        have := q2 j x' d' hx hd'
        rwa [show n + (j + 1) = n + 1 + j by omega]
    · simp at h

section
variable {C : Ctx} {X : Nat → Prop} {ρ : Id → Option Lay} {S : Nat → Prop} {st : St} {a : Act} {w : World}

/-- The callee and what it is handed. -/
theorem callee_run (h : Rep C X ρ S st a.tmps w) {c : Call} {pts : List Nat} {f : Operand} (hcal : c.callee = .value f) {g : Nat} {first caps : List D} (hc : calleeD (ev C.E st.slots 0 f) = some (g, first, caps))
    (hl : litOk f = true) (hal : ∀ x ∈ c.args.toList, litOk x = true) : ∃ vals : Array Value, vals.size = (first ++ argsD C.E st.slots c.args.toList pts ++ caps).length ∧
      (∀ (j : Nat) v d, vals[j]? = some v → (first ++ argsD C.E st.slots c.args.toList pts ++ caps)[j]? = some d → RelD w S ρ v d) ∧
      ∀ (ty : TypeId) fn, C.E.prog.funcs[g]? = some fn → (fn.name == "runtime.NumGoroutine") = false → fn.body.isNone = false → ((do let d ← resolve a.eval c ty; invoke d.target d.args : Sem Next)).run C.E.prog w = .ok (.enter g vals) w := by
  have hf := ev_rel h 0 hl
  have hfn : ∃ fs cs : Array Value, a.eval f = .func (.func g) fs cs ∧ fs.size = first.length ∧ cs.size = caps.length ∧ (∀ (j : Nat) v d, fs[j]? = some v → first[j]? = some d → RelD w S ρ v d) ∧ ∀ (j : Nat) v d, cs[j]? = some v → caps[j]? = some d → RelD w S ρ v d := by
    unfold calleeD at hc
    split at hc
    · rename_i g' x y hev
      simp only [Option.some.injEq, Prod.mk.injEq] at hc
      obtain ⟨rfl, rfl, rfl⟩ := hc
      rw [hev] at hf
      generalize a.eval f = vf at hf
      have hf := hf.of_p
      cases hf with
      | fn _ fs cs _ _ h1 h2 h3 h4 =>
        refine ⟨fs, cs, rfl, by simpa using h1, by simpa using h2, fun j v d hv hd => ?_, fun j v d hv hd => ?_⟩
        · rw [List.getElem?_map, Option.map_eq_some_iff] at hd
          obtain ⟨x, hx, rfl⟩ := hd
          exact .p _ _ (h3 j v x hv hx)
        · rw [List.getElem?_map, Option.map_eq_some_iff] at hd
          obtain ⟨x, hx, rfl⟩ := hd
          exact .p _ _ (h4 j v x hv hx)
    · rename_i g' x y hev
      simp only [Option.some.injEq, Prod.mk.injEq] at hc
      obtain ⟨rfl, rfl, rfl⟩ := hc
      rw [hev] at hf
      generalize a.eval f = vf at hf
      cases hf with
      | fn _ fs cs _ _ h1 h2 h3 h4 => exact ⟨fs, cs, rfl, h1, h2, h3, h4⟩
    · simp at hc
  obtain ⟨fs, cs, hev, h1, h2, h3, h4⟩ := hfn
  obtain ⟨q1, q2⟩ := argsD_rel h c.args.toList pts hal
  refine ⟨fs ++ c.args.map a.eval ++ cs, by simp [h1, h2, q1], fun j v d hv hd => ?_, fun ty fn hfu hnm hbd => ?_⟩
  · rw [Array.getElem?_append] at hv
    have hs : (fs ++ c.args.map a.eval).size = (first ++ argsD C.E st.slots c.args.toList pts).length := by simp [h1, q1]
    split at hv
    · rename_i hj
      rw [List.getElem?_append_left (by omega)] at hd
      rw [Array.getElem?_append] at hv
      split at hv
      · rename_i hj2
        rw [List.getElem?_append_left (by omega)] at hd
        exact h3 j v d hv hd
      · rename_i hj2
        rw [List.getElem?_append_right (by omega)] at hd
        refine q2 (j - first.length) v d ?_ hd
        rw [h1] at hv
        have := hv
        rw [← Array.getElem?_toList] at this
        simpa using this
    · rename_i hj
      rw [List.getElem?_append_right (by omega)] at hd
      rw [hs] at hv
      exact h4 _ v d hv hd
  · have hcallee : c.callee = .value f := hcal
    have hnm' : ¬ fn.name = "runtime.NumGoroutine" := by simpa using hnm
    have hbd' : ¬ fn.body = none := by intro e; rw [e] at hbd; simp at hbd
    simp [resolve, hcallee, hev, Deferred.ofValue, invoke, callFunc, hfu, hnm', hbd', Array.append_assoc]

/-- The arguments, as the callee finds them. -/
theorem argE_rel {S1 : Nat → Prop} (h : Rep C X ρ S st a.tmps w) (hSS : ∀ b, S b → S1 b) {m : AM} {d : D} {x : AE} (hx : argE st m d = some x) {v : Value} (hr : RelD w S ρ v d) (hfs : ∀ f ∈ x.fs, ∀ L b, ρ f = some L → L.blk = some b → S1 b)
    (hcond : ∀ c ∈ x.cond, c = true) {ρ' : Id → Option Lay} {k : Nat} (hρ : ∀ id, x.id = some id → ρ' (0, k, 0) = ρ id) :
    RelD w S1 ρ' v (x.arg.d k) ∧ (∀ f ∈ x.fs, ∃ o, st.objs f = some o ∧ o ≠ .gone) ∧ (∀ o', x.arg.o = some o' → ∃ id o, x.id = some id ∧ st.objs id = some o ∧ o ≠ .gone ∧ o' ≠ .gone ∧ ∀ L, ρ id = some L → RelObj w S1 ρ L o → RelObj w S1 ρ' L o') ∧
      (∀ id, x.id = some id → ∃ o, st.objs id = some o ∧ o ≠ .gone) := by
  unfold argE at hx
  split at hx
  · split at hx
    · rename_i y hy
      simp only [Option.some.injEq] at hx; subst hx
      exact ⟨.p _ _ (toP_rel h.objs hSS depth _ _ _ hr hy hfs), toP_ids depth _ _ hy, fun o' ho => by simp [Arg.o] at ho, fun id hid => by simp at hid⟩
    · simp at hx
  · rename_i id
    split at hx
    · rename_i ds hlk
      split at hx
      · rename_i cs hcs
        simp only [Option.some.injEq] at hx; subst hx
        obtain ⟨q1, q2⟩ := allM_some hcs
        refine ⟨?_, objArg_ids (a := .box cs) (o := .box ds) h (by simp [objArg, hcs]), fun o' ho => ?_, fun id' hid => by simp at hid; subst hid; exact ⟨_, hlk, by simp⟩⟩
        · cases hr with
          | ptr _ _ _ L b hL hi hb => exact .ptr _ 0 0 L b (by rw [hρ id rfl]; exact hL) hi hb
        · simp only [Arg.o, Option.some.injEq] at ho; subst ho
          refine ⟨id, _, rfl, hlk, by simp, by simp, fun L hL hro => ?_⟩
          obtain ⟨L', hL', hro0⟩ := h.objs id _ hlk (by simp)
          rw [hL] at hL'; obtain rfl := Option.some.inj hL'
          obtain ⟨o', p1, _, p3⟩ := objArg_rel (ρ' := ρ') h hSS (a := .box cs) (fs := ds.flatMap fun d => d.ids st.objs depth) (by simp [objArg, hcs]) hfs hro0
          simp only [Arg.o, Option.some.injEq] at p1; subst p1
          exact p3
      · simp at hx
    · simp at hx
  · rename_i id len
    split at hx
    · rename_i sz es hlk
      simp only [Option.some.injEq] at hx; subst hx
      have hle : len = es.length := of_decide_eq_true (hcond _ List.mem_cons_self)
      subst hle
      refine ⟨?_, fun f hf => by simp at hf, fun o' ho => ?_, fun id' hid => by simp at hid; subst hid; exact ⟨_, hlk, by simp⟩⟩
      · cases hr with
        | sl _ _ _ cap ad L hL hl hm hcp ha => exact .sl _ 0 _ cap ad L (by rw [hρ id rfl]; exact hL) hl hm hcp ha
      · simp only [Arg.o, Option.some.injEq] at ho; subst ho
        exact ⟨id, _, rfl, hlk, by simp, by simp, fun L _ hr => hr⟩
    · simp at hx
  · rename_i id
    split at hx
    · rename_i td kv hlk
      simp only [Option.some.injEq] at hx; subst hx
      refine ⟨?_, fun f hf => by simp at hf, fun o' ho => ?_, fun id' hid => by simp at hid; subst hid; exact ⟨_, hlk, by simp⟩⟩
      · cases hr with
        | map _ L b hL hb => exact .map _ L b (by rw [hρ id rfl]; exact hL) hb
      · simp only [Arg.o, Option.some.injEq] at ho; subst ho
        exact ⟨id, _, rfl, hlk, by simp, by simp, fun L _ hr => hr⟩
    · simp at hx
  · simp at hx

end
end Eng

/- The engine, part ZE: to call. -/
namespace Eng
open Go

theorem RelObj.pureArg {w w' : World} {S S' : Nat → Prop} {ρ ρ' : Id → Option Lay} {L : Lay} {a : Arg} {o : Obj} (ha : a.o = some o) (hk : Keep S w w') (hs : ∀ b, S b → S' b) (hb : ∀ b, L.blk = some b → w'.heap[b]? = w.heap[b]?) (h : RelObj w S ρ L o) : RelObj w' S' ρ' L o := by
  cases a with
  | p x => simp [Arg.o] at ha
  | box cs =>
    simp only [Arg.o, Option.some.injEq] at ha; subst ha
    obtain ⟨b, h1, h2, h3, h4⟩ := h
    refine ⟨b, h1, h2, h3, fun j d hd => ?_⟩
    obtain ⟨v, q1, q2, q3, q4⟩ := h4 j d hd
    rw [List.getElem?_map, Option.map_eq_some_iff] at hd
    obtain ⟨x, hx, rfl⟩ := hd
    exact ⟨v, by rw [cell_keep (hb b h1)]; exact q1, by rw [frozen_keep (hb b h1)]; exact q2, q3, .p _ _ (q4.of_p.mono hk hs)⟩
  | arr sz es =>
    simp only [Arg.o, Option.some.injEq] at ha; subst ha
    exact h.mono (ρ' := ρ) hk hs (fun _ _ h => h) hb
  | map td kv =>
    simp only [Arg.o, Option.some.injEq] at ha; subst ha
    exact h.mono (ρ' := ρ) hk hs (fun _ _ h => h) hb

/-- An object that comes back is like one that is handed over. -/
theorem RV.o_arg {x : RV} {o : Obj} (h : x.o = some o) : ∃ a : Arg, a.o = some o := by
  cases x with
  | own sz es => exact ⟨.arr sz es, h⟩
  | box cs => exact ⟨.box cs, h⟩
  | map td kv => exact ⟨.map td kv, h⟩
  | p x => simp [RV.o] at h
  | view k off len => simp [RV.o] at h

theorem outOs_get : ∀ (l : List (Nat × Arg)) (k : Nat) (a : Arg) (o : Obj), assocO l k = some a → a.o = some o → assocO (outOs l) (0, k, 0) = some o
  | [], k, a, o, h, _ => by simp [assocO] at h
  | (k', a') :: l, k, a, o, h, ho => by
    simp only [assocO] at h
    split at h
    · rename_i he
      simp only [Option.some.injEq] at h
      subst he h
      simp [outOs, ho, assocO]
    · rename_i hne
      have := outOs_get l k a o h ho
      unfold outOs
      split
      · simp only [assocO]
        rw [if_neg (by simp; exact hne)]
        exact this
      · exact this

theorem assocO_append {α β : Type} [DecidableEq α] (l1 l2 : List (α × β)) (a : α) : assocO (l1 ++ l2) a = match assocO l1 a with | some b => some b | none => assocO l2 a := by
  induction l1 with
  | nil => rfl
  | cons x r ih =>
    simp only [List.cons_append, assocO]
    split
    · rfl
    · exact ih

theorem rvOs_epoch : ∀ (n : Nat) (l : List RV) (k m : Nat), assocO (rvOs n l) (0, k, m) = none
  | n, [], k, m => rfl
  | n, x :: l, k, m => by
    unfold rvOs
    split
    · simp only [assocO]
      rw [if_neg (by simp)]
      exact rvOs_epoch (n + 1) l k m
    · exact rvOs_epoch (n + 1) l k m

theorem rvDs_get : ∀ (n : Nat) (l : List RV) (j : Nat) (x : RV), l[j]? = some x → assoc D.dead (rvDs n l) (n + j) = x.d (n + j)
  | n, [], j, x, h => by simp at h
  | n, y :: l, j, x, h => by
    cases j with
    | zero =>
      simp only [List.getElem?_cons_zero, Option.some.injEq] at h
      subst h
      simp [rvDs, assoc]
    | succ j =>
      simp only [List.getElem?_cons_succ] at h
      have := rvDs_get (n + 1) l j x h
      rw [show n + (j + 1) = n + 1 + j by omega]
      simp only [rvDs, assoc]
      rw [if_neg (by omega)]
      exact this

theorem RV.o_gone {x : RV} {o : Obj} (h : x.o = some o) : o ≠ .gone := by
  cases x <;> simp [RV.o] at h <;> subst h <;> simp
theorem Arg.o_gone {x : Arg} {o : Obj} (h : x.o = some o) : o ≠ .gone := by
  cases x <;> simp [Arg.o] at h <;> subst h <;> simp

section
variable {C : Ctx} {r : Fm} {G : Goal}

theorem exec_call {ops : Array Oper} {i : Nat} {o : Oper} {X : Nat → Prop} {st : St} {c : Call} (hnotX : ¬ X i) (hE : EnvOk C.E) (ho : ops[i]? = some o) (hg : guardOf ops st o.guard = some true) (hop : o.op = .call c) (hdst : dstOk C.E o = true)
    (pts : List Nat) (ms : List AM) {f : Nat} {as : List AE} (hpre : preE C.E st c pts ms = some (f, as)) (hcnd : andL (as.flatMap (·.cond))) {args : List Arg} {ret : Ret} (hargs : as.map (·.arg) = args) (hf : Fun C.E f args ret)
    {e : Eff} (he : callE st i as ret = some e) {ρ : Id → Option Lay} {S : Nat → Prop} {a : Act} {w : World} (hrep : Rep C X ρ S st a.tmps w) (hd : a.defers = r.ds) (b : Frame) (rest : List Nat) (kk : List Go.Item) (cs : List Frame) (hb : b.roundOf = r.r) :
    ∃ ρ' S' a' w', Rep C (fun j => X j ∨ j = i) ρ' S' (st.app i o.dst e) a'.tmps w' ∧ a'.defers = r.ds ∧
      StepsIn (Machine.fenced C.E.prog (fence r.r)) C.E.prog (lone (b.atR a (.inRegion ops (i :: rest) :: kk)) cs w) (lone (b.atR a' (.inRegion ops rest :: kk)) cs w') := by
  subst hargs
  have hi : i < ops.size := (Array.getElem?_eq_some_iff.1 ho).1
  have hwant := guard_rel hrep hg
  -- the callee and its arguments
  unfold preE at hpre
  split at hpre
  case h_2 => simp at hpre
  rename_i fo hcal
  split at hpre
  case h_2 => simp at hpre
  rename_i g first caps hcd
  dsimp only at hpre
  split at hpre
  case isFalse => simp at hpre
  rename_i hlen
  split at hpre
  case h_2 => simp at hpre
  rename_i as' has
  split at hpre
  case isFalse => simp at hpre
  rename_i hok
  simp only [Option.some.injEq, Prod.mk.injEq] at hpre
  obtain ⟨rfl, rfl⟩ := hpre
  simp only [Bool.and_eq_true] at hok
  obtain ⟨⟨hpi, hal⟩, hfl⟩ := hok
  obtain ⟨vals, hvs, hvr, hrun⟩ := callee_run hrep (pts := pts) hcal hcd hfl (fun x hx => List.all_eq_true.1 hal x hx)
  generalize hds : first ++ argsD C.E st.slots c.args.toList pts ++ caps = ds at *
  obtain ⟨fn, hfn1, hfn2, hfn3⟩ := hf.1
  have hrun := hrun o.type fn hfn1 hfn2 hfn3
  obtain ⟨a1, a2⟩ := allM_some has
  have hal' : as'.length = ds.length := by rw [a1, List.length_zip]; omega
  -- what is frozen
  have hfs0 : ∀ g ∈ as'.flatMap (·.fs), ∃ o, st.objs g = some o ∧ o ≠ .gone := by
    intro g hg
    obtain ⟨x, hx, hgx⟩ := List.mem_flatMap.1 hg
    obtain ⟨j, hj, rfl⟩ := List.mem_iff_getElem.1 hx
    have hz : j < (ms.zip ds).length := by omega
    have hjd : j < ds.length := by omega
    have hjv : j < vals.size := by omega
    have hx' := a2 j (ms.zip ds)[j] as'[j] (List.getElem?_eq_getElem hz) (List.getElem?_eq_getElem hj)
    simp only [List.getElem_zip] at hx'
    exact (argE_rel (S1 := fun _ => True) (ρ' := fun id => match as'[j].id with | some id => ρ id | none => none) (k := 0) hrep (fun _ _ => trivial) hx' (hvr j vals[j] ds[j] (by simp [hjv]) (by simp [hjd])) (fun _ _ _ _ _ _ => trivial)
      (fun c hc => andL_all hcnd c (List.mem_flatMap.2 ⟨as'[j], hx, hc⟩)) (fun id hid => by simp [hid])).2.1 g hgx
  obtain ⟨S1, hS1, hF1, hrep1, hS1i⟩ := hrep.freeze _ hfs0
  have hn1 : nodupB ((argPi 0 as').map (·.1)) = true := by
    have := hpi
    simp only [piOk, Bool.and_eq_true] at this
    exact this.1.1
  have hrho : ∀ {new old : Id}, (new, old) ∈ argPi 0 as' → rhoOf (argPi 0 as') ρ new = ρ old := fun hm => by simp only [rhoOf, assocO_of_mem hn1 hm]
  have harg : ∀ (j : Nat) (hj : j < as'.length) (hjv : j < vals.size), RelD w S1 (rhoOf (argPi 0 as') ρ) vals[j] (as'[j].arg.d j) ∧
      (∀ o', as'[j].arg.o = some o' → ∃ id o, as'[j].id = some id ∧ st.objs id = some o ∧ o ≠ .gone ∧ o' ≠ .gone ∧ ∀ L, ρ id = some L → RelObj w S1 ρ L o → RelObj w S1 (rhoOf (argPi 0 as') ρ) L o') ∧
      (∀ id, as'[j].id = some id → ∃ o, st.objs id = some o ∧ o ≠ .gone) := by
    intro j hj hjv
    have hz : j < (ms.zip ds).length := by omega
    have hjd : j < ds.length := by omega
    have hx' := a2 j (ms.zip ds)[j] as'[j] (List.getElem?_eq_getElem hz) (List.getElem?_eq_getElem hj)
    simp only [List.getElem_zip] at hx'
    have hxm := List.getElem_mem hj
    have := argE_rel (S1 := S1) (ρ' := rhoOf (argPi 0 as') ρ) (k := j) hrep hS1 hx' (hvr j vals[j] ds[j] (by simp [hjv]) (by simp [hjd])) (fun f hf => hF1 f (List.mem_flatMap.2 ⟨_, hxm, hf⟩))
      (fun c hc => andL_all hcnd c (List.mem_flatMap.2 ⟨_, hxm, hc⟩)) (fun id hid => hrho (by have := argPi_mem 0 as' j _ id (List.getElem?_eq_getElem hj) hid; rwa [Nat.zero_add] at this))
    exact ⟨this.1, this.2.2.1, this.2.2.2⟩
  -- the callee's fit
  let Lt : Nat → Prop := fun b => ∃ new old o L, (new, old) ∈ argPi 0 as' ∧ st.objs old = some o ∧ o ≠ .gone ∧ ρ old = some L ∧ L.blk = some b
  let C' : Ctx := ⟨C.E.at vals.size, w, Lt, S1, fun k => rhoOf (argPi 0 as') ρ (0, k, 0)⟩
  have hvsz : vals.size = (as'.map (·.arg)).length := by rw [List.length_map]; omega
  have hcallee : Rep C' (fun _ => False) (rhoOf (argPi 0 as') ρ) S1 (argSt (as'.map (·.arg))) vals w := by
    refine hrep1.select (C' := C') hpi ?_ rfl rfl (Quiet.refl _) (Nat.le_refl _) (fun _ _ _ => rfl) (fun _ h => h) ?_ (fun _ => rfl) rfl (Nat.le_refl _) ?_ (fun b hb => .inl hb) (fun k L hk _ => hk)
    · intro new o' ho'
      obtain ⟨j, x, q1, q2, q3⟩ := argOs_mem 0 _ _ _ (assocO_mem ho')
      rw [Nat.zero_add] at q2
      rw [List.getElem?_map, Option.map_eq_some_iff] at q1
      obtain ⟨ae, q1, rfl⟩ := q1
      obtain ⟨hj, rfl⟩ := List.getElem?_eq_some_iff.1 q1
      obtain ⟨id, o1, r1, r2, r3, r4, r5⟩ := (harg j hj (by omega)).2.1 o' q3
      refine ⟨id, o1, ?_, by rw [freezeL_objs]; exact r2, r3, r5⟩
      rw [q2]
      have := argPi_mem 0 as' j _ id (List.getElem?_eq_getElem hj) r1
      rwa [Nat.zero_add] at this
    · intro new old o1 L b1 hm q2 q3 q4 q5
      rw [freezeL_objs] at q2
      exact .inr ⟨new, old, o1, L, hm, q2, q3, q4, q5⟩
    · intro k'
      show RelD w S1 _ (vals.getD k' undef) (assoc D.dead (argDs 0 (as'.map (·.arg))) k')
      rcases assoc_mem D.dead (argDs 0 (as'.map (·.arg))) k' with hk | hk
      · rw [hk]; exact .dead _
      · obtain ⟨j, x, q1, q2, q3⟩ := argDs_mem 0 _ _ _ hk
        rw [Nat.zero_add] at q2 q3
        subst q2
        rw [q3]
        rw [List.getElem?_map, Option.map_eq_some_iff] at q1
        obtain ⟨ae, q1, rfl⟩ := q1
        obtain ⟨hj, rfl⟩ := List.getElem?_eq_some_iff.1 q1
        have hjv : k' < vals.size := by omega
        have : vals.getD k' undef = vals[k'] := by simp [hjv]
        rw [this]
        exact (harg k' hj hjv).1
  -- the call
  obtain ⟨_, hcall⟩ := hf.2 w Lt S1 _ _ vals hvsz hcallee
  have hcg := hcall (b.atR a (.inRegion ops (i :: rest) :: kk) :: cs) (fun _ h => by simp [fence] at h)
  obtain ⟨ee, w', fr, ⟨vs, ρ2, S2, rfl, hvl, hrep2⟩, hsteps, hfrf, hleave⟩ := hcg
  -- what lies in the objects that were lent
  have hall : ∀ x ∈ argPi 0 as', st.fz x.2 = false ∧ x.2 ∉ as'.flatMap (·.fs) := by
    intro x hx
    have := hpi
    simp only [piOk, Bool.and_eq_true, List.all_eq_true, Bool.not_eq_true', decide_eq_true_eq] at this
    have := (this.2 x hx).2
    rw [freezeL_fz] at this
    simp only [Bool.or_eq_false_iff] at this
    exact ⟨this.2, by simpa using this.1⟩
  have hn2 : nodupB ((argPi 0 as').map (·.2)) = true := by
    have := hpi
    simp only [piOk, Bool.and_eq_true] at this
    exact this.1.2
  have hlent : ∀ (j : Nat) (x : AE) id, as'[j]? = some x → x.id = some id → ((0, j, 0), id) ∈ argPi 0 as' ∧ ∃ o L, st.objs id = some o ∧ o ≠ .gone ∧ ρ id = some L ∧ rhoOf (argPi 0 as') ρ (0, j, 0) = some L := by
    intro j x id hx hid
    have hm := argPi_mem 0 as' j x id hx hid
    rw [Nat.zero_add] at hm
    obtain ⟨hj, rfl⟩ := List.getElem?_eq_some_iff.1 hx
    obtain ⟨o, q1, q2⟩ := (harg j hj (by omega)).2.2 id hid
    obtain ⟨L, hL, _⟩ := hrep.objs id o q1 q2
    exact ⟨hm, o, L, q1, q2, hL, by rw [hrho hm]; exact hL⟩
  have hsame : ∀ (j j' : Nat) (x x' : AE) id, as'[j]? = some x → x.id = some id → as'[j']? = some x' → x'.id = some id → j = j' := by
    intro j j' x x' id h1 h2 h3 h4
    have := nodup_snd hn2 (hlent j x id h1 h2).1 (hlent j' x' id h3 h4).1
    simpa using this
  have hout : ∀ (j : Nat) (x : AE) id o', as'[j]? = some x → x.id = some id → backO ret.outs j = o' → o' ≠ .gone → (∃ aa : Arg, aa.o = some o') ∧ (retSt ret).objs (0, j, 0) = some o' ∧ ∃ L, ρ id = some L ∧ ρ2 (0, j, 0) = some L ∧ RelObj w' S2 ρ2 L o' := by
    intro j x id o' hx hid hb hg
    unfold backO at hb
    split at hb
    · rename_i aa haa
      split at hb
      · rename_i oo hoo
        subst hb
        have hobj : (retSt ret).objs (0, j, 0) = some oo := by
          show assocO (rvOs 0 ret.res ++ outOs ret.outs) (0, j, 0) = some oo
          rw [assocO_append, rvOs_epoch]
          exact outOs_get _ _ _ _ haa hoo
        obtain ⟨L2, hL2, hro⟩ := hrep2.objs _ _ hobj hg
        obtain ⟨_, o1, L, q1, q2, q3, q4⟩ := hlent j x id hx hid
        have := hrep2.lay j L q4 (by rw [hL2]; simp)
        rw [hL2] at this; obtain rfl := Option.some.inj this
        exact ⟨⟨aa, hoo⟩, hobj, L2, q3, hL2, hro⟩
      · exact absurd hb.symm hg
    · exact absurd hb.symm hg
  -- a block of a lent object that is met elsewhere: the object is gone
  have hgone : ∀ b1, Lt b1 → (∀ j o', (retSt ret).objs (0, j, 0) = some o' → o' ≠ .gone → ∀ L, ρ2 (0, j, 0) = some L → L.blk ≠ some b1) →
      ∃ id o' L', (id, Obj.gone) ∈ backL ret.outs 0 as' ∧ st.objs id = some o' ∧ o' ≠ .gone ∧ ρ id = some L' ∧ L'.blk = some b1 ∧ (∀ o'', (id, o'') ∈ backL ret.outs 0 as' → o'' = .gone) := by
    rintro b1 ⟨new, old, o1, L, hm, q1, q2, q3, q4⟩ hno
    obtain ⟨j, x, hx, hnw, hid⟩ := argPi_inv 0 as' new old hm
    rw [Nat.zero_add] at hnw
    have hbg : backO ret.outs j = .gone := by
      cases hbo : backO ret.outs j with
      | gone => rfl
      | _ =>
        exfalso
        obtain ⟨_, r1, L2, r2, r3, _⟩ := hout j x old _ hx hid hbo (by simp)
        rw [q3] at r2; obtain rfl := Option.some.inj r2
        exact hno j _ r1 (by simp) _ r3 q4
    refine ⟨old, o1, L, ?_, q1, q2, q3, q4, fun o'' hm'' => ?_⟩
    · have := backL_in (outs := ret.outs) 0 as' j x old hx hid
      rw [Nat.zero_add, hbg] at this
      exact this
    · obtain ⟨j', x', r1, r2, r3⟩ := backL_mem 0 as' old o'' hm''
      rw [Nat.zero_add] at r3
      rw [r3, ← hsame j j' x x' old hx hid r1 r2, hbg]
  -- the caller's fit behind the call
  unfold callE at he
  split at he
  case h_2 => simp at he
  rename_i rds hrds
  simp only [Option.some.injEq] at he
  subst he
  obtain ⟨rl, rg⟩ := rvAts_get 0 _ _ hrds
  have hfresh := hrep.fresh hnotX
  let ρc : Id → Option Lay := fun id => if id.1 = st.ep ∧ id.2.1 = i then ρ2 (1, id.2.2, 0) else ρ id
  have hρc : ∀ id L, ρ id = some L → ρc id = some L := by
    intro id L hL
    simp only [ρc]
    split
    · rename_i hc
      obtain ⟨ep, jj, kk⟩ := id
      simp only at hc
      obtain ⟨rfl, rfl⟩ := hc
      rw [hfresh kk] at hL; simp at hL
    · exact hL
  have hρn : ∀ m, ρc (st.ep, i, m) = ρ2 (1, m, 0) := fun m => by simp [ρc]
  have hmade : ∀ m o', (m, o') ∈ rvNews 0 ret.res → (∃ aa : Arg, aa.o = some o') ∧ o' ≠ .gone ∧ (retSt ret).objs (1, m, 0) = some o' ∧ ∃ L, ρ2 (1, m, 0) = some L ∧ RelObj w' S2 ρ2 L o' := by
    intro m o' hm
    obtain ⟨j, x, q1, q2, q3⟩ := rvNews_mem 0 _ _ _ hm
    have hg := RV.o_gone q3
    have hobj : (retSt ret).objs (1, m, 0) = some o' := by
      show assocO (rvOs 0 ret.res ++ outOs ret.outs) (1, m, 0) = some o'
      rw [assocO_append, q2, rvOs_in 0 _ j x o' q1 q3]
    obtain ⟨L, hL, hro⟩ := hrep2.objs _ _ hobj hg
    exact ⟨RV.o_arg q3, hg, hobj, L, hL, hro⟩
  have hmb : ∀ m o' L b1, (m, o') ∈ rvNews 0 ret.res → ρ2 (1, m, 0) = some L → L.blk = some b1 → b1 < w'.heap.size ∧ ¬ S2 b1 ∧ (w.heap.size ≤ b1 ∨ ∃ id o' L', (id, Obj.gone) ∈ backL ret.outs 0 as' ∧ st.objs id = some o' ∧ o' ≠ .gone ∧ ρ id = some L' ∧ L'.blk = some b1 ∧ (∀ o'', (id, o'') ∈ backL ret.outs 0 as' → o'' = .gone)) := by
    intro m o' L b1 hm hL hb1
    obtain ⟨_, hg, hobj, _, _, _⟩ := hmade m o' hm
    obtain ⟨r1, r2, r3, r4⟩ := hrep2.own _ _ L b1 hobj hg hL hb1
    refine ⟨r1, r4 rfl, ?_⟩
    rcases r2 with r2 | r2
    · exact .inl r2
    · refine .inr (hgone b1 r2 fun j o'' ho'' hg'' L'' hL'' hb'' => ?_)
      have := hrep2.inj _ _ L _ _ L'' b1 hobj hg hL hb1 ho'' hg'' hL'' hb''
      simp at this
  let N : Nat → Prop := fun b => S2 b ∧ ¬ S1 b
  obtain ⟨S', hrepc⟩ := hrep.stepN (i := i) (t := o.dst) (e := { val := tupD rds, new := rvNews 0 ret.res, wr := backL ret.outs 0 as', frz := as'.flatMap (·.fs) }) (v := tupV vs) (w' := w') ρc N
    (by
      rintro b1 ⟨h2, h3⟩
      refine ⟨hrep2.sIn b1 h2, ?_⟩
      rcases hrep2.sOut b1 h2 with h4 | h4 | h4
      · exact absurd h4 h3
      · exact .inl h4
      · refine .inr (hgone b1 h4 fun j o'' ho'' hg'' L'' hL'' hb'' => ?_)
        exact (hrep2.own _ _ L'' b1 ho'' hg'' hL'' hb'').2.2.2 rfl h2)
    (by
      rintro m o' L b1 hm hL hb1 ⟨h2, _⟩
      rw [hρn] at hL
      exact (hmb m o' L b1 hm hL hb1).2.1 h2)
    hnotX (dstOk_lt hdst) hrep2.grow hrep2.quiet
    (by
      intro b1 hb1 hne
      refine hrep2.frame b1 hb1 ?_
      rintro ⟨new, old, o1, L, hm, q1, q2, q3, q4⟩
      obtain ⟨j, x, hx, hnw, hid⟩ := argPi_inv 0 as' new old hm
      exact hne old _ L (backL_in (outs := ret.outs) 0 as' j x old hx hid) q3 q4)
    (by
      intro id o' hm
      obtain ⟨j, x, q1, q2, q3⟩ := backL_mem 0 as' id o' hm
      obtain ⟨r1, o1, L, r2, r3, _⟩ := hlent j x id q1 q2
      exact ⟨(hall _ r1).1, o1, r2, r3⟩)
    hρc
    (by
      intro id hn
      simp only [ρc] at hn
      split at hn
      · rename_i hc; exact .inr hc
      · exact .inl hn)
    (by
      intro id hm
      obtain ⟨o1, q1, q2⟩ := hfs0 id hm
      obtain ⟨L, hL, _⟩ := hrep.objs id o1 q1 q2
      refine ⟨by rw [hL]; simp, fun o' hm' => ?_⟩
      obtain ⟨j, x, r1, r2, _⟩ := backL_mem 0 as' id o' hm'
      exact (hall _ (hlent j x id r1 r2).1).2 hm)
    (by
      intro m o' hm
      obtain ⟨⟨aa, haa⟩, hg, hobj, L, hL, hro⟩ := hmade m o' hm
      refine ⟨L, by rw [hρn]; exact hL, fun b1 hb1 => ?_, fun S'' hN hS hF _ => ?_⟩
      · have := hmb m o' L b1 hm hL hb1
        exact ⟨this.2.2, this.1⟩
      · refine RelObj.pureArg haa (fun _ _ _ => rfl) (fun b1 hb1 => ?_) (fun _ _ => rfl) hro
        by_cases h1 : S1 b1
        · rcases hS1i b1 h1 with h2 | ⟨g, Lg, h2, h3, h4⟩
          · exact hS b1 h2
          · obtain ⟨o1, q1, q2⟩ := hfs0 g h2
            exact hF g h2 o1 Lg b1 q1 q2 h3 h4
        · exact hN b1 ⟨hb1, h1⟩)
    (by
      intro m o1 L1 m' o2 L2 b1 hm hg hL hb1 hm' hg' hL' hb1'
      rw [hρn] at hL hL'
      have := hrep2.inj _ _ L1 _ _ L2 b1 (hmade m o1 hm).2.2.1 hg hL hb1 (hmade m' o2 hm').2.2.1 hg' hL' hb1'
      simpa using this)
    (by
      intro id o' L hm hg hL S'' hN hS hF
      obtain ⟨j, x, q1, q2, q3⟩ := backL_mem 0 as' id o' hm
      rw [Nat.zero_add] at q3
      obtain ⟨⟨aa, haa⟩, _, L2, r2, r3, hro⟩ := hout j x id o' q1 q2 q3.symm hg
      rw [hL] at r2; obtain rfl := Option.some.inj r2
      refine RelObj.pureArg haa (fun _ _ _ => rfl) (fun b1 hb1 => ?_) (fun _ _ => rfl) hro
      by_cases h1 : S1 b1
      · rcases hS1i b1 h1 with h2 | ⟨g, Lg, h2, h3, h4⟩
        · exact hS b1 h2
        · obtain ⟨o1, q1, q2⟩ := hfs0 g h2
          exact hF g h2 o1 Lg b1 q1 q2 h3 h4
      · exact hN b1 ⟨hb1, h1⟩)
    (by
      intro S'' hN hS hF _ _
      have hS2 : ∀ b1, S2 b1 → S'' b1 := fun b1 hb1 => by
        by_cases h1 : S1 b1
        · rcases hS1i b1 h1 with h2 | ⟨g, Lg, h2, h3, h4⟩
          · exact hS b1 h2
          · obtain ⟨o1, q1, q2⟩ := hfs0 g h2
            exact hF g h2 o1 Lg b1 q1 q2 h3 h4
        · exact hN b1 ⟨hb1, h1⟩
      have each : ∀ (j : Nat) (hj : j < vs.size) (hjr : j < rds.length), RelD w' S'' ρc vs[j] rds[j] := by
        intro j hj hjr
        have hjl : j < ret.res.length := by omega
        have hs := hrep2.slots j
        have hsv : vs.getD j undef = vs[j] := by simp [hj]
        rw [hsv, show (retSt ret).slots j = assoc D.dead (rvDs 0 ret.res) j from rfl] at hs
        have := rvDs_get 0 ret.res j ret.res[j] (List.getElem?_eq_getElem hjl)
        rw [Nat.zero_add] at this
        rw [this] at hs
        have hat := rg j ret.res[j] rds[j] (List.getElem?_eq_getElem hjl) (List.getElem?_eq_getElem hjr)
        rw [Nat.zero_add] at hat
        generalize vs[j] = v at hs
        generalize ret.res[j] = x at hs hat
        generalize rds[j] = d at hat
        cases x with
        | p x =>
          simp only [RV.at, Option.some.injEq] at hat; subst hat
          exact .p _ _ (hs.of_p.mono (fun _ _ _ => rfl) hS2)
        | own sz es =>
          simp only [RV.at, Option.some.injEq] at hat; subst hat
          cases hs with
          | sl _ _ _ cap ad L hL hl hm hcp ha => exact .sl _ 0 _ cap ad L (by rw [hρn]; exact hL) hl hm hcp ha
        | box cs =>
          simp only [RV.at, Option.some.injEq] at hat; subst hat
          cases hs with
          | ptr _ _ _ L b hL hi hb => exact .ptr _ 0 0 L b (by rw [hρn]; exact hL) hi hb
        | map td kv =>
          simp only [RV.at, Option.some.injEq] at hat; subst hat
          cases hs with
          | map _ L b hL hb => exact .map _ L b (by rw [hρn]; exact hL) hb
        | view kk off len =>
          simp only [RV.at] at hat
          split at hat
          · rename_i x hx
            split at hat
            · rename_i id hid
              simp only [Option.some.injEq] at hat; subst hat
              cases hs with
              | sl _ _ _ cap ad L hL hl hm hcp ha =>
                obtain ⟨_, o1, L0, q1, q2, q3, q4⟩ := hlent kk x id hx hid
                have := hrep2.lay kk L0 q4 (by rw [hL]; simp)
                rw [hL] at this; obtain rfl := Option.some.inj this
                exact .sl id off _ cap ad L (hρc _ _ q3) hl hm hcp ha
            · simp at hat
          · simp at hat
      have hvr : vs.size = rds.length := by omega
      show RelD _ _ _ _ (tupD rds)
      unfold tupD
      split
      · rename_i d
        have h1 : vs.size = 1 := by simpa using hvr
        have := each 0 (by omega) (by simp)
        unfold tupV
        rw [dif_pos h1]
        simpa using this
      · rename_i hne
        have h1 : vs.size ≠ 1 := fun h1 => by
          rw [h1] at hvr
          match rds, hvr with
          | [d], _ => exact hne d rfl
        unfold tupV
        rw [dif_neg h1]
        refine .tup _ _ hvr fun j u d hu hd => ?_
        obtain ⟨hj, rfl⟩ := Array.getElem?_eq_some_iff.1 hu
        obtain ⟨hj', rfl⟩ := List.getElem?_eq_some_iff.1 hd
        exact each j hj hj')
  refine ⟨ρc, S', a.put o.dst (tupV vs), w', hrepc, by simp [hd], ?_⟩
  -- the machine's steps
  have hsem : o.semAt b.roundOf a.eval = execOp a.eval o := Oper.semAt_eq _ _ _ (fun c hc' => by rw [hc'] at hop; cases hop)
  have hexec : (execOp a.eval o).run C.E.prog w = .ok (.enter g vals) w := by
    simp only [execOp, hop]
    exact hrun
  have hst := stepGR_op (P := C.E.prog) (b := b) (a := a) (k := kk) (cs := cs) (w := w) (i := i) (rest := rest) ho hwant
  have hfin := Frame.finish_atR b a ops i rest kk (tupV vs)
  simp only [ho, Option.bind_some] at hfin
  refine .head (fenced_all _ _ _) (step_lone_go (fr' := Frame.enter C.E.prog g vals .normal) (cs' := b.atR a (.inRegion ops (i :: rest) :: kk) :: cs) (w' := w) ?_) ?_
  · rw [hst, hsem]
    simp [stepG.apply, hexec, Frame.atR]
  · refine StepsIn.trans hsteps (.one (fenced_all _ _ _) ?_)
    rw [← hfin]
    exact step_leave_returned hleave

theorem awp_call {ops : Array Oper} {i : Nat} {o : Oper} {k : List Item} {st : St} {c : Call} (hE : EnvOk C.E) (ho : ops[i]? = some o) (hg : guardOf ops st o.guard = some true) (hop : o.op = .call c) (hdst : dstOk C.E o = true)
    (pts : List Nat) (ms : List AM) {f : Nat} {as : List AE} (hpre : preE C.E st c pts ms = some (f, as)) (hcnd : andL (as.flatMap (·.cond))) {args : List Arg} {ret : Ret} (hargs : as.map (·.arg) = args) (hf : Fun C.E f args ret)
    {e e' : Eff} (he : callE st i as ret = some e) (hee : e = e') (h1 : AWP C r G (.ops ops (i + 1) :: k) (st.app i o.dst e')) : AWP C r G (.ops ops i :: k) st := by
  subst hee
  have hi : i < ops.size := (Array.getElem?_eq_some_iff.1 ho).1
  intro ρ S a w hrep hd b k0 cs hb
  have hrep : Rep C (fun j => j < i) ρ S st a.tmps w := hrep
  obtain ⟨ρ', S', a', w', hr', hd', hs⟩ := exec_call (r := r) (by simp) hE ho hg hop hdst pts ms hpre hcnd hargs hf he hrep hd b (List.range' (i + 1) (ops.size - (i + 1))) (k.map conc ++ k0) cs hb
  obtain ⟨e2, a2', w2, hg2, harr⟩ := h1 ρ' S' a' w' (hr'.weakX (fun j hj => by simp only [Xof]; omega)) hd' b k0 cs hb
  refine ⟨e2, a2', w2, hg2, .of_steps ?_ harr⟩
  simp only [List.map_cons, List.cons_append, conc, range'_cons hi]
  exact hs

end
end Eng

/- The engine, part ZF: an operation looks at its operands alone, and at what they lead to. -/
namespace Eng
open Go

def AgreeOn (lk lk' : Id → Option Obj) (l : List Id) : Prop := ∀ id ∈ l, lk id = lk' id

theorem ids_mono {lk : Id → Option Obj} : ∀ (n : Nat) (d : D) (id : Id), id ∈ d.ids lk n → id ∈ d.ids lk (n + 1) := by
  intro n
  induction n with
  | zero =>
    intro d id h
    cases d with
    | ptr id' i j => simp only [D.ids, List.mem_singleton] at h; subst h; simp [D.ids]
    | agg cs => simp [D.ids] at h
    | tup cs => simp [D.ids] at h
    | fn f a b => simp [D.ids] at h
    | it id' => simpa [D.ids] using h
    | sl id' o l => simpa using h
    | map id' => simpa using h
    | _ => simp [D.ids] at h
  | succ n ih =>
    intro d id h
    have lst : ∀ cs : List D, id ∈ cs.flatMap (D.ids lk n) → id ∈ cs.flatMap (D.ids lk (n + 1)) := fun cs hm => by
      obtain ⟨c, hc, hi⟩ := List.mem_flatMap.1 hm
      exact List.mem_flatMap.2 ⟨c, hc, ih c id hi⟩
    cases d with
    | ptr id' i j =>
      simp only [D.ids, List.mem_cons] at h ⊢
      rcases h with h | h
      · exact .inl h
      · right
        split at h
        · rename_i cs hlk; exact lst _ h
        · simp at h
    | agg cs => simp only [D.ids] at h ⊢; exact lst _ h
    | tup cs => simp only [D.ids] at h ⊢; exact lst _ h
    | fn f a b =>
      simp only [D.ids, List.mem_append] at h ⊢
      exact h.imp (lst _) (lst _)
    | it id' => simpa [D.ids] using h
    | sl id' o l => simpa using h
    | map id' => simpa using h
    | _ => simp [D.ids] at h

theorem ids_le {lk : Id → Option Obj} {n m : Nat} (h : n ≤ m) (d : D) {id : Id} (hi : id ∈ d.ids lk n) : id ∈ d.ids lk m := by
  induction h with
  | refl => exact hi
  | step _ ih => exact ids_mono _ _ _ ih

theorem allM_congr {α β : Type} {f g : α → Option β} : ∀ {l : List α}, (∀ x ∈ l, f x = g x) → allM f l = allM g l
  | [], _ => rfl
  | x :: l, h => by simp only [allM, h x (by simp), allM_congr (l := l) fun y hy => h y (by simp [hy])]

theorem toP_congr {lk lk' : Id → Option Obj} : ∀ (n : Nat) (d : D), AgreeOn lk lk' (d.ids lk n) → d.toP lk n = d.toP lk' n ∧ d.ids lk n = d.ids lk' n := by
  intro n
  induction n with
  | zero =>
    intro d h
    cases d with
    | sl id o l => rw [toP_sl, toP_sl, h id (by simp)]; simp
    | map id => rw [toP_map, toP_map, h id (by simp)]; simp
    | _ => simp [D.toP, D.ids]
  | succ n ih =>
    intro d h
    have lst : ∀ cs : List D, (∀ id ∈ cs.flatMap (D.ids lk n), lk id = lk' id) → allM (D.toP lk n) cs = allM (D.toP lk' n) cs ∧ cs.flatMap (D.ids lk n) = cs.flatMap (D.ids lk' n) := fun cs hm => by
      have hh : ∀ c ∈ cs, D.toP lk n c = D.toP lk' n c ∧ D.ids lk n c = D.ids lk' n c := fun c hc => ih c fun id hid => hm id (List.mem_flatMap.2 ⟨c, hc, hid⟩)
      refine ⟨allM_congr fun c hc => (hh c hc).1, ?_⟩
      clear hm
      induction cs with
      | nil => rfl
      | cons c cs ihc =>
        simp only [List.flatMap_cons, (hh c (by simp)).2, ihc fun c hc => hh c (by simp [hc])]
    cases d with
    | sl id o l => rw [toP_sl, toP_sl, h id (by simp)]; simp
    | map id => rw [toP_map, toP_map, h id (by simp)]; simp
    | agg cs =>
      obtain ⟨q1, q2⟩ := lst cs (fun id hid => h id (by simpa [D.ids] using hid))
      simp [D.toP, D.ids, q1, q2]
    | ptr id i j =>
      have h0 := h id (by simp [D.ids])
      cases hlk : lk id with
      | none => rw [hlk] at h0; simp [D.toP, D.ids, hlk, ← h0]
      | some o =>
        rw [hlk] at h0
        cases o with
        | box cs =>
          obtain ⟨q1, q2⟩ := lst (cs.drop j) (fun id' hid => h id' (by simp only [D.ids, hlk, List.mem_cons]; exact .inr hid))
          simp only [D.toP, D.ids, hlk, ← h0, q1, q2, and_self]
        | _ => simp [D.toP, D.ids, hlk, ← h0]
    | tup cs =>
      obtain ⟨q1, q2⟩ := lst cs (fun id hid => h id (by simpa [D.ids] using hid))
      simp [D.toP, D.ids, q2]
    | fn f a b =>
      obtain ⟨q1, q2⟩ := lst a (fun id hid => h id (by simp only [D.ids, List.mem_append]; exact .inl hid))
      obtain ⟨q3, q4⟩ := lst b (fun id hid => h id (by simp only [D.ids, List.mem_append]; exact .inr hid))
      simp [D.toP, D.ids, q1, q2, q3, q4]
    | _ => simp [D.toP, D.ids]

/-- What an operation may look at. -/
def opIds (E : Env) (sl : Nat → D) (lk : Id → Option Obj) (xs : List Operand) : List Id := xs.flatMap fun x => (ev E sl 0 x).ids lk (depth + 1)

theorem ev_ids {E : Env} {sl : Nat → D} {lk : Id → Option Obj} (n : Nat) (t : Nat) (x : Operand) : (ev E sl t x).ids lk n = (ev E sl 0 x).ids lk n := by
  cases x with
  | const v =>
    have : ∀ sz td, (D.ofV sz td v).ids lk n = [] := by
      intro sz td
      unfold D.ofV
      split <;> cases n <;> simp [D.ids]
    simp only [ev, this]
  | _ => rfl

section
variable {E : Env} {sl sl' : Nat → D} {lk lk' : Id → Option Obj} {xs : List Operand}

theorem opIds_get (h : AgreeOn lk lk' (opIds E sl lk xs)) {x : Operand} (hx : x ∈ xs) (t : Nat) {n : Nat} (hn : n ≤ depth + 1) : AgreeOn lk lk' ((ev E sl t x).ids lk n) := fun id hid => by
  refine h id (List.mem_flatMap.2 ⟨x, hx, ?_⟩)
  rw [← ev_ids (depth + 1) t x]
  exact ids_le hn _ hid

theorem srcOf_congr {d : D} {sz : Nat} (h : AgreeOn lk lk' (d.ids lk 1)) : srcOf lk sz d = srcOf lk' sz d := by
  have := (toP_congr 1 d h).1
  unfold srcOf
  split
  · rfl
  · rw [this]

theorem lenD_congr {d : D} {td : TD} (h : AgreeOn lk lk' (d.ids lk 1)) : lenD lk td d = lenD lk' td d := by
  unfold lenD
  split <;> try rfl
  rename_i id _
  rw [h _ (by simp)]

theorem mapOf_congr {d : D} (h : AgreeOn lk lk' (d.ids lk 1)) : mapOf lk d = mapOf lk' d := by
  unfold mapOf
  split <;> try rfl
  rw [h _ (by simp)]

theorem fillElems_congr {t : Nat} {te : TI} (hev : ∀ t x, x ∈ xs → ev E sl t x = ev E sl' t x) (h : AgreeOn lk lk' (opIds E sl lk xs)) :
    ∀ (parts : List (Nat × Operand)) (es : List P), (∀ p ∈ parts, p.2 ∈ xs) → fillElems E sl lk t te parts es = fillElems E sl' lk' t te parts es
  | [], _, _ => rfl
  | (i, x) :: r, es, hp => by
    have hx := hp (i, x) (by simp)
    simp only [fillElems, ← hev t x hx, ← (toP_congr depth _ (opIds_get h hx t (by decide))).1]
    split
    · split
      · exact fillElems_congr hev h r _ fun p hp' => hp p (by simp [hp'])
      · rfl
    · rfl

theorem idsOf_congr {t : Nat} (hev : ∀ t x, x ∈ xs → ev E sl t x = ev E sl' t x) (h : AgreeOn lk lk' (opIds E sl lk xs)) :
    ∀ (parts : List (Nat × Operand)), (∀ p ∈ parts, p.2 ∈ xs) → idsOf E sl lk t parts = idsOf E sl' lk' t parts
  | [], _ => rfl
  | (i, x) :: r, hp => by
    have hx := hp (i, x) (by simp)
    have := idsOf_congr (t := t) hev h r fun p hp' => hp p (by simp [hp'])
    unfold idsOf at this ⊢
    simp only [List.flatMap_cons, ← hev t x hx, ← (toP_congr depth _ (opIds_get h hx t (by decide))).2, this]

theorem fillAt_congr {ti : TI} (hev : ∀ t x, x ∈ xs → ev E sl t x = ev E sl' t x) : ∀ (parts : List (Nat × Operand)) (cs : List D), (∀ p ∈ parts, p.2 ∈ xs) → fillAt E sl ti parts cs = fillAt E sl' ti parts cs
  | [], _, _ => rfl
  | (i, x) :: r, cs, hp => by
    have hx := hp (i, x) (by simp)
    simp only [fillAt]
    split
    · split
      · simp only [← hev _ x hx]
        split
        · exact fillAt_congr hev r _ fun p hp' => hp p (by simp [hp'])
        · rfl
      · rfl
    · rfl

theorem argsD_congr (hev : ∀ t x, x ∈ xs → ev E sl t x = ev E sl' t x) : ∀ (args : List Operand) (ts : List Nat), (∀ x ∈ args, x ∈ xs) → argsD E sl args ts = argsD E sl' args ts
  | [], _, _ => by cases ‹List Nat› <;> rfl
  | x :: r, [], h => by simp only [argsD, hev 0 x (h x (by simp)), argsD_congr hev r [] fun y hy => h y (by simp [hy])]
  | x :: r, t :: ts, h => by simp only [argsD, hev t x (h x (by simp)), argsD_congr hev r ts fun y hy => h y (by simp [hy])]

theorem argsD_ids (h : AgreeOn lk lk' (opIds E sl lk xs)) : ∀ (args : List Operand) (ts : List Nat), (∀ x ∈ args, x ∈ xs) → ∀ d ∈ argsD E sl args ts, AgreeOn lk lk' (d.ids lk (depth + 1))
  | [], ts, _, d, hd => by cases ts <;> simp [argsD] at hd
  | x :: r, [], hx, d, hd => by
    simp only [argsD, List.mem_cons] at hd
    rcases hd with rfl | hd
    · exact opIds_get h (hx x (by simp)) 0 (Nat.le_refl _)
    · exact argsD_ids h r [] (fun y hy => hx y (by simp [hy])) d hd
  | x :: r, t :: ts, hx, d, hd => by
    simp only [argsD, List.mem_cons] at hd
    rcases hd with rfl | hd
    · exact opIds_get h (hx x (by simp)) t (Nat.le_refl _)
    · exact argsD_ids h r ts (fun y hy => hx y (by simp [hy])) d hd

end
end Eng

/- The engine, part ZG: an operation without a call looks at its operands alone, and at the objects of its footprint. -/
namespace Eng
open Go

/-- The object that an address, a slice, a map names. -/
def D.shal : D → List Id
  | .sl id _ _ => [id]
  | .ptr id _ _ => [id]
  | .map id => [id]
  | .it id => [id]
  | _ => []

/-- The objects that an operation looks at. -/
def foot (E : Env) (op : Op) (sl : Nat → D) (lk : Id → Option Obj) : List Id :=
  match op with
  | .move _ | .assign _ | .pick .. | .alloc _ | .box .. | .build .. | .nilCheck _ | .fieldAddr .. | .field .. | .binOp .. | .unOp .. | .extract .. | .makeFunc .. | .makeMap .. | .makeSlice .. | .index .. => []
  | .load _ a => (ev E sl 0 a).shal
  | .store _ a x => (ev E sl 0 a).shal ++ (ev E sl 0 x).ids lk depth
  | .indexAddr _ x _ => (ev E sl 0 x).shal
  | .slice _ x _ _ _ => (ev E sl 0 x).shal
  | .next x _ => (ev E sl 0 x).shal
  | .entry x => (ev E sl 0 x).shal
  | .range _ x => (ev E sl 0 x).shal
  | op => opIds E sl lk op.operands.toList

theorem shal_ids {lk : Id → Option Obj} {d : D} {n : Nat} {id : Id} (h : id ∈ d.shal) : id ∈ d.ids lk n := by
  cases d <;> simp only [D.shal, List.mem_singleton, List.not_mem_nil] at h <;> subst h <;> cases n <;> simp [D.ids]

theorem optInt_congr {E : Env} {sl sl' : Nat → D} {x : Option Operand} (h : ∀ y, x = some y → ev E sl 0 y = ev E sl' 0 y) : optInt E sl x = optInt E sl' x := by
  cases x with
  | none => rfl
  | some y => simp only [optInt, h y rfl]

theorem opIds_congr {E : Env} {sl sl' : Nat → D} {lk lk' : Id → Option Obj} : ∀ {xs : List Operand}, (∀ t x, x ∈ xs → ev E sl t x = ev E sl' t x) → AgreeOn lk lk' (opIds E sl lk xs) → opIds E sl lk xs = opIds E sl' lk' xs
  | [], _, _ => rfl
  | x :: r, he, h => by
    have h1 : AgreeOn lk lk' ((ev E sl 0 x).ids lk (depth + 1)) := fun id hid => h id (List.mem_flatMap.2 ⟨x, by simp, hid⟩)
    have h2 : AgreeOn lk lk' (opIds E sl lk r) := fun id hid => by
      obtain ⟨y, hy, hi⟩ := List.mem_flatMap.1 hid
      exact h id (List.mem_flatMap.2 ⟨y, by simp [hy], hi⟩)
    have := opIds_congr (xs := r) (fun t y hy => he t y (by simp [hy])) h2
    unfold opIds at this ⊢
    simp only [List.flatMap_cons, ← he 0 x (by simp), ← (toP_congr _ _ h1).2, this]

section
variable {E : Env} {sl sl' : Nat → D} {lk lk' : Id → Option Obj}

theorem mapUpdateE_congr {t : Nat} {m k v : Operand} (hev : ∀ t x, x ∈ [m, k, v] → ev E sl t x = ev E sl' t x) (h : AgreeOn lk lk' (opIds E sl lk [m, k, v])) : mapUpdateE E sl lk t m k v = mapUpdateE E sl' lk' t m k v := by
  have hm := fun t => hev t m (by simp)
  have hk := fun t => hev t k (by simp)
  have hv := fun t => hev t v (by simp)
  have cm := fun t n => opIds_get (n := n) h (x := m) (by simp) t
  have ck := fun t => (toP_congr 1 _ (opIds_get h (x := k) (by simp) t (by decide)))
  have cv := fun t => (toP_congr depth _ (opIds_get h (x := v) (by simp) t (by decide)))
  unfold mapUpdateE
  simp only [← hm, ← hk, ← hv, ← ck, ← cv]
  split <;> try rfl
  split <;> try rfl
  rename_i id he
  have := cm 0 1 (by decide) id (by rw [he]; simp)
  rw [this]

theorem convertD_congr {ep i s t : Nat} {d : D} (h : AgreeOn lk lk' (d.ids lk 1)) : convertD E ep i lk s t d = convertD E ep i lk' s t d := by
  have := (toP_congr 1 d h).1
  unfold convertD
  split <;> try rfl
  rw [this]

theorem sliceD_congr {sz : Option Nat} {d : D} {a b c : Option Int} (h : AgreeOn lk lk' d.shal) : sliceD lk sz d a b c = sliceD lk' sz d a b c := by
  unfold sliceD
  split <;> try rfl
  rename_i id _ _
  rw [h id (by simp [D.shal])]

theorem appendD_congr {ep i : Nat} {te : TI} {s x : D} (hs : AgreeOn lk lk' (s.ids lk 1)) (hx : AgreeOn lk lk' (x.ids lk 1)) : appendD lk ep i te s x = appendD lk' ep i te s x := by
  unfold appendD
  rw [srcOf_congr hx]
  split
  · rfl
  · split <;> try rfl
    rename_i id _
    rw [hs id (by simp)]

theorem copyD_congr {te : TI} {s x : D} (hs : AgreeOn lk lk' (s.ids lk 1)) (hx : AgreeOn lk lk' (x.ids lk 1)) : copyD lk te s x = copyD lk' te s x := by
  unfold copyD
  split <;> try rfl
  rename_i id _ _
  rw [hs id (by simp)]
  split <;> try rfl
  rw [srcOf_congr hx]

theorem builtinD_congr {ep i : Nat} {b : Builtin} {ats : List Nat} {ds : List D} (h : ∀ d ∈ ds, AgreeOn lk lk' (d.ids lk (depth + 1))) : builtinD E ep i lk b ats ds = builtinD E ep i lk' b ats ds := by
  have h1 : ∀ d ∈ ds, AgreeOn lk lk' (d.ids lk 1) := fun d hd id hid => h d hd id (ids_le (by decide) d hid)
  unfold builtinD
  split <;> try rfl
  · unfold lenE
    split <;> try rfl
    rename_i t d
    simp only [show ∀ td, lenD lk td d = lenD lk' td d from fun td => lenD_congr (h1 d (by simp))]
  · unfold appendE
    split <;> try rfl
    rename_i t u s x
    simp only [show ∀ te, appendD lk ep i te s x = appendD lk' ep i te s x from fun te => appendD_congr (h1 s (by simp)) (h1 x (by simp))]
  · unfold copyE
    split <;> try rfl
    rename_i t _ d s
    simp only [show ∀ te, copyD lk te d s = copyD lk' te d s from fun te => copyD_congr (h1 d (by simp)) (h1 s (by simp))]
  · unfold deleteE
    split <;> try rfl
    rename_i t _ id k
    rw [h1 (.map id) (by simp) id (by simp), (toP_congr 1 _ (h1 k (by simp))).1]

theorem core_congr {ep i : Nat} {op : Op} {ty : Nat} (hev : ∀ t x, x ∈ op.operands.toList → ev E sl t x = ev E sl' t x) (h : AgreeOn lk lk' (foot E op sl lk)) :
    core E ep i op ty sl lk = core E ep i op ty sl' lk' ∧ foot E op sl lk = foot E op sl' lk' := by
  cases op with
  | move x => have := fun t => hev t x (by simp [Op.operands]); exact ⟨by simp only [core, this], rfl⟩
  | assign x => have := fun t => hev t x (by simp [Op.operands]); exact ⟨by simp only [core, this], rfl⟩
  | pick c a b =>
    have h1 := fun t => hev t c (by simp [Op.operands])
    have h2 := fun t => hev t a (by simp [Op.operands])
    have h3 := fun t => hev t b (by simp [Op.operands])
    exact ⟨by simp only [core, h1, h2, h3], rfl⟩
  | alloc t => exact ⟨rfl, rfl⟩
  | box t x => have := fun t => hev t x (by simp [Op.operands]); exact ⟨by simp only [core, this], rfl⟩
  | build t ps =>
    refine ⟨?_, rfl⟩
    have := fun ti cs => fillAt_congr (E := E) (sl := sl) (sl' := sl') (ti := ti) (xs := ps.toList.map (·.2)) (fun t x hx => hev t x (by simpa [Op.operands] using hx)) ps.toList cs (fun p hp => List.mem_map_of_mem hp)
    simp only [core, this]
  | buildSlice t n ps =>
    have h0 : AgreeOn lk lk' (opIds E sl lk (ps.toList.map (·.2))) := by simpa [foot, Op.operands] using h
    have he : ∀ t x, x ∈ ps.toList.map (·.2) → ev E sl t x = ev E sl' t x := fun t x hx => hev t x (by simpa [Op.operands] using hx)
    have h1 := fun t te es => fillElems_congr (t := t) (te := te) he h0 ps.toList es (fun p hp => List.mem_map_of_mem hp)
    have h2 := fun t => idsOf_congr (t := t) he h0 ps.toList (fun p hp => List.mem_map_of_mem hp)
    exact ⟨by simp only [core, h1, h2], opIds_congr hev h⟩
  | insert t m k v =>
    have he : ∀ t x, x ∈ [m, k, v] → ev E sl t x = ev E sl' t x := fun t x hx => hev t x (by simpa [Op.operands] using hx)
    exact ⟨by simp only [core]; exact mapUpdateE_congr he (by simpa [foot, Op.operands] using h), opIds_congr hev h⟩
  | mapUpdate t m k v =>
    have he : ∀ t x, x ∈ [m, k, v] → ev E sl t x = ev E sl' t x := fun t x hx => hev t x (by simpa [Op.operands] using hx)
    exact ⟨by simp only [core]; exact mapUpdateE_congr he (by simpa [foot, Op.operands] using h), opIds_congr hev h⟩
  | load t x =>
    have h1 := fun t => hev t x (by simp [Op.operands])
    refine ⟨?_, by simp only [foot, h1]⟩
    simp only [foot] at h
    simp only [core, ← h1]
    split <;> try rfl
    split <;> try rfl
    rename_i id _ _ he
    rw [h id (by rw [he]; simp [D.shal])]
  | store t a x =>
    have h1 := fun t => hev t a (by simp [Op.operands])
    have h2 := fun t => hev t x (by simp [Op.operands])
    simp only [foot] at h
    have hx : AgreeOn lk lk' ((ev E sl t x).ids lk depth) := fun id hid => h id (by rw [ev_ids] at hid; simp [hid])
    have hx0 : AgreeOn lk lk' ((ev E sl 0 x).ids lk depth) := fun id hid => h id (by simp [hid])
    refine ⟨?_, by simp only [foot, ← h1, ← h2, ← (toP_congr depth _ hx0).2]⟩
    simp only [core, ← h1, ← h2, ← (toP_congr depth _ hx).1, ← (toP_congr depth _ hx).2]
    split <;> try rfl
    split <;> try rfl
    rename_i id _ _ he
    rw [h id (by rw [he]; simp [D.shal])]
  | nilCheck x => have := fun t => hev t x (by simp [Op.operands]); exact ⟨by simp only [core, this], rfl⟩
  | binOp b t x y u =>
    have h1 := fun t => hev t x (by simp [Op.operands])
    have h2 := fun t => hev t y (by simp [Op.operands])
    exact ⟨by simp only [core, h1, h2], rfl⟩
  | unOp u t x => have := fun t => hev t x (by simp [Op.operands]); exact ⟨by simp only [core, this], rfl⟩
  | convert s t x =>
    have h1 := fun t => hev t x (by simp [Op.operands])
    refine ⟨?_, opIds_congr hev h⟩
    simp only [core, ← h1]
    exact convertD_congr fun id hid => h id (List.mem_flatMap.2 ⟨x, by simp [Op.operands], ids_le (by decide) _ hid⟩)
  | makeFunc f fs cs =>
    refine ⟨?_, rfl⟩
    have h1 : fs.toList.map (ev E sl 0) = fs.toList.map (ev E sl' 0) := List.map_congr_left fun x hx => hev 0 x (by simp [Op.operands] at hx ⊢; exact .inl hx)
    have h2 : cs.toList.map (ev E sl 0) = cs.toList.map (ev E sl' 0) := List.map_congr_left fun x hx => hev 0 x (by simp [Op.operands] at hx ⊢; exact .inr hx)
    cases f <;> simp only [core, h1, h2]
  | makeMap t r => refine ⟨?_, rfl⟩; cases r <;> simp only [core]
  | makeSlice t l c =>
    have h1 := fun t => hev t l (by simp [Op.operands])
    have h2 := fun t => hev t c (by simp [Op.operands])
    exact ⟨by simp only [core, h1, h2], rfl⟩
  | slice t x lo hi mx =>
    have h1 := fun t => hev t x (by simp [Op.operands])
    have a1 := optInt_congr (E := E) (sl := sl) (sl' := sl') (x := lo) fun y hy => hev 0 y (by subst hy; simp [Op.operands])
    have a2 := optInt_congr (E := E) (sl := sl) (sl' := sl') (x := hi) fun y hy => hev 0 y (by subst hy; simp [Op.operands])
    have a3 := optInt_congr (E := E) (sl := sl) (sl' := sl') (x := mx) fun y hy => hev 0 y (by subst hy; simp [Op.operands])
    simp only [foot] at h
    refine ⟨?_, by simp only [foot, h1]⟩
    have := fun sz a b c => sliceD_congr (sz := sz) (a := a) (b := b) (c := c) h
    simp only [core, ← h1, ← a1, ← a2, ← a3, this]
  | fieldAddr t x f => have := fun t => hev t x (by simp [Op.operands]); exact ⟨by simp only [core, this], rfl⟩
  | field t x f => have := fun t => hev t x (by simp [Op.operands]); exact ⟨by simp only [core, this], rfl⟩
  | indexAddr t x ix =>
    have h1 := fun t => hev t x (by simp [Op.operands])
    have h2 := fun t => hev t ix (by simp [Op.operands])
    simp only [foot] at h
    refine ⟨?_, by simp only [foot, h1]⟩
    simp only [core, ← h1, ← h2]
    split <;> try rfl
    split <;> try rfl
    split <;> try rfl
    split <;> try rfl
    rename_i id _ _ he
    rw [h id (by rw [he]; simp [D.shal])]
  | index t x ix =>
    have h1 := fun t => hev t x (by simp [Op.operands])
    have h2 := fun t => hev t ix (by simp [Op.operands])
    exact ⟨by simp only [core, h1, h2], rfl⟩
  | lookup t m k ok =>
    have h1 := fun t => hev t m (by simp [Op.operands])
    have h2 := fun t => hev t k (by simp [Op.operands])
    refine ⟨?_, opIds_congr hev h⟩
    have hm : mapOf lk (ev E sl 0 m) = mapOf lk' (ev E sl 0 m) := mapOf_congr fun id hid => h id (List.mem_flatMap.2 ⟨m, by simp [Op.operands], ids_le (by decide) _ hid⟩)
    have hk := fun t => (toP_congr (lk := lk) (lk' := lk') 1 (ev E sl t k) fun id hid => h id (List.mem_flatMap.2 ⟨k, by simp [Op.operands], by rw [ev_ids] at hid; exact ids_le (by decide) _ hid⟩)).1
    simp only [core, ← h1, ← h2, hm, hk]
  | range t x =>
    have h1 := fun t => hev t x (by simp [Op.operands])
    simp only [foot] at h
    refine ⟨?_, by simp only [foot, h1]⟩
    simp only [core, ← h1]
    split <;> try rfl
    rename_i id _ he
    rw [h id (by rw [he]; simp [D.shal])]
  | next x s =>
    have h1 := fun t => hev t x (by simp [Op.operands])
    simp only [foot] at h
    refine ⟨?_, by simp only [foot, h1]⟩
    cases s with
    | false => simp only [core]
    | true =>
      simp only [core, ← h1]
      split <;> try rfl
      rename_i id he
      rw [h id (by rw [he]; simp [D.shal])]
  | entry x =>
    have h1 := fun t => hev t x (by simp [Op.operands])
    simp only [foot] at h
    refine ⟨?_, by simp only [foot, h1]⟩
    simp only [core, ← h1]
    split <;> try rfl
    rename_i id he
    rw [h id (by rw [he]; simp [D.shal])]
  | extract x n => have := fun t => hev t x (by simp [Op.operands]); exact ⟨by simp only [core, this], rfl⟩
  | call c =>
    obtain ⟨cal, args, ats⟩ := c
    refine ⟨?_, opIds_congr hev h⟩
    cases cal with
    | builtin b =>
      simp only [core]
      have hx : ∀ x ∈ args.toList, x ∈ (Op.call { callee := .builtin b, args := args, argTypes := ats }).operands.toList := fun x hx => by simpa [Op.operands, Call.operands] using hx
      rw [← argsD_congr (xs := args.toList) (fun t x hx' => hev t x (hx x hx')) args.toList ats.toList (fun x hx => hx)]
      exact builtinD_congr (argsD_ids h args.toList ats.toList hx)
    | _ => simp only [core]
  | _ => exact ⟨by simp only [core], opIds_congr hev h⟩

end
end Eng

/- The engine, part ZH: one operation among others of its region; what it looks at. -/
namespace Eng
open Go

/-- The operation turns the fit of st into the fit of st', whatever is left of its region. -/
def Exec (C : Ctx) (r : Fm) (ops : Array Oper) (i : Nat) (st st' : St) : Prop :=
  ∀ (X : Nat → Prop), ¬ X i → ∀ ρ S a w, Rep C X ρ S st a.tmps w → a.defers = r.ds → ∀ (b : Frame) (rest : List Nat) (kk : List Go.Item) (cs : List Frame), b.roundOf = r.r →
    ∃ ρ' S' a' w', Rep C (fun j => X j ∨ j = i) ρ' S' st' a'.tmps w' ∧ a'.defers = r.ds ∧
      StepsIn (Machine.fenced C.E.prog (fence r.r)) C.E.prog (lone (b.atR a (.inRegion ops (i :: rest) :: kk)) cs w) (lone (b.atR a' (.inRegion ops rest :: kk)) cs w')

section
variable {C : Ctx} {r : Fm}

theorem exec_op {ops : Array Oper} {i : Nat} {o : Oper} {st : St} {e : Eff} (hE : EnvOk C.E) (ho : ops[i]? = some o) (hg : guardOf ops st o.guard = some true)
    (hc : core C.E st.ep i o.op o.type st.slots st.objs = some e) (hok : opOk C.E o = true) (hw : wrOk st e = true) (hcond : ∀ q ∈ e.cond, q = true) : Exec C r ops i st (st.app i o.dst e) := by
  intro X hX ρ S a w hr hd b rest kk cs hb
  obtain ⟨n, v, w', hrun, hn, ρ', S', hrep⟩ := does hr hX hok hE hc hw hcond
  have hwant := guard_rel hr hg
  refine ⟨ρ', S', a.put o.dst v, w', hrep, by simp [hd], ?_⟩
  have hsem : o.semAt b.roundOf a.eval = execOp a.eval o := Oper.semAt_eq _ _ _ (fun c hc' => by rw [hc'] at hc; simp [core] at hc)
  have hst := stepGR_op (P := C.E.prog) (b := b) (a := a) (k := kk) (cs := cs) (w := w) (i := i) (rest := rest) ho hwant
  have hfin := Frame.finish_atR b a ops i rest kk v
  simp only [ho, Option.bind_some] at hfin
  refine .one (fenced_all _ _ _) ?_
  refine step_lone_go ?_
  rw [hst, hsem, ← hfin]
  rcases hn with rfl | ⟨rfl, rfl⟩ <;> simp [stepG.apply, hrun]

theorem exec_skip {ops : Array Oper} {i : Nat} {o : Oper} {st : St} (ho : ops[i]? = some o) (hg : guardOf ops st o.guard = some false) (ht : dstOk C.E o = true) : Exec C r ops i st (st.app i o.dst { val := .undef }) := by
  intro X hX ρ S a w hr hd b rest kk cs hb
  have hwant := guard_rel hr hg
  obtain ⟨S', hrep⟩ := hr.step (i := i) (t := o.dst) (e := { val := .undef }) (v := undef) (w' := w) ρ hX (dstOk_lt ht) (Nat.le_refl _) (Quiet.refl _) (fun _ _ _ => rfl) (by simp) (fun _ _ h => h) (fun id h => .inl h) (by simp) (fun _ _ hm => by simp at hm) (fun _ _ _ _ _ _ _ hm => by simp at hm) (by simp) (fun _ _ _ _ _ => .undef)
  refine ⟨ρ, S', a.put o.dst undef, w, hrep, by simp [hd], ?_⟩
  have hst := stepR_op_skip (P := C.E.prog) (b := b) (a := a) (k := kk) (cs := cs) (w := w) (ops := ops) (i := i) (rest := rest) (by simp [ho, hwant])
  simp only [ho, Option.bind_some] at hst
  exact .one (fenced_all _ _ _) hst

/-- What a call may look at. -/
def callIds (E : Env) (sl : Nat → D) (lk : Id → Option Obj) (xs : List Operand) : List Id := xs.flatMap fun x => (ev E sl 0 x).ids lk (depth + 2)

/-- The operation's effect, and the objects that it looks at. -/
inductive OE (C : Ctx) (ops : Array Oper) (i : Nat) (o : Oper) (st : St) : Eff → List Id → Prop
  | skip (hg : guardOf ops st o.guard = some false) (hd : dstOk C.E o = true) : OE C ops i o st { val := .undef } []
  | op {e : Eff} (hg : guardOf ops st o.guard = some true) (hc : core C.E st.ep i o.op o.type st.slots st.objs = some e) (hok : opOk C.E o = true) (hw : wrOk st e = true) (hcond : ∀ q ∈ e.cond, q = true) :
      OE C ops i o st e (foot C.E o.op st.slots st.objs)
  | call {c : Call} {pts : List Nat} {ms : List AM} {f : Nat} {as : List AE} {ret : Ret} {e : Eff} (hg : guardOf ops st o.guard = some true) (hop : o.op = .call c) (hd : dstOk C.E o = true)
      (hpre : preE C.E st c pts ms = some (f, as)) (hcnd : andL (as.flatMap (·.cond))) (hf : Fun C.E f (as.map (·.arg)) ret) (he : callE st i as ret = some e) : OE C ops i o st e (callIds C.E st.slots st.objs c.operands.toList)

theorem OE.exec {ops : Array Oper} {i : Nat} {o : Oper} {st : St} {e : Eff} {R : List Id} (hE : EnvOk C.E) (ho : ops[i]? = some o) (h : OE C ops i o st e R) : Exec C r ops i st (st.app i o.dst e) := by
  cases h with
  | skip hg hd => exact exec_skip ho hg hd
  | op hg hc hok hw hcond => exact exec_op hE ho hg hc hok hw hcond
  | call hg hop hd hpre hcnd hf he =>
    intro X hX ρ S a w hr hda b rest kk cs hb
    exact exec_call hX hE ho hg hop hd _ _ hpre hcnd rfl hf he hr hda b rest kk cs hb

/-! ## Looking at the same, doing the same -/

theorem argE_congr {st st' : St} {m : AM} {d : D} (h : AgreeOn st.objs st'.objs (d.ids st.objs (depth + 1))) : argE st m d = argE st' m d := by
  have h0 := toP_congr depth d fun id hid => h id (ids_le (by decide) d hid)
  unfold argE
  split
  · rw [h0.1, h0.2]
  · rename_i id
    rw [← h id (by simp [D.ids])]
    cases hlk : st.objs id with
    | none => rfl
    | some o =>
      cases o with
      | box ds =>
        have hh : ∀ x ∈ ds, x.toP st.objs depth = x.toP st'.objs depth ∧ x.ids st.objs depth = x.ids st'.objs depth := fun x hx => toP_congr depth x fun id' hid' => h id' (by
          simp only [D.ids, hlk, List.mem_cons]; exact .inr (List.mem_flatMap.2 ⟨x, by simpa using hx, hid'⟩))
        have h1 : allM (fun d => d.toP st.objs depth) ds = allM (fun d => d.toP st'.objs depth) ds := allM_congr fun x hx => (hh x hx).1
        have h2 : (ds.flatMap fun d => d.ids st.objs depth) = ds.flatMap fun d => d.ids st'.objs depth := by
          clear hlk h1
          induction ds with
          | nil => rfl
          | cons x r ih => simp only [List.flatMap_cons, (hh x (by simp)).2, ih fun y hy => hh y (by simp [hy])]
        simp only [h1, h2]
      | _ => rfl
  · rename_i id len
    rw [← h id (by simp)]
  · rename_i id
    rw [← h id (by simp)]
  · rename_i h1 h2 h3 h4
    first
      | rfl
      | (cases m <;> first | rfl | (cases d <;> simp_all))

theorem callee_ids {lk : Id → Option Obj} {d : D} {g : Nat} {first caps : List D} (h : calleeD d = some (g, first, caps)) (n : Nat) : ∀ x, x ∈ first ++ caps → ∀ id ∈ x.ids lk n, id ∈ d.ids lk (n + 1) := by
  unfold calleeD at h
  split at h
  · simp only [Option.some.injEq, Prod.mk.injEq] at h
    obtain ⟨rfl, rfl, rfl⟩ := h
    intro x hx id hid
    simp only [List.mem_append, List.mem_map] at hx
    rcases hx with ⟨y, _, rfl⟩ | ⟨y, _, rfl⟩ <;> cases n <;> simp [D.ids] at hid
  · simp only [Option.some.injEq, Prod.mk.injEq] at h
    obtain ⟨rfl, rfl, rfl⟩ := h
    intro x hx id hid
    simp only [D.ids, List.mem_append, List.mem_flatMap]
    simp only [List.mem_append] at hx
    exact hx.imp (fun h => ⟨x, h, hid⟩) (fun h => ⟨x, h, hid⟩)
  · simp at h

theorem callIds_congr {E : Env} {sl sl' : Nat → D} {lk lk' : Id → Option Obj} : ∀ {xs : List Operand}, (∀ t x, x ∈ xs → ev E sl t x = ev E sl' t x) → AgreeOn lk lk' (callIds E sl lk xs) → callIds E sl lk xs = callIds E sl' lk' xs
  | [], _, _ => rfl
  | x :: r, he, h => by
    have h1 : AgreeOn lk lk' ((ev E sl 0 x).ids lk (depth + 2)) := fun id hid => h id (List.mem_flatMap.2 ⟨x, by simp, hid⟩)
    have h2 : AgreeOn lk lk' (callIds E sl lk r) := fun id hid => by
      obtain ⟨y, hy, hi⟩ := List.mem_flatMap.1 hid
      exact h id (List.mem_flatMap.2 ⟨y, by simp [hy], hi⟩)
    have := callIds_congr (xs := r) (fun t y hy => he t y (by simp [hy])) h2
    unfold callIds at this ⊢
    simp only [List.flatMap_cons, ← he 0 x (by simp), ← (toP_congr _ _ h1).2, this]

theorem argsD_mem {E : Env} {sl : Nat → D} : ∀ (args : List Operand) (ts : List Nat) (d : D), d ∈ argsD E sl args ts → ∃ x t, x ∈ args ∧ d = ev E sl t x
  | [], ts, d, h => by cases ts <;> simp [argsD] at h
  | x :: r, [], d, h => by
    simp only [argsD, List.mem_cons] at h
    rcases h with rfl | h
    · exact ⟨x, 0, by simp, rfl⟩
    · obtain ⟨y, t, hy, rfl⟩ := argsD_mem r [] d h; exact ⟨y, t, by simp [hy], rfl⟩
  | x :: r, t :: ts, d, h => by
    simp only [argsD, List.mem_cons] at h
    rcases h with rfl | h
    · exact ⟨x, t, by simp, rfl⟩
    · obtain ⟨y, t, hy, rfl⟩ := argsD_mem r ts d h; exact ⟨y, t, by simp [hy], rfl⟩

theorem preE_congr {E : Env} {st st' : St} {c : Call} {pts : List Nat} {ms : List AM} {f : Nat} {as : List AE} (hev : ∀ t x, x ∈ c.operands.toList → ev E st.slots t x = ev E st'.slots t x)
    (h : AgreeOn st.objs st'.objs (callIds E st.slots st.objs c.operands.toList)) (hfz : ∀ k id, ((0, k, 0), id) ∈ argPi 0 as → st'.fz id = st.fz id) (hp : preE E st c pts ms = some (f, as)) : preE E st' c pts ms = some (f, as) := by
  have hids : ∀ x ∈ c.operands.toList, ∀ t, AgreeOn st.objs st'.objs ((ev E st.slots t x).ids st.objs (depth + 2)) := fun x hx t id hid => h id (List.mem_flatMap.2 ⟨x, hx, by rw [ev_ids] at hid; exact hid⟩)
  unfold preE at hp ⊢
  split at hp
  case h_2 => simp at hp
  rename_i fo hcal
  have hfo : fo ∈ c.operands.toList := by simp [Call.operands, hcal]
  have hargs : ∀ x ∈ c.args.toList, x ∈ c.operands.toList := fun x hx => by simp [Call.operands, hcal]; exact .inr (by simpa using hx)
  rw [← hev 0 fo hfo]
  split at hp
  case h_2 => simp at hp
  rename_i g first caps hcd
  simp only [← argsD_congr (xs := c.operands.toList) hev c.args.toList pts hargs]
  have hall : ∀ d ∈ first ++ argsD E st.slots c.args.toList pts ++ caps, ∀ m, argE st m d = argE st' m d := by
    intro d hd m
    refine argE_congr fun id hid => ?_
    simp only [List.mem_append] at hd
    rcases hd with (hd | hd) | hd
    · exact hids fo hfo 0 id (callee_ids hcd (depth + 1) d (by simp [hd]) id hid)
    · obtain ⟨x, t, hx, rfl⟩ := argsD_mem _ _ _ hd
      exact hids x (hargs x hx) t id (ids_le (by decide) _ hid)
    · exact hids fo hfo 0 id (callee_ids hcd (depth + 1) d (by simp [hd]) id hid)
  rw [← allM_congr (f := fun x : AM × D => argE st x.1 x.2) (g := fun x => argE st' x.1 x.2) fun x hx => hall _ (List.of_mem_zip hx).2 x.1]
  dsimp only at hp ⊢
  split at hp
  case isFalse => simp at hp
  rename_i hlen
  simp only [hlen, if_true]
  split at hp
  case h_2 => simp at hp
  rename_i as' has
  split at hp
  case isFalse => simp at hp
  rename_i hok
  simp only [Option.some.injEq, Prod.mk.injEq] at hp
  obtain ⟨rfl, rfl⟩ := hp
  have : piOk (st'.freezeL (as'.flatMap (·.fs))) (argPi 0 as') 1 = piOk (st.freezeL (as'.flatMap (·.fs))) (argPi 0 as') 1 := by
    unfold piOk
    congr 1
    refine Bool.eq_iff_iff.2 ?_
    simp only [List.all_eq_true]
    have hh : ∀ x ∈ argPi 0 as', (st'.freezeL (as'.flatMap (·.fs))).fz x.2 = (st.freezeL (as'.flatMap (·.fs))).fz x.2 := fun x hx => by
      obtain ⟨j, ae, _, q2, _⟩ := argPi_inv 0 as' x.1 x.2 hx
      rw [freezeL_fz, freezeL_fz, hfz (0 + j) x.2 (by rw [← q2]; exact hx)]
    exact ⟨fun q x hx => by have := q x hx; rwa [hh x hx] at this, fun q x hx => by have := q x hx; rwa [← hh x hx] at this⟩
  simp only [this, hok, if_true]

theorem callE_congr {st st' : St} {i : Nat} {as : List AE} {ret : Ret} (h : st'.ep = st.ep) : callE st' i as ret = callE st i as ret := by
  unfold callE
  rw [h]

theorem guardOf_congr {ops : Array Oper} {st st' : St} {o : Oper} (h : ∀ t ∈ o.looksAt ops, st'.slots t = st.slots t) : guardOf ops st' o.guard = guardOf ops st o.guard := by
  cases hg : o.guard with
  | none => rfl
  | some gw =>
    obtain ⟨g, w⟩ := gw
    simp only [guardOf]
    split
    · rename_i t ht
      rw [h t (by simp [Oper.looksAt, hg, ht])]
    · rfl

theorem ev_congr {E : Env} {sl sl' : Nat → D} {t : Nat} {x : Operand} (h : ∀ k, x = .tmp k → sl' k = sl k) : ev E sl t x = ev E sl' t x := by
  cases x with
  | tmp k => simp only [ev, h k rfl]
  | _ => rfl

theorem OE.congr {ops : Array Oper} {i : Nat} {o : Oper} {st st' : St} {e : Eff} {R : List Id} (h : OE C ops i o st e R) (hs : ∀ t ∈ o.looksAt ops, st'.slots t = st.slots t) (hR : ∀ id ∈ R, st'.objs id = st.objs id)
    (hW : ∀ id ∈ e.wr.map (·.1), st'.fz id = st.fz id) (hep : st'.ep = st.ep) : OE C ops i o st' e R := by
  have hev : ∀ t x, x ∈ o.op.operands.toList → ev C.E st.slots t x = ev C.E st'.slots t x := fun t x hx => ev_congr fun k hk => hs k (by
    subst hk
    simp only [Oper.looksAt, List.mem_append, List.mem_filterMap]
    exact .inl ⟨.tmp k, hx, rfl⟩)
  have hg' := guardOf_congr hs
  cases h with
  | skip hg hd => exact .skip (by rw [hg']; exact hg) hd
  | op hg hc hok hw hcond =>
    obtain ⟨q1, q2⟩ := core_congr (ep := st.ep) (i := i) (ty := o.type) hev (fun id hid => (hR id hid).symm)
    rw [q2]
    refine .op (by rw [hg']; exact hg) (by rw [hep, ← q1]; exact hc) hok ?_ hcond
    unfold wrOk at hw ⊢
    simp only [Bool.and_eq_true, List.all_eq_true] at hw ⊢
    exact ⟨fun x hx => by rw [hW x.1 (List.mem_map_of_mem hx)]; exact hw.1 x hx, hw.2⟩
  | call hg hop hd hpre hcnd hf he =>
    rename_i c pts ms f as ret
    have hev' : ∀ t x, x ∈ c.operands.toList → ev C.E st.slots t x = ev C.E st'.slots t x := fun t x hx => hev t x (by rw [hop]; exact hx)
    have hR' : AgreeOn st.objs st'.objs (callIds C.E st.slots st.objs c.operands.toList) := fun id hid => (hR id hid).symm
    rw [callIds_congr hev' hR']
    refine .call (pts := pts) (ms := ms) (by rw [hg']; exact hg) hop hd (preE_congr hev' hR' (fun k id hm => ?_) hpre) hcnd hf (by rw [callE_congr hep]; exact he)
    obtain ⟨j, x, q1, q2, q3⟩ := argPi_inv 0 as _ _ hm
    refine hW id ?_
    unfold callE at he
    split at he
    · simp only [Option.some.injEq] at he
      subst he
      exact List.mem_map.2 ⟨_, backL_in 0 as j x id q1 q3, rfl⟩
    · simp at he

end
end Eng

/- The engine, part ZI: regions that draw their order. -/
namespace Eng
open Go

/-! ## Two effects, in either order -/

def lastO (l : List (Id × Obj)) (id : Id) : Option Obj :=
  match l with
  | [] => none
  | (a, o) :: r => match lastO r id with
    | some u => some u
    | none => if id = a then some o else none

theorem objL_get (l : List (Id × Obj)) : ∀ (st : St) (id : Id), (st.objL l).objs id = (lastO l id).or (st.objs id) := by
  induction l with
  | nil => intro st id; rfl
  | cons x r ih =>
    obtain ⟨a, o⟩ := x
    intro st id
    simp only [St.objL, ih, lastO]
    cases lastO r id with
    | some u => rfl
    | none =>
      simp only [St.obj, upd, Option.or]
      by_cases h : id = a <;> simp [h]

theorem lastO_none {l : List (Id × Obj)} {id : Id} (h : id ∉ l.map (·.1)) : lastO l id = none := by
  induction l with
  | nil => rfl
  | cons x r ih =>
    obtain ⟨a, o⟩ := x
    simp only [List.map_cons, List.mem_cons, not_or] at h
    simp only [lastO, ih h.2, h.1, if_false]

def news (ep i : Nat) (e : Eff) : List (Id × Obj) := e.new.map fun x => ((ep, i, x.1), x.2)

theorem app_get (st : St) (i : Nat) (t : Option Nat) (e : Eff) (id : Id) : (st.app i t e).objs id = (lastO (news st.ep i e) id).or ((lastO e.wr id).or (st.objs id)) := by
  simp only [St.app, setO_objs, freezeL_objs, objL_get, objL_ep, news]

theorem news_id {ep i : Nat} {e : Eff} {id : Id} (h : id ∈ (news ep i e).map (·.1)) : id.1 = ep ∧ id.2.1 = i := by
  simp only [news, List.map_map, List.mem_map] at h
  obtain ⟨x, _, rfl⟩ := h
  exact ⟨rfl, rfl⟩

/-- The objects that operation i may change or make. -/
def touches (ep i : Nat) (W : List Id) (id : Id) : Bool := decide (id ∈ W) || (decide (id.1 = ep) && decide (id.2.1 = i))

theorem app_old {st : St} {i : Nat} {t : Option Nat} {e : Eff} {id : Id} (h : touches st.ep i (e.wr.map (·.1)) id = false) : (st.app i t e).objs id = st.objs id := by
  simp only [touches, Bool.or_eq_false_iff, decide_eq_false_iff_not, Bool.and_eq_false_iff] at h
  rw [app_get, lastO_none (fun hm => by have := news_id hm; rcases h.2 with h | h <;> simp_all), lastO_none h.1]
  rfl

theorem app_comm {st : St} {i j : Nat} {di dj : Option Nat} {ei ej : Eff} (hij : i ≠ j) (hd : ∀ d, di = some d → dj ≠ some d) (h1 : ∀ id ∈ ei.wr.map (·.1), touches st.ep j (ej.wr.map (·.1)) id = false)
    (h2 : ∀ id ∈ ej.wr.map (·.1), touches st.ep i (ei.wr.map (·.1)) id = false) : (st.app i di ei).app j dj ej = (st.app j dj ej).app i di ei := by
  have hs : ((st.app i di ei).app j dj ej).slots = ((st.app j dj ej).app i di ei).slots := by
    funext k
    simp only [app_slots]
    by_cases hi : di = some k
    · have := hd k hi; simp [hi, this]
    · simp [hi]
  have ho : ((st.app i di ei).app j dj ej).objs = ((st.app j dj ej).app i di ei).objs := by
    funext id
    simp only [app_get, app_ep]
    by_cases hi : touches st.ep i (ei.wr.map (·.1)) id = true
    · have hj : touches st.ep j (ej.wr.map (·.1)) id = false := by
        simp only [touches, Bool.or_eq_true, decide_eq_true_eq, Bool.and_eq_true] at hi
        rcases hi with hi | hi
        · exact h1 id hi
        · simp only [touches, Bool.or_eq_false_iff, decide_eq_false_iff_not, Bool.and_eq_false_iff]
          refine ⟨fun hm => ?_, .inr fun hj => hij (by rw [← hi.2, hj])⟩
          have := h2 id hm
          simp [touches, hi] at this
      simp only [touches, Bool.or_eq_false_iff, decide_eq_false_iff_not, Bool.and_eq_false_iff] at hj
      rw [lastO_none (l := news st.ep j ej) (fun hm => by have := news_id hm; rcases hj.2 with h | h <;> simp_all), lastO_none hj.1]
      simp
    · have hi : touches st.ep i (ei.wr.map (·.1)) id = false := by simpa using hi
      simp only [touches, Bool.or_eq_false_iff, decide_eq_false_iff_not, Bool.and_eq_false_iff] at hi
      rw [lastO_none (l := news st.ep i ei) (fun hm => by have := news_id hm; rcases hi.2 with h | h <;> simp_all), lastO_none hi.1]
      simp
  have hf : ((st.app i di ei).app j dj ej).fz = ((st.app j dj ej).app i di ei).fz := by
    funext id
    simp only [app_fz]
    cases ei.frz.contains id <;> cases ej.frz.contains id <;> rfl
  have he : ((st.app i di ei).app j dj ej).ep = ((st.app j dj ej).app i di ei).ep := by simp
  generalize (st.app i di ei).app j dj ej = s1 at *
  generalize (st.app j dj ej).app i di ei = s2 at *
  cases s1; cases s2
  simp only at hs ho hf he
  subst hs ho hf he
  rfl

/-! ## The footprints of a region's operations -/

structure Fp where
  R : List Id := []
  W : List Id := []
  F : List Id := []

def indep (ops : Array Oper) (ep i j : Nat) (oi oj : Oper) (fi fj : Fp) : Bool :=
  oi.apart ops oj && (fi.R.all fun id => !touches ep j fj.W id) && (fi.W.all fun id => !touches ep j fj.W id) && (fj.R.all fun id => !touches ep i fi.W id) && (fj.W.all fun id => !touches ep i fi.W id) &&
    (fi.F.all fun id => !decide (id ∈ fj.W)) && (fj.F.all fun id => !decide (id ∈ fi.W))

/-- j waits for i, directly or through others. -/
inductive Waits (ops : Array Oper) : Nat → Nat → Prop
  | one {j : Nat} {o : Oper} {e : Edge} (hj : ops[j]? = some o) (he : e ∈ o.after) (hb : Region.binds .any e = true) : Waits ops j e.on
  | more {j i : Nat} {o : Oper} {e : Edge} (hj : ops[j]? = some o) (he : e ∈ o.after) (hb : Region.binds .any e = true) (h : Waits ops e.on i) : Waits ops j i

/-- What has been carried out holds with each operation all that it waits for. -/
def Closed (ops : Array Oper) (listed : Array Bool) : Prop :=
  ∀ j o, ops[j]? = some o → listed.getD j true = true → ∀ e ∈ o.after, Region.binds .any e = true → listed.getD e.on false = true

theorem listed_true {listed : Array Bool} {j : Nat} (h : listed.getD j false = true) : listed.getD j true = true := by
  rcases Nat.lt_or_ge j listed.size with h' | h'
  · simp [h'] at h ⊢; exact h
  · simp [Array.getElem?_eq_none h'] at h

theorem Waits.listed {ops : Array Oper} {listed : Array Bool} {j i : Nat} (h : Waits ops j i) (hc : Closed ops listed) (hj : ∀ o, ops[j]? = some o → ∀ e ∈ o.after, Region.binds .any e = true → listed.getD e.on false = true) :
    listed.getD i false = true := by
  induction h with
  | one ho he hb => exact hj _ ho _ he hb
  | more ho he hb _ ih => exact ih fun o' ho' e' he' hb' => hc _ o' ho' (listed_true (hj _ ho _ he hb)) e' he' hb'

theorem Closed.set {ops : Array Oper} {listed : Array Bool} (h : Closed ops listed) {i : Nat} (hi : i ∈ Region.ready .any ops listed) : Closed ops (listed.setIfInBounds i true) := by
  intro j o hj hl e he hb
  refine getD_set_true ?_
  obtain ⟨_, oi, hoi, hall⟩ := mem_ready.1 hi
  by_cases hji : j = i
  · subst hji
    rw [hj] at hoi; obtain rfl := Option.some.inj hoi
    exact hall e he hb
  · rw [getD_set_ne true (Ne.symm hji)] at hl
    exact h j o hj hl e he hb

/-! ## Any order -/

section
variable {C : Ctx} {r : Fm} {ops : Array Oper} {tbl : List Fp} {K : St → Prop}

def D.isDead : D → Bool
  | .dead => true
  | _ => false

/-- What it looks at is told. -/
def live (ops : Array Oper) (o : Oper) (st : St) (f : Fp) : Bool := (o.looksAt ops).all (fun t => !(st.slots t).isDead) && (f.R.all fun id => (st.objs id).isSome) && (f.W.all fun id => (st.objs id).isSome)

def OEf (C : Ctx) (ops : Array Oper) (i : Nat) (o : Oper) (st : St) (e : Eff) (f : Fp) : Prop := OE C ops i o st e f.R ∧ f.W = e.wr.map (·.1) ∧ f.F = e.frz ∧ live ops o st f = true

def DAny (C : Ctx) (ops : Array Oper) (tbl : List Fp) (K : St → Prop) : Nat → Array Bool → St → Prop
  | 0, listed, st => Region.ready .any ops listed = [] ∧ K st
  | n + 1, listed, st => (Region.ready .any ops listed = [] → K st) ∧
      ∀ i ∈ Region.ready .any ops listed, ∃ o e f, ops[i]? = some o ∧ tbl[i]? = some f ∧ OEf C ops i o st e f ∧ DAny C ops tbl K n (listed.setIfInBounds i true) (st.app i o.dst e)

theorem indep_spec {ep i j : Nat} {oi oj : Oper} {fi fj : Fp} (h : indep ops ep i j oi oj fi fj = true) : oi.apart ops oj = true ∧ (∀ id ∈ fi.R, touches ep j fj.W id = false) ∧ (∀ id ∈ fi.W, touches ep j fj.W id = false) ∧
    (∀ id ∈ fj.R, touches ep i fi.W id = false) ∧ (∀ id ∈ fj.W, touches ep i fi.W id = false) ∧ (∀ id ∈ fi.F, id ∉ fj.W) ∧ (∀ id ∈ fj.F, id ∉ fi.W) := by
  simp only [indep, Bool.and_eq_true, List.all_eq_true, Bool.not_eq_true', decide_eq_false_iff_not] at h
  obtain ⟨⟨⟨⟨⟨⟨h1, h2⟩, h3⟩, h4⟩, h5⟩, h6⟩, h7⟩ := h
  exact ⟨h1, h2, h3, h4, h5, h6, h7⟩

theorem live_congr {o : Oper} {st st' : St} {f : Fp} (h : live ops o st f = true) (hs : ∀ t ∈ o.looksAt ops, st'.slots t = st.slots t) (hR : ∀ id ∈ f.R, st'.objs id = st.objs id) (hW : ∀ id ∈ f.W, st'.objs id = st.objs id) : live ops o st' f = true := by
  simp only [live, Bool.and_eq_true, List.all_eq_true] at h ⊢
  exact ⟨⟨fun t ht => by rw [hs t ht]; exact h.1.1 t ht, fun id hid => by rw [hR id hid]; exact h.1.2 id hid⟩, fun id hid => by rw [hW id hid]; exact h.2 id hid⟩

/-- The effect of oj behind oi is its effect ahead of oi, and the other way round. -/
theorem OEf.swap {i j : Nat} {oi oj : Oper} {fi fj : Fp} {st : St} {ei ej : Eff} (hij : i ≠ j) (hi : OEf C ops i oi st ei fi) (hj : OEf C ops j oj (st.app i oi.dst ei) ej fj) (hin : indep ops st.ep i j oi oj fi fj = true) :
    OEf C ops j oj st ej fj ∧ OEf C ops i oi (st.app j oj.dst ej) ei fi ∧ (st.app i oi.dst ei).app j oj.dst ej = (st.app j oj.dst ej).app i oi.dst ei := by
  obtain ⟨h1, h2, h3, h4, h5, h6, h7⟩ := indep_spec hin
  obtain ⟨a1, a2, a3⟩ := Oper.apart_spec h1
  obtain ⟨hi0, hiW, hiF, hiL⟩ := hi
  obtain ⟨hj0, hjW, hjF, hjL⟩ := hj
  have hj' : OE C ops j oj st ej fj.R := by
    refine hj0.congr (fun t ht => ?_) (fun id hid => ?_) (fun id hid => ?_) (app_ep _ _ _ _).symm
    · rw [app_slots, if_neg fun hd => a1 t hd ht]
    · exact (app_old (by rw [← hiW]; exact h4 id hid)).symm
    · rw [app_fz]
      have : id ∉ ei.frz := fun hm => h6 id (by rw [hiF]; exact hm) (by rw [hjW]; exact hid)
      simp [this]
  refine ⟨⟨hj', hjW, hjF, ?_⟩, ⟨?_, hiW, hiF, ?_⟩, ?_⟩
  · refine live_congr hjL (fun t ht => ?_) (fun id hid => ?_) (fun id hid => ?_)
    · rw [app_slots, if_neg fun hd => a1 t hd ht]
    · exact (app_old (by rw [← hiW]; exact h4 id hid)).symm
    · exact (app_old (by rw [← hiW]; exact h5 id hid)).symm
  · refine hi0.congr (fun t ht => ?_) (fun id hid => ?_) (fun id hid => ?_) (app_ep _ _ _ _)
    · rw [app_slots, if_neg fun hd => a3 t hd ht]
    · exact app_old (by rw [← hjW]; exact h2 id hid)
    · rw [app_fz]
      have : id ∉ ej.frz := fun hm => h7 id (by rw [hjF]; exact hm) (by rw [hiW]; exact hid)
      simp [this]
  · refine live_congr hiL (fun t ht => ?_) (fun id hid => ?_) (fun id hid => ?_)
    · rw [app_slots, if_neg fun hd => a3 t hd ht]
    · exact app_old (by rw [← hjW]; exact h2 id hid)
    · exact app_old (by rw [← hjW]; exact h3 id hid)
  · exact app_comm hij a2 (fun id hid => by rw [← hjW]; exact h3 id (by rw [hiW]; exact hid)) (fun id hid => by rw [← hiW]; exact h5 id (by rw [hjW]; exact hid))

theorem unlisted_of {listed : Array Bool} {i : Nat} (h0 : listed.getD i true = false) (h1 : listed.getD i false = true) : False := by
  rcases Nat.lt_or_ge i listed.size with h' | h'
  · simp [h'] at h0 h1; rw [h0] at h1; cases h1
  · simp [Array.getElem?_eq_none h'] at h1

theorem DAny_first {i : Nat} {oi : Oper} {e : Eff} {f : Fp} (hi : ops[i]? = some oi) (hf : tbl[i]? = some f) : ∀ (fuel : Nat) (listed : Array Bool) (st : St), Closed ops listed →
      (∀ j oj fj, ops[j]? = some oj → tbl[j]? = some fj → j ≠ i → listed.getD j true = false → ¬ Waits ops j i → indep ops st.ep i j oi oj f fj = true) →
      i ∈ Region.ready .any ops listed → OEf C ops i oi st e f →
      DAny C ops tbl K fuel (listed.setIfInBounds i true) (st.app i oi.dst e) → DAny C ops tbl K (fuel + 1) listed st := by
  intro fuel
  induction fuel with
  | zero =>
    intro listed st _ _ hr hy H
    refine ⟨fun h => (by rw [h] at hr; cases hr), fun j hj => ?_⟩
    by_cases hji : j = i
    · subst hji; exact ⟨oi, e, f, hi, hf, hy, H⟩
    · have := ready_mono hj hji
      rw [H.1] at this
      cases this
  | succ fuel ih =>
    intro listed st hcl hfree hr hy H
    refine ⟨fun h => (by rw [h] at hr; cases hr), fun j hj => ?_⟩
    by_cases hji : j = i
    · subst hji; exact ⟨oi, e, f, hi, hf, hy, H⟩
    · obtain ⟨oj, ej, fj, hoj, hfj, hyj, H1⟩ := H.2 j (ready_mono hj hji)
      obtain ⟨hjun, oj', hoj', hall⟩ := mem_ready.1 hj
      rw [hoj] at hoj'; obtain rfl := Option.some.inj hoj'
      have hi0 := (mem_ready.1 hr).1
      have hnw : ¬ Waits ops j i := fun hw => unlisted_of hi0 (hw.listed hcl fun o' ho' => by rw [hoj] at ho'; obtain rfl := Option.some.inj ho'; exact hall)
      obtain ⟨q1, q2, q3⟩ := OEf.swap (Ne.symm hji) hy hyj (hfree j oj fj hoj hfj hji hjun hnw)
      refine ⟨oj, ej, fj, hoj, hfj, q1, ih (listed.setIfInBounds j true) (st.app j oj.dst ej) (hcl.set hj) (fun k ok fk hk hfk hki hun hno => ?_) (ready_mono hr (Ne.symm hji)) q2 ?_⟩
      · rw [app_ep]
        refine hfree k ok fk hk hfk hki ?_ hno
        by_cases hjk : j = k
        · subst hjk; exact hjun
        · rw [getD_set_ne true hjk] at hun; exact hun
      · rw [Array.setIfInBounds_comm _ _ hji, ← q3]
        exact H1

/-! ## The lexical order -/

/-- Bits: what each operation waits for, directly or through others. -/
def masks (ops : List Oper) : List Nat :=
  ops.foldl (init := []) fun acc o => acc ++ [o.after.toList.foldl (fun s e => if Region.binds .any e then s ||| 2 ^ e.on ||| acc.getD e.on 0 else s) 0]

def maskOf (acc : List Nat) (es : List Edge) (s : Nat) : Nat := es.foldl (fun s e => if Region.binds .any e then s ||| 2 ^ e.on ||| acc.getD e.on 0 else s) s

theorem maskOf_spec {acc : List Nat} {i : Nat} : ∀ (es : List Edge) (s : Nat), (maskOf acc es s).testBit i = true → s.testBit i = true ∨ ∃ e ∈ es, Region.binds .any e = true ∧ (e.on = i ∨ (acc.getD e.on 0).testBit i = true)
  | [], s, h => .inl h
  | e :: es, s, h => by
    have h := maskOf_spec es _ h
    rcases h with h | ⟨e', he', h⟩
    · dsimp only at h
      split at h
      · rename_i hb
        simp only [Nat.testBit_or, Bool.or_eq_true] at h
        rcases h with (h | h) | h
        · exact .inl h
        · rw [Nat.testBit_two_pow] at h
          exact .inr ⟨e, by simp, hb, .inl (by simpa using h)⟩
        · exact .inr ⟨e, by simp, hb, .inr h⟩
      · exact .inl h
    · exact .inr ⟨e', by simp [he'], h⟩

theorem masks_step (ops : Array Oper) : ∀ (l pre : List Oper) (acc : List Nat), pre ++ l = ops.toList → acc.length = pre.length → (∀ j i, (acc.getD j 0).testBit i = true → Waits ops j i) →
    ∀ j i, ((l.foldl (init := acc) fun acc o => acc ++ [o.after.toList.foldl (fun s e => if Region.binds .any e then s ||| 2 ^ e.on ||| acc.getD e.on 0 else s) 0]).getD j 0).testBit i = true → Waits ops j i
  | [], pre, acc, _, _, h => h
  | o :: l, pre, acc, hp, hl, h => by
    simp only [List.foldl_cons]
    refine masks_step ops l (pre ++ [o]) _ (by simpa using hp) (by simp [hl]) fun j i hb => ?_
    have ho : ops[pre.length]? = some o := by rw [← Array.getElem?_toList, ← hp]; simp
    by_cases hj : j < acc.length
    · refine h j i ?_
      simpa [List.getD_eq_getElem?_getD, List.getElem?_append_left hj] using hb
    · by_cases hj2 : j = acc.length
      · subst hj2
        have hb' : (maskOf acc o.after.toList 0).testBit i = true := by
          simpa [List.getD_eq_getElem?_getD, maskOf] using hb
        rcases maskOf_spec _ _ hb' with h0 | ⟨e, he, hbi, h0⟩
        · simp at h0
        · rw [hl]
          have he' : e ∈ o.after := by simpa using he
          rcases h0 with rfl | h0
          · exact .one ho he' hbi
          · exact .more ho he' hbi (h _ _ h0)
      · have : ((acc ++ [o.after.toList.foldl (fun s e => if Region.binds .any e then s ||| 2 ^ e.on ||| acc.getD e.on 0 else s) 0]).getD j 0) = 0 := by
          rw [List.getD_eq_getElem?_getD, List.getElem?_eq_none (by simp; omega)]; rfl
        rw [this] at hb
        simp at hb

theorem masks_waits {ops : Array Oper} {j i : Nat} (h : ((masks ops.toList).getD j 0).testBit i = true) : Waits ops j i :=
  masks_step ops ops.toList [] [] rfl rfl (fun j i h => by simp at h) j i h

/-- Of every two operations the later one waits for the earlier one, or they do not touch each other. -/
def pairOk (ops : Array Oper) (ep i : Nat) (oi : Oper) (fi : Fp) : Nat → List Oper → List Fp → List Nat → Bool
  | _, [], _, _ => true
  | j, oj :: os, fj :: fs, m :: ms => (m.testBit i || indep ops ep i j oi oj fi fj) && pairOk ops ep i oi fi (j + 1) os fs ms
  | _, _, _, _ => false
def pairsOk (ops : Array Oper) (ep : Nat) : Nat → List Oper → List Fp → List Nat → Bool
  | _, [], _, _ => true
  | i, oi :: os, fi :: fs, m :: ms => pairOk ops ep i oi fi (i + 1) os fs ms && pairsOk ops ep (i + 1) os fs ms
  | _, _, _, _ => false
def backOk : Nat → List Oper → Bool
  | _, [] => true
  | i, o :: os => (o.after.toList.all fun e => !Region.binds .any e || decide (e.on < i)) && backOk (i + 1) os
def drawOk (ops : Array Oper) (ep : Nat) (tbl : List Fp) : Bool := backOk 0 ops.toList && pairsOk ops ep 0 ops.toList tbl (masks ops.toList)

theorem backOk_spec : ∀ (l : List Oper) (i : Nat), backOk i l = true → ∀ k o, l[k]? = some o → ∀ e ∈ o.after, Region.binds .any e = true → e.on < i + k
  | [], _, _, k, o, h => by simp at h
  | o :: l, i, h, k, o', hk => by
    simp only [backOk, Bool.and_eq_true, List.all_eq_true, Bool.or_eq_true, Bool.not_eq_true', decide_eq_true_eq] at h
    cases k with
    | zero =>
      simp at hk; subst hk
      intro e he hb
      have := h.1 e (by simpa using he)
      rw [hb] at this
      simpa using this
    | succ k =>
      simp at hk
      intro e he hb
      have := backOk_spec l (i + 1) h.2 k o' hk e he hb
      omega

theorem pairOk_spec {ep i : Nat} {oi : Oper} {fi : Fp} : ∀ (os : List Oper) (fs : List Fp) (ms : List Nat) (j : Nat), pairOk ops ep i oi fi j os fs ms = true → ∀ k oj fj, os[k]? = some oj → fs[k]? = some fj →
    (ms.getD k 0).testBit i = true ∨ indep ops ep i (j + k) oi oj fi fj = true
  | [], _, _, _, _, k, oj, fj, h, _ => by simp at h
  | o :: os, [], _, _, h, _, _, _, _, _ => by simp [pairOk] at h
  | o :: os, f :: fs, [], _, h, _, _, _, _, _ => by simp [pairOk] at h
  | o :: os, f :: fs, m :: ms, j, h, k, oj, fj, ho, hf => by
    simp only [pairOk, Bool.and_eq_true, Bool.or_eq_true] at h
    cases k with
    | zero => simp at ho hf; subst ho hf; simpa using h.1
    | succ k =>
      simp at ho hf
      have := pairOk_spec os fs ms (j + 1) h.2 k oj fj ho hf
      simpa [Nat.add_assoc, Nat.add_comm 1 k] using this

theorem pairsOk_spec {ep : Nat} : ∀ (os : List Oper) (fs : List Fp) (ms : List Nat) (i : Nat), pairsOk ops ep i os fs ms = true → ∀ k l oi oj fi fj, k < l → os[k]? = some oi → os[l]? = some oj → fs[k]? = some fi → fs[l]? = some fj →
    (ms.getD l 0).testBit (i + k) = true ∨ indep ops ep (i + k) (i + l) oi oj fi fj = true
  | [], _, _, _, _, k, l, oi, oj, fi, fj, _, h, _, _, _ => by simp at h
  | o :: os, [], _, _, h, _, _, _, _, _, _, _, _, _, _, _ => by simp [pairsOk] at h
  | o :: os, f :: fs, [], _, h, _, _, _, _, _, _, _, _, _, _, _ => by simp [pairsOk] at h
  | o :: os, f :: fs, m :: ms, i, h, k, l, oi, oj, fi, fj, hkl, h1, h2, h3, h4 => by
    simp only [pairsOk, Bool.and_eq_true] at h
    cases l with
    | zero => omega
    | succ l =>
      simp at h2 h4
      cases k with
      | zero =>
        simp at h1 h3; subst h1 h3
        have := pairOk_spec os fs ms (i + 1) h.1 l oj fj h2 h4
        simpa [Nat.add_assoc, Nat.add_comm 1 l] using this
      | succ k =>
        simp at h1 h3
        have := pairsOk_spec os fs ms (i + 1) h.2 k l oi oj fi fj (by omega) h1 h2 h3 h4
        simpa [Nat.add_assoc, Nat.add_comm 1 l, Nat.add_comm 1 k] using this

/-- The operations one after the other. -/
def Chain (C : Ctx) (ops : Array Oper) : List Fp → Nat → St → St → Prop
  | [], _, st, st' => st = st'
  | f :: r, k, st, st' => ∃ o e, ops[k]? = some o ∧ OEf C ops k o st e f ∧ Chain C ops r (k + 1) (st.app k o.dst e) st'

/-- The first k have been carried out. -/
def UpTo (n k : Nat) (listed : Array Bool) : Prop := listed.size = n ∧ ∀ j, j < n → listed[j]? = some (decide (j < k))

theorem UpTo.set {n k : Nat} {listed : Array Bool} (h : UpTo n k listed) : UpTo n (k + 1) (listed.setIfInBounds k true) := by
  refine ⟨by simp [h.1], fun j hj => ?_⟩
  rw [Array.getElem?_setIfInBounds]
  by_cases hjk : k = j
  · subst hjk; simp [h.1, hj]
  · rw [if_neg hjk, h.2 j hj]
    simp only [Option.some.injEq, decide_eq_decide]
    omega

theorem DAny_lex {ep : Nat} {st' : St} (hok : drawOk ops ep tbl = true) (htl : tbl.length = ops.size) (hK : K st') : ∀ (l : List Fp) (k : Nat) (listed : Array Bool) (st : St), (∀ j, l[j]? = tbl[k + j]?) → k + l.length = ops.size →
    UpTo ops.size k listed → st.ep = ep → Chain C ops l k st st' → DAny C ops tbl K l.length listed st := by
  simp only [drawOk, Bool.and_eq_true] at hok
  have hback := backOk_spec _ _ hok.1
  have hpair := pairsOk_spec _ _ _ _ hok.2
  have hback' : ∀ k o, ops[k]? = some o → ∀ e ∈ o.after, Region.binds .any e = true → e.on < k := fun k o hk e he hb => by
    have := hback k o (by rw [Array.getElem?_toList]; exact hk) e he hb; omega
  have getD_t : ∀ {k : Nat} {listed : Array Bool}, UpTo ops.size k listed → ∀ j, j < ops.size → ∀ d, listed.getD j d = decide (j < k) := fun hu j hj d => by
    rw [Array.getD_eq_getD_getElem?, hu.2 j hj]; rfl
  have hclosed : ∀ {k : Nat} {listed : Array Bool}, k ≤ ops.size → UpTo ops.size k listed → Closed ops listed := by
    intro k listed hk hu j o hj hl e he hb
    have hjs := (Array.getElem?_eq_some_iff.1 hj).1
    rw [getD_t hu j hjs] at hl
    have := hback' j o hj e he hb
    have hl := of_decide_eq_true hl
    rw [getD_t hu _ (by omega)]
    simp; omega
  intro l
  induction l with
  | nil =>
    intro k listed st _ hk hu _ hch
    simp only [Chain] at hch
    subst hch
    simp only [List.length_nil, Nat.add_zero] at hk
    refine ⟨?_, hK⟩
    refine List.eq_nil_iff_forall_not_mem.2 fun j hj => ?_
    obtain ⟨h0, o, ho, _⟩ := mem_ready.1 hj
    have hjs := (Array.getElem?_eq_some_iff.1 ho).1
    rw [getD_t hu j hjs] at h0
    simp at h0; omega
  | cons f l ih =>
    intro k listed st hl hk hu hep hch
    obtain ⟨o, e, ho, hoe, hch⟩ := hch
    have hks := (Array.getElem?_eq_some_iff.1 ho).1
    have hf : tbl[k]? = some f := by simpa using (hl 0).symm
    simp only [List.length_cons] at hk ⊢
    refine DAny_first ho hf l.length listed st (hclosed (by omega) hu) (fun j oj fj hj hfj hjk hun hnw => ?_) (mem_ready.2 ⟨?_, o, ho, fun e' he' hb => ?_⟩) hoe
      (ih (k + 1) _ _ (fun j => by have := hl (j + 1); simpa [Nat.add_assoc, Nat.add_comm 1 j] using this) (by omega) hu.set (by rw [app_ep]; exact hep) hch)
    · have hjs := (Array.getElem?_eq_some_iff.1 hj).1
      rw [getD_t hu j hjs] at hun
      simp at hun
      have := hpair k j o oj f fj (by omega) (by rw [Array.getElem?_toList]; exact ho) (by rw [Array.getElem?_toList]; exact hj) hf hfj
      simp only [Nat.zero_add] at this
      rcases this with h | h
      · exact absurd (masks_waits h) hnw
      · rw [hep]; exact h
    · rw [getD_t hu k hks]; simp
    · have := hback' k o ho e' he' hb
      rw [getD_t hu _ (by omega)]
      simpa using this

/-! ## The machine -/

theorem DAny.run (hE : EnvOk C.E) {b : Frame} (kk : List Go.Item) (cs : List Frame) (hb : b.roundOf = r.r) : ∀ (fuel t : Nat) (listed : Array Bool) (st : St), DAny C ops tbl K fuel listed st → ∀ (X : Nat → Prop), (∀ j, j < ops.size → X j → listed.getD j true = true) → 
    ∀ ρ S a w, Rep C X ρ S st a.tmps w → a.defers = r.ds → ∃ X' ρ' S' st' a' w', Rep C X' ρ' S' st' a'.tmps w' ∧ a'.defers = r.ds ∧ K st' ∧
      StepsIn (Machine.fenced C.E.prog (fence r.r)) C.E.prog (lone (b.atR a (.inRegion ops (Region.linearise.go .any ops fuel t listed []) :: kk)) cs w) (lone (b.atR a' (.inRegion ops [] :: kk)) cs w') := by
  intro fuel
  induction fuel with
  | zero =>
    intro t listed st h X hX ρ S a w hr hd
    exact ⟨X, ρ, S, st, a, w, hr, hd, h.2, by simp only [Region.linearise.go, List.reverse_nil]; exact .refl _⟩
  | succ fuel ih =>
    intro t listed st h X hX ρ S a w hr hd
    obtain ⟨h0, h1⟩ := h
    simp only [Region.linearise.go]
    change ∃ X' ρ' S' st' a' w', _ ∧ _ ∧ _ ∧ StepsIn _ _ (lone (b.atR a (.inRegion ops (match (Region.ready .any ops listed)[t % (Region.ready .any ops listed).length]? with
      | some i => Region.linearise.go .any ops fuel (t / (Region.ready .any ops listed).length) (listed.setIfInBounds i true) [i]
      | none => [].reverse) :: kk)) cs w) _
    cases hi : (Region.ready .any ops listed)[t % (Region.ready .any ops listed).length]? with
    | none =>
      have hnil : Region.ready .any ops listed = [] := by
        cases hr : Region.ready .any ops listed with
        | nil => rfl
        | cons x xs =>
          rw [hr] at hi
          have hlt : t % (x :: xs).length < (x :: xs).length := Nat.mod_lt _ (by simp)
          simp at hi
          simp at hlt
          omega
      exact ⟨X, ρ, S, st, a, w, hr, hd, h0 hnil, by simp only [List.reverse_nil]; exact .refl _⟩
    | some i =>
      have hir := List.mem_of_getElem? hi
      obtain ⟨o, e, f, ho, _, hoe, hrest⟩ := h1 i hir
      have his := (Array.getElem?_eq_some_iff.1 ho).1
      have hun := (mem_ready.1 hir).1
      obtain ⟨ρ1, S1, a1, w1, hr1, hd1, hs1⟩ := (hoe.1.exec (r := r) hE ho) X (fun hx => by rw [hX i his hx] at hun; cases hun) ρ S a w hr hd b (Region.linearise.go .any ops fuel (t / (Region.ready .any ops listed).length) (listed.setIfInBounds i true) []) kk cs hb
      obtain ⟨X', ρ', S', st', a', w', q1, q2, q3, q4⟩ := ih (t / (Region.ready .any ops listed).length) _ _ hrest (fun j => X j ∨ j = i) (fun j hjs hj => by
        rcases hj with hj | rfl
        · by_cases hji : i = j
          · subst hji
            rw [hX i his hj] at hun; cases hun
          · rw [getD_set_ne true hji]; exact hX j hjs hj
        · rw [Array.getD_eq_getD_getElem?, Array.getElem?_setIfInBounds]
          simp only [if_true]
          split <;> rfl) ρ1 S1 a1 w1 hr1 hd1
      refine ⟨X', ρ', S', st', a', w', q1, q2, q3, ?_⟩
      dsimp only
      rw [linearise_go_acc, List.reverse_singleton, List.singleton_append]
      exact hs1.trans q4

/-- The count of draws matters to nothing. -/
theorem Rep.drawn {X : Nat → Prop} {ρ : Id → Option Lay} {S : Nat → Prop} {st : St} {tm : Array Value} {w : World} (h : Rep C X ρ S st tm w) (n : Nat) : Rep C X ρ S st tm { w with drawn := n } := by
  have kp : Keep S w { w with drawn := n } := fun _ _ _ => rfl
  exact { h with
    slots := fun k => (h.slots k).mono kp (fun _ h => h) (fun _ _ h => h)
    objs := fun id o ho hg => by
      obtain ⟨L, hL, hr⟩ := h.objs id o ho hg
      exact ⟨L, hL, hr.mono kp (fun _ h => h) (fun _ _ h => h) (fun _ _ => rfl)⟩
    glob := fun g cs hm => (h.glob g cs hm).mono kp (fun _ h => h) }

variable {G : Goal}

/-- The region, as far as it has been walked in the order of its text: the footprints of the first i operations; st: the state behind them. -/
def DW (C : Ctx) (r : Fm) (G : Goal) (k : List Item) (ops : Array Oper) (hist : List Fp) (st : St) : Prop :=
  ∃ rest st', (hist ++ rest).length = ops.size ∧ drawOk ops st.ep (hist ++ rest) = true ∧ Chain C ops rest hist.length st st' ∧ AWP C r G k st'.next

theorem dw_op {k : List Item} {hist : List Fp} {st : St} {o : Oper} {e : Eff} {f : Fp} (ho : ops[hist.length]? = some o) (h : OEf C ops hist.length o st e f) (h1 : DW C r G k ops (hist ++ [f]) (st.app hist.length o.dst e)) : DW C r G k ops hist st := by
  obtain ⟨rest, st', q1, q2, q3, q4⟩ := h1
  refine ⟨f :: rest, st', by simpa using q1, by simpa using q2, ⟨o, e, ho, h, by simpa using q3⟩, q4⟩

theorem dw_end {k : List Item} {hist : List Fp} {st : St} (hl : hist.length = ops.size) (hok : drawOk ops st.ep hist = true) (h1 : AWP C r G k st.next) : DW C r G k ops hist st :=
  ⟨[], st, by simpa using hl, by simpa using hok, rfl, h1⟩

theorem Chain.ep : ∀ {l : List Fp} {k : Nat} {st st' : St}, Chain C ops l k st st' → st'.ep = st.ep
  | [], _, _, _, h => by simp only [Chain] at h; rw [h]
  | f :: l, k, st, st', h => by
    obtain ⟨o, e, _, _, h⟩ := h
    rw [Chain.ep h, app_ep]

/-- A region that draws its order: it is walked in the order of its text. -/
theorem awp_draw {k : List Item} {st : St} {id : Nat} (hE : EnvOk C.E) (hm : C.E.prog.follows .mixedOrders = true) (h : DW C r G k ops [] st) : AWP C r G (.c (.region id ops true) :: k) st := by
  intro ρ S a w hr hd b k0 cs hb
  obtain ⟨rest, st', q1, q2, q3, q4⟩ := h
  simp only [List.nil_append] at q1 q2
  have hany := DAny_lex (K := fun s => s = st') q2 q1 rfl rest 0 (Array.replicate ops.size false) st (by simp) (by simpa using q1) ⟨by simp, fun j hj => by simp [hj]⟩ rfl q3
  rw [q1] at hany
  have hr0 : Rep C (fun _ => False) ρ S st a.tmps w := hr
  obtain ⟨X', ρ', S', st2, a', w', p1, p2, p3, p4⟩ := hany.run hE (b := b) (k.map conc ++ k0) cs hb ops.size (w.tape w.drawn (.order b.fn id)) _ _ (fun _ => False) (fun _ _ h => h.elim) ρ S a { w with drawn := w.drawn + 1 } (hr0.drawn _) hd
  subst p3
  obtain ⟨e, a2, w2, hg, harr⟩ := q4 ρ' S' a' w' (p1.nextEp.weakX (fun _ h => h.elim)) p2 b k0 cs hb
  refine ⟨e, a2, w2, hg, .of_steps ?_ harr⟩
  refine .head (fenced_all _ _ _) (stepR_region_draw) (StepsIn.trans (m₁ := lone (b.atR a' (.inRegion ops [] :: (k.map conc ++ k0))) cs w') ?_ (.one (fenced_all _ _ _) stepR_region_end))
  simp only [Region.schedule, hm, Bool.true_or, if_true]
  exact p4

end
end Eng

/- The engine, part ZJ: the walk through a region that draws its order, by reckoning. -/
namespace Eng
open Go

/-- st2 tells no more than st. -/
structure Under (st2 st : St) : Prop where
  ep : st2.ep = st.ep
  slots : ∀ k, st2.slots k = .dead ∨ st2.slots k = st.slots k
  objs : ∀ id, st2.objs id = none ∨ st2.objs id = st.objs id
  fz : ∀ id, st2.fz id = st.fz id

section
variable {C : Ctx} {r : Fm} {G : Goal} {ops : Array Oper}

theorem Under.app {st2 st : St} (h : Under st2 st) (i : Nat) (t : Option Nat) (e : Eff) : Under (st2.app i t e) (st.app i t e) where
  ep := by simp [h.ep]
  slots := fun k => by
    simp only [app_slots]
    by_cases hk : t = some k
    · simp [hk]
    · simp only [hk, if_false]; exact h.slots k
  objs := fun id => by
    simp only [app_get, h.ep]
    cases lastO (news st.ep i e) id with
    | some u => exact .inr rfl
    | none =>
      cases lastO e.wr id with
      | some u => exact .inr rfl
      | none => simpa using h.objs id
  fz := fun id => by simp [h.fz id]

theorem Under.next {st2 st : St} (h : Under st2 st) : Under st2.next st.next where
  ep := by simp [St.next, h.ep]
  slots := h.slots
  objs := h.objs
  fz := h.fz

theorem Rep.under {X : Nat → Prop} {ρ : Id → Option Lay} {S : Nat → Prop} {st st2 : St} {tm : Array Value} {w : World} (h : Rep C X ρ S st tm w) (hu : Under st2 st) : Rep C X ρ S st2 tm w := by
  have ob : ∀ {id o}, st2.objs id = some o → st.objs id = some o := fun {id o} ho => by
    rcases hu.objs id with q | q
    · rw [q] at ho; cases ho
    · rw [← q]; exact ho
  exact { h with
    slots := fun k => by
      rcases hu.slots k with q | q
      · rw [q]; exact .dead _
      · rw [q]; exact h.slots k
    objs := fun id o ho hg => h.objs id o (ob ho) hg
    own := fun id o L b ho hg hL hb => by rw [hu.fz id]; exact h.own id o L b (ob ho) hg hL hb
    inj := fun id o L id' o' L' b ho hg hL hb ho' hg' hL' hb' => h.inj id o L id' o' L' b (ob ho) hg hL hb (ob ho') hg' hL' hb'
    known := fun id hn => h.known id (by
      cases hc : st2.objs id with
      | none => exact absurd hc hn
      | some o => rw [ob hc]; simp)
    young := fun id hn => by rw [hu.ep]; exact h.young id hn
    fzk := fun id hf => h.fzk id (by rw [← hu.fz id]; exact hf)
    ep1 := by rw [hu.ep]; exact h.ep1 }

theorem AWP.under {k : List Item} {st st2 : St} (h : AWP C r G k st2) (hu : Under st2 st) : AWP C r G k st := fun ρ S a w hr hd => h ρ S a w (hr.under hu) hd

theorem live_eq {o : Oper} {st st2 : St} {f : Fp} (hu : Under st2 st) (h : live ops o st2 f = true) : (∀ t ∈ o.looksAt ops, st.slots t = st2.slots t) ∧ (∀ id ∈ f.R, st.objs id = st2.objs id) ∧ (∀ id ∈ f.W, st.objs id = st2.objs id) := by
  simp only [live, Bool.and_eq_true, List.all_eq_true] at h
  refine ⟨fun t ht => ?_, fun id hid => ?_, fun id hid => ?_⟩
  · rcases hu.slots t with q | q
    · have := h.1.1 t ht; rw [q] at this; simp [D.isDead] at this
    · exact q.symm
  · rcases hu.objs id with q | q
    · have := h.1.2 id hid; rw [q] at this; simp at this
    · exact q.symm
  · rcases hu.objs id with q | q
    · have := h.2 id hid; rw [q] at this; simp at this
    · exact q.symm

theorem OEf.under {i : Nat} {o : Oper} {st st2 : St} {e : Eff} {f : Fp} (h : OEf C ops i o st2 e f) (hu : Under st2 st) : OEf C ops i o st e f := by
  obtain ⟨h1, h2, h3, h4⟩ := h
  obtain ⟨q1, q2, q3⟩ := live_eq hu h4
  exact ⟨h1.congr q1 q2 (fun id _ => (hu.fz id).symm) hu.ep.symm, h2, h3, live_congr h4 q1 q2 q3⟩

theorem Chain.under : ∀ {l : List Fp} {k : Nat} {st st2 st' : St}, Chain C ops l k st2 st' → Under st2 st → ∃ st'', Chain C ops l k st st'' ∧ Under st' st''
  | [], k, st, st2, st', h, hu => by simp only [Chain] at h; subst h; exact ⟨st, rfl, hu⟩
  | f :: l, k, st, st2, st', h, hu => by
    obtain ⟨o, e, ho, hoe, h⟩ := h
    obtain ⟨st'', q1, q2⟩ := Chain.under h (hu.app k o.dst e)
    exact ⟨st'', ⟨o, e, ho, hoe.under hu, q1⟩, q2⟩

theorem dw_under {k : List Item} {hist : List Fp} {st st2 : St} (h : DW C r G k ops hist st2) (hu : Under st2 st) : DW C r G k ops hist st := by
  obtain ⟨rest, st', q1, q2, q3, q4⟩ := h
  obtain ⟨st'', p1, p2⟩ := q3.under hu
  exact ⟨rest, st'', q1, by rw [← hu.ep]; exact q2, p1, q4.under p2.next⟩

/-! ## By reckoning -/

def mkF (ep : Nat) (l : List Id) (ls : List (Nat × D)) (lo : List (Id × Obj)) : St := { slots := assoc .dead ls, objs := assocO lo, fz := fun id => l.contains id, ep := ep }

/-- One operation: its footprint, the state behind it, conditions. -/
def stepD (E : Env) (ops : Array Oper) (i : Nat) (o : Oper) (st : St) : Option (Fp × Eff) :=
  match guardOf ops st o.guard with
  | some true => match core E st.ep i o.op o.type st.slots st.objs with
    | some e => let f : Fp := ⟨foot E o.op st.slots st.objs, e.wr.map (·.1), e.frz⟩
      if wrOk st e && opOk E o && live ops o st f then some (f, e) else none
    | none => none
  | some false => if dstOk E o && live ops o st {} then some ({}, { val := .undef }) else none
  | none => none

def runD (E : Env) (ops : Array Oper) : Nat → List Fp → St → List Bool → Option (List Fp × St × List Bool)
  | 0, hist, st, ps => some (hist, st, ps)
  | n + 1, hist, st, ps => match ops[hist.length]? with
    | some o => match stepD E ops hist.length o st with
      | some (f, e) => runD E ops n (hist ++ [f]) (st.app hist.length o.dst e) (ps ++ e.cond)
      | none => none
    | none => none

theorem runD_grow {E : Env} : ∀ (n : Nat) (hist : List Fp) (st : St) (ps : List Bool) {hist' : List Fp} {st' : St} {ps' : List Bool}, runD E ops n hist st ps = some (hist', st', ps') → ∀ p ∈ ps, p ∈ ps'
  | 0, hist, st, ps, _, _, _, h, p, hp => by simp only [runD, Option.some.injEq, Prod.mk.injEq] at h; obtain ⟨rfl, rfl, rfl⟩ := h; exact hp
  | n + 1, hist, st, ps, _, _, _, h, p, hp => by
    simp only [runD] at h
    split at h
    · split at h
      · exact runD_grow n _ _ _ h p (List.mem_append_left _ hp)
      · simp at h
    · simp at h

theorem stepD_oe {E : Env} {i : Nat} {o : Oper} {st : St} {f : Fp} {e : Eff} (hE : C.E = E) (h : stepD E ops i o st = some (f, e)) (hc : ∀ q ∈ e.cond, q = true) : OEf C ops i o st e f := by
  subst hE
  unfold stepD at h
  split at h
  · rename_i hg
    split at h
    · rename_i e' hcore
      dsimp only at h
      split at h
      · rename_i hok
        simp only [Option.some.injEq, Prod.mk.injEq] at h
        obtain ⟨rfl, rfl⟩ := h
        simp only [Bool.and_eq_true] at hok
        exact ⟨.op hg hcore hok.1.2 hok.1.1 hc, rfl, rfl, hok.2⟩
      · simp at h
    · simp at h
  · rename_i hg
    split at h
    · rename_i hok
      simp only [Option.some.injEq, Prod.mk.injEq] at h
      obtain ⟨rfl, rfl⟩ := h
      simp only [Bool.and_eq_true] at hok
      exact ⟨.skip hg hok.1, rfl, rfl, hok.2⟩
    · simp at h
  · simp at h

theorem dw_run {k : List Item} : ∀ (n : Nat) (hist : List Fp) (st : St) (ps : List Bool) {hist' : List Fp} {st' : St} {ps' : List Bool}, runD C.E ops n hist st ps = some (hist', st', ps') → (∀ p ∈ ps', p = true) → DW C r G k ops hist' st' → DW C r G k ops hist st
  | 0, hist, st, ps, _, _, _, h, _, h1 => by simp only [runD, Option.some.injEq, Prod.mk.injEq] at h; obtain ⟨rfl, rfl, rfl⟩ := h; exact h1
  | n + 1, hist, st, ps, _, _, _, h, hp, h1 => by
    simp only [runD] at h
    split at h
    · rename_i o ho
      split at h
      · rename_i f e hs
        exact dw_op ho (stepD_oe rfl hs fun q hq => hp q (runD_grow n _ _ _ h q (List.mem_append_right _ hq))) (dw_run n _ _ _ h hp h1)
      · simp at h
    · simp at h

def objL (st : St) : List Id → Option (List Obj)
  | [] => some []
  | id :: r => match st.objs id, objL st r with
    | some o, some os => some (o :: os)
    | _, _ => none

/-- What is frozen behind it. -/
def fzOf (l : List Id) (hist : List Fp) : List Id := hist.foldl (fun l f => f.F ++ l) l

/-- To run, and to tell the state anew. -/
def runTell (E : Env) (ops : Array Oper) (n : Nat) (hist : List Fp) (st : St) (ks : List Nat) (ids : List Id) : Option (List Fp × List D × List Obj × List Bool) :=
  match runD E ops n [] st [] with
  | some (h', st', ps) => match objL st' ids with
    | some os => some (h', ks.map st'.slots, os, ps)
    | none => none
  | none => none

theorem objL_spec {st : St} : ∀ {ids : List Id} {os : List Obj}, objL st ids = some os → ∀ id o, (id, o) ∈ ids.zip os → st.objs id = some o
  | [], os, h, id, o, hm => by simp at hm
  | i :: r, os, h, id, o, hm => by
    simp only [objL] at h
    split at h
    · rename_i o' os' ho hos
      simp only [Option.some.injEq] at h
      subst h
      simp only [List.zip_cons_cons, List.mem_cons, Prod.mk.injEq] at hm
      rcases hm with ⟨rfl, rfl⟩ | hm
      · exact ho
      · exact objL_spec hos id o hm
    · simp at h

theorem under_of {st : St} {ls : List (Nat × D)} {lo : List (Id × Obj)} {l : List Id} (h1 : ∀ k d, (k, d) ∈ ls → st.slots k = d) (h2 : ∀ id o, (id, o) ∈ lo → st.objs id = some o) (h3 : ∀ id, st.fz id = l.contains id) : Under (mkF st.ep l ls lo) st where
  ep := rfl
  slots := fun k => by
    rcases assoc_mem D.dead ls k with q | q
    · exact .inl q
    · exact .inr (h1 _ _ q).symm
  objs := fun id => by
    show assocO lo id = none ∨ assocO lo id = st.objs id
    cases hc : assocO lo id with
    | none => exact .inl rfl
    | some o => exact .inr (h2 _ _ (assocO_mem hc)).symm
  fz := fun id => (h3 id).symm

theorem zip_map_fst {α β : Type} (l : List (α × β)) : (l.map (·.1)).zip (l.map (·.2)) = l := zip_fst_snd l

theorem map_slots {st : St} {ls : List (Nat × D)} (h : (ls.map (·.1)).map st.slots = ls.map (·.2)) : ∀ k d, (k, d) ∈ ls → st.slots k = d := by
  induction ls with
  | nil => intro k d hm; simp at hm
  | cons x r ih =>
    obtain ⟨k0, d0⟩ := x
    simp only [List.map_cons, List.cons.injEq] at h
    intro k d hm
    rcases List.mem_cons.1 hm with hm | hm
    · simp only [Prod.mk.injEq] at hm; obtain ⟨rfl, rfl⟩ := hm; exact h.1
    · exact ih h.2 k d hm

/-- The rest of the region from i on: to run n operations, and to tell the state anew. -/
def tellD (E : Env) (ops : Array Oper) (n : Nat) (hist : List Fp) (st : St) (ks : List Nat) (ids : List Id) : Option (List Fp × List D × List Obj × List Bool) :=
  match runD E ops n hist st [] with
  | some (h', st', ps) => match objL st' ids with
    | some os => some (h', ks.map st'.slots, os, ps)
    | none => none
  | none => none

theorem runD_fz {E : Env} : ∀ (n : Nat) (hist : List Fp) (st : St) (ps : List Bool) {hist' : List Fp} {st' : St} {ps' : List Bool} (l : List Id), runD E ops n hist st ps = some (hist', st', ps') → (∀ id, st.fz id = (fzOf l hist).contains id) →
    st'.ep = st.ep ∧ ∀ id, st'.fz id = (fzOf l hist').contains id
  | 0, hist, st, ps, _, _, _, l, h, hf => by simp only [runD, Option.some.injEq, Prod.mk.injEq] at h; obtain ⟨rfl, rfl, rfl⟩ := h; exact ⟨rfl, hf⟩
  | n + 1, hist, st, ps, _, _, _, l, h, hf => by
    simp only [runD] at h
    split at h
    · rename_i o ho
      split at h
      · rename_i f e hs
        have hF : f.F = e.frz := by
          unfold stepD at hs
          split at hs
          · split at hs
            · dsimp only at hs
              split at hs
              · simp only [Option.some.injEq, Prod.mk.injEq] at hs; obtain ⟨rfl, rfl⟩ := hs; rfl
              · simp at hs
            · simp at hs
          · split at hs
            · simp only [Option.some.injEq, Prod.mk.injEq] at hs; obtain ⟨rfl, rfl⟩ := hs; rfl
            · simp at hs
          · simp at hs
        obtain ⟨q1, q2⟩ := runD_fz n _ _ _ l h (fun id => by
          simp only [app_fz, hf id, fzOf, List.foldl_append, List.foldl_cons, List.foldl_nil, hF, List.contains_eq_mem, List.mem_append]
          simp only [Bool.decide_or])
        exact ⟨by rw [q1, app_ep], q2⟩
      · simp at h
    · simp at h

/-- **To walk on through the region**: n operations that call nothing; ls, lo: what is told of the state behind them. -/
theorem dw_to {k : List Item} {ep : Nat} {l : List Id} {ls0 : List (Nat × D)} {lo0 : List (Id × Obj)} {hist : List Fp} (n : Nat) (ls : List (Nat × D)) (lo : List (Id × Obj)) (hist' : List Fp) (ps : List Bool)
    (h : tellD C.E ops n hist (mkF ep (fzOf l hist) ls0 lo0) (ls.map (·.1)) (lo.map (·.1)) = some (hist', ls.map (·.2), lo.map (·.2), ps)) (hp : andL ps) (h1 : DW C r G k ops hist' (mkF ep (fzOf l hist') ls lo)) :
    DW C r G k ops hist (mkF ep (fzOf l hist) ls0 lo0) := by
  unfold tellD at h
  split at h
  · rename_i h' st' ps' hrun
    split at h
    · rename_i os hos
      simp only [Option.some.injEq, Prod.mk.injEq] at h
      obtain ⟨rfl, hsl, rfl, rfl⟩ := h
      refine dw_run n hist _ [] hrun (andL_all hp) ?_
      obtain ⟨q1, q2⟩ := runD_fz n hist _ [] l hrun (fun id => rfl)
      refine dw_under h1 ?_
      have := under_of (st := st') (ls := ls) (lo := lo) (l := fzOf l h') (map_slots hsl) (fun id o hm => objL_spec hos id o (by rw [zip_fst_snd]; exact hm)) q2
      rw [show ep = st'.ep from q1.symm]
      exact this
    · simp at h
  · simp at h

/-- What is told behind one operation. -/
def tellS (st : St) (ks : List Nat) (ids : List Id) : Option (List D × List Obj) :=
  match objL st ids with
  | some os => some (ks.map st.slots, os)
  | none => none

/-- A call. R: what it may look at. -/
theorem dw_call {k : List Item} {ep : Nat} {l : List Id} {ls0 : List (Nat × D)} {lo0 : List (Id × Obj)} {hist : List Fp} {o : Oper} {c : Call} {st : St} (hst : st = mkF ep (fzOf l hist) ls0 lo0) (ho : ops[hist.length]? = some o) (hg : guardOf ops st o.guard = some true) (hop : o.op = .call c) (hdst : dstOk C.E o = true)
    (pts : List Nat) (ms : List AM) {f : Nat} {as : List AE} (hpre : preE C.E st c pts ms = some (f, as)) (hcnd : andL (as.flatMap (·.cond))) {args : List Arg} {ret : Ret} (hargs : as.map (·.arg) = args) (hf : Fun C.E f args ret)
    {e : Eff} (he : callE st hist.length as ret = some e) (e' : Eff) (hee : e = e') (R : List Id) (hR : callIds C.E st.slots st.objs c.operands.toList = R) (hlv : live ops o st ⟨R, e'.wr.map (·.1), e'.frz⟩ = true)
    (ls : List (Nat × D)) (lo : List (Id × Obj)) (ht : tellS (st.app hist.length o.dst e') (ls.map (·.1)) (lo.map (·.1)) = some (ls.map (·.2), lo.map (·.2)))
    (hist' : List Fp) (hh : hist ++ [⟨R, e'.wr.map (·.1), e'.frz⟩] = hist') (h1 : DW C r G k ops hist' (mkF ep (fzOf l hist') ls lo)) : DW C r G k ops hist st := by
  subst hee hargs hR hh
  have hoe : OEf C ops hist.length o st e ⟨callIds C.E st.slots st.objs c.operands.toList, e.wr.map (·.1), e.frz⟩ := ⟨.call hg hop hdst hpre hcnd hf he, rfl, rfl, hlv⟩
  refine dw_op ho hoe ?_
  unfold tellS at ht
  split at ht
  · rename_i os hos
    simp only [Option.some.injEq, Prod.mk.injEq] at ht
    obtain ⟨hsl, rfl⟩ := ht
    refine dw_under h1 ?_
    have := under_of (st := st.app hist.length o.dst e) (ls := ls) (lo := lo) (l := fzOf l (hist ++ [⟨callIds C.E st.slots st.objs c.operands.toList, e.wr.map (·.1), e.frz⟩])) (map_slots hsl) (fun id o hm => objL_spec hos id o (by rw [zip_fst_snd]; exact hm))
      (fun id => by
        have h0 : st.fz id = (fzOf l hist).contains id := by rw [hst]; rfl
        simp only [app_fz, h0, fzOf, List.foldl_append, List.foldl_cons, List.foldl_nil, List.contains_eq_mem, List.mem_append]
        simp only [Bool.decide_or])
    rw [show ep = (st.app hist.length o.dst e).ep by rw [app_ep, hst]; rfl]
    exact this
  · simp at ht

/-- One operation, its effect told anew. -/
theorem dw_opEq {k : List Item} {ep : Nat} {l : List Id} {ls0 : List (Nat × D)} {lo0 : List (Id × Obj)} {hist : List Fp} {o : Oper} {st : St} (hst : st = mkF ep (fzOf l hist) ls0 lo0) (e e' : Eff) (f : Fp) (ho : ops[hist.length]? = some o)
    (hs : stepD C.E ops hist.length o st = some (f, e)) (hee : e = e') (hcond : andL e'.cond)
    (ls : List (Nat × D)) (lo : List (Id × Obj)) (ht : tellS (st.app hist.length o.dst e') (ls.map (·.1)) (lo.map (·.1)) = some (ls.map (·.2), lo.map (·.2)))
    (hist' : List Fp) (hh : hist ++ [f] = hist') (h1 : DW C r G k ops hist' (mkF ep (fzOf l hist') ls lo)) : DW C r G k ops hist st := by
  subst hee hh
  have hoe : OEf C ops hist.length o st e f := stepD_oe rfl hs (andL_all hcond)
  refine dw_op ho hoe ?_
  unfold tellS at ht
  split at ht
  · rename_i os hos
    simp only [Option.some.injEq, Prod.mk.injEq] at ht
    obtain ⟨hsl, rfl⟩ := ht
    refine dw_under h1 ?_
    have := under_of (st := st.app hist.length o.dst e) (ls := ls) (lo := lo) (l := fzOf l (hist ++ [f])) (map_slots hsl) (fun id o hm => objL_spec hos id o (by rw [zip_fst_snd]; exact hm))
      (fun id => by
        have h0 : st.fz id = (fzOf l hist).contains id := by rw [hst]; rfl
        simp only [app_fz, h0, fzOf, List.foldl_append, List.foldl_cons, List.foldl_nil, hoe.2.2.1, List.contains_eq_mem, List.mem_append]
        simp only [Bool.decide_or])
    rw [show ep = (st.app hist.length o.dst e).ep by rw [app_ep, hst]; rfl]
    exact this
  · simp at ht

/-- Into a region that draws its order. -/
theorem awp_drawTo {k : List Item} {ls : List (Nat × D)} {lo : List (Id × Obj)} {id : Nat} (hE : EnvOk C.E) (hm : C.E.prog.follows .mixedOrders = true) (h : DW C r G k ops [] (mkF 1 (fzOf [] []) ls lo)) : AWP C r G (.c (.region id ops true) :: k) (mkS 1 ls lo) :=
  awp_draw hE hm h

end
end Eng

/- The engine, part ZK: from a law's contract to the row's call. -/
namespace Eng
open Go

/-- Only new blocks; the outside is left alone. -/
def Kept (w w' : World) : Prop := Quiet w w' ∧ w.heap.size ≤ w'.heap.size ∧ ∀ b, b < w.heap.size → w'.heap[b]? = w.heap[b]?

theorem Kept.keptBut {w w' : World} (h : Kept w w') (may : MemPlace → Prop) : w.keptBut w' may := by
  refine ⟨h.1.1, h.1.2, fun i hi => ?_⟩
  rw [h.2.2 i hi]
  cases w.heap[i]? with
  | none => rfl
  | some o => cases o <;> simp

theorem argOs_pure : ∀ (n : Nat) (xs : List P), argOs n (xs.map .p) = []
  | _, [] => rfl
  | n, x :: xs => by simp only [List.map_cons, argOs, Arg.o]; exact argOs_pure (n + 1) xs

/-- A law that is handed pure data. -/
theorem law_calls {E : Env} {f : Nat} {xs : List P} {vals : Array Value} {w : World} {y : P} (hF : Fun E f (xs.map .p) ⟨[.p y], []⟩) (hv : vals.size = xs.length)
    (hrel : ∀ (k : Nat) v x, vals[k]? = some v → xs[k]? = some x → RelP w (fun b => b < w.heap.size) v x) (hglob : ∀ g cs, (g, cs) ∈ E.globs → RelP w (fun b => b < w.heap.size) (.pointer (some ⟨g, 0, none⟩)) (.ptr cs)) :
    Calls E.prog f vals w fun e w' => (∃ v S, e = .returned v ∧ RelP w' S v y) ∧ Kept w w' := by
  refine Calls.mono (CallsIn.calls (hF.2 w (fun _ => False) (fun b => b < w.heap.size) (fun _ => none) (fun _ => none) vals (by simpa using hv) ?_) (fun _ => by intro d hd; simp [fence] at hd)) ?_
  · have ho : ∀ id, (argSt (xs.map .p)).objs id = none := fun id => by
      show assocO (argOs 0 (xs.map .p)) id = none
      rw [argOs_pure]; rfl
    exact {
      nt := rfl
      grow := Nat.le_refl _
      frame := fun _ _ _ => rfl
      s0 := fun _ h => h
      sIn := fun _ h => h
      slots := fun k => by
        show RelD w _ _ (vals.getD k undef) (assoc D.dead (argDs 0 (xs.map .p)) k)
        rcases assoc_mem D.dead (argDs 0 (xs.map .p)) k with hk | hk
        · rw [hk]; exact .dead _
        · obtain ⟨j, x, q1, q2, q3⟩ := argDs_mem 0 _ _ _ hk
          rw [Nat.zero_add] at q2 q3
          subst q2
          rw [List.getElem?_map, Option.map_eq_some_iff] at q1
          obtain ⟨x0, q1, rfl⟩ := q1
          rw [q3]
          have hlt := (List.getElem?_eq_some_iff.1 q1).1
          have hv' : vals[k]? = some vals[k] := by simp
          rw [show vals.getD k undef = vals[k] by simp [show k < vals.size by omega]]
          exact .p _ _ (hrel k _ x0 hv' q1)
      objs := fun id o h => by rw [ho id] at h; cases h
      own := fun id o L b h => by rw [ho id] at h; cases h
      inj := fun id o L id' o' L' b h => by rw [ho id] at h; cases h
      known := fun id h => absurd (ho id) h
      young := fun id h => absurd rfl h
      fzk := fun id h => by cases h
      glob := hglob
      sOut := fun b h => .inl h
      ep1 := Nat.le_refl _
      quiet := .refl _
      lay := fun k L h => by cases h }
  · rintro e w' ⟨vs, ρ', S', rfl, hvs, hrep⟩
    refine ⟨⟨tupV vs, S', rfl, ?_⟩, hrep.quiet, hrep.grow, fun b hb => hrep.frame b hb (fun h => h)⟩
    have h1 : vs.size = 1 := by simpa using hvs
    have := hrep.slots 0
    have h2 : vs.getD 0 undef = vs[0] := by simp [h1]
    rw [h2] at this
    unfold tupV
    rw [dif_pos h1]
    exact this.of_p

theorem law_calls_bool {E : Env} {f : Nat} {xs : List P} {vals : Array Value} {w : World} {y : Bool} (hF : Fun E f (xs.map .p) ⟨[.p (.bool y)], []⟩) (hv : vals.size = xs.length)
    (hrel : ∀ (k : Nat) v x, vals[k]? = some v → xs[k]? = some x → RelP w (fun b => b < w.heap.size) v x) (hglob : ∀ g cs, (g, cs) ∈ E.globs → RelP w (fun b => b < w.heap.size) (.pointer (some ⟨g, 0, none⟩)) (.ptr cs)) :
    Calls E.prog f vals w fun e w' => e = .returned (.bool y) ∧ Kept w w' :=
  Calls.mono (law_calls hF hv hrel hglob) fun e w' ⟨⟨v, S, he, hr⟩, hk⟩ => ⟨by cases hr; exact he, hk⟩

open Go.ChangeShapes Go.WideShapes in
/-- The arguments read as before, in a world that has but new blocks. -/
theorem post_of_kept {H : Type} {P : Program} {enc : TypeId × Value → H} {f : Func} {s : ChangeSpec} {apart fresh handsOn again : Bool} {W W' : World} {args : Array Value} {v : Value} {ds gs : List (DataW H)} {before pa pv : List MemPlace}
    (hW : DataW.Whole enc P f.params.toList s.vars apart W args.toList ds gs before)
    (hres : ∀ (b : Nat) (sp : Nat → Bool) (hd : Bool), DataW.TrodAll enc P W' b sp hd f.resultTypes.toList (v.resultList f.resultTypes.size) (s.fn H (ds ++ gs)).results [])
    (hargs : ∀ sp : Nat → Bool, (∀ p ∈ before, sp p.block = true) → DataW.TrodAll enc P W' 0 sp true f.params.toList args.toList (s.fn H (ds ++ gs)).args pa)
    (hvars : ∀ sp : Nat → Bool, (∀ p ∈ before, sp p.block = true) → DataW.TrodVars enc P W' sp s.vars (s.fn H (ds ++ gs)).vars pv)
    (hps : before = pa ++ pv) (hk : Kept W W')
    (hok : ∀ (j : Nat) (t : TypeId) (r : Value), f.resultTypes[j]? = some t → (v.resultList f.resultTypes.size)[j]? = some r → Value.okWide P W' .any 0 t r) :
    s.post enc P f apart fresh handsOn again W args v W' := by
  have hold : ∀ p ∈ before, (fun b => decide (b < W.heap.size)) p.block = true := fun p hp => by simpa using hW.lt p hp
  have hlt := hW.lt
  refine ⟨ds, gs, before, [], pa, pv, hW, hres _ _ _, hargs _ hold, hvars _ hold, World.keptBut_mono (fun p hp => ⟨hp, ?_⟩) (hk.keptBut (· ∈ before)), fun _ => ?_⟩
  · rw [hps, List.mem_append] at hp
    exact Or.inr hp
  · obtain ⟨_, _, _, _, _, hz, hn⟩ := hW
    refine ⟨hok, _, _, ([] ++ pa) ++ pv, ⟨[] ++ pa, pv, trodAll_append (hargs _ (fun _ _ => rfl)) (hres _ _ _), hvars _ (fun _ _ => rfl), rfl, ?_, ?_⟩, ?_⟩
    · intro b off hp
      have hp' : MemPlace.cell b off ∈ before := by rw [hps]; simpa using hp
      have hb : b < W.heap.size := hlt _ hp'
      rw [frozen_keep (hk.2.2 b hb)]
      exact hz b off hp'
    · intro ha
      have := hn ha
      rw [hps] at this
      simpa using this
    · intro p hp _
      rw [hps]
      simpa using hp

end Eng

/- The engine, part ZL: what the printed walks lean on. -/
namespace Eng
open Go

/-! ## Specs -/

def chk {α : Type} (b : Bool) (k : Option α) : Option α := match b with
  | true => k
  | false => none
theorem chk_some {α : Type} {b : Bool} {k : Option α} {r : α} (h : chk b k = some r) : b = true ∧ k = some r := by cases b <;> simp_all [chk]
@[simp] theorem chk_true {α : Type} (k : Option α) : chk true k = k := rfl
theorem bind_some {α β : Type} {x : Option α} {f : α → Option β} {r : β} (h : x.bind f = some r) : ∃ a, x = some a ∧ f a = some r := by cases x <;> simp_all

def inK (k : IntKind) (n : Int) : Bool := decide (k.min ≤ n ∧ n ≤ k.max)
/-- An element of a list. -/
def idx {α : Type} (xs : List α) (n : Int) : Option α := if 0 ≤ n then xs[n.toNat]? else none

theorem idx_some {α : Type} {xs : List α} {n : Int} {x : α} (h : idx xs n = some x) : 0 ≤ n ∧ n < xs.length ∧ xs[n.toNat]? = some x := by
  unfold idx at h
  split at h
  · rename_i h0
    have := (List.getElem?_eq_some_iff.1 h).1
    exact ⟨h0, by omega, h⟩
  · cases h

theorem getD_idx {α : Type} {xs : List α} {n : Int} {x : α} (f : α → P) (h : idx xs n = some x) : (xs.map f).getD n.toNat default = f x := by
  rw [List.getD_eq_getElem?_getD, List.getElem?_map, (idx_some h).2.2]; rfl

/-! ## Effects told anew -/

theorem idxEff {α : Type} {xs : List α} {n : Int} {x : α} (f : α → P) (h : idx xs n = some x) : ({ val := .p (.ptr ((xs.map f).getD n.toNat default).cells), cond := [decide (0 ≤ n ∧ n < (xs.map f).length)] } : Eff) = { val := .p (.ptr (f x).cells), cond := [true] } := by
  rw [getD_idx f h]
  obtain ⟨h1, h2, _⟩ := idx_some h
  simp [h1, h2]

theorem idxoEff {α : Type} {xs : List α} {n : Int} {x : α} (id : Id) (i' len : Nat) (h : idx xs n = some x) (hl : len = xs.length := by rfl) : ({ val := .ptr id i' 0, cond := [decide (0 ≤ n ∧ n < len)] } : Eff) = { val := .ptr id i' 0, cond := [true] } := by
  subst hl
  obtain ⟨h1, h2, _⟩ := idx_some h
  simp [h1, h2]

theorem lenEff {α : Type} (xs : List α) (f : α → P) : ({ val := .p (.int .i64 (xs.map f).length), cond := [] } : Eff) = { val := .p (.int .i64 xs.length), cond := [] } := by rw [List.length_map]

theorem take_map {α : Type} (xs : List α) (f : α → P) : (xs.map f).take xs.length = xs.map f := by rw [← List.length_map (f := f), List.take_length]
theorem dt_map {α : Type} (xs : List α) (f : α → P) : ((xs.map f).drop 0).take xs.length = xs.map f := by rw [List.drop_zero, take_map]

theorem appEff {α : Type} (xs ys : List α) (f : α → P) (sz bytes : Nat) (id id' : Id) (ysP : List P) (h : ysP = ys.map f) :
    ({ val := .sl id 0 (xs.length + ysP.length), new := [(0, .arr sz ((xs.map f).take xs.length ++ ysP) false)], wr := [(id', .gone)], cond := [decide ((xs.length + ysP.length) * max bytes 1 ≤ roomB)] } : Eff) =
    { val := .sl id 0 (xs ++ ys).length, new := [(0, .arr sz ((xs ++ ys).map f) false)], wr := [(id', .gone)], cond := [decide ((xs ++ ys).length * max bytes 1 ≤ roomB)] } := by
  subst h
  rw [take_map, List.length_map, List.map_append, List.length_append]

theorem appNilEff {α : Type} (ys : List α) (f : α → P) (sz bytes : Nat) (id : Id) (ysP : List P) (h : ysP = ys.map f) :
    ({ val := .sl id 0 ysP.length, new := [(0, .arr sz ysP false)], cond := [decide (ysP.length * max bytes 1 ≤ roomB)] } : Eff) =
    { val := .sl id 0 ys.length, new := [(0, .arr sz (ys.map f) false)], cond := [decide (ys.length * max bytes 1 ≤ roomB)] } := by
  subst h
  rw [List.length_map]

theorem set_map {α : Type} (xs : List α) (f : α → P) (n : Nat) (x : α) : (xs.map f).set n (f x) = (xs.set n x).map f := by rw [List.map_set]

/-- A load out of an array of the call's own. -/
theorem core_load_arr {E : Env} {ep i : Nat} {op : Op} {t : TypeId} {a : Operand} {ty : Nat} {sl : Nat → D} {lk : Id → Option Obj} {ti : TI} {id : Id} {i' j sz : Nat} {es : List P} {fix : Bool} {x : P} (hop : op = .load t a) (hti : E.ty t = some ti) (ha : ev E sl 0 a = .ptr id i' j)
    (hlk : lk id = some (.arr sz es fix)) (hx : loadP ti ((es.getD i' default).cells.drop j) = some x) : core E ep i op ty sl lk = some { val := .p x } := by
  subst hop
  simp only [core, hti, ha, hlk, hx]

section
variable {C : Ctx} {r : Fm} {G : Goal} {ops : Array Oper}

theorem stepD_core {E : Env} {i : Nat} {o : Oper} {st : St} {e : Eff} (hg : guardOf ops st o.guard = some true) (hc : core E st.ep i o.op o.type st.slots st.objs = some e)
    (f : Fp) (hf : (⟨foot E o.op st.slots st.objs, e.wr.map (·.1), e.frz⟩ : Fp) = f) (hok : (wrOk st e && opOk E o && live ops o st f) = true) : stepD E ops i o st = some (f, e) := by
  subst hf
  simp only [stepD, hg, hc, hok, if_true]

end

/-! ## Loops -/

/-- What a loop comes to: it is left, or the function returns. -/
inductive Out (β ρ : Type) where
  | brk (b : β)
  | ret (r : ρ)

def bodyOf (f : Func) : Code := match f.body with | some c => c | none => .skip
def sub : List Nat → Code → Code
  | [], c => c
  | 0 :: p, .seq a _ => sub p a
  | 1 :: p, .seq _ b => sub p b
  | 2 :: p, .cond _ a _ => sub p a
  | 3 :: p, .cond _ _ b => sub p b
  | 4 :: p, .block _ b => sub p b
  | 5 :: p, .loop b => sub p b
  | _ :: _, _ => .skip
def opsOf : Code → Array Oper
  | .region _ ops _ => ops
  | _ => #[]

def opAt (c : Code) (i : Nat) : Oper := (opsOf c).getD i default
def callOf (o : Oper) : Call := match o.op with | .call c => c | _ => default
/-- More rounds than any loop makes (a number that nothing unfolds). -/
noncomputable def big : Nat := (Classical.choice (⟨⟨36893488147419103232, rfl⟩⟩ : Nonempty { n : Nat // n = 36893488147419103232 })).1
theorem big_eq : big = 36893488147419103232 := (Classical.choice (⟨⟨36893488147419103232, rfl⟩⟩ : Nonempty { n : Nat // n = 36893488147419103232 })).2

abbrev Str := List UInt8
def encL {α : Type} (sz : Nat) (f : α → P) (xs : List α) : P := .sl sz (xs.map f)

theorem awp_drawAt {C : Ctx} {r : Fm} {G : Goal} {ops : Array Oper} {c : Code} {id : Nat} (hc : c = .region id ops true) {k : List Item} {ls : List (Nat × D)} {lo : List (Id × Obj)} (hE : EnvOk C.E) (hm : C.E.prog.follows .mixedOrders = true) (h : DW C r G k ops [] (mkF 1 (fzOf [] []) ls lo)) : AWP C r G (.c c :: k) (mkS 1 ls lo) := by
  subst hc
  exact awp_drawTo hE hm h

end Eng

