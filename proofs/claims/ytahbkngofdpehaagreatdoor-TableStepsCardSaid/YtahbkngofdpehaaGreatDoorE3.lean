/- The engine, text 3: an abstract evaluator of Go code over pure data, proved sound. -/
import Derived.Test.YtahbkngofdpehaaGreatDoorE2
import Derived.ChangeSame
import Derived.Maps.RangeRun
set_option linter.unusedVariables false
set_option linter.unusedSimpArgs false
set_option linter.unusedSectionVars false
namespace Eng
open Go
def lastO (l : List (Id × Obj)) (id : Id) : Option Obj :=
  match l with
  | [] => none
  | (a, o) :: r => match lastO r id with
    | some u => some u
    | none => if id = a then some o else none
theorem objL_get (l : List (Id × Obj)) : ∀ (st : St) (id : Id), (st.objL l).objs id = (lastO l id).or (st.objs id) := by
  induction l with
  | nil => intro st id; rfl
  | cons x r ih =>
    obtain ⟨a, o⟩ := x
    intro st id
    simp only [St.objL, ih, lastO]
    cases lastO r id with
    | some u => rfl
    | none =>
      simp only [St.obj, upd, Option.or]
      by_cases h : id = a <;> simp [h]
theorem lastO_none {l : List (Id × Obj)} {id : Id} (h : id ∉ l.map (·.1)) : lastO l id = none := by
  induction l with
  | nil => rfl
  | cons x r ih =>
    obtain ⟨a, o⟩ := x
    simp only [List.map_cons, List.mem_cons, not_or] at h
    simp only [lastO, ih h.2, h.1, if_false]
def news (ep i : Nat) (e : Eff) : List (Id × Obj) := e.new.map fun x => ((ep, i, x.1), x.2)
theorem app_get (st : St) (i : Nat) (t : Option Nat) (e : Eff) (id : Id) : (st.app i t e).objs id = (lastO (news st.ep i e) id).or ((lastO e.wr id).or (st.objs id)) := by
  simp only [St.app, setO_objs, freezeL_objs, objL_get, objL_ep, news]
theorem news_id {ep i : Nat} {e : Eff} {id : Id} (h : id ∈ (news ep i e).map (·.1)) : id.1 = ep ∧ id.2.1 = i := by
  simp only [news, List.map_map, List.mem_map] at h
  obtain ⟨x, _, rfl⟩ := h
  exact ⟨rfl, rfl⟩
def touches (ep i : Nat) (W : List Id) (id : Id) : Bool := decide (id ∈ W) || (decide (id.1 = ep) && decide (id.2.1 = i))
theorem app_old {st : St} {i : Nat} {t : Option Nat} {e : Eff} {id : Id} (h : touches st.ep i (e.wr.map (·.1)) id = false) : (st.app i t e).objs id = st.objs id := by
  simp only [touches, Bool.or_eq_false_iff, decide_eq_false_iff_not, Bool.and_eq_false_iff] at h
  rw [app_get, lastO_none (fun hm => by have := news_id hm; rcases h.2 with h | h <;> simp_all), lastO_none h.1]
  rfl
theorem app_comm {st : St} {i j : Nat} {di dj : Option Nat} {ei ej : Eff} (hij : i ≠ j) (hd : ∀ d, di = some d → dj ≠ some d) (h1 : ∀ id ∈ ei.wr.map (·.1), touches st.ep j (ej.wr.map (·.1)) id = false)
    (h2 : ∀ id ∈ ej.wr.map (·.1), touches st.ep i (ei.wr.map (·.1)) id = false) : (st.app i di ei).app j dj ej = (st.app j dj ej).app i di ei := by
  have hs : ((st.app i di ei).app j dj ej).slots = ((st.app j dj ej).app i di ei).slots := by
    funext k
    simp only [app_slots]
    by_cases hi : di = some k
    · have := hd k hi; simp [hi, this]
    · simp [hi]
  have ho : ((st.app i di ei).app j dj ej).objs = ((st.app j dj ej).app i di ei).objs := by
    funext id
    simp only [app_get, app_ep]
    by_cases hi : touches st.ep i (ei.wr.map (·.1)) id = true
    · have hj : touches st.ep j (ej.wr.map (·.1)) id = false := by
        simp only [touches, Bool.or_eq_true, decide_eq_true_eq, Bool.and_eq_true] at hi
        rcases hi with hi | hi
        · exact h1 id hi
        · simp only [touches, Bool.or_eq_false_iff, decide_eq_false_iff_not, Bool.and_eq_false_iff]
          refine ⟨fun hm => ?_, .inr fun hj => hij (by rw [← hi.2, hj])⟩
          have := h2 id hm
          simp [touches, hi] at this
      simp only [touches, Bool.or_eq_false_iff, decide_eq_false_iff_not, Bool.and_eq_false_iff] at hj
      rw [lastO_none (l := news st.ep j ej) (fun hm => by have := news_id hm; rcases hj.2 with h | h <;> simp_all), lastO_none hj.1]
      simp
    · have hi : touches st.ep i (ei.wr.map (·.1)) id = false := by simpa using hi
      simp only [touches, Bool.or_eq_false_iff, decide_eq_false_iff_not, Bool.and_eq_false_iff] at hi
      rw [lastO_none (l := news st.ep i ei) (fun hm => by have := news_id hm; rcases hi.2 with h | h <;> simp_all), lastO_none hi.1]
      simp
  have hf : ((st.app i di ei).app j dj ej).fz = ((st.app j dj ej).app i di ei).fz := by
    funext id
    simp only [app_fz]
    cases ei.frz.contains id <;> cases ej.frz.contains id <;> rfl
  have he : ((st.app i di ei).app j dj ej).ep = ((st.app j dj ej).app i di ei).ep := by simp
  generalize (st.app i di ei).app j dj ej = s1 at *
  generalize (st.app j dj ej).app i di ei = s2 at *
  cases s1; cases s2
  simp only at hs ho hf he
  subst hs ho hf he
  rfl
structure Fp where
  R : List Id := []
  W : List Id := []
  F : List Id := []
def indep (ops : Array Oper) (ep i j : Nat) (oi oj : Oper) (fi fj : Fp) : Bool :=
  oi.apart ops oj && (fi.R.all fun id => !touches ep j fj.W id) && (fi.W.all fun id => !touches ep j fj.W id) && (fj.R.all fun id => !touches ep i fi.W id) && (fj.W.all fun id => !touches ep i fi.W id) &&
    (fi.F.all fun id => !decide (id ∈ fj.W)) && (fj.F.all fun id => !decide (id ∈ fi.W))
inductive Waits (ops : Array Oper) : Nat → Nat → Prop
  | one {j : Nat} {o : Oper} {e : Edge} (hj : ops[j]? = some o) (he : e ∈ o.after) (hb : Region.binds .any e = true) : Waits ops j e.on
  | more {j i : Nat} {o : Oper} {e : Edge} (hj : ops[j]? = some o) (he : e ∈ o.after) (hb : Region.binds .any e = true) (h : Waits ops e.on i) : Waits ops j i
def Closed (ops : Array Oper) (listed : Array Bool) : Prop :=
  ∀ j o, ops[j]? = some o → listed.getD j true = true → ∀ e ∈ o.after, Region.binds .any e = true → listed.getD e.on false = true
theorem listed_true {listed : Array Bool} {j : Nat} (h : listed.getD j false = true) : listed.getD j true = true := by
  rcases Nat.lt_or_ge j listed.size with h' | h'
  · simp [h'] at h ⊢; exact h
  · simp [Array.getElem?_eq_none h'] at h
theorem Waits.listed {ops : Array Oper} {listed : Array Bool} {j i : Nat} (h : Waits ops j i) (hc : Closed ops listed) (hj : ∀ o, ops[j]? = some o → ∀ e ∈ o.after, Region.binds .any e = true → listed.getD e.on false = true) :
    listed.getD i false = true := by
  induction h with
  | one ho he hb => exact hj _ ho _ he hb
  | more ho he hb _ ih => exact ih fun o' ho' e' he' hb' => hc _ o' ho' (listed_true (hj _ ho _ he hb)) e' he' hb'
theorem Closed.set {ops : Array Oper} {listed : Array Bool} (h : Closed ops listed) {i : Nat} (hi : i ∈ Region.ready .any ops listed) : Closed ops (listed.setIfInBounds i true) := by
  intro j o hj hl e he hb
  refine getD_set_true ?_
  obtain ⟨_, oi, hoi, hall⟩ := mem_ready.1 hi
  by_cases hji : j = i
  · subst hji
    rw [hj] at hoi; obtain rfl := Option.some.inj hoi
    exact hall e he hb
  · rw [getD_set_ne true (Ne.symm hji)] at hl
    exact h j o hj hl e he hb
section
variable {C : Ctx} {r : Fm} {ops : Array Oper} {tbl : List Fp} {K : St → Prop}
def D.isDead : D → Bool
  | .dead => true
  | _ => false
def live (ops : Array Oper) (o : Oper) (st : St) (f : Fp) : Bool := (o.looksAt ops).all (fun t => !(st.slots t).isDead) && (f.R.all fun id => (st.objs id).isSome) && (f.W.all fun id => (st.objs id).isSome)
def OEf (C : Ctx) (ops : Array Oper) (i : Nat) (o : Oper) (st : St) (e : Eff) (f : Fp) : Prop := OE C ops i o st e f.R ∧ f.W = e.wr.map (·.1) ∧ f.F = e.frz ∧ live ops o st f = true
def DAny (C : Ctx) (ops : Array Oper) (tbl : List Fp) (K : St → Prop) : Nat → Array Bool → St → Prop
  | 0, listed, st => Region.ready .any ops listed = [] ∧ K st
  | n + 1, listed, st => (Region.ready .any ops listed = [] → K st) ∧
      ∀ i ∈ Region.ready .any ops listed, ∃ o e f, ops[i]? = some o ∧ tbl[i]? = some f ∧ OEf C ops i o st e f ∧ DAny C ops tbl K n (listed.setIfInBounds i true) (st.app i o.dst e)
theorem indep_spec {ep i j : Nat} {oi oj : Oper} {fi fj : Fp} (h : indep ops ep i j oi oj fi fj = true) : oi.apart ops oj = true ∧ (∀ id ∈ fi.R, touches ep j fj.W id = false) ∧ (∀ id ∈ fi.W, touches ep j fj.W id = false) ∧
    (∀ id ∈ fj.R, touches ep i fi.W id = false) ∧ (∀ id ∈ fj.W, touches ep i fi.W id = false) ∧ (∀ id ∈ fi.F, id ∉ fj.W) ∧ (∀ id ∈ fj.F, id ∉ fi.W) := by
  simp only [indep, Bool.and_eq_true, List.all_eq_true, Bool.not_eq_true', decide_eq_false_iff_not] at h
  obtain ⟨⟨⟨⟨⟨⟨h1, h2⟩, h3⟩, h4⟩, h5⟩, h6⟩, h7⟩ := h
  exact ⟨h1, h2, h3, h4, h5, h6, h7⟩
theorem live_congr {o : Oper} {st st' : St} {f : Fp} (h : live ops o st f = true) (hs : ∀ t ∈ o.looksAt ops, st'.slots t = st.slots t) (hR : ∀ id ∈ f.R, st'.objs id = st.objs id) (hW : ∀ id ∈ f.W, st'.objs id = st.objs id) : live ops o st' f = true := by
  simp only [live, Bool.and_eq_true, List.all_eq_true] at h ⊢
  exact ⟨⟨fun t ht => by rw [hs t ht]; exact h.1.1 t ht, fun id hid => by rw [hR id hid]; exact h.1.2 id hid⟩, fun id hid => by rw [hW id hid]; exact h.2 id hid⟩
theorem OEf.swap {i j : Nat} {oi oj : Oper} {fi fj : Fp} {st : St} {ei ej : Eff} (hij : i ≠ j) (hi : OEf C ops i oi st ei fi) (hj : OEf C ops j oj (st.app i oi.dst ei) ej fj) (hin : indep ops st.ep i j oi oj fi fj = true) :
    OEf C ops j oj st ej fj ∧ OEf C ops i oi (st.app j oj.dst ej) ei fi ∧ (st.app i oi.dst ei).app j oj.dst ej = (st.app j oj.dst ej).app i oi.dst ei := by
  obtain ⟨h1, h2, h3, h4, h5, h6, h7⟩ := indep_spec hin
  obtain ⟨a1, a2, a3⟩ := Oper.apart_spec h1
  obtain ⟨hi0, hiW, hiF, hiL⟩ := hi
  obtain ⟨hj0, hjW, hjF, hjL⟩ := hj
  have hj' : OE C ops j oj st ej fj.R := by
    refine hj0.congr (fun t ht => ?_) (fun id hid => ?_) (fun id hid => ?_) (app_ep _ _ _ _).symm
    · rw [app_slots, if_neg fun hd => a1 t hd ht]
    · exact (app_old (by rw [← hiW]; exact h4 id hid)).symm
    · rw [app_fz]
      have : id ∉ ei.frz := fun hm => h6 id (by rw [hiF]; exact hm) (by rw [hjW]; exact hid)
      simp [this]
  refine ⟨⟨hj', hjW, hjF, ?_⟩, ⟨?_, hiW, hiF, ?_⟩, ?_⟩
  · refine live_congr hjL (fun t ht => ?_) (fun id hid => ?_) (fun id hid => ?_)
    · rw [app_slots, if_neg fun hd => a1 t hd ht]
    · exact (app_old (by rw [← hiW]; exact h4 id hid)).symm
    · exact (app_old (by rw [← hiW]; exact h5 id hid)).symm
  · refine hi0.congr (fun t ht => ?_) (fun id hid => ?_) (fun id hid => ?_) (app_ep _ _ _ _)
    · rw [app_slots, if_neg fun hd => a3 t hd ht]
    · exact app_old (by rw [← hjW]; exact h2 id hid)
    · rw [app_fz]
      have : id ∉ ej.frz := fun hm => h7 id (by rw [hjF]; exact hm) (by rw [hiW]; exact hid)
      simp [this]
  · refine live_congr hiL (fun t ht => ?_) (fun id hid => ?_) (fun id hid => ?_)
    · rw [app_slots, if_neg fun hd => a3 t hd ht]
    · exact app_old (by rw [← hjW]; exact h2 id hid)
    · exact app_old (by rw [← hjW]; exact h3 id hid)
  · exact app_comm hij a2 (fun id hid => by rw [← hjW]; exact h3 id (by rw [hiW]; exact hid)) (fun id hid => by rw [← hiW]; exact h5 id (by rw [hjW]; exact hid))
theorem unlisted_of {listed : Array Bool} {i : Nat} (h0 : listed.getD i true = false) (h1 : listed.getD i false = true) : False := by
  rcases Nat.lt_or_ge i listed.size with h' | h'
  · simp [h'] at h0 h1; rw [h0] at h1; cases h1
  · simp [Array.getElem?_eq_none h'] at h1
theorem DAny_first {i : Nat} {oi : Oper} {e : Eff} {f : Fp} (hi : ops[i]? = some oi) (hf : tbl[i]? = some f) : ∀ (fuel : Nat) (listed : Array Bool) (st : St), Closed ops listed →
      (∀ j oj fj, ops[j]? = some oj → tbl[j]? = some fj → j ≠ i → listed.getD j true = false → ¬ Waits ops j i → indep ops st.ep i j oi oj f fj = true) →
      i ∈ Region.ready .any ops listed → OEf C ops i oi st e f →
      DAny C ops tbl K fuel (listed.setIfInBounds i true) (st.app i oi.dst e) → DAny C ops tbl K (fuel + 1) listed st := by
  intro fuel
  induction fuel with
  | zero =>
    intro listed st _ _ hr hy H
    refine ⟨fun h => (by rw [h] at hr; cases hr), fun j hj => ?_⟩
    by_cases hji : j = i
    · subst hji; exact ⟨oi, e, f, hi, hf, hy, H⟩
    · have := ready_mono hj hji
      rw [H.1] at this
      cases this
  | succ fuel ih =>
    intro listed st hcl hfree hr hy H
    refine ⟨fun h => (by rw [h] at hr; cases hr), fun j hj => ?_⟩
    by_cases hji : j = i
    · subst hji; exact ⟨oi, e, f, hi, hf, hy, H⟩
    · obtain ⟨oj, ej, fj, hoj, hfj, hyj, H1⟩ := H.2 j (ready_mono hj hji)
      obtain ⟨hjun, oj', hoj', hall⟩ := mem_ready.1 hj
      rw [hoj] at hoj'; obtain rfl := Option.some.inj hoj'
      have hi0 := (mem_ready.1 hr).1
      have hnw : ¬ Waits ops j i := fun hw => unlisted_of hi0 (hw.listed hcl fun o' ho' => by rw [hoj] at ho'; obtain rfl := Option.some.inj ho'; exact hall)
      obtain ⟨q1, q2, q3⟩ := OEf.swap (Ne.symm hji) hy hyj (hfree j oj fj hoj hfj hji hjun hnw)
      refine ⟨oj, ej, fj, hoj, hfj, q1, ih (listed.setIfInBounds j true) (st.app j oj.dst ej) (hcl.set hj) (fun k ok fk hk hfk hki hun hno => ?_) (ready_mono hr (Ne.symm hji)) q2 ?_⟩
      · rw [app_ep]
        refine hfree k ok fk hk hfk hki ?_ hno
        by_cases hjk : j = k
        · subst hjk; exact hjun
        · rw [getD_set_ne true hjk] at hun; exact hun
      · rw [Array.setIfInBounds_comm _ _ hji, ← q3]
        exact H1
def masks (ops : List Oper) : List Nat :=
  ops.foldl (init := []) fun acc o => acc ++ [o.after.toList.foldl (fun s e => if Region.binds .any e then s ||| 2 ^ e.on ||| acc.getD e.on 0 else s) 0]
def maskOf (acc : List Nat) (es : List Edge) (s : Nat) : Nat := es.foldl (fun s e => if Region.binds .any e then s ||| 2 ^ e.on ||| acc.getD e.on 0 else s) s
theorem maskOf_spec {acc : List Nat} {i : Nat} : ∀ (es : List Edge) (s : Nat), (maskOf acc es s).testBit i = true → s.testBit i = true ∨ ∃ e ∈ es, Region.binds .any e = true ∧ (e.on = i ∨ (acc.getD e.on 0).testBit i = true)
  | [], s, h => .inl h
  | e :: es, s, h => by
    have h := maskOf_spec es _ h
    rcases h with h | ⟨e', he', h⟩
    · dsimp only at h
      split at h
      · rename_i hb
        simp only [Nat.testBit_or, Bool.or_eq_true] at h
        rcases h with (h | h) | h
        · exact .inl h
        · rw [Nat.testBit_two_pow] at h
          exact .inr ⟨e, by simp, hb, .inl (by simpa using h)⟩
        · exact .inr ⟨e, by simp, hb, .inr h⟩
      · exact .inl h
    · exact .inr ⟨e', by simp [he'], h⟩
theorem masks_step (ops : Array Oper) : ∀ (l pre : List Oper) (acc : List Nat), pre ++ l = ops.toList → acc.length = pre.length → (∀ j i, (acc.getD j 0).testBit i = true → Waits ops j i) →
    ∀ j i, ((l.foldl (init := acc) fun acc o => acc ++ [o.after.toList.foldl (fun s e => if Region.binds .any e then s ||| 2 ^ e.on ||| acc.getD e.on 0 else s) 0]).getD j 0).testBit i = true → Waits ops j i
  | [], pre, acc, _, _, h => h
  | o :: l, pre, acc, hp, hl, h => by
    simp only [List.foldl_cons]
    refine masks_step ops l (pre ++ [o]) _ (by simpa using hp) (by simp [hl]) fun j i hb => ?_
    have ho : ops[pre.length]? = some o := by rw [← Array.getElem?_toList, ← hp]; simp
    by_cases hj : j < acc.length
    · refine h j i ?_
      simpa [List.getD_eq_getElem?_getD, List.getElem?_append_left hj] using hb
    · by_cases hj2 : j = acc.length
      · subst hj2
        have hb' : (maskOf acc o.after.toList 0).testBit i = true := by
          simpa [List.getD_eq_getElem?_getD, maskOf] using hb
        rcases maskOf_spec _ _ hb' with h0 | ⟨e, he, hbi, h0⟩
        · simp at h0
        · rw [hl]
          have he' : e ∈ o.after := by simpa using he
          rcases h0 with rfl | h0
          · exact .one ho he' hbi
          · exact .more ho he' hbi (h _ _ h0)
      · have : ((acc ++ [o.after.toList.foldl (fun s e => if Region.binds .any e then s ||| 2 ^ e.on ||| acc.getD e.on 0 else s) 0]).getD j 0) = 0 := by
          rw [List.getD_eq_getElem?_getD, List.getElem?_eq_none (by simp; omega)]; rfl
        rw [this] at hb
        simp at hb
theorem masks_waits {ops : Array Oper} {j i : Nat} (h : ((masks ops.toList).getD j 0).testBit i = true) : Waits ops j i :=
  masks_step ops ops.toList [] [] rfl rfl (fun j i h => by simp at h) j i h
def pairOk (ops : Array Oper) (ep i : Nat) (oi : Oper) (fi : Fp) : Nat → List Oper → List Fp → List Nat → Bool
  | _, [], _, _ => true
  | j, oj :: os, fj :: fs, m :: ms => (m.testBit i || indep ops ep i j oi oj fi fj) && pairOk ops ep i oi fi (j + 1) os fs ms
  | _, _, _, _ => false
def pairsOk (ops : Array Oper) (ep : Nat) : Nat → List Oper → List Fp → List Nat → Bool
  | _, [], _, _ => true
  | i, oi :: os, fi :: fs, m :: ms => pairOk ops ep i oi fi (i + 1) os fs ms && pairsOk ops ep (i + 1) os fs ms
  | _, _, _, _ => false
def backOk : Nat → List Oper → Bool
  | _, [] => true
  | i, o :: os => (o.after.toList.all fun e => !Region.binds .any e || decide (e.on < i)) && backOk (i + 1) os
def drawOk (ops : Array Oper) (ep : Nat) (tbl : List Fp) : Bool := backOk 0 ops.toList && pairsOk ops ep 0 ops.toList tbl (masks ops.toList)
theorem backOk_spec : ∀ (l : List Oper) (i : Nat), backOk i l = true → ∀ k o, l[k]? = some o → ∀ e ∈ o.after, Region.binds .any e = true → e.on < i + k
  | [], _, _, k, o, h => by simp at h
  | o :: l, i, h, k, o', hk => by
    simp only [backOk, Bool.and_eq_true, List.all_eq_true, Bool.or_eq_true, Bool.not_eq_true', decide_eq_true_eq] at h
    cases k with
    | zero =>
      simp at hk; subst hk
      intro e he hb
      have := h.1 e (by simpa using he)
      rw [hb] at this
      simpa using this
    | succ k =>
      simp at hk
      intro e he hb
      have := backOk_spec l (i + 1) h.2 k o' hk e he hb
      omega
theorem pairOk_spec {ep i : Nat} {oi : Oper} {fi : Fp} : ∀ (os : List Oper) (fs : List Fp) (ms : List Nat) (j : Nat), pairOk ops ep i oi fi j os fs ms = true → ∀ k oj fj, os[k]? = some oj → fs[k]? = some fj →
    (ms.getD k 0).testBit i = true ∨ indep ops ep i (j + k) oi oj fi fj = true
  | [], _, _, _, _, k, oj, fj, h, _ => by simp at h
  | o :: os, [], _, _, h, _, _, _, _, _ => by simp [pairOk] at h
  | o :: os, f :: fs, [], _, h, _, _, _, _, _ => by simp [pairOk] at h
  | o :: os, f :: fs, m :: ms, j, h, k, oj, fj, ho, hf => by
    simp only [pairOk, Bool.and_eq_true, Bool.or_eq_true] at h
    cases k with
    | zero => simp at ho hf; subst ho hf; simpa using h.1
    | succ k =>
      simp at ho hf
      have := pairOk_spec os fs ms (j + 1) h.2 k oj fj ho hf
      simpa [Nat.add_assoc, Nat.add_comm 1 k] using this
theorem pairsOk_spec {ep : Nat} : ∀ (os : List Oper) (fs : List Fp) (ms : List Nat) (i : Nat), pairsOk ops ep i os fs ms = true → ∀ k l oi oj fi fj, k < l → os[k]? = some oi → os[l]? = some oj → fs[k]? = some fi → fs[l]? = some fj →
    (ms.getD l 0).testBit (i + k) = true ∨ indep ops ep (i + k) (i + l) oi oj fi fj = true
  | [], _, _, _, _, k, l, oi, oj, fi, fj, _, h, _, _, _ => by simp at h
  | o :: os, [], _, _, h, _, _, _, _, _, _, _, _, _, _, _ => by simp [pairsOk] at h
  | o :: os, f :: fs, [], _, h, _, _, _, _, _, _, _, _, _, _, _ => by simp [pairsOk] at h
  | o :: os, f :: fs, m :: ms, i, h, k, l, oi, oj, fi, fj, hkl, h1, h2, h3, h4 => by
    simp only [pairsOk, Bool.and_eq_true] at h
    cases l with
    | zero => omega
    | succ l =>
      simp at h2 h4
      cases k with
      | zero =>
        simp at h1 h3; subst h1 h3
        have := pairOk_spec os fs ms (i + 1) h.1 l oj fj h2 h4
        simpa [Nat.add_assoc, Nat.add_comm 1 l] using this
      | succ k =>
        simp at h1 h3
        have := pairsOk_spec os fs ms (i + 1) h.2 k l oi oj fi fj (by omega) h1 h2 h3 h4
        simpa [Nat.add_assoc, Nat.add_comm 1 l, Nat.add_comm 1 k] using this
def Chain (C : Ctx) (ops : Array Oper) : List Fp → Nat → St → St → Prop
  | [], _, st, st' => st = st'
  | f :: r, k, st, st' => ∃ o e, ops[k]? = some o ∧ OEf C ops k o st e f ∧ Chain C ops r (k + 1) (st.app k o.dst e) st'
def UpTo (n k : Nat) (listed : Array Bool) : Prop := listed.size = n ∧ ∀ j, j < n → listed[j]? = some (decide (j < k))
theorem UpTo.set {n k : Nat} {listed : Array Bool} (h : UpTo n k listed) : UpTo n (k + 1) (listed.setIfInBounds k true) := by
  refine ⟨by simp [h.1], fun j hj => ?_⟩
  rw [Array.getElem?_setIfInBounds]
  by_cases hjk : k = j
  · subst hjk; simp [h.1, hj]
  · rw [if_neg hjk, h.2 j hj]
    simp only [Option.some.injEq, decide_eq_decide]
    omega
theorem DAny_lex {ep : Nat} {st' : St} (hok : drawOk ops ep tbl = true) (htl : tbl.length = ops.size) (hK : K st') : ∀ (l : List Fp) (k : Nat) (listed : Array Bool) (st : St), (∀ j, l[j]? = tbl[k + j]?) → k + l.length = ops.size →
    UpTo ops.size k listed → st.ep = ep → Chain C ops l k st st' → DAny C ops tbl K l.length listed st := by
  simp only [drawOk, Bool.and_eq_true] at hok
  have hback := backOk_spec _ _ hok.1
  have hpair := pairsOk_spec _ _ _ _ hok.2
  have hback' : ∀ k o, ops[k]? = some o → ∀ e ∈ o.after, Region.binds .any e = true → e.on < k := fun k o hk e he hb => by
    have := hback k o (by rw [Array.getElem?_toList]; exact hk) e he hb; omega
  have getD_t : ∀ {k : Nat} {listed : Array Bool}, UpTo ops.size k listed → ∀ j, j < ops.size → ∀ d, listed.getD j d = decide (j < k) := fun hu j hj d => by
    rw [Array.getD_eq_getD_getElem?, hu.2 j hj]; rfl
  have hclosed : ∀ {k : Nat} {listed : Array Bool}, k ≤ ops.size → UpTo ops.size k listed → Closed ops listed := by
    intro k listed hk hu j o hj hl e he hb
    have hjs := (Array.getElem?_eq_some_iff.1 hj).1
    rw [getD_t hu j hjs] at hl
    have := hback' j o hj e he hb
    have hl := of_decide_eq_true hl
    rw [getD_t hu _ (by omega)]
    simp; omega
  intro l
  induction l with
  | nil =>
    intro k listed st _ hk hu _ hch
    simp only [Chain] at hch
    subst hch
    simp only [List.length_nil, Nat.add_zero] at hk
    refine ⟨?_, hK⟩
    refine List.eq_nil_iff_forall_not_mem.2 fun j hj => ?_
    obtain ⟨h0, o, ho, _⟩ := mem_ready.1 hj
    have hjs := (Array.getElem?_eq_some_iff.1 ho).1
    rw [getD_t hu j hjs] at h0
    simp at h0; omega
  | cons f l ih =>
    intro k listed st hl hk hu hep hch
    obtain ⟨o, e, ho, hoe, hch⟩ := hch
    have hks := (Array.getElem?_eq_some_iff.1 ho).1
    have hf : tbl[k]? = some f := by simpa using (hl 0).symm
    simp only [List.length_cons] at hk ⊢
    refine DAny_first ho hf l.length listed st (hclosed (by omega) hu) (fun j oj fj hj hfj hjk hun hnw => ?_) (mem_ready.2 ⟨?_, o, ho, fun e' he' hb => ?_⟩) hoe
      (ih (k + 1) _ _ (fun j => by have := hl (j + 1); simpa [Nat.add_assoc, Nat.add_comm 1 j] using this) (by omega) hu.set (by rw [app_ep]; exact hep) hch)
    · have hjs := (Array.getElem?_eq_some_iff.1 hj).1
      rw [getD_t hu j hjs] at hun
      simp at hun
      have := hpair k j o oj f fj (by omega) (by rw [Array.getElem?_toList]; exact ho) (by rw [Array.getElem?_toList]; exact hj) hf hfj
      simp only [Nat.zero_add] at this
      rcases this with h | h
      · exact absurd (masks_waits h) hnw
      · rw [hep]; exact h
    · rw [getD_t hu k hks]; simp
    · have := hback' k o ho e' he' hb
      rw [getD_t hu _ (by omega)]
      simpa using this
theorem DAny.run (hE : EnvOk C.E) {b : Frame} (kk : List Go.Item) (cs : List Frame) (hb : b.roundOf = r.r) : ∀ (fuel t : Nat) (listed : Array Bool) (st : St), DAny C ops tbl K fuel listed st → ∀ (X : Nat → Prop), (∀ j, j < ops.size → X j → listed.getD j true = true) → 
    ∀ ρ S a w, Rep C X ρ S st a.tmps w → a.defers = r.ds → ∃ X' ρ' S' st' a' w', Rep C X' ρ' S' st' a'.tmps w' ∧ a'.defers = r.ds ∧ K st' ∧
      StepsIn (Machine.fenced C.E.prog (fence r.r)) C.E.prog (lone (b.atR a (.inRegion ops (Region.linearise.go .any ops fuel t listed []) :: kk)) cs w) (lone (b.atR a' (.inRegion ops [] :: kk)) cs w') := by
  intro fuel
  induction fuel with
  | zero =>
    intro t listed st h X hX ρ S a w hr hd
    exact ⟨X, ρ, S, st, a, w, hr, hd, h.2, by simp only [Region.linearise.go, List.reverse_nil]; exact .refl _⟩
  | succ fuel ih =>
    intro t listed st h X hX ρ S a w hr hd
    obtain ⟨h0, h1⟩ := h
    simp only [Region.linearise.go]
    change ∃ X' ρ' S' st' a' w', _ ∧ _ ∧ _ ∧ StepsIn _ _ (lone (b.atR a (.inRegion ops (match (Region.ready .any ops listed)[t % (Region.ready .any ops listed).length]? with
      | some i => Region.linearise.go .any ops fuel (t / (Region.ready .any ops listed).length) (listed.setIfInBounds i true) [i]
      | none => [].reverse) :: kk)) cs w) _
    cases hi : (Region.ready .any ops listed)[t % (Region.ready .any ops listed).length]? with
    | none =>
      have hnil : Region.ready .any ops listed = [] := by
        cases hr : Region.ready .any ops listed with
        | nil => rfl
        | cons x xs =>
          rw [hr] at hi
          have hlt : t % (x :: xs).length < (x :: xs).length := Nat.mod_lt _ (by simp)
          simp at hi
          simp at hlt
          omega
      exact ⟨X, ρ, S, st, a, w, hr, hd, h0 hnil, by simp only [List.reverse_nil]; exact .refl _⟩
    | some i =>
      have hir := List.mem_of_getElem? hi
      obtain ⟨o, e, f, ho, _, hoe, hrest⟩ := h1 i hir
      have his := (Array.getElem?_eq_some_iff.1 ho).1
      have hun := (mem_ready.1 hir).1
      obtain ⟨ρ1, S1, a1, w1, hr1, hd1, hs1⟩ := (hoe.1.exec (r := r) hE ho) X (fun hx => by rw [hX i his hx] at hun; cases hun) ρ S a w hr hd b (Region.linearise.go .any ops fuel (t / (Region.ready .any ops listed).length) (listed.setIfInBounds i true) []) kk cs hb
      obtain ⟨X', ρ', S', st', a', w', q1, q2, q3, q4⟩ := ih (t / (Region.ready .any ops listed).length) _ _ hrest (fun j => X j ∨ j = i) (fun j hjs hj => by
        rcases hj with hj | rfl
        · by_cases hji : i = j
          · subst hji
            rw [hX i his hj] at hun; cases hun
          · rw [getD_set_ne true hji]; exact hX j hjs hj
        · rw [Array.getD_eq_getD_getElem?, Array.getElem?_setIfInBounds]
          simp only [if_true]
          split <;> rfl) ρ1 S1 a1 w1 hr1 hd1
      refine ⟨X', ρ', S', st', a', w', q1, q2, q3, ?_⟩
      dsimp only
      rw [linearise_go_acc, List.reverse_singleton, List.singleton_append]
      exact hs1.trans q4
theorem Rep.drawn {X : Nat → Prop} {ρ : Id → Option Lay} {S : Nat → Prop} {st : St} {tm : Array Value} {w : World} (h : Rep C X ρ S st tm w) (n : Nat) : Rep C X ρ S st tm { w with drawn := n } := by
  have kp : Keep S w { w with drawn := n } := fun _ _ _ => rfl
  exact { h with
    slots := fun k => (h.slots k).mono kp (fun _ h => h) (fun _ _ h => h)
    objs := fun id o ho hg => by
      obtain ⟨L, hL, hr⟩ := h.objs id o ho hg
      exact ⟨L, hL, hr.mono kp (fun _ h => h) (fun _ _ h => h) (fun _ _ => rfl)⟩
    glob := fun g cs hm => (h.glob g cs hm).mono kp (fun _ h => h) }
variable {G : Goal}
def DW (C : Ctx) (r : Fm) (G : Goal) (k : List Item) (ops : Array Oper) (hist : List Fp) (st : St) : Prop :=
  ∃ rest st', (hist ++ rest).length = ops.size ∧ drawOk ops st.ep (hist ++ rest) = true ∧ Chain C ops rest hist.length st st' ∧ AWP C r G k st'.next
theorem dw_op {k : List Item} {hist : List Fp} {st : St} {o : Oper} {e : Eff} {f : Fp} (ho : ops[hist.length]? = some o) (h : OEf C ops hist.length o st e f) (h1 : DW C r G k ops (hist ++ [f]) (st.app hist.length o.dst e)) : DW C r G k ops hist st := by
  obtain ⟨rest, st', q1, q2, q3, q4⟩ := h1
  refine ⟨f :: rest, st', by simpa using q1, by simpa using q2, ⟨o, e, ho, h, by simpa using q3⟩, q4⟩
theorem dw_end {k : List Item} {hist : List Fp} {st : St} (hl : hist.length = ops.size) (hok : drawOk ops st.ep hist = true) (h1 : AWP C r G k st.next) : DW C r G k ops hist st :=
  ⟨[], st, by simpa using hl, by simpa using hok, rfl, h1⟩
theorem awp_draw {k : List Item} {st : St} {id : Nat} (hE : EnvOk C.E) (hm : C.E.prog.follows .mixedOrders = true) (h : DW C r G k ops [] st) : AWP C r G (.c (.region id ops true) :: k) st := by
  intro ρ S a w hr hd b k0 cs hb
  obtain ⟨rest, st', q1, q2, q3, q4⟩ := h
  simp only [List.nil_append] at q1 q2
  have hany := DAny_lex (K := fun s => s = st') q2 q1 rfl rest 0 (Array.replicate ops.size false) st (by simp) (by simpa using q1) ⟨by simp, fun j hj => by simp [hj]⟩ rfl q3
  rw [q1] at hany
  have hr0 : Rep C (fun _ => False) ρ S st a.tmps w := hr
  obtain ⟨X', ρ', S', st2, a', w', p1, p2, p3, p4⟩ := hany.run hE (b := b) (k.map conc ++ k0) cs hb ops.size (w.tape w.drawn (.order b.fn id)) _ _ (fun _ => False) (fun _ _ h => h.elim) ρ S a { w with drawn := w.drawn + 1 } (hr0.drawn _) hd
  subst p3
  obtain ⟨e, a2, w2, hg, harr⟩ := q4 ρ' S' a' w' (p1.nextEp.weakX (fun _ h => h.elim)) p2 b k0 cs hb
  refine ⟨e, a2, w2, hg, .of_steps ?_ harr⟩
  refine .head (fenced_all _ _ _) (stepR_region_draw) (StepsIn.trans (m₁ := lone (b.atR a' (.inRegion ops [] :: (k.map conc ++ k0))) cs w') ?_ (.one (fenced_all _ _ _) stepR_region_end))
  simp only [Region.schedule, hm, Bool.true_or, if_true]
  exact p4
end
end Eng
namespace Eng
open Go
structure Under (st2 st : St) : Prop where
  ep : st2.ep = st.ep
  slots : ∀ k, st2.slots k = .dead ∨ st2.slots k = st.slots k
  objs : ∀ id, st2.objs id = none ∨ st2.objs id = st.objs id
  fz : ∀ id, st2.fz id = st.fz id
section
variable {C : Ctx} {r : Fm} {G : Goal} {ops : Array Oper}
def objL (st : St) : List Id → Option (List Obj)
  | [] => some []
  | id :: r => match st.objs id, objL st r with
    | some o, some os => some (o :: os)
    | _, _ => none
end
end Eng
namespace Eng
open Go
def Kept (w w' : World) : Prop := Quiet w w' ∧ w.heap.size ≤ w'.heap.size ∧ ∀ b, b < w.heap.size → w'.heap[b]? = w.heap[b]?
theorem Kept.keptBut {w w' : World} (h : Kept w w') (may : MemPlace → Prop) : w.keptBut w' may := by
  refine ⟨h.1.1, h.1.2, fun i hi => ?_⟩
  rw [h.2.2 i hi]
  cases w.heap[i]? with
  | none => rfl
  | some o => cases o <;> simp
theorem argOs_pure : ∀ (n : Nat) (xs : List P), argOs n (xs.map .p) = []
  | _, [] => rfl
  | n, x :: xs => by simp only [List.map_cons, argOs, Arg.o]; exact argOs_pure (n + 1) xs
theorem law_calls {E : Env} {f : Nat} {xs : List P} {vals : Array Value} {w : World} {y : P} (hF : Fun E f (xs.map .p) ⟨[.p y], []⟩) (hv : vals.size = xs.length)
    (hrel : ∀ (k : Nat) v x, vals[k]? = some v → xs[k]? = some x → RelP w (fun b => b < w.heap.size) v x) (hglob : ∀ g cs, (g, cs) ∈ E.globs → GlobOk w (fun b => b < w.heap.size) g cs) :
    Calls E.prog f vals w fun e w' => (∃ v S, e = .returned v ∧ RelP w' S v y) ∧ Kept w w' := by
  refine Calls.mono (CallsIn.calls (hF.2 w (fun _ => False) (fun b => b < w.heap.size) (fun _ => none) (fun _ => none) vals (by simpa using hv) ?_) (fun _ => by intro d hd; simp [fence] at hd)) ?_
  · have ho : ∀ id, (argSt (xs.map .p)).objs id = none := fun id => by
      show assocO (argOs 0 (xs.map .p)) id = none
      rw [argOs_pure]; rfl
    exact {
      nt := rfl
      grow := Nat.le_refl _
      frame := fun _ _ _ => rfl
      s0 := fun _ h => h
      sIn := fun _ h => h
      slots := fun k => by
        show RelD w _ _ (vals.getD k undef) (assoc D.dead (argDs 0 (xs.map .p)) k)
        rcases assoc_mem D.dead (argDs 0 (xs.map .p)) k with hk | hk
        · rw [hk]; exact .dead _
        · obtain ⟨j, x, q1, q2, q3⟩ := argDs_mem 0 _ _ _ hk
          rw [Nat.zero_add] at q2 q3
          subst q2
          rw [List.getElem?_map, Option.map_eq_some_iff] at q1
          obtain ⟨x0, q1, rfl⟩ := q1
          rw [q3]
          have hlt := (List.getElem?_eq_some_iff.1 q1).1
          have hv' : vals[k]? = some vals[k] := by simp
          rw [show vals.getD k undef = vals[k] by simp [show k < vals.size by omega]]
          exact .p _ _ (hrel k _ x0 hv' q1)
      objs := fun id o h => by rw [ho id] at h; cases h
      own := fun id o L b h => by rw [ho id] at h; cases h
      inj := fun id o L id' o' L' b h => by rw [ho id] at h; cases h
      known := fun id h => absurd (ho id) h
      young := fun id h => absurd rfl h
      fzk := fun id h => by cases h
      glob := hglob
      sOut := fun b h => .inl h
      ep1 := Nat.le_refl _
      quiet := .refl _
      lay := fun k L h => by cases h }
  · rintro e w' ⟨vs, ρ', S', rfl, hvs, hrep⟩
    refine ⟨⟨tupV vs, S', rfl, ?_⟩, hrep.quiet, hrep.grow, fun b hb => hrep.frame b hb (fun h => h)⟩
    have h1 : vs.size = 1 := by simpa using hvs
    have := hrep.slots 0
    have h2 : vs.getD 0 undef = vs[0] := by simp [h1]
    rw [h2] at this
    unfold tupV
    rw [dif_pos h1]
    exact this.of_p
theorem law_calls_bool {E : Env} {f : Nat} {xs : List P} {vals : Array Value} {w : World} {y : Bool} (hF : Fun E f (xs.map .p) ⟨[.p (.bool y)], []⟩) (hv : vals.size = xs.length)
    (hrel : ∀ (k : Nat) v x, vals[k]? = some v → xs[k]? = some x → RelP w (fun b => b < w.heap.size) v x) (hglob : ∀ g cs, (g, cs) ∈ E.globs → GlobOk w (fun b => b < w.heap.size) g cs) :
    Calls E.prog f vals w fun e w' => e = .returned (.bool y) ∧ Kept w w' :=
  Calls.mono (law_calls hF hv hrel hglob) fun e w' ⟨⟨v, S, he, hr⟩, hk⟩ => ⟨by cases hr; exact he, hk⟩
open Go.ChangeShapes Go.WideShapes in
theorem post_of_kept {H : Type} {P : Program} {enc : TypeId × Value → H} {f : Func} {s : ChangeSpec} {apart fresh handsOn again : Bool} {W W' : World} {args : Array Value} {v : Value} {ds gs : List (DataW H)} {before pa pv : List MemPlace}
    (hW : DataW.Whole enc P f.params.toList s.vars apart W args.toList ds gs before)
    (hres : ∀ (b : Nat) (sp : Nat → Bool) (hd : Bool), DataW.TrodAll enc P W' b sp hd f.resultTypes.toList (v.resultList f.resultTypes.size) (s.fn H (ds ++ gs)).results [])
    (hargs : ∀ sp : Nat → Bool, (∀ p ∈ before, sp p.block = true) → DataW.TrodAll enc P W' 0 sp true f.params.toList args.toList (s.fn H (ds ++ gs)).args pa)
    (hvars : ∀ sp : Nat → Bool, (∀ p ∈ before, sp p.block = true) → DataW.TrodVars enc P W' sp s.vars (s.fn H (ds ++ gs)).vars pv)
    (hps : before = pa ++ pv) (hk : Kept W W')
    (hok : ∀ (j : Nat) (t : TypeId) (r : Value), f.resultTypes[j]? = some t → (v.resultList f.resultTypes.size)[j]? = some r → Value.okWide P W' .any 0 t r) :
    s.post enc P f apart fresh handsOn again W args v W' := by
  have hold : ∀ p ∈ before, (fun b => decide (b < W.heap.size)) p.block = true := fun p hp => by simpa using hW.lt p hp
  have hlt := hW.lt
  refine ⟨ds, gs, before, [], pa, pv, hW, hres _ _ _, hargs _ hold, hvars _ hold, World.keptBut_mono (fun p hp => ⟨hp, ?_⟩) (hk.keptBut (· ∈ before)), fun _ => ?_⟩
  · rw [hps, List.mem_append] at hp
    exact Or.inr hp
  · obtain ⟨_, _, _, _, _, hz, hn⟩ := hW
    refine ⟨hok, _, _, ([] ++ pa) ++ pv, ⟨[] ++ pa, pv, trodAll_append (hargs _ (fun _ _ => rfl)) (hres _ _ _), hvars _ (fun _ _ => rfl), rfl, ?_, ?_⟩, ?_⟩
    · intro b off hp
      have hp' : MemPlace.cell b off ∈ before := by rw [hps]; simpa using hp
      have hb : b < W.heap.size := hlt _ hp'
      rw [frozen_keep (hk.2.2 b hb)]
      exact hz b off hp'
    · intro ha
      have := hn ha
      rw [hps] at this
      simpa using this
    · intro p hp _
      rw [hps]
      simpa using hp
end Eng
namespace Eng
open Go
def chk {α : Type} (b : Bool) (k : Option α) : Option α := match b with
  | true => k
  | false => none
theorem chk_some {α : Type} {b : Bool} {k : Option α} {r : α} (h : chk b k = some r) : b = true ∧ k = some r := by cases b <;> simp_all [chk]
@[simp] theorem chk_true {α : Type} (k : Option α) : chk true k = k := rfl
theorem bind_some {α β : Type} {x : Option α} {f : α → Option β} {r : β} (h : x.bind f = some r) : ∃ a, x = some a ∧ f a = some r := by cases x <;> simp_all
def inK (k : IntKind) (n : Int) : Bool := decide (k.min ≤ n ∧ n ≤ k.max)
def idx {α : Type} (xs : List α) (n : Int) : Option α := if 0 ≤ n then xs[n.toNat]? else none
theorem idx_some {α : Type} {xs : List α} {n : Int} {x : α} (h : idx xs n = some x) : 0 ≤ n ∧ n < xs.length ∧ xs[n.toNat]? = some x := by
  unfold idx at h
  split at h
  · rename_i h0
    have := (List.getElem?_eq_some_iff.1 h).1
    exact ⟨h0, by omega, h⟩
  · cases h
theorem take_map {α : Type} (xs : List α) (f : α → P) : (xs.map f).take xs.length = xs.map f := by rw [← List.length_map (f := f), List.take_length]
theorem dt_map {α : Type} (xs : List α) (f : α → P) : ((xs.map f).drop 0).take xs.length = xs.map f := by rw [List.drop_zero, take_map]
section
variable {C : Ctx} {r : Fm} {G : Goal} {ops : Array Oper}
end
inductive Out (β ρ : Type) where
  | brk (b : β)
  | ret (r : ρ)
def bodyOf (f : Func) : Code := match f.body with | some c => c | none => .skip
def sub : List Nat → Code → Code
  | [], c => c
  | 0 :: p, .seq a _ => sub p a
  | 1 :: p, .seq _ b => sub p b
  | 2 :: p, .cond _ a _ => sub p a
  | 3 :: p, .cond _ _ b => sub p b
  | 4 :: p, .block _ b => sub p b
  | 5 :: p, .loop b => sub p b
  | _ :: _, _ => .skip
def big : Nat := 36893488147419103232
theorem big_eq : big = 36893488147419103232 := rfl
abbrev Str := List UInt8
def encL {α : Type} (sz : Nat) (f : α → P) (xs : List α) : P := .sl sz (xs.map f)
end Eng
namespace Eng
open Go
inductive Ty where
  | bool | int (k : IntKind) | str | sl (t : Ty) | st (n : Nat) | map (k v : Ty)
  deriving DecidableEq, Inhabited
def Ty.td : Ty → TD
  | .bool => .bool
  | .int k => .int k
  | .str => .str
  | _ => .other
@[reducible] def El (car : Nat → Type) : Ty → Type
  | .bool => Bool
  | .int _ => Int
  | .str => List UInt8
  | .sl t => List (El car t)
  | .st n => car n
  | .map k v => List (El car k × El car v)
structure Lf (car : Nat → Type) where
  t : Ty
  x : El car t
structure Univ where
  car : Nat → Type
  size : Nat → Nat
  cells : (n : Nat) → car n → List (Lf car)
  of : (n : Nat) → List (Lf car) → Option (car n)
  enc : (n : Nat) → car n → P
def Univ.tsize (U : Univ) : Ty → Nat
  | .st n => U.size n
  | _ => 1
def Univ.encE (U : Univ) : (t : Ty) → El U.car t → P
  | .bool, b => .bool b
  | .int k, n => .int k n
  | .str, s => .str s
  | .sl t, xs => .sl (U.tsize t) (xs.map (U.encE t))
  | .st n, x => U.enc n x
  | .map k v, kv => .map k.td (kv.map fun e => (U.encE k e.1, U.encE v e.2))
def Univ.encL (U : Univ) (l : Lf U.car) : P := U.encE l.t l.x
def Univ.cellsE (U : Univ) : (t : Ty) → El U.car t → List (Lf U.car)
  | .st n, x => U.cells n x
  | t, x => [⟨t, x⟩]
def Univ.ofE (U : Univ) : (t : Ty) → List (Lf U.car) → Option (El U.car t)
  | .st n, cs => U.of n cs
  | t, [c] => if h : c.t = t then some (h ▸ c.x) else none
  | _, _ => none
structure UOk (U : Univ) : Prop where
  of_cells : ∀ n cs x, U.of n cs = some x → U.cells n x = cs
  enc_cells : ∀ n x, U.enc n x = .agg ((U.cells n x).map U.encL)
  len : ∀ n x, (U.cells n x).length = U.size n
inductive TV (U : Univ) where
  | v (t : Ty) (x : El U.car t)
  | pp (cs : List (Lf U.car))
  | nilp | nilfn
  | dead | undef
  | nils (t : Ty)
  | clip (t : Ty) (xs : List (El U.car t))
  | agg (cs : List (TV U))
  | tup (vs : List (TV U))
  | full (id : Id) (n : Nat)
  | sl (id : Id) (off len : Nat)
  | ptr (id : Id) (i j : Nat)
  | map (id : Id)
  | it (id : Id)
  | fn (f : Nat) (first caps : List (TV U))
instance {U : Univ} : Inhabited (TV U) := ⟨.dead⟩
inductive TO (U : Univ) where
  | box (cs : List (TV U))
  | arr (t : Ty) (xs : List (El U.car t)) (fix : Bool)
  | map (k v : Ty) (kv : List (El U.car k × El U.car v))
  | sit (s : List UInt8) (pos : Nat)
  | mit (k v : Ty) (rest : List (El U.car k × El U.car v)) (cur : Option (El U.car k × El U.car v))
  | gone
structure TS (U : Univ) where
  slots : Nat → TV U
  objs : Id → Option (TO U)
  fz : Id → Bool
  ep : Nat
def fnD (f : Nat) (a b : List D) : D := match allM D.pure? a, allM D.pure? b with
  | some x, some y => .p (.fn f x y)
  | _, _ => .fn f a b
mutual
def TV.enc {U : Univ} : TV U → D
  | .v t x => .p (U.encE t x)
  | .pp cs => .p (.ptr (cs.map U.encL))
  | .nilp => .p .nilp
  | .nilfn => .p .nilfn
  | .dead => .dead
  | .undef => .undef
  | .nils t => .nils (U.tsize t)
  | .clip t xs => .clip (U.tsize t) (xs.map (U.encE t))
  | .agg cs => .mkAgg (TV.encs cs)
  | .tup vs => .tup (TV.encs vs)
  | .full id n => .sl id 0 n
  | .sl id off len => .sl id off len
  | .ptr id i j => .ptr id i j
  | .map id => .map id
  | .it id => .it id
  | .fn f a b => fnD f (TV.encs a) (TV.encs b)
def TV.encs {U : Univ} : List (TV U) → List D
  | [] => []
  | d :: r => d.enc :: TV.encs r
end
theorem encs_map {U : Univ} : ∀ l : List (TV U), TV.encs l = l.map TV.enc
  | [] => rfl
  | d :: r => by rw [TV.encs, encs_map r]; rfl
def TO.enc {U : Univ} : TO U → Obj
  | .box cs => .box (TV.encs cs)
  | .arr t xs fix => .arr (U.tsize t) (xs.map (U.encE t)) fix
  | .map k v kv => .map k.td (kv.map fun e => (U.encE k e.1, U.encE v e.2))
  | .sit s pos => .sit s pos
  | .mit k v rest cur => .mit (rest.map fun e => (U.encE k e.1, U.encE v e.2)) (cur.map fun e => (U.encE k e.1, U.encE v e.2))
  | .gone => .gone
def oenc {U : Univ} : Option (TO U) → Option Obj
  | some o => some o.enc
  | none => none
def TS.enc {U : Univ} (T : TS U) : St := { slots := fun k => (T.slots k).enc, objs := fun id => oenc (T.objs id), fz := T.fz, ep := T.ep }
mutual
def TV.fulls {U : Univ} : TV U → List (Id × Nat)
  | .full id n => [(id, n)]
  | .agg cs => TV.fullsL cs
  | .tup cs => TV.fullsL cs
  | .fn _ a b => TV.fullsL a ++ TV.fullsL b
  | _ => []
def TV.fullsL {U : Univ} : List (TV U) → List (Id × Nat)
  | [] => []
  | d :: r => d.fulls ++ TV.fullsL r
end
theorem fullsL_mem {U : Univ} {q : Id × Nat} : ∀ {l : List (TV U)}, q ∈ TV.fullsL l ↔ ∃ d ∈ l, q ∈ d.fulls
  | [] => by simp [TV.fullsL]
  | d :: r => by simp [TV.fullsL, fullsL_mem (l := r)]
def lenIs {U : Univ} (lk : Id → Option (TO U)) (q : Id × Nat) : Prop := ∃ o, lk q.1 = some o ∧ ∀ t xs fix, o = .arr t xs fix → xs.length = q.2
def TV.inv {U : Univ} (lk : Id → Option (TO U)) (d : TV U) : Prop := ∀ q ∈ d.fulls, lenIs lk q
def TO.inv {U : Univ} (lk : Id → Option (TO U)) : TO U → Prop
  | .box cs => ∀ d ∈ cs, d.inv lk
  | _ => True
structure TS.Inv {U : Univ} (T : TS U) : Prop where
  slots : ∀ k, (T.slots k).inv T.objs
  objs : ∀ id o, T.objs id = some o → o.inv T.objs
theorem cellsE_len {U : Univ} (hU : UOk U) (t : Ty) (x : El U.car t) : (U.cellsE t x).length = U.tsize t := by
  cases t <;> first | exact hU.len _ _ | rfl
theorem encE_cells {U : Univ} (hU : UOk U) (t : Ty) (x : El U.car t) : (U.encE t x).cells = (U.cellsE t x).map U.encL := by
  cases t with
  | st n => simp only [Univ.encE, Univ.cellsE, hU.enc_cells n x, P.cells]
  | _ => rfl
theorem ofE_cells {U : Univ} (hU : UOk U) {t : Ty} {cs : List (Lf U.car)} {x : El U.car t} (h : U.ofE t cs = some x) : U.cellsE t x = cs := by
  have one : ∀ (t : Ty) (c : Lf U.car) (x : El U.car t), (if h : c.t = t then some (h ▸ c.x) else none) = some x → [(⟨t, x⟩ : Lf U.car)] = [c] := by
    intro t c x h
    split at h
    · rename_i he
      obtain ⟨t', y⟩ := c
      dsimp only at he
      subst he
      simp only [Option.some.injEq] at h
      subst h; rfl
    · simp at h
  cases t with
  | st n => exact hU.of_cells n cs x h
  | _ =>
    match cs, h with
    | [c], h => exact one _ c x h
end Eng
namespace Eng
open Go
structure TT (U : Univ) where
  ti : TI
  n : Option Nat
  ty : Ty
  zero : List (TV U)
  zl : Option (Lf U.car)
structure TEnv (U : Univ) where
  prog : Program
  tt : List (Option (TT U))
  globs : List (Nat × List (Lf U.car))
  nt : Nat
def tiOf {U : Univ} : Option (TT U) → Option TI
  | some e => some e.ti
  | none => none
def TEnv.E {U : Univ} (X : TEnv U) : Env := { prog := X.prog, tys := X.tt.map tiOf, globs := X.globs.map fun g => (g.1, g.2.map U.encL), nt := X.nt }
def TEnv.at {U : Univ} (X : TEnv U) (n : Nat) : TEnv U := { X with nt := n }
def TEnv.get {U : Univ} (X : TEnv U) (t : Nat) : Option (TT U) := match X.tt[t]? with | some (some e) => some e | _ => none
def TEnv.elem {U : Univ} (X : TEnv U) (t : Nat) : Option (TT U) := match X.get t with
  | some e => match e.ti.d with
    | .sl u => X.get u
    | _ => none
  | none => none
structure TOk {U : Univ} (X : TEnv U) : Prop where
  zero : ∀ t e, X.get t = some e → TV.encs e.zero = e.ti.zero.map Z.toD
  zl : ∀ t e l, X.get t = some e → e.zl = some l → U.encL l = e.ti.zeroP
  agg : ∀ t e, X.get t = some e → e.ti.isAgg = e.n.isSome
  size : ∀ t e n, X.get t = some e → e.n = some n → e.ti.size = U.size n
  key : ∀ t e k v, X.get t = some e → e.ty = .map k v → X.E.keyTD t = k.td
  inv : ∀ t e, X.get t = some e → ∀ d ∈ e.zero, d.fulls = []
section
variable {U : Univ} {X : TEnv U}
theorem get_ty {t : Nat} {e : TT U} (h : X.get t = some e) : X.E.ty t = some e.ti := by
  unfold TEnv.get at h
  unfold Env.ty TEnv.E
  simp only [List.getElem?_map]
  split at h
  · rename_i e' he; simp only [Option.some.injEq] at h; subst h; rw [he]; rfl
  · simp at h
theorem get_td {t : Nat} {e : TT U} (h : X.get t = some e) : X.E.td t = some e.ti.d := by simp only [Env.td, get_ty h]
theorem elem_elem {t : Nat} {e : TT U} (h : X.elem t = some e) : X.E.elem t = some e.ti := by
  unfold TEnv.elem at h
  unfold Env.elem
  split at h
  · rename_i e' he
    rw [get_ty he]
    split at h
    · rename_i u hu
      rw [← get_ty h]
      generalize e'.ti = ti at hu
      obtain ⟨d, a, b, c⟩ := ti
      dsimp only at hu; subst hu; rfl
    · simp at h
  · simp at h
def evT (X : TEnv U) (sl : Nat → TV U) (t : Nat) : Operand → Option (TV U)
  | .tmp s => some (sl s)
  | .const (.bool b) => some (.v .bool b)
  | .const (.int k n) => some (.v (.int k) n)
  | .const (.string s) => some (.v .str s.data.toList)
  | .const (.slice none 0 0) => match X.elem t with
    | some e => if U.tsize e.ty = e.ti.size then some (.nils e.ty) else none
    | none => none
  | .const (.pointer none) => some .nilp
  | .const .nilFunc => some .nilfn
  | .const (.map none) => match X.get t with
    | some e => match e.ty with
      | .map k v => some (.v (.map k v) [])
      | _ => none
    | none => none
  | .func f => some (.fn f [] [])
  | .global g => match X.globs.find? (·.1 == g) with
    | some x => some (.pp x.2)
    | none => none
  | _ => none
theorem find_map {α : Type} (f : α → P) (g : Nat) : ∀ l : List (Nat × List α), (l.map fun x => (x.1, x.2.map f)).find? (·.1 == g) = (l.find? (·.1 == g)).map fun x => (x.1, x.2.map f)
  | [] => rfl
  | x :: r => by
    simp only [List.map_cons, List.find?_cons]
    split
    · rfl
    · exact find_map f g r
theorem evT_enc (hX : TOk X) {sl : Nat → TV U} {t : Nat} {x : Operand} {d : TV U} (h : evT X sl t x = some d) : ev X.E (fun k => (sl k).enc) t x = d.enc := by
  unfold evT at h
  split at h
  · simp only [Option.some.injEq] at h; subst h; rfl
  · simp only [Option.some.injEq] at h; subst h; rfl
  · simp only [Option.some.injEq] at h; subst h; rfl
  · simp only [Option.some.injEq] at h; subst h; rfl
  · split at h
    · rename_i e he
      split at h
      · rename_i hs
        simp only [Option.some.injEq] at h; subst h
        simp only [ev, D.ofV, Env.elemSize, elem_elem he, TV.enc, hs]
      · simp at h
    · simp at h
  · simp only [Option.some.injEq] at h; subst h; rfl
  · simp only [Option.some.injEq] at h; subst h; rfl
  · split at h
    · rename_i e he
      split at h
      · rename_i k v hty
        simp only [Option.some.injEq] at h; subst h
        simp only [ev, D.ofV, hX.key t e k v he hty, TV.enc, Univ.encE, List.map_nil]
      · simp at h
    · simp at h
  · simp only [Option.some.injEq] at h; subst h; rfl
  · split at h
    · rename_i q hq
      simp only [Option.some.injEq] at h; subst h
      simp only [ev, Env.glob, TEnv.E, find_map, hq, Option.map_some, TV.enc]
    · simp at h
  · simp at h
def lv (l : Lf U.car) : TV U := .v l.t l.x
def TV.leaf? : TV U → Option (Lf U.car)
  | .v t x => some ⟨t, x⟩
  | _ => none
theorem leaf_some {d : TV U} {l : Lf U.car} (h : d.leaf? = some l) : d = lv l := by
  cases d <;> simp [TV.leaf?] at h
  subst h; rfl
def mkAggT (n : Option Nat) (cs : List (TV U)) : TV U :=
  match n, allM TV.leaf? cs with
  | some n, some ls => match U.of n ls with
    | some x => .v (.st n) x
    | none => .agg cs
  | _, _ => .agg cs
def TV.cells : TV U → List (TV U)
  | .agg cs => cs
  | .v (.st n) x => (U.cells n x).map lv
  | d => [d]
theorem encs_lv (ls : List (Lf U.car)) : TV.encs (ls.map lv) = (ls.map U.encL).map .p := by
  rw [encs_map, List.map_map, List.map_map]; rfl
theorem allM_pure_map (ps : List P) : allM D.pure? (ps.map .p) = some ps := by
  induction ps with
  | nil => rfl
  | cons x r ih => simp only [List.map_cons, allM, D.pure?, ih]
theorem mkAgg_map (ps : List P) : D.mkAgg (ps.map .p) = .p (.agg ps) := by unfold D.mkAgg; rw [allM_pure_map]
theorem allM_leaf : ∀ {cs : List (TV U)} {ls : List (Lf U.car)}, allM TV.leaf? cs = some ls → cs = ls.map lv
  | [], ls, h => by simp [allM] at h; subst h; rfl
  | d :: r, ls, h => by
    simp only [allM] at h
    split at h
    · rename_i l ls' h1 h2
      simp only [Option.some.injEq] at h; subst h
      simp only [List.map_cons, ← allM_leaf h2, leaf_some h1]
    · simp at h
theorem mkAggT_enc (hU : UOk U) (n : Option Nat) (cs : List (TV U)) : (mkAggT n cs).enc = D.mkAgg (TV.encs cs) := by
  unfold mkAggT
  split
  · rename_i n ls hls
    rw [allM_leaf hls]
    split
    · rename_i x hx
      rw [encs_lv, mkAgg_map, TV.enc, Univ.encE, hU.enc_cells, hU.of_cells _ _ _ hx]
    · rw [TV.enc]
  · rw [TV.enc]
theorem mkAggT_fulls (n : Option Nat) (cs : List (TV U)) {q : Id × Nat} (h : q ∈ (mkAggT n cs).fulls) : ∃ d ∈ cs, q ∈ d.fulls := by
  unfold mkAggT at h
  have : q ∈ TV.fullsL cs → ∃ d ∈ cs, q ∈ d.fulls := fun h => fullsL_mem.1 h
  split at h
  · split at h
    · simp [TV.fulls] at h
    · exact this h
  · exact this h
theorem dcells_agg (ds : List D) : (D.mkAgg ds).cells = ds := by
  unfold D.mkAgg
  split
  · rename_i ps h; rw [D.cells, allM_pure h]
  · rfl
theorem fnD_cells (f : Nat) (a b : List D) : (fnD f a b).cells = [fnD f a b] := by unfold fnD; split <;> rfl
theorem cells_enc (hU : UOk U) (d : TV U) : TV.encs d.cells = d.enc.cells := by
  cases d with
  | agg cs => rw [TV.cells, TV.enc, dcells_agg]
  | v t x =>
    cases t with
    | st n => simp only [TV.cells, encs_lv, TV.enc, Univ.encE, hU.enc_cells, D.cells]
    | _ => rfl
  | fn f a b => simp only [TV.cells, TV.encs, TV.enc, fnD_cells]
  | _ => rfl
theorem cells_fulls {d : TV U} {q : Id × Nat} : (∃ c ∈ d.cells, q ∈ c.fulls) → q ∈ d.fulls := by
  rintro ⟨c, hc, hq⟩
  cases d with
  | agg cs => exact fullsL_mem.2 ⟨c, hc, hq⟩
  | v t x =>
    cases t <;> simp only [TV.cells, List.mem_singleton, List.mem_map] at hc
    case st n => obtain ⟨l, _, rfl⟩ := hc; simp [lv, TV.fulls] at hq
    all_goals (subst hc; simpa using hq)
  | _ => simp only [TV.cells, List.mem_singleton] at hc; subst hc; exact hq
def TV.okv : TV U → Bool
  | .dead | .undef | .tup _ => false
  | _ => true
theorem okv_enc' {d : TV U} (h : d.okv = true) : d.enc.okv = true := by
  cases d with
  | agg cs => rw [TV.enc]; unfold D.mkAgg; cases allM D.pure? (TV.encs cs) <;> rfl
  | fn f a b => rw [TV.enc]; unfold fnD; cases allM D.pure? (TV.encs a) <;> cases allM D.pure? (TV.encs b) <;> rfl
  | dead => simp [TV.okv] at h
  | undef => simp [TV.okv] at h
  | tup _ => simp [TV.okv] at h
  | _ => rfl
def TS.lf1 (T : TS U) : TV U → Option (Lf U.car)
  | .v t x => some ⟨t, x⟩
  | .nils t => some ⟨.sl t, []⟩
  | .clip t xs => some ⟨.sl t, xs⟩
  | .full id _ => match T.objs id with
    | some (.arr t xs _) => some ⟨.sl t, xs⟩
    | _ => none
  | .sl id off len => match T.objs id with
    | some (.arr t xs _) => some ⟨.sl t, (xs.drop off).take len⟩
    | _ => none
  | .map id => match T.objs id with
    | some (.map k v kv) => some ⟨.map k v, kv⟩
    | _ => none
  | _ => none
def TS.lf (T : TS U) (h : Option Nat) : TV U → Option (Lf U.car)
  | .agg cs => match h, allM T.lf1 cs with
    | some n, some ls => match U.of n ls with
      | some x => some ⟨.st n, x⟩
      | none => none
    | _, _ => none
  | d => T.lf1 d
theorem lf1_enc {T : TS U} {d : TV U} {l : Lf U.car} (hi : d.inv T.objs) (h : T.lf1 d = some l) (m : Nat) : d.enc.toP T.enc.objs m = some (U.encL l) := by
  unfold TS.lf1 at h
  split at h
  · simp only [Option.some.injEq] at h; subst h; simp [TV.enc, Univ.encL]
  · simp only [Option.some.injEq] at h; subst h; simp [TV.enc, Univ.encL, Univ.encE]
  · simp only [Option.some.injEq] at h; subst h; simp [TV.enc, Univ.encL, Univ.encE]
  · rename_i id n
    split at h
    · rename_i t xs fix ho
      simp only [Option.some.injEq] at h; subst h
      obtain ⟨o, h1, h2⟩ := hi (id, n) (by simp [TV.fulls])
      dsimp only at h1 h2
      rw [ho, Option.some.injEq] at h1; subst h1
      have hl := h2 t xs fix rfl
      simp only [TV.enc, toP_sl, TS.enc, ho, oenc, TO.enc, Univ.encL, Univ.encE, ← hl, dt_map]
    · simp at h
  · rename_i id off len
    split at h
    · rename_i t xs fix ho
      simp only [Option.some.injEq] at h; subst h
      simp only [TV.enc, toP_sl, TS.enc, ho, oenc, TO.enc, Univ.encL, Univ.encE, List.map_take, List.map_drop]
    · simp at h
  · rename_i id
    split at h
    · rename_i k v kv ho
      simp only [Option.some.injEq] at h; subst h
      simp only [TV.enc, toP_map, TS.enc, ho, oenc, TO.enc, Univ.encL, Univ.encE]
    · simp at h
  · simp at h
theorem toP_mkAgg (lk : Id → Option Obj) (m : Nat) (ds : List D) : (D.mkAgg ds).toP lk (m + 1) = (allM (D.toP lk m) ds).map .agg := by
  unfold D.mkAgg
  split
  · rename_i ps h
    rw [toP_p, allM_pure h]
    have : allM (D.toP lk m) (ps.map .p) = some ps := by
      clear h
      induction ps with
      | nil => rfl
      | cons x r ih => simp only [List.map_cons, allM, toP_p, ih]
    rw [this]; rfl
  · rfl
theorem lf1s_enc {T : TS U} (m : Nat) : ∀ {cs : List (TV U)} {ls : List (Lf U.car)}, (∀ d ∈ cs, d.inv T.objs) → allM T.lf1 cs = some ls → allM (D.toP T.enc.objs m) (TV.encs cs) = some (ls.map U.encL)
  | [], ls, _, h => by simp [allM] at h; subst h; rfl
  | d :: r, ls, hi, h => by
    simp only [allM] at h
    split at h
    · rename_i l ls' h1 h2
      simp only [Option.some.injEq] at h; subst h
      simp only [TV.encs, allM, lf1_enc (hi d (by simp)) h1 m, lf1s_enc m (fun x hx => hi x (by simp [hx])) h2, List.map_cons]
    · simp at h
theorem agg_inv {lk : Id → Option (TO U)} {cs : List (TV U)} (h : (TV.agg cs).inv lk) : ∀ d ∈ cs, d.inv lk := fun d hd q hq => h q (fullsL_mem.2 ⟨d, hd, hq⟩)
theorem lf_enc (hU : UOk U) {T : TS U} {hn : Option Nat} {d : TV U} {l : Lf U.car} (hi : d.inv T.objs) (h : T.lf hn d = some l) (m : Nat) : d.enc.toP T.enc.objs (m + 1) = some (U.encL l) := by
  cases d with
  | agg cs =>
    simp only [TS.lf] at h
    split at h
    · rename_i n ls hls
      split at h
      · rename_i x hx
        simp only [Option.some.injEq] at h; subst h
        rw [TV.enc, toP_mkAgg, lf1s_enc m (agg_inv hi) hls]
        simp only [Option.map_some, Univ.encL, Univ.encE, hU.enc_cells, hU.of_cells _ _ _ hx]
      · simp at h
    · simp at h
  | _ => exact lf1_enc hi h _
structure TEff (U : Univ) where
  val : TV U
  new : List (Nat × TO U) := []
  wr : List (Id × TO U) := []
  frz : List Id := []
def TEff.enc (e : TEff U) (cs : List Bool) : Eff :=
  { val := e.val.enc, new := e.new.map fun x => (x.1, x.2.enc), wr := e.wr.map fun x => (x.1, x.2.enc), frz := e.frz, cond := cs }
def TS.objL (T : TS U) : List (Id × TO U) → TS U
  | [] => T
  | (id, o) :: r => TS.objL { T with objs := upd T.objs id (some o) } r
def TS.freezeL (T : TS U) (l : List Id) : TS U := { T with fz := fun id => l.contains id || T.fz id }
def TS.setO (T : TS U) : Option Nat → TV U → TS U
  | some t, d => { T with slots := upd T.slots t d }
  | none, _ => T
def TS.app (T : TS U) (i : Nat) (dst : Option Nat) (e : TEff U) : TS U :=
  (((T.objL e.wr).objL (e.new.map fun x => ((T.ep, i, x.1), x.2))).freezeL e.frz).setO dst e.val
def TS.next (T : TS U) : TS U := { T with ep := T.ep + 1 }
theorem st_ext {a b : St} (h1 : a.slots = b.slots) (h2 : a.objs = b.objs) (h3 : a.fz = b.fz) (h4 : a.ep = b.ep) : a = b := by
  cases a; cases b; simp_all
theorem objL_enc : ∀ (l : List (Id × TO U)) (T : TS U), (T.objL l).enc = T.enc.objL (l.map fun x => (x.1, x.2.enc))
  | [], T => rfl
  | (id, o) :: r, T => by
    simp only [TS.objL, List.map_cons, St.objL]
    rw [objL_enc r]
    congr 1
    refine st_ext rfl ?_ rfl rfl
    funext x
    simp only [TS.enc, St.obj, upd]
    split <;> rfl
theorem freezeL_enc (l : List Id) (T : TS U) : (T.freezeL l).enc = T.enc.freezeL l := by
  refine st_ext ?_ ?_ ?_ ?_
  · simp [TS.freezeL, TS.enc]
  · simp [TS.freezeL, TS.enc]
  · funext id; rw [Eng.freezeL_fz]; rfl
  · simp [TS.freezeL, TS.enc]
theorem setO_enc (T : TS U) (dst : Option Nat) (d : TV U) : (T.setO dst d).enc = T.enc.setO dst d.enc := by
  cases dst with
  | none => rfl
  | some t =>
    refine st_ext ?_ rfl rfl rfl
    funext x
    simp only [TS.setO, TS.enc, St.setO, St.set, upd]
    split <;> rfl
theorem app_enc (T : TS U) (i : Nat) (dst : Option Nat) (e : TEff U) (cs : List Bool) : (T.app i dst e).enc = T.enc.app i dst (e.enc cs) := by
  simp only [TS.app, St.app, setO_enc, Eng.freezeL_enc, Eng.objL_enc, TEff.enc, List.map_map]
  rfl
def lenKeep (o : Option (TO U)) (o' : TO U) : Prop := ∀ t xs fix, o' = .arr t xs fix → ∃ t' xs' fix', o = some (.arr t' xs' fix') ∧ xs.length = xs'.length
def fresh (T : TS U) (i : Nat) (e : TEff U) : Bool := e.new.all fun x => (T.objs (T.ep, i, x.1)).isNone
theorem objL_get_t : ∀ (l : List (Id × TO U)) (T : TS U) (id : Id) (o : TO U), (T.objL l).objs id = some o → (id, o) ∈ l ∨ ((∀ o', (id, o') ∉ l) ∧ T.objs id = some o)
  | [], T, id, o, h => .inr ⟨by simp, h⟩
  | (a, u) :: r, T, id, o, h => by
    simp only [TS.objL] at h
    rcases objL_get_t r _ id o h with h | ⟨h1, h2⟩
    · exact .inl (List.mem_cons_of_mem _ h)
    · simp only [upd] at h2
      split at h2
      · rename_i he; simp only [Option.some.injEq] at h2; subst he h2; exact .inl List.mem_cons_self
      · rename_i he
        exact .inr ⟨fun o' hm => by rcases List.mem_cons.1 hm with hm | hm; (· simp only [Prod.mk.injEq] at hm; exact he hm.1); exact h1 o' hm, h2⟩
theorem objL_keep : ∀ (l : List (Id × TO U)) (T : TS U) (id : Id), (T.objs id).isSome = true → ((T.objL l).objs id).isSome = true
  | [], T, id, h => h
  | (a, u) :: r, T, id, h => by
    refine objL_keep r _ id ?_
    simp only [upd]; split
    · rfl
    · exact h
def lkA (T : TS U) (i : Nat) (e : TEff U) : Id → Option (TO U) := ((T.objL e.wr).objL (e.new.map fun x => ((T.ep, i, x.1), x.2))).objs
theorem app_objs_t (T : TS U) (i : Nat) (dst : Option Nat) (e : TEff U) : (T.app i dst e).objs = lkA T i e := by
  cases dst <;> rfl
theorem lenIs_old {T : TS U} {i : Nat} {e : TEff U} (hf : fresh T i e = true) (hw : ∀ id o, (id, o) ∈ e.wr → lenKeep (T.objs id) o) {q : Id × Nat} (h : lenIs T.objs q) : lenIs (lkA T i e) q := by
  obtain ⟨o, ho, hl⟩ := h
  have hs : ((T.objL e.wr).objs q.1).isSome = true := objL_keep _ _ _ (by rw [ho]; rfl)
  have hs' := objL_keep (e.new.map fun x => ((T.ep, i, x.1), x.2)) _ _ hs
  obtain ⟨o', ho'⟩ := Option.isSome_iff_exists.1 hs'
  refine ⟨o', ho', fun t xs fix he => ?_⟩
  subst he
  rcases objL_get_t _ _ _ _ ho' with hm | ⟨_, h2⟩
  · obtain ⟨x, hx, he⟩ := List.mem_map.1 hm
    have := List.all_eq_true.1 hf x hx
    simp only [Prod.mk.injEq] at he
    rw [he.1, ho] at this; simp at this
  · rcases objL_get_t _ _ _ _ h2 with hm | ⟨_, h3⟩
    · obtain ⟨t', xs', fix', h4, h5⟩ := hw _ _ hm t xs fix rfl
      rw [ho, Option.some.injEq] at h4
      rw [h5]; exact hl _ _ _ h4
    · rw [ho, Option.some.injEq] at h3
      exact hl _ _ _ h3
structure EInv (T : TS U) (i : Nat) (e : TEff U) : Prop where
  wr : ∀ id o, (id, o) ∈ e.wr → lenKeep (T.objs id) o
  val : fresh T i e = true → e.val.inv (lkA T i e)
  objs : fresh T i e = true → ∀ o, ((∃ k, (k, o) ∈ e.new) ∨ ∃ id, (id, o) ∈ e.wr) → o.inv (lkA T i e)
theorem TV.inv_old {T : TS U} {i : Nat} {e : TEff U} (hf : fresh T i e = true) (hw : ∀ id o, (id, o) ∈ e.wr → lenKeep (T.objs id) o) {d : TV U} (h : d.inv T.objs) : d.inv (lkA T i e) :=
  fun q hq => lenIs_old hf hw (h q hq)
theorem TS.Inv.app {T : TS U} (h : T.Inv) {i : Nat} {dst : Option Nat} {e : TEff U} (hf : fresh T i e = true) (he : EInv T i e) : (T.app i dst e).Inv := by
  constructor
  · intro k
    rw [app_objs_t]
    have : (T.app i dst e).slots k = e.val ∨ (T.app i dst e).slots k = T.slots k := by
      have h1 : ∀ (l : List (Id × TO U)) (T : TS U), (T.objL l).slots = T.slots := by
        intro l
        induction l with
        | nil => intro T; rfl
        | cons x r ih => intro T; simp only [TS.objL]; rw [ih]
      cases dst with
      | none => right; simp only [TS.app, TS.setO, TS.freezeL, h1]
      | some t =>
        simp only [TS.app, TS.setO, TS.freezeL, h1, upd]
        split
        · exact .inl rfl
        · exact .inr rfl
    rcases this with h1 | h1
    · rw [h1]; exact he.val hf
    · rw [h1]; exact TV.inv_old hf he.wr (h.slots k)
  · intro id o ho
    rw [app_objs_t] at ho ⊢
    rcases objL_get_t _ _ _ _ ho with hm | ⟨_, h2⟩
    · obtain ⟨x, hx, hq⟩ := List.mem_map.1 hm
      simp only [Prod.mk.injEq] at hq
      obtain ⟨_, rfl⟩ := hq
      exact he.objs hf _ (.inl ⟨x.1, hx⟩)
    · rcases objL_get_t _ _ _ _ h2 with hm | ⟨_, h3⟩
      · exact he.objs hf _ (.inr ⟨id, hm⟩)
      · have := h.objs id o h3
        cases o with
        | box cs => exact fun d hd => TV.inv_old hf he.wr (this d hd)
        | _ => trivial
theorem TS.Inv.next {T : TS U} (h : T.Inv) : T.next.Inv := ⟨h.slots, h.objs⟩
theorem EInv.pure {T : TS U} {i : Nat} {d : TV U} {frz : List Id} (h : d.inv T.objs) : EInv T i { val := d, frz := frz } :=
  ⟨by simp, fun _ => h, by simp⟩
end
end Eng
namespace Eng
open Go
section
variable {U : Univ} {R : Type}
def chkL : List Bool → Option R → Option R
  | [], k => k
  | b :: r, k => chk b (chkL r k)
def Lf.as {car : Nat → Type} (l : Lf car) (t : Ty) : Option (El car t) := if h : l.t = t then some (h ▸ l.x) else none
def decP : P → Option (TV U)
  | .bool b => some (.v .bool b)
  | .int k n => some (.v (.int k) n)
  | .str s => some (.v .str s)
  | _ => none
def leafP : TV U → Option P
  | .v .bool b => some (.bool b)
  | .v (.int k) n => some (.int k n)
  | .v .str s => some (.str s)
  | _ => none
def aggP : TV U → Option (List P)
  | .v (.st n) x => some ((U.cells n x).map U.encL)
  | .agg cs => match allM TV.leaf? cs with
    | some ls => some (ls.map U.encL)
    | none => none
  | _ => none
def virtT (ep i : Nat) : Nat → List (TV U) → List (TV U)
  | _, [] => []
  | k, .nils _ :: r => .full (ep, i, k) 0 :: virtT ep i (k + 1) r
  | k, d :: r => d :: virtT ep i (k + 1) r
def virtNewT : Nat → List (TV U) → List (Nat × TO U)
  | _, [] => []
  | k, .nils t :: r => (k, .arr t [] false) :: virtNewT (k + 1) r
  | k, _ :: r => virtNewT (k + 1) r
def loadT (e : TT U) (cs : List (TV U)) : Option (TV U) :=
  if e.n.isSome then (if e.ti.size ≤ cs.length then some (mkAggT e.n (cs.take e.ti.size)) else none)
  else cs.head?
def fillAtT (X : TEnv U) (sl : Nat → TV U) (e : TT U) : List (Nat × Operand) → List (TV U) → Option (List (TV U))
  | [], cs => some cs
  | (i, x) :: r, cs => match e.ti.part X.E i with
    | some (off, t) => match X.get t, evT X sl t x with
      | some tp, some d => if d.cells.length = tp.ti.size ∧ off + d.cells.length ≤ cs.length ∧ d.okv = true then fillAtT X sl e r (splice cs off d.cells) else none
      | _, _ => none
    | none => none
def fillElemsT (X : TEnv U) (T : TS U) (t : Nat) (e : TT U) (n : Nat) : List (Nat × Operand) → List (El U.car e.ty) → Option (List (El U.car e.ty))
  | [], es => some es
  | (i, x) :: r, es => match evT X T.slots t x with
    | some d => match T.lf e.n d with
      | some l => match l.as e.ty with
        | some y => if U.tsize e.ty = e.ti.size ∧ i < n then fillElemsT X T t e n r (es.set i y) else none
        | none => none
      | none => none
    | none => none
def intT (X : TEnv U) (sl : Nat → TV U) : Option Operand → Option (Option Int)
  | none => some none
  | some x => match evT X sl 0 x with
    | some (.v (.int _) n) => some (some n)
    | _ => none
def room (n b : Nat) : Bool := decide (n * max b 1 ≤ roomB)
def within (lo hi n : Int) : Bool := decide (0 ≤ lo ∧ lo ≤ hi ∧ hi ≤ n)
def srcT (T : TS U) (x : TV U) (t : Ty) : Option (List (El U.car t)) :=
  match x with
  | .v .str s => match t with
    | .int .u8 => some (s.map fun b => ((b.toNat : Nat) : Int))
    | _ => none
  | x => match T.lf1 x with
    | some l => match l.as (.sl t) with
      | some ys => some ys
      | none => none
    | none => none
def opMove (X : TEnv U) (T : TS U) (ty : Nat) (x : Operand) (k : TEff U → Option R) : Option R :=
  match evT X T.slots ty x with
  | some d => k { val := d }
  | none => none
def opAssign (X : TEnv U) (T : TS U) (i ty : Nat) (x : Operand) (k : TEff U → Option R) : Option R :=
  match evT X T.slots ty x with
  | some (.nils t) => k { val := .full (T.ep, i, 0) 0, new := [(0, .arr t [] false)] }
  | some d => k { val := d }
  | none => none
def opPick (X : TEnv U) (T : TS U) (ty : Nat) (c a b : Operand) (k : TEff U → Option R) : Option R :=
  match evT X T.slots ty c, evT X T.slots ty a, evT X T.slots ty b with
  | some (.v .bool x), some u, some v => bif x then k { val := u } else k { val := v }
  | _, _, _ => none
def boxEff (T : TS U) (i : Nat) (ds : List (TV U)) : TEff U := { val := .ptr (T.ep, i, 0) 0 0, new := (0, .box (virtT T.ep i 1 ds)) :: virtNewT 1 ds }
def opAlloc (X : TEnv U) (T : TS U) (i t : Nat) (k : TEff U → Option R) : Option R :=
  match X.get t with
  | some e => k (boxEff T i e.zero)
  | none => none
def opBox (X : TEnv U) (T : TS U) (i t : Nat) (x : Operand) (k : TEff U → Option R) : Option R :=
  match X.get t, evT X T.slots t x with
  | some e, some d => if d.cells.length = e.ti.size ∧ d.okv = true then k (boxEff T i d.cells) else none
  | _, _ => none
def opBuild (X : TEnv U) (T : TS U) (t : Nat) (parts : List (Nat × Operand)) (k : TEff U → Option R) : Option R :=
  match X.get t with
  | some e => if e.n.isSome then match fillAtT X T.slots e parts e.zero with
    | some cs => k { val := mkAggT e.n cs }
    | none => none
    else none
  | none => none
def opBuildSlice (X : TEnv U) (T : TS U) (i t n : Nat) (parts : List (Nat × Operand)) (k : TEff U → Option R) : Option R :=
  match X.get t with
  | some e0 => match e0.ti.d with
    | .sl u => match X.get u with
      | some e => match e.zl with
        | some z => match z.as e.ty with
          | some z => match fillElemsT X T u e n parts (List.replicate n z) with
            | some es => if n * e.ti.size ≤ 16777216 ∧ n ≤ 16777216 ∧ U.tsize e.ty = e.ti.size then
                k { val := .full (T.ep, i, 0) n, new := [(0, .arr e.ty es false)], frz := idsOf X.E T.enc.slots T.enc.objs u parts } else none
            | none => none
          | none => none
        | none => none
      | none => none
    | _ => none
  | none => none
def opLoad (X : TEnv U) (T : TS U) (t : Nat) (a : Operand) (k : TEff U → Option R) : Option R :=
  match X.get t, evT X T.slots 0 a with
  | some e, some (.pp cs) => match loadT e (cs.map lv) with
    | some d => k { val := d }
    | none => none
  | some e, some (.ptr id i j) => match T.objs id with
    | some (.box cs) => if i = 0 then match loadT e (cs.drop j) with
      | some d => k { val := d }
      | none => none
      else none
    | some (.arr u xs _) => (xs[i]?).bind fun x => match loadT e (((U.cellsE u x).drop j).map lv) with
      | some d => k { val := d }
      | none => none
    | _ => none
  | _, _ => none
def opStore (X : TEnv U) (T : TS U) (ix t : Nat) (a x : Operand) (k : TEff U → Option R) : Option R :=
  match X.get t, evT X T.slots 0 a, evT X T.slots t x with
  | some e, some (.ptr id i j), some d => match T.objs id with
    | some (.box cs) => if i = 0 ∧ d.cells.length = e.ti.size ∧ j + d.cells.length ≤ cs.length ∧ d.okv = true then
        k { val := .undef, new := virtNewT 0 d.cells, wr := [(id, .box (splice cs j (virtT T.ep ix 0 d.cells)))] } else none
    | some (.arr u xs fix) => match T.lf e.n d with
      | some l => if U.tsize l.t = e.ti.size ∧ j + e.ti.size ≤ U.tsize u ∧ 0 < e.ti.size then
          (if j = 0 ∧ U.tsize l.t = U.tsize u then match l.as u with
            | some y => k { val := .undef, wr := [(id, .arr u (xs.set i y) fix)], frz := d.enc.ids T.enc.objs depth }
            | none => none
          else (xs[i]?).bind fun z => match U.ofE u (splice (U.cellsE u z) j (U.cellsE l.t l.x)) with
            | some y => k { val := .undef, wr := [(id, .arr u (xs.set i y) fix)], frz := d.enc.ids T.enc.objs depth }
            | none => none) else none
      | none => none
    | _ => none
  | _, _, _ => none
def opNilCheck (X : TEnv U) (T : TS U) (x : Operand) (k : TEff U → Option R) : Option R :=
  match evT X T.slots 0 x with
  | some (.pp cs) => k { val := .pp cs }
  | some (.ptr id i j) => k { val := .ptr id i j }
  | some (.fn f a b) => k { val := .fn f a b }
  | _ => none
def opNil (X : TEnv U) (T : TS U) (b : BinOp) (t : Nat) (x y : Operand) (k : TEff U → Option R) : Option R :=
  match X.get t, evT X T.slots 0 x with
  | some e, some d => match nilCmp e.ti.d y d.enc with
    | some (.p (.bool z)) => match b with
      | .eql => k { val := .v .bool z }
      | .neq => k { val := .v .bool (!z) }
      | _ => none
    | _ => none
  | _, _ => none
def opBin (X : TEnv U) (T : TS U) (b : BinOp) (t : Nat) (x y : Operand) (k : TEff U → Option R) : Option R :=
  if Operand.isNil y then opNil X T b t x y k else
  match evT X T.slots 0 x, evT X T.slots 0 y with
  | some (.v .bool u), some (.v .bool v) => match X.get t, boolop b u v with
    | some e, some z => match e.ti.d, decP (U := U) z with
      | .bool, some d => k { val := d }
      | _, _ => none
    | _, _ => none
  | some d, some d' => match aggP d, aggP d' with
    | some u, some v => match aggop X.E b t u v with
      | some z => match decP z with
        | some d => k { val := d }
        | none => none
      | none => none
    | _, _ => match leafP d, leafP d' with
      | some u, some v => match binop b u v with
        | some (z, c) => match decP z with
          | some d => chkL c (k { val := d })
          | none => none
        | none => none
      | _, _ => none
  | _, _ => none
def opUn (X : TEnv U) (T : TS U) (u : UnOp) (x : Operand) (k : TEff U → Option R) : Option R :=
  match evT X T.slots 0 x with
  | some d => match leafP d with
    | some v => match unop u v with
      | some (z, c) => match decP z with
        | some d => chkL c (k { val := d })
        | none => none
      | none => none
    | none => none
  | none => none
def opConvert (X : TEnv U) (T : TS U) (i s t : Nat) (x : Operand) (k : TEff U → Option R) : Option R :=
  match X.get s, X.get t, evT X T.slots 0 x with
  | some es, some et, some d => match es.ti.d, et.ti.d, d with
    | .int _, .int k', .v (.int _) n => k { val := .v (.int k') (k'.wrap n) }
    | .str, .str, .v .str s => k { val := .v .str s }
    | .str, .sl u, .v .str s => match X.get u with
      | some eu => match eu.ti.d with
        | .int .u8 => chk (decide (s.length ≤ 281474976710656)) (k { val := .full (T.ep, i, 0) s.length, new := [(0, .arr (.int .u8) (s.map fun b => ((b.toNat : Nat) : Int)) false)] })
        | _ => none
      | none => none
    | .sl u, .str, d => match X.get u, T.lf1 d with
      | some eu, some l => match eu.ti.d, l.as (.sl (.int .u8)) with
        | .int .u8, some xs => k { val := .v .str (xs.map fun n => UInt8.ofNat n.toNat) }
        | _, _ => none
      | _, _ => none
    | _, _, _ => none
  | _, _, _ => none
def evTs (X : TEnv U) (sl : Nat → TV U) (xs : List Operand) : Option (List (TV U)) := allM (evT X sl 0) xs
def opMakeFunc (X : TEnv U) (T : TS U) (f : Nat) (first caps : List Operand) (k : TEff U → Option R) : Option R :=
  match evTs X T.slots first, evTs X T.slots caps with
  | some a, some b => k { val := .fn f a b }
  | _, _ => none
def opMakeMap (X : TEnv U) (T : TS U) (i t : Nat) (k : TEff U → Option R) : Option R :=
  match X.get t with
  | some e => match e.ty with
    | .map kt vt => k { val := .map (T.ep, i, 0), new := [(0, .map kt vt [])] }
    | _ => none
  | none => none
def opMakeSlice (X : TEnv U) (T : TS U) (i t : Nat) (l c : Operand) (k : TEff U → Option R) : Option R :=
  match X.elem t, evT X T.slots 0 l, evT X T.slots 0 c with
  | some e, some (.v (.int _) a), some (.v (.int _) b) => match e.zl with
    | some z => match z.as e.ty with
      | some z => if U.tsize e.ty = e.ti.size then chk (decide (0 ≤ a ∧ a ≤ b ∧ b * e.ti.bytes ≤ roomB ∧ b ≤ roomB)) (k { val := .full (T.ep, i, 0) a.toNat, new := [(0, .arr e.ty (List.replicate a.toNat z) false)] }) else none
      | none => none
    | none => none
  | _, _, _ => none
def cut {α : Type} (xs : List α) : Option Int → Option Int → List α
  | none, none => xs
  | none, some h => xs.take h.toNat
  | some l, none => xs.drop l.toNat
  | some l, some h => (xs.take h.toNat).drop l.toNat
def sliceT (T : TS U) (sz : Option Nat) (d : TV U) (lo hi mx : Option Int) (k : TEff U → Option R) : Option R :=
  match sz, d with
  | none, .v .str s => match mx with
    | none => chk (within (lo.getD 0) (hi.getD s.length) s.length) (k { val := .v .str (cut s lo hi) })
    | some _ => none
  | some sz, .v (.sl t) xs => if sz = U.tsize t then match mx, hi with
    | none, _ => chk (within (lo.getD 0) (hi.getD xs.length) xs.length) (k { val := .v (.sl t) (cut xs lo hi) })
    | some m, some h => chk (decide (0 ≤ lo.getD 0 ∧ lo.getD 0 ≤ h ∧ h ≤ xs.length ∧ m = h)) (k { val := .clip t (cut xs lo hi) })
    | _, _ => none
    else none
  | some sz, .full id n => match T.objs id with
    | some (.arr t xs _) => if sz = U.tsize t then match mx with
      | none => chk (within (lo.getD 0) (hi.getD xs.length) xs.length) (match lo, hi with
        | none, none => k { val := .full id n }
        | lo, hi => k { val := .sl id (lo.getD 0).toNat ((hi.getD xs.length).toNat - (lo.getD 0).toNat) })
      | some m => match hi with
        | some h => chk (decide (0 ≤ lo.getD 0 ∧ lo.getD 0 ≤ h ∧ h ≤ xs.length ∧ m = h)) (k { val := .clip t (cut xs lo hi), frz := [id] })
        | none => none
      else none
    | _ => none
  | some sz, .sl id off len => match T.objs id with
    | some (.arr t xs _) => if sz = U.tsize t then match mx with
      | none => chk (within (lo.getD 0) (hi.getD len) len) (k { val := .sl id (off + (lo.getD 0).toNat) ((hi.getD len).toNat - (lo.getD 0).toNat) })
      | some _ => none
      else none
    | _ => none
  | some _, .nils t => match mx with
    | none => chk (decide (lo.getD 0 = 0 ∧ hi.getD 0 = 0)) (k { val := .nils t })
    | some _ => none
  | _, _ => none
def opSlice (X : TEnv U) (T : TS U) (t : Nat) (x : Operand) (lo hi mx : Option Operand) (k : TEff U → Option R) : Option R :=
  match X.get t, evT X T.slots 0 x, intT X T.slots lo, intT X T.slots hi, intT X T.slots mx with
  | some e, some d, some a, some b, some c => match e.ti.d with
    | .str => sliceT T none d a b c k
    | .sl u => match X.get u with
      | some eu => sliceT T (some eu.ti.size) d a b c k
      | none => none
    | _ => none
  | _, _, _, _, _ => none
def opFieldAddr (X : TEnv U) (T : TS U) (t : Nat) (x : Operand) (f : Nat) (k : TEff U → Option R) : Option R :=
  match X.get t, evT X T.slots 0 x with
  | some e, some d => match e.ti.d with
    | .struct fs => match fs[f]? with
      | some (off, ft) => match X.get ft with
        | some tf => if tf.ti.size = 0 then none else match d with
          | .pp cs => k { val := .pp (cs.drop off) }
          | .ptr id i j => k { val := .ptr id i (j + off) }
          | _ => none
        | none => none
      | none => none
    | _ => none
  | _, _ => none
def opField (X : TEnv U) (T : TS U) (t : Nat) (x : Operand) (f : Nat) (k : TEff U → Option R) : Option R :=
  match X.get t, evT X T.slots 0 x with
  | some e, some d => match e.ti.d with
    | .struct fs => match fs[f]? with
      | some (off, ft) => match X.get ft with
        | some tf => if tf.ti.size = 0 then none else match d with
          | .v (.st n) x => match loadT tf (((U.cells n x).drop off).map lv) with
            | some y => k { val := y }
            | none => none
          | .agg cs => match loadT tf (cs.drop off) with
            | some y => k { val := y }
            | none => none
          | _ => none
        | none => none
      | none => none
    | _ => none
  | _, _ => none
def tabB {car : Nat → Type} (t : Ty) (cs : List (Lf car)) (n : Nat) : Option (El car t) := match cs[n]? with
  | some l => l.as t
  | none => none
def tabK (cs : List (Lf U.car)) : List Ty → Nat → (List (Lf U.car) → Option R) → Option R
  | [], _, k => k []
  | t :: r, n, k => (tabB t cs n).bind fun x => tabK cs r (n + 1) fun ls => k (⟨t, x⟩ :: ls)
def opIndexAddr (X : TEnv U) (T : TS U) (t : Nat) (x ix : Operand) (k : TEff U → Option R) : Option R :=
  match X.get t, evT X T.slots 0 x, evT X T.slots 0 ix with
  | some e, some d, some (.v (.int _) n) => match e.ti.d with
    | .sl u => match X.get u with
      | some eu => match d with
        | .v (.sl t') xs => if U.tsize t' = eu.ti.size then (idx xs n).bind fun y => k { val := .pp (U.cellsE t' y) } else none
        | .full id m => match T.objs id with
          | some (.arr t' xs _) => if U.tsize t' = eu.ti.size then chk (decide (0 ≤ n ∧ n < xs.length)) (k { val := .ptr id n.toNat 0 }) else none
          | _ => none
        | .sl id off len => match T.objs id with
          | some (.arr t' xs _) => if U.tsize t' = eu.ti.size then chk (decide (0 ≤ n ∧ n < len)) (k { val := .ptr id (off + n.toNat) 0 }) else none
          | _ => none
        | _ => none
      | none => none
    | .arr m u => match X.get u with
      | some eu => match d with
        | .pp cs => chk (decide (0 ≤ n ∧ n < m)) (bif Nat.blt 8 m then match eu.zl with
            | some z => tabK cs ((U.cellsE z.t z.x).map (·.t)) (n.toNat * eu.ti.size) fun ls => k { val := .pp (ls ++ cs.drop (n.toNat * eu.ti.size + ls.length)) }
            | none => none
          else k { val := .pp (cs.drop (n.toNat * eu.ti.size)) })
        | .ptr id i j => chk (decide (0 ≤ n ∧ n < m)) (k { val := .ptr id i (j + n.toNat * eu.ti.size) })
        | _ => none
      | none => none
    | _ => none
  | _, _, _ => none
def opIndex (X : TEnv U) (T : TS U) (t : Nat) (x ix : Operand) (k : TEff U → Option R) : Option R :=
  match X.get t, evT X T.slots 0 x, evT X T.slots 0 ix with
  | some e, some (.v .str s), some (.v (.int _) n) => match e.ti.d with
    | .str => (idx s n).bind fun c => k { val := .v (.int .u8) ((c.toNat : Nat) : Int) }
    | _ => none
  | _, _, _ => none
def keyB {car : Nat → Type} : (k : Ty) → El car k → El car k → Bool
  | .bool, a, b => a == b
  | .int _, a, b => a == b
  | .str, a, b => a == b
  | _, _, _ => false
def Ty.isKey : Ty → Bool
  | .bool | .int _ | .str => true
  | _ => false
def lookB {car : Nat → Type} {k v : Ty} (kv : List (El car k × El car v)) (x : El car k) : Option (El car v) := (kv.find? fun e => keyB k x e.1).map (·.2)
def setB {car : Nat → Type} {k v : Ty} (kv : List (El car k × El car v)) (x : El car k) (y : El car v) : List (El car k × El car v) :=
  if kv.any (fun e => keyB k x e.1) then kv.map fun e => if keyB k x e.1 then (e.1, y) else e else kv ++ [(x, y)]
def delB {car : Nat → Type} {k v : Ty} (kv : List (El car k × El car v)) (x : El car k) : List (El car k × El car v) := kv.filter fun e => !keyB k x e.1
def mapT (T : TS U) : TV U → Option (Lf U.car)
  | .v (.map k v) kv => some ⟨.map k v, kv⟩
  | .map id => match T.objs id with
    | some (.map k v kv) => some ⟨.map k v, kv⟩
    | _ => none
  | _ => none
def opLookup (X : TEnv U) (T : TS U) (t : Nat) (m k : Operand) (ok : Bool) (κ : TEff U → Option R) : Option R :=
  match X.get t with
  | some e => match e.ti.d, e.ty with
    | .map kt vt, .map a b => match X.get vt, evT X T.slots 0 m, evT X T.slots kt k with
      | some ev, some dm, some dk => match mapT T dm, T.lf1 dk, ev.zl with
        | some lm, some lk, some z => match lm.as (.map a b), lk.as a, z.as b with
          | some kv, some key, some z => if a.isKey = true ∧ (X.E.keyTD t).same a.td = true then (if ok then κ { val := .tup [.v b ((lookB kv key).getD z), .v .bool (lookB kv key).isSome] } else κ { val := .v b ((lookB kv key).getD z) }) else none
          | _, _, _ => none
        | _, _, _ => none
      | _, _, _ => none
    | _, _ => none
  | none => none
def opMapUpdate (X : TEnv U) (T : TS U) (t : Nat) (m k v : Operand) (κ : TEff U → Option R) : Option R :=
  match X.get t with
  | some e => match e.ti.d, e.ty with
    | .map kt vt, .map a b => match X.get vt, evT X T.slots 0 m, evT X T.slots kt k, evT X T.slots vt v with
      | some ev, some (.map id), some dk, some dv => match T.objs id, T.lf1 dk, T.lf ev.n dv with
        | some (.map a' b' kv), some lk, some lv => match (Lf.mk (.map a' b') kv : Lf U.car).as (.map a b), lk.as a, lv.as b with
          | some kv, some key, some y => if a.isKey = true ∧ (X.E.keyTD t).same a.td = true then κ { val := .undef, wr := [(id, .map a b (setB kv key y))], frz := dv.enc.ids T.enc.objs depth } else none
          | _, _, _ => none
        | _, _, _ => none
      | _, _, _, _ => none
    | _, _ => none
  | none => none
def opRange (X : TEnv U) (T : TS U) (i t : Nat) (x : Operand) (k : TEff U → Option R) : Option R :=
  match X.get t, evT X T.slots 0 x with
  | some e, some (.v .str s) => match e.ti.d with
    | .str => k { val := .it (T.ep, i, 0), new := [(0, .sit s 0)] }
    | _ => none
  | some e, some (.v (.map a b) kv) => match e.ti.d with
    | .map _ _ => k { val := .it (T.ep, i, 0), new := [(0, .mit a b kv none)] }
    | _ => none
  | some e, some (.map id) => match e.ti.d, T.objs id with
    | .map _ _, some (.map a b kv) => k { val := .it (T.ep, i, 0), new := [(0, .mit a b kv none)], frz := [id] }
    | _, _ => none
  | _, _ => none
def opNext (X : TEnv U) (T : TS U) (it : Operand) (k : TEff U → Option R) : Option R :=
  match evT X T.slots 0 it with
  | some (.it id) => match T.objs id with
    | some (.sit s pos) => bif decide (pos < s.length) then
        k { val := .tup [.v .bool true, .v (.int .i64) (pos : Int), .v (.int .i32) (Utf8.decode ⟨s.toArray⟩ pos).1], wr := [(id, .sit s (pos + (Utf8.decode ⟨s.toArray⟩ pos).2))] }
      else k { val := .tup [.v .bool false] }
    | _ => none
  | _ => none
def opEntry (X : TEnv U) (T : TS U) (it : Operand) (k : TEff U → Option R) : Option R :=
  match evT X T.slots 0 it with
  | some (.it id) => match T.objs id with
    | some (.mit a b _ (some (x, y))) => k { val := .tup [.v a x, .v b y] }
    | _ => none
  | _ => none
def opExtract (X : TEnv U) (T : TS U) (x : Operand) (ix : Nat) (k : TEff U → Option R) : Option R :=
  match evT X T.slots 0 x with
  | some (.tup vs) => match vs[ix]? with
    | some d => k { val := d }
    | none => none
  | _ => none
def lenT (T : TS U) : TV U → Option (Nat)
  | .v .str s => some s.length
  | .v (.sl _) xs => some xs.length
  | .clip _ xs => some xs.length
  | .nils _ => some 0
  | .full id n => match T.objs id with
    | some (.arr _ xs _) => some xs.length
    | _ => none
  | .sl _ _ len => some len
  | _ => none
def opLen (X : TEnv U) (T : TS U) (t : Nat) (x : Operand) (k : TEff U → Option R) : Option R :=
  match X.get t, evT X T.slots t x with
  | some e, some d => match e.ti.d with
    | .str => match d with
      | .v .str s => k { val := .v (.int .i64) (s.length : Int) }
      | _ => none
    | .sl _ => match d with
      | .v (.sl _) xs => k { val := .v (.int .i64) (xs.length : Int) }
      | .clip _ xs => k { val := .v (.int .i64) (xs.length : Int) }
      | .nils _ => k { val := .v (.int .i64) (0 : Nat) }
      | .full id n => match T.objs id with
        | some (.arr _ xs _) => k { val := .v (.int .i64) (xs.length : Int) }
        | _ => none
      | .sl _ _ len => k { val := .v (.int .i64) (len : Int) }
      | _ => none
    | .map _ _ => match mapT T d with
      | some ⟨.map _ _, kv⟩ => chk (decide (List.length kv ≤ maxInt)) (k { val := .v (.int .i64) (List.length kv : Int) })
      | _ => none
    | .arr n _ => chk (decide (n ≤ maxInt)) (k { val := .v (.int .i64) (n : Int) })
    | _ => none
  | _, _ => none
def srcTd : TD → Bool
  | .sl _ | .str => true
  | _ => false
def appX (T : TS U) (i : Nat) (e : TT U) (d : TV U) (ys : List (El U.car e.ty)) (k : TEff U → Option R) : Option R :=
  match d with
  | .nils _ => chk (room ys.length e.ti.bytes) (k { val := .full (T.ep, i, 0) ys.length, new := [(0, .arr e.ty ys false)] })
  | .clip t' xs => match (Lf.mk (.sl t') xs : Lf U.car).as (.sl e.ty) with
    | some xs => chk (decide (List.isEmpty ys = false)) (chk (room (List.length xs + ys.length) e.ti.bytes) (k { val := .full (T.ep, i, 0) (List.length xs + ys.length), new := [(0, .arr e.ty (List.append xs ys) false)] }))
    | none => none
  | .full id n => match T.objs id with
    | some (.arr t' xs false) => match (Lf.mk (.sl t') xs : Lf U.car).as (.sl e.ty) with
      | some xs => chk (room (List.length xs + ys.length) e.ti.bytes) (k { val := .full (T.ep, i, 0) (List.length xs + ys.length), new := [(0, .arr e.ty (List.append xs ys) false)], wr := [(id, .gone)] })
      | none => none
    | _ => none
  | .sl id 0 len => match T.objs id with
    | some (.arr t' xs false) => match (Lf.mk (.sl t') xs : Lf U.car).as (.sl e.ty) with
      | some xs => chk (decide (len ≤ List.length xs)) (chk (room (len + ys.length) e.ti.bytes) (k { val := .full (T.ep, i, 0) (len + ys.length), new := [(0, .arr e.ty (List.append (List.take len xs) ys) false)], wr := [(id, .gone)] }))
      | none => none
    | _ => none
  | _ => none
def opAppend (X : TEnv U) (T : TS U) (i t u : Nat) (s x : Operand) (k : TEff U → Option R) : Option R :=
  match X.elem t, X.get u, evT X T.slots t s, evT X T.slots u x with
  | some e, some eu, some d, some dx => if U.tsize e.ty = e.ti.size then
      (if srcTd eu.ti.d = true then match srcT T dx e.ty with
        | some ys => appX T i e d ys k
        | none => none
      else match eu.ti.d, dx, e.zl with
        | .int _, .v (.int .i64) a, some z => match z.as e.ty with
          | some z => chk (decide (0 ≤ a)) (appX T i e d (List.replicate a.toNat z) k)
          | none => none
        | _, _, _ => none)
    else none
  | _, _, _, _ => none
def opCopy (X : TEnv U) (T : TS U) (t u : Nat) (d s : Operand) (k : TEff U → Option R) : Option R :=
  match X.elem t, evT X T.slots t d, evT X T.slots u s with
  | some e, some dd, some ds => match dd with
    | .full id n => match T.objs id with
      | some (.arr t' xs fix) => match srcT T ds t' with
        | some ys => if U.tsize t' = e.ti.size then k { val := .v (.int .i64) (min ys.length xs.length : Nat), wr := [(id, .arr t' (ys.take xs.length ++ xs.drop ys.length) fix)] } else none
        | none => none
      | _ => none
    | .sl id off len => match T.objs id with
      | some (.arr t' xs fix) => match srcT T ds t' with
        | some ys => if U.tsize t' = e.ti.size then chk (decide (off + len ≤ xs.length)) (k { val := .v (.int .i64) (min ys.length len : Nat), wr := [(id, .arr t' (splice xs off (ys.take (min ys.length len))) fix)] }) else none
        | none => none
      | _ => none
    | _ => none
  | _, _, _ => none
def argsT (X : TEnv U) (sl : Nat → TV U) : List Operand → List Nat → Option (List (TV U))
  | [], _ => some []
  | x :: xs, [] => match evT X sl 0 x, argsT X sl xs [] with
    | some d, some r => some (d :: r)
    | _, _ => none
  | x :: xs, t :: ts => match evT X sl t x, argsT X sl xs ts with
    | some d, some r => some (d :: r)
    | _, _ => none
def opMM (X : TEnv U) (T : TS U) (mx : Bool) (args : List Operand) (ats : List Nat) (k : TEff U → Option R) : Option R :=
  match argsT X T.slots args ats with
  | some ds => match (if mx then maxP (TV.encs ds) else minP (TV.encs ds)) with
    | some z => match decP z with
      | some d => k { val := d }
      | none => none
    | none => none
  | none => none
def opDelete (X : TEnv U) (T : TS U) (t u : Nat) (m k : Operand) (κ : TEff U → Option R) : Option R :=
  match X.get t, evT X T.slots t m, evT X T.slots u k with
  | some e, some (.map id), some dk => match e.ti.d, T.objs id, T.lf1 dk with
    | .map _ _, some (.map a b kv), some lk => match lk.as a with
      | some key => if a.isKey = true ∧ (X.E.keyTD t).same a.td = true then κ { val := .undef, wr := [(id, .map a b (delB kv key))] } else none
      | none => none
    | _, _, _ => none
  | _, _, _ => none
def coreT (X : TEnv U) (T : TS U) (i : Nat) (op : Op) (ty : Nat) (k : TEff U → Option R) : Option R :=
  match op with
  | .move x => opMove X T ty x k
  | .assign x => opAssign X T i ty x k
  | .pick c a b => opPick X T ty c a b k
  | .alloc t => opAlloc X T i t k
  | .box t x => opBox X T i t x k
  | .build t parts => opBuild X T t parts.toList k
  | .buildSlice t n parts => opBuildSlice X T i t n parts.toList k
  | .load t a => opLoad X T t a k
  | .store t a x => opStore X T i t a x k
  | .nilCheck x => opNilCheck X T x k
  | .binOp b t x y _ => opBin X T b t x y k
  | .unOp u _ x => opUn X T u x k
  | .convert s t x => opConvert X T i s t x k
  | .makeFunc (.func f) first caps => opMakeFunc X T f first.toList caps.toList k
  | .makeMap t none => opMakeMap X T i t k
  | .makeSlice t l c => opMakeSlice X T i t l c k
  | .slice t x lo hi mx => opSlice X T t x lo hi mx k
  | .fieldAddr t x f => opFieldAddr X T t x f k
  | .field t x f => opField X T t x f k
  | .indexAddr t x ix => opIndexAddr X T t x ix k
  | .index t x ix => opIndex X T t x ix k
  | .lookup t m q ok => opLookup X T t m q ok k
  | .mapUpdate t m q v => opMapUpdate X T t m q v k
  | .insert t m q v => opMapUpdate X T t m q v k
  | .range t x => opRange X T i t x k
  | .next it true => opNext X T it k
  | .entry it => opEntry X T it k
  | .extract x ix => opExtract X T x ix k
  | .call { callee := .builtin b, args, argTypes } => match b, args.toList, argTypes.toList with
    | .len, [x], [t] => opLen X T t x k
    | .append, [s, x], [t, u] => opAppend X T i t u s x k
    | .copy, [d, s], [t, u] => opCopy X T t u d s k
    | .max, xs, ts => opMM X T true xs ts k
    | .min, xs, ts => opMM X T false xs ts k
    | .delete, [m, q], [t, u] => opDelete X T t u m q k
    | _, _, _ => none
  | _ => none
end
end Eng
namespace Eng
open Go
section
variable {U : Univ} {R : Type} {X : TEnv U} {T : TS U} {i ty : Nat} {k : TEff U → Option R} {r : R}
def Snd (X : TEnv U) (T : TS U) (i : Nat) (op : Op) (ty : Nat) (k : TEff U → Option R) (r : R) : Prop :=
  ∃ e cs, core X.E T.ep i op ty T.enc.slots T.enc.objs = some (e.enc cs) ∧ (∀ q ∈ cs, q = true) ∧ EInv T i e ∧ k e = some r
theorem chkL_some : ∀ {cs : List Bool} {k : Option R}, chkL cs k = some r → (∀ q ∈ cs, q = true) ∧ k = some r
  | [], k, h => ⟨by simp, h⟩
  | b :: cs, k, h => by
    obtain ⟨h1, h2⟩ := chk_some h
    obtain ⟨h3, h4⟩ := chkL_some h2
    exact ⟨fun q hq => by rcases List.mem_cons.1 hq with rfl | hq; (· exact h1); exact h3 q hq, h4⟩
theorem evT_inv (hT : T.Inv) {t : Nat} {x : Operand} {d : TV U} (h : evT X T.slots t x = some d) : d.inv T.objs := by
  have nil : ∀ d : TV U, d.fulls = [] → d.inv T.objs := fun d hd q hq => by rw [hd] at hq; simp at hq
  unfold evT at h
  split at h
  · simp only [Option.some.injEq] at h; subst h; exact hT.slots _
  · simp only [Option.some.injEq] at h; subst h; exact nil _ rfl
  · simp only [Option.some.injEq] at h; subst h; exact nil _ rfl
  · simp only [Option.some.injEq] at h; subst h; exact nil _ rfl
  · split at h
    · split at h
      · simp only [Option.some.injEq] at h; subst h; exact nil _ rfl
      · simp at h
    · simp at h
  · simp only [Option.some.injEq] at h; subst h; exact nil _ rfl
  · simp only [Option.some.injEq] at h; subst h; exact nil _ rfl
  · split at h
    · split at h
      · simp only [Option.some.injEq] at h; subst h; exact nil _ rfl
      · simp at h
    · simp at h
  · simp only [Option.some.injEq] at h; subst h; exact nil _ rfl
  · split at h
    · simp only [Option.some.injEq] at h; subst h; exact nil _ rfl
    · simp at h
  · simp at h
theorem evT_ev (hX : TOk X) {t : Nat} {x : Operand} {d : TV U} (h : evT X T.slots t x = some d) : ev X.E T.enc.slots t x = d.enc := evT_enc hX h
theorem enc_obj {id : Id} {o : TO U} (h : T.objs id = some o) : T.enc.objs id = some o.enc := by simp [TS.enc, oenc, h]
theorem inv_v {lk : Id → Option (TO U)} (t : Ty) (x : El U.car t) : (TV.v t x : TV U).inv lk := fun q hq => by simp [TV.fulls] at hq
theorem inv_nil {lk : Id → Option (TO U)} {d : TV U} (h : d.fulls = []) : d.inv lk := fun q hq => by rw [h] at hq; simp at hq
theorem inv_cells {lk : Id → Option (TO U)} {d : TV U} (h : d.inv lk) : ∀ c ∈ d.cells, c.inv lk := fun c hc q hq => h q (cells_fulls ⟨c, hc, hq⟩)
theorem inv_mkAgg {lk : Id → Option (TO U)} {n : Option Nat} {cs : List (TV U)} (h : ∀ c ∈ cs, c.inv lk) : (mkAggT n cs).inv lk := fun q hq => by
  obtain ⟨d, hd, hq⟩ := mkAggT_fulls n cs hq
  exact h d hd q hq
theorem encBox (cs : List (TV U)) : (TO.box cs).enc = .box (TV.encs cs) := rfl
theorem encArr (t : Ty) (xs : List (El U.car t)) (fix : Bool) : (TO.arr t xs fix : TO U).enc = .arr (U.tsize t) (xs.map (U.encE t)) fix := rfl
theorem encMapO (a b : Ty) (kv : List (El U.car a × El U.car b)) : (TO.map a b kv : TO U).enc = .map a.td (kv.map fun e => (U.encE a e.1, U.encE b e.2)) := rfl
theorem encSit (s : List UInt8) (p : Nat) : (TO.sit s p : TO U).enc = .sit s p := rfl
theorem encMit (a b : Ty) (kv : List (El U.car a × El U.car b)) (c : Option (El U.car a × El U.car b)) : (TO.mit a b kv c : TO U).enc = .mit (kv.map fun e => (U.encE a e.1, U.encE b e.2)) (c.map fun e => (U.encE a e.1, U.encE b e.2)) := rfl
theorem encGone : (TO.gone : TO U).enc = .gone := rfl
theorem fnD_cases (f : Nat) (a b : List D) : (∃ x y, fnD f a b = .p (.fn f x y)) ∨ fnD f a b = .fn f a b := by
  unfold fnD; split
  · exact .inl ⟨_, _, rfl⟩
  · exact .inr rfl
theorem snd_move (hX : TOk X) (hT : T.Inv) {x : Operand} (h : opMove X T ty x k = some r) : Snd X T i (.move x) ty k r := by
  unfold opMove at h
  split at h
  · rename_i d hd
    exact ⟨_, [], by simp only [core, evT_ev hX hd, TEff.enc, List.map_nil], by simp, EInv.pure (evT_inv hT hd), h⟩
  · simp at h
theorem snd_assign (hX : TOk X) (hT : T.Inv) {x : Operand} (h : opAssign X T i ty x k = some r) : Snd X T i (.assign x) ty k r := by
  unfold opAssign at h
  split at h
  · rename_i t hd
    refine ⟨_, [], ?_, by simp, ?_, h⟩
    · simp only [core, evT_ev hX hd, TEff.enc, TV.enc, List.map_nil, List.map_cons, encBox, encArr, encMapO, encSit, encMit, encGone]
    · refine ⟨by simp, fun _ q hq => ?_, fun _ o ho => ?_⟩
      · simp only [TV.fulls, List.mem_singleton] at hq; subst hq
        refine ⟨.arr t [] false, by simp [lkA, TS.objL, upd], fun t' xs fix he => ?_⟩
        cases he; rfl
      · rcases ho with ⟨k', hk⟩ | ⟨id, hk⟩
        · simp only [List.mem_singleton, Prod.mk.injEq] at hk; obtain ⟨_, rfl⟩ := hk; trivial
        · simp at hk
  · rename_i d hne hd
    refine ⟨_, [], ?_, by simp, EInv.pure (evT_inv hT hd), h⟩
    simp only [core, evT_ev hX hd]
    split
    · rename_i sz he
      exfalso
      cases d <;> simp only [TV.enc, reduceCtorEq] at he
      · exact hne _ rfl
      · unfold D.mkAgg at he; split at he <;> simp at he
      · unfold fnD at he; split at he <;> simp at he
    · rfl
  · simp at h
theorem snd_pick (hX : TOk X) (hT : T.Inv) {c x y : Operand} (h : opPick X T ty c x y k = some r) : Snd X T i (.pick c x y) ty k r := by
  unfold opPick at h
  split at h
  · rename_i b u v hb hu hv
    cases b
    · exact ⟨_, [], by simp only [core, evT_ev hX hb, evT_ev hX hu, evT_ev hX hv, TV.enc, Univ.encE, TEff.enc, List.map_nil]; rfl, by simp, EInv.pure (evT_inv hT hv), h⟩
    · exact ⟨_, [], by simp only [core, evT_ev hX hb, evT_ev hX hu, evT_ev hX hv, TV.enc, Univ.encE, TEff.enc, List.map_nil]; rfl, by simp, EInv.pure (evT_inv hT hu), h⟩
  · simp at h
theorem virtT_enc (ep i : Nat) : ∀ (k : Nat) (ds : List (TV U)), TV.encs (virtT ep i k ds) = virt ep i k (TV.encs ds)
  | k, [] => rfl
  | k, d :: r => by
    cases d <;> simp only [virtT, TV.encs, TV.enc, virt, virtT_enc ep i (k + 1) r]
    · unfold D.mkAgg; split <;> simp only [virt]
    · unfold fnD; split <;> simp only [virt]
theorem virtNew_other {k : Nat} {d : D} {r : List D} (h : ∀ sz, d ≠ .nils sz) : virtNew k (d :: r) = virtNew (k + 1) r := by
  cases d <;> first | rfl | exact absurd rfl (h _)
theorem virtNewT_enc : ∀ (k : Nat) (ds : List (TV U)), (virtNewT k ds).map (fun x => (x.1, x.2.enc)) = virtNew k (TV.encs ds)
  | k, [] => rfl
  | k, d :: r => by
    have ih := virtNewT_enc (k + 1) r
    cases d
    case nils t => rw [virtNewT, List.map_cons, ih]; rfl
    all_goals
      rw [virtNewT, ih, TV.encs, virtNew_other]
      · intro sz hq
        simp only [TV.enc, reduceCtorEq] at hq <;> first | (unfold D.mkAgg at hq; split at hq <;> simp at hq) | (unfold fnD at hq; split at hq <;> simp at hq)
      all_goals (intros; simp_all)
theorem virtNewT_mem : ∀ (k : Nat) (ds : List (TV U)) (j : Nat) (o : TO U), (j, o) ∈ virtNewT k ds → k ≤ j ∧ ∃ t, o = .arr t [] false
  | k, [], j, o, h => by simp [virtNewT] at h
  | k, d :: r, j, o, h => by
    cases d
    case nils t =>
      simp only [virtNewT, List.mem_cons, Prod.mk.injEq] at h
      rcases h with ⟨rfl, rfl⟩ | h
      · exact ⟨Nat.le_refl _, t, rfl⟩
      · have := virtNewT_mem (k + 1) r j o h; exact ⟨by omega, this.2⟩
    all_goals
      simp only [virtNewT] at h
      have := virtNewT_mem (k + 1) r j o h; exact ⟨by omega, this.2⟩
theorem virtT_mem (ep i : Nat) : ∀ (k : Nat) (ds : List (TV U)) (d : TV U), d ∈ virtT ep i k ds → d ∈ ds ∨ ∃ j t, d = .full (ep, i, j) 0 ∧ (j, TO.arr t [] false) ∈ virtNewT k ds
  | k, [], d, h => by simp [virtT] at h
  | k, x :: r, d, h => by
    cases x
    case nils t =>
      simp only [virtT, List.mem_cons] at h
      rcases h with rfl | h
      · exact .inr ⟨k, t, rfl, by simp [virtNewT]⟩
      · rcases virtT_mem ep i (k + 1) r d h with h | ⟨j, t', h1, h2⟩
        · exact .inl (List.mem_cons_of_mem _ h)
        · exact .inr ⟨j, t', h1, by simp [virtNewT, h2]⟩
    all_goals
      simp only [virtT, List.mem_cons] at h
      rcases h with rfl | h
      · exact .inl List.mem_cons_self
      · rcases virtT_mem ep i (k + 1) r d h with h | ⟨j, t', h1, h2⟩
        · exact .inl (List.mem_cons_of_mem _ h)
        · exact .inr ⟨j, t', h1, by simp only [virtNewT]; exact h2⟩
theorem objL_zero : ∀ (l : List (Id × TO U)) (T : TS U) (id : Id), (∃ o, (id, o) ∈ l) → (∀ o, (id, o) ∈ l → ∀ t xs fix, o = .arr t xs fix → xs.length = 0) → lenIs (T.objL l).objs (id, 0)
  | [], T, id, h, _ => by simp at h
  | (a, u) :: l, T, id, h, hz => by
    simp only [TS.objL]
    by_cases hm : ∃ o, (id, o) ∈ l
    · exact objL_zero l _ id hm fun o ho => hz o (List.mem_cons_of_mem _ ho)
    · obtain ⟨o, ho⟩ := h
      rcases List.mem_cons.1 ho with ho | ho
      · simp only [Prod.mk.injEq] at ho
        obtain ⟨rfl, rfl⟩ := ho
        have key : ∀ (l : List (Id × TO U)) (T : TS U), (¬ ∃ o, (id, o) ∈ l) → (T.objL l).objs id = T.objs id := by
          intro l
          induction l with
          | nil => intro T _; rfl
          | cons x l ih =>
            obtain ⟨b, v⟩ := x
            intro T hn
            simp only [TS.objL]
            rw [ih _ (fun ⟨o, ho⟩ => hn ⟨o, List.mem_cons_of_mem _ ho⟩)]
            simp only [upd]
            split
            · rename_i he; subst he; exact absurd ⟨v, List.mem_cons_self⟩ hn
            · rfl
        refine ⟨o, ?_, fun t xs fix he => hz o List.mem_cons_self t xs fix he⟩
        rw [key l _ hm]; simp [upd]
      · exact absurd ⟨o, ho⟩ hm
theorem einv_virt (hT : T.Inv) {k0 : Nat} {ds : List (TV U)} (hds : ∀ d ∈ ds, d.inv T.objs) {e : TEff U} (hval : e.val.fulls = []) (hwr : ∀ id o, (id, o) ∈ e.wr → ∃ cs, o = .box cs ∧ ∀ d ∈ cs, d ∈ virtT T.ep i k0 ds ∨ d.inv T.objs)
    (hnew : ∀ j o, (j, o) ∈ e.new → (∃ cs, o = .box cs ∧ ∀ d ∈ cs, d ∈ virtT T.ep i k0 ds ∨ d.inv T.objs) ∨ (j, o) ∈ virtNewT k0 ds) (hin : ∀ j o, (j, o) ∈ virtNewT k0 ds → (j, o) ∈ e.new) (h0 : ∀ j o, (j, o) ∈ e.new → ∀ o', (j, o') ∈ virtNewT k0 ds → ∃ t, o = .arr t [] false) : EInv T i e := by
  have hw : ∀ id o, (id, o) ∈ e.wr → lenKeep (T.objs id) o := fun id o hm t xs fix he => by
    obtain ⟨cs, rfl, _⟩ := hwr id o hm; simp at he
  have box : fresh T i e = true → ∀ d, d ∈ virtT T.ep i k0 ds ∨ d.inv T.objs → d.inv (lkA T i e) := fun hf d hd => by
    rcases hd with hd | hd
    · rcases virtT_mem _ _ _ _ _ hd with hd | ⟨j, t, rfl, hm⟩
      · exact TV.inv_old hf hw (hds d hd)
      · intro q hq
        simp only [TV.fulls, List.mem_singleton] at hq; subst hq
        refine objL_zero _ _ _ ⟨.arr t [] false, List.mem_map.2 ⟨_, hin _ _ hm, rfl⟩⟩ fun o ho t' xs fix he => ?_
        obtain ⟨x, hx, hq⟩ := List.mem_map.1 ho
        simp only [Prod.mk.injEq, true_and] at hq
        obtain ⟨rfl, rfl⟩ := hq
        obtain ⟨t2, h2⟩ := h0 _ _ hx _ hm
        rw [h2] at he; cases he; rfl
    · exact TV.inv_old hf hw hd
  refine ⟨hw, fun _ => inv_nil hval, fun hf o ho => ?_⟩
  rcases ho with ⟨j, hm⟩ | ⟨id, hm⟩
  · rcases hnew j o hm with ⟨cs, rfl, hc⟩ | hm
    · exact fun d hd => box hf d (hc d hd)
    · obtain ⟨_, t, rfl⟩ := virtNewT_mem _ _ _ _ hm; trivial
  · obtain ⟨cs, rfl, hc⟩ := hwr id o hm
    exact fun d hd => box hf d (hc d hd)
theorem einv_box (hT : T.Inv) {ds : List (TV U)} (hds : ∀ d ∈ ds, d.inv T.objs) : EInv T i (boxEff T i ds) := by
  refine einv_virt (k0 := 1) hT hds rfl (by simp [boxEff]) (fun j o hm => ?_) (fun j o hm => List.mem_cons_of_mem _ hm) (fun j o hm o' hm' => ?_)
  · rcases List.mem_cons.1 hm with hm | hm
    · simp only [Prod.mk.injEq] at hm; obtain ⟨rfl, rfl⟩ := hm; exact .inl ⟨_, rfl, fun d hd => .inl hd⟩
    · exact .inr hm
  · rcases List.mem_cons.1 hm with hm | hm
    · simp only [Prod.mk.injEq] at hm
      have := (virtNewT_mem _ _ _ _ hm').1
      omega
    · exact (virtNewT_mem _ _ _ _ hm).2
theorem boxEff_enc (T : TS U) (i : Nat) (ds : List (TV U)) : (boxEff T i ds).enc [] = { val := .ptr (T.ep, i, 0) 0 0, new := (0, .box (virt T.ep i 1 (TV.encs ds))) :: virtNew 1 (TV.encs ds) } := by
  simp only [boxEff, TEff.enc, TV.enc, List.map_cons, encBox, encArr, encMapO, encSit, encMit, encGone, virtT_enc, virtNewT_enc, List.map_nil]
theorem snd_alloc (hX : TOk X) (hT : T.Inv) {t : Nat} (h : opAlloc X T i t k = some r) : Snd X T i (.alloc t) ty k r := by
  unfold opAlloc at h
  split at h
  · rename_i e he
    refine ⟨_, [], ?_, by simp, einv_box hT (fun d hd => inv_nil (hX.inv t e he d hd)), h⟩
    rw [boxEff_enc]
    simp only [core, get_ty he, ← hX.zero t e he]
  · simp at h
theorem encs_length (ds : List (TV U)) : (TV.encs ds).length = ds.length := by rw [encs_map, List.length_map]
theorem snd_box (hU : UOk U) (hX : TOk X) (hT : T.Inv) {t : Nat} {x : Operand} (h : opBox X T i t x k = some r) : Snd X T i (.box t x) ty k r := by
  unfold opBox at h
  split at h
  · rename_i e d he hd
    split at h
    · rename_i hc
      refine ⟨_, [], ?_, by simp, einv_box hT (inv_cells (evT_inv hT hd)), h⟩
      rw [boxEff_enc]
      simp only [core, get_ty he, evT_ev hX hd, ← cells_enc hU, encs_length, hc.1, okv_enc' hc.2, and_self, if_true]
    · simp at h
  · simp at h
theorem splice_map {α β : Type} (f : α → β) (xs ys : List α) (j : Nat) : (splice xs j ys).map f = splice (xs.map f) j (ys.map f) := by
  simp only [splice, List.map_append, List.map_take, List.map_drop, List.length_map]
theorem encs_splice (xs ys : List (TV U)) (j : Nat) : TV.encs (splice xs j ys) = splice (TV.encs xs) j (TV.encs ys) := by
  simp only [encs_map, splice_map]
theorem encs_take (xs : List (TV U)) (n : Nat) : TV.encs (xs.take n) = (TV.encs xs).take n := by simp only [encs_map, List.map_take]
theorem encs_drop (xs : List (TV U)) (n : Nat) : TV.encs (xs.drop n) = (TV.encs xs).drop n := by simp only [encs_map, List.map_drop]
theorem splice_mem {α : Type} {xs ys : List α} {j : Nat} {a : α} (h : a ∈ splice xs j ys) : a ∈ xs ∨ a ∈ ys := by
  simp only [splice, List.mem_append] at h
  rcases h with (h | h) | h
  · exact .inl (List.mem_of_mem_take h)
  · exact .inr h
  · exact .inl (List.mem_of_mem_drop h)
theorem fillAtT_enc (hU : UOk U) (hX : TOk X) (hT : T.Inv) {e : TT U} : ∀ (parts : List (Nat × Operand)) (cs ds : List (TV U)), (∀ c ∈ cs, c.inv T.objs) → fillAtT X T.slots e parts cs = some ds →
    fillAt X.E T.enc.slots e.ti parts (TV.encs cs) = some (TV.encs ds) ∧ ∀ d ∈ ds, d.inv T.objs
  | [], cs, ds, hi, h => by simp only [fillAtT, Option.some.injEq] at h; subst h; exact ⟨rfl, hi⟩
  | (j, x) :: r, cs, ds, hi, h => by
    simp only [fillAtT] at h
    split at h
    · rename_i off t hp
      split at h
      · rename_i tp d htp hd
        split at h
        · rename_i hc
          have := fillAtT_enc hU hX hT r _ ds (fun c hcm => by rcases splice_mem hcm with hm | hm; (· exact hi c hm); exact inv_cells (evT_inv hT hd) c hm) h
          refine ⟨?_, this.2⟩
          rw [encs_splice] at this
          simp only [fillAt, hp, get_ty htp, evT_ev hX hd, ← cells_enc hU, encs_length, hc.1, okv_enc' hc.2.2, true_and, and_true]
          rw [if_pos (by rw [← hc.1]; exact hc.2.1)]
          exact this.1
        · simp at h
      · simp at h
    · simp at h
theorem snd_build (hU : UOk U) (hX : TOk X) (hT : T.Inv) {t : Nat} {parts : Array (Nat × Operand)} (h : opBuild X T t parts.toList k = some r) : Snd X T i (.build t parts) ty k r := by
  unfold opBuild at h
  split at h
  · rename_i e he
    split at h
    · rename_i hn
      split at h
      · rename_i cs hcs
        obtain ⟨q1, q2⟩ := fillAtT_enc hU hX hT _ _ _ (fun c hc => inv_nil (hX.inv t e he c hc)) hcs
        refine ⟨_, [], ?_, by simp, EInv.pure (inv_mkAgg q2), h⟩
        rw [hX.zero t e he] at q1
        simp only [core, get_ty he, hX.agg t e he, hn, if_true, q1, TEff.enc, mkAggT_enc hU, List.map_nil]
      · simp at h
    · simp at h
  · simp at h
theorem as_some {l : Lf U.car} {t : Ty} {x : El U.car t} (h : l.as t = some x) : l = ⟨t, x⟩ := by
  unfold Lf.as at h
  split at h
  · rename_i he
    obtain ⟨t', y⟩ := l
    dsimp only at he
    subst he
    simp only [Option.some.injEq] at h
    subst h; rfl
  · simp at h
theorem encL_cells_len (hU : UOk U) (l : Lf U.car) : (U.encL l).cells.length = U.tsize l.t := by
  simp only [Univ.encL, encE_cells hU, List.length_map, cellsE_len hU]
theorem fillElemsT_enc (hU : UOk U) (hX : TOk X) (hT : T.Inv) {t n : Nat} {e : TT U} : ∀ (parts : List (Nat × Operand)) (es es' : List (El U.car e.ty)), es.length = n → fillElemsT X T t e n parts es = some es' →
    fillElems X.E T.enc.slots T.enc.objs t e.ti parts (es.map (U.encE e.ty)) = some (es'.map (U.encE e.ty)) ∧ es'.length = n
  | [], es, es', hl, h => by simp only [fillElemsT, Option.some.injEq] at h; subst h; exact ⟨rfl, hl⟩
  | (j, x) :: r, es, es', hl, h => by
    simp only [fillElemsT] at h
    split at h
    · rename_i d hd
      split at h
      · rename_i l hlf
        split at h
        · rename_i y hy
          split at h
          · rename_i hc
            have := fillElemsT_enc hU hX hT r _ es' (by simpa using hl) h
            refine ⟨?_, this.2⟩
            have hl' := as_some hy
            have ht := lf_enc hU (evT_inv hT hd) hlf 7
            have hcl := encL_cells_len hU l
            rw [hl'] at ht hcl
            simp only [fillElems, evT_ev hX hd, depth, ht, Univ.encL] at hcl ⊢
            rw [if_pos ⟨by rw [hcl]; exact hc.1, by rw [List.length_map, hl]; exact hc.2⟩, ← List.map_set]
            exact this.1
          · simp at h
        · simp at h
      · simp at h
    · simp at h
theorem einv_own {t : Ty} {xs : List (El U.car t)} {n : Nat} {fix : Bool} {frz : List Id} {wr : List (Id × TO U)} (hn : xs.length = n) (hwr : ∀ id o, (id, o) ∈ wr → o = .gone) :
    EInv T i { val := .full (T.ep, i, 0) n, new := [(0, .arr t xs fix)], wr := wr, frz := frz } := by
  refine ⟨fun id o hm t' xs' fix' he => ?_, fun _ q hq => ?_, fun _ o ho => ?_⟩
  · rw [hwr id o hm] at he; simp at he
  · simp only [TV.fulls, List.mem_singleton] at hq; subst hq
    refine ⟨.arr t xs fix, ?_, fun t' xs' fix' he => ?_⟩
    · simp only [lkA, List.map_cons, List.map_nil, TS.objL, upd, if_true]
    · cases he; exact hn
  · rcases ho with ⟨j, hk⟩ | ⟨id, hk⟩
    · simp only [List.mem_singleton, Prod.mk.injEq] at hk; obtain ⟨_, rfl⟩ := hk; trivial
    · rw [hwr id o hk]; trivial
theorem snd_buildSlice (hU : UOk U) (hX : TOk X) (hT : T.Inv) {t n : Nat} {parts : Array (Nat × Operand)} (h : opBuildSlice X T i t n parts.toList k = some r) : Snd X T i (.buildSlice t n parts) ty k r := by
  unfold opBuildSlice at h
  split at h
  · rename_i e0 he0
    split at h
    · rename_i u hu
      split at h
      · rename_i e he
        split at h
        · rename_i z0 hz0
          split at h
          · rename_i z hz
            split at h
            · rename_i es hes
              split at h
              · rename_i hc
                obtain ⟨q1, q2⟩ := fillElemsT_enc hU hX hT _ _ _ (by simp) hes
                refine ⟨_, [], ?_, by simp, einv_own q2 (by simp), h⟩
                have hzp := hX.zl u e z0 he hz0
                rw [as_some hz] at hzp
                rw [List.map_replicate, show U.encE e.ty z = e.ti.zeroP from hzp] at q1
                have := get_ty he0
                obtain ⟨⟨d, a, b, c⟩, a', b', c', d'⟩ := e0
                dsimp only at hu; subst hu
                simp only [core, this, get_ty he, q1, hc.1, hc.2.1, and_self, if_true, TEff.enc, TV.enc, List.map_cons, List.map_nil, encBox, encArr, encMapO, encSit, encMit, encGone, hc.2.2]
              · simp at h
            · simp at h
          · simp at h
        · simp at h
      · simp at h
    · simp at h
  · simp at h
theorem loadT_enc (hU : UOk U) (hX : TOk X) {t : Nat} {e : TT U} (he : X.get t = some e) {cs : List (TV U)} {d : TV U} (h : loadT e cs = some d) : loadD e.ti (TV.encs cs) = some d.enc := by
  unfold loadT at h
  unfold loadD
  rw [hX.agg t e he]
  split at h
  · rename_i hn
    rw [if_pos hn]
    split at h
    · rename_i hl
      simp only [Option.some.injEq] at h; subst h
      rw [if_pos (by rw [encs_length]; exact hl), mkAggT_enc hU, encs_take]
    · simp at h
  · rename_i hn
    rw [if_neg hn]
    cases cs with
    | nil => simp at h
    | cons c r => simp only [List.head?_cons, Option.some.injEq] at h; subst h; rfl
theorem loadT_inv {lk : Id → Option (TO U)} {e : TT U} {cs : List (TV U)} {d : TV U} (hc : ∀ c ∈ cs, c.inv lk) (h : loadT e cs = some d) : d.inv lk := by
  unfold loadT at h
  split at h
  · split at h
    · simp only [Option.some.injEq] at h; subst h
      exact inv_mkAgg fun c hm => hc c (List.mem_of_mem_take hm)
    · simp at h
  · exact hc d (List.mem_of_mem_head? h)
theorem loadP_D (ti : TI) (ps : List P) : loadD ti (ps.map .p) = (loadP ti ps).map .p := by
  unfold loadD loadP
  split
  · rw [List.length_map]
    split
    · rw [← List.map_take, mkAgg_map]; rfl
    · rfl
  · cases ps <;> rfl
theorem load_leaves (hU : UOk U) (hX : TOk X) {t : Nat} {e : TT U} (he : X.get t = some e) {ls : List (Lf U.car)} {d : TV U} (h : loadT e (ls.map lv) = some d) : ∃ x, loadP e.ti (ls.map U.encL) = some x ∧ d.enc = .p x := by
  have := loadT_enc hU hX he h
  rw [encs_lv, loadP_D] at this
  cases hq : loadP e.ti (ls.map U.encL) with
  | none => rw [hq] at this; simp at this
  | some x => rw [hq] at this; simp only [Option.map_some, Option.some.injEq] at this; exact ⟨x, rfl, this.symm⟩
theorem getD_enc {t : Ty} {xs : List (El U.car t)} {n : Nat} {x : El U.car t} (h : xs[n]? = some x) : (xs.map (U.encE t)).getD n default = U.encE t x := by
  rw [List.getD_eq_getElem?_getD, List.getElem?_map, h]; rfl
theorem snd_load (hU : UOk U) (hX : TOk X) (hT : T.Inv) {t : Nat} {x : Operand} (h : opLoad X T t x k = some r) : Snd X T i (.load t x) ty k r := by
  unfold opLoad at h
  split at h
  · rename_i e cs he hd
    split at h
    · rename_i d hl
      obtain ⟨x', h1, h2⟩ := load_leaves hU hX he hl
      refine ⟨_, [], ?_, by simp, EInv.pure (loadT_inv (fun c hc => ?_) hl), h⟩
      · simp only [core, get_ty he, evT_ev hX hd, TV.enc, h1, TEff.enc, h2, List.map_nil]
      · obtain ⟨l, _, rfl⟩ := List.mem_map.1 hc; exact inv_v _ _
    · simp at h
  · rename_i e id i' j he hd
    split at h
    · rename_i cs ho
      split at h
      · rename_i h0
        subst h0
        split at h
        · rename_i d hl
          have := loadT_enc hU hX he hl
          rw [encs_drop] at this
          refine ⟨_, [], ?_, by simp, EInv.pure (loadT_inv (fun c hc => hT.objs id _ ho c (List.mem_of_mem_drop hc)) hl), h⟩
          simp only [core, get_ty he, evT_ev hX hd, TV.enc, enc_obj ho, encBox, encArr, encMapO, encSit, encMit, encGone, if_true, this, TEff.enc, List.map_nil]
        · simp at h
      · simp at h
    · rename_i u xs fix ho
      obtain ⟨y, hy, h⟩ := bind_some h
      split at h
      · rename_i d hl
        obtain ⟨x', h1, h2⟩ := load_leaves hU hX he hl
        refine ⟨_, [], ?_, by simp, EInv.pure (loadT_inv (fun c hc => ?_) hl), h⟩
        · rw [List.map_drop, ← encE_cells hU] at h1
          simp only [core, get_ty he, evT_ev hX hd, TV.enc, enc_obj ho, encBox, encArr, encMapO, encSit, encMit, encGone, getD_enc hy, h1, TEff.enc, h2, List.map_nil]
        · obtain ⟨l, _, rfl⟩ := List.mem_map.1 hc; exact inv_v _ _
      · simp at h
    · simp at h
  · simp at h
theorem put_whole {e x : P} {sz : Nat} (h : x.cells.length = sz) : e.put sz 0 x = x := by simp [P.put, h]
theorem snd_store (hU : UOk U) (hX : TOk X) (hT : T.Inv) {t : Nat} {a x : Operand} (h : opStore X T i t a x k = some r) : Snd X T i (.store t a x) ty k r := by
  unfold opStore at h
  split at h
  · rename_i e id i' j d he ha hd
    split at h
    · rename_i cs ho
      split at h
      · rename_i hc
        obtain ⟨rfl, h1, h2, h3⟩ := hc
        refine ⟨_, [], ?_, by simp, ?_, h⟩
        · simp only [core, get_ty he, evT_ev hX ha, evT_ev hX hd, TV.enc, enc_obj ho, encBox, encArr, encMapO, encSit, encMit, encGone, ← cells_enc hU, encs_length, h1, okv_enc' h3, true_and, and_true, TEff.enc, virtNewT_enc, List.map_cons, List.map_nil, encs_splice, virtT_enc]
          rw [if_pos (by rw [← h1]; exact h2)]
        · refine einv_virt (k0 := 0) hT (inv_cells (evT_inv hT hd)) rfl (fun id' o hm => ?_) (fun j' o hm => .inr hm) (fun _ _ hm => hm) (fun j' o hm _ _ => (virtNewT_mem _ _ _ _ hm).2)
          simp only [List.mem_singleton, Prod.mk.injEq] at hm
          obtain ⟨rfl, rfl⟩ := hm
          refine ⟨_, rfl, fun d' hd' => ?_⟩
          rcases splice_mem hd' with hm | hm
          · exact .inr (hT.objs _ _ ho d' hm)
          · exact .inl hm
      · simp at h
    · rename_i u xs fix ho
      split at h
      · rename_i l hl
        split at h
        · rename_i hc
          have ht := lf_enc hU (evT_inv hT hd) hl 7
          have hcl := encL_cells_len hU l
          have hset : ∀ y : El U.car u, U.encE u y = ((xs.map (U.encE u)).getD i' default).put (U.tsize u) j (U.encL l) → EInv T i { val := TV.undef, wr := [(id, .arr u (xs.set i' y) fix)], frz := d.enc.ids T.enc.objs depth } := fun y _ =>
            ⟨fun id' o hm t' xs' fix' he' => by
              simp only [List.mem_singleton, Prod.mk.injEq] at hm
              obtain ⟨rfl, rfl⟩ := hm
              cases he'
              exact ⟨_, _, _, ho, by simp⟩, fun _ => inv_nil rfl, fun _ o hm => by
              rcases hm with ⟨_, hm⟩ | ⟨_, hm⟩
              · simp at hm
              · simp only [List.mem_singleton, Prod.mk.injEq] at hm; obtain ⟨_, rfl⟩ := hm; trivial⟩
          have hcore : ∀ y : El U.car u, U.encE u y = ((xs.map (U.encE u)).getD i' default).put (U.tsize u) j (U.encL l) → core X.E T.ep i (.store t a x) ty T.enc.slots T.enc.objs = some (({ val := TV.undef, wr := [(id, .arr u (xs.set i' y) fix)], frz := d.enc.ids T.enc.objs depth } : TEff U).enc []) := fun y hy => by
            simp only [core, get_ty he, evT_ev hX ha, evT_ev hX hd, TV.enc, enc_obj ho, encBox, encArr, encMapO, encSit, encMit, encGone, depth, ht, hcl, hc.1, hc.2.1, hc.2.2, and_self, if_true, TEff.enc, List.map_nil, List.map_cons, List.map_set, hy]
          split at h
          · rename_i hw
            obtain ⟨rfl, hs⟩ := hw
            split at h
            · rename_i y hy
              have hyy := as_some hy
              have : U.encE u y = ((xs.map (U.encE u)).getD i' default).put (U.tsize u) 0 (U.encL l) := by
                rw [put_whole (by rw [hcl, hs]), hyy]; rfl
              exact ⟨_, [], hcore y this, by simp, hset y this, h⟩
            · simp at h
          · rename_i hw
            obtain ⟨z, hz, h⟩ := bind_some h
            split at h
            · rename_i y hy
              have : U.encE u y = ((xs.map (U.encE u)).getD i' default).put (U.tsize u) j (U.encL l) := by
                rw [getD_enc hz]
                have hcy := ofE_cells hU hy
                have e1 := encE_cells hU u y
                rw [hcy, splice_map, ← encE_cells hU, ← encE_cells hU] at e1
                unfold P.put
                rw [if_neg (by rw [hcl]; exact hw)]
                cases u with
                | st n =>
                  simp only [Univ.encE, hU.enc_cells, P.cells] at e1 ⊢
                  rw [e1]; rfl
                | _ =>
                  exfalso
                  have : U.tsize l.t = 1 ∧ j = 0 := by
                    have h1 := hc.1; have h2 := hc.2.1; have h3 := hc.2.2
                    simp only [Univ.tsize] at h2
                    constructor <;> omega
                  exact hw ⟨this.2, this.1⟩
              exact ⟨_, [], hcore y this, by simp, hset y this, h⟩
            · simp at h
        · simp at h
      · simp at h
    · simp at h
  · simp at h
theorem snd_nilCheck (hX : TOk X) (hT : T.Inv) {x : Operand} (h : opNilCheck X T x k = some r) : Snd X T i (.nilCheck x) ty k r := by
  unfold opNilCheck at h
  split at h
  · rename_i cs hd
    exact ⟨_, [], by simp only [core, evT_ev hX hd, TV.enc, TEff.enc, List.map_nil], by simp, EInv.pure (inv_nil rfl), h⟩
  · rename_i id a b hd
    exact ⟨_, [], by simp only [core, evT_ev hX hd, TV.enc, TEff.enc, List.map_nil], by simp, EInv.pure (inv_nil rfl), h⟩
  · rename_i f a b hd
    refine ⟨_, [], ?_, by simp, EInv.pure (evT_inv hT hd), h⟩
    simp only [core, evT_ev hX hd, TV.enc, TEff.enc, List.map_nil]
    rcases fnD_cases f (TV.encs a) (TV.encs b) with ⟨u, v, hq⟩ | hq <;> rw [hq]
  · simp at h
end
end Eng
namespace Eng
open Go
section
variable {U : Univ} {R : Type} {X : TEnv U} {T : TS U} {i ty : Nat} {k : TEff U → Option R} {r : R}
theorem one_true {b : Bool} (h : b = true) : ∀ q ∈ [b], q = true := fun q hq => by rw [List.mem_singleton] at hq; rw [hq]; exact h
theorem decP_enc {p : P} {d : TV U} (h : decP p = some d) : d.enc = .p p ∧ d.fulls = [] := by
  unfold decP at h
  split at h <;> first | (simp only [Option.some.injEq] at h; subst h; exact ⟨rfl, rfl⟩) | simp at h
theorem leafP_enc {d : TV U} {p : P} (h : leafP d = some p) : d.enc = .p p ∧ (∀ cs, p ≠ .agg cs) := by
  unfold leafP at h
  split at h <;> first | (simp only [Option.some.injEq] at h; subst h; exact ⟨rfl, by simp⟩) | simp at h
theorem aggP_enc (hU : UOk U) {d : TV U} {ps : List P} (h : aggP d = some ps) : d.enc = .p (.agg ps) := by
  unfold aggP at h
  split at h
  · simp only [Option.some.injEq] at h; subst h; simp only [TV.enc, Univ.encE, hU.enc_cells]
  · split at h
    · rename_i ls hls
      simp only [Option.some.injEq] at h; subst h
      rw [allM_leaf hls, TV.enc, encs_lv, mkAgg_map]
    · simp at h
  · simp at h
theorem snd_bin (hU : UOk U) (hX : TOk X) (hT : T.Inv) {b : BinOp} {t u0 : Nat} {x y : Operand} (h : opBin X T b t x y k = some r) : Snd X T i (.binOp b t x y u0) ty k r := by
  unfold opBin at h
  split at h
  · rename_i hn
    unfold opNil at h
    split at h
    · rename_i e d he hd
      split at h
      · rename_i z hz
        split at h
        · refine ⟨_, [], ?_, by simp, EInv.pure (inv_v _ _), h⟩
          simp only [core, hn, if_true, get_td he, evT_ev hX hd, hz, TEff.enc, TV.enc, Univ.encE, List.map_nil]
        · refine ⟨_, [], ?_, by simp, EInv.pure (inv_v _ _), h⟩
          simp only [core, hn, if_true, get_td he, evT_ev hX hd, hz, D.notb, TEff.enc, TV.enc, Univ.encE, List.map_nil]
        · simp at h
      · simp at h
    · simp at h
  · rename_i hn
    have hn' : Operand.isNil y = false := by simpa using hn
    split at h
    · rename_i u v hu hv
      split at h
      · rename_i e z he hz
        split at h
        · rename_i d hd hz'
          obtain ⟨q1, q2⟩ := decP_enc hz'
          refine ⟨_, [], ?_, by simp, EInv.pure (inv_nil q2), h⟩
          simp only [core, hn', Bool.false_eq_true, if_false, evT_ev hX hu, evT_ev hX hv, TV.enc, Univ.encE, get_td he, hd, hz, TEff.enc, q1, List.map_nil]
        · simp at h
      · simp at h
    · rename_i d d' hne hu hv
      split at h
      · rename_i us vs hus hvs
        split at h
        · rename_i z hz
          split at h
          · rename_i dz hdz
            obtain ⟨q1, q2⟩ := decP_enc hdz
            refine ⟨_, [], ?_, by simp, EInv.pure (inv_nil q2), h⟩
            simp only [core, hn', Bool.false_eq_true, if_false, evT_ev hX hu, evT_ev hX hv, aggP_enc hU hus, aggP_enc hU hvs, hz, TEff.enc, q1, List.map_nil]
          · simp at h
        · simp at h
      · split at h
        · rename_i p q hp hq
          split at h
          · rename_i z c hz
            split at h
            · rename_i dz hdz
              obtain ⟨q1, q2⟩ := decP_enc hdz
              obtain ⟨hc, h⟩ := chkL_some h
              refine ⟨_, c, ?_, hc, EInv.pure (inv_nil q2), h⟩
              obtain ⟨e1, e2⟩ := leafP_enc hp
              obtain ⟨e3, e4⟩ := leafP_enc hq
              simp only [core, hn', Bool.false_eq_true, if_false, evT_ev hX hu, evT_ev hX hv, e1, e3]
              split
              · rename_i a1 a2 e5 e6
                cases e5; cases e6
                exfalso
                unfold leafP at hp hq
                split at hp <;> simp at hp
                split at hq <;> simp at hq
                subst hp hq
                exact hne _ _ rfl rfl
              · rename_i a1 a2 e5 e6; cases e5; exact absurd rfl (e2 _)
              · rename_i a1 a2 e5 e6 e7 e8
                cases e7; cases e8
                simp only [hz, TEff.enc, q1, List.map_nil]
              · rename_i h7 h8 h9; exact (h9 p q rfl rfl).elim
            · simp at h
          · simp at h
        · simp at h
    · simp at h
theorem snd_un (hX : TOk X) (hT : T.Inv) {u : UnOp} {t : Nat} {x : Operand} (h : opUn X T u x k = some r) : Snd X T i (.unOp u t x) ty k r := by
  unfold opUn at h
  split at h
  · rename_i d hd
    split at h
    · rename_i v hv
      split at h
      · rename_i z c hz
        split at h
        · rename_i dz hdz
          obtain ⟨q1, q2⟩ := decP_enc hdz
          obtain ⟨hc, h⟩ := chkL_some h
          refine ⟨_, c, ?_, hc, EInv.pure (inv_nil q2), h⟩
          simp only [core, evT_ev hX hd, (leafP_enc hv).1, hz, TEff.enc, q1, List.map_nil]
        · simp at h
      · simp at h
    · simp at h
  · simp at h
theorem snd_convert (hX : TOk X) (hT : T.Inv) {s t : Nat} {x : Operand} (h : opConvert X T i s t x k = some r) : Snd X T i (.convert s t x) ty k r := by
  unfold opConvert at h
  split at h
  · rename_i es et d hes het hd
    split at h
    · rename_i k1 k2 k3 n h1 h2
      refine ⟨_, [], ?_, by simp, EInv.pure (inv_v _ _), h⟩
      simp only [core, convertD, get_td hes, get_td het, evT_ev hX hd, h1, h2, TV.enc, Univ.encE, TEff.enc, List.map_nil]
    · rename_i str h1 h2
      refine ⟨_, [], ?_, by simp, EInv.pure (inv_v _ _), h⟩
      simp only [core, convertD, get_td hes, get_td het, evT_ev hX hd, h1, h2, TV.enc, Univ.encE, TEff.enc, List.map_nil]
    · rename_i u str h1 h2
      split at h
      · rename_i eu heu
        split at h
        · rename_i h3
          obtain ⟨hc, h⟩ := chk_some h
          refine ⟨_, [decide (str.length ≤ 281474976710656)], ?_, one_true hc, einv_own (by simp) (by simp), h⟩
          simp only [core, convertD, get_td hes, get_td het, get_td heu, evT_ev hX hd, h1, h2, h3, TV.enc, Univ.encE, TEff.enc, List.map_nil, List.map_cons, encArr, Univ.tsize, bytesP, List.map_map]
          rfl
        · simp at h
      · simp at h
    · rename_i u d' h1 h2
      split at h
      · rename_i eu l heu hl
        split at h
        · rename_i xs h3 hxs
          have hl' := as_some hxs
          refine ⟨_, [true], ?_, by simp, EInv.pure (inv_v _ _), h⟩
          have ht := lf1_enc (evT_inv hT hd) hl 1
          rw [hl'] at ht
          simp only [core, convertD, get_td hes, get_td het, get_td heu, evT_ev hX hd, h1, h2, h3, ht, Univ.encL, Univ.encE, TEff.enc, TV.enc, List.map_nil, List.map_map]
          have : (List.map (fun x => P.int IntKind.u8 x) xs).all P.isU8 = true := by simp [P.isU8]
          rw [this]
          rfl
        · simp at h
      · simp at h
    · simp at h
  · simp at h
theorem evTs_ev (hX : TOk X) : ∀ {xs : List Operand} {ds : List (TV U)}, evTs X T.slots xs = some ds → xs.map (ev X.E T.enc.slots 0) = TV.encs ds
  | [], ds, h => by simp [evTs, allM] at h; subst h; rfl
  | x :: xs, ds, h => by
    simp only [evTs, allM] at h
    split at h
    · rename_i d ds' h1 h2
      simp only [Option.some.injEq] at h; subst h
      simp only [List.map_cons, TV.encs, evT_ev hX h1, evTs_ev hX h2]
    · simp at h
theorem evTs_inv (hT : T.Inv) : ∀ {xs : List Operand} {ds : List (TV U)}, evTs X T.slots xs = some ds → ∀ d ∈ ds, d.inv T.objs
  | [], ds, h => by simp [evTs, allM] at h; subst h; simp
  | x :: xs, ds, h => by
    simp only [evTs, allM] at h
    split at h
    · rename_i d ds' h1 h2
      simp only [Option.some.injEq] at h; subst h
      intro a ha
      rcases List.mem_cons.1 ha with rfl | ha
      · exact evT_inv hT h1
      · exact evTs_inv hT h2 a ha
    · simp at h
theorem snd_makeFunc (hX : TOk X) (hT : T.Inv) {f : Nat} {a b : Array Operand} (h : opMakeFunc X T f a.toList b.toList k = some r) : Snd X T i (.makeFunc (.func f) a b) ty k r := by
  unfold opMakeFunc at h
  split at h
  · rename_i as bs ha hb
    refine ⟨_, [], ?_, by simp, EInv.pure ?_, h⟩
    · simp only [core, evTs_ev hX ha, evTs_ev hX hb, TEff.enc, TV.enc, List.map_nil]
      rfl
    · intro q hq
      simp only [TV.fulls, List.mem_append] at hq
      rcases hq with hq | hq
      · obtain ⟨d, hd, hq⟩ := fullsL_mem.1 hq; exact evTs_inv hT ha d hd q hq
      · obtain ⟨d, hd, hq⟩ := fullsL_mem.1 hq; exact evTs_inv hT hb d hd q hq
  · simp at h
theorem einv_new {d : TV U} {o : TO U} {frz : List Id} (hd : d.fulls = []) (ho : ∀ lk, o.inv lk) : EInv T i { val := d, new := [(0, o)], frz := frz } :=
  ⟨by simp, fun _ => inv_nil hd, fun _ o' hm => by
    rcases hm with ⟨j, hm⟩ | ⟨id, hm⟩
    · simp only [List.mem_singleton, Prod.mk.injEq] at hm; obtain ⟨_, rfl⟩ := hm; exact ho _
    · simp at hm⟩
theorem einv_wr {d : TV U} {id : Id} {o : TO U} {frz : List Id} (hd : d.fulls = []) (hk : lenKeep (T.objs id) o) (ho : ∀ lk, o.inv lk) : EInv T i { val := d, wr := [(id, o)], frz := frz } :=
  ⟨fun id' o' hm => by simp only [List.mem_singleton, Prod.mk.injEq] at hm; obtain ⟨rfl, rfl⟩ := hm; exact hk, fun _ => inv_nil hd, fun _ o' hm => by
    rcases hm with ⟨j, hm⟩ | ⟨id, hm⟩
    · simp at hm
    · simp only [List.mem_singleton, Prod.mk.injEq] at hm; obtain ⟨_, rfl⟩ := hm; exact ho _⟩
theorem snd_makeMap (hX : TOk X) (hT : T.Inv) {t : Nat} (h : opMakeMap X T i t k = some r) : Snd X T i (.makeMap t none) ty k r := by
  unfold opMakeMap at h
  split at h
  · rename_i e he
    split at h
    · rename_i kt vt hty
      refine ⟨_, [], ?_, by simp, einv_new rfl (fun _ => by trivial), h⟩
      simp only [core, hX.key t e kt vt he hty, TEff.enc, TV.enc, List.map_cons, List.map_nil, encMapO, TS.enc]
    · simp at h
  · simp at h
theorem snd_makeSlice (hX : TOk X) (hT : T.Inv) {t : Nat} {l c : Operand} (h : opMakeSlice X T i t l c k = some r) : Snd X T i (.makeSlice t l c) ty k r := by
  unfold opMakeSlice at h
  split at h
  · rename_i e k1 a k2 b he hl hc
    split at h
    · rename_i z0 hz0
      split at h
      · rename_i z hz
        split at h
        · rename_i hs
          obtain ⟨hcond, h⟩ := chk_some h
          refine ⟨_, [_], ?_, one_true hcond, einv_own (by simp) (by simp), h⟩
          have hget : ∃ u, X.get u = some e := by
            unfold TEnv.elem at he
            split at he
            · split at he
              · exact ⟨_, he⟩
              · simp at he
            · simp at he
          obtain ⟨u, hu⟩ := hget
          have hzp := hX.zl u e z0 hu hz0
          rw [as_some hz] at hzp
          simp only [core, elem_elem he, evT_ev hX hl, evT_ev hX hc, TV.enc, Univ.encE, TEff.enc, List.map_cons, List.map_nil, encArr, List.map_replicate, hs]
          rw [show U.encE e.ty z = e.ti.zeroP from hzp]
        · simp at h
      · simp at h
    · simp at h
  · simp at h
theorem intT_opt (hX : TOk X) {x : Option Operand} {a : Option Int} (h : intT X T.slots x = some a) : optInt X.E T.enc.slots x = some a := by
  unfold intT at h
  split at h
  · simp only [Option.some.injEq] at h; subst h; rfl
  · rename_i x'
    split at h
    · rename_i k' n hn
      simp only [Option.some.injEq] at h; subst h
      simp only [optInt, evT_ev hX hn, TV.enc, Univ.encE]
    · simp at h
theorem cut_map {α β : Type} (f : α → β) (xs : List α) (lo hi : Option Int) : (cut xs lo hi).map f = cut (xs.map f) lo hi := by
  unfold cut
  split <;> simp
theorem cut_eq {α : Type} (xs : List α) (lo hi : Option Int) (n : Nat) (hn : n = xs.length) : cut xs lo hi = (xs.take (hi.getD n).toNat).drop (lo.getD 0).toNat := by
  subst hn
  unfold cut
  split <;> simp
theorem full_len (hT : T.Inv) {t : Nat} {x : Operand} {id : Id} {n : Nat} (hd : evT X T.slots t x = some (.full id n)) {u : Ty} {xs : List (El U.car u)} {fix : Bool} (ho : T.objs id = some (.arr u xs fix)) : n = xs.length := by
  obtain ⟨o, h1, h2⟩ := evT_inv hT hd (id, n) (by simp [TV.fulls])
  dsimp only at h1
  rw [ho, Option.some.injEq] at h1
  exact (h2 u xs fix h1.symm).symm
theorem sliceT_snd (hT : T.Inv) {sz : Option Nat} {d : TV U} {lo hi mx : Option Int} (hd : d.inv T.objs) (h : sliceT T sz d lo hi mx k = some r) :
    ∃ e cs, sliceD T.enc.objs sz d.enc lo hi mx = some (e.enc cs) ∧ (∀ q ∈ cs, q = true) ∧ EInv T i e ∧ k e = some r := by
  unfold sliceT at h
  split at h
  · rename_i s
    split at h
    · obtain ⟨hc, h⟩ := chk_some h
      refine ⟨_, [_], ?_, one_true hc, EInv.pure (inv_v _ _), h⟩
      simp only [sliceD, TV.enc, Univ.encE, TEff.enc, within, cut_eq s lo hi s.length rfl, List.map_nil]
    · simp at h
  · rename_i sz t xs
    split at h
    · rename_i hs
      split at h
      · obtain ⟨hc, h⟩ := chk_some h
        refine ⟨_, [_], ?_, one_true hc, EInv.pure (inv_v _ _), h⟩
        simp only [sliceD, TV.enc, Univ.encE, hs, if_true, List.length_map, TEff.enc, within, cut_map, cut_eq (xs.map (U.encE t)) lo hi xs.length (by simp), List.map_nil]
      · rename_i m hh
        obtain ⟨hc, h⟩ := chk_some h
        refine ⟨_, [_], ?_, one_true hc, EInv.pure (inv_nil rfl), h⟩
        simp only [sliceD, TV.enc, Univ.encE, hs, if_true, List.length_map, TEff.enc, cut_map, cut_eq (xs.map (U.encE t)) lo (some hh) xs.length (by simp), Option.getD_some, List.map_nil]
      · simp at h
    · simp at h
  · rename_i sz id n
    split at h
    · rename_i t xs fix ho
      obtain ⟨o, h1, h2⟩ := hd (id, n) (by simp [TV.fulls])
      dsimp only at h1
      have hln : xs.length = n := h2 t xs fix (by rw [ho, Option.some.injEq] at h1; exact h1.symm)
      split at h
      · rename_i hs
        split at h
        · obtain ⟨hc, h⟩ := chk_some h
          split at h
          · refine ⟨_, [_], ?_, one_true hc, EInv.pure hd, h⟩
            simp only [sliceD, TV.enc, enc_obj ho, encArr, hs, if_true, TEff.enc, within, Option.getD_none, List.map_nil, hln]
            simp
          · refine ⟨_, [_], ?_, one_true hc, EInv.pure (inv_nil rfl), h⟩
            simp only [sliceD, TV.enc, enc_obj ho, encArr, hs, if_true, TEff.enc, within, List.map_nil, hln, Nat.zero_add]
        · rename_i m
          split at h
          · rename_i hh
            obtain ⟨hc, h⟩ := chk_some h
            refine ⟨_, [_], ?_, one_true hc, EInv.pure (inv_nil rfl), h⟩
            simp only [sliceD, TV.enc, enc_obj ho, encArr, hs, if_true, TEff.enc, List.map_nil, hln, Nat.zero_add, cut_map]
            congr 2
            unfold cut
            cases lo with
            | none => simp
            | some l => simp [List.drop_take]
          · simp at h
      · simp at h
    · simp at h
  · rename_i sz id off len
    split at h
    · rename_i t xs fix ho
      split at h
      · rename_i hs
        split at h
        · obtain ⟨hc, h⟩ := chk_some h
          refine ⟨_, [_], ?_, one_true hc, EInv.pure (inv_nil rfl), h⟩
          simp only [sliceD, TV.enc, enc_obj ho, encArr, hs, if_true, TEff.enc, within, List.map_nil]
        · simp at h
      · simp at h
    · simp at h
  · rename_i sz t
    split at h
    · obtain ⟨hc, h⟩ := chk_some h
      refine ⟨_, [_], ?_, one_true hc, EInv.pure (inv_nil rfl), h⟩
      simp only [sliceD, TV.enc, TEff.enc, List.map_nil]
    · simp at h
  · simp at h
theorem snd_slice (hX : TOk X) (hT : T.Inv) {t : Nat} {x : Operand} {lo hi mx : Option Operand} (h : opSlice X T t x lo hi mx k = some r) : Snd X T i (.slice t x lo hi mx) ty k r := by
  unfold opSlice at h
  split at h
  · rename_i e d a b c he hd ha hb hc
    split at h
    · rename_i hstr
      obtain ⟨e', cs, h1, h2, h3, h4⟩ := sliceT_snd (i := i) hT (evT_inv hT hd) h
      refine ⟨e', cs, ?_, h2, h3, h4⟩
      simp only [core, get_td he, hstr, intT_opt hX ha, intT_opt hX hb, intT_opt hX hc, evT_ev hX hd, h1]
    · rename_i u hsl
      split at h
      · rename_i eu heu
        obtain ⟨e', cs, h1, h2, h3, h4⟩ := sliceT_snd (i := i) hT (evT_inv hT hd) h
        refine ⟨e', cs, ?_, h2, h3, h4⟩
        simp only [core, get_td he, hsl, get_ty heu, intT_opt hX ha, intT_opt hX hb, intT_opt hX hc, evT_ev hX hd, h1]
      · simp at h
    · simp at h
  · simp at h
theorem ty_struct {t : Nat} {e : TT U} {fs : List (Nat × Nat)} (he : X.get t = some e) (hd : e.ti.d = .struct fs) : ∃ a b c, X.E.ty t = some ⟨.struct fs, a, b, c⟩ := by
  have := get_ty he
  obtain ⟨⟨d, a, b, c⟩, _, _, _, _⟩ := e
  dsimp only at hd; subst hd
  exact ⟨a, b, c, this⟩
theorem snd_fieldAddr (hX : TOk X) (hT : T.Inv) {t f : Nat} {x : Operand} (h : opFieldAddr X T t x f k = some r) : Snd X T i (.fieldAddr t x f) ty k r := by
  unfold opFieldAddr at h
  split at h
  · rename_i e d he hd
    split at h
    · rename_i fs hfs
      obtain ⟨a, b, c, hty⟩ := ty_struct he hfs
      split at h
      · rename_i off ft hf
        split at h
        · rename_i tf htf
          split at h
          · simp at h
          · rename_i hz
            split at h
            · refine ⟨_, [], ?_, by simp, EInv.pure (inv_nil rfl), h⟩
              simp only [core, hty, hf, get_ty htf, hz, if_false, evT_ev hX hd, TV.enc, TEff.enc, List.map_nil, List.map_drop]
            · refine ⟨_, [], ?_, by simp, EInv.pure (inv_nil rfl), h⟩
              simp only [core, hty, hf, get_ty htf, hz, if_false, evT_ev hX hd, TV.enc, TEff.enc, List.map_nil]
            · simp at h
        · simp at h
      · simp at h
    · simp at h
  · simp at h
theorem mkAgg_cases (ds : List D) : (∃ ps, ds = ps.map .p ∧ D.mkAgg ds = .p (.agg ps)) ∨ D.mkAgg ds = .agg ds := by
  unfold D.mkAgg
  cases h : allM D.pure? ds with
  | none => exact .inr rfl
  | some ps => exact .inl ⟨ps, allM_pure h, rfl⟩
theorem snd_field (hU : UOk U) (hX : TOk X) (hT : T.Inv) {t f : Nat} {x : Operand} (h : opField X T t x f k = some r) : Snd X T i (.field t x f) ty k r := by
  unfold opField at h
  split at h
  · rename_i e d he hd
    split at h
    · rename_i fs hfs
      obtain ⟨a, b, c, hty⟩ := ty_struct he hfs
      split at h
      · rename_i off ft hf
        split at h
        · rename_i tf htf
          split at h
          · simp at h
          · rename_i hz
            split at h
            · rename_i n x'
              split at h
              · rename_i y hy
                obtain ⟨p, h1, h2⟩ := load_leaves hU hX htf hy
                refine ⟨_, [], ?_, by simp, EInv.pure (loadT_inv (fun c hc => ?_) hy), h⟩
                · rw [List.map_drop] at h1
                  simp only [core, hty, hf, get_ty htf, hz, if_false, evT_ev hX hd, TV.enc, Univ.encE, hU.enc_cells, h1, Option.map_some, TEff.enc, h2, List.map_nil]
                · obtain ⟨l, _, rfl⟩ := List.mem_map.1 hc; exact inv_v _ _
              · simp at h
            · rename_i cs
              split at h
              · rename_i y hy
                have h1 := loadT_enc hU hX htf hy
                refine ⟨_, [], ?_, by simp, EInv.pure (loadT_inv (fun c hc => agg_inv (evT_inv hT hd) c (List.mem_of_mem_drop hc)) hy), h⟩
                rw [encs_drop] at h1
                have hev := evT_ev hX hd
                rw [TV.enc] at hev
                rcases mkAgg_cases (TV.encs cs) with ⟨ps, q1, q2⟩ | q2
                · rw [q2] at hev
                  rw [q1, ← List.map_drop, loadP_D] at h1
                  cases hq : loadP tf.ti (ps.drop off) with
                  | none => rw [hq] at h1; simp at h1
                  | some p =>
                    rw [hq] at h1; simp only [Option.map_some, Option.some.injEq] at h1
                    simp only [core, hty, hf, get_ty htf, hev, hz, if_false, hq, Option.map_some, TEff.enc, List.map_nil, ← h1]
                · rw [q2] at hev
                  simp only [core, hty, hf, get_ty htf, hev, hz, if_false, h1, Option.map_some, TEff.enc, List.map_nil]
              · simp at h
            · simp at h
        · simp at h
      · simp at h
    · simp at h
  · simp at h
end
end Eng
namespace Eng
open Go
section
variable {U : Univ} {R : Type} {X : TEnv U} {T : TS U} {i ty : Nat} {k : TEff U → Option R} {r : R}
theorem ty_sl {t u : Nat} {e : TT U} (he : X.get t = some e) (hd : e.ti.d = .sl u) : ∃ a b c, X.E.ty t = some ⟨.sl u, a, b, c⟩ := by
  have := get_ty he
  obtain ⟨⟨d, a, b, c⟩, _, _, _, _⟩ := e
  dsimp only at hd; subst hd
  exact ⟨a, b, c, this⟩
theorem ty_arr {t m u : Nat} {e : TT U} (he : X.get t = some e) (hd : e.ti.d = .arr m u) : ∃ a b c, X.E.ty t = some ⟨.arr m u, a, b, c⟩ := by
  have := get_ty he
  obtain ⟨⟨d, a, b, c⟩, _, _, _, _⟩ := e
  dsimp only at hd; subst hd
  exact ⟨a, b, c, this⟩
theorem ty_map {t a b : Nat} {e : TT U} (he : X.get t = some e) (hd : e.ti.d = .map a b) : ∃ x y z, X.E.ty t = some ⟨.map a b, x, y, z⟩ := by
  have := get_ty he
  obtain ⟨⟨d, x, y, z⟩, _, _, _, _⟩ := e
  dsimp only at hd; subst hd
  exact ⟨x, y, z, this⟩
theorem as_eq {car : Nat → Type} {l : Lf car} {t : Ty} {x : El car t} (h : l.as t = some x) : l = ⟨t, x⟩ := by
  unfold Lf.as at h
  split at h
  · rename_i he
    obtain ⟨t', y⟩ := l
    dsimp only at he
    subst he
    simp only [Option.some.injEq] at h
    subst h; rfl
  · simp at h
theorem tabK_some {cs : List (Lf U.car)} : ∀ (ts : List Ty) (n : Nat) (k : List (Lf U.car) → Option R) {r : R}, tabK cs ts n k = some r → ∃ ls, cs.drop n = ls ++ cs.drop (n + ls.length) ∧ k ls = some r
  | [], n, k, r, h => ⟨[], by simp, h⟩
  | t :: ts, n, k, r, h => by
    simp only [tabK] at h
    obtain ⟨x, hx, h⟩ := bind_some h
    obtain ⟨ls, h1, h2⟩ := tabK_some ts (n + 1) _ h
    unfold tabB at hx
    split at hx
    · rename_i l hl
      obtain ⟨hlt, hle⟩ := List.getElem?_eq_some_iff.1 hl
      have := as_eq hx
      refine ⟨⟨t, x⟩ :: ls, ?_, h2⟩
      rw [List.drop_eq_getElem_cons hlt, hle, this, h1, List.cons_append, List.length_cons]
      congr 3
      omega
    · simp at hx
theorem snd_indexAddr (hU : UOk U) (hX : TOk X) (hT : T.Inv) {t : Nat} {x ix : Operand} (h : opIndexAddr X T t x ix k = some r) : Snd X T i (.indexAddr t x ix) ty k r := by
  unfold opIndexAddr at h
  split at h
  · rename_i e d k1 n he hd hn
    split at h
    · rename_i u hu
      obtain ⟨a, b, c, hty⟩ := ty_sl he hu
      split at h
      · rename_i eu heu
        split at h
        · rename_i t' xs
          split at h
          · rename_i hs
            obtain ⟨y, hy, h⟩ := bind_some h
            obtain ⟨i1, i2, i3⟩ := idx_some hy
            refine ⟨_, [true], ?_, by simp, EInv.pure (inv_nil rfl), h⟩
            simp only [core, evT_ev hX hn, evT_ev hX hd, TV.enc, Univ.encE, hty, get_ty heu, hs, if_true, TEff.enc, List.map_nil]
            rw [getD_enc i3, encE_cells hU, List.length_map, decide_eq_true (⟨i1, i2⟩ : 0 ≤ n ∧ n < (xs.length : Int))]
          · simp at h
        · rename_i id m
          split at h
          · rename_i t' xs fix ho
            split at h
            · rename_i hs
              obtain ⟨hc, h⟩ := chk_some h
              refine ⟨_, [_], ?_, one_true hc, EInv.pure (inv_nil rfl), h⟩
              simp only [core, evT_ev hX hn, evT_ev hX hd, TV.enc, Univ.encE, hty, get_ty heu, enc_obj ho, encArr, hs, if_true, TEff.enc, List.map_nil, full_len hT hd ho, Nat.zero_add]
            · simp at h
          · simp at h
        · rename_i id off len
          split at h
          · rename_i t' xs fix ho
            split at h
            · rename_i hs
              obtain ⟨hc, h⟩ := chk_some h
              refine ⟨_, [_], ?_, one_true hc, EInv.pure (inv_nil rfl), h⟩
              simp only [core, evT_ev hX hn, evT_ev hX hd, TV.enc, Univ.encE, hty, get_ty heu, enc_obj ho, encArr, hs, if_true, TEff.enc, List.map_nil]
            · simp at h
          · simp at h
        · simp at h
      · simp at h
    · rename_i m u hu
      obtain ⟨a, b, c, hty⟩ := ty_arr he hu
      split at h
      · rename_i eu heu
        split at h
        · rename_i cs
          obtain ⟨hc, h⟩ := chk_some h
          cases hm : Nat.blt 8 m with
          | true =>
            rw [hm, cond_true] at h
            split at h
            · obtain ⟨ls, h1, h2⟩ := tabK_some _ _ _ h
              rw [← h1] at h2
              refine ⟨_, [_], ?_, one_true hc, EInv.pure (inv_nil rfl), h2⟩
              simp only [core, evT_ev hX hn, evT_ev hX hd, TV.enc, Univ.encE, hty, get_ty heu, TEff.enc, List.map_nil, List.map_drop]
            · simp at h
          | false =>
            rw [hm, cond_false] at h
            refine ⟨_, [_], ?_, one_true hc, EInv.pure (inv_nil rfl), h⟩
            simp only [core, evT_ev hX hn, evT_ev hX hd, TV.enc, Univ.encE, hty, get_ty heu, TEff.enc, List.map_nil, List.map_drop]
        · obtain ⟨hc, h⟩ := chk_some h
          refine ⟨_, [_], ?_, one_true hc, EInv.pure (inv_nil rfl), h⟩
          simp only [core, evT_ev hX hn, evT_ev hX hd, TV.enc, Univ.encE, hty, get_ty heu, TEff.enc, List.map_nil]
        · simp at h
      · simp at h
    · simp at h
  · simp at h
theorem snd_index (hX : TOk X) (hT : T.Inv) {t : Nat} {x ix : Operand} (h : opIndex X T t x ix k = some r) : Snd X T i (.index t x ix) ty k r := by
  unfold opIndex at h
  split at h
  · rename_i e s k1 n he hd hn
    split at h
    · rename_i hs
      obtain ⟨y, hy, h⟩ := bind_some h
      obtain ⟨i1, i2, i3⟩ := idx_some hy
      refine ⟨_, [true], ?_, by simp, EInv.pure (inv_v _ _), h⟩
      simp only [core, evT_ev hX hn, evT_ev hX hd, TV.enc, Univ.encE, get_td he, hs, TEff.enc, List.map_nil]
      rw [List.getD_eq_getElem?_getD, i3, decide_eq_true (⟨i1, i2⟩ : 0 ≤ n ∧ n < (s.length : Int))]
      rfl
    · simp at h
  · simp at h
theorem keyB_enc {a : Ty} (ha : a.isKey = true) (x y : El U.car a) : P.key (U.encE a x) (U.encE a y) = keyB a x y := by
  cases a <;> simp only [Ty.isKey, Bool.false_eq_true] at ha
  · rfl
  · simp only [Univ.encE, P.key, P.eqv, P.eqc, if_true, Option.getD_some]; rfl
  · rfl
theorem leafOk_enc {a : Ty} (ha : a.isKey = true) (x : El U.car a) : leafOk a.td (U.encE a x) = true := by
  cases a <;> simp only [Ty.isKey, Bool.false_eq_true] at ha
  · rfl
  · simp [Ty.td, Univ.encE, leafOk]
  · rfl
theorem find_enc {a b : Ty} (ha : a.isKey = true) (x : El U.car a) : ∀ kv : List (El U.car a × El U.car b), (kv.map fun e => (U.encE a e.1, U.encE b e.2)).find? (fun e => P.key (U.encE a x) e.1) = (kv.find? fun e => keyB a x e.1).map fun e => (U.encE a e.1, U.encE b e.2)
  | [] => rfl
  | e :: r => by
    simp only [List.map_cons, List.find?_cons, keyB_enc ha]
    split
    · rfl
    · exact find_enc ha x r
theorem look_enc {a b : Ty} (ha : a.isKey = true) (x : El U.car a) (kv : List (El U.car a × El U.car b)) : kfind (kv.map fun e => (U.encE a e.1, U.encE b e.2)) (U.encE a x) = (lookB kv x).map (U.encE b) := by
  unfold kfind lookB
  rw [find_enc ha]
  cases kv.find? fun e => keyB a x e.1 <;> rfl
theorem set_enc {a b : Ty} (ha : a.isKey = true) (x : El U.car a) (y : El U.car b) (kv : List (El U.car a × El U.car b)) : kset (kv.map fun e => (U.encE a e.1, U.encE b e.2)) (U.encE a x) (U.encE b y) = (setB kv x y).map fun e => (U.encE a e.1, U.encE b e.2) := by
  unfold kset setB
  simp only [List.any_map, Function.comp_def, keyB_enc ha]
  split
  · simp only [List.map_map]
    refine List.map_congr_left fun e _ => ?_
    simp only [Function.comp, keyB_enc ha]
    split <;> rfl
  · simp
theorem del_enc {a b : Ty} (ha : a.isKey = true) (x : El U.car a) (kv : List (El U.car a × El U.car b)) : kdel (kv.map fun e => (U.encE a e.1, U.encE b e.2)) (U.encE a x) = (delB kv x).map fun e => (U.encE a e.1, U.encE b e.2) := by
  unfold kdel delB
  rw [List.filter_map]
  congr 1
  refine List.filter_congr fun e _ => ?_
  simp only [Function.comp, keyB_enc ha]
theorem mapT_of (hX : TOk X) {t : Nat} {x : Operand} {d : TV U} (hd : evT X T.slots t x = some d) {l : Lf U.car} (h : mapT T d = some l) {a b : Ty} {kv : List (El U.car a × El U.car b)} (hl : l.as (.map a b) = some kv) :
    mapOf T.enc.objs (ev X.E T.enc.slots t x) = some (a.td, kv.map fun e => (U.encE a e.1, U.encE b e.2)) := by
  rw [evT_ev hX hd]
  unfold mapT at h
  split at h
  · simp only [Option.some.injEq] at h; subst h
    have := as_some hl
    cases this
    rfl
  · split at h
    · rename_i ho
      simp only [Option.some.injEq] at h; subst h
      have := as_some hl
      cases this
      simp only [TV.enc, mapOf, enc_obj ho, encMapO]
    · simp at h
  · simp at h
theorem key_toP (hX : TOk X) (hT : T.Inv) {t : Nat} {x : Operand} {d : TV U} (hd : evT X T.slots t x = some d) {l : Lf U.car} (h : T.lf1 d = some l) {a : Ty} {key : El U.car a} (hl : l.as a = some key) (m : Nat) : (ev X.E T.enc.slots t x).toP T.enc.objs m = some (U.encE a key) := by
  rw [evT_ev hX hd, lf1_enc (evT_inv hT hd) h m, as_some hl]; rfl
theorem snd_lookup (hX : TOk X) (hT : T.Inv) {t : Nat} {m q : Operand} {ok : Bool} (h : opLookup X T t m q ok k = some r) : Snd X T i (.lookup t m q ok) ty k r := by
  unfold opLookup at h
  split at h
  · rename_i e he
    split at h
    · rename_i kt vt a b hd _
      obtain ⟨p1, p2, p3, hty⟩ := ty_map he hd
      split at h
      · rename_i ev' dm dk hev hm hk
        split at h
        · rename_i lm lk z0 hlm hlk hz0
          split at h
          · rename_i kv key z hkv hkey hz
            split at h
            · rename_i hc
              have hzp := hX.zl vt ev' z0 hev hz0
              rw [as_some hz] at hzp
              have hzp' : U.encE b z = ev'.ti.zeroP := hzp
              have c0 : ((X.E.keyTD t).same a.td && leafOk a.td (U.encE a key)) = true := by rw [hc.2, leafOk_enc hc.1]; rfl
              have hmo := mapT_of hX hm hlm hkv
              have hkp := key_toP hX hT hk hlk hkey 1
              cases ok
              · refine ⟨_, [], ?_, by simp, EInv.pure (inv_v _ _), h⟩
                simp only [core, hty, get_ty hev, hmo, hkp, c0, if_true, look_enc hc.1, TEff.enc, List.map_nil, TV.enc]
                cases lookB kv key <;> simp [hzp']
              · refine ⟨_, [], ?_, by simp, EInv.pure (inv_nil (by simp [TV.fulls, TV.fullsL])), h⟩
                simp only [core, hty, get_ty hev, hmo, hkp, c0, if_true, look_enc hc.1, TEff.enc, List.map_nil, TV.enc, TV.encs]
                cases lookB kv key <;> simp [hzp', Univ.encE]
            · simp at h
          · simp at h
        · simp at h
      · simp at h
    · simp at h
  · simp at h
theorem upd_snd (hU : UOk U) (hX : TOk X) (hT : T.Inv) {t : Nat} {m q v : Operand} (h : opMapUpdate X T t m q v k = some r) :
    ∃ e cs, mapUpdateE X.E T.enc.slots T.enc.objs t m q v = some (e.enc cs) ∧ (∀ q ∈ cs, q = true) ∧ EInv T i e ∧ k e = some r := by
  unfold opMapUpdate at h
  split at h
  · rename_i e he
    split at h
    · rename_i kt vt a b hd _
      obtain ⟨p1, p2, p3, hty⟩ := ty_map he hd
      split at h
      · rename_i ev' id dk dv hev hm hk hv
        split at h
        · rename_i a' b' kv0 lk lv' ho hlk hlv
          split at h
          · rename_i kv key y hkv hkey hy
            split at h
            · rename_i hc
              have hab := as_some hkv
              cases hab
              have c0 : ((X.E.keyTD t).same a.td && leafOk a.td (U.encE a key)) = true := by rw [hc.2, leafOk_enc hc.1]; rfl
              have hkp := key_toP hX hT hk hlk hkey 1
              have hvp := lf_enc hU (evT_inv hT hv) hlv 7
              rw [as_some hy] at hvp
              have hem : ev X.E T.enc.slots 0 m = .map id := by rw [evT_ev hX hm]; rfl
              refine ⟨_, [], ?_, by simp, einv_wr rfl (fun t' xs fix hq => by cases hq) (fun _ => by trivial), h⟩
              simp only [mapUpdateE, hty, hem, enc_obj ho, encMapO, hkp, evT_ev hX hv, depth, hvp, c0, if_true, Univ.encL, set_enc hc.1, TEff.enc, List.map_nil, List.map_cons, TV.enc]
            · simp at h
          · simp at h
        · simp at h
      · simp at h
    · simp at h
  · simp at h
theorem snd_delete (hX : TOk X) (hT : T.Inv) {t u : Nat} {m q : Operand} (h : opDelete X T t u m q k = some r) : ∃ e cs, deleteE X.E T.enc.objs [t, u] [ev X.E T.enc.slots t m, ev X.E T.enc.slots u q] = some (e.enc cs) ∧ (∀ q ∈ cs, q = true) ∧ EInv T i e ∧ k e = some r := by
  unfold opDelete at h
  split at h
  · rename_i e id dk he hm hk
    split at h
    · rename_i a1 b1 a b kv lk hd ho hlk
      split at h
      · rename_i key hkey
        split at h
        · rename_i hc
          have c0 : ((X.E.keyTD t).same a.td && leafOk a.td (U.encE a key)) = true := by rw [hc.2, leafOk_enc hc.1]; rfl
          have hkp := key_toP hX hT hk hlk hkey 1
          have hem : ev X.E T.enc.slots t m = .map id := by rw [evT_ev hX hm]; rfl
          refine ⟨_, [], ?_, by simp, einv_wr rfl (fun t' xs fix hq => by cases hq) (fun _ => by trivial), h⟩
          simp only [deleteE, hem, get_td he, hd, enc_obj ho, encMapO, hkp, c0, if_true, del_enc hc.1, TEff.enc, List.map_nil, List.map_cons, TV.enc]
        · simp at h
      · simp at h
    · simp at h
  · simp at h
theorem snd_range (hX : TOk X) (hT : T.Inv) {t : Nat} {x : Operand} (h : opRange X T i t x k = some r) : Snd X T i (.range t x) ty k r := by
  unfold opRange at h
  split at h
  · rename_i e s he hd
    split at h
    · rename_i hs
      refine ⟨_, [], ?_, by simp, einv_new rfl (fun _ => by trivial), h⟩
      simp only [core, get_td he, hs, evT_ev hX hd, TV.enc, Univ.encE, TEff.enc, List.map_cons, List.map_nil, encSit]
    · simp at h
  · rename_i e a b kv he hd
    split at h
    · rename_i hs
      refine ⟨_, [], ?_, by simp, einv_new rfl (fun _ => by trivial), h⟩
      simp only [core, get_td he, hs, evT_ev hX hd, TV.enc, Univ.encE, TEff.enc, List.map_cons, List.map_nil, encMit, Option.map_none]
    · simp at h
  · rename_i e id he hd
    split at h
    · rename_i a1 b1 a b kv hs ho
      refine ⟨_, [], ?_, by simp, einv_new rfl (fun _ => by trivial), h⟩
      simp only [core, get_td he, hs, evT_ev hX hd, TV.enc, enc_obj ho, encMapO, TEff.enc, List.map_cons, List.map_nil, encMit, Option.map_none]
    · simp at h
  · simp at h
theorem snd_next (hX : TOk X) (hT : T.Inv) {x : Operand} (h : opNext X T x k = some r) : Snd X T i (.next x true) ty k r := by
  unfold opNext at h
  split at h
  · rename_i id hd
    split at h
    · rename_i s pos ho
      by_cases hp : pos < s.length
      · rw [decide_eq_true hp] at h
        refine ⟨_, [], ?_, by simp, einv_wr (by simp [TV.fulls, TV.fullsL]) (fun t' xs fix hq => by cases hq) (fun _ => by trivial), h⟩
        simp only [core, evT_ev hX hd, TV.enc, TV.encs, Univ.encE, enc_obj ho, encSit, if_pos hp, TEff.enc, List.map_cons, List.map_nil]
      · rw [decide_eq_false hp] at h
        refine ⟨_, [], ?_, by simp, EInv.pure (inv_nil (by simp [TV.fulls, TV.fullsL])), h⟩
        simp only [core, evT_ev hX hd, TV.enc, TV.encs, Univ.encE, enc_obj ho, encSit, if_neg hp, TEff.enc, List.map_nil]
    · simp at h
  · simp at h
theorem snd_entry (hX : TOk X) (hT : T.Inv) {x : Operand} (h : opEntry X T x k = some r) : Snd X T i (.entry x) ty k r := by
  unfold opEntry at h
  split at h
  · rename_i id hd
    split at h
    · rename_i a b rest p q ho
      refine ⟨_, [], ?_, by simp, EInv.pure (inv_nil (by simp [TV.fulls, TV.fullsL])), h⟩
      simp only [core, evT_ev hX hd, TV.enc, TV.encs, enc_obj ho, encMit, Option.map_some, TEff.enc, List.map_nil]
    · simp at h
  · simp at h
theorem snd_extract (hX : TOk X) (hT : T.Inv) {x : Operand} {ix : Nat} (h : opExtract X T x ix k = some r) : Snd X T i (.extract x ix) ty k r := by
  unfold opExtract at h
  split at h
  · rename_i vs hd
    split at h
    · rename_i d hv
      refine ⟨_, [], ?_, by simp, EInv.pure (fun q hq => evT_inv hT hd q (fullsL_mem.2 ⟨d, List.mem_of_getElem? hv, hq⟩)), h⟩
      simp only [core, evT_ev hX hd, TV.enc, encs_map, List.getElem?_map, hv, Option.map_some, TEff.enc, List.map_nil]
    · simp at h
  · simp at h
theorem snd_len (hX : TOk X) (hT : T.Inv) {t : Nat} {x : Operand} (h : opLen X T t x k = some r) : ∃ e cs, lenE X.E T.enc.objs [t] [ev X.E T.enc.slots t x] = some (e.enc cs) ∧ (∀ q ∈ cs, q = true) ∧ EInv T i e ∧ k e = some r := by
  unfold opLen at h
  split at h
  · rename_i e d he hd
    have hev := evT_ev hX hd
    split at h
    · rename_i htd
      split at h
      · refine ⟨_, [], ?_, by simp, EInv.pure (inv_v _ _), h⟩
        simp only [lenE, get_td he, htd, hev, TV.enc, Univ.encE, lenD, TEff.enc, List.map_nil]
      · simp at h
    · rename_i u htd
      split at h
      · refine ⟨_, [], ?_, by simp, EInv.pure (inv_v _ _), h⟩
        simp only [lenE, get_td he, htd, hev, TV.enc, Univ.encE, lenD, TEff.enc, List.map_nil, List.length_map]
      · refine ⟨_, [], ?_, by simp, EInv.pure (inv_v _ _), h⟩
        simp only [lenE, get_td he, htd, hev, TV.enc, Univ.encE, lenD, TEff.enc, List.map_nil, List.length_map]
      · refine ⟨_, [], ?_, by simp, EInv.pure (inv_v _ _), h⟩
        simp only [lenE, get_td he, htd, hev, TV.enc, Univ.encE, lenD, TEff.enc, List.map_nil]
      · split at h
        · rename_i ho
          refine ⟨_, [], ?_, by simp, EInv.pure (inv_v _ _), h⟩
          simp only [lenE, get_td he, htd, hev, TV.enc, Univ.encE, lenD, TEff.enc, List.map_nil, full_len hT hd ho]
        · simp at h
      · refine ⟨_, [], ?_, by simp, EInv.pure (inv_v _ _), h⟩
        simp only [lenE, get_td he, htd, hev, TV.enc, Univ.encE, lenD, TEff.enc, List.map_nil]
      · simp at h
    · rename_i u v htd
      split at h
      · rename_i a b kv hm
        obtain ⟨hc, h⟩ := chk_some h
        refine ⟨_, [_], ?_, one_true hc, EInv.pure (inv_v _ _), h⟩
        unfold mapT at hm
        split at hm
        · simp only [Option.some.injEq] at hm
          cases hm
          simp only [lenE, get_td he, htd, hev, TV.enc, Univ.encE, lenD, TEff.enc, List.map_nil, List.length_map]
        · split at hm
          · rename_i ho
            simp only [Option.some.injEq] at hm
            cases hm
            simp only [lenE, get_td he, htd, hev, TV.enc, enc_obj ho, encMapO, Univ.encE, lenD, TEff.enc, List.map_nil, List.length_map]
          · simp at hm
        · simp at hm
      · simp at h
    · rename_i n u htd
      obtain ⟨hc, h⟩ := chk_some h
      refine ⟨_, [_], ?_, one_true hc, EInv.pure (inv_v _ _), h⟩
      simp only [lenE, get_td he, htd, lenD, TEff.enc, List.map_nil, TV.enc, Univ.encE]
    · simp at h
  · simp at h
theorem srcT_src (hT : T.Inv) {t : Nat} {x : Operand} {d : TV U} (hX : TOk X) (hd : evT X T.slots t x = some d) {u : Ty} {ys : List (El U.car u)} (h : srcT T d u = some ys) : srcOf T.enc.objs (U.tsize u) d.enc = some (ys.map (U.encE u)) := by
  unfold srcT at h
  split at h
  · split at h
    · simp only [Option.some.injEq] at h; subst h
      simp only [srcOf, TV.enc, Univ.encE, Univ.tsize, if_true, bytesP, List.map_map]
      rfl
    · simp at h
  · rename_i hns
    split at h
    · rename_i l hl
      split at h
      · rename_i ys' hys
        simp only [Option.some.injEq] at h; subst h
        have ht := lf1_enc (evT_inv hT hd) hl 1
        rw [as_some hys] at ht
        unfold srcOf
        split
        · rename_i s hs
          rw [hs] at ht
          simp only [toP_p, Option.some.injEq, Univ.encL, Univ.encE, reduceCtorEq] at ht
        · simp only [ht, Univ.encL, Univ.encE, if_true]
      · simp at h
    · simp at h
theorem append_eq {α : Type} (xs ys : List α) : List.append xs ys = xs ++ ys := rfl
theorem snd_appX (hX : TOk X) (hT : T.Inv) {t : Nat} {s : Operand} {e : TT U} {d : TV U} (hd : evT X T.slots t s = some d) (hsz : U.tsize e.ty = e.ti.size) {ys : List (El U.car e.ty)} (h : appX T i e d ys k = some r) :
    ∃ ef cs, appendX T.enc.objs T.ep i e.ti d.enc (ys.map (U.encE e.ty)) = some (ef.enc cs) ∧ (∀ q ∈ cs, q = true) ∧ EInv T i ef ∧ k ef = some r := by
  unfold appX at h
  split at h
  · obtain ⟨hc, h⟩ := chk_some h
    refine ⟨_, [_], ?_, one_true hc, einv_own rfl (by simp), h⟩
    simp only [appendX, TV.enc, List.length_map, TEff.enc, List.map_cons, List.map_nil, encArr, hsz, room]
  · split at h
    · rename_i xs hxs
      obtain ⟨hc1, h⟩ := chk_some h
      obtain ⟨hc2, h⟩ := chk_some h
      have := as_some hxs
      cases this
      refine ⟨_, [true], ?_, by simp, einv_own (by rw [append_eq, List.length_append]) (by simp), h⟩
      have c1 : List.isEmpty ys = false := by simpa using hc1
      have c2 : (List.length xs + ys.length) * max e.ti.bytes 1 ≤ roomB := by simpa [room] using hc2
      simp only [appendX, TV.enc, hsz, if_true, List.length_map, TEff.enc, List.map_cons, List.map_nil, encArr, append_eq, List.map_append, List.isEmpty_map]
      rw [decide_eq_true ⟨c1, c2⟩]
    · simp at h
  · rename_i id n
    split at h
    · rename_i t' xs0 ho
      split at h
      · rename_i xs hxs
        obtain ⟨hc, h⟩ := chk_some h
        have := as_some hxs
        cases this
        refine ⟨_, [_], ?_, one_true hc, einv_own (by rw [append_eq, List.length_append]) (by simp), h⟩
        have hl : n = List.length xs := full_len hT hd ho
        simp only [appendX, TV.enc, enc_obj ho, encArr, hsz, if_true, List.length_map, TEff.enc, List.map_cons, List.map_nil, encGone, append_eq, List.map_append, hl, room, take_map]
      · simp at h
    · simp at h
  · rename_i id len
    split at h
    · rename_i t' xs0 ho
      split at h
      · rename_i xs hxs
        obtain ⟨hc1, h⟩ := chk_some h
        obtain ⟨hc, h⟩ := chk_some h
        have := as_some hxs
        cases this
        have hle : len ≤ List.length xs := by simpa using hc1
        refine ⟨_, [_], ?_, one_true hc, einv_own (by rw [append_eq, List.length_append, List.length_take, Nat.min_eq_left hle]) (by simp), h⟩
        simp only [appendX, TV.enc, enc_obj ho, encArr, hsz, if_true, List.length_map, TEff.enc, List.map_cons, List.map_nil, encGone, append_eq, List.map_append, room, List.map_take]
      · simp at h
    · simp at h
  · simp at h
theorem snd_append (hX : TOk X) (hT : T.Inv) {t u : Nat} {s x : Operand} (h : opAppend X T i t u s x k = some r) :
    ∃ e cs, appendE X.E T.ep i T.enc.objs [t, u] [ev X.E T.enc.slots t s, ev X.E T.enc.slots u x] = some (e.enc cs) ∧ (∀ q ∈ cs, q = true) ∧ EInv T i e ∧ k e = some r := by
  unfold opAppend at h
  split at h
  · rename_i e eu d dx he heu hd hdx
    split at h
    · rename_i hsz
      split at h
      · rename_i h2
        split at h
        · rename_i ys hys
          have hsrc := srcT_src hT hX hdx hys
          rw [hsz] at hsrc
          have happ : appendE X.E T.ep i T.enc.objs [t, u] [ev X.E T.enc.slots t s, ev X.E T.enc.slots u x] = appendD T.enc.objs T.ep i e.ti d.enc dx.enc := by
            unfold appendE
            simp only [elem_elem he, get_td heu, evT_ev hX hd, evT_ev hX hdx]
            revert h2
            cases eu.ti.d <;> simp [srcTd]
          rw [happ, appendD, hsrc]
          exact snd_appX hX hT hd hsz h
        · simp at h
      · split at h
        · rename_i k0 a z hk hz
          split at h
          · rename_i z' hz'
            obtain ⟨hc, h⟩ := chk_some h
            have hget : ∃ u', X.get u' = some e := by
              unfold TEnv.elem at he
              split at he
              · split at he
                · exact ⟨_, he⟩
                · simp at he
              · simp at he
            obtain ⟨u', hu⟩ := hget
            have hzp := hX.zl u' e z hu hz
            rw [as_some hz'] at hzp
            obtain ⟨ef, cs, q1, q2⟩ := snd_appX hX hT hd hsz h
            refine ⟨ef, cs, ?_, q2⟩
            rw [List.map_replicate, show U.encE e.ty z' = e.ti.zeroP from hzp] at q1
            unfold appendE
            simp only [elem_elem he, get_td heu, evT_ev hX hd, evT_ev hX hdx, hk, TV.enc, Univ.encE, if_pos (of_decide_eq_true hc)]
            exact q1
          · simp at h
        · simp at h
    · simp at h
  · simp at h
theorem snd_copy (hX : TOk X) (hT : T.Inv) {t u : Nat} {d s : Operand} (h : opCopy X T t u d s k = some r) :
    ∃ e cs, copyE X.E T.enc.objs [t, u] [ev X.E T.enc.slots t d, ev X.E T.enc.slots u s] = some (e.enc cs) ∧ (∀ q ∈ cs, q = true) ∧ EInv T i e ∧ k e = some r := by
  unfold opCopy at h
  split at h
  · rename_i e dd ds he hd hs
    split at h
    · rename_i id n
      split at h
      · rename_i t' xs fix ho
        split at h
        · rename_i ys hys
          have hsrc := srcT_src hT hX hs hys
          split at h
          · rename_i hsz
            have hl : n = List.length xs := full_len hT hd ho
            refine ⟨_, [], ?_, by simp, einv_wr (by simp [TV.fulls]) (fun t2 xs2 fix2 hq => ?_) (fun _ => by trivial), h⟩
            · simp only [copyE, elem_elem he, evT_ev hX hd, evT_ev hX hs, TV.enc, copyD, enc_obj ho, encArr, hsrc, hsz.symm, if_true, TEff.enc, List.map_cons, List.map_nil, hl, List.length_map, Univ.encE, splice]
              congr 4
              simp only [List.take_zero, List.nil_append, List.length_take, List.length_map, Nat.zero_add, List.map_append, List.map_take, List.map_drop]
              have e1 : List.take (min ys.length xs.length) (List.map (U.encE t') ys) = List.take xs.length (List.map (U.encE t') ys) := by
                rw [List.take_eq_take_iff]; simp [Nat.min_comm]
              have e2 : min (min ys.length xs.length) ys.length = min ys.length xs.length := by omega
              rw [e1, e2]
              congr 1
              rcases Nat.le_total ys.length xs.length with hh | hh
              · rw [Nat.min_eq_left hh]
              · rw [Nat.min_eq_right hh, List.drop_eq_nil_of_le (by simp), List.drop_eq_nil_of_le (by simpa using hh)]
            · cases hq
              refine ⟨_, _, _, ho, ?_⟩
              simp only [List.length_append, List.length_take, List.length_drop]
              omega
          · simp at h
        · simp at h
      · simp at h
    · rename_i id off len
      split at h
      · rename_i t' xs fix ho
        split at h
        · rename_i ys hys
          have hsrc := srcT_src hT hX hs hys
          split at h
          · rename_i hsz
            obtain ⟨hc, h⟩ := chk_some h
            have hle : off + len ≤ List.length xs := by simpa using hc
            refine ⟨_, [], ?_, by simp, einv_wr (by simp [TV.fulls]) (fun t2 xs2 fix2 hq => ?_) (fun _ => by trivial), h⟩
            · simp only [copyE, elem_elem he, evT_ev hX hd, evT_ev hX hs, TV.enc, copyD, enc_obj ho, encArr, hsrc, hsz.symm, if_true, TEff.enc, List.map_cons, List.map_nil, List.length_map, Univ.encE, splice_map, List.map_take]
            · cases hq
              refine ⟨_, _, _, ho, ?_⟩
              simp only [splice, List.length_append, List.length_take, List.length_drop]
              omega
          · simp at h
        · simp at h
      · simp at h
    · simp at h
  · simp at h
theorem argsT_args (hX : TOk X) : ∀ {xs : List Operand} {ts : List Nat} {ds : List (TV U)}, argsT X T.slots xs ts = some ds → argsD X.E T.enc.slots xs ts = TV.encs ds
  | [], ts, ds, h => by cases ts <;> simp [argsT] at h <;> subst h <;> rfl
  | x :: xs, [], ds, h => by
    simp only [argsT] at h
    split at h
    · rename_i d r h1 h2
      simp only [Option.some.injEq] at h; subst h
      simp only [argsD, TV.encs, evT_ev hX h1, argsT_args hX h2]
    · simp at h
  | x :: xs, t :: ts, ds, h => by
    simp only [argsT] at h
    split at h
    · rename_i d r h1 h2
      simp only [Option.some.injEq] at h; subst h
      simp only [argsD, TV.encs, evT_ev hX h1, argsT_args hX h2]
    · simp at h
theorem argsT_inv (hT : T.Inv) : ∀ {xs : List Operand} {ts : List Nat} {ds : List (TV U)}, argsT X T.slots xs ts = some ds → ∀ d ∈ ds, d.inv T.objs
  | [], ts, ds, h => by cases ts <;> simp [argsT] at h <;> subst h <;> simp
  | x :: xs, [], ds, h => by
    simp only [argsT] at h
    split at h
    · rename_i d r h1 h2
      simp only [Option.some.injEq] at h; subst h
      intro a ha
      rcases List.mem_cons.1 ha with rfl | ha
      · exact evT_inv hT h1
      · exact argsT_inv hT h2 a ha
    · simp at h
  | x :: xs, t :: ts, ds, h => by
    simp only [argsT] at h
    split at h
    · rename_i d r h1 h2
      simp only [Option.some.injEq] at h; subst h
      intro a ha
      rcases List.mem_cons.1 ha with rfl | ha
      · exact evT_inv hT h1
      · exact argsT_inv hT h2 a ha
    · simp at h
theorem snd_mm (hX : TOk X) (hT : T.Inv) {mx : Bool} {args : List Operand} {ats : List Nat} (h : opMM X T mx args ats k = some r) :
    ∃ e cs, builtinD X.E T.ep i T.enc.objs (if mx then .max else .min) ats (argsD X.E T.enc.slots args ats) = some (e.enc cs) ∧ (∀ q ∈ cs, q = true) ∧ EInv T i e ∧ k e = some r := by
  unfold opMM at h
  split at h
  · rename_i ds hds
    split at h
    · rename_i z hz
      split at h
      · rename_i d hd
        obtain ⟨q1, q2⟩ := decP_enc hd
        refine ⟨_, [], ?_, by simp, EInv.pure (inv_nil q2), h⟩
        cases mx <;> simp only [Bool.false_eq_true, if_false, if_true] at hz <;> simp only [Bool.false_eq_true, if_false, if_true, builtinD, argsT_args hX hds, hz, TEff.enc, q1, List.map_nil]
      · simp at h
    · simp at h
  · simp at h
theorem snd (hU : UOk U) (hX : TOk X) (hT : T.Inv) {op : Op} (h : coreT X T i op ty k = some r) : Snd X T i op ty k r := by
  unfold coreT at h
  split at h
  · exact snd_move hX hT h
  · exact snd_assign hX hT h
  · exact snd_pick hX hT h
  · exact snd_alloc hX hT h
  · exact snd_box hU hX hT h
  · exact snd_build hU hX hT h
  · exact snd_buildSlice hU hX hT h
  · exact snd_load hU hX hT h
  · exact snd_store hU hX hT h
  · exact snd_nilCheck hX hT h
  · exact snd_bin hU hX hT h
  · exact snd_un hX hT h
  · exact snd_convert hX hT h
  · exact snd_makeFunc hX hT h
  · exact snd_makeMap hX hT h
  · exact snd_makeSlice hX hT h
  · exact snd_slice hX hT h
  · exact snd_fieldAddr hX hT h
  · exact snd_field hU hX hT h
  · exact snd_indexAddr hU hX hT h
  · exact snd_index hX hT h
  · exact snd_lookup hX hT h
  · exact upd_snd hU hX hT h
  · exact upd_snd hU hX hT h
  · exact snd_range hX hT h
  · exact snd_next hX hT h
  · exact snd_entry hX hT h
  · exact snd_extract hX hT h
  · rename_i b args ats
    unfold Snd core
    split at h
    · rename_i x t hx ht
      simp only [hx, ht, builtinD, argsD]; exact snd_len hX hT h
    · rename_i s x t u hx ht
      simp only [hx, ht, builtinD, argsD]; exact snd_append hX hT h
    · rename_i s x t u hx ht
      simp only [hx, ht, builtinD, argsD]; exact snd_copy hX hT h
    · exact snd_mm (mx := true) hX hT h
    · exact snd_mm (mx := false) hX hT h
    · rename_i s x t u hx ht
      simp only [hx, ht, builtinD, argsD]; exact snd_delete hX hT h
    · simp at h
  · simp at h
end
end Eng
namespace Eng
open Go
section
variable {U : Univ}
def purT (T : TS U) (d : TV U) : Option (TV U) :=
  if (d.enc.ids T.enc.objs depth).all T.fz then match d with
    | .ptr id i j => match T.objs id with
      | some (.box cs) => if i = 0 then match allM T.lf1 (cs.drop j) with
        | some ls => some (.pp ls)
        | none => none
        else none
      | _ => none
    | d => match T.lf1 d with
      | some l => some (lv l)
      | none => none
  else none
def TV.can (T : TS U) (pi : List (Id × Id)) : Nat → TV U → Option (TV U)
  | _, .v t x => some (.v t x)
  | _, .pp cs => some (.pp cs)
  | _, .nilp => some .nilp
  | _, .nilfn => some .nilfn
  | _, .dead => some .dead
  | _, .undef => some .undef
  | _, .nils t => some (.nils t)
  | _, .clip t xs => some (.clip t xs)
  | _, .full id n => match ren pi id with
    | some id' => some (.full id' n)
    | none => purT T (.full id n)
  | _, .sl id off len => match ren pi id with
    | some id' => some (.sl id' off len)
    | none => purT T (.sl id off len)
  | _, .map id => match ren pi id with
    | some id' => some (.map id')
    | none => purT T (.map id)
  | _, .it id => match ren pi id with
    | some id' => some (.it id')
    | none => none
  | _, .ptr id i j => match ren pi id with
    | some id' => some (.ptr id' i j)
    | none => purT T (.ptr id i j)
  | n + 1, .agg cs => match allM (TV.can T pi n) cs with
    | some ds => some (.agg ds)
    | none => none
  | n + 1, .tup cs => match allM (TV.can T pi n) cs with
    | some ds => some (.tup ds)
    | none => none
  | n + 1, .fn f a b => match allM (TV.can T pi n) a, allM (TV.can T pi n) b with
    | some a', some b' => some (.fn f a' b')
    | _, _ => none
  | _, _ => none
def TO.can (T : TS U) (pi : List (Id × Id)) : TO U → Option (TO U)
  | .box cs => match allM (TV.can T pi depth) cs with
    | some ds => some (.box ds)
    | none => none
  | .gone => none
  | o => some o
theorem purT_enc (hU : UOk U) {T : TS U} {d d' : TV U} (hi : d.inv T.objs) (hb : ∀ id cs, T.objs id = some (.box cs) → ∀ c ∈ cs, c.inv T.objs) (h : purT T d = some d') : D.pur T.enc.objs T.enc.fz d.enc = some d'.enc ∧ d'.fulls = [] := by
  unfold purT at h
  unfold D.pur
  split at h
  · rename_i hf
    rw [if_pos (show ((d.enc.ids T.enc.objs depth).all T.enc.fz) = true from hf)]
    split at h
    · rename_i id i' j
      split at h
      · rename_i cs ho
        split at h
        · rename_i h0
          subst h0
          split at h
          · rename_i ls hls
            simp only [Option.some.injEq] at h; subst h
            have := lf1s_enc 7 (fun c hc => hb id cs ho c (List.mem_of_mem_drop hc)) hls
            rw [encs_drop] at this
            simp only [TV.enc, depth, D.toP, enc_obj ho, encBox, if_true, this, Option.map_some]
            exact ⟨trivial, rfl⟩
          · simp at h
        · simp at h
      · simp at h
    · split at h
      · rename_i l hl
        simp only [Option.some.injEq] at h; subst h
        rw [lf1_enc hi hl depth]
        exact ⟨rfl, rfl⟩
      · simp at h
  · simp at h
theorem can_p (lk : Id → Option Obj) (fz : Id → Bool) (pi : List (Id × Id)) (n : Nat) (x : P) : D.can lk fz pi n (.p x) = some (.p x) := by cases n <;> rfl
theorem canT_enc (hU : UOk U) {T : TS U} (hb : ∀ id cs, T.objs id = some (.box cs) → ∀ c ∈ cs, c.inv T.objs) {pi : List (Id × Id)} : ∀ (n : Nat) (d d' : TV U), d.inv T.objs → d.can T pi n = some d' →
    d.enc.can T.enc.objs T.enc.fz pi n = some d'.enc ∧ ∀ q ∈ d'.fulls, ∃ id, ren pi id = some q.1 ∧ (id, q.2) ∈ d.fulls := by
  have pur : ∀ (d d' : TV U), d.inv T.objs → purT T d = some d' → D.pur T.enc.objs T.enc.fz d.enc = some d'.enc ∧ ∀ q ∈ d'.fulls, ∃ id, ren pi id = some q.1 ∧ (id, q.2) ∈ d.fulls := fun d d' hi h => by
    obtain ⟨h1, h2⟩ := purT_enc hU hi hb h
    exact ⟨h1, by rw [h2]; simp⟩
  have base : ∀ (n : Nat) (d d' : TV U), (∀ cs, d ≠ .agg cs) → (∀ cs, d ≠ .tup cs) → (∀ f a b, d ≠ .fn f a b) → d.inv T.objs → d.can T pi n = some d' →
      d.enc.can T.enc.objs T.enc.fz pi n = some d'.enc ∧ ∀ q ∈ d'.fulls, ∃ id, ren pi id = some q.1 ∧ (id, q.2) ∈ d.fulls := by
    intro n d d' h1 h2 h3 hi h
    cases d with
    | v t x => simp only [TV.can, Option.some.injEq] at h; subst h; exact ⟨can_p _ _ _ _ _, by simp [TV.fulls]⟩
    | pp cs => simp only [TV.can, Option.some.injEq] at h; subst h; exact ⟨can_p _ _ _ _ _, by simp [TV.fulls]⟩
    | nilp => simp only [TV.can, Option.some.injEq] at h; subst h; exact ⟨can_p _ _ _ _ _, by simp [TV.fulls]⟩
    | nilfn => simp only [TV.can, Option.some.injEq] at h; subst h; exact ⟨can_p _ _ _ _ _, by simp [TV.fulls]⟩
    | dead => simp only [TV.can, Option.some.injEq] at h; subst h; exact ⟨by cases n <;> rfl, by simp [TV.fulls]⟩
    | undef => simp only [TV.can, Option.some.injEq] at h; subst h; exact ⟨by cases n <;> rfl, by simp [TV.fulls]⟩
    | nils t => simp only [TV.can, Option.some.injEq] at h; subst h; exact ⟨by cases n <;> rfl, by simp [TV.fulls]⟩
    | clip t xs => simp only [TV.can, Option.some.injEq] at h; subst h; exact ⟨by cases n <;> rfl, by simp [TV.fulls]⟩
    | full id m =>
      simp only [TV.can] at h
      split at h
      · rename_i id' hr
        simp only [Option.some.injEq] at h; subst h
        refine ⟨by cases n <;> simp only [TV.enc, D.can, hr], fun q hq => ?_⟩
        simp only [TV.fulls, List.mem_singleton] at hq; subst hq
        exact ⟨id, hr, by simp [TV.fulls]⟩
      · rename_i hr
        obtain ⟨q1, q2⟩ := pur _ _ hi h
        exact ⟨by cases n <;> simp only [TV.enc, D.can, hr] <;> exact q1, q2⟩
    | sl id off len =>
      simp only [TV.can] at h
      split at h
      · rename_i id' hr
        simp only [Option.some.injEq] at h; subst h
        exact ⟨by cases n <;> simp only [TV.enc, D.can, hr], by simp [TV.fulls]⟩
      · rename_i hr
        obtain ⟨q1, q2⟩ := pur _ _ hi h
        exact ⟨by cases n <;> simp only [TV.enc, D.can, hr] <;> exact q1, q2⟩
    | map id =>
      simp only [TV.can] at h
      split at h
      · rename_i id' hr
        simp only [Option.some.injEq] at h; subst h
        exact ⟨by cases n <;> simp only [TV.enc, D.can, hr], by simp [TV.fulls]⟩
      · rename_i hr
        obtain ⟨q1, q2⟩ := pur _ _ hi h
        exact ⟨by cases n <;> simp only [TV.enc, D.can, hr] <;> exact q1, q2⟩
    | it id =>
      simp only [TV.can] at h
      split at h
      · rename_i id' hr
        simp only [Option.some.injEq] at h; subst h
        exact ⟨by cases n <;> simp only [TV.enc, D.can, hr], by simp [TV.fulls]⟩
      · simp at h
    | ptr id a j =>
      simp only [TV.can] at h
      split at h
      · rename_i id' hr
        simp only [Option.some.injEq] at h; subst h
        exact ⟨by cases n <;> simp only [TV.enc, D.can, hr], by simp [TV.fulls]⟩
      · rename_i hr
        obtain ⟨q1, q2⟩ := pur _ _ hi h
        exact ⟨by cases n <;> simp only [TV.enc, D.can, hr] <;> exact q1, q2⟩
    | agg cs => exact absurd rfl (h1 cs)
    | tup cs => exact absurd rfl (h2 cs)
    | fn f a b => exact absurd rfl (h3 f a b)
  intro n
  induction n with
  | zero =>
    intro d d' hi h
    refine base 0 d d' ?_ ?_ ?_ hi h
    all_goals (intros; intro hc; subst hc; simp [TV.can] at h)
  | succ n ih =>
    have lst : ∀ (cs ds : List (TV U)), (∀ c ∈ cs, c.inv T.objs) → allM (TV.can T pi n) cs = some ds → allM (D.can T.enc.objs T.enc.fz pi n) (TV.encs cs) = some (TV.encs ds) ∧ ∀ q ∈ TV.fullsL ds, ∃ id, ren pi id = some q.1 ∧ (id, q.2) ∈ TV.fullsL cs := by
      intro cs
      induction cs with
      | nil => intro ds _ h; simp [allM] at h; subst h; exact ⟨rfl, by simp [TV.fullsL]⟩
      | cons c cs ihc =>
        intro ds hi h
        simp only [allM] at h
        split at h
        · rename_i y ys h1 h2
          simp only [Option.some.injEq] at h; subst h
          obtain ⟨q1, q2⟩ := ih c y (hi c (by simp)) h1
          obtain ⟨q3, q4⟩ := ihc ys (fun a ha => hi a (by simp [ha])) h2
          refine ⟨by simp only [TV.encs, allM, q1, q3], fun q hq => ?_⟩
          simp only [TV.fullsL, List.mem_append] at hq ⊢
          rcases hq with hq | hq
          · obtain ⟨id, a1, a2⟩ := q2 q hq; exact ⟨id, a1, .inl a2⟩
          · obtain ⟨id, a1, a2⟩ := q4 q hq; exact ⟨id, a1, .inr a2⟩
        · simp at h
    intro d d' hi h
    cases d with
    | agg cs =>
      simp only [TV.can] at h
      split at h
      · rename_i ds hds
        simp only [Option.some.injEq] at h; subst h
        obtain ⟨q1, q2⟩ := lst cs ds (agg_inv hi) hds
        refine ⟨?_, q2⟩
        rw [TV.enc, TV.enc]
        rcases mkAgg_cases (TV.encs cs) with ⟨ps, p1, p2⟩ | p2
        · rw [p2, can_p]
          rw [p1] at q1
          have : allM (D.can T.enc.objs T.enc.fz pi n) (ps.map .p) = some (ps.map .p) := by
            clear q1 p1 p2
            induction ps with
            | nil => rfl
            | cons x r ih => simp only [List.map_cons, allM, can_p, ih]
          rw [this, Option.some.injEq] at q1
          rw [← q1, mkAgg_map]
        · rw [p2]; simp only [D.can, q1]
      · simp at h
    | tup cs =>
      simp only [TV.can] at h
      split at h
      · rename_i ds hds
        simp only [Option.some.injEq] at h; subst h
        obtain ⟨q1, q2⟩ := lst cs ds (fun c hc q hq => hi q (fullsL_mem.2 ⟨c, hc, hq⟩)) hds
        exact ⟨by simp only [TV.enc, D.can, q1], q2⟩
      · simp at h
    | fn f a b =>
      simp only [TV.can] at h
      split at h
      · rename_i a' b' ha hb'
        simp only [Option.some.injEq] at h; subst h
        obtain ⟨q1, q2⟩ := lst a a' (fun c hc q hq => hi q (by simp only [TV.fulls, List.mem_append]; exact .inl (fullsL_mem.2 ⟨c, hc, hq⟩))) ha
        obtain ⟨q3, q4⟩ := lst b b' (fun c hc q hq => hi q (by simp only [TV.fulls, List.mem_append]; exact .inr (fullsL_mem.2 ⟨c, hc, hq⟩))) hb'
        refine ⟨?_, fun q hq => ?_⟩
        · rw [TV.enc, TV.enc]
          unfold fnD
          cases hpa : allM D.pure? (TV.encs a) with
          | none => simp only [D.can, q1, q3]; rfl
          | some x =>
            cases hpb : allM D.pure? (TV.encs b) with
            | none => simp only [D.can, q1, q3]; rfl
            | some y =>
              have key : ∀ (ps : List P), allM (D.can T.enc.objs T.enc.fz pi n) (ps.map .p) = some (ps.map .p) := by
                intro ps
                induction ps with
                | nil => rfl
                | cons x r ih => simp only [List.map_cons, allM, can_p, ih]
              rw [allM_pure hpa, key, Option.some.injEq] at q1
              rw [allM_pure hpb, key, Option.some.injEq] at q3
              rw [← q1, ← q3, allM_pure_map, allM_pure_map]
              rfl
        · simp only [TV.fulls, List.mem_append] at hq ⊢
          rcases hq with hq | hq
          · obtain ⟨id, a1, a2⟩ := q2 q hq; exact ⟨id, a1, .inl a2⟩
          · obtain ⟨id, a1, a2⟩ := q4 q hq; exact ⟨id, a1, .inr a2⟩
      · simp at h
    | _ => exact base (n + 1) _ _ (by simp) (by simp) (by simp) hi h
def mkT (ep : Nat) (ls : List (Nat × TV U)) (lo : List (Id × TO U)) : TS U := { slots := assoc .dead ls, objs := assocO lo, fz := fun _ => false, ep := ep }
theorem assoc_zip_enc : ∀ (ks : List Nat) (ds : List (TV U)) (x : Nat), (assoc TV.dead (ks.zip ds) x).enc = assoc D.dead (ks.zip (TV.encs ds)) x
  | [], ds, x => rfl
  | k :: ks, [], x => rfl
  | k :: ks, d :: ds, x => by
    simp only [List.zip_cons_cons, TV.encs, assoc]
    split
    · rfl
    · exact assoc_zip_enc ks ds x
theorem assocO_zip_enc : ∀ (ids : List Id) (os : List (TO U)) (x : Id), oenc (assocO (ids.zip os) x) = assocO (ids.zip (os.map TO.enc)) x
  | [], os, x => rfl
  | k :: ks, [], x => rfl
  | k :: ks, d :: ds, x => by
    simp only [List.zip_cons_cons, List.map_cons, assocO]
    split
    · rfl
    · exact assocO_zip_enc ks ds x
theorem mkT_enc (ep : Nat) (ks : List Nat) (ds : List (TV U)) (ids : List Id) (os : List (TO U)) : (mkT ep (ks.zip ds) (ids.zip os)).enc = mkS ep (ks.zip (TV.encs ds)) (ids.zip (os.map TO.enc)) := by
  refine st_ext ?_ ?_ rfl rfl
  · funext x; exact assoc_zip_enc ks ds x
  · funext x; exact assocO_zip_enc ids os x
mutual
def TV.own (T : TS U) : TV U → List Id
  | .full id _ | .sl id _ _ | .map id | .it id | .ptr id _ _ => if T.fz id then [] else [id]
  | .agg cs => TV.ownL T cs
  | .tup cs => TV.ownL T cs
  | .fn _ a b => TV.ownL T a ++ TV.ownL T b
  | _ => []
def TV.ownL (T : TS U) : List (TV U) → List Id
  | [] => []
  | d :: r => d.own T ++ TV.ownL T r
end
def collect (T : TS U) : Nat → List Id → List Id → List Id
  | 0, _, acc => acc
  | _ + 1, [], acc => acc
  | n + 1, id :: r, acc => if acc.contains id then collect T n r acc else match T.objs id with
    | some (.box cs) => collect T n (r ++ TV.ownL T cs) (acc ++ [id])
    | some _ => collect T n r (acc ++ [id])
    | none => collect T n r acc
def names (lent : List Nat) : Nat → List Id → List (Id × Id)
  | _, [] => []
  | c, id :: r => if id.1 = 0 ∧ id.2.2 = 0 ∧ lent.contains id.2.1 = true then (id, id) :: names lent c r else ((0, c, 1), id) :: names lent (c + 1) r
def newIds (lent : List Nat) (n : Nat) : List Id := lent.map (fun k => (0, k, 0)) ++ (List.range' 1 (n - lent.length)).map fun c => (0, c, 1)
def isHere : Option (TO U) → Bool
  | some .gone => false
  | some _ => true
  | none => false
def canonT (T : TS U) (lent live frz : List Nat) : Option (List (TV U) × List (TO U)) :=
  let fs := frz.flatMap fun s => (T.slots s).enc.ids T.enc.objs depth
  let T1 := T.freezeL fs
  let pi := names lent 1 (collect T1 200 (lent.map (fun k => (0, k, 0)) ++ TV.ownL T1 (live.map T1.slots)) [])
  if (fs.all fun id => isHere (T.objs id)) && piOk T1.enc pi 1 && piKeep pi then
    match allM (fun t => (T1.slots t).can T1 pi depth) live, allM (fun x : Id × Id => match T1.objs x.2 with | some o => o.can T1 pi | none => none) pi with
    | some ds, some os => if pi.map (·.1) = newIds lent os.length then some (ds, os) else none
    | _, _ => none
  else none
def mkC (lent live : List Nat) (ds : List (TV U)) (os : List (TO U)) : TS U := mkT 1 (live.zip ds) ((newIds lent os.length).zip os)
theorem ren_of_pi {pi : List (Id × Id)} (hn : nodupB (pi.map (·.1)) = true) {os : List (TO U)} {new old : Id} (h : ren pi old = some new) {j : Nat} (hj : pi[j]? = some (new, old)) : assocO ((pi.map (·.1)).zip os) new = os[j]? := by
  clear h
  induction pi generalizing os j with
  | nil => simp at hj
  | cons x r ih =>
    obtain ⟨a, b⟩ := x
    simp only [List.map_cons, nodupB, Bool.and_eq_true, List.all_eq_true, decide_eq_true_eq] at hn
    cases os with
    | nil => simp [assocO]
    | cons o os =>
      simp only [List.map_cons, List.zip_cons_cons, assocO]
      cases j with
      | zero => simp only [List.getElem?_cons_zero, Option.some.injEq, Prod.mk.injEq] at hj; simp [hj.1]
      | succ j =>
        simp only [List.getElem?_cons_succ] at hj ⊢
        have hne : new ≠ a := fun he => by
          have := hn.1 new (List.mem_map.2 ⟨_, List.mem_of_getElem? hj, rfl⟩)
          exact this he
        rw [if_neg hne]
        exact ih hn.2 hj
theorem freezeT_inv {T : TS U} (h : T.Inv) (fs : List Id) : (T.freezeL fs).Inv := ⟨h.slots, h.objs⟩
theorem canonT_awp (hU : UOk U) {C : Ctx} {r : Fm} {G : Goal} {k : List Item} {T : TS U} (hT : T.Inv) {lent live frz : List Nat} {ds : List (TV U)} {os : List (TO U)} (h : canonT T lent live frz = some (ds, os)) :
    (mkC lent live ds os).Inv ∧ (AWP C r G k (mkC lent live ds os).enc → AWP C r G k T.enc) := by
  unfold canonT at h
  dsimp only at h
  generalize hfs : (frz.flatMap fun s => (T.slots s).enc.ids T.enc.objs depth) = fs at h
  generalize hpi : names lent 1 (collect (T.freezeL fs) 200 (lent.map (fun k => (0, k, 0)) ++ TV.ownL (T.freezeL fs) (live.map (T.freezeL fs).slots)) []) = pi at h
  split at h
  · rename_i hc
    simp only [Bool.and_eq_true, List.all_eq_true] at hc
    obtain ⟨⟨hhere, hok⟩, hkeep⟩ := hc
    split at h
    · rename_i ds' os' hds hos
      split at h
      · rename_i hids
        simp only [Option.some.injEq, Prod.mk.injEq] at h
        obtain ⟨rfl, rfl⟩ := h
        have hT1 := freezeT_inv hT fs
        have hb : ∀ id cs, (T.freezeL fs).objs id = some (.box cs) → ∀ c ∈ cs, c.inv (T.freezeL fs).objs := fun id cs ho => hT1.objs id _ ho
        have hn1 : nodupB (pi.map (·.1)) = true := by
          simp only [piOk, Bool.and_eq_true] at hok; exact hok.1.1
        have pdsL : allM (fun t => ((T.freezeL fs).enc.slots t).can (T.freezeL fs).enc.objs (T.freezeL fs).enc.fz pi depth) live = some (TV.encs ds') ∧ ∀ d ∈ ds', ∃ t ∈ live, ∀ q ∈ d.fulls, ∃ id, ren pi id = some q.1 ∧ (id, q.2) ∈ ((T.freezeL fs).slots t).fulls := by
          clear hpi hids
          induction live generalizing ds' with
          | nil => simp [allM] at hds; subst hds; exact ⟨rfl, by simp⟩
          | cons t live ih =>
            simp only [allM] at hds
            split at hds
            · rename_i y ys h1 h2
              simp only [Option.some.injEq] at hds; subst hds
              obtain ⟨q1, q2⟩ := canT_enc hU hb depth _ _ (hT1.slots t) h1
              obtain ⟨q3, q4⟩ := ih ys h2
              refine ⟨by simp only [allM, TV.encs, q3]; rw [show ((T.freezeL fs).enc.slots t) = ((T.freezeL fs).slots t).enc from rfl, q1], fun d hd => ?_⟩
              rcases List.mem_cons.1 hd with rfl | hd
              · exact ⟨t, by simp, q2⟩
              · obtain ⟨t', ht', hq⟩ := q4 d hd; exact ⟨t', by simp [ht'], hq⟩
            · simp at hds
        have objC : ∀ (l : List (Id × Id)) (ol : List (TO U)), allM (fun x : Id × Id => match (T.freezeL fs).objs x.2 with | some o => o.can (T.freezeL fs) pi | none => none) l = some ol →
            allM (fun x : Id × Id => match (T.freezeL fs).enc.objs x.2 with | some o => o.can (T.freezeL fs).enc.objs (T.freezeL fs).enc.fz pi | none => none) l = some (ol.map TO.enc) ∧
            ∀ (j : Nat) (x : Id × Id) (o : TO U), l[j]? = some x → ol[j]? = some o → ∃ o0, (T.freezeL fs).objs x.2 = some o0 ∧ (∀ t xs fix, o = .arr t xs fix → o0 = o) ∧ ∀ cs, o = .box cs → ∃ cs0, o0 = .box cs0 ∧ ∀ d ∈ cs, ∃ d0 ∈ cs0, ∀ q ∈ d.fulls, ∃ id, ren pi id = some q.1 ∧ (id, q.2) ∈ d0.fulls := by
          intro l
          induction l with
          | nil => intro ol h; simp [allM] at h; subst h; exact ⟨rfl, by simp⟩
          | cons x l ih =>
            intro ol h
            simp only [allM] at h
            split at h
            · rename_i o ol' h1 h2
              simp only [Option.some.injEq] at h; subst h
              obtain ⟨q3, q4⟩ := ih ol' h2
              split at h1
              · rename_i o0 ho
                have he : (T.freezeL fs).enc.objs x.2 = some o0.enc := enc_obj ho
                have main : o0.enc.can (T.freezeL fs).enc.objs (T.freezeL fs).enc.fz pi = some o.enc ∧ ((∀ t xs fix, o = .arr t xs fix → o0 = o) ∧ ∀ cs, o = .box cs → ∃ cs0, o0 = .box cs0 ∧ ∀ d ∈ cs, ∃ d0 ∈ cs0, ∀ q ∈ d.fulls, ∃ id, ren pi id = some q.1 ∧ (id, q.2) ∈ d0.fulls) := by
                  cases o0 with
                  | box cs0 =>
                    simp only [TO.can] at h1
                    split at h1
                    · rename_i cs1 hcs
                      simp only [Option.some.injEq] at h1; subst h1
                      have lst : ∀ (c0 c1 : List (TV U)), (∀ c ∈ c0, c.inv (T.freezeL fs).objs) → allM (TV.can (T.freezeL fs) pi depth) c0 = some c1 → allM (D.can (T.freezeL fs).enc.objs (T.freezeL fs).enc.fz pi depth) (TV.encs c0) = some (TV.encs c1) ∧ ∀ d ∈ c1, ∃ d0 ∈ c0, ∀ q ∈ d.fulls, ∃ id, ren pi id = some q.1 ∧ (id, q.2) ∈ d0.fulls := by
                        intro c0
                        induction c0 with
                        | nil => intro c1 _ h; simp [allM] at h; subst h; exact ⟨rfl, by simp⟩
                        | cons c c0 ihc =>
                          intro c1 hi h
                          simp only [allM] at h
                          split at h
                          · rename_i y ys h1 h2
                            simp only [Option.some.injEq] at h; subst h
                            obtain ⟨a1, a2⟩ := canT_enc hU hb depth c y (hi c (by simp)) h1
                            obtain ⟨a3, a4⟩ := ihc ys (fun a ha => hi a (by simp [ha])) h2
                            refine ⟨by simp only [TV.encs, allM, a1, a3], fun d hd => ?_⟩
                            rcases List.mem_cons.1 hd with rfl | hd
                            · exact ⟨c, by simp, a2⟩
                            · obtain ⟨d0, hd0, hq⟩ := a4 d hd; exact ⟨d0, by simp [hd0], hq⟩
                          · simp at h
                      obtain ⟨a1, a2⟩ := lst cs0 cs1 (hb x.2 cs0 ho) hcs
                      refine ⟨by simp only [encBox, Obj.can, a1], (fun t xs fix hq => by cases hq), fun cs hq => ?_⟩
                      cases hq
                      exact ⟨cs0, rfl, a2⟩
                    · simp at h1
                  | gone => simp [TO.can] at h1
                  | arr t xs fix => simp only [TO.can, Option.some.injEq] at h1; subst h1; exact ⟨rfl, fun _ _ _ _ => rfl, fun cs hq => by cases hq⟩
                  | map a b kv => simp only [TO.can, Option.some.injEq] at h1; subst h1; exact ⟨rfl, fun _ _ _ _ => rfl, fun cs hq => by cases hq⟩
                  | sit s p => simp only [TO.can, Option.some.injEq] at h1; subst h1; exact ⟨rfl, fun _ _ _ _ => rfl, fun cs hq => by cases hq⟩
                  | mit a b r c => simp only [TO.can, Option.some.injEq] at h1; subst h1; exact ⟨rfl, fun _ _ _ _ => rfl, fun cs hq => by cases hq⟩
                refine ⟨by simp only [allM, he, main.1, q3, List.map_cons], fun j y o' hj hj' => ?_⟩
                cases j with
                | zero =>
                  simp only [List.getElem?_cons_zero, Option.some.injEq] at hj hj'
                  subst hj hj'
                  exact ⟨o0, ho, main.2⟩
                | succ j => exact q4 j y o' (by simpa using hj) (by simpa using hj')
              · simp at h1
            · simp at h
        obtain ⟨o1, o2⟩ := objC pi os' hos
        have hlen : os'.length = pi.length := (allM_some hos).1
        have carry : ∀ q, (∃ id, ren pi id = some q.1 ∧ lenIs (T.freezeL fs).objs (id, q.2)) → lenIs (mkC lent live ds' os').objs q := by
          rintro q ⟨id, hr, o, ho, hl⟩
          have hm := ren_mem hr
          obtain ⟨j, hj⟩ := List.mem_iff_getElem?.1 hm
          have hjl : j < os'.length := by rw [hlen]; exact (List.getElem?_eq_some_iff.1 hj).1
          have hoj : os'[j]? = some os'[j] := by simp [hjl]
          obtain ⟨o0, h0, h00, _⟩ := o2 j _ _ hj hoj
          refine ⟨os'[j], ?_, fun t xs fix he => ?_⟩
          · show assocO ((newIds lent os'.length).zip os') q.1 = _
            rw [← hids, ren_of_pi hn1 hr hj, hoj]
          · have := h00 t xs fix he
            rw [he] at this
            dsimp only at h0 ho
            rw [h0, Option.some.injEq] at ho
            exact hl t xs fix (by rw [← ho, this])
        refine ⟨⟨fun kk => ?_, fun id o ho => ?_⟩, fun ha => ?_⟩
        · show TV.inv _ (assoc TV.dead (live.zip ds') kk)
          rcases assoc_mem TV.dead (live.zip ds') kk with hq | hq
          · rw [hq]; exact inv_nil rfl
          · have hm := (List.of_mem_zip hq).2
            obtain ⟨t, _, hf⟩ := pdsL.2 _ hm
            intro q hq'
            obtain ⟨id, h1, h2⟩ := hf q hq'
            exact carry q ⟨id, h1, hT1.slots t _ h2⟩
        · have ho' : assocO ((newIds lent os'.length).zip os') id = some o := ho
          have hmem := List.of_mem_zip (assocO_mem ho')
          cases o with
          | box cs =>
            obtain ⟨j, hj⟩ := List.mem_iff_getElem?.1 hmem.2
            have hjl : j < pi.length := by rw [← hlen]; exact (List.getElem?_eq_some_iff.1 hj).1
            obtain ⟨o0, h0, _, hbx⟩ := o2 j pi[j] _ (by simp [hjl]) hj
            obtain ⟨cs0, rfl, hf⟩ := hbx cs rfl
            intro d hd q hq
            obtain ⟨d0, hd0, hf⟩ := hf d hd
            obtain ⟨id', h1, h2⟩ := hf q hq
            exact carry q ⟨id', h1, hb _ _ h0 d0 hd0 _ h2⟩
          | _ => trivial
        · intro ρ S a w hrep hd
          obtain ⟨S', _, _, hfr, _⟩ := hrep.freeze fs (fun f hf => by
            have := hhere f hf
            unfold isHere at this
            split at this
            · simp at this
            · rename_i o hg ho
              exact ⟨o.enc, enc_obj ho, by
                intro he
                cases o with
                | gone => exact hg rfl
                | _ => simp [TO.enc] at he⟩
            · simp at this)
          rw [← Eng.freezeL_enc] at hfr
          have h2 := hfr.canon (Nat.le_refl 1) hok hkeep o1 pdsL.1
          rw [show (pi.map (·.1)) = newIds lent os'.length from hids] at h2
          unfold mkC at ha
          rw [mkT_enc] at ha
          exact ha _ S' a w (h2.weakX fun _ h => h.elim) hd
      · simp at h
    · simp at h
  · simp at h
end
end Eng
namespace Eng
open Go
section
variable {U : Univ}
inductive TQ (U : Univ) where
  | l (x : Lf U.car)
  | ptr (cs : List (Lf U.car))
  | fn (f : Nat) (first caps : List (TQ U))
  | nilp | nilfn
mutual
def TQ.enc : TQ U → P
  | .l x => U.encL x
  | .ptr cs => .ptr (cs.map U.encL)
  | .fn f a b => .fn f (TQ.encs a) (TQ.encs b)
  | .nilp => .nilp
  | .nilfn => .nilfn
def TQ.encs : List (TQ U) → List P
  | [] => []
  | q :: r => q.enc :: TQ.encs r
end
mutual
def TQ.tv : TQ U → TV U
  | .l x => lv x
  | .ptr cs => .pp cs
  | .fn f a b => .fn f (TQ.tvs a) (TQ.tvs b)
  | .nilp => .nilp
  | .nilfn => .nilfn
def TQ.tvs : List (TQ U) → List (TV U)
  | [] => []
  | q :: r => q.tv :: TQ.tvs r
end
inductive TArg (U : Univ) where
  | p (q : TQ U)
  | box (cs : List (Lf U.car))
  | arr (t : Ty) (xs : List (El U.car t))
  | map (k v : Ty) (kv : List (El U.car k × El U.car v))
  | part (t : Ty) (xs : List (El U.car t)) (off len : Nat)
def TArg.enc : TArg U → Arg
  | .p q => .p q.enc
  | .box cs => .box (cs.map U.encL)
  | .arr t xs => .arr (U.tsize t) (xs.map (U.encE t))
  | .map k v kv => .map k.td (kv.map fun e => (U.encE k e.1, U.encE v e.2))
  | .part t xs off len => .part (U.tsize t) (xs.map (U.encE t)) off len
inductive TRV (U : Univ) where
  | p (l : Lf U.car)
  | own (t : Ty) (xs : List (El U.car t))
  | box (cs : List (Lf U.car))
  | map (k v : Ty) (kv : List (El U.car k × El U.car v))
  | view (k off len : Nat)
def TRV.enc : TRV U → RV
  | .p l => .p (U.encL l)
  | .own t xs => .own (U.tsize t) (xs.map (U.encE t))
  | .box cs => .box (cs.map U.encL)
  | .map k v kv => .map k.td (kv.map fun e => (U.encE k e.1, U.encE v e.2))
  | .view k off len => .view k off len
structure TRet (U : Univ) where
  res : List (TRV U)
  outs : List (Nat × TArg U) := []
def TRet.enc (r : TRet U) : Ret := ⟨r.res.map TRV.enc, r.outs.map fun x => (x.1, x.2.enc)⟩
structure SigR (U : Univ) where
  α : Type
  o : Option α
  give : α → TRet U
structure TSig (U : Univ) where
  pts : List Nat
  ms : List AM
  hs : List (Option Nat)
  sig : List (TArg U) → Option (SigR U)
def readQ (T : TS U) (h : Option Nat) : Nat → TV U → Option (TQ U)
  | _, .pp cs => some (.ptr cs)
  | _, .nilp => some .nilp
  | _, .nilfn => some .nilfn
  | _, .ptr id i j => match T.objs id with
    | some (.box cs) => if i = 0 then match allM T.lf1 (cs.drop j) with
      | some ls => some (.ptr ls)
      | none => none
      else none
    | _ => none
  | n + 1, .fn f a b => match allM (readQ T none n) a, allM (readQ T none n) b with
    | some a', some b' => some (.fn f a' b')
    | _, _ => none
  | _, d => match T.lf h d with
    | some l => some (.l l)
    | none => none
theorem qencs_map : ∀ l : List (TQ U), TQ.encs l = l.map TQ.enc
  | [] => rfl
  | q :: r => by rw [TQ.encs, qencs_map r]; rfl
mutual
theorem tv_enc : ∀ q : TQ U, q.tv.enc = .p q.enc ∧ q.tv.fulls = []
  | .l x => ⟨rfl, rfl⟩
  | .ptr cs => ⟨rfl, rfl⟩
  | .nilp => ⟨rfl, rfl⟩
  | .nilfn => ⟨rfl, rfl⟩
  | .fn f a b => by
    obtain ⟨a1, a2⟩ := tvs_enc a
    obtain ⟨b1, b2⟩ := tvs_enc b
    refine ⟨?_, by simp only [TQ.tv, TV.fulls, a2, b2, List.append_nil]⟩
    simp only [TQ.tv, TV.enc, a1, b1, fnD, allM_pure_map, TQ.enc]
theorem tvs_enc : ∀ l : List (TQ U), TV.encs (TQ.tvs l) = (TQ.encs l).map .p ∧ TV.fullsL (TQ.tvs l) = []
  | [] => ⟨rfl, rfl⟩
  | q :: r => by
    obtain ⟨a1, a2⟩ := tv_enc q
    obtain ⟨b1, b2⟩ := tvs_enc r
    exact ⟨by simp only [TQ.tvs, TV.encs, a1, b1, TQ.encs, List.map_cons], by simp only [TQ.tvs, TV.fullsL, a2, b2, List.append_nil]⟩
end
theorem readQ_enc (hU : UOk U) {T : TS U} (hT : T.Inv) : ∀ (n : Nat) (h : Option Nat) (d : TV U) (q : TQ U), d.inv T.objs → readQ T h n d = some q → d.enc.toP T.enc.objs (n + 1) = some q.enc := by
  have base : ∀ (n : Nat) (h : Option Nat) (d : TV U) (q : TQ U), (∀ f a b, d ≠ .fn f a b) → d.inv T.objs → readQ T h n d = some q → d.enc.toP T.enc.objs (n + 1) = some q.enc := by
    intro n h d q hne hi hr
    have dflt : (match T.lf h d with | some l => some (TQ.l l) | none => none) = some q → d.enc.toP T.enc.objs (n + 1) = some q.enc := fun hq => by
      split at hq
      · rename_i l hl
        simp only [Option.some.injEq] at hq; subst hq
        exact lf_enc hU hi hl n
      · simp at hq
    cases d with
    | pp cs => simp only [readQ, Option.some.injEq] at hr; subst hr; simp [TV.enc, TQ.enc]
    | nilp => simp only [readQ, Option.some.injEq] at hr; subst hr; simp [TV.enc, TQ.enc]
    | nilfn => simp only [readQ, Option.some.injEq] at hr; subst hr; simp [TV.enc, TQ.enc]
    | ptr id i j =>
      simp only [readQ] at hr
      split at hr
      · rename_i cs ho
        split at hr
        · rename_i h0
          subst h0
          split at hr
          · rename_i ls hls
            simp only [Option.some.injEq] at hr; subst hr
            have := lf1s_enc n (fun c hc => hT.objs id _ ho c (List.mem_of_mem_drop hc)) hls
            rw [encs_drop] at this
            simp only [TV.enc, D.toP, enc_obj ho, encBox, if_true, this, Option.map_some, TQ.enc]
          · simp at hr
        · simp at hr
      · simp at hr
    | fn f a b => exact absurd rfl (hne f a b)
    | _ => cases n <;> exact dflt hr
  intro n
  induction n with
  | zero =>
    intro h d q hi hr
    cases d with
    | fn f a b => simp [readQ, TS.lf, TS.lf1] at hr
    | _ => exact base 0 h _ q (by simp) hi hr
  | succ n ih =>
    intro h d q hi hr
    cases d with
    | fn f a b =>
      simp only [readQ] at hr
      split at hr
      · rename_i a' b' ha hb
        simp only [Option.some.injEq] at hr; subst hr
        have lst : ∀ (l : List (TV U)) (l' : List (TQ U)), (∀ c ∈ l, c.inv T.objs) → allM (readQ T none n) l = some l' → allM (D.toP T.enc.objs (n + 1)) (TV.encs l) = some (TQ.encs l') := by
          intro l
          induction l with
          | nil => intro l' _ h; simp [allM] at h; subst h; rfl
          | cons c l ihl =>
            intro l' hi h
            simp only [allM] at h
            split at h
            · rename_i y ys h1 h2
              simp only [Option.some.injEq] at h; subst h
              simp only [TV.encs, allM, ih none c y (hi c (by simp)) h1, ihl ys (fun a ha => hi a (by simp [ha])) h2, TQ.encs]
            · simp at h
        have la := lst a a' (fun c hc q hq => hi q (by simp only [TV.fulls, List.mem_append]; exact .inl (fullsL_mem.2 ⟨c, hc, hq⟩))) ha
        have lb := lst b b' (fun c hc q hq => hi q (by simp only [TV.fulls, List.mem_append]; exact .inr (fullsL_mem.2 ⟨c, hc, hq⟩))) hb
        rw [TV.enc, TQ.enc]
        unfold fnD
        have pu : ∀ (ps : List P), allM (D.toP T.enc.objs (n + 1)) (ps.map .p) = some ps := by
          intro ps
          induction ps with
          | nil => rfl
          | cons x r ih => simp only [List.map_cons, allM, toP_p, ih]
        cases hpa : allM D.pure? (TV.encs a) with
        | none => simp only [D.toP, la, lb]
        | some x =>
          cases hpb : allM D.pure? (TV.encs b) with
          | none => simp only [D.toP, la, lb]
          | some y =>
            rw [allM_pure hpa, pu, Option.some.injEq] at la
            rw [allM_pure hpb, pu, Option.some.injEq] at lb
            simp only [toP_p, la, lb]
      · simp at hr
    | _ => exact base (n + 1) h _ q (by simp) hi hr
structure AET (U : Univ) where
  arg : TArg U
  fs : List Id := []
  id : Option Id := none
def argT (T : TS U) (m : AM) (h : Option Nat) (d : TV U) : Option (AET U) :=
  match m, d with
  | .p, d => match readQ T h 7 d with
    | some q => some { arg := .p q, fs := d.enc.ids T.enc.objs depth }
    | none => none
  | .lend, .ptr id 0 0 => match T.objs id with
    | some (.box ds) => match allM T.lf1 ds with
      | some ls => some { arg := .box ls, fs := (TV.encs ds).flatMap fun d => d.ids T.enc.objs depth, id := some id }
      | none => none
    | _ => none
  | .lend, .full id _ => match T.objs id with
    | some (.arr t xs false) => some { arg := .arr t xs, id := some id }
    | _ => none
  | .lend, .map id => match T.objs id with
    | some (.map k v kv) => some { arg := .map k v kv, id := some id }
    | _ => none
  | .part, .sl id off len => match T.objs id with
    | some (.arr t xs false) => some { arg := .part t xs off len, id := some id }
    | _ => none
  | _, _ => none
def AET.ae (a : AET U) (cs : List Bool) : AE := { arg := a.arg.enc, fs := a.fs, id := a.id, cond := cs }
theorem lf1s_depth {T : TS U} {cs : List (TV U)} {ls : List (Lf U.car)} (hi : ∀ d ∈ cs, d.inv T.objs) (h : allM T.lf1 cs = some ls) : allM (fun d => D.toP T.enc.objs depth d) (TV.encs cs) = some (ls.map U.encL) := lf1s_enc depth hi h
theorem argT_ae (hU : UOk U) {T : TS U} (hT : T.Inv) {m : AM} {h : Option Nat} {d : TV U} {a : AET U} (hi : d.inv T.objs) (hr : argT T m h d = some a) : ∃ cs, argE T.enc m d.enc = some (a.ae cs) ∧ ∀ q ∈ cs, q = true := by
  unfold argT at hr
  split at hr
  · split at hr
    · rename_i q hq
      simp only [Option.some.injEq] at hr; subst hr
      exact ⟨[], by simp only [argE, depth, readQ_enc hU hT 7 h d q hi hq, AET.ae, TArg.enc], by simp⟩
    · simp at hr
  · rename_i id
    split at hr
    · rename_i ds ho
      split at hr
      · rename_i ls hls
        simp only [Option.some.injEq] at hr; subst hr
        refine ⟨[], ?_, by simp⟩
        simp only [argE, TV.enc, enc_obj ho, encBox, lf1s_depth (hT.objs id _ ho) hls, AET.ae, TArg.enc]
      · simp at hr
    · simp at hr
  · rename_i id n
    split at hr
    · rename_i t xs ho
      simp only [Option.some.injEq] at hr; subst hr
      obtain ⟨o, h1, h2⟩ := hi (id, n) (by simp [TV.fulls])
      dsimp only at h1
      have hl := h2 t xs false (by rw [ho, Option.some.injEq] at h1; exact h1.symm)
      refine ⟨[decide (n = (xs.map (U.encE t)).length)], ?_, by simp [hl]⟩
      simp only [argE, TV.enc, enc_obj ho, encArr, AET.ae, TArg.enc]
    · simp at hr
  · rename_i id
    split at hr
    · rename_i k v kv ho
      simp only [Option.some.injEq] at hr; subst hr
      exact ⟨[], by simp only [argE, TV.enc, enc_obj ho, encMapO, AET.ae, TArg.enc], by simp⟩
    · simp at hr
  · rename_i id off len
    split at hr
    · rename_i t xs ho
      simp only [Option.some.injEq] at hr; subst hr
      exact ⟨[], by simp only [argE, TV.enc, enc_obj ho, encArr, AET.ae, TArg.enc], by simp⟩
    · simp at hr
  · simp at hr
def argsAll (T : TS U) : List AM → List (Option Nat) → List (TV U) → Option (List (AET U))
  | [], _, [] => some []
  | m :: ms, h :: hs, d :: ds => match argT T m h d, argsAll T ms hs ds with
    | some a, some r => some (a :: r)
    | _, _ => none
  | _, _, _ => none
theorem argsAll_ae (hU : UOk U) {T : TS U} (hT : T.Inv) : ∀ {ms : List AM} {hs : List (Option Nat)} {ds : List (TV U)} {as : List (AET U)}, (∀ d ∈ ds, d.inv T.objs) → argsAll T ms hs ds = some as →
    ∃ aes : List AE, allM (fun x : AM × D => argE T.enc x.1 x.2) (ms.zip (TV.encs ds)) = some aes ∧ ds.length = ms.length ∧ aes.map (·.arg) = as.map (fun a => a.arg.enc) ∧ aes.flatMap (·.fs) = as.flatMap (·.fs) ∧ (∀ q ∈ aes.flatMap (·.cond), q = true) ∧ aes.map (·.id) = as.map (·.id)
  | [], hs, [], as, _, h => by simp only [argsAll, Option.some.injEq] at h; subst h; exact ⟨[], rfl, rfl, rfl, rfl, by simp, rfl⟩
  | [], hs, d :: ds, as, _, h => by simp [argsAll] at h
  | m :: ms, [], ds, as, _, h => by simp [argsAll] at h
  | m :: ms, hh :: hs, [], as, _, h => by simp [argsAll] at h
  | m :: ms, hh :: hs, d :: ds, as, hi, h => by
    simp only [argsAll] at h
    split at h
    · rename_i a r h1 h2
      simp only [Option.some.injEq] at h; subst h
      obtain ⟨cs, q1, q2⟩ := argT_ae hU hT (hi d (by simp)) h1
      obtain ⟨aes, p1, p2, p3, p4, p5, p6⟩ := argsAll_ae hU hT (fun a ha => hi a (by simp [ha])) h2
      refine ⟨a.ae cs :: aes, by simp only [TV.encs, List.zip_cons_cons, allM, q1, p1], by simp [p2], by simp [AET.ae, p3], by simp [AET.ae, p4], ?_, by simp [AET.ae, p6]⟩
      intro q hq
      simp only [List.flatMap_cons, List.mem_append] at hq
      exact hq.elim (fun h => q2 q h) (fun h => p5 q h)
    · simp at h
def TArg.o : TArg U → Option (TO U)
  | .p _ => none
  | .box cs => some (.box (cs.map lv))
  | .arr t xs => some (.arr t xs false)
  | .map k v kv => some (.map k v kv)
  | .part t xs _ _ => some (.arr t xs false)
def backOT (outs : List (Nat × TArg U)) (k : Nat) : TO U := match assocO outs k with
  | some a => match a.o with
    | some o => o
    | none => .gone
  | none => .gone
def backT (outs : List (Nat × TArg U)) : Nat → List (AET U) → List (Id × TO U)
  | _, [] => []
  | k, x :: r => match x.id with
    | some id => (id, backOT outs k) :: backT outs (k + 1) r
    | none => backT outs (k + 1) r
def TRV.at (ep i : Nat) (as : List (AET U)) (j : Nat) : TRV U → Option (TV U)
  | .p l => some (lv l)
  | .own _ es => some (.full (ep, i, j) es.length)
  | .box _ => some (.ptr (ep, i, j) 0 0)
  | .map _ _ _ => some (.map (ep, i, j))
  | .view k off len => match as[k]? with
    | some a => match a.id with
      | some id => some (.sl id off len)
      | none => none
    | none => none
def TRV.o : TRV U → Option (TO U)
  | .own t es => some (.arr t es false)
  | .box cs => some (.box (cs.map lv))
  | .map k v kv => some (.map k v kv)
  | _ => none
def rvAtsT (ep i : Nat) (as : List (AET U)) : Nat → List (TRV U) → Option (List (TV U))
  | _, [] => some []
  | j, x :: r => match x.at ep i as j, rvAtsT ep i as (j + 1) r with
    | some d, some ds => some (d :: ds)
    | _, _ => none
def rvNewsT : Nat → List (TRV U) → List (Nat × TO U)
  | _, [] => []
  | j, x :: r => match x.o with
    | some o => (j, o) :: rvNewsT (j + 1) r
    | none => rvNewsT (j + 1) r
def tupT : List (TV U) → TV U
  | [d] => d
  | ds => .tup ds
def callTE (T : TS U) (i : Nat) (as : List (AET U)) (ret : TRet U) : Option (TEff U) :=
  match rvAtsT T.ep i as 0 ret.res with
  | some ds => some { val := tupT ds, new := rvNewsT 0 ret.res, wr := backT ret.outs 0 as, frz := as.flatMap (·.fs) }
  | none => none
theorem argO_enc (a : TArg U) : oenc a.o = a.enc.o := by
  cases a with
  | p q => rfl
  | box cs => simp only [TArg.o, oenc, TO.enc, encs_lv, TArg.enc, Arg.o]
  | arr t xs => rfl
  | map k v kv => rfl
  | part t xs off len => rfl
theorem assocO_map {α β γ : Type} [DecidableEq α] (f : β → γ) : ∀ (l : List (α × β)) (x : α), assocO (l.map fun y => (y.1, f y.2)) x = (assocO l x).map f
  | [], x => rfl
  | (a, b) :: r, x => by
    simp only [List.map_cons, assocO]
    split
    · rfl
    · exact assocO_map f r x
theorem backOT_enc (outs : List (Nat × TArg U)) (k : Nat) : (backOT outs k).enc = backO (outs.map fun x => (x.1, x.2.enc)) k := by
  unfold backOT backO
  rw [assocO_map]
  cases assocO outs k with
  | none => rfl
  | some a =>
    simp only [Option.map_some]
    rw [← argO_enc a]
    cases a.o <;> rfl
theorem backT_enc (outs : List (Nat × TArg U)) : ∀ (k : Nat) (as : List (AET U)) (aes : List AE), aes.map (·.id) = as.map (·.id) → (backT outs k as).map (fun x => (x.1, x.2.enc)) = backL (outs.map fun x => (x.1, x.2.enc)) k aes
  | k, [], [], _ => rfl
  | k, [], _ :: _, h => by simp at h
  | k, _ :: _, [], h => by simp at h
  | k, a :: as, b :: bs, h => by
    simp only [List.map_cons, List.cons.injEq] at h
    simp only [backT, backL, h.1]
    cases a.id with
    | none => exact backT_enc outs (k + 1) as bs h.2
    | some id => simp only [List.map_cons, backT_enc outs (k + 1) as bs h.2, backOT_enc]
theorem rvAt_enc {ep i j : Nat} {as : List (AET U)} {aes : List AE} (hid : aes.map (·.id) = as.map (·.id)) {x : TRV U} {d : TV U} (h : x.at ep i as j = some d) : x.enc.at ep i aes j = some d.enc := by
  cases x with
  | p l => simp only [TRV.at, Option.some.injEq] at h; subst h; rfl
  | own t es => simp only [TRV.at, Option.some.injEq] at h; subst h; simp only [TRV.enc, RV.at, TV.enc, List.length_map]
  | box cs => simp only [TRV.at, Option.some.injEq] at h; subst h; rfl
  | map k v kv => simp only [TRV.at, Option.some.injEq] at h; subst h; rfl
  | view k off len =>
    simp only [TRV.at] at h
    have hk : (aes[k]?).map (·.id) = (as[k]?).map (·.id) := by rw [← List.getElem?_map, ← List.getElem?_map, hid]
    split at h
    · rename_i a ha
      rw [ha] at hk
      cases hb : aes[k]? with
      | none => rw [hb] at hk; simp at hk
      | some b =>
        rw [hb] at hk
        simp only [Option.map_some, Option.some.injEq] at hk
        split at h
        · rename_i id hid'
          simp only [Option.some.injEq] at h; subst h
          simp only [TRV.enc, RV.at, hb, hk, hid', TV.enc]
        · simp at h
    · simp at h
theorem rvO_enc (x : TRV U) : oenc x.o = x.enc.o := by
  cases x with
  | box cs => simp only [TRV.o, oenc, TO.enc, encs_lv, TRV.enc, RV.o]
  | _ => rfl
theorem rvAtsT_enc {ep i : Nat} {as : List (AET U)} {aes : List AE} (hid : aes.map (·.id) = as.map (·.id)) : ∀ (j : Nat) (l : List (TRV U)) (ds : List (TV U)), rvAtsT ep i as j l = some ds → rvAts ep i aes j (l.map TRV.enc) = some (TV.encs ds)
  | j, [], ds, h => by simp only [rvAtsT, Option.some.injEq] at h; subst h; rfl
  | j, x :: r, ds, h => by
    simp only [rvAtsT] at h
    split at h
    · rename_i d ds' h1 h2
      simp only [Option.some.injEq] at h; subst h
      simp only [List.map_cons, rvAts, rvAt_enc hid h1, rvAtsT_enc hid (j + 1) r ds' h2, TV.encs]
    · simp at h
theorem rvNewsT_enc : ∀ (j : Nat) (l : List (TRV U)), (rvNewsT j l).map (fun x => (x.1, x.2.enc)) = rvNews j (l.map TRV.enc)
  | j, [] => rfl
  | j, x :: r => by
    simp only [rvNewsT, List.map_cons, rvNews]
    have := rvO_enc x
    cases hx : x.o with
    | none => rw [hx] at this; rw [← this]; exact rvNewsT_enc (j + 1) r
    | some o => rw [hx] at this; rw [← this]; simp only [oenc, List.map_cons, rvNewsT_enc (j + 1) r]
theorem tupT_enc (ds : List (TV U)) : (tupT ds).enc = tupD (TV.encs ds) := by
  match ds with
  | [] => rfl
  | [d] => rfl
  | a :: b :: r => rfl
theorem callTE_enc {T : TS U} {i : Nat} {as : List (AET U)} {aes : List AE} {ret : TRet U} {e : TEff U} (hid : aes.map (·.id) = as.map (·.id)) (hfs : aes.flatMap (·.fs) = as.flatMap (·.fs)) (h : callTE T i as ret = some e) : callE T.enc i aes ret.enc = some (e.enc []) := by
  unfold callTE at h
  split at h
  · rename_i ds hds
    simp only [Option.some.injEq] at h; subst h
    unfold callE
    rw [show T.enc.ep = T.ep from rfl, show ret.enc.res = ret.res.map TRV.enc from rfl, rvAtsT_enc hid 0 _ ds hds]
    simp only [TEff.enc, tupT_enc, rvNewsT_enc, TRet.enc, backT_enc ret.outs 0 as aes hid, hfs]
  · simp at h
def TArg.len? : TArg U → Option Nat
  | .arr _ xs => some xs.length
  | .part _ xs _ _ => some xs.length
  | _ => none
def OutsLen (args : List (TArg U)) (ret : TRet U) : Prop := ∀ k a n, (k, a) ∈ ret.outs → a.len? = some n → ∃ a', args[k]? = some a' ∧ a'.len? = some n
theorem backT_mem {outs : List (Nat × TArg U)} : ∀ (n : Nat) (l : List (AET U)) (id : Id) (o : TO U), (id, o) ∈ backT outs n l → ∃ j x, l[j]? = some x ∧ x.id = some id ∧ o = backOT outs (n + j)
  | n, [], id, o, h => by simp [backT] at h
  | n, x :: r, id, o, h => by
    simp only [backT] at h
    split at h
    · rename_i id' hid
      rcases List.mem_cons.1 h with h | h
      · simp only [Prod.mk.injEq] at h; exact ⟨0, x, rfl, by rw [hid, h.1], by simpa using h.2⟩
      · obtain ⟨j, y, h1, h2, h3⟩ := backT_mem (n + 1) r id o h
        exact ⟨j + 1, y, by simpa using h1, h2, by rw [h3]; congr 1; omega⟩
    · obtain ⟨j, y, h1, h2, h3⟩ := backT_mem (n + 1) r id o h
      exact ⟨j + 1, y, by simpa using h1, h2, by rw [h3]; congr 1; omega⟩
theorem argsAll_get {T : TS U} : ∀ {ms : List AM} {hs : List (Option Nat)} {ds : List (TV U)} {as : List (AET U)}, argsAll T ms hs ds = some as → ∀ (j : Nat) (a : AET U), as[j]? = some a → ∃ m h d, argT T m h d = some a
  | [], hs, [], as, h, j, a, ha => by simp only [argsAll, Option.some.injEq] at h; subst h; simp at ha
  | [], hs, d :: ds, as, h, j, a, ha => by simp [argsAll] at h
  | m :: ms, [], ds, as, h, j, a, ha => by simp [argsAll] at h
  | m :: ms, hh :: hs, [], as, h, j, a, ha => by simp [argsAll] at h
  | m :: ms, hh :: hs, d :: ds, as, h, j, a, ha => by
    simp only [argsAll] at h
    split at h
    · rename_i b r h1 h2
      simp only [Option.some.injEq] at h; subst h
      cases j with
      | zero => simp only [List.getElem?_cons_zero, Option.some.injEq] at ha; subst ha; exact ⟨_, _, _, h1⟩
      | succ j => exact argsAll_get h2 j a (by simpa using ha)
    · simp at h
theorem rvNewsT_mem : ∀ (j : Nat) (l : List (TRV U)) (k : Nat) (o : TO U), (k, o) ∈ rvNewsT j l → ∃ (m : Nat) (x : TRV U), l[m]? = some x ∧ k = j + m ∧ x.o = some o
  | j, [], k, o, h => by simp [rvNewsT] at h
  | j, x :: r, k, o, h => by
    simp only [rvNewsT] at h
    split at h
    · rename_i o' ho
      rcases List.mem_cons.1 h with h | h
      · simp only [Prod.mk.injEq] at h; exact ⟨0, x, rfl, by simp [h.1], by rw [ho, h.2]⟩
      · obtain ⟨m, y, h1, h2, h3⟩ := rvNewsT_mem (j + 1) r k o h
        exact ⟨m + 1, y, by simpa using h1, by omega, h3⟩
    · obtain ⟨m, y, h1, h2, h3⟩ := rvNewsT_mem (j + 1) r k o h
      exact ⟨m + 1, y, by simpa using h1, by omega, h3⟩
theorem rvNewsT_in : ∀ (j : Nat) (l : List (TRV U)) (m : Nat) (x : TRV U) (o : TO U), l[m]? = some x → x.o = some o → (j + m, o) ∈ rvNewsT j l
  | j, [], m, x, o, h, _ => by simp at h
  | j, y :: r, m, x, o, h, ho => by
    cases m with
    | zero =>
      simp only [List.getElem?_cons_zero, Option.some.injEq] at h; subst h
      simp only [rvNewsT, ho]; exact List.mem_cons_self
    | succ m =>
      have := rvNewsT_in (j + 1) r m x o (by simpa using h) ho
      rw [show j + 1 + m = j + (m + 1) by omega] at this
      simp only [rvNewsT]
      split
      · exact List.mem_cons_of_mem _ this
      · exact this
theorem objL_one : ∀ (l : List (Id × TO U)) (T : TS U) (id : Id) (o : TO U), (id, o) ∈ l → (∀ o', (id, o') ∈ l → o' = o) → (T.objL l).objs id = some o
  | [], T, id, o, h, _ => by simp at h
  | (a, u) :: l, T, id, o, h, hu => by
    simp only [TS.objL]
    by_cases hm : ∃ o', (id, o') ∈ l
    · obtain ⟨o', ho'⟩ := hm
      have := hu o' (List.mem_cons_of_mem _ ho')
      subst this
      exact objL_one l _ id o' ho' fun o2 h2 => hu o2 (List.mem_cons_of_mem _ h2)
    · rcases List.mem_cons.1 h with h | h
      · simp only [Prod.mk.injEq] at h
        obtain ⟨rfl, rfl⟩ := h
        have key : ∀ (l : List (Id × TO U)) (T : TS U), (¬ ∃ o, (id, o) ∈ l) → (T.objL l).objs id = T.objs id := by
          intro l
          induction l with
          | nil => intro T _; rfl
          | cons x l ih =>
            obtain ⟨b, v⟩ := x
            intro T hn
            simp only [TS.objL]
            rw [ih _ (fun ⟨o, ho⟩ => hn ⟨o, List.mem_cons_of_mem _ ho⟩)]
            simp only [upd]
            split
            · rename_i he; subst he; exact absurd ⟨v, List.mem_cons_self⟩ hn
            · rfl
        rw [key l _ hm]; simp [upd]
      · exact absurd ⟨o, h⟩ hm
theorem rvAtsT_mem {ep i : Nat} {as : List (AET U)} : ∀ (j : Nat) (l : List (TRV U)) (ds : List (TV U)), rvAtsT ep i as j l = some ds → ∀ d ∈ ds, ∃ (m : Nat) (x : TRV U), l[m]? = some x ∧ x.at ep i as (j + m) = some d
  | j, [], ds, h, d, hd => by simp only [rvAtsT, Option.some.injEq] at h; subst h; simp at hd
  | j, x :: r, ds, h, d, hd => by
    simp only [rvAtsT] at h
    split at h
    · rename_i d' ds' h1 h2
      simp only [Option.some.injEq] at h; subst h
      rcases List.mem_cons.1 hd with rfl | hd
      · exact ⟨0, x, rfl, h1⟩
      · obtain ⟨m, y, q1, q2⟩ := rvAtsT_mem (j + 1) r ds' h2 d hd
        exact ⟨m + 1, y, by simpa using q1, by rw [show j + (m + 1) = j + 1 + m by omega]; exact q2⟩
    · simp at h
theorem callTE_inv {T : TS U} {i : Nat} {as : List (AET U)} {ms : List AM} {hs : List (Option Nat)} {ds0 : List (TV U)} (has : argsAll T ms hs ds0 = some as) {ret : TRet U} (hol : OutsLen (as.map (·.arg)) ret) {e : TEff U} (h : callTE T i as ret = some e) : EInv T i e := by
  unfold callTE at h
  split at h
  · rename_i ds hds
    simp only [Option.some.injEq] at h; subst h
    have box : ∀ (cs : List (Lf U.car)) (lk : Id → Option (TO U)), (TO.box (cs.map lv)).inv lk := fun cs lk d hd => by
      obtain ⟨l, _, rfl⟩ := List.mem_map.1 hd; exact inv_v _ _
    have argo : ∀ (a : TArg U) (o : TO U) (lk : Id → Option (TO U)), a.o = some o → o.inv lk := fun a o lk ha => by
      cases a <;> simp only [TArg.o, Option.some.injEq, reduceCtorEq] at ha <;> subst ha
      · exact box _ _
      · trivial
      · trivial
      · trivial
    refine ⟨fun id o hm t xs fix he => ?_, fun hf => ?_, fun _ o ho => ?_⟩
    · obtain ⟨j, x, q1, q2, q3⟩ := backT_mem 0 as id o hm
      rw [q3] at he
      unfold backOT at he
      split at he
      · rename_i a ha
        have key : ∀ t2 (xs2 : List (El U.car t2)), a.o = some (.arr t2 xs2 false) → a.len? = some xs2.length := fun t2 xs2 h => by
          cases a with
          | p q => simp [TArg.o] at h
          | box cs => simp [TArg.o] at h
          | map k v kv => simp [TArg.o] at h
          | arr t3 xs3 => simp only [TArg.o, Option.some.injEq, TO.arr.injEq] at h; obtain ⟨rfl, h, _⟩ := h; cases h; rfl
          | part t3 xs3 off len => simp only [TArg.o, Option.some.injEq, TO.arr.injEq] at h; obtain ⟨rfl, h, _⟩ := h; cases h; rfl
        have hfix : fix = false := by
          cases a <;> simp [TArg.o] at he
          · exact he.2.2
          · exact he.2.2
        split at he
        · rename_i o ho
          subst he
          subst hfix
          obtain ⟨a', p1, p2⟩ := hol _ _ _ (assocO_mem ha) (key t xs ho)
          rw [List.getElem?_map, Nat.zero_add, q1, Option.map_some, Option.some.injEq] at p1
          subst p1
          obtain ⟨m, hh, d, hd⟩ := argsAll_get has j x q1
          unfold argT at hd
          split at hd
          · split at hd
            · simp only [Option.some.injEq] at hd; subst hd; simp at q2
            · simp at hd
          · split at hd
            · split at hd
              · simp only [Option.some.injEq] at hd; subst hd; simp [TArg.len?] at p2
              · simp at hd
            · simp at hd
          · split at hd
            · rename_i t3 xs3 ho3
              simp only [Option.some.injEq] at hd; subst hd
              simp only [Option.some.injEq] at q2; subst q2
              simp only [TArg.len?, Option.some.injEq] at p2
              exact ⟨_, _, _, ho3, p2.symm⟩
            · simp at hd
          · split at hd
            · simp only [Option.some.injEq] at hd; subst hd; simp [TArg.len?] at p2
            · simp at hd
          · split at hd
            · rename_i t3 xs3 ho3
              simp only [Option.some.injEq] at hd; subst hd
              simp only [Option.some.injEq] at q2; subst q2
              simp only [TArg.len?, Option.some.injEq] at p2
              exact ⟨_, _, _, ho3, p2.symm⟩
            · simp at hd
          · simp at hd
        · simp at he
      · simp at he
    · intro q hq
      have : ∃ d ∈ ds, q ∈ d.fulls := by
        match ds, hq with
        | [], hq => simp [tupT, TV.fulls, TV.fullsL] at hq
        | [d], hq => exact ⟨d, by simp, hq⟩
        | a :: b :: r, hq => exact fullsL_mem.1 hq
      obtain ⟨d, hd, hq⟩ := this
      obtain ⟨m, x, q1, q2⟩ := rvAtsT_mem 0 _ ds hds d hd
      cases x with
      | p l => simp only [TRV.at, Option.some.injEq] at q2; subst q2; simp [lv, TV.fulls] at hq
      | box cs => simp only [TRV.at, Option.some.injEq] at q2; subst q2; simp [TV.fulls] at hq
      | map k v kv => simp only [TRV.at, Option.some.injEq] at q2; subst q2; simp [TV.fulls] at hq
      | view k off len =>
        simp only [TRV.at] at q2
        split at q2
        · split at q2
          · simp only [Option.some.injEq] at q2; subst q2; simp [TV.fulls] at hq
          · simp at q2
        · simp at q2
      | own t xs =>
        simp only [TRV.at, Option.some.injEq] at q2; subst q2
        simp only [TV.fulls, List.mem_singleton] at hq; subst hq
        refine ⟨.arr t xs false, ?_, fun t' xs' fix' he => by cases he; rfl⟩
        refine objL_one _ _ _ _ (List.mem_map.2 ⟨_, rvNewsT_in 0 _ m _ _ q1 rfl, rfl⟩) fun o' ho' => ?_
        obtain ⟨y, hy, he⟩ := List.mem_map.1 ho'
        simp only [Prod.mk.injEq, true_and] at he
        obtain ⟨h1, rfl⟩ := he
        obtain ⟨m', x', p1, p2, p3⟩ := rvNewsT_mem 0 _ _ _ hy
        have : m' = m := by omega
        subst this
        rw [q1, Option.some.injEq] at p1
        subst p1
        simp only [TRV.o, Option.some.injEq] at p3
        exact p3.symm
    · rcases ho with ⟨k, hm⟩ | ⟨id, hm⟩
      · obtain ⟨m, x, q1, q2, q3⟩ := rvNewsT_mem 0 _ _ _ hm
        cases x <;> simp only [TRV.o, Option.some.injEq, reduceCtorEq] at q3 <;> subst q3
        · trivial
        · exact box _ _
        · trivial
      · obtain ⟨j, x, q1, q2, q3⟩ := backT_mem 0 as id o hm
        subst q3
        unfold backOT
        split
        · rename_i a ha
          cases hao : a.o with
          | none => trivial
          | some o => exact argo a o _ hao
        · trivial
  · simp at h
end
end Eng
namespace Eng
open Go
open Go.ChangeMaps (setBlock)
section
variable {C : Ctx} {X : Nat → Prop} {ρ : Id → Option Lay} {S : Nat → Prop} {st : St} {a : Act} {w : World} {i : Nat} {o : Oper}
theorem zip_filter_len {α β : Type} (p : α → Bool) : ∀ (xs : List α) (ys : List β), xs.length = ys.length → ((xs.zip ys).filter fun x => p x.1).length = (xs.filter p).length
  | [], ys, h => by simp
  | x :: xs, [], h => by simp at h
  | x :: xs, y :: ys, h => by
    simp only [List.zip_cons_cons, List.filter_cons]
    have := zip_filter_len p xs ys (by simpa using h)
    split <;> simp [this]
theorem erase_perm {α : Type} : ∀ (l : List α) (j : Nat) (h : j < l.length), (l[j] :: l.eraseIdx j).Perm l
  | x :: l, 0, h => .refl _
  | x :: l, j + 1, h => by
    simp only [List.getElem_cons_succ, List.eraseIdx_cons_succ]
    exact (List.Perm.swap _ _ _).trans ((erase_perm l j (by simpa using h)).cons x)
theorem filter_remove {α β : Type} (f : α → β) [DecidableEq β] (seen : Array β) (e : α) (p : α → Prop) : ∀ (l : List α), (∀ x ∈ l, ∀ y ∈ l, f x = f y → x = y) → l.Nodup → e ∈ l → seen.contains (f e) = false →
    (e :: l.filter fun x => !(seen.push (f e)).contains (f x)).Perm (l.filter fun x => !seen.contains (f x))
  | [], _, _, he, _ => by simp at he
  | x :: l, hinj, hnd, he, hs => by
    have push : ∀ y, (seen.push (f e)).contains (f y) = (seen.contains (f y) || decide (f y = f e)) := fun y => by
      simp only [Array.contains_eq_mem, Array.mem_push]
      by_cases h1 : f y ∈ seen <;> by_cases h2 : f y = f e <;> simp [h1, h2]
    by_cases hx : x = e
    · subst hx
      have hrest : ∀ y ∈ l, decide (f y = f x) = false := fun y hy => by
        simp only [decide_eq_false_iff_not]
        intro hf
        have := hinj y (by simp [hy]) x (by simp) hf
        subst this
        exact (List.nodup_cons.1 hnd).1 hy
      have h1 : (l.filter fun y => !(seen.push (f x)).contains (f y)) = l.filter fun y => !seen.contains (f y) := List.filter_congr fun y hy => by rw [push, hrest y hy]; simp
      simp only [List.filter_cons, push x, hs, decide_true, Bool.or_true, Bool.not_true, Bool.false_eq_true, if_false, Bool.not_false, if_true, h1]
      exact .refl _
    · have he' : e ∈ l := by simpa [Ne.symm hx] using he
      have hne : f x ≠ f e := fun hf => hx (hinj x (by simp) e he hf)
      have ih := filter_remove f seen e p l (fun a ha b hb => hinj a (by simp [ha]) b (by simp [hb])) (List.nodup_cons.1 hnd).2 he' hs
      simp only [List.filter_cons, push x, hne, decide_false, Bool.or_false]
      split
      · exact (List.Perm.swap x e _).trans (ih.cons x)
      · exact ih
theorem next_map {it : Operand} (h : Rep C X ρ S st a.tmps w) (hi : ¬ X i) (ht : ∀ d, o.dst = some d → d < C.E.nt) (hlit : litOk it = true) (ho : o.op = .next it false) {id : Id} {rest : List (P × P)} {cur : Option (P × P)}
    (hx : ev C.E st.slots 0 it = .it id) (hlk : st.objs id = some (.mit rest cur)) (hfz : st.fz id = false) :
    (rest = [] ∧ ∃ v w', (execOp a.eval o).run C.E.prog w = .ok (.value v) w' ∧ ∃ ρ' S', Rep C (fun j => X j ∨ j = i) ρ' S' (st.app i o.dst { val := .tup [.p (.bool false)] }) (a.put o.dst v).tmps w') ∨
    ∃ (j : Nat) (q : P × P), rest[j]? = some q ∧ ∃ v w', (execOp a.eval o).run C.E.prog w = .ok (.value v) w' ∧
      ∃ ρ' S', Rep C (fun j => X j ∨ j = i) ρ' S' (st.app i o.dst { val := .tup [.p (.bool true), .p q.1, .p q.2], wr := [(id, .mit (rest.eraseIdx j) (some q))] }) (a.put o.dst v).tmps w' := by
  have h1 := ev_rel h 0 hlit
  rw [hx] at h1
  generalize hv : a.eval it = v at h1
  cases h1 with
  | it _ L b hL hLb =>
  obtain ⟨L', hL', b', hLb', hmit⟩ := h.objs id _ hlk (by simp)
  rw [hL] at hL'; obtain rfl := Option.some.inj hL'
  rw [hLb] at hLb'; obtain rfl := Option.some.inj hLb'
  have hown := h.own id _ L b hlk (by simp) hL hLb
  have over : rest = [] → (Instr.next (.pointer (some ⟨b, 0, none⟩)) false o.type).run C.E.prog w = .ok (.tuple #[.bool false]) w →
      ∃ v w', (execOp a.eval o).run C.E.prog w = .ok (.value v) w' ∧ ∃ ρ' S', Rep C (fun j => X j ∨ j = i) ρ' S' (st.app i o.dst { val := .tup [.p (.bool false)] }) (a.put o.dst v).tmps w' := fun _ hr => by
    obtain ⟨S', hrep⟩ := h.step (i := i) (t := o.dst) (e := { val := .tup [.p (.bool false)] }) (v := .tuple #[.bool false]) (w' := w) ρ hi ht (Nat.le_refl _) (Quiet.refl _) (fun _ _ _ => rfl) (by simp) (fun _ _ h => h) (fun id h => .inl h) (by simp) (fun _ _ hm => by simp at hm) (fun _ _ _ _ _ _ _ hm => by simp at hm) (by simp)
      (fun _ _ _ _ _ => .tup _ _ rfl fun j u c hu hc => by
        match j with
        | 0 => simp at hu hc; subst hu hc; exact .p _ _ (.bool false)
        | j + 1 => simp at hc)
    exact ⟨_, _, by simp [execOp, ho, hv, Sem.run_bind, hr, Result.andThen, Sem.run], ρ, S', hrep⟩
  rcases hmit with ⟨since, seen, stepped, hb, rfl, rfl⟩ | ⟨m, es, clock, seen, kv', hSm, hm, hb, hel, hkv, hborn, hbinj, hperm, _⟩
  · exact .inl ⟨rfl, over rfl (by simp [Instr.next, getObj, Sem.run, hb])⟩
  · have hlen : es.toList.length = kv'.length := by simpa using hel
    have hlf : (leftOf es seen).toList = es.toList.filter fun e => !seen.contains e.born := by simp [leftOf]
    rcases run_next_at (P := C.E.prog) w o.type b m clock clock seen es clock hb hm (fun x hx => by
      obtain ⟨k, hk⟩ := List.mem_iff_getElem?.1 hx
      exact hborn k x (by simpa using hk)) (Nat.le_refl _) with ⟨h0, hr⟩ | ⟨e, he, w1, hal, hr⟩
    · refine .inl ?_
      have hz : ((es.toList.zip kv').filter fun x => !seen.contains x.1.born).length = 0 := by
        rw [zip_filter_len (fun e : MapEntry => !seen.contains e.born) es.toList kv' hlen, ← hlf]; simpa using h0
      have : rest = [] := by
        have := hperm.length_eq
        rw [List.length_map, hz] at this
        exact List.eq_nil_of_length_eq_zero this.symm
      exact ⟨this, over this hr⟩
    · refine .inr ?_
      rw [hlf, List.mem_filter] at he
      obtain ⟨hee, hun⟩ := he
      obtain ⟨k, hk⟩ := List.mem_iff_getElem?.1 hee
      have hkl : k < es.toList.length := (List.getElem?_eq_some_iff.1 hk).1
      have hq : kv'[k]? = some kv'[k] := by simp [hlen ▸ hkl]
      have hpair : (e, kv'[k]) ∈ es.toList.zip kv' := by
        refine List.mem_iff_getElem?.2 ⟨k, ?_⟩
        rw [List.getElem?_zip_eq_some]; exact ⟨hk, hq⟩
      have hun' : seen.contains e.born = false := by simpa using hun
      have zinj : ∀ x ∈ es.toList.zip kv', ∀ y ∈ es.toList.zip kv', x.1.born = y.1.born → x = y := fun x hx y hy hxy => by
        obtain ⟨k1, h1⟩ := List.mem_iff_getElem?.1 hx
        obtain ⟨k2, h2⟩ := List.mem_iff_getElem?.1 hy
        have g1 := List.getElem?_zip_eq_some.1 h1
        have g2 := List.getElem?_zip_eq_some.1 h2
        have := hbinj k1 k2 _ _ (by simpa using g1.1) (by simpa using g2.1) hxy
        subst this
        rw [h1] at h2; exact Option.some.inj h2
      have znd : (es.toList.zip kv').Nodup := by
        refine List.pairwise_iff_getElem.2 fun k1 k2 h1 h2 h12 heq => ?_
        have hz : (es.toList.zip kv')[k1]? = some (es.toList.zip kv')[k1] := List.getElem?_eq_getElem h1
        have hz2 : (es.toList.zip kv')[k2]? = some (es.toList.zip kv')[k1] := by rw [heq]; exact List.getElem?_eq_getElem h2
        have g1 := List.getElem?_zip_eq_some.1 hz
        have g2 := List.getElem?_zip_eq_some.1 hz2
        have e1 := Array.getElem?_toList (xs := es) (i := k1)
        have e2 := Array.getElem?_toList (xs := es) (i := k2)
        have := hbinj k1 k2 _ _ (e1.symm.trans g1.1) (e2.symm.trans g2.1) rfl
        omega
      have hrem := filter_remove (fun x : MapEntry × (P × P) => x.1.born) seen (e, kv'[k]) (fun _ => True) (es.toList.zip kv') zinj znd hpair hun'
      have hp2 : (kv'[k] :: (((es.toList.zip kv').filter fun x => !(seen.push e.born).contains x.1.born).map (·.2))).Perm rest := by
        have := (hrem.map (·.2)).trans hperm
        simpa using this
      have hmemr : kv'[k] ∈ rest := hp2.subset (by simp)
      obtain ⟨j, hj⟩ := List.mem_iff_getElem?.1 hmemr
      have hjl := (List.getElem?_eq_some_iff.1 hj).1
      have hjv : rest[j] = kv'[k] := (List.getElem?_eq_some_iff.1 hj).2
      have hp3 : (((es.toList.zip kv').filter fun x => !(seen.push e.born).contains x.1.born).map (·.2)).Perm (rest.eraseIdx j) := by
        have h5 : (rest[j] :: rest.eraseIdx j).Perm rest := erase_perm rest j hjl
        rw [hjv] at h5
        exact (hp2.trans h5.symm).cons_inv
      have hek := hkv k e kv'[k] (by simpa using hk) hq
      have hheap : ∀ b', b' ≠ b → (setBlock w1 b (.mapIter (some m) clock (seen.push e.born) clock)).heap[b']? = w.heap[b']? := fun b' hne => by
        have : w1.heap = w.heap := by rcases hal with rfl | rfl <;> rfl
        simp only [setBlock, this]
        exact Array.getElem?_setIfInBounds_ne (Ne.symm hne)
      have hheapb : (setBlock w1 b (.mapIter (some m) clock (seen.push e.born) clock)).heap[b]? = some (.mapIter (some m) clock (seen.push e.born) clock) := by
        have : w1.heap = w.heap := by rcases hal with rfl | rfl <;> rfl
        simp only [setBlock, this]
        simp [hown.1]
      have hsz : (setBlock w1 b (.mapIter (some m) clock (seen.push e.born) clock)).heap.size = w.heap.size := by
        have : w1.heap = w.heap := by rcases hal with rfl | rfl <;> rfl
        simp [setBlock, this]
      have hmb : m ≠ b := fun hh => (hown.2.2.2 hfz) (hh ▸ hSm)
      have kp : Keep S w (setBlock w1 b (.mapIter (some m) clock (seen.push e.born) clock)) := fun b' hb' _ => hheap b' fun hh => (hown.2.2.2 hfz) (hh ▸ hb')
      refine ⟨j, kv'[k], hj, (.tuple #[.bool true, e.key, e.val]), setBlock w1 b (.mapIter (some m) clock (seen.push e.born) clock), by simp [execOp, ho, hv, Sem.run_bind, hr, Result.andThen, Sem.run], ρ, ?_⟩
      refine h.step ρ hi ht (Nat.le_of_eq hsz.symm) ?_ ?_ ?_ (fun _ _ h => h) (fun id h => .inl h) (by simp) (fun _ _ hm => by simp at hm) (fun _ _ _ _ _ _ _ hm => by simp at hm) ?_ ?_
      · rcases hal with rfl | rfl <;> exact ⟨rfl, rfl⟩
      · intro b1 hb1 hne
        exact hheap b1 fun hh => hne id _ L (List.mem_singleton.2 rfl) hL (by rw [hLb, hh])
      · intro id' o' hm'
        simp only [List.mem_singleton, Prod.mk.injEq] at hm'
        obtain ⟨rfl, rfl⟩ := hm'
        exact ⟨hfz, _, hlk, by simp⟩
      · intro id' o' L1 hm' _ hL1 S' hS _
        simp only [List.mem_singleton, Prod.mk.injEq] at hm'
        obtain ⟨rfl, rfl⟩ := hm'
        rw [hL] at hL1; obtain rfl := Option.some.inj hL1
        refine ⟨b, hLb, .inr ⟨m, es, clock, seen.push e.born, kv', hS m hSm, by rw [hheap m hmb]; exact hm, hheapb, hel, fun i' e' q' h1 h2 => ⟨(hkv i' e' q' h1 h2).1.mono kp hS, (hkv i' e' q' h1 h2).2.mono kp hS⟩, hborn, hbinj, hp3, ?_⟩⟩
        exact ⟨k, e, by simpa using hk, hq, by simp⟩
      · intro S' hS _ d _
        refine .tup _ _ rfl fun j' u c hu hc => ?_
        match j' with
        | 0 => simp at hu hc; subst hu hc; exact .p _ _ (.bool true)
        | 1 => simp at hu hc; subst hu hc; exact .p _ _ (hek.1.mono kp hS)
        | 2 => simp at hu hc; subst hu hc; exact .p _ _ (hek.2.mono kp hS)
        | j' + 3 => simp at hc
end
end Eng
namespace Eng
open Go
section
variable {C : Ctx} {X : Nat → Prop} {ρ : Id → Option Lay} {S : Nat → Prop} {st : St} {a : Act} {w : World} {i : Nat} {o : Oper}
theorem does_cap (h : Rep C X ρ S st a.tmps w) (hi : ¬ X i) (ht : ∀ d, o.dst = some d → d < C.E.nt) (hE : EnvOk C.E) {args : Array Operand} {ats : Array TypeId} {x : Operand} {t el : Nat} (ho : o.op = .call { callee := .builtin .cap, args, argTypes := ats })
    (hargs : args.toList = [x]) (hats : ats.toList = [t]) (hlit : litOk x = true) (hty : C.E.td t = some (.sl el)) {id : Id} {off len : Nat} (hx : ev C.E st.slots t x = .sl id off len) :
    ∃ c : Nat, len ≤ c ∧ c ≤ maxInt ∧ ∃ v, (execOp a.eval o).run C.E.prog w = .ok (.value v) w ∧ ∃ ρ' S', Rep C (fun j => X j ∨ j = i) ρ' S' (st.app i o.dst { val := .p (.int .i64 c) }) (a.put o.dst v).tmps w := by
  have hr := ev_rel h t hlit
  rw [hx] at hr
  have ha : args.map a.eval = #[a.eval x] := by rw [← Array.toArray_toList (xs := args), hargs]; simp
  have hat : ats = #[t] := by rw [← Array.toArray_toList (xs := ats), hats]
  subst hat
  obtain ⟨d, hu, hd⟩ := hE.und hty
  have hu' : C.E.prog.underlying t = some (.slice el) := by cases d <;> simp [tdOk] at hd; subst hd; exact hu
  generalize a.eval x = v at ha hr
  cases hr with
  | sl _ _ _ cap ad L hL hl hm hc hb =>
  obtain ⟨csb, hxb⟩ := exec_builtin (a := a) (w := w) (P := C.E.prog) ho
  have hrun : (Builtin.cap_ #[t] o.type #[.slice ad len cap]).run C.E.prog w = .ok (.int .i64 cap) w := by
    simp [Builtin.cap_, run_underlying' hu', goInt]
  obtain ⟨S', hrep⟩ := h.step (i := i) (t := o.dst) (e := { val := .p (.int .i64 cap) }) (v := .int .i64 cap) (w' := w) ρ hi ht (Nat.le_refl _) (Quiet.refl _) (fun _ _ _ => rfl) (by simp) (fun _ _ h => h) (fun id h => .inl h) (by simp) (fun _ _ hm => by simp at hm) (fun _ _ _ _ _ _ _ hm => by simp at hm) (by simp)
    (fun _ _ _ _ _ => .p _ _ (.int .i64 _ (natInt hm.2).1 (natInt hm.2).2))
  refine ⟨cap, hc, hm.2, _, ?_, ρ, S', hrep⟩
  rw [hxb, ha]
  exact run_v hrun
theorem does_keep (h : Rep C X ρ S st a.tmps w) (hi : ¬ X i) (ht : ∀ d, o.dst = some d → d < C.E.nt) (hE : EnvOk C.E) {args : Array Operand} {ats : Array TypeId} {s x : Operand} {t u : Nat} {te : TI} {tu : TD} (ho : o.op = .call { callee := .builtin .append, args, argTypes := ats })
    (hargs : args.toList = [s, x]) (hats : ats.toList = [t, u]) (hlit : ∀ y ∈ args.toList, litOk y = true) (hel : C.E.elem t = some te) (htu : C.E.td u = some tu) (htd : (∃ e, tu = .sl e) ∨ tu = .str) {id : Id} {es xs : List P}
    (hs : ev C.E st.slots t s = .sl id 0 es.length) (hx : srcOf st.objs te.size (ev C.E st.slots u x) = some xs) (hlk : st.objs id = some (.arr te.size es false)) (hfz : st.fz id = false) (hfit : (es.length + xs.length) * max te.bytes 1 ≤ roomB) :
    ∃ v w', (execOp a.eval o).run C.E.prog w = .ok (.value v) w' ∧
      ∃ ρ' S', Rep C (fun j => X j ∨ j = i) ρ' S' (st.app i o.dst { val := .p (.sl te.size (es ++ xs)), wr := [(id, .arr te.size es true)], frz := [id] }) (a.put o.dst v).tmps w' := by
  have ha : args.map a.eval = #[a.eval s, a.eval x] := by rw [← Array.toArray_toList (xs := args), hargs]; simp
  have hat : ats = #[t, u] := by rw [← Array.toArray_toList (xs := ats), hats]
  subst hat
  obtain ⟨ds, huu, hdsn⟩ : ∃ ds, C.E.prog.underlying u = some ds ∧ ∀ k, ds ≠ .int k := by
    obtain ⟨d, hu, hd⟩ := hE.und htu
    exact ⟨d, hu, fun k hk => by subst hk; rcases htd with ⟨e, rfl⟩ | rfl <;> simp [tdOk] at hd⟩
  obtain ⟨el, hty, hte⟩ : ∃ el, (∃ sz by_ ze, C.E.ty t = some { d := .sl el, size := sz, bytes := by_, zero := ze }) ∧ C.E.ty el = some te := by
    unfold Env.elem at hel
    split at hel
    · rename_i e' _ _ _ hq; exact ⟨e', ⟨_, _, _, hq⟩, hel⟩
    · simp at hel
  obtain ⟨_, _, _, hty⟩ := hty
  have hut := hE.slice hty rfl
  have hrs := ev_rel h t (hlit s (by simp [hargs]))
  have hrx := ev_rel h u (hlit x (by simp [hargs]))
  rw [hs] at hrs
  have hnew := src_rel (P := C.E.prog) h.objs hrx hx
  have hold := src_rel (P := C.E.prog) (sz := te.size) (xs := es.take es.length) h.objs hrs (by simp [srcOf, toP_sl, hlk])
  rw [List.take_length] at hold
  generalize a.eval x = vx at ha hnew hrx
  generalize a.eval s = vs at ha hrs hold
  cases hrs with
  | sl _ _ _ sCap ad L0 hL0 hll hm hcp hb0 =>
  obtain ⟨csb, hxb⟩ := exec_builtin (a := a) (w := w) (P := C.E.prog) ho
  obtain ⟨L', hL', hsz, hlen, hlc, hlm', hbn, hcells, evs, hev, hcell, hrel⟩ := h.objs id _ hlk (by simp)
  rw [hL0] at hL'; obtain rfl := Option.some.inj hL'
  obtain ⟨news, evs', n1, n2, n3, n4, n5, n6, n7⟩ := hnew
  obtain ⟨olds, evo, o1, o2, o3, o4, o5, o6, o7⟩ := hold
  have hb2 : es.length + xs.length ≤ roomB := by
    have := Nat.mul_le_mul_left (es.length + xs.length) (Nat.le_max_right te.bytes 1)
    omega
  have hb1 : (es.length + xs.length) * te.bytes ≤ roomB := Nat.le_trans (Nat.mul_le_mul_left _ (Nat.le_max_left _ _)) hfit
  have hown : ∀ b, L0.blk = some b → ¬ S b ∧ b < w.heap.size := fun b hb => ⟨(h.own id _ L0 b hlk (by simp) hL0 hb).2.2.2 hfz, (h.own id _ L0 b hlk (by simp) hL0 hb).1⟩
  have wrg : ∀ id' o', (id', o') ∈ [(id, Obj.arr te.size es true)] → st.fz id' = false ∧ ∃ o', st.objs id' = some o' ∧ o' ≠ .gone := by
    intro id' o' hm'
    simp only [List.mem_singleton, Prod.mk.injEq] at hm'
    obtain ⟨rfl, rfl⟩ := hm'
    exact ⟨hfz, _, hlk, by simp⟩
  have key : ∀ (v : Value) (w' : World) (N : Nat → Prop), (∀ b, N b → b < w'.heap.size ∧ w.heap.size ≤ b) → w.heap.size ≤ w'.heap.size → Quiet w w' → (∀ b, b < w.heap.size → L0.blk ≠ some b → w'.heap[b]? = w.heap[b]?) →
      (Builtin.append_ #[t, u] o.type #[.slice ad es.length sCap, vx]).run C.E.prog w = .ok v w' →
      (∀ S', (∀ b, S b → S' b) → RelObj w' S' ρ L0 (.arr te.size es true)) →
      (∀ S', (∀ b, N b → S' b) → (∀ b, S b → S' b) → (∀ b, L0.blk = some b → S' b) → RelP w' S' v (.sl te.size (es ++ xs))) →
      ∃ v w', (execOp a.eval o).run C.E.prog w = .ok (.value v) w' ∧
        ∃ ρ' S', Rep C (fun j => X j ∨ j = i) ρ' S' (st.app i o.dst { val := .p (.sl te.size (es ++ xs)), wr := [(id, .arr te.size es true)], frz := [id] }) (a.put o.dst v).tmps w' := by
    intro v w' N hN hsize hq hkp hrun hobj hval
    obtain ⟨S', hrep⟩ := h.stepN (i := i) (t := o.dst) (e := { val := .p (.sl te.size (es ++ xs)), wr := [(id, .arr te.size es true)], frz := [id] }) (v := v) (w' := w') ρ N
      (fun b hb => ⟨(hN b hb).1, .inl (hN b hb).2⟩) (fun _ _ _ _ hm' => by simp at hm') hi ht hsize hq
      (fun b hb hne => hkp b hb (hne id _ L0 (List.mem_singleton.2 rfl) hL0)) wrg (fun _ _ h => h) (fun id h => .inl h)
      (fun id' hm' => by
        simp only [List.mem_singleton] at hm'; subst hm'
        exact ⟨by rw [hL0]; simp, fun o' ho' => by simp only [List.mem_singleton, Prod.mk.injEq] at ho'; rw [ho'.2]; simp⟩)
      (fun _ _ hm' => by simp at hm') (fun _ _ _ _ _ _ _ hm' => by simp at hm')
      (fun id' o' L hm' _ hL S' hNS hS hF => by
        simp only [List.mem_singleton, Prod.mk.injEq] at hm'
        obtain ⟨rfl, rfl⟩ := hm'
        rw [hL0] at hL; obtain rfl := Option.some.inj hL
        exact hobj S' hS)
      (fun S' hNS hS hF _ _ => .p _ _ (hval S' hNS hS fun b hb => hF id (List.mem_singleton.2 rfl) _ L0 b hlk (by simp) hL0 hb))
    refine ⟨v, w', ?_, ρ, S', hrep⟩
    rw [hxb, ha]
    exact run_v hrun
  by_cases hroom : es.length + xs.length ≤ sCap
  · -- in place
    have hnf := n4 xs.length (Nat.le_refl _) w rfl
    rw [List.take_of_length_le (by omega)] at hnf
    rcases hb0 with h0 | ⟨b, hLb, rfl, hcap⟩
    · have he0 : es.length = 0 := by omega
      have hx0 : xs.length = 0 := by omega
      have hes : es = [] := List.eq_nil_of_length_eq_zero he0
      have hxs : xs = [] := List.eq_nil_of_length_eq_zero hx0
      refine key (.slice ad 0 sCap) w (fun _ => False) (fun _ hb => hb.elim) (Nat.le_refl _) (Quiet.refl _) (fun _ _ _ => rfl) ?_ (fun S' hS => ?_) (fun S' _ hS _ => ?_)
      · have := run_append_nil0 (w := w) (ty := o.type) (ad := ad) (sCap := sCap) hE rfl hut hte huu hdsn (by rw [← hx0]; exact n3) (by simpa using n4 0 (by simp) w rfl)
        rw [he0]; exact this
      · exact ⟨hsz, hlen, hlc, hlm', hbn, hcells, evs, hev, hcell, fun j e he => (hrel j e he).mono (fun _ _ _ => rfl) hS⟩
      · subst hes hxs
        exact .sl _ 0 _ _ [] evs rfl (by simp) (by simp) (fun i hi => by omega) (fun i hi => by omega) (fun i e he => by simp at he)
    · have hcs : ∀ m, m < news.length → (w.cell? ⟨b, L0.base + es.length * te.size + m, none⟩).isSome = true ∧ w.frozen? ⟨b, L0.base + es.length * te.size + m, none⟩ = false := fun m hm' => by
        have hle2 : (es.length + xs.length) * te.size ≤ L0.cap * te.size := Nat.mul_le_mul_right _ (by omega)
        rw [Nat.add_mul, ← n1] at hle2
        obtain ⟨⟨v, q⟩, q2⟩ := hcells b hLb (es.length * te.size + m) (by omega)
        rw [show L0.base + es.length * te.size + m = L0.base + (es.length * te.size + m) by omega, q, q2]; exact ⟨rfl, rfl⟩
      have hrun := run_append_in (w := w) (ty := o.type) hE rfl hut hte huu hdsn (b := b) (o := L0.base + 0 * L0.sz) (sLen := es.length) (sCap := sCap) n3 hnf hroom (fun m hm' => by rw [show L0.base + 0 * L0.sz + es.length * te.size + m = L0.base + es.length * te.size + m by omega]; exact (hcs m hm').1) (fun m hm' => by rw [show L0.base + 0 * L0.sz + es.length * te.size + m = L0.base + es.length * te.size + m by omega]; exact (hcs m hm').2) n5
      rw [show L0.base + 0 * L0.sz + es.length * te.size = L0.base + es.length * te.size by omega] at hrun
      have hcell' := fun m => cell_setCells (w := w) (b := b) (o := L0.base + es.length * te.size) (vs := news) (fun m hm' => (hcs m hm').1) m
      have kS : Keep S w (w.setCells b (L0.base + es.length * te.size) news) := fun b' hb' _ => heap_setCells b _ _ _ b' (fun e => (hown b hLb).1 (e ▸ hb'))
      have hold' : ∀ (j k : Nat) v, j < L0.len → (evs j).cells[k]? = some v → (w.setCells b (L0.base + es.length * te.size) news).cell? ⟨b, L0.base + j * te.size + k, none⟩ = some v := fun j k v hj hv => by
        have hk : k < te.size := by have := (Array.getElem?_eq_some_iff.1 hv).1; have := hev j hj; omega
        have : (j + 1) * te.size ≤ es.length * te.size := Nat.mul_le_mul_right _ (by omega)
        rw [Nat.add_mul, Nat.one_mul] at this
        rw [hcell', if_neg (by omega)]
        exact hcell b hLb j k v hj hv
      refine key _ _ (fun _ => False) (fun _ hb => hb.elim) (by rw [size_setCells]; exact Nat.le_refl _) (Quiet.setCells _ _ _ _) (fun b' _ hne => heap_setCells b _ _ _ b' (fun e => hne (e ▸ hLb))) hrun (fun S' hS => ?_) (fun S' _ hS hF => ?_)
      · refine ⟨hsz, hlen, hlc, hlm', hbn, fun b1 hb1 m hm' => ?_, evs, hev, fun b1 hb1 j k v hj hv => ?_, fun j e he => (hrel j e he).mono kS hS⟩
        · rw [hLb, Option.some.injEq] at hb1; subst hb1
          obtain ⟨⟨v, q⟩, q2⟩ := hcells b hLb m hm'
          refine ⟨?_, by rw [World.frozen?_setCells]; exact q2⟩
          rw [hcell']
          split
          · exact ⟨_, List.getElem?_eq_getElem (by omega)⟩
          · exact ⟨v, q⟩
        · rw [hLb, Option.some.injEq] at hb1; subst hb1
          exact hold' j k v hj hv
      · refine .sl _ _ _ _ _ (evs2 es.length evs evs') (by simp) (by unfold roomB at hb2; unfold lenMax; omega) hroom (fun j hj => ?_) (fun j hj => ⟨b, _, rfl, hF b hLb, fun k v hv => ?_⟩) (fun j e he => ?_)
        · unfold evs2
          split
          · exact hev j (by omega)
          · exact (n6 (j - es.length) (by omega)).1
        · unfold evs2 at hv
          rw [show L0.base + 0 * L0.sz + j * te.size + k = L0.base + j * te.size + k by omega]
          split at hv
          · exact hold' j k v (by omega) hv
          · rename_i hlt
            have := (n6 (j - es.length) (by omega)).2 k v hv
            have hl' : (j - es.length) * te.size + k < news.length := (List.getElem?_eq_some_iff.1 this).1
            have hjs : j * te.size = es.length * te.size + (j - es.length) * te.size := by rw [← Nat.add_mul]; congr 1; omega
            rw [hcell', if_pos (by omega), show L0.base + j * te.size + k - (L0.base + es.length * te.size) = (j - es.length) * te.size + k by omega]
            exact this
        · unfold evs2
          by_cases hlt : j < es.length
          · rw [List.getElem?_append_left hlt] at he
            rw [if_pos hlt]
            exact (hrel j e he).mono kS hS
          · rw [List.getElem?_append_right (by omega)] at he
            rw [if_neg hlt]
            exact (n7 _ e he).mono kS hS
  · -- into a new array
    obtain ⟨rest, hrest, hrun⟩ := run_append_new (w := w) (ty := o.type) hE rfl hut hte huu hdsn (m := xs.length) n3 (news := news) (fun w' hw' => by
      have := n4 xs.length (Nat.le_refl _) w' hw'
      rwa [List.take_of_length_le (by omega)] at this) (ad := ad) (sLen := es.length) (sCap := sCap) (olds := olds) (fun w' hw' => by
      have := o4 es.length (by omega) w' hw'
      rwa [List.take_of_length_le (by rw [o1]; exact Nat.le_refl _)] at this) (by omega) (by unfold roomB at hb2; unfold maxInt; omega) hb1
    have hcap := grownCap_ge w (es.length + xs.length) sCap el
    generalize grownCap w (es.length + xs.length) sCap el = cap at hrun hrest hcap
    generalize hww : w.drew.alloc (.cells (olds.toArray ++ news.toArray ++ rest) el) = w' at hrun
    have hw : w'.heap = w.heap.push (.cells (olds.toArray ++ news.toArray ++ rest) el) := by rw [← hww]; rfl
    have kp : ∀ b, b < w.heap.size → w'.heap[b]? = w.heap[b]? := fun b hb => push_old hw hb
    have hsz' : w'.heap.size = w.heap.size + 1 := by rw [hw]; simp
    have hc : ∀ j, w'.cell? ⟨w.heap.size, j, none⟩ = (olds.toArray ++ news.toArray ++ rest)[j]? := fun j => by simp [World.cell?, push_new hw]
    have kS : Keep S w w' := fun b hb _ => kp b (h.sIn b hb)
    have hqu : Quiet w w' := by rw [← hww]; exact ⟨rfl, rfl⟩
    refine key _ w' (fun b => b = w.heap.size) (fun b hb => by omega) (by omega) hqu (fun b hb _ => kp b hb) hrun (fun S' hS => ?_) (fun S' hN hS hF => ?_)
    · have hro : RelObj w S ρ L0 (.arr te.size es true) := ⟨hsz, hlen, hlc, hlm', hbn, hcells, evs, hev, hcell, hrel⟩
      exact hro.mono kS hS (fun _ _ h => h) (fun b hb => kp b (hown b hb).2)
    · refine .sl _ _ _ _ _ (evs2 es.length evo evs') (by simp) (by unfold roomB at hb2; unfold lenMax; omega) hcap (fun j hj => ?_) (fun j hj => ⟨w.heap.size, 0, rfl, hN _ rfl, fun k v hv => ?_⟩) (fun j e he => ?_)
      · unfold evs2
        split
        · exact (o6 j (by omega)).1
        · exact (n6 (j - es.length) (by omega)).1
      · rw [hc, Nat.zero_add]
        unfold evs2 at hv
        split at hv
        · rename_i hlt
          have := (o6 j (by omega)).2 k v hv
          have hl' : j * te.size + k < olds.length := (List.getElem?_eq_some_iff.1 this).1
          rw [Array.getElem?_append, if_pos (by simp; omega), Array.getElem?_append, if_pos (by simpa using hl')]
          simpa using this
        · rename_i hlt
          have := (n6 (j - es.length) (by omega)).2 k v hv
          have hl' : (j - es.length) * te.size + k < news.length := (List.getElem?_eq_some_iff.1 this).1
          have hjs : j * te.size = es.length * te.size + (j - es.length) * te.size := by rw [← Nat.add_mul]; congr 1; omega
          rw [Array.getElem?_append, if_pos (by simp; omega), Array.getElem?_append, if_neg (by simp; omega)]
          simp only [List.size_toArray, List.getElem?_toArray]
          rw [show j * te.size + k - olds.length = (j - es.length) * te.size + k by omega]
          exact this
      · unfold evs2
        by_cases hlt : j < es.length
        · rw [List.getElem?_append_left hlt] at he
          rw [if_pos hlt]
          exact (o7 j e he).mono kS hS
        · rw [List.getElem?_append_right (by omega)] at he
          rw [if_neg hlt]
          exact (n7 _ e he).mono kS hS
end
section
variable {U : Univ}
noncomputable def anyN {β : Type} (n : Nat) (f : Nat → Option β) : Option β :=
  @dite _ (∃ r, ∀ c, n ≤ c → c ≤ maxInt → f c = some r) (Classical.propDecidable _) (fun h => some h.choose) fun _ => none
theorem anyN_some {β : Type} {n : Nat} {f : Nat → Option β} {r : β} (h : anyN n f = some r) {c : Nat} (h1 : n ≤ c) (h2 : c ≤ maxInt) : f c = some r := by
  unfold anyN at h
  split at h
  · rename_i hx
    simp only [Option.some.injEq] at h
    rw [← h]; exact hx.choose_spec c h1 h2
  · simp at h
theorem anyN_eq {β : Type} {n : Nat} {f : Nat → Option β} {r : β} (hn : n ≤ maxInt) (h : ∀ c, n ≤ c → c ≤ maxInt → f c = some r) : anyN n f = some r := by
  unfold anyN
  have hx : ∃ r, ∀ c, n ≤ c → c ≤ maxInt → f c = some r := ⟨r, h⟩
  rw [dif_pos hx]
  have h1 := hx.choose_spec n (Nat.le_refl _) hn
  have h2 := h n (Nat.le_refl _) hn
  rw [h1] at h2
  exact h2
def capSl (X : TEnv U) (T : TS U) (o : Oper) : Option Nat :=
  match o.op with
  | .call c => match c.callee, c.args.toList, c.argTypes.toList with
    | .builtin .cap, [x], [t] => match X.get t, evT X T.slots t x with
      | some e, some d => match e.ti.d with
        | .sl _ => match d with
          | .full id _ => match T.objs id with
            | some (.arr _ xs _) => some (List.length xs)
            | _ => none
          | .sl _ _ len => some len
          | _ => none
        | _ => none
      | _, _ => none
    | _, _, _ => none
  | _ => none
structure KpI (U : Univ) where
  id : Id
  t : Ty
  xs : List (El U.car t)
  ys : List (El U.car t)
  by_ : Nat
def keepA (keep : List Nat) (X : TEnv U) (T : TS U) (o : Oper) : Option (KpI U) :=
  match o.dst with
  | some k => if keep.contains k then match o.op with
    | .call c => match c.callee, c.args.toList, c.argTypes.toList with
      | .builtin .append, [s, x], [t, u] => match X.elem t, X.get u, evT X T.slots t s, evT X T.slots u x with
        | some e, some eu, some (.full id _), some dx => if U.tsize e.ty = e.ti.size ∧ srcTd eu.ti.d = true then match srcT T dx e.ty, T.objs id with
          | some ys, some (.arr t' xs false) => match (Lf.mk (.sl t') xs : Lf U.car).as (.sl e.ty) with
            | some xs => if T.fz id = false then some ⟨id, e.ty, xs, ys, e.ti.bytes⟩ else none
            | none => none
          | _, _ => none
          else none
        | _, _, _, _ => none
      | _, _, _ => none
    | _ => none
    else none
  | none => none
variable {C : Ctx} {Xs : Nat → Prop} {ρ : Id → Option Lay} {S : Nat → Prop} {a : Act} {w : World} {i : Nat} {o : Oper} {X : TEnv U} {T : TS U}
theorem capSl_step (hX : TOk X) (hT : T.Inv) (hCE : C.E = X.E) (h : Rep C Xs ρ S T.enc a.tmps w) (hi : ¬ Xs i) (hE : EnvOk C.E) (hok : opOk X.E o = true) {n : Nat} (hc : capSl X T o = some n) :
    (∀ c, o.op ≠ .defer c) ∧ ∃ c : Nat, n ≤ c ∧ c ≤ maxInt ∧ ∃ v, (execOp a.eval o).run C.E.prog w = .ok (.value v) w ∧ ∃ ρ' S', Rep C (fun j => Xs j ∨ j = i) ρ' S' (T.enc.app i o.dst { val := .p (.int .i64 c) }) (a.put o.dst v).tmps w := by
  have ht : ∀ d, o.dst = some d → d < C.E.nt := by rw [hCE]; simp only [opOk, Bool.and_eq_true] at hok; exact dstOk_lt hok.1
  unfold capSl at hc
  split at hc
  · rename_i c hop
    refine ⟨fun c' hc' => (by rw [hop] at hc'; cases hc'), ?_⟩
    obtain ⟨cal, args, ats⟩ := c
    dsimp only at hc
    split at hc
    · rename_i x t hargs hats
      split at hc
      · rename_i e d he hd
        have hlit : litOk x = true := by
          simp only [opOk, Bool.and_eq_true] at hok
          have := hok.2
          rw [hop] at this
          simp only [Op.operands, Call.operands, Array.all_eq_true'] at this
          exact this x (by simp [← Array.mem_toList_iff, hargs])
        split at hc
        · rename_i el hel
          have htd : C.E.td t = some (.sl el) := by rw [hCE]; rw [← hel]; exact get_td he
          split at hc
          · split at hc
            · rename_i hobj
              simp only [Option.some.injEq] at hc; subst hc
              exact does_cap h hi ht hE hop hargs hats hlit htd (by rw [hCE, evT_ev hX hd, ← full_len hT hd hobj]; rfl)
            · simp at hc
          · simp only [Option.some.injEq] at hc; subst hc
            exact does_cap h hi ht hE hop hargs hats hlit htd (by rw [hCE, evT_ev hX hd]; rfl)
          · simp at hc
        · simp at hc
      · simp at hc
    · simp at hc
  · simp at hc
theorem keepA_step (hX : TOk X) (hT : T.Inv) (hCE : C.E = X.E) (h : Rep C Xs ρ S T.enc a.tmps w) (hi : ¬ Xs i) (hE : EnvOk C.E) (hok : opOk X.E o = true) {keep : List Nat} {q : KpI U} (hc : keepA keep X T o = some q) (hroom : room (q.xs.length + q.ys.length) q.by_ = true) :
    (∀ c, o.op ≠ .defer c) ∧ EInv T i { val := .v (.sl q.t) (q.xs ++ q.ys), wr := [(q.id, .arr q.t q.xs true)], frz := [q.id] } ∧ ∃ v w', (execOp a.eval o).run C.E.prog w = .ok (.value v) w' ∧
      ∃ ρ' S', Rep C (fun j => Xs j ∨ j = i) ρ' S' (T.enc.app i o.dst (TEff.enc { val := .v (.sl q.t) (q.xs ++ q.ys), wr := [(q.id, .arr q.t q.xs true)], frz := [q.id] } [])) (a.put o.dst v).tmps w' := by
  have ht : ∀ d, o.dst = some d → d < C.E.nt := by rw [hCE]; simp only [opOk, Bool.and_eq_true] at hok; exact dstOk_lt hok.1
  unfold keepA at hc
  split at hc
  · split at hc
    · split at hc
      · rename_i c hop
        refine ⟨fun c' hc' => (by rw [hop] at hc'; cases hc'), ?_⟩
        obtain ⟨cal, args, ats⟩ := c
        dsimp only at hc
        split at hc
        · rename_i s x t u hargs hats
          have hlit : ∀ y ∈ args.toList, litOk y = true := by
            simp only [opOk, Bool.and_eq_true] at hok
            have := hok.2
            rw [hop] at this
            simp only [Op.operands, Call.operands, Array.all_eq_true'] at this
            exact fun y hy => this y (by simpa using hy)
          split at hc
          · rename_i e eu id n dx he heu hd hdx
            split at hc
            · rename_i hc0
              split at hc
              · rename_i ys t' xs0 hys hobj
                split at hc
                · rename_i xs hxs
                  split at hc
                  · rename_i hfz
                    simp only [Option.some.injEq] at hc; subst hc
                    have hq := as_some hxs
                    cases hq
                    have hl : n = List.length xs := full_len hT hd hobj
                    have hsrc := srcT_src hT hX hdx hys
                    rw [hc0.1] at hsrc
                    have hel : C.E.elem t = some e.ti := by rw [hCE]; exact elem_elem he
                    have htu : C.E.td u = some eu.ti.d := by rw [hCE]; exact get_td heu
                    have htd : (∃ e, eu.ti.d = .sl e) ∨ eu.ti.d = .str := by
                      have h2 := hc0.2
                      revert h2
                      cases eu.ti.d <;> simp [srcTd]
                    refine ⟨einv_wr rfl (fun t2 xs2 fix2 he2 => ?_) (fun _ => by trivial), ?_⟩
                    · cases he2
                      exact ⟨_, _, _, hobj, rfl⟩
                    · have := does_keep (es := xs.map (U.encE e.ty)) (xs := ys.map (U.encE e.ty)) h hi ht hE hop hargs hats hlit hel htu htd (id := id) (by rw [hCE, evT_ev hX hd, List.length_map, ← hl]; rfl) (by rw [hCE, evT_ev hX hdx]; exact hsrc)
                        (by rw [enc_obj hobj, encArr, hc0.1]) hfz (by simpa [room] using hroom)
                      simpa only [TEff.enc, TV.enc, Univ.encE, List.map_cons, List.map_nil, encArr, List.map_append, hc0.1] using this
                  · simp at hc
                · simp at hc
              · simp at hc
            · simp at hc
          · simp at hc
        · simp at hc
      · simp at hc
    · simp at hc
  · simp at hc
end
end Eng

