/- Proved: for every list of integers t and every byte r the law AccessLast returns true, and its arguments read as before; no condition. -/
import Derived.Test.YtjdddnbddnhilaaRows
import Derived.Test.YtjdddnbddnhilaaAlE4
import Derived.Test.YtjdddnbddnhilaaAlW
import Derived.Test.YtjdddnbddnhilaaAlL
import Derived.WalkKit
import Derived.ProofKit
import Derived.OpenShut
set_option linter.unusedVariables false
set_option linter.unusedSimpArgs false
set_option linter.unusedSectionVars false
namespace Go.Proofs.Ytjdddnbddnhilaa.accessLast
open Go.ChangeShapes Go.WideShapes Go.ChangeAt Go.RowKit
open Go.Proofs (U X0 uok)

theorem own : ownKnob Try.prog.godebug = none := by kernel_rfl
theorem laidOut : laidOutB Try.prog = true := by kernel_rfl

theorem uflat : Eng.UFlat U := fun n x => match n, x with
  | 0, _ => rfl
  | 1, _ => rfl
  | 2, _ => rfl
  | 3, _ => rfl
  | 4, _ => rfl
  | 5, _ => rfl
  | 6, _ => rfl
  | 7, _ => rfl
  | 8, _ => rfl
  | _ + 9, _ => rfl

theorem get_app {α : Type} {l r : List α} {j : Nat} {x : α} (h : l[j]? = some x) : (l ++ r)[j]? = some x := by
  rw [List.getElem?_append_left (List.getElem?_eq_some_iff.1 h).1]; exact h

theorem opens31 : Eng.Opens Try.prog U 31 (.sl (.int .i64)) := Eng.opens_slice uok uflat Try.underlying31 (by kernel_rfl) (by decide) (Nat.le_of_ble_eq_true (by kernel_rfl)) (Eng.opens_int Try.underlying3)
theorem opens5 : Eng.Opens Try.prog U 5 (.int .u8) := Eng.opens_int Try.underlying5

/-- The Go text returns true, and leaves all that was there alone. -/
theorem walk (y0 : List Int) (y1 : Int) (h1 : 0 ≤ y1 ∧ y1 ≤ 255) (v0 v1 : Value) (w : World) (r0 : Eng.RelP w (fun b => b < w.heap.size) v0 (U.encE (.sl (.int .i64)) y0)) (r1 : Eng.RelP w (fun b => b < w.heap.size) v1 (U.encE (.int .u8) y1)) :
    Calls Try.prog 4 #[v0, v1] w fun e w' => e = .returned (.bool true) ∧ Eng.Kept w w' := by
  have hF : Eng.Fun X0.E 4 (([U.encE (.sl (.int .i64)) y0, U.encE (.int .u8) y1] : List Eng.P).map Eng.Arg.p) ⟨[.p (.bool true)], []⟩ :=
    (Go.Proofs.S_s_tablefinderlaw42_AccessLast_ok [.p (.l ⟨.sl (.int .i64), y0⟩), .p (.l ⟨.int .u8, y1⟩)] _ rfl true (Go.Proofs.accessLast_law y0 y1 h1)).1
  refine Eng.law_calls_bool (E := X0.E) hF rfl (fun k v x hv hx => ?_) (fun g cs hm => by simp [X0, Eng.TEnv.E] at hm)
  match k, hv, hx with
  | 0, hv, hx => simp at hv hx; subst hv hx; exact r0
  | 1, hv, hx => simp at hv hx; subst hv hx; exact r1
  | k + 2, hv, hx => simp at hv

theorem rel_u8 {w : World} {S : Nat → Prop} {v : Value} {n : Int} (h : Eng.RelP w S v (.int .u8 n)) : 0 ≤ n ∧ n ≤ 255 := by
  have e0 : IntKind.u8.min = 0 := by decide
  have e1 : IntKind.u8.max = 255 := by decide
  cases h with
  | int k n h0 h1 => rw [e0] at h0; rw [e1] at h1; exact ⟨h0, h1⟩

set_option maxRecDepth 100000 in
theorem lifted (os : Os) (started : os.Started) (H : Type) (enc : TypeId × Value → H) :
    ReturnsInHanded {} Try.checked os 4 .any (Rows.accessLastSpec.pre6 enc Try.prog Try.f4 Rows.accessLastRow.domain false) (Rows.accessLastSpec.post enc Try.prog Try.f4 false true false false) := by
  refine returnsInHanded_of_change_sized (C := Try.checked) own started (by kernel_rfl) Try.func4
    (ChangeSpec.witness6 (enc := enc) (C := Try.checked) false ⟨#[], #[.slice none 0 0, .int .u8 0], []⟩ 8 (by kernel_rfl) (by kernel_rfl) (by kernel_rfl) (by kernel_rfl)) ?_
  intro W base args ds gs before hval0 hW hcnd hsz _
  have hval : ∀ (j : Nat) t v, Try.f4.params[j]? = some t → args[j]? = some v → Value.okWide Try.prog W .any base t v := hval0
  have hW' := hW
  have hlt := hW.lt
  obtain ⟨p, q, hA0, hV, rfl, hfz, hnd⟩ := hW
  have hA : DataW.TrodAll enc Try.prog W 0 (fun _ => true) true Try.f4.params.toList args.toList ds p := hA0
  rw [Try.params4] at hA hval
  obtain ⟨v0, vs0, d0, ds0, p0, q0, hargs, rfl, rfl, h0, r0⟩ := trodAll_cons hA
  obtain ⟨v1, vs1, d1, ds1, p1, q1, rfl, rfl, rfl, h1, r1⟩ := trodAll_cons r0
  obtain ⟨rfl, rfl, rfl⟩ := trodAll_nil r1
  obtain rfl : args = #[v0, v1] := by cases args; simp_all
  obtain ⟨rfl, rfl⟩ := trodVars_none hV
  rw [List.all_eq_true] at hsz
  have hw : ∀ (j : Nat) t d, ([31, 5] : List TypeId)[j]? = some t → [d0, d1][j]? = some d → ∀ n ∈ d.weights Try.prog t, n ≤ reachBytes := fun j t d ht hd n hn =>
    by simpa using hsz n (DataW.weights_mem_each (ts := Try.f4.params.toList ++ Rows.accessLastSpec.plain.varTypes Try.prog) (by rw [Try.params4]; exact get_app ht) (by exact get_app hd) n hn)
  obtain ⟨y0, e0⟩ := Eng.open_arg uok uflat opens31 h0 (hw 0 _ _ rfl rfl) (Eng.okv_plain rfl ⟨_, Try.underlying31, trivial⟩ (hval 0 31 v0 rfl rfl))
  obtain ⟨y1, e1⟩ := Eng.open_arg uok uflat opens5 h1 (hw 1 _ _ rfl rfl) (Eng.okv_plain rfl ⟨_, Try.underlying5, trivial⟩ (hval 1 5 v1 rfl rfl))
  clear hA0 hval0
  refine (walk y0 y1 (rel_u8 e1) v0 v1 W e0 e1).mono fun e W' ⟨he, hg⟩ => ?_
  subst he
  have lt0 : ∀ x ∈ p0, x.block < W.heap.size := fun x hx => hlt x (by simp [hx])
  have lt1 : ∀ x ∈ p1, x.block < W.heap.size := fun x hx => hlt x (by simp [hx])
  exact ⟨_, rfl, Eng.post_of_kept (pa := p0 ++ (p1 ++ [])) (pv := []) hW' (fun _ _ _ => (trodAll_cons_mk (shut_bool Try.underlying4 _) trodAll_mk0))
    (fun sp hs => trodAll_cons_mk (Eng.Kept.trod laidOut (by kernel_rfl) (of_decide_eq_true (by kernel_rfl)) h0 hg lt0 fun x hx => hs x (by simp [hx])) (trodAll_cons_mk (Eng.Kept.trod laidOut (by kernel_rfl) (of_decide_eq_true (by kernel_rfl)) h1 hg lt1 fun x hx => hs x (by simp [hx])) trodAll_mk0)) (fun _ _ => rfl) rfl
    hg (ok_one (by kernel_rfl) rfl (okWide_bool_mk Try.underlying4 _))⟩

theorem over : Rows.accessLastRow.holds Try.pinned (OpenSpec.ofChange Rows.accessLastSpec) :=
  OpenClaim.holds_of_wide 4 Try.f4 rfl rfl rfl rfl rfl rfl rfl ⟨rfl, rfl, rfl, rfl, rfl⟩ rfl rfl rfl rfl rfl (by kernel_rfl) Try.func4 (by kernel_rfl)
    (of_decide_eq_true (by kernel_rfl)) (by unfold Func.isWrapper; first | (rw [if_pos (by decide +kernel)]; kernel_rfl) | (rw [if_neg (by decide +kernel)]; exact ⟨rfl, rfl⟩))
    (fun os started H enc _ => lifted os started H enc)

/-- ████ THE STATEMENT ████ -/
theorem proved : Rows.AccessLastSaid :=
  over
#print axioms proved
end Go.Proofs.Ytjdddnbddnhilaa.accessLast
