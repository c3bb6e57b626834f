/- Proved: for every input the law CorrelationLines returns true, and its arguments read as before. The listed package variables read as the program's text lays them: the card ties them. No other condition. -/
import Derived.Test.YtahbkngofdpehaaDoorRows
import Derived.Test.YtahbkngofdpehaaDoorCards
import Derived.Test.YtahbkngofdpehaaDoorTie
import Derived.Test.YtahbkngofdpehaaDoorQ
import Derived.Test.YtahbkngofdpehaaDoorCnW
import Derived.Test.YtahbkngofdpehaaDoorCnF
import Derived.Test.YtahbkngofdpehaaDoorCnNX5b
import Derived.Test.YtahbkngofdpehaaDoorCnTXi
import Derived.Test.YtahbkngofdpehaaDoorCnTG
import Derived.WalkKit
import Derived.ProofKit
import Derived.OpenShut
import Derived.Lay
import Derived.SevenTiedAt
set_option linter.unusedVariables false
set_option linter.unusedSimpArgs false
set_option linter.unusedSectionVars false
namespace Go.Proofs.YtahbkngofdpehaaDoor.correlationLines
open Go.ChangeShapes Go.WideShapes Go.ChangeAt Go.RowKit
open Go.Proofs (U X0 uok carU)

theorem own : ownKnob Tryd.prog.godebug = none := by kernel_rfl
theorem laidOut : laidOutB Tryd.prog = true := by kernel_rfl

theorem uflat : Eng.UFlat U := fun n x => match n, x with
  | 0, _ => rfl
  | 1, _ => rfl
  | 2, _ => rfl
  | 3, _ => rfl
  | _ + 4, _ => rfl

theorem get_app {α : Type} {l r : List α} {j : Nat} {x : α} (h : l[j]? = some x) : (l ++ r)[j]? = some x := by
  rw [List.getElem?_append_left (List.getElem?_eq_some_iff.1 h).1]; exact h

theorem opens48 : Eng.Opens Tryd.prog U 48 (.int .i8) := Eng.opens_int Tryd.underlying48
theorem opens47 : Eng.Opens Tryd.prog U 47 (.sl (.int .i8)) := Eng.opens_slice uok uflat Tryd.underlying47 (by kernel_rfl) (by decide) (Nat.le_of_ble_eq_true (by kernel_rfl)) opens48
theorem opens3 : Eng.Opens Tryd.prog U 3 (.int .i64) := Eng.opens_int Tryd.underlying3
theorem opens4 : Eng.Opens Tryd.prog U 4 .bool := Eng.opens_bool Tryd.underlying4

theorem laid0 : Rows.laid_tablefinder_fraction_one = (DataW.slice [.lit (.int .u32 1)] [] : DataW Unit) := by kernel_rfl
theorem globOk0 {w : World} (h : laidMet Tryd.prog Rows.correlationLinesRow.laid w) : Eng.GlobOk w (fun b => b < w.heap.size) 0 [Eng.P.sl 1 [.int .u32 1]] :=
  Eng.globOk_one (t := 175) (e := 122) (by kernel_rfl) (by kernel_rfl) Tryd.underlying175 Tryd.underlying122 (by kernel_rfl) (by decide) (laid0 ▸ Lib.laidMet.reads (n := "tablefinder/fraction.one") (d := Rows.laid_tablefinder_fraction_one) h (List.mem_iff_getElem?.2 ⟨0, by kernel_rfl⟩))

set_option maxRecDepth 100000 in
/-- The Go text returns true, and leaves all that was there alone. -/
theorem walk (y0 : (List Int)) (y1 : Int) (y2 : Int) (y3 : Bool) (v0 v1 v2 v3 : Value) (w : World)
    (e0 : Eng.RelP w (fun b => b < w.heap.size) v0 (U.encE (.sl (.int .i8)) y0)) (e1 : Eng.RelP w (fun b => b < w.heap.size) v1 (U.encE (.int .i64) y1)) (e2 : Eng.RelP w (fun b => b < w.heap.size) v2 (U.encE (.int .i64) y2)) (e3 : Eng.RelP w (fun b => b < w.heap.size) v3 (U.encE .bool y3)) (hL : laidMet Tryd.prog Rows.correlationLinesRow.laid w) :
    Calls Tryd.prog 4 #[v0, v1, v2, v3] w fun e w' => e = .returned (.bool true) ∧ Eng.Kept w w' := by
  have hF : Eng.Fun X0.E 4 (([U.encE (.sl (.int .i8)) y0, U.encE (.int .i64) y1, U.encE (.int .i64) y2, U.encE .bool y3] : List Eng.P).map Eng.Arg.p) ⟨[.p (.bool true)], []⟩ :=
    (Go.Proofs.D92_ok [.p (.l ⟨(.sl (.int .i8)), y0⟩), .p (.l ⟨(.int .i64), y1⟩), .p (.l ⟨(.int .i64), y2⟩), .p (.l ⟨.bool, y3⟩)] _ rfl true (Go.Proofs.correlationLines_law y0 y1 y2 y3 (i8s_of e0))).1
  refine Eng.law_calls_bool (E := X0.E) hF rfl (fun k v x hv hx => ?_) (fun g cs hm => ?_)
  · match k, hv, hx with
    | 0, hv, hx => simp at hv hx; subst hv hx; exact e0
    | 1, hv, hx => simp at hv hx; subst hv hx; exact e1
    | 2, hv, hx => simp at hv hx; subst hv hx; exact e2
    | 3, hv, hx => simp at hv hx; subst hv hx; exact e3
    | k + 4, hv, hx => simp at hv
  · have hm' : (g, cs) ∈ [(0, [Eng.P.sl 1 [.int .u32 1]])] := (show X0.E.globs = [(0, [Eng.P.sl 1 [.int .u32 1]])] by kernel_rfl) ▸ hm
    simp only [List.mem_cons, List.not_mem_nil, or_false, Prod.mk.injEq] at hm'
    rcases hm' with ⟨rfl, rfl⟩
    · exact globOk0 hL

set_option maxRecDepth 100000 in
theorem lifted (os : Os) (started : os.Started) (H : Type) (enc : TypeId × Value → H) :
    ReturnsInHanded {} Tryd.checked os 4 .any (fun w args => (Rows.correlationLinesSpec.pre enc Tryd.prog Tryd.f4 [] false w args ∧ laidMetH Tryd.prog Rows.correlationLinesRow.laid w) ∧ sizedMet enc Tryd.prog Tryd.f4 (OpenSpec.ofChange Rows.correlationLinesSpec) false w args) (Rows.correlationLinesSpec.post enc Tryd.prog Tryd.f4 false true false false) := by
  refine returnsInHanded_of_change_and (C := Tryd.checked) (X := fun w _ => laidMetH Tryd.prog Rows.correlationLinesRow.laid w) (fun _ _ _ hh h => h.of_heap hh) own started (by kernel_rfl) Tryd.func4
    (ChangeSpec.witness_shaped (enc := enc) (C := Tryd.checked) (os := os) (X := fun w _ => laidMetH Tryd.prog Rows.correlationLinesRow.laid w) false (World.laidAll Tryd.prog os Rows.correlationLinesRow.laid) #[.slice none 0 0, .int .i64 0, .int .i64 0, .bool false] 8 (World.laidAll_os _ _ _)
      (World.shaped_of_ZipB (by kernel_rfl) (by kernel_rfl)) (by kernel_rfl) (by kernel_rfl) (by kernel_rfl)
      (by rw [MakeChecks.laidMetH_plain _ _ _ (by kernel_rfl)]; exact laidMet_laidAll _ (by kernel_rfl) (by kernel_rfl))) ?_
  intro W base args ds gs before hval0 hW hcnd hsz hL _
  have hval : ∀ (j : Nat) t v, Tryd.f4.params[j]? = some t → args[j]? = some v → Value.okWide Tryd.prog W .any base t v := hval0
  rw [MakeChecks.laidMetH_plain _ _ _ (by kernel_rfl)] at hL
  have hW' := hW
  have hlt := hW.lt
  obtain ⟨p, q, hA0, hV, rfl, hfz, hnd⟩ := hW
  have hA : DataW.TrodAll enc Tryd.prog W 0 (fun _ => true) true Tryd.f4.params.toList args.toList ds p := hA0
  rw [Tryd.params4] at hA hval
  obtain ⟨v0, vs0, d0, ds0, p0, q0, hargs, rfl, rfl, h0, r0⟩ := trodAll_cons hA
  obtain ⟨v1, vs1, d1, ds1, p1, q1, rfl, rfl, rfl, h1, r1⟩ := trodAll_cons r0
  obtain ⟨v2, vs2, d2, ds2, p2, q2, rfl, rfl, rfl, h2, r2⟩ := trodAll_cons r1
  obtain ⟨v3, vs3, d3, ds3, p3, q3, rfl, rfl, rfl, h3, r3⟩ := trodAll_cons r2
  obtain ⟨rfl, rfl, rfl⟩ := trodAll_nil r3
  obtain rfl : args = #[v0, v1, v2, v3] := by cases args; simp_all
  obtain ⟨rfl, rfl⟩ := trodVars_none hV
  rw [List.all_eq_true] at hsz
  have hw : ∀ (j : Nat) t d, ([47, 3, 3, 4] : List TypeId)[j]? = some t → [d0, d1, d2, d3][j]? = some d → ∀ n ∈ d.weights Tryd.prog t, n ≤ reachBytes := fun j t d ht hd n hn =>
    by simpa using hsz n (DataW.weights_mem_each (ts := Tryd.f4.params.toList ++ Rows.correlationLinesSpec.plain.varTypes Tryd.prog) (by rw [Tryd.params4]; exact get_app ht) (by exact get_app hd) n hn)
  obtain ⟨y0, e0⟩ := Eng.open_arg uok uflat opens47 h0 (hw 0 _ _ rfl rfl) (Eng.okv_plain rfl ⟨_, Tryd.underlying47, trivial⟩ (hval 0 47 v0 rfl rfl))
  obtain ⟨y1, e1⟩ := Eng.open_arg uok uflat opens3 h1 (hw 1 _ _ rfl rfl) (Eng.okv_plain rfl ⟨_, Tryd.underlying3, trivial⟩ (hval 1 3 v1 rfl rfl))
  obtain ⟨y2, e2⟩ := Eng.open_arg uok uflat opens3 h2 (hw 2 _ _ rfl rfl) (Eng.okv_plain rfl ⟨_, Tryd.underlying3, trivial⟩ (hval 2 3 v2 rfl rfl))
  obtain ⟨y3, e3⟩ := Eng.open_arg uok uflat opens4 h3 (hw 3 _ _ rfl rfl) (Eng.okv_plain rfl ⟨_, Tryd.underlying4, trivial⟩ (hval 3 4 v3 rfl rfl))
  clear hA0 hval0
  refine (walk y0 y1 y2 y3 v0 v1 v2 v3 W e0 e1 e2 e3 hL).mono fun e W' ⟨he, hg⟩ => ?_
  subst he
  have lt0 : ∀ x ∈ p0, x.block < W.heap.size := fun x hx => hlt x (by simp [hx])
  have lt1 : ∀ x ∈ p1, x.block < W.heap.size := fun x hx => hlt x (by simp [hx])
  have lt2 : ∀ x ∈ p2, x.block < W.heap.size := fun x hx => hlt x (by simp [hx])
  have lt3 : ∀ x ∈ p3, x.block < W.heap.size := fun x hx => hlt x (by simp [hx])
  exact ⟨_, rfl, Eng.post_of_kept (pa := (p0 ++ (p1 ++ (p2 ++ (p3 ++ []))))) (pv := []) hW' (fun _ _ _ => (trodAll_cons_mk (shut_bool Tryd.underlying4 _) trodAll_mk0))
    (fun sp hs => (trodAll_cons_mk (Eng.Kept.trod laidOut (by kernel_rfl) (of_decide_eq_true (by kernel_rfl)) h0 hg lt0 fun x hx => hs x (by simp [hx])) (trodAll_cons_mk (Eng.Kept.trod laidOut (by kernel_rfl) (of_decide_eq_true (by kernel_rfl)) h1 hg lt1 fun x hx => hs x (by simp [hx])) (trodAll_cons_mk (Eng.Kept.trod laidOut (by kernel_rfl) (of_decide_eq_true (by kernel_rfl)) h2 hg lt2 fun x hx => hs x (by simp [hx])) (trodAll_cons_mk (Eng.Kept.trod laidOut (by kernel_rfl) (of_decide_eq_true (by kernel_rfl)) h3 hg lt3 fun x hx => hs x (by simp [hx])) trodAll_mk0))))) (fun _ _ => rfl) rfl
    hg (ok_one (by kernel_rfl) rfl (okWide_bool_mk Tryd.underlying4 _))⟩

theorem over : Rows.correlationLinesRow.holds Tryd.pinned (OpenSpec.ofChange Rows.correlationLinesSpec) :=
  OpenClaim.holds_of_wide 4 Tryd.f4 rfl rfl rfl rfl rfl rfl rfl ⟨rfl, rfl, rfl, rfl, rfl⟩ rfl rfl rfl rfl rfl named_ Tryd.func4 closed inst_ wrap_
    (fun os started H enc _ => lifted os started H enc)

/-- ████ THE STATEMENT: THE TIED CARD ████ -/
theorem proved : Rows.CorrelationLinesCardSaid :=
  Claim7.holds_tied_plain_at .later [] [.widerDeep] true (true, "eec583a55967367a8612e427ddfa2e8e8fb9bce4814b0ecaca0ef50afc55f610") false
    over (fun _ h => by cases h) wfText (fun _ h => by cases h) correlationLines_row_tie rfl ⟨rfl, rfl⟩ mainIs_ rfl
    (fun f fn hf hfn => by
      obtain rfl : f = 4 := (Option.some.inj (named_.symm.trans hf)).symm
      obtain rfl : fn = Tryd.f4 := (Option.some.inj (Tryd.func4.symm.trans hfn)).symm
      exact ⟨looks_, fun j t ht => by
        rw [Tryd.params4] at ht
        have hm : t ∈ [47, 3, 3, 4] := by simpa using Array.mem_of_getElem? ht
        exact (show Tryd.prog.wantsStandIn t = false by simpa using List.all_eq_true.1 stand_ t hm)⟩)
    goes_
#print axioms proved
end Go.Proofs.YtahbkngofdpehaaDoor.correlationLines
