/- Proved: for every input the law TableSteps returns true, and its arguments read as before. The listed package variables read as the program's text lays them: the card ties them. No other condition. -/
import Derived.Test.YtahbkngofdpehaaGreatDoorRows
import Derived.Test.YtahbkngofdpehaaGreatDoorCards
import Derived.Test.YtahbkngofdpehaaGreatDoorTie
import Derived.Test.YtahbkngofdpehaaGreatDoorQ
import Derived.Test.YtahbkngofdpehaaGreatDoorTtW
import Derived.Test.YtahbkngofdpehaaGreatDoorTtF
import Derived.Test.YtahbkngofdpehaaGreatDoorTtTS7
import Derived.Test.YtahbkngofdpehaaGreatDoorTtTSX
import Derived.WalkKit
import Derived.ProofKit
import Derived.OpenShut
import Derived.Lay
import Derived.SevenTiedAt
set_option linter.unusedVariables false
set_option linter.unusedSimpArgs false
set_option linter.unusedSectionVars false
namespace Go.Proofs.YtahbkngofdpehaaGreatDoor.tableSteps
open Go.ChangeShapes Go.WideShapes Go.ChangeAt Go.RowKit
open Go.Proofs (U X0 uok carU)

theorem own : ownKnob Tryz.prog.godebug = none := by kernel_rfl
theorem laidOut : laidOutB Tryz.prog = true := by kernel_rfl

theorem uflat : Eng.UFlat U := fun n x => match n, x with
  | 0, _ => rfl
  | 1, _ => rfl
  | 2, _ => rfl
  | 3, _ => rfl
  | 4, _ => rfl
  | 5, _ => rfl
  | 6, _ => List.all_eq_true.2 fun l hl => by obtain ⟨y, _, rfl⟩ := List.mem_map.1 hl; rfl
  | 7, _ => rfl
  | _ + 8, _ => rfl

theorem get_app {α : Type} {l r : List α} {j : Nat} {x : α} (h : l[j]? = some x) : (l ++ r)[j]? = some x := by
  rw [List.getElem?_append_left (List.getElem?_eq_some_iff.1 h).1]; exact h

theorem opens5 : Eng.Opens Tryz.prog U 5 (.int .u8) := Eng.opens_int Tryz.underlying5
theorem opens22 : Eng.Opens Tryz.prog U 22 (.sl (.int .u8)) := Eng.opens_slice uok uflat Tryz.underlying22 (by kernel_rfl) (by decide) (Nat.le_of_ble_eq_true (by kernel_rfl)) opens5
theorem opens3 : Eng.Opens Tryz.prog U 3 (.int .i64) := Eng.opens_int Tryz.underlying3
theorem opens54 : Eng.Opens Tryz.prog U 54 (.sl (.int .i64)) := Eng.opens_slice uok uflat Tryz.underlying54 (by kernel_rfl) (by decide) (Nat.le_of_ble_eq_true (by kernel_rfl)) opens3
theorem opens4 : Eng.Opens Tryz.prog U 4 .bool := Eng.opens_bool Tryz.underlying4
theorem opens9 : Eng.Opens Tryz.prog U 9 .str := Eng.opens_str Tryz.underlying9
theorem opens56 : Eng.Opens Tryz.prog U 56 (.st 0) := Eng.opens_struct uok (k := 0) (Ts := [.bool, .str]) Tryz.underlying56 (by kernel_rfl) ⟨rfl, by kernel_rfl, opens4, rfl, by kernel_rfl, opens9, trivial⟩ fun ys => ⟨(⟨ys.1, ys.2.1⟩ : Go.Proofs.G_api_Cell), rfl⟩

theorem laid0 : Rows.laid_unicode_utf8_first = (Lib.tabData .u8 Lib.firstTab : DataW Unit) := by kernel_rfl
theorem globOk0 {w : World} (h : laidMet Tryz.prog Rows.tableStepsRow.laid w) : Eng.GlobOk w (fun b => b < w.heap.size) 0 (Lib.firstTab.map fun z => Eng.P.int .u8 z) :=
  Eng.globOk_tab (t := 204) (e := 5) (m := 256) (by kernel_rfl) (by kernel_rfl) Tryz.underlying204 Tryz.underlying5 (by kernel_rfl) (by kernel_rfl) (by kernel_rfl) (laid0 ▸ Lib.laidMet.reads (n := "unicode/utf8.first") (d := Rows.laid_unicode_utf8_first) h (List.mem_iff_getElem?.2 ⟨9, by kernel_rfl⟩))
def acceptZ : List (List Int) := [[128, 191], [160, 191], [128, 159], [144, 191], [128, 143], [0, 0], [0, 0], [0, 0], [0, 0], [0, 0], [0, 0], [0, 0], [0, 0], [0, 0], [0, 0], [0, 0]]
def acceptP : List Eng.P := [.int .u8 128, .int .u8 191, .int .u8 160, .int .u8 191, .int .u8 128, .int .u8 159, .int .u8 144, .int .u8 191, .int .u8 128, .int .u8 143, .int .u8 0, .int .u8 0, .int .u8 0, .int .u8 0, .int .u8 0, .int .u8 0, .int .u8 0, .int .u8 0, .int .u8 0, .int .u8 0, .int .u8 0, .int .u8 0, .int .u8 0, .int .u8 0, .int .u8 0, .int .u8 0, .int .u8 0, .int .u8 0, .int .u8 0, .int .u8 0, .int .u8 0, .int .u8 0]
theorem laid1 : Rows.laid_unicode_utf8_acceptRanges = (DataW.agg (acceptZ.map fun zs => .agg (zs.map fun z => .lit (.int .u8 z))) : DataW Unit) := by kernel_rfl
theorem globOk1 {w : World} (h : laidMet Tryz.prog Rows.tableStepsRow.laid w) : Eng.GlobOk w (fun b => b < w.heap.size) 1 acceptP :=
  Eng.globOk_tab2 (t := 207) (e := 206) (f := 5) (m := 16) (c := 2) (k := .u8) (zss := acceptZ) (by kernel_rfl) (by kernel_rfl) Tryz.underlying207 Tryz.underlying206 (fun j x hj => by
    match j, hj with
    | 0, hj => simp at hj; subst hj; exact ⟨Tryz.underlying5, rfl, by kernel_rfl⟩
    | 1, hj => simp at hj; subst hj; exact ⟨Tryz.underlying5, rfl, by kernel_rfl⟩
    | j + 2, hj => simp at hj) (by kernel_rfl) rfl (by kernel_rfl) (by decide) rfl (by kernel_rfl) (by kernel_rfl) rfl
    (laid1 ▸ Lib.laidMet.reads (n := "unicode/utf8.acceptRanges") (d := Rows.laid_unicode_utf8_acceptRanges) h (List.mem_iff_getElem?.2 ⟨3, by kernel_rfl⟩))
theorem laid3 : Rows.laid_internal_strconv_uint64pow10 = (Lib.tabData .u64 Lib.pow10Tab : DataW Unit) := by kernel_rfl
theorem globOk3 {w : World} (h : laidMet Tryz.prog Rows.tableStepsRow.laid w) : Eng.GlobOk w (fun b => b < w.heap.size) 3 (Lib.pow10Tab.map fun z => Eng.P.int .u64 z) :=
  Eng.globOk_tab (t := 272) (e := 209) (m := 20) (by kernel_rfl) (by kernel_rfl) Tryz.underlying272 Tryz.underlying209 (by kernel_rfl) (by kernel_rfl) (by kernel_rfl) (laid3 ▸ Lib.laidMet.reads (n := "internal/strconv.uint64pow10") (d := Rows.laid_internal_strconv_uint64pow10) h (List.mem_iff_getElem?.2 ⟨2, by kernel_rfl⟩))

set_option maxRecDepth 100000 in
/-- The Go text returns true, and leaves all that was there alone. -/
theorem walk (y0 : (List Int)) (y1 : Int) (y2 : Int) (y3 : (List Int)) (y4 : (List Int)) (y5 :  Go.Proofs.G_api_Cell) (y6 :  Go.Proofs.G_api_Cell) (v0 v1 v2 v3 v4 v5 v6 : Value) (w : World)
    (e0 : Eng.RelP w (fun b => b < w.heap.size) v0 (U.encE (.sl (.int .u8)) y0)) (e1 : Eng.RelP w (fun b => b < w.heap.size) v1 (U.encE (.int .i64) y1)) (e2 : Eng.RelP w (fun b => b < w.heap.size) v2 (U.encE (.int .i64) y2)) (e3 : Eng.RelP w (fun b => b < w.heap.size) v3 (U.encE (.sl (.int .i64)) y3)) (e4 : Eng.RelP w (fun b => b < w.heap.size) v4 (U.encE (.sl (.int .i64)) y4)) (e5 : Eng.RelP w (fun b => b < w.heap.size) v5 (U.encE (.st 0) y5)) (e6 : Eng.RelP w (fun b => b < w.heap.size) v6 (U.encE (.st 0) y6)) (hL : laidMet Tryz.prog Rows.tableStepsRow.laid w) :
    Calls Tryz.prog 4 #[v0, v1, v2, v3, v4, v5, v6] w fun e w' => e = .returned (.bool true) ∧ Eng.Kept w w' := by
  have hF : Eng.Fun X0.E 4 (([U.encE (.sl (.int .u8)) y0, U.encE (.int .i64) y1, U.encE (.int .i64) y2, U.encE (.sl (.int .i64)) y3, U.encE (.sl (.int .i64)) y4, U.encE (.st 0) y5, U.encE (.st 0) y6] : List Eng.P).map Eng.Arg.p) ⟨[.p (.bool true)], []⟩ :=
    (Go.Proofs.D98_ok [.p (.l ⟨(.sl (.int .u8)), y0⟩), .p (.l ⟨(.int .i64), y1⟩), .p (.l ⟨(.int .i64), y2⟩), .p (.l ⟨(.sl (.int .i64)), y3⟩), .p (.l ⟨(.sl (.int .i64)), y4⟩), .p (.l ⟨(.st 0), y5⟩), .p (.l ⟨(.st 0), y6⟩)] _ rfl true (Go.Proofs.tableSteps_law y0 y1 y2 y3 y4 y5 y6 (bytes_of e0) (i64_of e2) (text_of e5))).1
  refine Eng.law_calls_bool (E := X0.E) hF rfl (fun k v x hv hx => ?_) (fun g cs hm => ?_)
  · match k, hv, hx with
    | 0, hv, hx => simp at hv hx; subst hv hx; exact e0
    | 1, hv, hx => simp at hv hx; subst hv hx; exact e1
    | 2, hv, hx => simp at hv hx; subst hv hx; exact e2
    | 3, hv, hx => simp at hv hx; subst hv hx; exact e3
    | 4, hv, hx => simp at hv hx; subst hv hx; exact e4
    | 5, hv, hx => simp at hv hx; subst hv hx; exact e5
    | 6, hv, hx => simp at hv hx; subst hv hx; exact e6
    | k + 7, hv, hx => simp at hv
  · have hm' : (g, cs) ∈ [(0, Lib.firstTab.map fun z => Eng.P.int .u8 z), (1, acceptP), (3, Lib.pow10Tab.map fun z => Eng.P.int .u64 z)] := (show X0.E.globs = [(0, Lib.firstTab.map fun z => Eng.P.int .u8 z), (1, acceptP), (3, Lib.pow10Tab.map fun z => Eng.P.int .u64 z)] by kernel_rfl) ▸ hm
    simp only [List.mem_cons, List.not_mem_nil, or_false, Prod.mk.injEq] at hm'
    rcases hm' with ⟨rfl, rfl⟩ | ⟨rfl, rfl⟩ | ⟨rfl, rfl⟩
    · exact globOk0 hL
    · exact globOk1 hL
    · exact globOk3 hL

set_option maxRecDepth 100000 in
theorem lifted (os : Os) (started : os.Started) (H : Type) (enc : TypeId × Value → H) :
    ReturnsInHanded {} Tryz.checked os 4 .any (fun w args => (Rows.tableStepsSpec.pre enc Tryz.prog Tryz.f4 [] false w args ∧ laidMetH Tryz.prog Rows.tableStepsRow.laid w) ∧ sizedMet enc Tryz.prog Tryz.f4 (OpenSpec.ofChange Rows.tableStepsSpec) false w args) (Rows.tableStepsSpec.post enc Tryz.prog Tryz.f4 false true false false) := by
  refine returnsInHanded_of_change_and (C := Tryz.checked) (X := fun w _ => laidMetH Tryz.prog Rows.tableStepsRow.laid w) (fun _ _ _ hh h => h.of_heap hh) own started (by kernel_rfl) Tryz.func4
    (ChangeSpec.witness_shaped (enc := enc) (C := Tryz.checked) (os := os) (X := fun w _ => laidMetH Tryz.prog Rows.tableStepsRow.laid w) false (World.laidAll Tryz.prog os Rows.tableStepsRow.laid) #[.slice none 0 0, .int .i64 0, .int .i64 0, .slice none 0 0, .slice none 0 0, .agg #[.bool false, .string ⟨#[]⟩], .agg #[.bool false, .string ⟨#[]⟩]] 8 (World.laidAll_os _ _ _)
      (World.shaped_of_ZipB (by kernel_rfl) (by kernel_rfl)) (by kernel_rfl) (by kernel_rfl) (by kernel_rfl)
      (by rw [MakeChecks.laidMetH_plain _ _ _ (by kernel_rfl)]; exact laidMet_laidAll _ (by kernel_rfl) (by kernel_rfl))) ?_
  intro W base args ds gs before hval0 hW hcnd hsz hL _
  have hval : ∀ (j : Nat) t v, Tryz.f4.params[j]? = some t → args[j]? = some v → Value.okWide Tryz.prog W .any base t v := hval0
  rw [MakeChecks.laidMetH_plain _ _ _ (by kernel_rfl)] at hL
  have hW' := hW
  have hlt := hW.lt
  obtain ⟨p, q, hA0, hV, rfl, hfz, hnd⟩ := hW
  have hA : DataW.TrodAll enc Tryz.prog W 0 (fun _ => true) true Tryz.f4.params.toList args.toList ds p := hA0
  rw [Tryz.params4] at hA hval
  obtain ⟨v0, vs0, d0, ds0, p0, q0, hargs, rfl, rfl, h0, r0⟩ := trodAll_cons hA
  obtain ⟨v1, vs1, d1, ds1, p1, q1, rfl, rfl, rfl, h1, r1⟩ := trodAll_cons r0
  obtain ⟨v2, vs2, d2, ds2, p2, q2, rfl, rfl, rfl, h2, r2⟩ := trodAll_cons r1
  obtain ⟨v3, vs3, d3, ds3, p3, q3, rfl, rfl, rfl, h3, r3⟩ := trodAll_cons r2
  obtain ⟨v4, vs4, d4, ds4, p4, q4, rfl, rfl, rfl, h4, r4⟩ := trodAll_cons r3
  obtain ⟨v5, vs5, d5, ds5, p5, q5, rfl, rfl, rfl, h5, r5⟩ := trodAll_cons r4
  obtain ⟨v6, vs6, d6, ds6, p6, q6, rfl, rfl, rfl, h6, r6⟩ := trodAll_cons r5
  obtain ⟨rfl, rfl, rfl⟩ := trodAll_nil r6
  obtain rfl : args = #[v0, v1, v2, v3, v4, v5, v6] := by cases args; simp_all
  obtain ⟨rfl, rfl⟩ := trodVars_none hV
  rw [List.all_eq_true] at hsz
  have hw : ∀ (j : Nat) t d, ([22, 3, 3, 54, 54, 56, 56] : List TypeId)[j]? = some t → [d0, d1, d2, d3, d4, d5, d6][j]? = some d → ∀ n ∈ d.weights Tryz.prog t, n ≤ reachBytes := fun j t d ht hd n hn =>
    by simpa using hsz n (DataW.weights_mem_each (ts := Tryz.f4.params.toList ++ Rows.tableStepsSpec.plain.varTypes Tryz.prog) (by rw [Tryz.params4]; exact get_app ht) (by exact get_app hd) n hn)
  obtain ⟨y0, e0⟩ := Eng.open_arg uok uflat opens22 h0 (hw 0 _ _ rfl rfl) (Eng.okv_plain rfl ⟨_, Tryz.underlying22, trivial⟩ (hval 0 22 v0 rfl rfl))
  obtain ⟨y1, e1⟩ := Eng.open_arg uok uflat opens3 h1 (hw 1 _ _ rfl rfl) (Eng.okv_plain rfl ⟨_, Tryz.underlying3, trivial⟩ (hval 1 3 v1 rfl rfl))
  obtain ⟨y2, e2⟩ := Eng.open_arg uok uflat opens3 h2 (hw 2 _ _ rfl rfl) (Eng.okv_plain rfl ⟨_, Tryz.underlying3, trivial⟩ (hval 2 3 v2 rfl rfl))
  obtain ⟨y3, e3⟩ := Eng.open_arg uok uflat opens54 h3 (hw 3 _ _ rfl rfl) (Eng.okv_plain rfl ⟨_, Tryz.underlying54, trivial⟩ (hval 3 54 v3 rfl rfl))
  obtain ⟨y4, e4⟩ := Eng.open_arg uok uflat opens54 h4 (hw 4 _ _ rfl rfl) (Eng.okv_plain rfl ⟨_, Tryz.underlying54, trivial⟩ (hval 4 54 v4 rfl rfl))
  obtain ⟨y5, e5⟩ := Eng.open_arg uok uflat opens56 h5 (hw 5 _ _ rfl rfl) (Eng.okv_st ⟨_, Tryz.underlying56, trivial⟩ (hval 5 56 v5 rfl rfl))
  obtain ⟨y6, e6⟩ := Eng.open_arg uok uflat opens56 h6 (hw 6 _ _ rfl rfl) (Eng.okv_st ⟨_, Tryz.underlying56, trivial⟩ (hval 6 56 v6 rfl rfl))
  clear hA0 hval0
  refine (walk y0 y1 y2 y3 y4 y5 y6 v0 v1 v2 v3 v4 v5 v6 W e0 e1 e2 e3 e4 e5 e6 hL).mono fun e W' ⟨he, hg⟩ => ?_
  subst he
  have lt0 : ∀ x ∈ p0, x.block < W.heap.size := fun x hx => hlt x (by simp [hx])
  have lt1 : ∀ x ∈ p1, x.block < W.heap.size := fun x hx => hlt x (by simp [hx])
  have lt2 : ∀ x ∈ p2, x.block < W.heap.size := fun x hx => hlt x (by simp [hx])
  have lt3 : ∀ x ∈ p3, x.block < W.heap.size := fun x hx => hlt x (by simp [hx])
  have lt4 : ∀ x ∈ p4, x.block < W.heap.size := fun x hx => hlt x (by simp [hx])
  have lt5 : ∀ x ∈ p5, x.block < W.heap.size := fun x hx => hlt x (by simp [hx])
  have lt6 : ∀ x ∈ p6, x.block < W.heap.size := fun x hx => hlt x (by simp [hx])
  exact ⟨_, rfl, Eng.post_of_kept (pa := (p0 ++ (p1 ++ (p2 ++ (p3 ++ (p4 ++ (p5 ++ (p6 ++ [])))))))) (pv := []) hW' (fun _ _ _ => (trodAll_cons_mk (shut_bool Tryz.underlying4 _) trodAll_mk0))
    (fun sp hs => (trodAll_cons_mk (Eng.Kept.trod laidOut (by kernel_rfl) (of_decide_eq_true (by kernel_rfl)) h0 hg lt0 fun x hx => hs x (by simp [hx])) (trodAll_cons_mk (Eng.Kept.trod laidOut (by kernel_rfl) (of_decide_eq_true (by kernel_rfl)) h1 hg lt1 fun x hx => hs x (by simp [hx])) (trodAll_cons_mk (Eng.Kept.trod laidOut (by kernel_rfl) (of_decide_eq_true (by kernel_rfl)) h2 hg lt2 fun x hx => hs x (by simp [hx])) (trodAll_cons_mk (Eng.Kept.trod laidOut (by kernel_rfl) (of_decide_eq_true (by kernel_rfl)) h3 hg lt3 fun x hx => hs x (by simp [hx])) (trodAll_cons_mk (Eng.Kept.trod laidOut (by kernel_rfl) (of_decide_eq_true (by kernel_rfl)) h4 hg lt4 fun x hx => hs x (by simp [hx])) (trodAll_cons_mk (Eng.Kept.trod laidOut (by kernel_rfl) (of_decide_eq_true (by kernel_rfl)) h5 hg lt5 fun x hx => hs x (by simp [hx])) (trodAll_cons_mk (Eng.Kept.trod laidOut (by kernel_rfl) (of_decide_eq_true (by kernel_rfl)) h6 hg lt6 fun x hx => hs x (by simp [hx])) trodAll_mk0)))))))) (fun _ _ => rfl) rfl
    hg (ok_one (by kernel_rfl) rfl (okWide_bool_mk Tryz.underlying4 _))⟩

theorem over : Rows.tableStepsRow.holds Tryz.pinned (OpenSpec.ofChange Rows.tableStepsSpec) :=
  OpenClaim.holds_of_wide 4 Tryz.f4 rfl rfl rfl rfl rfl rfl rfl ⟨rfl, rfl, rfl, rfl, rfl⟩ rfl rfl rfl rfl rfl named_ Tryz.func4 closed inst_ wrap_
    (fun os started H enc _ => lifted os started H enc)

/-- ████ THE STATEMENT: THE TIED CARD ████ -/
theorem proved : Rows.TableStepsCardSaid :=
  Claim7.holds_tied_plain_at .later [] [.data, .data, .data, .data, .pinned, .pinned, .pinned, .pinned, .pinned, .pinned] true (true, "9637301d239bb3d334a75e8279a1906919cae3986eda3b3a7ba60539dcc99076") false
    over (fun _ h => by cases h) wfText (fun _ h => by cases h) tableSteps_row_tie rfl ⟨rfl, rfl⟩ mainIs_ rfl
    (fun f fn hf hfn => by
      obtain rfl : f = 4 := (Option.some.inj (named_.symm.trans hf)).symm
      obtain rfl : fn = Tryz.f4 := (Option.some.inj (Tryz.func4.symm.trans hfn)).symm
      exact ⟨looks_, fun j t ht => by
        rw [Tryz.params4] at ht
        have hm : t ∈ [22, 3, 3, 54, 54, 56, 56] := by simpa using Array.mem_of_getElem? ht
        exact (show Tryz.prog.wantsStandIn t = false by simpa using List.all_eq_true.1 stand_ t hm)⟩)
    goes_
#print axioms proved
end Go.Proofs.YtahbkngofdpehaaGreatDoor.tableSteps
