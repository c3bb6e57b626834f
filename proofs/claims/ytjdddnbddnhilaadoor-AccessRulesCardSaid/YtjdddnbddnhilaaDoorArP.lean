/- Proved: for every input the law AccessRules returns true, and its arguments read as before. The listed package variables read as the program's text lays them: the card ties them. No other condition. -/
import Derived.Test.YtjdddnbddnhilaaDoorRows
import Derived.Test.YtjdddnbddnhilaaDoorCards
import Derived.Test.YtjdddnbddnhilaaDoorTie
import Derived.Test.YtjdddnbddnhilaaDoorQ
import Derived.Test.YtjdddnbddnhilaaDoorArW
import Derived.Test.YtjdddnbddnhilaaDoorArF
import Derived.Test.YtjdddnbddnhilaaDoorArAY
import Derived.WalkKit
import Derived.ProofKit
import Derived.OpenShut
import Derived.Lay
import Derived.SevenTiedAt
set_option linter.unusedVariables false
set_option linter.unusedSimpArgs false
set_option linter.unusedSectionVars false
namespace Go.Proofs.YtjdddnbddnhilaaDoor.accessRules
open Go.ChangeShapes Go.WideShapes Go.ChangeAt Go.RowKit
open Go.Proofs (U X0 uok carU)

theorem own : ownKnob Tryd.prog.godebug = none := by kernel_rfl
theorem laidOut : laidOutB Tryd.prog = true := by kernel_rfl

theorem uflat : Eng.UFlat U := fun n x => match n, x with
  | 0, _ => rfl
  | 1, _ => rfl
  | 2, _ => rfl
  | 3, _ => rfl
  | 4, _ => rfl
  | 5, _ => rfl
  | 6, _ => rfl
  | 7, _ => rfl
  | 8, _ => List.all_eq_true.2 fun l hl => by obtain ⟨y, _, rfl⟩ := List.mem_map.1 hl; rfl
  | 9, _ => rfl
  | _ + 10, _ => rfl

theorem get_app {α : Type} {l r : List α} {j : Nat} {x : α} (h : l[j]? = some x) : (l ++ r)[j]? = some x := by
  rw [List.getElem?_append_left (List.getElem?_eq_some_iff.1 h).1]; exact h

theorem opens3 : Eng.Opens Tryd.prog U 3 (.int .i64) := Eng.opens_int Tryd.underlying3
theorem opens25 : Eng.Opens Tryd.prog U 25 (.sl (.int .i64)) := Eng.opens_slice uok uflat Tryd.underlying25 (by kernel_rfl) (by decide) (Nat.le_of_ble_eq_true (by kernel_rfl)) opens3
theorem opens9 : Eng.Opens Tryd.prog U 9 .str := Eng.opens_str Tryd.underlying9
theorem opens4 : Eng.Opens Tryd.prog U 4 .bool := Eng.opens_bool Tryd.underlying4
theorem opens82 : Eng.Opens Tryd.prog U 82 (.st 0) := Eng.opens_struct uok (k := 0) (Ts := [.str, .bool, (.int .i64), (.int .i64)]) Tryd.underlying82 (by kernel_rfl) ⟨rfl, by kernel_rfl, opens9, rfl, by kernel_rfl, opens4, rfl, by kernel_rfl, opens3, rfl, by kernel_rfl, opens3, trivial⟩ fun ys => ⟨(⟨ys.1, ys.2.1, ys.2.2.1, ys.2.2.2.1⟩ : Go.Proofs.GaPermission), rfl⟩
theorem opens78 : Eng.Opens Tryd.prog U 78 (.sl (.st 0)) := Eng.opens_slice uok uflat Tryd.underlying78 (by kernel_rfl) (by decide) (Nat.le_of_ble_eq_true (by kernel_rfl)) opens82
theorem opens38 : Eng.Opens Tryd.prog U 38 (.st 1) := Eng.opens_struct uok (k := 1) (Ts := [(.int .i64), (.int .i64)]) Tryd.underlying38 (by kernel_rfl) ⟨rfl, by kernel_rfl, opens3, rfl, by kernel_rfl, opens3, trivial⟩ fun ys => ⟨(⟨ys.1, ys.2.1⟩ : Go.Proofs.GaRef), rfl⟩

theorem laid1 : Rows.laid_unicode_utf8_first = (Lib.tabData .u8 Lib.firstTab : DataW Unit) := by kernel_rfl
theorem globOk1 {w : World} (h : laidMet Tryd.prog Rows.accessRulesRow.laid w) : Eng.GlobOk w (fun b => b < w.heap.size) 1 (Lib.firstTab.map fun z => Eng.P.int .u8 z) :=
  Eng.globOk_tab (t := 222) (e := 5) (m := 256) (by kernel_rfl) (by kernel_rfl) Tryd.underlying222 Tryd.underlying5 (by kernel_rfl) (by kernel_rfl) (by kernel_rfl) (laid1 ▸ Lib.laidMet.reads (n := "unicode/utf8.first") (d := Rows.laid_unicode_utf8_first) h (List.mem_iff_getElem?.2 ⟨4, by kernel_rfl⟩))
def acceptZ : List (List Int) := [[128, 191], [160, 191], [128, 159], [144, 191], [128, 143], [0, 0], [0, 0], [0, 0], [0, 0], [0, 0], [0, 0], [0, 0], [0, 0], [0, 0], [0, 0], [0, 0]]
def acceptP : List Eng.P := [.int .u8 128, .int .u8 191, .int .u8 160, .int .u8 191, .int .u8 128, .int .u8 159, .int .u8 144, .int .u8 191, .int .u8 128, .int .u8 143, .int .u8 0, .int .u8 0, .int .u8 0, .int .u8 0, .int .u8 0, .int .u8 0, .int .u8 0, .int .u8 0, .int .u8 0, .int .u8 0, .int .u8 0, .int .u8 0, .int .u8 0, .int .u8 0, .int .u8 0, .int .u8 0, .int .u8 0, .int .u8 0, .int .u8 0, .int .u8 0, .int .u8 0, .int .u8 0]
theorem laid2 : Rows.laid_unicode_utf8_acceptRanges = (DataW.agg (acceptZ.map fun zs => .agg (zs.map fun z => .lit (.int .u8 z))) : DataW Unit) := by kernel_rfl
theorem globOk2 {w : World} (h : laidMet Tryd.prog Rows.accessRulesRow.laid w) : Eng.GlobOk w (fun b => b < w.heap.size) 2 acceptP :=
  Eng.globOk_tab2 (t := 225) (e := 224) (f := 5) (m := 16) (c := 2) (k := .u8) (zss := acceptZ) (by kernel_rfl) (by kernel_rfl) Tryd.underlying225 Tryd.underlying224 (fun j x hj => by
    match j, hj with
    | 0, hj => simp at hj; subst hj; exact ⟨Tryd.underlying5, rfl, by kernel_rfl⟩
    | 1, hj => simp at hj; subst hj; exact ⟨Tryd.underlying5, rfl, by kernel_rfl⟩
    | j + 2, hj => simp at hj) (by kernel_rfl) rfl (by kernel_rfl) (by decide) rfl (by kernel_rfl) (by kernel_rfl) rfl
    (laid2 ▸ Lib.laidMet.reads (n := "unicode/utf8.acceptRanges") (d := Rows.laid_unicode_utf8_acceptRanges) h (List.mem_iff_getElem?.2 ⟨3, by kernel_rfl⟩))
theorem laid3 : Rows.laid_internal_strconv_uint64pow10 = (Lib.tabData .u64 Lib.pow10Tab : DataW Unit) := by kernel_rfl
theorem globOk3 {w : World} (h : laidMet Tryd.prog Rows.accessRulesRow.laid w) : Eng.GlobOk w (fun b => b < w.heap.size) 3 (Lib.pow10Tab.map fun z => Eng.P.int .u64 z) :=
  Eng.globOk_tab (t := 235) (e := 192) (m := 20) (by kernel_rfl) (by kernel_rfl) Tryd.underlying235 Tryd.underlying192 (by kernel_rfl) (by kernel_rfl) (by kernel_rfl) (laid3 ▸ Lib.laidMet.reads (n := "internal/strconv.uint64pow10") (d := Rows.laid_internal_strconv_uint64pow10) h (List.mem_iff_getElem?.2 ⟨2, by kernel_rfl⟩))

/-- The Go text returns true, and leaves all that was there alone. -/
theorem walk (y0 : (List Int)) (y1 : (List  Go.Proofs.GaPermission)) (y2 : (List UInt8)) (y3 :  Go.Proofs.GaRef) (y4 : Int) (y5 : Int) (y6 : Int) (v0 v1 v2 v3 v4 v5 v6 : Value) (w : World)
    (e0 : Eng.RelP w (fun b => b < w.heap.size) v0 (U.encE (.sl (.int .i64)) y0)) (e1 : Eng.RelP w (fun b => b < w.heap.size) v1 (U.encE (.sl (.st 0)) y1)) (e2 : Eng.RelP w (fun b => b < w.heap.size) v2 (U.encE .str y2)) (e3 : Eng.RelP w (fun b => b < w.heap.size) v3 (U.encE (.st 1) y3)) (e4 : Eng.RelP w (fun b => b < w.heap.size) v4 (U.encE (.int .i64) y4)) (e5 : Eng.RelP w (fun b => b < w.heap.size) v5 (U.encE (.int .i64) y5)) (e6 : Eng.RelP w (fun b => b < w.heap.size) v6 (U.encE (.int .i64) y6)) (hL : laidMet Tryd.prog Rows.accessRulesRow.laid w) :
    Calls Tryd.prog 8 #[v0, v1, v2, v3, v4, v5, v6] w fun e w' => e = .returned (.bool true) ∧ Eng.Kept w w' := by
  have hF : Eng.Fun X0.E 8 (([U.encE (.sl (.int .i64)) y0, U.encE (.sl (.st 0)) y1, U.encE .str y2, U.encE (.st 1) y3, U.encE (.int .i64) y4, U.encE (.int .i64) y5, U.encE (.int .i64) y6] : List Eng.P).map Eng.Arg.p) ⟨[.p (.bool true)], []⟩ :=
    (Go.Proofs.S_sl42_AccessRules_ok [.p (.l ⟨(.sl (.int .i64)), y0⟩), .p (.l ⟨(.sl (.st 0)), y1⟩), .p (.l ⟨.str, y2⟩), .p (.l ⟨(.st 1), y3⟩), .p (.l ⟨(.int .i64), y4⟩), .p (.l ⟨(.int .i64), y5⟩), .p (.l ⟨(.int .i64), y6⟩)] _ rfl true (Go.Proofs.accessRules_law y0 y1 y2 y3 y4 y5 y6)).1
  refine Eng.law_calls_bool (E := X0.E) hF rfl (fun k v x hv hx => ?_) (fun g cs hm => ?_)
  · match k, hv, hx with
    | 0, hv, hx => simp at hv hx; subst hv hx; exact e0
    | 1, hv, hx => simp at hv hx; subst hv hx; exact e1
    | 2, hv, hx => simp at hv hx; subst hv hx; exact e2
    | 3, hv, hx => simp at hv hx; subst hv hx; exact e3
    | 4, hv, hx => simp at hv hx; subst hv hx; exact e4
    | 5, hv, hx => simp at hv hx; subst hv hx; exact e5
    | 6, hv, hx => simp at hv hx; subst hv hx; exact e6
    | k + 7, hv, hx => simp at hv
  · have hm' : (g, cs) ∈ [(1, Lib.firstTab.map fun z => Eng.P.int .u8 z), (2, acceptP), (3, Lib.pow10Tab.map fun z => Eng.P.int .u64 z)] := (show X0.E.globs = [(1, Lib.firstTab.map fun z => Eng.P.int .u8 z), (2, acceptP), (3, Lib.pow10Tab.map fun z => Eng.P.int .u64 z)] by kernel_rfl) ▸ hm
    simp only [List.mem_cons, List.not_mem_nil, or_false, Prod.mk.injEq] at hm'
    rcases hm' with ⟨rfl, rfl⟩ | ⟨rfl, rfl⟩ | ⟨rfl, rfl⟩
    · exact globOk1 hL
    · exact globOk2 hL
    · exact globOk3 hL

set_option maxRecDepth 100000 in
theorem lifted (os : Os) (started : os.Started) (H : Type) (enc : TypeId × Value → H) :
    ReturnsInHanded {} Tryd.checked os 8 .any (fun w args => (Rows.accessRulesSpec.pre enc Tryd.prog Tryd.f8 [] false w args ∧ laidMetH Tryd.prog Rows.accessRulesRow.laid w) ∧ sizedMet enc Tryd.prog Tryd.f8 (OpenSpec.ofChange Rows.accessRulesSpec) false w args) (Rows.accessRulesSpec.post enc Tryd.prog Tryd.f8 false true false false) := by
  refine returnsInHanded_of_change_and (C := Tryd.checked) (X := fun w _ => laidMetH Tryd.prog Rows.accessRulesRow.laid w) (fun _ _ _ hh h => h.of_heap hh) own started (by kernel_rfl) Tryd.func8
    (ChangeSpec.witness_shaped (enc := enc) (C := Tryd.checked) (os := os) (X := fun w _ => laidMetH Tryd.prog Rows.accessRulesRow.laid w) false (World.laidAll Tryd.prog os Rows.accessRulesRow.laid) #[.slice none 0 0, .slice none 0 0, .string ⟨#[]⟩, .agg #[.int .i64 0, .int .i64 0], .int .i64 0, .int .i64 0, .int .i64 0] 8 (World.laidAll_os _ _ _)
      (World.shaped_of_ZipB (by kernel_rfl) (by kernel_rfl)) (by kernel_rfl) (by kernel_rfl) (by kernel_rfl)
      (by rw [MakeChecks.laidMetH_plain _ _ _ (by kernel_rfl)]; exact laidMet_laidAll _ (by kernel_rfl) (by kernel_rfl))) ?_
  intro W base args ds gs before hval0 hW hcnd hsz hL _
  have hval : ∀ (j : Nat) t v, Tryd.f8.params[j]? = some t → args[j]? = some v → Value.okWide Tryd.prog W .any base t v := hval0
  rw [MakeChecks.laidMetH_plain _ _ _ (by kernel_rfl)] at hL
  have hW' := hW
  have hlt := hW.lt
  obtain ⟨p, q, hA0, hV, rfl, hfz, hnd⟩ := hW
  have hA : DataW.TrodAll enc Tryd.prog W 0 (fun _ => true) true Tryd.f8.params.toList args.toList ds p := hA0
  rw [Tryd.params8] at hA hval
  obtain ⟨v0, vs0, d0, ds0, p0, q0, hargs, rfl, rfl, h0, r0⟩ := trodAll_cons hA
  obtain ⟨v1, vs1, d1, ds1, p1, q1, rfl, rfl, rfl, h1, r1⟩ := trodAll_cons r0
  obtain ⟨v2, vs2, d2, ds2, p2, q2, rfl, rfl, rfl, h2, r2⟩ := trodAll_cons r1
  obtain ⟨v3, vs3, d3, ds3, p3, q3, rfl, rfl, rfl, h3, r3⟩ := trodAll_cons r2
  obtain ⟨v4, vs4, d4, ds4, p4, q4, rfl, rfl, rfl, h4, r4⟩ := trodAll_cons r3
  obtain ⟨v5, vs5, d5, ds5, p5, q5, rfl, rfl, rfl, h5, r5⟩ := trodAll_cons r4
  obtain ⟨v6, vs6, d6, ds6, p6, q6, rfl, rfl, rfl, h6, r6⟩ := trodAll_cons r5
  obtain ⟨rfl, rfl, rfl⟩ := trodAll_nil r6
  obtain rfl : args = #[v0, v1, v2, v3, v4, v5, v6] := by cases args; simp_all
  obtain ⟨rfl, rfl⟩ := trodVars_none hV
  rw [List.all_eq_true] at hsz
  have hw : ∀ (j : Nat) t d, ([25, 78, 9, 38, 3, 3, 3] : List TypeId)[j]? = some t → [d0, d1, d2, d3, d4, d5, d6][j]? = some d → ∀ n ∈ d.weights Tryd.prog t, n ≤ reachBytes := fun j t d ht hd n hn =>
    by simpa using hsz n (DataW.weights_mem_each (ts := Tryd.f8.params.toList ++ Rows.accessRulesSpec.plain.varTypes Tryd.prog) (by rw [Tryd.params8]; exact get_app ht) (by exact get_app hd) n hn)
  obtain ⟨y0, e0⟩ := Eng.open_arg uok uflat opens25 h0 (hw 0 _ _ rfl rfl) (Eng.okv_plain rfl ⟨_, Tryd.underlying25, trivial⟩ (hval 0 25 v0 rfl rfl))
  obtain ⟨y1, e1⟩ := Eng.open_arg uok uflat opens78 h1 (hw 1 _ _ rfl rfl) (Eng.okv_plain rfl ⟨_, Tryd.underlying78, trivial⟩ (hval 1 78 v1 rfl rfl))
  obtain ⟨y2, e2⟩ := Eng.open_arg uok uflat opens9 h2 (hw 2 _ _ rfl rfl) (Eng.okv_plain rfl ⟨_, Tryd.underlying9, trivial⟩ (hval 2 9 v2 rfl rfl))
  obtain ⟨y3, e3⟩ := Eng.open_arg uok uflat opens38 h3 (hw 3 _ _ rfl rfl) (Eng.okv_st ⟨_, Tryd.underlying38, trivial⟩ (hval 3 38 v3 rfl rfl))
  obtain ⟨y4, e4⟩ := Eng.open_arg uok uflat opens3 h4 (hw 4 _ _ rfl rfl) (Eng.okv_plain rfl ⟨_, Tryd.underlying3, trivial⟩ (hval 4 3 v4 rfl rfl))
  obtain ⟨y5, e5⟩ := Eng.open_arg uok uflat opens3 h5 (hw 5 _ _ rfl rfl) (Eng.okv_plain rfl ⟨_, Tryd.underlying3, trivial⟩ (hval 5 3 v5 rfl rfl))
  obtain ⟨y6, e6⟩ := Eng.open_arg uok uflat opens3 h6 (hw 6 _ _ rfl rfl) (Eng.okv_plain rfl ⟨_, Tryd.underlying3, trivial⟩ (hval 6 3 v6 rfl rfl))
  clear hA0 hval0
  refine (walk y0 y1 y2 y3 y4 y5 y6 v0 v1 v2 v3 v4 v5 v6 W e0 e1 e2 e3 e4 e5 e6 hL).mono fun e W' ⟨he, hg⟩ => ?_
  subst he
  have lt0 : ∀ x ∈ p0, x.block < W.heap.size := fun x hx => hlt x (by simp [hx])
  have lt1 : ∀ x ∈ p1, x.block < W.heap.size := fun x hx => hlt x (by simp [hx])
  have lt2 : ∀ x ∈ p2, x.block < W.heap.size := fun x hx => hlt x (by simp [hx])
  have lt3 : ∀ x ∈ p3, x.block < W.heap.size := fun x hx => hlt x (by simp [hx])
  have lt4 : ∀ x ∈ p4, x.block < W.heap.size := fun x hx => hlt x (by simp [hx])
  have lt5 : ∀ x ∈ p5, x.block < W.heap.size := fun x hx => hlt x (by simp [hx])
  have lt6 : ∀ x ∈ p6, x.block < W.heap.size := fun x hx => hlt x (by simp [hx])
  exact ⟨_, rfl, Eng.post_of_kept (pa := (p0 ++ (p1 ++ (p2 ++ (p3 ++ (p4 ++ (p5 ++ (p6 ++ [])))))))) (pv := []) hW' (fun _ _ _ => (trodAll_cons_mk (shut_bool Tryd.underlying4 _) trodAll_mk0))
    (fun sp hs => (trodAll_cons_mk (Eng.Kept.trod laidOut (by kernel_rfl) (of_decide_eq_true (by kernel_rfl)) h0 hg lt0 fun x hx => hs x (by simp [hx])) (trodAll_cons_mk (Eng.Kept.trod laidOut (by kernel_rfl) (of_decide_eq_true (by kernel_rfl)) h1 hg lt1 fun x hx => hs x (by simp [hx])) (trodAll_cons_mk (Eng.Kept.trod laidOut (by kernel_rfl) (of_decide_eq_true (by kernel_rfl)) h2 hg lt2 fun x hx => hs x (by simp [hx])) (trodAll_cons_mk (Eng.Kept.trod laidOut (by kernel_rfl) (of_decide_eq_true (by kernel_rfl)) h3 hg lt3 fun x hx => hs x (by simp [hx])) (trodAll_cons_mk (Eng.Kept.trod laidOut (by kernel_rfl) (of_decide_eq_true (by kernel_rfl)) h4 hg lt4 fun x hx => hs x (by simp [hx])) (trodAll_cons_mk (Eng.Kept.trod laidOut (by kernel_rfl) (of_decide_eq_true (by kernel_rfl)) h5 hg lt5 fun x hx => hs x (by simp [hx])) (trodAll_cons_mk (Eng.Kept.trod laidOut (by kernel_rfl) (of_decide_eq_true (by kernel_rfl)) h6 hg lt6 fun x hx => hs x (by simp [hx])) trodAll_mk0)))))))) (fun _ _ => rfl) rfl
    hg (ok_one (by kernel_rfl) rfl (okWide_bool_mk Tryd.underlying4 _))⟩

theorem over : Rows.accessRulesRow.holds Tryd.pinned (OpenSpec.ofChange Rows.accessRulesSpec) :=
  OpenClaim.holds_of_wide 8 Tryd.f8 rfl rfl rfl rfl rfl rfl rfl ⟨rfl, rfl, rfl, rfl, rfl⟩ rfl rfl rfl rfl rfl named_ Tryd.func8 closed inst_ wrap_
    (fun os started H enc _ => lifted os started H enc)

/-- ████ THE STATEMENT: THE TIED CARD ████ -/
theorem proved : Rows.AccessRulesCardSaid :=
  Claim7.holds_tied_plain_at .later [] [.data, .data, .data, .data, .pinned] true (true, "fe002f48e3566b7bfabc7ef5f58aca63e3b1c8255176ac4aac7689c909d0d442") false
    over (fun _ h => by cases h) wfText (fun _ h => by cases h) accessRules_row_tie rfl ⟨rfl, rfl⟩ mainIs_ rfl
    (fun f fn hf hfn => by
      obtain rfl : f = 8 := (Option.some.inj (named_.symm.trans hf)).symm
      obtain rfl : fn = Tryd.f8 := (Option.some.inj (Tryd.func8.symm.trans hfn)).symm
      exact ⟨looks_, fun j t ht => by
        rw [Tryd.params8] at ht
        have hm : t ∈ [25, 78, 9, 38, 3, 3, 3] := by simpa using Array.mem_of_getElem? ht
        exact (show Tryd.prog.wantsStandIn t = false by simpa using List.all_eq_true.1 stand_ t hm)⟩)
    goes_
#print axioms proved
end Go.Proofs.YtjdddnbddnhilaaDoor.accessRules
