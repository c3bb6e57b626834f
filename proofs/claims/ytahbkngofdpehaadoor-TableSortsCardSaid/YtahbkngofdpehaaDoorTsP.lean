/- Proved: for every input the law TableSorts returns true, and its arguments read as before. The listed package variables read as the program's text lays them: the card ties them. No other condition. -/
import Derived.Test.YtahbkngofdpehaaDoorRows
import Derived.Test.YtahbkngofdpehaaDoorCards
import Derived.Test.YtahbkngofdpehaaDoorTie
import Derived.Test.YtahbkngofdpehaaDoorQ
import Derived.Test.YtahbkngofdpehaaDoorTsW
import Derived.Test.YtahbkngofdpehaaDoorTsF
import Derived.Test.YtahbkngofdpehaaDoorTsTQ6
import Derived.Test.YtahbkngofdpehaaDoorTsTX
import Derived.WalkKit
import Derived.ProofKit
import Derived.OpenShut
import Derived.Lay
import Derived.SevenTiedAt
set_option linter.unusedVariables false
set_option linter.unusedSimpArgs false
set_option linter.unusedSectionVars false
namespace Go.Proofs.YtahbkngofdpehaaDoor.tableSorts
open Go.ChangeShapes Go.WideShapes Go.ChangeAt Go.RowKit
open Go.Proofs (U X0 uok carU)

theorem own : ownKnob Tryd.prog.godebug = none := by kernel_rfl
theorem laidOut : laidOutB Tryd.prog = true := by kernel_rfl

theorem uflat : Eng.UFlat U := fun n x => match n, x with
  | 0, _ => rfl
  | 1, _ => rfl
  | 2, _ => rfl
  | 3, _ => rfl
  | 4, _ => rfl
  | 5, _ => List.all_eq_true.2 fun l hl => by obtain ⟨y, _, rfl⟩ := List.mem_map.1 hl; rfl
  | 6, _ => rfl
  | _ + 7, _ => rfl

theorem get_app {α : Type} {l r : List α} {j : Nat} {x : α} (h : l[j]? = some x) : (l ++ r)[j]? = some x := by
  rw [List.getElem?_append_left (List.getElem?_eq_some_iff.1 h).1]; exact h

theorem opens5 : Eng.Opens Tryd.prog U 5 (.int .u8) := Eng.opens_int Tryd.underlying5
theorem opens61 : Eng.Opens Tryd.prog U 61 (.sl (.int .u8)) := Eng.opens_slice uok uflat Tryd.underlying61 (by kernel_rfl) (by decide) (Nat.le_of_ble_eq_true (by kernel_rfl)) opens5

theorem laid1 : Rows.laid_unicode_utf8_first = (Lib.tabData .u8 Lib.firstTab : DataW Unit) := by kernel_rfl
theorem globOk1 {w : World} (h : laidMet Tryd.prog Rows.tableSortsRow.laid w) : Eng.GlobOk w (fun b => b < w.heap.size) 1 (Lib.firstTab.map fun z => Eng.P.int .u8 z) :=
  Eng.globOk_tab (t := 199) (e := 5) (m := 256) (by kernel_rfl) (by kernel_rfl) Tryd.underlying199 Tryd.underlying5 (by kernel_rfl) (by kernel_rfl) (by kernel_rfl) (laid1 ▸ Lib.laidMet.reads (n := "unicode/utf8.first") (d := Rows.laid_unicode_utf8_first) h (List.mem_iff_getElem?.2 ⟨9, by kernel_rfl⟩))
def acceptZ : List (List Int) := [[128, 191], [160, 191], [128, 159], [144, 191], [128, 143], [0, 0], [0, 0], [0, 0], [0, 0], [0, 0], [0, 0], [0, 0], [0, 0], [0, 0], [0, 0], [0, 0]]
def acceptP : List Eng.P := [.int .u8 128, .int .u8 191, .int .u8 160, .int .u8 191, .int .u8 128, .int .u8 159, .int .u8 144, .int .u8 191, .int .u8 128, .int .u8 143, .int .u8 0, .int .u8 0, .int .u8 0, .int .u8 0, .int .u8 0, .int .u8 0, .int .u8 0, .int .u8 0, .int .u8 0, .int .u8 0, .int .u8 0, .int .u8 0, .int .u8 0, .int .u8 0, .int .u8 0, .int .u8 0, .int .u8 0, .int .u8 0, .int .u8 0, .int .u8 0, .int .u8 0, .int .u8 0]
theorem laid2 : Rows.laid_unicode_utf8_acceptRanges = (DataW.agg (acceptZ.map fun zs => .agg (zs.map fun z => .lit (.int .u8 z))) : DataW Unit) := by kernel_rfl
theorem globOk2 {w : World} (h : laidMet Tryd.prog Rows.tableSortsRow.laid w) : Eng.GlobOk w (fun b => b < w.heap.size) 2 acceptP :=
  Eng.globOk_tab2 (t := 202) (e := 201) (f := 5) (m := 16) (c := 2) (k := .u8) (zss := acceptZ) (by kernel_rfl) (by kernel_rfl) Tryd.underlying202 Tryd.underlying201 (fun j x hj => by
    match j, hj with
    | 0, hj => simp at hj; subst hj; exact ⟨Tryd.underlying5, rfl, by kernel_rfl⟩
    | 1, hj => simp at hj; subst hj; exact ⟨Tryd.underlying5, rfl, by kernel_rfl⟩
    | j + 2, hj => simp at hj) (by kernel_rfl) rfl (by kernel_rfl) (by decide) rfl (by kernel_rfl) (by kernel_rfl) rfl
    (laid2 ▸ Lib.laidMet.reads (n := "unicode/utf8.acceptRanges") (d := Rows.laid_unicode_utf8_acceptRanges) h (List.mem_iff_getElem?.2 ⟨3, by kernel_rfl⟩))
theorem laid3 : Rows.laid_internal_strconv_uint64pow10 = (Lib.tabData .u64 Lib.pow10Tab : DataW Unit) := by kernel_rfl
theorem globOk3 {w : World} (h : laidMet Tryd.prog Rows.tableSortsRow.laid w) : Eng.GlobOk w (fun b => b < w.heap.size) 3 (Lib.pow10Tab.map fun z => Eng.P.int .u64 z) :=
  Eng.globOk_tab (t := 217) (e := 159) (m := 20) (by kernel_rfl) (by kernel_rfl) Tryd.underlying217 Tryd.underlying159 (by kernel_rfl) (by kernel_rfl) (by kernel_rfl) (laid3 ▸ Lib.laidMet.reads (n := "internal/strconv.uint64pow10") (d := Rows.laid_internal_strconv_uint64pow10) h (List.mem_iff_getElem?.2 ⟨2, by kernel_rfl⟩))

set_option maxRecDepth 100000 in
/-- The Go text returns true, and leaves all that was there alone. -/
theorem walk (y0 : (List Int)) (v0 : Value) (w : World)
    (e0 : Eng.RelP w (fun b => b < w.heap.size) v0 (U.encE (.sl (.int .u8)) y0)) (hL : laidMet Tryd.prog Rows.tableSortsRow.laid w) :
    Calls Tryd.prog 6 #[v0] w fun e w' => e = .returned (.bool true) ∧ Eng.Kept w w' := by
  have hF : Eng.Fun X0.E 6 (([U.encE (.sl (.int .u8)) y0] : List Eng.P).map Eng.Arg.p) ⟨[.p (.bool true)], []⟩ :=
    (Go.Proofs.D56_ok [.p (.l ⟨(.sl (.int .u8)), y0⟩)] _ rfl true (Go.Proofs.tableSorts_law y0 (bytes_of e0))).1
  refine Eng.law_calls_bool (E := X0.E) hF rfl (fun k v x hv hx => ?_) (fun g cs hm => ?_)
  · match k, hv, hx with
    | 0, hv, hx => simp at hv hx; subst hv hx; exact e0
    | k + 1, hv, hx => simp at hv
  · have hm' : (g, cs) ∈ [(1, Lib.firstTab.map fun z => Eng.P.int .u8 z), (2, acceptP), (3, Lib.pow10Tab.map fun z => Eng.P.int .u64 z)] := (show X0.E.globs = [(1, Lib.firstTab.map fun z => Eng.P.int .u8 z), (2, acceptP), (3, Lib.pow10Tab.map fun z => Eng.P.int .u64 z)] by kernel_rfl) ▸ hm
    simp only [List.mem_cons, List.not_mem_nil, or_false, Prod.mk.injEq] at hm'
    rcases hm' with ⟨rfl, rfl⟩ | ⟨rfl, rfl⟩ | ⟨rfl, rfl⟩
    · exact globOk1 hL
    · exact globOk2 hL
    · exact globOk3 hL

set_option maxRecDepth 100000 in
theorem lifted (os : Os) (started : os.Started) (H : Type) (enc : TypeId × Value → H) :
    ReturnsInHanded {} Tryd.checked os 6 .any (fun w args => (Rows.tableSortsSpec.pre enc Tryd.prog Tryd.f6 [] false w args ∧ laidMetH Tryd.prog Rows.tableSortsRow.laid w) ∧ sizedMet enc Tryd.prog Tryd.f6 (OpenSpec.ofChange Rows.tableSortsSpec) false w args) (Rows.tableSortsSpec.post enc Tryd.prog Tryd.f6 false true false false) := by
  refine returnsInHanded_of_change_and (C := Tryd.checked) (X := fun w _ => laidMetH Tryd.prog Rows.tableSortsRow.laid w) (fun _ _ _ hh h => h.of_heap hh) own started (by kernel_rfl) Tryd.func6
    (ChangeSpec.witness_shaped (enc := enc) (C := Tryd.checked) (os := os) (X := fun w _ => laidMetH Tryd.prog Rows.tableSortsRow.laid w) false (World.laidAll Tryd.prog os Rows.tableSortsRow.laid) #[.slice none 0 0] 8 (World.laidAll_os _ _ _)
      (World.shaped_of_ZipB (by kernel_rfl) (by kernel_rfl)) (by kernel_rfl) (by kernel_rfl) (by kernel_rfl)
      (by rw [MakeChecks.laidMetH_plain _ _ _ (by kernel_rfl)]; exact laidMet_laidAll _ (by kernel_rfl) (by kernel_rfl))) ?_
  intro W base args ds gs before hval0 hW hcnd hsz hL _
  have hval : ∀ (j : Nat) t v, Tryd.f6.params[j]? = some t → args[j]? = some v → Value.okWide Tryd.prog W .any base t v := hval0
  rw [MakeChecks.laidMetH_plain _ _ _ (by kernel_rfl)] at hL
  have hW' := hW
  have hlt := hW.lt
  obtain ⟨p, q, hA0, hV, rfl, hfz, hnd⟩ := hW
  have hA : DataW.TrodAll enc Tryd.prog W 0 (fun _ => true) true Tryd.f6.params.toList args.toList ds p := hA0
  rw [Tryd.params6] at hA hval
  obtain ⟨v0, vs0, d0, ds0, p0, q0, hargs, rfl, rfl, h0, r0⟩ := trodAll_cons hA
  obtain ⟨rfl, rfl, rfl⟩ := trodAll_nil r0
  obtain rfl : args = #[v0] := by cases args; simp_all
  obtain ⟨rfl, rfl⟩ := trodVars_none hV
  rw [List.all_eq_true] at hsz
  have hw : ∀ (j : Nat) t d, ([61] : List TypeId)[j]? = some t → [d0][j]? = some d → ∀ n ∈ d.weights Tryd.prog t, n ≤ reachBytes := fun j t d ht hd n hn =>
    by simpa using hsz n (DataW.weights_mem_each (ts := Tryd.f6.params.toList ++ Rows.tableSortsSpec.plain.varTypes Tryd.prog) (by rw [Tryd.params6]; exact get_app ht) (by exact get_app hd) n hn)
  obtain ⟨y0, e0⟩ := Eng.open_arg uok uflat opens61 h0 (hw 0 _ _ rfl rfl) (Eng.okv_plain rfl ⟨_, Tryd.underlying61, trivial⟩ (hval 0 61 v0 rfl rfl))
  clear hA0 hval0
  refine (walk y0 v0 W e0 hL).mono fun e W' ⟨he, hg⟩ => ?_
  subst he
  have lt0 : ∀ x ∈ p0, x.block < W.heap.size := fun x hx => hlt x (by simp [hx])
  exact ⟨_, rfl, Eng.post_of_kept (pa := (p0 ++ [])) (pv := []) hW' (fun _ _ _ => (trodAll_cons_mk (shut_bool Tryd.underlying4 _) trodAll_mk0))
    (fun sp hs => (trodAll_cons_mk (Eng.Kept.trod laidOut (by kernel_rfl) (of_decide_eq_true (by kernel_rfl)) h0 hg lt0 fun x hx => hs x (by simp [hx])) trodAll_mk0)) (fun _ _ => rfl) rfl
    hg (ok_one (by kernel_rfl) rfl (okWide_bool_mk Tryd.underlying4 _))⟩

theorem over : Rows.tableSortsRow.holds Tryd.pinned (OpenSpec.ofChange Rows.tableSortsSpec) :=
  OpenClaim.holds_of_wide 6 Tryd.f6 rfl rfl rfl rfl rfl rfl rfl ⟨rfl, rfl, rfl, rfl, rfl⟩ rfl rfl rfl rfl rfl named_ Tryd.func6 closed inst_ wrap_
    (fun os started H enc _ => lifted os started H enc)

/-- ████ THE STATEMENT: THE TIED CARD ████ -/
theorem proved : Rows.TableSortsCardSaid :=
  Claim7.holds_tied_plain_at .later [] [.data, .data, .data, .data, .pinned, .pinned, .pinned, .pinned, .pinned, .pinned] true (true, "eec583a55967367a8612e427ddfa2e8e8fb9bce4814b0ecaca0ef50afc55f610") false
    over (fun _ h => by cases h) wfText (fun _ h => by cases h) tableSorts_row_tie rfl ⟨rfl, rfl⟩ mainIs_ rfl
    (fun f fn hf hfn => by
      obtain rfl : f = 6 := (Option.some.inj (named_.symm.trans hf)).symm
      obtain rfl : fn = Tryd.f6 := (Option.some.inj (Tryd.func6.symm.trans hfn)).symm
      exact ⟨looks_, fun j t ht => by
        rw [Tryd.params6] at ht
        have hm : t ∈ [61] := by simpa using Array.mem_of_getElem? ht
        exact (show Tryd.prog.wantsStandIn t = false by simpa using List.all_eq_true.1 stand_ t hm)⟩)
    goes_
#print axioms proved
end Go.Proofs.YtahbkngofdpehaaDoor.tableSorts
