/- Proved: for every input the law QuantileLists returns true, and its arguments read as before. The listed package variables read as the program's text lays them: the card ties them. No other condition. -/
import Derived.Test.YthefajbigloihaaGreatDoorRows
import Derived.Test.YthefajbigloihaaGreatDoorCards
import Derived.Test.YthefajbigloihaaGreatDoorTie
import Derived.Test.YthefajbigloihaaGreatDoorQ
import Derived.Test.YthefajbigloihaaGreatDoorQoW
import Derived.Test.YthefajbigloihaaGreatDoorQoF
import Derived.Test.YthefajbigloihaaGreatDoorQoM3
import Derived.WalkKit
import Derived.ProofKit
import Derived.OpenShut
import Derived.Lay
import Derived.SevenTiedAt
set_option linter.unusedVariables false
set_option linter.unusedSimpArgs false
set_option linter.unusedSectionVars false
namespace Go.Proofs.YthefajbigloihaaGreatDoor.quantileLists
open Go.ChangeShapes Go.WideShapes Go.ChangeAt Go.RowKit
open Go.Proofs (U X0 uok Zz5)

theorem own : ownKnob Tryz.prog.godebug = none := by kernel_rfl
theorem ZJu : laidOutB Tryz.prog = true := by kernel_rfl

theorem ZK3 : Eng.Zmb U := fun n x => match n, x with
  | 0, _ => rfl
  | 1, _ => rfl
  | 2, _ => rfl
  | 3, _ => rfl
  | 4, _ => rfl
  | 5, _ => rfl
  | 6, _ => rfl
  | 7, _ => rfl
  | 8, _ => rfl
  | 9, _ => rfl
  | 10, _ => rfl
  | 11, _ => List.all_eq_true.2 fun l hl => by obtain ⟨y, _, rfl⟩ := List.mem_map.1 hl; rfl
  | 12, _ => rfl
  | _ + 13, _ => rfl

theorem ZG0 {α : Type} {l r : List α} {j : Nat} {x : α} (h : l[j]? = some x) : (l ++ r)[j]? = some x := by
  rw [List.getElem?_append_left (List.getElem?_eq_some_iff.1 h).1]; exact h

theorem ZLn : Eng.Zei Tryz.prog U 3 (.int .i64) := Eng.opens_int Tryz.underlying3
theorem ZJl : Eng.Zei Tryz.prog U 25 (.sl (.int .i64)) := Eng.Zly uok ZK3 Tryz.underlying25 (by kernel_rfl) (by decide) (Nat.le_of_ble_eq_true (by kernel_rfl)) ZLn

theorem ZNw : Rows.laid_tablefinder_fraction_one = (DataW.slice [.lit (.int .u32 1)] [] : DataW Unit) := by kernel_rfl
theorem ZJE {w : World} (h : laidMet Tryz.prog Rows.quantileListsRow.laid w) : Eng.Zej w (fun b => b < w.heap.size) 0 [Eng.P.sl 1 [.int .u32 1]] :=
  Eng.globOk_one (t := 179) (e := 144) (by kernel_rfl) (by kernel_rfl) Tryz.underlying179 Tryz.underlying144 (by kernel_rfl) (by decide) (ZNw ▸ Lib.laidMet.reads (n := "tablefinder/fraction.one") (d := Rows.laid_tablefinder_fraction_one) h (List.mem_iff_getElem?.2 ⟨6, by kernel_rfl⟩))
theorem ZNv : Rows.laid_internal_strconv_uint64pow10 = (Lib.tabData .u64 Lib.pow10Tab : DataW Unit) := by kernel_rfl
theorem ZJD {w : World} (h : laidMet Tryz.prog Rows.quantileListsRow.laid w) : Eng.Zej w (fun b => b < w.heap.size) 4 (Lib.pow10Tab.map fun z => Eng.P.int .u64 z) :=
  Eng.globOk_tab (t := 279) (e := 42) (m := 20) (by kernel_rfl) (by kernel_rfl) Tryz.underlying279 Tryz.underlying42 (by kernel_rfl) (by kernel_rfl) (by kernel_rfl) (ZNv ▸ Lib.laidMet.reads (n := "internal/strconv.uint64pow10") (d := Rows.laid_internal_strconv_uint64pow10) h (List.mem_iff_getElem?.2 ⟨2, by kernel_rfl⟩))
theorem ZNu : Rows.laid_unicode_utf8_first = (Lib.tabData .u8 Lib.firstTab : DataW Unit) := by kernel_rfl
theorem ZJC {w : World} (h : laidMet Tryz.prog Rows.quantileListsRow.laid w) : Eng.Zej w (fun b => b < w.heap.size) 7 (Lib.firstTab.map fun z => Eng.P.int .u8 z) :=
  Eng.globOk_tab (t := 336) (e := 5) (m := 256) (by kernel_rfl) (by kernel_rfl) Tryz.underlying336 Tryz.underlying5 (by kernel_rfl) (by kernel_rfl) (by kernel_rfl) (ZNu ▸ Lib.laidMet.reads (n := "unicode/utf8.first") (d := Rows.laid_unicode_utf8_first) h (List.mem_iff_getElem?.2 ⟨7, by kernel_rfl⟩))
def ZHf : List (List Int) := [[128, 191], [160, 191], [128, 159], [144, 191], [128, 143], [0, 0], [0, 0], [0, 0], [0, 0], [0, 0], [0, 0], [0, 0], [0, 0], [0, 0], [0, 0], [0, 0]]
def ZFM : List Eng.P := [.int .u8 128, .int .u8 191, .int .u8 160, .int .u8 191, .int .u8 128, .int .u8 159, .int .u8 144, .int .u8 191, .int .u8 128, .int .u8 143, .int .u8 0, .int .u8 0, .int .u8 0, .int .u8 0, .int .u8 0, .int .u8 0, .int .u8 0, .int .u8 0, .int .u8 0, .int .u8 0, .int .u8 0, .int .u8 0, .int .u8 0, .int .u8 0, .int .u8 0, .int .u8 0, .int .u8 0, .int .u8 0, .int .u8 0, .int .u8 0, .int .u8 0, .int .u8 0]
theorem ZNt : Rows.laid_unicode_utf8_acceptRanges = (DataW.agg (ZHf.map fun zs => .agg (zs.map fun z => .lit (.int .u8 z))) : DataW Unit) := by kernel_rfl
theorem ZJB {w : World} (h : laidMet Tryz.prog Rows.quantileListsRow.laid w) : Eng.Zej w (fun b => b < w.heap.size) 8 ZFM :=
  Eng.globOk_tab2 (t := 339) (e := 338) (f := 5) (m := 16) (c := 2) (k := .u8) (zss := ZHf) (by kernel_rfl) (by kernel_rfl) Tryz.underlying339 Tryz.underlying338 (fun j x hj => by
    match j, hj with
    | 0, hj => simp at hj; subst hj; exact ⟨Tryz.underlying5, rfl, by kernel_rfl⟩
    | 1, hj => simp at hj; subst hj; exact ⟨Tryz.underlying5, rfl, by kernel_rfl⟩
    | j + 2, hj => simp at hj) (by kernel_rfl) rfl (by kernel_rfl) (by decide) rfl (by kernel_rfl) (by kernel_rfl) rfl
    (ZNt ▸ Lib.laidMet.reads (n := "unicode/utf8.acceptRanges") (d := Rows.laid_unicode_utf8_acceptRanges) h (List.mem_iff_getElem?.2 ⟨3, by kernel_rfl⟩))

set_option maxRecDepth 100000 in
theorem walk (y0 : (List Int)) (v0 : Value) (w : World)
    (e0 : Eng.RelP w (fun b => b < w.heap.size) v0 (U.encE (.sl (.int .i64)) y0)) (hL : laidMet Tryz.prog Rows.quantileListsRow.laid w) :
    Calls Tryz.prog 10 #[v0] w fun e w' => e = .returned (.bool true) ∧ Eng.Zi2 w w' := by
  have hF : Eng.Fun X0.E 10 (([U.encE (.sl (.int .i64)) y0] : List Eng.P).map Eng.Arg.p) ⟨[.p (.bool true)], []⟩ :=
    (Go.Proofs.D175_ok [.p (.l ⟨(.sl (.int .i64)), y0⟩)] _ rfl true (Go.Proofs.quantileLists_law y0)).1
  refine Eng.Zkc (E := X0.E) hF (by kernel_rfl) rfl (fun k v x hv hx => ?_) (fun g cs hm => ?_)
  · match k, hv, hx with
    | 0, hv, hx => simp at hv hx; subst hv hx; exact e0
    | k + 1, hv, hx => simp at hv
  · have hm' : (g, cs) ∈ [(0, [Eng.P.sl 1 [.int .u32 1]]), (4, Lib.pow10Tab.map fun z => Eng.P.int .u64 z), (7, Lib.firstTab.map fun z => Eng.P.int .u8 z), (8, ZFM)] := (show X0.E.globs = [(0, [Eng.P.sl 1 [.int .u32 1]]), (4, Lib.pow10Tab.map fun z => Eng.P.int .u64 z), (7, Lib.firstTab.map fun z => Eng.P.int .u8 z), (8, ZFM)] by kernel_rfl) ▸ hm
    simp only [List.mem_cons, List.not_mem_nil, or_false, Prod.mk.injEq] at hm'
    rcases hm' with ⟨rfl, rfl⟩ | ⟨rfl, rfl⟩ | ⟨rfl, rfl⟩ | ⟨rfl, rfl⟩
    · exact ZJE hL
    · exact ZJD hL
    · exact ZJC hL
    · exact ZJB hL

set_option maxRecDepth 100000 in
theorem lifted (os : Os) (started : os.Started) (H : Type) (enc : TypeId × Value → H) :
    ReturnsInHanded {} Tryz.checked os 10 .any (fun w args => (Rows.quantileListsSpec.pre enc Tryz.prog Tryz.f10 [] false w args ∧ laidMetH Tryz.prog Rows.quantileListsRow.laid w) ∧ sizedMet enc Tryz.prog Tryz.f10 (OpenSpec.ofChange Rows.quantileListsSpec) false w args) (Rows.quantileListsSpec.post enc Tryz.prog Tryz.f10 false true false false) := by
  refine returnsInHanded_of_change_and (C := Tryz.checked) (X := fun w _ => laidMetH Tryz.prog Rows.quantileListsRow.laid w) (fun _ _ _ hh h => h.of_heap hh) own started (by kernel_rfl) Tryz.func10
    (ChangeSpec.witness_shaped (enc := enc) (C := Tryz.checked) (os := os) (X := fun w _ => laidMetH Tryz.prog Rows.quantileListsRow.laid w) false (World.laidAll Tryz.prog os Rows.quantileListsRow.laid) #[.slice none 0 0] 8 (World.laidAll_os _ _ _)
      (World.shaped_of_ZipB (by kernel_rfl) (by kernel_rfl)) (by kernel_rfl) (by kernel_rfl) (by kernel_rfl)
      (by rw [MakeChecks.laidMetH_plain _ _ _ (by kernel_rfl)]; exact laidMet_laidAll _ (by kernel_rfl) (by kernel_rfl))) ?_
  intro W base args ds gs before hval0 hW hcnd hsz hL _
  have hval : ∀ (j : Nat) t v, Tryz.f10.params[j]? = some t → args[j]? = some v → Value.okWide Tryz.prog W .any base t v := hval0
  rw [MakeChecks.laidMetH_plain _ _ _ (by kernel_rfl)] at hL
  have hW' := hW
  have hlt := hW.lt
  obtain ⟨p, q, hA0, hV, rfl, hfz, hnd⟩ := hW
  have hA : DataW.TrodAll enc Tryz.prog W 0 (fun _ => true) true Tryz.f10.params.toList args.toList ds p := hA0
  rw [Tryz.params10] at hA hval
  obtain ⟨v0, vs0, d0, ds0, p0, q0, hargs, rfl, rfl, h0, r0⟩ := trodAll_cons hA
  obtain ⟨rfl, rfl, rfl⟩ := trodAll_nil r0
  obtain rfl : args = #[v0] := by cases args; simp_all
  obtain ⟨rfl, rfl⟩ := trodVars_none hV
  rw [List.all_eq_true] at hsz
  have hw : ∀ (j : Nat) t d, ([25] : List TypeId)[j]? = some t → [d0][j]? = some d → ∀ n ∈ d.weights Tryz.prog t, n ≤ reachBytes := fun j t d ht hd n hn =>
    by simpa using hsz n (DataW.weights_mem_each (ts := Tryz.f10.params.toList ++ Rows.quantileListsSpec.plain.varTypes Tryz.prog) (by rw [Tryz.params10]; exact ZG0 ht) (by exact ZG0 hd) n hn)
  obtain ⟨y0, e0⟩ := Eng.open_arg uok ZK3 ZJl h0 (hw 0 _ _ rfl rfl) (Eng.okv_plain rfl ⟨_, Tryz.underlying25, trivial⟩ (hval 0 25 v0 rfl rfl))
  clear hA0 hval0
  refine (walk y0 v0 W e0 hL).mono fun e W' ⟨he, hg⟩ => ?_
  subst he
  have lt0 : ∀ x ∈ p0, x.block < W.heap.size := fun x hx => hlt x (by simp [hx])
  exact ⟨_, rfl, Eng.Zk2 (pa := (p0 ++ [])) (pv := []) hW' (fun _ _ _ => (trodAll_cons_mk (shut_bool Tryz.underlying4 _) trodAll_mk0))
    (fun sp hs => (trodAll_cons_mk (Eng.Zi2.trod ZJu (by kernel_rfl) (of_decide_eq_true (by kernel_rfl)) h0 hg lt0 fun x hx => hs x (by simp [hx])) trodAll_mk0)) (fun _ _ => rfl) rfl
    hg (ok_one (by kernel_rfl) rfl (okWide_bool_mk Tryz.underlying4 _))⟩

theorem over : Rows.quantileListsRow.holds Tryz.pinned (OpenSpec.ofChange Rows.quantileListsSpec) :=
  OpenClaim.holds_of_wide 10 Tryz.f10 rfl rfl rfl rfl rfl rfl rfl ⟨rfl, rfl, rfl, rfl, rfl⟩ rfl rfl rfl rfl rfl ZIv Tryz.func10 ZLX ZNz ZNh
    (fun os started H enc _ => lifted os started H enc)

theorem proved : Rows.QuantileListsCardSaid :=
  Claim7.holds_tied_plain_at .later [] [.data, .data, .data, .data, .sentinel, .sentinel, .widerDeep, .pinned] true (true, "cbb9050748a371b4c6446a223b38c2a958a8cc32d44cb5e0acb64c81ff403e1f") true
    over (fun _ h => by cases h) ZKX (fun _ h => by cases h) quantileLists_row_tie rfl ⟨rfl, rfl⟩ mainIs_ rfl
    (fun f fn hf hfn => by
      obtain rfl : f = 10 := (Option.some.inj (ZIv.symm.trans hf)).symm
      obtain rfl : fn = Tryz.f10 := (Option.some.inj (Tryz.func10.symm.trans hfn)).symm
      exact ⟨looks_, fun j t ht => by
        rw [Tryz.params10] at ht
        have hm : t ∈ [25] := by simpa using Array.mem_of_getElem? ht
        exact (show Tryz.prog.wantsStandIn t = false by simpa using List.all_eq_true.1 ZLa t hm)⟩)
    ZNA
#print axioms proved
end Go.Proofs.YthefajbigloihaaGreatDoor.quantileLists
