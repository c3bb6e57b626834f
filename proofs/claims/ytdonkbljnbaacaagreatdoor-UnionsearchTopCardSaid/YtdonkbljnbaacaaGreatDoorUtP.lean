/- Proved: for every input the law UnionsearchTop returns true, and its arguments read as before. The listed package variables read as the program's text lays them: the card ties them. No other condition. -/
import Derived.Test.YtdonkbljnbaacaaGreatDoorRows
import Derived.Test.YtdonkbljnbaacaaGreatDoorCards
import Derived.Test.YtdonkbljnbaacaaGreatDoorTie
import Derived.Test.YtdonkbljnbaacaaGreatDoorQ
import Derived.Test.YtdonkbljnbaacaaGreatDoorUtW
import Derived.Test.YtdonkbljnbaacaaGreatDoorUtF
import Derived.Test.YtdonkbljnbaacaaGreatDoorUtM4
import Derived.WalkKit
import Derived.ProofKit
import Derived.OpenShut
import Derived.Lay
import Derived.SevenTiedAt
set_option linter.unusedVariables false
set_option linter.unusedSimpArgs false
set_option linter.unusedSectionVars false
namespace Go.Proofs.YtdonkbljnbaacaaGreatDoor.unionsearchTop
open Go.ChangeShapes Go.WideShapes Go.ChangeAt Go.RowKit
open Go.Proofs (U X0 uok ZAj)

theorem own : ownKnob Tryz.prog.godebug = none := by kernel_rfl
theorem ZNo : laidOutB Tryz.prog = true := by kernel_rfl

theorem ZM9 : Eng.Zm8 U := fun n x => match n, x with
  | 0, _ => rfl
  | 1, _ => rfl
  | 2, _ => rfl
  | 3, _ => rfl
  | 4, _ => rfl
  | 5, _ => rfl
  | 6, _ => rfl
  | 7, _ => rfl
  | 8, _ => rfl
  | 9, _ => rfl
  | 10, _ => rfl
  | 11, _ => rfl
  | 12, _ => List.all_eq_true.2 fun l hl => by obtain ⟨y, _, rfl⟩ := List.mem_map.1 hl; rfl
  | 13, _ => rfl
  | _ + 14, _ => rfl

theorem ZQn {α : Type} {l r : List α} {j : Nat} {x : α} (h : l[j]? = some x) : (l ++ r)[j]? = some x := by
  rw [List.getElem?_append_left (List.getElem?_eq_some_iff.1 h).1]; exact h

theorem ZP7 : Eng.ZeB Tryz.prog U 3 (.int .i64) := Eng.opens_int Tryz.underlying3
theorem ZT2 : Eng.ZeB Tryz.prog U 25 (.sl (.int .i64)) := Eng.Zmv uok ZM9 Tryz.underlying25 (by kernel_rfl) (by decide) (Nat.le_of_ble_eq_true (by kernel_rfl)) ZP7
theorem ZP6 : Eng.ZeB Tryz.prog U 9 .str := Eng.opens_str Tryz.underlying9
theorem ZW6 : Eng.ZeB Tryz.prog U 4 .bool := Eng.Znf Tryz.underlying4
theorem ZTY : Eng.ZeB Tryz.prog U 64 (.st 0) := Eng.Zl0 uok (k := 0) (Ts := [.bool, .str]) Tryz.underlying64 (by kernel_rfl) ⟨rfl, by kernel_rfl, ZW6, rfl, by kernel_rfl, ZP6, trivial⟩ fun ys => ⟨(⟨ys.1, ys.2.1⟩ : Go.Proofs.G_api_Cell), rfl⟩
theorem ZT1 : Eng.ZeB Tryz.prog U 35 (.sl (.st 0)) := Eng.Zmv uok ZM9 Tryz.underlying35 (by kernel_rfl) (by decide) (Nat.le_of_ble_eq_true (by kernel_rfl)) ZTY
theorem ZT0 : Eng.ZeB Tryz.prog U 37 (.st 1) := Eng.Zl0 uok (k := 1) (Ts := [.str, (.sl (.st 0))]) Tryz.underlying37 (by kernel_rfl) ⟨rfl, by kernel_rfl, ZP6, rfl, by kernel_rfl, ZT1, trivial⟩ fun ys => ⟨(⟨ys.1, ys.2.1⟩ : Go.Proofs.G_api_Column), rfl⟩
theorem ZT4 : Eng.ZeB Tryz.prog U 22 (.sl (.st 1)) := Eng.Zmv uok ZM9 Tryz.underlying22 (by kernel_rfl) (by decide) (Nat.le_of_ble_eq_true (by kernel_rfl)) ZT0
theorem ZT3 : Eng.ZeB Tryz.prog U 24 (.st 2) := Eng.Zl0 uok (k := 2) (Ts := [(.int .i64), .str, (.sl (.st 1))]) Tryz.underlying24 (by kernel_rfl) ⟨rfl, by kernel_rfl, ZP7, rfl, by kernel_rfl, ZP6, rfl, by kernel_rfl, ZT4, trivial⟩ fun ys => ⟨(⟨ys.1, ys.2.1, ys.2.2.1⟩ : Go.Proofs.G_api_Table), rfl⟩
theorem ZTZ : Eng.ZeB Tryz.prog U 55 (.sl (.st 2)) := Eng.Zmv uok ZM9 Tryz.underlying55 (by kernel_rfl) (by decide) (Nat.le_of_ble_eq_true (by kernel_rfl)) ZT3

theorem Z0y : Rows.laid_tablefinder_fraction_one = (DataW.slice [.lit (.int .u32 1)] [] : DataW Unit) := by kernel_rfl
theorem ZUu {w : World} (h : laidMet Tryz.prog Rows.unionsearchTopRow.laid w) : Eng.ZeC w (fun b => b < w.heap.size) 0 [Eng.P.sl 1 [.int .u32 1]] :=
  Eng.globOk_one (t := 181) (e := 123) (by kernel_rfl) (by kernel_rfl) Tryz.underlying181 Tryz.underlying123 (by kernel_rfl) (by decide) (Z0y ▸ Lib.laidMet.reads (n := "tablefinder/fraction.one") (d := Rows.laid_tablefinder_fraction_one) h (List.mem_iff_getElem?.2 ⟨6, by kernel_rfl⟩))
theorem Z0x : Rows.laid_unicode_utf8_first = (Lib.tabData .u8 Lib.firstTab : DataW Unit) := by kernel_rfl
theorem ZUt {w : World} (h : laidMet Tryz.prog Rows.unionsearchTopRow.laid w) : Eng.ZeC w (fun b => b < w.heap.size) 1 (Lib.firstTab.map fun z => Eng.P.int .u8 z) :=
  Eng.globOk_tab (t := 209) (e := 5) (m := 256) (by kernel_rfl) (by kernel_rfl) Tryz.underlying209 Tryz.underlying5 (by kernel_rfl) (by kernel_rfl) (by kernel_rfl) (Z0x ▸ Lib.laidMet.reads (n := "unicode/utf8.first") (d := Rows.laid_unicode_utf8_first) h (List.mem_iff_getElem?.2 ⟨7, by kernel_rfl⟩))
def ZQK : List (List Int) := [[128, 191], [160, 191], [128, 159], [144, 191], [128, 143], [0, 0], [0, 0], [0, 0], [0, 0], [0, 0], [0, 0], [0, 0], [0, 0], [0, 0], [0, 0], [0, 0]]
def ZNC : List Eng.P := [.int .u8 128, .int .u8 191, .int .u8 160, .int .u8 191, .int .u8 128, .int .u8 159, .int .u8 144, .int .u8 191, .int .u8 128, .int .u8 143, .int .u8 0, .int .u8 0, .int .u8 0, .int .u8 0, .int .u8 0, .int .u8 0, .int .u8 0, .int .u8 0, .int .u8 0, .int .u8 0, .int .u8 0, .int .u8 0, .int .u8 0, .int .u8 0, .int .u8 0, .int .u8 0, .int .u8 0, .int .u8 0, .int .u8 0, .int .u8 0, .int .u8 0, .int .u8 0]
theorem Z0w : Rows.laid_unicode_utf8_acceptRanges = (DataW.agg (ZQK.map fun zs => .agg (zs.map fun z => .lit (.int .u8 z))) : DataW Unit) := by kernel_rfl
theorem ZUs {w : World} (h : laidMet Tryz.prog Rows.unionsearchTopRow.laid w) : Eng.ZeC w (fun b => b < w.heap.size) 2 ZNC :=
  Eng.globOk_tab2 (t := 212) (e := 211) (f := 5) (m := 16) (c := 2) (k := .u8) (zss := ZQK) (by kernel_rfl) (by kernel_rfl) Tryz.underlying212 Tryz.underlying211 (fun j x hj => by
    match j, hj with
    | 0, hj => simp at hj; subst hj; exact ⟨Tryz.underlying5, rfl, by kernel_rfl⟩
    | 1, hj => simp at hj; subst hj; exact ⟨Tryz.underlying5, rfl, by kernel_rfl⟩
    | j + 2, hj => simp at hj) (by kernel_rfl) rfl (by kernel_rfl) (by decide) rfl (by kernel_rfl) (by kernel_rfl) rfl
    (Z0w ▸ Lib.laidMet.reads (n := "unicode/utf8.acceptRanges") (d := Rows.laid_unicode_utf8_acceptRanges) h (List.mem_iff_getElem?.2 ⟨3, by kernel_rfl⟩))
theorem Z0v : Rows.laid_internal_strconv_uint64pow10 = (Lib.tabData .u64 Lib.pow10Tab : DataW Unit) := by kernel_rfl
theorem ZUr {w : World} (h : laidMet Tryz.prog Rows.unionsearchTopRow.laid w) : Eng.ZeC w (fun b => b < w.heap.size) 3 (Lib.pow10Tab.map fun z => Eng.P.int .u64 z) :=
  Eng.globOk_tab (t := 245) (e := 147) (m := 20) (by kernel_rfl) (by kernel_rfl) Tryz.underlying245 Tryz.underlying147 (by kernel_rfl) (by kernel_rfl) (by kernel_rfl) (Z0v ▸ Lib.laidMet.reads (n := "internal/strconv.uint64pow10") (d := Rows.laid_internal_strconv_uint64pow10) h (List.mem_iff_getElem?.2 ⟨2, by kernel_rfl⟩))

set_option maxRecDepth 100000 in
theorem Z0a (y0 : (List Int)) (y1 : (List  Go.Proofs.G_api_Table)) (y2 : Int) (v0 v1 v2 : Value) (w : World)
    (e0 : Eng.RelP w (fun b => b < w.heap.size) v0 (U.encE (.sl (.int .i64)) y0)) (e1 : Eng.RelP w (fun b => b < w.heap.size) v1 (U.encE (.sl (.st 2)) y1)) (e2 : Eng.RelP w (fun b => b < w.heap.size) v2 (U.encE (.int .i64) y2)) (hL : laidMet Tryz.prog Rows.unionsearchTopRow.laid w) :
    Calls Tryz.prog 4 #[v0, v1, v2] w fun e w' => e = .returned (.bool true) ∧ Eng.ZjF w w' := by
  have hF : Eng.Fun X0.E 4 (([U.encE (.sl (.int .i64)) y0, U.encE (.sl (.st 2)) y1, U.encE (.int .i64) y2] : List Eng.P).map Eng.Arg.p) ⟨[.p (.bool true)], []⟩ :=
    (Go.Proofs.D220_ok [.p (.l ⟨(.sl (.int .i64)), y0⟩), .p (.l ⟨(.sl (.st 2)), y1⟩), .p (.l ⟨(.int .i64), y2⟩)] _ rfl true (Go.Proofs.unionsearchTop_law y0 y1 y2 (ZTP e1))).1
  refine Eng.ZkX (E := X0.E) hF (by kernel_rfl) rfl (fun k v x hv hx => ?_) (fun g cs hm => ?_)
  · match k, hv, hx with
    | 0, hv, hx => simp at hv hx; subst hv hx; exact e0
    | 1, hv, hx => simp at hv hx; subst hv hx; exact e1
    | 2, hv, hx => simp at hv hx; subst hv hx; exact e2
    | k + 3, hv, hx => simp at hv
  · have hm' : (g, cs) ∈ [(0, [Eng.P.sl 1 [.int .u32 1]]), (1, Lib.firstTab.map fun z => Eng.P.int .u8 z), (2, ZNC), (3, Lib.pow10Tab.map fun z => Eng.P.int .u64 z)] := (show X0.E.globs = [(0, [Eng.P.sl 1 [.int .u32 1]]), (1, Lib.firstTab.map fun z => Eng.P.int .u8 z), (2, ZNC), (3, Lib.pow10Tab.map fun z => Eng.P.int .u64 z)] by kernel_rfl) ▸ hm
    simp only [List.mem_cons, List.not_mem_nil, or_false, Prod.mk.injEq] at hm'
    rcases hm' with ⟨rfl, rfl⟩ | ⟨rfl, rfl⟩ | ⟨rfl, rfl⟩ | ⟨rfl, rfl⟩
    · exact ZUu hL
    · exact ZUt hL
    · exact ZUs hL
    · exact ZUr hL

set_option maxRecDepth 100000 in
theorem lifted (os : Os) (started : os.Started) (H : Type) (enc : TypeId × Value → H) :
    ReturnsInHanded {} Tryz.checked os 4 .any (fun w args => (Rows.unionsearchTopSpec.pre enc Tryz.prog Tryz.f4 [] false w args ∧ laidMetH Tryz.prog Rows.unionsearchTopRow.laid w) ∧ sizedMet enc Tryz.prog Tryz.f4 (OpenSpec.ofChange Rows.unionsearchTopSpec) false w args) (Rows.unionsearchTopSpec.post enc Tryz.prog Tryz.f4 false true false false) := by
  refine returnsInHanded_of_change_and (C := Tryz.checked) (X := fun w _ => laidMetH Tryz.prog Rows.unionsearchTopRow.laid w) (fun _ _ _ hh h => h.of_heap hh) own started (by kernel_rfl) Tryz.func4
    (ChangeSpec.witness_shaped (enc := enc) (C := Tryz.checked) (os := os) (X := fun w _ => laidMetH Tryz.prog Rows.unionsearchTopRow.laid w) false (World.laidAll Tryz.prog os Rows.unionsearchTopRow.laid) #[.slice none 0 0, .slice none 0 0, .int .i64 0] 8 (World.laidAll_os _ _ _)
      (World.shaped_of_ZipB (by kernel_rfl) (by kernel_rfl)) (by kernel_rfl) (by kernel_rfl) (by kernel_rfl)
      (by rw [MakeChecks.laidMetH_plain _ _ _ (by kernel_rfl)]; exact laidMet_laidAll _ (by kernel_rfl) (by kernel_rfl))) ?_
  intro W base args ds gs before hval0 hW hcnd hsz hL _
  have hval : ∀ (j : Nat) t v, Tryz.f4.params[j]? = some t → args[j]? = some v → Value.okWide Tryz.prog W .any base t v := hval0
  rw [MakeChecks.laidMetH_plain _ _ _ (by kernel_rfl)] at hL
  have hW' := hW
  have hlt := hW.lt
  obtain ⟨p, q, hA0, hV, rfl, hfz, hnd⟩ := hW
  have hA : DataW.TrodAll enc Tryz.prog W 0 (fun _ => true) true Tryz.f4.params.toList args.toList ds p := hA0
  rw [Tryz.params4] at hA hval
  obtain ⟨v0, vs0, d0, ds0, p0, q0, hargs, rfl, rfl, h0, r0⟩ := trodAll_cons hA
  obtain ⟨v1, vs1, d1, ds1, p1, q1, rfl, rfl, rfl, h1, r1⟩ := trodAll_cons r0
  obtain ⟨v2, vs2, d2, ds2, p2, q2, rfl, rfl, rfl, h2, r2⟩ := trodAll_cons r1
  obtain ⟨rfl, rfl, rfl⟩ := trodAll_nil r2
  obtain rfl : args = #[v0, v1, v2] := by cases args; simp_all
  obtain ⟨rfl, rfl⟩ := trodVars_none hV
  rw [List.all_eq_true] at hsz
  have hw : ∀ (j : Nat) t d, ([25, 55, 3] : List TypeId)[j]? = some t → [d0, d1, d2][j]? = some d → ∀ n ∈ d.weights Tryz.prog t, n ≤ reachBytes := fun j t d ht hd n hn =>
    by simpa using hsz n (DataW.weights_mem_each (ts := Tryz.f4.params.toList ++ Rows.unionsearchTopSpec.plain.varTypes Tryz.prog) (by rw [Tryz.params4]; exact ZQn ht) (by exact ZQn hd) n hn)
  obtain ⟨y0, e0⟩ := Eng.open_arg uok ZM9 ZT2 h0 (hw 0 _ _ rfl rfl) (Eng.okv_plain rfl ⟨_, Tryz.underlying25, trivial⟩ (hval 0 25 v0 rfl rfl))
  obtain ⟨y1, e1⟩ := Eng.open_arg uok ZM9 ZTZ h1 (hw 1 _ _ rfl rfl) (Eng.okv_plain rfl ⟨_, Tryz.underlying55, trivial⟩ (hval 1 55 v1 rfl rfl))
  obtain ⟨y2, e2⟩ := Eng.open_arg uok ZM9 ZP7 h2 (hw 2 _ _ rfl rfl) (Eng.okv_plain rfl ⟨_, Tryz.underlying3, trivial⟩ (hval 2 3 v2 rfl rfl))
  clear hA0 hval0
  refine (Z0a y0 y1 y2 v0 v1 v2 W e0 e1 e2 hL).mono fun e W' ⟨he, hg⟩ => ?_
  subst he
  have lt0 : ∀ x ∈ p0, x.block < W.heap.size := fun x hx => hlt x (by simp [hx])
  have lt1 : ∀ x ∈ p1, x.block < W.heap.size := fun x hx => hlt x (by simp [hx])
  have lt2 : ∀ x ∈ p2, x.block < W.heap.size := fun x hx => hlt x (by simp [hx])
  exact ⟨_, rfl, Eng.ZlY (pa := (p0 ++ (p1 ++ (p2 ++ [])))) (pv := []) hW' (fun _ _ _ => (trodAll_cons_mk (shut_bool Tryz.underlying4 _) trodAll_mk0))
    (fun sp hs => (trodAll_cons_mk (Eng.ZjF.trod ZNo (by kernel_rfl) (of_decide_eq_true (by kernel_rfl)) h0 hg lt0 fun x hx => hs x (by simp [hx])) (trodAll_cons_mk (Eng.ZjF.trod ZNo (by kernel_rfl) (of_decide_eq_true (by kernel_rfl)) h1 hg lt1 fun x hx => hs x (by simp [hx])) (trodAll_cons_mk (Eng.ZjF.trod ZNo (by kernel_rfl) (of_decide_eq_true (by kernel_rfl)) h2 hg lt2 fun x hx => hs x (by simp [hx])) trodAll_mk0)))) (fun _ _ => rfl) rfl
    hg (ok_one (by kernel_rfl) rfl (okWide_bool_mk Tryz.underlying4 _))⟩

theorem over : Rows.unionsearchTopRow.holds Tryz.pinned (OpenSpec.ofChange Rows.unionsearchTopSpec) :=
  OpenClaim.holds_of_wide 4 Tryz.f4 rfl rfl rfl rfl rfl rfl rfl ⟨rfl, rfl, rfl, rfl, rfl⟩ rfl rfl rfl rfl rfl ZSH Tryz.func4 ZXK Z0B ZZ9
    (fun os started H enc _ => lifted os started H enc)

theorem proved : Rows.UnionsearchTopCardSaid :=
  Claim7.holds_tied_plain_at .later [] [.data, .data, .data, .data, .sentinel, .sentinel, .widerDeep, .pinned] true (true, "227b809be0a86251cf4fa55eab6459dd828d42d5c56f64c9df674cc8dd32c7d3") true
    over (fun _ h => by cases h) ZWA (fun _ h => by cases h) unionsearchTop_row_tie rfl ⟨rfl, rfl⟩ mainIs_ rfl
    (fun f fn hf hfn => by
      obtain rfl : f = 4 := (Option.some.inj (ZSH.symm.trans hf)).symm
      obtain rfl : fn = Tryz.f4 := (Option.some.inj (Tryz.func4.symm.trans hfn)).symm
      exact ⟨looks_, fun j t ht => by
        rw [Tryz.params4] at ht
        have hm : t ∈ [25, 55, 3] := by simpa using Array.mem_of_getElem? ht
        exact (show Tryz.prog.wantsStandIn t = false by simpa using List.all_eq_true.1 ZWI t hm)⟩)
    Z0C
#print axioms proved
end Go.Proofs.YtdonkbljnbaacaaGreatDoor.unionsearchTop
