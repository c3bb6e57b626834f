/- Proved: for every input the law UnionsearchPairs returns true, and its arguments read as before. The listed package variables read as the program's text lays them: the card ties them. No other condition. -/
import Derived.Test.YteopakpakelkoaaGreatDoorRows
import Derived.Test.YteopakpakelkoaaGreatDoorCards
import Derived.Test.YteopakpakelkoaaGreatDoorTie
import Derived.Test.YteopakpakelkoaaGreatDoorQ
import Derived.Test.YteopakpakelkoaaGreatDoorUpW
import Derived.Test.YteopakpakelkoaaGreatDoorUpF
import Derived.Test.YteopakpakelkoaaGreatDoorUpM4
import Derived.WalkKit
import Derived.ProofKit
import Derived.OpenShut
import Derived.Lay
import Derived.SevenTiedAt
set_option linter.unusedVariables false
set_option linter.unusedSimpArgs false
set_option linter.unusedSectionVars false
namespace Go.Proofs.YteopakpakelkoaaGreatDoor.unionsearchPairs
open Go.ChangeShapes Go.WideShapes Go.ChangeAt Go.RowKit
open Go.Proofs (U X0 uok Zz1)

theorem own : ownKnob Tryz.prog.godebug = none := by kernel_rfl
theorem ZKX : laidOutB Tryz.prog = true := by kernel_rfl

theorem ZMc : Eng.Zm8 U := fun n x => match n, x with
  | 0, _ => rfl
  | 1, _ => rfl
  | 2, _ => rfl
  | 3, _ => rfl
  | 4, _ => rfl
  | 5, _ => rfl
  | 6, _ => rfl
  | 7, _ => rfl
  | 8, _ => rfl
  | 9, _ => rfl
  | 10, _ => rfl
  | 11, _ => rfl
  | 12, _ => List.all_eq_true.2 fun l hl => by obtain ⟨y, _, rfl⟩ := List.mem_map.1 hl; rfl
  | 13, _ => rfl
  | _ + 14, _ => rfl

theorem ZPd {α : Type} {l r : List α} {j : Nat} {x : α} (h : l[j]? = some x) : (l ++ r)[j]? = some x := by
  rw [List.getElem?_append_left (List.getElem?_eq_some_iff.1 h).1]; exact h

theorem ZOW : Eng.ZeB Tryz.prog U 3 (.int .i64) := Eng.opens_int Tryz.underlying3
theorem ZOV : Eng.ZeB Tryz.prog U 9 .str := Eng.opens_str Tryz.underlying9
theorem ZVB : Eng.ZeB Tryz.prog U 4 .bool := Eng.Znf Tryz.underlying4
theorem ZSJ : Eng.ZeB Tryz.prog U 64 (.st 0) := Eng.Zl0 uok (k := 0) (Ts := [.bool, .str]) Tryz.underlying64 (by kernel_rfl) ⟨rfl, by kernel_rfl, ZVB, rfl, by kernel_rfl, ZOV, trivial⟩ fun ys => ⟨(⟨ys.1, ys.2.1⟩ : Go.Proofs.G_api_Cell), rfl⟩
theorem ZSL : Eng.ZeB Tryz.prog U 35 (.sl (.st 0)) := Eng.Zmv uok ZMc Tryz.underlying35 (by kernel_rfl) (by decide) (Nat.le_of_ble_eq_true (by kernel_rfl)) ZSJ
theorem ZSK : Eng.ZeB Tryz.prog U 37 (.st 1) := Eng.Zl0 uok (k := 1) (Ts := [.str, (.sl (.st 0))]) Tryz.underlying37 (by kernel_rfl) ⟨rfl, by kernel_rfl, ZOV, rfl, by kernel_rfl, ZSL, trivial⟩ fun ys => ⟨(⟨ys.1, ys.2.1⟩ : Go.Proofs.G_api_Column), rfl⟩
theorem ZSN : Eng.ZeB Tryz.prog U 22 (.sl (.st 1)) := Eng.Zmv uok ZMc Tryz.underlying22 (by kernel_rfl) (by decide) (Nat.le_of_ble_eq_true (by kernel_rfl)) ZSK
theorem ZSM : Eng.ZeB Tryz.prog U 24 (.st 2) := Eng.Zl0 uok (k := 2) (Ts := [(.int .i64), .str, (.sl (.st 1))]) Tryz.underlying24 (by kernel_rfl) ⟨rfl, by kernel_rfl, ZOW, rfl, by kernel_rfl, ZOV, rfl, by kernel_rfl, ZSN, trivial⟩ fun ys => ⟨(⟨ys.1, ys.2.1, ys.2.2.1⟩ : Go.Proofs.G_api_Table), rfl⟩
theorem ZOX : Eng.ZeB Tryz.prog U 25 (.sl (.int .i64)) := Eng.Zmv uok ZMc Tryz.underlying25 (by kernel_rfl) (by decide) (Nat.le_of_ble_eq_true (by kernel_rfl)) ZOW

theorem ZYZ : Rows.laid_tablefinder_fraction_one = (DataW.slice [.lit (.int .u32 1)] [] : DataW Unit) := by kernel_rfl
theorem ZTa {w : World} (h : laidMet Tryz.prog Rows.unionsearchPairsRow.laid w) : Eng.ZeC w (fun b _ => b < w.heap.size) 0 [Eng.P.sl 1 [.int .u32 1]] :=
  Eng.globOk_one (t := 181) (e := 123) (by kernel_rfl) (by kernel_rfl) Tryz.underlying181 Tryz.underlying123 (by kernel_rfl) (by decide) (ZYZ ▸ Lib.laidMet.reads (n := "tablefinder/fraction.one") (d := Rows.laid_tablefinder_fraction_one) h (List.mem_iff_getElem?.2 ⟨6, by kernel_rfl⟩))
theorem ZYY : Rows.laid_unicode_utf8_first = (Lib.tabData .u8 Lib.firstTab : DataW Unit) := by kernel_rfl
theorem ZS9 {w : World} (h : laidMet Tryz.prog Rows.unionsearchPairsRow.laid w) : Eng.ZeC w (fun b _ => b < w.heap.size) 1 (Lib.firstTab.map fun z => Eng.P.int .u8 z) :=
  Eng.globOk_tab (t := 209) (e := 5) (m := 256) (by kernel_rfl) (by kernel_rfl) Tryz.underlying209 Tryz.underlying5 (by kernel_rfl) (by kernel_rfl) (by kernel_rfl) (ZYY ▸ Lib.laidMet.reads (n := "unicode/utf8.first") (d := Rows.laid_unicode_utf8_first) h (List.mem_iff_getElem?.2 ⟨7, by kernel_rfl⟩))
def ZPB : List (List Int) := [[128, 191], [160, 191], [128, 159], [144, 191], [128, 143], [0, 0], [0, 0], [0, 0], [0, 0], [0, 0], [0, 0], [0, 0], [0, 0], [0, 0], [0, 0], [0, 0]]
def ZMC : List Eng.P := [.int .u8 128, .int .u8 191, .int .u8 160, .int .u8 191, .int .u8 128, .int .u8 159, .int .u8 144, .int .u8 191, .int .u8 128, .int .u8 143, .int .u8 0, .int .u8 0, .int .u8 0, .int .u8 0, .int .u8 0, .int .u8 0, .int .u8 0, .int .u8 0, .int .u8 0, .int .u8 0, .int .u8 0, .int .u8 0, .int .u8 0, .int .u8 0, .int .u8 0, .int .u8 0, .int .u8 0, .int .u8 0, .int .u8 0, .int .u8 0, .int .u8 0, .int .u8 0]
theorem ZYX : Rows.laid_unicode_utf8_acceptRanges = (DataW.agg (ZPB.map fun zs => .agg (zs.map fun z => .lit (.int .u8 z))) : DataW Unit) := by kernel_rfl
theorem ZS8 {w : World} (h : laidMet Tryz.prog Rows.unionsearchPairsRow.laid w) : Eng.ZeC w (fun b _ => b < w.heap.size) 2 ZMC :=
  Eng.globOk_tab2 (t := 212) (e := 211) (f := 5) (m := 16) (c := 2) (k := .u8) (zss := ZPB) (by kernel_rfl) (by kernel_rfl) Tryz.underlying212 Tryz.underlying211 (fun j x hj => by
    match j, hj with
    | 0, hj => simp at hj; subst hj; exact ⟨Tryz.underlying5, rfl, by kernel_rfl⟩
    | 1, hj => simp at hj; subst hj; exact ⟨Tryz.underlying5, rfl, by kernel_rfl⟩
    | j + 2, hj => simp at hj) (by kernel_rfl) rfl (by kernel_rfl) (by decide) rfl (by kernel_rfl) (by kernel_rfl) rfl
    (ZYX ▸ Lib.laidMet.reads (n := "unicode/utf8.acceptRanges") (d := Rows.laid_unicode_utf8_acceptRanges) h (List.mem_iff_getElem?.2 ⟨3, by kernel_rfl⟩))
theorem ZYW : Rows.laid_internal_strconv_uint64pow10 = (Lib.tabData .u64 Lib.pow10Tab : DataW Unit) := by kernel_rfl
theorem ZS7 {w : World} (h : laidMet Tryz.prog Rows.unionsearchPairsRow.laid w) : Eng.ZeC w (fun b _ => b < w.heap.size) 3 (Lib.pow10Tab.map fun z => Eng.P.int .u64 z) :=
  Eng.globOk_tab (t := 245) (e := 147) (m := 20) (by kernel_rfl) (by kernel_rfl) Tryz.underlying245 Tryz.underlying147 (by kernel_rfl) (by kernel_rfl) (by kernel_rfl) (ZYW ▸ Lib.laidMet.reads (n := "internal/strconv.uint64pow10") (d := Rows.laid_internal_strconv_uint64pow10) h (List.mem_iff_getElem?.2 ⟨2, by kernel_rfl⟩))

set_option maxRecDepth 100000 in
theorem ZYB (y0 :  Go.Proofs.G_api_Table) (y1 : (List Int)) (y2 : (List Int)) (y3 : Int) (v0 v1 v2 v3 : Value) (w : World)
    (e0 : Eng.RelP w (fun b _ => b < w.heap.size) v0 (U.encE (.st 2) y0)) (e1 : Eng.RelP w (fun b _ => b < w.heap.size) v1 (U.encE (.sl (.int .i64)) y1)) (e2 : Eng.RelP w (fun b _ => b < w.heap.size) v2 (U.encE (.sl (.int .i64)) y2)) (e3 : Eng.RelP w (fun b _ => b < w.heap.size) v3 (U.encE (.int .i64) y3)) (hL : laidMet Tryz.prog Rows.unionsearchPairsRow.laid w) :
    Calls Tryz.prog 3 #[v0, v1, v2, v3] w fun e w' => e = .returned (.bool true) ∧ Eng.ZjF w w' := by
  have hF : Eng.Fun X0.E 3 (([U.encE (.st 2) y0, U.encE (.sl (.int .i64)) y1, U.encE (.sl (.int .i64)) y2, U.encE (.int .i64) y3] : List Eng.P).map Eng.Arg.p) ⟨[.p (.bool true)], []⟩ :=
    (Go.Proofs.D204_ok [.p (.l ⟨(.st 2), y0⟩), .p (.l ⟨(.sl (.int .i64)), y1⟩), .p (.l ⟨(.sl (.int .i64)), y2⟩), .p (.l ⟨(.int .i64), y3⟩)] _ rfl true (Go.Proofs.unionsearchPairs_law y0 y1 y2 y3 (ZVj e0) (ZVT e3))).1
  refine Eng.ZkX (E := X0.E) hF (by kernel_rfl) rfl (fun k v x hv hx => ?_) (fun g cs hm => ?_)
  · match k, hv, hx with
    | 0, hv, hx => simp at hv hx; subst hv hx; exact e0
    | 1, hv, hx => simp at hv hx; subst hv hx; exact e1
    | 2, hv, hx => simp at hv hx; subst hv hx; exact e2
    | 3, hv, hx => simp at hv hx; subst hv hx; exact e3
    | k + 4, hv, hx => simp at hv
  · have hm' : (g, cs) ∈ [(0, [Eng.P.sl 1 [.int .u32 1]]), (1, Lib.firstTab.map fun z => Eng.P.int .u8 z), (2, ZMC), (3, Lib.pow10Tab.map fun z => Eng.P.int .u64 z)] := (show X0.E.globs = [(0, [Eng.P.sl 1 [.int .u32 1]]), (1, Lib.firstTab.map fun z => Eng.P.int .u8 z), (2, ZMC), (3, Lib.pow10Tab.map fun z => Eng.P.int .u64 z)] by kernel_rfl) ▸ hm
    simp only [List.mem_cons, List.not_mem_nil, or_false, Prod.mk.injEq] at hm'
    rcases hm' with ⟨rfl, rfl⟩ | ⟨rfl, rfl⟩ | ⟨rfl, rfl⟩ | ⟨rfl, rfl⟩
    · exact ZTa hL
    · exact ZS9 hL
    · exact ZS8 hL
    · exact ZS7 hL

set_option maxRecDepth 100000 in
theorem lifted (os : Os) (started : os.Started) (H : Type) (enc : TypeId × Value → H) :
    ReturnsInHanded {} Tryz.checked os 3 .any (fun w args => (Rows.unionsearchPairsSpec.pre enc Tryz.prog Tryz.f3 [] false w args ∧ laidMetH Tryz.prog Rows.unionsearchPairsRow.laid w) ∧ sizedMet enc Tryz.prog Tryz.f3 (OpenSpec.ofChange Rows.unionsearchPairsSpec) false w args) (Rows.unionsearchPairsSpec.post enc Tryz.prog Tryz.f3 false true false false) := by
  refine returnsInHanded_of_change_and (C := Tryz.checked) (X := fun w _ => laidMetH Tryz.prog Rows.unionsearchPairsRow.laid w) (fun _ _ _ hh h => h.of_heap hh) own started (by kernel_rfl) Tryz.func3
    (ChangeSpec.witness_shaped (enc := enc) (C := Tryz.checked) (os := os) (X := fun w _ => laidMetH Tryz.prog Rows.unionsearchPairsRow.laid w) false (World.laidAll Tryz.prog os Rows.unionsearchPairsRow.laid) #[.agg #[.int .i64 0, .string ⟨#[]⟩, .slice none 0 0], .slice none 0 0, .slice none 0 0, .int .i64 0] 8 (World.laidAll_os _ _ _)
      (World.shaped_of_ZipB (by kernel_rfl) (by kernel_rfl)) (by kernel_rfl) (by kernel_rfl) (by kernel_rfl)
      (by rw [MakeChecks.laidMetH_plain _ _ _ (by kernel_rfl)]; exact laidMet_laidAll _ (by kernel_rfl) (by kernel_rfl))) ?_
  intro W base args ds gs before hval0 hW hcnd hsz hL _
  have hval : ∀ (j : Nat) t v, Tryz.f3.params[j]? = some t → args[j]? = some v → Value.okWide Tryz.prog W .any base t v := hval0
  rw [MakeChecks.laidMetH_plain _ _ _ (by kernel_rfl)] at hL
  have hW' := hW
  have hlt := hW.lt
  obtain ⟨p, q, hA0, hV, rfl, hfz, hnd⟩ := hW
  have hA : DataW.TrodAll enc Tryz.prog W 0 (fun _ => true) true Tryz.f3.params.toList args.toList ds p := hA0
  rw [Tryz.params3] at hA hval
  obtain ⟨v0, vs0, d0, ds0, p0, q0, hargs, rfl, rfl, h0, r0⟩ := trodAll_cons hA
  obtain ⟨v1, vs1, d1, ds1, p1, q1, rfl, rfl, rfl, h1, r1⟩ := trodAll_cons r0
  obtain ⟨v2, vs2, d2, ds2, p2, q2, rfl, rfl, rfl, h2, r2⟩ := trodAll_cons r1
  obtain ⟨v3, vs3, d3, ds3, p3, q3, rfl, rfl, rfl, h3, r3⟩ := trodAll_cons r2
  obtain ⟨rfl, rfl, rfl⟩ := trodAll_nil r3
  obtain rfl : args = #[v0, v1, v2, v3] := by cases args; simp_all
  obtain ⟨rfl, rfl⟩ := trodVars_none hV
  rw [List.all_eq_true] at hsz
  have hw : ∀ (j : Nat) t d, ([24, 25, 25, 3] : List TypeId)[j]? = some t → [d0, d1, d2, d3][j]? = some d → ∀ n ∈ d.weights Tryz.prog t, n ≤ reachBytes := fun j t d ht hd n hn =>
    by simpa using hsz n (DataW.weights_mem_each (ts := Tryz.f3.params.toList ++ Rows.unionsearchPairsSpec.plain.varTypes Tryz.prog) (by rw [Tryz.params3]; exact ZPd ht) (by exact ZPd hd) n hn)
  obtain ⟨y0, e0⟩ := Eng.open_arg uok ZMc ZSM h0 (hw 0 _ _ rfl rfl) (Eng.okv_st ⟨_, Tryz.underlying24, trivial⟩ (hval 0 24 v0 rfl rfl))
  obtain ⟨y1, e1⟩ := Eng.open_arg uok ZMc ZOX h1 (hw 1 _ _ rfl rfl) (Eng.okv_plain rfl ⟨_, Tryz.underlying25, trivial⟩ (hval 1 25 v1 rfl rfl))
  obtain ⟨y2, e2⟩ := Eng.open_arg uok ZMc ZOX h2 (hw 2 _ _ rfl rfl) (Eng.okv_plain rfl ⟨_, Tryz.underlying25, trivial⟩ (hval 2 25 v2 rfl rfl))
  obtain ⟨y3, e3⟩ := Eng.open_arg uok ZMc ZOW h3 (hw 3 _ _ rfl rfl) (Eng.okv_plain rfl ⟨_, Tryz.underlying3, trivial⟩ (hval 3 3 v3 rfl rfl))
  clear hA0 hval0
  refine (ZYB y0 y1 y2 y3 v0 v1 v2 v3 W e0 e1 e2 e3 hL).mono fun e W' ⟨he, hg⟩ => ?_
  subst he
  have lt0 : ∀ x ∈ p0, x.block < W.heap.size := fun x hx => hlt x (by simp [hx])
  have lt1 : ∀ x ∈ p1, x.block < W.heap.size := fun x hx => hlt x (by simp [hx])
  have lt2 : ∀ x ∈ p2, x.block < W.heap.size := fun x hx => hlt x (by simp [hx])
  have lt3 : ∀ x ∈ p3, x.block < W.heap.size := fun x hx => hlt x (by simp [hx])
  exact ⟨_, rfl, Eng.ZlY (pa := (p0 ++ (p1 ++ (p2 ++ (p3 ++ []))))) (pv := []) hW' (fun _ _ _ => (trodAll_cons_mk (shut_bool Tryz.underlying4 _) trodAll_mk0))
    (fun sp hs => (trodAll_cons_mk (Eng.ZjF.trod ZKX (by kernel_rfl) (of_decide_eq_true (by kernel_rfl)) h0 hg lt0 fun x hx => hs x (by simp [hx])) (trodAll_cons_mk (Eng.ZjF.trod ZKX (by kernel_rfl) (of_decide_eq_true (by kernel_rfl)) h1 hg lt1 fun x hx => hs x (by simp [hx])) (trodAll_cons_mk (Eng.ZjF.trod ZKX (by kernel_rfl) (of_decide_eq_true (by kernel_rfl)) h2 hg lt2 fun x hx => hs x (by simp [hx])) (trodAll_cons_mk (Eng.ZjF.trod ZKX (by kernel_rfl) (of_decide_eq_true (by kernel_rfl)) h3 hg lt3 fun x hx => hs x (by simp [hx])) trodAll_mk0))))) (fun _ _ => rfl) rfl
    hg (ok_one (by kernel_rfl) rfl (okWide_bool_mk Tryz.underlying4 _))⟩

theorem over : Rows.unionsearchPairsRow.holds Tryz.pinned (OpenSpec.ofChange Rows.unionsearchPairsSpec) :=
  OpenClaim.holds_of_wide 3 Tryz.f3 rfl rfl rfl rfl rfl rfl rfl ⟨rfl, rfl, rfl, rfl, rfl⟩ rfl rfl rfl rfl rfl ZRw Tryz.func3 ZWf ZY2 ZYA
    (fun os started H enc _ => lifted os started H enc)

theorem proved : Rows.UnionsearchPairsCardSaid :=
  Claim7.holds_tied_plain_at .later [] [.data, .data, .data, .data, .sentinel, .sentinel, .widerDeep, .pinned] true (true, "227b809be0a86251cf4fa55eab6459dd828d42d5c56f64c9df674cc8dd32c7d3") true
    over (fun _ h => by cases h) ZU3 (fun _ h => by cases h) unionsearchPairs_row_tie rfl ⟨rfl, rfl⟩ mainIs_ rfl
    (fun f fn hf hfn => by
      obtain rfl : f = 3 := (Option.some.inj (ZRw.symm.trans hf)).symm
      obtain rfl : fn = Tryz.f3 := (Option.some.inj (Tryz.func3.symm.trans hfn)).symm
      exact ⟨looks_, fun j t ht => by
        rw [Tryz.params3] at ht
        have hm : t ∈ [24, 25, 25, 3] := by simpa using Array.mem_of_getElem? ht
        exact (show Tryz.prog.wantsStandIn t = false by simpa using List.all_eq_true.1 ZVe t hm)⟩)
    ZY3
#print axioms proved
end Go.Proofs.YteopakpakelkoaaGreatDoor.unionsearchPairs
