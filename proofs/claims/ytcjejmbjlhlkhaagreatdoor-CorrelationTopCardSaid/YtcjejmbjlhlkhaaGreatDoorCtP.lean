/- Proved: for every input the law CorrelationTop returns true, and its arguments read as before. The listed package variables read as the program's text lays them: the card ties them. No other condition. -/
import Derived.Test.YtcjejmbjlhlkhaaGreatDoorRows
import Derived.Test.YtcjejmbjlhlkhaaGreatDoorCards
import Derived.Test.YtcjejmbjlhlkhaaGreatDoorTie
import Derived.Test.YtcjejmbjlhlkhaaGreatDoorQ
import Derived.Test.YtcjejmbjlhlkhaaGreatDoorCtW
import Derived.Test.YtcjejmbjlhlkhaaGreatDoorCtF
import Derived.Test.YtcjejmbjlhlkhaaGreatDoorCtM5
import Derived.WalkKit
import Derived.ProofKit
import Derived.OpenShut
import Derived.Lay
import Derived.SevenTiedAt
set_option linter.unusedVariables false
set_option linter.unusedSimpArgs false
set_option linter.unusedSectionVars false
namespace Go.Proofs.YtcjejmbjlhlkhaaGreatDoor.correlationTop
open Go.ChangeShapes Go.WideShapes Go.ChangeAt Go.RowKit
open Go.Proofs (U X0 uok ZBM)

theorem own : ownKnob Tryz.prog.godebug = none := by kernel_rfl
theorem ZOa : laidOutB Tryz.prog = true := by kernel_rfl

theorem ZNW : Eng.Zmk U := fun n x => match n, x with
  | 0, _ => rfl
  | 1, _ => rfl
  | 2, _ => rfl
  | 3, _ => rfl
  | 4, _ => rfl
  | 5, _ => rfl
  | 6, _ => rfl
  | 7, _ => rfl
  | 8, _ => rfl
  | 9, _ => rfl
  | 10, _ => rfl
  | 11, _ => rfl
  | 12, _ => rfl
  | 13, _ => rfl
  | 14, _ => List.all_eq_true.2 fun l hl => by obtain ⟨y, _, rfl⟩ := List.mem_map.1 hl; rfl
  | 15, _ => rfl
  | _ + 16, _ => rfl

theorem ZQ4 {α : Type} {l r : List α} {j : Nat} {x : α} (h : l[j]? = some x) : (l ++ r)[j]? = some x := by
  rw [List.getElem?_append_left (List.getElem?_eq_some_iff.1 h).1]; exact h

theorem ZQI : Eng.Zek Tryz.prog U 3 (.int .i64) := Eng.opens_int Tryz.underlying3
theorem ZUY : Eng.Zek Tryz.prog U 22 (.sl (.int .i64)) := Eng.ZlH uok ZNW Tryz.underlying22 (by kernel_rfl) (by decide) (Nat.le_of_ble_eq_true (by kernel_rfl)) ZQI
theorem ZQH : Eng.Zek Tryz.prog U 9 .str := Eng.opens_str Tryz.underlying9
theorem ZYz : Eng.Zek Tryz.prog U 4 .bool := Eng.Zmq Tryz.underlying4
theorem ZUS : Eng.Zek Tryz.prog U 39 (.st 0) := Eng.Zld uok (k := 0) (Ts := [.bool, .str]) Tryz.underlying39 (by kernel_rfl) ⟨rfl, by kernel_rfl, ZYz, rfl, by kernel_rfl, ZQH, trivial⟩ fun ys => ⟨(⟨ys.1, ys.2.1⟩ : Go.Proofs.G_api_Cell), rfl⟩
theorem ZUU : Eng.Zek Tryz.prog U 29 (.sl (.st 0)) := Eng.ZlH uok ZNW Tryz.underlying29 (by kernel_rfl) (by decide) (Nat.le_of_ble_eq_true (by kernel_rfl)) ZUS
theorem ZUT : Eng.Zek Tryz.prog U 31 (.st 1) := Eng.Zld uok (k := 1) (Ts := [.str, (.sl (.st 0))]) Tryz.underlying31 (by kernel_rfl) ⟨rfl, by kernel_rfl, ZQH, rfl, by kernel_rfl, ZUU, trivial⟩ fun ys => ⟨(⟨ys.1, ys.2.1⟩ : Go.Proofs.G_api_Column), rfl⟩
theorem ZUW : Eng.Zek Tryz.prog U 26 (.sl (.st 1)) := Eng.ZlH uok ZNW Tryz.underlying26 (by kernel_rfl) (by decide) (Nat.le_of_ble_eq_true (by kernel_rfl)) ZUT
theorem ZUV : Eng.Zek Tryz.prog U 28 (.st 2) := Eng.Zld uok (k := 2) (Ts := [(.int .i64), .str, (.sl (.st 1))]) Tryz.underlying28 (by kernel_rfl) ⟨rfl, by kernel_rfl, ZQI, rfl, by kernel_rfl, ZQH, rfl, by kernel_rfl, ZUW, trivial⟩ fun ys => ⟨(⟨ys.1, ys.2.1, ys.2.2.1⟩ : Go.Proofs.G_api_Table), rfl⟩
theorem ZUX : Eng.Zek Tryz.prog U 23 (.sl (.st 2)) := Eng.ZlH uok ZNW Tryz.underlying23 (by kernel_rfl) (by decide) (Nat.le_of_ble_eq_true (by kernel_rfl)) ZUV

theorem Z1P : Rows.laid_tablefinder_fraction_one = (DataW.slice [.lit (.int .u32 1)] [] : DataW Unit) := by kernel_rfl
theorem ZVo {w : World} (h : laidMet Tryz.prog Rows.correlationTopRow.laid w) : Eng.Zel w (fun b => b < w.heap.size) 1 [Eng.P.sl 1 [.int .u32 1]] :=
  Eng.globOk_one (t := 178) (e := 109) (by kernel_rfl) (by kernel_rfl) Tryz.underlying178 Tryz.underlying109 (by kernel_rfl) (by decide) (Z1P ▸ Lib.laidMet.reads (n := "tablefinder/fraction.one") (d := Rows.laid_tablefinder_fraction_one) h (List.mem_iff_getElem?.2 ⟨6, by kernel_rfl⟩))
theorem Z1O : Rows.laid_internal_strconv_uint64pow10 = (Lib.tabData .u64 Lib.pow10Tab : DataW Unit) := by kernel_rfl
theorem ZVn {w : World} (h : laidMet Tryz.prog Rows.correlationTopRow.laid w) : Eng.Zel w (fun b => b < w.heap.size) 2 (Lib.pow10Tab.map fun z => Eng.P.int .u64 z) :=
  Eng.globOk_tab (t := 188) (e := 74) (m := 20) (by kernel_rfl) (by kernel_rfl) Tryz.underlying188 Tryz.underlying74 (by kernel_rfl) (by kernel_rfl) (by kernel_rfl) (Z1O ▸ Lib.laidMet.reads (n := "internal/strconv.uint64pow10") (d := Rows.laid_internal_strconv_uint64pow10) h (List.mem_iff_getElem?.2 ⟨2, by kernel_rfl⟩))
theorem Z1N : Rows.laid_unicode_utf8_first = (Lib.tabData .u8 Lib.firstTab : DataW Unit) := by kernel_rfl
theorem ZVm {w : World} (h : laidMet Tryz.prog Rows.correlationTopRow.laid w) : Eng.Zel w (fun b => b < w.heap.size) 3 (Lib.firstTab.map fun z => Eng.P.int .u8 z) :=
  Eng.globOk_tab (t := 229) (e := 5) (m := 256) (by kernel_rfl) (by kernel_rfl) Tryz.underlying229 Tryz.underlying5 (by kernel_rfl) (by kernel_rfl) (by kernel_rfl) (Z1N ▸ Lib.laidMet.reads (n := "unicode/utf8.first") (d := Rows.laid_unicode_utf8_first) h (List.mem_iff_getElem?.2 ⟨7, by kernel_rfl⟩))
def ZRo : List (List Int) := [[128, 191], [160, 191], [128, 159], [144, 191], [128, 143], [0, 0], [0, 0], [0, 0], [0, 0], [0, 0], [0, 0], [0, 0], [0, 0], [0, 0], [0, 0], [0, 0]]
def ZOj : List Eng.P := [.int .u8 128, .int .u8 191, .int .u8 160, .int .u8 191, .int .u8 128, .int .u8 159, .int .u8 144, .int .u8 191, .int .u8 128, .int .u8 143, .int .u8 0, .int .u8 0, .int .u8 0, .int .u8 0, .int .u8 0, .int .u8 0, .int .u8 0, .int .u8 0, .int .u8 0, .int .u8 0, .int .u8 0, .int .u8 0, .int .u8 0, .int .u8 0, .int .u8 0, .int .u8 0, .int .u8 0, .int .u8 0, .int .u8 0, .int .u8 0, .int .u8 0, .int .u8 0]
theorem Z1M : Rows.laid_unicode_utf8_acceptRanges = (DataW.agg (ZRo.map fun zs => .agg (zs.map fun z => .lit (.int .u8 z))) : DataW Unit) := by kernel_rfl
theorem ZVl {w : World} (h : laidMet Tryz.prog Rows.correlationTopRow.laid w) : Eng.Zel w (fun b => b < w.heap.size) 4 ZOj :=
  Eng.globOk_tab2 (t := 232) (e := 231) (f := 5) (m := 16) (c := 2) (k := .u8) (zss := ZRo) (by kernel_rfl) (by kernel_rfl) Tryz.underlying232 Tryz.underlying231 (fun j x hj => by
    match j, hj with
    | 0, hj => simp at hj; subst hj; exact ⟨Tryz.underlying5, rfl, by kernel_rfl⟩
    | 1, hj => simp at hj; subst hj; exact ⟨Tryz.underlying5, rfl, by kernel_rfl⟩
    | j + 2, hj => simp at hj) (by kernel_rfl) rfl (by kernel_rfl) (by decide) rfl (by kernel_rfl) (by kernel_rfl) rfl
    (Z1M ▸ Lib.laidMet.reads (n := "unicode/utf8.acceptRanges") (d := Rows.laid_unicode_utf8_acceptRanges) h (List.mem_iff_getElem?.2 ⟨3, by kernel_rfl⟩))

set_option maxRecDepth 100000 in
theorem walk (y0 : (List Int)) (y1 : Int) (y2 : (List  Go.Proofs.G_api_Table)) (v0 v1 v2 : Value) (w : World)
    (e0 : Eng.RelP w (fun b => b < w.heap.size) v0 (U.encE (.sl (.int .i64)) y0)) (e1 : Eng.RelP w (fun b => b < w.heap.size) v1 (U.encE (.int .i64) y1)) (e2 : Eng.RelP w (fun b => b < w.heap.size) v2 (U.encE (.sl (.st 2)) y2)) (hL : laidMet Tryz.prog Rows.correlationTopRow.laid w) :
    Calls Tryz.prog 3 #[v0, v1, v2] w fun e w' => e = .returned (.bool true) ∧ Eng.Zi9 w w' := by
  have hF : Eng.Fun X0.E 3 (([U.encE (.sl (.int .i64)) y0, U.encE (.int .i64) y1, U.encE (.sl (.st 2)) y2] : List Eng.P).map Eng.Arg.p) ⟨[.p (.bool true)], []⟩ :=
    (Go.Proofs.D231_ok [.p (.l ⟨(.sl (.int .i64)), y0⟩), .p (.l ⟨(.int .i64), y1⟩), .p (.l ⟨(.sl (.st 2)), y2⟩)] _ rfl true (Go.Proofs.correlationTop_law y0 y1 y2 (ZUH e2))).1
  refine Eng.Zkk (E := X0.E) hF (by kernel_rfl) rfl (fun k v x hv hx => ?_) (fun g cs hm => ?_)
  · match k, hv, hx with
    | 0, hv, hx => simp at hv hx; subst hv hx; exact e0
    | 1, hv, hx => simp at hv hx; subst hv hx; exact e1
    | 2, hv, hx => simp at hv hx; subst hv hx; exact e2
    | k + 3, hv, hx => simp at hv
  · have hm' : (g, cs) ∈ [(1, [Eng.P.sl 1 [.int .u32 1]]), (2, Lib.pow10Tab.map fun z => Eng.P.int .u64 z), (3, Lib.firstTab.map fun z => Eng.P.int .u8 z), (4, ZOj)] := (show X0.E.globs = [(1, [Eng.P.sl 1 [.int .u32 1]]), (2, Lib.pow10Tab.map fun z => Eng.P.int .u64 z), (3, Lib.firstTab.map fun z => Eng.P.int .u8 z), (4, ZOj)] by kernel_rfl) ▸ hm
    simp only [List.mem_cons, List.not_mem_nil, or_false, Prod.mk.injEq] at hm'
    rcases hm' with ⟨rfl, rfl⟩ | ⟨rfl, rfl⟩ | ⟨rfl, rfl⟩ | ⟨rfl, rfl⟩
    · exact ZVo hL
    · exact ZVn hL
    · exact ZVm hL
    · exact ZVl hL

set_option maxRecDepth 100000 in
theorem lifted (os : Os) (started : os.Started) (H : Type) (enc : TypeId × Value → H) :
    ReturnsInHanded {} Tryz.checked os 3 .any (fun w args => (Rows.correlationTopSpec.pre enc Tryz.prog Tryz.f3 [] false w args ∧ laidMetH Tryz.prog Rows.correlationTopRow.laid w) ∧ sizedMet enc Tryz.prog Tryz.f3 (OpenSpec.ofChange Rows.correlationTopSpec) false w args) (Rows.correlationTopSpec.post enc Tryz.prog Tryz.f3 false true false false) := by
  refine returnsInHanded_of_change_and (C := Tryz.checked) (X := fun w _ => laidMetH Tryz.prog Rows.correlationTopRow.laid w) (fun _ _ _ hh h => h.of_heap hh) own started (by kernel_rfl) Tryz.func3
    (ChangeSpec.witness_shaped (enc := enc) (C := Tryz.checked) (os := os) (X := fun w _ => laidMetH Tryz.prog Rows.correlationTopRow.laid w) false (World.laidAll Tryz.prog os Rows.correlationTopRow.laid) #[.slice none 0 0, .int .i64 0, .slice none 0 0] 8 (World.laidAll_os _ _ _)
      (World.shaped_of_ZipB (by kernel_rfl) (by kernel_rfl)) (by kernel_rfl) (by kernel_rfl) (by kernel_rfl)
      (by rw [MakeChecks.laidMetH_plain _ _ _ (by kernel_rfl)]; exact laidMet_laidAll _ (by kernel_rfl) (by kernel_rfl))) ?_
  intro W base args ds gs before hval0 hW hcnd hsz hL _
  have hval : ∀ (j : Nat) t v, Tryz.f3.params[j]? = some t → args[j]? = some v → Value.okWide Tryz.prog W .any base t v := hval0
  rw [MakeChecks.laidMetH_plain _ _ _ (by kernel_rfl)] at hL
  have hW' := hW
  have hlt := hW.lt
  obtain ⟨p, q, hA0, hV, rfl, hfz, hnd⟩ := hW
  have hA : DataW.TrodAll enc Tryz.prog W 0 (fun _ => true) true Tryz.f3.params.toList args.toList ds p := hA0
  rw [Tryz.params3] at hA hval
  obtain ⟨v0, vs0, d0, ds0, p0, q0, hargs, rfl, rfl, h0, r0⟩ := trodAll_cons hA
  obtain ⟨v1, vs1, d1, ds1, p1, q1, rfl, rfl, rfl, h1, r1⟩ := trodAll_cons r0
  obtain ⟨v2, vs2, d2, ds2, p2, q2, rfl, rfl, rfl, h2, r2⟩ := trodAll_cons r1
  obtain ⟨rfl, rfl, rfl⟩ := trodAll_nil r2
  obtain rfl : args = #[v0, v1, v2] := by cases args; simp_all
  obtain ⟨rfl, rfl⟩ := trodVars_none hV
  rw [List.all_eq_true] at hsz
  have hw : ∀ (j : Nat) t d, ([22, 3, 23] : List TypeId)[j]? = some t → [d0, d1, d2][j]? = some d → ∀ n ∈ d.weights Tryz.prog t, n ≤ reachBytes := fun j t d ht hd n hn =>
    by simpa using hsz n (DataW.weights_mem_each (ts := Tryz.f3.params.toList ++ Rows.correlationTopSpec.plain.varTypes Tryz.prog) (by rw [Tryz.params3]; exact ZQ4 ht) (by exact ZQ4 hd) n hn)
  obtain ⟨y0, e0⟩ := Eng.open_arg uok ZNW ZUY h0 (hw 0 _ _ rfl rfl) (Eng.okv_plain rfl ⟨_, Tryz.underlying22, trivial⟩ (hval 0 22 v0 rfl rfl))
  obtain ⟨y1, e1⟩ := Eng.open_arg uok ZNW ZQI h1 (hw 1 _ _ rfl rfl) (Eng.okv_plain rfl ⟨_, Tryz.underlying3, trivial⟩ (hval 1 3 v1 rfl rfl))
  obtain ⟨y2, e2⟩ := Eng.open_arg uok ZNW ZUX h2 (hw 2 _ _ rfl rfl) (Eng.okv_plain rfl ⟨_, Tryz.underlying23, trivial⟩ (hval 2 23 v2 rfl rfl))
  clear hA0 hval0
  refine (walk y0 y1 y2 v0 v1 v2 W e0 e1 e2 hL).mono fun e W' ⟨he, hg⟩ => ?_
  subst he
  have lt0 : ∀ x ∈ p0, x.block < W.heap.size := fun x hx => hlt x (by simp [hx])
  have lt1 : ∀ x ∈ p1, x.block < W.heap.size := fun x hx => hlt x (by simp [hx])
  have lt2 : ∀ x ∈ p2, x.block < W.heap.size := fun x hx => hlt x (by simp [hx])
  exact ⟨_, rfl, Eng.Zlb (pa := (p0 ++ (p1 ++ (p2 ++ [])))) (pv := []) hW' (fun _ _ _ => (trodAll_cons_mk (shut_bool Tryz.underlying4 _) trodAll_mk0))
    (fun sp hs => (trodAll_cons_mk (Eng.Zi9.trod ZOa (by kernel_rfl) (of_decide_eq_true (by kernel_rfl)) h0 hg lt0 fun x hx => hs x (by simp [hx])) (trodAll_cons_mk (Eng.Zi9.trod ZOa (by kernel_rfl) (of_decide_eq_true (by kernel_rfl)) h1 hg lt1 fun x hx => hs x (by simp [hx])) (trodAll_cons_mk (Eng.Zi9.trod ZOa (by kernel_rfl) (of_decide_eq_true (by kernel_rfl)) h2 hg lt2 fun x hx => hs x (by simp [hx])) trodAll_mk0)))) (fun _ _ => rfl) rfl
    hg (ok_one (by kernel_rfl) rfl (okWide_bool_mk Tryz.underlying4 _))⟩

theorem over : Rows.correlationTopRow.holds Tryz.pinned (OpenSpec.ofChange Rows.correlationTopSpec) :=
  OpenClaim.holds_of_wide 3 Tryz.f3 rfl rfl rfl rfl rfl rfl rfl ⟨rfl, rfl, rfl, rfl, rfl⟩ rfl rfl rfl rfl rfl ZTw Tryz.func3 ZZa Z1S Z1j
    (fun os started H enc _ => lifted os started H enc)

theorem proved : Rows.CorrelationTopCardSaid :=
  Claim7.holds_tied_plain_at .later [] [.data, .data, .data, .data, .sentinel, .sentinel, .widerDeep, .pinned] true (true, "8c1e79d6d7e186442841f620b9d2c369256a9ddc5eaf677d6ac381433b379919") true
    over (fun _ h => by cases h) ZX1 (fun _ h => by cases h) correlationTop_row_tie rfl ⟨rfl, rfl⟩ mainIs_ rfl
    (fun f fn hf hfn => by
      obtain rfl : f = 3 := (Option.some.inj (ZTw.symm.trans hf)).symm
      obtain rfl : fn = Tryz.f3 := (Option.some.inj (Tryz.func3.symm.trans hfn)).symm
      exact ⟨looks_, fun j t ht => by
        rw [Tryz.params3] at ht
        have hm : t ∈ [22, 3, 23] := by simpa using Array.mem_of_getElem? ht
        exact (show Tryz.prog.wantsStandIn t = false by simpa using List.all_eq_true.1 ZYa t hm)⟩)
    Z1V
#print axioms proved
end Go.Proofs.YtcjejmbjlhlkhaaGreatDoor.correlationTop
