/- Proved: for every input the law QuantileTop returns true, and its arguments read as before. The listed package variables read as the program's text lays them: the card ties them. No other condition. -/
import Derived.Test.YtpddhnpfnefdeaaGreatDoorRows
import Derived.Test.YtpddhnpfnefdeaaGreatDoorCards
import Derived.Test.YtpddhnpfnefdeaaGreatDoorTie
import Derived.Test.YtpddhnpfnefdeaaGreatDoorQ
import Derived.Test.YtpddhnpfnefdeaaGreatDoorQtW
import Derived.Test.YtpddhnpfnefdeaaGreatDoorQtF
import Derived.Test.YtpddhnpfnefdeaaGreatDoorQtM4
import Derived.WalkKit
import Derived.ProofKit
import Derived.OpenShut
import Derived.Lay
import Derived.SevenTiedAt
set_option linter.unusedVariables false
set_option linter.unusedSimpArgs false
set_option linter.unusedSectionVars false
namespace Go.Proofs.YtpddhnpfnefdeaaGreatDoor.quantileTop
open Go.ChangeShapes Go.WideShapes Go.ChangeAt Go.RowKit
open Go.Proofs (U X0 uok ZCz)

theorem own : ownKnob Tryz.prog.godebug = none := by kernel_rfl
theorem ZKl : laidOutB Tryz.prog = true := by kernel_rfl

theorem ZJ7 : Eng.Zmb U := fun n x => match n, x with
  | 0, _ => rfl
  | 1, _ => rfl
  | 2, _ => rfl
  | 3, _ => rfl
  | 4, _ => rfl
  | 5, _ => rfl
  | 6, _ => rfl
  | 7, _ => rfl
  | 8, _ => rfl
  | 9, _ => rfl
  | 10, _ => rfl
  | 11, _ => List.all_eq_true.2 fun l hl => by obtain ⟨y, _, rfl⟩ := List.mem_map.1 hl; rfl
  | 12, _ => rfl
  | _ + 13, _ => rfl

theorem ZMA {α : Type} {l r : List α} {j : Nat} {x : α} (h : l[j]? = some x) : (l ++ r)[j]? = some x := by
  rw [List.getElem?_append_left (List.getElem?_eq_some_iff.1 h).1]; exact h

theorem ZMi : Eng.Zei Tryz.prog U 3 (.int .i64) := Eng.opens_int Tryz.underlying3
theorem ZPW : Eng.Zei Tryz.prog U 22 (.sl (.int .i64)) := Eng.Zly uok ZJ7 Tryz.underlying22 (by kernel_rfl) (by decide) (Nat.le_of_ble_eq_true (by kernel_rfl)) ZMi
theorem ZMh : Eng.Zei Tryz.prog U 9 .str := Eng.opens_str Tryz.underlying9
theorem ZSQ : Eng.Zei Tryz.prog U 4 .bool := Eng.Zmh Tryz.underlying4
theorem ZPQ : Eng.Zei Tryz.prog U 58 (.st 0) := Eng.Zk4 uok (k := 0) (Ts := [.bool, .str]) Tryz.underlying58 (by kernel_rfl) ⟨rfl, by kernel_rfl, ZSQ, rfl, by kernel_rfl, ZMh, trivial⟩ fun ys => ⟨(⟨ys.1, ys.2.1⟩ : Go.Proofs.G_api_Cell), rfl⟩
theorem ZPS : Eng.Zei Tryz.prog U 29 (.sl (.st 0)) := Eng.Zly uok ZJ7 Tryz.underlying29 (by kernel_rfl) (by decide) (Nat.le_of_ble_eq_true (by kernel_rfl)) ZPQ
theorem ZPR : Eng.Zei Tryz.prog U 31 (.st 1) := Eng.Zk4 uok (k := 1) (Ts := [.str, (.sl (.st 0))]) Tryz.underlying31 (by kernel_rfl) ⟨rfl, by kernel_rfl, ZMh, rfl, by kernel_rfl, ZPS, trivial⟩ fun ys => ⟨(⟨ys.1, ys.2.1⟩ : Go.Proofs.G_api_Column), rfl⟩
theorem ZPU : Eng.Zei Tryz.prog U 26 (.sl (.st 1)) := Eng.Zly uok ZJ7 Tryz.underlying26 (by kernel_rfl) (by decide) (Nat.le_of_ble_eq_true (by kernel_rfl)) ZPR
theorem ZPT : Eng.Zei Tryz.prog U 28 (.st 2) := Eng.Zk4 uok (k := 2) (Ts := [(.int .i64), .str, (.sl (.st 1))]) Tryz.underlying28 (by kernel_rfl) ⟨rfl, by kernel_rfl, ZMi, rfl, by kernel_rfl, ZMh, rfl, by kernel_rfl, ZPU, trivial⟩ fun ys => ⟨(⟨ys.1, ys.2.1, ys.2.2.1⟩ : Go.Proofs.G_api_Table), rfl⟩
theorem ZPV : Eng.Zei Tryz.prog U 23 (.sl (.st 2)) := Eng.Zly uok ZJ7 Tryz.underlying23 (by kernel_rfl) (by decide) (Nat.le_of_ble_eq_true (by kernel_rfl)) ZPT

theorem ZVO : Rows.laid_tablefinder_fraction_one = (DataW.slice [.lit (.int .u32 1)] [] : DataW Unit) := by kernel_rfl
theorem ZQf {w : World} (h : laidMet Tryz.prog Rows.quantileTopRow.laid w) : Eng.Zej w (fun b => b < w.heap.size) 2 [Eng.P.sl 1 [.int .u32 1]] :=
  Eng.globOk_one (t := 128) (e := 112) (by kernel_rfl) (by kernel_rfl) Tryz.underlying128 Tryz.underlying112 (by kernel_rfl) (by decide) (ZVO ▸ Lib.laidMet.reads (n := "tablefinder/fraction.one") (d := Rows.laid_tablefinder_fraction_one) h (List.mem_iff_getElem?.2 ⟨6, by kernel_rfl⟩))
theorem ZVN : Rows.laid_internal_strconv_uint64pow10 = (Lib.tabData .u64 Lib.pow10Tab : DataW Unit) := by kernel_rfl
theorem ZQe {w : World} (h : laidMet Tryz.prog Rows.quantileTopRow.laid w) : Eng.Zej w (fun b => b < w.heap.size) 3 (Lib.pow10Tab.map fun z => Eng.P.int .u64 z) :=
  Eng.globOk_tab (t := 196) (e := 78) (m := 20) (by kernel_rfl) (by kernel_rfl) Tryz.underlying196 Tryz.underlying78 (by kernel_rfl) (by kernel_rfl) (by kernel_rfl) (ZVN ▸ Lib.laidMet.reads (n := "internal/strconv.uint64pow10") (d := Rows.laid_internal_strconv_uint64pow10) h (List.mem_iff_getElem?.2 ⟨2, by kernel_rfl⟩))
theorem ZVM : Rows.laid_unicode_utf8_first = (Lib.tabData .u8 Lib.firstTab : DataW Unit) := by kernel_rfl
theorem ZQd {w : World} (h : laidMet Tryz.prog Rows.quantileTopRow.laid w) : Eng.Zej w (fun b => b < w.heap.size) 4 (Lib.firstTab.map fun z => Eng.P.int .u8 z) :=
  Eng.globOk_tab (t := 235) (e := 5) (m := 256) (by kernel_rfl) (by kernel_rfl) Tryz.underlying235 Tryz.underlying5 (by kernel_rfl) (by kernel_rfl) (by kernel_rfl) (ZVM ▸ Lib.laidMet.reads (n := "unicode/utf8.first") (d := Rows.laid_unicode_utf8_first) h (List.mem_iff_getElem?.2 ⟨7, by kernel_rfl⟩))
def ZMP : List (List Int) := [[128, 191], [160, 191], [128, 159], [144, 191], [128, 143], [0, 0], [0, 0], [0, 0], [0, 0], [0, 0], [0, 0], [0, 0], [0, 0], [0, 0], [0, 0], [0, 0]]
def ZKs : List Eng.P := [.int .u8 128, .int .u8 191, .int .u8 160, .int .u8 191, .int .u8 128, .int .u8 159, .int .u8 144, .int .u8 191, .int .u8 128, .int .u8 143, .int .u8 0, .int .u8 0, .int .u8 0, .int .u8 0, .int .u8 0, .int .u8 0, .int .u8 0, .int .u8 0, .int .u8 0, .int .u8 0, .int .u8 0, .int .u8 0, .int .u8 0, .int .u8 0, .int .u8 0, .int .u8 0, .int .u8 0, .int .u8 0, .int .u8 0, .int .u8 0, .int .u8 0, .int .u8 0]
theorem ZVL : Rows.laid_unicode_utf8_acceptRanges = (DataW.agg (ZMP.map fun zs => .agg (zs.map fun z => .lit (.int .u8 z))) : DataW Unit) := by kernel_rfl
theorem ZQc {w : World} (h : laidMet Tryz.prog Rows.quantileTopRow.laid w) : Eng.Zej w (fun b => b < w.heap.size) 5 ZKs :=
  Eng.globOk_tab2 (t := 238) (e := 237) (f := 5) (m := 16) (c := 2) (k := .u8) (zss := ZMP) (by kernel_rfl) (by kernel_rfl) Tryz.underlying238 Tryz.underlying237 (fun j x hj => by
    match j, hj with
    | 0, hj => simp at hj; subst hj; exact ⟨Tryz.underlying5, rfl, by kernel_rfl⟩
    | 1, hj => simp at hj; subst hj; exact ⟨Tryz.underlying5, rfl, by kernel_rfl⟩
    | j + 2, hj => simp at hj) (by kernel_rfl) rfl (by kernel_rfl) (by decide) rfl (by kernel_rfl) (by kernel_rfl) rfl
    (ZVL ▸ Lib.laidMet.reads (n := "unicode/utf8.acceptRanges") (d := Rows.laid_unicode_utf8_acceptRanges) h (List.mem_iff_getElem?.2 ⟨3, by kernel_rfl⟩))

set_option maxRecDepth 100000 in
theorem walk (y0 : (List Int)) (y1 : Int) (y2 : (List  Go.Proofs.G_api_Table)) (v0 v1 v2 : Value) (w : World)
    (e0 : Eng.RelP w (fun b => b < w.heap.size) v0 (U.encE (.sl (.int .i64)) y0)) (e1 : Eng.RelP w (fun b => b < w.heap.size) v1 (U.encE (.int .i64) y1)) (e2 : Eng.RelP w (fun b => b < w.heap.size) v2 (U.encE (.sl (.st 2)) y2)) (hL : laidMet Tryz.prog Rows.quantileTopRow.laid w) :
    Calls Tryz.prog 3 #[v0, v1, v2] w fun e w' => e = .returned (.bool true) ∧ Eng.Zi2 w w' := by
  have hF : Eng.Fun X0.E 3 (([U.encE (.sl (.int .i64)) y0, U.encE (.int .i64) y1, U.encE (.sl (.st 2)) y2] : List Eng.P).map Eng.Arg.p) ⟨[.p (.bool true)], []⟩ :=
    (Go.Proofs.D197_ok [.p (.l ⟨(.sl (.int .i64)), y0⟩), .p (.l ⟨(.int .i64), y1⟩), .p (.l ⟨(.sl (.st 2)), y2⟩)] _ rfl true (Go.Proofs.quantileTop_law y0 y1 y2 (ZPI e2))).1
  refine Eng.Zkc (E := X0.E) hF (by kernel_rfl) rfl (fun k v x hv hx => ?_) (fun g cs hm => ?_)
  · match k, hv, hx with
    | 0, hv, hx => simp at hv hx; subst hv hx; exact e0
    | 1, hv, hx => simp at hv hx; subst hv hx; exact e1
    | 2, hv, hx => simp at hv hx; subst hv hx; exact e2
    | k + 3, hv, hx => simp at hv
  · have hm' : (g, cs) ∈ [(2, [Eng.P.sl 1 [.int .u32 1]]), (3, Lib.pow10Tab.map fun z => Eng.P.int .u64 z), (4, Lib.firstTab.map fun z => Eng.P.int .u8 z), (5, ZKs)] := (show X0.E.globs = [(2, [Eng.P.sl 1 [.int .u32 1]]), (3, Lib.pow10Tab.map fun z => Eng.P.int .u64 z), (4, Lib.firstTab.map fun z => Eng.P.int .u8 z), (5, ZKs)] by kernel_rfl) ▸ hm
    simp only [List.mem_cons, List.not_mem_nil, or_false, Prod.mk.injEq] at hm'
    rcases hm' with ⟨rfl, rfl⟩ | ⟨rfl, rfl⟩ | ⟨rfl, rfl⟩ | ⟨rfl, rfl⟩
    · exact ZQf hL
    · exact ZQe hL
    · exact ZQd hL
    · exact ZQc hL

set_option maxRecDepth 100000 in
theorem lifted (os : Os) (started : os.Started) (H : Type) (enc : TypeId × Value → H) :
    ReturnsInHanded {} Tryz.checked os 3 .any (fun w args => (Rows.quantileTopSpec.pre enc Tryz.prog Tryz.f3 [] false w args ∧ laidMetH Tryz.prog Rows.quantileTopRow.laid w) ∧ sizedMet enc Tryz.prog Tryz.f3 (OpenSpec.ofChange Rows.quantileTopSpec) false w args) (Rows.quantileTopSpec.post enc Tryz.prog Tryz.f3 false true false false) := by
  refine returnsInHanded_of_change_and (C := Tryz.checked) (X := fun w _ => laidMetH Tryz.prog Rows.quantileTopRow.laid w) (fun _ _ _ hh h => h.of_heap hh) own started (by kernel_rfl) Tryz.func3
    (ChangeSpec.witness_shaped (enc := enc) (C := Tryz.checked) (os := os) (X := fun w _ => laidMetH Tryz.prog Rows.quantileTopRow.laid w) false (World.laidAll Tryz.prog os Rows.quantileTopRow.laid) #[.slice none 0 0, .int .i64 0, .slice none 0 0] 8 (World.laidAll_os _ _ _)
      (World.shaped_of_ZipB (by kernel_rfl) (by kernel_rfl)) (by kernel_rfl) (by kernel_rfl) (by kernel_rfl)
      (by rw [MakeChecks.laidMetH_plain _ _ _ (by kernel_rfl)]; exact laidMet_laidAll _ (by kernel_rfl) (by kernel_rfl))) ?_
  intro W base args ds gs before hval0 hW hcnd hsz hL _
  have hval : ∀ (j : Nat) t v, Tryz.f3.params[j]? = some t → args[j]? = some v → Value.okWide Tryz.prog W .any base t v := hval0
  rw [MakeChecks.laidMetH_plain _ _ _ (by kernel_rfl)] at hL
  have hW' := hW
  have hlt := hW.lt
  obtain ⟨p, q, hA0, hV, rfl, hfz, hnd⟩ := hW
  have hA : DataW.TrodAll enc Tryz.prog W 0 (fun _ => true) true Tryz.f3.params.toList args.toList ds p := hA0
  rw [Tryz.params3] at hA hval
  obtain ⟨v0, vs0, d0, ds0, p0, q0, hargs, rfl, rfl, h0, r0⟩ := trodAll_cons hA
  obtain ⟨v1, vs1, d1, ds1, p1, q1, rfl, rfl, rfl, h1, r1⟩ := trodAll_cons r0
  obtain ⟨v2, vs2, d2, ds2, p2, q2, rfl, rfl, rfl, h2, r2⟩ := trodAll_cons r1
  obtain ⟨rfl, rfl, rfl⟩ := trodAll_nil r2
  obtain rfl : args = #[v0, v1, v2] := by cases args; simp_all
  obtain ⟨rfl, rfl⟩ := trodVars_none hV
  rw [List.all_eq_true] at hsz
  have hw : ∀ (j : Nat) t d, ([22, 3, 23] : List TypeId)[j]? = some t → [d0, d1, d2][j]? = some d → ∀ n ∈ d.weights Tryz.prog t, n ≤ reachBytes := fun j t d ht hd n hn =>
    by simpa using hsz n (DataW.weights_mem_each (ts := Tryz.f3.params.toList ++ Rows.quantileTopSpec.plain.varTypes Tryz.prog) (by rw [Tryz.params3]; exact ZMA ht) (by exact ZMA hd) n hn)
  obtain ⟨y0, e0⟩ := Eng.open_arg uok ZJ7 ZPW h0 (hw 0 _ _ rfl rfl) (Eng.okv_plain rfl ⟨_, Tryz.underlying22, trivial⟩ (hval 0 22 v0 rfl rfl))
  obtain ⟨y1, e1⟩ := Eng.open_arg uok ZJ7 ZMi h1 (hw 1 _ _ rfl rfl) (Eng.okv_plain rfl ⟨_, Tryz.underlying3, trivial⟩ (hval 1 3 v1 rfl rfl))
  obtain ⟨y2, e2⟩ := Eng.open_arg uok ZJ7 ZPV h2 (hw 2 _ _ rfl rfl) (Eng.okv_plain rfl ⟨_, Tryz.underlying23, trivial⟩ (hval 2 23 v2 rfl rfl))
  clear hA0 hval0
  refine (walk y0 y1 y2 v0 v1 v2 W e0 e1 e2 hL).mono fun e W' ⟨he, hg⟩ => ?_
  subst he
  have lt0 : ∀ x ∈ p0, x.block < W.heap.size := fun x hx => hlt x (by simp [hx])
  have lt1 : ∀ x ∈ p1, x.block < W.heap.size := fun x hx => hlt x (by simp [hx])
  have lt2 : ∀ x ∈ p2, x.block < W.heap.size := fun x hx => hlt x (by simp [hx])
  exact ⟨_, rfl, Eng.Zk2 (pa := (p0 ++ (p1 ++ (p2 ++ [])))) (pv := []) hW' (fun _ _ _ => (trodAll_cons_mk (shut_bool Tryz.underlying4 _) trodAll_mk0))
    (fun sp hs => (trodAll_cons_mk (Eng.Zi2.trod ZKl (by kernel_rfl) (of_decide_eq_true (by kernel_rfl)) h0 hg lt0 fun x hx => hs x (by simp [hx])) (trodAll_cons_mk (Eng.Zi2.trod ZKl (by kernel_rfl) (of_decide_eq_true (by kernel_rfl)) h1 hg lt1 fun x hx => hs x (by simp [hx])) (trodAll_cons_mk (Eng.Zi2.trod ZKl (by kernel_rfl) (of_decide_eq_true (by kernel_rfl)) h2 hg lt2 fun x hx => hs x (by simp [hx])) trodAll_mk0)))) (fun _ _ => rfl) rfl
    hg (ok_one (by kernel_rfl) rfl (okWide_bool_mk Tryz.underlying4 _))⟩

theorem over : Rows.quantileTopRow.holds Tryz.pinned (OpenSpec.ofChange Rows.quantileTopSpec) :=
  OpenClaim.holds_of_wide 3 Tryz.f3 rfl rfl rfl rfl rfl rfl rfl ⟨rfl, rfl, rfl, rfl, rfl⟩ rfl rfl rfl rfl rfl ZOL Tryz.func3 ZTq ZVR ZVq
    (fun os started H enc _ => lifted os started H enc)

theorem proved : Rows.QuantileTopCardSaid :=
  Claim7.holds_tied_plain_at .later [] [.data, .data, .data, .data, .sentinel, .sentinel, .widerDeep, .pinned] true (true, "5f751942a05f26414b623520b692795d4638819d8df465413c47bbd0d9e74ae1") true
    over (fun _ h => by cases h) ZSn (fun _ h => by cases h) quantileTop_row_tie rfl ⟨rfl, rfl⟩ mainIs_ rfl
    (fun f fn hf hfn => by
      obtain rfl : f = 3 := (Option.some.inj (ZOL.symm.trans hf)).symm
      obtain rfl : fn = Tryz.f3 := (Option.some.inj (Tryz.func3.symm.trans hfn)).symm
      exact ⟨looks_, fun j t ht => by
        rw [Tryz.params3] at ht
        have hm : t ∈ [22, 3, 23] := by simpa using Array.mem_of_getElem? ht
        exact (show Tryz.prog.wantsStandIn t = false by simpa using List.all_eq_true.1 ZSB t hm)⟩)
    ZVS
#print axioms proved
end Go.Proofs.YtpddhnpfnefdeaaGreatDoor.quantileTop
