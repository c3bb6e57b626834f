/- Proved: for every input the law UnionsearchRanks returns true, and its arguments read as before. The listed package variables read as the program's text lays them: the card ties them. No other condition. -/
import Derived.Test.YtdmabekeafhflaaGreatDoorRows
import Derived.Test.YtdmabekeafhflaaGreatDoorCards
import Derived.Test.YtdmabekeafhflaaGreatDoorTie
import Derived.Test.YtdmabekeafhflaaGreatDoorQ
import Derived.Test.YtdmabekeafhflaaGreatDoorUrW
import Derived.Test.YtdmabekeafhflaaGreatDoorUrF
import Derived.Test.YtdmabekeafhflaaGreatDoorUrM3
import Derived.WalkKit
import Derived.ProofKit
import Derived.OpenShut
import Derived.Lay
import Derived.SevenTiedAt
set_option linter.unusedVariables false
set_option linter.unusedSimpArgs false
set_option linter.unusedSectionVars false
namespace Go.Proofs.YtdmabekeafhflaaGreatDoor.unionsearchRanks
open Go.ChangeShapes Go.WideShapes Go.ChangeAt Go.RowKit
open Go.Proofs (U X0 uok Zxw)

theorem own : ownKnob Tryz.prog.godebug = none := by kernel_rfl
theorem ZKc : laidOutB Tryz.prog = true := by kernel_rfl

theorem ZMV : Eng.Zm8 U := fun n x => match n, x with
  | 0, _ => rfl
  | 1, _ => rfl
  | 2, _ => rfl
  | 3, _ => rfl
  | 4, _ => rfl
  | 5, _ => rfl
  | 6, _ => rfl
  | 7, _ => rfl
  | 8, _ => rfl
  | 9, _ => rfl
  | 10, _ => rfl
  | 11, _ => rfl
  | 12, _ => List.all_eq_true.2 fun l hl => by obtain ⟨y, _, rfl⟩ := List.mem_map.1 hl; rfl
  | 13, _ => rfl
  | _ + 14, _ => rfl

theorem ZKk {α : Type} {l r : List α} {j : Nat} {x : α} (h : l[j]? = some x) : (l ++ r)[j]? = some x := by
  rw [List.getElem?_append_left (List.getElem?_eq_some_iff.1 h).1]; exact h

theorem ZL7 : Eng.ZeB Tryz.prog U 3 (.int .i64) := Eng.opens_int Tryz.underlying3
theorem ZNg : Eng.ZeB Tryz.prog U 22 (.sl (.int .i64)) := Eng.Zmv uok ZMV Tryz.underlying22 (by kernel_rfl) (by decide) (Nat.le_of_ble_eq_true (by kernel_rfl)) ZL7

theorem ZSy : Rows.laid_tablefinder_fraction_one = (DataW.slice [.lit (.int .u32 1)] [] : DataW Unit) := by kernel_rfl
theorem ZNE {w : World} (h : laidMet Tryz.prog Rows.unionsearchRanksRow.laid w) : Eng.ZeC w (fun b => b < w.heap.size) 0 [Eng.P.sl 1 [.int .u32 1]] :=
  Eng.globOk_one (t := 175) (e := 117) (by kernel_rfl) (by kernel_rfl) Tryz.underlying175 Tryz.underlying117 (by kernel_rfl) (by decide) (ZSy ▸ Lib.laidMet.reads (n := "tablefinder/fraction.one") (d := Rows.laid_tablefinder_fraction_one) h (List.mem_iff_getElem?.2 ⟨6, by kernel_rfl⟩))
theorem ZSx : Rows.laid_unicode_utf8_first = (Lib.tabData .u8 Lib.firstTab : DataW Unit) := by kernel_rfl
theorem ZND {w : World} (h : laidMet Tryz.prog Rows.unionsearchRanksRow.laid w) : Eng.ZeC w (fun b => b < w.heap.size) 1 (Lib.firstTab.map fun z => Eng.P.int .u8 z) :=
  Eng.globOk_tab (t := 199) (e := 5) (m := 256) (by kernel_rfl) (by kernel_rfl) Tryz.underlying199 Tryz.underlying5 (by kernel_rfl) (by kernel_rfl) (by kernel_rfl) (ZSx ▸ Lib.laidMet.reads (n := "unicode/utf8.first") (d := Rows.laid_unicode_utf8_first) h (List.mem_iff_getElem?.2 ⟨7, by kernel_rfl⟩))
def ZKH : List (List Int) := [[128, 191], [160, 191], [128, 159], [144, 191], [128, 143], [0, 0], [0, 0], [0, 0], [0, 0], [0, 0], [0, 0], [0, 0], [0, 0], [0, 0], [0, 0], [0, 0]]
def ZHI : List Eng.P := [.int .u8 128, .int .u8 191, .int .u8 160, .int .u8 191, .int .u8 128, .int .u8 159, .int .u8 144, .int .u8 191, .int .u8 128, .int .u8 143, .int .u8 0, .int .u8 0, .int .u8 0, .int .u8 0, .int .u8 0, .int .u8 0, .int .u8 0, .int .u8 0, .int .u8 0, .int .u8 0, .int .u8 0, .int .u8 0, .int .u8 0, .int .u8 0, .int .u8 0, .int .u8 0, .int .u8 0, .int .u8 0, .int .u8 0, .int .u8 0, .int .u8 0, .int .u8 0]
theorem ZSw : Rows.laid_unicode_utf8_acceptRanges = (DataW.agg (ZKH.map fun zs => .agg (zs.map fun z => .lit (.int .u8 z))) : DataW Unit) := by kernel_rfl
theorem ZNC {w : World} (h : laidMet Tryz.prog Rows.unionsearchRanksRow.laid w) : Eng.ZeC w (fun b => b < w.heap.size) 2 ZHI :=
  Eng.globOk_tab2 (t := 202) (e := 201) (f := 5) (m := 16) (c := 2) (k := .u8) (zss := ZKH) (by kernel_rfl) (by kernel_rfl) Tryz.underlying202 Tryz.underlying201 (fun j x hj => by
    match j, hj with
    | 0, hj => simp at hj; subst hj; exact ⟨Tryz.underlying5, rfl, by kernel_rfl⟩
    | 1, hj => simp at hj; subst hj; exact ⟨Tryz.underlying5, rfl, by kernel_rfl⟩
    | j + 2, hj => simp at hj) (by kernel_rfl) rfl (by kernel_rfl) (by decide) rfl (by kernel_rfl) (by kernel_rfl) rfl
    (ZSw ▸ Lib.laidMet.reads (n := "unicode/utf8.acceptRanges") (d := Rows.laid_unicode_utf8_acceptRanges) h (List.mem_iff_getElem?.2 ⟨3, by kernel_rfl⟩))
theorem ZSv : Rows.laid_internal_strconv_uint64pow10 = (Lib.tabData .u64 Lib.pow10Tab : DataW Unit) := by kernel_rfl
theorem ZNB {w : World} (h : laidMet Tryz.prog Rows.unionsearchRanksRow.laid w) : Eng.ZeC w (fun b => b < w.heap.size) 3 (Lib.pow10Tab.map fun z => Eng.P.int .u64 z) :=
  Eng.globOk_tab (t := 232) (e := 139) (m := 20) (by kernel_rfl) (by kernel_rfl) Tryz.underlying232 Tryz.underlying139 (by kernel_rfl) (by kernel_rfl) (by kernel_rfl) (ZSv ▸ Lib.laidMet.reads (n := "internal/strconv.uint64pow10") (d := Rows.laid_internal_strconv_uint64pow10) h (List.mem_iff_getElem?.2 ⟨2, by kernel_rfl⟩))

set_option maxRecDepth 100000 in
theorem ZSi (y0 : (List Int)) (y1 : Int) (v0 v1 : Value) (w : World)
    (e0 : Eng.RelP w (fun b => b < w.heap.size) v0 (U.encE (.sl (.int .i64)) y0)) (e1 : Eng.RelP w (fun b => b < w.heap.size) v1 (U.encE (.int .i64) y1)) (hL : laidMet Tryz.prog Rows.unionsearchRanksRow.laid w) :
    Calls Tryz.prog 5 #[v0, v1] w fun e w' => e = .returned (.bool true) ∧ Eng.ZjF w w' := by
  have hF : Eng.Fun X0.E 5 (([U.encE (.sl (.int .i64)) y0, U.encE (.int .i64) y1] : List Eng.P).map Eng.Arg.p) ⟨[.p (.bool true)], []⟩ :=
    (Go.Proofs.D180_ok [.p (.l ⟨(.sl (.int .i64)), y0⟩), .p (.l ⟨(.int .i64), y1⟩)] _ rfl true (Go.Proofs.unionsearchRanks_law y0 y1)).1
  refine Eng.ZkX (E := X0.E) hF (by kernel_rfl) rfl (fun k v x hv hx => ?_) (fun g cs hm => ?_)
  · match k, hv, hx with
    | 0, hv, hx => simp at hv hx; subst hv hx; exact e0
    | 1, hv, hx => simp at hv hx; subst hv hx; exact e1
    | k + 2, hv, hx => simp at hv
  · have hm' : (g, cs) ∈ [(0, [Eng.P.sl 1 [.int .u32 1]]), (1, Lib.firstTab.map fun z => Eng.P.int .u8 z), (2, ZHI), (3, Lib.pow10Tab.map fun z => Eng.P.int .u64 z)] := (show X0.E.globs = [(0, [Eng.P.sl 1 [.int .u32 1]]), (1, Lib.firstTab.map fun z => Eng.P.int .u8 z), (2, ZHI), (3, Lib.pow10Tab.map fun z => Eng.P.int .u64 z)] by kernel_rfl) ▸ hm
    simp only [List.mem_cons, List.not_mem_nil, or_false, Prod.mk.injEq] at hm'
    rcases hm' with ⟨rfl, rfl⟩ | ⟨rfl, rfl⟩ | ⟨rfl, rfl⟩ | ⟨rfl, rfl⟩
    · exact ZNE hL
    · exact ZND hL
    · exact ZNC hL
    · exact ZNB hL

set_option maxRecDepth 100000 in
theorem lifted (os : Os) (started : os.Started) (H : Type) (enc : TypeId × Value → H) :
    ReturnsInHanded {} Tryz.checked os 5 .any (fun w args => (Rows.unionsearchRanksSpec.pre enc Tryz.prog Tryz.f5 [] false w args ∧ laidMetH Tryz.prog Rows.unionsearchRanksRow.laid w) ∧ sizedMet enc Tryz.prog Tryz.f5 (OpenSpec.ofChange Rows.unionsearchRanksSpec) false w args) (Rows.unionsearchRanksSpec.post enc Tryz.prog Tryz.f5 false true false false) := by
  refine returnsInHanded_of_change_and (C := Tryz.checked) (X := fun w _ => laidMetH Tryz.prog Rows.unionsearchRanksRow.laid w) (fun _ _ _ hh h => h.of_heap hh) own started (by kernel_rfl) Tryz.func5
    (ChangeSpec.witness_shaped (enc := enc) (C := Tryz.checked) (os := os) (X := fun w _ => laidMetH Tryz.prog Rows.unionsearchRanksRow.laid w) false (World.laidAll Tryz.prog os Rows.unionsearchRanksRow.laid) #[.slice none 0 0, .int .i64 0] 8 (World.laidAll_os _ _ _)
      (World.shaped_of_ZipB (by kernel_rfl) (by kernel_rfl)) (by kernel_rfl) (by kernel_rfl) (by kernel_rfl)
      (by rw [MakeChecks.laidMetH_plain _ _ _ (by kernel_rfl)]; exact laidMet_laidAll _ (by kernel_rfl) (by kernel_rfl))) ?_
  intro W base args ds gs before hval0 hW hcnd hsz hL _
  have hval : ∀ (j : Nat) t v, Tryz.f5.params[j]? = some t → args[j]? = some v → Value.okWide Tryz.prog W .any base t v := hval0
  rw [MakeChecks.laidMetH_plain _ _ _ (by kernel_rfl)] at hL
  have hW' := hW
  have hlt := hW.lt
  obtain ⟨p, q, hA0, hV, rfl, hfz, hnd⟩ := hW
  have hA : DataW.TrodAll enc Tryz.prog W 0 (fun _ => true) true Tryz.f5.params.toList args.toList ds p := hA0
  rw [Tryz.params5] at hA hval
  obtain ⟨v0, vs0, d0, ds0, p0, q0, hargs, rfl, rfl, h0, r0⟩ := trodAll_cons hA
  obtain ⟨v1, vs1, d1, ds1, p1, q1, rfl, rfl, rfl, h1, r1⟩ := trodAll_cons r0
  obtain ⟨rfl, rfl, rfl⟩ := trodAll_nil r1
  obtain rfl : args = #[v0, v1] := by cases args; simp_all
  obtain ⟨rfl, rfl⟩ := trodVars_none hV
  rw [List.all_eq_true] at hsz
  have hw : ∀ (j : Nat) t d, ([22, 3] : List TypeId)[j]? = some t → [d0, d1][j]? = some d → ∀ n ∈ d.weights Tryz.prog t, n ≤ reachBytes := fun j t d ht hd n hn =>
    by simpa using hsz n (DataW.weights_mem_each (ts := Tryz.f5.params.toList ++ Rows.unionsearchRanksSpec.plain.varTypes Tryz.prog) (by rw [Tryz.params5]; exact ZKk ht) (by exact ZKk hd) n hn)
  obtain ⟨y0, e0⟩ := Eng.open_arg uok ZMV ZNg h0 (hw 0 _ _ rfl rfl) (Eng.okv_plain rfl ⟨_, Tryz.underlying22, trivial⟩ (hval 0 22 v0 rfl rfl))
  obtain ⟨y1, e1⟩ := Eng.open_arg uok ZMV ZL7 h1 (hw 1 _ _ rfl rfl) (Eng.okv_plain rfl ⟨_, Tryz.underlying3, trivial⟩ (hval 1 3 v1 rfl rfl))
  clear hA0 hval0
  refine (ZSi y0 y1 v0 v1 W e0 e1 hL).mono fun e W' ⟨he, hg⟩ => ?_
  subst he
  have lt0 : ∀ x ∈ p0, x.block < W.heap.size := fun x hx => hlt x (by simp [hx])
  have lt1 : ∀ x ∈ p1, x.block < W.heap.size := fun x hx => hlt x (by simp [hx])
  exact ⟨_, rfl, Eng.ZlY (pa := (p0 ++ (p1 ++ []))) (pv := []) hW' (fun _ _ _ => (trodAll_cons_mk (shut_bool Tryz.underlying4 _) trodAll_mk0))
    (fun sp hs => (trodAll_cons_mk (Eng.ZjF.trod ZKc (by kernel_rfl) (of_decide_eq_true (by kernel_rfl)) h0 hg lt0 fun x hx => hs x (by simp [hx])) (trodAll_cons_mk (Eng.ZjF.trod ZKc (by kernel_rfl) (of_decide_eq_true (by kernel_rfl)) h1 hg lt1 fun x hx => hs x (by simp [hx])) trodAll_mk0))) (fun _ _ => rfl) rfl
    hg (ok_one (by kernel_rfl) rfl (okWide_bool_mk Tryz.underlying4 _))⟩

theorem over : Rows.unionsearchRanksRow.holds Tryz.pinned (OpenSpec.ofChange Rows.unionsearchRanksSpec) :=
  OpenClaim.holds_of_wide 5 Tryz.f5 rfl rfl rfl rfl rfl rfl rfl ⟨rfl, rfl, rfl, rfl, rfl⟩ rfl rfl rfl rfl rfl ZL9 Tryz.func5 ZQp ZSB ZSh
    (fun os started H enc _ => lifted os started H enc)

theorem proved : Rows.UnionsearchRanksCardSaid :=
  Claim7.holds_tied_plain_at .later [] [.data, .data, .data, .data, .sentinel, .sentinel, .widerDeep, .pinned] true (true, "2cf6421c3486c0a42ee993ed8002b134e658a97b4d2bd861e087e29b1fc891d4") true
    over (fun _ h => by cases h) ZPo (fun _ h => by cases h) unionsearchRanks_row_tie rfl ⟨rfl, rfl⟩ mainIs_ rfl
    (fun f fn hf hfn => by
      obtain rfl : f = 5 := (Option.some.inj (ZL9.symm.trans hf)).symm
      obtain rfl : fn = Tryz.f5 := (Option.some.inj (Tryz.func5.symm.trans hfn)).symm
      exact ⟨looks_, fun j t ht => by
        rw [Tryz.params5] at ht
        have hm : t ∈ [22, 3] := by simpa using Array.mem_of_getElem? ht
        exact (show Tryz.prog.wantsStandIn t = false by simpa using List.all_eq_true.1 ZPv t hm)⟩)
    ZSC
#print axioms proved
end Go.Proofs.YtdmabekeafhflaaGreatDoor.unionsearchRanks
