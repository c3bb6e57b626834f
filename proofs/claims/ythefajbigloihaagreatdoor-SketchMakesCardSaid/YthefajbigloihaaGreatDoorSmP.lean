/- Proved: for every input the law SketchMakes returns true, and its arguments read as before. The listed package variables read as the program's text lays them: the card ties them. No other condition. -/
import Derived.Test.YthefajbigloihaaGreatDoorRows
import Derived.Test.YthefajbigloihaaGreatDoorCards
import Derived.Test.YthefajbigloihaaGreatDoorTie
import Derived.Test.YthefajbigloihaaGreatDoorQ
import Derived.Test.YthefajbigloihaaGreatDoorSmW
import Derived.Test.YthefajbigloihaaGreatDoorSmF
import Derived.Test.YthefajbigloihaaGreatDoorSmM3
import Derived.WalkKit
import Derived.ProofKit
import Derived.OpenShut
import Derived.Lay
import Derived.SevenTiedAt
set_option linter.unusedVariables false
set_option linter.unusedSimpArgs false
set_option linter.unusedSectionVars false
namespace Go.Proofs.YthefajbigloihaaGreatDoor.sketchMakes
open Go.ChangeShapes Go.WideShapes Go.ChangeAt Go.RowKit
open Go.Proofs (U X0 uok ZyW)

theorem own : ownKnob Tryz.prog.godebug = none := by kernel_rfl
theorem ZCe : laidOutB Tryz.prog = true := by kernel_rfl

theorem ZDC : Eng.Zmb U := fun n x => match n, x with
  | 0, _ => rfl
  | 1, _ => rfl
  | 2, _ => rfl
  | 3, _ => rfl
  | 4, _ => rfl
  | 5, _ => rfl
  | 6, _ => rfl
  | 7, _ => rfl
  | 8, _ => rfl
  | _ + 9, _ => rfl

theorem ZFd {α : Type} {l r : List α} {j : Nat} {x : α} (h : l[j]? = some x) : (l ++ r)[j]? = some x := by
  rw [List.getElem?_append_left (List.getElem?_eq_some_iff.1 h).1]; exact h

theorem ZEU : Eng.Zei Tryz.prog U 9 .str := Eng.opens_str Tryz.underlying9
theorem ZIT : Eng.Zei Tryz.prog U 4 .bool := Eng.Zmh Tryz.underlying4
theorem ZHn : Eng.Zei Tryz.prog U 72 (.st 0) := Eng.Zk4 uok (k := 0) (Ts := [.bool, .str]) Tryz.underlying72 (by kernel_rfl) ⟨rfl, by kernel_rfl, ZIT, rfl, by kernel_rfl, ZEU, trivial⟩ fun ys => ⟨(⟨ys.1, ys.2.1⟩ : Go.Proofs.G_api_Cell), rfl⟩
theorem ZHp : Eng.Zei Tryz.prog U 22 (.sl (.st 0)) := Eng.Zly uok ZDC Tryz.underlying22 (by kernel_rfl) (by decide) (Nat.le_of_ble_eq_true (by kernel_rfl)) ZHn
theorem ZEV : Eng.Zei Tryz.prog U 24 (.st 1) := Eng.Zk4 uok (k := 1) (Ts := [.str, (.sl (.st 0))]) Tryz.underlying24 (by kernel_rfl) ⟨rfl, by kernel_rfl, ZEU, rfl, by kernel_rfl, ZHp, trivial⟩ fun ys => ⟨(⟨ys.1, ys.2.1⟩ : Go.Proofs.G_api_Column), rfl⟩
theorem ZGA : Eng.Zei Tryz.prog U 3 (.int .i64) := Eng.opens_int Tryz.underlying3
theorem ZHo : Eng.Zei Tryz.prog U 25 (.sl (.int .i64)) := Eng.Zly uok ZDC Tryz.underlying25 (by kernel_rfl) (by decide) (Nat.le_of_ble_eq_true (by kernel_rfl)) ZGA

theorem ZKY : Rows.laid_tablefinder_fraction_one = (DataW.slice [.lit (.int .u32 1)] [] : DataW Unit) := by kernel_rfl
theorem ZHH {w : World} (h : laidMet Tryz.prog Rows.sketchMakesRow.laid w) : Eng.Zej w (fun b => b < w.heap.size) 0 [Eng.P.sl 1 [.int .u32 1]] :=
  Eng.globOk_one (t := 179) (e := 144) (by kernel_rfl) (by kernel_rfl) Tryz.underlying179 Tryz.underlying144 (by kernel_rfl) (by decide) (ZKY ▸ Lib.laidMet.reads (n := "tablefinder/fraction.one") (d := Rows.laid_tablefinder_fraction_one) h (List.mem_iff_getElem?.2 ⟨6, by kernel_rfl⟩))
theorem ZKX : Rows.laid_internal_strconv_uint64pow10 = (Lib.tabData .u64 Lib.pow10Tab : DataW Unit) := by kernel_rfl
theorem ZHG {w : World} (h : laidMet Tryz.prog Rows.sketchMakesRow.laid w) : Eng.Zej w (fun b => b < w.heap.size) 4 (Lib.pow10Tab.map fun z => Eng.P.int .u64 z) :=
  Eng.globOk_tab (t := 279) (e := 42) (m := 20) (by kernel_rfl) (by kernel_rfl) Tryz.underlying279 Tryz.underlying42 (by kernel_rfl) (by kernel_rfl) (by kernel_rfl) (ZKX ▸ Lib.laidMet.reads (n := "internal/strconv.uint64pow10") (d := Rows.laid_internal_strconv_uint64pow10) h (List.mem_iff_getElem?.2 ⟨2, by kernel_rfl⟩))

set_option maxRecDepth 100000 in
theorem walk (y0 :  Go.Proofs.G_api_Column) (y1 :  Go.Proofs.G_api_Column) (y2 : (List Int)) (y3 : Int) (y4 : (List UInt8)) (v0 v1 v2 v3 v4 : Value) (w : World)
    (e0 : Eng.RelP w (fun b => b < w.heap.size) v0 (U.encE (.st 1) y0)) (e1 : Eng.RelP w (fun b => b < w.heap.size) v1 (U.encE (.st 1) y1)) (e2 : Eng.RelP w (fun b => b < w.heap.size) v2 (U.encE (.sl (.int .i64)) y2)) (e3 : Eng.RelP w (fun b => b < w.heap.size) v3 (U.encE (.int .i64) y3)) (e4 : Eng.RelP w (fun b => b < w.heap.size) v4 (U.encE .str y4)) (hL : laidMet Tryz.prog Rows.sketchMakesRow.laid w) :
    Calls Tryz.prog 3 #[v0, v1, v2, v3, v4] w fun e w' => e = .returned (.bool true) ∧ Eng.Zi2 w w' := by
  have hF : Eng.Fun X0.E 3 (([U.encE (.st 1) y0, U.encE (.st 1) y1, U.encE (.sl (.int .i64)) y2, U.encE (.int .i64) y3, U.encE .str y4] : List Eng.P).map Eng.Arg.p) ⟨[.p (.bool true)], []⟩ :=
    (Go.Proofs.D146_ok [.p (.l ⟨(.st 1), y0⟩), .p (.l ⟨(.st 1), y1⟩), .p (.l ⟨(.sl (.int .i64)), y2⟩), .p (.l ⟨(.int .i64), y3⟩), .p (.l ⟨.str, y4⟩)] _ rfl true (Go.Proofs.sketchMakes_law y0 y1 y2 y3 y4 (ZGH e0) (ZGH e1))).1
  refine Eng.Zkc (E := X0.E) hF (by kernel_rfl) rfl (fun k v x hv hx => ?_) (fun g cs hm => ?_)
  · match k, hv, hx with
    | 0, hv, hx => simp at hv hx; subst hv hx; exact e0
    | 1, hv, hx => simp at hv hx; subst hv hx; exact e1
    | 2, hv, hx => simp at hv hx; subst hv hx; exact e2
    | 3, hv, hx => simp at hv hx; subst hv hx; exact e3
    | 4, hv, hx => simp at hv hx; subst hv hx; exact e4
    | k + 5, hv, hx => simp at hv
  · have hm' : (g, cs) ∈ [(0, [Eng.P.sl 1 [.int .u32 1]]), (4, Lib.pow10Tab.map fun z => Eng.P.int .u64 z)] := (show X0.E.globs = [(0, [Eng.P.sl 1 [.int .u32 1]]), (4, Lib.pow10Tab.map fun z => Eng.P.int .u64 z)] by kernel_rfl) ▸ hm
    simp only [List.mem_cons, List.not_mem_nil, or_false, Prod.mk.injEq] at hm'
    rcases hm' with ⟨rfl, rfl⟩ | ⟨rfl, rfl⟩
    · exact ZHH hL
    · exact ZHG hL

set_option maxRecDepth 100000 in
theorem lifted (os : Os) (started : os.Started) (H : Type) (enc : TypeId × Value → H) :
    ReturnsInHanded {} Tryz.checked os 3 .any (fun w args => (Rows.sketchMakesSpec.pre enc Tryz.prog Tryz.f3 [] false w args ∧ laidMetH Tryz.prog Rows.sketchMakesRow.laid w) ∧ sizedMet enc Tryz.prog Tryz.f3 (OpenSpec.ofChange Rows.sketchMakesSpec) false w args) (Rows.sketchMakesSpec.post enc Tryz.prog Tryz.f3 false true false false) := by
  refine returnsInHanded_of_change_and (C := Tryz.checked) (X := fun w _ => laidMetH Tryz.prog Rows.sketchMakesRow.laid w) (fun _ _ _ hh h => h.of_heap hh) own started (by kernel_rfl) Tryz.func3
    (ChangeSpec.witness_shaped (enc := enc) (C := Tryz.checked) (os := os) (X := fun w _ => laidMetH Tryz.prog Rows.sketchMakesRow.laid w) false (World.laidAll Tryz.prog os Rows.sketchMakesRow.laid) #[.agg #[.string ⟨#[]⟩, .slice none 0 0], .agg #[.string ⟨#[]⟩, .slice none 0 0], .slice none 0 0, .int .i64 0, .string ⟨#[]⟩] 8 (World.laidAll_os _ _ _)
      (World.shaped_of_ZipB (by kernel_rfl) (by kernel_rfl)) (by kernel_rfl) (by kernel_rfl) (by kernel_rfl)
      (by rw [MakeChecks.laidMetH_plain _ _ _ (by kernel_rfl)]; exact laidMet_laidAll _ (by kernel_rfl) (by kernel_rfl))) ?_
  intro W base args ds gs before hval0 hW hcnd hsz hL _
  have hval : ∀ (j : Nat) t v, Tryz.f3.params[j]? = some t → args[j]? = some v → Value.okWide Tryz.prog W .any base t v := hval0
  rw [MakeChecks.laidMetH_plain _ _ _ (by kernel_rfl)] at hL
  have hW' := hW
  have hlt := hW.lt
  obtain ⟨p, q, hA0, hV, rfl, hfz, hnd⟩ := hW
  have hA : DataW.TrodAll enc Tryz.prog W 0 (fun _ => true) true Tryz.f3.params.toList args.toList ds p := hA0
  rw [Tryz.params3] at hA hval
  obtain ⟨v0, vs0, d0, ds0, p0, q0, hargs, rfl, rfl, h0, r0⟩ := trodAll_cons hA
  obtain ⟨v1, vs1, d1, ds1, p1, q1, rfl, rfl, rfl, h1, r1⟩ := trodAll_cons r0
  obtain ⟨v2, vs2, d2, ds2, p2, q2, rfl, rfl, rfl, h2, r2⟩ := trodAll_cons r1
  obtain ⟨v3, vs3, d3, ds3, p3, q3, rfl, rfl, rfl, h3, r3⟩ := trodAll_cons r2
  obtain ⟨v4, vs4, d4, ds4, p4, q4, rfl, rfl, rfl, h4, r4⟩ := trodAll_cons r3
  obtain ⟨rfl, rfl, rfl⟩ := trodAll_nil r4
  obtain rfl : args = #[v0, v1, v2, v3, v4] := by cases args; simp_all
  obtain ⟨rfl, rfl⟩ := trodVars_none hV
  rw [List.all_eq_true] at hsz
  have hw : ∀ (j : Nat) t d, ([24, 24, 25, 3, 9] : List TypeId)[j]? = some t → [d0, d1, d2, d3, d4][j]? = some d → ∀ n ∈ d.weights Tryz.prog t, n ≤ reachBytes := fun j t d ht hd n hn =>
    by simpa using hsz n (DataW.weights_mem_each (ts := Tryz.f3.params.toList ++ Rows.sketchMakesSpec.plain.varTypes Tryz.prog) (by rw [Tryz.params3]; exact ZFd ht) (by exact ZFd hd) n hn)
  obtain ⟨y0, e0⟩ := Eng.open_arg uok ZDC ZEV h0 (hw 0 _ _ rfl rfl) (Eng.okv_st ⟨_, Tryz.underlying24, trivial⟩ (hval 0 24 v0 rfl rfl))
  obtain ⟨y1, e1⟩ := Eng.open_arg uok ZDC ZEV h1 (hw 1 _ _ rfl rfl) (Eng.okv_st ⟨_, Tryz.underlying24, trivial⟩ (hval 1 24 v1 rfl rfl))
  obtain ⟨y2, e2⟩ := Eng.open_arg uok ZDC ZHo h2 (hw 2 _ _ rfl rfl) (Eng.okv_plain rfl ⟨_, Tryz.underlying25, trivial⟩ (hval 2 25 v2 rfl rfl))
  obtain ⟨y3, e3⟩ := Eng.open_arg uok ZDC ZGA h3 (hw 3 _ _ rfl rfl) (Eng.okv_plain rfl ⟨_, Tryz.underlying3, trivial⟩ (hval 3 3 v3 rfl rfl))
  obtain ⟨y4, e4⟩ := Eng.open_arg uok ZDC ZEU h4 (hw 4 _ _ rfl rfl) (Eng.okv_plain rfl ⟨_, Tryz.underlying9, trivial⟩ (hval 4 9 v4 rfl rfl))
  clear hA0 hval0
  refine (walk y0 y1 y2 y3 y4 v0 v1 v2 v3 v4 W e0 e1 e2 e3 e4 hL).mono fun e W' ⟨he, hg⟩ => ?_
  subst he
  have lt0 : ∀ x ∈ p0, x.block < W.heap.size := fun x hx => hlt x (by simp [hx])
  have lt1 : ∀ x ∈ p1, x.block < W.heap.size := fun x hx => hlt x (by simp [hx])
  have lt2 : ∀ x ∈ p2, x.block < W.heap.size := fun x hx => hlt x (by simp [hx])
  have lt3 : ∀ x ∈ p3, x.block < W.heap.size := fun x hx => hlt x (by simp [hx])
  have lt4 : ∀ x ∈ p4, x.block < W.heap.size := fun x hx => hlt x (by simp [hx])
  exact ⟨_, rfl, Eng.Zk2 (pa := (p0 ++ (p1 ++ (p2 ++ (p3 ++ (p4 ++ [])))))) (pv := []) hW' (fun _ _ _ => (trodAll_cons_mk (shut_bool Tryz.underlying4 _) trodAll_mk0))
    (fun sp hs => (trodAll_cons_mk (Eng.Zi2.trod ZCe (by kernel_rfl) (of_decide_eq_true (by kernel_rfl)) h0 hg lt0 fun x hx => hs x (by simp [hx])) (trodAll_cons_mk (Eng.Zi2.trod ZCe (by kernel_rfl) (of_decide_eq_true (by kernel_rfl)) h1 hg lt1 fun x hx => hs x (by simp [hx])) (trodAll_cons_mk (Eng.Zi2.trod ZCe (by kernel_rfl) (of_decide_eq_true (by kernel_rfl)) h2 hg lt2 fun x hx => hs x (by simp [hx])) (trodAll_cons_mk (Eng.Zi2.trod ZCe (by kernel_rfl) (of_decide_eq_true (by kernel_rfl)) h3 hg lt3 fun x hx => hs x (by simp [hx])) (trodAll_cons_mk (Eng.Zi2.trod ZCe (by kernel_rfl) (of_decide_eq_true (by kernel_rfl)) h4 hg lt4 fun x hx => hs x (by simp [hx])) trodAll_mk0)))))) (fun _ _ => rfl) rfl
    hg (ok_one (by kernel_rfl) rfl (okWide_bool_mk Tryz.underlying4 _))⟩

theorem over : Rows.sketchMakesRow.holds Tryz.pinned (OpenSpec.ofChange Rows.sketchMakesSpec) :=
  OpenClaim.holds_of_wide 3 Tryz.f3 rfl rfl rfl rfl rfl rfl rfl ⟨rfl, rfl, rfl, rfl, rfl⟩ rfl rfl rfl rfl rfl ZGB Tryz.func3 ZJn ZK1 ZKJ
    (fun os started H enc _ => lifted os started H enc)

theorem proved : Rows.SketchMakesCardSaid :=
  Claim7.holds_tied_plain_at .later [] [.data, .data, .data, .data, .sentinel, .sentinel, .widerDeep, .pinned] true (true, "cbb9050748a371b4c6446a223b38c2a958a8cc32d44cb5e0acb64c81ff403e1f") true
    over (fun _ h => by cases h) ZIy (fun _ h => by cases h) sketchMakes_row_tie rfl ⟨rfl, rfl⟩ mainIs_ rfl
    (fun f fn hf hfn => by
      obtain rfl : f = 3 := (Option.some.inj (ZGB.symm.trans hf)).symm
      obtain rfl : fn = Tryz.f3 := (Option.some.inj (Tryz.func3.symm.trans hfn)).symm
      exact ⟨looks_, fun j t ht => by
        rw [Tryz.params3] at ht
        have hm : t ∈ [24, 24, 25, 3, 9] := by simpa using Array.mem_of_getElem? ht
        exact (show Tryz.prog.wantsStandIn t = false by simpa using List.all_eq_true.1 ZIH t hm)⟩)
    ZK3
#print axioms proved
end Go.Proofs.YthefajbigloihaaGreatDoor.sketchMakes
