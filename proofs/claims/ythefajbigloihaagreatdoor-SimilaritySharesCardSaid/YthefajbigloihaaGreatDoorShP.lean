/- Proved: for every input the law SimilarityShares returns true, and its arguments read as before. The listed package variables read as the program's text lays them: the card ties them. No other condition. -/
import Derived.Test.YthefajbigloihaaGreatDoorRows
import Derived.Test.YthefajbigloihaaGreatDoorCards
import Derived.Test.YthefajbigloihaaGreatDoorTie
import Derived.Test.YthefajbigloihaaGreatDoorQ
import Derived.Test.YthefajbigloihaaGreatDoorShW
import Derived.Test.YthefajbigloihaaGreatDoorShF
import Derived.Test.YthefajbigloihaaGreatDoorShM1
import Derived.WalkKit
import Derived.ProofKit
import Derived.OpenShut
import Derived.Lay
import Derived.SevenTiedAt
set_option linter.unusedVariables false
set_option linter.unusedSimpArgs false
set_option linter.unusedSectionVars false
namespace Go.Proofs.YthefajbigloihaaGreatDoor.similarityShares
open Go.ChangeShapes Go.WideShapes Go.ChangeAt Go.RowKit
open Go.Proofs (U X0 uok Zwu)

theorem own : ownKnob Tryz.prog.godebug = none := by kernel_rfl
theorem ZzY : laidOutB Tryz.prog = true := by kernel_rfl

theorem ZBx : Eng.Zmb U := fun n x => match n, x with
  | 0, _ => rfl
  | 1, _ => rfl
  | 2, _ => rfl
  | 3, _ => rfl
  | 4, _ => rfl
  | 5, _ => rfl
  | _ + 6, _ => rfl

theorem Zz3 {α : Type} {l r : List α} {j : Nat} {x : α} (h : l[j]? = some x) : (l ++ r)[j]? = some x := by
  rw [List.getElem?_append_left (List.getElem?_eq_some_iff.1 h).1]; exact h

theorem ZA2 : Eng.Zei Tryz.prog U 3 (.int .i64) := Eng.opens_int Tryz.underlying3
theorem ZBI : Eng.Zei Tryz.prog U 25 (.sl (.int .i64)) := Eng.Zly uok ZBx Tryz.underlying25 (by kernel_rfl) (by decide) (Nat.le_of_ble_eq_true (by kernel_rfl)) ZA2

theorem ZEx : Rows.laid_tablefinder_fraction_one = (DataW.slice [.lit (.int .u32 1)] [] : DataW Unit) := by kernel_rfl
theorem ZB0 {w : World} (h : laidMet Tryz.prog Rows.similaritySharesRow.laid w) : Eng.Zej w (fun b => b < w.heap.size) 0 [Eng.P.sl 1 [.int .u32 1]] :=
  Eng.globOk_one (t := 179) (e := 144) (by kernel_rfl) (by kernel_rfl) Tryz.underlying179 Tryz.underlying144 (by kernel_rfl) (by decide) (ZEx ▸ Lib.laidMet.reads (n := "tablefinder/fraction.one") (d := Rows.laid_tablefinder_fraction_one) h (List.mem_iff_getElem?.2 ⟨6, by kernel_rfl⟩))
theorem ZEw : Rows.laid_internal_strconv_uint64pow10 = (Lib.tabData .u64 Lib.pow10Tab : DataW Unit) := by kernel_rfl
theorem ZBZ {w : World} (h : laidMet Tryz.prog Rows.similaritySharesRow.laid w) : Eng.Zej w (fun b => b < w.heap.size) 4 (Lib.pow10Tab.map fun z => Eng.P.int .u64 z) :=
  Eng.globOk_tab (t := 279) (e := 42) (m := 20) (by kernel_rfl) (by kernel_rfl) Tryz.underlying279 Tryz.underlying42 (by kernel_rfl) (by kernel_rfl) (by kernel_rfl) (ZEw ▸ Lib.laidMet.reads (n := "internal/strconv.uint64pow10") (d := Rows.laid_internal_strconv_uint64pow10) h (List.mem_iff_getElem?.2 ⟨2, by kernel_rfl⟩))

set_option maxRecDepth 100000 in
theorem ZEq (y0 : (List Int)) (y1 : Int) (v0 v1 : Value) (w : World)
    (e0 : Eng.RelP w (fun b => b < w.heap.size) v0 (U.encE (.sl (.int .i64)) y0)) (e1 : Eng.RelP w (fun b => b < w.heap.size) v1 (U.encE (.int .i64) y1)) (hL : laidMet Tryz.prog Rows.similaritySharesRow.laid w) :
    Calls Tryz.prog 9 #[v0, v1] w fun e w' => e = .returned (.bool true) ∧ Eng.Zi2 w w' := by
  have hF : Eng.Fun X0.E 9 (([U.encE (.sl (.int .i64)) y0, U.encE (.int .i64) y1] : List Eng.P).map Eng.Arg.p) ⟨[.p (.bool true)], []⟩ :=
    (Go.Proofs.D131_ok [.p (.l ⟨(.sl (.int .i64)), y0⟩), .p (.l ⟨(.int .i64), y1⟩)] _ rfl true (Go.Proofs.similarityShares_law y0 y1)).1
  refine Eng.Zkc (E := X0.E) hF (by kernel_rfl) rfl (fun k v x hv hx => ?_) (fun g cs hm => ?_)
  · match k, hv, hx with
    | 0, hv, hx => simp at hv hx; subst hv hx; exact e0
    | 1, hv, hx => simp at hv hx; subst hv hx; exact e1
    | k + 2, hv, hx => simp at hv
  · have hm' : (g, cs) ∈ [(0, [Eng.P.sl 1 [.int .u32 1]]), (4, Lib.pow10Tab.map fun z => Eng.P.int .u64 z)] := (show X0.E.globs = [(0, [Eng.P.sl 1 [.int .u32 1]]), (4, Lib.pow10Tab.map fun z => Eng.P.int .u64 z)] by kernel_rfl) ▸ hm
    simp only [List.mem_cons, List.not_mem_nil, or_false, Prod.mk.injEq] at hm'
    rcases hm' with ⟨rfl, rfl⟩ | ⟨rfl, rfl⟩
    · exact ZB0 hL
    · exact ZBZ hL

set_option maxRecDepth 100000 in
theorem lifted (os : Os) (started : os.Started) (H : Type) (enc : TypeId × Value → H) :
    ReturnsInHanded {} Tryz.checked os 9 .any (fun w args => (Rows.similaritySharesSpec.pre enc Tryz.prog Tryz.f9 [] false w args ∧ laidMetH Tryz.prog Rows.similaritySharesRow.laid w) ∧ sizedMet enc Tryz.prog Tryz.f9 (OpenSpec.ofChange Rows.similaritySharesSpec) false w args) (Rows.similaritySharesSpec.post enc Tryz.prog Tryz.f9 false true false false) := by
  refine returnsInHanded_of_change_and (C := Tryz.checked) (X := fun w _ => laidMetH Tryz.prog Rows.similaritySharesRow.laid w) (fun _ _ _ hh h => h.of_heap hh) own started (by kernel_rfl) Tryz.func9
    (ChangeSpec.witness_shaped (enc := enc) (C := Tryz.checked) (os := os) (X := fun w _ => laidMetH Tryz.prog Rows.similaritySharesRow.laid w) false (World.laidAll Tryz.prog os Rows.similaritySharesRow.laid) #[.slice none 0 0, .int .i64 0] 8 (World.laidAll_os _ _ _)
      (World.shaped_of_ZipB (by kernel_rfl) (by kernel_rfl)) (by kernel_rfl) (by kernel_rfl) (by kernel_rfl)
      (by rw [MakeChecks.laidMetH_plain _ _ _ (by kernel_rfl)]; exact laidMet_laidAll _ (by kernel_rfl) (by kernel_rfl))) ?_
  intro W base args ds gs before hval0 hW hcnd hsz hL _
  have hval : ∀ (j : Nat) t v, Tryz.f9.params[j]? = some t → args[j]? = some v → Value.okWide Tryz.prog W .any base t v := hval0
  rw [MakeChecks.laidMetH_plain _ _ _ (by kernel_rfl)] at hL
  have hW' := hW
  have hlt := hW.lt
  obtain ⟨p, q, hA0, hV, rfl, hfz, hnd⟩ := hW
  have hA : DataW.TrodAll enc Tryz.prog W 0 (fun _ => true) true Tryz.f9.params.toList args.toList ds p := hA0
  rw [Tryz.params9] at hA hval
  obtain ⟨v0, vs0, d0, ds0, p0, q0, hargs, rfl, rfl, h0, r0⟩ := trodAll_cons hA
  obtain ⟨v1, vs1, d1, ds1, p1, q1, rfl, rfl, rfl, h1, r1⟩ := trodAll_cons r0
  obtain ⟨rfl, rfl, rfl⟩ := trodAll_nil r1
  obtain rfl : args = #[v0, v1] := by cases args; simp_all
  obtain ⟨rfl, rfl⟩ := trodVars_none hV
  rw [List.all_eq_true] at hsz
  have hw : ∀ (j : Nat) t d, ([25, 3] : List TypeId)[j]? = some t → [d0, d1][j]? = some d → ∀ n ∈ d.weights Tryz.prog t, n ≤ reachBytes := fun j t d ht hd n hn =>
    by simpa using hsz n (DataW.weights_mem_each (ts := Tryz.f9.params.toList ++ Rows.similaritySharesSpec.plain.varTypes Tryz.prog) (by rw [Tryz.params9]; exact Zz3 ht) (by exact Zz3 hd) n hn)
  obtain ⟨y0, e0⟩ := Eng.open_arg uok ZBx ZBI h0 (hw 0 _ _ rfl rfl) (Eng.okv_plain rfl ⟨_, Tryz.underlying25, trivial⟩ (hval 0 25 v0 rfl rfl))
  obtain ⟨y1, e1⟩ := Eng.open_arg uok ZBx ZA2 h1 (hw 1 _ _ rfl rfl) (Eng.okv_plain rfl ⟨_, Tryz.underlying3, trivial⟩ (hval 1 3 v1 rfl rfl))
  clear hA0 hval0
  refine (ZEq y0 y1 v0 v1 W e0 e1 hL).mono fun e W' ⟨he, hg⟩ => ?_
  subst he
  have lt0 : ∀ x ∈ p0, x.block < W.heap.size := fun x hx => hlt x (by simp [hx])
  have lt1 : ∀ x ∈ p1, x.block < W.heap.size := fun x hx => hlt x (by simp [hx])
  exact ⟨_, rfl, Eng.Zk2 (pa := (p0 ++ (p1 ++ []))) (pv := []) hW' (fun _ _ _ => (trodAll_cons_mk (shut_bool Tryz.underlying4 _) trodAll_mk0))
    (fun sp hs => (trodAll_cons_mk (Eng.Zi2.trod ZzY (by kernel_rfl) (of_decide_eq_true (by kernel_rfl)) h0 hg lt0 fun x hx => hs x (by simp [hx])) (trodAll_cons_mk (Eng.Zi2.trod ZzY (by kernel_rfl) (of_decide_eq_true (by kernel_rfl)) h1 hg lt1 fun x hx => hs x (by simp [hx])) trodAll_mk0))) (fun _ _ => rfl) rfl
    hg (ok_one (by kernel_rfl) rfl (okWide_bool_mk Tryz.underlying4 _))⟩

theorem over : Rows.similaritySharesRow.holds Tryz.pinned (OpenSpec.ofChange Rows.similaritySharesSpec) :=
  OpenClaim.holds_of_wide 9 Tryz.f9 rfl rfl rfl rfl rfl rfl rfl ⟨rfl, rfl, rfl, rfl, rfl⟩ rfl rfl rfl rfl rfl ZA3 Tryz.func9 ZDo ZEB ZEp
    (fun os started H enc _ => lifted os started H enc)

theorem proved : Rows.SimilaritySharesCardSaid :=
  Claim7.holds_tied_plain_at .later [] [.data, .data, .data, .data, .sentinel, .sentinel, .widerDeep, .pinned] true (true, "cbb9050748a371b4c6446a223b38c2a958a8cc32d44cb5e0acb64c81ff403e1f") true
    over (fun _ h => by cases h) ZCG (fun _ h => by cases h) similarityShares_row_tie rfl ⟨rfl, rfl⟩ mainIs_ rfl
    (fun f fn hf hfn => by
      obtain rfl : f = 9 := (Option.some.inj (ZA3.symm.trans hf)).symm
      obtain rfl : fn = Tryz.f9 := (Option.some.inj (Tryz.func9.symm.trans hfn)).symm
      exact ⟨looks_, fun j t ht => by
        rw [Tryz.params9] at ht
        have hm : t ∈ [25, 3] := by simpa using Array.mem_of_getElem? ht
        exact (show Tryz.prog.wantsStandIn t = false by simpa using List.all_eq_true.1 ZCK t hm)⟩)
    ZEC
#print axioms proved
end Go.Proofs.YthefajbigloihaaGreatDoor.similarityShares
