/- Proved: for every input the law WorkerTop returns true, and its arguments read as before. The listed package variables read as the program's text lays them: the card ties them. No other condition. -/
import Derived.Test.YtpkmihjnkbkcjaaGreatDoorRows
import Derived.Test.YtpkmihjnkbkcjaaGreatDoorCards
import Derived.Test.YtpkmihjnkbkcjaaGreatDoorTie
import Derived.Test.YtpkmihjnkbkcjaaGreatDoorQ
import Derived.Test.YtpkmihjnkbkcjaaGreatDoorWtW
import Derived.Test.YtpkmihjnkbkcjaaGreatDoorWtF
import Derived.Test.YtpkmihjnkbkcjaaGreatDoorWtM2
import Derived.WalkKit
import Derived.ProofKit
import Derived.OpenShut
import Derived.Lay
import Derived.SevenTiedAt
set_option linter.unusedVariables false
set_option linter.unusedSimpArgs false
set_option linter.unusedSectionVars false
namespace Go.Proofs.YtpkmihjnkbkcjaaGreatDoor.workerTop
open Go.ChangeShapes Go.WideShapes Go.ChangeAt Go.RowKit
open Go.Proofs (U X0 uok Zww)

theorem own : ownKnob Tryz.prog.godebug = none := by kernel_rfl
theorem ZBz : laidOutB Tryz.prog = true := by kernel_rfl

theorem ZCU : Eng.ZmO U := fun n x => match n, x with
  | 0, _ => rfl
  | 1, _ => rfl
  | 2, _ => rfl
  | 3, _ => rfl
  | 4, _ => rfl
  | 5, _ => rfl
  | 6, _ => rfl
  | 7, _ => rfl
  | 8, _ => rfl
  | 9, _ => rfl
  | 10, _ => rfl
  | 11, _ => rfl
  | 12, _ => rfl
  | 13, _ => rfl
  | 14, _ => rfl
  | 15, _ => rfl
  | 16, _ => rfl
  | 17, _ => rfl
  | 18, _ => rfl
  | _ + 19, _ => rfl

theorem ZCA {α : Type} {l r : List α} {j : Nat} {x : α} (h : l[j]? = some x) : (l ++ r)[j]? = some x := by
  rw [List.getElem?_append_left (List.getElem?_eq_some_iff.1 h).1]; exact h

theorem ZFB : Eng.Zew Tryz.prog U 5 (.int .u8) := Eng.opens_int Tryz.underlying5
theorem ZCu : Eng.Zew Tryz.prog U 22 (.sl (.int .u8)) := Eng.Zmb uok ZCU Tryz.underlying22 (by kernel_rfl) (by decide) (Nat.le_of_ble_eq_true (by kernel_rfl)) ZFB
theorem ZFC : Eng.Zew Tryz.prog U 3 (.int .i64) := Eng.opens_int Tryz.underlying3

theorem ZHZ : Rows.laid_tablefinder_fraction_one = (DataW.slice [.lit (.int .u32 1)] [] : DataW Unit) := by kernel_rfl
theorem ZEl {w : World} (h : laidMet Tryz.prog Rows.workerTopRow.laid w) : Eng.Zex w (fun b => b < w.heap.size) 0 [Eng.P.sl 1 [.int .u32 1]] :=
  Eng.globOk_one (t := 169) (e := 116) (by kernel_rfl) (by kernel_rfl) Tryz.underlying169 Tryz.underlying116 (by kernel_rfl) (by decide) (ZHZ ▸ Lib.laidMet.reads (n := "tablefinder/fraction.one") (d := Rows.laid_tablefinder_fraction_one) h (List.mem_iff_getElem?.2 ⟨0, by kernel_rfl⟩))

set_option maxRecDepth 100000 in
theorem walk (y0 : (List Int)) (y1 : (List Int)) (y2 : Int) (v0 v1 v2 : Value) (w : World)
    (e0 : Eng.RelP w (fun b => b < w.heap.size) v0 (U.encE (.sl (.int .u8)) y0)) (e1 : Eng.RelP w (fun b => b < w.heap.size) v1 (U.encE (.sl (.int .u8)) y1)) (e2 : Eng.RelP w (fun b => b < w.heap.size) v2 (U.encE (.int .i64) y2)) (hL : laidMet Tryz.prog Rows.workerTopRow.laid w) :
    Calls Tryz.prog 3 #[v0, v1, v2] w fun e w' => e = .returned (.bool true) ∧ Eng.Zju w w' := by
  have hF : Eng.Fun X0.E 3 (([U.encE (.sl (.int .u8)) y0, U.encE (.sl (.int .u8)) y1, U.encE (.int .i64) y2] : List Eng.P).map Eng.Arg.p) ⟨[.p (.bool true)], []⟩ :=
    (Go.Proofs.D117_ok [.p (.l ⟨(.sl (.int .u8)), y0⟩), .p (.l ⟨(.sl (.int .u8)), y1⟩), .p (.l ⟨(.int .i64), y2⟩)] _ rfl true (Go.Proofs.workerTop_law y0 y1 y2 (ZBT e0) (ZBT e1))).1
  refine Eng.ZkL (E := X0.E) hF (by kernel_rfl) rfl (fun k v x hv hx => ?_) (fun g cs hm => ?_)
  · match k, hv, hx with
    | 0, hv, hx => simp at hv hx; subst hv hx; exact e0
    | 1, hv, hx => simp at hv hx; subst hv hx; exact e1
    | 2, hv, hx => simp at hv hx; subst hv hx; exact e2
    | k + 3, hv, hx => simp at hv
  · have hm' : (g, cs) ∈ [(0, [Eng.P.sl 1 [.int .u32 1]])] := (show X0.E.globs = [(0, [Eng.P.sl 1 [.int .u32 1]])] by kernel_rfl) ▸ hm
    simp only [List.mem_cons, List.not_mem_nil, or_false, Prod.mk.injEq] at hm'
    rcases hm' with ⟨rfl, rfl⟩
    · exact ZEl hL

set_option maxRecDepth 100000 in
theorem lifted (os : Os) (started : os.Started) (H : Type) (enc : TypeId × Value → H) :
    ReturnsInHanded {} Tryz.checked os 3 .any (fun w args => (Rows.workerTopSpec.pre enc Tryz.prog Tryz.f3 [] false w args ∧ laidMetH Tryz.prog Rows.workerTopRow.laid w) ∧ sizedMet enc Tryz.prog Tryz.f3 (OpenSpec.ofChange Rows.workerTopSpec) false w args) (Rows.workerTopSpec.post enc Tryz.prog Tryz.f3 false true false false) := by
  refine returnsInHanded_of_change_and (C := Tryz.checked) (X := fun w _ => laidMetH Tryz.prog Rows.workerTopRow.laid w) (fun _ _ _ hh h => h.of_heap hh) own started (by kernel_rfl) Tryz.func3
    (ChangeSpec.witness_shaped (enc := enc) (C := Tryz.checked) (os := os) (X := fun w _ => laidMetH Tryz.prog Rows.workerTopRow.laid w) false (World.laidAll Tryz.prog os Rows.workerTopRow.laid) #[.slice none 0 0, .slice none 0 0, .int .i64 0] 8 (World.laidAll_os _ _ _)
      (World.shaped_of_ZipB (by kernel_rfl) (by kernel_rfl)) (by kernel_rfl) (by kernel_rfl) (by kernel_rfl)
      (by rw [MakeChecks.laidMetH_plain _ _ _ (by kernel_rfl)]; exact laidMet_laidAll _ (by kernel_rfl) (by kernel_rfl))) ?_
  intro W base args ds gs before hval0 hW hcnd hsz hL _
  have hval : ∀ (j : Nat) t v, Tryz.f3.params[j]? = some t → args[j]? = some v → Value.okWide Tryz.prog W .any base t v := hval0
  rw [MakeChecks.laidMetH_plain _ _ _ (by kernel_rfl)] at hL
  have hW' := hW
  have hlt := hW.lt
  obtain ⟨p, q, hA0, hV, rfl, hfz, hnd⟩ := hW
  have hA : DataW.TrodAll enc Tryz.prog W 0 (fun _ => true) true Tryz.f3.params.toList args.toList ds p := hA0
  rw [Tryz.params3] at hA hval
  obtain ⟨v0, vs0, d0, ds0, p0, q0, hargs, rfl, rfl, h0, r0⟩ := trodAll_cons hA
  obtain ⟨v1, vs1, d1, ds1, p1, q1, rfl, rfl, rfl, h1, r1⟩ := trodAll_cons r0
  obtain ⟨v2, vs2, d2, ds2, p2, q2, rfl, rfl, rfl, h2, r2⟩ := trodAll_cons r1
  obtain ⟨rfl, rfl, rfl⟩ := trodAll_nil r2
  obtain rfl : args = #[v0, v1, v2] := by cases args; simp_all
  obtain ⟨rfl, rfl⟩ := trodVars_none hV
  rw [List.all_eq_true] at hsz
  have hw : ∀ (j : Nat) t d, ([22, 22, 3] : List TypeId)[j]? = some t → [d0, d1, d2][j]? = some d → ∀ n ∈ d.weights Tryz.prog t, n ≤ reachBytes := fun j t d ht hd n hn =>
    by simpa using hsz n (DataW.weights_mem_each (ts := Tryz.f3.params.toList ++ Rows.workerTopSpec.plain.varTypes Tryz.prog) (by rw [Tryz.params3]; exact ZCA ht) (by exact ZCA hd) n hn)
  obtain ⟨y0, e0⟩ := Eng.open_arg uok ZCU ZCu h0 (hw 0 _ _ rfl rfl) (Eng.okv_plain rfl ⟨_, Tryz.underlying22, trivial⟩ (hval 0 22 v0 rfl rfl))
  obtain ⟨y1, e1⟩ := Eng.open_arg uok ZCU ZCu h1 (hw 1 _ _ rfl rfl) (Eng.okv_plain rfl ⟨_, Tryz.underlying22, trivial⟩ (hval 1 22 v1 rfl rfl))
  obtain ⟨y2, e2⟩ := Eng.open_arg uok ZCU ZFC h2 (hw 2 _ _ rfl rfl) (Eng.okv_plain rfl ⟨_, Tryz.underlying3, trivial⟩ (hval 2 3 v2 rfl rfl))
  clear hA0 hval0
  refine (walk y0 y1 y2 v0 v1 v2 W e0 e1 e2 hL).mono fun e W' ⟨he, hg⟩ => ?_
  subst he
  have lt0 : ∀ x ∈ p0, x.block < W.heap.size := fun x hx => hlt x (by simp [hx])
  have lt1 : ∀ x ∈ p1, x.block < W.heap.size := fun x hx => hlt x (by simp [hx])
  have lt2 : ∀ x ∈ p2, x.block < W.heap.size := fun x hx => hlt x (by simp [hx])
  exact ⟨_, rfl, Eng.ZlF (pa := (p0 ++ (p1 ++ (p2 ++ [])))) (pv := []) hW' (fun _ _ _ => (trodAll_cons_mk (shut_bool Tryz.underlying4 _) trodAll_mk0))
    (fun sp hs => (trodAll_cons_mk (Eng.Zju.trod ZBz (by kernel_rfl) (of_decide_eq_true (by kernel_rfl)) h0 hg lt0 fun x hx => hs x (by simp [hx])) (trodAll_cons_mk (Eng.Zju.trod ZBz (by kernel_rfl) (of_decide_eq_true (by kernel_rfl)) h1 hg lt1 fun x hx => hs x (by simp [hx])) (trodAll_cons_mk (Eng.Zju.trod ZBz (by kernel_rfl) (of_decide_eq_true (by kernel_rfl)) h2 hg lt2 fun x hx => hs x (by simp [hx])) trodAll_mk0)))) (fun _ _ => rfl) rfl
    hg (ok_one (by kernel_rfl) rfl (okWide_bool_mk Tryz.underlying4 _))⟩

theorem over : Rows.workerTopRow.holds Tryz.pinned (OpenSpec.ofChange Rows.workerTopSpec) :=
  OpenClaim.holds_of_wide 3 Tryz.f3 rfl rfl rfl rfl rfl rfl rfl ⟨rfl, rfl, rfl, rfl, rfl⟩ rfl rfl rfl rfl rfl ZDC Tryz.func3 ZGc ZH2 ZHO
    (fun os started H enc _ => lifted os started H enc)

theorem proved : Rows.WorkerTopCardSaid :=
  Claim7.holds_tied_plain_at .later [] [.widerDeep] true (true, "2fec9bf7bbaaffceda9010671acb48213e9893f7ecc1bd25ee202b914df478ab") false
    over (fun _ h => by cases h) ZFf (fun _ h => by cases h) workerTop_row_tie rfl ⟨rfl, rfl⟩ mainIs_ rfl
    (fun f fn hf hfn => by
      obtain rfl : f = 3 := (Option.some.inj (ZDC.symm.trans hf)).symm
      obtain rfl : fn = Tryz.f3 := (Option.some.inj (Tryz.func3.symm.trans hfn)).symm
      exact ⟨looks_, fun j t ht => by
        rw [Tryz.params3] at ht
        have hm : t ∈ [22, 22, 3] := by simpa using Array.mem_of_getElem? ht
        exact (show Tryz.prog.wantsStandIn t = false by simpa using List.all_eq_true.1 ZFo t hm)⟩)
    ZH3
#print axioms proved
end Go.Proofs.YtpkmihjnkbkcjaaGreatDoor.workerTop
