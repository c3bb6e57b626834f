/- access.May's contract, by the kit's law of a range over a function. -/
import Derived.Test.YtahbkngofdpehaaDoorAaU
import Derived.Test.YtahbkngofdpehaaDoorAaMayd
set_option linter.unusedVariables false
set_option linter.unusedSimpArgs false
set_option linter.unusedSectionVars false
namespace Go.Proofs
open Go Eng

def prmOf (p : G_api_Permission) : Prm := ⟨⟨p.User.toArray⟩, p.Allow, p.Table, p.Column⟩

theorem rel_str {w : World} {S : Nat → Prop} {v : Value} {s : List UInt8} (h : RelP w S v (.str s)) : v = .string ⟨s.toArray⟩ := by cases h; rfl
theorem rel_bool {w : World} {S : Nat → Prop} {v : Value} {b : Bool} (h : RelP w S v (.bool b)) : v = .bool b := by cases h; rfl
theorem rel_int {w : World} {S : Nat → Prop} {v : Value} {k : IntKind} {n : Int} (h : RelP w S v (.int k n)) : v = .int k n := by cases h; rfl

theorem rel_prm {w : World} {S : Nat → Prop} {v : Value} {p : G_api_Permission} (h : RelP w S v (enc_G_api_Permission p)) : v = (prmOf p).val := by
  unfold enc_G_api_Permission at h
  cases h with
  | agg vs cs hl h1 h =>
    obtain ⟨l⟩ := vs
    match l, hl with
    | [a, b, c, d], _ =>
      have ha := rel_str (h 0 a _ rfl rfl)
      have hb := rel_bool (h 1 b _ rfl rfl)
      have hc := rel_int (h 2 c _ rfl rfl)
      have hd := rel_int (h 3 d _ rfl rfl)
      subst ha; subst hb; subst hc; subst hd
      rfl

theorem rel_ref {w : World} {S : Nat → Prop} {v : Value} {p : G_api_Ref} (h : RelP w S v (enc_G_api_Ref p)) : v = .agg #[.int .i64 p.Table, .int .i64 p.Column] := by
  unfold enc_G_api_Ref at h
  cases h with
  | agg vs cs hl h1 h =>
    obtain ⟨l⟩ := vs
    match l, hl with
    | [a, b], _ =>
      have ha := rel_int (h 0 a _ rfl rfl)
      have hb := rel_int (h 1 b _ rfl rfl)
      subst ha; subst hb
      rfl

theorem rel_prms {w : World} {S : Nat → Prop} {v : Value} {l : List G_api_Permission} (h : RelP w S v (.sl 4 (l.map enc_G_api_Permission))) : ∃ a cap, v = .slice a l.length cap ∧ l.length ≤ 281474976710656 ∧ Prms w.heap.size w v (l.map prmOf) := by
  cases h with
  | sl a len cap sz es evs hl hm hc hsz hcell h =>
    rw [List.length_map] at hl
    subst hl
    refine ⟨a, cap, rfl, hm, a, cap, by rw [List.length_map], fun hne => ?_⟩
    have hpos : 0 < l.length := by
      cases l with
      | nil => simp at hne
      | cons x r => simp
    have hev : ∀ i p, l[i]? = some p → evs i = (prmOf p).val := fun i p hp => rel_prm (h i (enc_G_api_Permission p) (by rw [List.getElem?_map, hp]; rfl))
    obtain ⟨b, o, ha, hS, hv⟩ := hcell 0 hpos
    obtain ⟨p0, hp0⟩ : ∃ p, l[0]? = some p := ⟨_, List.getElem?_eq_getElem hpos⟩
    have hlt : b < w.heap.size := cell_lt (hv 0 (.string (prmOf p0).u) (by rw [hev 0 p0 hp0]; rfl))
    refine ⟨b, o, ha, hlt, fun j p hp => ?_⟩
    rw [List.getElem?_map] at hp
    cases hq : l[j]? with
    | none => rw [hq] at hp; simp at hp
    | some q =>
      rw [hq] at hp
      simp only [Option.map_some, Option.some.injEq] at hp
      subst hp
      have hj : j < l.length := (List.getElem?_eq_some_iff.1 hq).1
      obtain ⟨b', o', ha', _, hv'⟩ := hcell j hj
      rw [ha] at ha'
      simp only [Option.some.injEq, Addr.mk.injEq, and_true] at ha'
      obtain ⟨rfl, rfl⟩ := ha'
      rw [hev j q hq] at hv'
      exact ⟨hv' 0 _ rfl, hv' 1 _ rfl, hv' 2 _ rfl, hv' 3 _ rfl⟩

theorem mayL_eq (user : Str) (r : G_api_Ref) (l : List G_api_Permission) : mayL ⟨user.toArray⟩ r.Table r.Column (l.map prmOf) = (match l.find? fun p => p.User == user && (p.Table == 0 || p.Table == r.Table) && (p.Column == -1 || p.Column == r.Column) with | some p => p.Allow | none => false) := by
  induction l with
  | nil => rfl
  | cons p l ih =>
    have hf : Prm.for ⟨user.toArray⟩ r.Table r.Column (prmOf p) = (p.User == user && (p.Table == 0 || p.Table == r.Table) && (p.Column == -1 || p.Column == r.Column)) := by
      simp only [Prm.for, prmOf]
      have : ∀ x : Str, ByteArray.toList ⟨x.toArray⟩ = x := fun x => toList_mk x
      rw [this, this]
    rw [List.map_cons, mayL, hf, List.find?_cons]
    split
    · rename_i h; rw [h]; rfl
    · rename_i h
      rw [Bool.not_eq_true] at h
      rw [h, ih]

theorem may_fun (l : List G_api_Permission) (user : Str) (rf : G_api_Ref) (r : Bool) (h : s_access_May l user rf = some r) :
    Fun X0.E 55 (([.sl 4 (l.map enc_G_api_Permission), .str user, enc_G_api_Ref rf] : List P).map Arg.p) ⟨[.p (.bool r)], []⟩ := by
  have hr : r = mayL ⟨user.toArray⟩ rf.Table rf.Column (l.map prmOf).reverse := by
    unfold s_access_May at h
    rw [← List.map_reverse, mayL_eq]
    exact (Option.some.inj h).symm
  refine fun_of_calls ⟨Tryd.f55, by kernel_rfl, by decide, by kernel_rfl⟩ fun w S vals hv hrel _ => ?_
  obtain ⟨vl⟩ := vals
  match vl, hv with
  | [v0, v1, v2], _ =>
    have h0 := hrel 0 v0 _ rfl rfl
    obtain rfl := rel_str (hrel 1 v1 _ rfl rfl)
    obtain rfl := rel_ref (hrel 2 v2 _ rfl rfl)
    obtain ⟨a, cap, rfl, hlen, hp⟩ := rel_prms h0
    have := Tryd.May_in (fence none) 3 trivial trivial trivial rfl (Nat.le_refl 3) a l.length cap ⟨user.toArray⟩ rf.Table rf.Column (l.map prmOf) (by rw [List.length_map]; exact hlen) w hp
    refine ⟨trivial, fun cs _ => ?_⟩
    obtain ⟨e, w', fr, ⟨he, hb⟩, hc⟩ := this.2 cs (fun d hd => by simp [fence] at hd)
    exact ⟨e, w', fr, ⟨_, he, Kept.of_below hb, by rw [hr]; exact .bool _⟩, hc⟩

theorem S_s_access_May_ok : SigOk X0.E 55 S_s_access_May.sig := FSig.ok uok fun v r h => ⟨may_fun v.1 v.2.1 v.2.2.1 r h, outsLen_nil rfl⟩
end Go.Proofs
