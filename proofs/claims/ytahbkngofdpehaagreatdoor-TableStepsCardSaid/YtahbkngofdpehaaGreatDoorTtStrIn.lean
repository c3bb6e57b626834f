/- The strings of what is handed over are no longer than a string can be. -/
import Derived.Test.YtahbkngofdpehaaGreatDoorE4
set_option linter.unusedVariables false
set_option linter.unusedSimpArgs false
set_option linter.unusedSectionVars false
namespace Eng
open Go

inductive StrIn (s : List UInt8) : P → Prop
  | str : StrIn s (.str s)
  | agg {cs : List P} {c : P} (h : c ∈ cs) (h' : StrIn s c) : StrIn s (.agg cs)
  | sl {sz : Nat} {es : List P} {e : P} (h : e ∈ es) (h' : StrIn s e) : StrIn s (.sl sz es)

theorem RelP.strs {w : World} {S : Nat → Prop} {s : List UInt8} {x : P} (hs : StrIn s x) : ∀ {v : Value}, RelP w S v x → s.length ≤ maxInt := by
  induction hs with
  | str => intro v h; cases h; assumption
  | agg hm _ ih =>
    intro v h
    cases h with
    | agg vs cs hl h1 h =>
      obtain ⟨i, hi, he⟩ := List.mem_iff_getElem.1 hm
      have hlt : i < vs.size := by rw [hl]; exact hi
      exact ih (h i vs[i] _ (Array.getElem?_eq_getElem hlt) (by rw [List.getElem?_eq_getElem hi, he]))
  | sl hm _ ih =>
    intro v h
    cases h with
    | sl a len cap sz es evs hl hmx hc hsz hcell h =>
      obtain ⟨i, hi, he⟩ := List.mem_iff_getElem.1 hm
      exact ih (h i _ (by rw [List.getElem?_eq_getElem hi, he]))

inductive IntIn (k : IntKind) (n : Int) : P → Prop
  | int : IntIn k n (.int k n)
  | agg {cs : List P} {c : P} (h : c ∈ cs) (h' : IntIn k n c) : IntIn k n (.agg cs)
  | sl {sz : Nat} {es : List P} {e : P} (h : e ∈ es) (h' : IntIn k n e) : IntIn k n (.sl sz es)

theorem RelP.ints {w : World} {S : Nat → Prop} {k : IntKind} {n : Int} {x : P} (hs : IntIn k n x) : ∀ {v : Value}, RelP w S v x → k.min ≤ n ∧ n ≤ k.max := by
  induction hs with
  | int => intro v h; cases h; exact ⟨by assumption, by assumption⟩
  | agg hm _ ih =>
    intro v h
    cases h with
    | agg vs cs hl h1 h =>
      obtain ⟨i, hi, he⟩ := List.mem_iff_getElem.1 hm
      have hlt : i < vs.size := by rw [hl]; exact hi
      exact ih (h i vs[i] _ (Array.getElem?_eq_getElem hlt) (by rw [List.getElem?_eq_getElem hi, he]))
  | sl hm _ ih =>
    intro v h
    cases h with
    | sl a len cap sz es evs hl hmx hc hsz hcell h =>
      obtain ⟨i, hi, he⟩ := List.mem_iff_getElem.1 hm
      exact ih (h i _ (by rw [List.getElem?_eq_getElem hi, he]))

theorem u8_min : IntKind.min .u8 = 0 := by decide
theorem u8_max : IntKind.max .u8 = 255 := by decide
end Eng
