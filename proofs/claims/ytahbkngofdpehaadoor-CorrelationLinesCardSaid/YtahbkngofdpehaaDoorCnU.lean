/- Printed by wip/tools/tgen.py: tables. -/
import Derived.Test.YtahbkngofdpehaaDoorCnS
import Derived.Test.YtahbkngofdpehaaDoorProg
import Derived.KernelRfl
set_option linter.unusedVariables false
set_option linter.unusedSimpArgs false
set_option linter.unusedSectionVars false
namespace Go.Proofs
open Go Eng
set_option maxRecDepth 100000

def cells_G_api_Big (x : G_api_Big) : List (Lf carU) := [⟨.bool, x.Neg⟩, ⟨(.sl (.int .u32)), x.Words⟩]

def of_G_api_Big : List (Lf carU) → Option G_api_Big
  | [c0, c1] => (c0.as .bool).bind fun a0 => (c1.as (.sl (.int .u32))).bind fun a1 => some (G_api_Big.mk a0 a1)
  | _ => none

theorem of_G_api_Big_ok (cs : List (Lf carU)) (x : G_api_Big) (h : of_G_api_Big cs = some x) : cells_G_api_Big x = cs := by
  unfold of_G_api_Big at h
  split at h
  · obtain ⟨a0, h0, h⟩ := bind_some h
    obtain ⟨a1, h1, h⟩ := bind_some h
    simp only [Option.some.injEq] at h; subst h
    rw [as_car h0, as_car h1]; rfl
  · simp at h

def enc_G_api_Big (x : G_api_Big) : P := .agg [.bool x.Neg, .sl 1 (x.Words.map (fun x => .int .u32 x))]

def cells_G_api_Fraction (x : G_api_Fraction) : List (Lf carU) := [⟨.bool, x.Num.Neg⟩, ⟨(.sl (.int .u32)), x.Num.Words⟩, ⟨.bool, x.Den.Neg⟩, ⟨(.sl (.int .u32)), x.Den.Words⟩]

def of_G_api_Fraction : List (Lf carU) → Option G_api_Fraction
  | [c0, c1, c2, c3] => (c0.as .bool).bind fun a0 => (c1.as (.sl (.int .u32))).bind fun a1 => (c2.as .bool).bind fun a2 => (c3.as (.sl (.int .u32))).bind fun a3 => some (G_api_Fraction.mk (G_api_Big.mk a0 a1) (G_api_Big.mk a2 a3))
  | _ => none

theorem of_G_api_Fraction_ok (cs : List (Lf carU)) (x : G_api_Fraction) (h : of_G_api_Fraction cs = some x) : cells_G_api_Fraction x = cs := by
  unfold of_G_api_Fraction at h
  split at h
  · obtain ⟨a0, h0, h⟩ := bind_some h
    obtain ⟨a1, h1, h⟩ := bind_some h
    obtain ⟨a2, h2, h⟩ := bind_some h
    obtain ⟨a3, h3, h⟩ := bind_some h
    simp only [Option.some.injEq] at h; subst h
    rw [as_car h0, as_car h1, as_car h2, as_car h3]; rfl
  · simp at h

def enc_G_api_Fraction (x : G_api_Fraction) : P := .agg [.bool x.Num.Neg, .sl 1 (x.Num.Words.map (fun x => .int .u32 x)), .bool x.Den.Neg, .sl 1 (x.Den.Words.map (fun x => .int .u32 x))]

def cells_G_arr2_G_api_Fraction (x : G_arr2_G_api_Fraction) : List (Lf carU) := [⟨.bool, x.e0.Num.Neg⟩, ⟨(.sl (.int .u32)), x.e0.Num.Words⟩, ⟨.bool, x.e0.Den.Neg⟩, ⟨(.sl (.int .u32)), x.e0.Den.Words⟩, ⟨.bool, x.e1.Num.Neg⟩, ⟨(.sl (.int .u32)), x.e1.Num.Words⟩, ⟨.bool, x.e1.Den.Neg⟩, ⟨(.sl (.int .u32)), x.e1.Den.Words⟩]

def of_G_arr2_G_api_Fraction : List (Lf carU) → Option G_arr2_G_api_Fraction
  | [c0, c1, c2, c3, c4, c5, c6, c7] => (c0.as .bool).bind fun a0 => (c1.as (.sl (.int .u32))).bind fun a1 => (c2.as .bool).bind fun a2 => (c3.as (.sl (.int .u32))).bind fun a3 => (c4.as .bool).bind fun a4 => (c5.as (.sl (.int .u32))).bind fun a5 => (c6.as .bool).bind fun a6 => (c7.as (.sl (.int .u32))).bind fun a7 => some (G_arr2_G_api_Fraction.mk (G_api_Fraction.mk (G_api_Big.mk a0 a1) (G_api_Big.mk a2 a3)) (G_api_Fraction.mk (G_api_Big.mk a4 a5) (G_api_Big.mk a6 a7)))
  | _ => none

theorem of_G_arr2_G_api_Fraction_ok (cs : List (Lf carU)) (x : G_arr2_G_api_Fraction) (h : of_G_arr2_G_api_Fraction cs = some x) : cells_G_arr2_G_api_Fraction x = cs := by
  unfold of_G_arr2_G_api_Fraction at h
  split at h
  · obtain ⟨a0, h0, h⟩ := bind_some h
    obtain ⟨a1, h1, h⟩ := bind_some h
    obtain ⟨a2, h2, h⟩ := bind_some h
    obtain ⟨a3, h3, h⟩ := bind_some h
    obtain ⟨a4, h4, h⟩ := bind_some h
    obtain ⟨a5, h5, h⟩ := bind_some h
    obtain ⟨a6, h6, h⟩ := bind_some h
    obtain ⟨a7, h7, h⟩ := bind_some h
    simp only [Option.some.injEq] at h; subst h
    rw [as_car h0, as_car h1, as_car h2, as_car h3, as_car h4, as_car h5, as_car h6, as_car h7]; rfl
  · simp at h

def enc_G_arr2_G_api_Fraction (x : G_arr2_G_api_Fraction) : P := .agg [.bool x.e0.Num.Neg, .sl 1 (x.e0.Num.Words.map (fun x => .int .u32 x)), .bool x.e0.Den.Neg, .sl 1 (x.e0.Den.Words.map (fun x => .int .u32 x)), .bool x.e1.Num.Neg, .sl 1 (x.e1.Num.Words.map (fun x => .int .u32 x)), .bool x.e1.Den.Neg, .sl 1 (x.e1.Den.Words.map (fun x => .int .u32 x))]

def cells_G_api_Moments (x : G_api_Moments) : List (Lf carU) := [⟨(.int .i64), x.N⟩, ⟨.bool, x.X.Num.Neg⟩, ⟨(.sl (.int .u32)), x.X.Num.Words⟩, ⟨.bool, x.X.Den.Neg⟩, ⟨(.sl (.int .u32)), x.X.Den.Words⟩, ⟨.bool, x.Y.Num.Neg⟩, ⟨(.sl (.int .u32)), x.Y.Num.Words⟩, ⟨.bool, x.Y.Den.Neg⟩, ⟨(.sl (.int .u32)), x.Y.Den.Words⟩, ⟨.bool, x.XX.Num.Neg⟩, ⟨(.sl (.int .u32)), x.XX.Num.Words⟩, ⟨.bool, x.XX.Den.Neg⟩, ⟨(.sl (.int .u32)), x.XX.Den.Words⟩, ⟨.bool, x.YY.Num.Neg⟩, ⟨(.sl (.int .u32)), x.YY.Num.Words⟩, ⟨.bool, x.YY.Den.Neg⟩, ⟨(.sl (.int .u32)), x.YY.Den.Words⟩, ⟨.bool, x.XY.Num.Neg⟩, ⟨(.sl (.int .u32)), x.XY.Num.Words⟩, ⟨.bool, x.XY.Den.Neg⟩, ⟨(.sl (.int .u32)), x.XY.Den.Words⟩]

def of_G_api_Moments : List (Lf carU) → Option G_api_Moments
  | [c0, c1, c2, c3, c4, c5, c6, c7, c8, c9, c10, c11, c12, c13, c14, c15, c16, c17, c18, c19, c20] => (c0.as (.int .i64)).bind fun a0 => (c1.as .bool).bind fun a1 => (c2.as (.sl (.int .u32))).bind fun a2 => (c3.as .bool).bind fun a3 => (c4.as (.sl (.int .u32))).bind fun a4 => (c5.as .bool).bind fun a5 => (c6.as (.sl (.int .u32))).bind fun a6 => (c7.as .bool).bind fun a7 => (c8.as (.sl (.int .u32))).bind fun a8 => (c9.as .bool).bind fun a9 => (c10.as (.sl (.int .u32))).bind fun a10 => (c11.as .bool).bind fun a11 => (c12.as (.sl (.int .u32))).bind fun a12 => (c13.as .bool).bind fun a13 => (c14.as (.sl (.int .u32))).bind fun a14 => (c15.as .bool).bind fun a15 => (c16.as (.sl (.int .u32))).bind fun a16 => (c17.as .bool).bind fun a17 => (c18.as (.sl (.int .u32))).bind fun a18 => (c19.as .bool).bind fun a19 => (c20.as (.sl (.int .u32))).bind fun a20 => some (G_api_Moments.mk a0 (G_api_Fraction.mk (G_api_Big.mk a1 a2) (G_api_Big.mk a3 a4)) (G_api_Fraction.mk (G_api_Big.mk a5 a6) (G_api_Big.mk a7 a8)) (G_api_Fraction.mk (G_api_Big.mk a9 a10) (G_api_Big.mk a11 a12)) (G_api_Fraction.mk (G_api_Big.mk a13 a14) (G_api_Big.mk a15 a16)) (G_api_Fraction.mk (G_api_Big.mk a17 a18) (G_api_Big.mk a19 a20)))
  | _ => none

theorem of_G_api_Moments_ok (cs : List (Lf carU)) (x : G_api_Moments) (h : of_G_api_Moments cs = some x) : cells_G_api_Moments x = cs := by
  unfold of_G_api_Moments at h
  split at h
  · obtain ⟨a0, h0, h⟩ := bind_some h
    obtain ⟨a1, h1, h⟩ := bind_some h
    obtain ⟨a2, h2, h⟩ := bind_some h
    obtain ⟨a3, h3, h⟩ := bind_some h
    obtain ⟨a4, h4, h⟩ := bind_some h
    obtain ⟨a5, h5, h⟩ := bind_some h
    obtain ⟨a6, h6, h⟩ := bind_some h
    obtain ⟨a7, h7, h⟩ := bind_some h
    obtain ⟨a8, h8, h⟩ := bind_some h
    obtain ⟨a9, h9, h⟩ := bind_some h
    obtain ⟨a10, h10, h⟩ := bind_some h
    obtain ⟨a11, h11, h⟩ := bind_some h
    obtain ⟨a12, h12, h⟩ := bind_some h
    obtain ⟨a13, h13, h⟩ := bind_some h
    obtain ⟨a14, h14, h⟩ := bind_some h
    obtain ⟨a15, h15, h⟩ := bind_some h
    obtain ⟨a16, h16, h⟩ := bind_some h
    obtain ⟨a17, h17, h⟩ := bind_some h
    obtain ⟨a18, h18, h⟩ := bind_some h
    obtain ⟨a19, h19, h⟩ := bind_some h
    obtain ⟨a20, h20, h⟩ := bind_some h
    simp only [Option.some.injEq] at h; subst h
    rw [as_car h0, as_car h1, as_car h2, as_car h3, as_car h4, as_car h5, as_car h6, as_car h7, as_car h8, as_car h9, as_car h10, as_car h11, as_car h12, as_car h13, as_car h14, as_car h15, as_car h16, as_car h17, as_car h18, as_car h19, as_car h20]; rfl
  · simp at h

def enc_G_api_Moments (x : G_api_Moments) : P := .agg [.int .i64 x.N, .bool x.X.Num.Neg, .sl 1 (x.X.Num.Words.map (fun x => .int .u32 x)), .bool x.X.Den.Neg, .sl 1 (x.X.Den.Words.map (fun x => .int .u32 x)), .bool x.Y.Num.Neg, .sl 1 (x.Y.Num.Words.map (fun x => .int .u32 x)), .bool x.Y.Den.Neg, .sl 1 (x.Y.Den.Words.map (fun x => .int .u32 x)), .bool x.XX.Num.Neg, .sl 1 (x.XX.Num.Words.map (fun x => .int .u32 x)), .bool x.XX.Den.Neg, .sl 1 (x.XX.Den.Words.map (fun x => .int .u32 x)), .bool x.YY.Num.Neg, .sl 1 (x.YY.Num.Words.map (fun x => .int .u32 x)), .bool x.YY.Den.Neg, .sl 1 (x.YY.Den.Words.map (fun x => .int .u32 x)), .bool x.XY.Num.Neg, .sl 1 (x.XY.Num.Words.map (fun x => .int .u32 x)), .bool x.XY.Den.Neg, .sl 1 (x.XY.Den.Words.map (fun x => .int .u32 x))]

def cellsU : (n : Nat) → carU n → List (Lf carU)
  | 0, x => cells_G_api_Big x
  | 1, x => cells_G_api_Fraction x
  | 2, x => cells_G_arr2_G_api_Fraction x
  | 3, x => cells_G_api_Moments x
  | _ + 4, _ => []

def ofU : (n : Nat) → List (Lf carU) → Option (carU n)
  | 0, cs => of_G_api_Big cs
  | 1, cs => of_G_api_Fraction cs
  | 2, cs => of_G_arr2_G_api_Fraction cs
  | 3, cs => of_G_api_Moments cs
  | _ + 4, cs => match cs with | [] => some () | _ => none

def encU : (n : Nat) → carU n → P
  | 0, x => enc_G_api_Big x
  | 1, x => enc_G_api_Fraction x
  | 2, x => enc_G_arr2_G_api_Fraction x
  | 3, x => enc_G_api_Moments x
  | _ + 4, _ => .agg []

@[reducible] def U : Univ := ⟨carU, sizeU, cellsU, ofU, encU⟩

theorem uok : UOk U where
  of_cells := fun n cs x h => match n, x, h with
    | 0, x, h => of_G_api_Big_ok cs x h
    | 1, x, h => of_G_api_Fraction_ok cs x h
    | 2, x, h => of_G_arr2_G_api_Fraction_ok cs x h
    | 3, x, h => of_G_api_Moments_ok cs x h
    | _ + 4, x, h => by
      match cs, h with
      | [], h => rfl
  enc_cells := fun n x => match n, x with
    | 0, x => rfl
    | 1, x => rfl
    | 2, x => rfl
    | 3, x => rfl
    | _ + 4, x => rfl
  len := fun n x => match n, x with
    | 0, x => rfl
    | 1, x => rfl
    | 2, x => rfl
    | 3, x => rfl
    | _ + 4, x => rfl

noncomputable def tt0 : List (Option (TT U)) := [
  none,
  some ⟨⟨.func, 1, 8, [.p .nilfn]⟩, none, .bool, [.nilfn], none⟩,
  some ⟨⟨.int .i64, 1, 8, [.p (.int .i64 0)]⟩, none, (.int .i64), [.v (.int .i64) (0 : Int)], some ⟨(.int .i64), (0 : Int)⟩⟩,
  some ⟨⟨.int .i64, 1, 8, [.p (.int .i64 0)]⟩, none, (.int .i64), [.v (.int .i64) (0 : Int)], some ⟨(.int .i64), (0 : Int)⟩⟩,
  some ⟨⟨.bool, 1, 1, [.p (.bool false)]⟩, none, .bool, [.v .bool false], some ⟨.bool, false⟩⟩,
  some ⟨⟨.int .u8, 1, 1, [.p (.int .u8 0)]⟩, none, (.int .u8), [.v (.int .u8) (0 : Int)], some ⟨(.int .u8), (0 : Int)⟩⟩,
  none,
  none,
  none,
  some ⟨⟨.str, 1, 16, [.p (.str [])]⟩, none, .str, [.v .str ([] : Str)], some ⟨.str, ([] : Str)⟩⟩,
  none,
  none,
  none,
  none,
  none,
  none,
  none,
  none,
  none,
  none,
  none,
  none,
  none,
  none,
  none,
  none,
  none,
  some ⟨⟨.sl 35, 1, 24, [.nils 8]⟩, none, (.sl (.st 2)), [.nils (.st 2)], some ⟨(.sl (.st 2)), []⟩⟩,
  none,
  none,
  some ⟨⟨.sl 122, 1, 24, [.nils 1]⟩, none, (.sl (.int .u32)), [.nils (.int .u32)], some ⟨(.sl (.int .u32)), []⟩⟩,
  some ⟨⟨.struct [(0, 4), (1, 30)], 2, 32, [.p (.bool false), .nils 1]⟩, some 0, (.st 0), [.v .bool false, .nils (.int .u32)], some ⟨(.st 0), (G_api_Big.mk false ([] : (List Int)))⟩⟩,
  some ⟨⟨.struct [(0, 4), (1, 30)], 2, 32, [.p (.bool false), .nils 1]⟩, some 0, (.st 0), [.v .bool false, .nils (.int .u32)], some ⟨(.st 0), (G_api_Big.mk false ([] : (List Int)))⟩⟩,
  some ⟨⟨.struct [(0, 32), (2, 32)], 4, 64, [.p (.bool false), .nils 1, .p (.bool false), .nils 1]⟩, some 1, (.st 1), [.v .bool false, .nils (.int .u32), .v .bool false, .nils (.int .u32)], some ⟨(.st 1), (G_api_Fraction.mk (G_api_Big.mk false ([] : (List Int))) (G_api_Big.mk false ([] : (List Int))))⟩⟩,
  some ⟨⟨.struct [(0, 32), (2, 32)], 4, 64, [.p (.bool false), .nils 1, .p (.bool false), .nils 1]⟩, some 1, (.st 1), [.v .bool false, .nils (.int .u32), .v .bool false, .nils (.int .u32)], some ⟨(.st 1), (G_api_Fraction.mk (G_api_Big.mk false ([] : (List Int))) (G_api_Big.mk false ([] : (List Int))))⟩⟩,
  some ⟨⟨.arr 2 34, 8, 128, [.p (.bool false), .nils 1, .p (.bool false), .nils 1, .p (.bool false), .nils 1, .p (.bool false), .nils 1]⟩, some 2, (.st 2), [.v .bool false, .nils (.int .u32), .v .bool false, .nils (.int .u32), .v .bool false, .nils (.int .u32), .v .bool false, .nils (.int .u32)], some ⟨(.st 2), (G_arr2_G_api_Fraction.mk (G_api_Fraction.mk (G_api_Big.mk false ([] : (List Int))) (G_api_Big.mk false ([] : (List Int)))) (G_api_Fraction.mk (G_api_Big.mk false ([] : (List Int))) (G_api_Big.mk false ([] : (List Int)))))⟩⟩,
  none,
  none,
  none,
  none,
  some ⟨⟨.struct [(0, 3), (1, 34), (5, 34), (9, 34), (13, 34), (17, 34)], 21, 328, [.p (.int .i64 0), .p (.bool false), .nils 1, .p (.bool false), .nils 1, .p (.bool false), .nils 1, .p (.bool false), .nils 1, .p (.bool false), .nils 1, .p (.bool false), .nils 1, .p (.bool false), .nils 1, .p (.bool false), .nils 1, .p (.bool false), .nils 1, .p (.bool false), .nils 1]⟩, some 3, (.st 3), [.v (.int .i64) (0 : Int), .v .bool false, .nils (.int .u32), .v .bool false, .nils (.int .u32), .v .bool false, .nils (.int .u32), .v .bool false, .nils (.int .u32), .v .bool false, .nils (.int .u32), .v .bool false, .nils (.int .u32), .v .bool false, .nils (.int .u32), .v .bool false, .nils (.int .u32), .v .bool false, .nils (.int .u32), .v .bool false, .nils (.int .u32)], some ⟨(.st 3), (G_api_Moments.mk 0 (G_api_Fraction.mk (G_api_Big.mk false ([] : (List Int))) (G_api_Big.mk false ([] : (List Int)))) (G_api_Fraction.mk (G_api_Big.mk false ([] : (List Int))) (G_api_Big.mk false ([] : (List Int)))) (G_api_Fraction.mk (G_api_Big.mk false ([] : (List Int))) (G_api_Big.mk false ([] : (List Int)))) (G_api_Fraction.mk (G_api_Big.mk false ([] : (List Int))) (G_api_Big.mk false ([] : (List Int)))) (G_api_Fraction.mk (G_api_Big.mk false ([] : (List Int))) (G_api_Big.mk false ([] : (List Int)))))⟩⟩,
  some ⟨⟨.struct [(0, 3), (1, 34), (5, 34), (9, 34), (13, 34), (17, 34)], 21, 328, [.p (.int .i64 0), .p (.bool false), .nils 1, .p (.bool false), .nils 1, .p (.bool false), .nils 1, .p (.bool false), .nils 1, .p (.bool false), .nils 1, .p (.bool false), .nils 1, .p (.bool false), .nils 1, .p (.bool false), .nils 1, .p (.bool false), .nils 1, .p (.bool false), .nils 1]⟩, some 3, (.st 3), [.v (.int .i64) (0 : Int), .v .bool false, .nils (.int .u32), .v .bool false, .nils (.int .u32), .v .bool false, .nils (.int .u32), .v .bool false, .nils (.int .u32), .v .bool false, .nils (.int .u32), .v .bool false, .nils (.int .u32), .v .bool false, .nils (.int .u32), .v .bool false, .nils (.int .u32), .v .bool false, .nils (.int .u32), .v .bool false, .nils (.int .u32)], some ⟨(.st 3), (G_api_Moments.mk 0 (G_api_Fraction.mk (G_api_Big.mk false ([] : (List Int))) (G_api_Big.mk false ([] : (List Int)))) (G_api_Fraction.mk (G_api_Big.mk false ([] : (List Int))) (G_api_Big.mk false ([] : (List Int)))) (G_api_Fraction.mk (G_api_Big.mk false ([] : (List Int))) (G_api_Big.mk false ([] : (List Int)))) (G_api_Fraction.mk (G_api_Big.mk false ([] : (List Int))) (G_api_Big.mk false ([] : (List Int)))) (G_api_Fraction.mk (G_api_Big.mk false ([] : (List Int))) (G_api_Big.mk false ([] : (List Int)))))⟩⟩,
  none,
  none,
  none,
  none,
  none,
  some ⟨⟨.sl 48, 1, 24, [.nils 1]⟩, none, (.sl (.int .i8)), [.nils (.int .i8)], some ⟨(.sl (.int .i8)), []⟩⟩,
  some ⟨⟨.int .i8, 1, 1, [.p (.int .i8 0)]⟩, none, (.int .i8), [.v (.int .i8) (0 : Int)], some ⟨(.int .i8), (0 : Int)⟩⟩,
  none,
  none,
  none,
  none,
  none,
  none,
  none,
  none,
  none,
  none,
  none,
  none,
  none,
  none,
  none,
  none,
  some ⟨⟨.int .i64, 1, 8, [.p (.int .i64 0)]⟩, none, (.int .i64), [.v (.int .i64) (0 : Int)], some ⟨(.int .i64), (0 : Int)⟩⟩,
  none,
  none,
  none,
  none,
  none,
  none,
  none,
  none,
  none,
  none,
  none,
  none,
  none,
  none,
  none,
  none,
  none,
  none,
  none,
  none,
  none,
  none,
  none,
  none,
  none,
  none,
  none,
  none,
  none,
  none,
  none,
  none,
  none,
  none,
  none,
  none,
  none,
  none,
  none,
  none,
  none,
  none,
  none,
  none,
  none,
  none,
  none,
  none,
  none,
  none,
  none,
  none,
  none,
  none,
  none,
  none,
  some ⟨⟨.int .u32, 1, 4, [.p (.int .u32 0)]⟩, none, (.int .u32), [.v (.int .u32) (0 : Int)], some ⟨(.int .u32), (0 : Int)⟩⟩,
  none,
  none,
  none,
  none,
  none,
  none,
  none,
  none,
  none,
  none,
  none,
  none,
  none,
  none,
  none,
  none,
  none,
  none,
  none,
  none,
  none,
  none,
  none,
  none,
  none,
  none,
  none,
  none,
  none,
  none,
  none,
  none,
  some ⟨⟨.func, 1, 8, [.p .nilfn]⟩, none, .bool, [.nilfn], none⟩,
  some ⟨⟨.func, 1, 8, [.p .nilfn]⟩, none, .bool, [.nilfn], none⟩,
  none,
  none,
  some ⟨⟨.int .u64, 1, 8, [.p (.int .u64 0)]⟩, none, (.int .u64), [.v (.int .u64) (0 : Int)], some ⟨(.int .u64), (0 : Int)⟩⟩,
  some ⟨⟨.int .u64, 1, 8, [.p (.int .u64 0)]⟩, none, (.int .u64), [.v (.int .u64) (0 : Int)], some ⟨(.int .u64), (0 : Int)⟩⟩,
  none,
  none,
  none,
  none,
  none,
  none,
  none,
  none,
  none,
  none,
  none,
  none,
  none,
  none,
  some ⟨⟨.sl 122, 1, 24, [.nils 1]⟩, none, (.sl (.int .u32)), [.nils (.int .u32)], some ⟨(.sl (.int .u32)), []⟩⟩,
  none,
  none,
  none,
  none,
  none,
  none,
  none,
  none,
  none,
  none,
  none,
  none,
  none,
  none,
  none,
  some ⟨⟨.sl 32, 1, 24, [.nils 2]⟩, none, (.sl (.st 0)), [.nils (.st 0)], some ⟨(.sl (.st 0)), []⟩⟩,
  none,
  none,
  none,
  none,
  none,
  none,
  none,
  none,
  none,
  none,
  none,
  none,
  none,
  none,
  none,
  none,
  none,
  none,
  none,
  none,
  none,
  none,
  none,
  none,
  none,
  none,
  none,
  none,
  none,
  none,
  none,
  none,
  none,
  none,
  none,
  none,
  none,
  none,
  none,
  none,
  none,
  none,
  none,
  none,
  none,
  none,
  none,
  none,
  none,
  none,
  none,
  none,
  none,
  none,
  none]
noncomputable def X0 : TEnv U := ⟨Tryd.prog, tt0, [(0, glob_fraction_one)], 0⟩
theorem tok0 : TOk X0 := tok_of (by kernel_rfl) (by kernel_rfl) (by kernel_rfl)
theorem eok0 : EnvOk X0.E := ⟨by kernel_rfl⟩
theorem mixed : X0.prog.follows .mixedOrders = true := by kernel_rfl
theorem G0 : Gnd X0 := ⟨uok, tok0, eok0, mixed⟩

end Go.Proofs
