/- Printed by wip/tools/tgen.py: tables. -/
import Derived.Test.YtahbkngofdpehaaGreatDoorTtS
import Derived.Test.YtahbkngofdpehaaGreatDoorProg
import Derived.KernelRfl
set_option linter.unusedVariables false
set_option linter.unusedSimpArgs false
set_option linter.unusedSectionVars false
namespace Go.Proofs
open Go Eng
set_option maxRecDepth 100000

def cells_G_api_Cell (x : G_api_Cell) : List (Lf carU) := [⟨.bool, x.Null⟩, ⟨.str, x.Text⟩]

def of_G_api_Cell : List (Lf carU) → Option G_api_Cell
  | [c0, c1] => (c0.as .bool).bind fun a0 => (c1.as .str).bind fun a1 => some (G_api_Cell.mk a0 a1)
  | _ => none

theorem of_G_api_Cell_ok (cs : List (Lf carU)) (x : G_api_Cell) (h : of_G_api_Cell cs = some x) : cells_G_api_Cell x = cs := by
  unfold of_G_api_Cell at h
  split at h
  · obtain ⟨a0, h0, h⟩ := bind_some h
    obtain ⟨a1, h1, h⟩ := bind_some h
    simp only [Option.some.injEq] at h; subst h
    rw [as_car h0, as_car h1]; rfl
  · simp at h

def enc_G_api_Cell (x : G_api_Cell) : P := .agg [.bool x.Null, .str x.Text]

def cells_G_api_Column (x : G_api_Column) : List (Lf carU) := [⟨.str, x.Name⟩, ⟨(.sl (.st 0)), x.Cells⟩]

def of_G_api_Column : List (Lf carU) → Option G_api_Column
  | [c0, c1] => (c0.as .str).bind fun a0 => (c1.as (.sl (.st 0))).bind fun a1 => some (G_api_Column.mk a0 a1)
  | _ => none

theorem of_G_api_Column_ok (cs : List (Lf carU)) (x : G_api_Column) (h : of_G_api_Column cs = some x) : cells_G_api_Column x = cs := by
  unfold of_G_api_Column at h
  split at h
  · obtain ⟨a0, h0, h⟩ := bind_some h
    obtain ⟨a1, h1, h⟩ := bind_some h
    simp only [Option.some.injEq] at h; subst h
    rw [as_car h0, as_car h1]; rfl
  · simp at h

def enc_G_api_Column (x : G_api_Column) : P := .agg [.str x.Name, .sl 2 (x.Cells.map enc_G_api_Cell)]

def cells_G_api_Table (x : G_api_Table) : List (Lf carU) := [⟨(.int .i64), x.ID⟩, ⟨.str, x.Name⟩, ⟨(.sl (.st 1)), x.Columns⟩]

def of_G_api_Table : List (Lf carU) → Option G_api_Table
  | [c0, c1, c2] => (c0.as (.int .i64)).bind fun a0 => (c1.as .str).bind fun a1 => (c2.as (.sl (.st 1))).bind fun a2 => some (G_api_Table.mk a0 a1 a2)
  | _ => none

theorem of_G_api_Table_ok (cs : List (Lf carU)) (x : G_api_Table) (h : of_G_api_Table cs = some x) : cells_G_api_Table x = cs := by
  unfold of_G_api_Table at h
  split at h
  · obtain ⟨a0, h0, h⟩ := bind_some h
    obtain ⟨a1, h1, h⟩ := bind_some h
    obtain ⟨a2, h2, h⟩ := bind_some h
    simp only [Option.some.injEq] at h; subst h
    rw [as_car h0, as_car h1, as_car h2]; rfl
  · simp at h

def enc_G_api_Table (x : G_api_Table) : P := .agg [.int .i64 x.ID, .str x.Name, .sl 2 (x.Columns.map enc_G_api_Column)]

def cells_G_unicode_utf8_acceptRange (x : G_unicode_utf8_acceptRange) : List (Lf carU) := [⟨(.int .u8), x.lo⟩, ⟨(.int .u8), x.hi⟩]

def of_G_unicode_utf8_acceptRange : List (Lf carU) → Option G_unicode_utf8_acceptRange
  | [c0, c1] => (c0.as (.int .u8)).bind fun a0 => (c1.as (.int .u8)).bind fun a1 => some (G_unicode_utf8_acceptRange.mk a0 a1)
  | _ => none

theorem of_G_unicode_utf8_acceptRange_ok (cs : List (Lf carU)) (x : G_unicode_utf8_acceptRange) (h : of_G_unicode_utf8_acceptRange cs = some x) : cells_G_unicode_utf8_acceptRange x = cs := by
  unfold of_G_unicode_utf8_acceptRange at h
  split at h
  · obtain ⟨a0, h0, h⟩ := bind_some h
    obtain ⟨a1, h1, h⟩ := bind_some h
    simp only [Option.some.injEq] at h; subst h
    rw [as_car h0, as_car h1]; rfl
  · simp at h

def enc_G_unicode_utf8_acceptRange (x : G_unicode_utf8_acceptRange) : P := .agg [.int .u8 x.lo, .int .u8 x.hi]

def cells_G_tablefindermill_Dice (x : G_tablefindermill_Dice) : List (Lf carU) := [⟨(.sl (.int .u8)), x.seeds⟩, ⟨(.int .i64), x.at_⟩]

def of_G_tablefindermill_Dice : List (Lf carU) → Option G_tablefindermill_Dice
  | [c0, c1] => (c0.as (.sl (.int .u8))).bind fun a0 => (c1.as (.int .i64)).bind fun a1 => some (G_tablefindermill_Dice.mk a0 a1)
  | _ => none

theorem of_G_tablefindermill_Dice_ok (cs : List (Lf carU)) (x : G_tablefindermill_Dice) (h : of_G_tablefindermill_Dice cs = some x) : cells_G_tablefindermill_Dice x = cs := by
  unfold of_G_tablefindermill_Dice at h
  split at h
  · obtain ⟨a0, h0, h⟩ := bind_some h
    obtain ⟨a1, h1, h⟩ := bind_some h
    simp only [Option.some.injEq] at h; subst h
    rw [as_car h0, as_car h1]; rfl
  · simp at h

def enc_G_tablefindermill_Dice (x : G_tablefindermill_Dice) : P := .agg [.sl 1 (x.seeds.map (fun x => .int .u8 x)), .int .i64 x.at_]

def cells_G_api_Ref (x : G_api_Ref) : List (Lf carU) := [⟨(.int .i64), x.Table⟩, ⟨(.int .i64), x.Column⟩]

def of_G_api_Ref : List (Lf carU) → Option G_api_Ref
  | [c0, c1] => (c0.as (.int .i64)).bind fun a0 => (c1.as (.int .i64)).bind fun a1 => some (G_api_Ref.mk a0 a1)
  | _ => none

theorem of_G_api_Ref_ok (cs : List (Lf carU)) (x : G_api_Ref) (h : of_G_api_Ref cs = some x) : cells_G_api_Ref x = cs := by
  unfold of_G_api_Ref at h
  split at h
  · obtain ⟨a0, h0, h⟩ := bind_some h
    obtain ⟨a1, h1, h⟩ := bind_some h
    simp only [Option.some.injEq] at h; subst h
    rw [as_car h0, as_car h1]; rfl
  · simp at h

def enc_G_api_Ref (x : G_api_Ref) : P := .agg [.int .i64 x.Table, .int .i64 x.Column]

def cells_G_arr256_int_u8 (x : G_arr256_int_u8) : List (Lf carU) := x.1.map fun y => ⟨(.int .u8), y⟩

def of_G_arr256_int_u8 (cs : List (Lf carU)) : Option G_arr256_int_u8 := match allM (fun c => c.as (.int .u8)) cs with
  | some l => if h : l.length = 256 then some ⟨l, h⟩ else none
  | none => none

theorem of_G_arr256_int_u8_ok (cs : List (Lf carU)) (x : G_arr256_int_u8) (h : of_G_arr256_int_u8 cs = some x) : cells_G_arr256_int_u8 x = cs := by
  unfold of_G_arr256_int_u8 at h
  split at h
  · rename_i l hl
    split at h
    · simp only [Option.some.injEq] at h; subst h
      exact (allM_as hl).symm
    · simp at h
  · simp at h

def enc_G_arr256_int_u8 (x : G_arr256_int_u8) : P := .agg (x.1.map fun y => .int .u8 y)

def cells_G_arr16_G_unicode_utf8_acceptRange (x : G_arr16_G_unicode_utf8_acceptRange) : List (Lf carU) := [⟨(.int .u8), x.e0.lo⟩, ⟨(.int .u8), x.e0.hi⟩, ⟨(.int .u8), x.e1.lo⟩, ⟨(.int .u8), x.e1.hi⟩, ⟨(.int .u8), x.e2.lo⟩, ⟨(.int .u8), x.e2.hi⟩, ⟨(.int .u8), x.e3.lo⟩, ⟨(.int .u8), x.e3.hi⟩, ⟨(.int .u8), x.e4.lo⟩, ⟨(.int .u8), x.e4.hi⟩, ⟨(.int .u8), x.e5.lo⟩, ⟨(.int .u8), x.e5.hi⟩, ⟨(.int .u8), x.e6.lo⟩, ⟨(.int .u8), x.e6.hi⟩, ⟨(.int .u8), x.e7.lo⟩, ⟨(.int .u8), x.e7.hi⟩, ⟨(.int .u8), x.e8.lo⟩, ⟨(.int .u8), x.e8.hi⟩, ⟨(.int .u8), x.e9.lo⟩, ⟨(.int .u8), x.e9.hi⟩, ⟨(.int .u8), x.e10.lo⟩, ⟨(.int .u8), x.e10.hi⟩, ⟨(.int .u8), x.e11.lo⟩, ⟨(.int .u8), x.e11.hi⟩, ⟨(.int .u8), x.e12.lo⟩, ⟨(.int .u8), x.e12.hi⟩, ⟨(.int .u8), x.e13.lo⟩, ⟨(.int .u8), x.e13.hi⟩, ⟨(.int .u8), x.e14.lo⟩, ⟨(.int .u8), x.e14.hi⟩, ⟨(.int .u8), x.e15.lo⟩, ⟨(.int .u8), x.e15.hi⟩]

def of_G_arr16_G_unicode_utf8_acceptRange : List (Lf carU) → Option G_arr16_G_unicode_utf8_acceptRange
  | [c0, c1, c2, c3, c4, c5, c6, c7, c8, c9, c10, c11, c12, c13, c14, c15, c16, c17, c18, c19, c20, c21, c22, c23, c24, c25, c26, c27, c28, c29, c30, c31] => (c0.as (.int .u8)).bind fun a0 => (c1.as (.int .u8)).bind fun a1 => (c2.as (.int .u8)).bind fun a2 => (c3.as (.int .u8)).bind fun a3 => (c4.as (.int .u8)).bind fun a4 => (c5.as (.int .u8)).bind fun a5 => (c6.as (.int .u8)).bind fun a6 => (c7.as (.int .u8)).bind fun a7 => (c8.as (.int .u8)).bind fun a8 => (c9.as (.int .u8)).bind fun a9 => (c10.as (.int .u8)).bind fun a10 => (c11.as (.int .u8)).bind fun a11 => (c12.as (.int .u8)).bind fun a12 => (c13.as (.int .u8)).bind fun a13 => (c14.as (.int .u8)).bind fun a14 => (c15.as (.int .u8)).bind fun a15 => (c16.as (.int .u8)).bind fun a16 => (c17.as (.int .u8)).bind fun a17 => (c18.as (.int .u8)).bind fun a18 => (c19.as (.int .u8)).bind fun a19 => (c20.as (.int .u8)).bind fun a20 => (c21.as (.int .u8)).bind fun a21 => (c22.as (.int .u8)).bind fun a22 => (c23.as (.int .u8)).bind fun a23 => (c24.as (.int .u8)).bind fun a24 => (c25.as (.int .u8)).bind fun a25 => (c26.as (.int .u8)).bind fun a26 => (c27.as (.int .u8)).bind fun a27 => (c28.as (.int .u8)).bind fun a28 => (c29.as (.int .u8)).bind fun a29 => (c30.as (.int .u8)).bind fun a30 => (c31.as (.int .u8)).bind fun a31 => some (G_arr16_G_unicode_utf8_acceptRange.mk (G_unicode_utf8_acceptRange.mk a0 a1) (G_unicode_utf8_acceptRange.mk a2 a3) (G_unicode_utf8_acceptRange.mk a4 a5) (G_unicode_utf8_acceptRange.mk a6 a7) (G_unicode_utf8_acceptRange.mk a8 a9) (G_unicode_utf8_acceptRange.mk a10 a11) (G_unicode_utf8_acceptRange.mk a12 a13) (G_unicode_utf8_acceptRange.mk a14 a15) (G_unicode_utf8_acceptRange.mk a16 a17) (G_unicode_utf8_acceptRange.mk a18 a19) (G_unicode_utf8_acceptRange.mk a20 a21) (G_unicode_utf8_acceptRange.mk a22 a23) (G_unicode_utf8_acceptRange.mk a24 a25) (G_unicode_utf8_acceptRange.mk a26 a27) (G_unicode_utf8_acceptRange.mk a28 a29) (G_unicode_utf8_acceptRange.mk a30 a31))
  | _ => none

theorem of_G_arr16_G_unicode_utf8_acceptRange_ok (cs : List (Lf carU)) (x : G_arr16_G_unicode_utf8_acceptRange) (h : of_G_arr16_G_unicode_utf8_acceptRange cs = some x) : cells_G_arr16_G_unicode_utf8_acceptRange x = cs := by
  unfold of_G_arr16_G_unicode_utf8_acceptRange at h
  split at h
  · obtain ⟨a0, h0, h⟩ := bind_some h
    obtain ⟨a1, h1, h⟩ := bind_some h
    obtain ⟨a2, h2, h⟩ := bind_some h
    obtain ⟨a3, h3, h⟩ := bind_some h
    obtain ⟨a4, h4, h⟩ := bind_some h
    obtain ⟨a5, h5, h⟩ := bind_some h
    obtain ⟨a6, h6, h⟩ := bind_some h
    obtain ⟨a7, h7, h⟩ := bind_some h
    obtain ⟨a8, h8, h⟩ := bind_some h
    obtain ⟨a9, h9, h⟩ := bind_some h
    obtain ⟨a10, h10, h⟩ := bind_some h
    obtain ⟨a11, h11, h⟩ := bind_some h
    obtain ⟨a12, h12, h⟩ := bind_some h
    obtain ⟨a13, h13, h⟩ := bind_some h
    obtain ⟨a14, h14, h⟩ := bind_some h
    obtain ⟨a15, h15, h⟩ := bind_some h
    obtain ⟨a16, h16, h⟩ := bind_some h
    obtain ⟨a17, h17, h⟩ := bind_some h
    obtain ⟨a18, h18, h⟩ := bind_some h
    obtain ⟨a19, h19, h⟩ := bind_some h
    obtain ⟨a20, h20, h⟩ := bind_some h
    obtain ⟨a21, h21, h⟩ := bind_some h
    obtain ⟨a22, h22, h⟩ := bind_some h
    obtain ⟨a23, h23, h⟩ := bind_some h
    obtain ⟨a24, h24, h⟩ := bind_some h
    obtain ⟨a25, h25, h⟩ := bind_some h
    obtain ⟨a26, h26, h⟩ := bind_some h
    obtain ⟨a27, h27, h⟩ := bind_some h
    obtain ⟨a28, h28, h⟩ := bind_some h
    obtain ⟨a29, h29, h⟩ := bind_some h
    obtain ⟨a30, h30, h⟩ := bind_some h
    obtain ⟨a31, h31, h⟩ := bind_some h
    simp only [Option.some.injEq] at h; subst h
    rw [as_car h0, as_car h1, as_car h2, as_car h3, as_car h4, as_car h5, as_car h6, as_car h7, as_car h8, as_car h9, as_car h10, as_car h11, as_car h12, as_car h13, as_car h14, as_car h15, as_car h16, as_car h17, as_car h18, as_car h19, as_car h20, as_car h21, as_car h22, as_car h23, as_car h24, as_car h25, as_car h26, as_car h27, as_car h28, as_car h29, as_car h30, as_car h31]; rfl
  · simp at h

def enc_G_arr16_G_unicode_utf8_acceptRange (x : G_arr16_G_unicode_utf8_acceptRange) : P := .agg [.int .u8 x.e0.lo, .int .u8 x.e0.hi, .int .u8 x.e1.lo, .int .u8 x.e1.hi, .int .u8 x.e2.lo, .int .u8 x.e2.hi, .int .u8 x.e3.lo, .int .u8 x.e3.hi, .int .u8 x.e4.lo, .int .u8 x.e4.hi, .int .u8 x.e5.lo, .int .u8 x.e5.hi, .int .u8 x.e6.lo, .int .u8 x.e6.hi, .int .u8 x.e7.lo, .int .u8 x.e7.hi, .int .u8 x.e8.lo, .int .u8 x.e8.hi, .int .u8 x.e9.lo, .int .u8 x.e9.hi, .int .u8 x.e10.lo, .int .u8 x.e10.hi, .int .u8 x.e11.lo, .int .u8 x.e11.hi, .int .u8 x.e12.lo, .int .u8 x.e12.hi, .int .u8 x.e13.lo, .int .u8 x.e13.hi, .int .u8 x.e14.lo, .int .u8 x.e14.hi, .int .u8 x.e15.lo, .int .u8 x.e15.hi]

def cellsU : (n : Nat) → carU n → List (Lf carU)
  | 0, x => cells_G_api_Cell x
  | 1, x => cells_G_api_Column x
  | 2, x => cells_G_api_Table x
  | 3, x => cells_G_unicode_utf8_acceptRange x
  | 4, x => cells_G_tablefindermill_Dice x
  | 5, x => cells_G_api_Ref x
  | 6, x => cells_G_arr256_int_u8 x
  | 7, x => cells_G_arr16_G_unicode_utf8_acceptRange x
  | _ + 8, _ => []

def ofU : (n : Nat) → List (Lf carU) → Option (carU n)
  | 0, cs => of_G_api_Cell cs
  | 1, cs => of_G_api_Column cs
  | 2, cs => of_G_api_Table cs
  | 3, cs => of_G_unicode_utf8_acceptRange cs
  | 4, cs => of_G_tablefindermill_Dice cs
  | 5, cs => of_G_api_Ref cs
  | 6, cs => of_G_arr256_int_u8 cs
  | 7, cs => of_G_arr16_G_unicode_utf8_acceptRange cs
  | _ + 8, cs => match cs with | [] => some () | _ => none

def encU : (n : Nat) → carU n → P
  | 0, x => enc_G_api_Cell x
  | 1, x => enc_G_api_Column x
  | 2, x => enc_G_api_Table x
  | 3, x => enc_G_unicode_utf8_acceptRange x
  | 4, x => enc_G_tablefindermill_Dice x
  | 5, x => enc_G_api_Ref x
  | 6, x => enc_G_arr256_int_u8 x
  | 7, x => enc_G_arr16_G_unicode_utf8_acceptRange x
  | _ + 8, _ => .agg []

@[reducible] def U : Univ := ⟨carU, sizeU, cellsU, ofU, encU⟩

theorem enc_G_arr256_int_u8_ok (x : G_arr256_int_u8) : enc_G_arr256_int_u8 x = .agg ((cells_G_arr256_int_u8 x).map U.encL) := by
  unfold enc_G_arr256_int_u8 cells_G_arr256_int_u8
  rw [List.map_map]
  rfl

theorem uok : UOk U where
  of_cells := fun n cs x h => match n, x, h with
    | 0, x, h => of_G_api_Cell_ok cs x h
    | 1, x, h => of_G_api_Column_ok cs x h
    | 2, x, h => of_G_api_Table_ok cs x h
    | 3, x, h => of_G_unicode_utf8_acceptRange_ok cs x h
    | 4, x, h => of_G_tablefindermill_Dice_ok cs x h
    | 5, x, h => of_G_api_Ref_ok cs x h
    | 6, x, h => of_G_arr256_int_u8_ok cs x h
    | 7, x, h => of_G_arr16_G_unicode_utf8_acceptRange_ok cs x h
    | _ + 8, x, h => by
      match cs, h with
      | [], h => rfl
  enc_cells := fun n x => match n, x with
    | 0, x => rfl
    | 1, x => rfl
    | 2, x => rfl
    | 3, x => rfl
    | 4, x => rfl
    | 5, x => rfl
    | 6, x => enc_G_arr256_int_u8_ok x
    | 7, x => rfl
    | _ + 8, x => rfl
  len := fun n x => match n, x with
    | 0, x => rfl
    | 1, x => rfl
    | 2, x => rfl
    | 3, x => rfl
    | 4, x => rfl
    | 5, x => rfl
    | 6, x => (List.length_map ..).trans x.2
    | 7, x => rfl
    | _ + 8, x => rfl

noncomputable def tt0 : List (Option (TT U)) := [
  none,
  some ⟨⟨.func, 1, 8, [.p .nilfn]⟩, none, .bool, [.nilfn], none⟩,
  some ⟨⟨.int .i64, 1, 8, [.p (.int .i64 0)]⟩, none, (.int .i64), [.v (.int .i64) (0 : Int)], some ⟨(.int .i64), (0 : Int)⟩⟩,
  some ⟨⟨.int .i64, 1, 8, [.p (.int .i64 0)]⟩, none, (.int .i64), [.v (.int .i64) (0 : Int)], some ⟨(.int .i64), (0 : Int)⟩⟩,
  some ⟨⟨.bool, 1, 1, [.p (.bool false)]⟩, none, .bool, [.v .bool false], some ⟨.bool, false⟩⟩,
  some ⟨⟨.int .u8, 1, 1, [.p (.int .u8 0)]⟩, none, (.int .u8), [.v (.int .u8) (0 : Int)], some ⟨(.int .u8), (0 : Int)⟩⟩,
  none,
  none,
  none,
  some ⟨⟨.str, 1, 16, [.p (.str [])]⟩, none, .str, [.v .str ([] : Str)], some ⟨.str, ([] : Str)⟩⟩,
  none,
  none,
  some ⟨⟨.int .u64, 1, 8, [.p (.int .u64 0)]⟩, none, (.int .u64), [.v (.int .u64) (0 : Int)], some ⟨(.int .u64), (0 : Int)⟩⟩,
  none,
  none,
  none,
  none,
  none,
  none,
  none,
  none,
  some ⟨⟨.int .i32, 1, 4, [.p (.int .i32 0)]⟩, none, (.int .i32), [.v (.int .i32) (0 : Int)], some ⟨(.int .i32), (0 : Int)⟩⟩,
  some ⟨⟨.sl 5, 1, 24, [.nils 1]⟩, none, (.sl (.int .u8)), [.nils (.int .u8)], some ⟨(.sl (.int .u8)), []⟩⟩,
  none,
  none,
  none,
  none,
  none,
  none,
  none,
  none,
  none,
  some ⟨⟨.struct [(0, 3), (1, 3)], 2, 16, [.p (.int .i64 0), .p (.int .i64 0)]⟩, some 5, (.st 5), [.v (.int .i64) (0 : Int), .v (.int .i64) (0 : Int)], some ⟨(.st 5), (G_api_Ref.mk 0 0)⟩⟩,
  some ⟨⟨.struct [(0, 3), (1, 3)], 2, 16, [.p (.int .i64 0), .p (.int .i64 0)]⟩, some 5, (.st 5), [.v (.int .i64) (0 : Int), .v (.int .i64) (0 : Int)], some ⟨(.st 5), (G_api_Ref.mk 0 0)⟩⟩,
  some ⟨⟨.sl 170, 1, 24, [.nils 1]⟩, none, (.sl (.int .u32)), [.nils (.int .u32)], some ⟨(.sl (.int .u32)), []⟩⟩,
  none,
  none,
  none,
  none,
  none,
  none,
  none,
  some ⟨⟨.func, 1, 8, [.p .nilfn]⟩, none, .bool, [.nilfn], none⟩,
  some ⟨⟨.int .i64, 1, 8, [.p (.int .i64 0)]⟩, none, (.int .i64), [.v (.int .i64) (0 : Int)], some ⟨(.int .i64), (0 : Int)⟩⟩,
  none,
  none,
  some ⟨⟨.sl 76, 1, 24, [.nils 2]⟩, none, (.sl (.st 1)), [.nils (.st 1)], some ⟨(.sl (.st 1)), []⟩⟩,
  some ⟨⟨.struct [(0, 3), (1, 9), (2, 46)], 3, 48, [.p (.int .i64 0), .p (.str []), .nils 2]⟩, some 2, (.st 2), [.v (.int .i64) (0 : Int), .v .str ([] : Str), .nils (.st 1)], some ⟨(.st 2), (G_api_Table.mk 0 ([] : Str) ([] : (List G_api_Column)))⟩⟩,
  some ⟨⟨.struct [(0, 3), (1, 9), (2, 46)], 3, 48, [.p (.int .i64 0), .p (.str []), .nils 2]⟩, some 2, (.st 2), [.v (.int .i64) (0 : Int), .v .str ([] : Str), .nils (.st 1)], some ⟨(.st 2), (G_api_Table.mk 0 ([] : Str) ([] : (List G_api_Column)))⟩⟩,
  none,
  none,
  none,
  none,
  none,
  some ⟨⟨.sl 3, 1, 24, [.nils 1]⟩, none, (.sl (.int .i64)), [.nils (.int .i64)], some ⟨(.sl (.int .i64)), []⟩⟩,
  some ⟨⟨.struct [(0, 4), (1, 9)], 2, 24, [.p (.bool false), .p (.str [])]⟩, some 0, (.st 0), [.v .bool false, .v .str ([] : Str)], some ⟨(.st 0), (G_api_Cell.mk false ([] : Str))⟩⟩,
  some ⟨⟨.struct [(0, 4), (1, 9)], 2, 24, [.p (.bool false), .p (.str [])]⟩, some 0, (.st 0), [.v .bool false, .v .str ([] : Str)], some ⟨(.st 0), (G_api_Cell.mk false ([] : Str))⟩⟩,
  some ⟨⟨.ptr 122, 1, 8, [.p .nilp]⟩, none, .bool, [.nilp], none⟩,
  none,
  some ⟨⟨.sl 48, 1, 24, [.nils 3]⟩, none, (.sl (.st 2)), [.nils (.st 2)], some ⟨(.sl (.st 2)), []⟩⟩,
  none,
  none,
  none,
  none,
  some ⟨⟨.func, 1, 8, [.p .nilfn]⟩, none, .bool, [.nilfn], none⟩,
  some ⟨⟨.func, 1, 8, [.p .nilfn]⟩, none, .bool, [.nilfn], none⟩,
  some ⟨⟨.sl 54, 1, 24, [.nils 1]⟩, none, (.sl (.sl (.int .i64))), [.nils (.sl (.int .i64))], some ⟨(.sl (.sl (.int .i64))), []⟩⟩,
  none,
  none,
  none,
  some ⟨⟨.func, 1, 8, [.p .nilfn]⟩, none, .bool, [.nilfn], none⟩,
  some ⟨⟨.sl 56, 1, 24, [.nils 2]⟩, none, (.sl (.st 0)), [.nils (.st 0)], some ⟨(.sl (.st 0)), []⟩⟩,
  none,
  none,
  some ⟨⟨.func, 1, 8, [.p .nilfn]⟩, none, .bool, [.nilfn], none⟩,
  some ⟨⟨.struct [(0, 9), (1, 71)], 2, 40, [.p (.str []), .nils 2]⟩, some 1, (.st 1), [.v .str ([] : Str), .nils (.st 0)], some ⟨(.st 1), (G_api_Column.mk ([] : Str) ([] : (List G_api_Cell)))⟩⟩,
  some ⟨⟨.struct [(0, 9), (1, 71)], 2, 40, [.p (.str []), .nils 2]⟩, some 1, (.st 1), [.v .str ([] : Str), .nils (.st 0)], some ⟨(.st 1), (G_api_Column.mk ([] : Str) ([] : (List G_api_Cell)))⟩⟩,
  none,
  some ⟨⟨.sl 33, 1, 24, [.nils 2]⟩, none, (.sl (.st 5)), [.nils (.st 5)], some ⟨(.sl (.st 5)), []⟩⟩,
  none,
  none,
  none,
  none,
  none,
  none,
  none,
  some ⟨⟨.func, 1, 8, [.p .nilfn]⟩, none, .bool, [.nilfn], none⟩,
  none,
  none,
  none,
  none,
  none,
  none,
  none,
  none,
  none,
  none,
  none,
  none,
  none,
  none,
  none,
  none,
  none,
  none,
  none,
  none,
  none,
  none,
  none,
  none,
  none,
  none,
  none,
  none,
  none,
  none,
  none,
  none,
  some ⟨⟨.func, 1, 8, [.p .nilfn]⟩, none, .bool, [.nilfn], none⟩,
  none,
  some ⟨⟨.struct [(0, 22), (1, 3)], 2, 32, [.nils 1, .p (.int .i64 0)]⟩, some 4, (.st 4), [.nils (.int .u8), .v (.int .i64) (0 : Int)], some ⟨(.st 4), (G_tablefindermill_Dice.mk ([] : (List Int)) 0)⟩⟩,
  some ⟨⟨.struct [(0, 22), (1, 3)], 2, 32, [.nils 1, .p (.int .i64 0)]⟩, some 4, (.st 4), [.nils (.int .u8), .v (.int .i64) (0 : Int)], some ⟨(.st 4), (G_tablefindermill_Dice.mk ([] : (List Int)) 0)⟩⟩,
  some ⟨⟨.sl 9, 1, 24, [.nils 1]⟩, none, (.sl .str), [.nils .str], some ⟨(.sl .str), []⟩⟩,
  some ⟨⟨.func, 1, 8, [.p .nilfn]⟩, none, .bool, [.nilfn], none⟩,
  some ⟨⟨.func, 1, 8, [.p .nilfn]⟩, none, .bool, [.nilfn], none⟩,
  none,
  none,
  some ⟨⟨.func, 1, 8, [.p .nilfn]⟩, none, .bool, [.nilfn], none⟩,
  none,
  none,
  none,
  none,
  none,
  none,
  none,
  none,
  none,
  some ⟨⟨.map 9 3, 1, 8, [.p (.map (.str) [])]⟩, none, (.map .str (.int .i64)), [.v (.map .str (.int .i64)) []], some ⟨(.map .str (.int .i64)), []⟩⟩,
  none,
  none,
  none,
  none,
  none,
  none,
  none,
  none,
  none,
  none,
  none,
  none,
  none,
  none,
  none,
  none,
  none,
  none,
  none,
  none,
  none,
  none,
  none,
  none,
  none,
  none,
  none,
  none,
  none,
  none,
  none,
  some ⟨⟨.int .u32, 1, 4, [.p (.int .u32 0)]⟩, none, (.int .u32), [.v (.int .u32) (0 : Int)], some ⟨(.int .u32), (0 : Int)⟩⟩,
  none,
  none,
  none,
  none,
  some ⟨⟨.func, 1, 8, [.p .nilfn]⟩, none, .bool, [.nilfn], none⟩,
  none,
  none,
  none,
  none,
  none,
  none,
  none,
  none,
  none,
  none,
  some ⟨⟨.int .u64, 1, 8, [.p (.int .u64 0)]⟩, none, (.int .u64), [.v (.int .u64) (0 : Int)], some ⟨(.int .u64), (0 : Int)⟩⟩,
  none,
  none,
  none,
  none,
  none,
  none,
  none,
  none,
  none,
  none,
  none,
  none,
  none,
  none,
  none,
  none,
  none,
  some ⟨⟨.arr 256 5, 256, 256, [.p (.int .u8 0), .p (.int .u8 0), .p (.int .u8 0), .p (.int .u8 0), .p (.int .u8 0), .p (.int .u8 0), .p (.int .u8 0), .p (.int .u8 0), .p (.int .u8 0), .p (.int .u8 0), .p (.int .u8 0), .p (.int .u8 0), .p (.int .u8 0), .p (.int .u8 0), .p (.int .u8 0), .p (.int .u8 0), .p (.int .u8 0), .p (.int .u8 0), .p (.int .u8 0), .p (.int .u8 0), .p (.int .u8 0), .p (.int .u8 0), .p (.int .u8 0), .p (.int .u8 0), .p (.int .u8 0), .p (.int .u8 0), .p (.int .u8 0), .p (.int .u8 0), .p (.int .u8 0), .p (.int .u8 0), .p (.int .u8 0), .p (.int .u8 0), .p (.int .u8 0), .p (.int .u8 0), .p (.int .u8 0), .p (.int .u8 0), .p (.int .u8 0), .p (.int .u8 0), .p (.int .u8 0), .p (.int .u8 0), .p (.int .u8 0), .p (.int .u8 0), .p (.int .u8 0), .p (.int .u8 0), .p (.int .u8 0), .p (.int .u8 0), .p (.int .u8 0), .p (.int .u8 0), .p (.int .u8 0), .p (.int .u8 0), .p (.int .u8 0), .p (.int .u8 0), .p (.int .u8 0), .p (.int .u8 0), .p (.int .u8 0), .p (.int .u8 0), .p (.int .u8 0), .p (.int .u8 0), .p (.int .u8 0), .p (.int .u8 0), .p (.int .u8 0), .p (.int .u8 0), .p (.int .u8 0), .p (.int .u8 0), .p (.int .u8 0), .p (.int .u8 0), .p (.int .u8 0), .p (.int .u8 0), .p (.int .u8 0), .p (.int .u8 0), .p (.int .u8 0), .p (.int .u8 0), .p (.int .u8 0), .p (.int .u8 0), .p (.int .u8 0), .p (.int .u8 0), .p (.int .u8 0), .p (.int .u8 0), .p (.int .u8 0), .p (.int .u8 0), .p (.int .u8 0), .p (.int .u8 0), .p (.int .u8 0), .p (.int .u8 0), .p (.int .u8 0), .p (.int .u8 0), .p (.int .u8 0), .p (.int .u8 0), .p (.int .u8 0), .p (.int .u8 0), .p (.int .u8 0), .p (.int .u8 0), .p (.int .u8 0), .p (.int .u8 0), .p (.int .u8 0), .p (.int .u8 0), .p (.int .u8 0), .p (.int .u8 0), .p (.int .u8 0), .p (.int .u8 0), .p (.int .u8 0), .p (.int .u8 0), .p (.int .u8 0), .p (.int .u8 0), .p (.int .u8 0), .p (.int .u8 0), .p (.int .u8 0), .p (.int .u8 0), .p (.int .u8 0), .p (.int .u8 0), .p (.int .u8 0), .p (.int .u8 0), .p (.int .u8 0), .p (.int .u8 0), .p (.int .u8 0), .p (.int .u8 0), .p (.int .u8 0), .p (.int .u8 0), .p (.int .u8 0), .p (.int .u8 0), .p (.int .u8 0), .p (.int .u8 0), .p (.int .u8 0), .p (.int .u8 0), .p (.int .u8 0), .p (.int .u8 0), .p (.int .u8 0), .p (.int .u8 0), .p (.int .u8 0), .p (.int .u8 0), .p (.int .u8 0), .p (.int .u8 0), .p (.int .u8 0), .p (.int .u8 0), .p (.int .u8 0), .p (.int .u8 0), .p (.int .u8 0), .p (.int .u8 0), .p (.int .u8 0), .p (.int .u8 0), .p (.int .u8 0), .p (.int .u8 0), .p (.int .u8 0), .p (.int .u8 0), .p (.int .u8 0), .p (.int .u8 0), .p (.int .u8 0), .p (.int .u8 0), .p (.int .u8 0), .p (.int .u8 0), .p (.int .u8 0), .p (.int .u8 0), .p (.int .u8 0), .p (.int .u8 0), .p (.int .u8 0), .p (.int .u8 0), .p (.int .u8 0), .p (.int .u8 0), .p (.int .u8 0), .p (.int .u8 0), .p (.int .u8 0), .p (.int .u8 0), .p (.int .u8 0), .p (.int .u8 0), .p (.int .u8 0), .p (.int .u8 0), .p (.int .u8 0), .p (.int .u8 0), .p (.int .u8 0), .p (.int .u8 0), .p (.int .u8 0), .p (.int .u8 0), .p (.int .u8 0), .p (.int .u8 0), .p (.int .u8 0), .p (.int .u8 0), .p (.int .u8 0), .p (.int .u8 0), .p (.int .u8 0), .p (.int .u8 0), .p (.int .u8 0), .p (.int .u8 0), .p (.int .u8 0), .p (.int .u8 0), .p (.int .u8 0), .p (.int .u8 0), .p (.int .u8 0), .p (.int .u8 0), .p (.int .u8 0), .p (.int .u8 0), .p (.int .u8 0), .p (.int .u8 0), .p (.int .u8 0), .p (.int .u8 0), .p (.int .u8 0), .p (.int .u8 0), .p (.int .u8 0), .p (.int .u8 0), .p (.int .u8 0), .p (.int .u8 0), .p (.int .u8 0), .p (.int .u8 0), .p (.int .u8 0), .p (.int .u8 0), .p (.int .u8 0), .p (.int .u8 0), .p (.int .u8 0), .p (.int .u8 0), .p (.int .u8 0), .p (.int .u8 0), .p (.int .u8 0), .p (.int .u8 0), .p (.int .u8 0), .p (.int .u8 0), .p (.int .u8 0), .p (.int .u8 0), .p (.int .u8 0), .p (.int .u8 0), .p (.int .u8 0), .p (.int .u8 0), .p (.int .u8 0), .p (.int .u8 0), .p (.int .u8 0), .p (.int .u8 0), .p (.int .u8 0), .p (.int .u8 0), .p (.int .u8 0), .p (.int .u8 0), .p (.int .u8 0), .p (.int .u8 0), .p (.int .u8 0), .p (.int .u8 0), .p (.int .u8 0), .p (.int .u8 0), .p (.int .u8 0), .p (.int .u8 0), .p (.int .u8 0), .p (.int .u8 0), .p (.int .u8 0), .p (.int .u8 0), .p (.int .u8 0), .p (.int .u8 0), .p (.int .u8 0), .p (.int .u8 0), .p (.int .u8 0), .p (.int .u8 0), .p (.int .u8 0), .p (.int .u8 0), .p (.int .u8 0), .p (.int .u8 0), .p (.int .u8 0), .p (.int .u8 0), .p (.int .u8 0), .p (.int .u8 0), .p (.int .u8 0), .p (.int .u8 0)]⟩, some 6, (.st 6), List.replicate 256 (.v (.int .u8) (0 : Int)), some ⟨(.st 6), (⟨List.replicate 256 (0 : Int), List.length_replicate⟩ : G_arr256_int_u8)⟩⟩,
  some ⟨⟨.struct [(0, 5), (1, 5)], 2, 2, [.p (.int .u8 0), .p (.int .u8 0)]⟩, some 3, (.st 3), [.v (.int .u8) (0 : Int), .v (.int .u8) (0 : Int)], some ⟨(.st 3), (G_unicode_utf8_acceptRange.mk 0 0)⟩⟩,
  some ⟨⟨.struct [(0, 5), (1, 5)], 2, 2, [.p (.int .u8 0), .p (.int .u8 0)]⟩, some 3, (.st 3), [.v (.int .u8) (0 : Int), .v (.int .u8) (0 : Int)], some ⟨(.st 3), (G_unicode_utf8_acceptRange.mk 0 0)⟩⟩,
  some ⟨⟨.arr 16 206, 32, 32, [.p (.int .u8 0), .p (.int .u8 0), .p (.int .u8 0), .p (.int .u8 0), .p (.int .u8 0), .p (.int .u8 0), .p (.int .u8 0), .p (.int .u8 0), .p (.int .u8 0), .p (.int .u8 0), .p (.int .u8 0), .p (.int .u8 0), .p (.int .u8 0), .p (.int .u8 0), .p (.int .u8 0), .p (.int .u8 0), .p (.int .u8 0), .p (.int .u8 0), .p (.int .u8 0), .p (.int .u8 0), .p (.int .u8 0), .p (.int .u8 0), .p (.int .u8 0), .p (.int .u8 0), .p (.int .u8 0), .p (.int .u8 0), .p (.int .u8 0), .p (.int .u8 0), .p (.int .u8 0), .p (.int .u8 0), .p (.int .u8 0), .p (.int .u8 0)]⟩, some 7, (.st 7), [.v (.int .u8) (0 : Int), .v (.int .u8) (0 : Int), .v (.int .u8) (0 : Int), .v (.int .u8) (0 : Int), .v (.int .u8) (0 : Int), .v (.int .u8) (0 : Int), .v (.int .u8) (0 : Int), .v (.int .u8) (0 : Int), .v (.int .u8) (0 : Int), .v (.int .u8) (0 : Int), .v (.int .u8) (0 : Int), .v (.int .u8) (0 : Int), .v (.int .u8) (0 : Int), .v (.int .u8) (0 : Int), .v (.int .u8) (0 : Int), .v (.int .u8) (0 : Int), .v (.int .u8) (0 : Int), .v (.int .u8) (0 : Int), .v (.int .u8) (0 : Int), .v (.int .u8) (0 : Int), .v (.int .u8) (0 : Int), .v (.int .u8) (0 : Int), .v (.int .u8) (0 : Int), .v (.int .u8) (0 : Int), .v (.int .u8) (0 : Int), .v (.int .u8) (0 : Int), .v (.int .u8) (0 : Int), .v (.int .u8) (0 : Int), .v (.int .u8) (0 : Int), .v (.int .u8) (0 : Int), .v (.int .u8) (0 : Int), .v (.int .u8) (0 : Int)], some ⟨(.st 7), (G_arr16_G_unicode_utf8_acceptRange.mk (G_unicode_utf8_acceptRange.mk 0 0) (G_unicode_utf8_acceptRange.mk 0 0) (G_unicode_utf8_acceptRange.mk 0 0) (G_unicode_utf8_acceptRange.mk 0 0) (G_unicode_utf8_acceptRange.mk 0 0) (G_unicode_utf8_acceptRange.mk 0 0) (G_unicode_utf8_acceptRange.mk 0 0) (G_unicode_utf8_acceptRange.mk 0 0) (G_unicode_utf8_acceptRange.mk 0 0) (G_unicode_utf8_acceptRange.mk 0 0) (G_unicode_utf8_acceptRange.mk 0 0) (G_unicode_utf8_acceptRange.mk 0 0) (G_unicode_utf8_acceptRange.mk 0 0) (G_unicode_utf8_acceptRange.mk 0 0) (G_unicode_utf8_acceptRange.mk 0 0) (G_unicode_utf8_acceptRange.mk 0 0))⟩⟩,
  none,
  some ⟨⟨.int .u64, 1, 8, [.p (.int .u64 0)]⟩, none, (.int .u64), [.v (.int .u64) (0 : Int)], some ⟨(.int .u64), (0 : Int)⟩⟩,
  none,
  none,
  none,
  none,
  none,
  none,
  none,
  none,
  none,
  none,
  none,
  none,
  none,
  none,
  none,
  none,
  none,
  none,
  none,
  none,
  none,
  none,
  none,
  none,
  none,
  none,
  none,
  none,
  none,
  none,
  none,
  none,
  none,
  none,
  none,
  none,
  none,
  none,
  none,
  none,
  none,
  none,
  none,
  none,
  none,
  none,
  none,
  none,
  none,
  none,
  none,
  none,
  none,
  none,
  none,
  none,
  none,
  none,
  none,
  none,
  none,
  none,
  none,
  none,
  some ⟨⟨.int .u16, 1, 2, [.p (.int .u16 0)]⟩, none, (.int .u16), [.v (.int .u16) (0 : Int)], some ⟨(.int .u16), (0 : Int)⟩⟩,
  some ⟨⟨.sl 274, 1, 24, [.nils 1]⟩, none, (.sl (.int .u16)), [.nils (.int .u16)], some ⟨(.sl (.int .u16)), []⟩⟩,
  none,
  none,
  none,
  none,
  none,
  none,
  none,
  none,
  none,
  none,
  none,
  none,
  none,
  none,
  none,
  none,
  none,
  none,
  none,
  none,
  none,
  some ⟨⟨.func, 1, 8, [.p .nilfn]⟩, none, .bool, [.nilfn], none⟩,
  some ⟨⟨.ptr 5, 1, 8, [.p .nilp]⟩, none, .bool, [.nilp], none⟩,
  none,
  none,
  none,
  none,
  none,
  none,
  none]
noncomputable def X0 : TEnv U := ⟨Tryz.prog, tt0, [(0, glob_utf8_first), (1, glob_utf8_acceptRanges), (3, glob_strconv_uint64pow10)], 0⟩
theorem tok0 : TOk X0 := tok_of (by kernel_rfl) (by kernel_rfl) (by kernel_rfl)
theorem eok0 : EnvOk X0.E := ⟨by kernel_rfl⟩
theorem mixed : X0.prog.follows .mixedOrders = true := by kernel_rfl
theorem G0 : Gnd X0 := ⟨uok, tok0, eok0, mixed⟩

noncomputable def S_s_strconv_Itoa : FSig U := ⟨Str, [3], [.p], [none], [.p (.int .i64)], fun v => s_strconv_Itoa v.1, fun q => ⟨[.p ⟨.str, q⟩], []⟩⟩
end Go.Proofs
