/- Printed by wip/tools/tgen.py: tables. -/
import Derived.Test.YtjdddnbddnhilaaAlS
import Derived.Test.YtjdddnbddnhilaaProg
import Derived.KernelRfl
set_option linter.unusedVariables false
set_option linter.unusedSimpArgs false
set_option linter.unusedSectionVars false
namespace Go.Proofs
open Go Eng

def cells_G_api_Permission (x : G_api_Permission) : List (Lf carU) := [⟨.str, x.User⟩, ⟨.bool, x.Allow⟩, ⟨(.int .i64), x.Table⟩, ⟨(.int .i64), x.Column⟩]

def of_G_api_Permission : List (Lf carU) → Option G_api_Permission
  | [c0, c1, c2, c3] => (c0.as .str).bind fun a0 => (c1.as .bool).bind fun a1 => (c2.as (.int .i64)).bind fun a2 => (c3.as (.int .i64)).bind fun a3 => some (G_api_Permission.mk a0 a1 a2 a3)
  | _ => none

theorem of_G_api_Permission_ok (cs : List (Lf carU)) (x : G_api_Permission) (h : of_G_api_Permission cs = some x) : cells_G_api_Permission x = cs := by
  unfold of_G_api_Permission at h
  split at h
  · obtain ⟨a0, h0, h⟩ := bind_some h
    obtain ⟨a1, h1, h⟩ := bind_some h
    obtain ⟨a2, h2, h⟩ := bind_some h
    obtain ⟨a3, h3, h⟩ := bind_some h
    simp only [Option.some.injEq] at h; subst h
    rw [as_car h0, as_car h1, as_car h2, as_car h3]; rfl
  · simp at h

def enc_G_api_Permission (x : G_api_Permission) : P := .agg [.str x.User, .bool x.Allow, .int .i64 x.Table, .int .i64 x.Column]

def cells_G_api_Cell (x : G_api_Cell) : List (Lf carU) := [⟨.bool, x.Null⟩, ⟨.str, x.Text⟩]

def of_G_api_Cell : List (Lf carU) → Option G_api_Cell
  | [c0, c1] => (c0.as .bool).bind fun a0 => (c1.as .str).bind fun a1 => some (G_api_Cell.mk a0 a1)
  | _ => none

theorem of_G_api_Cell_ok (cs : List (Lf carU)) (x : G_api_Cell) (h : of_G_api_Cell cs = some x) : cells_G_api_Cell x = cs := by
  unfold of_G_api_Cell at h
  split at h
  · obtain ⟨a0, h0, h⟩ := bind_some h
    obtain ⟨a1, h1, h⟩ := bind_some h
    simp only [Option.some.injEq] at h; subst h
    rw [as_car h0, as_car h1]; rfl
  · simp at h

def enc_G_api_Cell (x : G_api_Cell) : P := .agg [.bool x.Null, .str x.Text]

def cells_G_api_Column (x : G_api_Column) : List (Lf carU) := [⟨.str, x.Name⟩, ⟨(.sl (.st 1)), x.Cells⟩]

def of_G_api_Column : List (Lf carU) → Option G_api_Column
  | [c0, c1] => (c0.as .str).bind fun a0 => (c1.as (.sl (.st 1))).bind fun a1 => some (G_api_Column.mk a0 a1)
  | _ => none

theorem of_G_api_Column_ok (cs : List (Lf carU)) (x : G_api_Column) (h : of_G_api_Column cs = some x) : cells_G_api_Column x = cs := by
  unfold of_G_api_Column at h
  split at h
  · obtain ⟨a0, h0, h⟩ := bind_some h
    obtain ⟨a1, h1, h⟩ := bind_some h
    simp only [Option.some.injEq] at h; subst h
    rw [as_car h0, as_car h1]; rfl
  · simp at h

def enc_G_api_Column (x : G_api_Column) : P := .agg [.str x.Name, .sl 2 (x.Cells.map enc_G_api_Cell)]

def cells_G_api_Table (x : G_api_Table) : List (Lf carU) := [⟨(.int .i64), x.ID⟩, ⟨.str, x.Name⟩, ⟨(.sl (.st 2)), x.Columns⟩]

def of_G_api_Table : List (Lf carU) → Option G_api_Table
  | [c0, c1, c2] => (c0.as (.int .i64)).bind fun a0 => (c1.as .str).bind fun a1 => (c2.as (.sl (.st 2))).bind fun a2 => some (G_api_Table.mk a0 a1 a2)
  | _ => none

theorem of_G_api_Table_ok (cs : List (Lf carU)) (x : G_api_Table) (h : of_G_api_Table cs = some x) : cells_G_api_Table x = cs := by
  unfold of_G_api_Table at h
  split at h
  · obtain ⟨a0, h0, h⟩ := bind_some h
    obtain ⟨a1, h1, h⟩ := bind_some h
    obtain ⟨a2, h2, h⟩ := bind_some h
    simp only [Option.some.injEq] at h; subst h
    rw [as_car h0, as_car h1, as_car h2]; rfl
  · simp at h

def enc_G_api_Table (x : G_api_Table) : P := .agg [.int .i64 x.ID, .str x.Name, .sl 2 (x.Columns.map enc_G_api_Column)]

def cells_G_api_Ref (x : G_api_Ref) : List (Lf carU) := [⟨(.int .i64), x.Table⟩, ⟨(.int .i64), x.Column⟩]

def of_G_api_Ref : List (Lf carU) → Option G_api_Ref
  | [c0, c1] => (c0.as (.int .i64)).bind fun a0 => (c1.as (.int .i64)).bind fun a1 => some (G_api_Ref.mk a0 a1)
  | _ => none

theorem of_G_api_Ref_ok (cs : List (Lf carU)) (x : G_api_Ref) (h : of_G_api_Ref cs = some x) : cells_G_api_Ref x = cs := by
  unfold of_G_api_Ref at h
  split at h
  · obtain ⟨a0, h0, h⟩ := bind_some h
    obtain ⟨a1, h1, h⟩ := bind_some h
    simp only [Option.some.injEq] at h; subst h
    rw [as_car h0, as_car h1]; rfl
  · simp at h

def enc_G_api_Ref (x : G_api_Ref) : P := .agg [.int .i64 x.Table, .int .i64 x.Column]

def cells_G_tablefinderkit_Dice (x : G_tablefinderkit_Dice) : List (Lf carU) := [⟨(.sl (.int .i64)), x.l⟩, ⟨(.int .i64), x.at_⟩]

def of_G_tablefinderkit_Dice : List (Lf carU) → Option G_tablefinderkit_Dice
  | [c0, c1] => (c0.as (.sl (.int .i64))).bind fun a0 => (c1.as (.int .i64)).bind fun a1 => some (G_tablefinderkit_Dice.mk a0 a1)
  | _ => none

theorem of_G_tablefinderkit_Dice_ok (cs : List (Lf carU)) (x : G_tablefinderkit_Dice) (h : of_G_tablefinderkit_Dice cs = some x) : cells_G_tablefinderkit_Dice x = cs := by
  unfold of_G_tablefinderkit_Dice at h
  split at h
  · obtain ⟨a0, h0, h⟩ := bind_some h
    obtain ⟨a1, h1, h⟩ := bind_some h
    simp only [Option.some.injEq] at h; subst h
    rw [as_car h0, as_car h1]; rfl
  · simp at h

def enc_G_tablefinderkit_Dice (x : G_tablefinderkit_Dice) : P := .agg [.sl 1 (x.l.map (fun x => .int .i64 x)), .int .i64 x.at_]

def cells_G_api_Task (x : G_api_Task) : List (Lf carU) := [⟨(.int .i64), x.From⟩, ⟨(.int .i64), x.To⟩]

def of_G_api_Task : List (Lf carU) → Option G_api_Task
  | [c0, c1] => (c0.as (.int .i64)).bind fun a0 => (c1.as (.int .i64)).bind fun a1 => some (G_api_Task.mk a0 a1)
  | _ => none

theorem of_G_api_Task_ok (cs : List (Lf carU)) (x : G_api_Task) (h : of_G_api_Task cs = some x) : cells_G_api_Task x = cs := by
  unfold of_G_api_Task at h
  split at h
  · obtain ⟨a0, h0, h⟩ := bind_some h
    obtain ⟨a1, h1, h⟩ := bind_some h
    simp only [Option.some.injEq] at h; subst h
    rw [as_car h0, as_car h1]; rfl
  · simp at h

def enc_G_api_Task (x : G_api_Task) : P := .agg [.int .i64 x.From, .int .i64 x.To]

def cellsU : (n : Nat) → carU n → List (Lf carU)
  | 0, x => cells_G_api_Permission x
  | 1, x => cells_G_api_Cell x
  | 2, x => cells_G_api_Column x
  | 3, x => cells_G_api_Table x
  | 4, x => cells_G_api_Ref x
  | 5, x => cells_G_tablefinderkit_Dice x
  | 6, x => cells_G_api_Task x
  | _ + 7, _ => []

def ofU : (n : Nat) → List (Lf carU) → Option (carU n)
  | 0, cs => of_G_api_Permission cs
  | 1, cs => of_G_api_Cell cs
  | 2, cs => of_G_api_Column cs
  | 3, cs => of_G_api_Table cs
  | 4, cs => of_G_api_Ref cs
  | 5, cs => of_G_tablefinderkit_Dice cs
  | 6, cs => of_G_api_Task cs
  | _ + 7, cs => match cs with | [] => some () | _ => none

def encU : (n : Nat) → carU n → P
  | 0, x => enc_G_api_Permission x
  | 1, x => enc_G_api_Cell x
  | 2, x => enc_G_api_Column x
  | 3, x => enc_G_api_Table x
  | 4, x => enc_G_api_Ref x
  | 5, x => enc_G_tablefinderkit_Dice x
  | 6, x => enc_G_api_Task x
  | _ + 7, _ => .agg []

@[reducible] def U : Univ := ⟨carU, sizeU, cellsU, ofU, encU⟩

theorem uok : UOk U where
  of_cells := fun n cs x h => match n, x, h with
    | 0, x, h => of_G_api_Permission_ok cs x h
    | 1, x, h => of_G_api_Cell_ok cs x h
    | 2, x, h => of_G_api_Column_ok cs x h
    | 3, x, h => of_G_api_Table_ok cs x h
    | 4, x, h => of_G_api_Ref_ok cs x h
    | 5, x, h => of_G_tablefinderkit_Dice_ok cs x h
    | 6, x, h => of_G_api_Task_ok cs x h
    | _ + 7, x, h => by
      match cs, h with
      | [], h => rfl
  enc_cells := fun n x => match n, x with
    | 0, x => rfl
    | 1, x => rfl
    | 2, x => rfl
    | 3, x => rfl
    | 4, x => rfl
    | 5, x => rfl
    | 6, x => rfl
    | _ + 7, x => rfl
  len := fun n x => match n, x with
    | 0, x => rfl
    | 1, x => rfl
    | 2, x => rfl
    | 3, x => rfl
    | 4, x => rfl
    | 5, x => rfl
    | 6, x => rfl
    | _ + 7, x => rfl

noncomputable def tt0 : List (Option (TT U)) := [
  none,
  some ⟨⟨.func, 1, 8, [.p .nilfn]⟩, none, .bool, [.nilfn], none⟩,
  some ⟨⟨.int .i64, 1, 8, [.p (.int .i64 0)]⟩, none, (.int .i64), [.v (.int .i64) (0 : Int)], some ⟨(.int .i64), (0 : Int)⟩⟩,
  some ⟨⟨.int .i64, 1, 8, [.p (.int .i64 0)]⟩, none, (.int .i64), [.v (.int .i64) (0 : Int)], some ⟨(.int .i64), (0 : Int)⟩⟩,
  some ⟨⟨.bool, 1, 1, [.p (.bool false)]⟩, none, .bool, [.v .bool false], some ⟨.bool, false⟩⟩,
  some ⟨⟨.int .u8, 1, 1, [.p (.int .u8 0)]⟩, none, (.int .u8), [.v (.int .u8) (0 : Int)], some ⟨(.int .u8), (0 : Int)⟩⟩,
  none,
  none,
  none,
  some ⟨⟨.str, 1, 16, [.p (.str [])]⟩, none, .str, [.v .str ([] : Str)], some ⟨.str, ([] : Str)⟩⟩,
  none,
  none,
  some ⟨⟨.int .u64, 1, 8, [.p (.int .u64 0)]⟩, none, (.int .u64), [.v (.int .u64) (0 : Int)], some ⟨(.int .u64), (0 : Int)⟩⟩,
  none,
  none,
  none,
  none,
  none,
  none,
  none,
  none,
  some ⟨⟨.int .i32, 1, 4, [.p (.int .i32 0)]⟩, none, (.int .i32), [.v (.int .i32) (0 : Int)], some ⟨(.int .i32), (0 : Int)⟩⟩,
  some ⟨⟨.func, 1, 8, [.p .nilfn]⟩, none, .bool, [.nilfn], none⟩,
  some ⟨⟨.sl 28, 1, 24, [.nils 2]⟩, none, (.sl (.st 6)), [.nils (.st 6)], some ⟨(.sl (.st 6)), []⟩⟩,
  some ⟨⟨.int .i64, 1, 8, [.p (.int .i64 0)]⟩, none, (.int .i64), [.v (.int .i64) (0 : Int)], some ⟨(.int .i64), (0 : Int)⟩⟩,
  none,
  some ⟨⟨.func, 1, 8, [.p .nilfn]⟩, none, .bool, [.nilfn], none⟩,
  some ⟨⟨.struct [(0, 3), (1, 3)], 2, 16, [.p (.int .i64 0), .p (.int .i64 0)]⟩, some 6, (.st 6), [.v (.int .i64) (0 : Int), .v (.int .i64) (0 : Int)], some ⟨(.st 6), (G_api_Task.mk 0 0)⟩⟩,
  some ⟨⟨.struct [(0, 3), (1, 3)], 2, 16, [.p (.int .i64 0), .p (.int .i64 0)]⟩, some 6, (.st 6), [.v (.int .i64) (0 : Int), .v (.int .i64) (0 : Int)], some ⟨(.st 6), (G_api_Task.mk 0 0)⟩⟩,
  some ⟨⟨.func, 1, 8, [.p .nilfn]⟩, none, .bool, [.nilfn], none⟩,
  some ⟨⟨.func, 1, 8, [.p .nilfn]⟩, none, .bool, [.nilfn], none⟩,
  some ⟨⟨.sl 3, 1, 24, [.nils 1]⟩, none, (.sl (.int .i64)), [.nils (.int .i64)], some ⟨(.sl (.int .i64)), []⟩⟩,
  some ⟨⟨.func, 1, 8, [.p .nilfn]⟩, none, .bool, [.nilfn], none⟩,
  some ⟨⟨.sl 40, 1, 24, [.nils 4]⟩, none, (.sl (.st 0)), [.nils (.st 0)], some ⟨(.sl (.st 0)), []⟩⟩,
  some ⟨⟨.func, 1, 8, [.p .nilfn]⟩, none, .bool, [.nilfn], none⟩,
  some ⟨⟨.ptr 58, 1, 8, [.p .nilp]⟩, none, .bool, [.nilp], none⟩,
  some ⟨⟨.func, 1, 8, [.p .nilfn]⟩, none, .bool, [.nilfn], none⟩,
  some ⟨⟨.struct [(0, 3), (1, 3)], 2, 16, [.p (.int .i64 0), .p (.int .i64 0)]⟩, some 4, (.st 4), [.v (.int .i64) (0 : Int), .v (.int .i64) (0 : Int)], some ⟨(.st 4), (G_api_Ref.mk 0 0)⟩⟩,
  some ⟨⟨.struct [(0, 3), (1, 3)], 2, 16, [.p (.int .i64 0), .p (.int .i64 0)]⟩, some 4, (.st 4), [.v (.int .i64) (0 : Int), .v (.int .i64) (0 : Int)], some ⟨(.st 4), (G_api_Ref.mk 0 0)⟩⟩,
  some ⟨⟨.struct [(0, 9), (1, 4), (2, 3), (3, 3)], 4, 40, [.p (.str []), .p (.bool false), .p (.int .i64 0), .p (.int .i64 0)]⟩, some 0, (.st 0), [.v .str ([] : Str), .v .bool false, .v (.int .i64) (0 : Int), .v (.int .i64) (0 : Int)], some ⟨(.st 0), (G_api_Permission.mk ([] : Str) false 0 0)⟩⟩,
  some ⟨⟨.struct [(0, 9), (1, 4), (2, 3), (3, 3)], 4, 40, [.p (.str []), .p (.bool false), .p (.int .i64 0), .p (.int .i64 0)]⟩, some 0, (.st 0), [.v .str ([] : Str), .v .bool false, .v (.int .i64) (0 : Int), .v (.int .i64) (0 : Int)], some ⟨(.st 0), (G_api_Permission.mk ([] : Str) false 0 0)⟩⟩,
  some ⟨⟨.sl 4, 1, 24, [.nils 1]⟩, none, (.sl .bool), [.nils .bool], some ⟨(.sl .bool), []⟩⟩,
  some ⟨⟨.func, 1, 8, [.p .nilfn]⟩, none, .bool, [.nilfn], none⟩,
  some ⟨⟨.func, 1, 8, [.p .nilfn]⟩, none, .bool, [.nilfn], none⟩,
  some ⟨⟨.struct [(0, 4), (1, 9)], 2, 24, [.p (.bool false), .p (.str [])]⟩, some 1, (.st 1), [.v .bool false, .v .str ([] : Str)], some ⟨(.st 1), (G_api_Cell.mk false ([] : Str))⟩⟩,
  some ⟨⟨.struct [(0, 4), (1, 9)], 2, 24, [.p (.bool false), .p (.str [])]⟩, some 1, (.st 1), [.v .bool false, .v .str ([] : Str)], some ⟨(.st 1), (G_api_Cell.mk false ([] : Str))⟩⟩,
  some ⟨⟨.sl 45, 1, 24, [.nils 2]⟩, none, (.sl (.st 1)), [.nils (.st 1)], some ⟨(.sl (.st 1)), []⟩⟩,
  some ⟨⟨.struct [(0, 9), (1, 46)], 2, 40, [.p (.str []), .nils 2]⟩, some 2, (.st 2), [.v .str ([] : Str), .nils (.st 1)], some ⟨(.st 2), (G_api_Column.mk ([] : Str) ([] : (List G_api_Cell)))⟩⟩,
  some ⟨⟨.struct [(0, 9), (1, 46)], 2, 40, [.p (.str []), .nils 2]⟩, some 2, (.st 2), [.v .str ([] : Str), .nils (.st 1)], some ⟨(.st 2), (G_api_Column.mk ([] : Str) ([] : (List G_api_Cell)))⟩⟩,
  some ⟨⟨.sl 53, 1, 24, [.nils 3]⟩, none, (.sl (.st 3)), [.nils (.st 3)], some ⟨(.sl (.st 3)), []⟩⟩,
  some ⟨⟨.func, 1, 8, [.p .nilfn]⟩, none, .bool, [.nilfn], none⟩,
  some ⟨⟨.sl 48, 1, 24, [.nils 2]⟩, none, (.sl (.st 2)), [.nils (.st 2)], some ⟨(.sl (.st 2)), []⟩⟩,
  some ⟨⟨.struct [(0, 3), (1, 9), (2, 51)], 3, 48, [.p (.int .i64 0), .p (.str []), .nils 2]⟩, some 3, (.st 3), [.v (.int .i64) (0 : Int), .v .str ([] : Str), .nils (.st 2)], some ⟨(.st 3), (G_api_Table.mk 0 ([] : Str) ([] : (List G_api_Column)))⟩⟩,
  some ⟨⟨.struct [(0, 3), (1, 9), (2, 51)], 3, 48, [.p (.int .i64 0), .p (.str []), .nils 2]⟩, some 3, (.st 3), [.v (.int .i64) (0 : Int), .v .str ([] : Str), .nils (.st 2)], some ⟨(.st 3), (G_api_Table.mk 0 ([] : Str) ([] : (List G_api_Column)))⟩⟩,
  some ⟨⟨.func, 1, 8, [.p .nilfn]⟩, none, .bool, [.nilfn], none⟩,
  some ⟨⟨.func, 1, 8, [.p .nilfn]⟩, none, .bool, [.nilfn], none⟩,
  some ⟨⟨.func, 1, 8, [.p .nilfn]⟩, none, .bool, [.nilfn], none⟩,
  some ⟨⟨.struct [(0, 31), (1, 3)], 2, 32, [.nils 1, .p (.int .i64 0)]⟩, some 5, (.st 5), [.nils (.int .i64), .v (.int .i64) (0 : Int)], some ⟨(.st 5), (G_tablefinderkit_Dice.mk ([] : (List Int)) 0)⟩⟩,
  some ⟨⟨.struct [(0, 31), (1, 3)], 2, 32, [.nils 1, .p (.int .i64 0)]⟩, some 5, (.st 5), [.nils (.int .i64), .v (.int .i64) (0 : Int)], some ⟨(.st 5), (G_tablefinderkit_Dice.mk ([] : (List Int)) 0)⟩⟩,
  some ⟨⟨.func, 1, 8, [.p .nilfn]⟩, none, .bool, [.nilfn], none⟩,
  some ⟨⟨.func, 1, 8, [.p .nilfn]⟩, none, .bool, [.nilfn], none⟩,
  some ⟨⟨.func, 1, 8, [.p .nilfn]⟩, none, .bool, [.nilfn], none⟩,
  none,
  some ⟨⟨.func, 1, 8, [.p .nilfn]⟩, none, .bool, [.nilfn], none⟩,
  some ⟨⟨.sl 9, 1, 24, [.nils 1]⟩, none, (.sl .str), [.nils .str], some ⟨(.sl .str), []⟩⟩,
  some ⟨⟨.func, 1, 8, [.p .nilfn]⟩, none, .bool, [.nilfn], none⟩,
  some ⟨⟨.func, 1, 8, [.p .nilfn]⟩, none, .bool, [.nilfn], none⟩,
  some ⟨⟨.func, 1, 8, [.p .nilfn]⟩, none, .bool, [.nilfn], none⟩,
  some ⟨⟨.func, 1, 8, [.p .nilfn]⟩, none, .bool, [.nilfn], none⟩,
  some ⟨⟨.int .u64, 1, 8, [.p (.int .u64 0)]⟩, none, (.int .u64), [.v (.int .u64) (0 : Int)], some ⟨(.int .u64), (0 : Int)⟩⟩,
  none,
  some ⟨⟨.func, 1, 8, [.p .nilfn]⟩, none, .bool, [.nilfn], none⟩,
  some ⟨⟨.int .u32, 1, 4, [.p (.int .u32 0)]⟩, none, (.int .u32), [.v (.int .u32) (0 : Int)], some ⟨(.int .u32), (0 : Int)⟩⟩,
  none,
  some ⟨⟨.func, 1, 8, [.p .nilfn]⟩, none, .bool, [.nilfn], none⟩,
  some ⟨⟨.int .u64, 1, 8, [.p (.int .u64 0)]⟩, none, (.int .u64), [.v (.int .u64) (0 : Int)], some ⟨(.int .u64), (0 : Int)⟩⟩,
  none,
  some ⟨⟨.func, 1, 8, [.p .nilfn]⟩, none, .bool, [.nilfn], none⟩,
  some ⟨⟨.func, 1, 8, [.p .nilfn]⟩, none, .bool, [.nilfn], none⟩,
  none,
  none,
  none,
  none,
  none,
  some ⟨⟨.func, 1, 8, [.p .nilfn]⟩, none, .bool, [.nilfn], none⟩,
  none,
  none,
  some ⟨⟨.func, 1, 8, [.p .nilfn]⟩, none, .bool, [.nilfn], none⟩,
  some ⟨⟨.ptr 5, 1, 8, [.p .nilp]⟩, none, .bool, [.nilp], none⟩,
  none,
  none,
  none,
  none,
  none]
noncomputable def X0 : TEnv U := ⟨Try.prog, tt0, [], 0⟩
theorem tok0 : TOk X0 := tok_of (by kernel_rfl) (by kernel_rfl) (by kernel_rfl)
theorem eok0 : EnvOk X0.E := ⟨by kernel_rfl⟩
theorem mixed : X0.prog.follows .mixedOrders = true := by kernel_rfl

noncomputable def S_s_access_May : FSig U := ⟨Bool, [33, 9, 38], [.p, .p, .p], [none, none, some 4], [.p (.sl (.st 0)), .p .str, .p (.st 4)], fun v => s_access_May v.1 v.2.1 v.2.2.1, fun q => ⟨[.p ⟨.bool, q⟩], []⟩⟩
end Go.Proofs
