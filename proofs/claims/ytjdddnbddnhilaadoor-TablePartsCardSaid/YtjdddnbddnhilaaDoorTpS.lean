/- Printed by wip/tools/tgen.py: specs. -/
import Derived.Test.YtjdddnbddnhilaaDoorE4
import Derived.Lib.ItoaNum
import Derived.Lib.LaidU8
import Derived.Shelf.Strconv.Itoa3
set_option linter.unusedVariables false
set_option linter.unusedSimpArgs false
set_option linter.unusedSectionVars false
namespace Go.Proofs
open Go Eng
set_option maxRecDepth 100000
noncomputable section

structure GaRef where
  Table : Int
  Column : Int
  deriving DecidableEq, Inhabited

structure GaCell where
  Null : Bool
  Text : Str
  deriving DecidableEq, Inhabited

structure GaColumn where
  Name : Str
  Cells : (List GaCell)
  deriving DecidableEq, Inhabited

structure GaTable where
  ID : Int
  Name : Str
  Columns : (List GaColumn)
  deriving DecidableEq, Inhabited

structure Gu8acceptRange where
  lo : Int
  hi : Int
  deriving DecidableEq, Inhabited

structure G_tablefindermill_Dice where
  seeds : (List Int)
  at_ : Int
  deriving DecidableEq, Inhabited

abbrev G_arr256_int_u8 : Type := { l : List Int // l.length = 256 }

structure G_arr16_Gu8acceptRange where
  e0 : Gu8acceptRange
  e1 : Gu8acceptRange
  e2 : Gu8acceptRange
  e3 : Gu8acceptRange
  e4 : Gu8acceptRange
  e5 : Gu8acceptRange
  e6 : Gu8acceptRange
  e7 : Gu8acceptRange
  e8 : Gu8acceptRange
  e9 : Gu8acceptRange
  e10 : Gu8acceptRange
  e11 : Gu8acceptRange
  e12 : Gu8acceptRange
  e13 : Gu8acceptRange
  e14 : Gu8acceptRange
  e15 : Gu8acceptRange
  deriving DecidableEq, Inhabited

def carU : Nat → Type
  | 0 => GaRef
  | 1 => GaCell
  | 2 => GaColumn
  | 3 => GaTable
  | 4 => Gu8acceptRange
  | 5 => G_tablefindermill_Dice
  | 6 => G_arr256_int_u8
  | 7 => G_arr16_Gu8acceptRange
  | _ => Unit

def sizeU : Nat → Nat
  | 0 => 2
  | 1 => 2
  | 2 => 2
  | 3 => 3
  | 4 => 2
  | 5 => 2
  | 6 => 256
  | 7 => 32
  | _ => 0


def glob_utf8_first : List (Lf carU) := (Lib.firstTab.map fun n => ⟨.int .u8, n⟩)

def glob_utf8_acceptRanges : List (Lf carU) := [⟨.int .u8, (128 : Int)⟩, ⟨.int .u8, (191 : Int)⟩, ⟨.int .u8, (160 : Int)⟩, ⟨.int .u8, (191 : Int)⟩, ⟨.int .u8, (128 : Int)⟩, ⟨.int .u8, (159 : Int)⟩, ⟨.int .u8, (144 : Int)⟩, ⟨.int .u8, (191 : Int)⟩, ⟨.int .u8, (128 : Int)⟩, ⟨.int .u8, (143 : Int)⟩, ⟨.int .u8, (0 : Int)⟩, ⟨.int .u8, (0 : Int)⟩, ⟨.int .u8, (0 : Int)⟩, ⟨.int .u8, (0 : Int)⟩, ⟨.int .u8, (0 : Int)⟩, ⟨.int .u8, (0 : Int)⟩, ⟨.int .u8, (0 : Int)⟩, ⟨.int .u8, (0 : Int)⟩, ⟨.int .u8, (0 : Int)⟩, ⟨.int .u8, (0 : Int)⟩, ⟨.int .u8, (0 : Int)⟩, ⟨.int .u8, (0 : Int)⟩, ⟨.int .u8, (0 : Int)⟩, ⟨.int .u8, (0 : Int)⟩, ⟨.int .u8, (0 : Int)⟩, ⟨.int .u8, (0 : Int)⟩, ⟨.int .u8, (0 : Int)⟩, ⟨.int .u8, (0 : Int)⟩, ⟨.int .u8, (0 : Int)⟩, ⟨.int .u8, (0 : Int)⟩, ⟨.int .u8, (0 : Int)⟩, ⟨.int .u8, (0 : Int)⟩]

def glob_strconv_uint64pow10 : List (Lf carU) := (Lib.pow10Tab.map fun n => ⟨.int .u64, n⟩)

abbrev qL0 : Type := List Int
abbrev qL1 : Type := List GaColumn
abbrev qL2 : Type := List GaCell
abbrev qL3 : Type := List GaTable
abbrev qS45 : Type := Int × Int × G_tablefindermill_Dice × Int × Str × Int × Str × qL1 × qL1
abbrev qS46 : Type := GaTable × qL0 × Int × Int × Int × Str × Int × Str × qL1 × qL1
abbrev qS47 : Type := Int × G_tablefindermill_Dice × GaTable × qL0 × qL0 × qL0 × qL0
abbrev qS48 : Type := qL0 × Int × G_tablefindermill_Dice × GaTable × qL0 × GaTable × qL0
abbrev qS49 : Type := Int × Bool × Int × G_tablefindermill_Dice × Str × Str × qL2 × qL2
abbrev qS50 : Type := G_tablefindermill_Dice × GaTable × qL0 × qL0 × qL0 × qL0
abbrev qS51 : Type := Int × GaTable × qL0 × Int × Int × Str × Str × qL2 × qL2
abbrev qS52 : Type := G_tablefindermill_Dice × Int × Str × Int × Str × qL1 × qL1
abbrev qS53 : Type := Out (qL3 × Int × Bool × qL3 × Int × Int × GaRef) Bool
abbrev qS54 : Type := G_tablefindermill_Dice × Str × Str × qL2 × qL2
abbrev qS55 : Type := Int × Int × Int × Int × G_tablefindermill_Dice × qL3
abbrev qS56 : Type := qL3 × Int × Int × Int × Int × (List GaRef) × GaTable
abbrev qS57 : Type := Int × Str × Int × Str × qL1 × qL1
abbrev qS58 : Type := Int × Int × Int × GaTable × Int × Int × Int × qL0
abbrev qS59 : Type := GaTable × Int × Str × qL0 × qL1
abbrev qS60 : Type := Out (qL3 × Int × Bool × GaRef) Bool
abbrev qS61 : Type := qL1 × qL1 × Int × Int
abbrev qS62 : Type := GaTable × qL0 × GaTable × qL0
abbrev qS63 : Type := Str × Str × qL2 × qL2
abbrev qS64 : Type := qL3 × Int × Int × (List GaRef)
abbrev qS65 : Type := qL2 × qL2 × Int × Int
abbrev qS66 : Type := G_tablefindermill_Dice × qL3
abbrev qS67 : Type := Int × Int × GaTable × Int × qL0
abbrev qS68 : Type := Int × GaTable × Int × Int × qL0
abbrev qS69 : Type := qL1 × GaTable × Int × Int
abbrev qS70 : Type := Int × GaTable × Int × qL0
abbrev qS71 : Type := qL3 × Int × Int × Int
abbrev qS72 : Type := Int × Int × GaColumn × GaColumn
abbrev qS73 : Type := Int × qL0 × Int × Int
abbrev qS74 : Type := Int × Int × qL0
abbrev qR75 : Type := GaTable → qL0 → Int → Int → Int → Str → Int → Str → qL1 → qL1 → Option qS57
abbrev qR76 : Type := Int → G_tablefindermill_Dice → GaTable → qL0 → qL0 → qL0 → qL0 → Option qS50
abbrev qR77 : Type := qL3 → Int → Bool → qL3 → Int → Int → Int → Int → GaRef → GaTable → Option qS53
abbrev qR78 : Type := Int → Bool → Int → G_tablefindermill_Dice → Str → Str → qL2 → qL2 → Option qS54
abbrev qR79 : Type := qL3 → Int → Bool → qL3 → Int → Int → GaRef → Option qS60
abbrev qR80 : Type := qL3 → Int → Int → (List GaRef) → Option (List GaRef)
abbrev qR81 : Type := Int → Int → GaTable → Int → qL0 → Option qL0
abbrev qR82 : Type := Int → Int → GaTable → Int → Int → qL0 → Option qS67
abbrev qR83 : Type := Int → GaTable → Int → Int → Int → qL0 → Option qS68
abbrev qR84 : Type := Int → GaTable → Int → Int → qL0 → Option qS74
abbrev qR85 : Type := Int → GaTable → Int → qL0 → Option qL0
abbrev qR86 : Type := Str → Option (Out Unit Bool)

/-! ### tablefinder/table.Rows -/

def s_table_Rows (t : GaTable) : Option Int :=
 bif ((t.Columns.length : Int) == 0) then (
 some (0 : Int)
 ) else (
 (idx t.Columns 0).bind fun Column =>
 some (Column.Cells.length : Int)
 )

/-! ### unicode/utf8.word[string] -/

def su8_word_string (s : Str) : Option Int :=
 (idx s 0).bind fun c =>
 (idx s 1).bind fun c_1 =>
 chk (decide (0 ≤ (8 : Int))) <|
 (idx s 2).bind fun c_2 =>
 chk (decide (0 ≤ (16 : Int))) <|
 (idx s 3).bind fun c_3 =>
 chk (decide (0 ≤ (24 : Int))) <|
 (idx s 4).bind fun c_4 =>
 chk (decide (0 ≤ (32 : Int))) <|
 (idx s 5).bind fun c_5 =>
 chk (decide (0 ≤ (40 : Int))) <|
 (idx s 6).bind fun c_6 =>
 chk (decide (0 ≤ (48 : Int))) <|
 (idx s 7).bind fun c_7 =>
 chk (decide (0 ≤ (56 : Int))) <|
 some (orK .u64 (orK .u64 (orK .u64 (orK .u64 (orK .u64 (orK .u64 (orK .u64 (IntKind.wrap .u64 ((c.toNat : Nat) : Int)) (shlK .u64 (IntKind.wrap .u64 ((c_1.toNat : Nat) : Int)) 8)) (shlK .u64 (IntKind.wrap .u64 ((c_2.toNat : Nat) : Int)) 16)) (shlK .u64 (IntKind.wrap .u64 ((c_3.toNat : Nat) : Int)) 24)) (shlK .u64 (IntKind.wrap .u64 ((c_4.toNat : Nat) : Int)) 32)) (shlK .u64 (IntKind.wrap .u64 ((c_5.toNat : Nat) : Int)) 40)) (shlK .u64 (IntKind.wrap .u64 ((c_6.toNat : Nat) : Int)) 48)) (shlK .u64 (IntKind.wrap .u64 ((c_7.toNat : Nat) : Int)) 56))

/-! ### unicode/utf8.ValidString -/

def su8_ValidString_k9  : Option Bool :=
 some true

def su8_ValidString_j8 (rec_ : qR86) (s : Str) (t166 : Bool) : Option (Out Unit Bool) :=
 bif t166 then (
 some (.ret false)
 ) else (
 chk (within 4 (s.length : Int) (s.length : Int)) <|
 rec_ (s.drop ((4 : Int)).toNat)
 )

def su8_ValidString_j7 (rec_ : qR86) (s : Str) (t125 : Bool) : Option (Out Unit Bool) :=
 bif t125 then (
 some (.ret false)
 ) else (
 chk (within 3 (s.length : Int) (s.length : Int)) <|
 rec_ (s.drop ((3 : Int)).toNat)
 )

def su8_ValidString_j6 (rec_ : qR86) (s : Str) (t94 : Bool) : Option (Out Unit Bool) :=
 bif t94 then (
 some (.ret false)
 ) else (
 chk (within 2 (s.length : Int) (s.length : Int)) <|
 rec_ (s.drop ((2 : Int)).toNat)
 )

def su8_ValidString_j5 (rec_ : qR86) (s : Str) : Option (Out Unit Bool) :=
 rec_ s

def su8_ValidString_k4 (rec_ : qR86) (s : Str) : Option (Out Unit Bool) :=
 rec_ s

def su8_ValidString_j3 (rec_ : Str → Option Str) (s : Str) (t62 : Bool) : Option Str :=
 bif t62 then (
 chk (within 32 (s.length : Int) (s.length : Int)) <|
 rec_ (s.drop ((32 : Int)).toNat)
 ) else (
 some s
 )

def su8_ValidString_l2_b (rec_ : Str → Option Str) (s : Str) : Option Str :=
 bif (decide ((s.length : Int) > 32)) then (
 (su8_word_string s).bind fun q =>
 chk (within 8 (s.length : Int) (s.length : Int)) <|
 (su8_word_string (s.drop ((8 : Int)).toNat)).bind fun q_1 =>
 chk (within 16 (s.length : Int) (s.length : Int)) <|
 (su8_word_string (s.drop ((16 : Int)).toNat)).bind fun q_2 =>
 chk (within 24 (s.length : Int) (s.length : Int)) <|
 (su8_word_string (s.drop ((24 : Int)).toNat)).bind fun q_3 =>
 su8_ValidString_j3 rec_ s ((andK .u64 (orK .u64 (orK .u64 q q_1) (orK .u64 q_2 q_3)) 9259542123273814144) == 0)
 ) else (
 su8_ValidString_j3 rec_ s false
 )

def su8_ValidString_l2 : Nat → Str → Option Str
 | 0, _ => none
 | n_ + 1, s => su8_ValidString_l2_b (su8_ValidString_l2 n_) s

def su8_ValidString_j2 (rec_ : qR86) (s : Str) (t39 : Bool) : Option (Out Unit Bool) :=
 bif t39 then (
 chk (within 16 (s.length : Int) (s.length : Int)) <|
 (su8_ValidString_l2 big (s.drop ((16 : Int)).toNat)).bind fun x0 => su8_ValidString_k4 rec_ x0
 ) else (
 su8_ValidString_j5 rec_ s
 )

def su8_ValidString_j1 (rec_ : qR86) (s : Str) (t24 : Bool) : Option (Out Unit Bool) :=
 bif t24 then (
 chk (within 8 (s.length : Int) (s.length : Int)) <|
 bif (decide (((s.drop ((8 : Int)).toNat).length : Int) > 16)) then (
 (su8_word_string (s.drop ((8 : Int)).toNat)).bind fun q =>
 chk (within 8 ((s.drop ((8 : Int)).toNat).length : Int) ((s.drop ((8 : Int)).toNat).length : Int)) <|
 (su8_word_string ((s.drop ((8 : Int)).toNat).drop ((8 : Int)).toNat)).bind fun q_1 =>
 su8_ValidString_j2 rec_ (s.drop ((8 : Int)).toNat) ((andK .u64 (orK .u64 q q_1) 9259542123273814144) == 0)
 ) else (
 su8_ValidString_j2 rec_ (s.drop ((8 : Int)).toNat) false
 )
 ) else (
 su8_ValidString_j5 rec_ s
 )

def su8_ValidString_l1_b (rec_ : qR86) (s : Str) : Option (Out Unit Bool) :=
 bif (decide ((s.length : Int) > 0)) then (
 (idx s 0).bind fun c =>
 bif (decide (((c.toNat : Nat) : Int) < 128)) then (
 chk (within 1 (s.length : Int) (s.length : Int)) <|
 bif (decide (((s.drop ((1 : Int)).toNat).length : Int) > 8)) then (
 (su8_word_string (s.drop ((1 : Int)).toNat)).bind fun q =>
 su8_ValidString_j1 rec_ (s.drop ((1 : Int)).toNat) ((andK .u64 q 9259542123273814144) == 0)
 ) else (
 su8_ValidString_j1 rec_ (s.drop ((1 : Int)).toNat) false
 )
 ) else (
 chk (inR ((c.toNat : Nat) : Int) 256) <|
 (tabB (car := carU) (.int .u8) glob_utf8_first ((((c.toNat : Nat) : Int)).toNat * 1)).bind fun c_1 =>
 chk (decide (0 ≤ (4 : Int))) <|
 chk (inR (shrK .u8 c_1 4) 16) <|
 (tabB (car := carU) (.int .u8) glob_utf8_acceptRanges (((shrK .u8 c_1 4)).toNat * 2)).bind fun c_2 =>
 (tabB (car := carU) (.int .u8) glob_utf8_acceptRanges (((shrK .u8 c_1 4)).toNat * 2 + 1)).bind fun c_3 =>
 bif ((IntKind.wrap .i64 (andK .u8 c_1 7)) == 2) then (
 bif (decide ((s.length : Int) < 2)) then (
 su8_ValidString_j6 rec_ s true
 ) else (
 (idx s 1).bind fun c_4 =>
 bif (decide (((c_4.toNat : Nat) : Int) < c_2)) then (
 su8_ValidString_j6 rec_ s true
 ) else (
 (idx s 1).bind fun c_5 =>
 su8_ValidString_j6 rec_ s (decide (c_3 < ((c_5.toNat : Nat) : Int)))
 )
 )
 ) else (
 bif ((IntKind.wrap .i64 (andK .u8 c_1 7)) == 3) then (
 bif (decide ((s.length : Int) < 3)) then (
 su8_ValidString_j7 rec_ s true
 ) else (
 (idx s 1).bind fun c_6 =>
 bif (decide (((c_6.toNat : Nat) : Int) < c_2)) then (
 su8_ValidString_j7 rec_ s true
 ) else (
 (idx s 1).bind fun c_7 =>
 bif (decide (c_3 < ((c_7.toNat : Nat) : Int))) then (
 su8_ValidString_j7 rec_ s true
 ) else (
 (idx s 2).bind fun c_8 =>
 bif (decide (((c_8.toNat : Nat) : Int) < 128)) then (
 su8_ValidString_j7 rec_ s true
 ) else (
 (idx s 2).bind fun c_9 =>
 su8_ValidString_j7 rec_ s (decide ((191 : Int) < ((c_9.toNat : Nat) : Int)))
 )
 )
 )
 )
 ) else (
 bif ((IntKind.wrap .i64 (andK .u8 c_1 7)) == 4) then (
 bif (decide ((s.length : Int) < 4)) then (
 su8_ValidString_j8 rec_ s true
 ) else (
 (idx s 1).bind fun c_10 =>
 bif (decide (((c_10.toNat : Nat) : Int) < c_2)) then (
 su8_ValidString_j8 rec_ s true
 ) else (
 (idx s 1).bind fun c_11 =>
 bif (decide (c_3 < ((c_11.toNat : Nat) : Int))) then (
 su8_ValidString_j8 rec_ s true
 ) else (
 (idx s 2).bind fun c_12 =>
 bif (decide (((c_12.toNat : Nat) : Int) < 128)) then (
 su8_ValidString_j8 rec_ s true
 ) else (
 (idx s 2).bind fun c_13 =>
 bif (decide ((191 : Int) < ((c_13.toNat : Nat) : Int))) then (
 su8_ValidString_j8 rec_ s true
 ) else (
 (idx s 3).bind fun c_14 =>
 bif (decide (((c_14.toNat : Nat) : Int) < 128)) then (
 su8_ValidString_j8 rec_ s true
 ) else (
 (idx s 3).bind fun c_15 =>
 su8_ValidString_j8 rec_ s (decide ((191 : Int) < ((c_15.toNat : Nat) : Int)))
 )
 )
 )
 )
 )
 )
 ) else (
 some (.ret false)
 )
 )
 )
 )
 ) else (
 some (.brk ())
 )

def su8_ValidString_l1 : Nat → Str → Option (Out Unit Bool)
 | 0, _ => none
 | n_ + 1, s => su8_ValidString_l1_b (su8_ValidString_l1 n_) s

def su8_ValidString (s : Str) : Option Bool :=
 (su8_ValidString_l1 big s).bind fun
 | .ret q_ => some q_
 | .brk () => su8_ValidString_k9

/-! ### tablefinder/text.Valid -/

def s_text_Valid (s : Str) : Option Bool :=
 (su8_ValidString s).bind fun q =>
 some q

/-! ### tablefinder/table.fine -/

def s_table_fine_j1 (t2 : Bool) : Option Bool :=
 some t2

def s_table_fine (s : Str) : Option Bool :=
 bif (decide ((s.length : Int) ≤ 1024)) then (
 (s_text_Valid s).bind fun q =>
 s_table_fine_j1 q
 ) else (
 s_table_fine_j1 false
 )

/-! ### tablefinder/table.ValidCell -/

def s_table_ValidCell_j1 (t2 : Bool) : Option Bool :=
 some t2

def s_table_ValidCell (c : GaCell) : Option Bool :=
 (s_table_fine c.Text).bind fun q =>
 bif q then (
 bif c.Null then (
 s_table_ValidCell_j1 (!(!(c.Text == ([] : Str))))
 ) else (
 s_table_ValidCell_j1 true
 )
 ) else (
 s_table_ValidCell_j1 false
 )

/-! ### tablefinder/table.every[tablefinder/api.Cell] -/

def s_table_every_api_Cell_k1  : Option Bool :=
 some true

def s_table_every_api_Cell_l1_b (rec_ : qL2 → Int → Int → Option (Out Unit Bool)) (t7 : qL2) (t8 : Int) (t9 : Int) : Option (Out Unit Bool) :=
 bif (decide (t9 < t8)) then (
 (idx t7 t9).bind fun x_ =>
 (s_table_ValidCell x_).bind fun q =>
 bif (!q) then (
 some (.ret false)
 ) else (
 chk (inK .i64 (t9 + 1)) <|
 rec_ t7 t8 (t9 + 1)
 )
 ) else (
 some (.brk ())
 )

def s_table_every_api_Cell_l1 : Nat → qL2 → Int → Int → Option (Out Unit Bool)
 | 0, _, _, _ => none
 | n_ + 1, t7, t8, t9 => s_table_every_api_Cell_l1_b (s_table_every_api_Cell_l1 n_) t7 t8 t9

def s_table_every_api_Cell_l1_F (n : Nat) (s : (qL2 × Int × Int)) : Option (Out Unit Bool) := s_table_every_api_Cell_l1 n s.1 s.2.1 s.2.2
def s_table_every_api_Cell_l1_B (rec_ : (qL2 × Int × Int) → Option (Out Unit Bool)) (s : (qL2 × Int × Int)) : Option (Out Unit Bool) := s_table_every_api_Cell_l1_b (fun t7 t8 t9 => rec_ (t7, t8, t9)) s.1 s.2.1 s.2.2
theorem s_table_every_api_Cell_l1_FB : ∀ n s, s_table_every_api_Cell_l1_F (n + 1) s = s_table_every_api_Cell_l1_B (s_table_every_api_Cell_l1_F n) s := fun _ _ => rfl

def s_table_every_api_Cell (l : qL2) : Option Bool :=
 (s_table_every_api_Cell_l1 big l (l.length : Int) (0 : Int)).bind fun
 | .ret q_ => some q_
 | .brk () => s_table_every_api_Cell_k1

/-! ### tablefinder/table.Valid$1 -/

def s_table_Valid_1_j1 (t3 : Bool) : Option Bool :=
 some t3

def s_table_Valid_1 (c : GaColumn) (a1 : GaTable) : Option Bool :=
 (s_table_fine c.Name).bind fun q =>
 bif (!q) then (
 s_table_Valid_1_j1 true
 ) else (
 (s_table_Rows a1).bind fun q_1 =>
 bif ((c.Cells.length : Int) != q_1) then (
 s_table_Valid_1_j1 true
 ) else (
 (s_table_every_api_Cell c.Cells).bind fun q_2 =>
 s_table_Valid_1_j1 (!q_2)
 )
 )

/-! ### slices.IndexFunc[[]tablefinder/api.Column,tablefinder/api.Column] -/

def ss_IndexFunc_api_Column_api_Column_k1  : Option Int :=
 some (-1 : Int)

def ss_IndexFunc_api_Column_api_Column_l1_b (rec_ : qL1 → GaTable → Int → Int → Option (Out Unit Int)) (s : qL1) (f : GaTable) (t7 : Int) (i : Int) : Option (Out Unit Int) :=
 bif (decide (i < t7)) then (
 (idx s i).bind fun s_e =>
 (s_table_Valid_1 s_e f).bind fun q =>
 bif q then (
 some (.ret i)
 ) else (
 chk (inK .i64 (i + 1)) <|
 rec_ s f t7 (i + 1)
 )
 ) else (
 some (.brk ())
 )

def ss_IndexFunc_api_Column_api_Column_l1 : Nat → qL1 → GaTable → Int → Int → Option (Out Unit Int)
 | 0, _, _, _, _ => none
 | n_ + 1, s, f, t7, i => ss_IndexFunc_api_Column_api_Column_l1_b (ss_IndexFunc_api_Column_api_Column_l1 n_) s f t7 i

def ss_IndexFunc_api_Column_api_Column_l1_F (n : Nat) (s : qS69) : Option (Out Unit Int) := ss_IndexFunc_api_Column_api_Column_l1 n s.1 s.2.1 s.2.2.1 s.2.2.2
def ss_IndexFunc_api_Column_api_Column_l1_B (rec_ : qS69 → Option (Out Unit Int)) (s : qS69) : Option (Out Unit Int) := ss_IndexFunc_api_Column_api_Column_l1_b (fun s f t7 i => rec_ (s, f, t7, i)) s.1 s.2.1 s.2.2.1 s.2.2.2
theorem ss_IndexFunc_api_Column_api_Column_l1_FB : ∀ n s, ss_IndexFunc_api_Column_api_Column_l1_F (n + 1) s = ss_IndexFunc_api_Column_api_Column_l1_B (ss_IndexFunc_api_Column_api_Column_l1_F n) s := fun _ _ => rfl

def ss_IndexFunc_api_Column_api_Column (s : qL1) (c : GaTable) : Option Int :=
 (ss_IndexFunc_api_Column_api_Column_l1 big s c (s.length : Int) (0 : Int)).bind fun
 | .ret q_ => some q_
 | .brk () => ss_IndexFunc_api_Column_api_Column_k1

/-! ### slices.ContainsFunc[[]tablefinder/api.Column,tablefinder/api.Column] -/

def ss_ContainsFunc_api_Column_api_Column (s : qL1) (c : GaTable) : Option Bool :=
 (ss_IndexFunc_api_Column_api_Column s c).bind fun q =>
 some (decide (q ≥ 0))

/-! ### tablefinder/table.Valid -/

def s_table_Valid_j1 (t27 : Bool) (t : GaTable) : Option Bool :=
 bif t27 then (
 some false
 ) else (
 (ss_ContainsFunc_api_Column_api_Column t.Columns t).bind fun q =>
 some (!q)
 )

def s_table_Valid (t : GaTable) : Option Bool :=
 bif (decide (t.ID < 0)) then (
 s_table_Valid_j1 true t
 ) else (
 bif (decide (t.ID > 1073741824)) then (
 s_table_Valid_j1 true t
 ) else (
 (s_table_fine t.Name).bind fun q =>
 bif (!q) then (
 s_table_Valid_j1 true t
 ) else (
 bif (decide ((t.Columns.length : Int) > 64)) then (
 s_table_Valid_j1 true t
 ) else (
 (s_table_Rows t).bind fun q_1 =>
 s_table_Valid_j1 (decide (q_1 > 4096)) t
 )
 )
 )
 )

/-! ### cmp.isNaN[string] -/

def s_cmp_isNaN_string (x_ : Str) : Option Bool :=
 some (!(x_ == x_))

/-! ### cmp.Compare[string] -/

def s_cmp_Compare_string (x_ : Str) (y : Str) : Option Int :=
 (s_cmp_isNaN_string x_).bind fun xNaN =>
 (s_cmp_isNaN_string y).bind fun yNaN =>
 bif xNaN then (
 bif yNaN then (
 some (0 : Int)
 ) else (
 some (-1 : Int)
 )
 ) else (
 bif yNaN then (
 some (1 : Int)
 ) else (
 bif (Op.bytesLess x_ y) then (
 some (-1 : Int)
 ) else (
 bif (!((Op.bytesLess x_ y) || x_ == y)) then (
 some (1 : Int)
 ) else (
 some (0 : Int)
 )
 )
 )
 )

/-! ### tablefinder/table.CompareCells -/

def s_table_CompareCells_j1 (t5 : Bool) (a : GaCell) (b : GaCell) : Option Int :=
 bif t5 then (
 some (0 : Int)
 ) else (
 bif a.Null then (
 some (-1 : Int)
 ) else (
 bif b.Null then (
 some (1 : Int)
 ) else (
 (s_cmp_Compare_string a.Text b.Text).bind fun q =>
 some q
 )
 )
 )

def s_table_CompareCells (a : GaCell) (b : GaCell) : Option Int :=
 bif a.Null then (
 s_table_CompareCells_j1 b.Null a b
 ) else (
 s_table_CompareCells_j1 false a b
 )

/-! ### tablefinder/table.Sort$1 -/

def s_table_Sort_1_k1  : Option Int :=
 some (0 : Int)

def s_table_Sort_1_l1_b (rec_ : Int → Int → qL1 → Int → Int → Option (Out Unit Int)) (i : Int) (j : Int) (t10 : qL1) (t11 : Int) (t12 : Int) : Option (Out Unit Int) :=
 bif (decide (t12 < t11)) then (
 (idx t10 t12).bind fun c =>
 (idx c.Cells i).bind fun Cell =>
 (idx c.Cells j).bind fun Cell_1 =>
 (s_table_CompareCells Cell Cell_1).bind fun d =>
 bif (d != 0) then (
 some (.ret d)
 ) else (
 chk (inK .i64 (t12 + 1)) <|
 rec_ i j t10 t11 (t12 + 1)
 )
 ) else (
 some (.brk ())
 )

def s_table_Sort_1_l1 : Nat → Int → Int → qL1 → Int → Int → Option (Out Unit Int)
 | 0, _, _, _, _, _ => none
 | n_ + 1, i, j, t10, t11, t12 => s_table_Sort_1_l1_b (s_table_Sort_1_l1 n_) i j t10 t11 t12

def s_table_Sort_1 (i : Int) (j : Int) (a2 : GaTable) : Option Int :=
 (s_table_Sort_1_l1 big i j a2.Columns (a2.Columns.length : Int) (0 : Int)).bind fun
 | .ret q_ => some q_
 | .brk () => s_table_Sort_1_k1

/-! ### slices.insertionSortCmpFunc[int] -/

def ss_insertionSortCmpFunc_int_k3 (data : qL0) : Option qL0 :=
 some data

def ss_insertionSortCmpFunc_int_k2 (rec_ : qR81) (a : Int) (b : Int) (cmp : GaTable) (i : Int) (data : qL0) : Option qL0 :=
 chk (inK .i64 (i + 1)) <|
 rec_ a b cmp (i + 1) data

def ss_insertionSortCmpFunc_int_j1 (rec_ : qR82) (a : Int) (b : Int) (cmp : GaTable) (i : Int) (j : Int) (t34 : Bool) (data : qL0) : Option qS67 :=
 bif t34 then (
 chk (inK .i64 (j - 1)) <|
 chk (inK .i64 (j - 1)) <|
 chk (inR (j - 1) (data.length : Int)) <|
 (data[((j - 1)).toNat]?).bind fun data_e =>
 chk (inR j (data.length : Int)) <|
 (data[(j).toNat]?).bind fun data_e_1 =>
 chk (inR j (data.length : Int)) <|
 chk (inR (j - 1) ((data.set ((j).toNat) data_e).length : Int)) <|
 chk (inK .i64 (j - 1)) <|
 rec_ a b cmp i (j - 1) ((data.set ((j).toNat) data_e).set (((j - 1)).toNat) data_e_1)
 ) else (
 some (a, b, cmp, i, data)
 )

def ss_insertionSortCmpFunc_int_l2_b (rec_ : qR82) (a : Int) (b : Int) (cmp : GaTable) (i : Int) (j : Int) (data : qL0) : Option qS67 :=
 bif (decide (j > a)) then (
 chk (inR j (data.length : Int)) <|
 (data[(j).toNat]?).bind fun data_e =>
 chk (inK .i64 (j - 1)) <|
 chk (inR (j - 1) (data.length : Int)) <|
 (data[((j - 1)).toNat]?).bind fun data_e_1 =>
 (s_table_Sort_1 data_e data_e_1 cmp).bind fun q =>
 ss_insertionSortCmpFunc_int_j1 rec_ a b cmp i j (decide (q < 0)) data
 ) else (
 ss_insertionSortCmpFunc_int_j1 rec_ a b cmp i j false data
 )

def ss_insertionSortCmpFunc_int_l2 : Nat → Int → Int → GaTable → Int → Int → qL0 → Option qS67
 | 0, _, _, _, _, _, _ => none
 | n_ + 1, a, b, cmp, i, j, data => ss_insertionSortCmpFunc_int_l2_b (ss_insertionSortCmpFunc_int_l2 n_) a b cmp i j data

def ss_insertionSortCmpFunc_int_l1_b (rec_ : qR81) (a : Int) (b : Int) (cmp : GaTable) (i : Int) (data : qL0) : Option qL0 :=
 bif (decide (i < b)) then (
 (ss_insertionSortCmpFunc_int_l2 big a b cmp i i data).bind fun (x0, x1, x2, x3, x4) => ss_insertionSortCmpFunc_int_k2 rec_ x0 x1 x2 x3 x4
 ) else (
 some data
 )

def ss_insertionSortCmpFunc_int_l1 : Nat → Int → Int → GaTable → Int → qL0 → Option qL0
 | 0, _, _, _, _, _ => none
 | n_ + 1, a, b, cmp, i, data => ss_insertionSortCmpFunc_int_l1_b (ss_insertionSortCmpFunc_int_l1 n_) a b cmp i data

def ss_insertionSortCmpFunc_int (data : qL0) (a : Int) (b : Int) (c : GaTable) : Option qL0 :=
 chk (inK .i64 (a + 1)) <|
 (ss_insertionSortCmpFunc_int_l1 big a b c (a + 1) data).bind fun x0 => ss_insertionSortCmpFunc_int_k3 x0

def ss_insertionSortCmpFunc_int_w (data : qL0) (a : Int) (b : Int) (c : GaTable) : Option qL0 :=
 (ss_insertionSortCmpFunc_int data a b c).bind fun r => chk (decide (r.length = data.length) && true) (some r)

/-! ### slices.swapRangeCmpFunc[int] -/

def ss_swapRangeCmpFunc_int_k1 (data : qL0) : Option qL0 :=
 some data

def ss_swapRangeCmpFunc_int_l1_b (rec_ : Int → Int → Int → Int → qL0 → Option qL0) (a : Int) (b : Int) (n : Int) (i : Int) (data : qL0) : Option qL0 :=
 bif (decide (i < n)) then (
 chk (inK .i64 (a + i)) <|
 chk (inK .i64 (b + i)) <|
 chk (inK .i64 (b + i)) <|
 chk (inR (b + i) (data.length : Int)) <|
 (data[((b + i)).toNat]?).bind fun data_e =>
 chk (inK .i64 (a + i)) <|
 chk (inR (a + i) (data.length : Int)) <|
 (data[((a + i)).toNat]?).bind fun data_e_1 =>
 chk (inR (a + i) (data.length : Int)) <|
 chk (inR (b + i) ((data.set (((a + i)).toNat) data_e).length : Int)) <|
 chk (inK .i64 (i + 1)) <|
 rec_ a b n (i + 1) ((data.set (((a + i)).toNat) data_e).set (((b + i)).toNat) data_e_1)
 ) else (
 some data
 )

def ss_swapRangeCmpFunc_int_l1 : Nat → Int → Int → Int → Int → qL0 → Option qL0
 | 0, _, _, _, _, _ => none
 | n_ + 1, a, b, n, i, data => ss_swapRangeCmpFunc_int_l1_b (ss_swapRangeCmpFunc_int_l1 n_) a b n i data

def ss_swapRangeCmpFunc_int (data : qL0) (a : Int) (b : Int) (n : Int) (c : GaTable) : Option qL0 :=
 (ss_swapRangeCmpFunc_int_l1 big a b n (0 : Int) data).bind fun x0 => ss_swapRangeCmpFunc_int_k1 x0

def ss_swapRangeCmpFunc_int_w (data : qL0) (a : Int) (b : Int) (n : Int) (c : GaTable) : Option qL0 :=
 (ss_swapRangeCmpFunc_int data a b n c).bind fun r => chk (decide (r.length = data.length) && true) (some r)

/-! ### slices.rotateCmpFunc[int] -/

def ss_rotateCmpFunc_int_k1 (m : Int) (cmp : GaTable) (i : Int) (data : qL0) : Option qL0 :=
 chk (inK .i64 (m - i)) <|
 (ss_swapRangeCmpFunc_int_w data (m - i) m i cmp).bind fun t50 =>
 some t50

def ss_rotateCmpFunc_int_l1_b (rec_ : Int → GaTable → Int → Int → qL0 → Option qS70) (m : Int) (cmp : GaTable) (i : Int) (j : Int) (data : qL0) : Option qS70 :=
 bif (i != j) then (
 bif (decide (i > j)) then (
 chk (inK .i64 (m - i)) <|
 (ss_swapRangeCmpFunc_int_w data (m - i) m j cmp).bind fun t24 =>
 chk (inK .i64 (i - j)) <|
 rec_ m cmp (i - j) j t24
 ) else (
 chk (inK .i64 (m - i)) <|
 chk (inK .i64 (m + j)) <|
 chk (inK .i64 ((m + j) - i)) <|
 (ss_swapRangeCmpFunc_int_w data (m - i) ((m + j) - i) i cmp).bind fun t35 =>
 chk (inK .i64 (j - i)) <|
 rec_ m cmp i (j - i) t35
 )
 ) else (
 some (m, cmp, i, data)
 )

def ss_rotateCmpFunc_int_l1 : Nat → Int → GaTable → Int → Int → qL0 → Option qS70
 | 0, _, _, _, _, _ => none
 | n_ + 1, m, cmp, i, j, data => ss_rotateCmpFunc_int_l1_b (ss_rotateCmpFunc_int_l1 n_) m cmp i j data

def ss_rotateCmpFunc_int (data : qL0) (a : Int) (m : Int) (b : Int) (c : GaTable) : Option qL0 :=
 chk (inK .i64 (m - a)) <|
 chk (inK .i64 (b - m)) <|
 (ss_rotateCmpFunc_int_l1 big m c (m - a) (b - m) data).bind fun (x0, x1, x2, x3) => ss_rotateCmpFunc_int_k1 x0 x1 x2 x3

def ss_rotateCmpFunc_int_w (data : qL0) (a : Int) (m : Int) (b : Int) (c : GaTable) : Option qL0 :=
 (ss_rotateCmpFunc_int data a m b c).bind fun r => chk (decide (r.length = data.length) && true) (some r)

/-! ### slices.symMergeCmpFunc[int] -/

def ss_symMergeCmpFunc_int_j10 (b : Int) (cmp : GaTable) (mid : Int) (end_ : Int) (t213 : Bool) (data : qL0) : Option qL0 :=
 bif t213 then (
 none
 ) else (
 some data
 )

def ss_symMergeCmpFunc_int_j9 (a : Int) (b : Int) (cmp : GaTable) (mid : Int) (start : Int) (end_ : Int) (t199 : Bool) (data : qL0) : Option qL0 :=
 bif t199 then (
 none
 ) else (
 bif (decide (mid < end_)) then (
 ss_symMergeCmpFunc_int_j10 b cmp mid end_ (decide (end_ < b)) data
 ) else (
 ss_symMergeCmpFunc_int_j10 b cmp mid end_ false data
 )
 )

def ss_symMergeCmpFunc_int_j8 (a : Int) (b : Int) (cmp : GaTable) (mid : Int) (start : Int) (end_ : Int) (data : qL0) : Option qL0 :=
 bif (decide (a < start)) then (
 ss_symMergeCmpFunc_int_j9 a b cmp mid start end_ (decide (start < mid)) data
 ) else (
 ss_symMergeCmpFunc_int_j9 a b cmp mid start end_ false data
 )

def ss_symMergeCmpFunc_int_j7 (a : Int) (m : Int) (b : Int) (cmp : GaTable) (mid : Int) (start : Int) (end_ : Int) (t185 : Bool) (data : qL0) : Option qL0 :=
 bif t185 then (
 (ss_rotateCmpFunc_int_w data start m end_ cmp).bind fun t186 =>
 ss_symMergeCmpFunc_int_j8 a b cmp mid start end_ t186
 ) else (
 ss_symMergeCmpFunc_int_j8 a b cmp mid start end_ data
 )

def ss_symMergeCmpFunc_int_k6 (a : Int) (m : Int) (b : Int) (cmp : GaTable) (mid : Int) (n : Int) (start : Int) (data : qL0) : Option qL0 :=
 chk (inK .i64 (n - start)) <|
 bif (decide (start < m)) then (
 ss_symMergeCmpFunc_int_j7 a m b cmp mid start (n - start) (decide (m < (n - start))) data
 ) else (
 ss_symMergeCmpFunc_int_j7 a m b cmp mid start (n - start) false data
 )

def ss_symMergeCmpFunc_int_l5_b (rec_ : Int → Int → Int → GaTable → Int → Int → Int → Int → Int → qL0 → Option qS58) (a : Int) (m : Int) (b : Int) (cmp : GaTable) (mid : Int) (n : Int) (start : Int) (r_ : Int) (p : Int) (data : qL0) : Option qS58 :=
 bif (decide (start < r_)) then (
 chk (inK .i64 (start + r_)) <|
 chk (decide (0 ≤ (1 : Int))) <|
 chk (inK .i64 (p - (IntKind.wrap .i64 (shrK .u64 (IntKind.wrap .u64 (start + r_)) 1)))) <|
 chk (inR (p - (IntKind.wrap .i64 (shrK .u64 (IntKind.wrap .u64 (start + r_)) 1))) (data.length : Int)) <|
 (data[((p - (IntKind.wrap .i64 (shrK .u64 (IntKind.wrap .u64 (start + r_)) 1)))).toNat]?).bind fun data_e =>
 chk (inR (IntKind.wrap .i64 (shrK .u64 (IntKind.wrap .u64 (start + r_)) 1)) (data.length : Int)) <|
 (data[((IntKind.wrap .i64 (shrK .u64 (IntKind.wrap .u64 (start + r_)) 1))).toNat]?).bind fun data_e_1 =>
 (s_table_Sort_1 data_e data_e_1 cmp).bind fun q =>
 bif (!(decide (q < 0))) then (
 chk (inK .i64 ((IntKind.wrap .i64 (shrK .u64 (IntKind.wrap .u64 (start + r_)) 1)) + 1)) <|
 rec_ a m b cmp mid n ((IntKind.wrap .i64 (shrK .u64 (IntKind.wrap .u64 (start + r_)) 1)) + 1) r_ p data
 ) else (
 rec_ a m b cmp mid n start (IntKind.wrap .i64 (shrK .u64 (IntKind.wrap .u64 (start + r_)) 1)) p data
 )
 ) else (
 some (a, m, b, cmp, mid, n, start, data)
 )

def ss_symMergeCmpFunc_int_l5 : Nat → Int → Int → Int → GaTable → Int → Int → Int → Int → Int → qL0 → Option qS58
 | 0, _, _, _, _, _, _, _, _, _, _ => none
 | n_ + 1, a, m, b, cmp, mid, n, start, r_, p, data => ss_symMergeCmpFunc_int_l5_b (ss_symMergeCmpFunc_int_l5 n_) a m b cmp mid n start r_ p data

def ss_symMergeCmpFunc_int_j5 (a : Int) (m : Int) (b : Int) (cmp : GaTable) (mid : Int) (n : Int) (start : Int) (r_ : Int) (data : qL0) : Option qL0 :=
 chk (inK .i64 (n - 1)) <|
 (ss_symMergeCmpFunc_int_l5 big a m b cmp mid n start r_ (n - 1) data).bind fun (x0, x1, x2, x3, x4, x5, x6, x7) => ss_symMergeCmpFunc_int_k6 x0 x1 x2 x3 x4 x5 x6 x7

def ss_symMergeCmpFunc_int_k4 (data : qL0) : Option qL0 :=
 some data

def ss_symMergeCmpFunc_int_l4_b (rec_ : Int → Int → qL0 → Option qL0) (i : Int) (k : Int) (data : qL0) : Option qL0 :=
 bif (decide (k > i)) then (
 chk (inK .i64 (k - 1)) <|
 chk (inK .i64 (k - 1)) <|
 chk (inR (k - 1) (data.length : Int)) <|
 (data[((k - 1)).toNat]?).bind fun data_e =>
 chk (inR k (data.length : Int)) <|
 (data[(k).toNat]?).bind fun data_e_1 =>
 chk (inR k (data.length : Int)) <|
 chk (inR (k - 1) ((data.set ((k).toNat) data_e).length : Int)) <|
 chk (inK .i64 (k - 1)) <|
 rec_ i (k - 1) ((data.set ((k).toNat) data_e).set (((k - 1)).toNat) data_e_1)
 ) else (
 some data
 )

def ss_symMergeCmpFunc_int_l4 : Nat → Int → Int → qL0 → Option qL0
 | 0, _, _, _ => none
 | n_ + 1, i, k, data => ss_symMergeCmpFunc_int_l4_b (ss_symMergeCmpFunc_int_l4 n_) i k data

def ss_symMergeCmpFunc_int_k3 (m : Int) (i : Int) (data : qL0) : Option qL0 :=
 (ss_symMergeCmpFunc_int_l4 big i m data).bind fun x0 => ss_symMergeCmpFunc_int_k4 x0

def ss_symMergeCmpFunc_int_k2 (data : qL0) : Option qL0 :=
 some data

def ss_symMergeCmpFunc_int_l2_b (rec_ : Int → Int → qL0 → Option qL0) (i : Int) (k : Int) (data : qL0) : Option qL0 :=
 chk (inK .i64 (i - 1)) <|
 bif (decide (k < (i - 1))) then (
 chk (inK .i64 (k + 1)) <|
 chk (inK .i64 (k + 1)) <|
 chk (inR (k + 1) (data.length : Int)) <|
 (data[((k + 1)).toNat]?).bind fun data_e =>
 chk (inR k (data.length : Int)) <|
 (data[(k).toNat]?).bind fun data_e_1 =>
 chk (inR k (data.length : Int)) <|
 chk (inR (k + 1) ((data.set ((k).toNat) data_e).length : Int)) <|
 chk (inK .i64 (k + 1)) <|
 rec_ i (k + 1) ((data.set ((k).toNat) data_e).set (((k + 1)).toNat) data_e_1)
 ) else (
 some data
 )

def ss_symMergeCmpFunc_int_l2 : Nat → Int → Int → qL0 → Option qL0
 | 0, _, _, _ => none
 | n_ + 1, i, k, data => ss_symMergeCmpFunc_int_l2_b (ss_symMergeCmpFunc_int_l2 n_) i k data

def ss_symMergeCmpFunc_int_k1 (a : Int) (i : Int) (data : qL0) : Option qL0 :=
 (ss_symMergeCmpFunc_int_l2 big i a data).bind fun x0 => ss_symMergeCmpFunc_int_k2 x0

def ss_symMergeCmpFunc_int_l1_b (rec_ : qR84) (a : Int) (cmp : GaTable) (i : Int) (j : Int) (data : qL0) : Option qS74 :=
 bif (decide (i < j)) then (
 chk (inK .i64 (i + j)) <|
 chk (decide (0 ≤ (1 : Int))) <|
 chk (inR (IntKind.wrap .i64 (shrK .u64 (IntKind.wrap .u64 (i + j)) 1)) (data.length : Int)) <|
 (data[((IntKind.wrap .i64 (shrK .u64 (IntKind.wrap .u64 (i + j)) 1))).toNat]?).bind fun data_e =>
 chk (inR a (data.length : Int)) <|
 (data[(a).toNat]?).bind fun data_e_1 =>
 (s_table_Sort_1 data_e data_e_1 cmp).bind fun q =>
 bif (decide (q < 0)) then (
 chk (inK .i64 ((IntKind.wrap .i64 (shrK .u64 (IntKind.wrap .u64 (i + j)) 1)) + 1)) <|
 rec_ a cmp ((IntKind.wrap .i64 (shrK .u64 (IntKind.wrap .u64 (i + j)) 1)) + 1) j data
 ) else (
 rec_ a cmp i (IntKind.wrap .i64 (shrK .u64 (IntKind.wrap .u64 (i + j)) 1)) data
 )
 ) else (
 some (a, i, data)
 )

def ss_symMergeCmpFunc_int_l1 : Nat → Int → GaTable → Int → Int → qL0 → Option qS74
 | 0, _, _, _, _, _ => none
 | n_ + 1, a, cmp, i, j, data => ss_symMergeCmpFunc_int_l1_b (ss_symMergeCmpFunc_int_l1 n_) a cmp i j data

def ss_symMergeCmpFunc_int_l3_b (rec_ : qR84) (m : Int) (cmp : GaTable) (i : Int) (j : Int) (data : qL0) : Option qS74 :=
 bif (decide (i < j)) then (
 chk (inK .i64 (i + j)) <|
 chk (decide (0 ≤ (1 : Int))) <|
 chk (inR m (data.length : Int)) <|
 (data[(m).toNat]?).bind fun data_e =>
 chk (inR (IntKind.wrap .i64 (shrK .u64 (IntKind.wrap .u64 (i + j)) 1)) (data.length : Int)) <|
 (data[((IntKind.wrap .i64 (shrK .u64 (IntKind.wrap .u64 (i + j)) 1))).toNat]?).bind fun data_e_1 =>
 (s_table_Sort_1 data_e data_e_1 cmp).bind fun q =>
 bif (!(decide (q < 0))) then (
 chk (inK .i64 ((IntKind.wrap .i64 (shrK .u64 (IntKind.wrap .u64 (i + j)) 1)) + 1)) <|
 rec_ m cmp ((IntKind.wrap .i64 (shrK .u64 (IntKind.wrap .u64 (i + j)) 1)) + 1) j data
 ) else (
 rec_ m cmp i (IntKind.wrap .i64 (shrK .u64 (IntKind.wrap .u64 (i + j)) 1)) data
 )
 ) else (
 some (m, i, data)
 )

def ss_symMergeCmpFunc_int_l3 : Nat → Int → GaTable → Int → Int → qL0 → Option qS74
 | 0, _, _, _, _, _ => none
 | n_ + 1, m, cmp, i, j, data => ss_symMergeCmpFunc_int_l3_b (ss_symMergeCmpFunc_int_l3 n_) m cmp i j data

def ss_symMergeCmpFunc_int (data : qL0) (a : Int) (m : Int) (b : Int) (c : GaTable) : Option qL0 :=
 chk (inK .i64 (m - a)) <|
 bif ((m - a) == 1) then (
 (ss_symMergeCmpFunc_int_l1 big a c m b data).bind fun (x0, x1, x2) => ss_symMergeCmpFunc_int_k1 x0 x1 x2
 ) else (
 chk (inK .i64 (b - m)) <|
 bif ((b - m) == 1) then (
 (ss_symMergeCmpFunc_int_l3 big m c a m data).bind fun (x0, x1, x2) => ss_symMergeCmpFunc_int_k3 x0 x1 x2
 ) else (
 chk (inK .i64 (a + b)) <|
 chk (decide (0 ≤ (1 : Int))) <|
 chk (inK .i64 ((IntKind.wrap .i64 (shrK .u64 (IntKind.wrap .u64 (a + b)) 1)) + m)) <|
 bif (decide (m > (IntKind.wrap .i64 (shrK .u64 (IntKind.wrap .u64 (a + b)) 1)))) then (
 chk (inK .i64 (((IntKind.wrap .i64 (shrK .u64 (IntKind.wrap .u64 (a + b)) 1)) + m) - b)) <|
 ss_symMergeCmpFunc_int_j5 a m b c (IntKind.wrap .i64 (shrK .u64 (IntKind.wrap .u64 (a + b)) 1)) ((IntKind.wrap .i64 (shrK .u64 (IntKind.wrap .u64 (a + b)) 1)) + m) (((IntKind.wrap .i64 (shrK .u64 (IntKind.wrap .u64 (a + b)) 1)) + m) - b) (IntKind.wrap .i64 (shrK .u64 (IntKind.wrap .u64 (a + b)) 1)) data
 ) else (
 ss_symMergeCmpFunc_int_j5 a m b c (IntKind.wrap .i64 (shrK .u64 (IntKind.wrap .u64 (a + b)) 1)) ((IntKind.wrap .i64 (shrK .u64 (IntKind.wrap .u64 (a + b)) 1)) + m) a m data
 )
 )
 )

def ss_symMergeCmpFunc_int_w (data : qL0) (a : Int) (m : Int) (b : Int) (c : GaTable) : Option qL0 :=
 (ss_symMergeCmpFunc_int data a m b c).bind fun r => chk (decide (r.length = data.length) && true) (some r)

/-! ### slices.stableCmpFunc[int] -/

def ss_stableCmpFunc_int_k3 (data : qL0) : Option qL0 :=
 some data

def ss_stableCmpFunc_int_k2 (rec_ : qR85) (n : Int) (cmp : GaTable) (blockSize : Int) (a : Int) (data : qL0) : Option qL0 :=
 chk (inK .i64 (a + blockSize)) <|
 bif (decide ((a + blockSize) < n)) then (
 none
 ) else (
 chk (inK .i64 (blockSize * 2)) <|
 rec_ n cmp (blockSize * 2) data
 )

def ss_stableCmpFunc_int_l3_b (rec_ : qR83) (n : Int) (cmp : GaTable) (blockSize : Int) (a : Int) (b : Int) (data : qL0) : Option qS68 :=
 bif (decide (b ≤ n)) then (
 chk (inK .i64 (a + blockSize)) <|
 none
 ) else (
 some (n, cmp, blockSize, a, data)
 )

def ss_stableCmpFunc_int_l3 : Nat → Int → GaTable → Int → Int → Int → qL0 → Option qS68
 | 0, _, _, _, _, _, _ => none
 | n_ + 1, n, cmp, blockSize, a, b, data => ss_stableCmpFunc_int_l3_b (ss_stableCmpFunc_int_l3 n_) n cmp blockSize a b data

def ss_stableCmpFunc_int_l2_b (rec_ : qR85) (n : Int) (cmp : GaTable) (blockSize : Int) (data : qL0) : Option qL0 :=
 bif (decide (blockSize < n)) then (
 chk (inK .i64 (2 * blockSize)) <|
 (ss_stableCmpFunc_int_l3 big n cmp blockSize (0 : Int) (2 * blockSize) data).bind fun (x0, x1, x2, x3, x4) => ss_stableCmpFunc_int_k2 rec_ x0 x1 x2 x3 x4
 ) else (
 some data
 )

def ss_stableCmpFunc_int_l2 : Nat → Int → GaTable → Int → qL0 → Option qL0
 | 0, _, _, _, _ => none
 | n_ + 1, n, cmp, blockSize, data => ss_stableCmpFunc_int_l2_b (ss_stableCmpFunc_int_l2 n_) n cmp blockSize data

def ss_stableCmpFunc_int_k1 (n : Int) (cmp : GaTable) (blockSize : Int) (a : Int) (data : qL0) : Option qL0 :=
 (ss_insertionSortCmpFunc_int_w data a n cmp).bind fun t23 =>
 (ss_stableCmpFunc_int_l2 big n cmp blockSize t23).bind fun x0 => ss_stableCmpFunc_int_k3 x0

def ss_stableCmpFunc_int_l1_b (rec_ : qR83) (n : Int) (cmp : GaTable) (blockSize : Int) (a : Int) (b : Int) (data : qL0) : Option qS68 :=
 bif (decide (b ≤ n)) then (
 (ss_insertionSortCmpFunc_int_w data a b cmp).bind fun t14 =>
 chk (inK .i64 (b + blockSize)) <|
 rec_ n cmp blockSize b (b + blockSize) t14
 ) else (
 some (n, cmp, blockSize, a, data)
 )

def ss_stableCmpFunc_int_l1 : Nat → Int → GaTable → Int → Int → Int → qL0 → Option qS68
 | 0, _, _, _, _, _, _ => none
 | n_ + 1, n, cmp, blockSize, a, b, data => ss_stableCmpFunc_int_l1_b (ss_stableCmpFunc_int_l1 n_) n cmp blockSize a b data

def ss_stableCmpFunc_int (data : qL0) (n : Int) (c : GaTable) : Option qL0 :=
 (ss_stableCmpFunc_int_l1 big n c (20 : Int) (0 : Int) (20 : Int) data).bind fun (x0, x1, x2, x3, x4) => ss_stableCmpFunc_int_k1 x0 x1 x2 x3 x4

def ss_stableCmpFunc_int_w (data : qL0) (n : Int) (c : GaTable) : Option qL0 :=
 (ss_stableCmpFunc_int data n c).bind fun r => chk (decide (r.length = data.length) && true) (some r)

/-! ### slices.SortStableFunc[[]int,int] -/

def ss_SortStableFunc_int_int (x_ : qL0) (c : GaTable) : Option qL0 :=
 (ss_stableCmpFunc_int_w x_ (x_.length : Int) c).bind fun t4 =>
 some t4

def ss_SortStableFunc_int_int_w (x_ : qL0) (c : GaTable) : Option qL0 :=
 (ss_SortStableFunc_int_int x_ c).bind fun r => chk (decide (r.length = x_.length) && true) (some r)

/-! ### tablefinder/table.within$1 -/

def s_table_within_1_j1 (t3 : Bool) : Option Bool :=
 some t3

def s_table_within_1 (i : Int) (a1 : Int) : Option Bool :=
 bif (decide (i ≥ 0)) then (
 s_table_within_1_j1 (decide (i < a1))
 ) else (
 s_table_within_1_j1 false
 )

/-! ### tablefinder/table.every[int] -/

def s_table_every_int_k1  : Option Bool :=
 some true

def s_table_every_int_l1_b (rec_ : Int → qL0 → Int → Int → Option (Out Unit Bool)) (holds : Int) (t7 : qL0) (t8 : Int) (t9 : Int) : Option (Out Unit Bool) :=
 bif (decide (t9 < t8)) then (
 (idx t7 t9).bind fun x_ =>
 (s_table_within_1 x_ holds).bind fun q =>
 bif (!q) then (
 some (.ret false)
 ) else (
 chk (inK .i64 (t9 + 1)) <|
 rec_ holds t7 t8 (t9 + 1)
 )
 ) else (
 some (.brk ())
 )

def s_table_every_int_l1 : Nat → Int → qL0 → Int → Int → Option (Out Unit Bool)
 | 0, _, _, _, _ => none
 | n_ + 1, holds, t7, t8, t9 => s_table_every_int_l1_b (s_table_every_int_l1 n_) holds t7 t8 t9

def s_table_every_int_l1_F (n : Nat) (s : qS73) : Option (Out Unit Bool) := s_table_every_int_l1 n s.1 s.2.1 s.2.2.1 s.2.2.2
def s_table_every_int_l1_B (rec_ : qS73 → Option (Out Unit Bool)) (s : qS73) : Option (Out Unit Bool) := s_table_every_int_l1_b (fun holds t7 t8 t9 => rec_ (holds, t7, t8, t9)) s.1 s.2.1 s.2.2.1 s.2.2.2
theorem s_table_every_int_l1_FB : ∀ n s, s_table_every_int_l1_F (n + 1) s = s_table_every_int_l1_B (s_table_every_int_l1_F n) s := fun _ _ => rfl

def s_table_every_int (l : qL0) (c : Int) : Option Bool :=
 (s_table_every_int_l1 big c l (l.length : Int) (0 : Int)).bind fun
 | .ret q_ => some q_
 | .brk () => s_table_every_int_k1

/-! ### tablefinder/table.within -/

def s_table_within (l : qL0) (n : Int) : Option Bool :=
 (s_table_every_int l n).bind fun q =>
 some q

/-! ### tablefinder/table.Select$1 -/

def s_table_Select_1_k1 (t4 : Str) (out : Str) (t4_1 : qL2) (out_1 : qL2) : Option GaColumn :=
 some (GaColumn.mk out out_1)

def s_table_Select_1_l1_b (rec_ : Int → GaTable → qL0 → Int → Int → Str → Str → qL2 → qL2 → Option qS63) (k : Int) (t1 : GaTable) (t15 : qL0) (t16 : Int) (t17 : Int) (t4 : Str) (out : Str) (t4_1 : qL2) (out_1 : qL2) : Option qS63 :=
 bif (decide (t17 < t16)) then (
 (idx t15 t17).bind fun i =>
 (idx t1.Columns k).bind fun Column =>
 (idx Column.Cells i).bind fun Cell =>
 chk (room (out_1.length + ([Cell] : qL2).length) 24) <|
 chk (inK .i64 (t17 + 1)) <|
 rec_ k t1 t15 t16 (t17 + 1) t4 out t4_1 (out_1 ++ ([Cell] : qL2))
 ) else (
 some (t4, out, t4_1, out_1)
 )

def s_table_Select_1_l1 : Nat → Int → GaTable → qL0 → Int → Int → Str → Str → qL2 → qL2 → Option qS63
 | 0, _, _, _, _, _, _, _, _, _ => none
 | n_ + 1, k, t1, t15, t16, t17, t4, out, t4_1, out_1 => s_table_Select_1_l1_b (s_table_Select_1_l1 n_) k t1 t15 t16 t17 t4 out t4_1 out_1

def s_table_Select_1_l1_F (n : Nat) (s : qS51) : Option qS63 := s_table_Select_1_l1 n s.1 s.2.1 s.2.2.1 s.2.2.2.1 s.2.2.2.2.1 s.2.2.2.2.2.1 s.2.2.2.2.2.2.1 s.2.2.2.2.2.2.2.1 s.2.2.2.2.2.2.2.2
def s_table_Select_1_l1_B (rec_ : qS51 → Option qS63) (s : qS51) : Option qS63 := s_table_Select_1_l1_b (fun k t1 t15 t16 t17 t4 out t4_1 out_1 => rec_ (k, t1, t15, t16, t17, t4, out, t4_1, out_1)) s.1 s.2.1 s.2.2.1 s.2.2.2.1 s.2.2.2.2.1 s.2.2.2.2.2.1 s.2.2.2.2.2.2.1 s.2.2.2.2.2.2.2.1 s.2.2.2.2.2.2.2.2
theorem s_table_Select_1_l1_FB : ∀ n s, s_table_Select_1_l1_F (n + 1) s = s_table_Select_1_l1_B (s_table_Select_1_l1_F n) s := fun _ _ => rfl

def s_table_Select_1 (k : Int) (a1 : GaTable) (a2 : qL0) : Option GaColumn :=
 (idx a1.Columns k).bind fun Column =>
 (s_table_Select_1_l1 big k a1 a2 (a2.length : Int) (0 : Int) ([] : Str) Column.Name ([] : qL2) ([] : qL2)).bind fun (x0, x1, x2, x3) => s_table_Select_1_k1 x0 x1 x2 x3

/-! ### tablefinder/table.with -/

def s_table_with_k1 (t6 : Int) (t6_1 : Str) (out : Int) (out_1 : Str) (t6_2 : qL1) (out_2 : qL1) : Option GaTable :=
 some (GaTable.mk out out_1 out_2)

def s_table_with_l1_b (rec_ : qR75) (get_ : GaTable) (get__1 : qL0) (t14 : Int) (k : Int) (t6 : Int) (t6_1 : Str) (out : Int) (out_1 : Str) (t6_2 : qL1) (out_2 : qL1) : Option qS57 :=
 bif (decide (k < t14)) then (
 (s_table_Select_1 k get_ get__1).bind fun q =>
 chk (room (out_2.length + ([q] : qL1).length) 40) <|
 chk (inK .i64 (k + 1)) <|
 rec_ get_ get__1 t14 (k + 1) t6 t6_1 out out_1 t6_2 (out_2 ++ ([q] : qL1))
 ) else (
 some (t6, t6_1, out, out_1, t6_2, out_2)
 )

def s_table_with_l1 : Nat → GaTable → qL0 → Int → Int → Int → Str → Int → Str → qL1 → qL1 → Option qS57
 | 0, _, _, _, _, _, _, _, _, _, _ => none
 | n_ + 1, get_, get__1, t14, k, t6, t6_1, out, out_1, t6_2, out_2 => s_table_with_l1_b (s_table_with_l1 n_) get_ get__1 t14 k t6 t6_1 out out_1 t6_2 out_2

def s_table_with_l1_F (n : Nat) (s : qS46) : Option qS57 := s_table_with_l1 n s.1 s.2.1 s.2.2.1 s.2.2.2.1 s.2.2.2.2.1 s.2.2.2.2.2.1 s.2.2.2.2.2.2.1 s.2.2.2.2.2.2.2.1 s.2.2.2.2.2.2.2.2.1 s.2.2.2.2.2.2.2.2.2
def s_table_with_l1_B (rec_ : qS46 → Option qS57) (s : qS46) : Option qS57 := s_table_with_l1_b (fun get_ get__1 t14 k t6 t6_1 out out_1 t6_2 out_2 => rec_ (get_, get__1, t14, k, t6, t6_1, out, out_1, t6_2, out_2)) s.1 s.2.1 s.2.2.1 s.2.2.2.1 s.2.2.2.2.1 s.2.2.2.2.2.1 s.2.2.2.2.2.2.1 s.2.2.2.2.2.2.2.1 s.2.2.2.2.2.2.2.2.1 s.2.2.2.2.2.2.2.2.2
theorem s_table_with_l1_FB : ∀ n s, s_table_with_l1_F (n + 1) s = s_table_with_l1_B (s_table_with_l1_F n) s := fun _ _ => rfl

def s_table_with (t : GaTable) (n : Int) (c : GaTable) (c_1 : qL0) : Option GaTable :=
 (s_table_with_l1 big c c_1 n (0 : Int) (0 : Int) ([] : Str) t.ID t.Name ([] : qL1) ([] : qL1)).bind fun (x0, x1, x2, x3, x4, x5) => s_table_with_k1 x0 x1 x2 x3 x4 x5

/-! ### tablefinder/table.Select -/

def s_table_Select (t : GaTable) (rows : qL0) : Option (GaTable × Int) :=
 (s_table_Valid t).bind fun q =>
 bif (!q) then (
 some ((GaTable.mk 0 ([] : Str) ([] : qL1)), 1)
 ) else (
 (s_table_Rows t).bind fun q_1 =>
 (s_table_within rows q_1).bind fun q_2 =>
 bif (!q_2) then (
 some ((GaTable.mk 0 ([] : Str) ([] : qL1)), 2)
 ) else (
 bif (decide ((rows.length : Int) > 4096)) then (
 some ((GaTable.mk 0 ([] : Str) ([] : qL1)), 3)
 ) else (
 (s_table_with t (t.Columns.length : Int) t rows).bind fun q_3 =>
 some (q_3, 0)
 )
 )
 )

/-! ### tablefinder/table.Sort -/

def s_table_Sort_j2 (t : GaTable) (t2 : Int) (t2_1 : Str) (order : qL0) (t2_2 : qL1) : Option (GaTable × Int) :=
 (s_table_Select t order).bind fun (q, q_1) =>
 some (q, q_1)

def s_table_Sort_k1 (t : GaTable) (t2 : Int) (t2_1 : Str) (order : qL0) (t2_2 : qL1) : Option (GaTable × Int) :=
 (s_table_Valid t).bind fun q =>
 bif q then (
 (ss_SortStableFunc_int_int_w order t).bind fun t21 =>
 s_table_Sort_j2 t t2 t2_1 t21 t2_2
 ) else (
 s_table_Sort_j2 t t2 t2_1 order t2_2
 )

def s_table_Sort_l1_b (rec_ : Int → Int → GaTable → Int → Str → qL0 → qL1 → Option qS59) (t10 : Int) (i : Int) (t : GaTable) (t2 : Int) (t2_1 : Str) (order : qL0) (t2_2 : qL1) : Option qS59 :=
 bif (decide (i < t10)) then (
 chk (inR i (order.length : Int)) <|
 chk (inK .i64 (i + 1)) <|
 rec_ t10 (i + 1) t t2 t2_1 (order.set ((i).toNat) i) t2_2
 ) else (
 some (t, t2, t2_1, order, t2_2)
 )

def s_table_Sort_l1 : Nat → Int → Int → GaTable → Int → Str → qL0 → qL1 → Option qS59
 | 0, _, _, _, _, _, _, _ => none
 | n_ + 1, t10, i, t, t2, t2_1, order, t2_2 => s_table_Sort_l1_b (s_table_Sort_l1 n_) t10 i t t2 t2_1 order t2_2

def s_table_Sort (t : GaTable) : Option (GaTable × Int) :=
 (s_table_Rows t).bind fun q =>
 chk (mkOk q q 8) <|
 (s_table_Sort_l1 big ((List.replicate (q).toNat (0 : Int)).length : Int) (0 : Int) t (0 : Int) ([] : Str) (List.replicate (q).toNat (0 : Int)) ([] : qL1)).bind fun (x0, x1, x2, x3, x4) => s_table_Sort_k1 x0 x1 x2 x3 x4

/-! ### tablefinder/tablefinderlaw03.sane -/

def sl03_sane_j1 (t0 : Bool) : Option Bool :=
 some t0

def sl03_sane  : Option Bool :=
 (s_table_Sort (GaTable.mk 0 ([] : Str) ([(GaColumn.mk ([] : Str) ([(GaCell.mk false ([98] : Str)), (GaCell.mk true ([] : Str)), (GaCell.mk false ([97] : Str))] : qL2)), (GaColumn.mk ([] : Str) ([(GaCell.mk false ([49] : Str)), (GaCell.mk false ([50] : Str)), (GaCell.mk false ([51] : Str))] : qL2))] : qL1))).bind fun (x_, e) =>
 bif (e == 0) then (
 (s_table_Valid (GaTable.mk 0 ([] : Str) ([(GaColumn.mk ([] : Str) ([(GaCell.mk false ([98] : Str)), (GaCell.mk true ([] : Str)), (GaCell.mk false ([97] : Str))] : qL2)), (GaColumn.mk ([] : Str) ([(GaCell.mk false ([49] : Str)), (GaCell.mk false ([50] : Str)), (GaCell.mk false ([51] : Str))] : qL2))] : qL1))).bind fun q =>
 bif q then (
 (s_table_Rows x_).bind fun q_1 =>
 bif (q_1 == 3) then (
 (idx x_.Columns 0).bind fun Column =>
 (idx Column.Cells 0).bind fun Cell =>
 bif Cell.Null then (
 (idx x_.Columns 1).bind fun Column_1 =>
 (idx Column_1.Cells 1).bind fun Cell_1 =>
 sl03_sane_j1 (Cell_1.Text == ([51] : Str))
 ) else (
 sl03_sane_j1 false
 )
 ) else (
 sl03_sane_j1 false
 )
 ) else (
 sl03_sane_j1 false
 )
 ) else (
 sl03_sane_j1 false
 )

/-! ### tablefinder/tablefindermill.New -/

def s_tablefindermill_New_j1 (seeds : qL0) : Option G_tablefindermill_Dice :=
 some (G_tablefindermill_Dice.mk seeds 0)

def s_tablefindermill_New (seeds : qL0) : Option G_tablefindermill_Dice :=
 bif (decide ((seeds.length : Int) > 300)) then (
 chk (within 0 300 (seeds.length : Int)) <|
 s_tablefindermill_New_j1 (seeds.take ((300 : Int)).toNat)
 ) else (
 s_tablefindermill_New_j1 seeds
 )

/-! ### (*tablefinder/tablefindermill.Dice).Pick -/

def s_tablefindermill_Dice_Pick (d : G_tablefindermill_Dice) (n : Int) : Option (Int × G_tablefindermill_Dice) :=
 bif (decide (d.at_ ≥ (d.seeds.length : Int))) then (
 some (0, d)
 ) else (
 chk (inK .i64 (d.at_ + 1)) <|
 chk (inK .i64 ((d.at_ + 1) - 1)) <|
 (idx d.seeds ((d.at_ + 1) - 1)).bind fun seed =>
 chk (decide (n ≠ 0)) <|
 some ((Int.tmod (IntKind.wrap .i64 seed) n), (G_tablefindermill_Dice.mk d.seeds (d.at_ + 1)))
 )

/-! ### tablefinder/tablefindermill.Words -/

def s_tablefindermill_Words  : Option (List Str) :=
 some ([([97, 110, 110] : Str), ([98, 111, 98] : Str), ([99, 121] : Str), ([66, 101, 114, 110] : Str), ([85, 108, 109] : Str), ([78, 101, 119, 32, 89, 111, 114, 107] : Str), ([121, 111, 114, 107, 32, 110, 101, 119] : Str), ([97, 45, 49] : Str), ([98, 45, 50, 50] : Str), ([120] : Str), ([122, 195, 188, 114, 105, 99, 104] : Str), ([65, 110, 110] : Str), ([98, 111] : Str), ([99, 97, 116] : Str), ([98, 97, 116] : Str), ([114, 97, 116] : Str)] : (List Str))

/-! ### (*tablefinder/tablefindermill.Dice).Cell -/

def s_tablefindermill_Dice_Cell (d : G_tablefindermill_Dice) : Option (GaCell × G_tablefindermill_Dice) :=
 (s_tablefindermill_Dice_Pick d 7).bind fun (q, t3) =>
 bif (q == 0) then (
 some ((GaCell.mk true ([] : Str)), t3)
 ) else (
 (s_tablefindermill_Words).bind fun q_1 =>
 (s_tablefindermill_Words).bind fun q_2 =>
 (s_tablefindermill_Dice_Pick t3 3).bind fun (q_3, t12) =>
 chk (inR q_3 (([3, 6, (q_2.length : Int)] : qL0).length : Int)) <|
 (([3, 6, (q_2.length : Int)] : qL0)[(q_3).toNat]?).bind fun Int_e =>
 (s_tablefindermill_Dice_Pick t12 Int_e).bind fun (q_4, t8) =>
 chk (inR q_4 (q_1.length : Int)) <|
 (q_1[(q_4).toNat]?).bind fun q_e =>
 some ((GaCell.mk false q_e), t8)
 )

/-! ### strconv.Itoa -/

def s_strconv_Itoa (n : Int) : Option Str :=
 some (Lib.itoa n)

/-! ### (*tablefinder/tablefindermill.Dice).Column -/

def s_tablefindermill_Dice_Column_k3 (d : G_tablefindermill_Dice) (t4 : Str) (c : Str) (t4_1 : qL2) (c_1 : qL2) : Option (GaColumn × G_tablefindermill_Dice) :=
 some ((GaColumn.mk c c_1), d)

def s_tablefindermill_Dice_Column_j2 (rec_ : qR78) (rows : Int) (numbers : Bool) (n : Int) (d : G_tablefindermill_Dice) (t4 : Str) (c : Str) (x_ : GaCell) (t4_1 : qL2) (c_1 : qL2) : Option qS54 :=
 chk (room (c_1.length + ([x_] : qL2).length) 24) <|
 chk (inK .i64 (n + 1)) <|
 rec_ rows numbers (n + 1) d t4 c t4_1 (c_1 ++ ([x_] : qL2))

def s_tablefindermill_Dice_Column_j1 (rec_ : qR78) (rows : Int) (numbers : Bool) (n : Int) (t30 : Bool) (d : G_tablefindermill_Dice) (t4 : Str) (c : Str) (x_ : GaCell) (t4_1 : qL2) (c_1 : qL2) : Option qS54 :=
 bif t30 then (
 (s_tablefindermill_Dice_Pick d 9).bind fun (q, t31) =>
 (s_strconv_Itoa q).bind fun q_1 =>
 s_tablefindermill_Dice_Column_j2 rec_ rows numbers n t31 t4 c (GaCell.mk x_.Null q_1) t4_1 c_1
 ) else (
 s_tablefindermill_Dice_Column_j2 rec_ rows numbers n d t4 c x_ t4_1 c_1
 )

def s_tablefindermill_Dice_Column_l1_b (rec_ : qR78) (rows : Int) (numbers : Bool) (n : Int) (d : G_tablefindermill_Dice) (t4 : Str) (c : Str) (t4_1 : qL2) (c_1 : qL2) : Option qS54 :=
 bif (decide (n < rows)) then (
 (s_tablefindermill_Dice_Cell d).bind fun (x_, t23) =>
 bif numbers then (
 s_tablefindermill_Dice_Column_j1 rec_ rows numbers n (!x_.Null) t23 t4 c x_ t4_1 c_1
 ) else (
 s_tablefindermill_Dice_Column_j1 rec_ rows numbers n false t23 t4 c x_ t4_1 c_1
 )
 ) else (
 some (d, t4, c, t4_1, c_1)
 )

def s_tablefindermill_Dice_Column_l1 : Nat → Int → Bool → Int → G_tablefindermill_Dice → Str → Str → qL2 → qL2 → Option qS54
 | 0, _, _, _, _, _, _, _, _ => none
 | n_ + 1, rows, numbers, n, d, t4, c, t4_1, c_1 => s_tablefindermill_Dice_Column_l1_b (s_tablefindermill_Dice_Column_l1 n_) rows numbers n d t4 c t4_1 c_1

def s_tablefindermill_Dice_Column_l1_F (n : Nat) (s : qS49) : Option qS54 := s_tablefindermill_Dice_Column_l1 n s.1 s.2.1 s.2.2.1 s.2.2.2.1 s.2.2.2.2.1 s.2.2.2.2.2.1 s.2.2.2.2.2.2.1 s.2.2.2.2.2.2.2
def s_tablefindermill_Dice_Column_l1_B (rec_ : qS49 → Option qS54) (s : qS49) : Option qS54 := s_tablefindermill_Dice_Column_l1_b (fun rows numbers n d t4 c t4_1 c_1 => rec_ (rows, numbers, n, d, t4, c, t4_1, c_1)) s.1 s.2.1 s.2.2.1 s.2.2.2.1 s.2.2.2.2.1 s.2.2.2.2.2.1 s.2.2.2.2.2.2.1 s.2.2.2.2.2.2.2
theorem s_tablefindermill_Dice_Column_l1_FB : ∀ n s, s_tablefindermill_Dice_Column_l1_F (n + 1) s = s_tablefindermill_Dice_Column_l1_B (s_tablefindermill_Dice_Column_l1_F n) s := fun _ _ => rfl

def s_tablefindermill_Dice_Column (d : G_tablefindermill_Dice) (rows : Int) : Option (GaColumn × G_tablefindermill_Dice) :=
 (s_tablefindermill_Dice_Pick d 4).bind fun (q, t10) =>
 chk (inR q (([([110, 97, 109, 101] : Str), ([99, 105, 116, 121] : Str), ([99] : Str), ([] : Str)] : (List Str)).length : Int)) <|
 (([([110, 97, 109, 101] : Str), ([99, 105, 116, 121] : Str), ([99] : Str), ([] : Str)] : (List Str))[(q).toNat]?).bind fun Str_e =>
 (s_tablefindermill_Dice_Pick t10 4).bind fun (q_1, t15) =>
 (s_tablefindermill_Dice_Column_l1 big rows (q_1 == 0) (0 : Int) t15 ([] : Str) Str_e ([] : qL2) ([] : qL2)).bind fun (x0, x1, x2, x3, x4) => s_tablefindermill_Dice_Column_k3 x0 x1 x2 x3 x4

/-! ### (*tablefinder/tablefindermill.Dice).Table -/

def s_tablefindermill_Dice_Table_k1 (d : G_tablefindermill_Dice) (t8 : Int) (t8_1 : Str) (t : Int) (t_1 : Str) (t8_2 : qL1) (t_2 : qL1) : Option (GaTable × G_tablefindermill_Dice) :=
 some ((GaTable.mk t t_1 t_2), d)

def s_tablefindermill_Dice_Table_l1_b (rec_ : Int → Int → G_tablefindermill_Dice → Int → Str → Int → Str → qL1 → qL1 → Option qS52) (n : Int) (k : Int) (d : G_tablefindermill_Dice) (t8 : Int) (t8_1 : Str) (t : Int) (t_1 : Str) (t8_2 : qL1) (t_2 : qL1) : Option qS52 :=
 bif (decide (k > 0)) then (
 (s_tablefindermill_Dice_Column d n).bind fun (q, t33) =>
 chk (room (t_2.length + ([q] : qL1).length) 40) <|
 chk (inK .i64 (k - 1)) <|
 rec_ n (k - 1) t33 t8 t8_1 t t_1 t8_2 (t_2 ++ ([q] : qL1))
 ) else (
 some (d, t8, t8_1, t, t_1, t8_2, t_2)
 )

def s_tablefindermill_Dice_Table_l1 : Nat → Int → Int → G_tablefindermill_Dice → Int → Str → Int → Str → qL1 → qL1 → Option qS52
 | 0, _, _, _, _, _, _, _, _, _ => none
 | n_ + 1, n, k, d, t8, t8_1, t, t_1, t8_2, t_2 => s_tablefindermill_Dice_Table_l1_b (s_tablefindermill_Dice_Table_l1 n_) n k d t8 t8_1 t t_1 t8_2 t_2

def s_tablefindermill_Dice_Table_l1_F (n : Nat) (s : qS45) : Option qS52 := s_tablefindermill_Dice_Table_l1 n s.1 s.2.1 s.2.2.1 s.2.2.2.1 s.2.2.2.2.1 s.2.2.2.2.2.1 s.2.2.2.2.2.2.1 s.2.2.2.2.2.2.2.1 s.2.2.2.2.2.2.2.2
def s_tablefindermill_Dice_Table_l1_B (rec_ : qS45 → Option qS52) (s : qS45) : Option qS52 := s_tablefindermill_Dice_Table_l1_b (fun n k d t8 t8_1 t t_1 t8_2 t_2 => rec_ (n, k, d, t8, t8_1, t, t_1, t8_2, t_2)) s.1 s.2.1 s.2.2.1 s.2.2.2.1 s.2.2.2.2.1 s.2.2.2.2.2.1 s.2.2.2.2.2.2.1 s.2.2.2.2.2.2.2.1 s.2.2.2.2.2.2.2.2
theorem s_tablefindermill_Dice_Table_l1_FB : ∀ n s, s_tablefindermill_Dice_Table_l1_F (n + 1) s = s_tablefindermill_Dice_Table_l1_B (s_tablefindermill_Dice_Table_l1_F n) s := fun _ _ => rfl

def s_tablefindermill_Dice_Table (d : G_tablefindermill_Dice) (id : Int) (columns : Int) (rows : Int) : Option (GaTable × G_tablefindermill_Dice) :=
 (s_tablefindermill_Dice_Pick d 3).bind fun (q, t14) =>
 chk (inR q (([([116] : Str), ([112, 101, 111, 112, 108, 101] : Str), ([112, 108, 97, 99, 101, 115] : Str)] : (List Str)).length : Int)) <|
 (([([116] : Str), ([112, 101, 111, 112, 108, 101] : Str), ([112, 108, 97, 99, 101, 115] : Str)] : (List Str))[(q).toNat]?).bind fun Str_e =>
 chk (inK .i64 (rows + 1)) <|
 (s_tablefindermill_Dice_Pick t14 (rows + 1)).bind fun (n, t19) =>
 chk (inK .i64 (columns + 1)) <|
 (s_tablefindermill_Dice_Pick t19 (columns + 1)).bind fun (k, t23) =>
 (s_tablefindermill_Dice_Table_l1 big n k t23 (0 : Int) ([] : Str) id Str_e ([] : qL1) ([] : qL1)).bind fun (x0, x1, x2, x3, x4, x5, x6) => s_tablefindermill_Dice_Table_k1 x0 x1 x2 x3 x4 x5 x6

/-! ### (*tablefinder/tablefindermill.Dice).List -/

def s_tablefindermill_Dice_List_k1 (d : G_tablefindermill_Dice) (out : qL3) : Option (qL3 × G_tablefindermill_Dice) :=
 some (out, d)

def s_tablefindermill_Dice_List_l1_b (rec_ : Int → Int → Int → Int → G_tablefindermill_Dice → qL3 → Option qS66) (columns : Int) (rows : Int) (id : Int) (n : Int) (d : G_tablefindermill_Dice) (out : qL3) : Option qS66 :=
 bif (decide (n > 0)) then (
 (s_tablefindermill_Dice_Table d id columns rows).bind fun (q, t23) =>
 chk (room (out.length + ([q] : qL3).length) 48) <|
 (s_tablefindermill_Dice_Pick t23 3).bind fun (q_1, t31) =>
 chk (inK .i64 (1 + q_1)) <|
 chk (inK .i64 (id + (1 + q_1))) <|
 chk (inK .i64 (n - 1)) <|
 rec_ columns rows (id + (1 + q_1)) (n - 1) t31 (out ++ ([q] : qL3))
 ) else (
 some (d, out)
 )

def s_tablefindermill_Dice_List_l1 : Nat → Int → Int → Int → Int → G_tablefindermill_Dice → qL3 → Option qS66
 | 0, _, _, _, _, _, _ => none
 | n_ + 1, columns, rows, id, n, d, out => s_tablefindermill_Dice_List_l1_b (s_tablefindermill_Dice_List_l1 n_) columns rows id n d out

def s_tablefindermill_Dice_List_l1_F (n : Nat) (s : qS55) : Option qS66 := s_tablefindermill_Dice_List_l1 n s.1 s.2.1 s.2.2.1 s.2.2.2.1 s.2.2.2.2.1 s.2.2.2.2.2
def s_tablefindermill_Dice_List_l1_B (rec_ : qS55 → Option qS66) (s : qS55) : Option qS66 := s_tablefindermill_Dice_List_l1_b (fun columns rows id n d out => rec_ (columns, rows, id, n, d, out)) s.1 s.2.1 s.2.2.1 s.2.2.2.1 s.2.2.2.2.1 s.2.2.2.2.2
theorem s_tablefindermill_Dice_List_l1_FB : ∀ n s, s_tablefindermill_Dice_List_l1_F (n + 1) s = s_tablefindermill_Dice_List_l1_B (s_tablefindermill_Dice_List_l1_F n) s := fun _ _ => rfl

def s_tablefindermill_Dice_List (d : G_tablefindermill_Dice) (tables : Int) (columns : Int) (rows : Int) : Option (qL3 × G_tablefindermill_Dice) :=
 (s_tablefindermill_Dice_Pick d 3).bind fun (id, t12) =>
 chk (inK .i64 (tables + 1)) <|
 (s_tablefindermill_Dice_Pick t12 (tables + 1)).bind fun (n, t14) =>
 (s_tablefindermill_Dice_List_l1 big columns rows id n t14 ([] : qL3)).bind fun (x0, x1) => s_tablefindermill_Dice_List_k1 x0 x1

/-! ### tablefinder/table.find$1 -/

def s_table_find_1 (t : GaTable) (a1 : Int) : Option Bool :=
 some (t.ID == a1)

/-! ### slices.IndexFunc[[]tablefinder/api.Table,tablefinder/api.Table] -/

def ss_IndexFunc_api_Table_api_Table_k1  : Option Int :=
 some (-1 : Int)

def ss_IndexFunc_api_Table_api_Table_l1_b (rec_ : qL3 → Int → Int → Int → Option (Out Unit Int)) (s : qL3) (f : Int) (t7 : Int) (i : Int) : Option (Out Unit Int) :=
 bif (decide (i < t7)) then (
 (idx s i).bind fun s_e =>
 (s_table_find_1 s_e f).bind fun q =>
 bif q then (
 some (.ret i)
 ) else (
 chk (inK .i64 (i + 1)) <|
 rec_ s f t7 (i + 1)
 )
 ) else (
 some (.brk ())
 )

def ss_IndexFunc_api_Table_api_Table_l1 : Nat → qL3 → Int → Int → Int → Option (Out Unit Int)
 | 0, _, _, _, _ => none
 | n_ + 1, s, f, t7, i => ss_IndexFunc_api_Table_api_Table_l1_b (ss_IndexFunc_api_Table_api_Table_l1 n_) s f t7 i

def ss_IndexFunc_api_Table_api_Table_l1_F (n : Nat) (s : qS71) : Option (Out Unit Int) := ss_IndexFunc_api_Table_api_Table_l1 n s.1 s.2.1 s.2.2.1 s.2.2.2
def ss_IndexFunc_api_Table_api_Table_l1_B (rec_ : qS71 → Option (Out Unit Int)) (s : qS71) : Option (Out Unit Int) := ss_IndexFunc_api_Table_api_Table_l1_b (fun s f t7 i => rec_ (s, f, t7, i)) s.1 s.2.1 s.2.2.1 s.2.2.2
theorem ss_IndexFunc_api_Table_api_Table_l1_FB : ∀ n s, ss_IndexFunc_api_Table_api_Table_l1_F (n + 1) s = ss_IndexFunc_api_Table_api_Table_l1_B (ss_IndexFunc_api_Table_api_Table_l1_F n) s := fun _ _ => rfl

def ss_IndexFunc_api_Table_api_Table (s : qL3) (c : Int) : Option Int :=
 (ss_IndexFunc_api_Table_api_Table_l1 big s c (s.length : Int) (0 : Int)).bind fun
 | .ret q_ => some q_
 | .brk () => ss_IndexFunc_api_Table_api_Table_k1

/-! ### tablefinder/table.find -/

def s_table_find (l : qL3) (id : Int) : Option Int :=
 (ss_IndexFunc_api_Table_api_Table l id).bind fun q =>
 some q

/-! ### slices.Clone[[]tablefinder/api.Cell,tablefinder/api.Cell] -/

def ss_Clone_api_Cell_api_Cell_j1 (s : qL2) (t4 : Bool) : Option qL2 :=
 bif t4 then (
 some ([] : qL2)
 ) else (
 chk (room (([] : qL2).length + s.length) 24) <|
 some (([] : qL2) ++ s)
 )

def ss_Clone_api_Cell_api_Cell (s : qL2) : Option qL2 :=
 bif (List.isEmpty s) then agree (
 ss_Clone_api_Cell_api_Cell_j1 s true
 ) (
 ss_Clone_api_Cell_api_Cell_j1 s false
 ) else (
 ss_Clone_api_Cell_api_Cell_j1 s false
 )

/-! ### tablefinder/table.column -/

def s_table_column (c : GaColumn) : Option GaColumn :=
 (ss_Clone_api_Cell_api_Cell c.Cells).bind fun q =>
 some (GaColumn.mk c.Name q)

/-! ### tablefinder/table.Get -/

def s_table_Get_j1 (l : qL3) (i : Int) (t28 : Bool) (r_ : GaRef) (t4 : Str) (t4_1 : qL2) : Option (GaColumn × Bool) :=
 bif t28 then (
 some ((GaColumn.mk ([] : Str) ([] : qL2)), false)
 ) else (
 (idx l i).bind fun l_e =>
 (idx l_e.Columns r_.Column).bind fun Column =>
 (s_table_column Column).bind fun q =>
 some (q, true)
 )

def s_table_Get (l : qL3) (r_ : GaRef) : Option (GaColumn × Bool) :=
 (s_table_find l r_.Table).bind fun i =>
 bif (decide (i < 0)) then (
 s_table_Get_j1 l i true r_ ([] : Str) ([] : qL2)
 ) else (
 bif (decide (r_.Column < 0)) then (
 s_table_Get_j1 l i true r_ ([] : Str) ([] : qL2)
 ) else (
 (idx l i).bind fun l_e =>
 s_table_Get_j1 l i (decide (r_.Column ≥ (l_e.Columns.length : Int))) r_ ([] : Str) ([] : qL2)
 )
 )

/-! ### tablefinder/tablefinderref03.SameCells -/

def sr03_SameCells_k2  : Option Bool :=
 some true

def sr03_SameCells_l1_b (rec_ : Int → Int → GaColumn → GaColumn → Option (Out Unit Bool)) (t22 : Int) (i : Int) (a : GaColumn) (b : GaColumn) : Option (Out Unit Bool) :=
 bif (decide (i < t22)) then (
 (idx a.Cells i).bind fun Cell =>
 (idx b.Cells i).bind fun Cell_1 =>
 bif (!(Cell.Null == Cell_1.Null && (Cell.Text == Cell_1.Text && true))) then (
 some (.ret false)
 ) else (
 chk (inK .i64 (i + 1)) <|
 rec_ t22 (i + 1) a b
 )
 ) else (
 some (.brk ())
 )

def sr03_SameCells_l1 : Nat → Int → Int → GaColumn → GaColumn → Option (Out Unit Bool)
 | 0, _, _, _, _ => none
 | n_ + 1, t22, i, a, b => sr03_SameCells_l1_b (sr03_SameCells_l1 n_) t22 i a b

def sr03_SameCells_l1_F (n : Nat) (s : qS72) : Option (Out Unit Bool) := sr03_SameCells_l1 n s.1 s.2.1 s.2.2.1 s.2.2.2
def sr03_SameCells_l1_B (rec_ : qS72 → Option (Out Unit Bool)) (s : qS72) : Option (Out Unit Bool) := sr03_SameCells_l1_b (fun t22 i a b => rec_ (t22, i, a, b)) s.1 s.2.1 s.2.2.1 s.2.2.2
theorem sr03_SameCells_l1_FB : ∀ n s, sr03_SameCells_l1_F (n + 1) s = sr03_SameCells_l1_B (sr03_SameCells_l1_F n) s := fun _ _ => rfl

def sr03_SameCells_j1 (t19 : Bool) (a : GaColumn) (b : GaColumn) : Option Bool :=
 bif t19 then (
 some false
 ) else (
 (sr03_SameCells_l1 big (a.Cells.length : Int) (0 : Int) a b).bind fun
 | .ret q_ => some q_
 | .brk () => sr03_SameCells_k2
 )

def sr03_SameCells (a : GaColumn) (b : GaColumn) : Option Bool :=
 bif (!(a.Name == b.Name)) then (
 sr03_SameCells_j1 true a b
 ) else (
 sr03_SameCells_j1 ((a.Cells.length : Int) != (b.Cells.length : Int)) a b
 )

/-! ### tablefinder/table.Refs -/

def s_table_Refs_k2 (out : (List GaRef)) : Option (List GaRef) :=
 some out

def s_table_Refs_k1 (rec_ : qR80) (t7 : qL3) (t8 : Int) (t9 : Int) (out : (List GaRef)) : Option (List GaRef) :=
 chk (inK .i64 (t9 + 1)) <|
 rec_ t7 t8 (t9 + 1) out

def s_table_Refs_l2_b (rec_ : qL3 → Int → Int → Int → Int → (List GaRef) → GaTable → Option qS64) (t7 : qL3) (t8 : Int) (t9 : Int) (t15 : Int) (k : Int) (out : (List GaRef)) (t : GaTable) : Option qS64 :=
 bif (decide (k < t15)) then (
 chk (room (out.length + ([(GaRef.mk t.ID k)] : (List GaRef)).length) 16) <|
 chk (inK .i64 (k + 1)) <|
 rec_ t7 t8 t9 t15 (k + 1) (out ++ ([(GaRef.mk t.ID k)] : (List GaRef))) t
 ) else (
 some (t7, t8, t9, out)
 )

def s_table_Refs_l2 : Nat → qL3 → Int → Int → Int → Int → (List GaRef) → GaTable → Option qS64
 | 0, _, _, _, _, _, _, _ => none
 | n_ + 1, t7, t8, t9, t15, k, out, t => s_table_Refs_l2_b (s_table_Refs_l2 n_) t7 t8 t9 t15 k out t

def s_table_Refs_l2_F (n : Nat) (s : qS56) : Option qS64 := s_table_Refs_l2 n s.1 s.2.1 s.2.2.1 s.2.2.2.1 s.2.2.2.2.1 s.2.2.2.2.2.1 s.2.2.2.2.2.2
def s_table_Refs_l2_B (rec_ : qS56 → Option qS64) (s : qS56) : Option qS64 := s_table_Refs_l2_b (fun t7 t8 t9 t15 k out t => rec_ (t7, t8, t9, t15, k, out, t)) s.1 s.2.1 s.2.2.1 s.2.2.2.1 s.2.2.2.2.1 s.2.2.2.2.2.1 s.2.2.2.2.2.2
theorem s_table_Refs_l2_FB : ∀ n s, s_table_Refs_l2_F (n + 1) s = s_table_Refs_l2_B (s_table_Refs_l2_F n) s := fun _ _ => rfl

def s_table_Refs_l1_b (rec_ : qR80) (t7 : qL3) (t8 : Int) (t9 : Int) (out : (List GaRef)) : Option (List GaRef) :=
 bif (decide (t9 < t8)) then (
 (idx t7 t9).bind fun t =>
 (s_table_Refs_l2 big t7 t8 t9 (t.Columns.length : Int) (0 : Int) out t).bind fun (x0, x1, x2, x3) => s_table_Refs_k1 rec_ x0 x1 x2 x3
 ) else (
 some out
 )

def s_table_Refs_l1 : Nat → qL3 → Int → Int → (List GaRef) → Option (List GaRef)
 | 0, _, _, _, _ => none
 | n_ + 1, t7, t8, t9, out => s_table_Refs_l1_b (s_table_Refs_l1 n_) t7 t8 t9 out

def s_table_Refs_l1_F (n : Nat) (s : qS64) : Option (List GaRef) := s_table_Refs_l1 n s.1 s.2.1 s.2.2.1 s.2.2.2
def s_table_Refs_l1_B (rec_ : qS64 → Option (List GaRef)) (s : qS64) : Option (List GaRef) := s_table_Refs_l1_b (fun t7 t8 t9 out => rec_ (t7, t8, t9, out)) s.1 s.2.1 s.2.2.1 s.2.2.2
theorem s_table_Refs_l1_FB : ∀ n s, s_table_Refs_l1_F (n + 1) s = s_table_Refs_l1_B (s_table_Refs_l1_F n) s := fun _ _ => rfl

def s_table_Refs (l : qL3) : Option (List GaRef) :=
 (s_table_Refs_l1 big l (l.length : Int) (0 : Int) ([] : (List GaRef))).bind fun x0 => s_table_Refs_k2 x0

/-! ### cmp.isNaN[int] -/

def s_cmp_isNaN_int (x_ : Int) : Option Bool :=
 some (x_ != x_)

/-! ### cmp.Compare[int] -/

def s_cmp_Compare_int (x_ : Int) (y : Int) : Option Int :=
 (s_cmp_isNaN_int x_).bind fun xNaN =>
 (s_cmp_isNaN_int y).bind fun yNaN =>
 bif xNaN then (
 bif yNaN then (
 some (0 : Int)
 ) else (
 some (-1 : Int)
 )
 ) else (
 bif yNaN then (
 some (1 : Int)
 ) else (
 bif (decide (x_ < y)) then (
 some (-1 : Int)
 ) else (
 bif (decide (x_ > y)) then (
 some (1 : Int)
 ) else (
 some (0 : Int)
 )
 )
 )
 )

/-! ### cmp.Or[int] -/

def s_cmp_Or_int_k1 (zero : Int) : Option Int :=
 some zero

def s_cmp_Or_int_l1_b (rec_ : Int → qL0 → Int → Int → Option (Out Int Int)) (zero : Int) (t6 : qL0) (t7 : Int) (t8 : Int) : Option (Out Int Int) :=
 bif (decide (t8 < t7)) then (
 (idx t6 t8).bind fun val =>
 bif (val != zero) then (
 some (.ret val)
 ) else (
 chk (inK .i64 (t8 + 1)) <|
 rec_ zero t6 t7 (t8 + 1)
 )
 ) else (
 some (.brk zero)
 )

def s_cmp_Or_int_l1 : Nat → Int → qL0 → Int → Int → Option (Out Int Int)
 | 0, _, _, _, _ => none
 | n_ + 1, zero, t6, t7, t8 => s_cmp_Or_int_l1_b (s_cmp_Or_int_l1 n_) zero t6 t7 t8

def s_cmp_Or_int (vals : qL0) : Option Int :=
 (s_cmp_Or_int_l1 big (0 : Int) vals (vals.length : Int) (0 : Int)).bind fun
 | .ret q_ => some q_
 | .brk x0 => s_cmp_Or_int_k1 x0

/-! ### tablefinder/table.Less -/

def s_table_Less (a : GaRef) (b : GaRef) : Option Bool :=
 (s_cmp_Compare_int a.Table b.Table).bind fun q =>
 (s_cmp_Compare_int a.Column b.Column).bind fun q_1 =>
 (s_cmp_Or_int ([q, q_1] : qL0)).bind fun q_2 =>
 some (decide (q_2 < 0))

/-! ### tablefinder/tablefinderlaw03.TableOrder -/

def sl03_TableOrder_j6 (t4 : Bool) : Option Bool :=
 some t4

def sl03_TableOrder_k5 (l : qL3) (n : Int) (found : Bool) (other : GaRef) : Option Bool :=
 (s_table_Get l other).bind fun (q, ok) =>
 bif (ok == found) then (
 (s_table_Refs l).bind fun q_1 =>
 sl03_TableOrder_j6 (n == (q_1.length : Int))
 ) else (
 sl03_TableOrder_j6 false
 )

def sl03_TableOrder_k4 (rec_ : qR79) (l : qL3) (n : Int) (found : Bool) (t78 : qL3) (t79 : Int) (t80 : Int) (other : GaRef) : Option qS60 :=
 chk (inK .i64 (t80 + 1)) <|
 rec_ l n found t78 t79 (t80 + 1) other

def sl03_TableOrder_j3 (rec_ : qR77) (l : qL3) (n : Int) (found : Bool) (t78 : qL3) (t79 : Int) (t80 : Int) (t86 : Int) (i : Int) (other : GaRef) (t : GaTable) : Option qS53 :=
 chk (inK .i64 (n + 1)) <|
 chk (inK .i64 (i + 1)) <|
 rec_ l (n + 1) found t78 t79 t80 t86 (i + 1) other t

def sl03_TableOrder_j2 (rec_ : qR77) (l : qL3) (n : Int) (found : Bool) (t78 : qL3) (t79 : Int) (t80 : Int) (t86 : Int) (i : Int) (t142 : Bool) (other : GaRef) (t : GaTable) (r_ : GaRef) : Option qS53 :=
 bif t142 then (
 some (.ret false)
 ) else (
 bif found then (
 sl03_TableOrder_j3 rec_ l n true t78 t79 t80 t86 i other t
 ) else (
 sl03_TableOrder_j3 rec_ l n (r_.Table == other.Table && (r_.Column == other.Column && true)) t78 t79 t80 t86 i other t
 )
 )

def sl03_TableOrder_l2_b (rec_ : qR77) (l : qL3) (n : Int) (found : Bool) (t78 : qL3) (t79 : Int) (t80 : Int) (t86 : Int) (i : Int) (other : GaRef) (t : GaTable) : Option qS53 :=
 bif (decide (i < t86)) then (
 (s_table_Get l (GaRef.mk t.ID i)).bind fun (column, ok) =>
 bif (!ok) then (
 sl03_TableOrder_j2 rec_ l n found t78 t79 t80 t86 i true other t (GaRef.mk t.ID i)
 ) else (
 (idx t.Columns i).bind fun Column =>
 (sr03_SameCells column Column).bind fun q =>
 bif (!q) then (
 sl03_TableOrder_j2 rec_ l n found t78 t79 t80 t86 i true other t (GaRef.mk t.ID i)
 ) else (
 (s_table_Refs l).bind fun q_1 =>
 bif (decide (n ≥ (q_1.length : Int))) then (
 sl03_TableOrder_j2 rec_ l n found t78 t79 t80 t86 i true other t (GaRef.mk t.ID i)
 ) else (
 (s_table_Refs l).bind fun q_2 =>
 chk (inR n (q_2.length : Int)) <|
 (q_2[(n).toNat]?).bind fun q_e =>
 bif (!(q_e.Table == t.ID && (q_e.Column == i && true))) then (
 sl03_TableOrder_j2 rec_ l n found t78 t79 t80 t86 i true other t (GaRef.mk t.ID i)
 ) else (
 bif (decide (n > 0)) then (
 (s_table_Refs l).bind fun q_3 =>
 chk (inK .i64 (n - 1)) <|
 chk (inR (n - 1) (q_3.length : Int)) <|
 (q_3[((n - 1)).toNat]?).bind fun q_e_1 =>
 (s_table_Less q_e_1 (GaRef.mk t.ID i)).bind fun q_4 =>
 sl03_TableOrder_j2 rec_ l n found t78 t79 t80 t86 i (!q_4) other t (GaRef.mk t.ID i)
 ) else (
 sl03_TableOrder_j2 rec_ l n found t78 t79 t80 t86 i false other t (GaRef.mk t.ID i)
 )
 )
 )
 )
 )
 ) else (
 some (.brk (l, n, found, t78, t79, t80, other))
 )

def sl03_TableOrder_l2 : Nat → qL3 → Int → Bool → qL3 → Int → Int → Int → Int → GaRef → GaTable → Option qS53
 | 0, _, _, _, _, _, _, _, _, _, _ => none
 | n_ + 1, l, n, found, t78, t79, t80, t86, i, other, t => sl03_TableOrder_l2_b (sl03_TableOrder_l2 n_) l n found t78 t79 t80 t86 i other t

def sl03_TableOrder_l1_b (rec_ : qR79) (l : qL3) (n : Int) (found : Bool) (t78 : qL3) (t79 : Int) (t80 : Int) (other : GaRef) : Option qS60 :=
 bif (decide (t80 < t79)) then (
 (idx t78 t80).bind fun t =>
 (sl03_TableOrder_l2 big l n found t78 t79 t80 (t.Columns.length : Int) (0 : Int) other t).bind fun
 | .ret q_ => some (.ret q_)
 | .brk (x0, x1, x2, x3, x4, x5, x6) => sl03_TableOrder_k4 rec_ x0 x1 x2 x3 x4 x5 x6
 ) else (
 some (.brk (l, n, found, other))
 )

def sl03_TableOrder_l1 : Nat → qL3 → Int → Bool → qL3 → Int → Int → GaRef → Option qS60
 | 0, _, _, _, _, _, _, _ => none
 | n_ + 1, l, n, found, t78, t79, t80, other => sl03_TableOrder_l1_b (sl03_TableOrder_l1 n_) l n found t78 t79 t80 other

def sl03_TableOrder_j1 (t75 : Bool) (other : GaRef) (d : G_tablefindermill_Dice) : Option Bool :=
 bif t75 then (
 some false
 ) else (
 (s_tablefindermill_Dice_List d 4 4 4).bind fun (l, t76) =>
 (sl03_TableOrder_l1 big l (0 : Int) false l (l.length : Int) (0 : Int) other).bind fun
 | .ret q_ => some q_
 | .brk (x0, x1, x2, x3) => sl03_TableOrder_k5 x0 x1 x2 x3
 )

def sl03_TableOrder (s : qL0) (other : GaRef) : Option Bool :=
 (sl03_sane).bind fun q =>
 bif (!q) then (
 some false
 ) else (
 (s_tablefindermill_New s).bind fun d =>
 (s_tablefindermill_Dice_Cell d).bind fun (a, t27) =>
 (s_tablefindermill_Dice_Cell t27).bind fun (b, t29) =>
 (s_tablefindermill_Dice_Cell t29).bind fun (c, t31) =>
 (s_table_CompareCells a b).bind fun x_ =>
 (s_table_CompareCells b c).bind fun y =>
 (s_table_CompareCells a c).bind fun z =>
 (s_table_CompareCells b a).bind fun q_1 =>
 chk (inK .i64 (0 - x_)) <|
 bif (q_1 != (0 - x_)) then (
 sl03_TableOrder_j1 true other t31
 ) else (
 bif (!((x_ == 0) == (a.Null == b.Null && (a.Text == b.Text && true)))) then (
 sl03_TableOrder_j1 true other t31
 ) else (
 bif (decide (x_ ≤ 0)) then (
 bif (decide (y ≤ 0)) then (
 bif (decide (z > 0)) then (
 sl03_TableOrder_j1 true other t31
 ) else (
 bif a.Null then (
 sl03_TableOrder_j1 (decide (x_ > 0)) other t31
 ) else (
 sl03_TableOrder_j1 false other t31
 )
 )
 ) else (
 bif a.Null then (
 sl03_TableOrder_j1 (decide (x_ > 0)) other t31
 ) else (
 sl03_TableOrder_j1 false other t31
 )
 )
 ) else (
 bif a.Null then (
 sl03_TableOrder_j1 (decide (x_ > 0)) other t31
 ) else (
 sl03_TableOrder_j1 false other t31
 )
 )
 )
 )
 )

/-! ### tablefinder/table.Project$1 -/

def s_table_Project_1 (k : Int) (a1 : GaTable) (a2 : qL0) : Option GaColumn :=
 (idx a2 k).bind fun a2_e =>
 (idx a1.Columns a2_e).bind fun Column =>
 (s_table_column Column).bind fun q =>
 some q

/-! ### tablefinder/table.with -/

def s_table_with_2_k1 (t6 : Int) (t6_1 : Str) (out : Int) (out_1 : Str) (t6_2 : qL1) (out_2 : qL1) : Option GaTable :=
 some (GaTable.mk out out_1 out_2)

def s_table_with_2_l1_b (rec_ : qR75) (get_ : GaTable) (get__1 : qL0) (t14 : Int) (k : Int) (t6 : Int) (t6_1 : Str) (out : Int) (out_1 : Str) (t6_2 : qL1) (out_2 : qL1) : Option qS57 :=
 bif (decide (k < t14)) then (
 (s_table_Project_1 k get_ get__1).bind fun q =>
 chk (room (out_2.length + ([q] : qL1).length) 40) <|
 chk (inK .i64 (k + 1)) <|
 rec_ get_ get__1 t14 (k + 1) t6 t6_1 out out_1 t6_2 (out_2 ++ ([q] : qL1))
 ) else (
 some (t6, t6_1, out, out_1, t6_2, out_2)
 )

def s_table_with_2_l1 : Nat → GaTable → qL0 → Int → Int → Int → Str → Int → Str → qL1 → qL1 → Option qS57
 | 0, _, _, _, _, _, _, _, _, _, _ => none
 | n_ + 1, get_, get__1, t14, k, t6, t6_1, out, out_1, t6_2, out_2 => s_table_with_2_l1_b (s_table_with_2_l1 n_) get_ get__1 t14 k t6 t6_1 out out_1 t6_2 out_2

def s_table_with_2_l1_F (n : Nat) (s : qS46) : Option qS57 := s_table_with_2_l1 n s.1 s.2.1 s.2.2.1 s.2.2.2.1 s.2.2.2.2.1 s.2.2.2.2.2.1 s.2.2.2.2.2.2.1 s.2.2.2.2.2.2.2.1 s.2.2.2.2.2.2.2.2.1 s.2.2.2.2.2.2.2.2.2
def s_table_with_2_l1_B (rec_ : qS46 → Option qS57) (s : qS46) : Option qS57 := s_table_with_2_l1_b (fun get_ get__1 t14 k t6 t6_1 out out_1 t6_2 out_2 => rec_ (get_, get__1, t14, k, t6, t6_1, out, out_1, t6_2, out_2)) s.1 s.2.1 s.2.2.1 s.2.2.2.1 s.2.2.2.2.1 s.2.2.2.2.2.1 s.2.2.2.2.2.2.1 s.2.2.2.2.2.2.2.1 s.2.2.2.2.2.2.2.2.1 s.2.2.2.2.2.2.2.2.2
theorem s_table_with_2_l1_FB : ∀ n s, s_table_with_2_l1_F (n + 1) s = s_table_with_2_l1_B (s_table_with_2_l1_F n) s := fun _ _ => rfl

def s_table_with_2 (t : GaTable) (n : Int) (c : GaTable) (c_1 : qL0) : Option GaTable :=
 (s_table_with_2_l1 big c c_1 n (0 : Int) (0 : Int) ([] : Str) t.ID t.Name ([] : qL1) ([] : qL1)).bind fun (x0, x1, x2, x3, x4, x5) => s_table_with_2_k1 x0 x1 x2 x3 x4 x5

/-! ### tablefinder/table.Project -/

def s_table_Project (t : GaTable) (columns : qL0) : Option (GaTable × Int) :=
 (s_table_Valid t).bind fun q =>
 bif (!q) then (
 some ((GaTable.mk 0 ([] : Str) ([] : qL1)), 1)
 ) else (
 (s_table_within columns (t.Columns.length : Int)).bind fun q_1 =>
 bif (!q_1) then (
 some ((GaTable.mk 0 ([] : Str) ([] : qL1)), 2)
 ) else (
 bif (decide ((columns.length : Int) > 64)) then (
 some ((GaTable.mk 0 ([] : Str) ([] : qL1)), 3)
 ) else (
 (s_table_with_2 t (columns.length : Int) t columns).bind fun q_2 =>
 some (q_2, 0)
 )
 )
 )

/-! ### slices.Equal[[]tablefinder/api.Cell,tablefinder/api.Cell] -/

def ss_Equal_api_Cell_api_Cell_k1  : Option Bool :=
 some true

def ss_Equal_api_Cell_api_Cell_l1_b (rec_ : qL2 → qL2 → Int → Int → Option (Out Unit Bool)) (s1 : qL2) (s2 : qL2) (t12 : Int) (i : Int) : Option (Out Unit Bool) :=
 bif (decide (i < t12)) then (
 (idx s1 i).bind fun s1_e =>
 (idx s2 i).bind fun s2_e =>
 bif (!(s1_e.Null == s2_e.Null && (s1_e.Text == s2_e.Text && true))) then (
 some (.ret false)
 ) else (
 chk (inK .i64 (i + 1)) <|
 rec_ s1 s2 t12 (i + 1)
 )
 ) else (
 some (.brk ())
 )

def ss_Equal_api_Cell_api_Cell_l1 : Nat → qL2 → qL2 → Int → Int → Option (Out Unit Bool)
 | 0, _, _, _, _ => none
 | n_ + 1, s1, s2, t12, i => ss_Equal_api_Cell_api_Cell_l1_b (ss_Equal_api_Cell_api_Cell_l1 n_) s1 s2 t12 i

def ss_Equal_api_Cell_api_Cell_l1_F (n : Nat) (s : qS65) : Option (Out Unit Bool) := ss_Equal_api_Cell_api_Cell_l1 n s.1 s.2.1 s.2.2.1 s.2.2.2
def ss_Equal_api_Cell_api_Cell_l1_B (rec_ : qS65 → Option (Out Unit Bool)) (s : qS65) : Option (Out Unit Bool) := ss_Equal_api_Cell_api_Cell_l1_b (fun s1 s2 t12 i => rec_ (s1, s2, t12, i)) s.1 s.2.1 s.2.2.1 s.2.2.2
theorem ss_Equal_api_Cell_api_Cell_l1_FB : ∀ n s, ss_Equal_api_Cell_api_Cell_l1_F (n + 1) s = ss_Equal_api_Cell_api_Cell_l1_B (ss_Equal_api_Cell_api_Cell_l1_F n) s := fun _ _ => rfl

def ss_Equal_api_Cell_api_Cell (s1 : qL2) (s2 : qL2) : Option Bool :=
 bif ((s1.length : Int) != (s2.length : Int)) then (
 some false
 ) else (
 (ss_Equal_api_Cell_api_Cell_l1 big s1 s2 (s1.length : Int) (0 : Int)).bind fun
 | .ret q_ => some q_
 | .brk () => ss_Equal_api_Cell_api_Cell_k1
 )

/-! ### tablefinder/table.Same$1 -/

def s_table_Same_1_j1 (t4 : Bool) : Option Bool :=
 some t4

def s_table_Same_1 (x_ : GaColumn) (y : GaColumn) : Option Bool :=
 bif (x_.Name == y.Name) then (
 (ss_Equal_api_Cell_api_Cell x_.Cells y.Cells).bind fun q =>
 s_table_Same_1_j1 q
 ) else (
 s_table_Same_1_j1 false
 )

/-! ### slices.EqualFunc[[]tablefinder/api.Column,[]tablefinder/api.Column,tablefinder/api.Column,tablefinder/api.Column] -/

def ss_EqualFunc_api_Column_api_Column_api_Column_api_Column_k1  : Option Bool :=
 some true

def ss_EqualFunc_api_Column_api_Column_api_Column_api_Column_l1_b (rec_ : qL1 → qL1 → Int → Int → Option (Out Unit Bool)) (s2 : qL1) (t15 : qL1) (t16 : Int) (i : Int) : Option (Out Unit Bool) :=
 bif (decide (i < t16)) then (
 (idx t15 i).bind fun v1 =>
 (idx s2 i).bind fun v2 =>
 (s_table_Same_1 v1 v2).bind fun q =>
 bif (!q) then (
 some (.ret false)
 ) else (
 chk (inK .i64 (i + 1)) <|
 rec_ s2 t15 t16 (i + 1)
 )
 ) else (
 some (.brk ())
 )

def ss_EqualFunc_api_Column_api_Column_api_Column_api_Column_l1 : Nat → qL1 → qL1 → Int → Int → Option (Out Unit Bool)
 | 0, _, _, _, _ => none
 | n_ + 1, s2, t15, t16, i => ss_EqualFunc_api_Column_api_Column_api_Column_api_Column_l1_b (ss_EqualFunc_api_Column_api_Column_api_Column_api_Column_l1 n_) s2 t15 t16 i

def ss_EqualFunc_api_Column_api_Column_api_Column_api_Column_l1_F (n : Nat) (s : qS61) : Option (Out Unit Bool) := ss_EqualFunc_api_Column_api_Column_api_Column_api_Column_l1 n s.1 s.2.1 s.2.2.1 s.2.2.2
def ss_EqualFunc_api_Column_api_Column_api_Column_api_Column_l1_B (rec_ : qS61 → Option (Out Unit Bool)) (s : qS61) : Option (Out Unit Bool) := ss_EqualFunc_api_Column_api_Column_api_Column_api_Column_l1_b (fun s2 t15 t16 i => rec_ (s2, t15, t16, i)) s.1 s.2.1 s.2.2.1 s.2.2.2
theorem ss_EqualFunc_api_Column_api_Column_api_Column_api_Column_l1_FB : ∀ n s, ss_EqualFunc_api_Column_api_Column_api_Column_api_Column_l1_F (n + 1) s = ss_EqualFunc_api_Column_api_Column_api_Column_api_Column_l1_B (ss_EqualFunc_api_Column_api_Column_api_Column_api_Column_l1_F n) s := fun _ _ => rfl

def ss_EqualFunc_api_Column_api_Column_api_Column_api_Column (s1 : qL1) (s2 : qL1) : Option Bool :=
 bif ((s1.length : Int) != (s2.length : Int)) then (
 some false
 ) else (
 (ss_EqualFunc_api_Column_api_Column_api_Column_api_Column_l1 big s2 s1 (s1.length : Int) (0 : Int)).bind fun
 | .ret q_ => some q_
 | .brk () => ss_EqualFunc_api_Column_api_Column_api_Column_api_Column_k1
 )

/-! ### tablefinder/table.Same -/

def s_table_Same_j1 (t4 : Bool) : Option Bool :=
 some t4

def s_table_Same (a : GaTable) (b : GaTable) : Option Bool :=
 bif (a.ID == b.ID) then (
 bif (a.Name == b.Name) then (
 (ss_EqualFunc_api_Column_api_Column_api_Column_api_Column a.Columns b.Columns).bind fun q =>
 s_table_Same_j1 q
 ) else (
 s_table_Same_j1 false
 )
 ) else (
 s_table_Same_j1 false
 )

/-! ### tablefinder/tablefinderlaw03.TableParts -/

def sl03_TableParts_j7 (t2 : Bool) : Option Bool :=
 some t2

def sl03_TableParts_k6 (t : GaTable) (twice : qL0) (a : GaTable) (once : qL0) : Option Bool :=
 (s_table_Select a twice).bind fun (p, e) =>
 (s_table_Select t once).bind fun (q, f) =>
 bif (e == 0) then (
 bif (f == 0) then (
 (s_table_Same p q).bind fun q_1 =>
 sl03_TableParts_j7 q_1
 ) else (
 sl03_TableParts_j7 false
 )
 ) else (
 sl03_TableParts_j7 false
 )

def sl03_TableParts_l4_b (rec_ : qL0 → Int → G_tablefindermill_Dice → GaTable → qL0 → GaTable → qL0 → Option qS62) (rows : qL0) (k : Int) (d : G_tablefindermill_Dice) (t : GaTable) (twice : qL0) (a : GaTable) (once : qL0) : Option qS62 :=
 bif (decide (k > 0)) then (
 (s_tablefindermill_Dice_Pick d (rows.length : Int)).bind fun (n, t155) =>
 chk (room (twice.length + ([n] : qL0).length) 8) <|
 (idx rows n).bind fun row =>
 chk (room (once.length + ([row] : qL0).length) 8) <|
 chk (inK .i64 (k - 1)) <|
 rec_ rows (k - 1) t155 t (twice ++ ([n] : qL0)) a (once ++ ([row] : qL0))
 ) else (
 some (t, twice, a, once)
 )

def sl03_TableParts_l4 : Nat → qL0 → Int → G_tablefindermill_Dice → GaTable → qL0 → GaTable → qL0 → Option qS62
 | 0, _, _, _, _, _, _, _ => none
 | n_ + 1, rows, k, d, t, twice, a, once => sl03_TableParts_l4_b (sl03_TableParts_l4 n_) rows k d t twice a once

def sl03_TableParts_l4_F (n : Nat) (s : qS48) : Option qS62 := sl03_TableParts_l4 n s.1 s.2.1 s.2.2.1 s.2.2.2.1 s.2.2.2.2.1 s.2.2.2.2.2.1 s.2.2.2.2.2.2
def sl03_TableParts_l4_B (rec_ : qS48 → Option qS62) (s : qS48) : Option qS62 := sl03_TableParts_l4_b (fun rows k d t twice a once => rec_ (rows, k, d, t, twice, a, once)) s.1 s.2.1 s.2.2.1 s.2.2.2.1 s.2.2.2.2.1 s.2.2.2.2.2.1 s.2.2.2.2.2.2
theorem sl03_TableParts_l4_FB : ∀ n s, sl03_TableParts_l4_F (n + 1) s = sl03_TableParts_l4_B (sl03_TableParts_l4_F n) s := fun _ _ => rfl

def sl03_TableParts_j5 (rows : qL0) (t142 : Bool) (d : G_tablefindermill_Dice) (t : GaTable) (twice : qL0) (a : GaTable) : Option Bool :=
 bif t142 then (
 some false
 ) else (
 bif ((rows.length : Int) == 0) then (
 (s_table_Rows a).bind fun q =>
 some (q == 0)
 ) else (
 (s_tablefindermill_Dice_Pick d 5).bind fun (k, t149) =>
 (sl03_TableParts_l4 big rows k t149 t twice a ([] : qL0)).bind fun (x0, x1, x2, x3) => sl03_TableParts_k6 x0 x1 x2 x3
 )
 )

def sl03_TableParts_k4 (d : G_tablefindermill_Dice) (t : GaTable) (rows : qL0) (columns : qL0) (all : qL0) (twice : qL0) : Option Bool :=
 (s_table_Select t rows).bind fun (a, e) =>
 (s_table_Project a columns).bind fun (b, f) =>
 (s_table_Project t columns).bind fun (c, g) =>
 (s_table_Select c rows).bind fun (x_, h_) =>
 (s_table_Select t all).bind fun (y, i) =>
 bif (e != 0) then (
 sl03_TableParts_j5 rows true d t twice a
 ) else (
 bif (f != 0) then (
 sl03_TableParts_j5 rows true d t twice a
 ) else (
 bif (g != 0) then (
 sl03_TableParts_j5 rows true d t twice a
 ) else (
 bif (h_ != 0) then (
 sl03_TableParts_j5 rows true d t twice a
 ) else (
 bif (i != 0) then (
 sl03_TableParts_j5 rows true d t twice a
 ) else (
 (s_table_Same b x_).bind fun q =>
 bif (!q) then (
 sl03_TableParts_j5 rows true d t twice a
 ) else (
 (s_table_Same y t).bind fun q_1 =>
 sl03_TableParts_j5 rows (!q_1) d t twice a
 )
 )
 )
 )
 )
 )

def sl03_TableParts_l3_b (rec_ : qR76) (i : Int) (d : G_tablefindermill_Dice) (t : GaTable) (rows : qL0) (columns : qL0) (all : qL0) (twice : qL0) : Option qS50 :=
 (s_table_Rows t).bind fun q =>
 bif (decide (i < q)) then (
 chk (room (all.length + ([i] : qL0).length) 8) <|
 chk (inK .i64 (i + 1)) <|
 rec_ (i + 1) d t rows columns (all ++ ([i] : qL0)) twice
 ) else (
 some (d, t, rows, columns, all, twice)
 )

def sl03_TableParts_l3 : Nat → Int → G_tablefindermill_Dice → GaTable → qL0 → qL0 → qL0 → qL0 → Option qS50
 | 0, _, _, _, _, _, _, _ => none
 | n_ + 1, i, d, t, rows, columns, all, twice => sl03_TableParts_l3_b (sl03_TableParts_l3 n_) i d t rows columns all twice

def sl03_TableParts_l3_F (n : Nat) (s : qS47) : Option qS50 := sl03_TableParts_l3 n s.1 s.2.1 s.2.2.1 s.2.2.2.1 s.2.2.2.2.1 s.2.2.2.2.2.1 s.2.2.2.2.2.2
def sl03_TableParts_l3_B (rec_ : qS47 → Option qS50) (s : qS47) : Option qS50 := sl03_TableParts_l3_b (fun i d t rows columns all twice => rec_ (i, d, t, rows, columns, all, twice)) s.1 s.2.1 s.2.2.1 s.2.2.2.1 s.2.2.2.2.1 s.2.2.2.2.2.1 s.2.2.2.2.2.2
theorem sl03_TableParts_l3_FB : ∀ n s, sl03_TableParts_l3_F (n + 1) s = sl03_TableParts_l3_B (sl03_TableParts_l3_F n) s := fun _ _ => rfl

def sl03_TableParts_k3 (d : G_tablefindermill_Dice) (t : GaTable) (rows : qL0) (columns : qL0) (all : qL0) (twice : qL0) : Option Bool :=
 (sl03_TableParts_l3 big (0 : Int) d t rows columns all twice).bind fun (x0, x1, x2, x3, x4, x5) => sl03_TableParts_k4 x0 x1 x2 x3 x4 x5

def sl03_TableParts_l2_b (rec_ : qR76) (k : Int) (d : G_tablefindermill_Dice) (t : GaTable) (rows : qL0) (columns : qL0) (all : qL0) (twice : qL0) : Option qS50 :=
 bif (decide (k > 0)) then (
 (s_tablefindermill_Dice_Pick d (t.Columns.length : Int)).bind fun (q, t66) =>
 chk (room (columns.length + ([q] : qL0).length) 8) <|
 chk (inK .i64 (k - 1)) <|
 rec_ (k - 1) t66 t rows (columns ++ ([q] : qL0)) all twice
 ) else (
 some (d, t, rows, columns, all, twice)
 )

def sl03_TableParts_l2 : Nat → Int → G_tablefindermill_Dice → GaTable → qL0 → qL0 → qL0 → qL0 → Option qS50
 | 0, _, _, _, _, _, _, _ => none
 | n_ + 1, k, d, t, rows, columns, all, twice => sl03_TableParts_l2_b (sl03_TableParts_l2 n_) k d t rows columns all twice

def sl03_TableParts_l2_F (n : Nat) (s : qS47) : Option qS50 := sl03_TableParts_l2 n s.1 s.2.1 s.2.2.1 s.2.2.2.1 s.2.2.2.2.1 s.2.2.2.2.2.1 s.2.2.2.2.2.2
def sl03_TableParts_l2_B (rec_ : qS47 → Option qS50) (s : qS47) : Option qS50 := sl03_TableParts_l2_b (fun k d t rows columns all twice => rec_ (k, d, t, rows, columns, all, twice)) s.1 s.2.1 s.2.2.1 s.2.2.2.1 s.2.2.2.2.1 s.2.2.2.2.2.1 s.2.2.2.2.2.2
theorem sl03_TableParts_l2_FB : ∀ n s, sl03_TableParts_l2_F (n + 1) s = sl03_TableParts_l2_B (sl03_TableParts_l2_F n) s := fun _ _ => rfl

def sl03_TableParts_k2 (d : G_tablefindermill_Dice) (t : GaTable) (rows : qL0) (columns : qL0) (all : qL0) (twice : qL0) : Option Bool :=
 (s_tablefindermill_Dice_Pick d 4).bind fun (q, t58) =>
 chk (inK .i64 (1 + q)) <|
 (sl03_TableParts_l2 big (1 + q) t58 t rows columns all twice).bind fun (x0, x1, x2, x3, x4, x5) => sl03_TableParts_k3 x0 x1 x2 x3 x4 x5

def sl03_TableParts_l1_b (rec_ : qR76) (k : Int) (d : G_tablefindermill_Dice) (t : GaTable) (rows : qL0) (columns : qL0) (all : qL0) (twice : qL0) : Option qS50 :=
 bif (decide (k > 0)) then (
 (s_table_Rows t).bind fun q =>
 (s_tablefindermill_Dice_Pick d q).bind fun (q_1, t52) =>
 chk (room (rows.length + ([q_1] : qL0).length) 8) <|
 chk (inK .i64 (k - 1)) <|
 rec_ (k - 1) t52 t (rows ++ ([q_1] : qL0)) columns all twice
 ) else (
 some (d, t, rows, columns, all, twice)
 )

def sl03_TableParts_l1 : Nat → Int → G_tablefindermill_Dice → GaTable → qL0 → qL0 → qL0 → qL0 → Option qS50
 | 0, _, _, _, _, _, _, _ => none
 | n_ + 1, k, d, t, rows, columns, all, twice => sl03_TableParts_l1_b (sl03_TableParts_l1 n_) k d t rows columns all twice

def sl03_TableParts_l1_F (n : Nat) (s : qS47) : Option qS50 := sl03_TableParts_l1 n s.1 s.2.1 s.2.2.1 s.2.2.2.1 s.2.2.2.2.1 s.2.2.2.2.2.1 s.2.2.2.2.2.2
def sl03_TableParts_l1_B (rec_ : qS47 → Option qS50) (s : qS47) : Option qS50 := sl03_TableParts_l1_b (fun k d t rows columns all twice => rec_ (k, d, t, rows, columns, all, twice)) s.1 s.2.1 s.2.2.1 s.2.2.2.1 s.2.2.2.2.1 s.2.2.2.2.2.1 s.2.2.2.2.2.2
theorem sl03_TableParts_l1_FB : ∀ n s, sl03_TableParts_l1_F (n + 1) s = sl03_TableParts_l1_B (sl03_TableParts_l1_F n) s := fun _ _ => rfl

def sl03_TableParts_j1 (t41 : Bool) (d : G_tablefindermill_Dice) (t : GaTable) : Option Bool :=
 bif t41 then (
 (s_table_Rows t).bind fun q =>
 some (q == 0)
 ) else (
 (s_tablefindermill_Dice_Pick d 6).bind fun (k, t45) =>
 (sl03_TableParts_l1 big k t45 t ([] : qL0) ([] : qL0) ([] : qL0) ([] : qL0)).bind fun (x0, x1, x2, x3, x4, x5) => sl03_TableParts_k2 x0 x1 x2 x3 x4 x5
 )

def sl03_TableParts (s : qL0) : Option Bool :=
 (sl03_sane).bind fun q =>
 bif (!q) then (
 some false
 ) else (
 (s_tablefindermill_New s).bind fun d =>
 (s_tablefindermill_Dice_Table d 1 4 6).bind fun (t, t31) =>
 bif ((t.Columns.length : Int) == 0) then (
 sl03_TableParts_j1 true t31 t
 ) else (
 (s_table_Rows t).bind fun q_1 =>
 sl03_TableParts_j1 (q_1 == 0) t31 t
 )
 )

end
end Go.Proofs
