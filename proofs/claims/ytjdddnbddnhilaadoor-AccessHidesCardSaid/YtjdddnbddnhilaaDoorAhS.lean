/- Printed by wip/tools/tgen.py: specs. -/
import Derived.Test.YtjdddnbddnhilaaDoorE4
import Derived.Lib.ItoaNum
import Derived.Lib.LaidU8
import Derived.Shelf.Strconv.Itoa3
set_option linter.unusedVariables false
set_option linter.unusedSimpArgs false
set_option linter.unusedSectionVars false
namespace Go.Proofs
open Go Eng
set_option maxRecDepth 100000
noncomputable section

structure GaPermission where
  User : Str
  Allow : Bool
  Table : Int
  Column : Int
  deriving DecidableEq, Inhabited

structure GaRef where
  Table : Int
  Column : Int
  deriving DecidableEq, Inhabited

structure GaCell where
  Null : Bool
  Text : Str
  deriving DecidableEq, Inhabited

structure GaColumn where
  Name : Str
  Cells : (List GaCell)
  deriving DecidableEq, Inhabited

structure GaTable where
  ID : Int
  Name : Str
  Columns : (List GaColumn)
  deriving DecidableEq, Inhabited

structure Gk_Dice where
  l : (List Int)
  at_ : Int
  deriving DecidableEq, Inhabited

structure GaOp where
  Kind : Int
  Column : Int
  Text : Str
  Columns : (List Int)
  deriving DecidableEq, Inhabited

structure Gu8acceptRange where
  lo : Int
  hi : Int
  deriving DecidableEq, Inhabited

abbrev G_arr256_int_u8 : Type := { l : List Int // l.length = 256 }

structure G_arr16_Gu8acceptRange where
  e0 : Gu8acceptRange
  e1 : Gu8acceptRange
  e2 : Gu8acceptRange
  e3 : Gu8acceptRange
  e4 : Gu8acceptRange
  e5 : Gu8acceptRange
  e6 : Gu8acceptRange
  e7 : Gu8acceptRange
  e8 : Gu8acceptRange
  e9 : Gu8acceptRange
  e10 : Gu8acceptRange
  e11 : Gu8acceptRange
  e12 : Gu8acceptRange
  e13 : Gu8acceptRange
  e14 : Gu8acceptRange
  e15 : Gu8acceptRange
  deriving DecidableEq, Inhabited

def carU : Nat → Type
  | 0 => GaPermission
  | 1 => GaRef
  | 2 => GaCell
  | 3 => GaColumn
  | 4 => GaTable
  | 5 => Gk_Dice
  | 6 => GaOp
  | 7 => Gu8acceptRange
  | 8 => G_arr256_int_u8
  | 9 => G_arr16_Gu8acceptRange
  | _ => Unit

def sizeU : Nat → Nat
  | 0 => 4
  | 1 => 2
  | 2 => 2
  | 3 => 2
  | 4 => 3
  | 5 => 2
  | 6 => 4
  | 7 => 2
  | 8 => 256
  | 9 => 32
  | _ => 0


def glob_utf8_first : List (Lf carU) := (Lib.firstTab.map fun n => ⟨.int .u8, n⟩)

def glob_utf8_acceptRanges : List (Lf carU) := [⟨.int .u8, (128 : Int)⟩, ⟨.int .u8, (191 : Int)⟩, ⟨.int .u8, (160 : Int)⟩, ⟨.int .u8, (191 : Int)⟩, ⟨.int .u8, (128 : Int)⟩, ⟨.int .u8, (159 : Int)⟩, ⟨.int .u8, (144 : Int)⟩, ⟨.int .u8, (191 : Int)⟩, ⟨.int .u8, (128 : Int)⟩, ⟨.int .u8, (143 : Int)⟩, ⟨.int .u8, (0 : Int)⟩, ⟨.int .u8, (0 : Int)⟩, ⟨.int .u8, (0 : Int)⟩, ⟨.int .u8, (0 : Int)⟩, ⟨.int .u8, (0 : Int)⟩, ⟨.int .u8, (0 : Int)⟩, ⟨.int .u8, (0 : Int)⟩, ⟨.int .u8, (0 : Int)⟩, ⟨.int .u8, (0 : Int)⟩, ⟨.int .u8, (0 : Int)⟩, ⟨.int .u8, (0 : Int)⟩, ⟨.int .u8, (0 : Int)⟩, ⟨.int .u8, (0 : Int)⟩, ⟨.int .u8, (0 : Int)⟩, ⟨.int .u8, (0 : Int)⟩, ⟨.int .u8, (0 : Int)⟩, ⟨.int .u8, (0 : Int)⟩, ⟨.int .u8, (0 : Int)⟩, ⟨.int .u8, (0 : Int)⟩, ⟨.int .u8, (0 : Int)⟩, ⟨.int .u8, (0 : Int)⟩, ⟨.int .u8, (0 : Int)⟩]

def glob_strconv_uint64pow10 : List (Lf carU) := (Lib.pow10Tab.map fun n => ⟨.int .u64, n⟩)

abbrev qL0 : Type := List GaColumn
abbrev qL1 : Type := List GaTable
abbrev qL2 : Type := List GaPermission
abbrev qL3 : Type := List Int
abbrev qL4 : Type := List GaCell
abbrev qS93 : Type := qL2 × Str × Bool × Int × Int × qL0 × Int × Int × Int × Int × Gk_Dice × qL1 × qL1 × GaTable × Int × Str × Str × qL0 × qL4
abbrev qS94 : Type := qL2 × Str × Bool × qL1 × Int × Int × qL0 × Int × Int × Int × Int × qL1 × GaTable × Int × Str × Str × qL0 × qL4
abbrev qS95 : Type := qL2 × Str × Bool × Int × Int × qL0 × Int × Int × Gk_Dice × qL1 × qL1 × GaTable × Int × Str × Str × qL0 × qL4
abbrev qS96 : Type := qL2 × Str × Bool × qL1 × Int × Int × qL0 × Int × Int × qL1 × GaTable × Int × Str × Str × qL0 × qL4
abbrev qS97 : Type := qL3 × qL0 × Int × Int × qL3 × Int × Int × Int × Str × Int × Str × GaColumn × Str × qL0 × qL0 × qL4
abbrev qS98 : Type := qL2 × Str × Bool × Int × Int × qL0 × Int × Int × Gk_Dice × qL1 × qL1 × GaTable × Int × Str × qL0
abbrev qS99 : Type := qL2 × Str × Bool × qL1 × Int × Int × qL0 × Int × Int × qL1 × GaTable × Int × Str × qL0
abbrev qS100 : Type := Out (Str × Int × Int × qL1 × qL2 × Str × Int × Int × Int × Int × GaRef × (List qL2) × (List Str)) Bool
abbrev qS101 : Type := qL2 × Str × Bool × qL0 × Int × Int × GaTable × Int × Str × Int × Str × qL0 × qL0
abbrev qS102 : Type := qL2 × Str × Bool × Int × Int × Gk_Dice × qL1 × qL1 × GaTable × Int × Str × qL0
abbrev qS103 : Type := qL3 × qL0 × Int × Int × Int × Str × Int × Str × Str × qL0 × qL0 × qL4
abbrev qS104 : Type := qL2 × Str × Int × Int × Int × Int × Gk_Dice × qL1 × qL1 × GaTable × GaTable
abbrev qS105 : Type := qL2 × Str × Bool × qL1 × Int × Int × qL1 × Int × Str × qL0
abbrev qS106 : Type := qL3 × qL3 × Int × Int × GaTable × Int × Str × Int × Str × qL0 × qL0
abbrev qS107 : Type := qL3 × qL0 × Int × Int × Int × Str × Int × Str × qL0 × qL0
abbrev qS108 : Type := Out (qL3 × Int × Str × Int × Str × qL0 × qL0) (GaTable × Int)
abbrev qS109 : Type := Out (Str × Int × Int × qL1 × Int × Int × GaRef × (List qL2)) Bool
abbrev qS110 : Type := qL2 × Str × GaTable × Int × Int × Gk_Dice × qL1 × qL1
abbrev qS111 : Type := qL0 × Int × Int × Int × Str × Int × Str × qL0 × qL0
abbrev qS112 : Type := Int × Int × Gk_Dice × Int × Int × Str × Int × Int × Str × qL3 × qL3
abbrev qS113 : Type := qL2 × Str × Int × Int × Gk_Dice × qL1 × qL1
abbrev qS114 : Type := qL2 × Str × Int × Int × GaRef × Gk_Dice × qL2
abbrev qS115 : Type := qL3 × qL3 × Int × Int × GaTable × Int × Str × qL0
abbrev qS116 : Type := Int × Int × Bool × qL4 × Int × Int × GaTable × GaOp × qL3
abbrev qS117 : Type := Out (qL3 × GaTable × Int × Str × qL0) (GaTable × Int)
abbrev qS118 : Type := qL2 × Str × qL1 × Int × Int × qL1
abbrev qS119 : Type := Int × Int × Bool × Int × Int × Int × Int × GaTable × GaOp × qL3
abbrev qS120 : Type := Gk_Dice × Int × Int × Str × Int × Int × Str × qL3 × qL3
abbrev qS121 : Type := Gk_Dice × Int × Str × Int × Str × qL0 × qL0
abbrev qS122 : Type := Bool × Int × Str × Int × Str × qL0 × qL0
abbrev qS123 : Type := (List GaOp) × Int × Int × GaTable × Int × Str × qL0
abbrev qS124 : Type := Int × qL1 × Int × Int × Int × Str × qL0
abbrev qS125 : Type := Out (GaTable × Int × Str × qL0) (GaTable × Int)
abbrev qS126 : Type := Int × Int × Gk_Dice × GaTable × Int × Str × qL0
abbrev qS127 : Type := qL2 × Str × qL1 × qL1
abbrev qS128 : Type := Int × Int × Bool × Int × Int × GaTable × GaOp × qL3
abbrev qS129 : Type := Int × Str × Int × Str × qL0 × qL0
abbrev qS130 : Type := qL2 × qL2 × Int × Int
abbrev qS131 : Type := Int × Gk_Dice × GaTable × Int × Str × qL0
abbrev qS132 : Type := Str × Bool × qL2 × Int × Int × GaRef
abbrev qS133 : Type := Gk_Dice × Str × Str × qL4 × qL4
abbrev qS134 : Type := Out (Int × Str × qL0) (GaTable × Bool)
abbrev qS135 : Type := Out (qL0 × Int × Int × GaTable) Bool
abbrev qS136 : Type := qL1 × qL1 × Int × Int
abbrev qS137 : Type := qL3 × Int × Int × GaTable × GaOp
abbrev qS138 : Type := Int × Int × qL0 × Int × Int
abbrev qS139 : Type := Int × Int × GaTable × GaOp × qL3
abbrev qS140 : Type := Int × Int × Gk_Dice × qL1
abbrev qS141 : Type := Int × Gk_Dice × qL2
abbrev qS142 : Type := Int × Int × GaColumn × GaColumn
abbrev qS143 : Type := Gk_Dice × qL2
abbrev qS144 : Type := Int × Int × GaTable × GaTable
abbrev qS145 : Type := Gk_Dice × qL1
abbrev qR146 : Type := qL2 → Str → Bool → Int → Int → qL0 → Int → Int → Gk_Dice → qL1 → qL1 → GaTable → Int → Str → qL0 → Option qS102
abbrev qR147 : Type := qL2 → Str → Bool → qL1 → Int → Int → qL0 → Int → Int → qL1 → GaTable → Int → Str → qL0 → Option qS105
abbrev qR148 : Type := qL2 → Str → Bool → qL0 → Int → Int → GaTable → Int → Str → Int → Str → qL0 → qL0 → Option qS122
abbrev qR149 : Type := Str → Int → Int → qL1 → qL2 → Int → Int → Int → Int → GaRef → (List qL2) → (List Str) → Option qS109
abbrev qR150 : Type := qL3 → qL3 → Int → Int → GaTable → Int → Str → Int → Str → qL0 → qL0 → Option qS108
abbrev qR151 : Type := qL3 → qL0 → Int → Int → Int → Str → Int → Str → qL0 → qL0 → Option qS129
abbrev qR152 : Type := Str → Int → Int → qL1 → Int → Int → GaRef → (List qL2) → Option (Out Unit Bool)
abbrev qR153 : Type := Int → Int → Gk_Dice → Int → Int → Str → Int → Int → Str → qL3 → qL3 → Option qS120
abbrev qR154 : Type := qL2 → Str → Int → Int → Gk_Dice → qL1 → qL1 → Option qS127
abbrev qR155 : Type := qL2 → Str → qL1 → Int → Int → qL1 → Option qL1
abbrev qR156 : Type := qL2 → qL2 → Int → Int → Option (Out qL2 Bool)
abbrev qR157 : Type := qL3 → qL3 → Int → Int → GaTable → Int → Str → qL0 → Option qS117
abbrev qR158 : Type := Int → Int → Bool → qL4 → Int → Int → GaTable → GaOp → qL3 → Option qS128
abbrev qR159 : Type := Int → Int → Bool → Int → Int → Int → Int → GaTable → GaOp → qL3 → Option qS128
abbrev qR160 : Type := Int → Int → Int → Gk_Dice → Str → Str → qL4 → qL4 → Option qS133
abbrev qR161 : Type := Int → Int → Gk_Dice → GaTable → Int → Str → qL0 → Option qS131
abbrev qR162 : Type := qL1 → qL1 → Int → Int → Option (Out Unit Bool)
abbrev qR163 : Type := Str → Bool → qL2 → Int → Int → GaRef → Option Bool
abbrev qR164 : Type := qL3 → Int → Int → GaTable → GaOp → Option (Out GaOp Bool)
abbrev qR165 : Type := qL0 → Int → Int → GaTable → Option (Out Unit Bool)
abbrev qR166 : Type := Int → Int → GaTable → GaOp → qL3 → Option qL3
abbrev qR167 : Type := Int → Int → Gk_Dice → qL1 → Option qS145
abbrev qR168 : Type := Str → Option (Out Unit Bool)

/-! ### tablefinder/tablefinderkit.Light -/

def sk_Light (t : qL3) : Option Bool :=
 some (decide ((t.length : Int) ≤ 500))

/-! ### tablefinder/table.Rows -/

def s_table_Rows (t : GaTable) : Option Int :=
 bif ((t.Columns.length : Int) == 0) then (
 some (0 : Int)
 ) else (
 (idx t.Columns 0).bind fun Column =>
 some (Column.Cells.length : Int)
 )

/-! ### math/bits.Mul64 -/

def s_math_bits_Mul64 (x_ : Int) (y : Int) : Option (Int × Int) :=
 chk (decide (0 ≤ (32 : Int))) <|
 chk (decide (0 ≤ (32 : Int))) <|
 chk (decide (0 ≤ (32 : Int))) <|
 chk (decide (0 ≤ (32 : Int))) <|
 chk (decide (0 ≤ (32 : Int))) <|
 some ((IntKind.wrap .u64 ((IntKind.wrap .u64 ((IntKind.wrap .u64 ((shrK .u64 x_ 32) * (shrK .u64 y 32))) + (shrK .u64 (IntKind.wrap .u64 ((IntKind.wrap .u64 ((shrK .u64 x_ 32) * (andK .u64 y 4294967295))) + (shrK .u64 (IntKind.wrap .u64 ((andK .u64 x_ 4294967295) * (andK .u64 y 4294967295))) 32))) 32))) + (shrK .u64 (IntKind.wrap .u64 ((andK .u64 (IntKind.wrap .u64 ((IntKind.wrap .u64 ((shrK .u64 x_ 32) * (andK .u64 y 4294967295))) + (shrK .u64 (IntKind.wrap .u64 ((andK .u64 x_ 4294967295) * (andK .u64 y 4294967295))) 32))) 4294967295) + (IntKind.wrap .u64 ((andK .u64 x_ 4294967295) * (shrK .u64 y 32))))) 32))), (IntKind.wrap .u64 (x_ * y)))

/-! ### math/bits.Mul -/

def s_math_bits_Mul (x_ : Int) (y : Int) : Option (Int × Int) :=
 (s_math_bits_Mul64 x_ y).bind fun (h_, l) =>
 some (h_, l)

/-! ### slices.Repeat[[]tablefinder/api.Cell,tablefinder/api.Cell] -/

def ss_Repeat_api_Cell_api_Cell_k2 (newslice : qL4) : Option qL4 :=
 some newslice

def ss_Repeat_api_Cell_api_Cell_l1_b (rec_ : Int → qL4 → Option qL4) (n : Int) (newslice : qL4) : Option qL4 :=
 bif (decide (n < (newslice.length : Int))) then (
 chk (within n (newslice.length : Int) (newslice.length : Int)) <|
 chk (within 0 n (newslice.length : Int)) <|
 chk (decide ((n).toNat + ((newslice.length : Int).toNat - (n).toNat) ≤ newslice.length)) <|
 chk (inK .i64 (n + ((min ((newslice.drop 0).take ((n).toNat - 0)).length ((newslice.length : Int).toNat - (n).toNat) : Nat) : Int))) <|
 rec_ (n + ((min ((newslice.drop 0).take ((n).toNat - 0)).length ((newslice.length : Int).toNat - (n).toNat) : Nat) : Int)) (splice newslice ((n).toNat) (((newslice.drop 0).take ((n).toNat - 0)).take (min ((newslice.drop 0).take ((n).toNat - 0)).length ((newslice.length : Int).toNat - (n).toNat))))
 ) else (
 some newslice
 )

def ss_Repeat_api_Cell_api_Cell_l1 : Nat → Int → qL4 → Option qL4
 | 0, _, _ => none
 | n_ + 1, n, newslice => ss_Repeat_api_Cell_api_Cell_l1_b (ss_Repeat_api_Cell_api_Cell_l1 n_) n newslice

def ss_Repeat_api_Cell_api_Cell_j1 (x_ : qL4) (lo : Int) (t26 : Bool) : Option qL4 :=
 bif t26 then (
 none
 ) else (
 chk (mkOk (IntKind.wrap .i64 lo) (IntKind.wrap .i64 lo) 24) <|
 (ss_Repeat_api_Cell_api_Cell_l1 big ((min x_.length (List.replicate ((IntKind.wrap .i64 lo)).toNat (GaCell.mk false ([] : Str))).length : Nat) : Int) (x_.take (List.replicate ((IntKind.wrap .i64 lo)).toNat (GaCell.mk false ([] : Str))).length ++ (List.replicate ((IntKind.wrap .i64 lo)).toNat (GaCell.mk false ([] : Str))).drop x_.length)).bind fun x0 => ss_Repeat_api_Cell_api_Cell_k2 x0
 )

def ss_Repeat_api_Cell_api_Cell (x_ : qL4) (count : Int) : Option qL4 :=
 bif (decide (count < 0)) then (
 none
 ) else (
 (s_math_bits_Mul (IntKind.wrap .u64 (x_.length : Int)) (IntKind.wrap .u64 count)).bind fun (hi, lo) =>
 bif (decide (hi > 0)) then (
 ss_Repeat_api_Cell_api_Cell_j1 x_ lo true
 ) else (
 ss_Repeat_api_Cell_api_Cell_j1 x_ lo (decide (lo > 9223372036854775807))
 )
 )

/-! ### tablefinder/access.May -/

def s_access_May (l : qL2) (user : Str) (r : GaRef) : Option Bool :=
 some (match l.reverse.find? fun p => p.User == user && (p.Table == 0 || p.Table == r.Table) && (p.Column == -1 || p.Column == r.Column) with | some p => p.Allow | none => false)

/-! ### slices.Clone[[]tablefinder/api.Cell,tablefinder/api.Cell] -/

def ss_Clone_api_Cell_api_Cell_j1 (s : qL4) (t4 : Bool) : Option qL4 :=
 bif t4 then (
 some ([] : qL4)
 ) else (
 chk (room (([] : qL4).length + s.length) 24) <|
 some (([] : qL4) ++ s)
 )

def ss_Clone_api_Cell_api_Cell (s : qL4) : Option qL4 :=
 bif (List.isEmpty s) then agree (
 ss_Clone_api_Cell_api_Cell_j1 s true
 ) (
 ss_Clone_api_Cell_api_Cell_j1 s false
 ) else (
 ss_Clone_api_Cell_api_Cell_j1 s false
 )

/-! ### tablefinder/access.seen -/

def s_access_seen_k2 (some_ : Bool) (t6 : Int) (t6_1 : Str) (out : Int) (out_1 : Str) (t6_2 : qL0) (out_2 : qL0) : Option (GaTable × Bool) :=
 some ((GaTable.mk out out_1 out_2), some_)

def s_access_seen_j1 (rec_ : qR148) (l : qL2) (user : Str) (some_ : Bool) (t19 : qL0) (t20 : Int) (k : Int) (t : GaTable) (t6 : Int) (t6_1 : Str) (out : Int) (out_1 : Str) (x_ : Str) (t6_2 : qL0) (out_2 : qL0) (x__1 : qL4) : Option qS122 :=
 chk (room (out_2.length + ([(GaColumn.mk x_ x__1)] : qL0).length) 40) <|
 chk (inK .i64 (k + 1)) <|
 rec_ l user some_ t19 t20 (k + 1) t t6 t6_1 out out_1 t6_2 (out_2 ++ ([(GaColumn.mk x_ x__1)] : qL0))

def s_access_seen_l1_b (rec_ : qR148) (l : qL2) (user : Str) (some_ : Bool) (t19 : qL0) (t20 : Int) (k : Int) (t : GaTable) (t6 : Int) (t6_1 : Str) (out : Int) (out_1 : Str) (t6_2 : qL0) (out_2 : qL0) : Option qS122 :=
 bif (decide (k < t20)) then (
 (idx t19 k).bind fun c =>
 (s_table_Rows t).bind fun q =>
 (ss_Repeat_api_Cell_api_Cell ([(GaCell.mk true ([] : Str))] : qL4) q).bind fun q_1 =>
 (s_access_May l user (GaRef.mk t.ID k)).bind fun q_2 =>
 bif q_2 then (
 (ss_Clone_api_Cell_api_Cell c.Cells).bind fun q_3 =>
 s_access_seen_j1 rec_ l user true t19 t20 k t t6 t6_1 out out_1 c.Name t6_2 out_2 q_3
 ) else (
 s_access_seen_j1 rec_ l user some_ t19 t20 k t t6 t6_1 out out_1 ([] : Str) t6_2 out_2 q_1
 )
 ) else (
 some (some_, t6, t6_1, out, out_1, t6_2, out_2)
 )

def s_access_seen_l1 : Nat → qL2 → Str → Bool → qL0 → Int → Int → GaTable → Int → Str → Int → Str → qL0 → qL0 → Option qS122
 | 0, _, _, _, _, _, _, _, _, _, _, _, _, _ => none
 | n_ + 1, l, user, some_, t19, t20, k, t, t6, t6_1, out, out_1, t6_2, out_2 => s_access_seen_l1_b (s_access_seen_l1 n_) l user some_ t19 t20 k t t6 t6_1 out out_1 t6_2 out_2

def s_access_seen_l1_F (n : Nat) (s : qS101) : Option qS122 := s_access_seen_l1 n s.1 s.2.1 s.2.2.1 s.2.2.2.1 s.2.2.2.2.1 s.2.2.2.2.2.1 s.2.2.2.2.2.2.1 s.2.2.2.2.2.2.2.1 s.2.2.2.2.2.2.2.2.1 s.2.2.2.2.2.2.2.2.2.1 s.2.2.2.2.2.2.2.2.2.2.1 s.2.2.2.2.2.2.2.2.2.2.2.1 s.2.2.2.2.2.2.2.2.2.2.2.2
def s_access_seen_l1_B (rec_ : qS101 → Option qS122) (s : qS101) : Option qS122 := s_access_seen_l1_b (fun l user some_ t19 t20 k t t6 t6_1 out out_1 t6_2 out_2 => rec_ (l, user, some_, t19, t20, k, t, t6, t6_1, out, out_1, t6_2, out_2)) s.1 s.2.1 s.2.2.1 s.2.2.2.1 s.2.2.2.2.1 s.2.2.2.2.2.1 s.2.2.2.2.2.2.1 s.2.2.2.2.2.2.2.1 s.2.2.2.2.2.2.2.2.1 s.2.2.2.2.2.2.2.2.2.1 s.2.2.2.2.2.2.2.2.2.2.1 s.2.2.2.2.2.2.2.2.2.2.2.1 s.2.2.2.2.2.2.2.2.2.2.2.2
theorem s_access_seen_l1_FB : ∀ n s, s_access_seen_l1_F (n + 1) s = s_access_seen_l1_B (s_access_seen_l1_F n) s := fun _ _ => rfl

def s_access_seen (l : qL2) (user : Str) (t : GaTable) : Option (GaTable × Bool) :=
 (s_access_seen_l1 big l user false t.Columns (t.Columns.length : Int) (0 : Int) t (0 : Int) ([] : Str) t.ID t.Name ([] : qL0) ([] : qL0)).bind fun (x0, x1, x2, x3, x4, x5, x6) => s_access_seen_k2 x0 x1 x2 x3 x4 x5 x6

/-! ### tablefinder/access.Visible -/

def s_access_Visible_k2 (out : qL1) : Option qL1 :=
 some out

def s_access_Visible_j1 (rec_ : qR155) (l : qL2) (user : Str) (t12 : qL1) (t13 : Int) (t14 : Int) (out : qL1) : Option qL1 :=
 chk (inK .i64 (t14 + 1)) <|
 rec_ l user t12 t13 (t14 + 1) out

def s_access_Visible_l1_b (rec_ : qR155) (l : qL2) (user : Str) (t12 : qL1) (t13 : Int) (t14 : Int) (out : qL1) : Option qL1 :=
 bif (decide (t14 < t13)) then (
 (idx t12 t14).bind fun t =>
 (s_access_seen l user t).bind fun (x_, some_) =>
 bif some_ then (
 chk (room (out.length + ([x_] : qL1).length) 48) <|
 s_access_Visible_j1 rec_ l user t12 t13 t14 (out ++ ([x_] : qL1))
 ) else (
 s_access_Visible_j1 rec_ l user t12 t13 t14 out
 )
 ) else (
 some out
 )

def s_access_Visible_l1 : Nat → qL2 → Str → qL1 → Int → Int → qL1 → Option qL1
 | 0, _, _, _, _, _, _ => none
 | n_ + 1, l, user, t12, t13, t14, out => s_access_Visible_l1_b (s_access_Visible_l1 n_) l user t12 t13 t14 out

def s_access_Visible_l1_F (n : Nat) (s : qS118) : Option qL1 := s_access_Visible_l1 n s.1 s.2.1 s.2.2.1 s.2.2.2.1 s.2.2.2.2.1 s.2.2.2.2.2
def s_access_Visible_l1_B (rec_ : qS118 → Option qL1) (s : qS118) : Option qL1 := s_access_Visible_l1_b (fun l user t12 t13 t14 out => rec_ (l, user, t12, t13, t14, out)) s.1 s.2.1 s.2.2.1 s.2.2.2.1 s.2.2.2.2.1 s.2.2.2.2.2
theorem s_access_Visible_l1_FB : ∀ n s, s_access_Visible_l1_F (n + 1) s = s_access_Visible_l1_B (s_access_Visible_l1_F n) s := fun _ _ => rfl

def s_access_Visible (l : qL2) (user : Str) (tables : qL1) : Option qL1 :=
 (s_access_Visible_l1 big l user tables (tables.length : Int) (0 : Int) ([] : qL1)).bind fun x0 => s_access_Visible_k2 x0

/-! ### tablefinder/access.Valid -/

def s_access_Valid_k2 (l : qL2) : Option Bool :=
 some (decide ((l.length : Int) ≤ 64))

def s_access_Valid_j1 (rec_ : qR156) (l : qL2) (t5 : qL2) (t6 : Int) (t7 : Int) (t39 : Bool) : Option (Out qL2 Bool) :=
 bif t39 then (
 some (.ret false)
 ) else (
 chk (inK .i64 (t7 + 1)) <|
 rec_ l t5 t6 (t7 + 1)
 )

def s_access_Valid_l1_b (rec_ : qR156) (l : qL2) (t5 : qL2) (t6 : Int) (t7 : Int) : Option (Out qL2 Bool) :=
 bif (decide (t7 < t6)) then (
 (idx t5 t7).bind fun p =>
 bif (p.User == ([] : Str)) then (
 s_access_Valid_j1 rec_ l t5 t6 t7 true
 ) else (
 bif (decide ((p.User.length : Int) > 40)) then (
 s_access_Valid_j1 rec_ l t5 t6 t7 true
 ) else (
 bif (decide (p.Table < 0)) then (
 s_access_Valid_j1 rec_ l t5 t6 t7 true
 ) else (
 bif (decide (p.Table > 1073741824)) then (
 s_access_Valid_j1 rec_ l t5 t6 t7 true
 ) else (
 bif (decide (p.Column < (-1))) then (
 s_access_Valid_j1 rec_ l t5 t6 t7 true
 ) else (
 s_access_Valid_j1 rec_ l t5 t6 t7 (decide (p.Column ≥ 64))
 )
 )
 )
 )
 )
 ) else (
 some (.brk l)
 )

def s_access_Valid_l1 : Nat → qL2 → qL2 → Int → Int → Option (Out qL2 Bool)
 | 0, _, _, _, _ => none
 | n_ + 1, l, t5, t6, t7 => s_access_Valid_l1_b (s_access_Valid_l1 n_) l t5 t6 t7

def s_access_Valid_l1_F (n : Nat) (s : qS130) : Option (Out qL2 Bool) := s_access_Valid_l1 n s.1 s.2.1 s.2.2.1 s.2.2.2
def s_access_Valid_l1_B (rec_ : qS130 → Option (Out qL2 Bool)) (s : qS130) : Option (Out qL2 Bool) := s_access_Valid_l1_b (fun l t5 t6 t7 => rec_ (l, t5, t6, t7)) s.1 s.2.1 s.2.2.1 s.2.2.2
theorem s_access_Valid_l1_FB : ∀ n s, s_access_Valid_l1_F (n + 1) s = s_access_Valid_l1_B (s_access_Valid_l1_F n) s := fun _ _ => rfl

def s_access_Valid (l : qL2) : Option Bool :=
 (s_access_Valid_l1 big l l (l.length : Int) (0 : Int)).bind fun
 | .ret q_ => some q_
 | .brk x0 => s_access_Valid_k2 x0

/-! ### tablefinder/tablefinderlaw42.awake -/

def sl42_awake_j1 (t0 : Bool) : Option Bool :=
 some t0

def sl42_awake  : Option Bool :=
 (s_access_Visible ([(GaPermission.mk ([117] : Str) true 0 (-1)), (GaPermission.mk ([117] : Str) false 7 0)] : qL2) ([117] : Str) ([(GaTable.mk 7 ([] : Str) ([(GaColumn.mk ([110] : Str) ([(GaCell.mk false ([120] : Str))] : qL4)), (GaColumn.mk ([110] : Str) ([(GaCell.mk false ([120] : Str))] : qL4))] : qL0))] : qL1)).bind fun v_ =>
 (s_access_Valid ([(GaPermission.mk ([117] : Str) true 0 (-1)), (GaPermission.mk ([117] : Str) false 7 0)] : qL2)).bind fun q =>
 bif q then (
 (s_access_May ([(GaPermission.mk ([117] : Str) true 0 (-1)), (GaPermission.mk ([117] : Str) false 7 0)] : qL2) ([117] : Str) (GaRef.mk 7 0)).bind fun q_1 =>
 bif (!q_1) then (
 (s_access_May ([(GaPermission.mk ([117] : Str) true 0 (-1)), (GaPermission.mk ([117] : Str) false 7 0)] : qL2) ([117] : Str) (GaRef.mk 7 1)).bind fun q_2 =>
 bif q_2 then (
 (s_access_May ([(GaPermission.mk ([117] : Str) true 0 (-1)), (GaPermission.mk ([117] : Str) false 7 0)] : qL2) ([118] : Str) (GaRef.mk 1 0)).bind fun q_3 =>
 bif (!q_3) then (
 bif ((v_.length : Int) == 1) then (
 chk (inR 0 (v_.length : Int)) <|
 (v_[((0 : Int)).toNat]?).bind fun v__e =>
 (idx v__e.Columns 0).bind fun Column =>
 (idx Column.Cells 0).bind fun Cell =>
 bif Cell.Null then (
 chk (inR 0 (v_.length : Int)) <|
 (v_[((0 : Int)).toNat]?).bind fun v__e_1 =>
 (idx v__e_1.Columns 1).bind fun Column_1 =>
 sl42_awake_j1 (Column_1.Name == ([110] : Str))
 ) else (
 sl42_awake_j1 false
 )
 ) else (
 sl42_awake_j1 false
 )
 ) else (
 sl42_awake_j1 false
 )
 ) else (
 sl42_awake_j1 false
 )
 ) else (
 sl42_awake_j1 false
 )
 ) else (
 sl42_awake_j1 false
 )

/-! ### tablefinder/tablefinderkit.Roll -/

def sk_Roll (t : qL3) : Option Gk_Dice :=
 some (Gk_Dice.mk t 0)

/-! ### tablefinder/tablefinderkit.Mod -/

def sk_Mod (n : Int) (m : Int) : Option Int :=
 bif (decide (m < 1)) then (
 some (0 : Int)
 ) else (
 chk (decide (m ≠ 0)) <|
 chk (inK .i64 ((Int.tmod n m) + m)) <|
 chk (decide (m ≠ 0)) <|
 some (Int.tmod ((Int.tmod n m) + m) m)
 )

/-! ### (*tablefinder/tablefinderkit.Dice).Next -/

def sk_Dice_Next (d : Gk_Dice) (n : Int) : Option (Int × Gk_Dice) :=
 bif (decide (d.at_ ≥ (d.l.length : Int))) then (
 some (0, d)
 ) else (
 chk (inK .i64 (d.at_ + 1)) <|
 chk (inK .i64 ((d.at_ + 1) - 1)) <|
 (idx d.l ((d.at_ + 1) - 1)).bind fun l_e =>
 (sk_Mod l_e n).bind fun q =>
 some (q, (Gk_Dice.mk d.l (d.at_ + 1)))
 )

/-! ### (*tablefinder/tablefinderkit.Dice).Word -/

def sk_Dice_Word (d : Gk_Dice) (l : (List Str)) : Option (Str × Gk_Dice) :=
 (sk_Dice_Next d (l.length : Int)).bind fun (q, t6) =>
 (idx l q).bind fun l_e =>
 some (l_e, t6)

/-! ### tablefinder/tablefinderkit.Rules -/

def sk_Rules_k1 (d : Gk_Dice) (l : qL2) : Option (qL2 × Gk_Dice) :=
 some (l, d)

def sk_Rules_l1_b (rec_ : Int → Gk_Dice → qL2 → Option qS143) (k : Int) (d : Gk_Dice) (l : qL2) : Option qS143 :=
 bif (decide (k > 0)) then (
 (sk_Dice_Word d ([([117] : Str), ([118] : Str), ([117] : Str)] : (List Str))).bind fun (q, t14) =>
 (sk_Dice_Next t14 3).bind fun (q_1, t17) =>
 (sk_Dice_Next t17 5).bind fun (q_2, t20) =>
 (sk_Dice_Next t20 4).bind fun (q_3, t22) =>
 chk (inK .i64 (q_3 - 1)) <|
 chk (room (l.length + ([(GaPermission.mk q (q_1 == 0) q_2 (q_3 - 1))] : qL2).length) 40) <|
 chk (inK .i64 (k - 1)) <|
 rec_ (k - 1) t22 (l ++ ([(GaPermission.mk q (q_1 == 0) q_2 (q_3 - 1))] : qL2))
 ) else (
 some (d, l)
 )

def sk_Rules_l1 : Nat → Int → Gk_Dice → qL2 → Option qS143
 | 0, _, _, _ => none
 | n_ + 1, k, d, l => sk_Rules_l1_b (sk_Rules_l1 n_) k d l

def sk_Rules_l1_F (n : Nat) (s : qS141) : Option qS143 := sk_Rules_l1 n s.1 s.2.1 s.2.2
def sk_Rules_l1_B (rec_ : qS141 → Option qS143) (s : qS141) : Option qS143 := sk_Rules_l1_b (fun k d l => rec_ (k, d, l)) s.1 s.2.1 s.2.2
theorem sk_Rules_l1_FB : ∀ n s, sk_Rules_l1_F (n + 1) s = sk_Rules_l1_B (sk_Rules_l1_F n) s := fun _ _ => rfl

def sk_Rules (d : Gk_Dice) : Option (qL2 × Gk_Dice) :=
 (sk_Dice_Next d 5).bind fun (k, t7) =>
 (sk_Rules_l1 big k t7 ([(GaPermission.mk ([117] : Str) true 0 (-1))] : qL2)).bind fun (x0, x1) => sk_Rules_k1 x0 x1

/-! ### tablefinder/tablefinderkit.Cell -/

def sk_Cell (d : Gk_Dice) : Option (GaCell × Gk_Dice) :=
 (sk_Dice_Next d 7).bind fun (q, t3) =>
 bif (q == 1) then (
 some ((GaCell.mk true ([] : Str)), t3)
 ) else (
 (sk_Dice_Word t3 ([([97] : Str), ([98] : Str), ([99] : Str), ([49] : Str), ([50] : Str), ([51] : Str), ([49, 48] : Str), ([120] : Str), ([45, 49, 46, 53] : Str), ([50] : Str)] : (List Str))).bind fun (q_1, t7) =>
 some ((GaCell.mk false q_1), t7)
 )

/-! ### strconv.Itoa -/

def s_strconv_Itoa (n : Int) : Option Str :=
 some (Lib.itoa n)

/-! ### tablefinder/tablefinderkit.Number -/

def sk_Number (d : Gk_Dice) : Option (GaCell × Gk_Dice) :=
 (sk_Dice_Next d 9).bind fun (q, t3) =>
 bif (q == 1) then (
 some ((GaCell.mk true ([] : Str)), t3)
 ) else (
 bif (q == 2) then (
 (sk_Dice_Word t3 ([([120] : Str), ([] : Str), ([49, 46, 50, 46, 51] : Str), ([49, 46, 53, 48] : Str)] : (List Str))).bind fun (q_1, t10) =>
 some ((GaCell.mk false q_1), t10)
 ) else (
 (sk_Dice_Next t3 12).bind fun (q_2, t14) =>
 chk (inK .i64 (q_2 - 3)) <|
 (s_strconv_Itoa (q_2 - 3)).bind fun q_3 =>
 some ((GaCell.mk false q_3), t14)
 )
 )

/-! ### tablefinder/tablefinderkit.Column -/

def sk_Column_k2 (d : Gk_Dice) (t4 : Str) (c : Str) (t4_1 : qL4) (c_1 : qL4) : Option (GaColumn × Gk_Dice) :=
 some ((GaColumn.mk c c_1), d)

def sk_Column_j1 (rec_ : qR160) (kind : Int) (t15 : Int) (i : Int) (d : Gk_Dice) (t4 : Str) (c : Str) (x_ : GaCell) (t4_1 : qL4) (c_1 : qL4) : Option qS133 :=
 chk (room (c_1.length + ([x_] : qL4).length) 24) <|
 chk (inK .i64 (i + 1)) <|
 rec_ kind t15 (i + 1) d t4 c t4_1 (c_1 ++ ([x_] : qL4))

def sk_Column_l1_b (rec_ : qR160) (kind : Int) (t15 : Int) (i : Int) (d : Gk_Dice) (t4 : Str) (c : Str) (t4_1 : qL4) (c_1 : qL4) : Option qS133 :=
 bif (decide (i < t15)) then (
 (sk_Cell d).bind fun (x_, t19) =>
 bif (kind == 0) then (
 (sk_Number t19).bind fun (x__1, t24) =>
 sk_Column_j1 rec_ kind t15 i t24 t4 c x__1 t4_1 c_1
 ) else (
 bif (kind == 1) then (
 (s_strconv_Itoa i).bind fun q =>
 chk (decide (([107] : Str).length + q.length ≤ maxInt)) <|
 sk_Column_j1 rec_ kind t15 i t19 t4 c (GaCell.mk false (([107] : Str) ++ q)) t4_1 c_1
 ) else (
 bif (kind == 2) then (
 (sk_Dice_Word t19 ([([97] : Str), ([98] : Str), ([99] : Str), ([100] : Str)] : (List Str))).bind fun (q_1, t34) =>
 sk_Column_j1 rec_ kind t15 i t34 t4 c (GaCell.mk false q_1) t4_1 c_1
 ) else (
 sk_Column_j1 rec_ kind t15 i t19 t4 c x_ t4_1 c_1
 )
 )
 )
 ) else (
 some (d, t4, c, t4_1, c_1)
 )

def sk_Column_l1 : Nat → Int → Int → Int → Gk_Dice → Str → Str → qL4 → qL4 → Option qS133
 | 0, _, _, _, _, _, _, _, _ => none
 | n_ + 1, kind, t15, i, d, t4, c, t4_1, c_1 => sk_Column_l1_b (sk_Column_l1 n_) kind t15 i d t4 c t4_1 c_1

def sk_Column (d : Gk_Dice) (rows : Int) : Option (GaColumn × Gk_Dice) :=
 (sk_Dice_Word d ([([105, 100] : Str), ([110, 97, 109, 101] : Str), ([85, 110, 105, 116, 32, 80, 114, 105, 99, 101] : Str), ([99, 105, 116, 121] : Str), ([117, 110, 105, 116] : Str), ([112, 114, 105, 99, 101] : Str), ([105, 100, 50] : Str), ([] : Str)] : (List Str))).bind fun (q, t9) =>
 (sk_Dice_Next t9 5).bind fun (kind, t13) =>
 (sk_Column_l1 big kind rows (0 : Int) t13 ([] : Str) q ([] : qL4) ([] : qL4)).bind fun (x0, x1, x2, x3, x4) => sk_Column_k2 x0 x1 x2 x3 x4

/-! ### tablefinder/tablefinderkit.Table -/

def sk_Table_j2 (d : Gk_Dice) (t4 : Int) (t4_1 : Str) (t : Int) (t_1 : Str) (t4_2 : qL0) (t_2 : qL0) : Option (GaTable × Gk_Dice) :=
 some ((GaTable.mk t t_1 t_2), d)

def sk_Table_k1 (d : Gk_Dice) (t4 : Int) (t4_1 : Str) (t : Int) (t_1 : Str) (t4_2 : qL0) (t_2 : qL0) : Option (GaTable × Gk_Dice) :=
 (sk_Dice_Next d 15).bind fun (q, t30) =>
 bif (q == 1) then (
 sk_Table_j2 t30 t4 t4_1 t t_1 t4_2 ([] : qL0)
 ) else (
 sk_Table_j2 t30 t4 t4_1 t t_1 t4_2 t_2
 )

def sk_Table_l1_b (rec_ : Int → Int → Gk_Dice → Int → Str → Int → Str → qL0 → qL0 → Option qS121) (rows : Int) (k : Int) (d : Gk_Dice) (t4 : Int) (t4_1 : Str) (t : Int) (t_1 : Str) (t4_2 : qL0) (t_2 : qL0) : Option qS121 :=
 bif (decide (k > 0)) then (
 (sk_Column d rows).bind fun (q, t24) =>
 chk (room (t_2.length + ([q] : qL0).length) 40) <|
 chk (inK .i64 (k - 1)) <|
 rec_ rows (k - 1) t24 t4 t4_1 t t_1 t4_2 (t_2 ++ ([q] : qL0))
 ) else (
 some (d, t4, t4_1, t, t_1, t4_2, t_2)
 )

def sk_Table_l1 : Nat → Int → Int → Gk_Dice → Int → Str → Int → Str → qL0 → qL0 → Option qS121
 | 0, _, _, _, _, _, _, _, _, _ => none
 | n_ + 1, rows, k, d, t4, t4_1, t, t_1, t4_2, t_2 => sk_Table_l1_b (sk_Table_l1 n_) rows k d t4 t4_1 t t_1 t4_2 t_2

def sk_Table (d : Gk_Dice) (id : Int) : Option (GaTable × Gk_Dice) :=
 (sk_Dice_Word d ([([116] : Str), ([111, 114, 100, 101, 114, 115] : Str), ([] : Str)] : (List Str))).bind fun (q, t9) =>
 (sk_Dice_Next t9 7).bind fun (rows, t13) =>
 (sk_Dice_Next t13 3).bind fun (q_1, t15) =>
 chk (inK .i64 (1 + q_1)) <|
 (sk_Table_l1 big rows (1 + q_1) t15 (0 : Int) ([] : Str) id q ([] : qL0) ([] : qL0)).bind fun (x0, x1, x2, x3, x4, x5, x6) => sk_Table_k1 x0 x1 x2 x3 x4 x5 x6

/-! ### tablefinder/tablefinderkit.Op -/

def sk_Op_j6 (d : Gk_Dice) (t4 : Int) (t4_1 : Int) (t4_2 : Str) (t4_3 : qL3) : Option (GaOp × Gk_Dice) :=
 some ((GaOp.mk t4 t4_1 t4_2 t4_3), d)

def sk_Op_j5 (d : Gk_Dice) (t4 : Int) (t4_1 : Int) (t4_2 : Str) (o : Int) (o_1 : Int) (o_2 : Str) (t4_3 : qL3) (o_3 : qL3) : Option (GaOp × Gk_Dice) :=
 sk_Op_j6 d o o_1 o_2 o_3

def sk_Op_k4 (d : Gk_Dice) (t4 : Int) (t4_1 : Int) (t4_2 : Str) (o : Int) (o_1 : Int) (o_2 : Str) (t4_3 : qL3) (o_3 : qL3) : Option (GaOp × Gk_Dice) :=
 sk_Op_j6 d o o_1 o_2 o_3

def sk_Op_j3 (rec_ : qR153) (n : Int) (k : Int) (t83 : Bool) (d : Gk_Dice) (t4 : Int) (t4_1 : Int) (t4_2 : Str) (o : Int) (o_1 : Int) (o_2 : Str) (t4_3 : qL3) (o_3 : qL3) : Option qS120 :=
 bif t83 then (
 (sk_Dice_Next d n).bind fun (q, t88) =>
 chk (room (o_3.length + ([q] : qL3).length) 8) <|
 chk (inK .i64 (k - 1)) <|
 rec_ n (k - 1) t88 t4 t4_1 t4_2 o o_1 o_2 t4_3 (o_3 ++ ([q] : qL3))
 ) else (
 some (d, t4, t4_1, t4_2, o, o_1, o_2, t4_3, o_3)
 )

def sk_Op_l1_b (rec_ : qR153) (n : Int) (k : Int) (d : Gk_Dice) (t4 : Int) (t4_1 : Int) (t4_2 : Str) (o : Int) (o_1 : Int) (o_2 : Str) (t4_3 : qL3) (o_3 : qL3) : Option qS120 :=
 bif (decide (k > 0)) then (
 sk_Op_j3 rec_ n k (decide (n > 0)) d t4 t4_1 t4_2 o o_1 o_2 t4_3 o_3
 ) else (
 sk_Op_j3 rec_ n k false d t4 t4_1 t4_2 o o_1 o_2 t4_3 o_3
 )

def sk_Op_l1 : Nat → Int → Int → Gk_Dice → Int → Int → Str → Int → Int → Str → qL3 → qL3 → Option qS120
 | 0, _, _, _, _, _, _, _, _, _, _, _ => none
 | n_ + 1, n, k, d, t4, t4_1, t4_2, o, o_1, o_2, t4_3, o_3 => sk_Op_l1_b (sk_Op_l1 n_) n k d t4 t4_1 t4_2 o o_1 o_2 t4_3 o_3

def sk_Op_l1_F (n : Nat) (s : qS112) : Option qS120 := sk_Op_l1 n s.1 s.2.1 s.2.2.1 s.2.2.2.1 s.2.2.2.2.1 s.2.2.2.2.2.1 s.2.2.2.2.2.2.1 s.2.2.2.2.2.2.2.1 s.2.2.2.2.2.2.2.2.1 s.2.2.2.2.2.2.2.2.2.1 s.2.2.2.2.2.2.2.2.2.2
def sk_Op_l1_B (rec_ : qS112 → Option qS120) (s : qS112) : Option qS120 := sk_Op_l1_b (fun n k d t4 t4_1 t4_2 o o_1 o_2 t4_3 o_3 => rec_ (n, k, d, t4, t4_1, t4_2, o, o_1, o_2, t4_3, o_3)) s.1 s.2.1 s.2.2.1 s.2.2.2.1 s.2.2.2.2.1 s.2.2.2.2.2.1 s.2.2.2.2.2.2.1 s.2.2.2.2.2.2.2.1 s.2.2.2.2.2.2.2.2.1 s.2.2.2.2.2.2.2.2.2.1 s.2.2.2.2.2.2.2.2.2.2
theorem sk_Op_l1_FB : ∀ n s, sk_Op_l1_F (n + 1) s = sk_Op_l1_B (sk_Op_l1_F n) s := fun _ _ => rfl

def sk_Op_j2 (n : Int) (t16 : Int) (t66 : Bool) (d : Gk_Dice) (t4 : Int) (t4_1 : Int) (t4_2 : Str) (o : Int) (o_1 : Int) (o_2 : Str) (t4_3 : qL3) (o_3 : qL3) : Option (GaOp × Gk_Dice) :=
 bif t66 then (
 (sk_Dice_Next d n).bind fun (q, t69) =>
 sk_Op_j5 t69 t4 t4_1 t4_2 o q o_2 t4_3 o_3
 ) else (
 bif (t16 == 3) then (
 (sk_Dice_Next d 3).bind fun (q_1, t75) =>
 chk (inK .i64 (1 + q_1)) <|
 (sk_Op_l1 big n (1 + q_1) t75 t4 t4_1 t4_2 o o_1 o_2 t4_3 o_3).bind fun (x0, x1, x2, x3, x4, x5, x6, x7, x8) => sk_Op_k4 x0 x1 x2 x3 x4 x5 x6 x7 x8
 ) else (
 sk_Op_j5 d t4 t4_1 t4_2 o o_1 o_2 t4_3 o_3
 )
 )

def sk_Op_j1 (t44 : Bool) (d : Gk_Dice) (t : GaTable) (t4 : Int) (t4_1 : Int) (t4_2 : Str) (o : Int) (o_1 : Int) (o_2 : Str) (t4_3 : qL3) (o_3 : qL3) : Option (GaOp × Gk_Dice) :=
 bif t44 then (
 (idx t.Columns o_1).bind fun Column =>
 (idx t.Columns o_1).bind fun Column_1 =>
 (sk_Dice_Next d (Column_1.Cells.length : Int)).bind fun (q, t52) =>
 (idx Column.Cells q).bind fun Cell =>
 sk_Op_j5 t52 t4 t4_1 t4_2 o o_1 Cell.Text t4_3 o_3
 ) else (
 sk_Op_j5 d t4 t4_1 t4_2 o o_1 o_2 t4_3 o_3
 )

def sk_Op (d : Gk_Dice) (t : GaTable) : Option (GaOp × Gk_Dice) :=
 (sk_Dice_Next d 5).bind fun (q, t8) =>
 chk (inK .i64 (1 + q)) <|
 bif ((1 + q) == 1) then (
 (sk_Dice_Next t8 (t.Columns.length : Int)).bind fun (q_1, t19) =>
 (sk_Dice_Word t19 ([([97] : Str), ([98] : Str), ([49] : Str), ([50] : Str), ([107, 48] : Str), ([] : Str)] : (List Str))).bind fun (q_2, t23) =>
 bif (decide ((t.Columns.length : Int) > 0)) then (
 (idx t.Columns q_1).bind fun Column =>
 bif (decide ((Column.Cells.length : Int) > 0)) then (
 (sk_Dice_Next t23 3).bind fun (q_3, t41) =>
 sk_Op_j1 (decide (q_3 > 0)) t41 t (0 : Int) (0 : Int) ([] : Str) (1 + q) q_1 q_2 ([] : qL3) ([] : qL3)
 ) else (
 sk_Op_j1 false t23 t (0 : Int) (0 : Int) ([] : Str) (1 + q) q_1 q_2 ([] : qL3) ([] : qL3)
 )
 ) else (
 sk_Op_j1 false t23 t (0 : Int) (0 : Int) ([] : Str) (1 + q) q_1 q_2 ([] : qL3) ([] : qL3)
 )
 ) else (
 bif ((1 + q) == 2) then (
 sk_Op_j2 (t.Columns.length : Int) (1 + q) ((1 + q) == 2) t8 (0 : Int) (0 : Int) ([] : Str) (1 + q) (0 : Int) ([] : Str) ([] : qL3) ([] : qL3)
 ) else (
 sk_Op_j2 (t.Columns.length : Int) (1 + q) ((1 + q) == 5) t8 (0 : Int) (0 : Int) ([] : Str) (1 + q) (0 : Int) ([] : Str) ([] : qL3) ([] : qL3)
 )
 )

/-! ### unicode/utf8.word[string] -/

def su8_word_string (s : Str) : Option Int :=
 (idx s 0).bind fun c =>
 (idx s 1).bind fun c_1 =>
 chk (decide (0 ≤ (8 : Int))) <|
 (idx s 2).bind fun c_2 =>
 chk (decide (0 ≤ (16 : Int))) <|
 (idx s 3).bind fun c_3 =>
 chk (decide (0 ≤ (24 : Int))) <|
 (idx s 4).bind fun c_4 =>
 chk (decide (0 ≤ (32 : Int))) <|
 (idx s 5).bind fun c_5 =>
 chk (decide (0 ≤ (40 : Int))) <|
 (idx s 6).bind fun c_6 =>
 chk (decide (0 ≤ (48 : Int))) <|
 (idx s 7).bind fun c_7 =>
 chk (decide (0 ≤ (56 : Int))) <|
 some (orK .u64 (orK .u64 (orK .u64 (orK .u64 (orK .u64 (orK .u64 (orK .u64 (IntKind.wrap .u64 ((c.toNat : Nat) : Int)) (shlK .u64 (IntKind.wrap .u64 ((c_1.toNat : Nat) : Int)) 8)) (shlK .u64 (IntKind.wrap .u64 ((c_2.toNat : Nat) : Int)) 16)) (shlK .u64 (IntKind.wrap .u64 ((c_3.toNat : Nat) : Int)) 24)) (shlK .u64 (IntKind.wrap .u64 ((c_4.toNat : Nat) : Int)) 32)) (shlK .u64 (IntKind.wrap .u64 ((c_5.toNat : Nat) : Int)) 40)) (shlK .u64 (IntKind.wrap .u64 ((c_6.toNat : Nat) : Int)) 48)) (shlK .u64 (IntKind.wrap .u64 ((c_7.toNat : Nat) : Int)) 56))

/-! ### unicode/utf8.ValidString -/

def su8_ValidString_k9  : Option Bool :=
 some true

def su8_ValidString_j8 (rec_ : qR168) (s : Str) (t166 : Bool) : Option (Out Unit Bool) :=
 bif t166 then (
 some (.ret false)
 ) else (
 chk (within 4 (s.length : Int) (s.length : Int)) <|
 rec_ (s.drop ((4 : Int)).toNat)
 )

def su8_ValidString_j7 (rec_ : qR168) (s : Str) (t125 : Bool) : Option (Out Unit Bool) :=
 bif t125 then (
 some (.ret false)
 ) else (
 chk (within 3 (s.length : Int) (s.length : Int)) <|
 rec_ (s.drop ((3 : Int)).toNat)
 )

def su8_ValidString_j6 (rec_ : qR168) (s : Str) (t94 : Bool) : Option (Out Unit Bool) :=
 bif t94 then (
 some (.ret false)
 ) else (
 chk (within 2 (s.length : Int) (s.length : Int)) <|
 rec_ (s.drop ((2 : Int)).toNat)
 )

def su8_ValidString_j5 (rec_ : qR168) (s : Str) : Option (Out Unit Bool) :=
 rec_ s

def su8_ValidString_k4 (rec_ : qR168) (s : Str) : Option (Out Unit Bool) :=
 rec_ s

def su8_ValidString_j3 (rec_ : Str → Option Str) (s : Str) (t62 : Bool) : Option Str :=
 bif t62 then (
 chk (within 32 (s.length : Int) (s.length : Int)) <|
 rec_ (s.drop ((32 : Int)).toNat)
 ) else (
 some s
 )

def su8_ValidString_l2_b (rec_ : Str → Option Str) (s : Str) : Option Str :=
 bif (decide ((s.length : Int) > 32)) then (
 (su8_word_string s).bind fun q =>
 chk (within 8 (s.length : Int) (s.length : Int)) <|
 (su8_word_string (s.drop ((8 : Int)).toNat)).bind fun q_1 =>
 chk (within 16 (s.length : Int) (s.length : Int)) <|
 (su8_word_string (s.drop ((16 : Int)).toNat)).bind fun q_2 =>
 chk (within 24 (s.length : Int) (s.length : Int)) <|
 (su8_word_string (s.drop ((24 : Int)).toNat)).bind fun q_3 =>
 su8_ValidString_j3 rec_ s ((andK .u64 (orK .u64 (orK .u64 q q_1) (orK .u64 q_2 q_3)) 9259542123273814144) == 0)
 ) else (
 su8_ValidString_j3 rec_ s false
 )

def su8_ValidString_l2 : Nat → Str → Option Str
 | 0, _ => none
 | n_ + 1, s => su8_ValidString_l2_b (su8_ValidString_l2 n_) s

def su8_ValidString_j2 (rec_ : qR168) (s : Str) (t39 : Bool) : Option (Out Unit Bool) :=
 bif t39 then (
 chk (within 16 (s.length : Int) (s.length : Int)) <|
 (su8_ValidString_l2 big (s.drop ((16 : Int)).toNat)).bind fun x0 => su8_ValidString_k4 rec_ x0
 ) else (
 su8_ValidString_j5 rec_ s
 )

def su8_ValidString_j1 (rec_ : qR168) (s : Str) (t24 : Bool) : Option (Out Unit Bool) :=
 bif t24 then (
 chk (within 8 (s.length : Int) (s.length : Int)) <|
 bif (decide (((s.drop ((8 : Int)).toNat).length : Int) > 16)) then (
 (su8_word_string (s.drop ((8 : Int)).toNat)).bind fun q =>
 chk (within 8 ((s.drop ((8 : Int)).toNat).length : Int) ((s.drop ((8 : Int)).toNat).length : Int)) <|
 (su8_word_string ((s.drop ((8 : Int)).toNat).drop ((8 : Int)).toNat)).bind fun q_1 =>
 su8_ValidString_j2 rec_ (s.drop ((8 : Int)).toNat) ((andK .u64 (orK .u64 q q_1) 9259542123273814144) == 0)
 ) else (
 su8_ValidString_j2 rec_ (s.drop ((8 : Int)).toNat) false
 )
 ) else (
 su8_ValidString_j5 rec_ s
 )

def su8_ValidString_l1_b (rec_ : qR168) (s : Str) : Option (Out Unit Bool) :=
 bif (decide ((s.length : Int) > 0)) then (
 (idx s 0).bind fun c =>
 bif (decide (((c.toNat : Nat) : Int) < 128)) then (
 chk (within 1 (s.length : Int) (s.length : Int)) <|
 bif (decide (((s.drop ((1 : Int)).toNat).length : Int) > 8)) then (
 (su8_word_string (s.drop ((1 : Int)).toNat)).bind fun q =>
 su8_ValidString_j1 rec_ (s.drop ((1 : Int)).toNat) ((andK .u64 q 9259542123273814144) == 0)
 ) else (
 su8_ValidString_j1 rec_ (s.drop ((1 : Int)).toNat) false
 )
 ) else (
 chk (inR ((c.toNat : Nat) : Int) 256) <|
 (tabB (car := carU) (.int .u8) glob_utf8_first ((((c.toNat : Nat) : Int)).toNat * 1)).bind fun c_1 =>
 chk (decide (0 ≤ (4 : Int))) <|
 chk (inR (shrK .u8 c_1 4) 16) <|
 (tabB (car := carU) (.int .u8) glob_utf8_acceptRanges (((shrK .u8 c_1 4)).toNat * 2)).bind fun c_2 =>
 (tabB (car := carU) (.int .u8) glob_utf8_acceptRanges (((shrK .u8 c_1 4)).toNat * 2 + 1)).bind fun c_3 =>
 bif ((IntKind.wrap .i64 (andK .u8 c_1 7)) == 2) then (
 bif (decide ((s.length : Int) < 2)) then (
 su8_ValidString_j6 rec_ s true
 ) else (
 (idx s 1).bind fun c_4 =>
 bif (decide (((c_4.toNat : Nat) : Int) < c_2)) then (
 su8_ValidString_j6 rec_ s true
 ) else (
 (idx s 1).bind fun c_5 =>
 su8_ValidString_j6 rec_ s (decide (c_3 < ((c_5.toNat : Nat) : Int)))
 )
 )
 ) else (
 bif ((IntKind.wrap .i64 (andK .u8 c_1 7)) == 3) then (
 bif (decide ((s.length : Int) < 3)) then (
 su8_ValidString_j7 rec_ s true
 ) else (
 (idx s 1).bind fun c_6 =>
 bif (decide (((c_6.toNat : Nat) : Int) < c_2)) then (
 su8_ValidString_j7 rec_ s true
 ) else (
 (idx s 1).bind fun c_7 =>
 bif (decide (c_3 < ((c_7.toNat : Nat) : Int))) then (
 su8_ValidString_j7 rec_ s true
 ) else (
 (idx s 2).bind fun c_8 =>
 bif (decide (((c_8.toNat : Nat) : Int) < 128)) then (
 su8_ValidString_j7 rec_ s true
 ) else (
 (idx s 2).bind fun c_9 =>
 su8_ValidString_j7 rec_ s (decide ((191 : Int) < ((c_9.toNat : Nat) : Int)))
 )
 )
 )
 )
 ) else (
 bif ((IntKind.wrap .i64 (andK .u8 c_1 7)) == 4) then (
 bif (decide ((s.length : Int) < 4)) then (
 su8_ValidString_j8 rec_ s true
 ) else (
 (idx s 1).bind fun c_10 =>
 bif (decide (((c_10.toNat : Nat) : Int) < c_2)) then (
 su8_ValidString_j8 rec_ s true
 ) else (
 (idx s 1).bind fun c_11 =>
 bif (decide (c_3 < ((c_11.toNat : Nat) : Int))) then (
 su8_ValidString_j8 rec_ s true
 ) else (
 (idx s 2).bind fun c_12 =>
 bif (decide (((c_12.toNat : Nat) : Int) < 128)) then (
 su8_ValidString_j8 rec_ s true
 ) else (
 (idx s 2).bind fun c_13 =>
 bif (decide ((191 : Int) < ((c_13.toNat : Nat) : Int))) then (
 su8_ValidString_j8 rec_ s true
 ) else (
 (idx s 3).bind fun c_14 =>
 bif (decide (((c_14.toNat : Nat) : Int) < 128)) then (
 su8_ValidString_j8 rec_ s true
 ) else (
 (idx s 3).bind fun c_15 =>
 su8_ValidString_j8 rec_ s (decide ((191 : Int) < ((c_15.toNat : Nat) : Int)))
 )
 )
 )
 )
 )
 )
 ) else (
 some (.ret false)
 )
 )
 )
 )
 ) else (
 some (.brk ())
 )

def su8_ValidString_l1 : Nat → Str → Option (Out Unit Bool)
 | 0, _ => none
 | n_ + 1, s => su8_ValidString_l1_b (su8_ValidString_l1 n_) s

def su8_ValidString (s : Str) : Option Bool :=
 (su8_ValidString_l1 big s).bind fun
 | .ret q_ => some q_
 | .brk () => su8_ValidString_k9

/-! ### tablefinder/tablefinderref02.Valid -/

def sr02_Valid (s : Str) : Option Bool :=
 (su8_ValidString s).bind fun q =>
 some q

/-! ### tablefinder/tablefinderref03.name -/

def sr03_name_j1 (t2 : Bool) : Option Bool :=
 some t2

def sr03_name (s : Str) : Option Bool :=
 (sr02_Valid s).bind fun q =>
 bif q then (
 sr03_name_j1 (decide ((s.length : Int) ≤ 1024))
 ) else (
 sr03_name_j1 false
 )

/-! ### tablefinder/tablefinderref03.ValidCell -/

def sr03_ValidCell_j1 (t2 : Bool) : Option Bool :=
 some t2

def sr03_ValidCell (c : GaCell) : Option Bool :=
 (sr02_Valid c.Text).bind fun q =>
 bif q then (
 bif (decide ((c.Text.length : Int) ≤ 1024)) then (
 bif (!c.Null) then (
 sr03_ValidCell_j1 true
 ) else (
 sr03_ValidCell_j1 (c.Text == ([] : Str))
 )
 ) else (
 sr03_ValidCell_j1 false
 )
 ) else (
 sr03_ValidCell_j1 false
 )

/-! ### tablefinder/tablefinderref03.Valid -/

def sr03_Valid_k4  : Option Bool :=
 some true

def sr03_Valid_k3 (rec_ : qR165) (t28 : qL0) (t29 : Int) (t30 : Int) (t : GaTable) : Option (Out Unit Bool) :=
 chk (inK .i64 (t30 + 1)) <|
 rec_ t28 t29 (t30 + 1) t

def sr03_Valid_l2_b (rec_ : qL0 → Int → Int → qL4 → Int → Int → GaTable → Option qS135) (t28 : qL0) (t29 : Int) (t30 : Int) (t57 : qL4) (t58 : Int) (t59 : Int) (t : GaTable) : Option qS135 :=
 bif (decide (t59 < t58)) then (
 (idx t57 t59).bind fun x_ =>
 (sr03_ValidCell x_).bind fun q =>
 bif (!q) then (
 some (.ret false)
 ) else (
 chk (inK .i64 (t59 + 1)) <|
 rec_ t28 t29 t30 t57 t58 (t59 + 1) t
 )
 ) else (
 some (.brk (t28, t29, t30, t))
 )

def sr03_Valid_l2 : Nat → qL0 → Int → Int → qL4 → Int → Int → GaTable → Option qS135
 | 0, _, _, _, _, _, _, _ => none
 | n_ + 1, t28, t29, t30, t57, t58, t59, t => sr03_Valid_l2_b (sr03_Valid_l2 n_) t28 t29 t30 t57 t58 t59 t

def sr03_Valid_j2 (rec_ : qR165) (t28 : qL0) (t29 : Int) (t30 : Int) (t55 : Bool) (t : GaTable) (c : GaColumn) : Option (Out Unit Bool) :=
 bif t55 then (
 some (.ret false)
 ) else (
 (sr03_Valid_l2 big t28 t29 t30 c.Cells (c.Cells.length : Int) (0 : Int) t).bind fun
 | .ret q_ => some (.ret q_)
 | .brk (x0, x1, x2, x3) => sr03_Valid_k3 rec_ x0 x1 x2 x3
 )

def sr03_Valid_l1_b (rec_ : qR165) (t28 : qL0) (t29 : Int) (t30 : Int) (t : GaTable) : Option (Out Unit Bool) :=
 bif (decide (t30 < t29)) then (
 (idx t28 t30).bind fun c =>
 (sr03_name c.Name).bind fun q =>
 bif (!q) then (
 sr03_Valid_j2 rec_ t28 t29 t30 true t c
 ) else (
 bif (decide ((c.Cells.length : Int) > 4096)) then (
 sr03_Valid_j2 rec_ t28 t29 t30 true t c
 ) else (
 (idx t.Columns 0).bind fun Column =>
 sr03_Valid_j2 rec_ t28 t29 t30 ((c.Cells.length : Int) != (Column.Cells.length : Int)) t c
 )
 )
 ) else (
 some (.brk ())
 )

def sr03_Valid_l1 : Nat → qL0 → Int → Int → GaTable → Option (Out Unit Bool)
 | 0, _, _, _, _ => none
 | n_ + 1, t28, t29, t30, t => sr03_Valid_l1_b (sr03_Valid_l1 n_) t28 t29 t30 t

def sr03_Valid_j1 (t26 : Bool) (t : GaTable) : Option Bool :=
 bif t26 then (
 some false
 ) else (
 (sr03_Valid_l1 big t.Columns (t.Columns.length : Int) (0 : Int) t).bind fun
 | .ret q_ => some q_
 | .brk () => sr03_Valid_k4
 )

def sr03_Valid (t : GaTable) : Option Bool :=
 bif (decide (t.ID < 0)) then (
 sr03_Valid_j1 true t
 ) else (
 bif (decide (t.ID > 1073741824)) then (
 sr03_Valid_j1 true t
 ) else (
 (sr03_name t.Name).bind fun q =>
 bif (!q) then (
 sr03_Valid_j1 true t
 ) else (
 sr03_Valid_j1 (decide ((t.Columns.length : Int) > 64)) t
 )
 )
 )

/-! ### tablefinder/tablefinderref38.can -/

def sr38_can_j8 (t4 : Bool) : Option Bool :=
 some t4

def sr38_can_j7 (t4 : Bool) : Option Bool :=
 some t4

def sr38_can_k6 (o : GaOp) : Option Bool :=
 bif (o.Column == 0) then (
 bif (o.Text == ([] : Str)) then (
 sr38_can_j7 (decide ((o.Columns.length : Int) ≤ 64))
 ) else (
 sr38_can_j7 false
 )
 ) else (
 sr38_can_j7 false
 )

def sr38_can_j4 (t4 : Bool) : Option Bool :=
 some t4

def sr38_can_j5 (rec_ : qR164) (t54 : qL3) (t55 : Int) (t56 : Int) (t68 : Bool) (t : GaTable) (o : GaOp) : Option (Out GaOp Bool) :=
 bif t68 then (
 some (.ret false)
 ) else (
 chk (inK .i64 (t56 + 1)) <|
 rec_ t54 t55 (t56 + 1) t o
 )

def sr38_can_l1_b (rec_ : qR164) (t54 : qL3) (t55 : Int) (t56 : Int) (t : GaTable) (o : GaOp) : Option (Out GaOp Bool) :=
 bif (decide (t56 < t55)) then (
 (idx t54 t56).bind fun k =>
 bif (decide (k < 0)) then (
 sr38_can_j5 rec_ t54 t55 t56 true t o
 ) else (
 sr38_can_j5 rec_ t54 t55 t56 (decide (k ≥ (t.Columns.length : Int))) t o
 )
 ) else (
 some (.brk o)
 )

def sr38_can_l1 : Nat → qL3 → Int → Int → GaTable → GaOp → Option (Out GaOp Bool)
 | 0, _, _, _, _, _ => none
 | n_ + 1, t54, t55, t56, t, o => sr38_can_l1_b (sr38_can_l1 n_) t54 t55 t56 t o

def sr38_can_l1_F (n : Nat) (s : qS137) : Option (Out GaOp Bool) := sr38_can_l1 n s.1 s.2.1 s.2.2.1 s.2.2.2.1 s.2.2.2.2
def sr38_can_l1_B (rec_ : qS137 → Option (Out GaOp Bool)) (s : qS137) : Option (Out GaOp Bool) := sr38_can_l1_b (fun t54 t55 t56 t o => rec_ (t54, t55, t56, t, o)) s.1 s.2.1 s.2.2.1 s.2.2.2.1 s.2.2.2.2
theorem sr38_can_l1_FB : ∀ n s, sr38_can_l1_F (n + 1) s = sr38_can_l1_B (sr38_can_l1_F n) s := fun _ _ => rfl

def sr38_can_j3 (there : Bool) (t20 : Int) (t36 : Bool) (t : GaTable) (o : GaOp) : Option Bool :=
 bif t36 then (
 bif there then (
 bif ((o.Columns.length : Int) == 0) then (
 sr38_can_j4 (o.Text == ([] : Str))
 ) else (
 sr38_can_j4 false
 )
 ) else (
 sr38_can_j4 false
 )
 ) else (
 bif (t20 == 3) then (
 (sr38_can_l1 big o.Columns (o.Columns.length : Int) (0 : Int) t o).bind fun
 | .ret q_ => some q_
 | .brk x0 => sr38_can_k6 x0
 ) else (
 bif (o.Kind == 4) then (
 bif (o.Column == 0) then (
 bif (o.Text == ([] : Str)) then (
 sr38_can_j8 ((o.Columns.length : Int) == 0)
 ) else (
 sr38_can_j8 false
 )
 ) else (
 sr38_can_j8 false
 )
 ) else (
 sr38_can_j8 false
 )
 )
 )

def sr38_can_j2 (t4 : Bool) : Option Bool :=
 some t4

def sr38_can_j1 (there : Bool) (t : GaTable) (o : GaOp) : Option Bool :=
 bif (o.Kind == 1) then (
 bif there then (
 bif ((o.Columns.length : Int) == 0) then (
 sr38_can_j2 (decide ((o.Text.length : Int) ≤ 1024))
 ) else (
 sr38_can_j2 false
 )
 ) else (
 sr38_can_j2 false
 )
 ) else (
 bif (o.Kind == 2) then (
 sr38_can_j3 there o.Kind (o.Kind == 2) t o
 ) else (
 sr38_can_j3 there o.Kind (o.Kind == 5) t o
 )
 )

def sr38_can (t : GaTable) (o : GaOp) : Option Bool :=
 bif (decide (o.Column ≥ 0)) then (
 sr38_can_j1 (decide (o.Column < (t.Columns.length : Int))) t o
 ) else (
 sr38_can_j1 false t o
 )

/-! ### tablefinder/tablefinderref03.Project -/

def sr03_Project_k2 (columns : qL3) (t4 : Int) (t4_1 : Str) (out : Int) (out_1 : Str) (t4_2 : qL0) (out_2 : qL0) : Option (GaTable × Int) :=
 bif (decide ((columns.length : Int) > 64)) then (
 some ((GaTable.mk 0 ([] : Str) ([] : qL0)), 3)
 ) else (
 some ((GaTable.mk out out_1 out_2), 0)
 )

def sr03_Project_j1 (rec_ : qR150) (columns : qL3) (k : Int) (t18 : qL3) (t19 : Int) (t20 : Int) (t32 : Bool) (t : GaTable) (t4 : Int) (t4_1 : Str) (out : Int) (out_1 : Str) (t4_2 : qL0) (out_2 : qL0) : Option qS108 :=
 bif t32 then (
 some (.ret ((GaTable.mk 0 ([] : Str) ([] : qL0)), 2))
 ) else (
 (idx t.Columns k).bind fun Column =>
 chk (room (out_2.length + ([Column] : qL0).length) 40) <|
 chk (inK .i64 (t20 + 1)) <|
 rec_ columns t18 t19 (t20 + 1) t t4 t4_1 out out_1 t4_2 (out_2 ++ ([Column] : qL0))
 )

def sr03_Project_l1_b (rec_ : qR150) (columns : qL3) (t18 : qL3) (t19 : Int) (t20 : Int) (t : GaTable) (t4 : Int) (t4_1 : Str) (out : Int) (out_1 : Str) (t4_2 : qL0) (out_2 : qL0) : Option qS108 :=
 bif (decide (t20 < t19)) then (
 (idx t18 t20).bind fun k =>
 bif (decide (k < 0)) then (
 sr03_Project_j1 rec_ columns k t18 t19 t20 true t t4 t4_1 out out_1 t4_2 out_2
 ) else (
 sr03_Project_j1 rec_ columns k t18 t19 t20 (decide (k ≥ (t.Columns.length : Int))) t t4 t4_1 out out_1 t4_2 out_2
 )
 ) else (
 some (.brk (columns, t4, t4_1, out, out_1, t4_2, out_2))
 )

def sr03_Project_l1 : Nat → qL3 → qL3 → Int → Int → GaTable → Int → Str → Int → Str → qL0 → qL0 → Option qS108
 | 0, _, _, _, _, _, _, _, _, _, _, _ => none
 | n_ + 1, columns, t18, t19, t20, t, t4, t4_1, out, out_1, t4_2, out_2 => sr03_Project_l1_b (sr03_Project_l1 n_) columns t18 t19 t20 t t4 t4_1 out out_1 t4_2 out_2

def sr03_Project_l1_F (n : Nat) (s : qS106) : Option qS108 := sr03_Project_l1 n s.1 s.2.1 s.2.2.1 s.2.2.2.1 s.2.2.2.2.1 s.2.2.2.2.2.1 s.2.2.2.2.2.2.1 s.2.2.2.2.2.2.2.1 s.2.2.2.2.2.2.2.2.1 s.2.2.2.2.2.2.2.2.2.1 s.2.2.2.2.2.2.2.2.2.2
def sr03_Project_l1_B (rec_ : qS106 → Option qS108) (s : qS106) : Option qS108 := sr03_Project_l1_b (fun columns t18 t19 t20 t t4 t4_1 out out_1 t4_2 out_2 => rec_ (columns, t18, t19, t20, t, t4, t4_1, out, out_1, t4_2, out_2)) s.1 s.2.1 s.2.2.1 s.2.2.2.1 s.2.2.2.2.1 s.2.2.2.2.2.1 s.2.2.2.2.2.2.1 s.2.2.2.2.2.2.2.1 s.2.2.2.2.2.2.2.2.1 s.2.2.2.2.2.2.2.2.2.1 s.2.2.2.2.2.2.2.2.2.2
theorem sr03_Project_l1_FB : ∀ n s, sr03_Project_l1_F (n + 1) s = sr03_Project_l1_B (sr03_Project_l1_F n) s := fun _ _ => rfl

def sr03_Project (t : GaTable) (columns : qL3) : Option (GaTable × Int) :=
 (sr03_Valid t).bind fun q =>
 bif (!q) then (
 some ((GaTable.mk 0 ([] : Str) ([] : qL0)), 1)
 ) else (
 (sr03_Project_l1 big columns columns (columns.length : Int) (0 : Int) t (0 : Int) ([] : Str) t.ID t.Name ([] : qL0) ([] : qL0)).bind fun
 | .ret q_ => some q_
 | .brk (x0, x1, x2, x3, x4, x5, x6) => sr03_Project_k2 x0 x1 x2 x3 x4 x5 x6
 )

/-! ### tablefinder/tablefinderref03.Rows -/

def sr03_Rows (t : GaTable) : Option Int :=
 bif ((t.Columns.length : Int) == 0) then (
 some (0 : Int)
 ) else (
 (idx t.Columns 0).bind fun Column =>
 some (Column.Cells.length : Int)
 )

/-! ### tablefinder/tablefinderref38.equal -/

def sr38_equal_k1  : Option Bool :=
 some true

def sr38_equal_l1_b (rec_ : Int → Int → qL0 → Int → Int → Option (Out Unit Bool)) (x_ : Int) (y : Int) (t10 : qL0) (t11 : Int) (t12 : Int) : Option (Out Unit Bool) :=
 bif (decide (t12 < t11)) then (
 (idx t10 t12).bind fun c =>
 (idx c.Cells x_).bind fun Cell =>
 (idx c.Cells y).bind fun Cell_1 =>
 bif (!(Cell.Null == Cell_1.Null && (Cell.Text == Cell_1.Text && true))) then (
 some (.ret false)
 ) else (
 chk (inK .i64 (t12 + 1)) <|
 rec_ x_ y t10 t11 (t12 + 1)
 )
 ) else (
 some (.brk ())
 )

def sr38_equal_l1 : Nat → Int → Int → qL0 → Int → Int → Option (Out Unit Bool)
 | 0, _, _, _, _, _ => none
 | n_ + 1, x_, y, t10, t11, t12 => sr38_equal_l1_b (sr38_equal_l1 n_) x_ y t10 t11 t12

def sr38_equal_l1_F (n : Nat) (s : qS138) : Option (Out Unit Bool) := sr38_equal_l1 n s.1 s.2.1 s.2.2.1 s.2.2.2.1 s.2.2.2.2
def sr38_equal_l1_B (rec_ : qS138 → Option (Out Unit Bool)) (s : qS138) : Option (Out Unit Bool) := sr38_equal_l1_b (fun x_ y t10 t11 t12 => rec_ (x_, y, t10, t11, t12)) s.1 s.2.1 s.2.2.1 s.2.2.2.1 s.2.2.2.2
theorem sr38_equal_l1_FB : ∀ n s, sr38_equal_l1_F (n + 1) s = sr38_equal_l1_B (sr38_equal_l1_F n) s := fun _ _ => rfl

def sr38_equal (t : GaTable) (x_ : Int) (y : Int) : Option Bool :=
 (sr38_equal_l1 big x_ y t.Columns (t.Columns.length : Int) (0 : Int)).bind fun
 | .ret q_ => some q_
 | .brk () => sr38_equal_k1

/-! ### tablefinder/tablefinderref03.CompareCells -/

def sr03_CompareCells_j1 (t5 : Bool) (a : GaCell) (b : GaCell) : Option Int :=
 bif t5 then (
 some (0 : Int)
 ) else (
 bif a.Null then (
 some (-1 : Int)
 ) else (
 bif b.Null then (
 some (1 : Int)
 ) else (
 bif (Op.bytesLess a.Text b.Text) then (
 some (-1 : Int)
 ) else (
 bif (!((Op.bytesLess a.Text b.Text) || a.Text == b.Text)) then (
 some (1 : Int)
 ) else (
 some (0 : Int)
 )
 )
 )
 )
 )

def sr03_CompareCells (a : GaCell) (b : GaCell) : Option Int :=
 bif a.Null then (
 sr03_CompareCells_j1 b.Null a b
 ) else (
 sr03_CompareCells_j1 false a b
 )

/-! ### tablefinder/tablefinderref38.rows -/

def sr38_rows_k8 (out : qL3) : Option qL3 :=
 some out

def sr38_rows_j7 (rec_ : qR166) (t14 : Int) (r_ : Int) (t : GaTable) (o : GaOp) (out : qL3) : Option qL3 :=
 chk (inK .i64 (r_ + 1)) <|
 rec_ t14 (r_ + 1) t o out

def sr38_rows_j6 (rec_ : qR166) (r_ : Int) (at_ : Int) (t14 : Int) (r__1 : Int) (t104 : Bool) (t : GaTable) (o : GaOp) (out : qL3) : Option qL3 :=
 bif t104 then (
 chk (within 0 at_ (out.length : Int)) <|
 chk (room ((out.drop 0).take ((at_).toNat - 0)).length 8) <|
 chk (room (((out.drop 0).take ((at_).toNat - 0)).length + ([r_] : qL3).length) 8) <|
 chk (within at_ (out.length : Int) (out.length : Int)) <|
 chk (room ((((out.drop 0).take ((at_).toNat - 0)) ++ ([r_] : qL3)).length + ((out.drop ((at_).toNat)).take ((out.length : Int).toNat - (at_).toNat)).length) 8) <|
 sr38_rows_j7 rec_ t14 r__1 t o ((((out.drop 0).take ((at_).toNat - 0)) ++ ([r_] : qL3)) ++ ((out.drop ((at_).toNat)).take ((out.length : Int).toNat - (at_).toNat)))
 ) else (
 sr38_rows_j7 rec_ t14 r__1 t o out
 )

def sr38_rows_j5 (rec_ : qR166) (r_ : Int) (at_ : Int) (keep : Bool) (t14 : Int) (r__1 : Int) (t : GaTable) (o : GaOp) (out : qL3) : Option qL3 :=
 sr38_rows_j6 rec_ r_ at_ t14 r__1 keep t o out

def sr38_rows_k4 (rec_ : qR166) (r_ : Int) (at_ : Int) (keep : Bool) (t14 : Int) (r__1 : Int) (t : GaTable) (o : GaOp) (out : qL3) : Option qL3 :=
 sr38_rows_j6 rec_ r_ at_ t14 r__1 keep t o out

def sr38_rows_k2 (rec_ : qR166) (r_ : Int) (at_ : Int) (keep : Bool) (t14 : Int) (r__1 : Int) (t : GaTable) (o : GaOp) (out : qL3) : Option qL3 :=
 sr38_rows_j6 rec_ r_ at_ t14 r__1 keep t o out

def sr38_rows_j1 (rec_ : qR159) (r_ : Int) (at_ : Int) (keep : Bool) (t14 : Int) (r__1 : Int) (t61 : Int) (t62 : Int) (t : GaTable) (o : GaOp) (out : qL3) : Option qS128 :=
 chk (inK .i64 (t62 + 1)) <|
 rec_ r_ at_ keep t14 r__1 t61 (t62 + 1) t o out

def sr38_rows_l2_b (rec_ : qR159) (r_ : Int) (at_ : Int) (keep : Bool) (t14 : Int) (r__1 : Int) (t61 : Int) (t62 : Int) (t : GaTable) (o : GaOp) (out : qL3) : Option qS128 :=
 bif (decide (t62 < t61)) then (
 chk (inR t62 (out.length : Int)) <|
 (out[(t62).toNat]?).bind fun x_ =>
 bif keep then (
 (sr38_equal t x_ r_).bind fun q =>
 sr38_rows_j1 rec_ r_ at_ (!q) t14 r__1 t61 t62 t o out
 ) else (
 sr38_rows_j1 rec_ r_ at_ false t14 r__1 t61 t62 t o out
 )
 ) else (
 some (r_, at_, keep, t14, r__1, t, o, out)
 )

def sr38_rows_l2 : Nat → Int → Int → Bool → Int → Int → Int → Int → GaTable → GaOp → qL3 → Option qS128
 | 0, _, _, _, _, _, _, _, _, _, _ => none
 | n_ + 1, r_, at_, keep, t14, r__1, t61, t62, t, o, out => sr38_rows_l2_b (sr38_rows_l2 n_) r_ at_ keep t14 r__1 t61 t62 t o out

def sr38_rows_l2_F (n : Nat) (s : qS119) : Option qS128 := sr38_rows_l2 n s.1 s.2.1 s.2.2.1 s.2.2.2.1 s.2.2.2.2.1 s.2.2.2.2.2.1 s.2.2.2.2.2.2.1 s.2.2.2.2.2.2.2.1 s.2.2.2.2.2.2.2.2.1 s.2.2.2.2.2.2.2.2.2
def sr38_rows_l2_B (rec_ : qS119 → Option qS128) (s : qS119) : Option qS128 := sr38_rows_l2_b (fun r_ at_ keep t14 r__1 t61 t62 t o out => rec_ (r_, at_, keep, t14, r__1, t61, t62, t, o, out)) s.1 s.2.1 s.2.2.1 s.2.2.2.1 s.2.2.2.2.1 s.2.2.2.2.2.1 s.2.2.2.2.2.2.1 s.2.2.2.2.2.2.2.1 s.2.2.2.2.2.2.2.2.1 s.2.2.2.2.2.2.2.2.2
theorem sr38_rows_l2_FB : ∀ n s, sr38_rows_l2_F (n + 1) s = sr38_rows_l2_B (sr38_rows_l2_F n) s := fun _ _ => rfl

def sr38_rows_j3 (rec_ : qR158) (r_ : Int) (at_ : Int) (keep : Bool) (l : qL4) (t14 : Int) (r__1 : Int) (t101 : Bool) (t : GaTable) (o : GaOp) (out : qL3) : Option qS128 :=
 bif t101 then (
 chk (inK .i64 (at_ - 1)) <|
 rec_ r_ (at_ - 1) keep l t14 r__1 t o out
 ) else (
 some (r_, at_, keep, t14, r__1, t, o, out)
 )

def sr38_rows_l3_b (rec_ : qR158) (r_ : Int) (at_ : Int) (keep : Bool) (l : qL4) (t14 : Int) (r__1 : Int) (t : GaTable) (o : GaOp) (out : qL3) : Option qS128 :=
 bif (decide (at_ > 0)) then (
 chk (inK .i64 (at_ - 1)) <|
 chk (inR (at_ - 1) (out.length : Int)) <|
 (out[((at_ - 1)).toNat]?).bind fun out_e =>
 (idx l out_e).bind fun l_e =>
 (idx l r_).bind fun l_e_1 =>
 (sr03_CompareCells l_e l_e_1).bind fun q =>
 sr38_rows_j3 rec_ r_ at_ keep l t14 r__1 (decide (q > 0)) t o out
 ) else (
 sr38_rows_j3 rec_ r_ at_ keep l t14 r__1 false t o out
 )

def sr38_rows_l3 : Nat → Int → Int → Bool → qL4 → Int → Int → GaTable → GaOp → qL3 → Option qS128
 | 0, _, _, _, _, _, _, _, _, _ => none
 | n_ + 1, r_, at_, keep, l, t14, r__1, t, o, out => sr38_rows_l3_b (sr38_rows_l3 n_) r_ at_ keep l t14 r__1 t o out

def sr38_rows_l3_F (n : Nat) (s : qS116) : Option qS128 := sr38_rows_l3 n s.1 s.2.1 s.2.2.1 s.2.2.2.1 s.2.2.2.2.1 s.2.2.2.2.2.1 s.2.2.2.2.2.2.1 s.2.2.2.2.2.2.2.1 s.2.2.2.2.2.2.2.2
def sr38_rows_l3_B (rec_ : qS116 → Option qS128) (s : qS116) : Option qS128 := sr38_rows_l3_b (fun r_ at_ keep l t14 r__1 t o out => rec_ (r_, at_, keep, l, t14, r__1, t, o, out)) s.1 s.2.1 s.2.2.1 s.2.2.2.1 s.2.2.2.2.1 s.2.2.2.2.2.1 s.2.2.2.2.2.2.1 s.2.2.2.2.2.2.2.1 s.2.2.2.2.2.2.2.2
theorem sr38_rows_l3_FB : ∀ n s, sr38_rows_l3_F (n + 1) s = sr38_rows_l3_B (sr38_rows_l3_F n) s := fun _ _ => rfl

def sr38_rows_l1_b (rec_ : qR166) (t14 : Int) (r_ : Int) (t : GaTable) (o : GaOp) (out : qL3) : Option qL3 :=
 bif (decide (r_ < t14)) then (
 bif (o.Kind == 1) then (
 (idx t.Columns o.Column).bind fun Column =>
 (idx Column.Cells r_).bind fun c =>
 bif (!c.Null) then (
 sr38_rows_j5 rec_ r_ (out.length : Int) (c.Text == o.Text) t14 r_ t o out
 ) else (
 sr38_rows_j5 rec_ r_ (out.length : Int) false t14 r_ t o out
 )
 ) else (
 bif (o.Kind == 2) then (
 (idx t.Columns o.Column).bind fun Column_1 =>
 (idx Column_1.Cells r_).bind fun Cell =>
 sr38_rows_j5 rec_ r_ (out.length : Int) (!Cell.Null) t14 r_ t o out
 ) else (
 bif (o.Kind == 4) then (
 (sr38_rows_l2 big r_ (out.length : Int) true t14 r_ (out.length : Int) (0 : Int) t o out).bind fun (x0, x1, x2, x3, x4, x5, x6, x7) => sr38_rows_k2 rec_ x0 x1 x2 x3 x4 x5 x6 x7
 ) else (
 bif (o.Kind == 5) then (
 (idx t.Columns o.Column).bind fun Column_2 =>
 (sr38_rows_l3 big r_ (out.length : Int) true Column_2.Cells t14 r_ t o out).bind fun (x0, x1, x2, x3, x4, x5, x6, x7) => sr38_rows_k4 rec_ x0 x1 x2 x3 x4 x5 x6 x7
 ) else (
 sr38_rows_j5 rec_ r_ (out.length : Int) true t14 r_ t o out
 )
 )
 )
 )
 ) else (
 some out
 )

def sr38_rows_l1 : Nat → Int → Int → GaTable → GaOp → qL3 → Option qL3
 | 0, _, _, _, _, _ => none
 | n_ + 1, t14, r_, t, o, out => sr38_rows_l1_b (sr38_rows_l1 n_) t14 r_ t o out

def sr38_rows_l1_F (n : Nat) (s : qS139) : Option qL3 := sr38_rows_l1 n s.1 s.2.1 s.2.2.1 s.2.2.2.1 s.2.2.2.2
def sr38_rows_l1_B (rec_ : qS139 → Option qL3) (s : qS139) : Option qL3 := sr38_rows_l1_b (fun t14 r_ t o out => rec_ (t14, r_, t, o, out)) s.1 s.2.1 s.2.2.1 s.2.2.2.1 s.2.2.2.2
theorem sr38_rows_l1_FB : ∀ n s, sr38_rows_l1_F (n + 1) s = sr38_rows_l1_B (sr38_rows_l1_F n) s := fun _ _ => rfl

def sr38_rows (t : GaTable) (o : GaOp) : Option qL3 :=
 (sr03_Rows t).bind fun q =>
 (sr38_rows_l1 big q (0 : Int) t o ([] : qL3)).bind fun x0 => sr38_rows_k8 x0

/-! ### tablefinder/tablefinderref03.Select -/

def sr03_Select_k4 (t4 : Int) (t4_1 : Str) (out : Int) (out_1 : Str) (t4_2 : qL0) (out_2 : qL0) : Option (GaTable × Int) :=
 some ((GaTable.mk out out_1 out_2), 0)

def sr03_Select_k3 (rec_ : qR151) (rows : qL3) (t44 : qL0) (t45 : Int) (t46 : Int) (t4 : Int) (t4_1 : Str) (out : Int) (out_1 : Str) (x_ : Str) (t4_2 : qL0) (out_2 : qL0) (x__1 : qL4) : Option qS129 :=
 chk (room (out_2.length + ([(GaColumn.mk x_ x__1)] : qL0).length) 40) <|
 chk (inK .i64 (t46 + 1)) <|
 rec_ rows t44 t45 (t46 + 1) t4 t4_1 out out_1 t4_2 (out_2 ++ ([(GaColumn.mk x_ x__1)] : qL0))

def sr03_Select_l3_b (rec_ : qL3 → qL0 → Int → Int → qL3 → Int → Int → Int → Str → Int → Str → GaColumn → Str → qL0 → qL0 → qL4 → Option qS103) (rows : qL3) (t44 : qL0) (t45 : Int) (t46 : Int) (t53 : qL3) (t54 : Int) (t55 : Int) (t4 : Int) (t4_1 : Str) (out : Int) (out_1 : Str) (c : GaColumn) (x_ : Str) (t4_2 : qL0) (out_2 : qL0) (x__1 : qL4) : Option qS103 :=
 bif (decide (t55 < t54)) then (
 (idx t53 t55).bind fun k =>
 (idx c.Cells k).bind fun Cell =>
 chk (room (x__1.length + ([Cell] : qL4).length) 24) <|
 chk (inK .i64 (t55 + 1)) <|
 rec_ rows t44 t45 t46 t53 t54 (t55 + 1) t4 t4_1 out out_1 c x_ t4_2 out_2 (x__1 ++ ([Cell] : qL4))
 ) else (
 some (rows, t44, t45, t46, t4, t4_1, out, out_1, x_, t4_2, out_2, x__1)
 )

def sr03_Select_l3 : Nat → qL3 → qL0 → Int → Int → qL3 → Int → Int → Int → Str → Int → Str → GaColumn → Str → qL0 → qL0 → qL4 → Option qS103
 | 0, _, _, _, _, _, _, _, _, _, _, _, _, _, _, _, _ => none
 | n_ + 1, rows, t44, t45, t46, t53, t54, t55, t4, t4_1, out, out_1, c, x_, t4_2, out_2, x__1 => sr03_Select_l3_b (sr03_Select_l3 n_) rows t44 t45 t46 t53 t54 t55 t4 t4_1 out out_1 c x_ t4_2 out_2 x__1

def sr03_Select_l3_F (n : Nat) (s : qS97) : Option qS103 := sr03_Select_l3 n s.1 s.2.1 s.2.2.1 s.2.2.2.1 s.2.2.2.2.1 s.2.2.2.2.2.1 s.2.2.2.2.2.2.1 s.2.2.2.2.2.2.2.1 s.2.2.2.2.2.2.2.2.1 s.2.2.2.2.2.2.2.2.2.1 s.2.2.2.2.2.2.2.2.2.2.1 s.2.2.2.2.2.2.2.2.2.2.2.1 s.2.2.2.2.2.2.2.2.2.2.2.2.1 s.2.2.2.2.2.2.2.2.2.2.2.2.2.1 s.2.2.2.2.2.2.2.2.2.2.2.2.2.2.1 s.2.2.2.2.2.2.2.2.2.2.2.2.2.2.2
def sr03_Select_l3_B (rec_ : qS97 → Option qS103) (s : qS97) : Option qS103 := sr03_Select_l3_b (fun rows t44 t45 t46 t53 t54 t55 t4 t4_1 out out_1 c x_ t4_2 out_2 x__1 => rec_ (rows, t44, t45, t46, t53, t54, t55, t4, t4_1, out, out_1, c, x_, t4_2, out_2, x__1)) s.1 s.2.1 s.2.2.1 s.2.2.2.1 s.2.2.2.2.1 s.2.2.2.2.2.1 s.2.2.2.2.2.2.1 s.2.2.2.2.2.2.2.1 s.2.2.2.2.2.2.2.2.1 s.2.2.2.2.2.2.2.2.2.1 s.2.2.2.2.2.2.2.2.2.2.1 s.2.2.2.2.2.2.2.2.2.2.2.1 s.2.2.2.2.2.2.2.2.2.2.2.2.1 s.2.2.2.2.2.2.2.2.2.2.2.2.2.1 s.2.2.2.2.2.2.2.2.2.2.2.2.2.2.1 s.2.2.2.2.2.2.2.2.2.2.2.2.2.2.2
theorem sr03_Select_l3_FB : ∀ n s, sr03_Select_l3_F (n + 1) s = sr03_Select_l3_B (sr03_Select_l3_F n) s := fun _ _ => rfl

def sr03_Select_l2_b (rec_ : qR151) (rows : qL3) (t44 : qL0) (t45 : Int) (t46 : Int) (t4 : Int) (t4_1 : Str) (out : Int) (out_1 : Str) (t4_2 : qL0) (out_2 : qL0) : Option qS129 :=
 bif (decide (t46 < t45)) then (
 (idx t44 t46).bind fun c =>
 (sr03_Select_l3 big rows t44 t45 t46 rows (rows.length : Int) (0 : Int) t4 t4_1 out out_1 c c.Name t4_2 out_2 ([] : qL4)).bind fun (x0, x1, x2, x3, x4, x5, x6, x7, x8, x9, x10, x11) => sr03_Select_k3 rec_ x0 x1 x2 x3 x4 x5 x6 x7 x8 x9 x10 x11
 ) else (
 some (t4, t4_1, out, out_1, t4_2, out_2)
 )

def sr03_Select_l2 : Nat → qL3 → qL0 → Int → Int → Int → Str → Int → Str → qL0 → qL0 → Option qS129
 | 0, _, _, _, _, _, _, _, _, _, _ => none
 | n_ + 1, rows, t44, t45, t46, t4, t4_1, out, out_1, t4_2, out_2 => sr03_Select_l2_b (sr03_Select_l2 n_) rows t44 t45 t46 t4 t4_1 out out_1 t4_2 out_2

def sr03_Select_l2_F (n : Nat) (s : qS107) : Option qS129 := sr03_Select_l2 n s.1 s.2.1 s.2.2.1 s.2.2.2.1 s.2.2.2.2.1 s.2.2.2.2.2.1 s.2.2.2.2.2.2.1 s.2.2.2.2.2.2.2.1 s.2.2.2.2.2.2.2.2.1 s.2.2.2.2.2.2.2.2.2
def sr03_Select_l2_B (rec_ : qS107 → Option qS129) (s : qS107) : Option qS129 := sr03_Select_l2_b (fun rows t44 t45 t46 t4 t4_1 out out_1 t4_2 out_2 => rec_ (rows, t44, t45, t46, t4, t4_1, out, out_1, t4_2, out_2)) s.1 s.2.1 s.2.2.1 s.2.2.2.1 s.2.2.2.2.1 s.2.2.2.2.2.1 s.2.2.2.2.2.2.1 s.2.2.2.2.2.2.2.1 s.2.2.2.2.2.2.2.2.1 s.2.2.2.2.2.2.2.2.2
theorem sr03_Select_l2_FB : ∀ n s, sr03_Select_l2_F (n + 1) s = sr03_Select_l2_B (sr03_Select_l2_F n) s := fun _ _ => rfl

def sr03_Select_k2 (rows : qL3) (t : GaTable) (t4 : Int) (t4_1 : Str) (t4_2 : qL0) : Option (GaTable × Int) :=
 bif (decide ((rows.length : Int) > 4096)) then (
 some ((GaTable.mk 0 ([] : Str) ([] : qL0)), 3)
 ) else (
 (sr03_Select_l2 big rows t.Columns (t.Columns.length : Int) (0 : Int) t4 t4_1 t.ID t.Name t4_2 ([] : qL0)).bind fun (x0, x1, x2, x3, x4, x5) => sr03_Select_k4 x0 x1 x2 x3 x4 x5
 )

def sr03_Select_j1 (rec_ : qR157) (rows : qL3) (t18 : qL3) (t19 : Int) (t20 : Int) (t31 : Bool) (t : GaTable) (t4 : Int) (t4_1 : Str) (t4_2 : qL0) : Option qS117 :=
 bif t31 then (
 some (.ret ((GaTable.mk 0 ([] : Str) ([] : qL0)), 2))
 ) else (
 chk (inK .i64 (t20 + 1)) <|
 rec_ rows t18 t19 (t20 + 1) t t4 t4_1 t4_2
 )

def sr03_Select_l1_b (rec_ : qR157) (rows : qL3) (t18 : qL3) (t19 : Int) (t20 : Int) (t : GaTable) (t4 : Int) (t4_1 : Str) (t4_2 : qL0) : Option qS117 :=
 bif (decide (t20 < t19)) then (
 (idx t18 t20).bind fun k =>
 bif (decide (k < 0)) then (
 sr03_Select_j1 rec_ rows t18 t19 t20 true t t4 t4_1 t4_2
 ) else (
 (sr03_Rows t).bind fun q =>
 sr03_Select_j1 rec_ rows t18 t19 t20 (decide (k ≥ q)) t t4 t4_1 t4_2
 )
 ) else (
 some (.brk (rows, t, t4, t4_1, t4_2))
 )

def sr03_Select_l1 : Nat → qL3 → qL3 → Int → Int → GaTable → Int → Str → qL0 → Option qS117
 | 0, _, _, _, _, _, _, _, _ => none
 | n_ + 1, rows, t18, t19, t20, t, t4, t4_1, t4_2 => sr03_Select_l1_b (sr03_Select_l1 n_) rows t18 t19 t20 t t4 t4_1 t4_2

def sr03_Select_l1_F (n : Nat) (s : qS115) : Option qS117 := sr03_Select_l1 n s.1 s.2.1 s.2.2.1 s.2.2.2.1 s.2.2.2.2.1 s.2.2.2.2.2.1 s.2.2.2.2.2.2.1 s.2.2.2.2.2.2.2
def sr03_Select_l1_B (rec_ : qS115 → Option qS117) (s : qS115) : Option qS117 := sr03_Select_l1_b (fun rows t18 t19 t20 t t4 t4_1 t4_2 => rec_ (rows, t18, t19, t20, t, t4, t4_1, t4_2)) s.1 s.2.1 s.2.2.1 s.2.2.2.1 s.2.2.2.2.1 s.2.2.2.2.2.1 s.2.2.2.2.2.2.1 s.2.2.2.2.2.2.2
theorem sr03_Select_l1_FB : ∀ n s, sr03_Select_l1_F (n + 1) s = sr03_Select_l1_B (sr03_Select_l1_F n) s := fun _ _ => rfl

def sr03_Select (t : GaTable) (rows : qL3) : Option (GaTable × Int) :=
 (sr03_Valid t).bind fun q =>
 bif (!q) then (
 some ((GaTable.mk 0 ([] : Str) ([] : qL0)), 1)
 ) else (
 (sr03_Select_l1 big rows rows (rows.length : Int) (0 : Int) t (0 : Int) ([] : Str) ([] : qL0)).bind fun
 | .ret q_ => some q_
 | .brk (x0, x1, x2, x3, x4) => sr03_Select_k2 x0 x1 x2 x3 x4
 )

/-! ### tablefinder/tablefinderref38.do -/

def sr38_do (t : GaTable) (o : GaOp) : Option GaTable :=
 bif (o.Kind == 3) then (
 (sr03_Project t o.Columns).bind fun (x_, q) =>
 some x_
 ) else (
 (sr38_rows t o).bind fun q_1 =>
 (sr03_Select t q_1).bind fun (x__1, q_2) =>
 some x__1
 )

/-! ### tablefinder/tablefinderref38.Copy -/

def sr38_Copy_k1 (t2 : Int) (t2_1 : Str) (out : Int) (out_1 : Str) (t2_2 : qL0) (out_2 : qL0) : Option GaTable :=
 some (GaTable.mk out out_1 out_2)

def sr38_Copy_l1_b (rec_ : qL0 → Int → Int → Int → Str → Int → Str → qL0 → qL0 → Option qS129) (t12 : qL0) (t13 : Int) (t14 : Int) (t2 : Int) (t2_1 : Str) (out : Int) (out_1 : Str) (t2_2 : qL0) (out_2 : qL0) : Option qS129 :=
 bif (decide (t14 < t13)) then (
 (idx t12 t14).bind fun c =>
 chk (room c.Cells.length 24) <|
 chk (room (out_2.length + ([c] : qL0).length) 40) <|
 chk (inK .i64 (t14 + 1)) <|
 rec_ t12 t13 (t14 + 1) t2 t2_1 out out_1 t2_2 (out_2 ++ ([c] : qL0))
 ) else (
 some (t2, t2_1, out, out_1, t2_2, out_2)
 )

def sr38_Copy_l1 : Nat → qL0 → Int → Int → Int → Str → Int → Str → qL0 → qL0 → Option qS129
 | 0, _, _, _, _, _, _, _, _, _ => none
 | n_ + 1, t12, t13, t14, t2, t2_1, out, out_1, t2_2, out_2 => sr38_Copy_l1_b (sr38_Copy_l1 n_) t12 t13 t14 t2 t2_1 out out_1 t2_2 out_2

def sr38_Copy_l1_F (n : Nat) (s : qS111) : Option qS129 := sr38_Copy_l1 n s.1 s.2.1 s.2.2.1 s.2.2.2.1 s.2.2.2.2.1 s.2.2.2.2.2.1 s.2.2.2.2.2.2.1 s.2.2.2.2.2.2.2.1 s.2.2.2.2.2.2.2.2
def sr38_Copy_l1_B (rec_ : qS111 → Option qS129) (s : qS111) : Option qS129 := sr38_Copy_l1_b (fun t12 t13 t14 t2 t2_1 out out_1 t2_2 out_2 => rec_ (t12, t13, t14, t2, t2_1, out, out_1, t2_2, out_2)) s.1 s.2.1 s.2.2.1 s.2.2.2.1 s.2.2.2.2.1 s.2.2.2.2.2.1 s.2.2.2.2.2.2.1 s.2.2.2.2.2.2.2.1 s.2.2.2.2.2.2.2.2
theorem sr38_Copy_l1_FB : ∀ n s, sr38_Copy_l1_F (n + 1) s = sr38_Copy_l1_B (sr38_Copy_l1_F n) s := fun _ _ => rfl

def sr38_Copy (t : GaTable) : Option GaTable :=
 (sr38_Copy_l1 big t.Columns (t.Columns.length : Int) (0 : Int) (0 : Int) ([] : Str) t.ID t.Name ([] : qL0) ([] : qL0)).bind fun (x0, x1, x2, x3, x4, x5) => sr38_Copy_k1 x0 x1 x2 x3 x4 x5

/-! ### tablefinder/tablefinderref38.Run -/

def sr38_Run_k1 (t : GaTable) (t4 : Int) (t4_1 : Str) (t4_2 : qL0) : Option (GaTable × Int) :=
 (sr38_Copy t).bind fun q =>
 some (q, 0)

def sr38_Run_l1_b (rec_ : (List GaOp) → Int → Int → GaTable → Int → Str → qL0 → Option qS125) (t18 : (List GaOp)) (t19 : Int) (t20 : Int) (t : GaTable) (t4 : Int) (t4_1 : Str) (t4_2 : qL0) : Option qS125 :=
 bif (decide (t20 < t19)) then (
 (idx t18 t20).bind fun o =>
 (sr38_can t o).bind fun q =>
 bif (!q) then (
 some (.ret ((GaTable.mk 0 ([] : Str) ([] : qL0)), 24))
 ) else (
 (sr38_do t o).bind fun t_1 =>
 chk (inK .i64 (t20 + 1)) <|
 rec_ t18 t19 (t20 + 1) t_1 t4 t4_1 t4_2
 )
 ) else (
 some (.brk (t, t4, t4_1, t4_2))
 )

def sr38_Run_l1 : Nat → (List GaOp) → Int → Int → GaTable → Int → Str → qL0 → Option qS125
 | 0, _, _, _, _, _, _, _ => none
 | n_ + 1, t18, t19, t20, t, t4, t4_1, t4_2 => sr38_Run_l1_b (sr38_Run_l1 n_) t18 t19 t20 t t4 t4_1 t4_2

def sr38_Run_l1_F (n : Nat) (s : qS123) : Option qS125 := sr38_Run_l1 n s.1 s.2.1 s.2.2.1 s.2.2.2.1 s.2.2.2.2.1 s.2.2.2.2.2.1 s.2.2.2.2.2.2
def sr38_Run_l1_B (rec_ : qS123 → Option qS125) (s : qS123) : Option qS125 := sr38_Run_l1_b (fun t18 t19 t20 t t4 t4_1 t4_2 => rec_ (t18, t19, t20, t, t4, t4_1, t4_2)) s.1 s.2.1 s.2.2.1 s.2.2.2.1 s.2.2.2.2.1 s.2.2.2.2.2.1 s.2.2.2.2.2.2
theorem sr38_Run_l1_FB : ∀ n s, sr38_Run_l1_F (n + 1) s = sr38_Run_l1_B (sr38_Run_l1_F n) s := fun _ _ => rfl

def sr38_Run (t : GaTable) (l : (List GaOp)) : Option (GaTable × Int) :=
 bif (decide ((l.length : Int) > 5)) then (
 some ((GaTable.mk 0 ([] : Str) ([] : qL0)), 3)
 ) else (
 (sr03_Valid t).bind fun q =>
 bif (!q) then (
 some ((GaTable.mk 0 ([] : Str) ([] : qL0)), 1)
 ) else (
 (sr38_Run_l1 big l (l.length : Int) (0 : Int) t (0 : Int) ([] : Str) ([] : qL0)).bind fun
 | .ret q_ => some q_
 | .brk (x0, x1, x2, x3) => sr38_Run_k1 x0 x1 x2 x3
 )
 )

/-! ### tablefinder/tablefinderkit.Derived -/

def sk_Derived_k2 (id : Int) (d : Gk_Dice) (t : GaTable) (t6 : Int) (t6_1 : Str) (t6_2 : qL0) : Option (GaTable × Gk_Dice) :=
 (sr38_Copy t).bind fun t_1 =>
 some ((GaTable.mk id t_1.Name t_1.Columns), d)

def sk_Derived_j1 (rec_ : qR161) (id : Int) (k : Int) (d : Gk_Dice) (t : GaTable) (t6 : Int) (t6_1 : Str) (t6_2 : qL0) : Option qS131 :=
 chk (inK .i64 (k - 1)) <|
 rec_ id (k - 1) d t t6 t6_1 t6_2

def sk_Derived_l1_b (rec_ : qR161) (id : Int) (k : Int) (d : Gk_Dice) (t : GaTable) (t6 : Int) (t6_1 : Str) (t6_2 : qL0) : Option qS131 :=
 bif (decide (k > 0)) then (
 (sk_Op d t).bind fun (q, t18) =>
 (sr38_Run t ([q] : (List GaOp))).bind fun (x_, e) =>
 bif (e == 0) then (
 sk_Derived_j1 rec_ id k t18 x_ t6 t6_1 t6_2
 ) else (
 sk_Derived_j1 rec_ id k t18 t t6 t6_1 t6_2
 )
 ) else (
 some (id, d, t, t6, t6_1, t6_2)
 )

def sk_Derived_l1 : Nat → Int → Int → Gk_Dice → GaTable → Int → Str → qL0 → Option qS131
 | 0, _, _, _, _, _, _, _ => none
 | n_ + 1, id, k, d, t, t6, t6_1, t6_2 => sk_Derived_l1_b (sk_Derived_l1 n_) id k d t t6 t6_1 t6_2

def sk_Derived_l1_F (n : Nat) (s : qS126) : Option qS131 := sk_Derived_l1 n s.1 s.2.1 s.2.2.1 s.2.2.2.1 s.2.2.2.2.1 s.2.2.2.2.2.1 s.2.2.2.2.2.2
def sk_Derived_l1_B (rec_ : qS126 → Option qS131) (s : qS126) : Option qS131 := sk_Derived_l1_b (fun id k d t t6 t6_1 t6_2 => rec_ (id, k, d, t, t6, t6_1, t6_2)) s.1 s.2.1 s.2.2.1 s.2.2.2.1 s.2.2.2.2.1 s.2.2.2.2.2.1 s.2.2.2.2.2.2
theorem sk_Derived_l1_FB : ∀ n s, sk_Derived_l1_F (n + 1) s = sk_Derived_l1_B (sk_Derived_l1_F n) s := fun _ _ => rfl

def sk_Derived (d : Gk_Dice) (t : GaTable) (id : Int) : Option (GaTable × Gk_Dice) :=
 (sk_Dice_Next d 3).bind fun (k, t10) =>
 (sk_Derived_l1 big id k t10 t (0 : Int) ([] : Str) ([] : qL0)).bind fun (x0, x1, x2, x3, x4, x5) => sk_Derived_k2 x0 x1 x2 x3 x4 x5

/-! ### tablefinder/tablefinderkit.Tables -/

def sk_Tables_k3 (d : Gk_Dice) (l : qL1) : Option (qL1 × Gk_Dice) :=
 some (l, d)

def sk_Tables_j2 (rec_ : qR167) (id : Int) (k : Int) (d : Gk_Dice) (l : qL1) (t : GaTable) : Option qS145 :=
 chk (room (l.length + ([t] : qL1).length) 48) <|
 chk (inK .i64 (k - 1)) <|
 rec_ id (k - 1) d (l ++ ([t] : qL1))

def sk_Tables_j1 (rec_ : qR167) (id : Int) (k : Int) (t34 : Bool) (d : Gk_Dice) (l : qL1) (t : GaTable) : Option qS145 :=
 bif t34 then (
 (sk_Dice_Next d (l.length : Int)).bind fun (q, t37) =>
 chk (inR q (l.length : Int)) <|
 (l[(q).toNat]?).bind fun l_e =>
 (sk_Derived t37 l_e id).bind fun (t_1, t35) =>
 sk_Tables_j2 rec_ id k t35 l t_1
 ) else (
 sk_Tables_j2 rec_ id k d l t
 )

def sk_Tables_l1_b (rec_ : qR167) (id : Int) (k : Int) (d : Gk_Dice) (l : qL1) : Option qS145 :=
 bif (decide (k > 0)) then (
 (sk_Dice_Next d 2).bind fun (q, t20) =>
 chk (inK .i64 (1 + q)) <|
 chk (inK .i64 (id + (1 + q))) <|
 (sk_Table t20 (id + (1 + q))).bind fun (t, t24) =>
 bif (decide ((l.length : Int) > 0)) then (
 (sk_Dice_Next t24 4).bind fun (q_1, t31) =>
 sk_Tables_j1 rec_ (id + (1 + q)) k (q_1 == 0) t31 l t
 ) else (
 sk_Tables_j1 rec_ (id + (1 + q)) k false t24 l t
 )
 ) else (
 some (d, l)
 )

def sk_Tables_l1 : Nat → Int → Int → Gk_Dice → qL1 → Option qS145
 | 0, _, _, _, _ => none
 | n_ + 1, id, k, d, l => sk_Tables_l1_b (sk_Tables_l1 n_) id k d l

def sk_Tables_l1_F (n : Nat) (s : qS140) : Option qS145 := sk_Tables_l1 n s.1 s.2.1 s.2.2.1 s.2.2.2
def sk_Tables_l1_B (rec_ : qS140 → Option qS145) (s : qS140) : Option qS145 := sk_Tables_l1_b (fun id k d l => rec_ (id, k, d, l)) s.1 s.2.1 s.2.2.1 s.2.2.2
theorem sk_Tables_l1_FB : ∀ n s, sk_Tables_l1_F (n + 1) s = sk_Tables_l1_B (sk_Tables_l1_F n) s := fun _ _ => rfl

def sk_Tables (d : Gk_Dice) (most : Int) : Option (qL1 × Gk_Dice) :=
 (sk_Dice_Next d 2).bind fun (id, t9) =>
 (sk_Dice_Next t9 most).bind fun (q, t11) =>
 chk (inK .i64 (1 + q)) <|
 (sk_Tables_l1 big id (1 + q) t11 ([] : qL1)).bind fun (x0, x1) => sk_Tables_k3 x0 x1

/-! ### tablefinder/tablefinderref42.Valid -/

def sr42_Valid_k2 (l : qL2) : Option Bool :=
 some (decide ((l.length : Int) ≤ 64))

def sr42_Valid_j1 (rec_ : qR156) (l : qL2) (t5 : qL2) (t6 : Int) (t7 : Int) (t40 : Bool) : Option (Out qL2 Bool) :=
 bif t40 then (
 some (.ret false)
 ) else (
 chk (inK .i64 (t7 + 1)) <|
 rec_ l t5 t6 (t7 + 1)
 )

def sr42_Valid_l1_b (rec_ : qR156) (l : qL2) (t5 : qL2) (t6 : Int) (t7 : Int) : Option (Out qL2 Bool) :=
 bif (decide (t7 < t6)) then (
 (idx t5 t7).bind fun p =>
 bif (decide ((p.User.length : Int) < 1)) then (
 sr42_Valid_j1 rec_ l t5 t6 t7 true
 ) else (
 bif (decide ((p.User.length : Int) > 40)) then (
 sr42_Valid_j1 rec_ l t5 t6 t7 true
 ) else (
 bif (decide (p.Table < 0)) then (
 sr42_Valid_j1 rec_ l t5 t6 t7 true
 ) else (
 bif (decide (p.Table > 1073741824)) then (
 sr42_Valid_j1 rec_ l t5 t6 t7 true
 ) else (
 bif (decide (p.Column < (-1))) then (
 sr42_Valid_j1 rec_ l t5 t6 t7 true
 ) else (
 sr42_Valid_j1 rec_ l t5 t6 t7 (decide (p.Column ≥ 64))
 )
 )
 )
 )
 )
 ) else (
 some (.brk l)
 )

def sr42_Valid_l1 : Nat → qL2 → qL2 → Int → Int → Option (Out qL2 Bool)
 | 0, _, _, _, _ => none
 | n_ + 1, l, t5, t6, t7 => sr42_Valid_l1_b (sr42_Valid_l1 n_) l t5 t6 t7

def sr42_Valid_l1_F (n : Nat) (s : qS130) : Option (Out qL2 Bool) := sr42_Valid_l1 n s.1 s.2.1 s.2.2.1 s.2.2.2
def sr42_Valid_l1_B (rec_ : qS130 → Option (Out qL2 Bool)) (s : qS130) : Option (Out qL2 Bool) := sr42_Valid_l1_b (fun l t5 t6 t7 => rec_ (l, t5, t6, t7)) s.1 s.2.1 s.2.2.1 s.2.2.2
theorem sr42_Valid_l1_FB : ∀ n s, sr42_Valid_l1_F (n + 1) s = sr42_Valid_l1_B (sr42_Valid_l1_F n) s := fun _ _ => rfl

def sr42_Valid (l : qL2) : Option Bool :=
 (sr42_Valid_l1 big l l (l.length : Int) (0 : Int)).bind fun
 | .ret q_ => some q_
 | .brk x0 => sr42_Valid_k2 x0

/-! ### tablefinder/tablefinderref42.May -/

def sr42_May_k3 (out : Bool) : Option Bool :=
 some out

def sr42_May_j2 (rec_ : qR163) (user : Str) (out : Bool) (t10 : qL2) (t11 : Int) (t12 : Int) (r_ : GaRef) : Option Bool :=
 chk (inK .i64 (t12 + 1)) <|
 rec_ user out t10 t11 (t12 + 1) r_

def sr42_May_j1 (rec_ : qR163) (user : Str) (out : Bool) (t10 : qL2) (t11 : Int) (t12 : Int) (t43 : Bool) (r_ : GaRef) (p : GaPermission) : Option Bool :=
 bif t43 then (
 sr42_May_j2 rec_ user p.Allow t10 t11 t12 r_
 ) else (
 sr42_May_j2 rec_ user out t10 t11 t12 r_
 )

def sr42_May_l1_b (rec_ : qR163) (user : Str) (out : Bool) (t10 : qL2) (t11 : Int) (t12 : Int) (r_ : GaRef) : Option Bool :=
 bif (decide (t12 < t11)) then (
 (idx t10 t12).bind fun p =>
 bif (p.User == user) then (
 bif (p.Table == 0) then (
 bif (p.Column == (-1)) then (
 sr42_May_j1 rec_ user out t10 t11 t12 true r_ p
 ) else (
 sr42_May_j1 rec_ user out t10 t11 t12 (p.Column == r_.Column) r_ p
 )
 ) else (
 bif (p.Table == r_.Table) then (
 bif (p.Column == (-1)) then (
 sr42_May_j1 rec_ user out t10 t11 t12 true r_ p
 ) else (
 sr42_May_j1 rec_ user out t10 t11 t12 (p.Column == r_.Column) r_ p
 )
 ) else (
 sr42_May_j1 rec_ user out t10 t11 t12 false r_ p
 )
 )
 ) else (
 sr42_May_j1 rec_ user out t10 t11 t12 false r_ p
 )
 ) else (
 some out
 )

def sr42_May_l1 : Nat → Str → Bool → qL2 → Int → Int → GaRef → Option Bool
 | 0, _, _, _, _, _, _ => none
 | n_ + 1, user, out, t10, t11, t12, r_ => sr42_May_l1_b (sr42_May_l1 n_) user out t10 t11 t12 r_

def sr42_May_l1_F (n : Nat) (s : qS132) : Option Bool := sr42_May_l1 n s.1 s.2.1 s.2.2.1 s.2.2.2.1 s.2.2.2.2.1 s.2.2.2.2.2
def sr42_May_l1_B (rec_ : qS132 → Option Bool) (s : qS132) : Option Bool := sr42_May_l1_b (fun user out t10 t11 t12 r_ => rec_ (user, out, t10, t11, t12, r_)) s.1 s.2.1 s.2.2.1 s.2.2.2.1 s.2.2.2.2.1 s.2.2.2.2.2
theorem sr42_May_l1_FB : ∀ n s, sr42_May_l1_F (n + 1) s = sr42_May_l1_B (sr42_May_l1_F n) s := fun _ _ => rfl

def sr42_May (l : qL2) (user : Str) (r_ : GaRef) : Option Bool :=
 (sr42_May_l1 big user false l (l.length : Int) (0 : Int) r_).bind fun x0 => sr42_May_k3 x0

/-! ### tablefinder/tablefinderref42.Visible -/

def sr42_Visible_k5 (out : qL1) : Option qL1 :=
 some out

def sr42_Visible_j4 (rec_ : qR155) (l : qL2) (user : Str) (t15 : qL1) (t16 : Int) (t17 : Int) (out : qL1) : Option qL1 :=
 chk (inK .i64 (t17 + 1)) <|
 rec_ l user t15 t16 (t17 + 1) out

def sr42_Visible_k3 (rec_ : qR155) (l : qL2) (user : Str) (any : Bool) (t15 : qL1) (t16 : Int) (t17 : Int) (out : qL1) (x_ : Int) (x__1 : Str) (x__2 : qL0) : Option qL1 :=
 bif any then (
 chk (room (out.length + ([(GaTable.mk x_ x__1 x__2)] : qL1).length) 48) <|
 sr42_Visible_j4 rec_ l user t15 t16 t17 (out ++ ([(GaTable.mk x_ x__1 x__2)] : qL1))
 ) else (
 sr42_Visible_j4 rec_ l user t15 t16 t17 out
 )

def sr42_Visible_j2 (rec_ : qR147) (l : qL2) (user : Str) (any : Bool) (t15 : qL1) (t16 : Int) (t17 : Int) (t27 : qL0) (t28 : Int) (i : Int) (out : qL1) (t : GaTable) (x_ : Int) (x__1 : Str) (x__2 : qL0) : Option qS105 :=
 chk (inK .i64 (i + 1)) <|
 rec_ l user any t15 t16 t17 t27 t28 (i + 1) out t x_ x__1 x__2

def sr42_Visible_k1 (rec_ : qR147) (l : qL2) (user : Str) (any : Bool) (t15 : qL1) (t16 : Int) (t17 : Int) (t27 : qL0) (t28 : Int) (i : Int) (out : qL1) (t : GaTable) (x_ : Int) (x__1 : Str) (y : Str) (x__2 : qL0) (y_1 : qL4) : Option qS105 :=
 chk (room (x__2.length + ([(GaColumn.mk y y_1)] : qL0).length) 40) <|
 sr42_Visible_j2 rec_ l user any t15 t16 t17 t27 t28 i out t x_ x__1 (x__2 ++ ([(GaColumn.mk y y_1)] : qL0))

def sr42_Visible_l3_b (rec_ : qL2 → Str → Bool → qL1 → Int → Int → qL0 → Int → Int → Int → Int → qL1 → GaTable → Int → Str → Str → qL0 → qL4 → Option qS96) (l : qL2) (user : Str) (any : Bool) (t15 : qL1) (t16 : Int) (t17 : Int) (t27 : qL0) (t28 : Int) (i : Int) (t49 : Int) (t50 : Int) (out : qL1) (t : GaTable) (x_ : Int) (x__1 : Str) (y : Str) (x__2 : qL0) (y_1 : qL4) : Option qS96 :=
 bif (decide (t50 < t49)) then (
 chk (room (y_1.length + ([(GaCell.mk true ([] : Str))] : qL4).length) 24) <|
 chk (inK .i64 (t50 + 1)) <|
 rec_ l user any t15 t16 t17 t27 t28 i t49 (t50 + 1) out t x_ x__1 y x__2 (y_1 ++ ([(GaCell.mk true ([] : Str))] : qL4))
 ) else (
 some (l, user, any, t15, t16, t17, t27, t28, i, out, t, x_, x__1, y, x__2, y_1)
 )

def sr42_Visible_l3 : Nat → qL2 → Str → Bool → qL1 → Int → Int → qL0 → Int → Int → Int → Int → qL1 → GaTable → Int → Str → Str → qL0 → qL4 → Option qS96
 | 0, _, _, _, _, _, _, _, _, _, _, _, _, _, _, _, _, _, _ => none
 | n_ + 1, l, user, any, t15, t16, t17, t27, t28, i, t49, t50, out, t, x_, x__1, y, x__2, y_1 => sr42_Visible_l3_b (sr42_Visible_l3 n_) l user any t15 t16 t17 t27 t28 i t49 t50 out t x_ x__1 y x__2 y_1

def sr42_Visible_l3_F (n : Nat) (s : qS94) : Option qS96 := sr42_Visible_l3 n s.1 s.2.1 s.2.2.1 s.2.2.2.1 s.2.2.2.2.1 s.2.2.2.2.2.1 s.2.2.2.2.2.2.1 s.2.2.2.2.2.2.2.1 s.2.2.2.2.2.2.2.2.1 s.2.2.2.2.2.2.2.2.2.1 s.2.2.2.2.2.2.2.2.2.2.1 s.2.2.2.2.2.2.2.2.2.2.2.1 s.2.2.2.2.2.2.2.2.2.2.2.2.1 s.2.2.2.2.2.2.2.2.2.2.2.2.2.1 s.2.2.2.2.2.2.2.2.2.2.2.2.2.2.1 s.2.2.2.2.2.2.2.2.2.2.2.2.2.2.2.1 s.2.2.2.2.2.2.2.2.2.2.2.2.2.2.2.2.1 s.2.2.2.2.2.2.2.2.2.2.2.2.2.2.2.2.2
def sr42_Visible_l3_B (rec_ : qS94 → Option qS96) (s : qS94) : Option qS96 := sr42_Visible_l3_b (fun l user any t15 t16 t17 t27 t28 i t49 t50 out t x_ x__1 y x__2 y_1 => rec_ (l, user, any, t15, t16, t17, t27, t28, i, t49, t50, out, t, x_, x__1, y, x__2, y_1)) s.1 s.2.1 s.2.2.1 s.2.2.2.1 s.2.2.2.2.1 s.2.2.2.2.2.1 s.2.2.2.2.2.2.1 s.2.2.2.2.2.2.2.1 s.2.2.2.2.2.2.2.2.1 s.2.2.2.2.2.2.2.2.2.1 s.2.2.2.2.2.2.2.2.2.2.1 s.2.2.2.2.2.2.2.2.2.2.2.1 s.2.2.2.2.2.2.2.2.2.2.2.2.1 s.2.2.2.2.2.2.2.2.2.2.2.2.2.1 s.2.2.2.2.2.2.2.2.2.2.2.2.2.2.1 s.2.2.2.2.2.2.2.2.2.2.2.2.2.2.2.1 s.2.2.2.2.2.2.2.2.2.2.2.2.2.2.2.2.1 s.2.2.2.2.2.2.2.2.2.2.2.2.2.2.2.2.2
theorem sr42_Visible_l3_FB : ∀ n s, sr42_Visible_l3_F (n + 1) s = sr42_Visible_l3_B (sr42_Visible_l3_F n) s := fun _ _ => rfl

def sr42_Visible_l2_b (rec_ : qR147) (l : qL2) (user : Str) (any : Bool) (t15 : qL1) (t16 : Int) (t17 : Int) (t27 : qL0) (t28 : Int) (i : Int) (out : qL1) (t : GaTable) (x_ : Int) (x__1 : Str) (x__2 : qL0) : Option qS105 :=
 bif (decide (i < t28)) then (
 (idx t27 i).bind fun c =>
 chk (room c.Cells.length 24) <|
 (sr42_May l user (GaRef.mk t.ID i)).bind fun q =>
 bif q then (
 chk (room (x__2.length + ([c] : qL0).length) 40) <|
 sr42_Visible_j2 rec_ l user true t15 t16 t17 t27 t28 i out t x_ x__1 (x__2 ++ ([c] : qL0))
 ) else (
 (sr03_Rows t).bind fun q_1 =>
 (sr42_Visible_l3 big l user any t15 t16 t17 t27 t28 i q_1 (0 : Int) out t x_ x__1 ([] : Str) x__2 ([] : qL4)).bind fun (x0, x1, x2, x3, x4, x5, x6, x7, x8, x9, x10, x11, x12, x13, x14, x15) => sr42_Visible_k1 rec_ x0 x1 x2 x3 x4 x5 x6 x7 x8 x9 x10 x11 x12 x13 x14 x15
 )
 ) else (
 some (l, user, any, t15, t16, t17, out, x_, x__1, x__2)
 )

def sr42_Visible_l2 : Nat → qL2 → Str → Bool → qL1 → Int → Int → qL0 → Int → Int → qL1 → GaTable → Int → Str → qL0 → Option qS105
 | 0, _, _, _, _, _, _, _, _, _, _, _, _, _, _ => none
 | n_ + 1, l, user, any, t15, t16, t17, t27, t28, i, out, t, x_, x__1, x__2 => sr42_Visible_l2_b (sr42_Visible_l2 n_) l user any t15 t16 t17 t27 t28 i out t x_ x__1 x__2

def sr42_Visible_l2_F (n : Nat) (s : qS99) : Option qS105 := sr42_Visible_l2 n s.1 s.2.1 s.2.2.1 s.2.2.2.1 s.2.2.2.2.1 s.2.2.2.2.2.1 s.2.2.2.2.2.2.1 s.2.2.2.2.2.2.2.1 s.2.2.2.2.2.2.2.2.1 s.2.2.2.2.2.2.2.2.2.1 s.2.2.2.2.2.2.2.2.2.2.1 s.2.2.2.2.2.2.2.2.2.2.2.1 s.2.2.2.2.2.2.2.2.2.2.2.2.1 s.2.2.2.2.2.2.2.2.2.2.2.2.2
def sr42_Visible_l2_B (rec_ : qS99 → Option qS105) (s : qS99) : Option qS105 := sr42_Visible_l2_b (fun l user any t15 t16 t17 t27 t28 i out t x_ x__1 x__2 => rec_ (l, user, any, t15, t16, t17, t27, t28, i, out, t, x_, x__1, x__2)) s.1 s.2.1 s.2.2.1 s.2.2.2.1 s.2.2.2.2.1 s.2.2.2.2.2.1 s.2.2.2.2.2.2.1 s.2.2.2.2.2.2.2.1 s.2.2.2.2.2.2.2.2.1 s.2.2.2.2.2.2.2.2.2.1 s.2.2.2.2.2.2.2.2.2.2.1 s.2.2.2.2.2.2.2.2.2.2.2.1 s.2.2.2.2.2.2.2.2.2.2.2.2.1 s.2.2.2.2.2.2.2.2.2.2.2.2.2
theorem sr42_Visible_l2_FB : ∀ n s, sr42_Visible_l2_F (n + 1) s = sr42_Visible_l2_B (sr42_Visible_l2_F n) s := fun _ _ => rfl

def sr42_Visible_l1_b (rec_ : qR155) (l : qL2) (user : Str) (t15 : qL1) (t16 : Int) (t17 : Int) (out : qL1) : Option qL1 :=
 bif (decide (t17 < t16)) then (
 (idx t15 t17).bind fun t =>
 (sr42_Visible_l2 big l user false t15 t16 t17 t.Columns (t.Columns.length : Int) (0 : Int) out t t.ID t.Name ([] : qL0)).bind fun (x0, x1, x2, x3, x4, x5, x6, x7, x8, x9) => sr42_Visible_k3 rec_ x0 x1 x2 x3 x4 x5 x6 x7 x8 x9
 ) else (
 some out
 )

def sr42_Visible_l1 : Nat → qL2 → Str → qL1 → Int → Int → qL1 → Option qL1
 | 0, _, _, _, _, _, _ => none
 | n_ + 1, l, user, t15, t16, t17, out => sr42_Visible_l1_b (sr42_Visible_l1 n_) l user t15 t16 t17 out

def sr42_Visible_l1_F (n : Nat) (s : qS118) : Option qL1 := sr42_Visible_l1 n s.1 s.2.1 s.2.2.1 s.2.2.2.1 s.2.2.2.2.1 s.2.2.2.2.2
def sr42_Visible_l1_B (rec_ : qS118 → Option qL1) (s : qS118) : Option qL1 := sr42_Visible_l1_b (fun l user t15 t16 t17 out => rec_ (l, user, t15, t16, t17, out)) s.1 s.2.1 s.2.2.1 s.2.2.2.1 s.2.2.2.2.1 s.2.2.2.2.2
theorem sr42_Visible_l1_FB : ∀ n s, sr42_Visible_l1_F (n + 1) s = sr42_Visible_l1_B (sr42_Visible_l1_F n) s := fun _ _ => rfl

def sr42_Visible (l : qL2) (user : Str) (tables : qL1) : Option qL1 :=
 (sr42_Visible_l1 big l user tables (tables.length : Int) (0 : Int) ([] : qL1)).bind fun x0 => sr42_Visible_k5 x0

/-! ### tablefinder/tablefinderref03.SameCells -/

def sr03_SameCells_k2  : Option Bool :=
 some true

def sr03_SameCells_l1_b (rec_ : Int → Int → GaColumn → GaColumn → Option (Out Unit Bool)) (t22 : Int) (i : Int) (a : GaColumn) (b : GaColumn) : Option (Out Unit Bool) :=
 bif (decide (i < t22)) then (
 (idx a.Cells i).bind fun Cell =>
 (idx b.Cells i).bind fun Cell_1 =>
 bif (!(Cell.Null == Cell_1.Null && (Cell.Text == Cell_1.Text && true))) then (
 some (.ret false)
 ) else (
 chk (inK .i64 (i + 1)) <|
 rec_ t22 (i + 1) a b
 )
 ) else (
 some (.brk ())
 )

def sr03_SameCells_l1 : Nat → Int → Int → GaColumn → GaColumn → Option (Out Unit Bool)
 | 0, _, _, _, _ => none
 | n_ + 1, t22, i, a, b => sr03_SameCells_l1_b (sr03_SameCells_l1 n_) t22 i a b

def sr03_SameCells_l1_F (n : Nat) (s : qS142) : Option (Out Unit Bool) := sr03_SameCells_l1 n s.1 s.2.1 s.2.2.1 s.2.2.2
def sr03_SameCells_l1_B (rec_ : qS142 → Option (Out Unit Bool)) (s : qS142) : Option (Out Unit Bool) := sr03_SameCells_l1_b (fun t22 i a b => rec_ (t22, i, a, b)) s.1 s.2.1 s.2.2.1 s.2.2.2
theorem sr03_SameCells_l1_FB : ∀ n s, sr03_SameCells_l1_F (n + 1) s = sr03_SameCells_l1_B (sr03_SameCells_l1_F n) s := fun _ _ => rfl

def sr03_SameCells_j1 (t19 : Bool) (a : GaColumn) (b : GaColumn) : Option Bool :=
 bif t19 then (
 some false
 ) else (
 (sr03_SameCells_l1 big (a.Cells.length : Int) (0 : Int) a b).bind fun
 | .ret q_ => some q_
 | .brk () => sr03_SameCells_k2
 )

def sr03_SameCells (a : GaColumn) (b : GaColumn) : Option Bool :=
 bif (!(a.Name == b.Name)) then (
 sr03_SameCells_j1 true a b
 ) else (
 sr03_SameCells_j1 ((a.Cells.length : Int) != (b.Cells.length : Int)) a b
 )

/-! ### tablefinder/tablefinderref03.Same -/

def sr03_Same_k2  : Option Bool :=
 some true

def sr03_Same_l1_b (rec_ : Int → Int → GaTable → GaTable → Option (Out Unit Bool)) (t29 : Int) (i : Int) (a : GaTable) (b : GaTable) : Option (Out Unit Bool) :=
 bif (decide (i < t29)) then (
 (idx a.Columns i).bind fun Column =>
 (idx b.Columns i).bind fun Column_1 =>
 (sr03_SameCells Column Column_1).bind fun q =>
 bif (!q) then (
 some (.ret false)
 ) else (
 chk (inK .i64 (i + 1)) <|
 rec_ t29 (i + 1) a b
 )
 ) else (
 some (.brk ())
 )

def sr03_Same_l1 : Nat → Int → Int → GaTable → GaTable → Option (Out Unit Bool)
 | 0, _, _, _, _ => none
 | n_ + 1, t29, i, a, b => sr03_Same_l1_b (sr03_Same_l1 n_) t29 i a b

def sr03_Same_l1_F (n : Nat) (s : qS144) : Option (Out Unit Bool) := sr03_Same_l1 n s.1 s.2.1 s.2.2.1 s.2.2.2
def sr03_Same_l1_B (rec_ : qS144 → Option (Out Unit Bool)) (s : qS144) : Option (Out Unit Bool) := sr03_Same_l1_b (fun t29 i a b => rec_ (t29, i, a, b)) s.1 s.2.1 s.2.2.1 s.2.2.2
theorem sr03_Same_l1_FB : ∀ n s, sr03_Same_l1_F (n + 1) s = sr03_Same_l1_B (sr03_Same_l1_F n) s := fun _ _ => rfl

def sr03_Same_j1 (t26 : Bool) (a : GaTable) (b : GaTable) : Option Bool :=
 bif t26 then (
 some false
 ) else (
 (sr03_Same_l1 big (a.Columns.length : Int) (0 : Int) a b).bind fun
 | .ret q_ => some q_
 | .brk () => sr03_Same_k2
 )

def sr03_Same (a : GaTable) (b : GaTable) : Option Bool :=
 bif (a.ID != b.ID) then (
 sr03_Same_j1 true a b
 ) else (
 bif (!(a.Name == b.Name)) then (
 sr03_Same_j1 true a b
 ) else (
 sr03_Same_j1 ((a.Columns.length : Int) != (b.Columns.length : Int)) a b
 )
 )

/-! ### tablefinder/tablefinderlaw42.same -/

def sl42_same_k1  : Option Bool :=
 some true

def sl42_same_l1_b (rec_ : qR162) (b : qL1) (t12 : qL1) (t13 : Int) (i : Int) : Option (Out Unit Bool) :=
 bif (decide (i < t13)) then (
 (idx t12 i).bind fun t =>
 (idx b i).bind fun b_e =>
 (sr03_Same t b_e).bind fun q =>
 bif (!q) then (
 some (.ret false)
 ) else (
 chk (inK .i64 (i + 1)) <|
 rec_ b t12 t13 (i + 1)
 )
 ) else (
 some (.brk ())
 )

def sl42_same_l1 : Nat → qL1 → qL1 → Int → Int → Option (Out Unit Bool)
 | 0, _, _, _, _ => none
 | n_ + 1, b, t12, t13, i => sl42_same_l1_b (sl42_same_l1 n_) b t12 t13 i

def sl42_same_l1_F (n : Nat) (s : qS136) : Option (Out Unit Bool) := sl42_same_l1 n s.1 s.2.1 s.2.2.1 s.2.2.2
def sl42_same_l1_B (rec_ : qS136 → Option (Out Unit Bool)) (s : qS136) : Option (Out Unit Bool) := sl42_same_l1_b (fun b t12 t13 i => rec_ (b, t12, t13, i)) s.1 s.2.1 s.2.2.1 s.2.2.2
theorem sl42_same_l1_FB : ∀ n s, sl42_same_l1_F (n + 1) s = sl42_same_l1_B (sl42_same_l1_F n) s := fun _ _ => rfl

def sl42_same (a : qL1) (b : qL1) : Option Bool :=
 bif ((a.length : Int) != (b.length : Int)) then (
 some false
 ) else (
 (sl42_same_l1 big b a (a.length : Int) (0 : Int)).bind fun
 | .ret q_ => some q_
 | .brk () => sl42_same_k1
 )

/-! ### tablefinder/tablefinderlaw42.AccessRules -/

def sl42_AccessRules_k7  : Option Bool :=
 (sl42_awake).bind fun q =>
 some q

def sl42_AccessRules_k6 (rec_ : qR152) (user : Str) (at_ : Int) (by_ : Int) (tables : qL1) (t102 : Int) (t103 : Int) (r_ : GaRef) (t101 : (List qL2)) : Option (Out Unit Bool) :=
 chk (inK .i64 (t103 + 1)) <|
 rec_ user at_ by_ tables t102 (t103 + 1) r_ t101

def sl42_AccessRules_k5 (rec_ : qR149) (user : Str) (at_ : Int) (by_ : Int) (tables : qL1) (m : qL2) (u : Str) (t102 : Int) (t103 : Int) (t114 : Int) (t115 : Int) (r_ : GaRef) (t101 : (List qL2)) (t113 : (List Str)) : Option qS109 :=
 (s_access_Visible m u tables).bind fun q =>
 (sr42_Visible m u tables).bind fun q_1 =>
 (sl42_same q q_1).bind fun q_2 =>
 bif (!q_2) then (
 some (.ret false)
 ) else (
 chk (inK .i64 (t115 + 1)) <|
 rec_ user at_ by_ tables m t102 t103 t114 (t115 + 1) r_ t101 t113
 )

def sl42_AccessRules_l4_b (rec_ : Str → Int → Int → qL1 → qL2 → Str → Int → Int → Int → Int → Int → Int → GaRef → (List qL2) → (List Str) → (List GaRef) → Option qS100) (user : Str) (at_ : Int) (by_ : Int) (tables : qL1) (m : qL2) (u : Str) (t102 : Int) (t103 : Int) (t114 : Int) (t115 : Int) (t126 : Int) (t127 : Int) (r_ : GaRef) (t101 : (List qL2)) (t113 : (List Str)) (t125 : (List GaRef)) : Option qS100 :=
 bif (decide (t127 < t126)) then (
 chk (inR t127 (t125.length : Int)) <|
 (t125[(t127).toNat]?).bind fun y =>
 (s_access_May m u y).bind fun q =>
 (sr42_May m u y).bind fun q_1 =>
 bif (!(q == q_1)) then (
 some (.ret false)
 ) else (
 chk (inK .i64 (t127 + 1)) <|
 rec_ user at_ by_ tables m u t102 t103 t114 t115 t126 (t127 + 1) r_ t101 t113 t125
 )
 ) else (
 some (.brk (user, at_, by_, tables, m, u, t102, t103, t114, t115, r_, t101, t113))
 )

def sl42_AccessRules_l4 : Nat → Str → Int → Int → qL1 → qL2 → Str → Int → Int → Int → Int → Int → Int → GaRef → (List qL2) → (List Str) → (List GaRef) → Option qS100
 | 0, _, _, _, _, _, _, _, _, _, _, _, _, _, _, _, _ => none
 | n_ + 1, user, at_, by_, tables, m, u, t102, t103, t114, t115, t126, t127, r_, t101, t113, t125 => sl42_AccessRules_l4_b (sl42_AccessRules_l4 n_) user at_ by_ tables m u t102 t103 t114 t115 t126 t127 r_ t101 t113 t125

def sl42_AccessRules_l3_b (rec_ : qR149) (user : Str) (at_ : Int) (by_ : Int) (tables : qL1) (m : qL2) (t102 : Int) (t103 : Int) (t114 : Int) (t115 : Int) (r_ : GaRef) (t101 : (List qL2)) (t113 : (List Str)) : Option qS109 :=
 bif (decide (t115 < t114)) then (
 chk (inR t115 (t113.length : Int)) <|
 (t113[(t115).toNat]?).bind fun u =>
 (sk_Mod by_ 6).bind fun q =>
 (sk_Mod at_ 4).bind fun q_1 =>
 (sl42_AccessRules_l4 big user at_ by_ tables m u t102 t103 t114 t115 (([r_, (GaRef.mk q q_1)] : (List GaRef)).length : Int) (0 : Int) r_ t101 t113 ([r_, (GaRef.mk q q_1)] : (List GaRef))).bind fun
 | .ret q_ => some (.ret q_)
 | .brk (x0, x1, x2, x3, x4, x5, x6, x7, x8, x9, x10, x11, x12) => sl42_AccessRules_k5 rec_ x0 x1 x2 x3 x4 x5 x6 x7 x8 x9 x10 x11 x12
 ) else (
 some (.brk (user, at_, by_, tables, t102, t103, r_, t101))
 )

def sl42_AccessRules_l3 : Nat → Str → Int → Int → qL1 → qL2 → Int → Int → Int → Int → GaRef → (List qL2) → (List Str) → Option qS109
 | 0, _, _, _, _, _, _, _, _, _, _, _, _ => none
 | n_ + 1, user, at_, by_, tables, m, t102, t103, t114, t115, r_, t101, t113 => sl42_AccessRules_l3_b (sl42_AccessRules_l3 n_) user at_ by_ tables m t102 t103 t114 t115 r_ t101 t113

def sl42_AccessRules_l2_b (rec_ : qR152) (user : Str) (at_ : Int) (by_ : Int) (tables : qL1) (t102 : Int) (t103 : Int) (r_ : GaRef) (t101 : (List qL2)) : Option (Out Unit Bool) :=
 bif (decide (t103 < t102)) then (
 chk (inR t103 (t101.length : Int)) <|
 (t101[(t103).toNat]?).bind fun m =>
 (s_access_Valid m).bind fun q =>
 (sr42_Valid m).bind fun q_1 =>
 bif (!(q == q_1)) then (
 some (.ret false)
 ) else (
 (sl42_AccessRules_l3 big user at_ by_ tables m t102 t103 (([([117] : Str), ([118] : Str), user] : (List Str)).length : Int) (0 : Int) r_ t101 ([([117] : Str), ([118] : Str), user] : (List Str))).bind fun
 | .ret q_ => some (.ret q_)
 | .brk (x0, x1, x2, x3, x4, x5, x6, x7) => sl42_AccessRules_k6 rec_ x0 x1 x2 x3 x4 x5 x6 x7
 )
 ) else (
 some (.brk ())
 )

def sl42_AccessRules_l2 : Nat → Str → Int → Int → qL1 → Int → Int → GaRef → (List qL2) → Option (Out Unit Bool)
 | 0, _, _, _, _, _, _, _, _ => none
 | n_ + 1, user, at_, by_, tables, t102, t103, r_, t101 => sl42_AccessRules_l2_b (sl42_AccessRules_l2 n_) user at_ by_ tables t102 t103 r_ t101

def sl42_AccessRules_j4 (raw : qL2) (user : Str) (at_ : Int) (by_ : Int) (r_ : GaRef) (l : qL2) (tables : qL1) : Option Bool :=
 (sl42_AccessRules_l2 big user at_ by_ tables (([l, raw] : (List qL2)).length : Int) (0 : Int) r_ ([l, raw] : (List qL2))).bind fun
 | .ret q_ => some q_
 | .brk () => sl42_AccessRules_k7

def sl42_AccessRules_j3 (raw : qL2) (user : Str) (at_ : Int) (by_ : Int) (r_ : GaRef) (d : Gk_Dice) (l : qL2) : Option Bool :=
 (sk_Tables d 4).bind fun (tables, t97) =>
 sl42_AccessRules_j4 raw user at_ by_ r_ l tables

def sl42_AccessRules_k2 (raw : qL2) (user : Str) (at_ : Int) (by_ : Int) (r_ : GaRef) (d : Gk_Dice) (l : qL2) : Option Bool :=
 (sk_Tables d 4).bind fun (tables, t97) =>
 sl42_AccessRules_j4 raw user at_ by_ r_ l tables

def sl42_AccessRules_l1_b (rec_ : qL2 → Str → Int → Int → GaRef → Gk_Dice → qL2 → Option qS114) (raw : qL2) (user : Str) (at_ : Int) (by_ : Int) (r_ : GaRef) (d : Gk_Dice) (l : qL2) : Option qS114 :=
 (sk_Mod by_ 2).bind fun q =>
 chk (inK .i64 (64 + q)) <|
 bif (decide ((l.length : Int) < (64 + q))) then (
 chk (inR 0 (l.length : Int)) <|
 (l[((0 : Int)).toNat]?).bind fun l_e =>
 chk (room (l.length + ([l_e] : qL2).length) 40) <|
 rec_ raw user at_ by_ r_ d (l ++ ([l_e] : qL2))
 ) else (
 some (raw, user, at_, by_, r_, d, l)
 )

def sl42_AccessRules_l1 : Nat → qL2 → Str → Int → Int → GaRef → Gk_Dice → qL2 → Option qS114
 | 0, _, _, _, _, _, _, _ => none
 | n_ + 1, raw, user, at_, by_, r_, d, l => sl42_AccessRules_l1_b (sl42_AccessRules_l1 n_) raw user at_ by_ r_ d l

def sl42_AccessRules_j1 (t : qL3) (raw : qL2) (user : Str) (what : Int) (at_ : Int) (by_ : Int) (t37 : Bool) (r_ : GaRef) : Option Bool :=
 bif t37 then (
 (sl42_awake).bind fun q =>
 some q
 ) else (
 (sk_Roll t).bind fun d =>
 (sk_Rules d).bind fun (l, t41) =>
 (sk_Mod at_ (l.length : Int)).bind fun q_1 =>
 chk (inR q_1 (l.length : Int)) <|
 (sk_Mod what 7).bind fun q_2 =>
 bif (q_2 == 0) then (
 (sk_Mod by_ 3).bind fun q_3 =>
 chk (inR q_3 (([0, 40, 41] : qL3).length : Int)) <|
 (([0, 40, 41] : qL3)[(q_3).toNat]?).bind fun Int_e =>
 chk (mkOk Int_e Int_e 1) <|
 (l[(q_1).toNat]?).bind fun el =>
 sl42_AccessRules_j3 raw user at_ by_ r_ t41 (l.set ((q_1).toNat) (GaPermission.mk ((List.replicate (Int_e).toNat (0 : Int)).map fun n => UInt8.ofNat (Int.toNat n)) el.Allow el.Table el.Column))
 ) else (
 bif (q_2 == 1) then (
 (sk_Mod by_ 3).bind fun q_4 =>
 chk (inR q_4 (([(-1), 1073741824, 1073741825] : qL3).length : Int)) <|
 (([(-1), 1073741824, 1073741825] : qL3)[(q_4).toNat]?).bind fun Int_e_1 =>
 (l[(q_1).toNat]?).bind fun el_1 =>
 sl42_AccessRules_j3 raw user at_ by_ r_ t41 (l.set ((q_1).toNat) (GaPermission.mk el_1.User el_1.Allow Int_e_1 el_1.Column))
 ) else (
 bif (q_2 == 2) then (
 (sk_Mod by_ 3).bind fun q_5 =>
 chk (inR q_5 (([(-2), 63, 64] : qL3).length : Int)) <|
 (([(-2), 63, 64] : qL3)[(q_5).toNat]?).bind fun Int_e_2 =>
 (l[(q_1).toNat]?).bind fun el_2 =>
 sl42_AccessRules_j3 raw user at_ by_ r_ t41 (l.set ((q_1).toNat) (GaPermission.mk el_2.User el_2.Allow el_2.Table Int_e_2))
 ) else (
 bif (q_2 == 3) then (
 (sl42_AccessRules_l1 big raw user at_ by_ r_ t41 l).bind fun (x0, x1, x2, x3, x4, x5, x6) => sl42_AccessRules_k2 x0 x1 x2 x3 x4 x5 x6
 ) else (
 sl42_AccessRules_j3 raw user at_ by_ r_ t41 l
 )
 )
 )
 )
 )

def sl42_AccessRules (t : qL3) (raw : qL2) (user : Str) (r_ : GaRef) (what : Int) (at_ : Int) (by_ : Int) : Option Bool :=
 (sk_Light t).bind fun q =>
 bif (!q) then (
 sl42_AccessRules_j1 t raw user what at_ by_ true r_
 ) else (
 bif (decide ((raw.length : Int) > 80)) then (
 sl42_AccessRules_j1 t raw user what at_ by_ true r_
 ) else (
 sl42_AccessRules_j1 t raw user what at_ by_ (decide ((user.length : Int) > 100)) r_
 )
 )

/-! ### tablefinder/tablefinderref03.Find -/

def sr03_Find_k1 (t4 : Int) (t4_1 : Str) (t4_2 : qL0) : Option (GaTable × Bool) :=
 some ((GaTable.mk 0 ([] : Str) ([] : qL0)), false)

def sr03_Find_l1_b (rec_ : Int → qL1 → Int → Int → Int → Str → qL0 → Option qS134) (id : Int) (t8 : qL1) (t9 : Int) (t10 : Int) (t4 : Int) (t4_1 : Str) (t4_2 : qL0) : Option qS134 :=
 bif (decide (t10 < t9)) then (
 (idx t8 t10).bind fun t =>
 bif (t.ID == id) then (
 some (.ret (t, true))
 ) else (
 chk (inK .i64 (t10 + 1)) <|
 rec_ id t8 t9 (t10 + 1) t4 t4_1 t4_2
 )
 ) else (
 some (.brk (t4, t4_1, t4_2))
 )

def sr03_Find_l1 : Nat → Int → qL1 → Int → Int → Int → Str → qL0 → Option qS134
 | 0, _, _, _, _, _, _, _ => none
 | n_ + 1, id, t8, t9, t10, t4, t4_1, t4_2 => sr03_Find_l1_b (sr03_Find_l1 n_) id t8 t9 t10 t4 t4_1 t4_2

def sr03_Find_l1_F (n : Nat) (s : qS124) : Option qS134 := sr03_Find_l1 n s.1 s.2.1 s.2.2.1 s.2.2.2.1 s.2.2.2.2.1 s.2.2.2.2.2.1 s.2.2.2.2.2.2
def sr03_Find_l1_B (rec_ : qS124 → Option qS134) (s : qS124) : Option qS134 := sr03_Find_l1_b (fun id t8 t9 t10 t4 t4_1 t4_2 => rec_ (id, t8, t9, t10, t4, t4_1, t4_2)) s.1 s.2.1 s.2.2.1 s.2.2.2.1 s.2.2.2.2.1 s.2.2.2.2.2.1 s.2.2.2.2.2.2
theorem sr03_Find_l1_FB : ∀ n s, sr03_Find_l1_F (n + 1) s = sr03_Find_l1_B (sr03_Find_l1_F n) s := fun _ _ => rfl

def sr03_Find (l : qL1) (id : Int) : Option (GaTable × Bool) :=
 (sr03_Find_l1 big id l (l.length : Int) (0 : Int) (0 : Int) ([] : Str) ([] : qL0)).bind fun
 | .ret q_ => some q_
 | .brk (x0, x1, x2) => sr03_Find_k1 x0 x1 x2

/-! ### tablefinder/tablefinderlaw42.AccessHides -/

def sl42_AccessHides_k9  : Option Bool :=
 (sl42_awake).bind fun q =>
 some q

def sl42_AccessHides_j8 (rec_ : qR162) (a : qL1) (t129 : qL1) (t130 : Int) (t131 : Int) (t159 : Bool) : Option (Out Unit Bool) :=
 bif t159 then (
 some (.ret false)
 ) else (
 chk (inK .i64 (t131 + 1)) <|
 rec_ a t129 t130 (t131 + 1)
 )

def sl42_AccessHides_l5_b (rec_ : qR162) (a : qL1) (t129 : qL1) (t130 : Int) (t131 : Int) : Option (Out Unit Bool) :=
 bif (decide (t131 < t130)) then (
 (idx t129 t131).bind fun x_ =>
 (sr03_Find a x_.ID).bind fun (y, ok) =>
 bif (!ok) then (
 sl42_AccessHides_j8 rec_ a t129 t130 t131 true
 ) else (
 bif ((x_.Columns.length : Int) != (y.Columns.length : Int)) then (
 sl42_AccessHides_j8 rec_ a t129 t130 t131 true
 ) else (
 (sr03_Rows x_).bind fun q =>
 (sr03_Rows y).bind fun q_1 =>
 sl42_AccessHides_j8 rec_ a t129 t130 t131 (q != q_1)
 )
 )
 ) else (
 some (.brk ())
 )

def sl42_AccessHides_l5 : Nat → qL1 → qL1 → Int → Int → Option (Out Unit Bool)
 | 0, _, _, _, _ => none
 | n_ + 1, a, t129, t130, t131 => sl42_AccessHides_l5_b (sl42_AccessHides_l5 n_) a t129 t130 t131

def sl42_AccessHides_l5_F (n : Nat) (s : qS136) : Option (Out Unit Bool) := sl42_AccessHides_l5 n s.1 s.2.1 s.2.2.1 s.2.2.2
def sl42_AccessHides_l5_B (rec_ : qS136 → Option (Out Unit Bool)) (s : qS136) : Option (Out Unit Bool) := sl42_AccessHides_l5_b (fun a t129 t130 t131 => rec_ (a, t129, t130, t131)) s.1 s.2.1 s.2.2.1 s.2.2.2
theorem sl42_AccessHides_l5_FB : ∀ n s, sl42_AccessHides_l5_F (n + 1) s = sl42_AccessHides_l5_B (sl42_AccessHides_l5_F n) s := fun _ _ => rfl

def sl42_AccessHides_k7 (rules : qL2) (u : Str) (a : qL1) (b : qL1) : Option Bool :=
 (s_access_Visible rules u a).bind fun p =>
 (s_access_Visible rules u b).bind fun q =>
 (sl42_same p q).bind fun q_1 =>
 bif (!q_1) then (
 some false
 ) else (
 (sl42_AccessHides_l5 big a p (p.length : Int) (0 : Int)).bind fun
 | .ret q_ => some q_
 | .brk () => sl42_AccessHides_k9
 )

def sl42_AccessHides_j6 (rec_ : qR154) (rules : qL2) (u : Str) (t36 : Int) (t37 : Int) (d : Gk_Dice) (a : qL1) (b : qL1) : Option qS127 :=
 chk (inK .i64 (t37 + 1)) <|
 rec_ rules u t36 (t37 + 1) d a b

def sl42_AccessHides_k5 (rec_ : qR154) (rules : qL2) (u : Str) (y : GaTable) (t36 : Int) (t37 : Int) (d : Gk_Dice) (a : qL1) (b : qL1) : Option qS127 :=
 chk (room (b.length + ([y] : qL1).length) 48) <|
 sl42_AccessHides_j6 rec_ rules u t36 t37 d a (b ++ ([y] : qL1))

def sl42_AccessHides_l4_b (rec_ : qL2 → Str → Int → Int → Int → Int → Gk_Dice → qL1 → qL1 → GaTable → GaTable → Option qS110) (rules : qL2) (u : Str) (t36 : Int) (t37 : Int) (t99 : Int) (i : Int) (d : Gk_Dice) (a : qL1) (b : qL1) (x_ : GaTable) (y : GaTable) : Option qS110 :=
 bif (decide (i < t99)) then (
 (s_access_May rules u (GaRef.mk x_.ID i)).bind fun q =>
 bif q then (
 some (rules, u, (GaTable.mk y.ID y.Name ([] : qL0)), t36, t37, d, a, b)
 ) else (
 chk (inK .i64 (i + 1)) <|
 rec_ rules u t36 t37 t99 (i + 1) d a b x_ y
 )
 ) else (
 some (rules, u, y, t36, t37, d, a, b)
 )

def sl42_AccessHides_l4 : Nat → qL2 → Str → Int → Int → Int → Int → Gk_Dice → qL1 → qL1 → GaTable → GaTable → Option qS110
 | 0, _, _, _, _, _, _, _, _, _, _, _ => none
 | n_ + 1, rules, u, t36, t37, t99, i, d, a, b, x_, y => sl42_AccessHides_l4_b (sl42_AccessHides_l4 n_) rules u t36 t37 t99 i d a b x_ y

def sl42_AccessHides_l4_F (n : Nat) (s : qS104) : Option qS110 := sl42_AccessHides_l4 n s.1 s.2.1 s.2.2.1 s.2.2.2.1 s.2.2.2.2.1 s.2.2.2.2.2.1 s.2.2.2.2.2.2.1 s.2.2.2.2.2.2.2.1 s.2.2.2.2.2.2.2.2.1 s.2.2.2.2.2.2.2.2.2.1 s.2.2.2.2.2.2.2.2.2.2
def sl42_AccessHides_l4_B (rec_ : qS104 → Option qS110) (s : qS104) : Option qS110 := sl42_AccessHides_l4_b (fun rules u t36 t37 t99 i d a b x_ y => rec_ (rules, u, t36, t37, t99, i, d, a, b, x_, y)) s.1 s.2.1 s.2.2.1 s.2.2.2.1 s.2.2.2.2.1 s.2.2.2.2.2.1 s.2.2.2.2.2.2.1 s.2.2.2.2.2.2.2.1 s.2.2.2.2.2.2.2.2.1 s.2.2.2.2.2.2.2.2.2.1 s.2.2.2.2.2.2.2.2.2.2
theorem sl42_AccessHides_l4_FB : ∀ n s, sl42_AccessHides_l4_F (n + 1) s = sl42_AccessHides_l4_B (sl42_AccessHides_l4_F n) s := fun _ _ => rfl

def sl42_AccessHides_k4 (rec_ : qR154) (rules : qL2) (u : Str) (seen : Bool) (t36 : Int) (t37 : Int) (d : Gk_Dice) (a : qL1) (b : qL1) (x_ : GaTable) (y : Int) (y_1 : Str) (y_2 : qL0) : Option qS127 :=
 bif (!seen) then (
 (sk_Dice_Next d 2).bind fun (q, t90) =>
 bif (q == 0) then (
 sl42_AccessHides_j6 rec_ rules u t36 t37 t90 a b
 ) else (
 (sk_Table t90 x_.ID).bind fun (y_3, t93) =>
 (sl42_AccessHides_l4 big rules u t36 t37 (y_3.Columns.length : Int) (0 : Int) t93 a b x_ y_3).bind fun (x0, x1, x2, x3, x4, x5, x6, x7) => sl42_AccessHides_k5 rec_ x0 x1 x2 x3 x4 x5 x6 x7
 )
 ) else (
 chk (room (b.length + ([(GaTable.mk y y_1 y_2)] : qL1).length) 48) <|
 sl42_AccessHides_j6 rec_ rules u t36 t37 d a (b ++ ([(GaTable.mk y y_1 y_2)] : qL1))
 )

def sl42_AccessHides_j3 (rec_ : qR146) (rules : qL2) (u : Str) (seen : Bool) (t36 : Int) (t37 : Int) (t47 : qL0) (t48 : Int) (i : Int) (d : Gk_Dice) (a : qL1) (b : qL1) (x_ : GaTable) (y : Int) (y_1 : Str) (y_2 : qL0) : Option qS102 :=
 chk (inK .i64 (i + 1)) <|
 rec_ rules u seen t36 t37 t47 t48 (i + 1) d a b x_ y y_1 y_2

def sl42_AccessHides_k2 (rec_ : qR146) (rules : qL2) (u : Str) (seen : Bool) (t36 : Int) (t37 : Int) (t47 : qL0) (t48 : Int) (i : Int) (d : Gk_Dice) (a : qL1) (b : qL1) (x_ : GaTable) (y : Int) (y_1 : Str) (z : Str) (y_2 : qL0) (z_1 : qL4) : Option qS102 :=
 chk (room (y_2.length + ([(GaColumn.mk z z_1)] : qL0).length) 40) <|
 sl42_AccessHides_j3 rec_ rules u seen t36 t37 t47 t48 i d a b x_ y y_1 (y_2 ++ ([(GaColumn.mk z z_1)] : qL0))

def sl42_AccessHides_l3_b (rec_ : qL2 → Str → Bool → Int → Int → qL0 → Int → Int → Int → Int → Gk_Dice → qL1 → qL1 → GaTable → Int → Str → Str → qL0 → qL4 → Option qS95) (rules : qL2) (u : Str) (seen : Bool) (t36 : Int) (t37 : Int) (t47 : qL0) (t48 : Int) (i : Int) (t70 : Int) (t71 : Int) (d : Gk_Dice) (a : qL1) (b : qL1) (x_ : GaTable) (y : Int) (y_1 : Str) (z : Str) (y_2 : qL0) (z_1 : qL4) : Option qS95 :=
 bif (decide (t71 < t70)) then (
 (sk_Cell d).bind fun (q, t75) =>
 chk (room (z_1.length + ([q] : qL4).length) 24) <|
 chk (inK .i64 (t71 + 1)) <|
 rec_ rules u seen t36 t37 t47 t48 i t70 (t71 + 1) t75 a b x_ y y_1 z y_2 (z_1 ++ ([q] : qL4))
 ) else (
 some (rules, u, seen, t36, t37, t47, t48, i, d, a, b, x_, y, y_1, z, y_2, z_1)
 )

def sl42_AccessHides_l3 : Nat → qL2 → Str → Bool → Int → Int → qL0 → Int → Int → Int → Int → Gk_Dice → qL1 → qL1 → GaTable → Int → Str → Str → qL0 → qL4 → Option qS95
 | 0, _, _, _, _, _, _, _, _, _, _, _, _, _, _, _, _, _, _, _ => none
 | n_ + 1, rules, u, seen, t36, t37, t47, t48, i, t70, t71, d, a, b, x_, y, y_1, z, y_2, z_1 => sl42_AccessHides_l3_b (sl42_AccessHides_l3 n_) rules u seen t36 t37 t47 t48 i t70 t71 d a b x_ y y_1 z y_2 z_1

def sl42_AccessHides_l3_F (n : Nat) (s : qS93) : Option qS95 := sl42_AccessHides_l3 n s.1 s.2.1 s.2.2.1 s.2.2.2.1 s.2.2.2.2.1 s.2.2.2.2.2.1 s.2.2.2.2.2.2.1 s.2.2.2.2.2.2.2.1 s.2.2.2.2.2.2.2.2.1 s.2.2.2.2.2.2.2.2.2.1 s.2.2.2.2.2.2.2.2.2.2.1 s.2.2.2.2.2.2.2.2.2.2.2.1 s.2.2.2.2.2.2.2.2.2.2.2.2.1 s.2.2.2.2.2.2.2.2.2.2.2.2.2.1 s.2.2.2.2.2.2.2.2.2.2.2.2.2.2.1 s.2.2.2.2.2.2.2.2.2.2.2.2.2.2.2.1 s.2.2.2.2.2.2.2.2.2.2.2.2.2.2.2.2.1 s.2.2.2.2.2.2.2.2.2.2.2.2.2.2.2.2.2.1 s.2.2.2.2.2.2.2.2.2.2.2.2.2.2.2.2.2.2
def sl42_AccessHides_l3_B (rec_ : qS93 → Option qS95) (s : qS93) : Option qS95 := sl42_AccessHides_l3_b (fun rules u seen t36 t37 t47 t48 i t70 t71 d a b x_ y y_1 z y_2 z_1 => rec_ (rules, u, seen, t36, t37, t47, t48, i, t70, t71, d, a, b, x_, y, y_1, z, y_2, z_1)) s.1 s.2.1 s.2.2.1 s.2.2.2.1 s.2.2.2.2.1 s.2.2.2.2.2.1 s.2.2.2.2.2.2.1 s.2.2.2.2.2.2.2.1 s.2.2.2.2.2.2.2.2.1 s.2.2.2.2.2.2.2.2.2.1 s.2.2.2.2.2.2.2.2.2.2.1 s.2.2.2.2.2.2.2.2.2.2.2.1 s.2.2.2.2.2.2.2.2.2.2.2.2.1 s.2.2.2.2.2.2.2.2.2.2.2.2.2.1 s.2.2.2.2.2.2.2.2.2.2.2.2.2.2.1 s.2.2.2.2.2.2.2.2.2.2.2.2.2.2.2.1 s.2.2.2.2.2.2.2.2.2.2.2.2.2.2.2.2.1 s.2.2.2.2.2.2.2.2.2.2.2.2.2.2.2.2.2.1 s.2.2.2.2.2.2.2.2.2.2.2.2.2.2.2.2.2.2
theorem sl42_AccessHides_l3_FB : ∀ n s, sl42_AccessHides_l3_F (n + 1) s = sl42_AccessHides_l3_B (sl42_AccessHides_l3_F n) s := fun _ _ => rfl

def sl42_AccessHides_l2_b (rec_ : qR146) (rules : qL2) (u : Str) (seen : Bool) (t36 : Int) (t37 : Int) (t47 : qL0) (t48 : Int) (i : Int) (d : Gk_Dice) (a : qL1) (b : qL1) (x_ : GaTable) (y : Int) (y_1 : Str) (y_2 : qL0) : Option qS102 :=
 bif (decide (i < t48)) then (
 (idx t47 i).bind fun c =>
 (s_access_May rules u (GaRef.mk x_.ID i)).bind fun q =>
 bif q then (
 chk (room (y_2.length + ([c] : qL0).length) 40) <|
 sl42_AccessHides_j3 rec_ rules u true t36 t37 t47 t48 i d a b x_ y y_1 (y_2 ++ ([c] : qL0))
 ) else (
 (sl42_AccessHides_l3 big rules u seen t36 t37 t47 t48 i (c.Cells.length : Int) (0 : Int) d a b x_ y y_1 ([104, 105, 100, 100, 101, 110] : Str) y_2 ([] : qL4)).bind fun (x0, x1, x2, x3, x4, x5, x6, x7, x8, x9, x10, x11, x12, x13, x14, x15, x16) => sl42_AccessHides_k2 rec_ x0 x1 x2 x3 x4 x5 x6 x7 x8 x9 x10 x11 x12 x13 x14 x15 x16
 )
 ) else (
 some (rules, u, seen, t36, t37, d, a, b, x_, y, y_1, y_2)
 )

def sl42_AccessHides_l2 : Nat → qL2 → Str → Bool → Int → Int → qL0 → Int → Int → Gk_Dice → qL1 → qL1 → GaTable → Int → Str → qL0 → Option qS102
 | 0, _, _, _, _, _, _, _, _, _, _, _, _, _, _, _ => none
 | n_ + 1, rules, u, seen, t36, t37, t47, t48, i, d, a, b, x_, y, y_1, y_2 => sl42_AccessHides_l2_b (sl42_AccessHides_l2 n_) rules u seen t36 t37 t47 t48 i d a b x_ y y_1 y_2

def sl42_AccessHides_l2_F (n : Nat) (s : qS98) : Option qS102 := sl42_AccessHides_l2 n s.1 s.2.1 s.2.2.1 s.2.2.2.1 s.2.2.2.2.1 s.2.2.2.2.2.1 s.2.2.2.2.2.2.1 s.2.2.2.2.2.2.2.1 s.2.2.2.2.2.2.2.2.1 s.2.2.2.2.2.2.2.2.2.1 s.2.2.2.2.2.2.2.2.2.2.1 s.2.2.2.2.2.2.2.2.2.2.2.1 s.2.2.2.2.2.2.2.2.2.2.2.2.1 s.2.2.2.2.2.2.2.2.2.2.2.2.2.1 s.2.2.2.2.2.2.2.2.2.2.2.2.2.2
def sl42_AccessHides_l2_B (rec_ : qS98 → Option qS102) (s : qS98) : Option qS102 := sl42_AccessHides_l2_b (fun rules u seen t36 t37 t47 t48 i d a b x_ y y_1 y_2 => rec_ (rules, u, seen, t36, t37, t47, t48, i, d, a, b, x_, y, y_1, y_2)) s.1 s.2.1 s.2.2.1 s.2.2.2.1 s.2.2.2.2.1 s.2.2.2.2.2.1 s.2.2.2.2.2.2.1 s.2.2.2.2.2.2.2.1 s.2.2.2.2.2.2.2.2.1 s.2.2.2.2.2.2.2.2.2.1 s.2.2.2.2.2.2.2.2.2.2.1 s.2.2.2.2.2.2.2.2.2.2.2.1 s.2.2.2.2.2.2.2.2.2.2.2.2.1 s.2.2.2.2.2.2.2.2.2.2.2.2.2.1 s.2.2.2.2.2.2.2.2.2.2.2.2.2.2
theorem sl42_AccessHides_l2_FB : ∀ n s, sl42_AccessHides_l2_F (n + 1) s = sl42_AccessHides_l2_B (sl42_AccessHides_l2_F n) s := fun _ _ => rfl

def sl42_AccessHides_l1_b (rec_ : qR154) (rules : qL2) (u : Str) (t36 : Int) (t37 : Int) (d : Gk_Dice) (a : qL1) (b : qL1) : Option qS127 :=
 bif (decide (t37 < t36)) then (
 chk (inR t37 (a.length : Int)) <|
 (a[(t37).toNat]?).bind fun x_ =>
 (sl42_AccessHides_l2 big rules u false t36 t37 x_.Columns (x_.Columns.length : Int) (0 : Int) d a b x_ x_.ID x_.Name ([] : qL0)).bind fun (x0, x1, x2, x3, x4, x5, x6, x7, x8, x9, x10, x11) => sl42_AccessHides_k4 rec_ x0 x1 x2 x3 x4 x5 x6 x7 x8 x9 x10 x11
 ) else (
 some (rules, u, a, b)
 )

def sl42_AccessHides_l1 : Nat → qL2 → Str → Int → Int → Gk_Dice → qL1 → qL1 → Option qS127
 | 0, _, _, _, _, _, _, _ => none
 | n_ + 1, rules, u, t36, t37, d, a, b => sl42_AccessHides_l1_b (sl42_AccessHides_l1 n_) rules u t36 t37 d a b

def sl42_AccessHides_l1_F (n : Nat) (s : qS113) : Option qS127 := sl42_AccessHides_l1 n s.1 s.2.1 s.2.2.1 s.2.2.2.1 s.2.2.2.2.1 s.2.2.2.2.2.1 s.2.2.2.2.2.2
def sl42_AccessHides_l1_B (rec_ : qS113 → Option qS127) (s : qS113) : Option qS127 := sl42_AccessHides_l1_b (fun rules u t36 t37 d a b => rec_ (rules, u, t36, t37, d, a, b)) s.1 s.2.1 s.2.2.1 s.2.2.2.1 s.2.2.2.2.1 s.2.2.2.2.2.1 s.2.2.2.2.2.2
theorem sl42_AccessHides_l1_FB : ∀ n s, sl42_AccessHides_l1_F (n + 1) s = sl42_AccessHides_l1_B (sl42_AccessHides_l1_F n) s := fun _ _ => rfl

def sl42_AccessHides_j1 (u : Str) (d : Gk_Dice) (rules : qL2) : Option Bool :=
 (sk_Tables d 4).bind fun (a, t33) =>
 (sl42_AccessHides_l1 big rules u (a.length : Int) (0 : Int) t33 a ([] : qL1)).bind fun (x0, x1, x2, x3) => sl42_AccessHides_k7 x0 x1 x2 x3

def sl42_AccessHides (t : qL3) (user : Bool) : Option Bool :=
 (sk_Light t).bind fun q =>
 bif (!q) then (
 (sl42_awake).bind fun q_1 =>
 some q_1
 ) else (
 (sk_Roll t).bind fun d =>
 (sk_Rules d).bind fun (rules, t30) =>
 bif user then (
 sl42_AccessHides_j1 ([118] : Str) t30 rules
 ) else (
 sl42_AccessHides_j1 ([117] : Str) t30 rules
 )
 )

end
end Go.Proofs
