/- Printed by wip/tools/tgen.py: specs. -/
import Derived.Test.YtahbkngofdpehaaDoorE4
import Derived.Lib.ItoaNum
import Derived.Lib.LaidU8
import Derived.Shelf.Strconv.Itoa3
set_option linter.unusedVariables false
set_option linter.unusedSimpArgs false
set_option linter.unusedSectionVars false
namespace Go.Proofs
open Go Eng
set_option maxRecDepth 100000
noncomputable section

structure G_api_Permission where
  User : Str
  Allow : Bool
  Table : Int
  Column : Int
  deriving DecidableEq, Inhabited

structure G_api_Cell where
  Null : Bool
  Text : Str
  deriving DecidableEq, Inhabited

structure G_api_Column where
  Name : Str
  Cells : (List G_api_Cell)
  deriving DecidableEq, Inhabited

structure G_api_Table where
  ID : Int
  Name : Str
  Columns : (List G_api_Column)
  deriving DecidableEq, Inhabited

structure G_api_Ref where
  Table : Int
  Column : Int
  deriving DecidableEq, Inhabited

structure G_tablefinderkit_Dice where
  l : (List Int)
  at_ : Int
  deriving DecidableEq, Inhabited

structure G_api_Op where
  Kind : Int
  Column : Int
  Text : Str
  Columns : (List Int)
  deriving DecidableEq, Inhabited

structure G_unicode_utf8_acceptRange where
  lo : Int
  hi : Int
  deriving DecidableEq, Inhabited

abbrev G_arr256_int_u8 : Type := { l : List Int // l.length = 256 }

structure G_arr16_G_unicode_utf8_acceptRange where
  e0 : G_unicode_utf8_acceptRange
  e1 : G_unicode_utf8_acceptRange
  e2 : G_unicode_utf8_acceptRange
  e3 : G_unicode_utf8_acceptRange
  e4 : G_unicode_utf8_acceptRange
  e5 : G_unicode_utf8_acceptRange
  e6 : G_unicode_utf8_acceptRange
  e7 : G_unicode_utf8_acceptRange
  e8 : G_unicode_utf8_acceptRange
  e9 : G_unicode_utf8_acceptRange
  e10 : G_unicode_utf8_acceptRange
  e11 : G_unicode_utf8_acceptRange
  e12 : G_unicode_utf8_acceptRange
  e13 : G_unicode_utf8_acceptRange
  e14 : G_unicode_utf8_acceptRange
  e15 : G_unicode_utf8_acceptRange
  deriving DecidableEq, Inhabited

def carU : Nat → Type
  | 0 => G_api_Permission
  | 1 => G_api_Cell
  | 2 => G_api_Column
  | 3 => G_api_Table
  | 4 => G_api_Ref
  | 5 => G_tablefinderkit_Dice
  | 6 => G_api_Op
  | 7 => G_unicode_utf8_acceptRange
  | 8 => G_arr256_int_u8
  | 9 => G_arr16_G_unicode_utf8_acceptRange
  | _ => Unit

def sizeU : Nat → Nat
  | 0 => 4
  | 1 => 2
  | 2 => 2
  | 3 => 3
  | 4 => 2
  | 5 => 2
  | 6 => 4
  | 7 => 2
  | 8 => 256
  | 9 => 32
  | _ => 0


def glob_utf8_first : List (Lf carU) := (Lib.firstTab.map fun n => ⟨.int .u8, n⟩)

def glob_utf8_acceptRanges : List (Lf carU) := [⟨.int .u8, (128 : Int)⟩, ⟨.int .u8, (191 : Int)⟩, ⟨.int .u8, (160 : Int)⟩, ⟨.int .u8, (191 : Int)⟩, ⟨.int .u8, (128 : Int)⟩, ⟨.int .u8, (159 : Int)⟩, ⟨.int .u8, (144 : Int)⟩, ⟨.int .u8, (191 : Int)⟩, ⟨.int .u8, (128 : Int)⟩, ⟨.int .u8, (143 : Int)⟩, ⟨.int .u8, (0 : Int)⟩, ⟨.int .u8, (0 : Int)⟩, ⟨.int .u8, (0 : Int)⟩, ⟨.int .u8, (0 : Int)⟩, ⟨.int .u8, (0 : Int)⟩, ⟨.int .u8, (0 : Int)⟩, ⟨.int .u8, (0 : Int)⟩, ⟨.int .u8, (0 : Int)⟩, ⟨.int .u8, (0 : Int)⟩, ⟨.int .u8, (0 : Int)⟩, ⟨.int .u8, (0 : Int)⟩, ⟨.int .u8, (0 : Int)⟩, ⟨.int .u8, (0 : Int)⟩, ⟨.int .u8, (0 : Int)⟩, ⟨.int .u8, (0 : Int)⟩, ⟨.int .u8, (0 : Int)⟩, ⟨.int .u8, (0 : Int)⟩, ⟨.int .u8, (0 : Int)⟩, ⟨.int .u8, (0 : Int)⟩, ⟨.int .u8, (0 : Int)⟩, ⟨.int .u8, (0 : Int)⟩, ⟨.int .u8, (0 : Int)⟩]

def glob_strconv_uint64pow10 : List (Lf carU) := (Lib.pow10Tab.map fun n => ⟨.int .u64, n⟩)

/-! ### tablefinder/tablefinderkit.Light -/

def s_tablefinderkit_Light (t : (List Int)) : Option Bool :=
  some (decide ((t.length : Int) ≤ 500))

/-! ### tablefinder/table.Rows -/

def s_table_Rows (t : G_api_Table) : Option Int :=
  bif ((t.Columns.length : Int) == 0) then (
    some (0 : Int)
  ) else (
    (idx t.Columns 0).bind fun Column =>
    some (Column.Cells.length : Int)
  )

/-! ### math/bits.Mul64 -/

def s_math_bits_Mul64 (x_ : Int) (y : Int) : Option (Int × Int) :=
  chk (decide (0 ≤ (32 : Int))) <|
  chk (decide (0 ≤ (32 : Int))) <|
  chk (decide (0 ≤ (32 : Int))) <|
  chk (decide (0 ≤ (32 : Int))) <|
  chk (decide (0 ≤ (32 : Int))) <|
  some ((IntKind.wrap .u64 ((IntKind.wrap .u64 ((IntKind.wrap .u64 ((shrK .u64 x_ 32) * (shrK .u64 y 32))) + (shrK .u64 (IntKind.wrap .u64 ((IntKind.wrap .u64 ((shrK .u64 x_ 32) * (andK .u64 y 4294967295))) + (shrK .u64 (IntKind.wrap .u64 ((andK .u64 x_ 4294967295) * (andK .u64 y 4294967295))) 32))) 32))) + (shrK .u64 (IntKind.wrap .u64 ((andK .u64 (IntKind.wrap .u64 ((IntKind.wrap .u64 ((shrK .u64 x_ 32) * (andK .u64 y 4294967295))) + (shrK .u64 (IntKind.wrap .u64 ((andK .u64 x_ 4294967295) * (andK .u64 y 4294967295))) 32))) 4294967295) + (IntKind.wrap .u64 ((andK .u64 x_ 4294967295) * (shrK .u64 y 32))))) 32))), (IntKind.wrap .u64 (x_ * y)))

/-! ### math/bits.Mul -/

def s_math_bits_Mul (x_ : Int) (y : Int) : Option (Int × Int) :=
  (s_math_bits_Mul64 x_ y).bind fun (h_, l) =>
  some (h_, l)

/-! ### slices.Repeat[[]tablefinder/api.Cell,tablefinder/api.Cell] -/

def s_slices_Repeat_api_Cell_api_Cell_k2 (newslice : (List G_api_Cell)) : Option (List G_api_Cell) :=
  some newslice

def s_slices_Repeat_api_Cell_api_Cell_l1_b (rec_ : Int → (List G_api_Cell) → Option (List G_api_Cell)) (n : Int) (newslice : (List G_api_Cell)) : Option (List G_api_Cell) :=
  bif (decide (n < (newslice.length : Int))) then (
    chk (within n (newslice.length : Int) (newslice.length : Int)) <|
    chk (within 0 n (newslice.length : Int)) <|
    chk (decide ((n).toNat + ((newslice.length : Int).toNat - (n).toNat) ≤ newslice.length)) <|
    chk (inK .i64 (n + ((min ((newslice.drop 0).take ((n).toNat - 0)).length ((newslice.length : Int).toNat - (n).toNat) : Nat) : Int))) <|
    rec_ (n + ((min ((newslice.drop 0).take ((n).toNat - 0)).length ((newslice.length : Int).toNat - (n).toNat) : Nat) : Int)) (splice newslice ((n).toNat) (((newslice.drop 0).take ((n).toNat - 0)).take (min ((newslice.drop 0).take ((n).toNat - 0)).length ((newslice.length : Int).toNat - (n).toNat))))
  ) else (
    some newslice
  )

def s_slices_Repeat_api_Cell_api_Cell_l1 : Nat → Int → (List G_api_Cell) → Option (List G_api_Cell)
  | 0, _, _ => none
  | n_ + 1, n, newslice => s_slices_Repeat_api_Cell_api_Cell_l1_b (s_slices_Repeat_api_Cell_api_Cell_l1 n_) n newslice

def s_slices_Repeat_api_Cell_api_Cell_j1 (x_ : (List G_api_Cell)) (lo : Int) (t26 : Bool) : Option (List G_api_Cell) :=
  bif t26 then (
    none
  ) else (
    chk (mkOk (IntKind.wrap .i64 lo) (IntKind.wrap .i64 lo) 24) <|
    (s_slices_Repeat_api_Cell_api_Cell_l1 big ((min x_.length (List.replicate ((IntKind.wrap .i64 lo)).toNat (G_api_Cell.mk false ([] : Str))).length : Nat) : Int) (x_.take (List.replicate ((IntKind.wrap .i64 lo)).toNat (G_api_Cell.mk false ([] : Str))).length ++ (List.replicate ((IntKind.wrap .i64 lo)).toNat (G_api_Cell.mk false ([] : Str))).drop x_.length)).bind fun x0 => s_slices_Repeat_api_Cell_api_Cell_k2 x0
  )

def s_slices_Repeat_api_Cell_api_Cell (x_ : (List G_api_Cell)) (count : Int) : Option (List G_api_Cell) :=
  bif (decide (count < 0)) then (
    none
  ) else (
    (s_math_bits_Mul (IntKind.wrap .u64 (x_.length : Int)) (IntKind.wrap .u64 count)).bind fun (hi, lo) =>
    bif (decide (hi > 0)) then (
      s_slices_Repeat_api_Cell_api_Cell_j1 x_ lo true
    ) else (
      s_slices_Repeat_api_Cell_api_Cell_j1 x_ lo (decide (lo > 9223372036854775807))
    )
  )

/-! ### tablefinder/access.May -/

def s_access_May (l : (List G_api_Permission)) (user : Str) (r : G_api_Ref) : Option Bool :=
  some (match l.reverse.find? fun p => p.User == user && (p.Table == 0 || p.Table == r.Table) && (p.Column == -1 || p.Column == r.Column) with | some p => p.Allow | none => false)

/-! ### slices.Clone[[]tablefinder/api.Cell,tablefinder/api.Cell] -/

def s_slices_Clone_api_Cell_api_Cell_j1 (s : (List G_api_Cell)) (t4 : Bool) : Option (List G_api_Cell) :=
  bif t4 then (
    some ([] : (List G_api_Cell))
  ) else (
    chk (room (([] : (List G_api_Cell)).length + s.length) 24) <|
    some (([] : (List G_api_Cell)) ++ s)
  )

def s_slices_Clone_api_Cell_api_Cell (s : (List G_api_Cell)) : Option (List G_api_Cell) :=
  bif (List.isEmpty s) then agree (
    s_slices_Clone_api_Cell_api_Cell_j1 s true
  ) (
    s_slices_Clone_api_Cell_api_Cell_j1 s false
  ) else (
    s_slices_Clone_api_Cell_api_Cell_j1 s false
  )

/-! ### tablefinder/access.seen -/

def s_access_seen_k2 (some_ : Bool) (t6 : Int) (t6_1 : Str) (out : Int) (out_1 : Str) (t6_2 : (List G_api_Column)) (out_2 : (List G_api_Column)) : Option (G_api_Table × Bool) :=
  some ((G_api_Table.mk out out_1 out_2), some_)

def s_access_seen_j1 (rec_ : (List G_api_Permission) → Str → Bool → (List G_api_Column) → Int → Int → G_api_Table → Int → Str → Int → Str → (List G_api_Column) → (List G_api_Column) → Option (Bool × Int × Str × Int × Str × (List G_api_Column) × (List G_api_Column))) (l : (List G_api_Permission)) (user : Str) (some_ : Bool) (t19 : (List G_api_Column)) (t20 : Int) (k : Int) (t : G_api_Table) (t6 : Int) (t6_1 : Str) (out : Int) (out_1 : Str) (x_ : Str) (t6_2 : (List G_api_Column)) (out_2 : (List G_api_Column)) (x__1 : (List G_api_Cell)) : Option (Bool × Int × Str × Int × Str × (List G_api_Column) × (List G_api_Column)) :=
  chk (room (out_2.length + ([(G_api_Column.mk x_ x__1)] : (List G_api_Column)).length) 40) <|
  chk (inK .i64 (k + 1)) <|
  rec_ l user some_ t19 t20 (k + 1) t t6 t6_1 out out_1 t6_2 (out_2 ++ ([(G_api_Column.mk x_ x__1)] : (List G_api_Column)))

def s_access_seen_l1_b (rec_ : (List G_api_Permission) → Str → Bool → (List G_api_Column) → Int → Int → G_api_Table → Int → Str → Int → Str → (List G_api_Column) → (List G_api_Column) → Option (Bool × Int × Str × Int × Str × (List G_api_Column) × (List G_api_Column))) (l : (List G_api_Permission)) (user : Str) (some_ : Bool) (t19 : (List G_api_Column)) (t20 : Int) (k : Int) (t : G_api_Table) (t6 : Int) (t6_1 : Str) (out : Int) (out_1 : Str) (t6_2 : (List G_api_Column)) (out_2 : (List G_api_Column)) : Option (Bool × Int × Str × Int × Str × (List G_api_Column) × (List G_api_Column)) :=
  bif (decide (k < t20)) then (
    (idx t19 k).bind fun c =>
    (s_table_Rows t).bind fun q =>
    (s_slices_Repeat_api_Cell_api_Cell ([(G_api_Cell.mk true ([] : Str))] : (List G_api_Cell)) q).bind fun q_1 =>
    (s_access_May l user (G_api_Ref.mk t.ID k)).bind fun q_2 =>
    bif q_2 then (
      (s_slices_Clone_api_Cell_api_Cell c.Cells).bind fun q_3 =>
      s_access_seen_j1 rec_ l user true t19 t20 k t t6 t6_1 out out_1 c.Name t6_2 out_2 q_3
    ) else (
      s_access_seen_j1 rec_ l user some_ t19 t20 k t t6 t6_1 out out_1 ([] : Str) t6_2 out_2 q_1
    )
  ) else (
    some (some_, t6, t6_1, out, out_1, t6_2, out_2)
  )

def s_access_seen_l1 : Nat → (List G_api_Permission) → Str → Bool → (List G_api_Column) → Int → Int → G_api_Table → Int → Str → Int → Str → (List G_api_Column) → (List G_api_Column) → Option (Bool × Int × Str × Int × Str × (List G_api_Column) × (List G_api_Column))
  | 0, _, _, _, _, _, _, _, _, _, _, _, _, _ => none
  | n_ + 1, l, user, some_, t19, t20, k, t, t6, t6_1, out, out_1, t6_2, out_2 => s_access_seen_l1_b (s_access_seen_l1 n_) l user some_ t19 t20 k t t6 t6_1 out out_1 t6_2 out_2

def s_access_seen_l1_F (n : Nat) (s : ((List G_api_Permission) × Str × Bool × (List G_api_Column) × Int × Int × G_api_Table × Int × Str × Int × Str × (List G_api_Column) × (List G_api_Column))) : Option (Bool × Int × Str × Int × Str × (List G_api_Column) × (List G_api_Column)) := s_access_seen_l1 n s.1 s.2.1 s.2.2.1 s.2.2.2.1 s.2.2.2.2.1 s.2.2.2.2.2.1 s.2.2.2.2.2.2.1 s.2.2.2.2.2.2.2.1 s.2.2.2.2.2.2.2.2.1 s.2.2.2.2.2.2.2.2.2.1 s.2.2.2.2.2.2.2.2.2.2.1 s.2.2.2.2.2.2.2.2.2.2.2.1 s.2.2.2.2.2.2.2.2.2.2.2.2
def s_access_seen_l1_B (rec_ : ((List G_api_Permission) × Str × Bool × (List G_api_Column) × Int × Int × G_api_Table × Int × Str × Int × Str × (List G_api_Column) × (List G_api_Column)) → Option (Bool × Int × Str × Int × Str × (List G_api_Column) × (List G_api_Column))) (s : ((List G_api_Permission) × Str × Bool × (List G_api_Column) × Int × Int × G_api_Table × Int × Str × Int × Str × (List G_api_Column) × (List G_api_Column))) : Option (Bool × Int × Str × Int × Str × (List G_api_Column) × (List G_api_Column)) := s_access_seen_l1_b (fun l user some_ t19 t20 k t t6 t6_1 out out_1 t6_2 out_2 => rec_ (l, user, some_, t19, t20, k, t, t6, t6_1, out, out_1, t6_2, out_2)) s.1 s.2.1 s.2.2.1 s.2.2.2.1 s.2.2.2.2.1 s.2.2.2.2.2.1 s.2.2.2.2.2.2.1 s.2.2.2.2.2.2.2.1 s.2.2.2.2.2.2.2.2.1 s.2.2.2.2.2.2.2.2.2.1 s.2.2.2.2.2.2.2.2.2.2.1 s.2.2.2.2.2.2.2.2.2.2.2.1 s.2.2.2.2.2.2.2.2.2.2.2.2
theorem s_access_seen_l1_FB : ∀ n s, s_access_seen_l1_F (n + 1) s = s_access_seen_l1_B (s_access_seen_l1_F n) s := fun _ _ => rfl

def s_access_seen (l : (List G_api_Permission)) (user : Str) (t : G_api_Table) : Option (G_api_Table × Bool) :=
  (s_access_seen_l1 big l user false t.Columns (t.Columns.length : Int) (0 : Int) t (0 : Int) ([] : Str) t.ID t.Name ([] : (List G_api_Column)) ([] : (List G_api_Column))).bind fun (x0, x1, x2, x3, x4, x5, x6) => s_access_seen_k2 x0 x1 x2 x3 x4 x5 x6

/-! ### tablefinder/access.Visible -/

def s_access_Visible_k2 (out : (List G_api_Table)) : Option (List G_api_Table) :=
  some out

def s_access_Visible_j1 (rec_ : (List G_api_Permission) → Str → (List G_api_Table) → Int → Int → (List G_api_Table) → Option (List G_api_Table)) (l : (List G_api_Permission)) (user : Str) (t12 : (List G_api_Table)) (t13 : Int) (t14 : Int) (out : (List G_api_Table)) : Option (List G_api_Table) :=
  chk (inK .i64 (t14 + 1)) <|
  rec_ l user t12 t13 (t14 + 1) out

def s_access_Visible_l1_b (rec_ : (List G_api_Permission) → Str → (List G_api_Table) → Int → Int → (List G_api_Table) → Option (List G_api_Table)) (l : (List G_api_Permission)) (user : Str) (t12 : (List G_api_Table)) (t13 : Int) (t14 : Int) (out : (List G_api_Table)) : Option (List G_api_Table) :=
  bif (decide (t14 < t13)) then (
    (idx t12 t14).bind fun t =>
    (s_access_seen l user t).bind fun (x_, some_) =>
    bif some_ then (
      chk (room (out.length + ([x_] : (List G_api_Table)).length) 48) <|
      s_access_Visible_j1 rec_ l user t12 t13 t14 (out ++ ([x_] : (List G_api_Table)))
    ) else (
      s_access_Visible_j1 rec_ l user t12 t13 t14 out
    )
  ) else (
    some out
  )

def s_access_Visible_l1 : Nat → (List G_api_Permission) → Str → (List G_api_Table) → Int → Int → (List G_api_Table) → Option (List G_api_Table)
  | 0, _, _, _, _, _, _ => none
  | n_ + 1, l, user, t12, t13, t14, out => s_access_Visible_l1_b (s_access_Visible_l1 n_) l user t12 t13 t14 out

def s_access_Visible_l1_F (n : Nat) (s : ((List G_api_Permission) × Str × (List G_api_Table) × Int × Int × (List G_api_Table))) : Option (List G_api_Table) := s_access_Visible_l1 n s.1 s.2.1 s.2.2.1 s.2.2.2.1 s.2.2.2.2.1 s.2.2.2.2.2
def s_access_Visible_l1_B (rec_ : ((List G_api_Permission) × Str × (List G_api_Table) × Int × Int × (List G_api_Table)) → Option (List G_api_Table)) (s : ((List G_api_Permission) × Str × (List G_api_Table) × Int × Int × (List G_api_Table))) : Option (List G_api_Table) := s_access_Visible_l1_b (fun l user t12 t13 t14 out => rec_ (l, user, t12, t13, t14, out)) s.1 s.2.1 s.2.2.1 s.2.2.2.1 s.2.2.2.2.1 s.2.2.2.2.2
theorem s_access_Visible_l1_FB : ∀ n s, s_access_Visible_l1_F (n + 1) s = s_access_Visible_l1_B (s_access_Visible_l1_F n) s := fun _ _ => rfl

def s_access_Visible (l : (List G_api_Permission)) (user : Str) (tables : (List G_api_Table)) : Option (List G_api_Table) :=
  (s_access_Visible_l1 big l user tables (tables.length : Int) (0 : Int) ([] : (List G_api_Table))).bind fun x0 => s_access_Visible_k2 x0

/-! ### tablefinder/access.Valid -/

def s_access_Valid_k2 (l : (List G_api_Permission)) : Option Bool :=
  some (decide ((l.length : Int) ≤ 64))

def s_access_Valid_j1 (rec_ : (List G_api_Permission) → (List G_api_Permission) → Int → Int → Option (Out (List G_api_Permission) Bool)) (l : (List G_api_Permission)) (t5 : (List G_api_Permission)) (t6 : Int) (t7 : Int) (t39 : Bool) : Option (Out (List G_api_Permission) Bool) :=
  bif t39 then (
    some (.ret false)
  ) else (
    chk (inK .i64 (t7 + 1)) <|
    rec_ l t5 t6 (t7 + 1)
  )

def s_access_Valid_l1_b (rec_ : (List G_api_Permission) → (List G_api_Permission) → Int → Int → Option (Out (List G_api_Permission) Bool)) (l : (List G_api_Permission)) (t5 : (List G_api_Permission)) (t6 : Int) (t7 : Int) : Option (Out (List G_api_Permission) Bool) :=
  bif (decide (t7 < t6)) then (
    (idx t5 t7).bind fun p =>
    bif (p.User == ([] : Str)) then (
      s_access_Valid_j1 rec_ l t5 t6 t7 true
    ) else (
      bif (decide ((p.User.length : Int) > 40)) then (
        s_access_Valid_j1 rec_ l t5 t6 t7 true
      ) else (
        bif (decide (p.Table < 0)) then (
          s_access_Valid_j1 rec_ l t5 t6 t7 true
        ) else (
          bif (decide (p.Table > 1073741824)) then (
            s_access_Valid_j1 rec_ l t5 t6 t7 true
          ) else (
            bif (decide (p.Column < (-1))) then (
              s_access_Valid_j1 rec_ l t5 t6 t7 true
            ) else (
              s_access_Valid_j1 rec_ l t5 t6 t7 (decide (p.Column ≥ 64))
            )
          )
        )
      )
    )
  ) else (
    some (.brk l)
  )

def s_access_Valid_l1 : Nat → (List G_api_Permission) → (List G_api_Permission) → Int → Int → Option (Out (List G_api_Permission) Bool)
  | 0, _, _, _, _ => none
  | n_ + 1, l, t5, t6, t7 => s_access_Valid_l1_b (s_access_Valid_l1 n_) l t5 t6 t7

def s_access_Valid_l1_F (n : Nat) (s : ((List G_api_Permission) × (List G_api_Permission) × Int × Int)) : Option (Out (List G_api_Permission) Bool) := s_access_Valid_l1 n s.1 s.2.1 s.2.2.1 s.2.2.2
def s_access_Valid_l1_B (rec_ : ((List G_api_Permission) × (List G_api_Permission) × Int × Int) → Option (Out (List G_api_Permission) Bool)) (s : ((List G_api_Permission) × (List G_api_Permission) × Int × Int)) : Option (Out (List G_api_Permission) Bool) := s_access_Valid_l1_b (fun l t5 t6 t7 => rec_ (l, t5, t6, t7)) s.1 s.2.1 s.2.2.1 s.2.2.2
theorem s_access_Valid_l1_FB : ∀ n s, s_access_Valid_l1_F (n + 1) s = s_access_Valid_l1_B (s_access_Valid_l1_F n) s := fun _ _ => rfl

def s_access_Valid (l : (List G_api_Permission)) : Option Bool :=
  (s_access_Valid_l1 big l l (l.length : Int) (0 : Int)).bind fun
    | .ret q_ => some q_
    | .brk x0 => s_access_Valid_k2 x0

/-! ### tablefinder/tablefinderlaw42.awake -/

def s_tablefinderlaw42_awake_j1 (t0 : Bool) : Option Bool :=
  some t0

def s_tablefinderlaw42_awake  : Option Bool :=
  (s_access_Visible ([(G_api_Permission.mk ([117] : Str) true 0 (-1)), (G_api_Permission.mk ([117] : Str) false 7 0)] : (List G_api_Permission)) ([117] : Str) ([(G_api_Table.mk 7 ([] : Str) ([(G_api_Column.mk ([110] : Str) ([(G_api_Cell.mk false ([120] : Str))] : (List G_api_Cell))), (G_api_Column.mk ([110] : Str) ([(G_api_Cell.mk false ([120] : Str))] : (List G_api_Cell)))] : (List G_api_Column)))] : (List G_api_Table))).bind fun v_ =>
  (s_access_Valid ([(G_api_Permission.mk ([117] : Str) true 0 (-1)), (G_api_Permission.mk ([117] : Str) false 7 0)] : (List G_api_Permission))).bind fun q =>
  bif q then (
    (s_access_May ([(G_api_Permission.mk ([117] : Str) true 0 (-1)), (G_api_Permission.mk ([117] : Str) false 7 0)] : (List G_api_Permission)) ([117] : Str) (G_api_Ref.mk 7 0)).bind fun q_1 =>
    bif (!q_1) then (
      (s_access_May ([(G_api_Permission.mk ([117] : Str) true 0 (-1)), (G_api_Permission.mk ([117] : Str) false 7 0)] : (List G_api_Permission)) ([117] : Str) (G_api_Ref.mk 7 1)).bind fun q_2 =>
      bif q_2 then (
        (s_access_May ([(G_api_Permission.mk ([117] : Str) true 0 (-1)), (G_api_Permission.mk ([117] : Str) false 7 0)] : (List G_api_Permission)) ([118] : Str) (G_api_Ref.mk 1 0)).bind fun q_3 =>
        bif (!q_3) then (
          bif ((v_.length : Int) == 1) then (
            chk (inR 0 (v_.length : Int)) <|
            (v_[((0 : Int)).toNat]?).bind fun v__e =>
            (idx v__e.Columns 0).bind fun Column =>
            (idx Column.Cells 0).bind fun Cell =>
            bif Cell.Null then (
              chk (inR 0 (v_.length : Int)) <|
              (v_[((0 : Int)).toNat]?).bind fun v__e_1 =>
              (idx v__e_1.Columns 1).bind fun Column_1 =>
              s_tablefinderlaw42_awake_j1 (Column_1.Name == ([110] : Str))
            ) else (
              s_tablefinderlaw42_awake_j1 false
            )
          ) else (
            s_tablefinderlaw42_awake_j1 false
          )
        ) else (
          s_tablefinderlaw42_awake_j1 false
        )
      ) else (
        s_tablefinderlaw42_awake_j1 false
      )
    ) else (
      s_tablefinderlaw42_awake_j1 false
    )
  ) else (
    s_tablefinderlaw42_awake_j1 false
  )

/-! ### tablefinder/tablefinderkit.Roll -/

def s_tablefinderkit_Roll (t : (List Int)) : Option G_tablefinderkit_Dice :=
  some (G_tablefinderkit_Dice.mk t 0)

/-! ### tablefinder/tablefinderkit.Mod -/

def s_tablefinderkit_Mod (n : Int) (m : Int) : Option Int :=
  bif (decide (m < 1)) then (
    some (0 : Int)
  ) else (
    chk (decide (m ≠ 0)) <|
    chk (inK .i64 ((Int.tmod n m) + m)) <|
    chk (decide (m ≠ 0)) <|
    some (Int.tmod ((Int.tmod n m) + m) m)
  )

/-! ### (*tablefinder/tablefinderkit.Dice).Next -/

def s_tablefinderkit_Dice_Next (d : G_tablefinderkit_Dice) (n : Int) : Option (Int × G_tablefinderkit_Dice) :=
  bif (decide (d.at_ ≥ (d.l.length : Int))) then (
    some (0, d)
  ) else (
    chk (inK .i64 (d.at_ + 1)) <|
    chk (inK .i64 ((d.at_ + 1) - 1)) <|
    (idx d.l ((d.at_ + 1) - 1)).bind fun l_e =>
    (s_tablefinderkit_Mod l_e n).bind fun q =>
    some (q, (G_tablefinderkit_Dice.mk d.l (d.at_ + 1)))
  )

/-! ### (*tablefinder/tablefinderkit.Dice).Word -/

def s_tablefinderkit_Dice_Word (d : G_tablefinderkit_Dice) (l : (List Str)) : Option (Str × G_tablefinderkit_Dice) :=
  (s_tablefinderkit_Dice_Next d (l.length : Int)).bind fun (q, t6) =>
  (idx l q).bind fun l_e =>
  some (l_e, t6)

/-! ### tablefinder/tablefinderkit.Cell -/

def s_tablefinderkit_Cell (d : G_tablefinderkit_Dice) : Option (G_api_Cell × G_tablefinderkit_Dice) :=
  (s_tablefinderkit_Dice_Next d 7).bind fun (q, t3) =>
  bif (q == 1) then (
    some ((G_api_Cell.mk true ([] : Str)), t3)
  ) else (
    (s_tablefinderkit_Dice_Word t3 ([([97] : Str), ([98] : Str), ([99] : Str), ([49] : Str), ([50] : Str), ([51] : Str), ([49, 48] : Str), ([120] : Str), ([45, 49, 46, 53] : Str), ([50] : Str)] : (List Str))).bind fun (q_1, t7) =>
    some ((G_api_Cell.mk false q_1), t7)
  )

/-! ### strconv.Itoa -/

def s_strconv_Itoa (n : Int) : Option Str :=
  some (Lib.itoa n)

/-! ### tablefinder/tablefinderkit.Number -/

def s_tablefinderkit_Number (d : G_tablefinderkit_Dice) : Option (G_api_Cell × G_tablefinderkit_Dice) :=
  (s_tablefinderkit_Dice_Next d 9).bind fun (q, t3) =>
  bif (q == 1) then (
    some ((G_api_Cell.mk true ([] : Str)), t3)
  ) else (
    bif (q == 2) then (
      (s_tablefinderkit_Dice_Word t3 ([([120] : Str), ([] : Str), ([49, 46, 50, 46, 51] : Str), ([49, 46, 53, 48] : Str)] : (List Str))).bind fun (q_1, t10) =>
      some ((G_api_Cell.mk false q_1), t10)
    ) else (
      (s_tablefinderkit_Dice_Next t3 12).bind fun (q_2, t14) =>
      chk (inK .i64 (q_2 - 3)) <|
      (s_strconv_Itoa (q_2 - 3)).bind fun q_3 =>
      some ((G_api_Cell.mk false q_3), t14)
    )
  )

/-! ### tablefinder/tablefinderkit.Column -/

def s_tablefinderkit_Column_k2 (d : G_tablefinderkit_Dice) (t4 : Str) (c : Str) (t4_1 : (List G_api_Cell)) (c_1 : (List G_api_Cell)) : Option (G_api_Column × G_tablefinderkit_Dice) :=
  some ((G_api_Column.mk c c_1), d)

def s_tablefinderkit_Column_j1 (rec_ : Int → Int → Int → G_tablefinderkit_Dice → Str → Str → (List G_api_Cell) → (List G_api_Cell) → Option (G_tablefinderkit_Dice × Str × Str × (List G_api_Cell) × (List G_api_Cell))) (kind : Int) (t15 : Int) (i : Int) (d : G_tablefinderkit_Dice) (t4 : Str) (c : Str) (x_ : G_api_Cell) (t4_1 : (List G_api_Cell)) (c_1 : (List G_api_Cell)) : Option (G_tablefinderkit_Dice × Str × Str × (List G_api_Cell) × (List G_api_Cell)) :=
  chk (room (c_1.length + ([x_] : (List G_api_Cell)).length) 24) <|
  chk (inK .i64 (i + 1)) <|
  rec_ kind t15 (i + 1) d t4 c t4_1 (c_1 ++ ([x_] : (List G_api_Cell)))

def s_tablefinderkit_Column_l1_b (rec_ : Int → Int → Int → G_tablefinderkit_Dice → Str → Str → (List G_api_Cell) → (List G_api_Cell) → Option (G_tablefinderkit_Dice × Str × Str × (List G_api_Cell) × (List G_api_Cell))) (kind : Int) (t15 : Int) (i : Int) (d : G_tablefinderkit_Dice) (t4 : Str) (c : Str) (t4_1 : (List G_api_Cell)) (c_1 : (List G_api_Cell)) : Option (G_tablefinderkit_Dice × Str × Str × (List G_api_Cell) × (List G_api_Cell)) :=
  bif (decide (i < t15)) then (
    (s_tablefinderkit_Cell d).bind fun (x_, t19) =>
    bif (kind == 0) then (
      (s_tablefinderkit_Number t19).bind fun (x__1, t24) =>
      s_tablefinderkit_Column_j1 rec_ kind t15 i t24 t4 c x__1 t4_1 c_1
    ) else (
      bif (kind == 1) then (
        (s_strconv_Itoa i).bind fun q =>
        chk (decide (([107] : Str).length + q.length ≤ maxInt)) <|
        s_tablefinderkit_Column_j1 rec_ kind t15 i t19 t4 c (G_api_Cell.mk false (([107] : Str) ++ q)) t4_1 c_1
      ) else (
        bif (kind == 2) then (
          (s_tablefinderkit_Dice_Word t19 ([([97] : Str), ([98] : Str), ([99] : Str), ([100] : Str)] : (List Str))).bind fun (q_1, t34) =>
          s_tablefinderkit_Column_j1 rec_ kind t15 i t34 t4 c (G_api_Cell.mk false q_1) t4_1 c_1
        ) else (
          s_tablefinderkit_Column_j1 rec_ kind t15 i t19 t4 c x_ t4_1 c_1
        )
      )
    )
  ) else (
    some (d, t4, c, t4_1, c_1)
  )

def s_tablefinderkit_Column_l1 : Nat → Int → Int → Int → G_tablefinderkit_Dice → Str → Str → (List G_api_Cell) → (List G_api_Cell) → Option (G_tablefinderkit_Dice × Str × Str × (List G_api_Cell) × (List G_api_Cell))
  | 0, _, _, _, _, _, _, _, _ => none
  | n_ + 1, kind, t15, i, d, t4, c, t4_1, c_1 => s_tablefinderkit_Column_l1_b (s_tablefinderkit_Column_l1 n_) kind t15 i d t4 c t4_1 c_1

def s_tablefinderkit_Column (d : G_tablefinderkit_Dice) (rows : Int) : Option (G_api_Column × G_tablefinderkit_Dice) :=
  (s_tablefinderkit_Dice_Word d ([([105, 100] : Str), ([110, 97, 109, 101] : Str), ([85, 110, 105, 116, 32, 80, 114, 105, 99, 101] : Str), ([99, 105, 116, 121] : Str), ([117, 110, 105, 116] : Str), ([112, 114, 105, 99, 101] : Str), ([105, 100, 50] : Str), ([] : Str)] : (List Str))).bind fun (q, t9) =>
  (s_tablefinderkit_Dice_Next t9 5).bind fun (kind, t13) =>
  (s_tablefinderkit_Column_l1 big kind rows (0 : Int) t13 ([] : Str) q ([] : (List G_api_Cell)) ([] : (List G_api_Cell))).bind fun (x0, x1, x2, x3, x4) => s_tablefinderkit_Column_k2 x0 x1 x2 x3 x4

/-! ### tablefinder/tablefinderkit.Table -/

def s_tablefinderkit_Table_j2 (d : G_tablefinderkit_Dice) (t4 : Int) (t4_1 : Str) (t : Int) (t_1 : Str) (t4_2 : (List G_api_Column)) (t_2 : (List G_api_Column)) : Option (G_api_Table × G_tablefinderkit_Dice) :=
  some ((G_api_Table.mk t t_1 t_2), d)

def s_tablefinderkit_Table_k1 (d : G_tablefinderkit_Dice) (t4 : Int) (t4_1 : Str) (t : Int) (t_1 : Str) (t4_2 : (List G_api_Column)) (t_2 : (List G_api_Column)) : Option (G_api_Table × G_tablefinderkit_Dice) :=
  (s_tablefinderkit_Dice_Next d 15).bind fun (q, t30) =>
  bif (q == 1) then (
    s_tablefinderkit_Table_j2 t30 t4 t4_1 t t_1 t4_2 ([] : (List G_api_Column))
  ) else (
    s_tablefinderkit_Table_j2 t30 t4 t4_1 t t_1 t4_2 t_2
  )

def s_tablefinderkit_Table_l1_b (rec_ : Int → Int → G_tablefinderkit_Dice → Int → Str → Int → Str → (List G_api_Column) → (List G_api_Column) → Option (G_tablefinderkit_Dice × Int × Str × Int × Str × (List G_api_Column) × (List G_api_Column))) (rows : Int) (k : Int) (d : G_tablefinderkit_Dice) (t4 : Int) (t4_1 : Str) (t : Int) (t_1 : Str) (t4_2 : (List G_api_Column)) (t_2 : (List G_api_Column)) : Option (G_tablefinderkit_Dice × Int × Str × Int × Str × (List G_api_Column) × (List G_api_Column)) :=
  bif (decide (k > 0)) then (
    (s_tablefinderkit_Column d rows).bind fun (q, t24) =>
    chk (room (t_2.length + ([q] : (List G_api_Column)).length) 40) <|
    chk (inK .i64 (k - 1)) <|
    rec_ rows (k - 1) t24 t4 t4_1 t t_1 t4_2 (t_2 ++ ([q] : (List G_api_Column)))
  ) else (
    some (d, t4, t4_1, t, t_1, t4_2, t_2)
  )

def s_tablefinderkit_Table_l1 : Nat → Int → Int → G_tablefinderkit_Dice → Int → Str → Int → Str → (List G_api_Column) → (List G_api_Column) → Option (G_tablefinderkit_Dice × Int × Str × Int × Str × (List G_api_Column) × (List G_api_Column))
  | 0, _, _, _, _, _, _, _, _, _ => none
  | n_ + 1, rows, k, d, t4, t4_1, t, t_1, t4_2, t_2 => s_tablefinderkit_Table_l1_b (s_tablefinderkit_Table_l1 n_) rows k d t4 t4_1 t t_1 t4_2 t_2

def s_tablefinderkit_Table (d : G_tablefinderkit_Dice) (id : Int) : Option (G_api_Table × G_tablefinderkit_Dice) :=
  (s_tablefinderkit_Dice_Word d ([([116] : Str), ([111, 114, 100, 101, 114, 115] : Str), ([] : Str)] : (List Str))).bind fun (q, t9) =>
  (s_tablefinderkit_Dice_Next t9 7).bind fun (rows, t13) =>
  (s_tablefinderkit_Dice_Next t13 3).bind fun (q_1, t15) =>
  chk (inK .i64 (1 + q_1)) <|
  (s_tablefinderkit_Table_l1 big rows (1 + q_1) t15 (0 : Int) ([] : Str) id q ([] : (List G_api_Column)) ([] : (List G_api_Column))).bind fun (x0, x1, x2, x3, x4, x5, x6) => s_tablefinderkit_Table_k1 x0 x1 x2 x3 x4 x5 x6

/-! ### tablefinder/tablefinderkit.Op -/

def s_tablefinderkit_Op_j6 (d : G_tablefinderkit_Dice) (t4 : Int) (t4_1 : Int) (t4_2 : Str) (t4_3 : (List Int)) : Option (G_api_Op × G_tablefinderkit_Dice) :=
  some ((G_api_Op.mk t4 t4_1 t4_2 t4_3), d)

def s_tablefinderkit_Op_j5 (d : G_tablefinderkit_Dice) (t4 : Int) (t4_1 : Int) (t4_2 : Str) (o : Int) (o_1 : Int) (o_2 : Str) (t4_3 : (List Int)) (o_3 : (List Int)) : Option (G_api_Op × G_tablefinderkit_Dice) :=
  s_tablefinderkit_Op_j6 d o o_1 o_2 o_3

def s_tablefinderkit_Op_k4 (d : G_tablefinderkit_Dice) (t4 : Int) (t4_1 : Int) (t4_2 : Str) (o : Int) (o_1 : Int) (o_2 : Str) (t4_3 : (List Int)) (o_3 : (List Int)) : Option (G_api_Op × G_tablefinderkit_Dice) :=
  s_tablefinderkit_Op_j6 d o o_1 o_2 o_3

def s_tablefinderkit_Op_j3 (rec_ : Int → Int → G_tablefinderkit_Dice → Int → Int → Str → Int → Int → Str → (List Int) → (List Int) → Option (G_tablefinderkit_Dice × Int × Int × Str × Int × Int × Str × (List Int) × (List Int))) (n : Int) (k : Int) (t83 : Bool) (d : G_tablefinderkit_Dice) (t4 : Int) (t4_1 : Int) (t4_2 : Str) (o : Int) (o_1 : Int) (o_2 : Str) (t4_3 : (List Int)) (o_3 : (List Int)) : Option (G_tablefinderkit_Dice × Int × Int × Str × Int × Int × Str × (List Int) × (List Int)) :=
  bif t83 then (
    (s_tablefinderkit_Dice_Next d n).bind fun (q, t88) =>
    chk (room (o_3.length + ([q] : (List Int)).length) 8) <|
    chk (inK .i64 (k - 1)) <|
    rec_ n (k - 1) t88 t4 t4_1 t4_2 o o_1 o_2 t4_3 (o_3 ++ ([q] : (List Int)))
  ) else (
    some (d, t4, t4_1, t4_2, o, o_1, o_2, t4_3, o_3)
  )

def s_tablefinderkit_Op_l1_b (rec_ : Int → Int → G_tablefinderkit_Dice → Int → Int → Str → Int → Int → Str → (List Int) → (List Int) → Option (G_tablefinderkit_Dice × Int × Int × Str × Int × Int × Str × (List Int) × (List Int))) (n : Int) (k : Int) (d : G_tablefinderkit_Dice) (t4 : Int) (t4_1 : Int) (t4_2 : Str) (o : Int) (o_1 : Int) (o_2 : Str) (t4_3 : (List Int)) (o_3 : (List Int)) : Option (G_tablefinderkit_Dice × Int × Int × Str × Int × Int × Str × (List Int) × (List Int)) :=
  bif (decide (k > 0)) then (
    s_tablefinderkit_Op_j3 rec_ n k (decide (n > 0)) d t4 t4_1 t4_2 o o_1 o_2 t4_3 o_3
  ) else (
    s_tablefinderkit_Op_j3 rec_ n k false d t4 t4_1 t4_2 o o_1 o_2 t4_3 o_3
  )

def s_tablefinderkit_Op_l1 : Nat → Int → Int → G_tablefinderkit_Dice → Int → Int → Str → Int → Int → Str → (List Int) → (List Int) → Option (G_tablefinderkit_Dice × Int × Int × Str × Int × Int × Str × (List Int) × (List Int))
  | 0, _, _, _, _, _, _, _, _, _, _, _ => none
  | n_ + 1, n, k, d, t4, t4_1, t4_2, o, o_1, o_2, t4_3, o_3 => s_tablefinderkit_Op_l1_b (s_tablefinderkit_Op_l1 n_) n k d t4 t4_1 t4_2 o o_1 o_2 t4_3 o_3

def s_tablefinderkit_Op_l1_F (n : Nat) (s : (Int × Int × G_tablefinderkit_Dice × Int × Int × Str × Int × Int × Str × (List Int) × (List Int))) : Option (G_tablefinderkit_Dice × Int × Int × Str × Int × Int × Str × (List Int) × (List Int)) := s_tablefinderkit_Op_l1 n s.1 s.2.1 s.2.2.1 s.2.2.2.1 s.2.2.2.2.1 s.2.2.2.2.2.1 s.2.2.2.2.2.2.1 s.2.2.2.2.2.2.2.1 s.2.2.2.2.2.2.2.2.1 s.2.2.2.2.2.2.2.2.2.1 s.2.2.2.2.2.2.2.2.2.2
def s_tablefinderkit_Op_l1_B (rec_ : (Int × Int × G_tablefinderkit_Dice × Int × Int × Str × Int × Int × Str × (List Int) × (List Int)) → Option (G_tablefinderkit_Dice × Int × Int × Str × Int × Int × Str × (List Int) × (List Int))) (s : (Int × Int × G_tablefinderkit_Dice × Int × Int × Str × Int × Int × Str × (List Int) × (List Int))) : Option (G_tablefinderkit_Dice × Int × Int × Str × Int × Int × Str × (List Int) × (List Int)) := s_tablefinderkit_Op_l1_b (fun n k d t4 t4_1 t4_2 o o_1 o_2 t4_3 o_3 => rec_ (n, k, d, t4, t4_1, t4_2, o, o_1, o_2, t4_3, o_3)) s.1 s.2.1 s.2.2.1 s.2.2.2.1 s.2.2.2.2.1 s.2.2.2.2.2.1 s.2.2.2.2.2.2.1 s.2.2.2.2.2.2.2.1 s.2.2.2.2.2.2.2.2.1 s.2.2.2.2.2.2.2.2.2.1 s.2.2.2.2.2.2.2.2.2.2
theorem s_tablefinderkit_Op_l1_FB : ∀ n s, s_tablefinderkit_Op_l1_F (n + 1) s = s_tablefinderkit_Op_l1_B (s_tablefinderkit_Op_l1_F n) s := fun _ _ => rfl

def s_tablefinderkit_Op_j2 (n : Int) (t16 : Int) (t66 : Bool) (d : G_tablefinderkit_Dice) (t4 : Int) (t4_1 : Int) (t4_2 : Str) (o : Int) (o_1 : Int) (o_2 : Str) (t4_3 : (List Int)) (o_3 : (List Int)) : Option (G_api_Op × G_tablefinderkit_Dice) :=
  bif t66 then (
    (s_tablefinderkit_Dice_Next d n).bind fun (q, t69) =>
    s_tablefinderkit_Op_j5 t69 t4 t4_1 t4_2 o q o_2 t4_3 o_3
  ) else (
    bif (t16 == 3) then (
      (s_tablefinderkit_Dice_Next d 3).bind fun (q_1, t75) =>
      chk (inK .i64 (1 + q_1)) <|
      (s_tablefinderkit_Op_l1 big n (1 + q_1) t75 t4 t4_1 t4_2 o o_1 o_2 t4_3 o_3).bind fun (x0, x1, x2, x3, x4, x5, x6, x7, x8) => s_tablefinderkit_Op_k4 x0 x1 x2 x3 x4 x5 x6 x7 x8
    ) else (
      s_tablefinderkit_Op_j5 d t4 t4_1 t4_2 o o_1 o_2 t4_3 o_3
    )
  )

def s_tablefinderkit_Op_j1 (t44 : Bool) (d : G_tablefinderkit_Dice) (t : G_api_Table) (t4 : Int) (t4_1 : Int) (t4_2 : Str) (o : Int) (o_1 : Int) (o_2 : Str) (t4_3 : (List Int)) (o_3 : (List Int)) : Option (G_api_Op × G_tablefinderkit_Dice) :=
  bif t44 then (
    (idx t.Columns o_1).bind fun Column =>
    (idx t.Columns o_1).bind fun Column_1 =>
    (s_tablefinderkit_Dice_Next d (Column_1.Cells.length : Int)).bind fun (q, t52) =>
    (idx Column.Cells q).bind fun Cell =>
    s_tablefinderkit_Op_j5 t52 t4 t4_1 t4_2 o o_1 Cell.Text t4_3 o_3
  ) else (
    s_tablefinderkit_Op_j5 d t4 t4_1 t4_2 o o_1 o_2 t4_3 o_3
  )

def s_tablefinderkit_Op (d : G_tablefinderkit_Dice) (t : G_api_Table) : Option (G_api_Op × G_tablefinderkit_Dice) :=
  (s_tablefinderkit_Dice_Next d 5).bind fun (q, t8) =>
  chk (inK .i64 (1 + q)) <|
  bif ((1 + q) == 1) then (
    (s_tablefinderkit_Dice_Next t8 (t.Columns.length : Int)).bind fun (q_1, t19) =>
    (s_tablefinderkit_Dice_Word t19 ([([97] : Str), ([98] : Str), ([49] : Str), ([50] : Str), ([107, 48] : Str), ([] : Str)] : (List Str))).bind fun (q_2, t23) =>
    bif (decide ((t.Columns.length : Int) > 0)) then (
      (idx t.Columns q_1).bind fun Column =>
      bif (decide ((Column.Cells.length : Int) > 0)) then (
        (s_tablefinderkit_Dice_Next t23 3).bind fun (q_3, t41) =>
        s_tablefinderkit_Op_j1 (decide (q_3 > 0)) t41 t (0 : Int) (0 : Int) ([] : Str) (1 + q) q_1 q_2 ([] : (List Int)) ([] : (List Int))
      ) else (
        s_tablefinderkit_Op_j1 false t23 t (0 : Int) (0 : Int) ([] : Str) (1 + q) q_1 q_2 ([] : (List Int)) ([] : (List Int))
      )
    ) else (
      s_tablefinderkit_Op_j1 false t23 t (0 : Int) (0 : Int) ([] : Str) (1 + q) q_1 q_2 ([] : (List Int)) ([] : (List Int))
    )
  ) else (
    bif ((1 + q) == 2) then (
      s_tablefinderkit_Op_j2 (t.Columns.length : Int) (1 + q) ((1 + q) == 2) t8 (0 : Int) (0 : Int) ([] : Str) (1 + q) (0 : Int) ([] : Str) ([] : (List Int)) ([] : (List Int))
    ) else (
      s_tablefinderkit_Op_j2 (t.Columns.length : Int) (1 + q) ((1 + q) == 5) t8 (0 : Int) (0 : Int) ([] : Str) (1 + q) (0 : Int) ([] : Str) ([] : (List Int)) ([] : (List Int))
    )
  )

/-! ### unicode/utf8.word[string] -/

def s_unicode_utf8_word_string (s : Str) : Option Int :=
  (idx s 0).bind fun c =>
  (idx s 1).bind fun c_1 =>
  chk (decide (0 ≤ (8 : Int))) <|
  (idx s 2).bind fun c_2 =>
  chk (decide (0 ≤ (16 : Int))) <|
  (idx s 3).bind fun c_3 =>
  chk (decide (0 ≤ (24 : Int))) <|
  (idx s 4).bind fun c_4 =>
  chk (decide (0 ≤ (32 : Int))) <|
  (idx s 5).bind fun c_5 =>
  chk (decide (0 ≤ (40 : Int))) <|
  (idx s 6).bind fun c_6 =>
  chk (decide (0 ≤ (48 : Int))) <|
  (idx s 7).bind fun c_7 =>
  chk (decide (0 ≤ (56 : Int))) <|
  some (orK .u64 (orK .u64 (orK .u64 (orK .u64 (orK .u64 (orK .u64 (orK .u64 (IntKind.wrap .u64 ((c.toNat : Nat) : Int)) (shlK .u64 (IntKind.wrap .u64 ((c_1.toNat : Nat) : Int)) 8)) (shlK .u64 (IntKind.wrap .u64 ((c_2.toNat : Nat) : Int)) 16)) (shlK .u64 (IntKind.wrap .u64 ((c_3.toNat : Nat) : Int)) 24)) (shlK .u64 (IntKind.wrap .u64 ((c_4.toNat : Nat) : Int)) 32)) (shlK .u64 (IntKind.wrap .u64 ((c_5.toNat : Nat) : Int)) 40)) (shlK .u64 (IntKind.wrap .u64 ((c_6.toNat : Nat) : Int)) 48)) (shlK .u64 (IntKind.wrap .u64 ((c_7.toNat : Nat) : Int)) 56))

/-! ### unicode/utf8.ValidString -/

def s_unicode_utf8_ValidString_k9  : Option Bool :=
  some true

def s_unicode_utf8_ValidString_j8 (rec_ : Str → Option (Out Unit Bool)) (s : Str) (t166 : Bool) : Option (Out Unit Bool) :=
  bif t166 then (
    some (.ret false)
  ) else (
    chk (within 4 (s.length : Int) (s.length : Int)) <|
    rec_ (s.drop ((4 : Int)).toNat)
  )

def s_unicode_utf8_ValidString_j7 (rec_ : Str → Option (Out Unit Bool)) (s : Str) (t125 : Bool) : Option (Out Unit Bool) :=
  bif t125 then (
    some (.ret false)
  ) else (
    chk (within 3 (s.length : Int) (s.length : Int)) <|
    rec_ (s.drop ((3 : Int)).toNat)
  )

def s_unicode_utf8_ValidString_j6 (rec_ : Str → Option (Out Unit Bool)) (s : Str) (t94 : Bool) : Option (Out Unit Bool) :=
  bif t94 then (
    some (.ret false)
  ) else (
    chk (within 2 (s.length : Int) (s.length : Int)) <|
    rec_ (s.drop ((2 : Int)).toNat)
  )

def s_unicode_utf8_ValidString_j5 (rec_ : Str → Option (Out Unit Bool)) (s : Str) : Option (Out Unit Bool) :=
  rec_ s

def s_unicode_utf8_ValidString_k4 (rec_ : Str → Option (Out Unit Bool)) (s : Str) : Option (Out Unit Bool) :=
  rec_ s

def s_unicode_utf8_ValidString_j3 (rec_ : Str → Option Str) (s : Str) (t62 : Bool) : Option Str :=
  bif t62 then (
    chk (within 32 (s.length : Int) (s.length : Int)) <|
    rec_ (s.drop ((32 : Int)).toNat)
  ) else (
    some s
  )

def s_unicode_utf8_ValidString_l2_b (rec_ : Str → Option Str) (s : Str) : Option Str :=
  bif (decide ((s.length : Int) > 32)) then (
    (s_unicode_utf8_word_string s).bind fun q =>
    chk (within 8 (s.length : Int) (s.length : Int)) <|
    (s_unicode_utf8_word_string (s.drop ((8 : Int)).toNat)).bind fun q_1 =>
    chk (within 16 (s.length : Int) (s.length : Int)) <|
    (s_unicode_utf8_word_string (s.drop ((16 : Int)).toNat)).bind fun q_2 =>
    chk (within 24 (s.length : Int) (s.length : Int)) <|
    (s_unicode_utf8_word_string (s.drop ((24 : Int)).toNat)).bind fun q_3 =>
    s_unicode_utf8_ValidString_j3 rec_ s ((andK .u64 (orK .u64 (orK .u64 q q_1) (orK .u64 q_2 q_3)) 9259542123273814144) == 0)
  ) else (
    s_unicode_utf8_ValidString_j3 rec_ s false
  )

def s_unicode_utf8_ValidString_l2 : Nat → Str → Option Str
  | 0, _ => none
  | n_ + 1, s => s_unicode_utf8_ValidString_l2_b (s_unicode_utf8_ValidString_l2 n_) s

def s_unicode_utf8_ValidString_j2 (rec_ : Str → Option (Out Unit Bool)) (s : Str) (t39 : Bool) : Option (Out Unit Bool) :=
  bif t39 then (
    chk (within 16 (s.length : Int) (s.length : Int)) <|
    (s_unicode_utf8_ValidString_l2 big (s.drop ((16 : Int)).toNat)).bind fun x0 => s_unicode_utf8_ValidString_k4 rec_ x0
  ) else (
    s_unicode_utf8_ValidString_j5 rec_ s
  )

def s_unicode_utf8_ValidString_j1 (rec_ : Str → Option (Out Unit Bool)) (s : Str) (t24 : Bool) : Option (Out Unit Bool) :=
  bif t24 then (
    chk (within 8 (s.length : Int) (s.length : Int)) <|
    bif (decide (((s.drop ((8 : Int)).toNat).length : Int) > 16)) then (
      (s_unicode_utf8_word_string (s.drop ((8 : Int)).toNat)).bind fun q =>
      chk (within 8 ((s.drop ((8 : Int)).toNat).length : Int) ((s.drop ((8 : Int)).toNat).length : Int)) <|
      (s_unicode_utf8_word_string ((s.drop ((8 : Int)).toNat).drop ((8 : Int)).toNat)).bind fun q_1 =>
      s_unicode_utf8_ValidString_j2 rec_ (s.drop ((8 : Int)).toNat) ((andK .u64 (orK .u64 q q_1) 9259542123273814144) == 0)
    ) else (
      s_unicode_utf8_ValidString_j2 rec_ (s.drop ((8 : Int)).toNat) false
    )
  ) else (
    s_unicode_utf8_ValidString_j5 rec_ s
  )

def s_unicode_utf8_ValidString_l1_b (rec_ : Str → Option (Out Unit Bool)) (s : Str) : Option (Out Unit Bool) :=
  bif (decide ((s.length : Int) > 0)) then (
    (idx s 0).bind fun c =>
    bif (decide (((c.toNat : Nat) : Int) < 128)) then (
      chk (within 1 (s.length : Int) (s.length : Int)) <|
      bif (decide (((s.drop ((1 : Int)).toNat).length : Int) > 8)) then (
        (s_unicode_utf8_word_string (s.drop ((1 : Int)).toNat)).bind fun q =>
        s_unicode_utf8_ValidString_j1 rec_ (s.drop ((1 : Int)).toNat) ((andK .u64 q 9259542123273814144) == 0)
      ) else (
        s_unicode_utf8_ValidString_j1 rec_ (s.drop ((1 : Int)).toNat) false
      )
    ) else (
      chk (inR ((c.toNat : Nat) : Int) 256) <|
      (tabB (car := carU) (.int .u8) glob_utf8_first ((((c.toNat : Nat) : Int)).toNat * 1)).bind fun c_1 =>
      chk (decide (0 ≤ (4 : Int))) <|
      chk (inR (shrK .u8 c_1 4) 16) <|
      (tabB (car := carU) (.int .u8) glob_utf8_acceptRanges (((shrK .u8 c_1 4)).toNat * 2)).bind fun c_2 =>
      (tabB (car := carU) (.int .u8) glob_utf8_acceptRanges (((shrK .u8 c_1 4)).toNat * 2 + 1)).bind fun c_3 =>
      bif ((IntKind.wrap .i64 (andK .u8 c_1 7)) == 2) then (
        bif (decide ((s.length : Int) < 2)) then (
          s_unicode_utf8_ValidString_j6 rec_ s true
        ) else (
          (idx s 1).bind fun c_4 =>
          bif (decide (((c_4.toNat : Nat) : Int) < c_2)) then (
            s_unicode_utf8_ValidString_j6 rec_ s true
          ) else (
            (idx s 1).bind fun c_5 =>
            s_unicode_utf8_ValidString_j6 rec_ s (decide (c_3 < ((c_5.toNat : Nat) : Int)))
          )
        )
      ) else (
        bif ((IntKind.wrap .i64 (andK .u8 c_1 7)) == 3) then (
          bif (decide ((s.length : Int) < 3)) then (
            s_unicode_utf8_ValidString_j7 rec_ s true
          ) else (
            (idx s 1).bind fun c_6 =>
            bif (decide (((c_6.toNat : Nat) : Int) < c_2)) then (
              s_unicode_utf8_ValidString_j7 rec_ s true
            ) else (
              (idx s 1).bind fun c_7 =>
              bif (decide (c_3 < ((c_7.toNat : Nat) : Int))) then (
                s_unicode_utf8_ValidString_j7 rec_ s true
              ) else (
                (idx s 2).bind fun c_8 =>
                bif (decide (((c_8.toNat : Nat) : Int) < 128)) then (
                  s_unicode_utf8_ValidString_j7 rec_ s true
                ) else (
                  (idx s 2).bind fun c_9 =>
                  s_unicode_utf8_ValidString_j7 rec_ s (decide ((191 : Int) < ((c_9.toNat : Nat) : Int)))
                )
              )
            )
          )
        ) else (
          bif ((IntKind.wrap .i64 (andK .u8 c_1 7)) == 4) then (
            bif (decide ((s.length : Int) < 4)) then (
              s_unicode_utf8_ValidString_j8 rec_ s true
            ) else (
              (idx s 1).bind fun c_10 =>
              bif (decide (((c_10.toNat : Nat) : Int) < c_2)) then (
                s_unicode_utf8_ValidString_j8 rec_ s true
              ) else (
                (idx s 1).bind fun c_11 =>
                bif (decide (c_3 < ((c_11.toNat : Nat) : Int))) then (
                  s_unicode_utf8_ValidString_j8 rec_ s true
                ) else (
                  (idx s 2).bind fun c_12 =>
                  bif (decide (((c_12.toNat : Nat) : Int) < 128)) then (
                    s_unicode_utf8_ValidString_j8 rec_ s true
                  ) else (
                    (idx s 2).bind fun c_13 =>
                    bif (decide ((191 : Int) < ((c_13.toNat : Nat) : Int))) then (
                      s_unicode_utf8_ValidString_j8 rec_ s true
                    ) else (
                      (idx s 3).bind fun c_14 =>
                      bif (decide (((c_14.toNat : Nat) : Int) < 128)) then (
                        s_unicode_utf8_ValidString_j8 rec_ s true
                      ) else (
                        (idx s 3).bind fun c_15 =>
                        s_unicode_utf8_ValidString_j8 rec_ s (decide ((191 : Int) < ((c_15.toNat : Nat) : Int)))
                      )
                    )
                  )
                )
              )
            )
          ) else (
            some (.ret false)
          )
        )
      )
    )
  ) else (
    some (.brk ())
  )

def s_unicode_utf8_ValidString_l1 : Nat → Str → Option (Out Unit Bool)
  | 0, _ => none
  | n_ + 1, s => s_unicode_utf8_ValidString_l1_b (s_unicode_utf8_ValidString_l1 n_) s

def s_unicode_utf8_ValidString (s : Str) : Option Bool :=
  (s_unicode_utf8_ValidString_l1 big s).bind fun
    | .ret q_ => some q_
    | .brk () => s_unicode_utf8_ValidString_k9

/-! ### tablefinder/tablefinderref02.Valid -/

def s_tablefinderref02_Valid (s : Str) : Option Bool :=
  (s_unicode_utf8_ValidString s).bind fun q =>
  some q

/-! ### tablefinder/tablefinderref03.name -/

def s_tablefinderref03_name_j1 (t2 : Bool) : Option Bool :=
  some t2

def s_tablefinderref03_name (s : Str) : Option Bool :=
  (s_tablefinderref02_Valid s).bind fun q =>
  bif q then (
    s_tablefinderref03_name_j1 (decide ((s.length : Int) ≤ 1024))
  ) else (
    s_tablefinderref03_name_j1 false
  )

/-! ### tablefinder/tablefinderref03.ValidCell -/

def s_tablefinderref03_ValidCell_j1 (t2 : Bool) : Option Bool :=
  some t2

def s_tablefinderref03_ValidCell (c : G_api_Cell) : Option Bool :=
  (s_tablefinderref02_Valid c.Text).bind fun q =>
  bif q then (
    bif (decide ((c.Text.length : Int) ≤ 1024)) then (
      bif (!c.Null) then (
        s_tablefinderref03_ValidCell_j1 true
      ) else (
        s_tablefinderref03_ValidCell_j1 (c.Text == ([] : Str))
      )
    ) else (
      s_tablefinderref03_ValidCell_j1 false
    )
  ) else (
    s_tablefinderref03_ValidCell_j1 false
  )

/-! ### tablefinder/tablefinderref03.Valid -/

def s_tablefinderref03_Valid_k4  : Option Bool :=
  some true

def s_tablefinderref03_Valid_k3 (rec_ : (List G_api_Column) → Int → Int → G_api_Table → Option (Out Unit Bool)) (t28 : (List G_api_Column)) (t29 : Int) (t30 : Int) (t : G_api_Table) : Option (Out Unit Bool) :=
  chk (inK .i64 (t30 + 1)) <|
  rec_ t28 t29 (t30 + 1) t

def s_tablefinderref03_Valid_l2_b (rec_ : (List G_api_Column) → Int → Int → (List G_api_Cell) → Int → Int → G_api_Table → Option (Out ((List G_api_Column) × Int × Int × G_api_Table) Bool)) (t28 : (List G_api_Column)) (t29 : Int) (t30 : Int) (t57 : (List G_api_Cell)) (t58 : Int) (t59 : Int) (t : G_api_Table) : Option (Out ((List G_api_Column) × Int × Int × G_api_Table) Bool) :=
  bif (decide (t59 < t58)) then (
    (idx t57 t59).bind fun x_ =>
    (s_tablefinderref03_ValidCell x_).bind fun q =>
    bif (!q) then (
      some (.ret false)
    ) else (
      chk (inK .i64 (t59 + 1)) <|
      rec_ t28 t29 t30 t57 t58 (t59 + 1) t
    )
  ) else (
    some (.brk (t28, t29, t30, t))
  )

def s_tablefinderref03_Valid_l2 : Nat → (List G_api_Column) → Int → Int → (List G_api_Cell) → Int → Int → G_api_Table → Option (Out ((List G_api_Column) × Int × Int × G_api_Table) Bool)
  | 0, _, _, _, _, _, _, _ => none
  | n_ + 1, t28, t29, t30, t57, t58, t59, t => s_tablefinderref03_Valid_l2_b (s_tablefinderref03_Valid_l2 n_) t28 t29 t30 t57 t58 t59 t

def s_tablefinderref03_Valid_j2 (rec_ : (List G_api_Column) → Int → Int → G_api_Table → Option (Out Unit Bool)) (t28 : (List G_api_Column)) (t29 : Int) (t30 : Int) (t55 : Bool) (t : G_api_Table) (c : G_api_Column) : Option (Out Unit Bool) :=
  bif t55 then (
    some (.ret false)
  ) else (
    (s_tablefinderref03_Valid_l2 big t28 t29 t30 c.Cells (c.Cells.length : Int) (0 : Int) t).bind fun
      | .ret q_ => some (.ret q_)
      | .brk (x0, x1, x2, x3) => s_tablefinderref03_Valid_k3 rec_ x0 x1 x2 x3
  )

def s_tablefinderref03_Valid_l1_b (rec_ : (List G_api_Column) → Int → Int → G_api_Table → Option (Out Unit Bool)) (t28 : (List G_api_Column)) (t29 : Int) (t30 : Int) (t : G_api_Table) : Option (Out Unit Bool) :=
  bif (decide (t30 < t29)) then (
    (idx t28 t30).bind fun c =>
    (s_tablefinderref03_name c.Name).bind fun q =>
    bif (!q) then (
      s_tablefinderref03_Valid_j2 rec_ t28 t29 t30 true t c
    ) else (
      bif (decide ((c.Cells.length : Int) > 4096)) then (
        s_tablefinderref03_Valid_j2 rec_ t28 t29 t30 true t c
      ) else (
        (idx t.Columns 0).bind fun Column =>
        s_tablefinderref03_Valid_j2 rec_ t28 t29 t30 ((c.Cells.length : Int) != (Column.Cells.length : Int)) t c
      )
    )
  ) else (
    some (.brk ())
  )

def s_tablefinderref03_Valid_l1 : Nat → (List G_api_Column) → Int → Int → G_api_Table → Option (Out Unit Bool)
  | 0, _, _, _, _ => none
  | n_ + 1, t28, t29, t30, t => s_tablefinderref03_Valid_l1_b (s_tablefinderref03_Valid_l1 n_) t28 t29 t30 t

def s_tablefinderref03_Valid_j1 (t26 : Bool) (t : G_api_Table) : Option Bool :=
  bif t26 then (
    some false
  ) else (
    (s_tablefinderref03_Valid_l1 big t.Columns (t.Columns.length : Int) (0 : Int) t).bind fun
      | .ret q_ => some q_
      | .brk () => s_tablefinderref03_Valid_k4
  )

def s_tablefinderref03_Valid (t : G_api_Table) : Option Bool :=
  bif (decide (t.ID < 0)) then (
    s_tablefinderref03_Valid_j1 true t
  ) else (
    bif (decide (t.ID > 1073741824)) then (
      s_tablefinderref03_Valid_j1 true t
    ) else (
      (s_tablefinderref03_name t.Name).bind fun q =>
      bif (!q) then (
        s_tablefinderref03_Valid_j1 true t
      ) else (
        s_tablefinderref03_Valid_j1 (decide ((t.Columns.length : Int) > 64)) t
      )
    )
  )

/-! ### tablefinder/tablefinderref38.can -/

def s_tablefinderref38_can_j8 (t4 : Bool) : Option Bool :=
  some t4

def s_tablefinderref38_can_j7 (t4 : Bool) : Option Bool :=
  some t4

def s_tablefinderref38_can_k6 (o : G_api_Op) : Option Bool :=
  bif (o.Column == 0) then (
    bif (o.Text == ([] : Str)) then (
      s_tablefinderref38_can_j7 (decide ((o.Columns.length : Int) ≤ 64))
    ) else (
      s_tablefinderref38_can_j7 false
    )
  ) else (
    s_tablefinderref38_can_j7 false
  )

def s_tablefinderref38_can_j4 (t4 : Bool) : Option Bool :=
  some t4

def s_tablefinderref38_can_j5 (rec_ : (List Int) → Int → Int → G_api_Table → G_api_Op → Option (Out G_api_Op Bool)) (t54 : (List Int)) (t55 : Int) (t56 : Int) (t68 : Bool) (t : G_api_Table) (o : G_api_Op) : Option (Out G_api_Op Bool) :=
  bif t68 then (
    some (.ret false)
  ) else (
    chk (inK .i64 (t56 + 1)) <|
    rec_ t54 t55 (t56 + 1) t o
  )

def s_tablefinderref38_can_l1_b (rec_ : (List Int) → Int → Int → G_api_Table → G_api_Op → Option (Out G_api_Op Bool)) (t54 : (List Int)) (t55 : Int) (t56 : Int) (t : G_api_Table) (o : G_api_Op) : Option (Out G_api_Op Bool) :=
  bif (decide (t56 < t55)) then (
    (idx t54 t56).bind fun k =>
    bif (decide (k < 0)) then (
      s_tablefinderref38_can_j5 rec_ t54 t55 t56 true t o
    ) else (
      s_tablefinderref38_can_j5 rec_ t54 t55 t56 (decide (k ≥ (t.Columns.length : Int))) t o
    )
  ) else (
    some (.brk o)
  )

def s_tablefinderref38_can_l1 : Nat → (List Int) → Int → Int → G_api_Table → G_api_Op → Option (Out G_api_Op Bool)
  | 0, _, _, _, _, _ => none
  | n_ + 1, t54, t55, t56, t, o => s_tablefinderref38_can_l1_b (s_tablefinderref38_can_l1 n_) t54 t55 t56 t o

def s_tablefinderref38_can_l1_F (n : Nat) (s : ((List Int) × Int × Int × G_api_Table × G_api_Op)) : Option (Out G_api_Op Bool) := s_tablefinderref38_can_l1 n s.1 s.2.1 s.2.2.1 s.2.2.2.1 s.2.2.2.2
def s_tablefinderref38_can_l1_B (rec_ : ((List Int) × Int × Int × G_api_Table × G_api_Op) → Option (Out G_api_Op Bool)) (s : ((List Int) × Int × Int × G_api_Table × G_api_Op)) : Option (Out G_api_Op Bool) := s_tablefinderref38_can_l1_b (fun t54 t55 t56 t o => rec_ (t54, t55, t56, t, o)) s.1 s.2.1 s.2.2.1 s.2.2.2.1 s.2.2.2.2
theorem s_tablefinderref38_can_l1_FB : ∀ n s, s_tablefinderref38_can_l1_F (n + 1) s = s_tablefinderref38_can_l1_B (s_tablefinderref38_can_l1_F n) s := fun _ _ => rfl

def s_tablefinderref38_can_j3 (there : Bool) (t20 : Int) (t36 : Bool) (t : G_api_Table) (o : G_api_Op) : Option Bool :=
  bif t36 then (
    bif there then (
      bif ((o.Columns.length : Int) == 0) then (
        s_tablefinderref38_can_j4 (o.Text == ([] : Str))
      ) else (
        s_tablefinderref38_can_j4 false
      )
    ) else (
      s_tablefinderref38_can_j4 false
    )
  ) else (
    bif (t20 == 3) then (
      (s_tablefinderref38_can_l1 big o.Columns (o.Columns.length : Int) (0 : Int) t o).bind fun
        | .ret q_ => some q_
        | .brk x0 => s_tablefinderref38_can_k6 x0
    ) else (
      bif (o.Kind == 4) then (
        bif (o.Column == 0) then (
          bif (o.Text == ([] : Str)) then (
            s_tablefinderref38_can_j8 ((o.Columns.length : Int) == 0)
          ) else (
            s_tablefinderref38_can_j8 false
          )
        ) else (
          s_tablefinderref38_can_j8 false
        )
      ) else (
        s_tablefinderref38_can_j8 false
      )
    )
  )

def s_tablefinderref38_can_j2 (t4 : Bool) : Option Bool :=
  some t4

def s_tablefinderref38_can_j1 (there : Bool) (t : G_api_Table) (o : G_api_Op) : Option Bool :=
  bif (o.Kind == 1) then (
    bif there then (
      bif ((o.Columns.length : Int) == 0) then (
        s_tablefinderref38_can_j2 (decide ((o.Text.length : Int) ≤ 1024))
      ) else (
        s_tablefinderref38_can_j2 false
      )
    ) else (
      s_tablefinderref38_can_j2 false
    )
  ) else (
    bif (o.Kind == 2) then (
      s_tablefinderref38_can_j3 there o.Kind (o.Kind == 2) t o
    ) else (
      s_tablefinderref38_can_j3 there o.Kind (o.Kind == 5) t o
    )
  )

def s_tablefinderref38_can (t : G_api_Table) (o : G_api_Op) : Option Bool :=
  bif (decide (o.Column ≥ 0)) then (
    s_tablefinderref38_can_j1 (decide (o.Column < (t.Columns.length : Int))) t o
  ) else (
    s_tablefinderref38_can_j1 false t o
  )

/-! ### tablefinder/tablefinderref03.Project -/

def s_tablefinderref03_Project_k2 (columns : (List Int)) (t4 : Int) (t4_1 : Str) (out : Int) (out_1 : Str) (t4_2 : (List G_api_Column)) (out_2 : (List G_api_Column)) : Option (G_api_Table × Int) :=
  bif (decide ((columns.length : Int) > 64)) then (
    some ((G_api_Table.mk 0 ([] : Str) ([] : (List G_api_Column))), 3)
  ) else (
    some ((G_api_Table.mk out out_1 out_2), 0)
  )

def s_tablefinderref03_Project_j1 (rec_ : (List Int) → (List Int) → Int → Int → G_api_Table → Int → Str → Int → Str → (List G_api_Column) → (List G_api_Column) → Option (Out ((List Int) × Int × Str × Int × Str × (List G_api_Column) × (List G_api_Column)) (G_api_Table × Int))) (columns : (List Int)) (k : Int) (t18 : (List Int)) (t19 : Int) (t20 : Int) (t32 : Bool) (t : G_api_Table) (t4 : Int) (t4_1 : Str) (out : Int) (out_1 : Str) (t4_2 : (List G_api_Column)) (out_2 : (List G_api_Column)) : Option (Out ((List Int) × Int × Str × Int × Str × (List G_api_Column) × (List G_api_Column)) (G_api_Table × Int)) :=
  bif t32 then (
    some (.ret ((G_api_Table.mk 0 ([] : Str) ([] : (List G_api_Column))), 2))
  ) else (
    (idx t.Columns k).bind fun Column =>
    chk (room (out_2.length + ([Column] : (List G_api_Column)).length) 40) <|
    chk (inK .i64 (t20 + 1)) <|
    rec_ columns t18 t19 (t20 + 1) t t4 t4_1 out out_1 t4_2 (out_2 ++ ([Column] : (List G_api_Column)))
  )

def s_tablefinderref03_Project_l1_b (rec_ : (List Int) → (List Int) → Int → Int → G_api_Table → Int → Str → Int → Str → (List G_api_Column) → (List G_api_Column) → Option (Out ((List Int) × Int × Str × Int × Str × (List G_api_Column) × (List G_api_Column)) (G_api_Table × Int))) (columns : (List Int)) (t18 : (List Int)) (t19 : Int) (t20 : Int) (t : G_api_Table) (t4 : Int) (t4_1 : Str) (out : Int) (out_1 : Str) (t4_2 : (List G_api_Column)) (out_2 : (List G_api_Column)) : Option (Out ((List Int) × Int × Str × Int × Str × (List G_api_Column) × (List G_api_Column)) (G_api_Table × Int)) :=
  bif (decide (t20 < t19)) then (
    (idx t18 t20).bind fun k =>
    bif (decide (k < 0)) then (
      s_tablefinderref03_Project_j1 rec_ columns k t18 t19 t20 true t t4 t4_1 out out_1 t4_2 out_2
    ) else (
      s_tablefinderref03_Project_j1 rec_ columns k t18 t19 t20 (decide (k ≥ (t.Columns.length : Int))) t t4 t4_1 out out_1 t4_2 out_2
    )
  ) else (
    some (.brk (columns, t4, t4_1, out, out_1, t4_2, out_2))
  )

def s_tablefinderref03_Project_l1 : Nat → (List Int) → (List Int) → Int → Int → G_api_Table → Int → Str → Int → Str → (List G_api_Column) → (List G_api_Column) → Option (Out ((List Int) × Int × Str × Int × Str × (List G_api_Column) × (List G_api_Column)) (G_api_Table × Int))
  | 0, _, _, _, _, _, _, _, _, _, _, _ => none
  | n_ + 1, columns, t18, t19, t20, t, t4, t4_1, out, out_1, t4_2, out_2 => s_tablefinderref03_Project_l1_b (s_tablefinderref03_Project_l1 n_) columns t18 t19 t20 t t4 t4_1 out out_1 t4_2 out_2

def s_tablefinderref03_Project_l1_F (n : Nat) (s : ((List Int) × (List Int) × Int × Int × G_api_Table × Int × Str × Int × Str × (List G_api_Column) × (List G_api_Column))) : Option (Out ((List Int) × Int × Str × Int × Str × (List G_api_Column) × (List G_api_Column)) (G_api_Table × Int)) := s_tablefinderref03_Project_l1 n s.1 s.2.1 s.2.2.1 s.2.2.2.1 s.2.2.2.2.1 s.2.2.2.2.2.1 s.2.2.2.2.2.2.1 s.2.2.2.2.2.2.2.1 s.2.2.2.2.2.2.2.2.1 s.2.2.2.2.2.2.2.2.2.1 s.2.2.2.2.2.2.2.2.2.2
def s_tablefinderref03_Project_l1_B (rec_ : ((List Int) × (List Int) × Int × Int × G_api_Table × Int × Str × Int × Str × (List G_api_Column) × (List G_api_Column)) → Option (Out ((List Int) × Int × Str × Int × Str × (List G_api_Column) × (List G_api_Column)) (G_api_Table × Int))) (s : ((List Int) × (List Int) × Int × Int × G_api_Table × Int × Str × Int × Str × (List G_api_Column) × (List G_api_Column))) : Option (Out ((List Int) × Int × Str × Int × Str × (List G_api_Column) × (List G_api_Column)) (G_api_Table × Int)) := s_tablefinderref03_Project_l1_b (fun columns t18 t19 t20 t t4 t4_1 out out_1 t4_2 out_2 => rec_ (columns, t18, t19, t20, t, t4, t4_1, out, out_1, t4_2, out_2)) s.1 s.2.1 s.2.2.1 s.2.2.2.1 s.2.2.2.2.1 s.2.2.2.2.2.1 s.2.2.2.2.2.2.1 s.2.2.2.2.2.2.2.1 s.2.2.2.2.2.2.2.2.1 s.2.2.2.2.2.2.2.2.2.1 s.2.2.2.2.2.2.2.2.2.2
theorem s_tablefinderref03_Project_l1_FB : ∀ n s, s_tablefinderref03_Project_l1_F (n + 1) s = s_tablefinderref03_Project_l1_B (s_tablefinderref03_Project_l1_F n) s := fun _ _ => rfl

def s_tablefinderref03_Project (t : G_api_Table) (columns : (List Int)) : Option (G_api_Table × Int) :=
  (s_tablefinderref03_Valid t).bind fun q =>
  bif (!q) then (
    some ((G_api_Table.mk 0 ([] : Str) ([] : (List G_api_Column))), 1)
  ) else (
    (s_tablefinderref03_Project_l1 big columns columns (columns.length : Int) (0 : Int) t (0 : Int) ([] : Str) t.ID t.Name ([] : (List G_api_Column)) ([] : (List G_api_Column))).bind fun
      | .ret q_ => some q_
      | .brk (x0, x1, x2, x3, x4, x5, x6) => s_tablefinderref03_Project_k2 x0 x1 x2 x3 x4 x5 x6
  )

/-! ### tablefinder/tablefinderref03.Rows -/

def s_tablefinderref03_Rows (t : G_api_Table) : Option Int :=
  bif ((t.Columns.length : Int) == 0) then (
    some (0 : Int)
  ) else (
    (idx t.Columns 0).bind fun Column =>
    some (Column.Cells.length : Int)
  )

/-! ### tablefinder/tablefinderref38.equal -/

def s_tablefinderref38_equal_k1  : Option Bool :=
  some true

def s_tablefinderref38_equal_l1_b (rec_ : Int → Int → (List G_api_Column) → Int → Int → Option (Out Unit Bool)) (x_ : Int) (y : Int) (t10 : (List G_api_Column)) (t11 : Int) (t12 : Int) : Option (Out Unit Bool) :=
  bif (decide (t12 < t11)) then (
    (idx t10 t12).bind fun c =>
    (idx c.Cells x_).bind fun Cell =>
    (idx c.Cells y).bind fun Cell_1 =>
    bif (!(Cell.Null == Cell_1.Null && (Cell.Text == Cell_1.Text && true))) then (
      some (.ret false)
    ) else (
      chk (inK .i64 (t12 + 1)) <|
      rec_ x_ y t10 t11 (t12 + 1)
    )
  ) else (
    some (.brk ())
  )

def s_tablefinderref38_equal_l1 : Nat → Int → Int → (List G_api_Column) → Int → Int → Option (Out Unit Bool)
  | 0, _, _, _, _, _ => none
  | n_ + 1, x_, y, t10, t11, t12 => s_tablefinderref38_equal_l1_b (s_tablefinderref38_equal_l1 n_) x_ y t10 t11 t12

def s_tablefinderref38_equal_l1_F (n : Nat) (s : (Int × Int × (List G_api_Column) × Int × Int)) : Option (Out Unit Bool) := s_tablefinderref38_equal_l1 n s.1 s.2.1 s.2.2.1 s.2.2.2.1 s.2.2.2.2
def s_tablefinderref38_equal_l1_B (rec_ : (Int × Int × (List G_api_Column) × Int × Int) → Option (Out Unit Bool)) (s : (Int × Int × (List G_api_Column) × Int × Int)) : Option (Out Unit Bool) := s_tablefinderref38_equal_l1_b (fun x_ y t10 t11 t12 => rec_ (x_, y, t10, t11, t12)) s.1 s.2.1 s.2.2.1 s.2.2.2.1 s.2.2.2.2
theorem s_tablefinderref38_equal_l1_FB : ∀ n s, s_tablefinderref38_equal_l1_F (n + 1) s = s_tablefinderref38_equal_l1_B (s_tablefinderref38_equal_l1_F n) s := fun _ _ => rfl

def s_tablefinderref38_equal (t : G_api_Table) (x_ : Int) (y : Int) : Option Bool :=
  (s_tablefinderref38_equal_l1 big x_ y t.Columns (t.Columns.length : Int) (0 : Int)).bind fun
    | .ret q_ => some q_
    | .brk () => s_tablefinderref38_equal_k1

/-! ### tablefinder/tablefinderref03.CompareCells -/

def s_tablefinderref03_CompareCells_j1 (t5 : Bool) (a : G_api_Cell) (b : G_api_Cell) : Option Int :=
  bif t5 then (
    some (0 : Int)
  ) else (
    bif a.Null then (
      some (-1 : Int)
    ) else (
      bif b.Null then (
        some (1 : Int)
      ) else (
        bif (Op.bytesLess a.Text b.Text) then (
          some (-1 : Int)
        ) else (
          bif (!((Op.bytesLess a.Text b.Text) || a.Text == b.Text)) then (
            some (1 : Int)
          ) else (
            some (0 : Int)
          )
        )
      )
    )
  )

def s_tablefinderref03_CompareCells (a : G_api_Cell) (b : G_api_Cell) : Option Int :=
  bif a.Null then (
    s_tablefinderref03_CompareCells_j1 b.Null a b
  ) else (
    s_tablefinderref03_CompareCells_j1 false a b
  )

/-! ### tablefinder/tablefinderref38.rows -/

def s_tablefinderref38_rows_k8 (out : (List Int)) : Option (List Int) :=
  some out

def s_tablefinderref38_rows_j7 (rec_ : Int → Int → G_api_Table → G_api_Op → (List Int) → Option (List Int)) (t14 : Int) (r_ : Int) (t : G_api_Table) (o : G_api_Op) (out : (List Int)) : Option (List Int) :=
  chk (inK .i64 (r_ + 1)) <|
  rec_ t14 (r_ + 1) t o out

def s_tablefinderref38_rows_j6 (rec_ : Int → Int → G_api_Table → G_api_Op → (List Int) → Option (List Int)) (r_ : Int) (at_ : Int) (t14 : Int) (r__1 : Int) (t104 : Bool) (t : G_api_Table) (o : G_api_Op) (out : (List Int)) : Option (List Int) :=
  bif t104 then (
    chk (within 0 at_ (out.length : Int)) <|
    chk (room ((out.drop 0).take ((at_).toNat - 0)).length 8) <|
    chk (room (((out.drop 0).take ((at_).toNat - 0)).length + ([r_] : (List Int)).length) 8) <|
    chk (within at_ (out.length : Int) (out.length : Int)) <|
    chk (room ((((out.drop 0).take ((at_).toNat - 0)) ++ ([r_] : (List Int))).length + ((out.drop ((at_).toNat)).take ((out.length : Int).toNat - (at_).toNat)).length) 8) <|
    s_tablefinderref38_rows_j7 rec_ t14 r__1 t o ((((out.drop 0).take ((at_).toNat - 0)) ++ ([r_] : (List Int))) ++ ((out.drop ((at_).toNat)).take ((out.length : Int).toNat - (at_).toNat)))
  ) else (
    s_tablefinderref38_rows_j7 rec_ t14 r__1 t o out
  )

def s_tablefinderref38_rows_j5 (rec_ : Int → Int → G_api_Table → G_api_Op → (List Int) → Option (List Int)) (r_ : Int) (at_ : Int) (keep : Bool) (t14 : Int) (r__1 : Int) (t : G_api_Table) (o : G_api_Op) (out : (List Int)) : Option (List Int) :=
  s_tablefinderref38_rows_j6 rec_ r_ at_ t14 r__1 keep t o out

def s_tablefinderref38_rows_k4 (rec_ : Int → Int → G_api_Table → G_api_Op → (List Int) → Option (List Int)) (r_ : Int) (at_ : Int) (keep : Bool) (t14 : Int) (r__1 : Int) (t : G_api_Table) (o : G_api_Op) (out : (List Int)) : Option (List Int) :=
  s_tablefinderref38_rows_j6 rec_ r_ at_ t14 r__1 keep t o out

def s_tablefinderref38_rows_k2 (rec_ : Int → Int → G_api_Table → G_api_Op → (List Int) → Option (List Int)) (r_ : Int) (at_ : Int) (keep : Bool) (t14 : Int) (r__1 : Int) (t : G_api_Table) (o : G_api_Op) (out : (List Int)) : Option (List Int) :=
  s_tablefinderref38_rows_j6 rec_ r_ at_ t14 r__1 keep t o out

def s_tablefinderref38_rows_j1 (rec_ : Int → Int → Bool → Int → Int → Int → Int → G_api_Table → G_api_Op → (List Int) → Option (Int × Int × Bool × Int × Int × G_api_Table × G_api_Op × (List Int))) (r_ : Int) (at_ : Int) (keep : Bool) (t14 : Int) (r__1 : Int) (t61 : Int) (t62 : Int) (t : G_api_Table) (o : G_api_Op) (out : (List Int)) : Option (Int × Int × Bool × Int × Int × G_api_Table × G_api_Op × (List Int)) :=
  chk (inK .i64 (t62 + 1)) <|
  rec_ r_ at_ keep t14 r__1 t61 (t62 + 1) t o out

def s_tablefinderref38_rows_l2_b (rec_ : Int → Int → Bool → Int → Int → Int → Int → G_api_Table → G_api_Op → (List Int) → Option (Int × Int × Bool × Int × Int × G_api_Table × G_api_Op × (List Int))) (r_ : Int) (at_ : Int) (keep : Bool) (t14 : Int) (r__1 : Int) (t61 : Int) (t62 : Int) (t : G_api_Table) (o : G_api_Op) (out : (List Int)) : Option (Int × Int × Bool × Int × Int × G_api_Table × G_api_Op × (List Int)) :=
  bif (decide (t62 < t61)) then (
    chk (inR t62 (out.length : Int)) <|
    (out[(t62).toNat]?).bind fun x_ =>
    bif keep then (
      (s_tablefinderref38_equal t x_ r_).bind fun q =>
      s_tablefinderref38_rows_j1 rec_ r_ at_ (!q) t14 r__1 t61 t62 t o out
    ) else (
      s_tablefinderref38_rows_j1 rec_ r_ at_ false t14 r__1 t61 t62 t o out
    )
  ) else (
    some (r_, at_, keep, t14, r__1, t, o, out)
  )

def s_tablefinderref38_rows_l2 : Nat → Int → Int → Bool → Int → Int → Int → Int → G_api_Table → G_api_Op → (List Int) → Option (Int × Int × Bool × Int × Int × G_api_Table × G_api_Op × (List Int))
  | 0, _, _, _, _, _, _, _, _, _, _ => none
  | n_ + 1, r_, at_, keep, t14, r__1, t61, t62, t, o, out => s_tablefinderref38_rows_l2_b (s_tablefinderref38_rows_l2 n_) r_ at_ keep t14 r__1 t61 t62 t o out

def s_tablefinderref38_rows_l2_F (n : Nat) (s : (Int × Int × Bool × Int × Int × Int × Int × G_api_Table × G_api_Op × (List Int))) : Option (Int × Int × Bool × Int × Int × G_api_Table × G_api_Op × (List Int)) := s_tablefinderref38_rows_l2 n s.1 s.2.1 s.2.2.1 s.2.2.2.1 s.2.2.2.2.1 s.2.2.2.2.2.1 s.2.2.2.2.2.2.1 s.2.2.2.2.2.2.2.1 s.2.2.2.2.2.2.2.2.1 s.2.2.2.2.2.2.2.2.2
def s_tablefinderref38_rows_l2_B (rec_ : (Int × Int × Bool × Int × Int × Int × Int × G_api_Table × G_api_Op × (List Int)) → Option (Int × Int × Bool × Int × Int × G_api_Table × G_api_Op × (List Int))) (s : (Int × Int × Bool × Int × Int × Int × Int × G_api_Table × G_api_Op × (List Int))) : Option (Int × Int × Bool × Int × Int × G_api_Table × G_api_Op × (List Int)) := s_tablefinderref38_rows_l2_b (fun r_ at_ keep t14 r__1 t61 t62 t o out => rec_ (r_, at_, keep, t14, r__1, t61, t62, t, o, out)) s.1 s.2.1 s.2.2.1 s.2.2.2.1 s.2.2.2.2.1 s.2.2.2.2.2.1 s.2.2.2.2.2.2.1 s.2.2.2.2.2.2.2.1 s.2.2.2.2.2.2.2.2.1 s.2.2.2.2.2.2.2.2.2
theorem s_tablefinderref38_rows_l2_FB : ∀ n s, s_tablefinderref38_rows_l2_F (n + 1) s = s_tablefinderref38_rows_l2_B (s_tablefinderref38_rows_l2_F n) s := fun _ _ => rfl

def s_tablefinderref38_rows_j3 (rec_ : Int → Int → Bool → (List G_api_Cell) → Int → Int → G_api_Table → G_api_Op → (List Int) → Option (Int × Int × Bool × Int × Int × G_api_Table × G_api_Op × (List Int))) (r_ : Int) (at_ : Int) (keep : Bool) (l : (List G_api_Cell)) (t14 : Int) (r__1 : Int) (t101 : Bool) (t : G_api_Table) (o : G_api_Op) (out : (List Int)) : Option (Int × Int × Bool × Int × Int × G_api_Table × G_api_Op × (List Int)) :=
  bif t101 then (
    chk (inK .i64 (at_ - 1)) <|
    rec_ r_ (at_ - 1) keep l t14 r__1 t o out
  ) else (
    some (r_, at_, keep, t14, r__1, t, o, out)
  )

def s_tablefinderref38_rows_l3_b (rec_ : Int → Int → Bool → (List G_api_Cell) → Int → Int → G_api_Table → G_api_Op → (List Int) → Option (Int × Int × Bool × Int × Int × G_api_Table × G_api_Op × (List Int))) (r_ : Int) (at_ : Int) (keep : Bool) (l : (List G_api_Cell)) (t14 : Int) (r__1 : Int) (t : G_api_Table) (o : G_api_Op) (out : (List Int)) : Option (Int × Int × Bool × Int × Int × G_api_Table × G_api_Op × (List Int)) :=
  bif (decide (at_ > 0)) then (
    chk (inK .i64 (at_ - 1)) <|
    chk (inR (at_ - 1) (out.length : Int)) <|
    (out[((at_ - 1)).toNat]?).bind fun out_e =>
    (idx l out_e).bind fun l_e =>
    (idx l r_).bind fun l_e_1 =>
    (s_tablefinderref03_CompareCells l_e l_e_1).bind fun q =>
    s_tablefinderref38_rows_j3 rec_ r_ at_ keep l t14 r__1 (decide (q > 0)) t o out
  ) else (
    s_tablefinderref38_rows_j3 rec_ r_ at_ keep l t14 r__1 false t o out
  )

def s_tablefinderref38_rows_l3 : Nat → Int → Int → Bool → (List G_api_Cell) → Int → Int → G_api_Table → G_api_Op → (List Int) → Option (Int × Int × Bool × Int × Int × G_api_Table × G_api_Op × (List Int))
  | 0, _, _, _, _, _, _, _, _, _ => none
  | n_ + 1, r_, at_, keep, l, t14, r__1, t, o, out => s_tablefinderref38_rows_l3_b (s_tablefinderref38_rows_l3 n_) r_ at_ keep l t14 r__1 t o out

def s_tablefinderref38_rows_l3_F (n : Nat) (s : (Int × Int × Bool × (List G_api_Cell) × Int × Int × G_api_Table × G_api_Op × (List Int))) : Option (Int × Int × Bool × Int × Int × G_api_Table × G_api_Op × (List Int)) := s_tablefinderref38_rows_l3 n s.1 s.2.1 s.2.2.1 s.2.2.2.1 s.2.2.2.2.1 s.2.2.2.2.2.1 s.2.2.2.2.2.2.1 s.2.2.2.2.2.2.2.1 s.2.2.2.2.2.2.2.2
def s_tablefinderref38_rows_l3_B (rec_ : (Int × Int × Bool × (List G_api_Cell) × Int × Int × G_api_Table × G_api_Op × (List Int)) → Option (Int × Int × Bool × Int × Int × G_api_Table × G_api_Op × (List Int))) (s : (Int × Int × Bool × (List G_api_Cell) × Int × Int × G_api_Table × G_api_Op × (List Int))) : Option (Int × Int × Bool × Int × Int × G_api_Table × G_api_Op × (List Int)) := s_tablefinderref38_rows_l3_b (fun r_ at_ keep l t14 r__1 t o out => rec_ (r_, at_, keep, l, t14, r__1, t, o, out)) s.1 s.2.1 s.2.2.1 s.2.2.2.1 s.2.2.2.2.1 s.2.2.2.2.2.1 s.2.2.2.2.2.2.1 s.2.2.2.2.2.2.2.1 s.2.2.2.2.2.2.2.2
theorem s_tablefinderref38_rows_l3_FB : ∀ n s, s_tablefinderref38_rows_l3_F (n + 1) s = s_tablefinderref38_rows_l3_B (s_tablefinderref38_rows_l3_F n) s := fun _ _ => rfl

def s_tablefinderref38_rows_l1_b (rec_ : Int → Int → G_api_Table → G_api_Op → (List Int) → Option (List Int)) (t14 : Int) (r_ : Int) (t : G_api_Table) (o : G_api_Op) (out : (List Int)) : Option (List Int) :=
  bif (decide (r_ < t14)) then (
    bif (o.Kind == 1) then (
      (idx t.Columns o.Column).bind fun Column =>
      (idx Column.Cells r_).bind fun c =>
      bif (!c.Null) then (
        s_tablefinderref38_rows_j5 rec_ r_ (out.length : Int) (c.Text == o.Text) t14 r_ t o out
      ) else (
        s_tablefinderref38_rows_j5 rec_ r_ (out.length : Int) false t14 r_ t o out
      )
    ) else (
      bif (o.Kind == 2) then (
        (idx t.Columns o.Column).bind fun Column_1 =>
        (idx Column_1.Cells r_).bind fun Cell =>
        s_tablefinderref38_rows_j5 rec_ r_ (out.length : Int) (!Cell.Null) t14 r_ t o out
      ) else (
        bif (o.Kind == 4) then (
          (s_tablefinderref38_rows_l2 big r_ (out.length : Int) true t14 r_ (out.length : Int) (0 : Int) t o out).bind fun (x0, x1, x2, x3, x4, x5, x6, x7) => s_tablefinderref38_rows_k2 rec_ x0 x1 x2 x3 x4 x5 x6 x7
        ) else (
          bif (o.Kind == 5) then (
            (idx t.Columns o.Column).bind fun Column_2 =>
            (s_tablefinderref38_rows_l3 big r_ (out.length : Int) true Column_2.Cells t14 r_ t o out).bind fun (x0, x1, x2, x3, x4, x5, x6, x7) => s_tablefinderref38_rows_k4 rec_ x0 x1 x2 x3 x4 x5 x6 x7
          ) else (
            s_tablefinderref38_rows_j5 rec_ r_ (out.length : Int) true t14 r_ t o out
          )
        )
      )
    )
  ) else (
    some out
  )

def s_tablefinderref38_rows_l1 : Nat → Int → Int → G_api_Table → G_api_Op → (List Int) → Option (List Int)
  | 0, _, _, _, _, _ => none
  | n_ + 1, t14, r_, t, o, out => s_tablefinderref38_rows_l1_b (s_tablefinderref38_rows_l1 n_) t14 r_ t o out

def s_tablefinderref38_rows_l1_F (n : Nat) (s : (Int × Int × G_api_Table × G_api_Op × (List Int))) : Option (List Int) := s_tablefinderref38_rows_l1 n s.1 s.2.1 s.2.2.1 s.2.2.2.1 s.2.2.2.2
def s_tablefinderref38_rows_l1_B (rec_ : (Int × Int × G_api_Table × G_api_Op × (List Int)) → Option (List Int)) (s : (Int × Int × G_api_Table × G_api_Op × (List Int))) : Option (List Int) := s_tablefinderref38_rows_l1_b (fun t14 r_ t o out => rec_ (t14, r_, t, o, out)) s.1 s.2.1 s.2.2.1 s.2.2.2.1 s.2.2.2.2
theorem s_tablefinderref38_rows_l1_FB : ∀ n s, s_tablefinderref38_rows_l1_F (n + 1) s = s_tablefinderref38_rows_l1_B (s_tablefinderref38_rows_l1_F n) s := fun _ _ => rfl

def s_tablefinderref38_rows (t : G_api_Table) (o : G_api_Op) : Option (List Int) :=
  (s_tablefinderref03_Rows t).bind fun q =>
  (s_tablefinderref38_rows_l1 big q (0 : Int) t o ([] : (List Int))).bind fun x0 => s_tablefinderref38_rows_k8 x0

/-! ### tablefinder/tablefinderref03.Select -/

def s_tablefinderref03_Select_k4 (t4 : Int) (t4_1 : Str) (out : Int) (out_1 : Str) (t4_2 : (List G_api_Column)) (out_2 : (List G_api_Column)) : Option (G_api_Table × Int) :=
  some ((G_api_Table.mk out out_1 out_2), 0)

def s_tablefinderref03_Select_k3 (rec_ : (List Int) → (List G_api_Column) → Int → Int → Int → Str → Int → Str → (List G_api_Column) → (List G_api_Column) → Option (Int × Str × Int × Str × (List G_api_Column) × (List G_api_Column))) (rows : (List Int)) (t44 : (List G_api_Column)) (t45 : Int) (t46 : Int) (t4 : Int) (t4_1 : Str) (out : Int) (out_1 : Str) (x_ : Str) (t4_2 : (List G_api_Column)) (out_2 : (List G_api_Column)) (x__1 : (List G_api_Cell)) : Option (Int × Str × Int × Str × (List G_api_Column) × (List G_api_Column)) :=
  chk (room (out_2.length + ([(G_api_Column.mk x_ x__1)] : (List G_api_Column)).length) 40) <|
  chk (inK .i64 (t46 + 1)) <|
  rec_ rows t44 t45 (t46 + 1) t4 t4_1 out out_1 t4_2 (out_2 ++ ([(G_api_Column.mk x_ x__1)] : (List G_api_Column)))

def s_tablefinderref03_Select_l3_b (rec_ : (List Int) → (List G_api_Column) → Int → Int → (List Int) → Int → Int → Int → Str → Int → Str → G_api_Column → Str → (List G_api_Column) → (List G_api_Column) → (List G_api_Cell) → Option ((List Int) × (List G_api_Column) × Int × Int × Int × Str × Int × Str × Str × (List G_api_Column) × (List G_api_Column) × (List G_api_Cell))) (rows : (List Int)) (t44 : (List G_api_Column)) (t45 : Int) (t46 : Int) (t53 : (List Int)) (t54 : Int) (t55 : Int) (t4 : Int) (t4_1 : Str) (out : Int) (out_1 : Str) (c : G_api_Column) (x_ : Str) (t4_2 : (List G_api_Column)) (out_2 : (List G_api_Column)) (x__1 : (List G_api_Cell)) : Option ((List Int) × (List G_api_Column) × Int × Int × Int × Str × Int × Str × Str × (List G_api_Column) × (List G_api_Column) × (List G_api_Cell)) :=
  bif (decide (t55 < t54)) then (
    (idx t53 t55).bind fun k =>
    (idx c.Cells k).bind fun Cell =>
    chk (room (x__1.length + ([Cell] : (List G_api_Cell)).length) 24) <|
    chk (inK .i64 (t55 + 1)) <|
    rec_ rows t44 t45 t46 t53 t54 (t55 + 1) t4 t4_1 out out_1 c x_ t4_2 out_2 (x__1 ++ ([Cell] : (List G_api_Cell)))
  ) else (
    some (rows, t44, t45, t46, t4, t4_1, out, out_1, x_, t4_2, out_2, x__1)
  )

def s_tablefinderref03_Select_l3 : Nat → (List Int) → (List G_api_Column) → Int → Int → (List Int) → Int → Int → Int → Str → Int → Str → G_api_Column → Str → (List G_api_Column) → (List G_api_Column) → (List G_api_Cell) → Option ((List Int) × (List G_api_Column) × Int × Int × Int × Str × Int × Str × Str × (List G_api_Column) × (List G_api_Column) × (List G_api_Cell))
  | 0, _, _, _, _, _, _, _, _, _, _, _, _, _, _, _, _ => none
  | n_ + 1, rows, t44, t45, t46, t53, t54, t55, t4, t4_1, out, out_1, c, x_, t4_2, out_2, x__1 => s_tablefinderref03_Select_l3_b (s_tablefinderref03_Select_l3 n_) rows t44 t45 t46 t53 t54 t55 t4 t4_1 out out_1 c x_ t4_2 out_2 x__1

def s_tablefinderref03_Select_l3_F (n : Nat) (s : ((List Int) × (List G_api_Column) × Int × Int × (List Int) × Int × Int × Int × Str × Int × Str × G_api_Column × Str × (List G_api_Column) × (List G_api_Column) × (List G_api_Cell))) : Option ((List Int) × (List G_api_Column) × Int × Int × Int × Str × Int × Str × Str × (List G_api_Column) × (List G_api_Column) × (List G_api_Cell)) := s_tablefinderref03_Select_l3 n s.1 s.2.1 s.2.2.1 s.2.2.2.1 s.2.2.2.2.1 s.2.2.2.2.2.1 s.2.2.2.2.2.2.1 s.2.2.2.2.2.2.2.1 s.2.2.2.2.2.2.2.2.1 s.2.2.2.2.2.2.2.2.2.1 s.2.2.2.2.2.2.2.2.2.2.1 s.2.2.2.2.2.2.2.2.2.2.2.1 s.2.2.2.2.2.2.2.2.2.2.2.2.1 s.2.2.2.2.2.2.2.2.2.2.2.2.2.1 s.2.2.2.2.2.2.2.2.2.2.2.2.2.2.1 s.2.2.2.2.2.2.2.2.2.2.2.2.2.2.2
def s_tablefinderref03_Select_l3_B (rec_ : ((List Int) × (List G_api_Column) × Int × Int × (List Int) × Int × Int × Int × Str × Int × Str × G_api_Column × Str × (List G_api_Column) × (List G_api_Column) × (List G_api_Cell)) → Option ((List Int) × (List G_api_Column) × Int × Int × Int × Str × Int × Str × Str × (List G_api_Column) × (List G_api_Column) × (List G_api_Cell))) (s : ((List Int) × (List G_api_Column) × Int × Int × (List Int) × Int × Int × Int × Str × Int × Str × G_api_Column × Str × (List G_api_Column) × (List G_api_Column) × (List G_api_Cell))) : Option ((List Int) × (List G_api_Column) × Int × Int × Int × Str × Int × Str × Str × (List G_api_Column) × (List G_api_Column) × (List G_api_Cell)) := s_tablefinderref03_Select_l3_b (fun rows t44 t45 t46 t53 t54 t55 t4 t4_1 out out_1 c x_ t4_2 out_2 x__1 => rec_ (rows, t44, t45, t46, t53, t54, t55, t4, t4_1, out, out_1, c, x_, t4_2, out_2, x__1)) s.1 s.2.1 s.2.2.1 s.2.2.2.1 s.2.2.2.2.1 s.2.2.2.2.2.1 s.2.2.2.2.2.2.1 s.2.2.2.2.2.2.2.1 s.2.2.2.2.2.2.2.2.1 s.2.2.2.2.2.2.2.2.2.1 s.2.2.2.2.2.2.2.2.2.2.1 s.2.2.2.2.2.2.2.2.2.2.2.1 s.2.2.2.2.2.2.2.2.2.2.2.2.1 s.2.2.2.2.2.2.2.2.2.2.2.2.2.1 s.2.2.2.2.2.2.2.2.2.2.2.2.2.2.1 s.2.2.2.2.2.2.2.2.2.2.2.2.2.2.2
theorem s_tablefinderref03_Select_l3_FB : ∀ n s, s_tablefinderref03_Select_l3_F (n + 1) s = s_tablefinderref03_Select_l3_B (s_tablefinderref03_Select_l3_F n) s := fun _ _ => rfl

def s_tablefinderref03_Select_l2_b (rec_ : (List Int) → (List G_api_Column) → Int → Int → Int → Str → Int → Str → (List G_api_Column) → (List G_api_Column) → Option (Int × Str × Int × Str × (List G_api_Column) × (List G_api_Column))) (rows : (List Int)) (t44 : (List G_api_Column)) (t45 : Int) (t46 : Int) (t4 : Int) (t4_1 : Str) (out : Int) (out_1 : Str) (t4_2 : (List G_api_Column)) (out_2 : (List G_api_Column)) : Option (Int × Str × Int × Str × (List G_api_Column) × (List G_api_Column)) :=
  bif (decide (t46 < t45)) then (
    (idx t44 t46).bind fun c =>
    (s_tablefinderref03_Select_l3 big rows t44 t45 t46 rows (rows.length : Int) (0 : Int) t4 t4_1 out out_1 c c.Name t4_2 out_2 ([] : (List G_api_Cell))).bind fun (x0, x1, x2, x3, x4, x5, x6, x7, x8, x9, x10, x11) => s_tablefinderref03_Select_k3 rec_ x0 x1 x2 x3 x4 x5 x6 x7 x8 x9 x10 x11
  ) else (
    some (t4, t4_1, out, out_1, t4_2, out_2)
  )

def s_tablefinderref03_Select_l2 : Nat → (List Int) → (List G_api_Column) → Int → Int → Int → Str → Int → Str → (List G_api_Column) → (List G_api_Column) → Option (Int × Str × Int × Str × (List G_api_Column) × (List G_api_Column))
  | 0, _, _, _, _, _, _, _, _, _, _ => none
  | n_ + 1, rows, t44, t45, t46, t4, t4_1, out, out_1, t4_2, out_2 => s_tablefinderref03_Select_l2_b (s_tablefinderref03_Select_l2 n_) rows t44 t45 t46 t4 t4_1 out out_1 t4_2 out_2

def s_tablefinderref03_Select_l2_F (n : Nat) (s : ((List Int) × (List G_api_Column) × Int × Int × Int × Str × Int × Str × (List G_api_Column) × (List G_api_Column))) : Option (Int × Str × Int × Str × (List G_api_Column) × (List G_api_Column)) := s_tablefinderref03_Select_l2 n s.1 s.2.1 s.2.2.1 s.2.2.2.1 s.2.2.2.2.1 s.2.2.2.2.2.1 s.2.2.2.2.2.2.1 s.2.2.2.2.2.2.2.1 s.2.2.2.2.2.2.2.2.1 s.2.2.2.2.2.2.2.2.2
def s_tablefinderref03_Select_l2_B (rec_ : ((List Int) × (List G_api_Column) × Int × Int × Int × Str × Int × Str × (List G_api_Column) × (List G_api_Column)) → Option (Int × Str × Int × Str × (List G_api_Column) × (List G_api_Column))) (s : ((List Int) × (List G_api_Column) × Int × Int × Int × Str × Int × Str × (List G_api_Column) × (List G_api_Column))) : Option (Int × Str × Int × Str × (List G_api_Column) × (List G_api_Column)) := s_tablefinderref03_Select_l2_b (fun rows t44 t45 t46 t4 t4_1 out out_1 t4_2 out_2 => rec_ (rows, t44, t45, t46, t4, t4_1, out, out_1, t4_2, out_2)) s.1 s.2.1 s.2.2.1 s.2.2.2.1 s.2.2.2.2.1 s.2.2.2.2.2.1 s.2.2.2.2.2.2.1 s.2.2.2.2.2.2.2.1 s.2.2.2.2.2.2.2.2.1 s.2.2.2.2.2.2.2.2.2
theorem s_tablefinderref03_Select_l2_FB : ∀ n s, s_tablefinderref03_Select_l2_F (n + 1) s = s_tablefinderref03_Select_l2_B (s_tablefinderref03_Select_l2_F n) s := fun _ _ => rfl

def s_tablefinderref03_Select_k2 (rows : (List Int)) (t : G_api_Table) (t4 : Int) (t4_1 : Str) (t4_2 : (List G_api_Column)) : Option (G_api_Table × Int) :=
  bif (decide ((rows.length : Int) > 4096)) then (
    some ((G_api_Table.mk 0 ([] : Str) ([] : (List G_api_Column))), 3)
  ) else (
    (s_tablefinderref03_Select_l2 big rows t.Columns (t.Columns.length : Int) (0 : Int) t4 t4_1 t.ID t.Name t4_2 ([] : (List G_api_Column))).bind fun (x0, x1, x2, x3, x4, x5) => s_tablefinderref03_Select_k4 x0 x1 x2 x3 x4 x5
  )

def s_tablefinderref03_Select_j1 (rec_ : (List Int) → (List Int) → Int → Int → G_api_Table → Int → Str → (List G_api_Column) → Option (Out ((List Int) × G_api_Table × Int × Str × (List G_api_Column)) (G_api_Table × Int))) (rows : (List Int)) (t18 : (List Int)) (t19 : Int) (t20 : Int) (t31 : Bool) (t : G_api_Table) (t4 : Int) (t4_1 : Str) (t4_2 : (List G_api_Column)) : Option (Out ((List Int) × G_api_Table × Int × Str × (List G_api_Column)) (G_api_Table × Int)) :=
  bif t31 then (
    some (.ret ((G_api_Table.mk 0 ([] : Str) ([] : (List G_api_Column))), 2))
  ) else (
    chk (inK .i64 (t20 + 1)) <|
    rec_ rows t18 t19 (t20 + 1) t t4 t4_1 t4_2
  )

def s_tablefinderref03_Select_l1_b (rec_ : (List Int) → (List Int) → Int → Int → G_api_Table → Int → Str → (List G_api_Column) → Option (Out ((List Int) × G_api_Table × Int × Str × (List G_api_Column)) (G_api_Table × Int))) (rows : (List Int)) (t18 : (List Int)) (t19 : Int) (t20 : Int) (t : G_api_Table) (t4 : Int) (t4_1 : Str) (t4_2 : (List G_api_Column)) : Option (Out ((List Int) × G_api_Table × Int × Str × (List G_api_Column)) (G_api_Table × Int)) :=
  bif (decide (t20 < t19)) then (
    (idx t18 t20).bind fun k =>
    bif (decide (k < 0)) then (
      s_tablefinderref03_Select_j1 rec_ rows t18 t19 t20 true t t4 t4_1 t4_2
    ) else (
      (s_tablefinderref03_Rows t).bind fun q =>
      s_tablefinderref03_Select_j1 rec_ rows t18 t19 t20 (decide (k ≥ q)) t t4 t4_1 t4_2
    )
  ) else (
    some (.brk (rows, t, t4, t4_1, t4_2))
  )

def s_tablefinderref03_Select_l1 : Nat → (List Int) → (List Int) → Int → Int → G_api_Table → Int → Str → (List G_api_Column) → Option (Out ((List Int) × G_api_Table × Int × Str × (List G_api_Column)) (G_api_Table × Int))
  | 0, _, _, _, _, _, _, _, _ => none
  | n_ + 1, rows, t18, t19, t20, t, t4, t4_1, t4_2 => s_tablefinderref03_Select_l1_b (s_tablefinderref03_Select_l1 n_) rows t18 t19 t20 t t4 t4_1 t4_2

def s_tablefinderref03_Select_l1_F (n : Nat) (s : ((List Int) × (List Int) × Int × Int × G_api_Table × Int × Str × (List G_api_Column))) : Option (Out ((List Int) × G_api_Table × Int × Str × (List G_api_Column)) (G_api_Table × Int)) := s_tablefinderref03_Select_l1 n s.1 s.2.1 s.2.2.1 s.2.2.2.1 s.2.2.2.2.1 s.2.2.2.2.2.1 s.2.2.2.2.2.2.1 s.2.2.2.2.2.2.2
def s_tablefinderref03_Select_l1_B (rec_ : ((List Int) × (List Int) × Int × Int × G_api_Table × Int × Str × (List G_api_Column)) → Option (Out ((List Int) × G_api_Table × Int × Str × (List G_api_Column)) (G_api_Table × Int))) (s : ((List Int) × (List Int) × Int × Int × G_api_Table × Int × Str × (List G_api_Column))) : Option (Out ((List Int) × G_api_Table × Int × Str × (List G_api_Column)) (G_api_Table × Int)) := s_tablefinderref03_Select_l1_b (fun rows t18 t19 t20 t t4 t4_1 t4_2 => rec_ (rows, t18, t19, t20, t, t4, t4_1, t4_2)) s.1 s.2.1 s.2.2.1 s.2.2.2.1 s.2.2.2.2.1 s.2.2.2.2.2.1 s.2.2.2.2.2.2.1 s.2.2.2.2.2.2.2
theorem s_tablefinderref03_Select_l1_FB : ∀ n s, s_tablefinderref03_Select_l1_F (n + 1) s = s_tablefinderref03_Select_l1_B (s_tablefinderref03_Select_l1_F n) s := fun _ _ => rfl

def s_tablefinderref03_Select (t : G_api_Table) (rows : (List Int)) : Option (G_api_Table × Int) :=
  (s_tablefinderref03_Valid t).bind fun q =>
  bif (!q) then (
    some ((G_api_Table.mk 0 ([] : Str) ([] : (List G_api_Column))), 1)
  ) else (
    (s_tablefinderref03_Select_l1 big rows rows (rows.length : Int) (0 : Int) t (0 : Int) ([] : Str) ([] : (List G_api_Column))).bind fun
      | .ret q_ => some q_
      | .brk (x0, x1, x2, x3, x4) => s_tablefinderref03_Select_k2 x0 x1 x2 x3 x4
  )

/-! ### tablefinder/tablefinderref38.do -/

def s_tablefinderref38_do (t : G_api_Table) (o : G_api_Op) : Option G_api_Table :=
  bif (o.Kind == 3) then (
    (s_tablefinderref03_Project t o.Columns).bind fun (x_, q) =>
    some x_
  ) else (
    (s_tablefinderref38_rows t o).bind fun q_1 =>
    (s_tablefinderref03_Select t q_1).bind fun (x__1, q_2) =>
    some x__1
  )

/-! ### tablefinder/tablefinderref38.Copy -/

def s_tablefinderref38_Copy_k1 (t2 : Int) (t2_1 : Str) (out : Int) (out_1 : Str) (t2_2 : (List G_api_Column)) (out_2 : (List G_api_Column)) : Option G_api_Table :=
  some (G_api_Table.mk out out_1 out_2)

def s_tablefinderref38_Copy_l1_b (rec_ : (List G_api_Column) → Int → Int → Int → Str → Int → Str → (List G_api_Column) → (List G_api_Column) → Option (Int × Str × Int × Str × (List G_api_Column) × (List G_api_Column))) (t12 : (List G_api_Column)) (t13 : Int) (t14 : Int) (t2 : Int) (t2_1 : Str) (out : Int) (out_1 : Str) (t2_2 : (List G_api_Column)) (out_2 : (List G_api_Column)) : Option (Int × Str × Int × Str × (List G_api_Column) × (List G_api_Column)) :=
  bif (decide (t14 < t13)) then (
    (idx t12 t14).bind fun c =>
    chk (room c.Cells.length 24) <|
    chk (room (out_2.length + ([c] : (List G_api_Column)).length) 40) <|
    chk (inK .i64 (t14 + 1)) <|
    rec_ t12 t13 (t14 + 1) t2 t2_1 out out_1 t2_2 (out_2 ++ ([c] : (List G_api_Column)))
  ) else (
    some (t2, t2_1, out, out_1, t2_2, out_2)
  )

def s_tablefinderref38_Copy_l1 : Nat → (List G_api_Column) → Int → Int → Int → Str → Int → Str → (List G_api_Column) → (List G_api_Column) → Option (Int × Str × Int × Str × (List G_api_Column) × (List G_api_Column))
  | 0, _, _, _, _, _, _, _, _, _ => none
  | n_ + 1, t12, t13, t14, t2, t2_1, out, out_1, t2_2, out_2 => s_tablefinderref38_Copy_l1_b (s_tablefinderref38_Copy_l1 n_) t12 t13 t14 t2 t2_1 out out_1 t2_2 out_2

def s_tablefinderref38_Copy_l1_F (n : Nat) (s : ((List G_api_Column) × Int × Int × Int × Str × Int × Str × (List G_api_Column) × (List G_api_Column))) : Option (Int × Str × Int × Str × (List G_api_Column) × (List G_api_Column)) := s_tablefinderref38_Copy_l1 n s.1 s.2.1 s.2.2.1 s.2.2.2.1 s.2.2.2.2.1 s.2.2.2.2.2.1 s.2.2.2.2.2.2.1 s.2.2.2.2.2.2.2.1 s.2.2.2.2.2.2.2.2
def s_tablefinderref38_Copy_l1_B (rec_ : ((List G_api_Column) × Int × Int × Int × Str × Int × Str × (List G_api_Column) × (List G_api_Column)) → Option (Int × Str × Int × Str × (List G_api_Column) × (List G_api_Column))) (s : ((List G_api_Column) × Int × Int × Int × Str × Int × Str × (List G_api_Column) × (List G_api_Column))) : Option (Int × Str × Int × Str × (List G_api_Column) × (List G_api_Column)) := s_tablefinderref38_Copy_l1_b (fun t12 t13 t14 t2 t2_1 out out_1 t2_2 out_2 => rec_ (t12, t13, t14, t2, t2_1, out, out_1, t2_2, out_2)) s.1 s.2.1 s.2.2.1 s.2.2.2.1 s.2.2.2.2.1 s.2.2.2.2.2.1 s.2.2.2.2.2.2.1 s.2.2.2.2.2.2.2.1 s.2.2.2.2.2.2.2.2
theorem s_tablefinderref38_Copy_l1_FB : ∀ n s, s_tablefinderref38_Copy_l1_F (n + 1) s = s_tablefinderref38_Copy_l1_B (s_tablefinderref38_Copy_l1_F n) s := fun _ _ => rfl

def s_tablefinderref38_Copy (t : G_api_Table) : Option G_api_Table :=
  (s_tablefinderref38_Copy_l1 big t.Columns (t.Columns.length : Int) (0 : Int) (0 : Int) ([] : Str) t.ID t.Name ([] : (List G_api_Column)) ([] : (List G_api_Column))).bind fun (x0, x1, x2, x3, x4, x5) => s_tablefinderref38_Copy_k1 x0 x1 x2 x3 x4 x5

/-! ### tablefinder/tablefinderref38.Run -/

def s_tablefinderref38_Run_k1 (t : G_api_Table) (t4 : Int) (t4_1 : Str) (t4_2 : (List G_api_Column)) : Option (G_api_Table × Int) :=
  (s_tablefinderref38_Copy t).bind fun q =>
  some (q, 0)

def s_tablefinderref38_Run_l1_b (rec_ : (List G_api_Op) → Int → Int → G_api_Table → Int → Str → (List G_api_Column) → Option (Out (G_api_Table × Int × Str × (List G_api_Column)) (G_api_Table × Int))) (t18 : (List G_api_Op)) (t19 : Int) (t20 : Int) (t : G_api_Table) (t4 : Int) (t4_1 : Str) (t4_2 : (List G_api_Column)) : Option (Out (G_api_Table × Int × Str × (List G_api_Column)) (G_api_Table × Int)) :=
  bif (decide (t20 < t19)) then (
    (idx t18 t20).bind fun o =>
    (s_tablefinderref38_can t o).bind fun q =>
    bif (!q) then (
      some (.ret ((G_api_Table.mk 0 ([] : Str) ([] : (List G_api_Column))), 24))
    ) else (
      (s_tablefinderref38_do t o).bind fun t_1 =>
      chk (inK .i64 (t20 + 1)) <|
      rec_ t18 t19 (t20 + 1) t_1 t4 t4_1 t4_2
    )
  ) else (
    some (.brk (t, t4, t4_1, t4_2))
  )

def s_tablefinderref38_Run_l1 : Nat → (List G_api_Op) → Int → Int → G_api_Table → Int → Str → (List G_api_Column) → Option (Out (G_api_Table × Int × Str × (List G_api_Column)) (G_api_Table × Int))
  | 0, _, _, _, _, _, _, _ => none
  | n_ + 1, t18, t19, t20, t, t4, t4_1, t4_2 => s_tablefinderref38_Run_l1_b (s_tablefinderref38_Run_l1 n_) t18 t19 t20 t t4 t4_1 t4_2

def s_tablefinderref38_Run_l1_F (n : Nat) (s : ((List G_api_Op) × Int × Int × G_api_Table × Int × Str × (List G_api_Column))) : Option (Out (G_api_Table × Int × Str × (List G_api_Column)) (G_api_Table × Int)) := s_tablefinderref38_Run_l1 n s.1 s.2.1 s.2.2.1 s.2.2.2.1 s.2.2.2.2.1 s.2.2.2.2.2.1 s.2.2.2.2.2.2
def s_tablefinderref38_Run_l1_B (rec_ : ((List G_api_Op) × Int × Int × G_api_Table × Int × Str × (List G_api_Column)) → Option (Out (G_api_Table × Int × Str × (List G_api_Column)) (G_api_Table × Int))) (s : ((List G_api_Op) × Int × Int × G_api_Table × Int × Str × (List G_api_Column))) : Option (Out (G_api_Table × Int × Str × (List G_api_Column)) (G_api_Table × Int)) := s_tablefinderref38_Run_l1_b (fun t18 t19 t20 t t4 t4_1 t4_2 => rec_ (t18, t19, t20, t, t4, t4_1, t4_2)) s.1 s.2.1 s.2.2.1 s.2.2.2.1 s.2.2.2.2.1 s.2.2.2.2.2.1 s.2.2.2.2.2.2
theorem s_tablefinderref38_Run_l1_FB : ∀ n s, s_tablefinderref38_Run_l1_F (n + 1) s = s_tablefinderref38_Run_l1_B (s_tablefinderref38_Run_l1_F n) s := fun _ _ => rfl

def s_tablefinderref38_Run (t : G_api_Table) (l : (List G_api_Op)) : Option (G_api_Table × Int) :=
  bif (decide ((l.length : Int) > 5)) then (
    some ((G_api_Table.mk 0 ([] : Str) ([] : (List G_api_Column))), 3)
  ) else (
    (s_tablefinderref03_Valid t).bind fun q =>
    bif (!q) then (
      some ((G_api_Table.mk 0 ([] : Str) ([] : (List G_api_Column))), 1)
    ) else (
      (s_tablefinderref38_Run_l1 big l (l.length : Int) (0 : Int) t (0 : Int) ([] : Str) ([] : (List G_api_Column))).bind fun
        | .ret q_ => some q_
        | .brk (x0, x1, x2, x3) => s_tablefinderref38_Run_k1 x0 x1 x2 x3
    )
  )

/-! ### tablefinder/tablefinderkit.Derived -/

def s_tablefinderkit_Derived_k2 (id : Int) (d : G_tablefinderkit_Dice) (t : G_api_Table) (t6 : Int) (t6_1 : Str) (t6_2 : (List G_api_Column)) : Option (G_api_Table × G_tablefinderkit_Dice) :=
  (s_tablefinderref38_Copy t).bind fun t_1 =>
  some ((G_api_Table.mk id t_1.Name t_1.Columns), d)

def s_tablefinderkit_Derived_j1 (rec_ : Int → Int → G_tablefinderkit_Dice → G_api_Table → Int → Str → (List G_api_Column) → Option (Int × G_tablefinderkit_Dice × G_api_Table × Int × Str × (List G_api_Column))) (id : Int) (k : Int) (d : G_tablefinderkit_Dice) (t : G_api_Table) (t6 : Int) (t6_1 : Str) (t6_2 : (List G_api_Column)) : Option (Int × G_tablefinderkit_Dice × G_api_Table × Int × Str × (List G_api_Column)) :=
  chk (inK .i64 (k - 1)) <|
  rec_ id (k - 1) d t t6 t6_1 t6_2

def s_tablefinderkit_Derived_l1_b (rec_ : Int → Int → G_tablefinderkit_Dice → G_api_Table → Int → Str → (List G_api_Column) → Option (Int × G_tablefinderkit_Dice × G_api_Table × Int × Str × (List G_api_Column))) (id : Int) (k : Int) (d : G_tablefinderkit_Dice) (t : G_api_Table) (t6 : Int) (t6_1 : Str) (t6_2 : (List G_api_Column)) : Option (Int × G_tablefinderkit_Dice × G_api_Table × Int × Str × (List G_api_Column)) :=
  bif (decide (k > 0)) then (
    (s_tablefinderkit_Op d t).bind fun (q, t18) =>
    (s_tablefinderref38_Run t ([q] : (List G_api_Op))).bind fun (x_, e) =>
    bif (e == 0) then (
      s_tablefinderkit_Derived_j1 rec_ id k t18 x_ t6 t6_1 t6_2
    ) else (
      s_tablefinderkit_Derived_j1 rec_ id k t18 t t6 t6_1 t6_2
    )
  ) else (
    some (id, d, t, t6, t6_1, t6_2)
  )

def s_tablefinderkit_Derived_l1 : Nat → Int → Int → G_tablefinderkit_Dice → G_api_Table → Int → Str → (List G_api_Column) → Option (Int × G_tablefinderkit_Dice × G_api_Table × Int × Str × (List G_api_Column))
  | 0, _, _, _, _, _, _, _ => none
  | n_ + 1, id, k, d, t, t6, t6_1, t6_2 => s_tablefinderkit_Derived_l1_b (s_tablefinderkit_Derived_l1 n_) id k d t t6 t6_1 t6_2

def s_tablefinderkit_Derived_l1_F (n : Nat) (s : (Int × Int × G_tablefinderkit_Dice × G_api_Table × Int × Str × (List G_api_Column))) : Option (Int × G_tablefinderkit_Dice × G_api_Table × Int × Str × (List G_api_Column)) := s_tablefinderkit_Derived_l1 n s.1 s.2.1 s.2.2.1 s.2.2.2.1 s.2.2.2.2.1 s.2.2.2.2.2.1 s.2.2.2.2.2.2
def s_tablefinderkit_Derived_l1_B (rec_ : (Int × Int × G_tablefinderkit_Dice × G_api_Table × Int × Str × (List G_api_Column)) → Option (Int × G_tablefinderkit_Dice × G_api_Table × Int × Str × (List G_api_Column))) (s : (Int × Int × G_tablefinderkit_Dice × G_api_Table × Int × Str × (List G_api_Column))) : Option (Int × G_tablefinderkit_Dice × G_api_Table × Int × Str × (List G_api_Column)) := s_tablefinderkit_Derived_l1_b (fun id k d t t6 t6_1 t6_2 => rec_ (id, k, d, t, t6, t6_1, t6_2)) s.1 s.2.1 s.2.2.1 s.2.2.2.1 s.2.2.2.2.1 s.2.2.2.2.2.1 s.2.2.2.2.2.2
theorem s_tablefinderkit_Derived_l1_FB : ∀ n s, s_tablefinderkit_Derived_l1_F (n + 1) s = s_tablefinderkit_Derived_l1_B (s_tablefinderkit_Derived_l1_F n) s := fun _ _ => rfl

def s_tablefinderkit_Derived (d : G_tablefinderkit_Dice) (t : G_api_Table) (id : Int) : Option (G_api_Table × G_tablefinderkit_Dice) :=
  (s_tablefinderkit_Dice_Next d 3).bind fun (k, t10) =>
  (s_tablefinderkit_Derived_l1 big id k t10 t (0 : Int) ([] : Str) ([] : (List G_api_Column))).bind fun (x0, x1, x2, x3, x4, x5) => s_tablefinderkit_Derived_k2 x0 x1 x2 x3 x4 x5

/-! ### tablefinder/tablefinderkit.Tables -/

def s_tablefinderkit_Tables_k3 (d : G_tablefinderkit_Dice) (l : (List G_api_Table)) : Option ((List G_api_Table) × G_tablefinderkit_Dice) :=
  some (l, d)

def s_tablefinderkit_Tables_j2 (rec_ : Int → Int → G_tablefinderkit_Dice → (List G_api_Table) → Option (G_tablefinderkit_Dice × (List G_api_Table))) (id : Int) (k : Int) (d : G_tablefinderkit_Dice) (l : (List G_api_Table)) (t : G_api_Table) : Option (G_tablefinderkit_Dice × (List G_api_Table)) :=
  chk (room (l.length + ([t] : (List G_api_Table)).length) 48) <|
  chk (inK .i64 (k - 1)) <|
  rec_ id (k - 1) d (l ++ ([t] : (List G_api_Table)))

def s_tablefinderkit_Tables_j1 (rec_ : Int → Int → G_tablefinderkit_Dice → (List G_api_Table) → Option (G_tablefinderkit_Dice × (List G_api_Table))) (id : Int) (k : Int) (t34 : Bool) (d : G_tablefinderkit_Dice) (l : (List G_api_Table)) (t : G_api_Table) : Option (G_tablefinderkit_Dice × (List G_api_Table)) :=
  bif t34 then (
    (s_tablefinderkit_Dice_Next d (l.length : Int)).bind fun (q, t37) =>
    chk (inR q (l.length : Int)) <|
    (l[(q).toNat]?).bind fun l_e =>
    (s_tablefinderkit_Derived t37 l_e id).bind fun (t_1, t35) =>
    s_tablefinderkit_Tables_j2 rec_ id k t35 l t_1
  ) else (
    s_tablefinderkit_Tables_j2 rec_ id k d l t
  )

def s_tablefinderkit_Tables_l1_b (rec_ : Int → Int → G_tablefinderkit_Dice → (List G_api_Table) → Option (G_tablefinderkit_Dice × (List G_api_Table))) (id : Int) (k : Int) (d : G_tablefinderkit_Dice) (l : (List G_api_Table)) : Option (G_tablefinderkit_Dice × (List G_api_Table)) :=
  bif (decide (k > 0)) then (
    (s_tablefinderkit_Dice_Next d 2).bind fun (q, t20) =>
    chk (inK .i64 (1 + q)) <|
    chk (inK .i64 (id + (1 + q))) <|
    (s_tablefinderkit_Table t20 (id + (1 + q))).bind fun (t, t24) =>
    bif (decide ((l.length : Int) > 0)) then (
      (s_tablefinderkit_Dice_Next t24 4).bind fun (q_1, t31) =>
      s_tablefinderkit_Tables_j1 rec_ (id + (1 + q)) k (q_1 == 0) t31 l t
    ) else (
      s_tablefinderkit_Tables_j1 rec_ (id + (1 + q)) k false t24 l t
    )
  ) else (
    some (d, l)
  )

def s_tablefinderkit_Tables_l1 : Nat → Int → Int → G_tablefinderkit_Dice → (List G_api_Table) → Option (G_tablefinderkit_Dice × (List G_api_Table))
  | 0, _, _, _, _ => none
  | n_ + 1, id, k, d, l => s_tablefinderkit_Tables_l1_b (s_tablefinderkit_Tables_l1 n_) id k d l

def s_tablefinderkit_Tables_l1_F (n : Nat) (s : (Int × Int × G_tablefinderkit_Dice × (List G_api_Table))) : Option (G_tablefinderkit_Dice × (List G_api_Table)) := s_tablefinderkit_Tables_l1 n s.1 s.2.1 s.2.2.1 s.2.2.2
def s_tablefinderkit_Tables_l1_B (rec_ : (Int × Int × G_tablefinderkit_Dice × (List G_api_Table)) → Option (G_tablefinderkit_Dice × (List G_api_Table))) (s : (Int × Int × G_tablefinderkit_Dice × (List G_api_Table))) : Option (G_tablefinderkit_Dice × (List G_api_Table)) := s_tablefinderkit_Tables_l1_b (fun id k d l => rec_ (id, k, d, l)) s.1 s.2.1 s.2.2.1 s.2.2.2
theorem s_tablefinderkit_Tables_l1_FB : ∀ n s, s_tablefinderkit_Tables_l1_F (n + 1) s = s_tablefinderkit_Tables_l1_B (s_tablefinderkit_Tables_l1_F n) s := fun _ _ => rfl

def s_tablefinderkit_Tables (d : G_tablefinderkit_Dice) (most : Int) : Option ((List G_api_Table) × G_tablefinderkit_Dice) :=
  (s_tablefinderkit_Dice_Next d 2).bind fun (id, t9) =>
  (s_tablefinderkit_Dice_Next t9 most).bind fun (q, t11) =>
  chk (inK .i64 (1 + q)) <|
  (s_tablefinderkit_Tables_l1 big id (1 + q) t11 ([] : (List G_api_Table))).bind fun (x0, x1) => s_tablefinderkit_Tables_k3 x0 x1

/-! ### tablefinder/tablefinderref03.SameCells -/

def s_tablefinderref03_SameCells_k2  : Option Bool :=
  some true

def s_tablefinderref03_SameCells_l1_b (rec_ : Int → Int → G_api_Column → G_api_Column → Option (Out Unit Bool)) (t22 : Int) (i : Int) (a : G_api_Column) (b : G_api_Column) : Option (Out Unit Bool) :=
  bif (decide (i < t22)) then (
    (idx a.Cells i).bind fun Cell =>
    (idx b.Cells i).bind fun Cell_1 =>
    bif (!(Cell.Null == Cell_1.Null && (Cell.Text == Cell_1.Text && true))) then (
      some (.ret false)
    ) else (
      chk (inK .i64 (i + 1)) <|
      rec_ t22 (i + 1) a b
    )
  ) else (
    some (.brk ())
  )

def s_tablefinderref03_SameCells_l1 : Nat → Int → Int → G_api_Column → G_api_Column → Option (Out Unit Bool)
  | 0, _, _, _, _ => none
  | n_ + 1, t22, i, a, b => s_tablefinderref03_SameCells_l1_b (s_tablefinderref03_SameCells_l1 n_) t22 i a b

def s_tablefinderref03_SameCells_l1_F (n : Nat) (s : (Int × Int × G_api_Column × G_api_Column)) : Option (Out Unit Bool) := s_tablefinderref03_SameCells_l1 n s.1 s.2.1 s.2.2.1 s.2.2.2
def s_tablefinderref03_SameCells_l1_B (rec_ : (Int × Int × G_api_Column × G_api_Column) → Option (Out Unit Bool)) (s : (Int × Int × G_api_Column × G_api_Column)) : Option (Out Unit Bool) := s_tablefinderref03_SameCells_l1_b (fun t22 i a b => rec_ (t22, i, a, b)) s.1 s.2.1 s.2.2.1 s.2.2.2
theorem s_tablefinderref03_SameCells_l1_FB : ∀ n s, s_tablefinderref03_SameCells_l1_F (n + 1) s = s_tablefinderref03_SameCells_l1_B (s_tablefinderref03_SameCells_l1_F n) s := fun _ _ => rfl

def s_tablefinderref03_SameCells_j1 (t19 : Bool) (a : G_api_Column) (b : G_api_Column) : Option Bool :=
  bif t19 then (
    some false
  ) else (
    (s_tablefinderref03_SameCells_l1 big (a.Cells.length : Int) (0 : Int) a b).bind fun
      | .ret q_ => some q_
      | .brk () => s_tablefinderref03_SameCells_k2
  )

def s_tablefinderref03_SameCells (a : G_api_Column) (b : G_api_Column) : Option Bool :=
  bif (!(a.Name == b.Name)) then (
    s_tablefinderref03_SameCells_j1 true a b
  ) else (
    s_tablefinderref03_SameCells_j1 ((a.Cells.length : Int) != (b.Cells.length : Int)) a b
  )

/-! ### tablefinder/tablefinderref03.Same -/

def s_tablefinderref03_Same_k2  : Option Bool :=
  some true

def s_tablefinderref03_Same_l1_b (rec_ : Int → Int → G_api_Table → G_api_Table → Option (Out Unit Bool)) (t29 : Int) (i : Int) (a : G_api_Table) (b : G_api_Table) : Option (Out Unit Bool) :=
  bif (decide (i < t29)) then (
    (idx a.Columns i).bind fun Column =>
    (idx b.Columns i).bind fun Column_1 =>
    (s_tablefinderref03_SameCells Column Column_1).bind fun q =>
    bif (!q) then (
      some (.ret false)
    ) else (
      chk (inK .i64 (i + 1)) <|
      rec_ t29 (i + 1) a b
    )
  ) else (
    some (.brk ())
  )

def s_tablefinderref03_Same_l1 : Nat → Int → Int → G_api_Table → G_api_Table → Option (Out Unit Bool)
  | 0, _, _, _, _ => none
  | n_ + 1, t29, i, a, b => s_tablefinderref03_Same_l1_b (s_tablefinderref03_Same_l1 n_) t29 i a b

def s_tablefinderref03_Same_l1_F (n : Nat) (s : (Int × Int × G_api_Table × G_api_Table)) : Option (Out Unit Bool) := s_tablefinderref03_Same_l1 n s.1 s.2.1 s.2.2.1 s.2.2.2
def s_tablefinderref03_Same_l1_B (rec_ : (Int × Int × G_api_Table × G_api_Table) → Option (Out Unit Bool)) (s : (Int × Int × G_api_Table × G_api_Table)) : Option (Out Unit Bool) := s_tablefinderref03_Same_l1_b (fun t29 i a b => rec_ (t29, i, a, b)) s.1 s.2.1 s.2.2.1 s.2.2.2
theorem s_tablefinderref03_Same_l1_FB : ∀ n s, s_tablefinderref03_Same_l1_F (n + 1) s = s_tablefinderref03_Same_l1_B (s_tablefinderref03_Same_l1_F n) s := fun _ _ => rfl

def s_tablefinderref03_Same_j1 (t26 : Bool) (a : G_api_Table) (b : G_api_Table) : Option Bool :=
  bif t26 then (
    some false
  ) else (
    (s_tablefinderref03_Same_l1 big (a.Columns.length : Int) (0 : Int) a b).bind fun
      | .ret q_ => some q_
      | .brk () => s_tablefinderref03_Same_k2
  )

def s_tablefinderref03_Same (a : G_api_Table) (b : G_api_Table) : Option Bool :=
  bif (a.ID != b.ID) then (
    s_tablefinderref03_Same_j1 true a b
  ) else (
    bif (!(a.Name == b.Name)) then (
      s_tablefinderref03_Same_j1 true a b
    ) else (
      s_tablefinderref03_Same_j1 ((a.Columns.length : Int) != (b.Columns.length : Int)) a b
    )
  )

/-! ### tablefinder/tablefinderlaw42.same -/

def s_tablefinderlaw42_same_k1  : Option Bool :=
  some true

def s_tablefinderlaw42_same_l1_b (rec_ : (List G_api_Table) → (List G_api_Table) → Int → Int → Option (Out Unit Bool)) (b : (List G_api_Table)) (t12 : (List G_api_Table)) (t13 : Int) (i : Int) : Option (Out Unit Bool) :=
  bif (decide (i < t13)) then (
    (idx t12 i).bind fun t =>
    (idx b i).bind fun b_e =>
    (s_tablefinderref03_Same t b_e).bind fun q =>
    bif (!q) then (
      some (.ret false)
    ) else (
      chk (inK .i64 (i + 1)) <|
      rec_ b t12 t13 (i + 1)
    )
  ) else (
    some (.brk ())
  )

def s_tablefinderlaw42_same_l1 : Nat → (List G_api_Table) → (List G_api_Table) → Int → Int → Option (Out Unit Bool)
  | 0, _, _, _, _ => none
  | n_ + 1, b, t12, t13, i => s_tablefinderlaw42_same_l1_b (s_tablefinderlaw42_same_l1 n_) b t12 t13 i

def s_tablefinderlaw42_same_l1_F (n : Nat) (s : ((List G_api_Table) × (List G_api_Table) × Int × Int)) : Option (Out Unit Bool) := s_tablefinderlaw42_same_l1 n s.1 s.2.1 s.2.2.1 s.2.2.2
def s_tablefinderlaw42_same_l1_B (rec_ : ((List G_api_Table) × (List G_api_Table) × Int × Int) → Option (Out Unit Bool)) (s : ((List G_api_Table) × (List G_api_Table) × Int × Int)) : Option (Out Unit Bool) := s_tablefinderlaw42_same_l1_b (fun b t12 t13 i => rec_ (b, t12, t13, i)) s.1 s.2.1 s.2.2.1 s.2.2.2
theorem s_tablefinderlaw42_same_l1_FB : ∀ n s, s_tablefinderlaw42_same_l1_F (n + 1) s = s_tablefinderlaw42_same_l1_B (s_tablefinderlaw42_same_l1_F n) s := fun _ _ => rfl

def s_tablefinderlaw42_same (a : (List G_api_Table)) (b : (List G_api_Table)) : Option Bool :=
  bif ((a.length : Int) != (b.length : Int)) then (
    some false
  ) else (
    (s_tablefinderlaw42_same_l1 big b a (a.length : Int) (0 : Int)).bind fun
      | .ret q_ => some q_
      | .brk () => s_tablefinderlaw42_same_k1
  )

/-! ### tablefinder/tablefinderlaw42.AccessAll -/

def s_tablefinderlaw42_AccessAll_j4 (t4 : Bool) : Option Bool :=
  some t4

def s_tablefinderlaw42_AccessAll_k3 (l : (List G_api_Table)) (rules : (List G_api_Permission)) (want : (List G_api_Table)) : Option Bool :=
  chk (room (rules.length + ([(G_api_Permission.mk ([119] : Str) false 0 (-1))] : (List G_api_Permission)).length) 40) <|
  (s_access_Visible rules ([119] : Str) l).bind fun q =>
  (s_tablefinderlaw42_same q want).bind fun q_1 =>
  bif q_1 then (
    (s_access_Visible (rules ++ ([(G_api_Permission.mk ([119] : Str) false 0 (-1))] : (List G_api_Permission))) ([119] : Str) l).bind fun q_2 =>
    bif ((q_2.length : Int) == 0) then (
      (s_access_Visible ([] : (List G_api_Permission)) ([119] : Str) l).bind fun q_3 =>
      bif ((q_3.length : Int) == 0) then (
        (s_tablefinderlaw42_awake).bind fun q_4 =>
        s_tablefinderlaw42_AccessAll_j4 q_4
      ) else (
        s_tablefinderlaw42_AccessAll_j4 false
      )
    ) else (
      s_tablefinderlaw42_AccessAll_j4 false
    )
  ) else (
    s_tablefinderlaw42_AccessAll_j4 false
  )

def s_tablefinderlaw42_AccessAll_j2 (rec_ : Int → Int → (List G_api_Table) → (List G_api_Permission) → (List G_api_Table) → Option ((List G_api_Table) × (List G_api_Permission) × (List G_api_Table))) (t35 : Int) (t36 : Int) (l : (List G_api_Table)) (rules : (List G_api_Permission)) (want : (List G_api_Table)) : Option ((List G_api_Table) × (List G_api_Permission) × (List G_api_Table)) :=
  chk (inK .i64 (t36 + 1)) <|
  rec_ t35 (t36 + 1) l rules want

def s_tablefinderlaw42_AccessAll_l1_b (rec_ : Int → Int → (List G_api_Table) → (List G_api_Permission) → (List G_api_Table) → Option ((List G_api_Table) × (List G_api_Permission) × (List G_api_Table))) (t35 : Int) (t36 : Int) (l : (List G_api_Table)) (rules : (List G_api_Permission)) (want : (List G_api_Table)) : Option ((List G_api_Table) × (List G_api_Permission) × (List G_api_Table)) :=
  bif (decide (t36 < t35)) then (
    chk (inR t36 (l.length : Int)) <|
    (l[(t36).toNat]?).bind fun x_ =>
    bif (decide ((x_.Columns.length : Int) > 0)) then (
      chk (room (want.length + ([x_] : (List G_api_Table)).length) 48) <|
      s_tablefinderlaw42_AccessAll_j2 rec_ t35 t36 l rules (want ++ ([x_] : (List G_api_Table)))
    ) else (
      s_tablefinderlaw42_AccessAll_j2 rec_ t35 t36 l rules want
    )
  ) else (
    some (l, rules, want)
  )

def s_tablefinderlaw42_AccessAll_l1 : Nat → Int → Int → (List G_api_Table) → (List G_api_Permission) → (List G_api_Table) → Option ((List G_api_Table) × (List G_api_Permission) × (List G_api_Table))
  | 0, _, _, _, _, _ => none
  | n_ + 1, t35, t36, l, rules, want => s_tablefinderlaw42_AccessAll_l1_b (s_tablefinderlaw42_AccessAll_l1 n_) t35 t36 l rules want

def s_tablefinderlaw42_AccessAll_l1_F (n : Nat) (s : (Int × Int × (List G_api_Table) × (List G_api_Permission) × (List G_api_Table))) : Option ((List G_api_Table) × (List G_api_Permission) × (List G_api_Table)) := s_tablefinderlaw42_AccessAll_l1 n s.1 s.2.1 s.2.2.1 s.2.2.2.1 s.2.2.2.2
def s_tablefinderlaw42_AccessAll_l1_B (rec_ : (Int × Int × (List G_api_Table) × (List G_api_Permission) × (List G_api_Table)) → Option ((List G_api_Table) × (List G_api_Permission) × (List G_api_Table))) (s : (Int × Int × (List G_api_Table) × (List G_api_Permission) × (List G_api_Table))) : Option ((List G_api_Table) × (List G_api_Permission) × (List G_api_Table)) := s_tablefinderlaw42_AccessAll_l1_b (fun t35 t36 l rules want => rec_ (t35, t36, l, rules, want)) s.1 s.2.1 s.2.2.1 s.2.2.2.1 s.2.2.2.2
theorem s_tablefinderlaw42_AccessAll_l1_FB : ∀ n s, s_tablefinderlaw42_AccessAll_l1_F (n + 1) s = s_tablefinderlaw42_AccessAll_l1_B (s_tablefinderlaw42_AccessAll_l1_F n) s := fun _ _ => rfl

def s_tablefinderlaw42_AccessAll_j1 (t : (List Int)) (raw : (List G_api_Permission)) (t19 : Bool) : Option Bool :=
  bif t19 then (
    (s_tablefinderlaw42_awake).bind fun q =>
    some q
  ) else (
    (s_tablefinderkit_Roll t).bind fun d =>
    (s_tablefinderkit_Tables d 5).bind fun (l, t23) =>
    chk (decide (0 ≤ (0 : Int) ∧ (0 : Int) ≤ (raw.length : Int) ∧ (raw.length : Int) ≤ (raw.length : Int) ∧ (raw.length : Int) = (raw.length : Int))) <|
    chk (decide (List.isEmpty ([(G_api_Permission.mk ([119] : Str) true 0 (-1))] : (List G_api_Permission)) = false)) <|
    chk (room ((raw.take ((raw.length : Int)).toNat).length + ([(G_api_Permission.mk ([119] : Str) true 0 (-1))] : (List G_api_Permission)).length) 40) <|
    (s_tablefinderlaw42_AccessAll_l1 big (l.length : Int) (0 : Int) l ((raw.take ((raw.length : Int)).toNat) ++ ([(G_api_Permission.mk ([119] : Str) true 0 (-1))] : (List G_api_Permission))) ([] : (List G_api_Table))).bind fun (x0, x1, x2) => s_tablefinderlaw42_AccessAll_k3 x0 x1 x2
  )

def s_tablefinderlaw42_AccessAll (t : (List Int)) (raw : (List G_api_Permission)) : Option Bool :=
  (s_tablefinderkit_Light t).bind fun q =>
  bif (!q) then (
    s_tablefinderlaw42_AccessAll_j1 t raw true
  ) else (
    s_tablefinderlaw42_AccessAll_j1 t raw (decide ((raw.length : Int) > 40))
  )

end
end Go.Proofs
