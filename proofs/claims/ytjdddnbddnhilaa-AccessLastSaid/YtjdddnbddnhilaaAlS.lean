/- Printed by wip/tools/tgen.py: specs. -/
import Derived.Test.YtjdddnbddnhilaaAlE4
set_option linter.unusedVariables false
set_option linter.unusedSimpArgs false
set_option linter.unusedSectionVars false
namespace Go.Proofs
open Go Eng
noncomputable section

structure G_api_Permission where
  User : Str
  Allow : Bool
  Table : Int
  Column : Int
  deriving DecidableEq, Inhabited

structure G_api_Cell where
  Null : Bool
  Text : Str
  deriving DecidableEq, Inhabited

structure G_api_Column where
  Name : Str
  Cells : (List G_api_Cell)
  deriving DecidableEq, Inhabited

structure G_api_Table where
  ID : Int
  Name : Str
  Columns : (List G_api_Column)
  deriving DecidableEq, Inhabited

structure G_api_Ref where
  Table : Int
  Column : Int
  deriving DecidableEq, Inhabited

structure G_tablefinderkit_Dice where
  l : (List Int)
  at_ : Int
  deriving DecidableEq, Inhabited

structure G_api_Task where
  From : Int
  To : Int
  deriving DecidableEq, Inhabited

def carU : Nat → Type
  | 0 => G_api_Permission
  | 1 => G_api_Cell
  | 2 => G_api_Column
  | 3 => G_api_Table
  | 4 => G_api_Ref
  | 5 => G_tablefinderkit_Dice
  | 6 => G_api_Task
  | _ => Unit

def sizeU : Nat → Nat
  | 0 => 4
  | 1 => 2
  | 2 => 2
  | 3 => 3
  | 4 => 2
  | 5 => 2
  | 6 => 2
  | _ => 0


/-! ### tablefinder/tablefinderkit.Light -/

def s_tablefinderkit_Light (t : (List Int)) : Option Bool :=
  some (decide ((t.length : Int) ≤ 500))

/-! ### tablefinder/table.Rows -/

def s_table_Rows (t : G_api_Table) : Option Int :=
  bif ((t.Columns.length : Int) == 0) then (
    some (0 : Int)
  ) else (
    (idx t.Columns 0).bind fun Column =>
    some (Column.Cells.length : Int)
  )

/-! ### math/bits.Mul64 -/

def s_math_bits_Mul64 (x_ : Int) (y : Int) : Option (Int × Int) :=
  chk (decide (0 ≤ (32 : Int))) <|
  chk (decide (0 ≤ (32 : Int))) <|
  chk (decide (0 ≤ (32 : Int))) <|
  chk (decide (0 ≤ (32 : Int))) <|
  chk (decide (0 ≤ (32 : Int))) <|
  some ((IntKind.wrap .u64 ((IntKind.wrap .u64 ((IntKind.wrap .u64 ((shrK .u64 x_ 32) * (shrK .u64 y 32))) + (shrK .u64 (IntKind.wrap .u64 ((IntKind.wrap .u64 ((shrK .u64 x_ 32) * (andK .u64 y 4294967295))) + (shrK .u64 (IntKind.wrap .u64 ((andK .u64 x_ 4294967295) * (andK .u64 y 4294967295))) 32))) 32))) + (shrK .u64 (IntKind.wrap .u64 ((andK .u64 (IntKind.wrap .u64 ((IntKind.wrap .u64 ((shrK .u64 x_ 32) * (andK .u64 y 4294967295))) + (shrK .u64 (IntKind.wrap .u64 ((andK .u64 x_ 4294967295) * (andK .u64 y 4294967295))) 32))) 4294967295) + (IntKind.wrap .u64 ((andK .u64 x_ 4294967295) * (shrK .u64 y 32))))) 32))), (IntKind.wrap .u64 (x_ * y)))

/-! ### math/bits.Mul -/

def s_math_bits_Mul (x_ : Int) (y : Int) : Option (Int × Int) :=
  (s_math_bits_Mul64 x_ y).bind fun (h_, l) =>
  some (h_, l)

/-! ### slices.Repeat[[]tablefinder/api.Cell,tablefinder/api.Cell] -/

def s_slices_Repeat_api_Cell_api_Cell_k2 (newslice : (List G_api_Cell)) : Option (List G_api_Cell) :=
  some newslice

def s_slices_Repeat_api_Cell_api_Cell_l1_b (rec_ : Int → (List G_api_Cell) → Option (List G_api_Cell)) (n : Int) (newslice : (List G_api_Cell)) : Option (List G_api_Cell) :=
  bif (decide (n < (newslice.length : Int))) then (
    chk (within n (newslice.length : Int) (newslice.length : Int)) <|
    chk (within 0 n (newslice.length : Int)) <|
    chk (decide ((n).toNat + ((newslice.length : Int).toNat - (n).toNat) ≤ newslice.length)) <|
    chk (inK .i64 (n + ((min ((newslice.drop 0).take ((n).toNat - 0)).length ((newslice.length : Int).toNat - (n).toNat) : Nat) : Int))) <|
    rec_ (n + ((min ((newslice.drop 0).take ((n).toNat - 0)).length ((newslice.length : Int).toNat - (n).toNat) : Nat) : Int)) (splice newslice ((n).toNat) (((newslice.drop 0).take ((n).toNat - 0)).take (min ((newslice.drop 0).take ((n).toNat - 0)).length ((newslice.length : Int).toNat - (n).toNat))))
  ) else (
    some newslice
  )

def s_slices_Repeat_api_Cell_api_Cell_l1 : Nat → Int → (List G_api_Cell) → Option (List G_api_Cell)
  | 0, _, _ => none
  | n_ + 1, n, newslice => s_slices_Repeat_api_Cell_api_Cell_l1_b (s_slices_Repeat_api_Cell_api_Cell_l1 n_) n newslice

def s_slices_Repeat_api_Cell_api_Cell_j1 (x_ : (List G_api_Cell)) (lo : Int) (t26 : Bool) : Option (List G_api_Cell) :=
  bif t26 then (
    none
  ) else (
    chk (mkOk (IntKind.wrap .i64 lo) (IntKind.wrap .i64 lo) 24) <|
    (s_slices_Repeat_api_Cell_api_Cell_l1 big ((min x_.length (List.replicate ((IntKind.wrap .i64 lo)).toNat (G_api_Cell.mk false ([] : Str))).length : Nat) : Int) (x_.take (List.replicate ((IntKind.wrap .i64 lo)).toNat (G_api_Cell.mk false ([] : Str))).length ++ (List.replicate ((IntKind.wrap .i64 lo)).toNat (G_api_Cell.mk false ([] : Str))).drop x_.length)).bind fun x0 => s_slices_Repeat_api_Cell_api_Cell_k2 x0
  )

def s_slices_Repeat_api_Cell_api_Cell (x_ : (List G_api_Cell)) (count : Int) : Option (List G_api_Cell) :=
  bif (decide (count < 0)) then (
    none
  ) else (
    (s_math_bits_Mul (IntKind.wrap .u64 (x_.length : Int)) (IntKind.wrap .u64 count)).bind fun (hi, lo) =>
    bif (decide (hi > 0)) then (
      s_slices_Repeat_api_Cell_api_Cell_j1 x_ lo true
    ) else (
      s_slices_Repeat_api_Cell_api_Cell_j1 x_ lo (decide (lo > 9223372036854775807))
    )
  )

/-! ### tablefinder/access.May -/

def s_access_May (l : (List G_api_Permission)) (user : Str) (r : G_api_Ref) : Option Bool :=
  some (match l.reverse.find? fun p => p.User == user && (p.Table == 0 || p.Table == r.Table) && (p.Column == -1 || p.Column == r.Column) with | some p => p.Allow | none => false)

/-! ### slices.Clone[[]tablefinder/api.Cell,tablefinder/api.Cell] -/

def s_slices_Clone_api_Cell_api_Cell_j1 (s : (List G_api_Cell)) (t4 : Bool) : Option (List G_api_Cell) :=
  bif t4 then (
    some ([] : (List G_api_Cell))
  ) else (
    chk (room (([] : (List G_api_Cell)).length + s.length) 24) <|
    some (([] : (List G_api_Cell)) ++ s)
  )

def s_slices_Clone_api_Cell_api_Cell (s : (List G_api_Cell)) : Option (List G_api_Cell) :=
  bif (List.isEmpty s) then agree (
    s_slices_Clone_api_Cell_api_Cell_j1 s true
  ) (
    s_slices_Clone_api_Cell_api_Cell_j1 s false
  ) else (
    s_slices_Clone_api_Cell_api_Cell_j1 s false
  )

/-! ### tablefinder/access.seen -/

def s_access_seen_k2 (some_ : Bool) (t6 : Int) (t6_1 : Str) (out : Int) (out_1 : Str) (t6_2 : (List G_api_Column)) (out_2 : (List G_api_Column)) : Option (G_api_Table × Bool) :=
  some ((G_api_Table.mk out out_1 out_2), some_)

def s_access_seen_j1 (rec_ : (List G_api_Permission) → Str → Bool → (List G_api_Column) → Int → Int → G_api_Table → Int → Str → Int → Str → (List G_api_Column) → (List G_api_Column) → Option (Bool × Int × Str × Int × Str × (List G_api_Column) × (List G_api_Column))) (l : (List G_api_Permission)) (user : Str) (some_ : Bool) (t19 : (List G_api_Column)) (t20 : Int) (k : Int) (t : G_api_Table) (t6 : Int) (t6_1 : Str) (out : Int) (out_1 : Str) (x_ : Str) (t6_2 : (List G_api_Column)) (out_2 : (List G_api_Column)) (x__1 : (List G_api_Cell)) : Option (Bool × Int × Str × Int × Str × (List G_api_Column) × (List G_api_Column)) :=
  chk (room (out_2.length + ([(G_api_Column.mk x_ x__1)] : (List G_api_Column)).length) 40) <|
  chk (inK .i64 (k + 1)) <|
  rec_ l user some_ t19 t20 (k + 1) t t6 t6_1 out out_1 t6_2 (out_2 ++ ([(G_api_Column.mk x_ x__1)] : (List G_api_Column)))

def s_access_seen_l1_b (rec_ : (List G_api_Permission) → Str → Bool → (List G_api_Column) → Int → Int → G_api_Table → Int → Str → Int → Str → (List G_api_Column) → (List G_api_Column) → Option (Bool × Int × Str × Int × Str × (List G_api_Column) × (List G_api_Column))) (l : (List G_api_Permission)) (user : Str) (some_ : Bool) (t19 : (List G_api_Column)) (t20 : Int) (k : Int) (t : G_api_Table) (t6 : Int) (t6_1 : Str) (out : Int) (out_1 : Str) (t6_2 : (List G_api_Column)) (out_2 : (List G_api_Column)) : Option (Bool × Int × Str × Int × Str × (List G_api_Column) × (List G_api_Column)) :=
  bif (decide (k < t20)) then (
    (idx t19 k).bind fun c =>
    (s_table_Rows t).bind fun q =>
    (s_slices_Repeat_api_Cell_api_Cell ([(G_api_Cell.mk true ([] : Str))] : (List G_api_Cell)) q).bind fun q_1 =>
    (s_access_May l user (G_api_Ref.mk t.ID k)).bind fun q_2 =>
    bif q_2 then (
      (s_slices_Clone_api_Cell_api_Cell c.Cells).bind fun q_3 =>
      s_access_seen_j1 rec_ l user true t19 t20 k t t6 t6_1 out out_1 c.Name t6_2 out_2 q_3
    ) else (
      s_access_seen_j1 rec_ l user some_ t19 t20 k t t6 t6_1 out out_1 ([] : Str) t6_2 out_2 q_1
    )
  ) else (
    some (some_, t6, t6_1, out, out_1, t6_2, out_2)
  )

def s_access_seen_l1 : Nat → (List G_api_Permission) → Str → Bool → (List G_api_Column) → Int → Int → G_api_Table → Int → Str → Int → Str → (List G_api_Column) → (List G_api_Column) → Option (Bool × Int × Str × Int × Str × (List G_api_Column) × (List G_api_Column))
  | 0, _, _, _, _, _, _, _, _, _, _, _, _, _ => none
  | n_ + 1, l, user, some_, t19, t20, k, t, t6, t6_1, out, out_1, t6_2, out_2 => s_access_seen_l1_b (s_access_seen_l1 n_) l user some_ t19 t20 k t t6 t6_1 out out_1 t6_2 out_2

def s_access_seen (l : (List G_api_Permission)) (user : Str) (t : G_api_Table) : Option (G_api_Table × Bool) :=
  (s_access_seen_l1 big l user false t.Columns (t.Columns.length : Int) (0 : Int) t (0 : Int) ([] : Str) t.ID t.Name ([] : (List G_api_Column)) ([] : (List G_api_Column))).bind fun (x0, x1, x2, x3, x4, x5, x6) => s_access_seen_k2 x0 x1 x2 x3 x4 x5 x6

/-! ### tablefinder/access.Visible -/

def s_access_Visible_k2 (out : (List G_api_Table)) : Option (List G_api_Table) :=
  some out

def s_access_Visible_j1 (rec_ : (List G_api_Permission) → Str → (List G_api_Table) → Int → Int → (List G_api_Table) → Option (List G_api_Table)) (l : (List G_api_Permission)) (user : Str) (t12 : (List G_api_Table)) (t13 : Int) (t14 : Int) (out : (List G_api_Table)) : Option (List G_api_Table) :=
  chk (inK .i64 (t14 + 1)) <|
  rec_ l user t12 t13 (t14 + 1) out

def s_access_Visible_l1_b (rec_ : (List G_api_Permission) → Str → (List G_api_Table) → Int → Int → (List G_api_Table) → Option (List G_api_Table)) (l : (List G_api_Permission)) (user : Str) (t12 : (List G_api_Table)) (t13 : Int) (t14 : Int) (out : (List G_api_Table)) : Option (List G_api_Table) :=
  bif (decide (t14 < t13)) then (
    (idx t12 t14).bind fun t =>
    (s_access_seen l user t).bind fun (x_, some_) =>
    bif some_ then (
      chk (room (out.length + ([x_] : (List G_api_Table)).length) 48) <|
      s_access_Visible_j1 rec_ l user t12 t13 t14 (out ++ ([x_] : (List G_api_Table)))
    ) else (
      s_access_Visible_j1 rec_ l user t12 t13 t14 out
    )
  ) else (
    some out
  )

def s_access_Visible_l1 : Nat → (List G_api_Permission) → Str → (List G_api_Table) → Int → Int → (List G_api_Table) → Option (List G_api_Table)
  | 0, _, _, _, _, _, _ => none
  | n_ + 1, l, user, t12, t13, t14, out => s_access_Visible_l1_b (s_access_Visible_l1 n_) l user t12 t13 t14 out

def s_access_Visible (l : (List G_api_Permission)) (user : Str) (tables : (List G_api_Table)) : Option (List G_api_Table) :=
  (s_access_Visible_l1 big l user tables (tables.length : Int) (0 : Int) ([] : (List G_api_Table))).bind fun x0 => s_access_Visible_k2 x0

/-! ### tablefinder/access.Valid -/

def s_access_Valid_k2 (l : (List G_api_Permission)) : Option Bool :=
  some (decide ((l.length : Int) ≤ 64))

def s_access_Valid_j1 (rec_ : (List G_api_Permission) → (List G_api_Permission) → Int → Int → Option (Out (List G_api_Permission) Bool)) (l : (List G_api_Permission)) (t5 : (List G_api_Permission)) (t6 : Int) (t7 : Int) (t39 : Bool) : Option (Out (List G_api_Permission) Bool) :=
  bif t39 then (
    some (.ret false)
  ) else (
    chk (inK .i64 (t7 + 1)) <|
    rec_ l t5 t6 (t7 + 1)
  )

def s_access_Valid_l1_b (rec_ : (List G_api_Permission) → (List G_api_Permission) → Int → Int → Option (Out (List G_api_Permission) Bool)) (l : (List G_api_Permission)) (t5 : (List G_api_Permission)) (t6 : Int) (t7 : Int) : Option (Out (List G_api_Permission) Bool) :=
  bif (decide (t7 < t6)) then (
    (idx t5 t7).bind fun p =>
    bif (p.User == ([] : Str)) then (
      s_access_Valid_j1 rec_ l t5 t6 t7 true
    ) else (
      bif (decide ((p.User.length : Int) > 40)) then (
        s_access_Valid_j1 rec_ l t5 t6 t7 true
      ) else (
        bif (decide (p.Table < 0)) then (
          s_access_Valid_j1 rec_ l t5 t6 t7 true
        ) else (
          bif (decide (p.Table > 1073741824)) then (
            s_access_Valid_j1 rec_ l t5 t6 t7 true
          ) else (
            bif (decide (p.Column < (-1))) then (
              s_access_Valid_j1 rec_ l t5 t6 t7 true
            ) else (
              s_access_Valid_j1 rec_ l t5 t6 t7 (decide (p.Column ≥ 64))
            )
          )
        )
      )
    )
  ) else (
    some (.brk l)
  )

def s_access_Valid_l1 : Nat → (List G_api_Permission) → (List G_api_Permission) → Int → Int → Option (Out (List G_api_Permission) Bool)
  | 0, _, _, _, _ => none
  | n_ + 1, l, t5, t6, t7 => s_access_Valid_l1_b (s_access_Valid_l1 n_) l t5 t6 t7

def s_access_Valid (l : (List G_api_Permission)) : Option Bool :=
  (s_access_Valid_l1 big l l (l.length : Int) (0 : Int)).bind fun
    | .ret q_ => some q_
    | .brk x0 => s_access_Valid_k2 x0

/-! ### tablefinder/tablefinderlaw42.awake -/

def s_tablefinderlaw42_awake_j1 (t0 : Bool) : Option Bool :=
  some t0

def s_tablefinderlaw42_awake  : Option Bool :=
  (s_access_Visible ([(G_api_Permission.mk ([117] : Str) true 0 (-1)), (G_api_Permission.mk ([117] : Str) false 7 0)] : (List G_api_Permission)) ([117] : Str) ([(G_api_Table.mk 7 ([] : Str) ([(G_api_Column.mk ([110] : Str) ([(G_api_Cell.mk false ([120] : Str))] : (List G_api_Cell))), (G_api_Column.mk ([110] : Str) ([(G_api_Cell.mk false ([120] : Str))] : (List G_api_Cell)))] : (List G_api_Column)))] : (List G_api_Table))).bind fun v_ =>
  (s_access_Valid ([(G_api_Permission.mk ([117] : Str) true 0 (-1)), (G_api_Permission.mk ([117] : Str) false 7 0)] : (List G_api_Permission))).bind fun q =>
  bif q then (
    (s_access_May ([(G_api_Permission.mk ([117] : Str) true 0 (-1)), (G_api_Permission.mk ([117] : Str) false 7 0)] : (List G_api_Permission)) ([117] : Str) (G_api_Ref.mk 7 0)).bind fun q_1 =>
    bif (!q_1) then (
      (s_access_May ([(G_api_Permission.mk ([117] : Str) true 0 (-1)), (G_api_Permission.mk ([117] : Str) false 7 0)] : (List G_api_Permission)) ([117] : Str) (G_api_Ref.mk 7 1)).bind fun q_2 =>
      bif q_2 then (
        (s_access_May ([(G_api_Permission.mk ([117] : Str) true 0 (-1)), (G_api_Permission.mk ([117] : Str) false 7 0)] : (List G_api_Permission)) ([118] : Str) (G_api_Ref.mk 1 0)).bind fun q_3 =>
        bif (!q_3) then (
          bif ((v_.length : Int) == 1) then (
            chk (inR 0 (v_.length : Int)) <|
            (v_[((0 : Int)).toNat]?).bind fun v__e =>
            (idx v__e.Columns 0).bind fun Column =>
            (idx Column.Cells 0).bind fun Cell =>
            bif Cell.Null then (
              chk (inR 0 (v_.length : Int)) <|
              (v_[((0 : Int)).toNat]?).bind fun v__e_1 =>
              (idx v__e_1.Columns 1).bind fun Column_1 =>
              s_tablefinderlaw42_awake_j1 (Column_1.Name == ([110] : Str))
            ) else (
              s_tablefinderlaw42_awake_j1 false
            )
          ) else (
            s_tablefinderlaw42_awake_j1 false
          )
        ) else (
          s_tablefinderlaw42_awake_j1 false
        )
      ) else (
        s_tablefinderlaw42_awake_j1 false
      )
    ) else (
      s_tablefinderlaw42_awake_j1 false
    )
  ) else (
    s_tablefinderlaw42_awake_j1 false
  )

/-! ### tablefinder/tablefinderkit.Roll -/

def s_tablefinderkit_Roll (t : (List Int)) : Option G_tablefinderkit_Dice :=
  some (G_tablefinderkit_Dice.mk t 0)

/-! ### tablefinder/tablefinderkit.Mod -/

def s_tablefinderkit_Mod (n : Int) (m : Int) : Option Int :=
  bif (decide (m < 1)) then (
    some (0 : Int)
  ) else (
    chk (decide (m ≠ 0)) <|
    chk (inK .i64 ((Int.tmod n m) + m)) <|
    chk (decide (m ≠ 0)) <|
    some (Int.tmod ((Int.tmod n m) + m) m)
  )

/-! ### (*tablefinder/tablefinderkit.Dice).Next -/

def s_tablefinderkit_Dice_Next (d : G_tablefinderkit_Dice) (n : Int) : Option (Int × G_tablefinderkit_Dice) :=
  bif (decide (d.at_ ≥ (d.l.length : Int))) then (
    some (0, d)
  ) else (
    chk (inK .i64 (d.at_ + 1)) <|
    chk (inK .i64 ((d.at_ + 1) - 1)) <|
    (idx d.l ((d.at_ + 1) - 1)).bind fun l_e =>
    (s_tablefinderkit_Mod l_e n).bind fun q =>
    some (q, (G_tablefinderkit_Dice.mk d.l (d.at_ + 1)))
  )

/-! ### (*tablefinder/tablefinderkit.Dice).Word -/

def s_tablefinderkit_Dice_Word (d : G_tablefinderkit_Dice) (l : (List Str)) : Option (Str × G_tablefinderkit_Dice) :=
  (s_tablefinderkit_Dice_Next d (l.length : Int)).bind fun (q, t6) =>
  (idx l q).bind fun l_e =>
  some (l_e, t6)

/-! ### tablefinder/tablefinderkit.Rules -/

def s_tablefinderkit_Rules_k1 (d : G_tablefinderkit_Dice) (l : (List G_api_Permission)) : Option ((List G_api_Permission) × G_tablefinderkit_Dice) :=
  some (l, d)

def s_tablefinderkit_Rules_l1_b (rec_ : Int → G_tablefinderkit_Dice → (List G_api_Permission) → Option (G_tablefinderkit_Dice × (List G_api_Permission))) (k : Int) (d : G_tablefinderkit_Dice) (l : (List G_api_Permission)) : Option (G_tablefinderkit_Dice × (List G_api_Permission)) :=
  bif (decide (k > 0)) then (
    (s_tablefinderkit_Dice_Word d ([([117] : Str), ([118] : Str), ([117] : Str)] : (List Str))).bind fun (q, t14) =>
    (s_tablefinderkit_Dice_Next t14 3).bind fun (q_1, t17) =>
    (s_tablefinderkit_Dice_Next t17 5).bind fun (q_2, t20) =>
    (s_tablefinderkit_Dice_Next t20 4).bind fun (q_3, t22) =>
    chk (inK .i64 (q_3 - 1)) <|
    chk (room (l.length + ([(G_api_Permission.mk q (q_1 == 0) q_2 (q_3 - 1))] : (List G_api_Permission)).length) 40) <|
    chk (inK .i64 (k - 1)) <|
    rec_ (k - 1) t22 (l ++ ([(G_api_Permission.mk q (q_1 == 0) q_2 (q_3 - 1))] : (List G_api_Permission)))
  ) else (
    some (d, l)
  )

def s_tablefinderkit_Rules_l1 : Nat → Int → G_tablefinderkit_Dice → (List G_api_Permission) → Option (G_tablefinderkit_Dice × (List G_api_Permission))
  | 0, _, _, _ => none
  | n_ + 1, k, d, l => s_tablefinderkit_Rules_l1_b (s_tablefinderkit_Rules_l1 n_) k d l

def s_tablefinderkit_Rules (d : G_tablefinderkit_Dice) : Option ((List G_api_Permission) × G_tablefinderkit_Dice) :=
  (s_tablefinderkit_Dice_Next d 5).bind fun (k, t7) =>
  (s_tablefinderkit_Rules_l1 big k t7 ([(G_api_Permission.mk ([117] : Str) true 0 (-1))] : (List G_api_Permission))).bind fun (x0, x1) => s_tablefinderkit_Rules_k1 x0 x1

/-! ### tablefinder/tablefinderlaw42.AccessLast -/

def s_tablefinderlaw42_AccessLast_j5 (t4 : Bool) : Option Bool :=
  some t4

def s_tablefinderlaw42_AccessLast_k4 (l : (List G_api_Permission)) (x_ : G_api_Ref) (mine : (List G_api_Permission)) : Option Bool :=
  (s_access_May mine ([117] : Str) x_).bind fun q =>
  (s_access_May l ([117] : Str) x_).bind fun q_1 =>
  bif (q == q_1) then (
    (s_access_May mine ([118] : Str) x_).bind fun q_2 =>
    bif (!q_2) then (
      (s_tablefinderlaw42_awake).bind fun q_3 =>
      s_tablefinderlaw42_AccessLast_j5 q_3
    ) else (
      s_tablefinderlaw42_AccessLast_j5 false
    )
  ) else (
    s_tablefinderlaw42_AccessLast_j5 false
  )

def s_tablefinderlaw42_AccessLast_k3 (rec_ : (List G_api_Permission) → Int → Int → G_api_Ref → (List G_api_Permission) → (List Bool) → Option (Out ((List G_api_Permission) × G_api_Ref × (List G_api_Permission)) Bool)) (l : (List G_api_Permission)) (allow : Bool) (t46 : Int) (t47 : Int) (x_ : G_api_Ref) (mine : (List G_api_Permission)) (t45 : (List Bool)) : Option (Out ((List G_api_Permission) × G_api_Ref × (List G_api_Permission)) Bool) :=
  chk (decide (0 ≤ (0 : Int) ∧ (0 : Int) ≤ (l.length : Int) ∧ (l.length : Int) ≤ (l.length : Int) ∧ (l.length : Int) = (l.length : Int))) <|
  chk (inK .i64 (x_.Table + 1)) <|
  chk (inK .i64 (x_.Column + 1)) <|
  chk (decide (List.isEmpty ([(G_api_Permission.mk ([119] : Str) allow 0 (-1)), (G_api_Permission.mk ([117] : Str) allow (x_.Table + 1) (-1)), (G_api_Permission.mk ([117] : Str) allow x_.Table (x_.Column + 1))] : (List G_api_Permission)) = false)) <|
  chk (room ((l.take ((l.length : Int)).toNat).length + ([(G_api_Permission.mk ([119] : Str) allow 0 (-1)), (G_api_Permission.mk ([117] : Str) allow (x_.Table + 1) (-1)), (G_api_Permission.mk ([117] : Str) allow x_.Table (x_.Column + 1))] : (List G_api_Permission)).length) 40) <|
  (s_access_May ((l.take ((l.length : Int)).toNat) ++ ([(G_api_Permission.mk ([119] : Str) allow 0 (-1)), (G_api_Permission.mk ([117] : Str) allow (x_.Table + 1) (-1)), (G_api_Permission.mk ([117] : Str) allow x_.Table (x_.Column + 1))] : (List G_api_Permission))) ([117] : Str) x_).bind fun q =>
  (s_access_May l ([117] : Str) x_).bind fun q_1 =>
  bif (!(q == q_1)) then (
    some (.ret false)
  ) else (
    chk (inK .i64 (t47 + 1)) <|
    rec_ l t46 (t47 + 1) x_ mine t45
  )

def s_tablefinderlaw42_AccessLast_l3_b (rec_ : (List G_api_Permission) → Bool → Int → Int → Int → Int → G_api_Ref → (List G_api_Permission) → (List Bool) → (List G_api_Permission) → Option (Out ((List G_api_Permission) × Bool × Int × Int × G_api_Ref × (List G_api_Permission) × (List Bool)) Bool)) (l : (List G_api_Permission)) (allow : Bool) (t46 : Int) (t47 : Int) (t68 : Int) (t69 : Int) (x_ : G_api_Ref) (mine : (List G_api_Permission)) (t45 : (List Bool)) (t67 : (List G_api_Permission)) : Option (Out ((List G_api_Permission) × Bool × Int × Int × G_api_Ref × (List G_api_Permission) × (List Bool)) Bool) :=
  bif (decide (t69 < t68)) then (
    chk (inR t69 (t67.length : Int)) <|
    (t67[(t69).toNat]?).bind fun p =>
    chk (decide (0 ≤ (0 : Int) ∧ (0 : Int) ≤ (l.length : Int) ∧ (l.length : Int) ≤ (l.length : Int) ∧ (l.length : Int) = (l.length : Int))) <|
    chk (decide (List.isEmpty ([p] : (List G_api_Permission)) = false)) <|
    chk (room ((l.take ((l.length : Int)).toNat).length + ([p] : (List G_api_Permission)).length) 40) <|
    (s_access_May ((l.take ((l.length : Int)).toNat) ++ ([p] : (List G_api_Permission))) ([117] : Str) x_).bind fun q =>
    bif (!(q == allow)) then (
      some (.ret false)
    ) else (
      chk (inK .i64 (t69 + 1)) <|
      rec_ l allow t46 t47 t68 (t69 + 1) x_ mine t45 t67
    )
  ) else (
    some (.brk (l, allow, t46, t47, x_, mine, t45))
  )

def s_tablefinderlaw42_AccessLast_l3 : Nat → (List G_api_Permission) → Bool → Int → Int → Int → Int → G_api_Ref → (List G_api_Permission) → (List Bool) → (List G_api_Permission) → Option (Out ((List G_api_Permission) × Bool × Int × Int × G_api_Ref × (List G_api_Permission) × (List Bool)) Bool)
  | 0, _, _, _, _, _, _, _, _, _, _ => none
  | n_ + 1, l, allow, t46, t47, t68, t69, x_, mine, t45, t67 => s_tablefinderlaw42_AccessLast_l3_b (s_tablefinderlaw42_AccessLast_l3 n_) l allow t46 t47 t68 t69 x_ mine t45 t67

def s_tablefinderlaw42_AccessLast_l2_b (rec_ : (List G_api_Permission) → Int → Int → G_api_Ref → (List G_api_Permission) → (List Bool) → Option (Out ((List G_api_Permission) × G_api_Ref × (List G_api_Permission)) Bool)) (l : (List G_api_Permission)) (t46 : Int) (t47 : Int) (x_ : G_api_Ref) (mine : (List G_api_Permission)) (t45 : (List Bool)) : Option (Out ((List G_api_Permission) × G_api_Ref × (List G_api_Permission)) Bool) :=
  bif (decide (t47 < t46)) then (
    chk (inR t47 (t45.length : Int)) <|
    (t45[(t47).toNat]?).bind fun allow =>
    (s_tablefinderlaw42_AccessLast_l3 big l allow t46 t47 (([(G_api_Permission.mk ([117] : Str) allow 0 (-1)), (G_api_Permission.mk ([117] : Str) allow x_.Table x_.Column), (G_api_Permission.mk ([117] : Str) allow x_.Table (-1)), (G_api_Permission.mk ([117] : Str) allow 0 x_.Column)] : (List G_api_Permission)).length : Int) (0 : Int) x_ mine t45 ([(G_api_Permission.mk ([117] : Str) allow 0 (-1)), (G_api_Permission.mk ([117] : Str) allow x_.Table x_.Column), (G_api_Permission.mk ([117] : Str) allow x_.Table (-1)), (G_api_Permission.mk ([117] : Str) allow 0 x_.Column)] : (List G_api_Permission))).bind fun
      | .ret q_ => some (.ret q_)
      | .brk (x0, x1, x2, x3, x4, x5, x6) => s_tablefinderlaw42_AccessLast_k3 rec_ x0 x1 x2 x3 x4 x5 x6
  ) else (
    some (.brk (l, x_, mine))
  )

def s_tablefinderlaw42_AccessLast_l2 : Nat → (List G_api_Permission) → Int → Int → G_api_Ref → (List G_api_Permission) → (List Bool) → Option (Out ((List G_api_Permission) × G_api_Ref × (List G_api_Permission)) Bool)
  | 0, _, _, _, _, _, _ => none
  | n_ + 1, l, t46, t47, x_, mine, t45 => s_tablefinderlaw42_AccessLast_l2_b (s_tablefinderlaw42_AccessLast_l2 n_) l t46 t47 x_ mine t45

def s_tablefinderlaw42_AccessLast_k2 (l : (List G_api_Permission)) (x_ : G_api_Ref) (mine : (List G_api_Permission)) : Option Bool :=
  (s_tablefinderlaw42_AccessLast_l2 big l (([true, false] : (List Bool)).length : Int) (0 : Int) x_ mine ([true, false] : (List Bool))).bind fun
    | .ret q_ => some q_
    | .brk (x0, x1, x2) => s_tablefinderlaw42_AccessLast_k4 x0 x1 x2

def s_tablefinderlaw42_AccessLast_j1 (rec_ : Int → Int → (List G_api_Permission) → G_api_Ref → (List G_api_Permission) → Option ((List G_api_Permission) × G_api_Ref × (List G_api_Permission))) (t32 : Int) (t33 : Int) (l : (List G_api_Permission)) (x_ : G_api_Ref) (mine : (List G_api_Permission)) : Option ((List G_api_Permission) × G_api_Ref × (List G_api_Permission)) :=
  chk (inK .i64 (t33 + 1)) <|
  rec_ t32 (t33 + 1) l x_ mine

def s_tablefinderlaw42_AccessLast_l1_b (rec_ : Int → Int → (List G_api_Permission) → G_api_Ref → (List G_api_Permission) → Option ((List G_api_Permission) × G_api_Ref × (List G_api_Permission))) (t32 : Int) (t33 : Int) (l : (List G_api_Permission)) (x_ : G_api_Ref) (mine : (List G_api_Permission)) : Option ((List G_api_Permission) × G_api_Ref × (List G_api_Permission)) :=
  bif (decide (t33 < t32)) then (
    chk (inR t33 (l.length : Int)) <|
    (l[(t33).toNat]?).bind fun p =>
    bif (p.User == ([117] : Str)) then (
      chk (room (mine.length + ([p] : (List G_api_Permission)).length) 40) <|
      s_tablefinderlaw42_AccessLast_j1 rec_ t32 t33 l x_ (mine ++ ([p] : (List G_api_Permission)))
    ) else (
      s_tablefinderlaw42_AccessLast_j1 rec_ t32 t33 l x_ mine
    )
  ) else (
    some (l, x_, mine)
  )

def s_tablefinderlaw42_AccessLast_l1 : Nat → Int → Int → (List G_api_Permission) → G_api_Ref → (List G_api_Permission) → Option ((List G_api_Permission) × G_api_Ref × (List G_api_Permission))
  | 0, _, _, _, _, _ => none
  | n_ + 1, t32, t33, l, x_, mine => s_tablefinderlaw42_AccessLast_l1_b (s_tablefinderlaw42_AccessLast_l1 n_) t32 t33 l x_ mine

def s_tablefinderlaw42_AccessLast (t : (List Int)) (r_ : Int) : Option Bool :=
  (s_tablefinderkit_Light t).bind fun q =>
  bif (!q) then (
    (s_tablefinderlaw42_awake).bind fun q_1 =>
    some q_1
  ) else (
    (s_tablefinderkit_Roll t).bind fun q_2 =>
    (s_tablefinderkit_Rules q_2).bind fun (l, t20) =>
    chk (decide ((4 : Int) ≠ 0)) <|
    chk (inK .i64 (1 + (IntKind.wrap .i64 (Int.tmod r_ 4)))) <|
    chk (decide ((4 : Int) ≠ 0)) <|
    chk (decide ((3 : Int) ≠ 0)) <|
    (s_tablefinderlaw42_AccessLast_l1 big (l.length : Int) (0 : Int) l (G_api_Ref.mk (1 + (IntKind.wrap .i64 (Int.tmod r_ 4))) (IntKind.wrap .i64 (Int.tmod (IntKind.wrap .u8 (Int.tdiv r_ 4)) 3))) ([] : (List G_api_Permission))).bind fun (x0, x1, x2) => s_tablefinderlaw42_AccessLast_k2 x0 x1 x2
  )

end
end Go.Proofs
