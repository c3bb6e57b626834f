/- Printed by wip/tools/tgen.py: specs. -/
import Derived.Test.YtjdddnbddnhilaaDoorE4
import Derived.Lib.ItoaNum
import Derived.Lib.LaidU8
import Derived.Shelf.Strconv.Itoa3
set_option linter.unusedVariables false
set_option linter.unusedSimpArgs false
set_option linter.unusedSectionVars false
namespace Go.Proofs
open Go Eng
set_option maxRecDepth 100000
noncomputable section

structure G_api_Cell where
  Null : Bool
  Text : Str
  deriving DecidableEq, Inhabited

structure G_api_Column where
  Name : Str
  Cells : (List G_api_Cell)
  deriving DecidableEq, Inhabited

structure G_api_Table where
  ID : Int
  Name : Str
  Columns : (List G_api_Column)
  deriving DecidableEq, Inhabited

structure G_api_Ref where
  Table : Int
  Column : Int
  deriving DecidableEq, Inhabited

structure G_api_Relation where
  A : G_api_Ref
  B : G_api_Ref
  Common : Int
  OnlyA : Int
  OnlyB : Int
  MostA : Int
  MostB : Int
  LostA : Int
  LostB : Int
  deriving DecidableEq, Inhabited

structure G_unicode_utf8_acceptRange where
  lo : Int
  hi : Int
  deriving DecidableEq, Inhabited

structure G_tablefinderkit_Dice where
  l : (List Int)
  at_ : Int
  deriving DecidableEq, Inhabited

structure G_arr2_G_api_Table where
  e0 : G_api_Table
  e1 : G_api_Table
  deriving DecidableEq, Inhabited

structure G_arr2_Int where
  e0 : Int
  e1 : Int
  deriving DecidableEq, Inhabited

structure G_api_Big where
  Neg : Bool
  Words : (List Int)
  deriving DecidableEq, Inhabited

structure G_api_Fraction where
  Num : G_api_Big
  Den : G_api_Big
  deriving DecidableEq, Inhabited

structure G_arr2_G_api_Fraction where
  e0 : G_api_Fraction
  e1 : G_api_Fraction
  deriving DecidableEq, Inhabited

structure G_api_Moments where
  N : Int
  X : G_api_Fraction
  Y : G_api_Fraction
  XX : G_api_Fraction
  YY : G_api_Fraction
  XY : G_api_Fraction
  deriving DecidableEq, Inhabited

structure G_api_Permission where
  User : Str
  Allow : Bool
  Table : Int
  Column : Int
  deriving DecidableEq, Inhabited

structure G_arr6_Int where
  e0 : Int
  e1 : Int
  e2 : Int
  e3 : Int
  e4 : Int
  e5 : Int
  deriving DecidableEq, Inhabited

structure G_tablefindermill_Dice where
  seeds : (List Int)
  at_ : Int
  deriving DecidableEq, Inhabited

structure G_api_Op where
  Kind : Int
  Column : Int
  Text : Str
  Columns : (List Int)
  deriving DecidableEq, Inhabited

abbrev G_arr24_int_u8 : Type := { l : List Int // l.length = 24 }

abbrev G_arr256_int_u8 : Type := { l : List Int // l.length = 256 }

structure G_arr16_G_unicode_utf8_acceptRange where
  e0 : G_unicode_utf8_acceptRange
  e1 : G_unicode_utf8_acceptRange
  e2 : G_unicode_utf8_acceptRange
  e3 : G_unicode_utf8_acceptRange
  e4 : G_unicode_utf8_acceptRange
  e5 : G_unicode_utf8_acceptRange
  e6 : G_unicode_utf8_acceptRange
  e7 : G_unicode_utf8_acceptRange
  e8 : G_unicode_utf8_acceptRange
  e9 : G_unicode_utf8_acceptRange
  e10 : G_unicode_utf8_acceptRange
  e11 : G_unicode_utf8_acceptRange
  e12 : G_unicode_utf8_acceptRange
  e13 : G_unicode_utf8_acceptRange
  e14 : G_unicode_utf8_acceptRange
  e15 : G_unicode_utf8_acceptRange
  deriving DecidableEq, Inhabited

abbrev G_arr20_int_u64 : Type := { l : List Int // l.length = 20 }

abbrev G_arr65_int_u8 : Type := { l : List Int // l.length = 65 }

abbrev G_arr32_int_u8 : Type := { l : List Int // l.length = 32 }

abbrev G_arr64_int_u8 : Type := { l : List Int // l.length = 64 }

structure G_errors_errorString where
  s : Str
  deriving DecidableEq, Inhabited

def carU : Nat → Type
  | 0 => G_api_Cell
  | 1 => G_api_Column
  | 2 => G_api_Table
  | 3 => G_api_Ref
  | 4 => G_api_Relation
  | 5 => G_unicode_utf8_acceptRange
  | 6 => G_tablefinderkit_Dice
  | 7 => G_arr2_G_api_Table
  | 8 => G_arr2_Int
  | 9 => G_api_Big
  | 10 => G_api_Fraction
  | 11 => G_arr2_G_api_Fraction
  | 12 => G_api_Moments
  | 13 => G_api_Permission
  | 14 => G_arr6_Int
  | 15 => G_tablefindermill_Dice
  | 16 => G_api_Op
  | 17 => G_arr24_int_u8
  | 18 => G_arr256_int_u8
  | 19 => G_arr16_G_unicode_utf8_acceptRange
  | 20 => G_arr20_int_u64
  | 21 => G_arr65_int_u8
  | 22 => G_arr32_int_u8
  | 23 => G_arr64_int_u8
  | 24 => G_errors_errorString
  | _ => Unit

def sizeU : Nat → Nat
  | 0 => 2
  | 1 => 2
  | 2 => 3
  | 3 => 2
  | 4 => 11
  | 5 => 2
  | 6 => 2
  | 7 => 6
  | 8 => 2
  | 9 => 2
  | 10 => 4
  | 11 => 8
  | 12 => 21
  | 13 => 4
  | 14 => 6
  | 15 => 2
  | 16 => 4
  | 17 => 24
  | 18 => 256
  | 19 => 32
  | 20 => 20
  | 21 => 65
  | 22 => 32
  | 23 => 64
  | 24 => 1
  | _ => 0


def glob_utf8_first : List (Lf carU) := (Lib.firstTab.map fun n => ⟨.int .u8, n⟩)

def glob_utf8_acceptRanges : List (Lf carU) := [⟨.int .u8, (128 : Int)⟩, ⟨.int .u8, (191 : Int)⟩, ⟨.int .u8, (160 : Int)⟩, ⟨.int .u8, (191 : Int)⟩, ⟨.int .u8, (128 : Int)⟩, ⟨.int .u8, (159 : Int)⟩, ⟨.int .u8, (144 : Int)⟩, ⟨.int .u8, (191 : Int)⟩, ⟨.int .u8, (128 : Int)⟩, ⟨.int .u8, (143 : Int)⟩, ⟨.int .u8, (0 : Int)⟩, ⟨.int .u8, (0 : Int)⟩, ⟨.int .u8, (0 : Int)⟩, ⟨.int .u8, (0 : Int)⟩, ⟨.int .u8, (0 : Int)⟩, ⟨.int .u8, (0 : Int)⟩, ⟨.int .u8, (0 : Int)⟩, ⟨.int .u8, (0 : Int)⟩, ⟨.int .u8, (0 : Int)⟩, ⟨.int .u8, (0 : Int)⟩, ⟨.int .u8, (0 : Int)⟩, ⟨.int .u8, (0 : Int)⟩, ⟨.int .u8, (0 : Int)⟩, ⟨.int .u8, (0 : Int)⟩, ⟨.int .u8, (0 : Int)⟩, ⟨.int .u8, (0 : Int)⟩, ⟨.int .u8, (0 : Int)⟩, ⟨.int .u8, (0 : Int)⟩, ⟨.int .u8, (0 : Int)⟩, ⟨.int .u8, (0 : Int)⟩, ⟨.int .u8, (0 : Int)⟩, ⟨.int .u8, (0 : Int)⟩]

def glob_strconv_uint64pow10 : List (Lf carU) := (Lib.pow10Tab.map fun n => ⟨.int .u64, n⟩)

/-! ### tablefinder/tablefinderlaw29.small -/

def s_tablefinderlaw29_small_k1  : Option Bool :=
  some true

def s_tablefinderlaw29_small_l1_b (rec_ : (List G_api_Column) → Int → Int → Option (Out Unit Bool)) (t10 : (List G_api_Column)) (t11 : Int) (t12 : Int) : Option (Out Unit Bool) :=
  bif (decide (t12 < t11)) then (
    (idx t10 t12).bind fun c =>
    bif (decide ((c.Cells.length : Int) > 20)) then (
      some (.ret false)
    ) else (
      chk (inK .i64 (t12 + 1)) <|
      rec_ t10 t11 (t12 + 1)
    )
  ) else (
    some (.brk ())
  )

def s_tablefinderlaw29_small_l1 : Nat → (List G_api_Column) → Int → Int → Option (Out Unit Bool)
  | 0, _, _, _ => none
  | n_ + 1, t10, t11, t12 => s_tablefinderlaw29_small_l1_b (s_tablefinderlaw29_small_l1 n_) t10 t11 t12

def s_tablefinderlaw29_small_l1_F (n : Nat) (s : ((List G_api_Column) × Int × Int)) : Option (Out Unit Bool) := s_tablefinderlaw29_small_l1 n s.1 s.2.1 s.2.2
def s_tablefinderlaw29_small_l1_B (rec_ : ((List G_api_Column) × Int × Int) → Option (Out Unit Bool)) (s : ((List G_api_Column) × Int × Int)) : Option (Out Unit Bool) := s_tablefinderlaw29_small_l1_b (fun t10 t11 t12 => rec_ (t10, t11, t12)) s.1 s.2.1 s.2.2
theorem s_tablefinderlaw29_small_l1_FB : ∀ n s, s_tablefinderlaw29_small_l1_F (n + 1) s = s_tablefinderlaw29_small_l1_B (s_tablefinderlaw29_small_l1_F n) s := fun _ _ => rfl

def s_tablefinderlaw29_small (t : G_api_Table) : Option Bool :=
  bif (decide ((t.Columns.length : Int) > 10)) then (
    some false
  ) else (
    (s_tablefinderlaw29_small_l1 big t.Columns (t.Columns.length : Int) (0 : Int)).bind fun
      | .ret q_ => some q_
      | .brk () => s_tablefinderlaw29_small_k1
  )

/-! ### tablefinder/tablefinderkit.Light -/

def s_tablefinderkit_Light (t : (List Int)) : Option Bool :=
  some (decide ((t.length : Int) ≤ 500))

/-! ### unicode/utf8.word[string] -/

def s_unicode_utf8_word_string (s : Str) : Option Int :=
  (idx s 0).bind fun c =>
  (idx s 1).bind fun c_1 =>
  chk (decide (0 ≤ (8 : Int))) <|
  (idx s 2).bind fun c_2 =>
  chk (decide (0 ≤ (16 : Int))) <|
  (idx s 3).bind fun c_3 =>
  chk (decide (0 ≤ (24 : Int))) <|
  (idx s 4).bind fun c_4 =>
  chk (decide (0 ≤ (32 : Int))) <|
  (idx s 5).bind fun c_5 =>
  chk (decide (0 ≤ (40 : Int))) <|
  (idx s 6).bind fun c_6 =>
  chk (decide (0 ≤ (48 : Int))) <|
  (idx s 7).bind fun c_7 =>
  chk (decide (0 ≤ (56 : Int))) <|
  some (orK .u64 (orK .u64 (orK .u64 (orK .u64 (orK .u64 (orK .u64 (orK .u64 (IntKind.wrap .u64 ((c.toNat : Nat) : Int)) (shlK .u64 (IntKind.wrap .u64 ((c_1.toNat : Nat) : Int)) 8)) (shlK .u64 (IntKind.wrap .u64 ((c_2.toNat : Nat) : Int)) 16)) (shlK .u64 (IntKind.wrap .u64 ((c_3.toNat : Nat) : Int)) 24)) (shlK .u64 (IntKind.wrap .u64 ((c_4.toNat : Nat) : Int)) 32)) (shlK .u64 (IntKind.wrap .u64 ((c_5.toNat : Nat) : Int)) 40)) (shlK .u64 (IntKind.wrap .u64 ((c_6.toNat : Nat) : Int)) 48)) (shlK .u64 (IntKind.wrap .u64 ((c_7.toNat : Nat) : Int)) 56))

/-! ### unicode/utf8.ValidString -/

def s_unicode_utf8_ValidString_k9  : Option Bool :=
  some true

def s_unicode_utf8_ValidString_j8 (rec_ : Str → Option (Out Unit Bool)) (s : Str) (t166 : Bool) : Option (Out Unit Bool) :=
  bif t166 then (
    some (.ret false)
  ) else (
    chk (within 4 (s.length : Int) (s.length : Int)) <|
    rec_ (s.drop ((4 : Int)).toNat)
  )

def s_unicode_utf8_ValidString_j7 (rec_ : Str → Option (Out Unit Bool)) (s : Str) (t125 : Bool) : Option (Out Unit Bool) :=
  bif t125 then (
    some (.ret false)
  ) else (
    chk (within 3 (s.length : Int) (s.length : Int)) <|
    rec_ (s.drop ((3 : Int)).toNat)
  )

def s_unicode_utf8_ValidString_j6 (rec_ : Str → Option (Out Unit Bool)) (s : Str) (t94 : Bool) : Option (Out Unit Bool) :=
  bif t94 then (
    some (.ret false)
  ) else (
    chk (within 2 (s.length : Int) (s.length : Int)) <|
    rec_ (s.drop ((2 : Int)).toNat)
  )

def s_unicode_utf8_ValidString_j5 (rec_ : Str → Option (Out Unit Bool)) (s : Str) : Option (Out Unit Bool) :=
  rec_ s

def s_unicode_utf8_ValidString_k4 (rec_ : Str → Option (Out Unit Bool)) (s : Str) : Option (Out Unit Bool) :=
  rec_ s

def s_unicode_utf8_ValidString_j3 (rec_ : Str → Option Str) (s : Str) (t62 : Bool) : Option Str :=
  bif t62 then (
    chk (within 32 (s.length : Int) (s.length : Int)) <|
    rec_ (s.drop ((32 : Int)).toNat)
  ) else (
    some s
  )

def s_unicode_utf8_ValidString_l2_b (rec_ : Str → Option Str) (s : Str) : Option Str :=
  bif (decide ((s.length : Int) > 32)) then (
    (s_unicode_utf8_word_string s).bind fun q =>
    chk (within 8 (s.length : Int) (s.length : Int)) <|
    (s_unicode_utf8_word_string (s.drop ((8 : Int)).toNat)).bind fun q_1 =>
    chk (within 16 (s.length : Int) (s.length : Int)) <|
    (s_unicode_utf8_word_string (s.drop ((16 : Int)).toNat)).bind fun q_2 =>
    chk (within 24 (s.length : Int) (s.length : Int)) <|
    (s_unicode_utf8_word_string (s.drop ((24 : Int)).toNat)).bind fun q_3 =>
    s_unicode_utf8_ValidString_j3 rec_ s ((andK .u64 (orK .u64 (orK .u64 q q_1) (orK .u64 q_2 q_3)) 9259542123273814144) == 0)
  ) else (
    s_unicode_utf8_ValidString_j3 rec_ s false
  )

def s_unicode_utf8_ValidString_l2 : Nat → Str → Option Str
  | 0, _ => none
  | n_ + 1, s => s_unicode_utf8_ValidString_l2_b (s_unicode_utf8_ValidString_l2 n_) s

def s_unicode_utf8_ValidString_l2_F (n : Nat) (s : Str) : Option Str := s_unicode_utf8_ValidString_l2 n s
def s_unicode_utf8_ValidString_l2_B (rec_ : Str → Option Str) (s : Str) : Option Str := s_unicode_utf8_ValidString_l2_b (fun s => rec_ s) s
theorem s_unicode_utf8_ValidString_l2_FB : ∀ n s, s_unicode_utf8_ValidString_l2_F (n + 1) s = s_unicode_utf8_ValidString_l2_B (s_unicode_utf8_ValidString_l2_F n) s := fun _ _ => rfl

def s_unicode_utf8_ValidString_j2 (rec_ : Str → Option (Out Unit Bool)) (s : Str) (t39 : Bool) : Option (Out Unit Bool) :=
  bif t39 then (
    chk (within 16 (s.length : Int) (s.length : Int)) <|
    (s_unicode_utf8_ValidString_l2 big (s.drop ((16 : Int)).toNat)).bind fun x0 => s_unicode_utf8_ValidString_k4 rec_ x0
  ) else (
    s_unicode_utf8_ValidString_j5 rec_ s
  )

def s_unicode_utf8_ValidString_j1 (rec_ : Str → Option (Out Unit Bool)) (s : Str) (t24 : Bool) : Option (Out Unit Bool) :=
  bif t24 then (
    chk (within 8 (s.length : Int) (s.length : Int)) <|
    bif (decide (((s.drop ((8 : Int)).toNat).length : Int) > 16)) then (
      (s_unicode_utf8_word_string (s.drop ((8 : Int)).toNat)).bind fun q =>
      chk (within 8 ((s.drop ((8 : Int)).toNat).length : Int) ((s.drop ((8 : Int)).toNat).length : Int)) <|
      (s_unicode_utf8_word_string ((s.drop ((8 : Int)).toNat).drop ((8 : Int)).toNat)).bind fun q_1 =>
      s_unicode_utf8_ValidString_j2 rec_ (s.drop ((8 : Int)).toNat) ((andK .u64 (orK .u64 q q_1) 9259542123273814144) == 0)
    ) else (
      s_unicode_utf8_ValidString_j2 rec_ (s.drop ((8 : Int)).toNat) false
    )
  ) else (
    s_unicode_utf8_ValidString_j5 rec_ s
  )

def s_unicode_utf8_ValidString_l1_b (rec_ : Str → Option (Out Unit Bool)) (s : Str) : Option (Out Unit Bool) :=
  bif (decide ((s.length : Int) > 0)) then (
    (idx s 0).bind fun c =>
    bif (decide (((c.toNat : Nat) : Int) < 128)) then (
      chk (within 1 (s.length : Int) (s.length : Int)) <|
      bif (decide (((s.drop ((1 : Int)).toNat).length : Int) > 8)) then (
        (s_unicode_utf8_word_string (s.drop ((1 : Int)).toNat)).bind fun q =>
        s_unicode_utf8_ValidString_j1 rec_ (s.drop ((1 : Int)).toNat) ((andK .u64 q 9259542123273814144) == 0)
      ) else (
        s_unicode_utf8_ValidString_j1 rec_ (s.drop ((1 : Int)).toNat) false
      )
    ) else (
      chk (inR ((c.toNat : Nat) : Int) 256) <|
      (tabB (car := carU) (.int .u8) glob_utf8_first ((((c.toNat : Nat) : Int)).toNat * 1)).bind fun c_1 =>
      chk (decide (0 ≤ (4 : Int))) <|
      chk (inR (shrK .u8 c_1 4) 16) <|
      (tabB (car := carU) (.int .u8) glob_utf8_acceptRanges (((shrK .u8 c_1 4)).toNat * 2)).bind fun c_2 =>
      (tabB (car := carU) (.int .u8) glob_utf8_acceptRanges (((shrK .u8 c_1 4)).toNat * 2 + 1)).bind fun c_3 =>
      bif ((IntKind.wrap .i64 (andK .u8 c_1 7)) == 2) then (
        bif (decide ((s.length : Int) < 2)) then (
          s_unicode_utf8_ValidString_j6 rec_ s true
        ) else (
          (idx s 1).bind fun c_4 =>
          bif (decide (((c_4.toNat : Nat) : Int) < c_2)) then (
            s_unicode_utf8_ValidString_j6 rec_ s true
          ) else (
            (idx s 1).bind fun c_5 =>
            s_unicode_utf8_ValidString_j6 rec_ s (decide (c_3 < ((c_5.toNat : Nat) : Int)))
          )
        )
      ) else (
        bif ((IntKind.wrap .i64 (andK .u8 c_1 7)) == 3) then (
          bif (decide ((s.length : Int) < 3)) then (
            s_unicode_utf8_ValidString_j7 rec_ s true
          ) else (
            (idx s 1).bind fun c_6 =>
            bif (decide (((c_6.toNat : Nat) : Int) < c_2)) then (
              s_unicode_utf8_ValidString_j7 rec_ s true
            ) else (
              (idx s 1).bind fun c_7 =>
              bif (decide (c_3 < ((c_7.toNat : Nat) : Int))) then (
                s_unicode_utf8_ValidString_j7 rec_ s true
              ) else (
                (idx s 2).bind fun c_8 =>
                bif (decide (((c_8.toNat : Nat) : Int) < 128)) then (
                  s_unicode_utf8_ValidString_j7 rec_ s true
                ) else (
                  (idx s 2).bind fun c_9 =>
                  s_unicode_utf8_ValidString_j7 rec_ s (decide ((191 : Int) < ((c_9.toNat : Nat) : Int)))
                )
              )
            )
          )
        ) else (
          bif ((IntKind.wrap .i64 (andK .u8 c_1 7)) == 4) then (
            bif (decide ((s.length : Int) < 4)) then (
              s_unicode_utf8_ValidString_j8 rec_ s true
            ) else (
              (idx s 1).bind fun c_10 =>
              bif (decide (((c_10.toNat : Nat) : Int) < c_2)) then (
                s_unicode_utf8_ValidString_j8 rec_ s true
              ) else (
                (idx s 1).bind fun c_11 =>
                bif (decide (c_3 < ((c_11.toNat : Nat) : Int))) then (
                  s_unicode_utf8_ValidString_j8 rec_ s true
                ) else (
                  (idx s 2).bind fun c_12 =>
                  bif (decide (((c_12.toNat : Nat) : Int) < 128)) then (
                    s_unicode_utf8_ValidString_j8 rec_ s true
                  ) else (
                    (idx s 2).bind fun c_13 =>
                    bif (decide ((191 : Int) < ((c_13.toNat : Nat) : Int))) then (
                      s_unicode_utf8_ValidString_j8 rec_ s true
                    ) else (
                      (idx s 3).bind fun c_14 =>
                      bif (decide (((c_14.toNat : Nat) : Int) < 128)) then (
                        s_unicode_utf8_ValidString_j8 rec_ s true
                      ) else (
                        (idx s 3).bind fun c_15 =>
                        s_unicode_utf8_ValidString_j8 rec_ s (decide ((191 : Int) < ((c_15.toNat : Nat) : Int)))
                      )
                    )
                  )
                )
              )
            )
          ) else (
            some (.ret false)
          )
        )
      )
    )
  ) else (
    some (.brk ())
  )

def s_unicode_utf8_ValidString_l1 : Nat → Str → Option (Out Unit Bool)
  | 0, _ => none
  | n_ + 1, s => s_unicode_utf8_ValidString_l1_b (s_unicode_utf8_ValidString_l1 n_) s

def s_unicode_utf8_ValidString_l1_F (n : Nat) (s : Str) : Option (Out Unit Bool) := s_unicode_utf8_ValidString_l1 n s
def s_unicode_utf8_ValidString_l1_B (rec_ : Str → Option (Out Unit Bool)) (s : Str) : Option (Out Unit Bool) := s_unicode_utf8_ValidString_l1_b (fun s => rec_ s) s
theorem s_unicode_utf8_ValidString_l1_FB : ∀ n s, s_unicode_utf8_ValidString_l1_F (n + 1) s = s_unicode_utf8_ValidString_l1_B (s_unicode_utf8_ValidString_l1_F n) s := fun _ _ => rfl

def s_unicode_utf8_ValidString (s : Str) : Option Bool :=
  (s_unicode_utf8_ValidString_l1 big s).bind fun
    | .ret q_ => some q_
    | .brk () => s_unicode_utf8_ValidString_k9

/-! ### tablefinder/text.Valid -/

def s_text_Valid (s : Str) : Option Bool :=
  (s_unicode_utf8_ValidString s).bind fun q =>
  some q

/-! ### tablefinder/table.fine -/

def s_table_fine_j1 (t2 : Bool) : Option Bool :=
  some t2

def s_table_fine (s : Str) : Option Bool :=
  bif (decide ((s.length : Int) ≤ 1024)) then (
    (s_text_Valid s).bind fun q =>
    s_table_fine_j1 q
  ) else (
    s_table_fine_j1 false
  )

/-! ### tablefinder/table.Rows -/

def s_table_Rows (t : G_api_Table) : Option Int :=
  bif ((t.Columns.length : Int) == 0) then (
    some (0 : Int)
  ) else (
    (idx t.Columns 0).bind fun Column =>
    some (Column.Cells.length : Int)
  )

/-! ### tablefinder/table.ValidCell -/

def s_table_ValidCell_j1 (t2 : Bool) : Option Bool :=
  some t2

def s_table_ValidCell (c : G_api_Cell) : Option Bool :=
  (s_table_fine c.Text).bind fun q =>
  bif q then (
    bif c.Null then (
      s_table_ValidCell_j1 (!(!(c.Text == ([] : Str))))
    ) else (
      s_table_ValidCell_j1 true
    )
  ) else (
    s_table_ValidCell_j1 false
  )

/-! ### tablefinder/table.every[tablefinder/api.Cell] -/

def s_table_every_api_Cell_k1  : Option Bool :=
  some true

def s_table_every_api_Cell_l1_b (rec_ : (List G_api_Cell) → Int → Int → Option (Out Unit Bool)) (t7 : (List G_api_Cell)) (t8 : Int) (t9 : Int) : Option (Out Unit Bool) :=
  bif (decide (t9 < t8)) then (
    (idx t7 t9).bind fun x_ =>
    (s_table_ValidCell x_).bind fun q =>
    bif (!q) then (
      some (.ret false)
    ) else (
      chk (inK .i64 (t9 + 1)) <|
      rec_ t7 t8 (t9 + 1)
    )
  ) else (
    some (.brk ())
  )

def s_table_every_api_Cell_l1 : Nat → (List G_api_Cell) → Int → Int → Option (Out Unit Bool)
  | 0, _, _, _ => none
  | n_ + 1, t7, t8, t9 => s_table_every_api_Cell_l1_b (s_table_every_api_Cell_l1 n_) t7 t8 t9

def s_table_every_api_Cell_l1_F (n : Nat) (s : ((List G_api_Cell) × Int × Int)) : Option (Out Unit Bool) := s_table_every_api_Cell_l1 n s.1 s.2.1 s.2.2
def s_table_every_api_Cell_l1_B (rec_ : ((List G_api_Cell) × Int × Int) → Option (Out Unit Bool)) (s : ((List G_api_Cell) × Int × Int)) : Option (Out Unit Bool) := s_table_every_api_Cell_l1_b (fun t7 t8 t9 => rec_ (t7, t8, t9)) s.1 s.2.1 s.2.2
theorem s_table_every_api_Cell_l1_FB : ∀ n s, s_table_every_api_Cell_l1_F (n + 1) s = s_table_every_api_Cell_l1_B (s_table_every_api_Cell_l1_F n) s := fun _ _ => rfl

def s_table_every_api_Cell (l : (List G_api_Cell)) : Option Bool :=
  (s_table_every_api_Cell_l1 big l (l.length : Int) (0 : Int)).bind fun
    | .ret q_ => some q_
    | .brk () => s_table_every_api_Cell_k1

/-! ### tablefinder/table.Valid$1 -/

def s_table_Valid_1_j1 (t3 : Bool) : Option Bool :=
  some t3

def s_table_Valid_1 (c : G_api_Column) (a1 : G_api_Table) : Option Bool :=
  (s_table_fine c.Name).bind fun q =>
  bif (!q) then (
    s_table_Valid_1_j1 true
  ) else (
    (s_table_Rows a1).bind fun q_1 =>
    bif ((c.Cells.length : Int) != q_1) then (
      s_table_Valid_1_j1 true
    ) else (
      (s_table_every_api_Cell c.Cells).bind fun q_2 =>
      s_table_Valid_1_j1 (!q_2)
    )
  )

/-! ### slices.IndexFunc[[]tablefinder/api.Column,tablefinder/api.Column] -/

def s_slices_IndexFunc_api_Column_api_Column_k1  : Option Int :=
  some (-1 : Int)

def s_slices_IndexFunc_api_Column_api_Column_l1_b (rec_ : (List G_api_Column) → G_api_Table → Int → Int → Option (Out Unit Int)) (s : (List G_api_Column)) (f : G_api_Table) (t7 : Int) (i : Int) : Option (Out Unit Int) :=
  bif (decide (i < t7)) then (
    (idx s i).bind fun s_e =>
    (s_table_Valid_1 s_e f).bind fun q =>
    bif q then (
      some (.ret i)
    ) else (
      chk (inK .i64 (i + 1)) <|
      rec_ s f t7 (i + 1)
    )
  ) else (
    some (.brk ())
  )

def s_slices_IndexFunc_api_Column_api_Column_l1 : Nat → (List G_api_Column) → G_api_Table → Int → Int → Option (Out Unit Int)
  | 0, _, _, _, _ => none
  | n_ + 1, s, f, t7, i => s_slices_IndexFunc_api_Column_api_Column_l1_b (s_slices_IndexFunc_api_Column_api_Column_l1 n_) s f t7 i

def s_slices_IndexFunc_api_Column_api_Column_l1_F (n : Nat) (s : ((List G_api_Column) × G_api_Table × Int × Int)) : Option (Out Unit Int) := s_slices_IndexFunc_api_Column_api_Column_l1 n s.1 s.2.1 s.2.2.1 s.2.2.2
def s_slices_IndexFunc_api_Column_api_Column_l1_B (rec_ : ((List G_api_Column) × G_api_Table × Int × Int) → Option (Out Unit Int)) (s : ((List G_api_Column) × G_api_Table × Int × Int)) : Option (Out Unit Int) := s_slices_IndexFunc_api_Column_api_Column_l1_b (fun s f t7 i => rec_ (s, f, t7, i)) s.1 s.2.1 s.2.2.1 s.2.2.2
theorem s_slices_IndexFunc_api_Column_api_Column_l1_FB : ∀ n s, s_slices_IndexFunc_api_Column_api_Column_l1_F (n + 1) s = s_slices_IndexFunc_api_Column_api_Column_l1_B (s_slices_IndexFunc_api_Column_api_Column_l1_F n) s := fun _ _ => rfl

def s_slices_IndexFunc_api_Column_api_Column (s : (List G_api_Column)) (c : G_api_Table) : Option Int :=
  (s_slices_IndexFunc_api_Column_api_Column_l1 big s c (s.length : Int) (0 : Int)).bind fun
    | .ret q_ => some q_
    | .brk () => s_slices_IndexFunc_api_Column_api_Column_k1

/-! ### slices.ContainsFunc[[]tablefinder/api.Column,tablefinder/api.Column] -/

def s_slices_ContainsFunc_api_Column_api_Column (s : (List G_api_Column)) (c : G_api_Table) : Option Bool :=
  (s_slices_IndexFunc_api_Column_api_Column s c).bind fun q =>
  some (decide (q ≥ 0))

/-! ### tablefinder/table.Valid -/

def s_table_Valid_j1 (t27 : Bool) (t : G_api_Table) : Option Bool :=
  bif t27 then (
    some false
  ) else (
    (s_slices_ContainsFunc_api_Column_api_Column t.Columns t).bind fun q =>
    some (!q)
  )

def s_table_Valid (t : G_api_Table) : Option Bool :=
  bif (decide (t.ID < 0)) then (
    s_table_Valid_j1 true t
  ) else (
    bif (decide (t.ID > 1073741824)) then (
      s_table_Valid_j1 true t
    ) else (
      (s_table_fine t.Name).bind fun q =>
      bif (!q) then (
        s_table_Valid_j1 true t
      ) else (
        bif (decide ((t.Columns.length : Int) > 64)) then (
          s_table_Valid_j1 true t
        ) else (
          (s_table_Rows t).bind fun q_1 =>
          s_table_Valid_j1 (decide (q_1 > 4096)) t
        )
      )
    )
  )

/-! ### tablefinder/relation.counts -/

def s_relation_counts_k2 (out : (List (Str × Int))) : Option (List (Str × Int)) :=
  some out

def s_relation_counts_j1 (rec_ : (List G_api_Cell) → Int → Int → (List (Str × Int)) → Option (List (Str × Int))) (t8 : (List G_api_Cell)) (t9 : Int) (t10 : Int) (out : (List (Str × Int))) : Option (List (Str × Int)) :=
  chk (inK .i64 (t10 + 1)) <|
  rec_ t8 t9 (t10 + 1) out

def s_relation_counts_l1_b (rec_ : (List G_api_Cell) → Int → Int → (List (Str × Int)) → Option (List (Str × Int))) (t8 : (List G_api_Cell)) (t9 : Int) (t10 : Int) (out : (List (Str × Int))) : Option (List (Str × Int)) :=
  bif (decide (t10 < t9)) then (
    (idx t8 t10).bind fun x_ =>
    bif (!x_.Null) then (
      chk (inK .i64 (((lookB (k := .str) (v := (.int .i64)) (car := carU) out x_.Text).getD (0 : Int)) + 1)) <|
      s_relation_counts_j1 rec_ t8 t9 t10 (setB (k := .str) (v := (.int .i64)) (car := carU) out x_.Text (((lookB (k := .str) (v := (.int .i64)) (car := carU) out x_.Text).getD (0 : Int)) + 1))
    ) else (
      s_relation_counts_j1 rec_ t8 t9 t10 out
    )
  ) else (
    some out
  )

def s_relation_counts_l1 : Nat → (List G_api_Cell) → Int → Int → (List (Str × Int)) → Option (List (Str × Int))
  | 0, _, _, _, _ => none
  | n_ + 1, t8, t9, t10, out => s_relation_counts_l1_b (s_relation_counts_l1 n_) t8 t9 t10 out

def s_relation_counts_l1_F (n : Nat) (s : ((List G_api_Cell) × Int × Int × (List (Str × Int)))) : Option (List (Str × Int)) := s_relation_counts_l1 n s.1 s.2.1 s.2.2.1 s.2.2.2
def s_relation_counts_l1_B (rec_ : ((List G_api_Cell) × Int × Int × (List (Str × Int))) → Option (List (Str × Int))) (s : ((List G_api_Cell) × Int × Int × (List (Str × Int)))) : Option (List (Str × Int)) := s_relation_counts_l1_b (fun t8 t9 t10 out => rec_ (t8, t9, t10, out)) s.1 s.2.1 s.2.2.1 s.2.2.2
theorem s_relation_counts_l1_FB : ∀ n s, s_relation_counts_l1_F (n + 1) s = s_relation_counts_l1_B (s_relation_counts_l1_F n) s := fun _ _ => rfl

def s_relation_counts (c : G_api_Column) : Option (List (Str × Int)) :=
  (s_relation_counts_l1 big c.Cells (c.Cells.length : Int) (0 : Int) ([] : (List (Str × Int)))).bind fun x0 => s_relation_counts_k2 x0

/-! ### tablefinder/relation.against -/

def s_relation_against_k1 (common : Int) (most : Int) (lost : Int) : Option (Int × Int × Int) :=
  some (common, most, lost)

def s_relation_against_l1_b (rec_ : (List (Str × Int)) → Int → Int → Int → (List (Str × Int)) → (Option (Str × Int)) → Option (Int × Int × Int)) (b : (List (Str × Int))) (common : Int) (most : Int) (lost : Int) (t13 : (List (Str × Int))) (t13_at : (Option (Str × Int))) : Option (Int × Int × Int) :=
  bif List.isEmpty t13 then (
    some (common, most, lost)
  ) else pickAll t13 fun q rest => (
    bif (decide (((lookB (k := .str) (v := (.int .i64)) (car := carU) b q.1).getD (0 : Int)) > 0)) then (
      chk (inK .i64 (common + 1)) <|
      chk (inK .i64 (lost - q.2)) <|
      rec_ b (common + 1) (if q.2 > most then q.2 else most) (lost - q.2) rest (some (q.1, q.2))
    ) else (
      rec_ b common most lost rest (some (q.1, q.2))
    )
  )

def s_relation_against_l1 : Nat → (List (Str × Int)) → Int → Int → Int → (List (Str × Int)) → (Option (Str × Int)) → Option (Int × Int × Int)
  | 0, _, _, _, _, _, _ => none
  | n_ + 1, b, common, most, lost, t13, t13_at => s_relation_against_l1_b (s_relation_against_l1 n_) b common most lost t13 t13_at

def s_relation_against_l1_F (n : Nat) (s : ((List (Str × Int)) × Int × Int × Int × (List (Str × Int)) × (Option (Str × Int)))) : Option (Int × Int × Int) := s_relation_against_l1 n s.1 s.2.1 s.2.2.1 s.2.2.2.1 s.2.2.2.2.1 s.2.2.2.2.2
def s_relation_against_l1_B (rec_ : ((List (Str × Int)) × Int × Int × Int × (List (Str × Int)) × (Option (Str × Int))) → Option (Int × Int × Int)) (s : ((List (Str × Int)) × Int × Int × Int × (List (Str × Int)) × (Option (Str × Int)))) : Option (Int × Int × Int) := s_relation_against_l1_b (fun b common most lost t13 t13_at => rec_ (b, common, most, lost, t13, t13_at)) s.1 s.2.1 s.2.2.1 s.2.2.2.1 s.2.2.2.2.1 s.2.2.2.2.2
theorem s_relation_against_l1_FB : ∀ n s, s_relation_against_l1_F (n + 1) s = s_relation_against_l1_B (s_relation_against_l1_F n) s := fun _ _ => rfl

def s_relation_against (a : (List (Str × Int))) (b : (List (Str × Int))) (rows : Int) : Option (Int × Int × Int) :=
  (s_relation_against_l1 big b (0 : Int) (0 : Int) rows a (none : Option (Str × Int))).bind fun (x0, x1, x2) => s_relation_against_k1 x0 x1 x2

/-! ### tablefinder/relation.Of -/

def s_relation_Of_j2 (i : Int) (j : Int) (t23 : Bool) (a : G_api_Table) (b : G_api_Table) (t8 : G_api_Relation) : Option (G_api_Relation × Int) :=
  bif t23 then (
    some ((G_api_Relation.mk (G_api_Ref.mk 0 0) (G_api_Ref.mk 0 0) 0 0 0 0 0 0 0), 2)
  ) else (
    (idx a.Columns i).bind fun Column =>
    (s_relation_counts Column).bind fun x_ =>
    (idx b.Columns j).bind fun Column_1 =>
    (s_relation_counts Column_1).bind fun y =>
    (s_table_Rows a).bind fun q =>
    (s_relation_against x_ y q).bind fun (q_1, q_2, q_3) =>
    (s_table_Rows b).bind fun q_4 =>
    (s_relation_against y x_ q_4).bind fun (q_5, q_6, q_7) =>
    chk (decide (x_.length ≤ maxInt)) <|
    chk (inK .i64 ((x_.length : Int) - q_1)) <|
    chk (decide (y.length ≤ maxInt)) <|
    chk (inK .i64 ((y.length : Int) - q_1)) <|
    some ((G_api_Relation.mk (G_api_Ref.mk a.ID i) (G_api_Ref.mk b.ID j) q_1 ((x_.length : Int) - q_1) ((y.length : Int) - q_1) q_2 q_6 q_3 q_7), 0)
  )

def s_relation_Of_j1 (i : Int) (j : Int) (t13 : Bool) (a : G_api_Table) (b : G_api_Table) (t8 : G_api_Relation) : Option (G_api_Relation × Int) :=
  bif t13 then (
    some ((G_api_Relation.mk (G_api_Ref.mk 0 0) (G_api_Ref.mk 0 0) 0 0 0 0 0 0 0), 1)
  ) else (
    bif (decide (i < 0)) then (
      s_relation_Of_j2 i j true a b t8
    ) else (
      bif (decide (i ≥ (a.Columns.length : Int))) then (
        s_relation_Of_j2 i j true a b t8
      ) else (
        bif (decide (j < 0)) then (
          s_relation_Of_j2 i j true a b t8
        ) else (
          s_relation_Of_j2 i j (decide (j ≥ (b.Columns.length : Int))) a b t8
        )
      )
    )
  )

def s_relation_Of (a : G_api_Table) (i : Int) (b : G_api_Table) (j : Int) : Option (G_api_Relation × Int) :=
  (s_table_Valid a).bind fun q =>
  bif (!q) then (
    s_relation_Of_j1 i j true a b (G_api_Relation.mk (G_api_Ref.mk 0 0) (G_api_Ref.mk 0 0) 0 0 0 0 0 0 0)
  ) else (
    (s_table_Valid b).bind fun q_1 =>
    s_relation_Of_j1 i j (!q_1) a b (G_api_Relation.mk (G_api_Ref.mk 0 0) (G_api_Ref.mk 0 0) 0 0 0 0 0 0 0)
  )

/-! ### tablefinder/relation.Kind -/

def s_relation_Kind_j1 (t7 : Bool) (r_ : G_api_Relation) : Option Int :=
  bif t7 then (
    some (1 : Int)
  ) else (
    bif (decide (r_.MostA ≤ 1)) then (
      some (2 : Int)
    ) else (
      bif (decide (r_.MostB ≤ 1)) then (
        some (3 : Int)
      ) else (
        some (4 : Int)
      )
    )
  )

def s_relation_Kind (r_ : G_api_Relation) : Option Int :=
  bif (r_.Common == 0) then (
    some (0 : Int)
  ) else (
    bif (decide (r_.MostA ≤ 1)) then (
      s_relation_Kind_j1 (decide (r_.MostB ≤ 1)) r_
    ) else (
      s_relation_Kind_j1 false r_
    )
  )

/-! ### tablefinder/tablefinderlaw29.awake -/

def s_tablefinderlaw29_awake_j1 (t0 : Bool) : Option Bool :=
  some t0

def s_tablefinderlaw29_awake  : Option Bool :=
  (s_relation_Of (G_api_Table.mk 1 ([] : Str) ([(G_api_Column.mk ([] : Str) ([(G_api_Cell.mk false ([49] : Str)), (G_api_Cell.mk false ([49] : Str)), (G_api_Cell.mk false ([50] : Str))] : (List G_api_Cell)))] : (List G_api_Column))) 0 (G_api_Table.mk 2 ([] : Str) ([(G_api_Column.mk ([] : Str) ([(G_api_Cell.mk false ([49] : Str)), (G_api_Cell.mk false ([51] : Str))] : (List G_api_Cell)))] : (List G_api_Column))) 0).bind fun (r_, e) =>
  bif (e == 0) then (
    bif (r_.A.Table == 1 && (r_.A.Column == 0 && (r_.B.Table == 2 && (r_.B.Column == 0 && (r_.Common == 1 && (r_.OnlyA == 1 && (r_.OnlyB == 1 && (r_.MostA == 2 && (r_.MostB == 1 && (r_.LostA == 1 && (r_.LostB == 1 && true))))))))))) then (
      (s_relation_Kind r_).bind fun q =>
      s_tablefinderlaw29_awake_j1 (q == 3)
    ) else (
      s_tablefinderlaw29_awake_j1 false
    )
  ) else (
    s_tablefinderlaw29_awake_j1 false
  )

/-! ### tablefinder/tablefinderkit.Roll -/

def s_tablefinderkit_Roll (t : (List Int)) : Option G_tablefinderkit_Dice :=
  some (G_tablefinderkit_Dice.mk t 0)

/-! ### tablefinder/tablefinderkit.Mod -/

def s_tablefinderkit_Mod (n : Int) (m : Int) : Option Int :=
  bif (decide (m < 1)) then (
    some (0 : Int)
  ) else (
    chk (decide (m ≠ 0)) <|
    chk (inK .i64 ((Int.tmod n m) + m)) <|
    chk (decide (m ≠ 0)) <|
    some (Int.tmod ((Int.tmod n m) + m) m)
  )

/-! ### (*tablefinder/tablefinderkit.Dice).Next -/

def s_tablefinderkit_Dice_Next (d : G_tablefinderkit_Dice) (n : Int) : Option (Int × G_tablefinderkit_Dice) :=
  bif (decide (d.at_ ≥ (d.l.length : Int))) then (
    some (0, d)
  ) else (
    chk (inK .i64 (d.at_ + 1)) <|
    chk (inK .i64 ((d.at_ + 1) - 1)) <|
    (idx d.l ((d.at_ + 1) - 1)).bind fun l_e =>
    (s_tablefinderkit_Mod l_e n).bind fun q =>
    some (q, (G_tablefinderkit_Dice.mk d.l (d.at_ + 1)))
  )

/-! ### (*tablefinder/tablefinderkit.Dice).Word -/

def s_tablefinderkit_Dice_Word (d : G_tablefinderkit_Dice) (l : (List Str)) : Option (Str × G_tablefinderkit_Dice) :=
  (s_tablefinderkit_Dice_Next d (l.length : Int)).bind fun (q, t6) =>
  (idx l q).bind fun l_e =>
  some (l_e, t6)

/-! ### tablefinder/tablefinderkit.Cell -/

def s_tablefinderkit_Cell (d : G_tablefinderkit_Dice) : Option (G_api_Cell × G_tablefinderkit_Dice) :=
  (s_tablefinderkit_Dice_Next d 7).bind fun (q, t3) =>
  bif (q == 1) then (
    some ((G_api_Cell.mk true ([] : Str)), t3)
  ) else (
    (s_tablefinderkit_Dice_Word t3 ([([97] : Str), ([98] : Str), ([99] : Str), ([49] : Str), ([50] : Str), ([51] : Str), ([49, 48] : Str), ([120] : Str), ([45, 49, 46, 53] : Str), ([50] : Str)] : (List Str))).bind fun (q_1, t7) =>
    some ((G_api_Cell.mk false q_1), t7)
  )

/-! ### strconv.Itoa -/

def s_strconv_Itoa (n : Int) : Option Str :=
  some (Lib.itoa n)

/-! ### tablefinder/tablefinderkit.Number -/

def s_tablefinderkit_Number (d : G_tablefinderkit_Dice) : Option (G_api_Cell × G_tablefinderkit_Dice) :=
  (s_tablefinderkit_Dice_Next d 9).bind fun (q, t3) =>
  bif (q == 1) then (
    some ((G_api_Cell.mk true ([] : Str)), t3)
  ) else (
    bif (q == 2) then (
      (s_tablefinderkit_Dice_Word t3 ([([120] : Str), ([] : Str), ([49, 46, 50, 46, 51] : Str), ([49, 46, 53, 48] : Str)] : (List Str))).bind fun (q_1, t10) =>
      some ((G_api_Cell.mk false q_1), t10)
    ) else (
      (s_tablefinderkit_Dice_Next t3 12).bind fun (q_2, t14) =>
      chk (inK .i64 (q_2 - 3)) <|
      (s_strconv_Itoa (q_2 - 3)).bind fun q_3 =>
      some ((G_api_Cell.mk false q_3), t14)
    )
  )

/-! ### tablefinder/tablefinderkit.Column -/

def s_tablefinderkit_Column_k2 (d : G_tablefinderkit_Dice) (t4 : Str) (c : Str) (t4_1 : (List G_api_Cell)) (c_1 : (List G_api_Cell)) : Option (G_api_Column × G_tablefinderkit_Dice) :=
  some ((G_api_Column.mk c c_1), d)

def s_tablefinderkit_Column_j1 (rec_ : Int → Int → Int → G_tablefinderkit_Dice → Str → Str → (List G_api_Cell) → (List G_api_Cell) → Option (G_tablefinderkit_Dice × Str × Str × (List G_api_Cell) × (List G_api_Cell))) (kind : Int) (t15 : Int) (i : Int) (d : G_tablefinderkit_Dice) (t4 : Str) (c : Str) (x_ : G_api_Cell) (t4_1 : (List G_api_Cell)) (c_1 : (List G_api_Cell)) : Option (G_tablefinderkit_Dice × Str × Str × (List G_api_Cell) × (List G_api_Cell)) :=
  chk (room (c_1.length + ([x_] : (List G_api_Cell)).length) 24) <|
  chk (inK .i64 (i + 1)) <|
  rec_ kind t15 (i + 1) d t4 c t4_1 (c_1 ++ ([x_] : (List G_api_Cell)))

def s_tablefinderkit_Column_l1_b (rec_ : Int → Int → Int → G_tablefinderkit_Dice → Str → Str → (List G_api_Cell) → (List G_api_Cell) → Option (G_tablefinderkit_Dice × Str × Str × (List G_api_Cell) × (List G_api_Cell))) (kind : Int) (t15 : Int) (i : Int) (d : G_tablefinderkit_Dice) (t4 : Str) (c : Str) (t4_1 : (List G_api_Cell)) (c_1 : (List G_api_Cell)) : Option (G_tablefinderkit_Dice × Str × Str × (List G_api_Cell) × (List G_api_Cell)) :=
  bif (decide (i < t15)) then (
    (s_tablefinderkit_Cell d).bind fun (x_, t19) =>
    bif (kind == 0) then (
      (s_tablefinderkit_Number t19).bind fun (x__1, t24) =>
      s_tablefinderkit_Column_j1 rec_ kind t15 i t24 t4 c x__1 t4_1 c_1
    ) else (
      bif (kind == 1) then (
        (s_strconv_Itoa i).bind fun q =>
        chk (decide (([107] : Str).length + q.length ≤ maxInt)) <|
        s_tablefinderkit_Column_j1 rec_ kind t15 i t19 t4 c (G_api_Cell.mk false (([107] : Str) ++ q)) t4_1 c_1
      ) else (
        bif (kind == 2) then (
          (s_tablefinderkit_Dice_Word t19 ([([97] : Str), ([98] : Str), ([99] : Str), ([100] : Str)] : (List Str))).bind fun (q_1, t34) =>
          s_tablefinderkit_Column_j1 rec_ kind t15 i t34 t4 c (G_api_Cell.mk false q_1) t4_1 c_1
        ) else (
          s_tablefinderkit_Column_j1 rec_ kind t15 i t19 t4 c x_ t4_1 c_1
        )
      )
    )
  ) else (
    some (d, t4, c, t4_1, c_1)
  )

def s_tablefinderkit_Column_l1 : Nat → Int → Int → Int → G_tablefinderkit_Dice → Str → Str → (List G_api_Cell) → (List G_api_Cell) → Option (G_tablefinderkit_Dice × Str × Str × (List G_api_Cell) × (List G_api_Cell))
  | 0, _, _, _, _, _, _, _, _ => none
  | n_ + 1, kind, t15, i, d, t4, c, t4_1, c_1 => s_tablefinderkit_Column_l1_b (s_tablefinderkit_Column_l1 n_) kind t15 i d t4 c t4_1 c_1

def s_tablefinderkit_Column_l1_F (n : Nat) (s : (Int × Int × Int × G_tablefinderkit_Dice × Str × Str × (List G_api_Cell) × (List G_api_Cell))) : Option (G_tablefinderkit_Dice × Str × Str × (List G_api_Cell) × (List G_api_Cell)) := s_tablefinderkit_Column_l1 n s.1 s.2.1 s.2.2.1 s.2.2.2.1 s.2.2.2.2.1 s.2.2.2.2.2.1 s.2.2.2.2.2.2.1 s.2.2.2.2.2.2.2
def s_tablefinderkit_Column_l1_B (rec_ : (Int × Int × Int × G_tablefinderkit_Dice × Str × Str × (List G_api_Cell) × (List G_api_Cell)) → Option (G_tablefinderkit_Dice × Str × Str × (List G_api_Cell) × (List G_api_Cell))) (s : (Int × Int × Int × G_tablefinderkit_Dice × Str × Str × (List G_api_Cell) × (List G_api_Cell))) : Option (G_tablefinderkit_Dice × Str × Str × (List G_api_Cell) × (List G_api_Cell)) := s_tablefinderkit_Column_l1_b (fun kind t15 i d t4 c t4_1 c_1 => rec_ (kind, t15, i, d, t4, c, t4_1, c_1)) s.1 s.2.1 s.2.2.1 s.2.2.2.1 s.2.2.2.2.1 s.2.2.2.2.2.1 s.2.2.2.2.2.2.1 s.2.2.2.2.2.2.2
theorem s_tablefinderkit_Column_l1_FB : ∀ n s, s_tablefinderkit_Column_l1_F (n + 1) s = s_tablefinderkit_Column_l1_B (s_tablefinderkit_Column_l1_F n) s := fun _ _ => rfl

def s_tablefinderkit_Column (d : G_tablefinderkit_Dice) (rows : Int) : Option (G_api_Column × G_tablefinderkit_Dice) :=
  (s_tablefinderkit_Dice_Word d ([([105, 100] : Str), ([110, 97, 109, 101] : Str), ([85, 110, 105, 116, 32, 80, 114, 105, 99, 101] : Str), ([99, 105, 116, 121] : Str), ([117, 110, 105, 116] : Str), ([112, 114, 105, 99, 101] : Str), ([105, 100, 50] : Str), ([] : Str)] : (List Str))).bind fun (q, t9) =>
  (s_tablefinderkit_Dice_Next t9 5).bind fun (kind, t13) =>
  (s_tablefinderkit_Column_l1 big kind rows (0 : Int) t13 ([] : Str) q ([] : (List G_api_Cell)) ([] : (List G_api_Cell))).bind fun (x0, x1, x2, x3, x4) => s_tablefinderkit_Column_k2 x0 x1 x2 x3 x4

/-! ### tablefinder/tablefinderkit.Table -/

def s_tablefinderkit_Table_j2 (d : G_tablefinderkit_Dice) (t4 : Int) (t4_1 : Str) (t : Int) (t_1 : Str) (t4_2 : (List G_api_Column)) (t_2 : (List G_api_Column)) : Option (G_api_Table × G_tablefinderkit_Dice) :=
  some ((G_api_Table.mk t t_1 t_2), d)

def s_tablefinderkit_Table_k1 (d : G_tablefinderkit_Dice) (t4 : Int) (t4_1 : Str) (t : Int) (t_1 : Str) (t4_2 : (List G_api_Column)) (t_2 : (List G_api_Column)) : Option (G_api_Table × G_tablefinderkit_Dice) :=
  (s_tablefinderkit_Dice_Next d 15).bind fun (q, t30) =>
  bif (q == 1) then (
    s_tablefinderkit_Table_j2 t30 t4 t4_1 t t_1 t4_2 ([] : (List G_api_Column))
  ) else (
    s_tablefinderkit_Table_j2 t30 t4 t4_1 t t_1 t4_2 t_2
  )

def s_tablefinderkit_Table_l1_b (rec_ : Int → Int → G_tablefinderkit_Dice → Int → Str → Int → Str → (List G_api_Column) → (List G_api_Column) → Option (G_tablefinderkit_Dice × Int × Str × Int × Str × (List G_api_Column) × (List G_api_Column))) (rows : Int) (k : Int) (d : G_tablefinderkit_Dice) (t4 : Int) (t4_1 : Str) (t : Int) (t_1 : Str) (t4_2 : (List G_api_Column)) (t_2 : (List G_api_Column)) : Option (G_tablefinderkit_Dice × Int × Str × Int × Str × (List G_api_Column) × (List G_api_Column)) :=
  bif (decide (k > 0)) then (
    (s_tablefinderkit_Column d rows).bind fun (q, t24) =>
    chk (room (t_2.length + ([q] : (List G_api_Column)).length) 40) <|
    chk (inK .i64 (k - 1)) <|
    rec_ rows (k - 1) t24 t4 t4_1 t t_1 t4_2 (t_2 ++ ([q] : (List G_api_Column)))
  ) else (
    some (d, t4, t4_1, t, t_1, t4_2, t_2)
  )

def s_tablefinderkit_Table_l1 : Nat → Int → Int → G_tablefinderkit_Dice → Int → Str → Int → Str → (List G_api_Column) → (List G_api_Column) → Option (G_tablefinderkit_Dice × Int × Str × Int × Str × (List G_api_Column) × (List G_api_Column))
  | 0, _, _, _, _, _, _, _, _, _ => none
  | n_ + 1, rows, k, d, t4, t4_1, t, t_1, t4_2, t_2 => s_tablefinderkit_Table_l1_b (s_tablefinderkit_Table_l1 n_) rows k d t4 t4_1 t t_1 t4_2 t_2

def s_tablefinderkit_Table_l1_F (n : Nat) (s : (Int × Int × G_tablefinderkit_Dice × Int × Str × Int × Str × (List G_api_Column) × (List G_api_Column))) : Option (G_tablefinderkit_Dice × Int × Str × Int × Str × (List G_api_Column) × (List G_api_Column)) := s_tablefinderkit_Table_l1 n s.1 s.2.1 s.2.2.1 s.2.2.2.1 s.2.2.2.2.1 s.2.2.2.2.2.1 s.2.2.2.2.2.2.1 s.2.2.2.2.2.2.2.1 s.2.2.2.2.2.2.2.2
def s_tablefinderkit_Table_l1_B (rec_ : (Int × Int × G_tablefinderkit_Dice × Int × Str × Int × Str × (List G_api_Column) × (List G_api_Column)) → Option (G_tablefinderkit_Dice × Int × Str × Int × Str × (List G_api_Column) × (List G_api_Column))) (s : (Int × Int × G_tablefinderkit_Dice × Int × Str × Int × Str × (List G_api_Column) × (List G_api_Column))) : Option (G_tablefinderkit_Dice × Int × Str × Int × Str × (List G_api_Column) × (List G_api_Column)) := s_tablefinderkit_Table_l1_b (fun rows k d t4 t4_1 t t_1 t4_2 t_2 => rec_ (rows, k, d, t4, t4_1, t, t_1, t4_2, t_2)) s.1 s.2.1 s.2.2.1 s.2.2.2.1 s.2.2.2.2.1 s.2.2.2.2.2.1 s.2.2.2.2.2.2.1 s.2.2.2.2.2.2.2.1 s.2.2.2.2.2.2.2.2
theorem s_tablefinderkit_Table_l1_FB : ∀ n s, s_tablefinderkit_Table_l1_F (n + 1) s = s_tablefinderkit_Table_l1_B (s_tablefinderkit_Table_l1_F n) s := fun _ _ => rfl

def s_tablefinderkit_Table (d : G_tablefinderkit_Dice) (id : Int) : Option (G_api_Table × G_tablefinderkit_Dice) :=
  (s_tablefinderkit_Dice_Word d ([([116] : Str), ([111, 114, 100, 101, 114, 115] : Str), ([] : Str)] : (List Str))).bind fun (q, t9) =>
  (s_tablefinderkit_Dice_Next t9 7).bind fun (rows, t13) =>
  (s_tablefinderkit_Dice_Next t13 3).bind fun (q_1, t15) =>
  chk (inK .i64 (1 + q_1)) <|
  (s_tablefinderkit_Table_l1 big rows (1 + q_1) t15 (0 : Int) ([] : Str) id q ([] : (List G_api_Column)) ([] : (List G_api_Column))).bind fun (x0, x1, x2, x3, x4, x5, x6) => s_tablefinderkit_Table_k1 x0 x1 x2 x3 x4 x5 x6

/-! ### tablefinder/tablefinderref02.Valid -/

def s_tablefinderref02_Valid (s : Str) : Option Bool :=
  (s_unicode_utf8_ValidString s).bind fun q =>
  some q

/-! ### tablefinder/tablefinderref03.name -/

def s_tablefinderref03_name_j1 (t2 : Bool) : Option Bool :=
  some t2

def s_tablefinderref03_name (s : Str) : Option Bool :=
  (s_tablefinderref02_Valid s).bind fun q =>
  bif q then (
    s_tablefinderref03_name_j1 (decide ((s.length : Int) ≤ 1024))
  ) else (
    s_tablefinderref03_name_j1 false
  )

/-! ### tablefinder/tablefinderref03.ValidCell -/

def s_tablefinderref03_ValidCell_j1 (t2 : Bool) : Option Bool :=
  some t2

def s_tablefinderref03_ValidCell (c : G_api_Cell) : Option Bool :=
  (s_tablefinderref02_Valid c.Text).bind fun q =>
  bif q then (
    bif (decide ((c.Text.length : Int) ≤ 1024)) then (
      bif (!c.Null) then (
        s_tablefinderref03_ValidCell_j1 true
      ) else (
        s_tablefinderref03_ValidCell_j1 (c.Text == ([] : Str))
      )
    ) else (
      s_tablefinderref03_ValidCell_j1 false
    )
  ) else (
    s_tablefinderref03_ValidCell_j1 false
  )

/-! ### tablefinder/tablefinderref03.Valid -/

def s_tablefinderref03_Valid_k4  : Option Bool :=
  some true

def s_tablefinderref03_Valid_k3 (rec_ : (List G_api_Column) → Int → Int → G_api_Table → Option (Out Unit Bool)) (t28 : (List G_api_Column)) (t29 : Int) (t30 : Int) (t : G_api_Table) : Option (Out Unit Bool) :=
  chk (inK .i64 (t30 + 1)) <|
  rec_ t28 t29 (t30 + 1) t

def s_tablefinderref03_Valid_l2_b (rec_ : (List G_api_Column) → Int → Int → (List G_api_Cell) → Int → Int → G_api_Table → Option (Out ((List G_api_Column) × Int × Int × G_api_Table) Bool)) (t28 : (List G_api_Column)) (t29 : Int) (t30 : Int) (t57 : (List G_api_Cell)) (t58 : Int) (t59 : Int) (t : G_api_Table) : Option (Out ((List G_api_Column) × Int × Int × G_api_Table) Bool) :=
  bif (decide (t59 < t58)) then (
    (idx t57 t59).bind fun x_ =>
    (s_tablefinderref03_ValidCell x_).bind fun q =>
    bif (!q) then (
      some (.ret false)
    ) else (
      chk (inK .i64 (t59 + 1)) <|
      rec_ t28 t29 t30 t57 t58 (t59 + 1) t
    )
  ) else (
    some (.brk (t28, t29, t30, t))
  )

def s_tablefinderref03_Valid_l2 : Nat → (List G_api_Column) → Int → Int → (List G_api_Cell) → Int → Int → G_api_Table → Option (Out ((List G_api_Column) × Int × Int × G_api_Table) Bool)
  | 0, _, _, _, _, _, _, _ => none
  | n_ + 1, t28, t29, t30, t57, t58, t59, t => s_tablefinderref03_Valid_l2_b (s_tablefinderref03_Valid_l2 n_) t28 t29 t30 t57 t58 t59 t

def s_tablefinderref03_Valid_l2_F (n : Nat) (s : ((List G_api_Column) × Int × Int × (List G_api_Cell) × Int × Int × G_api_Table)) : Option (Out ((List G_api_Column) × Int × Int × G_api_Table) Bool) := s_tablefinderref03_Valid_l2 n s.1 s.2.1 s.2.2.1 s.2.2.2.1 s.2.2.2.2.1 s.2.2.2.2.2.1 s.2.2.2.2.2.2
def s_tablefinderref03_Valid_l2_B (rec_ : ((List G_api_Column) × Int × Int × (List G_api_Cell) × Int × Int × G_api_Table) → Option (Out ((List G_api_Column) × Int × Int × G_api_Table) Bool)) (s : ((List G_api_Column) × Int × Int × (List G_api_Cell) × Int × Int × G_api_Table)) : Option (Out ((List G_api_Column) × Int × Int × G_api_Table) Bool) := s_tablefinderref03_Valid_l2_b (fun t28 t29 t30 t57 t58 t59 t => rec_ (t28, t29, t30, t57, t58, t59, t)) s.1 s.2.1 s.2.2.1 s.2.2.2.1 s.2.2.2.2.1 s.2.2.2.2.2.1 s.2.2.2.2.2.2
theorem s_tablefinderref03_Valid_l2_FB : ∀ n s, s_tablefinderref03_Valid_l2_F (n + 1) s = s_tablefinderref03_Valid_l2_B (s_tablefinderref03_Valid_l2_F n) s := fun _ _ => rfl

def s_tablefinderref03_Valid_j2 (rec_ : (List G_api_Column) → Int → Int → G_api_Table → Option (Out Unit Bool)) (t28 : (List G_api_Column)) (t29 : Int) (t30 : Int) (t55 : Bool) (t : G_api_Table) (c : G_api_Column) : Option (Out Unit Bool) :=
  bif t55 then (
    some (.ret false)
  ) else (
    (s_tablefinderref03_Valid_l2 big t28 t29 t30 c.Cells (c.Cells.length : Int) (0 : Int) t).bind fun
      | .ret q_ => some (.ret q_)
      | .brk (x0, x1, x2, x3) => s_tablefinderref03_Valid_k3 rec_ x0 x1 x2 x3
  )

def s_tablefinderref03_Valid_l1_b (rec_ : (List G_api_Column) → Int → Int → G_api_Table → Option (Out Unit Bool)) (t28 : (List G_api_Column)) (t29 : Int) (t30 : Int) (t : G_api_Table) : Option (Out Unit Bool) :=
  bif (decide (t30 < t29)) then (
    (idx t28 t30).bind fun c =>
    (s_tablefinderref03_name c.Name).bind fun q =>
    bif (!q) then (
      s_tablefinderref03_Valid_j2 rec_ t28 t29 t30 true t c
    ) else (
      bif (decide ((c.Cells.length : Int) > 4096)) then (
        s_tablefinderref03_Valid_j2 rec_ t28 t29 t30 true t c
      ) else (
        (idx t.Columns 0).bind fun Column =>
        s_tablefinderref03_Valid_j2 rec_ t28 t29 t30 ((c.Cells.length : Int) != (Column.Cells.length : Int)) t c
      )
    )
  ) else (
    some (.brk ())
  )

def s_tablefinderref03_Valid_l1 : Nat → (List G_api_Column) → Int → Int → G_api_Table → Option (Out Unit Bool)
  | 0, _, _, _, _ => none
  | n_ + 1, t28, t29, t30, t => s_tablefinderref03_Valid_l1_b (s_tablefinderref03_Valid_l1 n_) t28 t29 t30 t

def s_tablefinderref03_Valid_l1_F (n : Nat) (s : ((List G_api_Column) × Int × Int × G_api_Table)) : Option (Out Unit Bool) := s_tablefinderref03_Valid_l1 n s.1 s.2.1 s.2.2.1 s.2.2.2
def s_tablefinderref03_Valid_l1_B (rec_ : ((List G_api_Column) × Int × Int × G_api_Table) → Option (Out Unit Bool)) (s : ((List G_api_Column) × Int × Int × G_api_Table)) : Option (Out Unit Bool) := s_tablefinderref03_Valid_l1_b (fun t28 t29 t30 t => rec_ (t28, t29, t30, t)) s.1 s.2.1 s.2.2.1 s.2.2.2
theorem s_tablefinderref03_Valid_l1_FB : ∀ n s, s_tablefinderref03_Valid_l1_F (n + 1) s = s_tablefinderref03_Valid_l1_B (s_tablefinderref03_Valid_l1_F n) s := fun _ _ => rfl

def s_tablefinderref03_Valid_j1 (t26 : Bool) (t : G_api_Table) : Option Bool :=
  bif t26 then (
    some false
  ) else (
    (s_tablefinderref03_Valid_l1 big t.Columns (t.Columns.length : Int) (0 : Int) t).bind fun
      | .ret q_ => some q_
      | .brk () => s_tablefinderref03_Valid_k4
  )

def s_tablefinderref03_Valid (t : G_api_Table) : Option Bool :=
  bif (decide (t.ID < 0)) then (
    s_tablefinderref03_Valid_j1 true t
  ) else (
    bif (decide (t.ID > 1073741824)) then (
      s_tablefinderref03_Valid_j1 true t
    ) else (
      (s_tablefinderref03_name t.Name).bind fun q =>
      bif (!q) then (
        s_tablefinderref03_Valid_j1 true t
      ) else (
        s_tablefinderref03_Valid_j1 (decide ((t.Columns.length : Int) > 64)) t
      )
    )
  )

/-! ### tablefinder/tablefinderref29.counts -/

def s_tablefinderref29_counts_k2 (out : (List (Str × Int))) : Option (List (Str × Int)) :=
  some out

def s_tablefinderref29_counts_j1 (rec_ : (List G_api_Cell) → Int → Int → (List (Str × Int)) → Option (List (Str × Int))) (t8 : (List G_api_Cell)) (t9 : Int) (t10 : Int) (out : (List (Str × Int))) : Option (List (Str × Int)) :=
  chk (inK .i64 (t10 + 1)) <|
  rec_ t8 t9 (t10 + 1) out

def s_tablefinderref29_counts_l1_b (rec_ : (List G_api_Cell) → Int → Int → (List (Str × Int)) → Option (List (Str × Int))) (t8 : (List G_api_Cell)) (t9 : Int) (t10 : Int) (out : (List (Str × Int))) : Option (List (Str × Int)) :=
  bif (decide (t10 < t9)) then (
    (idx t8 t10).bind fun x_ =>
    bif (!x_.Null) then (
      chk (inK .i64 (((lookB (k := .str) (v := (.int .i64)) (car := carU) out x_.Text).getD (0 : Int)) + 1)) <|
      s_tablefinderref29_counts_j1 rec_ t8 t9 t10 (setB (k := .str) (v := (.int .i64)) (car := carU) out x_.Text (((lookB (k := .str) (v := (.int .i64)) (car := carU) out x_.Text).getD (0 : Int)) + 1))
    ) else (
      s_tablefinderref29_counts_j1 rec_ t8 t9 t10 out
    )
  ) else (
    some out
  )

def s_tablefinderref29_counts_l1 : Nat → (List G_api_Cell) → Int → Int → (List (Str × Int)) → Option (List (Str × Int))
  | 0, _, _, _, _ => none
  | n_ + 1, t8, t9, t10, out => s_tablefinderref29_counts_l1_b (s_tablefinderref29_counts_l1 n_) t8 t9 t10 out

def s_tablefinderref29_counts_l1_F (n : Nat) (s : ((List G_api_Cell) × Int × Int × (List (Str × Int)))) : Option (List (Str × Int)) := s_tablefinderref29_counts_l1 n s.1 s.2.1 s.2.2.1 s.2.2.2
def s_tablefinderref29_counts_l1_B (rec_ : ((List G_api_Cell) × Int × Int × (List (Str × Int))) → Option (List (Str × Int))) (s : ((List G_api_Cell) × Int × Int × (List (Str × Int)))) : Option (List (Str × Int)) := s_tablefinderref29_counts_l1_b (fun t8 t9 t10 out => rec_ (t8, t9, t10, out)) s.1 s.2.1 s.2.2.1 s.2.2.2
theorem s_tablefinderref29_counts_l1_FB : ∀ n s, s_tablefinderref29_counts_l1_F (n + 1) s = s_tablefinderref29_counts_l1_B (s_tablefinderref29_counts_l1_F n) s := fun _ _ => rfl

def s_tablefinderref29_counts (c : G_api_Column) : Option (List (Str × Int)) :=
  (s_tablefinderref29_counts_l1 big c.Cells (c.Cells.length : Int) (0 : Int) ([] : (List (Str × Int)))).bind fun x0 => s_tablefinderref29_counts_k2 x0

/-! ### tablefinder/tablefinderref03.Rows -/

def s_tablefinderref03_Rows (t : G_api_Table) : Option Int :=
  bif ((t.Columns.length : Int) == 0) then (
    some (0 : Int)
  ) else (
    (idx t.Columns 0).bind fun Column =>
    some (Column.Cells.length : Int)
  )

/-! ### tablefinder/tablefinderref29.Of -/

def s_tablefinderref29_Of_k3 (t8 : G_api_Relation) (y : (List (Str × Int))) (r_ : G_api_Relation) : Option (G_api_Relation × Int) :=
  chk (decide (y.length ≤ maxInt)) <|
  chk (inK .i64 ((y.length : Int) - r_.Common)) <|
  some ((G_api_Relation.mk r_.A r_.B r_.Common r_.OnlyA ((y.length : Int) - r_.Common) r_.MostA r_.MostB r_.LostA r_.LostB), 0)

def s_tablefinderref29_Of_l1_b (rec_ : G_api_Relation → (List (Str × Int)) → G_api_Relation → (List (Str × Int)) → (Option (Str × Int)) → Option (G_api_Relation × (List (Str × Int)) × G_api_Relation)) (t8 : G_api_Relation) (y : (List (Str × Int))) (r_ : G_api_Relation) (t74 : (List (Str × Int))) (t74_at : (Option (Str × Int))) : Option (G_api_Relation × (List (Str × Int)) × G_api_Relation) :=
  bif List.isEmpty t74 then (
    some (t8, y, r_)
  ) else pickAll t74 fun q rest => (
    bif (((lookB (k := .str) (v := (.int .i64)) (car := carU) y q.1).getD (0 : Int)) == 0) then (
      chk (inK .i64 (r_.OnlyA + 1)) <|
      rec_ t8 y (G_api_Relation.mk r_.A r_.B r_.Common (r_.OnlyA + 1) r_.OnlyB r_.MostA r_.MostB r_.LostA r_.LostB) rest (some (q.1, q.2))
    ) else (
      chk (inK .i64 (r_.Common + 1)) <|
      chk (inK .i64 (r_.LostA - q.2)) <|
      chk (inK .i64 (r_.LostB - ((lookB (k := .str) (v := (.int .i64)) (car := carU) y q.1).getD (0 : Int)))) <|
      rec_ t8 y (G_api_Relation.mk r_.A r_.B (r_.Common + 1) r_.OnlyA r_.OnlyB (if q.2 > r_.MostA then q.2 else r_.MostA) (if ((lookB (k := .str) (v := (.int .i64)) (car := carU) y q.1).getD (0 : Int)) > r_.MostB then ((lookB (k := .str) (v := (.int .i64)) (car := carU) y q.1).getD (0 : Int)) else r_.MostB) (r_.LostA - q.2) (r_.LostB - ((lookB (k := .str) (v := (.int .i64)) (car := carU) y q.1).getD (0 : Int)))) rest (some (q.1, q.2))
    )
  )

def s_tablefinderref29_Of_l1 : Nat → G_api_Relation → (List (Str × Int)) → G_api_Relation → (List (Str × Int)) → (Option (Str × Int)) → Option (G_api_Relation × (List (Str × Int)) × G_api_Relation)
  | 0, _, _, _, _, _ => none
  | n_ + 1, t8, y, r_, t74, t74_at => s_tablefinderref29_Of_l1_b (s_tablefinderref29_Of_l1 n_) t8 y r_ t74 t74_at

def s_tablefinderref29_Of_l1_F (n : Nat) (s : (G_api_Relation × (List (Str × Int)) × G_api_Relation × (List (Str × Int)) × (Option (Str × Int)))) : Option (G_api_Relation × (List (Str × Int)) × G_api_Relation) := s_tablefinderref29_Of_l1 n s.1 s.2.1 s.2.2.1 s.2.2.2.1 s.2.2.2.2
def s_tablefinderref29_Of_l1_B (rec_ : (G_api_Relation × (List (Str × Int)) × G_api_Relation × (List (Str × Int)) × (Option (Str × Int))) → Option (G_api_Relation × (List (Str × Int)) × G_api_Relation)) (s : (G_api_Relation × (List (Str × Int)) × G_api_Relation × (List (Str × Int)) × (Option (Str × Int)))) : Option (G_api_Relation × (List (Str × Int)) × G_api_Relation) := s_tablefinderref29_Of_l1_b (fun t8 y r_ t74 t74_at => rec_ (t8, y, r_, t74, t74_at)) s.1 s.2.1 s.2.2.1 s.2.2.2.1 s.2.2.2.2
theorem s_tablefinderref29_Of_l1_FB : ∀ n s, s_tablefinderref29_Of_l1_F (n + 1) s = s_tablefinderref29_Of_l1_B (s_tablefinderref29_Of_l1_F n) s := fun _ _ => rfl

def s_tablefinderref29_Of_j2 (i : Int) (j : Int) (t26 : Bool) (a : G_api_Table) (b : G_api_Table) (t8 : G_api_Relation) : Option (G_api_Relation × Int) :=
  bif t26 then (
    some ((G_api_Relation.mk (G_api_Ref.mk 0 0) (G_api_Ref.mk 0 0) 0 0 0 0 0 0 0), 2)
  ) else (
    (idx a.Columns i).bind fun Column =>
    (s_tablefinderref29_counts Column).bind fun x_ =>
    (idx b.Columns j).bind fun Column_1 =>
    (s_tablefinderref29_counts Column_1).bind fun y =>
    (s_tablefinderref03_Rows a).bind fun q =>
    (s_tablefinderref03_Rows b).bind fun q_1 =>
    (s_tablefinderref29_Of_l1 big t8 y (G_api_Relation.mk (G_api_Ref.mk a.ID i) (G_api_Ref.mk b.ID j) 0 0 0 0 0 q q_1) x_ (none : Option (Str × Int))).bind fun (x0, x1, x2) => s_tablefinderref29_Of_k3 x0 x1 x2
  )

def s_tablefinderref29_Of_j1 (i : Int) (j : Int) (t16 : Bool) (a : G_api_Table) (b : G_api_Table) (t8 : G_api_Relation) : Option (G_api_Relation × Int) :=
  bif t16 then (
    some ((G_api_Relation.mk (G_api_Ref.mk 0 0) (G_api_Ref.mk 0 0) 0 0 0 0 0 0 0), 1)
  ) else (
    bif (decide (i < 0)) then (
      s_tablefinderref29_Of_j2 i j true a b t8
    ) else (
      bif (decide (i ≥ (a.Columns.length : Int))) then (
        s_tablefinderref29_Of_j2 i j true a b t8
      ) else (
        bif (decide (j < 0)) then (
          s_tablefinderref29_Of_j2 i j true a b t8
        ) else (
          s_tablefinderref29_Of_j2 i j (decide (j ≥ (b.Columns.length : Int))) a b t8
        )
      )
    )
  )

def s_tablefinderref29_Of (a : G_api_Table) (i : Int) (b : G_api_Table) (j : Int) : Option (G_api_Relation × Int) :=
  (s_tablefinderref03_Valid a).bind fun q =>
  bif (!q) then (
    s_tablefinderref29_Of_j1 i j true a b (G_api_Relation.mk (G_api_Ref.mk 0 0) (G_api_Ref.mk 0 0) 0 0 0 0 0 0 0)
  ) else (
    (s_tablefinderref03_Valid b).bind fun q_1 =>
    s_tablefinderref29_Of_j1 i j (!q_1) a b (G_api_Relation.mk (G_api_Ref.mk 0 0) (G_api_Ref.mk 0 0) 0 0 0 0 0 0 0)
  )

/-! ### tablefinder/tablefinderlaw29.RelationOf -/

def s_tablefinderlaw29_RelationOf_k4  : Option Bool :=
  (s_tablefinderlaw29_awake).bind fun q =>
  some q

def s_tablefinderlaw29_RelationOf_k3 (rec_ : Int → Int → Int → Int → (List G_arr2_G_api_Table) → Option (Out Unit Bool)) (i : Int) (j : Int) (t55 : Int) (t56 : Int) (t54 : (List G_arr2_G_api_Table)) : Option (Out Unit Bool) :=
  chk (inK .i64 (t56 + 1)) <|
  rec_ i j t55 (t56 + 1) t54

def s_tablefinderlaw29_RelationOf_j2 (rec_ : Int → Int → Int → Int → Int → Int → G_arr2_G_api_Table → (List G_arr2_G_api_Table) → (List G_arr2_Int) → Option (Out (Int × Int × Int × Int × (List G_arr2_G_api_Table)) Bool)) (i : Int) (j : Int) (t55 : Int) (t56 : Int) (t85 : Int) (t86 : Int) (t121 : Bool) (p : G_arr2_G_api_Table) (t54 : (List G_arr2_G_api_Table)) (t84 : (List G_arr2_Int)) : Option (Out (Int × Int × Int × Int × (List G_arr2_G_api_Table)) Bool) :=
  bif t121 then (
    some (.ret false)
  ) else (
    chk (inK .i64 (t86 + 1)) <|
    rec_ i j t55 t56 t85 (t86 + 1) p t54 t84
  )

def s_tablefinderlaw29_RelationOf_l2_b (rec_ : Int → Int → Int → Int → Int → Int → G_arr2_G_api_Table → (List G_arr2_G_api_Table) → (List G_arr2_Int) → Option (Out (Int × Int × Int × Int × (List G_arr2_G_api_Table)) Bool)) (i : Int) (j : Int) (t55 : Int) (t56 : Int) (t85 : Int) (t86 : Int) (p : G_arr2_G_api_Table) (t54 : (List G_arr2_G_api_Table)) (t84 : (List G_arr2_Int)) : Option (Out (Int × Int × Int × Int × (List G_arr2_G_api_Table)) Bool) :=
  bif (decide (t86 < t85)) then (
    chk (inR t86 (t84.length : Int)) <|
    (t84[(t86).toNat]?).bind fun k =>
    chk (inR 0 2) <|
    chk (inR 0 2) <|
    chk (inR 1 2) <|
    chk (inR 1 2) <|
    (s_relation_Of p.e0 k.e0 p.e1 k.e1).bind fun (u, e) =>
    chk (inR 0 2) <|
    chk (inR 0 2) <|
    chk (inR 1 2) <|
    chk (inR 1 2) <|
    (s_tablefinderref29_Of p.e0 k.e0 p.e1 k.e1).bind fun (v_, f) =>
    bif (!(u.A.Table == v_.A.Table && (u.A.Column == v_.A.Column && (u.B.Table == v_.B.Table && (u.B.Column == v_.B.Column && (u.Common == v_.Common && (u.OnlyA == v_.OnlyA && (u.OnlyB == v_.OnlyB && (u.MostA == v_.MostA && (u.MostB == v_.MostB && (u.LostA == v_.LostA && (u.LostB == v_.LostB && true)))))))))))) then (
      s_tablefinderlaw29_RelationOf_j2 rec_ i j t55 t56 t85 t86 true p t54 t84
    ) else (
      s_tablefinderlaw29_RelationOf_j2 rec_ i j t55 t56 t85 t86 (e != f) p t54 t84
    )
  ) else (
    some (.brk (i, j, t55, t56, t54))
  )

def s_tablefinderlaw29_RelationOf_l2 : Nat → Int → Int → Int → Int → Int → Int → G_arr2_G_api_Table → (List G_arr2_G_api_Table) → (List G_arr2_Int) → Option (Out (Int × Int × Int × Int × (List G_arr2_G_api_Table)) Bool)
  | 0, _, _, _, _, _, _, _, _, _ => none
  | n_ + 1, i, j, t55, t56, t85, t86, p, t54, t84 => s_tablefinderlaw29_RelationOf_l2_b (s_tablefinderlaw29_RelationOf_l2 n_) i j t55 t56 t85 t86 p t54 t84

def s_tablefinderlaw29_RelationOf_l2_F (n : Nat) (s : (Int × Int × Int × Int × Int × Int × G_arr2_G_api_Table × (List G_arr2_G_api_Table) × (List G_arr2_Int))) : Option (Out (Int × Int × Int × Int × (List G_arr2_G_api_Table)) Bool) := s_tablefinderlaw29_RelationOf_l2 n s.1 s.2.1 s.2.2.1 s.2.2.2.1 s.2.2.2.2.1 s.2.2.2.2.2.1 s.2.2.2.2.2.2.1 s.2.2.2.2.2.2.2.1 s.2.2.2.2.2.2.2.2
def s_tablefinderlaw29_RelationOf_l2_B (rec_ : (Int × Int × Int × Int × Int × Int × G_arr2_G_api_Table × (List G_arr2_G_api_Table) × (List G_arr2_Int)) → Option (Out (Int × Int × Int × Int × (List G_arr2_G_api_Table)) Bool)) (s : (Int × Int × Int × Int × Int × Int × G_arr2_G_api_Table × (List G_arr2_G_api_Table) × (List G_arr2_Int))) : Option (Out (Int × Int × Int × Int × (List G_arr2_G_api_Table)) Bool) := s_tablefinderlaw29_RelationOf_l2_b (fun i j t55 t56 t85 t86 p t54 t84 => rec_ (i, j, t55, t56, t85, t86, p, t54, t84)) s.1 s.2.1 s.2.2.1 s.2.2.2.1 s.2.2.2.2.1 s.2.2.2.2.2.1 s.2.2.2.2.2.2.1 s.2.2.2.2.2.2.2.1 s.2.2.2.2.2.2.2.2
theorem s_tablefinderlaw29_RelationOf_l2_FB : ∀ n s, s_tablefinderlaw29_RelationOf_l2_F (n + 1) s = s_tablefinderlaw29_RelationOf_l2_B (s_tablefinderlaw29_RelationOf_l2_F n) s := fun _ _ => rfl

def s_tablefinderlaw29_RelationOf_l1_b (rec_ : Int → Int → Int → Int → (List G_arr2_G_api_Table) → Option (Out Unit Bool)) (i : Int) (j : Int) (t55 : Int) (t56 : Int) (t54 : (List G_arr2_G_api_Table)) : Option (Out Unit Bool) :=
  bif (decide (t56 < t55)) then (
    chk (inR t56 (t54.length : Int)) <|
    (t54[(t56).toNat]?).bind fun p =>
    (s_tablefinderkit_Mod i 4).bind fun q =>
    chk (inK .i64 (q - 1)) <|
    (s_tablefinderkit_Mod j 4).bind fun q_1 =>
    chk (inR 0 2) <|
    (s_tablefinderkit_Mod i (if (p.e0.Columns.length : Int) > (1 : Int) then (p.e0.Columns.length : Int) else (1 : Int))).bind fun q_2 =>
    chk (inR 1 2) <|
    (s_tablefinderkit_Mod j (if (p.e1.Columns.length : Int) > (1 : Int) then (p.e1.Columns.length : Int) else (1 : Int))).bind fun q_3 =>
    (s_tablefinderlaw29_RelationOf_l2 big i j t55 t56 (([(G_arr2_Int.mk i j), (G_arr2_Int.mk (q - 1) q_1), (G_arr2_Int.mk q_2 q_3)] : (List G_arr2_Int)).length : Int) (0 : Int) p t54 ([(G_arr2_Int.mk i j), (G_arr2_Int.mk (q - 1) q_1), (G_arr2_Int.mk q_2 q_3)] : (List G_arr2_Int))).bind fun
      | .ret q_ => some (.ret q_)
      | .brk (x0, x1, x2, x3, x4) => s_tablefinderlaw29_RelationOf_k3 rec_ x0 x1 x2 x3 x4
  ) else (
    some (.brk ())
  )

def s_tablefinderlaw29_RelationOf_l1 : Nat → Int → Int → Int → Int → (List G_arr2_G_api_Table) → Option (Out Unit Bool)
  | 0, _, _, _, _, _ => none
  | n_ + 1, i, j, t55, t56, t54 => s_tablefinderlaw29_RelationOf_l1_b (s_tablefinderlaw29_RelationOf_l1 n_) i j t55 t56 t54

def s_tablefinderlaw29_RelationOf_l1_F (n : Nat) (s : (Int × Int × Int × Int × (List G_arr2_G_api_Table))) : Option (Out Unit Bool) := s_tablefinderlaw29_RelationOf_l1 n s.1 s.2.1 s.2.2.1 s.2.2.2.1 s.2.2.2.2
def s_tablefinderlaw29_RelationOf_l1_B (rec_ : (Int × Int × Int × Int × (List G_arr2_G_api_Table)) → Option (Out Unit Bool)) (s : (Int × Int × Int × Int × (List G_arr2_G_api_Table))) : Option (Out Unit Bool) := s_tablefinderlaw29_RelationOf_l1_b (fun i j t55 t56 t54 => rec_ (i, j, t55, t56, t54)) s.1 s.2.1 s.2.2.1 s.2.2.2.1 s.2.2.2.2
theorem s_tablefinderlaw29_RelationOf_l1_FB : ∀ n s, s_tablefinderlaw29_RelationOf_l1_F (n + 1) s = s_tablefinderlaw29_RelationOf_l1_B (s_tablefinderlaw29_RelationOf_l1_F n) s := fun _ _ => rfl

def s_tablefinderlaw29_RelationOf_j1 (t : (List Int)) (i : Int) (j : Int) (t34 : Bool) (x_ : G_api_Table) (y : G_api_Table) : Option Bool :=
  bif t34 then (
    (s_tablefinderlaw29_awake).bind fun q =>
    some q
  ) else (
    (s_tablefinderkit_Roll t).bind fun d =>
    (s_tablefinderkit_Table d 1).bind fun (a, t38) =>
    (s_tablefinderkit_Table t38 2).bind fun (b, t40) =>
    (s_tablefinderlaw29_RelationOf_l1 big i j (([(G_arr2_G_api_Table.mk x_ y), (G_arr2_G_api_Table.mk a b), (G_arr2_G_api_Table.mk a x_), (G_arr2_G_api_Table.mk a a)] : (List G_arr2_G_api_Table)).length : Int) (0 : Int) ([(G_arr2_G_api_Table.mk x_ y), (G_arr2_G_api_Table.mk a b), (G_arr2_G_api_Table.mk a x_), (G_arr2_G_api_Table.mk a a)] : (List G_arr2_G_api_Table))).bind fun
      | .ret q_ => some q_
      | .brk () => s_tablefinderlaw29_RelationOf_k4
  )

def s_tablefinderlaw29_RelationOf (x_ : G_api_Table) (y : G_api_Table) (t : (List Int)) (i : Int) (j : Int) : Option Bool :=
  (s_tablefinderlaw29_small x_).bind fun q =>
  bif (!q) then (
    s_tablefinderlaw29_RelationOf_j1 t i j true x_ y
  ) else (
    (s_tablefinderlaw29_small y).bind fun q_1 =>
    bif (!q_1) then (
      s_tablefinderlaw29_RelationOf_j1 t i j true x_ y
    ) else (
      (s_tablefinderkit_Light t).bind fun q_2 =>
      s_tablefinderlaw29_RelationOf_j1 t i j (!q_2) x_ y
    )
  )

/-! ### tablefinder/relation.Turn -/

def s_relation_Turn (r_ : G_api_Relation) : Option G_api_Relation :=
  some (G_api_Relation.mk r_.B r_.A r_.Common r_.OnlyB r_.OnlyA r_.MostB r_.MostA r_.LostB r_.LostA)

/-! ### tablefinder/tablefinderlaw29.RelationCounts -/

def s_tablefinderlaw29_RelationCounts_j8 (t6 : Bool) : Option Bool :=
  some t6

def s_tablefinderlaw29_RelationCounts_k7 (lost : Int) (mostB : Int) (r_ : G_api_Relation) (values : (List (Str × Bool))) : Option Bool :=
  bif (lost == r_.LostA) then (
    bif (mostB == r_.MostB) then (
      chk (decide (values.length ≤ maxInt)) <|
      bif ((values.length : Int) == r_.Common) then (
        (s_relation_Kind r_).bind fun q =>
        bif ((q == 0) == (r_.Common == 0)) then (
          (s_tablefinderlaw29_awake).bind fun q_1 =>
          s_tablefinderlaw29_RelationCounts_j8 q_1
        ) else (
          s_tablefinderlaw29_RelationCounts_j8 false
        )
      ) else (
        s_tablefinderlaw29_RelationCounts_j8 false
      )
    ) else (
      s_tablefinderlaw29_RelationCounts_j8 false
    )
  ) else (
    s_tablefinderlaw29_RelationCounts_j8 false
  )

def s_tablefinderlaw29_RelationCounts_j6 (rec_ : Int → Int → Int → (List G_api_Cell) → Int → Int → G_api_Table → G_api_Relation → (List (Str × Bool)) → Option (Int × Int × G_api_Relation × (List (Str × Bool)))) (y : Int) (lost : Int) (mostB : Int) (n : Int) (t89 : (List G_api_Cell)) (t90 : Int) (t91 : Int) (b : G_api_Table) (r_ : G_api_Relation) (values : (List (Str × Bool))) : Option (Int × Int × G_api_Relation × (List (Str × Bool))) :=
  chk (inK .i64 (t91 + 1)) <|
  rec_ y lost (if n > mostB then n else mostB) t89 t90 (t91 + 1) b r_ values

def s_tablefinderlaw29_RelationCounts_k5 (rec_ : Int → Int → Int → (List G_api_Cell) → Int → Int → G_api_Table → G_api_Relation → (List (Str × Bool)) → Option (Int × Int × G_api_Relation × (List (Str × Bool)))) (y : Int) (lost : Int) (mostB : Int) (n : Int) (t89 : (List G_api_Cell)) (t90 : Int) (t91 : Int) (b : G_api_Table) (r_ : G_api_Relation) (values : (List (Str × Bool))) (c : G_api_Cell) : Option (Int × Int × G_api_Relation × (List (Str × Bool))) :=
  bif (n == 0) then (
    chk (inK .i64 (lost + 1)) <|
    s_tablefinderlaw29_RelationCounts_j6 rec_ y (lost + 1) mostB n t89 t90 t91 b r_ values
  ) else (
    s_tablefinderlaw29_RelationCounts_j6 rec_ y lost mostB n t89 t90 t91 b r_ (setB (k := .str) (v := .bool) (car := carU) values c.Text true)
  )

def s_tablefinderlaw29_RelationCounts_j4 (rec_ : Int → Int → Int → Int → (List G_api_Cell) → Int → Int → (List G_api_Cell) → Int → Int → G_api_Table → G_api_Relation → (List (Str × Bool)) → G_api_Cell → Option (Int × Int × Int × Int × (List G_api_Cell) × Int × Int × G_api_Table × G_api_Relation × (List (Str × Bool)) × G_api_Cell)) (y : Int) (lost : Int) (mostB : Int) (n : Int) (t89 : (List G_api_Cell)) (t90 : Int) (t91 : Int) (t100 : (List G_api_Cell)) (t101 : Int) (t102 : Int) (b : G_api_Table) (r_ : G_api_Relation) (values : (List (Str × Bool))) (c : G_api_Cell) : Option (Int × Int × Int × Int × (List G_api_Cell) × Int × Int × G_api_Table × G_api_Relation × (List (Str × Bool)) × G_api_Cell) :=
  chk (inK .i64 (t102 + 1)) <|
  rec_ y lost mostB n t89 t90 t91 t100 t101 (t102 + 1) b r_ values c

def s_tablefinderlaw29_RelationCounts_j3 (rec_ : Int → Int → Int → Int → (List G_api_Cell) → Int → Int → (List G_api_Cell) → Int → Int → G_api_Table → G_api_Relation → (List (Str × Bool)) → G_api_Cell → Option (Int × Int × Int × Int × (List G_api_Cell) × Int × Int × G_api_Table × G_api_Relation × (List (Str × Bool)) × G_api_Cell)) (y : Int) (lost : Int) (mostB : Int) (n : Int) (t89 : (List G_api_Cell)) (t90 : Int) (t91 : Int) (t100 : (List G_api_Cell)) (t101 : Int) (t102 : Int) (t120 : Bool) (b : G_api_Table) (r_ : G_api_Relation) (values : (List (Str × Bool))) (c : G_api_Cell) : Option (Int × Int × Int × Int × (List G_api_Cell) × Int × Int × G_api_Table × G_api_Relation × (List (Str × Bool)) × G_api_Cell) :=
  bif t120 then (
    chk (inK .i64 (n + 1)) <|
    s_tablefinderlaw29_RelationCounts_j4 rec_ y lost mostB (n + 1) t89 t90 t91 t100 t101 t102 b r_ values c
  ) else (
    s_tablefinderlaw29_RelationCounts_j4 rec_ y lost mostB n t89 t90 t91 t100 t101 t102 b r_ values c
  )

def s_tablefinderlaw29_RelationCounts_l2_b (rec_ : Int → Int → Int → Int → (List G_api_Cell) → Int → Int → (List G_api_Cell) → Int → Int → G_api_Table → G_api_Relation → (List (Str × Bool)) → G_api_Cell → Option (Int × Int × Int × Int × (List G_api_Cell) × Int × Int × G_api_Table × G_api_Relation × (List (Str × Bool)) × G_api_Cell)) (y : Int) (lost : Int) (mostB : Int) (n : Int) (t89 : (List G_api_Cell)) (t90 : Int) (t91 : Int) (t100 : (List G_api_Cell)) (t101 : Int) (t102 : Int) (b : G_api_Table) (r_ : G_api_Relation) (values : (List (Str × Bool))) (c : G_api_Cell) : Option (Int × Int × Int × Int × (List G_api_Cell) × Int × Int × G_api_Table × G_api_Relation × (List (Str × Bool)) × G_api_Cell) :=
  bif (decide (t102 < t101)) then (
    (idx t100 t102).bind fun z =>
    bif (!c.Null) then (
      bif (!z.Null) then (
        s_tablefinderlaw29_RelationCounts_j3 rec_ y lost mostB n t89 t90 t91 t100 t101 t102 (c.Text == z.Text) b r_ values c
      ) else (
        s_tablefinderlaw29_RelationCounts_j3 rec_ y lost mostB n t89 t90 t91 t100 t101 t102 false b r_ values c
      )
    ) else (
      s_tablefinderlaw29_RelationCounts_j3 rec_ y lost mostB n t89 t90 t91 t100 t101 t102 false b r_ values c
    )
  ) else (
    some (y, lost, mostB, n, t89, t90, t91, b, r_, values, c)
  )

def s_tablefinderlaw29_RelationCounts_l2 : Nat → Int → Int → Int → Int → (List G_api_Cell) → Int → Int → (List G_api_Cell) → Int → Int → G_api_Table → G_api_Relation → (List (Str × Bool)) → G_api_Cell → Option (Int × Int × Int × Int × (List G_api_Cell) × Int × Int × G_api_Table × G_api_Relation × (List (Str × Bool)) × G_api_Cell)
  | 0, _, _, _, _, _, _, _, _, _, _, _, _, _, _ => none
  | n_ + 1, y, lost, mostB, n, t89, t90, t91, t100, t101, t102, b, r_, values, c => s_tablefinderlaw29_RelationCounts_l2_b (s_tablefinderlaw29_RelationCounts_l2 n_) y lost mostB n t89 t90 t91 t100 t101 t102 b r_ values c

def s_tablefinderlaw29_RelationCounts_l2_F (n : Nat) (s : (Int × Int × Int × Int × (List G_api_Cell) × Int × Int × (List G_api_Cell) × Int × Int × G_api_Table × G_api_Relation × (List (Str × Bool)) × G_api_Cell)) : Option (Int × Int × Int × Int × (List G_api_Cell) × Int × Int × G_api_Table × G_api_Relation × (List (Str × Bool)) × G_api_Cell) := s_tablefinderlaw29_RelationCounts_l2 n s.1 s.2.1 s.2.2.1 s.2.2.2.1 s.2.2.2.2.1 s.2.2.2.2.2.1 s.2.2.2.2.2.2.1 s.2.2.2.2.2.2.2.1 s.2.2.2.2.2.2.2.2.1 s.2.2.2.2.2.2.2.2.2.1 s.2.2.2.2.2.2.2.2.2.2.1 s.2.2.2.2.2.2.2.2.2.2.2.1 s.2.2.2.2.2.2.2.2.2.2.2.2.1 s.2.2.2.2.2.2.2.2.2.2.2.2.2
def s_tablefinderlaw29_RelationCounts_l2_B (rec_ : (Int × Int × Int × Int × (List G_api_Cell) × Int × Int × (List G_api_Cell) × Int × Int × G_api_Table × G_api_Relation × (List (Str × Bool)) × G_api_Cell) → Option (Int × Int × Int × Int × (List G_api_Cell) × Int × Int × G_api_Table × G_api_Relation × (List (Str × Bool)) × G_api_Cell)) (s : (Int × Int × Int × Int × (List G_api_Cell) × Int × Int × (List G_api_Cell) × Int × Int × G_api_Table × G_api_Relation × (List (Str × Bool)) × G_api_Cell)) : Option (Int × Int × Int × Int × (List G_api_Cell) × Int × Int × G_api_Table × G_api_Relation × (List (Str × Bool)) × G_api_Cell) := s_tablefinderlaw29_RelationCounts_l2_b (fun y lost mostB n t89 t90 t91 t100 t101 t102 b r_ values c => rec_ (y, lost, mostB, n, t89, t90, t91, t100, t101, t102, b, r_, values, c)) s.1 s.2.1 s.2.2.1 s.2.2.2.1 s.2.2.2.2.1 s.2.2.2.2.2.1 s.2.2.2.2.2.2.1 s.2.2.2.2.2.2.2.1 s.2.2.2.2.2.2.2.2.1 s.2.2.2.2.2.2.2.2.2.1 s.2.2.2.2.2.2.2.2.2.2.1 s.2.2.2.2.2.2.2.2.2.2.2.1 s.2.2.2.2.2.2.2.2.2.2.2.2.1 s.2.2.2.2.2.2.2.2.2.2.2.2.2
theorem s_tablefinderlaw29_RelationCounts_l2_FB : ∀ n s, s_tablefinderlaw29_RelationCounts_l2_F (n + 1) s = s_tablefinderlaw29_RelationCounts_l2_B (s_tablefinderlaw29_RelationCounts_l2_F n) s := fun _ _ => rfl

def s_tablefinderlaw29_RelationCounts_l1_b (rec_ : Int → Int → Int → (List G_api_Cell) → Int → Int → G_api_Table → G_api_Relation → (List (Str × Bool)) → Option (Int × Int × G_api_Relation × (List (Str × Bool)))) (y : Int) (lost : Int) (mostB : Int) (t89 : (List G_api_Cell)) (t90 : Int) (t91 : Int) (b : G_api_Table) (r_ : G_api_Relation) (values : (List (Str × Bool))) : Option (Int × Int × G_api_Relation × (List (Str × Bool))) :=
  bif (decide (t91 < t90)) then (
    (idx t89 t91).bind fun c =>
    (idx b.Columns y).bind fun Column =>
    (s_tablefinderlaw29_RelationCounts_l2 big y lost mostB (0 : Int) t89 t90 t91 Column.Cells (Column.Cells.length : Int) (0 : Int) b r_ values c).bind fun (x0, x1, x2, x3, x4, x5, x6, x7, x8, x9, x10) => s_tablefinderlaw29_RelationCounts_k5 rec_ x0 x1 x2 x3 x4 x5 x6 x7 x8 x9 x10
  ) else (
    some (lost, mostB, r_, values)
  )

def s_tablefinderlaw29_RelationCounts_l1 : Nat → Int → Int → Int → (List G_api_Cell) → Int → Int → G_api_Table → G_api_Relation → (List (Str × Bool)) → Option (Int × Int × G_api_Relation × (List (Str × Bool)))
  | 0, _, _, _, _, _, _, _, _, _ => none
  | n_ + 1, y, lost, mostB, t89, t90, t91, b, r_, values => s_tablefinderlaw29_RelationCounts_l1_b (s_tablefinderlaw29_RelationCounts_l1 n_) y lost mostB t89 t90 t91 b r_ values

def s_tablefinderlaw29_RelationCounts_l1_F (n : Nat) (s : (Int × Int × Int × (List G_api_Cell) × Int × Int × G_api_Table × G_api_Relation × (List (Str × Bool)))) : Option (Int × Int × G_api_Relation × (List (Str × Bool))) := s_tablefinderlaw29_RelationCounts_l1 n s.1 s.2.1 s.2.2.1 s.2.2.2.1 s.2.2.2.2.1 s.2.2.2.2.2.1 s.2.2.2.2.2.2.1 s.2.2.2.2.2.2.2.1 s.2.2.2.2.2.2.2.2
def s_tablefinderlaw29_RelationCounts_l1_B (rec_ : (Int × Int × Int × (List G_api_Cell) × Int × Int × G_api_Table × G_api_Relation × (List (Str × Bool))) → Option (Int × Int × G_api_Relation × (List (Str × Bool)))) (s : (Int × Int × Int × (List G_api_Cell) × Int × Int × G_api_Table × G_api_Relation × (List (Str × Bool)))) : Option (Int × Int × G_api_Relation × (List (Str × Bool))) := s_tablefinderlaw29_RelationCounts_l1_b (fun y lost mostB t89 t90 t91 b r_ values => rec_ (y, lost, mostB, t89, t90, t91, b, r_, values)) s.1 s.2.1 s.2.2.1 s.2.2.2.1 s.2.2.2.2.1 s.2.2.2.2.2.1 s.2.2.2.2.2.2.1 s.2.2.2.2.2.2.2.1 s.2.2.2.2.2.2.2.2
theorem s_tablefinderlaw29_RelationCounts_l1_FB : ∀ n s, s_tablefinderlaw29_RelationCounts_l1_F (n + 1) s = s_tablefinderlaw29_RelationCounts_l1_B (s_tablefinderlaw29_RelationCounts_l1_F n) s := fun _ _ => rfl

def s_tablefinderlaw29_RelationCounts_j2 (x_ : Int) (y : Int) (t82 : Bool) (a : G_api_Table) (b : G_api_Table) (r_ : G_api_Relation) : Option Bool :=
  bif t82 then (
    some false
  ) else (
    (idx a.Columns x_).bind fun Column =>
    (s_tablefinderlaw29_RelationCounts_l1 big y (0 : Int) (0 : Int) Column.Cells (Column.Cells.length : Int) (0 : Int) b r_ ([] : (List (Str × Bool)))).bind fun (x0, x1, x2, x3) => s_tablefinderlaw29_RelationCounts_k7 x0 x1 x2 x3
  )

def s_tablefinderlaw29_RelationCounts_j1 (i : Int) (j : Int) (t43 : Bool) (a : G_api_Table) (b : G_api_Table) : Option Bool :=
  bif t43 then (
    (s_tablefinderlaw29_awake).bind fun q =>
    some q
  ) else (
    (s_tablefinderkit_Mod i (a.Columns.length : Int)).bind fun x_ =>
    (s_tablefinderkit_Mod j (b.Columns.length : Int)).bind fun y =>
    (s_relation_Of a x_ b y).bind fun (r_, e) =>
    (s_relation_Of b y a x_).bind fun (q_1, f) =>
    bif (e != 0) then (
      s_tablefinderlaw29_RelationCounts_j2 x_ y true a b r_
    ) else (
      bif (f != 0) then (
        s_tablefinderlaw29_RelationCounts_j2 x_ y true a b r_
      ) else (
        (s_relation_Turn r_).bind fun q_2 =>
        s_tablefinderlaw29_RelationCounts_j2 x_ y (!(q_2.A.Table == q_1.A.Table && (q_2.A.Column == q_1.A.Column && (q_2.B.Table == q_1.B.Table && (q_2.B.Column == q_1.B.Column && (q_2.Common == q_1.Common && (q_2.OnlyA == q_1.OnlyA && (q_2.OnlyB == q_1.OnlyB && (q_2.MostA == q_1.MostA && (q_2.MostB == q_1.MostB && (q_2.LostA == q_1.LostA && (q_2.LostB == q_1.LostB && true)))))))))))) a b r_
      )
    )
  )

def s_tablefinderlaw29_RelationCounts (t : (List Int)) (i : Int) (j : Int) : Option Bool :=
  (s_tablefinderkit_Light t).bind fun q =>
  bif (!q) then (
    (s_tablefinderlaw29_awake).bind fun q_1 =>
    some q_1
  ) else (
    (s_tablefinderkit_Roll t).bind fun d =>
    (s_tablefinderkit_Table d 1).bind fun (a, t30) =>
    (s_tablefinderkit_Table t30 2).bind fun (b, t32) =>
    bif ((a.Columns.length : Int) == 0) then (
      s_tablefinderlaw29_RelationCounts_j1 i j true a b
    ) else (
      s_tablefinderlaw29_RelationCounts_j1 i j ((b.Columns.length : Int) == 0) a b
    )
  )

end
end Go.Proofs
