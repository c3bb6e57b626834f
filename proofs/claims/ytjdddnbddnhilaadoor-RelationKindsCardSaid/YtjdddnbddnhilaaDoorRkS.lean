/- Printed by wip/tools/tgen.py: specs. -/
import Derived.Test.YtjdddnbddnhilaaDoorE4
import Derived.Lib.ItoaNum
import Derived.Lib.LaidU8
import Derived.Shelf.Strconv.Itoa3
set_option linter.unusedVariables false
set_option linter.unusedSimpArgs false
set_option linter.unusedSectionVars false
namespace Go.Proofs
open Go Eng
set_option maxRecDepth 100000
noncomputable section

structure G_api_Cell where
  Null : Bool
  Text : Str
  deriving DecidableEq, Inhabited

structure G_api_Column where
  Name : Str
  Cells : (List G_api_Cell)
  deriving DecidableEq, Inhabited

structure G_api_Table where
  ID : Int
  Name : Str
  Columns : (List G_api_Column)
  deriving DecidableEq, Inhabited

structure G_api_Ref where
  Table : Int
  Column : Int
  deriving DecidableEq, Inhabited

structure G_api_Relation where
  A : G_api_Ref
  B : G_api_Ref
  Common : Int
  OnlyA : Int
  OnlyB : Int
  MostA : Int
  MostB : Int
  LostA : Int
  LostB : Int
  deriving DecidableEq, Inhabited

structure G_unicode_utf8_acceptRange where
  lo : Int
  hi : Int
  deriving DecidableEq, Inhabited

structure G_tablefinderkit_Dice where
  l : (List Int)
  at_ : Int
  deriving DecidableEq, Inhabited

structure G_arr2_G_api_Table where
  e0 : G_api_Table
  e1 : G_api_Table
  deriving DecidableEq, Inhabited

structure G_arr2_Int where
  e0 : Int
  e1 : Int
  deriving DecidableEq, Inhabited

structure G_arr6_Int where
  e0 : Int
  e1 : Int
  e2 : Int
  e3 : Int
  e4 : Int
  e5 : Int
  deriving DecidableEq, Inhabited

structure G_api_Big where
  Neg : Bool
  Words : (List Int)
  deriving DecidableEq, Inhabited

structure G_api_Fraction where
  Num : G_api_Big
  Den : G_api_Big
  deriving DecidableEq, Inhabited

abbrev G_arr256_int_u8 : Type := { l : List Int // l.length = 256 }

structure G_arr16_G_unicode_utf8_acceptRange where
  e0 : G_unicode_utf8_acceptRange
  e1 : G_unicode_utf8_acceptRange
  e2 : G_unicode_utf8_acceptRange
  e3 : G_unicode_utf8_acceptRange
  e4 : G_unicode_utf8_acceptRange
  e5 : G_unicode_utf8_acceptRange
  e6 : G_unicode_utf8_acceptRange
  e7 : G_unicode_utf8_acceptRange
  e8 : G_unicode_utf8_acceptRange
  e9 : G_unicode_utf8_acceptRange
  e10 : G_unicode_utf8_acceptRange
  e11 : G_unicode_utf8_acceptRange
  e12 : G_unicode_utf8_acceptRange
  e13 : G_unicode_utf8_acceptRange
  e14 : G_unicode_utf8_acceptRange
  e15 : G_unicode_utf8_acceptRange
  deriving DecidableEq, Inhabited

def carU : Nat → Type
  | 0 => G_api_Cell
  | 1 => G_api_Column
  | 2 => G_api_Table
  | 3 => G_api_Ref
  | 4 => G_api_Relation
  | 5 => G_unicode_utf8_acceptRange
  | 6 => G_tablefinderkit_Dice
  | 7 => G_arr2_G_api_Table
  | 8 => G_arr2_Int
  | 9 => G_arr6_Int
  | 10 => G_api_Big
  | 11 => G_api_Fraction
  | 12 => G_arr256_int_u8
  | 13 => G_arr16_G_unicode_utf8_acceptRange
  | _ => Unit

def sizeU : Nat → Nat
  | 0 => 2
  | 1 => 2
  | 2 => 3
  | 3 => 2
  | 4 => 11
  | 5 => 2
  | 6 => 2
  | 7 => 6
  | 8 => 2
  | 9 => 6
  | 10 => 2
  | 11 => 4
  | 12 => 256
  | 13 => 32
  | _ => 0


def glob_utf8_first : List (Lf carU) := (Lib.firstTab.map fun n => ⟨.int .u8, n⟩)

def glob_utf8_acceptRanges : List (Lf carU) := [⟨.int .u8, (128 : Int)⟩, ⟨.int .u8, (191 : Int)⟩, ⟨.int .u8, (160 : Int)⟩, ⟨.int .u8, (191 : Int)⟩, ⟨.int .u8, (128 : Int)⟩, ⟨.int .u8, (159 : Int)⟩, ⟨.int .u8, (144 : Int)⟩, ⟨.int .u8, (191 : Int)⟩, ⟨.int .u8, (128 : Int)⟩, ⟨.int .u8, (143 : Int)⟩, ⟨.int .u8, (0 : Int)⟩, ⟨.int .u8, (0 : Int)⟩, ⟨.int .u8, (0 : Int)⟩, ⟨.int .u8, (0 : Int)⟩, ⟨.int .u8, (0 : Int)⟩, ⟨.int .u8, (0 : Int)⟩, ⟨.int .u8, (0 : Int)⟩, ⟨.int .u8, (0 : Int)⟩, ⟨.int .u8, (0 : Int)⟩, ⟨.int .u8, (0 : Int)⟩, ⟨.int .u8, (0 : Int)⟩, ⟨.int .u8, (0 : Int)⟩, ⟨.int .u8, (0 : Int)⟩, ⟨.int .u8, (0 : Int)⟩, ⟨.int .u8, (0 : Int)⟩, ⟨.int .u8, (0 : Int)⟩, ⟨.int .u8, (0 : Int)⟩, ⟨.int .u8, (0 : Int)⟩, ⟨.int .u8, (0 : Int)⟩, ⟨.int .u8, (0 : Int)⟩, ⟨.int .u8, (0 : Int)⟩, ⟨.int .u8, (0 : Int)⟩]

def glob_strconv_uint64pow10 : List (Lf carU) := (Lib.pow10Tab.map fun n => ⟨.int .u64, n⟩)

/-! ### tablefinder/tablefinderlaw29.small -/

def s_tablefinderlaw29_small_k1  : Option Bool :=
  some true

def s_tablefinderlaw29_small_l1_b (rec_ : (List G_api_Column) → Int → Int → Option (Out Unit Bool)) (t10 : (List G_api_Column)) (t11 : Int) (t12 : Int) : Option (Out Unit Bool) :=
  bif (decide (t12 < t11)) then (
    (idx t10 t12).bind fun c =>
    bif (decide ((c.Cells.length : Int) > 20)) then (
      some (.ret false)
    ) else (
      chk (inK .i64 (t12 + 1)) <|
      rec_ t10 t11 (t12 + 1)
    )
  ) else (
    some (.brk ())
  )

def s_tablefinderlaw29_small_l1 : Nat → (List G_api_Column) → Int → Int → Option (Out Unit Bool)
  | 0, _, _, _ => none
  | n_ + 1, t10, t11, t12 => s_tablefinderlaw29_small_l1_b (s_tablefinderlaw29_small_l1 n_) t10 t11 t12

def s_tablefinderlaw29_small_l1_F (n : Nat) (s : ((List G_api_Column) × Int × Int)) : Option (Out Unit Bool) := s_tablefinderlaw29_small_l1 n s.1 s.2.1 s.2.2
def s_tablefinderlaw29_small_l1_B (rec_ : ((List G_api_Column) × Int × Int) → Option (Out Unit Bool)) (s : ((List G_api_Column) × Int × Int)) : Option (Out Unit Bool) := s_tablefinderlaw29_small_l1_b (fun t10 t11 t12 => rec_ (t10, t11, t12)) s.1 s.2.1 s.2.2
theorem s_tablefinderlaw29_small_l1_FB : ∀ n s, s_tablefinderlaw29_small_l1_F (n + 1) s = s_tablefinderlaw29_small_l1_B (s_tablefinderlaw29_small_l1_F n) s := fun _ _ => rfl

def s_tablefinderlaw29_small (t : G_api_Table) : Option Bool :=
  bif (decide ((t.Columns.length : Int) > 10)) then (
    some false
  ) else (
    (s_tablefinderlaw29_small_l1 big t.Columns (t.Columns.length : Int) (0 : Int)).bind fun
      | .ret q_ => some q_
      | .brk () => s_tablefinderlaw29_small_k1
  )

/-! ### tablefinder/tablefinderkit.Light -/

def s_tablefinderkit_Light (t : (List Int)) : Option Bool :=
  some (decide ((t.length : Int) ≤ 500))

/-! ### unicode/utf8.word[string] -/

def s_unicode_utf8_word_string (s : Str) : Option Int :=
  (idx s 0).bind fun c =>
  (idx s 1).bind fun c_1 =>
  chk (decide (0 ≤ (8 : Int))) <|
  (idx s 2).bind fun c_2 =>
  chk (decide (0 ≤ (16 : Int))) <|
  (idx s 3).bind fun c_3 =>
  chk (decide (0 ≤ (24 : Int))) <|
  (idx s 4).bind fun c_4 =>
  chk (decide (0 ≤ (32 : Int))) <|
  (idx s 5).bind fun c_5 =>
  chk (decide (0 ≤ (40 : Int))) <|
  (idx s 6).bind fun c_6 =>
  chk (decide (0 ≤ (48 : Int))) <|
  (idx s 7).bind fun c_7 =>
  chk (decide (0 ≤ (56 : Int))) <|
  some (orK .u64 (orK .u64 (orK .u64 (orK .u64 (orK .u64 (orK .u64 (orK .u64 (IntKind.wrap .u64 ((c.toNat : Nat) : Int)) (shlK .u64 (IntKind.wrap .u64 ((c_1.toNat : Nat) : Int)) 8)) (shlK .u64 (IntKind.wrap .u64 ((c_2.toNat : Nat) : Int)) 16)) (shlK .u64 (IntKind.wrap .u64 ((c_3.toNat : Nat) : Int)) 24)) (shlK .u64 (IntKind.wrap .u64 ((c_4.toNat : Nat) : Int)) 32)) (shlK .u64 (IntKind.wrap .u64 ((c_5.toNat : Nat) : Int)) 40)) (shlK .u64 (IntKind.wrap .u64 ((c_6.toNat : Nat) : Int)) 48)) (shlK .u64 (IntKind.wrap .u64 ((c_7.toNat : Nat) : Int)) 56))

/-! ### unicode/utf8.ValidString -/

def s_unicode_utf8_ValidString_k9  : Option Bool :=
  some true

def s_unicode_utf8_ValidString_j8 (rec_ : Str → Option (Out Unit Bool)) (s : Str) (t166 : Bool) : Option (Out Unit Bool) :=
  bif t166 then (
    some (.ret false)
  ) else (
    chk (within 4 (s.length : Int) (s.length : Int)) <|
    rec_ (s.drop ((4 : Int)).toNat)
  )

def s_unicode_utf8_ValidString_j7 (rec_ : Str → Option (Out Unit Bool)) (s : Str) (t125 : Bool) : Option (Out Unit Bool) :=
  bif t125 then (
    some (.ret false)
  ) else (
    chk (within 3 (s.length : Int) (s.length : Int)) <|
    rec_ (s.drop ((3 : Int)).toNat)
  )

def s_unicode_utf8_ValidString_j6 (rec_ : Str → Option (Out Unit Bool)) (s : Str) (t94 : Bool) : Option (Out Unit Bool) :=
  bif t94 then (
    some (.ret false)
  ) else (
    chk (within 2 (s.length : Int) (s.length : Int)) <|
    rec_ (s.drop ((2 : Int)).toNat)
  )

def s_unicode_utf8_ValidString_j5 (rec_ : Str → Option (Out Unit Bool)) (s : Str) : Option (Out Unit Bool) :=
  rec_ s

def s_unicode_utf8_ValidString_k4 (rec_ : Str → Option (Out Unit Bool)) (s : Str) : Option (Out Unit Bool) :=
  rec_ s

def s_unicode_utf8_ValidString_j3 (rec_ : Str → Option Str) (s : Str) (t62 : Bool) : Option Str :=
  bif t62 then (
    chk (within 32 (s.length : Int) (s.length : Int)) <|
    rec_ (s.drop ((32 : Int)).toNat)
  ) else (
    some s
  )

def s_unicode_utf8_ValidString_l2_b (rec_ : Str → Option Str) (s : Str) : Option Str :=
  bif (decide ((s.length : Int) > 32)) then (
    (s_unicode_utf8_word_string s).bind fun q =>
    chk (within 8 (s.length : Int) (s.length : Int)) <|
    (s_unicode_utf8_word_string (s.drop ((8 : Int)).toNat)).bind fun q_1 =>
    chk (within 16 (s.length : Int) (s.length : Int)) <|
    (s_unicode_utf8_word_string (s.drop ((16 : Int)).toNat)).bind fun q_2 =>
    chk (within 24 (s.length : Int) (s.length : Int)) <|
    (s_unicode_utf8_word_string (s.drop ((24 : Int)).toNat)).bind fun q_3 =>
    s_unicode_utf8_ValidString_j3 rec_ s ((andK .u64 (orK .u64 (orK .u64 q q_1) (orK .u64 q_2 q_3)) 9259542123273814144) == 0)
  ) else (
    s_unicode_utf8_ValidString_j3 rec_ s false
  )

def s_unicode_utf8_ValidString_l2 : Nat → Str → Option Str
  | 0, _ => none
  | n_ + 1, s => s_unicode_utf8_ValidString_l2_b (s_unicode_utf8_ValidString_l2 n_) s

def s_unicode_utf8_ValidString_j2 (rec_ : Str → Option (Out Unit Bool)) (s : Str) (t39 : Bool) : Option (Out Unit Bool) :=
  bif t39 then (
    chk (within 16 (s.length : Int) (s.length : Int)) <|
    (s_unicode_utf8_ValidString_l2 big (s.drop ((16 : Int)).toNat)).bind fun x0 => s_unicode_utf8_ValidString_k4 rec_ x0
  ) else (
    s_unicode_utf8_ValidString_j5 rec_ s
  )

def s_unicode_utf8_ValidString_j1 (rec_ : Str → Option (Out Unit Bool)) (s : Str) (t24 : Bool) : Option (Out Unit Bool) :=
  bif t24 then (
    chk (within 8 (s.length : Int) (s.length : Int)) <|
    bif (decide (((s.drop ((8 : Int)).toNat).length : Int) > 16)) then (
      (s_unicode_utf8_word_string (s.drop ((8 : Int)).toNat)).bind fun q =>
      chk (within 8 ((s.drop ((8 : Int)).toNat).length : Int) ((s.drop ((8 : Int)).toNat).length : Int)) <|
      (s_unicode_utf8_word_string ((s.drop ((8 : Int)).toNat).drop ((8 : Int)).toNat)).bind fun q_1 =>
      s_unicode_utf8_ValidString_j2 rec_ (s.drop ((8 : Int)).toNat) ((andK .u64 (orK .u64 q q_1) 9259542123273814144) == 0)
    ) else (
      s_unicode_utf8_ValidString_j2 rec_ (s.drop ((8 : Int)).toNat) false
    )
  ) else (
    s_unicode_utf8_ValidString_j5 rec_ s
  )

def s_unicode_utf8_ValidString_l1_b (rec_ : Str → Option (Out Unit Bool)) (s : Str) : Option (Out Unit Bool) :=
  bif (decide ((s.length : Int) > 0)) then (
    (idx s 0).bind fun c =>
    bif (decide (((c.toNat : Nat) : Int) < 128)) then (
      chk (within 1 (s.length : Int) (s.length : Int)) <|
      bif (decide (((s.drop ((1 : Int)).toNat).length : Int) > 8)) then (
        (s_unicode_utf8_word_string (s.drop ((1 : Int)).toNat)).bind fun q =>
        s_unicode_utf8_ValidString_j1 rec_ (s.drop ((1 : Int)).toNat) ((andK .u64 q 9259542123273814144) == 0)
      ) else (
        s_unicode_utf8_ValidString_j1 rec_ (s.drop ((1 : Int)).toNat) false
      )
    ) else (
      chk (inR ((c.toNat : Nat) : Int) 256) <|
      (tabB (car := carU) (.int .u8) glob_utf8_first ((((c.toNat : Nat) : Int)).toNat * 1)).bind fun c_1 =>
      chk (decide (0 ≤ (4 : Int))) <|
      chk (inR (shrK .u8 c_1 4) 16) <|
      (tabB (car := carU) (.int .u8) glob_utf8_acceptRanges (((shrK .u8 c_1 4)).toNat * 2)).bind fun c_2 =>
      (tabB (car := carU) (.int .u8) glob_utf8_acceptRanges (((shrK .u8 c_1 4)).toNat * 2 + 1)).bind fun c_3 =>
      bif ((IntKind.wrap .i64 (andK .u8 c_1 7)) == 2) then (
        bif (decide ((s.length : Int) < 2)) then (
          s_unicode_utf8_ValidString_j6 rec_ s true
        ) else (
          (idx s 1).bind fun c_4 =>
          bif (decide (((c_4.toNat : Nat) : Int) < c_2)) then (
            s_unicode_utf8_ValidString_j6 rec_ s true
          ) else (
            (idx s 1).bind fun c_5 =>
            s_unicode_utf8_ValidString_j6 rec_ s (decide (c_3 < ((c_5.toNat : Nat) : Int)))
          )
        )
      ) else (
        bif ((IntKind.wrap .i64 (andK .u8 c_1 7)) == 3) then (
          bif (decide ((s.length : Int) < 3)) then (
            s_unicode_utf8_ValidString_j7 rec_ s true
          ) else (
            (idx s 1).bind fun c_6 =>
            bif (decide (((c_6.toNat : Nat) : Int) < c_2)) then (
              s_unicode_utf8_ValidString_j7 rec_ s true
            ) else (
              (idx s 1).bind fun c_7 =>
              bif (decide (c_3 < ((c_7.toNat : Nat) : Int))) then (
                s_unicode_utf8_ValidString_j7 rec_ s true
              ) else (
                (idx s 2).bind fun c_8 =>
                bif (decide (((c_8.toNat : Nat) : Int) < 128)) then (
                  s_unicode_utf8_ValidString_j7 rec_ s true
                ) else (
                  (idx s 2).bind fun c_9 =>
                  s_unicode_utf8_ValidString_j7 rec_ s (decide ((191 : Int) < ((c_9.toNat : Nat) : Int)))
                )
              )
            )
          )
        ) else (
          bif ((IntKind.wrap .i64 (andK .u8 c_1 7)) == 4) then (
            bif (decide ((s.length : Int) < 4)) then (
              s_unicode_utf8_ValidString_j8 rec_ s true
            ) else (
              (idx s 1).bind fun c_10 =>
              bif (decide (((c_10.toNat : Nat) : Int) < c_2)) then (
                s_unicode_utf8_ValidString_j8 rec_ s true
              ) else (
                (idx s 1).bind fun c_11 =>
                bif (decide (c_3 < ((c_11.toNat : Nat) : Int))) then (
                  s_unicode_utf8_ValidString_j8 rec_ s true
                ) else (
                  (idx s 2).bind fun c_12 =>
                  bif (decide (((c_12.toNat : Nat) : Int) < 128)) then (
                    s_unicode_utf8_ValidString_j8 rec_ s true
                  ) else (
                    (idx s 2).bind fun c_13 =>
                    bif (decide ((191 : Int) < ((c_13.toNat : Nat) : Int))) then (
                      s_unicode_utf8_ValidString_j8 rec_ s true
                    ) else (
                      (idx s 3).bind fun c_14 =>
                      bif (decide (((c_14.toNat : Nat) : Int) < 128)) then (
                        s_unicode_utf8_ValidString_j8 rec_ s true
                      ) else (
                        (idx s 3).bind fun c_15 =>
                        s_unicode_utf8_ValidString_j8 rec_ s (decide ((191 : Int) < ((c_15.toNat : Nat) : Int)))
                      )
                    )
                  )
                )
              )
            )
          ) else (
            some (.ret false)
          )
        )
      )
    )
  ) else (
    some (.brk ())
  )

def s_unicode_utf8_ValidString_l1 : Nat → Str → Option (Out Unit Bool)
  | 0, _ => none
  | n_ + 1, s => s_unicode_utf8_ValidString_l1_b (s_unicode_utf8_ValidString_l1 n_) s

def s_unicode_utf8_ValidString (s : Str) : Option Bool :=
  (s_unicode_utf8_ValidString_l1 big s).bind fun
    | .ret q_ => some q_
    | .brk () => s_unicode_utf8_ValidString_k9

/-! ### tablefinder/text.Valid -/

def s_text_Valid (s : Str) : Option Bool :=
  (s_unicode_utf8_ValidString s).bind fun q =>
  some q

/-! ### tablefinder/table.fine -/

def s_table_fine_j1 (t2 : Bool) : Option Bool :=
  some t2

def s_table_fine (s : Str) : Option Bool :=
  bif (decide ((s.length : Int) ≤ 1024)) then (
    (s_text_Valid s).bind fun q =>
    s_table_fine_j1 q
  ) else (
    s_table_fine_j1 false
  )

/-! ### tablefinder/table.Rows -/

def s_table_Rows (t : G_api_Table) : Option Int :=
  bif ((t.Columns.length : Int) == 0) then (
    some (0 : Int)
  ) else (
    (idx t.Columns 0).bind fun Column =>
    some (Column.Cells.length : Int)
  )

/-! ### tablefinder/table.ValidCell -/

def s_table_ValidCell_j1 (t2 : Bool) : Option Bool :=
  some t2

def s_table_ValidCell (c : G_api_Cell) : Option Bool :=
  (s_table_fine c.Text).bind fun q =>
  bif q then (
    bif c.Null then (
      s_table_ValidCell_j1 (!(!(c.Text == ([] : Str))))
    ) else (
      s_table_ValidCell_j1 true
    )
  ) else (
    s_table_ValidCell_j1 false
  )

/-! ### tablefinder/table.every[tablefinder/api.Cell] -/

def s_table_every_api_Cell_k1  : Option Bool :=
  some true

def s_table_every_api_Cell_l1_b (rec_ : (List G_api_Cell) → Int → Int → Option (Out Unit Bool)) (t7 : (List G_api_Cell)) (t8 : Int) (t9 : Int) : Option (Out Unit Bool) :=
  bif (decide (t9 < t8)) then (
    (idx t7 t9).bind fun x_ =>
    (s_table_ValidCell x_).bind fun q =>
    bif (!q) then (
      some (.ret false)
    ) else (
      chk (inK .i64 (t9 + 1)) <|
      rec_ t7 t8 (t9 + 1)
    )
  ) else (
    some (.brk ())
  )

def s_table_every_api_Cell_l1 : Nat → (List G_api_Cell) → Int → Int → Option (Out Unit Bool)
  | 0, _, _, _ => none
  | n_ + 1, t7, t8, t9 => s_table_every_api_Cell_l1_b (s_table_every_api_Cell_l1 n_) t7 t8 t9

def s_table_every_api_Cell (l : (List G_api_Cell)) : Option Bool :=
  (s_table_every_api_Cell_l1 big l (l.length : Int) (0 : Int)).bind fun
    | .ret q_ => some q_
    | .brk () => s_table_every_api_Cell_k1

/-! ### tablefinder/table.Valid$1 -/

def s_table_Valid_1_j1 (t3 : Bool) : Option Bool :=
  some t3

def s_table_Valid_1 (c : G_api_Column) (a1 : G_api_Table) : Option Bool :=
  (s_table_fine c.Name).bind fun q =>
  bif (!q) then (
    s_table_Valid_1_j1 true
  ) else (
    (s_table_Rows a1).bind fun q_1 =>
    bif ((c.Cells.length : Int) != q_1) then (
      s_table_Valid_1_j1 true
    ) else (
      (s_table_every_api_Cell c.Cells).bind fun q_2 =>
      s_table_Valid_1_j1 (!q_2)
    )
  )

/-! ### slices.IndexFunc[[]tablefinder/api.Column,tablefinder/api.Column] -/

def s_slices_IndexFunc_api_Column_api_Column_k1  : Option Int :=
  some (-1 : Int)

def s_slices_IndexFunc_api_Column_api_Column_l1_b (rec_ : (List G_api_Column) → G_api_Table → Int → Int → Option (Out Unit Int)) (s : (List G_api_Column)) (f : G_api_Table) (t7 : Int) (i : Int) : Option (Out Unit Int) :=
  bif (decide (i < t7)) then (
    (idx s i).bind fun s_e =>
    (s_table_Valid_1 s_e f).bind fun q =>
    bif q then (
      some (.ret i)
    ) else (
      chk (inK .i64 (i + 1)) <|
      rec_ s f t7 (i + 1)
    )
  ) else (
    some (.brk ())
  )

def s_slices_IndexFunc_api_Column_api_Column_l1 : Nat → (List G_api_Column) → G_api_Table → Int → Int → Option (Out Unit Int)
  | 0, _, _, _, _ => none
  | n_ + 1, s, f, t7, i => s_slices_IndexFunc_api_Column_api_Column_l1_b (s_slices_IndexFunc_api_Column_api_Column_l1 n_) s f t7 i

def s_slices_IndexFunc_api_Column_api_Column (s : (List G_api_Column)) (c : G_api_Table) : Option Int :=
  (s_slices_IndexFunc_api_Column_api_Column_l1 big s c (s.length : Int) (0 : Int)).bind fun
    | .ret q_ => some q_
    | .brk () => s_slices_IndexFunc_api_Column_api_Column_k1

/-! ### slices.ContainsFunc[[]tablefinder/api.Column,tablefinder/api.Column] -/

def s_slices_ContainsFunc_api_Column_api_Column (s : (List G_api_Column)) (c : G_api_Table) : Option Bool :=
  (s_slices_IndexFunc_api_Column_api_Column s c).bind fun q =>
  some (decide (q ≥ 0))

/-! ### tablefinder/table.Valid -/

def s_table_Valid_j1 (t27 : Bool) (t : G_api_Table) : Option Bool :=
  bif t27 then (
    some false
  ) else (
    (s_slices_ContainsFunc_api_Column_api_Column t.Columns t).bind fun q =>
    some (!q)
  )

def s_table_Valid (t : G_api_Table) : Option Bool :=
  bif (decide (t.ID < 0)) then (
    s_table_Valid_j1 true t
  ) else (
    bif (decide (t.ID > 1073741824)) then (
      s_table_Valid_j1 true t
    ) else (
      (s_table_fine t.Name).bind fun q =>
      bif (!q) then (
        s_table_Valid_j1 true t
      ) else (
        bif (decide ((t.Columns.length : Int) > 64)) then (
          s_table_Valid_j1 true t
        ) else (
          (s_table_Rows t).bind fun q_1 =>
          s_table_Valid_j1 (decide (q_1 > 4096)) t
        )
      )
    )
  )

/-! ### tablefinder/relation.counts -/

def s_relation_counts_k2 (out : (List (Str × Int))) : Option (List (Str × Int)) :=
  some out

def s_relation_counts_j1 (rec_ : (List G_api_Cell) → Int → Int → (List (Str × Int)) → Option (List (Str × Int))) (t8 : (List G_api_Cell)) (t9 : Int) (t10 : Int) (out : (List (Str × Int))) : Option (List (Str × Int)) :=
  chk (inK .i64 (t10 + 1)) <|
  rec_ t8 t9 (t10 + 1) out

def s_relation_counts_l1_b (rec_ : (List G_api_Cell) → Int → Int → (List (Str × Int)) → Option (List (Str × Int))) (t8 : (List G_api_Cell)) (t9 : Int) (t10 : Int) (out : (List (Str × Int))) : Option (List (Str × Int)) :=
  bif (decide (t10 < t9)) then (
    (idx t8 t10).bind fun x_ =>
    bif (!x_.Null) then (
      chk (inK .i64 (((lookB (k := .str) (v := (.int .i64)) (car := carU) out x_.Text).getD (0 : Int)) + 1)) <|
      s_relation_counts_j1 rec_ t8 t9 t10 (setB (k := .str) (v := (.int .i64)) (car := carU) out x_.Text (((lookB (k := .str) (v := (.int .i64)) (car := carU) out x_.Text).getD (0 : Int)) + 1))
    ) else (
      s_relation_counts_j1 rec_ t8 t9 t10 out
    )
  ) else (
    some out
  )

def s_relation_counts_l1 : Nat → (List G_api_Cell) → Int → Int → (List (Str × Int)) → Option (List (Str × Int))
  | 0, _, _, _, _ => none
  | n_ + 1, t8, t9, t10, out => s_relation_counts_l1_b (s_relation_counts_l1 n_) t8 t9 t10 out

def s_relation_counts (c : G_api_Column) : Option (List (Str × Int)) :=
  (s_relation_counts_l1 big c.Cells (c.Cells.length : Int) (0 : Int) ([] : (List (Str × Int)))).bind fun x0 => s_relation_counts_k2 x0

/-! ### tablefinder/relation.against -/

def s_relation_against_k1 (common : Int) (most : Int) (lost : Int) : Option (Int × Int × Int) :=
  some (common, most, lost)

def s_relation_against_l1_b (rec_ : (List (Str × Int)) → Int → Int → Int → (List (Str × Int)) → (Option (Str × Int)) → Option (Int × Int × Int)) (b : (List (Str × Int))) (common : Int) (most : Int) (lost : Int) (t13 : (List (Str × Int))) (t13_at : (Option (Str × Int))) : Option (Int × Int × Int) :=
  bif List.isEmpty t13 then (
    some (common, most, lost)
  ) else pickAll t13 fun q rest => (
    bif (decide (((lookB (k := .str) (v := (.int .i64)) (car := carU) b q.1).getD (0 : Int)) > 0)) then (
      chk (inK .i64 (common + 1)) <|
      chk (inK .i64 (lost - q.2)) <|
      rec_ b (common + 1) (if q.2 > most then q.2 else most) (lost - q.2) rest (some (q.1, q.2))
    ) else (
      rec_ b common most lost rest (some (q.1, q.2))
    )
  )

def s_relation_against_l1 : Nat → (List (Str × Int)) → Int → Int → Int → (List (Str × Int)) → (Option (Str × Int)) → Option (Int × Int × Int)
  | 0, _, _, _, _, _, _ => none
  | n_ + 1, b, common, most, lost, t13, t13_at => s_relation_against_l1_b (s_relation_against_l1 n_) b common most lost t13 t13_at

def s_relation_against (a : (List (Str × Int))) (b : (List (Str × Int))) (rows : Int) : Option (Int × Int × Int) :=
  (s_relation_against_l1 big b (0 : Int) (0 : Int) rows a (none : Option (Str × Int))).bind fun (x0, x1, x2) => s_relation_against_k1 x0 x1 x2

/-! ### tablefinder/relation.Of -/

def s_relation_Of_j2 (i : Int) (j : Int) (t23 : Bool) (a : G_api_Table) (b : G_api_Table) (t8 : G_api_Relation) : Option (G_api_Relation × Int) :=
  bif t23 then (
    some ((G_api_Relation.mk (G_api_Ref.mk 0 0) (G_api_Ref.mk 0 0) 0 0 0 0 0 0 0), 2)
  ) else (
    (idx a.Columns i).bind fun Column =>
    (s_relation_counts Column).bind fun x_ =>
    (idx b.Columns j).bind fun Column_1 =>
    (s_relation_counts Column_1).bind fun y =>
    (s_table_Rows a).bind fun q =>
    (s_relation_against x_ y q).bind fun (q_1, q_2, q_3) =>
    (s_table_Rows b).bind fun q_4 =>
    (s_relation_against y x_ q_4).bind fun (q_5, q_6, q_7) =>
    chk (decide (x_.length ≤ maxInt)) <|
    chk (inK .i64 ((x_.length : Int) - q_1)) <|
    chk (decide (y.length ≤ maxInt)) <|
    chk (inK .i64 ((y.length : Int) - q_1)) <|
    some ((G_api_Relation.mk (G_api_Ref.mk a.ID i) (G_api_Ref.mk b.ID j) q_1 ((x_.length : Int) - q_1) ((y.length : Int) - q_1) q_2 q_6 q_3 q_7), 0)
  )

def s_relation_Of_j1 (i : Int) (j : Int) (t13 : Bool) (a : G_api_Table) (b : G_api_Table) (t8 : G_api_Relation) : Option (G_api_Relation × Int) :=
  bif t13 then (
    some ((G_api_Relation.mk (G_api_Ref.mk 0 0) (G_api_Ref.mk 0 0) 0 0 0 0 0 0 0), 1)
  ) else (
    bif (decide (i < 0)) then (
      s_relation_Of_j2 i j true a b t8
    ) else (
      bif (decide (i ≥ (a.Columns.length : Int))) then (
        s_relation_Of_j2 i j true a b t8
      ) else (
        bif (decide (j < 0)) then (
          s_relation_Of_j2 i j true a b t8
        ) else (
          s_relation_Of_j2 i j (decide (j ≥ (b.Columns.length : Int))) a b t8
        )
      )
    )
  )

def s_relation_Of (a : G_api_Table) (i : Int) (b : G_api_Table) (j : Int) : Option (G_api_Relation × Int) :=
  (s_table_Valid a).bind fun q =>
  bif (!q) then (
    s_relation_Of_j1 i j true a b (G_api_Relation.mk (G_api_Ref.mk 0 0) (G_api_Ref.mk 0 0) 0 0 0 0 0 0 0)
  ) else (
    (s_table_Valid b).bind fun q_1 =>
    s_relation_Of_j1 i j (!q_1) a b (G_api_Relation.mk (G_api_Ref.mk 0 0) (G_api_Ref.mk 0 0) 0 0 0 0 0 0 0)
  )

/-! ### tablefinder/relation.Kind -/

def s_relation_Kind_j1 (t7 : Bool) (r_ : G_api_Relation) : Option Int :=
  bif t7 then (
    some (1 : Int)
  ) else (
    bif (decide (r_.MostA ≤ 1)) then (
      some (2 : Int)
    ) else (
      bif (decide (r_.MostB ≤ 1)) then (
        some (3 : Int)
      ) else (
        some (4 : Int)
      )
    )
  )

def s_relation_Kind (r_ : G_api_Relation) : Option Int :=
  bif (r_.Common == 0) then (
    some (0 : Int)
  ) else (
    bif (decide (r_.MostA ≤ 1)) then (
      s_relation_Kind_j1 (decide (r_.MostB ≤ 1)) r_
    ) else (
      s_relation_Kind_j1 false r_
    )
  )

/-! ### tablefinder/tablefinderlaw29.awake -/

def s_tablefinderlaw29_awake_j1 (t0 : Bool) : Option Bool :=
  some t0

def s_tablefinderlaw29_awake  : Option Bool :=
  (s_relation_Of (G_api_Table.mk 1 ([] : Str) ([(G_api_Column.mk ([] : Str) ([(G_api_Cell.mk false ([49] : Str)), (G_api_Cell.mk false ([49] : Str)), (G_api_Cell.mk false ([50] : Str))] : (List G_api_Cell)))] : (List G_api_Column))) 0 (G_api_Table.mk 2 ([] : Str) ([(G_api_Column.mk ([] : Str) ([(G_api_Cell.mk false ([49] : Str)), (G_api_Cell.mk false ([51] : Str))] : (List G_api_Cell)))] : (List G_api_Column))) 0).bind fun (r_, e) =>
  bif (e == 0) then (
    bif (r_.A.Table == 1 && (r_.A.Column == 0 && (r_.B.Table == 2 && (r_.B.Column == 0 && (r_.Common == 1 && (r_.OnlyA == 1 && (r_.OnlyB == 1 && (r_.MostA == 2 && (r_.MostB == 1 && (r_.LostA == 1 && (r_.LostB == 1 && true))))))))))) then (
      (s_relation_Kind r_).bind fun q =>
      s_tablefinderlaw29_awake_j1 (q == 3)
    ) else (
      s_tablefinderlaw29_awake_j1 false
    )
  ) else (
    s_tablefinderlaw29_awake_j1 false
  )

/-! ### tablefinder/tablefinderkit.Roll -/

def s_tablefinderkit_Roll (t : (List Int)) : Option G_tablefinderkit_Dice :=
  some (G_tablefinderkit_Dice.mk t 0)

/-! ### tablefinder/tablefinderkit.Mod -/

def s_tablefinderkit_Mod (n : Int) (m : Int) : Option Int :=
  bif (decide (m < 1)) then (
    some (0 : Int)
  ) else (
    chk (decide (m ≠ 0)) <|
    chk (inK .i64 ((Int.tmod n m) + m)) <|
    chk (decide (m ≠ 0)) <|
    some (Int.tmod ((Int.tmod n m) + m) m)
  )

/-! ### (*tablefinder/tablefinderkit.Dice).Next -/

def s_tablefinderkit_Dice_Next (d : G_tablefinderkit_Dice) (n : Int) : Option (Int × G_tablefinderkit_Dice) :=
  bif (decide (d.at_ ≥ (d.l.length : Int))) then (
    some (0, d)
  ) else (
    chk (inK .i64 (d.at_ + 1)) <|
    chk (inK .i64 ((d.at_ + 1) - 1)) <|
    (idx d.l ((d.at_ + 1) - 1)).bind fun l_e =>
    (s_tablefinderkit_Mod l_e n).bind fun q =>
    some (q, (G_tablefinderkit_Dice.mk d.l (d.at_ + 1)))
  )

/-! ### (*tablefinder/tablefinderkit.Dice).Word -/

def s_tablefinderkit_Dice_Word (d : G_tablefinderkit_Dice) (l : (List Str)) : Option (Str × G_tablefinderkit_Dice) :=
  (s_tablefinderkit_Dice_Next d (l.length : Int)).bind fun (q, t6) =>
  (idx l q).bind fun l_e =>
  some (l_e, t6)

/-! ### tablefinder/tablefinderkit.Cell -/

def s_tablefinderkit_Cell (d : G_tablefinderkit_Dice) : Option (G_api_Cell × G_tablefinderkit_Dice) :=
  (s_tablefinderkit_Dice_Next d 7).bind fun (q, t3) =>
  bif (q == 1) then (
    some ((G_api_Cell.mk true ([] : Str)), t3)
  ) else (
    (s_tablefinderkit_Dice_Word t3 ([([97] : Str), ([98] : Str), ([99] : Str), ([49] : Str), ([50] : Str), ([51] : Str), ([49, 48] : Str), ([120] : Str), ([45, 49, 46, 53] : Str), ([50] : Str)] : (List Str))).bind fun (q_1, t7) =>
    some ((G_api_Cell.mk false q_1), t7)
  )

/-! ### strconv.Itoa -/

def s_strconv_Itoa (n : Int) : Option Str :=
  some (Lib.itoa n)

/-! ### tablefinder/tablefinderkit.Number -/

def s_tablefinderkit_Number (d : G_tablefinderkit_Dice) : Option (G_api_Cell × G_tablefinderkit_Dice) :=
  (s_tablefinderkit_Dice_Next d 9).bind fun (q, t3) =>
  bif (q == 1) then (
    some ((G_api_Cell.mk true ([] : Str)), t3)
  ) else (
    bif (q == 2) then (
      (s_tablefinderkit_Dice_Word t3 ([([120] : Str), ([] : Str), ([49, 46, 50, 46, 51] : Str), ([49, 46, 53, 48] : Str)] : (List Str))).bind fun (q_1, t10) =>
      some ((G_api_Cell.mk false q_1), t10)
    ) else (
      (s_tablefinderkit_Dice_Next t3 12).bind fun (q_2, t14) =>
      chk (inK .i64 (q_2 - 3)) <|
      (s_strconv_Itoa (q_2 - 3)).bind fun q_3 =>
      some ((G_api_Cell.mk false q_3), t14)
    )
  )

/-! ### tablefinder/tablefinderkit.Column -/

def s_tablefinderkit_Column_k2 (d : G_tablefinderkit_Dice) (t4 : Str) (c : Str) (t4_1 : (List G_api_Cell)) (c_1 : (List G_api_Cell)) : Option (G_api_Column × G_tablefinderkit_Dice) :=
  some ((G_api_Column.mk c c_1), d)

def s_tablefinderkit_Column_j1 (rec_ : Int → Int → Int → G_tablefinderkit_Dice → Str → Str → (List G_api_Cell) → (List G_api_Cell) → Option (G_tablefinderkit_Dice × Str × Str × (List G_api_Cell) × (List G_api_Cell))) (kind : Int) (t15 : Int) (i : Int) (d : G_tablefinderkit_Dice) (t4 : Str) (c : Str) (x_ : G_api_Cell) (t4_1 : (List G_api_Cell)) (c_1 : (List G_api_Cell)) : Option (G_tablefinderkit_Dice × Str × Str × (List G_api_Cell) × (List G_api_Cell)) :=
  chk (room (c_1.length + ([x_] : (List G_api_Cell)).length) 24) <|
  chk (inK .i64 (i + 1)) <|
  rec_ kind t15 (i + 1) d t4 c t4_1 (c_1 ++ ([x_] : (List G_api_Cell)))

def s_tablefinderkit_Column_l1_b (rec_ : Int → Int → Int → G_tablefinderkit_Dice → Str → Str → (List G_api_Cell) → (List G_api_Cell) → Option (G_tablefinderkit_Dice × Str × Str × (List G_api_Cell) × (List G_api_Cell))) (kind : Int) (t15 : Int) (i : Int) (d : G_tablefinderkit_Dice) (t4 : Str) (c : Str) (t4_1 : (List G_api_Cell)) (c_1 : (List G_api_Cell)) : Option (G_tablefinderkit_Dice × Str × Str × (List G_api_Cell) × (List G_api_Cell)) :=
  bif (decide (i < t15)) then (
    (s_tablefinderkit_Cell d).bind fun (x_, t19) =>
    bif (kind == 0) then (
      (s_tablefinderkit_Number t19).bind fun (x__1, t24) =>
      s_tablefinderkit_Column_j1 rec_ kind t15 i t24 t4 c x__1 t4_1 c_1
    ) else (
      bif (kind == 1) then (
        (s_strconv_Itoa i).bind fun q =>
        chk (decide (([107] : Str).length + q.length ≤ maxInt)) <|
        s_tablefinderkit_Column_j1 rec_ kind t15 i t19 t4 c (G_api_Cell.mk false (([107] : Str) ++ q)) t4_1 c_1
      ) else (
        bif (kind == 2) then (
          (s_tablefinderkit_Dice_Word t19 ([([97] : Str), ([98] : Str), ([99] : Str), ([100] : Str)] : (List Str))).bind fun (q_1, t34) =>
          s_tablefinderkit_Column_j1 rec_ kind t15 i t34 t4 c (G_api_Cell.mk false q_1) t4_1 c_1
        ) else (
          s_tablefinderkit_Column_j1 rec_ kind t15 i t19 t4 c x_ t4_1 c_1
        )
      )
    )
  ) else (
    some (d, t4, c, t4_1, c_1)
  )

def s_tablefinderkit_Column_l1 : Nat → Int → Int → Int → G_tablefinderkit_Dice → Str → Str → (List G_api_Cell) → (List G_api_Cell) → Option (G_tablefinderkit_Dice × Str × Str × (List G_api_Cell) × (List G_api_Cell))
  | 0, _, _, _, _, _, _, _, _ => none
  | n_ + 1, kind, t15, i, d, t4, c, t4_1, c_1 => s_tablefinderkit_Column_l1_b (s_tablefinderkit_Column_l1 n_) kind t15 i d t4 c t4_1 c_1

def s_tablefinderkit_Column (d : G_tablefinderkit_Dice) (rows : Int) : Option (G_api_Column × G_tablefinderkit_Dice) :=
  (s_tablefinderkit_Dice_Word d ([([105, 100] : Str), ([110, 97, 109, 101] : Str), ([85, 110, 105, 116, 32, 80, 114, 105, 99, 101] : Str), ([99, 105, 116, 121] : Str), ([117, 110, 105, 116] : Str), ([112, 114, 105, 99, 101] : Str), ([105, 100, 50] : Str), ([] : Str)] : (List Str))).bind fun (q, t9) =>
  (s_tablefinderkit_Dice_Next t9 5).bind fun (kind, t13) =>
  (s_tablefinderkit_Column_l1 big kind rows (0 : Int) t13 ([] : Str) q ([] : (List G_api_Cell)) ([] : (List G_api_Cell))).bind fun (x0, x1, x2, x3, x4) => s_tablefinderkit_Column_k2 x0 x1 x2 x3 x4

/-! ### tablefinder/tablefinderkit.Table -/

def s_tablefinderkit_Table_j2 (d : G_tablefinderkit_Dice) (t4 : Int) (t4_1 : Str) (t : Int) (t_1 : Str) (t4_2 : (List G_api_Column)) (t_2 : (List G_api_Column)) : Option (G_api_Table × G_tablefinderkit_Dice) :=
  some ((G_api_Table.mk t t_1 t_2), d)

def s_tablefinderkit_Table_k1 (d : G_tablefinderkit_Dice) (t4 : Int) (t4_1 : Str) (t : Int) (t_1 : Str) (t4_2 : (List G_api_Column)) (t_2 : (List G_api_Column)) : Option (G_api_Table × G_tablefinderkit_Dice) :=
  (s_tablefinderkit_Dice_Next d 15).bind fun (q, t30) =>
  bif (q == 1) then (
    s_tablefinderkit_Table_j2 t30 t4 t4_1 t t_1 t4_2 ([] : (List G_api_Column))
  ) else (
    s_tablefinderkit_Table_j2 t30 t4 t4_1 t t_1 t4_2 t_2
  )

def s_tablefinderkit_Table_l1_b (rec_ : Int → Int → G_tablefinderkit_Dice → Int → Str → Int → Str → (List G_api_Column) → (List G_api_Column) → Option (G_tablefinderkit_Dice × Int × Str × Int × Str × (List G_api_Column) × (List G_api_Column))) (rows : Int) (k : Int) (d : G_tablefinderkit_Dice) (t4 : Int) (t4_1 : Str) (t : Int) (t_1 : Str) (t4_2 : (List G_api_Column)) (t_2 : (List G_api_Column)) : Option (G_tablefinderkit_Dice × Int × Str × Int × Str × (List G_api_Column) × (List G_api_Column)) :=
  bif (decide (k > 0)) then (
    (s_tablefinderkit_Column d rows).bind fun (q, t24) =>
    chk (room (t_2.length + ([q] : (List G_api_Column)).length) 40) <|
    chk (inK .i64 (k - 1)) <|
    rec_ rows (k - 1) t24 t4 t4_1 t t_1 t4_2 (t_2 ++ ([q] : (List G_api_Column)))
  ) else (
    some (d, t4, t4_1, t, t_1, t4_2, t_2)
  )

def s_tablefinderkit_Table_l1 : Nat → Int → Int → G_tablefinderkit_Dice → Int → Str → Int → Str → (List G_api_Column) → (List G_api_Column) → Option (G_tablefinderkit_Dice × Int × Str × Int × Str × (List G_api_Column) × (List G_api_Column))
  | 0, _, _, _, _, _, _, _, _, _ => none
  | n_ + 1, rows, k, d, t4, t4_1, t, t_1, t4_2, t_2 => s_tablefinderkit_Table_l1_b (s_tablefinderkit_Table_l1 n_) rows k d t4 t4_1 t t_1 t4_2 t_2

def s_tablefinderkit_Table (d : G_tablefinderkit_Dice) (id : Int) : Option (G_api_Table × G_tablefinderkit_Dice) :=
  (s_tablefinderkit_Dice_Word d ([([116] : Str), ([111, 114, 100, 101, 114, 115] : Str), ([] : Str)] : (List Str))).bind fun (q, t9) =>
  (s_tablefinderkit_Dice_Next t9 7).bind fun (rows, t13) =>
  (s_tablefinderkit_Dice_Next t13 3).bind fun (q_1, t15) =>
  chk (inK .i64 (1 + q_1)) <|
  (s_tablefinderkit_Table_l1 big rows (1 + q_1) t15 (0 : Int) ([] : Str) id q ([] : (List G_api_Column)) ([] : (List G_api_Column))).bind fun (x0, x1, x2, x3, x4, x5, x6) => s_tablefinderkit_Table_k1 x0 x1 x2 x3 x4 x5 x6

/-! ### tablefinder/tablefinderref02.Valid -/

def s_tablefinderref02_Valid (s : Str) : Option Bool :=
  (s_unicode_utf8_ValidString s).bind fun q =>
  some q

/-! ### tablefinder/tablefinderref03.name -/

def s_tablefinderref03_name_j1 (t2 : Bool) : Option Bool :=
  some t2

def s_tablefinderref03_name (s : Str) : Option Bool :=
  (s_tablefinderref02_Valid s).bind fun q =>
  bif q then (
    s_tablefinderref03_name_j1 (decide ((s.length : Int) ≤ 1024))
  ) else (
    s_tablefinderref03_name_j1 false
  )

/-! ### tablefinder/tablefinderref03.ValidCell -/

def s_tablefinderref03_ValidCell_j1 (t2 : Bool) : Option Bool :=
  some t2

def s_tablefinderref03_ValidCell (c : G_api_Cell) : Option Bool :=
  (s_tablefinderref02_Valid c.Text).bind fun q =>
  bif q then (
    bif (decide ((c.Text.length : Int) ≤ 1024)) then (
      bif (!c.Null) then (
        s_tablefinderref03_ValidCell_j1 true
      ) else (
        s_tablefinderref03_ValidCell_j1 (c.Text == ([] : Str))
      )
    ) else (
      s_tablefinderref03_ValidCell_j1 false
    )
  ) else (
    s_tablefinderref03_ValidCell_j1 false
  )

/-! ### tablefinder/tablefinderref03.Valid -/

def s_tablefinderref03_Valid_k4  : Option Bool :=
  some true

def s_tablefinderref03_Valid_k3 (rec_ : (List G_api_Column) → Int → Int → G_api_Table → Option (Out Unit Bool)) (t28 : (List G_api_Column)) (t29 : Int) (t30 : Int) (t : G_api_Table) : Option (Out Unit Bool) :=
  chk (inK .i64 (t30 + 1)) <|
  rec_ t28 t29 (t30 + 1) t

def s_tablefinderref03_Valid_l2_b (rec_ : (List G_api_Column) → Int → Int → (List G_api_Cell) → Int → Int → G_api_Table → Option (Out ((List G_api_Column) × Int × Int × G_api_Table) Bool)) (t28 : (List G_api_Column)) (t29 : Int) (t30 : Int) (t57 : (List G_api_Cell)) (t58 : Int) (t59 : Int) (t : G_api_Table) : Option (Out ((List G_api_Column) × Int × Int × G_api_Table) Bool) :=
  bif (decide (t59 < t58)) then (
    (idx t57 t59).bind fun x_ =>
    (s_tablefinderref03_ValidCell x_).bind fun q =>
    bif (!q) then (
      some (.ret false)
    ) else (
      chk (inK .i64 (t59 + 1)) <|
      rec_ t28 t29 t30 t57 t58 (t59 + 1) t
    )
  ) else (
    some (.brk (t28, t29, t30, t))
  )

def s_tablefinderref03_Valid_l2 : Nat → (List G_api_Column) → Int → Int → (List G_api_Cell) → Int → Int → G_api_Table → Option (Out ((List G_api_Column) × Int × Int × G_api_Table) Bool)
  | 0, _, _, _, _, _, _, _ => none
  | n_ + 1, t28, t29, t30, t57, t58, t59, t => s_tablefinderref03_Valid_l2_b (s_tablefinderref03_Valid_l2 n_) t28 t29 t30 t57 t58 t59 t

def s_tablefinderref03_Valid_j2 (rec_ : (List G_api_Column) → Int → Int → G_api_Table → Option (Out Unit Bool)) (t28 : (List G_api_Column)) (t29 : Int) (t30 : Int) (t55 : Bool) (t : G_api_Table) (c : G_api_Column) : Option (Out Unit Bool) :=
  bif t55 then (
    some (.ret false)
  ) else (
    (s_tablefinderref03_Valid_l2 big t28 t29 t30 c.Cells (c.Cells.length : Int) (0 : Int) t).bind fun
      | .ret q_ => some (.ret q_)
      | .brk (x0, x1, x2, x3) => s_tablefinderref03_Valid_k3 rec_ x0 x1 x2 x3
  )

def s_tablefinderref03_Valid_l1_b (rec_ : (List G_api_Column) → Int → Int → G_api_Table → Option (Out Unit Bool)) (t28 : (List G_api_Column)) (t29 : Int) (t30 : Int) (t : G_api_Table) : Option (Out Unit Bool) :=
  bif (decide (t30 < t29)) then (
    (idx t28 t30).bind fun c =>
    (s_tablefinderref03_name c.Name).bind fun q =>
    bif (!q) then (
      s_tablefinderref03_Valid_j2 rec_ t28 t29 t30 true t c
    ) else (
      bif (decide ((c.Cells.length : Int) > 4096)) then (
        s_tablefinderref03_Valid_j2 rec_ t28 t29 t30 true t c
      ) else (
        (idx t.Columns 0).bind fun Column =>
        s_tablefinderref03_Valid_j2 rec_ t28 t29 t30 ((c.Cells.length : Int) != (Column.Cells.length : Int)) t c
      )
    )
  ) else (
    some (.brk ())
  )

def s_tablefinderref03_Valid_l1 : Nat → (List G_api_Column) → Int → Int → G_api_Table → Option (Out Unit Bool)
  | 0, _, _, _, _ => none
  | n_ + 1, t28, t29, t30, t => s_tablefinderref03_Valid_l1_b (s_tablefinderref03_Valid_l1 n_) t28 t29 t30 t

def s_tablefinderref03_Valid_j1 (t26 : Bool) (t : G_api_Table) : Option Bool :=
  bif t26 then (
    some false
  ) else (
    (s_tablefinderref03_Valid_l1 big t.Columns (t.Columns.length : Int) (0 : Int) t).bind fun
      | .ret q_ => some q_
      | .brk () => s_tablefinderref03_Valid_k4
  )

def s_tablefinderref03_Valid (t : G_api_Table) : Option Bool :=
  bif (decide (t.ID < 0)) then (
    s_tablefinderref03_Valid_j1 true t
  ) else (
    bif (decide (t.ID > 1073741824)) then (
      s_tablefinderref03_Valid_j1 true t
    ) else (
      (s_tablefinderref03_name t.Name).bind fun q =>
      bif (!q) then (
        s_tablefinderref03_Valid_j1 true t
      ) else (
        s_tablefinderref03_Valid_j1 (decide ((t.Columns.length : Int) > 64)) t
      )
    )
  )

/-! ### tablefinder/tablefinderref29.counts -/

def s_tablefinderref29_counts_k2 (out : (List (Str × Int))) : Option (List (Str × Int)) :=
  some out

def s_tablefinderref29_counts_j1 (rec_ : (List G_api_Cell) → Int → Int → (List (Str × Int)) → Option (List (Str × Int))) (t8 : (List G_api_Cell)) (t9 : Int) (t10 : Int) (out : (List (Str × Int))) : Option (List (Str × Int)) :=
  chk (inK .i64 (t10 + 1)) <|
  rec_ t8 t9 (t10 + 1) out

def s_tablefinderref29_counts_l1_b (rec_ : (List G_api_Cell) → Int → Int → (List (Str × Int)) → Option (List (Str × Int))) (t8 : (List G_api_Cell)) (t9 : Int) (t10 : Int) (out : (List (Str × Int))) : Option (List (Str × Int)) :=
  bif (decide (t10 < t9)) then (
    (idx t8 t10).bind fun x_ =>
    bif (!x_.Null) then (
      chk (inK .i64 (((lookB (k := .str) (v := (.int .i64)) (car := carU) out x_.Text).getD (0 : Int)) + 1)) <|
      s_tablefinderref29_counts_j1 rec_ t8 t9 t10 (setB (k := .str) (v := (.int .i64)) (car := carU) out x_.Text (((lookB (k := .str) (v := (.int .i64)) (car := carU) out x_.Text).getD (0 : Int)) + 1))
    ) else (
      s_tablefinderref29_counts_j1 rec_ t8 t9 t10 out
    )
  ) else (
    some out
  )

def s_tablefinderref29_counts_l1 : Nat → (List G_api_Cell) → Int → Int → (List (Str × Int)) → Option (List (Str × Int))
  | 0, _, _, _, _ => none
  | n_ + 1, t8, t9, t10, out => s_tablefinderref29_counts_l1_b (s_tablefinderref29_counts_l1 n_) t8 t9 t10 out

def s_tablefinderref29_counts (c : G_api_Column) : Option (List (Str × Int)) :=
  (s_tablefinderref29_counts_l1 big c.Cells (c.Cells.length : Int) (0 : Int) ([] : (List (Str × Int)))).bind fun x0 => s_tablefinderref29_counts_k2 x0

/-! ### tablefinder/tablefinderref03.Rows -/

def s_tablefinderref03_Rows (t : G_api_Table) : Option Int :=
  bif ((t.Columns.length : Int) == 0) then (
    some (0 : Int)
  ) else (
    (idx t.Columns 0).bind fun Column =>
    some (Column.Cells.length : Int)
  )

/-! ### tablefinder/tablefinderref29.Of -/

def s_tablefinderref29_Of_k3 (t8 : G_api_Relation) (y : (List (Str × Int))) (r_ : G_api_Relation) : Option (G_api_Relation × Int) :=
  chk (decide (y.length ≤ maxInt)) <|
  chk (inK .i64 ((y.length : Int) - r_.Common)) <|
  some ((G_api_Relation.mk r_.A r_.B r_.Common r_.OnlyA ((y.length : Int) - r_.Common) r_.MostA r_.MostB r_.LostA r_.LostB), 0)

def s_tablefinderref29_Of_l1_b (rec_ : G_api_Relation → (List (Str × Int)) → G_api_Relation → (List (Str × Int)) → (Option (Str × Int)) → Option (G_api_Relation × (List (Str × Int)) × G_api_Relation)) (t8 : G_api_Relation) (y : (List (Str × Int))) (r_ : G_api_Relation) (t74 : (List (Str × Int))) (t74_at : (Option (Str × Int))) : Option (G_api_Relation × (List (Str × Int)) × G_api_Relation) :=
  bif List.isEmpty t74 then (
    some (t8, y, r_)
  ) else pickAll t74 fun q rest => (
    bif (((lookB (k := .str) (v := (.int .i64)) (car := carU) y q.1).getD (0 : Int)) == 0) then (
      chk (inK .i64 (r_.OnlyA + 1)) <|
      rec_ t8 y (G_api_Relation.mk r_.A r_.B r_.Common (r_.OnlyA + 1) r_.OnlyB r_.MostA r_.MostB r_.LostA r_.LostB) rest (some (q.1, q.2))
    ) else (
      chk (inK .i64 (r_.Common + 1)) <|
      chk (inK .i64 (r_.LostA - q.2)) <|
      chk (inK .i64 (r_.LostB - ((lookB (k := .str) (v := (.int .i64)) (car := carU) y q.1).getD (0 : Int)))) <|
      rec_ t8 y (G_api_Relation.mk r_.A r_.B (r_.Common + 1) r_.OnlyA r_.OnlyB (if q.2 > r_.MostA then q.2 else r_.MostA) (if ((lookB (k := .str) (v := (.int .i64)) (car := carU) y q.1).getD (0 : Int)) > r_.MostB then ((lookB (k := .str) (v := (.int .i64)) (car := carU) y q.1).getD (0 : Int)) else r_.MostB) (r_.LostA - q.2) (r_.LostB - ((lookB (k := .str) (v := (.int .i64)) (car := carU) y q.1).getD (0 : Int)))) rest (some (q.1, q.2))
    )
  )

def s_tablefinderref29_Of_l1 : Nat → G_api_Relation → (List (Str × Int)) → G_api_Relation → (List (Str × Int)) → (Option (Str × Int)) → Option (G_api_Relation × (List (Str × Int)) × G_api_Relation)
  | 0, _, _, _, _, _ => none
  | n_ + 1, t8, y, r_, t74, t74_at => s_tablefinderref29_Of_l1_b (s_tablefinderref29_Of_l1 n_) t8 y r_ t74 t74_at

def s_tablefinderref29_Of_j2 (i : Int) (j : Int) (t26 : Bool) (a : G_api_Table) (b : G_api_Table) (t8 : G_api_Relation) : Option (G_api_Relation × Int) :=
  bif t26 then (
    some ((G_api_Relation.mk (G_api_Ref.mk 0 0) (G_api_Ref.mk 0 0) 0 0 0 0 0 0 0), 2)
  ) else (
    (idx a.Columns i).bind fun Column =>
    (s_tablefinderref29_counts Column).bind fun x_ =>
    (idx b.Columns j).bind fun Column_1 =>
    (s_tablefinderref29_counts Column_1).bind fun y =>
    (s_tablefinderref03_Rows a).bind fun q =>
    (s_tablefinderref03_Rows b).bind fun q_1 =>
    (s_tablefinderref29_Of_l1 big t8 y (G_api_Relation.mk (G_api_Ref.mk a.ID i) (G_api_Ref.mk b.ID j) 0 0 0 0 0 q q_1) x_ (none : Option (Str × Int))).bind fun (x0, x1, x2) => s_tablefinderref29_Of_k3 x0 x1 x2
  )

def s_tablefinderref29_Of_j1 (i : Int) (j : Int) (t16 : Bool) (a : G_api_Table) (b : G_api_Table) (t8 : G_api_Relation) : Option (G_api_Relation × Int) :=
  bif t16 then (
    some ((G_api_Relation.mk (G_api_Ref.mk 0 0) (G_api_Ref.mk 0 0) 0 0 0 0 0 0 0), 1)
  ) else (
    bif (decide (i < 0)) then (
      s_tablefinderref29_Of_j2 i j true a b t8
    ) else (
      bif (decide (i ≥ (a.Columns.length : Int))) then (
        s_tablefinderref29_Of_j2 i j true a b t8
      ) else (
        bif (decide (j < 0)) then (
          s_tablefinderref29_Of_j2 i j true a b t8
        ) else (
          s_tablefinderref29_Of_j2 i j (decide (j ≥ (b.Columns.length : Int))) a b t8
        )
      )
    )
  )

def s_tablefinderref29_Of (a : G_api_Table) (i : Int) (b : G_api_Table) (j : Int) : Option (G_api_Relation × Int) :=
  (s_tablefinderref03_Valid a).bind fun q =>
  bif (!q) then (
    s_tablefinderref29_Of_j1 i j true a b (G_api_Relation.mk (G_api_Ref.mk 0 0) (G_api_Ref.mk 0 0) 0 0 0 0 0 0 0)
  ) else (
    (s_tablefinderref03_Valid b).bind fun q_1 =>
    s_tablefinderref29_Of_j1 i j (!q_1) a b (G_api_Relation.mk (G_api_Ref.mk 0 0) (G_api_Ref.mk 0 0) 0 0 0 0 0 0 0)
  )

/-! ### tablefinder/tablefinderlaw29.RelationOf -/

def s_tablefinderlaw29_RelationOf_k4  : Option Bool :=
  (s_tablefinderlaw29_awake).bind fun q =>
  some q

def s_tablefinderlaw29_RelationOf_k3 (rec_ : Int → Int → Int → Int → (List G_arr2_G_api_Table) → Option (Out Unit Bool)) (i : Int) (j : Int) (t55 : Int) (t56 : Int) (t54 : (List G_arr2_G_api_Table)) : Option (Out Unit Bool) :=
  chk (inK .i64 (t56 + 1)) <|
  rec_ i j t55 (t56 + 1) t54

def s_tablefinderlaw29_RelationOf_j2 (rec_ : Int → Int → Int → Int → Int → Int → G_arr2_G_api_Table → (List G_arr2_G_api_Table) → (List G_arr2_Int) → Option (Out (Int × Int × Int × Int × (List G_arr2_G_api_Table)) Bool)) (i : Int) (j : Int) (t55 : Int) (t56 : Int) (t85 : Int) (t86 : Int) (t121 : Bool) (p : G_arr2_G_api_Table) (t54 : (List G_arr2_G_api_Table)) (t84 : (List G_arr2_Int)) : Option (Out (Int × Int × Int × Int × (List G_arr2_G_api_Table)) Bool) :=
  bif t121 then (
    some (.ret false)
  ) else (
    chk (inK .i64 (t86 + 1)) <|
    rec_ i j t55 t56 t85 (t86 + 1) p t54 t84
  )

def s_tablefinderlaw29_RelationOf_l2_b (rec_ : Int → Int → Int → Int → Int → Int → G_arr2_G_api_Table → (List G_arr2_G_api_Table) → (List G_arr2_Int) → Option (Out (Int × Int × Int × Int × (List G_arr2_G_api_Table)) Bool)) (i : Int) (j : Int) (t55 : Int) (t56 : Int) (t85 : Int) (t86 : Int) (p : G_arr2_G_api_Table) (t54 : (List G_arr2_G_api_Table)) (t84 : (List G_arr2_Int)) : Option (Out (Int × Int × Int × Int × (List G_arr2_G_api_Table)) Bool) :=
  bif (decide (t86 < t85)) then (
    chk (inR t86 (t84.length : Int)) <|
    (t84[(t86).toNat]?).bind fun k =>
    chk (inR 0 2) <|
    chk (inR 0 2) <|
    chk (inR 1 2) <|
    chk (inR 1 2) <|
    (s_relation_Of p.e0 k.e0 p.e1 k.e1).bind fun (u, e) =>
    chk (inR 0 2) <|
    chk (inR 0 2) <|
    chk (inR 1 2) <|
    chk (inR 1 2) <|
    (s_tablefinderref29_Of p.e0 k.e0 p.e1 k.e1).bind fun (v_, f) =>
    bif (!(u.A.Table == v_.A.Table && (u.A.Column == v_.A.Column && (u.B.Table == v_.B.Table && (u.B.Column == v_.B.Column && (u.Common == v_.Common && (u.OnlyA == v_.OnlyA && (u.OnlyB == v_.OnlyB && (u.MostA == v_.MostA && (u.MostB == v_.MostB && (u.LostA == v_.LostA && (u.LostB == v_.LostB && true)))))))))))) then (
      s_tablefinderlaw29_RelationOf_j2 rec_ i j t55 t56 t85 t86 true p t54 t84
    ) else (
      s_tablefinderlaw29_RelationOf_j2 rec_ i j t55 t56 t85 t86 (e != f) p t54 t84
    )
  ) else (
    some (.brk (i, j, t55, t56, t54))
  )

def s_tablefinderlaw29_RelationOf_l2 : Nat → Int → Int → Int → Int → Int → Int → G_arr2_G_api_Table → (List G_arr2_G_api_Table) → (List G_arr2_Int) → Option (Out (Int × Int × Int × Int × (List G_arr2_G_api_Table)) Bool)
  | 0, _, _, _, _, _, _, _, _, _ => none
  | n_ + 1, i, j, t55, t56, t85, t86, p, t54, t84 => s_tablefinderlaw29_RelationOf_l2_b (s_tablefinderlaw29_RelationOf_l2 n_) i j t55 t56 t85 t86 p t54 t84

def s_tablefinderlaw29_RelationOf_l2_F (n : Nat) (s : (Int × Int × Int × Int × Int × Int × G_arr2_G_api_Table × (List G_arr2_G_api_Table) × (List G_arr2_Int))) : Option (Out (Int × Int × Int × Int × (List G_arr2_G_api_Table)) Bool) := s_tablefinderlaw29_RelationOf_l2 n s.1 s.2.1 s.2.2.1 s.2.2.2.1 s.2.2.2.2.1 s.2.2.2.2.2.1 s.2.2.2.2.2.2.1 s.2.2.2.2.2.2.2.1 s.2.2.2.2.2.2.2.2
def s_tablefinderlaw29_RelationOf_l2_B (rec_ : (Int × Int × Int × Int × Int × Int × G_arr2_G_api_Table × (List G_arr2_G_api_Table) × (List G_arr2_Int)) → Option (Out (Int × Int × Int × Int × (List G_arr2_G_api_Table)) Bool)) (s : (Int × Int × Int × Int × Int × Int × G_arr2_G_api_Table × (List G_arr2_G_api_Table) × (List G_arr2_Int))) : Option (Out (Int × Int × Int × Int × (List G_arr2_G_api_Table)) Bool) := s_tablefinderlaw29_RelationOf_l2_b (fun i j t55 t56 t85 t86 p t54 t84 => rec_ (i, j, t55, t56, t85, t86, p, t54, t84)) s.1 s.2.1 s.2.2.1 s.2.2.2.1 s.2.2.2.2.1 s.2.2.2.2.2.1 s.2.2.2.2.2.2.1 s.2.2.2.2.2.2.2.1 s.2.2.2.2.2.2.2.2
theorem s_tablefinderlaw29_RelationOf_l2_FB : ∀ n s, s_tablefinderlaw29_RelationOf_l2_F (n + 1) s = s_tablefinderlaw29_RelationOf_l2_B (s_tablefinderlaw29_RelationOf_l2_F n) s := fun _ _ => rfl

def s_tablefinderlaw29_RelationOf_l1_b (rec_ : Int → Int → Int → Int → (List G_arr2_G_api_Table) → Option (Out Unit Bool)) (i : Int) (j : Int) (t55 : Int) (t56 : Int) (t54 : (List G_arr2_G_api_Table)) : Option (Out Unit Bool) :=
  bif (decide (t56 < t55)) then (
    chk (inR t56 (t54.length : Int)) <|
    (t54[(t56).toNat]?).bind fun p =>
    (s_tablefinderkit_Mod i 4).bind fun q =>
    chk (inK .i64 (q - 1)) <|
    (s_tablefinderkit_Mod j 4).bind fun q_1 =>
    chk (inR 0 2) <|
    (s_tablefinderkit_Mod i (if (p.e0.Columns.length : Int) > (1 : Int) then (p.e0.Columns.length : Int) else (1 : Int))).bind fun q_2 =>
    chk (inR 1 2) <|
    (s_tablefinderkit_Mod j (if (p.e1.Columns.length : Int) > (1 : Int) then (p.e1.Columns.length : Int) else (1 : Int))).bind fun q_3 =>
    (s_tablefinderlaw29_RelationOf_l2 big i j t55 t56 (([(G_arr2_Int.mk i j), (G_arr2_Int.mk (q - 1) q_1), (G_arr2_Int.mk q_2 q_3)] : (List G_arr2_Int)).length : Int) (0 : Int) p t54 ([(G_arr2_Int.mk i j), (G_arr2_Int.mk (q - 1) q_1), (G_arr2_Int.mk q_2 q_3)] : (List G_arr2_Int))).bind fun
      | .ret q_ => some (.ret q_)
      | .brk (x0, x1, x2, x3, x4) => s_tablefinderlaw29_RelationOf_k3 rec_ x0 x1 x2 x3 x4
  ) else (
    some (.brk ())
  )

def s_tablefinderlaw29_RelationOf_l1 : Nat → Int → Int → Int → Int → (List G_arr2_G_api_Table) → Option (Out Unit Bool)
  | 0, _, _, _, _, _ => none
  | n_ + 1, i, j, t55, t56, t54 => s_tablefinderlaw29_RelationOf_l1_b (s_tablefinderlaw29_RelationOf_l1 n_) i j t55 t56 t54

def s_tablefinderlaw29_RelationOf_l1_F (n : Nat) (s : (Int × Int × Int × Int × (List G_arr2_G_api_Table))) : Option (Out Unit Bool) := s_tablefinderlaw29_RelationOf_l1 n s.1 s.2.1 s.2.2.1 s.2.2.2.1 s.2.2.2.2
def s_tablefinderlaw29_RelationOf_l1_B (rec_ : (Int × Int × Int × Int × (List G_arr2_G_api_Table)) → Option (Out Unit Bool)) (s : (Int × Int × Int × Int × (List G_arr2_G_api_Table))) : Option (Out Unit Bool) := s_tablefinderlaw29_RelationOf_l1_b (fun i j t55 t56 t54 => rec_ (i, j, t55, t56, t54)) s.1 s.2.1 s.2.2.1 s.2.2.2.1 s.2.2.2.2
theorem s_tablefinderlaw29_RelationOf_l1_FB : ∀ n s, s_tablefinderlaw29_RelationOf_l1_F (n + 1) s = s_tablefinderlaw29_RelationOf_l1_B (s_tablefinderlaw29_RelationOf_l1_F n) s := fun _ _ => rfl

def s_tablefinderlaw29_RelationOf_j1 (t : (List Int)) (i : Int) (j : Int) (t34 : Bool) (x_ : G_api_Table) (y : G_api_Table) : Option Bool :=
  bif t34 then (
    (s_tablefinderlaw29_awake).bind fun q =>
    some q
  ) else (
    (s_tablefinderkit_Roll t).bind fun d =>
    (s_tablefinderkit_Table d 1).bind fun (a, t38) =>
    (s_tablefinderkit_Table t38 2).bind fun (b, t40) =>
    (s_tablefinderlaw29_RelationOf_l1 big i j (([(G_arr2_G_api_Table.mk x_ y), (G_arr2_G_api_Table.mk a b), (G_arr2_G_api_Table.mk a x_), (G_arr2_G_api_Table.mk a a)] : (List G_arr2_G_api_Table)).length : Int) (0 : Int) ([(G_arr2_G_api_Table.mk x_ y), (G_arr2_G_api_Table.mk a b), (G_arr2_G_api_Table.mk a x_), (G_arr2_G_api_Table.mk a a)] : (List G_arr2_G_api_Table))).bind fun
      | .ret q_ => some q_
      | .brk () => s_tablefinderlaw29_RelationOf_k4
  )

def s_tablefinderlaw29_RelationOf (x_ : G_api_Table) (y : G_api_Table) (t : (List Int)) (i : Int) (j : Int) : Option Bool :=
  (s_tablefinderlaw29_small x_).bind fun q =>
  bif (!q) then (
    s_tablefinderlaw29_RelationOf_j1 t i j true x_ y
  ) else (
    (s_tablefinderlaw29_small y).bind fun q_1 =>
    bif (!q_1) then (
      s_tablefinderlaw29_RelationOf_j1 t i j true x_ y
    ) else (
      (s_tablefinderkit_Light t).bind fun q_2 =>
      s_tablefinderlaw29_RelationOf_j1 t i j (!q_2) x_ y
    )
  )

/-! ### tablefinder/tablefinderref29.Kind -/

def s_tablefinderref29_Kind_j1 (t7 : Bool) (r_ : G_api_Relation) : Option Int :=
  bif t7 then (
    some (1 : Int)
  ) else (
    bif (decide (r_.MostA ≤ 1)) then (
      some (2 : Int)
    ) else (
      bif (decide (r_.MostB ≤ 1)) then (
        some (3 : Int)
      ) else (
        some (4 : Int)
      )
    )
  )

def s_tablefinderref29_Kind (r_ : G_api_Relation) : Option Int :=
  bif (r_.Common == 0) then (
    some (0 : Int)
  ) else (
    bif (decide (r_.MostA ≤ 1)) then (
      s_tablefinderref29_Kind_j1 (decide (r_.MostB ≤ 1)) r_
    ) else (
      s_tablefinderref29_Kind_j1 false r_
    )
  )

/-! ### tablefinder/relation.Turn -/

def s_relation_Turn (r_ : G_api_Relation) : Option G_api_Relation :=
  some (G_api_Relation.mk r_.B r_.A r_.Common r_.OnlyB r_.OnlyA r_.MostB r_.MostA r_.LostB r_.LostA)

/-! ### tablefinder/tablefinderref29.Turn -/

def s_tablefinderref29_Turn (r_ : G_api_Relation) : Option G_api_Relation :=
  some (G_api_Relation.mk r_.B r_.A r_.Common r_.OnlyB r_.OnlyA r_.MostB r_.MostA r_.LostB r_.LostA)

/-! ### tablefinder/fraction.trimmed -/

def s_fraction_trimmed_k2 (w_ : (List Int)) : Option (List Int) :=
  some w_

def s_fraction_trimmed_j1 (rec_ : (List Int) → Option (List Int)) (w_ : (List Int)) (t14 : Bool) : Option (List Int) :=
  bif t14 then (
    chk (inK .i64 ((w_.length : Int) - 1)) <|
    chk (within 0 ((w_.length : Int) - 1) (w_.length : Int)) <|
    rec_ (w_.take (((w_.length : Int) - 1)).toNat)
  ) else (
    some w_
  )

def s_fraction_trimmed_l1_b (rec_ : (List Int) → Option (List Int)) (w_ : (List Int)) : Option (List Int) :=
  bif (decide ((w_.length : Int) > 0)) then (
    chk (inK .i64 ((w_.length : Int) - 1)) <|
    (idx w_ ((w_.length : Int) - 1)).bind fun w__e =>
    s_fraction_trimmed_j1 rec_ w_ (w__e == 0)
  ) else (
    s_fraction_trimmed_j1 rec_ w_ false
  )

def s_fraction_trimmed_l1 : Nat → (List Int) → Option (List Int)
  | 0, _ => none
  | n_ + 1, w_ => s_fraction_trimmed_l1_b (s_fraction_trimmed_l1 n_) w_

def s_fraction_trimmed (w_ : (List Int)) : Option (List Int) :=
  (s_fraction_trimmed_l1 big w_).bind fun x0 => s_fraction_trimmed_k2 x0

/-! ### tablefinder/fraction.natural -/

def s_fraction_natural (n : Int) : Option (List Int) :=
  chk (decide (0 ≤ (32 : Int))) <|
  (s_fraction_trimmed ([(IntKind.wrap .u32 n), (IntKind.wrap .u32 (shrK .u64 n 32))] : (List Int))).bind fun q =>
  some q

/-! ### tablefinder/fraction.signed -/

def s_fraction_signed_j1 (t4 : Bool) (t4_1 : (List Int)) : Option G_api_Big :=
  some (G_api_Big.mk t4 t4_1)

def s_fraction_signed (neg : Bool) (w_ : (List Int)) : Option G_api_Big :=
  bif neg then (
    chk (room w_.length 4) <|
    s_fraction_signed_j1 (decide ((w_.length : Int) > 0)) w_
  ) else (
    chk (room w_.length 4) <|
    s_fraction_signed_j1 false w_
  )

/-! ### tablefinder/fraction.FromInt -/

def s_fraction_FromInt (n : Int) : Option G_api_Big :=
  bif (decide (n < 0)) then (
    (s_fraction_natural (IntKind.wrap .u64 (0 - (IntKind.wrap .u64 n)))).bind fun q =>
    (s_fraction_signed true q).bind fun q_1 =>
    some q_1
  ) else (
    (s_fraction_natural (IntKind.wrap .u64 n)).bind fun q_2 =>
    (s_fraction_signed false q_2).bind fun q_3 =>
    some q_3
  )

/-! ### tablefinder/fraction.ValidBig -/

def s_fraction_ValidBig_j1 (t2 : Bool) : Option Bool :=
  some t2

def s_fraction_ValidBig (a : G_api_Big) : Option Bool :=
  bif (decide ((a.Words.length : Int) ≤ 256)) then (
    bif ((a.Words.length : Int) == 0) then (
      bif (!a.Neg) then (
        s_fraction_ValidBig_j1 true
      ) else (
        bif (decide ((a.Words.length : Int) > 0)) then (
          chk (inK .i64 ((a.Words.length : Int) - 1)) <|
          (idx a.Words ((a.Words.length : Int) - 1)).bind fun Word =>
          s_fraction_ValidBig_j1 (Word != 0)
        ) else (
          s_fraction_ValidBig_j1 false
        )
      )
    ) else (
      bif (decide ((a.Words.length : Int) > 0)) then (
        chk (inK .i64 ((a.Words.length : Int) - 1)) <|
        (idx a.Words ((a.Words.length : Int) - 1)).bind fun Word_1 =>
        s_fraction_ValidBig_j1 (Word_1 != 0)
      ) else (
        s_fraction_ValidBig_j1 false
      )
    )
  ) else (
    s_fraction_ValidBig_j1 false
  )

/-! ### tablefinder/fraction.bigs -/

def s_fraction_bigs_k1  : Option Bool :=
  some true

def s_fraction_bigs_l1_b (rec_ : (List G_api_Big) → Int → Int → Option (Out Unit Bool)) (t5 : (List G_api_Big)) (t6 : Int) (t7 : Int) : Option (Out Unit Bool) :=
  bif (decide (t7 < t6)) then (
    (idx t5 t7).bind fun a =>
    (s_fraction_ValidBig a).bind fun q =>
    bif (!q) then (
      some (.ret false)
    ) else (
      chk (inK .i64 (t7 + 1)) <|
      rec_ t5 t6 (t7 + 1)
    )
  ) else (
    some (.brk ())
  )

def s_fraction_bigs_l1 : Nat → (List G_api_Big) → Int → Int → Option (Out Unit Bool)
  | 0, _, _, _ => none
  | n_ + 1, t5, t6, t7 => s_fraction_bigs_l1_b (s_fraction_bigs_l1 n_) t5 t6 t7

def s_fraction_bigs (l : (List G_api_Big)) : Option Bool :=
  (s_fraction_bigs_l1 big l (l.length : Int) (0 : Int)).bind fun
    | .ret q_ => some q_
    | .brk () => s_fraction_bigs_k1

/-! ### cmp.isNaN[int] -/

def s_cmp_isNaN_int (x_ : Int) : Option Bool :=
  some (x_ != x_)

/-! ### cmp.Compare[int] -/

def s_cmp_Compare_int (x_ : Int) (y : Int) : Option Int :=
  (s_cmp_isNaN_int x_).bind fun xNaN =>
  (s_cmp_isNaN_int y).bind fun yNaN =>
  bif xNaN then (
    bif yNaN then (
      some (0 : Int)
    ) else (
      some (-1 : Int)
    )
  ) else (
    bif yNaN then (
      some (1 : Int)
    ) else (
      bif (decide (x_ < y)) then (
        some (-1 : Int)
      ) else (
        bif (decide (x_ > y)) then (
          some (1 : Int)
        ) else (
          some (0 : Int)
        )
      )
    )
  )

/-! ### cmp.isNaN[uint32] -/

def s_cmp_isNaN_uint32 (x_ : Int) : Option Bool :=
  some (x_ != x_)

/-! ### cmp.Compare[uint32] -/

def s_cmp_Compare_uint32 (x_ : Int) (y : Int) : Option Int :=
  (s_cmp_isNaN_uint32 x_).bind fun xNaN =>
  (s_cmp_isNaN_uint32 y).bind fun yNaN =>
  bif xNaN then (
    bif yNaN then (
      some (0 : Int)
    ) else (
      some (-1 : Int)
    )
  ) else (
    bif yNaN then (
      some (1 : Int)
    ) else (
      bif (decide (x_ < y)) then (
        some (-1 : Int)
      ) else (
        bif (decide (x_ > y)) then (
          some (1 : Int)
        ) else (
          some (0 : Int)
        )
      )
    )
  )

/-! ### (tablefinder/fraction.words).compare -/

def s_fraction_words_compare_k1  : Option Int :=
  some (0 : Int)

def s_fraction_words_compare_l1_b (rec_ : (List Int) → (List Int) → Int → Option (Out Unit Int)) (w_ : (List Int)) (v_ : (List Int)) (i : Int) : Option (Out Unit Int) :=
  bif (decide (i ≥ 0)) then (
    (idx w_ i).bind fun w__e =>
    (idx v_ i).bind fun v__e =>
    (s_cmp_Compare_uint32 w__e v__e).bind fun c =>
    bif (c != 0) then (
      some (.ret c)
    ) else (
      chk (inK .i64 (i - 1)) <|
      rec_ w_ v_ (i - 1)
    )
  ) else (
    some (.brk ())
  )

def s_fraction_words_compare_l1 : Nat → (List Int) → (List Int) → Int → Option (Out Unit Int)
  | 0, _, _, _ => none
  | n_ + 1, w_, v_, i => s_fraction_words_compare_l1_b (s_fraction_words_compare_l1 n_) w_ v_ i

def s_fraction_words_compare (w_ : (List Int)) (v_ : (List Int)) : Option Int :=
  (s_cmp_Compare_int (w_.length : Int) (v_.length : Int)).bind fun c =>
  bif (c != 0) then (
    some c
  ) else (
    chk (inK .i64 ((w_.length : Int) - 1)) <|
    (s_fraction_words_compare_l1 big w_ v_ ((w_.length : Int) - 1)).bind fun
      | .ret q_ => some q_
      | .brk () => s_fraction_words_compare_k1
  )

/-! ### slices.Clone[tablefinder/fraction.words,uint32] -/

def s_slices_Clone_fraction_words_uint32_j1 (s : (List Int)) (t4 : Bool) : Option (List Int) :=
  bif t4 then (
    some ([] : (List Int))
  ) else (
    chk (room (([] : (List Int)).length + s.length) 4) <|
    some (([] : (List Int)) ++ s)
  )

def s_slices_Clone_fraction_words_uint32 (s : (List Int)) : Option (List Int) :=
  bif (List.isEmpty s) then agree (
    s_slices_Clone_fraction_words_uint32_j1 s true
  ) (
    s_slices_Clone_fraction_words_uint32_j1 s false
  ) else (
    s_slices_Clone_fraction_words_uint32_j1 s false
  )

/-! ### math/bits.Div32 -/

def s_math_bits_Div32_j1 (hi : Int) (lo : Int) (y : Int) (t15 : Bool) : Option (Int × Int) :=
  bif t15 then (
    none
  ) else (
    chk (decide (0 ≤ (32 : Int))) <|
    chk (decide ((IntKind.wrap .u64 y) ≠ 0)) <|
    chk (decide ((IntKind.wrap .u64 y) ≠ 0)) <|
    some ((IntKind.wrap .u32 (IntKind.wrap .u64 (Int.tdiv (orK .u64 (shlK .u64 (IntKind.wrap .u64 hi) 32) (IntKind.wrap .u64 lo)) (IntKind.wrap .u64 y)))), (IntKind.wrap .u32 (Int.tmod (orK .u64 (shlK .u64 (IntKind.wrap .u64 hi) 32) (IntKind.wrap .u64 lo)) (IntKind.wrap .u64 y))))
  )

def s_math_bits_Div32 (hi : Int) (lo : Int) (y : Int) : Option (Int × Int) :=
  bif (y != 0) then (
    s_math_bits_Div32_j1 hi lo y (decide (y ≤ hi))
  ) else (
    s_math_bits_Div32_j1 hi lo y false
  )

/-! ### (tablefinder/fraction.words).short -/

def s_fraction_words_short_k1 (rest : Int) (out : (List Int)) : Option ((List Int) × Int) :=
  (s_fraction_trimmed out).bind fun q =>
  some (q, rest)

def s_fraction_words_short_l1_b (rec_ : (List Int) → Int → Int → Int → (List Int) → Option (Int × (List Int))) (w_ : (List Int)) (d : Int) (rest : Int) (i : Int) (out : (List Int)) : Option (Int × (List Int)) :=
  bif (decide (i ≥ 0)) then (
    (idx w_ i).bind fun w__e =>
    (s_math_bits_Div32 rest w__e d).bind fun (q, rest_1) =>
    chk (inR i (out.length : Int)) <|
    chk (inK .i64 (i - 1)) <|
    rec_ w_ d rest_1 (i - 1) (out.set ((i).toNat) q)
  ) else (
    some (rest, out)
  )

def s_fraction_words_short_l1 : Nat → (List Int) → Int → Int → Int → (List Int) → Option (Int × (List Int))
  | 0, _, _, _, _, _ => none
  | n_ + 1, w_, d, rest, i, out => s_fraction_words_short_l1_b (s_fraction_words_short_l1 n_) w_ d rest i out

def s_fraction_words_short (w_ : (List Int)) (d : Int) : Option ((List Int) × Int) :=
  chk (mkOk (w_.length : Int) (w_.length : Int) 4) <|
  chk (inK .i64 ((w_.length : Int) - 1)) <|
  (s_fraction_words_short_l1 big w_ d (0 : Int) ((w_.length : Int) - 1) (List.replicate ((w_.length : Int)).toNat (0 : Int))).bind fun (x0, x1) => s_fraction_words_short_k1 x0 x1

/-! ### math/bits.Len32 -/

def s_math_bits_Len32_j2 (x_ : Int) (n : Int) : Option Int :=
  (idx ([0, 1, 2, 2, 3, 3, 3, 3, 4, 4, 4, 4, 4, 4, 4, 4, 5, 5, 5, 5, 5, 5, 5, 5, 5, 5, 5, 5, 5, 5, 5, 5, 6, 6, 6, 6, 6, 6, 6, 6, 6, 6, 6, 6, 6, 6, 6, 6, 6, 6, 6, 6, 6, 6, 6, 6, 6, 6, 6, 6, 6, 6, 6, 6, 7, 7, 7, 7, 7, 7, 7, 7, 7, 7, 7, 7, 7, 7, 7, 7, 7, 7, 7, 7, 7, 7, 7, 7, 7, 7, 7, 7, 7, 7, 7, 7, 7, 7, 7, 7, 7, 7, 7, 7, 7, 7, 7, 7, 7, 7, 7, 7, 7, 7, 7, 7, 7, 7, 7, 7, 7, 7, 7, 7, 7, 7, 7, 7, 8, 8, 8, 8, 8, 8, 8, 8, 8, 8, 8, 8, 8, 8, 8, 8, 8, 8, 8, 8, 8, 8, 8, 8, 8, 8, 8, 8, 8, 8, 8, 8, 8, 8, 8, 8, 8, 8, 8, 8, 8, 8, 8, 8, 8, 8, 8, 8, 8, 8, 8, 8, 8, 8, 8, 8, 8, 8, 8, 8, 8, 8, 8, 8, 8, 8, 8, 8, 8, 8, 8, 8, 8, 8, 8, 8, 8, 8, 8, 8, 8, 8, 8, 8, 8, 8, 8, 8, 8, 8, 8, 8, 8, 8, 8, 8, 8, 8, 8, 8, 8, 8, 8, 8, 8, 8, 8, 8, 8, 8, 8, 8, 8, 8, 8, 8, 8, 8, 8, 8, 8, 8, 8, 8, 8, 8, 8, 8] : Str) (IntKind.wrap .u8 x_)).bind fun c =>
  chk (inK .i64 (n + (IntKind.wrap .i64 ((c.toNat : Nat) : Int)))) <|
  some (n + (IntKind.wrap .i64 ((c.toNat : Nat) : Int)))

def s_math_bits_Len32_j1 (x_ : Int) (n : Int) : Option Int :=
  bif (decide (x_ ≥ 256)) then (
    chk (decide (0 ≤ (8 : Int))) <|
    chk (inK .i64 (n + 8)) <|
    s_math_bits_Len32_j2 (shrK .u32 x_ 8) (n + 8)
  ) else (
    s_math_bits_Len32_j2 x_ n
  )

def s_math_bits_Len32 (x_ : Int) : Option Int :=
  bif (decide (x_ ≥ 65536)) then (
    chk (decide (0 ≤ (16 : Int))) <|
    s_math_bits_Len32_j1 (shrK .u32 x_ 16) (16 : Int)
  ) else (
    s_math_bits_Len32_j1 x_ (0 : Int)
  )

/-! ### math/bits.LeadingZeros32 -/

def s_math_bits_LeadingZeros32 (x_ : Int) : Option Int :=
  (s_math_bits_Len32 x_).bind fun q =>
  chk (inK .i64 (32 - q)) <|
  some (32 - q)

/-! ### (tablefinder/fraction.words).shifted -/

def s_fraction_words_shifted_k1 (out : (List Int)) : Option (List Int) :=
  some out

def s_fraction_words_shifted_l1_b (rec_ : Int → (List Int) → Int → Int → (List Int) → Option (List Int)) (n : Int) (t13 : (List Int)) (t14 : Int) (i : Int) (out : (List Int)) : Option (List Int) :=
  bif (decide (i < t14)) then (
    (idx t13 i).bind fun d =>
    chk (decide (0 ≤ n)) <|
    chk (inR i (out.length : Int)) <|
    (out[(i).toNat]?).bind fun out_e =>
    chk (inR i (out.length : Int)) <|
    chk (inK .i64 (i + 1)) <|
    chk (decide (0 ≤ (32 : Int))) <|
    chk (inR (i + 1) ((out.set ((i).toNat) (orK .u32 out_e (IntKind.wrap .u32 (shlK .u64 (IntKind.wrap .u64 d) n)))).length : Int)) <|
    chk (inK .i64 (i + 1)) <|
    rec_ n t13 t14 (i + 1) ((out.set ((i).toNat) (orK .u32 out_e (IntKind.wrap .u32 (shlK .u64 (IntKind.wrap .u64 d) n)))).set (((i + 1)).toNat) (IntKind.wrap .u32 (shrK .u64 (shlK .u64 (IntKind.wrap .u64 d) n) 32)))
  ) else (
    some out
  )

def s_fraction_words_shifted_l1 : Nat → Int → (List Int) → Int → Int → (List Int) → Option (List Int)
  | 0, _, _, _, _, _ => none
  | n_ + 1, n, t13, t14, i, out => s_fraction_words_shifted_l1_b (s_fraction_words_shifted_l1 n_) n t13 t14 i out

def s_fraction_words_shifted (w_ : (List Int)) (n : Int) : Option (List Int) :=
  chk (inK .i64 ((w_.length : Int) + 1)) <|
  chk (mkOk ((w_.length : Int) + 1) ((w_.length : Int) + 1) 4) <|
  (s_fraction_words_shifted_l1 big n w_ (w_.length : Int) (0 : Int) (List.replicate (((w_.length : Int) + 1)).toNat (0 : Int))).bind fun x0 => s_fraction_words_shifted_k1 x0

/-! ### math/bits.Sub32 -/

def s_math_bits_Sub32 (x_ : Int) (y : Int) (borrow : Int) : Option (Int × Int) :=
  chk (decide (0 ≤ (31 : Int))) <|
  some ((IntKind.wrap .u32 ((IntKind.wrap .u32 (x_ - y)) - borrow)), (shrK .u32 (orK .u32 (andK .u32 (xorK .u32 (if IntKind.signed .u32 then -1 else IntKind.max .u32) x_) y) (andK .u32 (xorK .u32 (if IntKind.signed .u32 then -1 else IntKind.max .u32) (xorK .u32 x_ y)) (IntKind.wrap .u32 ((IntKind.wrap .u32 (x_ - y)) - borrow)))) 31))

/-! ### math/bits.Add32 -/

def s_math_bits_Add32 (x_ : Int) (y : Int) (carry : Int) : Option (Int × Int) :=
  chk (decide (0 ≤ (32 : Int))) <|
  some ((IntKind.wrap .u32 (IntKind.wrap .u64 ((IntKind.wrap .u64 ((IntKind.wrap .u64 x_) + (IntKind.wrap .u64 y))) + (IntKind.wrap .u64 carry)))), (IntKind.wrap .u32 (shrK .u64 (IntKind.wrap .u64 ((IntKind.wrap .u64 ((IntKind.wrap .u64 x_) + (IntKind.wrap .u64 y))) + (IntKind.wrap .u64 carry))) 32)))

/-! ### tablefinder/fraction.digit -/

def s_fraction_digit_k4 (u_off : Nat) (u_len : Nat) (n : Int) (guess : Int) (add : Int) (u : (List Int)) : Option (Int × (List Int)) :=
  chk (inR n (u_len : Int)) <|
  (u[(u_off + (n).toNat)]?).bind fun u_e =>
  chk (inR n (u_len : Int)) <|
  some ((IntKind.wrap .u32 (IntKind.wrap .u64 (guess - 1))), (u.set (u_off + (n).toNat) (IntKind.wrap .u32 (u_e + add))))

def s_fraction_digit_l3_b (rec_ : Nat → Nat → Int → Int → Int → (List Int) → Int → Int → (List Int) → Option (Nat × Nat × Int × Int × Int × (List Int))) (u_off : Nat) (u_len : Nat) (n : Int) (guess : Int) (add : Int) (t130 : (List Int)) (t131 : Int) (i : Int) (u : (List Int)) : Option (Nat × Nat × Int × Int × Int × (List Int)) :=
  bif (decide (i < t131)) then (
    (idx t130 i).bind fun x_ =>
    chk (inR i (u_len : Int)) <|
    (u[(u_off + (i).toNat)]?).bind fun u_e =>
    (s_math_bits_Add32 u_e x_ add).bind fun (q, add_1) =>
    chk (inR i (u_len : Int)) <|
    chk (inK .i64 (i + 1)) <|
    rec_ u_off u_len n guess add_1 t130 t131 (i + 1) (u.set (u_off + (i).toNat) q)
  ) else (
    some (u_off, u_len, n, guess, add, u)
  )

def s_fraction_digit_l3 : Nat → Nat → Nat → Int → Int → Int → (List Int) → Int → Int → (List Int) → Option (Nat × Nat × Int × Int × Int × (List Int))
  | 0, _, _, _, _, _, _, _, _, _ => none
  | n_ + 1, u_off, u_len, n, guess, add, t130, t131, i, u => s_fraction_digit_l3_b (s_fraction_digit_l3 n_) u_off u_len n guess add t130 t131 i u

def s_fraction_digit_k3 (u_off : Nat) (u_len : Nat) (d : (List Int)) (n : Int) (guess : Int) (borrow : Int) (carry : Int) (u : (List Int)) : Option (Int × (List Int)) :=
  chk (inR n (u_len : Int)) <|
  (u[(u_off + (n).toNat)]?).bind fun u_e =>
  (s_math_bits_Sub32 u_e (IntKind.wrap .u32 carry) borrow).bind fun (q, borrow_1) =>
  chk (inR n (u_len : Int)) <|
  bif (borrow_1 == 0) then (
    some ((IntKind.wrap .u32 guess), (u.set (u_off + (n).toNat) q))
  ) else (
    (s_fraction_digit_l3 big u_off u_len n guess (0 : Int) d (d.length : Int) (0 : Int) (u.set (u_off + (n).toNat) q)).bind fun (x0, x1, x2, x3, x4, x5) => s_fraction_digit_k4 x0 x1 x2 x3 x4 x5
  )

def s_fraction_digit_l2_b (rec_ : Nat → Nat → (List Int) → Int → Int → Int → Int → (List Int) → Int → Int → (List Int) → Option (Nat × Nat × (List Int) × Int × Int × Int × Int × (List Int))) (u_off : Nat) (u_len : Nat) (d : (List Int)) (n : Int) (guess : Int) (borrow : Int) (carry : Int) (t82 : (List Int)) (t83 : Int) (i : Int) (u : (List Int)) : Option (Nat × Nat × (List Int) × Int × Int × Int × Int × (List Int)) :=
  bif (decide (i < t83)) then (
    (idx t82 i).bind fun x_ =>
    chk (inR i (u_len : Int)) <|
    (u[(u_off + (i).toNat)]?).bind fun u_e =>
    (s_math_bits_Sub32 u_e (IntKind.wrap .u32 (IntKind.wrap .u64 (carry + (IntKind.wrap .u64 (guess * (IntKind.wrap .u64 x_)))))) borrow).bind fun (q, borrow_1) =>
    chk (inR i (u_len : Int)) <|
    chk (decide (0 ≤ (32 : Int))) <|
    chk (inK .i64 (i + 1)) <|
    rec_ u_off u_len d n guess borrow_1 (shrK .u64 (IntKind.wrap .u64 (carry + (IntKind.wrap .u64 (guess * (IntKind.wrap .u64 x_))))) 32) t82 t83 (i + 1) (u.set (u_off + (i).toNat) q)
  ) else (
    some (u_off, u_len, d, n, guess, borrow, carry, u)
  )

def s_fraction_digit_l2 : Nat → Nat → Nat → (List Int) → Int → Int → Int → Int → (List Int) → Int → Int → (List Int) → Option (Nat × Nat × (List Int) × Int × Int × Int × Int × (List Int))
  | 0, _, _, _, _, _, _, _, _, _, _, _ => none
  | n_ + 1, u_off, u_len, d, n, guess, borrow, carry, t82, t83, i, u => s_fraction_digit_l2_b (s_fraction_digit_l2 n_) u_off u_len d n guess borrow carry t82 t83 i u

def s_fraction_digit_k2 (u_off : Nat) (u_len : Nat) (d : (List Int)) (n : Int) (guess : Int) (u : (List Int)) : Option (Int × (List Int)) :=
  (s_fraction_digit_l2 big u_off u_len d n guess (0 : Int) (0 : Int) d (d.length : Int) (0 : Int) u).bind fun (x0, x1, x2, x3, x4, x5, x6, x7) => s_fraction_digit_k3 x0 x1 x2 x3 x4 x5 x6 x7

def s_fraction_digit_j1 (rec_ : Nat → Nat → (List Int) → Int → Int → Int → (List Int) → Option (Nat × Nat × (List Int) × Int × Int × (List Int))) (u_off : Nat) (u_len : Nat) (d : (List Int)) (n : Int) (guess : Int) (rest : Int) (t71 : Bool) (u : (List Int)) : Option (Nat × Nat × (List Int) × Int × Int × (List Int)) :=
  bif t71 then (
    chk (inK .i64 (n - 1)) <|
    (idx d (n - 1)).bind fun d_e =>
    rec_ u_off u_len d n (IntKind.wrap .u64 (guess - 1)) (IntKind.wrap .u64 (rest + (IntKind.wrap .u64 d_e))) u
  ) else (
    some (u_off, u_len, d, n, guess, u)
  )

def s_fraction_digit_l1_b (rec_ : Nat → Nat → (List Int) → Int → Int → Int → (List Int) → Option (Nat × Nat × (List Int) × Int × Int × (List Int))) (u_off : Nat) (u_len : Nat) (d : (List Int)) (n : Int) (guess : Int) (rest : Int) (u : (List Int)) : Option (Nat × Nat × (List Int) × Int × Int × (List Int)) :=
  bif (decide (rest < 4294967296)) then (
    chk (inK .i64 (n - 2)) <|
    (idx d (n - 2)).bind fun d_e =>
    chk (decide (0 ≤ (32 : Int))) <|
    chk (inK .i64 (n - 2)) <|
    chk (inR (n - 2) (u_len : Int)) <|
    (u[(u_off + ((n - 2)).toNat)]?).bind fun u_e =>
    s_fraction_digit_j1 rec_ u_off u_len d n guess rest (decide ((IntKind.wrap .u64 (guess * (IntKind.wrap .u64 d_e))) > (orK .u64 (shlK .u64 rest 32) (IntKind.wrap .u64 u_e)))) u
  ) else (
    s_fraction_digit_j1 rec_ u_off u_len d n guess rest false u
  )

def s_fraction_digit_l1 : Nat → Nat → Nat → (List Int) → Int → Int → Int → (List Int) → Option (Nat × Nat × (List Int) × Int × Int × (List Int))
  | 0, _, _, _, _, _, _, _ => none
  | n_ + 1, u_off, u_len, d, n, guess, rest, u => s_fraction_digit_l1_b (s_fraction_digit_l1 n_) u_off u_len d n guess rest u

def s_fraction_digit (u : (List Int)) (u_off : Nat) (u_len : Nat) (d : (List Int)) : Option (Int × (List Int)) :=
  chk (inR (d.length : Int) (u_len : Int)) <|
  (u[(u_off + ((d.length : Int)).toNat)]?).bind fun u_e =>
  chk (decide (0 ≤ (32 : Int))) <|
  chk (inK .i64 ((d.length : Int) - 1)) <|
  chk (inR ((d.length : Int) - 1) (u_len : Int)) <|
  (u[(u_off + (((d.length : Int) - 1)).toNat)]?).bind fun u_e_1 =>
  chk (inK .i64 ((d.length : Int) - 1)) <|
  (idx d ((d.length : Int) - 1)).bind fun d_e =>
  chk (decide ((IntKind.wrap .u64 d_e) ≠ 0)) <|
  chk (inK .i64 ((d.length : Int) - 1)) <|
  (idx d ((d.length : Int) - 1)).bind fun d_e_1 =>
  (s_fraction_digit_l1 big u_off u_len d (d.length : Int) (if (4294967295 : Int) < (IntKind.wrap .u64 (Int.tdiv (orK .u64 (shlK .u64 (IntKind.wrap .u64 u_e) 32) (IntKind.wrap .u64 u_e_1)) (IntKind.wrap .u64 d_e))) then (4294967295 : Int) else (IntKind.wrap .u64 (Int.tdiv (orK .u64 (shlK .u64 (IntKind.wrap .u64 u_e) 32) (IntKind.wrap .u64 u_e_1)) (IntKind.wrap .u64 d_e)))) (IntKind.wrap .u64 ((orK .u64 (shlK .u64 (IntKind.wrap .u64 u_e) 32) (IntKind.wrap .u64 u_e_1)) - (IntKind.wrap .u64 ((if (4294967295 : Int) < (IntKind.wrap .u64 (Int.tdiv (orK .u64 (shlK .u64 (IntKind.wrap .u64 u_e) 32) (IntKind.wrap .u64 u_e_1)) (IntKind.wrap .u64 d_e))) then (4294967295 : Int) else (IntKind.wrap .u64 (Int.tdiv (orK .u64 (shlK .u64 (IntKind.wrap .u64 u_e) 32) (IntKind.wrap .u64 u_e_1)) (IntKind.wrap .u64 d_e)))) * (IntKind.wrap .u64 d_e_1))))) u).bind fun (x0, x1, x2, x3, x4, x5) => s_fraction_digit_k2 x0 x1 x2 x3 x4 x5

def s_fraction_digit_w (u : (List Int)) (u_off : Nat) (u_len : Nat) (d : (List Int)) : Option (Int × (List Int)) :=
  (s_fraction_digit u u_off u_len d).bind fun r => chk (decide (r.2.length = u.length) && true) (some r)

/-! ### (tablefinder/fraction.words).at -/

def s_fraction_words_at (w_ : (List Int)) (i : Int) : Option Int :=
  bif (decide (i < (w_.length : Int))) then (
    (idx w_ i).bind fun w__e =>
    some w__e
  ) else (
    some (0 : Int)
  )

/-! ### (tablefinder/fraction.words).over -/

def s_fraction_words_over_k2 (rest : (List Int)) (q : (List Int)) : Option ((List Int) × (List Int)) :=
  (s_fraction_trimmed q).bind fun q_1 =>
  (s_fraction_trimmed rest).bind fun q_2 =>
  some (q_1, q_2)

def s_fraction_words_over_l2_b (rec_ : Int → (List Int) → Int → Int → (List Int) → Option ((List Int) × (List Int))) (shift : Int) (rest : (List Int)) (t86 : Int) (i : Int) (q : (List Int)) : Option ((List Int) × (List Int)) :=
  bif (decide (i < t86)) then (
    chk (inK .i64 (i + 1)) <|
    (s_fraction_words_at rest (i + 1)).bind fun q_1 =>
    chk (decide (0 ≤ (32 : Int))) <|
    (idx rest i).bind fun rest_e =>
    chk (decide (0 ≤ shift)) <|
    (idx rest i).bind fun rest_e_1 =>
    none
  ) else (
    some (rest, q)
  )

def s_fraction_words_over_l2 : Nat → Int → (List Int) → Int → Int → (List Int) → Option ((List Int) × (List Int))
  | 0, _, _, _, _, _ => none
  | n_ + 1, shift, rest, t86, i, q => s_fraction_words_over_l2_b (s_fraction_words_over_l2 n_) shift rest t86 i q

def s_fraction_words_over_k1 (n : Int) (shift : Int) (u : (List Int)) (q : (List Int)) : Option ((List Int) × (List Int)) :=
  chk (within 0 n (u.length : Int)) <|
  (s_fraction_trimmed ((u.drop 0).take ((n).toNat - 0))).bind fun rest =>
  (s_fraction_words_over_l2 big shift rest (rest.length : Int) (0 : Int) q).bind fun (x0, x1) => s_fraction_words_over_k2 x0 x1

def s_fraction_words_over_l1_b (rec_ : Int → Int → (List Int) → Int → (List Int) → (List Int) → Option (Int × Int × (List Int) × (List Int))) (n : Int) (shift : Int) (d : (List Int)) (j : Int) (u : (List Int)) (q : (List Int)) : Option (Int × Int × (List Int) × (List Int)) :=
  bif (decide (j ≥ 0)) then (
    chk (inK .i64 (j + n)) <|
    chk (inK .i64 ((j + n) + 1)) <|
    chk (within j ((j + n) + 1) (u.length : Int)) <|
    (s_fraction_digit_w u ((j).toNat) ((((j + n) + 1)).toNat - (j).toNat) d).bind fun (q_1, t77) =>
    chk (inR j (q.length : Int)) <|
    chk (inK .i64 (j - 1)) <|
    rec_ n shift d (j - 1) t77 (q.set ((j).toNat) q_1)
  ) else (
    some (n, shift, u, q)
  )

def s_fraction_words_over_l1 : Nat → Int → Int → (List Int) → Int → (List Int) → (List Int) → Option (Int × Int × (List Int) × (List Int))
  | 0, _, _, _, _, _, _ => none
  | n_ + 1, n, shift, d, j, u, q => s_fraction_words_over_l1_b (s_fraction_words_over_l1 n_) n shift d j u q

def s_fraction_words_over (w_ : (List Int)) (v_ : (List Int)) : Option ((List Int) × (List Int)) :=
  (s_fraction_words_compare w_ v_).bind fun q =>
  bif (decide (q < 0)) then (
    (s_slices_Clone_fraction_words_uint32 w_).bind fun q_1 =>
    some (([] : (List Int)), q_1)
  ) else (
    bif ((v_.length : Int) == 1) then (
      (idx v_ 0).bind fun v__e =>
      (s_fraction_words_short w_ v__e).bind fun (q_2, r_) =>
      (s_fraction_trimmed ([r_] : (List Int))).bind fun q_3 =>
      some (q_2, q_3)
    ) else (
      chk (inK .i64 ((v_.length : Int) - 1)) <|
      (idx v_ ((v_.length : Int) - 1)).bind fun v__e_1 =>
      (s_math_bits_LeadingZeros32 v__e_1).bind fun shift =>
      (s_fraction_words_shifted w_ shift).bind fun u =>
      (s_fraction_words_shifted v_ shift).bind fun q_4 =>
      chk (within 0 (v_.length : Int) (q_4.length : Int)) <|
      chk (inK .i64 ((w_.length : Int) - (v_.length : Int))) <|
      chk (inK .i64 (((w_.length : Int) - (v_.length : Int)) + 1)) <|
      chk (mkOk (((w_.length : Int) - (v_.length : Int)) + 1) (((w_.length : Int) - (v_.length : Int)) + 1) 4) <|
      chk (inK .i64 (((List.replicate ((((w_.length : Int) - (v_.length : Int)) + 1)).toNat (0 : Int)).length : Int) - 1)) <|
      (s_fraction_words_over_l1 big (v_.length : Int) shift ((q_4.drop 0).take (((v_.length : Int)).toNat - 0)) (((List.replicate ((((w_.length : Int) - (v_.length : Int)) + 1)).toNat (0 : Int)).length : Int) - 1) u (List.replicate ((((w_.length : Int) - (v_.length : Int)) + 1)).toNat (0 : Int))).bind fun (x0, x1, x2, x3) => s_fraction_words_over_k1 x0 x1 x2 x3
    )
  )

/-! ### (tablefinder/fraction.words).common -/

def s_fraction_words_common_k1 (w_ : (List Int)) : Option (List Int) :=
  some w_

def s_fraction_words_common_l1_b (rec_ : (List Int) → (List Int) → Option (List Int)) (w_ : (List Int)) (v_ : (List Int)) : Option (List Int) :=
  bif (decide ((v_.length : Int) > 0)) then (
    (s_fraction_words_over w_ v_).bind fun (q, r_) =>
    rec_ v_ r_
  ) else (
    some w_
  )

def s_fraction_words_common_l1 : Nat → (List Int) → (List Int) → Option (List Int)
  | 0, _, _ => none
  | n_ + 1, w_, v_ => s_fraction_words_common_l1_b (s_fraction_words_common_l1 n_) w_ v_

def s_fraction_words_common (w_ : (List Int)) (v_ : (List Int)) : Option (List Int) :=
  (s_fraction_words_common_l1 big w_ v_).bind fun x0 => s_fraction_words_common_k1 x0

/-! ### tablefinder/fraction.reduced -/

def s_fraction_reduced (num : G_api_Big) (den : G_api_Big) : Option G_api_Fraction :=
  (s_fraction_words_common num.Words den.Words).bind fun g =>
  (s_fraction_words_over num.Words g).bind fun (x_, q) =>
  (s_fraction_words_over den.Words g).bind fun (y, q_1) =>
  (s_fraction_signed (!(num.Neg == den.Neg)) x_).bind fun q_2 =>
  (s_fraction_signed false y).bind fun q_3 =>
  some (G_api_Fraction.mk q_2 q_3)

/-! ### tablefinder/fraction.Make -/

def s_fraction_Make (num : G_api_Big) (den : G_api_Big) : Option (G_api_Fraction × Int) :=
  (s_fraction_bigs ([num, den] : (List G_api_Big))).bind fun q =>
  bif (!q) then (
    some ((G_api_Fraction.mk (G_api_Big.mk false ([] : (List Int))) (G_api_Big.mk false ([] : (List Int)))), 1)
  ) else (
    bif ((den.Words.length : Int) == 0) then (
      some ((G_api_Fraction.mk (G_api_Big.mk false ([] : (List Int))) (G_api_Big.mk false ([] : (List Int)))), 8)
    ) else (
      (s_fraction_reduced num den).bind fun q_1 =>
      some (q_1, 0)
    )
  )

/-! ### tablefinder/fraction.Of -/

def s_fraction_Of (num : Int) (den : Int) : Option (G_api_Fraction × Int) :=
  (s_fraction_FromInt num).bind fun q =>
  (s_fraction_FromInt den).bind fun q_1 =>
  (s_fraction_Make q q_1).bind fun (q_2, q_3) =>
  some (q_2, q_3)

/-! ### tablefinder/num.Zero -/

def s_num_Zero  : Option G_api_Fraction :=
  (s_fraction_Of 0 1).bind fun (f, q) =>
  some f

/-! ### tablefinder/num.Of -/

def s_num_Of (a : Int) (b : Int) : Option G_api_Fraction :=
  (s_fraction_Of a b).bind fun (f, e) =>
  bif (e != 0) then (
    (s_num_Zero).bind fun q =>
    some q
  ) else (
    some f
  )

/-! ### tablefinder/relation.Contained -/

def s_relation_Contained (r_ : G_api_Relation) : Option G_api_Fraction :=
  chk (inK .i64 (r_.Common + r_.OnlyA)) <|
  bif ((r_.Common + r_.OnlyA) == 0) then (
    (s_num_Zero).bind fun q =>
    some q
  ) else (
    chk (inK .i64 (r_.Common + r_.OnlyA)) <|
    (s_num_Of r_.Common (r_.Common + r_.OnlyA)).bind fun q_1 =>
    some q_1
  )

/-! ### tablefinder/tablefinderref01.trim -/

def s_tablefinderref01_trim_k2 (w_ : (List Int)) : Option (List Int) :=
  some w_

def s_tablefinderref01_trim_j1 (rec_ : (List Int) → Option (List Int)) (w_ : (List Int)) (t14 : Bool) : Option (List Int) :=
  bif t14 then (
    chk (inK .i64 ((w_.length : Int) - 1)) <|
    chk (within 0 ((w_.length : Int) - 1) (w_.length : Int)) <|
    rec_ (w_.take (((w_.length : Int) - 1)).toNat)
  ) else (
    some w_
  )

def s_tablefinderref01_trim_l1_b (rec_ : (List Int) → Option (List Int)) (w_ : (List Int)) : Option (List Int) :=
  bif (decide ((w_.length : Int) > 0)) then (
    chk (inK .i64 ((w_.length : Int) - 1)) <|
    (idx w_ ((w_.length : Int) - 1)).bind fun w__e =>
    s_tablefinderref01_trim_j1 rec_ w_ (w__e == 0)
  ) else (
    s_tablefinderref01_trim_j1 rec_ w_ false
  )

def s_tablefinderref01_trim_l1 : Nat → (List Int) → Option (List Int)
  | 0, _ => none
  | n_ + 1, w_ => s_tablefinderref01_trim_l1_b (s_tablefinderref01_trim_l1 n_) w_

def s_tablefinderref01_trim (w_ : (List Int)) : Option (List Int) :=
  (s_tablefinderref01_trim_l1 big w_).bind fun x0 => s_tablefinderref01_trim_k2 x0

/-! ### tablefinder/tablefinderref01.big -/

def s_tablefinderref01_big_j1 (t4 : G_api_Big) : Option G_api_Big :=
  some t4

def s_tablefinderref01_big (neg : Bool) (w_ : (List Int)) : Option G_api_Big :=
  (s_tablefinderref01_trim w_).bind fun w__1 =>
  bif neg then (
    s_tablefinderref01_big_j1 (G_api_Big.mk (decide ((w__1.length : Int) > 0)) w__1)
  ) else (
    s_tablefinderref01_big_j1 (G_api_Big.mk false w__1)
  )

/-! ### tablefinder/tablefinderref01.FromInt -/

def s_tablefinderref01_FromInt_j1 (n : Int) (u : Int) (t2 : Bool) (t2_1 : (List Int)) : Option G_api_Big :=
  chk (decide (0 ≤ (32 : Int))) <|
  (s_tablefinderref01_big (decide (n < 0)) ([(IntKind.wrap .u32 u), (IntKind.wrap .u32 (shrK .u64 u 32))] : (List Int))).bind fun q =>
  some q

def s_tablefinderref01_FromInt (n : Int) : Option G_api_Big :=
  bif (decide (n < 0)) then (
    s_tablefinderref01_FromInt_j1 n (IntKind.wrap .u64 (0 - (IntKind.wrap .u64 n))) false ([] : (List Int))
  ) else (
    s_tablefinderref01_FromInt_j1 n (IntKind.wrap .u64 n) false ([] : (List Int))
  )

/-! ### tablefinder/tablefinderref01.ValidBig -/

def s_tablefinderref01_ValidBig_j1 (t2 : Bool) : Option Bool :=
  some t2

def s_tablefinderref01_ValidBig (a : G_api_Big) : Option Bool :=
  bif (decide ((a.Words.length : Int) ≤ 256)) then (
    bif ((a.Words.length : Int) == 0) then (
      bif (!a.Neg) then (
        s_tablefinderref01_ValidBig_j1 true
      ) else (
        bif (decide ((a.Words.length : Int) > 0)) then (
          chk (inK .i64 ((a.Words.length : Int) - 1)) <|
          (idx a.Words ((a.Words.length : Int) - 1)).bind fun Word =>
          s_tablefinderref01_ValidBig_j1 (Word != 0)
        ) else (
          s_tablefinderref01_ValidBig_j1 false
        )
      )
    ) else (
      bif (decide ((a.Words.length : Int) > 0)) then (
        chk (inK .i64 ((a.Words.length : Int) - 1)) <|
        (idx a.Words ((a.Words.length : Int) - 1)).bind fun Word_1 =>
        s_tablefinderref01_ValidBig_j1 (Word_1 != 0)
      ) else (
        s_tablefinderref01_ValidBig_j1 false
      )
    )
  ) else (
    s_tablefinderref01_ValidBig_j1 false
  )

/-! ### tablefinder/tablefinderref01.half -/

def s_tablefinderref01_half_k2 (out : (List Int)) : Option (List Int) :=
  (s_tablefinderref01_trim out).bind fun q =>
  some q

def s_tablefinderref01_half_j1 (rec_ : (List Int) → Int → Int → (List Int) → Option (List Int)) (a : (List Int)) (t9 : Int) (i : Int) (out : (List Int)) : Option (List Int) :=
  chk (inK .i64 (i + 1)) <|
  rec_ a t9 (i + 1) out

def s_tablefinderref01_half_l1_b (rec_ : (List Int) → Int → Int → (List Int) → Option (List Int)) (a : (List Int)) (t9 : Int) (i : Int) (out : (List Int)) : Option (List Int) :=
  bif (decide (i < t9)) then (
    chk (inR i (out.length : Int)) <|
    (out[(i).toNat]?).bind fun out_e =>
    chk (decide (0 ≤ (1 : Int))) <|
    chk (inR i (out.length : Int)) <|
    chk (inK .i64 (i + 1)) <|
    bif (decide ((i + 1) < (a.length : Int))) then (
      chk (inR i ((out.set ((i).toNat) (shrK .u32 out_e 1)).length : Int)) <|
      ((out.set ((i).toNat) (shrK .u32 out_e 1))[(i).toNat]?).bind fun e_e =>
      chk (inK .i64 (i + 1)) <|
      (idx a (i + 1)).bind fun a_e =>
      chk (decide (0 ≤ (31 : Int))) <|
      chk (inR i ((out.set ((i).toNat) (shrK .u32 out_e 1)).length : Int)) <|
      s_tablefinderref01_half_j1 rec_ a t9 i ((out.set ((i).toNat) (shrK .u32 out_e 1)).set ((i).toNat) (orK .u32 e_e (shlK .u32 a_e 31)))
    ) else (
      s_tablefinderref01_half_j1 rec_ a t9 i (out.set ((i).toNat) (shrK .u32 out_e 1))
    )
  ) else (
    some out
  )

def s_tablefinderref01_half_l1 : Nat → (List Int) → Int → Int → (List Int) → Option (List Int)
  | 0, _, _, _, _ => none
  | n_ + 1, a, t9, i, out => s_tablefinderref01_half_l1_b (s_tablefinderref01_half_l1 n_) a t9 i out

def s_tablefinderref01_half (a : (List Int)) : Option (List Int) :=
  chk (room (([] : (List Int)).length + a.length) 4) <|
  (s_tablefinderref01_half_l1 big a ((([] : (List Int)) ++ a).length : Int) (0 : Int) (([] : (List Int)) ++ a)).bind fun x0 => s_tablefinderref01_half_k2 x0

/-! ### tablefinder/tablefinderref01.cmp -/

def s_tablefinderref01_cmp_k1  : Option Int :=
  some (0 : Int)

def s_tablefinderref01_cmp_l1_b (rec_ : (List Int) → (List Int) → Int → Option (Out Unit Int)) (a : (List Int)) (b : (List Int)) (i : Int) : Option (Out Unit Int) :=
  bif (decide (i ≥ 0)) then (
    (idx a i).bind fun a_e =>
    (idx b i).bind fun b_e =>
    bif (decide (a_e < b_e)) then (
      some (.ret (-1 : Int))
    ) else (
      (idx a i).bind fun a_e_1 =>
      (idx b i).bind fun b_e_1 =>
      bif (decide (a_e_1 > b_e_1)) then (
        some (.ret (1 : Int))
      ) else (
        chk (inK .i64 (i - 1)) <|
        rec_ a b (i - 1)
      )
    )
  ) else (
    some (.brk ())
  )

def s_tablefinderref01_cmp_l1 : Nat → (List Int) → (List Int) → Int → Option (Out Unit Int)
  | 0, _, _, _ => none
  | n_ + 1, a, b, i => s_tablefinderref01_cmp_l1_b (s_tablefinderref01_cmp_l1 n_) a b i

def s_tablefinderref01_cmp (a : (List Int)) (b : (List Int)) : Option Int :=
  bif ((a.length : Int) != (b.length : Int)) then (
    bif (decide ((a.length : Int) < (b.length : Int))) then (
      some (-1 : Int)
    ) else (
      some (1 : Int)
    )
  ) else (
    chk (inK .i64 ((a.length : Int) - 1)) <|
    (s_tablefinderref01_cmp_l1 big a b ((a.length : Int) - 1)).bind fun
      | .ret q_ => some q_
      | .brk () => s_tablefinderref01_cmp_k1
  )

/-! ### tablefinder/tablefinderref01.sub -/

def s_tablefinderref01_sub_k2 (out : (List Int)) : Option (List Int) :=
  (s_tablefinderref01_trim out).bind fun q =>
  some q

def s_tablefinderref01_sub_j1 (rec_ : (List Int) → (List Int) → Int → Int → (List Int) → Option (List Int)) (a : (List Int)) (b : (List Int)) (c : Int) (i : Int) (out : (List Int)) : Option (List Int) :=
  chk (room (out.length + ([(IntKind.wrap .u32 c)] : (List Int)).length) 4) <|
  chk (decide (0 ≤ (32 : Int))) <|
  chk (inK .i64 (i + 1)) <|
  rec_ a b (shrK .i64 c 32) (i + 1) (out ++ ([(IntKind.wrap .u32 c)] : (List Int)))

def s_tablefinderref01_sub_l1_b (rec_ : (List Int) → (List Int) → Int → Int → (List Int) → Option (List Int)) (a : (List Int)) (b : (List Int)) (c : Int) (i : Int) (out : (List Int)) : Option (List Int) :=
  bif (decide (i < (a.length : Int))) then (
    (idx a i).bind fun a_e =>
    chk (inK .i64 (c + (IntKind.wrap .i64 a_e))) <|
    bif (decide (i < (b.length : Int))) then (
      (idx b i).bind fun b_e =>
      chk (inK .i64 ((c + (IntKind.wrap .i64 a_e)) - (IntKind.wrap .i64 b_e))) <|
      s_tablefinderref01_sub_j1 rec_ a b ((c + (IntKind.wrap .i64 a_e)) - (IntKind.wrap .i64 b_e)) i out
    ) else (
      s_tablefinderref01_sub_j1 rec_ a b (c + (IntKind.wrap .i64 a_e)) i out
    )
  ) else (
    some out
  )

def s_tablefinderref01_sub_l1 : Nat → (List Int) → (List Int) → Int → Int → (List Int) → Option (List Int)
  | 0, _, _, _, _, _ => none
  | n_ + 1, a, b, c, i, out => s_tablefinderref01_sub_l1_b (s_tablefinderref01_sub_l1 n_) a b c i out

def s_tablefinderref01_sub (a : (List Int)) (b : (List Int)) : Option (List Int) :=
  (s_tablefinderref01_sub_l1 big a b (0 : Int) (0 : Int) ([] : (List Int))).bind fun x0 => s_tablefinderref01_sub_k2 x0

/-! ### tablefinder/tablefinderref01.twice -/

def s_tablefinderref01_twice_k1 (d : Int) (out : (List Int)) : Option (List Int) :=
  chk (room (out.length + ([d] : (List Int)).length) 4) <|
  (s_tablefinderref01_trim (out ++ ([d] : (List Int)))).bind fun q =>
  some q

def s_tablefinderref01_twice_l1_b (rec_ : (List Int) → Int → Int → (List Int) → Option (Int × (List Int))) (a : (List Int)) (d : Int) (i : Int) (out : (List Int)) : Option (Int × (List Int)) :=
  bif (decide (i < (a.length : Int))) then (
    (idx a i).bind fun a_e =>
    chk (decide (0 ≤ (1 : Int))) <|
    chk (room (out.length + ([(orK .u32 (shlK .u32 a_e 1) d)] : (List Int)).length) 4) <|
    (idx a i).bind fun a_e_1 =>
    chk (decide (0 ≤ (31 : Int))) <|
    chk (inK .i64 (i + 1)) <|
    rec_ a (shrK .u32 a_e_1 31) (i + 1) (out ++ ([(orK .u32 (shlK .u32 a_e 1) d)] : (List Int)))
  ) else (
    some (d, out)
  )

def s_tablefinderref01_twice_l1 : Nat → (List Int) → Int → Int → (List Int) → Option (Int × (List Int))
  | 0, _, _, _, _ => none
  | n_ + 1, a, d, i, out => s_tablefinderref01_twice_l1_b (s_tablefinderref01_twice_l1 n_) a d i out

def s_tablefinderref01_twice (a : (List Int)) (d : Int) : Option (List Int) :=
  (s_tablefinderref01_twice_l1 big a d (0 : Int) ([] : (List Int))).bind fun (x0, x1) => s_tablefinderref01_twice_k1 x0 x1

/-! ### tablefinder/tablefinderref01.gcd -/

def s_tablefinderref01_gcd_k7 (a : (List Int)) : Option (List Int) :=
  some a

def s_tablefinderref01_gcd_l5_b (rec_ : (List Int) → Int → Option (List Int)) (a : (List Int)) (k : Int) : Option (List Int) :=
  bif (decide (k > 0)) then (
    (s_tablefinderref01_twice a 0).bind fun a_1 =>
    chk (inK .i64 (k - 1)) <|
    rec_ a_1 (k - 1)
  ) else (
    some a
  )

def s_tablefinderref01_gcd_l5 : Nat → (List Int) → Int → Option (List Int)
  | 0, _, _ => none
  | n_ + 1, a, k => s_tablefinderref01_gcd_l5_b (s_tablefinderref01_gcd_l5 n_) a k

def s_tablefinderref01_gcd_k6 (a : (List Int)) (k : Int) : Option (List Int) :=
  (s_tablefinderref01_gcd_l5 big a k).bind fun x0 => s_tablefinderref01_gcd_k7 x0

def s_tablefinderref01_gcd_j5 (rec_ : (List Int) → (List Int) → Int → Option ((List Int) × Int)) (a : (List Int)) (b : (List Int)) (k : Int) : Option ((List Int) × Int) :=
  (s_tablefinderref01_sub b a).bind fun b_1 =>
  rec_ a b_1 k

def s_tablefinderref01_gcd_k4 (rec_ : (List Int) → (List Int) → Int → Option ((List Int) × Int)) (a : (List Int)) (b : (List Int)) (k : Int) : Option ((List Int) × Int) :=
  (s_tablefinderref01_cmp a b).bind fun q =>
  bif (decide (q > 0)) then (
    s_tablefinderref01_gcd_j5 rec_ b a k
  ) else (
    s_tablefinderref01_gcd_j5 rec_ a b k
  )

def s_tablefinderref01_gcd_l4_b (rec_ : (List Int) → (List Int) → Int → Option ((List Int) × (List Int) × Int)) (a : (List Int)) (b : (List Int)) (k : Int) : Option ((List Int) × (List Int) × Int) :=
  (idx b 0).bind fun b_e =>
  bif ((andK .u32 b_e 1) == 0) then (
    (s_tablefinderref01_half b).bind fun b_1 =>
    rec_ a b_1 k
  ) else (
    some (a, b, k)
  )

def s_tablefinderref01_gcd_l4 : Nat → (List Int) → (List Int) → Int → Option ((List Int) × (List Int) × Int)
  | 0, _, _, _ => none
  | n_ + 1, a, b, k => s_tablefinderref01_gcd_l4_b (s_tablefinderref01_gcd_l4 n_) a b k

def s_tablefinderref01_gcd_k3 (rec_ : (List Int) → (List Int) → Int → Option ((List Int) × Int)) (a : (List Int)) (b : (List Int)) (k : Int) : Option ((List Int) × Int) :=
  (s_tablefinderref01_gcd_l4 big a b k).bind fun (x0, x1, x2) => s_tablefinderref01_gcd_k4 rec_ x0 x1 x2

def s_tablefinderref01_gcd_l3_b (rec_ : (List Int) → (List Int) → Int → Option ((List Int) × (List Int) × Int)) (a : (List Int)) (b : (List Int)) (k : Int) : Option ((List Int) × (List Int) × Int) :=
  (idx a 0).bind fun a_e =>
  bif ((andK .u32 a_e 1) == 0) then (
    (s_tablefinderref01_half a).bind fun a_1 =>
    rec_ a_1 b k
  ) else (
    some (a, b, k)
  )

def s_tablefinderref01_gcd_l3 : Nat → (List Int) → (List Int) → Int → Option ((List Int) × (List Int) × Int)
  | 0, _, _, _ => none
  | n_ + 1, a, b, k => s_tablefinderref01_gcd_l3_b (s_tablefinderref01_gcd_l3 n_) a b k

def s_tablefinderref01_gcd_l2_b (rec_ : (List Int) → (List Int) → Int → Option ((List Int) × Int)) (a : (List Int)) (b : (List Int)) (k : Int) : Option ((List Int) × Int) :=
  bif (decide ((b.length : Int) > 0)) then (
    (s_tablefinderref01_gcd_l3 big a b k).bind fun (x0, x1, x2) => s_tablefinderref01_gcd_k3 rec_ x0 x1 x2
  ) else (
    some (a, k)
  )

def s_tablefinderref01_gcd_l2 : Nat → (List Int) → (List Int) → Int → Option ((List Int) × Int)
  | 0, _, _, _ => none
  | n_ + 1, a, b, k => s_tablefinderref01_gcd_l2_b (s_tablefinderref01_gcd_l2 n_) a b k

def s_tablefinderref01_gcd_k2 (a : (List Int)) (b : (List Int)) (k : Int) : Option (List Int) :=
  (s_tablefinderref01_gcd_l2 big a b k).bind fun (x0, x1) => s_tablefinderref01_gcd_k6 x0 x1

def s_tablefinderref01_gcd_j1 (rec_ : (List Int) → (List Int) → Int → Option ((List Int) × (List Int) × Int)) (a : (List Int)) (b : (List Int)) (k : Int) (t17 : Bool) : Option ((List Int) × (List Int) × Int) :=
  bif t17 then (
    (s_tablefinderref01_half a).bind fun a_1 =>
    (s_tablefinderref01_half b).bind fun b_1 =>
    chk (inK .i64 (k + 1)) <|
    rec_ a_1 b_1 (k + 1)
  ) else (
    some (a, b, k)
  )

def s_tablefinderref01_gcd_l1_b (rec_ : (List Int) → (List Int) → Int → Option ((List Int) × (List Int) × Int)) (a : (List Int)) (b : (List Int)) (k : Int) : Option ((List Int) × (List Int) × Int) :=
  (idx a 0).bind fun a_e =>
  bif ((andK .u32 a_e 1) == 0) then (
    (idx b 0).bind fun b_e =>
    s_tablefinderref01_gcd_j1 rec_ a b k ((andK .u32 b_e 1) == 0)
  ) else (
    s_tablefinderref01_gcd_j1 rec_ a b k false
  )

def s_tablefinderref01_gcd_l1 : Nat → (List Int) → (List Int) → Int → Option ((List Int) × (List Int) × Int)
  | 0, _, _, _ => none
  | n_ + 1, a, b, k => s_tablefinderref01_gcd_l1_b (s_tablefinderref01_gcd_l1 n_) a b k

def s_tablefinderref01_gcd (a : (List Int)) (b : (List Int)) : Option (List Int) :=
  (s_tablefinderref01_gcd_l1 big a b (0 : Int)).bind fun (x0, x1, x2) => s_tablefinderref01_gcd_k2 x0 x1 x2

/-! ### tablefinder/tablefinderref01.bit -/

def s_tablefinderref01_bit (a : (List Int)) (i : Int) : Option Int :=
  chk (decide ((32 : Int) ≠ 0)) <|
  chk (inK .i64 (Int.tdiv i 32)) <|
  (idx a (Int.tdiv i 32)).bind fun a_e =>
  chk (decide ((32 : Int) ≠ 0)) <|
  chk (decide (0 ≤ (IntKind.wrap .u64 (Int.tmod i 32)))) <|
  some (andK .u32 (shrK .u32 a_e (IntKind.wrap .u64 (Int.tmod i 32))) 1)

/-! ### tablefinder/tablefinderref01.div -/

def s_tablefinderref01_div_k2 (r_ : (List Int)) (q : (List Int)) : Option ((List Int) × (List Int)) :=
  (s_tablefinderref01_trim q).bind fun q_1 =>
  some (q_1, r_)

def s_tablefinderref01_div_j1 (rec_ : (List Int) → (List Int) → (List Int) → Int → (List Int) → Option ((List Int) × (List Int))) (a : (List Int)) (b : (List Int)) (r_ : (List Int)) (i : Int) (q : (List Int)) : Option ((List Int) × (List Int)) :=
  chk (inK .i64 (i - 1)) <|
  rec_ a b r_ (i - 1) q

def s_tablefinderref01_div_l1_b (rec_ : (List Int) → (List Int) → (List Int) → Int → (List Int) → Option ((List Int) × (List Int))) (a : (List Int)) (b : (List Int)) (r_ : (List Int)) (i : Int) (q : (List Int)) : Option ((List Int) × (List Int)) :=
  bif (decide (i ≥ 0)) then (
    (s_tablefinderref01_bit a i).bind fun q_1 =>
    (s_tablefinderref01_twice r_ q_1).bind fun r__1 =>
    (s_tablefinderref01_cmp r__1 b).bind fun q_2 =>
    bif (decide (q_2 ≥ 0)) then (
      (s_tablefinderref01_sub r__1 b).bind fun r__2 =>
      chk (decide ((32 : Int) ≠ 0)) <|
      chk (inK .i64 (Int.tdiv i 32)) <|
      chk (inR (Int.tdiv i 32) (q.length : Int)) <|
      (q[((Int.tdiv i 32)).toNat]?).bind fun q_e =>
      chk (decide ((32 : Int) ≠ 0)) <|
      chk (decide (0 ≤ (IntKind.wrap .u64 (Int.tmod i 32)))) <|
      chk (inR (Int.tdiv i 32) (q.length : Int)) <|
      s_tablefinderref01_div_j1 rec_ a b r__2 i (q.set (((Int.tdiv i 32)).toNat) (orK .u32 q_e (shlK .u32 1 (IntKind.wrap .u64 (Int.tmod i 32)))))
    ) else (
      s_tablefinderref01_div_j1 rec_ a b r__1 i q
    )
  ) else (
    some (r_, q)
  )

def s_tablefinderref01_div_l1 : Nat → (List Int) → (List Int) → (List Int) → Int → (List Int) → Option ((List Int) × (List Int))
  | 0, _, _, _, _, _ => none
  | n_ + 1, a, b, r_, i, q => s_tablefinderref01_div_l1_b (s_tablefinderref01_div_l1 n_) a b r_ i q

def s_tablefinderref01_div (a : (List Int)) (b : (List Int)) : Option ((List Int) × (List Int)) :=
  chk (mkOk (a.length : Int) (a.length : Int) 4) <|
  chk (inK .i64 (32 * (a.length : Int))) <|
  chk (inK .i64 ((32 * (a.length : Int)) - 1)) <|
  (s_tablefinderref01_div_l1 big a b ([] : (List Int)) ((32 * (a.length : Int)) - 1) (List.replicate ((a.length : Int)).toNat (0 : Int))).bind fun (x0, x1) => s_tablefinderref01_div_k2 x0 x1

/-! ### tablefinder/tablefinderref01.lowest -/

def s_tablefinderref01_lowest (num : G_api_Big) (den : G_api_Big) : Option G_api_Fraction :=
  bif ((num.Words.length : Int) == 0) then (
    (s_tablefinderref01_FromInt 1).bind fun q =>
    some (G_api_Fraction.mk (G_api_Big.mk false ([] : (List Int))) q)
  ) else (
    (s_tablefinderref01_gcd num.Words den.Words).bind fun g =>
    (s_tablefinderref01_div num.Words g).bind fun (x_, q_1) =>
    (s_tablefinderref01_div den.Words g).bind fun (y, q_2) =>
    (s_tablefinderref01_big (!(num.Neg == den.Neg)) x_).bind fun q_3 =>
    (s_tablefinderref01_big false y).bind fun q_4 =>
    some (G_api_Fraction.mk q_3 q_4)
  )

/-! ### tablefinder/tablefinderref01.Make -/

def s_tablefinderref01_Make_j1 (t13 : Bool) (num : G_api_Big) (den : G_api_Big) (t4 : Bool) (t4_1 : Bool) (t4_2 : (List Int)) (t4_3 : (List Int)) : Option (G_api_Fraction × Int) :=
  bif t13 then (
    some ((G_api_Fraction.mk (G_api_Big.mk false ([] : (List Int))) (G_api_Big.mk false ([] : (List Int)))), 1)
  ) else (
    bif ((den.Words.length : Int) == 0) then (
      some ((G_api_Fraction.mk (G_api_Big.mk false ([] : (List Int))) (G_api_Big.mk false ([] : (List Int)))), 8)
    ) else (
      (s_tablefinderref01_lowest num den).bind fun q =>
      some (q, 0)
    )
  )

def s_tablefinderref01_Make (num : G_api_Big) (den : G_api_Big) : Option (G_api_Fraction × Int) :=
  (s_tablefinderref01_ValidBig num).bind fun q =>
  bif (!q) then (
    s_tablefinderref01_Make_j1 true num den false false ([] : (List Int)) ([] : (List Int))
  ) else (
    (s_tablefinderref01_ValidBig den).bind fun q_1 =>
    s_tablefinderref01_Make_j1 (!q_1) num den false false ([] : (List Int)) ([] : (List Int))
  )

/-! ### tablefinder/tablefinderref01.Of -/

def s_tablefinderref01_Of (num : Int) (den : Int) : Option (G_api_Fraction × Int) :=
  (s_tablefinderref01_FromInt num).bind fun q =>
  (s_tablefinderref01_FromInt den).bind fun q_1 =>
  (s_tablefinderref01_Make q q_1).bind fun (q_2, q_3) =>
  some (q_2, q_3)

/-! ### tablefinder/tablefinderref23.Part -/

def s_tablefinderref23_Part (n : Int) (d : Int) : Option G_api_Fraction :=
  (s_tablefinderref01_Of n d).bind fun (f, q) =>
  some f

/-! ### tablefinder/tablefinderref23.Int -/

def s_tablefinderref23_Int (n : Int) : Option G_api_Fraction :=
  (s_tablefinderref23_Part n 1).bind fun q =>
  some q

/-! ### tablefinder/tablefinderref23.Zero -/

def s_tablefinderref23_Zero  : Option G_api_Fraction :=
  (s_tablefinderref23_Int 0).bind fun q =>
  some q

/-! ### tablefinder/tablefinderref29.Contained -/

def s_tablefinderref29_Contained (r_ : G_api_Relation) : Option G_api_Fraction :=
  chk (inK .i64 (r_.Common + r_.OnlyA)) <|
  bif ((r_.Common + r_.OnlyA) == 0) then (
    (s_tablefinderref23_Zero).bind fun q =>
    some q
  ) else (
    chk (inK .i64 (r_.Common + r_.OnlyA)) <|
    (s_tablefinderref23_Part r_.Common (r_.Common + r_.OnlyA)).bind fun q_1 =>
    some q_1
  )

/-! ### tablefinder/tablefinderref23.sameBig -/

def s_tablefinderref23_sameBig_k2  : Option Bool :=
  some true

def s_tablefinderref23_sameBig_l1_b (rec_ : (List Int) → Int → Int → G_api_Big → Option (Out Unit Bool)) (t22 : (List Int)) (t23 : Int) (i : Int) (b : G_api_Big) : Option (Out Unit Bool) :=
  bif (decide (i < t23)) then (
    (idx t22 i).bind fun w_ =>
    (idx b.Words i).bind fun Word =>
    bif (Word != w_) then (
      some (.ret false)
    ) else (
      chk (inK .i64 (i + 1)) <|
      rec_ t22 t23 (i + 1) b
    )
  ) else (
    some (.brk ())
  )

def s_tablefinderref23_sameBig_l1 : Nat → (List Int) → Int → Int → G_api_Big → Option (Out Unit Bool)
  | 0, _, _, _, _ => none
  | n_ + 1, t22, t23, i, b => s_tablefinderref23_sameBig_l1_b (s_tablefinderref23_sameBig_l1 n_) t22 t23 i b

def s_tablefinderref23_sameBig_j1 (t20 : Bool) (a : G_api_Big) (b : G_api_Big) : Option Bool :=
  bif t20 then (
    some false
  ) else (
    (s_tablefinderref23_sameBig_l1 big a.Words (a.Words.length : Int) (0 : Int) b).bind fun
      | .ret q_ => some q_
      | .brk () => s_tablefinderref23_sameBig_k2
  )

def s_tablefinderref23_sameBig (a : G_api_Big) (b : G_api_Big) : Option Bool :=
  bif (!(a.Neg == b.Neg)) then (
    s_tablefinderref23_sameBig_j1 true a b
  ) else (
    s_tablefinderref23_sameBig_j1 ((a.Words.length : Int) != (b.Words.length : Int)) a b
  )

/-! ### tablefinder/tablefinderref23.Same -/

def s_tablefinderref23_Same_j1 (t4 : Bool) : Option Bool :=
  some t4

def s_tablefinderref23_Same (a : G_api_Fraction) (b : G_api_Fraction) : Option Bool :=
  (s_tablefinderref23_sameBig a.Num b.Num).bind fun q =>
  bif q then (
    (s_tablefinderref23_sameBig a.Den b.Den).bind fun q_1 =>
    s_tablefinderref23_Same_j1 q_1
  ) else (
    s_tablefinderref23_Same_j1 false
  )

/-! ### tablefinder/tablefinderlaw29.RelationKinds -/

def s_tablefinderlaw29_RelationKinds_j3 (t4 : Bool) : Option Bool :=
  some t4

def s_tablefinderlaw29_RelationKinds_k2 (near : G_api_Relation) : Option Bool :=
  (s_relation_Contained near).bind fun q =>
  (s_tablefinderref29_Contained near).bind fun q_1 =>
  (s_tablefinderref23_Same q q_1).bind fun q_2 =>
  bif q_2 then (
    (s_tablefinderlaw29_awake).bind fun q_3 =>
    s_tablefinderlaw29_RelationKinds_j3 q_3
  ) else (
    s_tablefinderlaw29_RelationKinds_j3 false
  )

def s_tablefinderlaw29_RelationKinds_j1 (rec_ : Int → Int → G_api_Relation → (List G_api_Relation) → Option (Out G_api_Relation Bool)) (t37 : Int) (t38 : Int) (t60 : Bool) (near : G_api_Relation) (t36 : (List G_api_Relation)) : Option (Out G_api_Relation Bool) :=
  bif t60 then (
    some (.ret false)
  ) else (
    chk (inK .i64 (t38 + 1)) <|
    rec_ t37 (t38 + 1) near t36
  )

def s_tablefinderlaw29_RelationKinds_l1_b (rec_ : Int → Int → G_api_Relation → (List G_api_Relation) → Option (Out G_api_Relation Bool)) (t37 : Int) (t38 : Int) (near : G_api_Relation) (t36 : (List G_api_Relation)) : Option (Out G_api_Relation Bool) :=
  bif (decide (t38 < t37)) then (
    chk (inR t38 (t36.length : Int)) <|
    (t36[(t38).toNat]?).bind fun r_ =>
    (s_relation_Kind r_).bind fun q =>
    (s_tablefinderref29_Kind r_).bind fun q_1 =>
    bif (q != q_1) then (
      s_tablefinderlaw29_RelationKinds_j1 rec_ t37 t38 true near t36
    ) else (
      (s_relation_Turn r_).bind fun q_2 =>
      (s_tablefinderref29_Turn r_).bind fun q_3 =>
      bif (!(q_2.A.Table == q_3.A.Table && (q_2.A.Column == q_3.A.Column && (q_2.B.Table == q_3.B.Table && (q_2.B.Column == q_3.B.Column && (q_2.Common == q_3.Common && (q_2.OnlyA == q_3.OnlyA && (q_2.OnlyB == q_3.OnlyB && (q_2.MostA == q_3.MostA && (q_2.MostB == q_3.MostB && (q_2.LostA == q_3.LostA && (q_2.LostB == q_3.LostB && true)))))))))))) then (
        s_tablefinderlaw29_RelationKinds_j1 rec_ t37 t38 true near t36
      ) else (
        (s_relation_Turn r_).bind fun q_4 =>
        (s_relation_Turn q_4).bind fun q_5 =>
        s_tablefinderlaw29_RelationKinds_j1 rec_ t37 t38 (!(q_5.A.Table == r_.A.Table && (q_5.A.Column == r_.A.Column && (q_5.B.Table == r_.B.Table && (q_5.B.Column == r_.B.Column && (q_5.Common == r_.Common && (q_5.OnlyA == r_.OnlyA && (q_5.OnlyB == r_.OnlyB && (q_5.MostA == r_.MostA && (q_5.MostB == r_.MostB && (q_5.LostA == r_.LostA && (q_5.LostB == r_.LostB && true)))))))))))) near t36
      )
    )
  ) else (
    some (.brk near)
  )

def s_tablefinderlaw29_RelationKinds_l1 : Nat → Int → Int → G_api_Relation → (List G_api_Relation) → Option (Out G_api_Relation Bool)
  | 0, _, _, _, _ => none
  | n_ + 1, t37, t38, near, t36 => s_tablefinderlaw29_RelationKinds_l1_b (s_tablefinderlaw29_RelationKinds_l1 n_) t37 t38 near t36

def s_tablefinderlaw29_RelationKinds_l1_F (n : Nat) (s : (Int × Int × G_api_Relation × (List G_api_Relation))) : Option (Out G_api_Relation Bool) := s_tablefinderlaw29_RelationKinds_l1 n s.1 s.2.1 s.2.2.1 s.2.2.2
def s_tablefinderlaw29_RelationKinds_l1_B (rec_ : (Int × Int × G_api_Relation × (List G_api_Relation)) → Option (Out G_api_Relation Bool)) (s : (Int × Int × G_api_Relation × (List G_api_Relation))) : Option (Out G_api_Relation Bool) := s_tablefinderlaw29_RelationKinds_l1_b (fun t37 t38 near t36 => rec_ (t37, t38, near, t36)) s.1 s.2.1 s.2.2.1 s.2.2.2
theorem s_tablefinderlaw29_RelationKinds_l1_FB : ∀ n s, s_tablefinderlaw29_RelationKinds_l1_F (n + 1) s = s_tablefinderlaw29_RelationKinds_l1_B (s_tablefinderlaw29_RelationKinds_l1_F n) s := fun _ _ => rfl

def s_tablefinderlaw29_RelationKinds (raw : G_api_Relation) (n : G_arr6_Int) : Option Bool :=
  chk (inR 0 6) <|
  chk (decide ((3 : Int) ≠ 0)) <|
  chk (inR 1 6) <|
  chk (decide ((3 : Int) ≠ 0)) <|
  chk (inR 2 6) <|
  chk (decide ((3 : Int) ≠ 0)) <|
  chk (inR 3 6) <|
  chk (decide ((3 : Int) ≠ 0)) <|
  chk (inR 4 6) <|
  chk (decide ((3 : Int) ≠ 0)) <|
  chk (inR 5 6) <|
  chk (decide ((3 : Int) ≠ 0)) <|
  (s_tablefinderlaw29_RelationKinds_l1 big (([raw, (G_api_Relation.mk (G_api_Ref.mk 3 0) (G_api_Ref.mk 0 0) (IntKind.wrap .i64 (Int.tmod n.e0 3)) (IntKind.wrap .i64 (Int.tmod n.e1 3)) (IntKind.wrap .i64 (Int.tmod n.e2 3)) (IntKind.wrap .i64 (Int.tmod n.e3 3)) (IntKind.wrap .i64 (Int.tmod n.e4 3)) (IntKind.wrap .i64 (Int.tmod n.e5 3)) 4)] : (List G_api_Relation)).length : Int) (0 : Int) (G_api_Relation.mk (G_api_Ref.mk 3 0) (G_api_Ref.mk 0 0) (IntKind.wrap .i64 (Int.tmod n.e0 3)) (IntKind.wrap .i64 (Int.tmod n.e1 3)) (IntKind.wrap .i64 (Int.tmod n.e2 3)) (IntKind.wrap .i64 (Int.tmod n.e3 3)) (IntKind.wrap .i64 (Int.tmod n.e4 3)) (IntKind.wrap .i64 (Int.tmod n.e5 3)) 4) ([raw, (G_api_Relation.mk (G_api_Ref.mk 3 0) (G_api_Ref.mk 0 0) (IntKind.wrap .i64 (Int.tmod n.e0 3)) (IntKind.wrap .i64 (Int.tmod n.e1 3)) (IntKind.wrap .i64 (Int.tmod n.e2 3)) (IntKind.wrap .i64 (Int.tmod n.e3 3)) (IntKind.wrap .i64 (Int.tmod n.e4 3)) (IntKind.wrap .i64 (Int.tmod n.e5 3)) 4)] : (List G_api_Relation))).bind fun
    | .ret q_ => some q_
    | .brk x0 => s_tablefinderlaw29_RelationKinds_k2 x0

end
end Go.Proofs
