/- Printed by wip/tools/tgen.py: specs. -/
import Derived.Test.YtahbkngofdpehaaGreatDoorE4
import Derived.Lib.ItoaNum
import Derived.Lib.LaidU8
import Derived.Shelf.Strconv.Itoa3
set_option linter.unusedVariables false
set_option linter.unusedSimpArgs false
set_option linter.unusedSectionVars false
namespace Go.Proofs
open Go Eng
set_option maxRecDepth 100000
noncomputable section

structure G_api_Cell where
  Null : Bool
  Text : Str
  deriving DecidableEq, Inhabited

structure G_api_Column where
  Name : Str
  Cells : (List G_api_Cell)
  deriving DecidableEq, Inhabited

structure G_api_Table where
  ID : Int
  Name : Str
  Columns : (List G_api_Column)
  deriving DecidableEq, Inhabited

structure G_unicode_utf8_acceptRange where
  lo : Int
  hi : Int
  deriving DecidableEq, Inhabited

structure G_tablefindermill_Dice where
  seeds : (List Int)
  at_ : Int
  deriving DecidableEq, Inhabited

structure G_api_Ref where
  Table : Int
  Column : Int
  deriving DecidableEq, Inhabited

abbrev G_arr256_int_u8 : Type := { l : List Int // l.length = 256 }

structure G_arr16_G_unicode_utf8_acceptRange where
  e0 : G_unicode_utf8_acceptRange
  e1 : G_unicode_utf8_acceptRange
  e2 : G_unicode_utf8_acceptRange
  e3 : G_unicode_utf8_acceptRange
  e4 : G_unicode_utf8_acceptRange
  e5 : G_unicode_utf8_acceptRange
  e6 : G_unicode_utf8_acceptRange
  e7 : G_unicode_utf8_acceptRange
  e8 : G_unicode_utf8_acceptRange
  e9 : G_unicode_utf8_acceptRange
  e10 : G_unicode_utf8_acceptRange
  e11 : G_unicode_utf8_acceptRange
  e12 : G_unicode_utf8_acceptRange
  e13 : G_unicode_utf8_acceptRange
  e14 : G_unicode_utf8_acceptRange
  e15 : G_unicode_utf8_acceptRange
  deriving DecidableEq, Inhabited

def carU : Nat → Type
  | 0 => G_api_Cell
  | 1 => G_api_Column
  | 2 => G_api_Table
  | 3 => G_unicode_utf8_acceptRange
  | 4 => G_tablefindermill_Dice
  | 5 => G_api_Ref
  | 6 => G_arr256_int_u8
  | 7 => G_arr16_G_unicode_utf8_acceptRange
  | _ => Unit

def sizeU : Nat → Nat
  | 0 => 2
  | 1 => 2
  | 2 => 3
  | 3 => 2
  | 4 => 2
  | 5 => 2
  | 6 => 256
  | 7 => 32
  | _ => 0


def glob_utf8_first : List (Lf carU) := (Lib.firstTab.map fun n => ⟨.int .u8, n⟩)

def glob_utf8_acceptRanges : List (Lf carU) := [⟨.int .u8, (128 : Int)⟩, ⟨.int .u8, (191 : Int)⟩, ⟨.int .u8, (160 : Int)⟩, ⟨.int .u8, (191 : Int)⟩, ⟨.int .u8, (128 : Int)⟩, ⟨.int .u8, (159 : Int)⟩, ⟨.int .u8, (144 : Int)⟩, ⟨.int .u8, (191 : Int)⟩, ⟨.int .u8, (128 : Int)⟩, ⟨.int .u8, (143 : Int)⟩, ⟨.int .u8, (0 : Int)⟩, ⟨.int .u8, (0 : Int)⟩, ⟨.int .u8, (0 : Int)⟩, ⟨.int .u8, (0 : Int)⟩, ⟨.int .u8, (0 : Int)⟩, ⟨.int .u8, (0 : Int)⟩, ⟨.int .u8, (0 : Int)⟩, ⟨.int .u8, (0 : Int)⟩, ⟨.int .u8, (0 : Int)⟩, ⟨.int .u8, (0 : Int)⟩, ⟨.int .u8, (0 : Int)⟩, ⟨.int .u8, (0 : Int)⟩, ⟨.int .u8, (0 : Int)⟩, ⟨.int .u8, (0 : Int)⟩, ⟨.int .u8, (0 : Int)⟩, ⟨.int .u8, (0 : Int)⟩, ⟨.int .u8, (0 : Int)⟩, ⟨.int .u8, (0 : Int)⟩, ⟨.int .u8, (0 : Int)⟩, ⟨.int .u8, (0 : Int)⟩, ⟨.int .u8, (0 : Int)⟩, ⟨.int .u8, (0 : Int)⟩]

def glob_strconv_uint64pow10 : List (Lf carU) := (Lib.pow10Tab.map fun n => ⟨.int .u64, n⟩)

/-! ### tablefinder/table.Rows -/

def s_table_Rows (t : G_api_Table) : Option Int :=
  bif ((t.Columns.length : Int) == 0) then (
    some (0 : Int)
  ) else (
    (idx t.Columns 0).bind fun Column =>
    some (Column.Cells.length : Int)
  )

/-! ### unicode/utf8.word[string] -/

def s_unicode_utf8_word_string (s : Str) : Option Int :=
  (idx s 0).bind fun c =>
  (idx s 1).bind fun c_1 =>
  chk (decide (0 ≤ (8 : Int))) <|
  (idx s 2).bind fun c_2 =>
  chk (decide (0 ≤ (16 : Int))) <|
  (idx s 3).bind fun c_3 =>
  chk (decide (0 ≤ (24 : Int))) <|
  (idx s 4).bind fun c_4 =>
  chk (decide (0 ≤ (32 : Int))) <|
  (idx s 5).bind fun c_5 =>
  chk (decide (0 ≤ (40 : Int))) <|
  (idx s 6).bind fun c_6 =>
  chk (decide (0 ≤ (48 : Int))) <|
  (idx s 7).bind fun c_7 =>
  chk (decide (0 ≤ (56 : Int))) <|
  some (orK .u64 (orK .u64 (orK .u64 (orK .u64 (orK .u64 (orK .u64 (orK .u64 (IntKind.wrap .u64 ((c.toNat : Nat) : Int)) (shlK .u64 (IntKind.wrap .u64 ((c_1.toNat : Nat) : Int)) 8)) (shlK .u64 (IntKind.wrap .u64 ((c_2.toNat : Nat) : Int)) 16)) (shlK .u64 (IntKind.wrap .u64 ((c_3.toNat : Nat) : Int)) 24)) (shlK .u64 (IntKind.wrap .u64 ((c_4.toNat : Nat) : Int)) 32)) (shlK .u64 (IntKind.wrap .u64 ((c_5.toNat : Nat) : Int)) 40)) (shlK .u64 (IntKind.wrap .u64 ((c_6.toNat : Nat) : Int)) 48)) (shlK .u64 (IntKind.wrap .u64 ((c_7.toNat : Nat) : Int)) 56))

/-! ### unicode/utf8.ValidString -/

def s_unicode_utf8_ValidString_k9  : Option Bool :=
  some true

def s_unicode_utf8_ValidString_j8 (rec_ : Str → Option (Out Unit Bool)) (s : Str) (t166 : Bool) : Option (Out Unit Bool) :=
  bif t166 then (
    some (.ret false)
  ) else (
    chk (within 4 (s.length : Int) (s.length : Int)) <|
    rec_ (s.drop ((4 : Int)).toNat)
  )

def s_unicode_utf8_ValidString_j7 (rec_ : Str → Option (Out Unit Bool)) (s : Str) (t125 : Bool) : Option (Out Unit Bool) :=
  bif t125 then (
    some (.ret false)
  ) else (
    chk (within 3 (s.length : Int) (s.length : Int)) <|
    rec_ (s.drop ((3 : Int)).toNat)
  )

def s_unicode_utf8_ValidString_j6 (rec_ : Str → Option (Out Unit Bool)) (s : Str) (t94 : Bool) : Option (Out Unit Bool) :=
  bif t94 then (
    some (.ret false)
  ) else (
    chk (within 2 (s.length : Int) (s.length : Int)) <|
    rec_ (s.drop ((2 : Int)).toNat)
  )

def s_unicode_utf8_ValidString_j5 (rec_ : Str → Option (Out Unit Bool)) (s : Str) : Option (Out Unit Bool) :=
  rec_ s

def s_unicode_utf8_ValidString_k4 (rec_ : Str → Option (Out Unit Bool)) (s : Str) : Option (Out Unit Bool) :=
  rec_ s

def s_unicode_utf8_ValidString_j3 (rec_ : Str → Option Str) (s : Str) (t62 : Bool) : Option Str :=
  bif t62 then (
    chk (within 32 (s.length : Int) (s.length : Int)) <|
    rec_ (s.drop ((32 : Int)).toNat)
  ) else (
    some s
  )

def s_unicode_utf8_ValidString_l2_b (rec_ : Str → Option Str) (s : Str) : Option Str :=
  bif (decide ((s.length : Int) > 32)) then (
    (s_unicode_utf8_word_string s).bind fun q =>
    chk (within 8 (s.length : Int) (s.length : Int)) <|
    (s_unicode_utf8_word_string (s.drop ((8 : Int)).toNat)).bind fun q_1 =>
    chk (within 16 (s.length : Int) (s.length : Int)) <|
    (s_unicode_utf8_word_string (s.drop ((16 : Int)).toNat)).bind fun q_2 =>
    chk (within 24 (s.length : Int) (s.length : Int)) <|
    (s_unicode_utf8_word_string (s.drop ((24 : Int)).toNat)).bind fun q_3 =>
    s_unicode_utf8_ValidString_j3 rec_ s ((andK .u64 (orK .u64 (orK .u64 q q_1) (orK .u64 q_2 q_3)) 9259542123273814144) == 0)
  ) else (
    s_unicode_utf8_ValidString_j3 rec_ s false
  )

def s_unicode_utf8_ValidString_l2 : Nat → Str → Option Str
  | 0, _ => none
  | n_ + 1, s => s_unicode_utf8_ValidString_l2_b (s_unicode_utf8_ValidString_l2 n_) s

def s_unicode_utf8_ValidString_j2 (rec_ : Str → Option (Out Unit Bool)) (s : Str) (t39 : Bool) : Option (Out Unit Bool) :=
  bif t39 then (
    chk (within 16 (s.length : Int) (s.length : Int)) <|
    (s_unicode_utf8_ValidString_l2 big (s.drop ((16 : Int)).toNat)).bind fun x0 => s_unicode_utf8_ValidString_k4 rec_ x0
  ) else (
    s_unicode_utf8_ValidString_j5 rec_ s
  )

def s_unicode_utf8_ValidString_j1 (rec_ : Str → Option (Out Unit Bool)) (s : Str) (t24 : Bool) : Option (Out Unit Bool) :=
  bif t24 then (
    chk (within 8 (s.length : Int) (s.length : Int)) <|
    bif (decide (((s.drop ((8 : Int)).toNat).length : Int) > 16)) then (
      (s_unicode_utf8_word_string (s.drop ((8 : Int)).toNat)).bind fun q =>
      chk (within 8 ((s.drop ((8 : Int)).toNat).length : Int) ((s.drop ((8 : Int)).toNat).length : Int)) <|
      (s_unicode_utf8_word_string ((s.drop ((8 : Int)).toNat).drop ((8 : Int)).toNat)).bind fun q_1 =>
      s_unicode_utf8_ValidString_j2 rec_ (s.drop ((8 : Int)).toNat) ((andK .u64 (orK .u64 q q_1) 9259542123273814144) == 0)
    ) else (
      s_unicode_utf8_ValidString_j2 rec_ (s.drop ((8 : Int)).toNat) false
    )
  ) else (
    s_unicode_utf8_ValidString_j5 rec_ s
  )

def s_unicode_utf8_ValidString_l1_b (rec_ : Str → Option (Out Unit Bool)) (s : Str) : Option (Out Unit Bool) :=
  bif (decide ((s.length : Int) > 0)) then (
    (idx s 0).bind fun c =>
    bif (decide (((c.toNat : Nat) : Int) < 128)) then (
      chk (within 1 (s.length : Int) (s.length : Int)) <|
      bif (decide (((s.drop ((1 : Int)).toNat).length : Int) > 8)) then (
        (s_unicode_utf8_word_string (s.drop ((1 : Int)).toNat)).bind fun q =>
        s_unicode_utf8_ValidString_j1 rec_ (s.drop ((1 : Int)).toNat) ((andK .u64 q 9259542123273814144) == 0)
      ) else (
        s_unicode_utf8_ValidString_j1 rec_ (s.drop ((1 : Int)).toNat) false
      )
    ) else (
      chk (inR ((c.toNat : Nat) : Int) 256) <|
      (tabB (car := carU) (.int .u8) glob_utf8_first ((((c.toNat : Nat) : Int)).toNat * 1)).bind fun c_1 =>
      chk (decide (0 ≤ (4 : Int))) <|
      chk (inR (shrK .u8 c_1 4) 16) <|
      (tabB (car := carU) (.int .u8) glob_utf8_acceptRanges (((shrK .u8 c_1 4)).toNat * 2)).bind fun c_2 =>
      (tabB (car := carU) (.int .u8) glob_utf8_acceptRanges (((shrK .u8 c_1 4)).toNat * 2 + 1)).bind fun c_3 =>
      bif ((IntKind.wrap .i64 (andK .u8 c_1 7)) == 2) then (
        bif (decide ((s.length : Int) < 2)) then (
          s_unicode_utf8_ValidString_j6 rec_ s true
        ) else (
          (idx s 1).bind fun c_4 =>
          bif (decide (((c_4.toNat : Nat) : Int) < c_2)) then (
            s_unicode_utf8_ValidString_j6 rec_ s true
          ) else (
            (idx s 1).bind fun c_5 =>
            s_unicode_utf8_ValidString_j6 rec_ s (decide (c_3 < ((c_5.toNat : Nat) : Int)))
          )
        )
      ) else (
        bif ((IntKind.wrap .i64 (andK .u8 c_1 7)) == 3) then (
          bif (decide ((s.length : Int) < 3)) then (
            s_unicode_utf8_ValidString_j7 rec_ s true
          ) else (
            (idx s 1).bind fun c_6 =>
            bif (decide (((c_6.toNat : Nat) : Int) < c_2)) then (
              s_unicode_utf8_ValidString_j7 rec_ s true
            ) else (
              (idx s 1).bind fun c_7 =>
              bif (decide (c_3 < ((c_7.toNat : Nat) : Int))) then (
                s_unicode_utf8_ValidString_j7 rec_ s true
              ) else (
                (idx s 2).bind fun c_8 =>
                bif (decide (((c_8.toNat : Nat) : Int) < 128)) then (
                  s_unicode_utf8_ValidString_j7 rec_ s true
                ) else (
                  (idx s 2).bind fun c_9 =>
                  s_unicode_utf8_ValidString_j7 rec_ s (decide ((191 : Int) < ((c_9.toNat : Nat) : Int)))
                )
              )
            )
          )
        ) else (
          bif ((IntKind.wrap .i64 (andK .u8 c_1 7)) == 4) then (
            bif (decide ((s.length : Int) < 4)) then (
              s_unicode_utf8_ValidString_j8 rec_ s true
            ) else (
              (idx s 1).bind fun c_10 =>
              bif (decide (((c_10.toNat : Nat) : Int) < c_2)) then (
                s_unicode_utf8_ValidString_j8 rec_ s true
              ) else (
                (idx s 1).bind fun c_11 =>
                bif (decide (c_3 < ((c_11.toNat : Nat) : Int))) then (
                  s_unicode_utf8_ValidString_j8 rec_ s true
                ) else (
                  (idx s 2).bind fun c_12 =>
                  bif (decide (((c_12.toNat : Nat) : Int) < 128)) then (
                    s_unicode_utf8_ValidString_j8 rec_ s true
                  ) else (
                    (idx s 2).bind fun c_13 =>
                    bif (decide ((191 : Int) < ((c_13.toNat : Nat) : Int))) then (
                      s_unicode_utf8_ValidString_j8 rec_ s true
                    ) else (
                      (idx s 3).bind fun c_14 =>
                      bif (decide (((c_14.toNat : Nat) : Int) < 128)) then (
                        s_unicode_utf8_ValidString_j8 rec_ s true
                      ) else (
                        (idx s 3).bind fun c_15 =>
                        s_unicode_utf8_ValidString_j8 rec_ s (decide ((191 : Int) < ((c_15.toNat : Nat) : Int)))
                      )
                    )
                  )
                )
              )
            )
          ) else (
            some (.ret false)
          )
        )
      )
    )
  ) else (
    some (.brk ())
  )

def s_unicode_utf8_ValidString_l1 : Nat → Str → Option (Out Unit Bool)
  | 0, _ => none
  | n_ + 1, s => s_unicode_utf8_ValidString_l1_b (s_unicode_utf8_ValidString_l1 n_) s

def s_unicode_utf8_ValidString (s : Str) : Option Bool :=
  (s_unicode_utf8_ValidString_l1 big s).bind fun
    | .ret q_ => some q_
    | .brk () => s_unicode_utf8_ValidString_k9

/-! ### tablefinder/text.Valid -/

def s_text_Valid (s : Str) : Option Bool :=
  (s_unicode_utf8_ValidString s).bind fun q =>
  some q

/-! ### tablefinder/table.fine -/

def s_table_fine_j1 (t2 : Bool) : Option Bool :=
  some t2

def s_table_fine (s : Str) : Option Bool :=
  bif (decide ((s.length : Int) ≤ 1024)) then (
    (s_text_Valid s).bind fun q =>
    s_table_fine_j1 q
  ) else (
    s_table_fine_j1 false
  )

/-! ### tablefinder/table.ValidCell -/

def s_table_ValidCell_j1 (t2 : Bool) : Option Bool :=
  some t2

def s_table_ValidCell (c : G_api_Cell) : Option Bool :=
  (s_table_fine c.Text).bind fun q =>
  bif q then (
    bif c.Null then (
      s_table_ValidCell_j1 (!(!(c.Text == ([] : Str))))
    ) else (
      s_table_ValidCell_j1 true
    )
  ) else (
    s_table_ValidCell_j1 false
  )

/-! ### tablefinder/table.every[tablefinder/api.Cell] -/

def s_table_every_api_Cell_k1  : Option Bool :=
  some true

def s_table_every_api_Cell_l1_b (rec_ : (List G_api_Cell) → Int → Int → Option (Out Unit Bool)) (t7 : (List G_api_Cell)) (t8 : Int) (t9 : Int) : Option (Out Unit Bool) :=
  bif (decide (t9 < t8)) then (
    (idx t7 t9).bind fun x_ =>
    (s_table_ValidCell x_).bind fun q =>
    bif (!q) then (
      some (.ret false)
    ) else (
      chk (inK .i64 (t9 + 1)) <|
      rec_ t7 t8 (t9 + 1)
    )
  ) else (
    some (.brk ())
  )

def s_table_every_api_Cell_l1 : Nat → (List G_api_Cell) → Int → Int → Option (Out Unit Bool)
  | 0, _, _, _ => none
  | n_ + 1, t7, t8, t9 => s_table_every_api_Cell_l1_b (s_table_every_api_Cell_l1 n_) t7 t8 t9

def s_table_every_api_Cell (l : (List G_api_Cell)) : Option Bool :=
  (s_table_every_api_Cell_l1 big l (l.length : Int) (0 : Int)).bind fun
    | .ret q_ => some q_
    | .brk () => s_table_every_api_Cell_k1

/-! ### tablefinder/table.Valid$1 -/

def s_table_Valid_1_j1 (t3 : Bool) : Option Bool :=
  some t3

def s_table_Valid_1 (c : G_api_Column) (a1 : G_api_Table) : Option Bool :=
  (s_table_fine c.Name).bind fun q =>
  bif (!q) then (
    s_table_Valid_1_j1 true
  ) else (
    (s_table_Rows a1).bind fun q_1 =>
    bif ((c.Cells.length : Int) != q_1) then (
      s_table_Valid_1_j1 true
    ) else (
      (s_table_every_api_Cell c.Cells).bind fun q_2 =>
      s_table_Valid_1_j1 (!q_2)
    )
  )

/-! ### slices.IndexFunc[[]tablefinder/api.Column,tablefinder/api.Column] -/

def s_slices_IndexFunc_api_Column_api_Column_k1  : Option Int :=
  some (-1 : Int)

def s_slices_IndexFunc_api_Column_api_Column_l1_b (rec_ : (List G_api_Column) → G_api_Table → Int → Int → Option (Out Unit Int)) (s : (List G_api_Column)) (f : G_api_Table) (t7 : Int) (i : Int) : Option (Out Unit Int) :=
  bif (decide (i < t7)) then (
    (idx s i).bind fun s_e =>
    (s_table_Valid_1 s_e f).bind fun q =>
    bif q then (
      some (.ret i)
    ) else (
      chk (inK .i64 (i + 1)) <|
      rec_ s f t7 (i + 1)
    )
  ) else (
    some (.brk ())
  )

def s_slices_IndexFunc_api_Column_api_Column_l1 : Nat → (List G_api_Column) → G_api_Table → Int → Int → Option (Out Unit Int)
  | 0, _, _, _, _ => none
  | n_ + 1, s, f, t7, i => s_slices_IndexFunc_api_Column_api_Column_l1_b (s_slices_IndexFunc_api_Column_api_Column_l1 n_) s f t7 i

def s_slices_IndexFunc_api_Column_api_Column (s : (List G_api_Column)) (c : G_api_Table) : Option Int :=
  (s_slices_IndexFunc_api_Column_api_Column_l1 big s c (s.length : Int) (0 : Int)).bind fun
    | .ret q_ => some q_
    | .brk () => s_slices_IndexFunc_api_Column_api_Column_k1

/-! ### slices.ContainsFunc[[]tablefinder/api.Column,tablefinder/api.Column] -/

def s_slices_ContainsFunc_api_Column_api_Column (s : (List G_api_Column)) (c : G_api_Table) : Option Bool :=
  (s_slices_IndexFunc_api_Column_api_Column s c).bind fun q =>
  some (decide (q ≥ 0))

/-! ### tablefinder/table.Valid -/

def s_table_Valid_j1 (t27 : Bool) (t : G_api_Table) : Option Bool :=
  bif t27 then (
    some false
  ) else (
    (s_slices_ContainsFunc_api_Column_api_Column t.Columns t).bind fun q =>
    some (!q)
  )

def s_table_Valid (t : G_api_Table) : Option Bool :=
  bif (decide (t.ID < 0)) then (
    s_table_Valid_j1 true t
  ) else (
    bif (decide (t.ID > 1073741824)) then (
      s_table_Valid_j1 true t
    ) else (
      (s_table_fine t.Name).bind fun q =>
      bif (!q) then (
        s_table_Valid_j1 true t
      ) else (
        bif (decide ((t.Columns.length : Int) > 64)) then (
          s_table_Valid_j1 true t
        ) else (
          (s_table_Rows t).bind fun q_1 =>
          s_table_Valid_j1 (decide (q_1 > 4096)) t
        )
      )
    )
  )

/-! ### cmp.isNaN[string] -/

def s_cmp_isNaN_string (x_ : Str) : Option Bool :=
  some (!(x_ == x_))

/-! ### cmp.Compare[string] -/

def s_cmp_Compare_string (x_ : Str) (y : Str) : Option Int :=
  (s_cmp_isNaN_string x_).bind fun xNaN =>
  (s_cmp_isNaN_string y).bind fun yNaN =>
  bif xNaN then (
    bif yNaN then (
      some (0 : Int)
    ) else (
      some (-1 : Int)
    )
  ) else (
    bif yNaN then (
      some (1 : Int)
    ) else (
      bif (Op.bytesLess x_ y) then (
        some (-1 : Int)
      ) else (
        bif (!((Op.bytesLess x_ y) || x_ == y)) then (
          some (1 : Int)
        ) else (
          some (0 : Int)
        )
      )
    )
  )

/-! ### tablefinder/table.CompareCells -/

def s_table_CompareCells_j1 (t5 : Bool) (a : G_api_Cell) (b : G_api_Cell) : Option Int :=
  bif t5 then (
    some (0 : Int)
  ) else (
    bif a.Null then (
      some (-1 : Int)
    ) else (
      bif b.Null then (
        some (1 : Int)
      ) else (
        (s_cmp_Compare_string a.Text b.Text).bind fun q =>
        some q
      )
    )
  )

def s_table_CompareCells (a : G_api_Cell) (b : G_api_Cell) : Option Int :=
  bif a.Null then (
    s_table_CompareCells_j1 b.Null a b
  ) else (
    s_table_CompareCells_j1 false a b
  )

/-! ### tablefinder/table.Sort$1 -/

def s_table_Sort_1_k1  : Option Int :=
  some (0 : Int)

def s_table_Sort_1_l1_b (rec_ : Int → Int → (List G_api_Column) → Int → Int → Option (Out Unit Int)) (i : Int) (j : Int) (t10 : (List G_api_Column)) (t11 : Int) (t12 : Int) : Option (Out Unit Int) :=
  bif (decide (t12 < t11)) then (
    (idx t10 t12).bind fun c =>
    (idx c.Cells i).bind fun Cell =>
    (idx c.Cells j).bind fun Cell_1 =>
    (s_table_CompareCells Cell Cell_1).bind fun d =>
    bif (d != 0) then (
      some (.ret d)
    ) else (
      chk (inK .i64 (t12 + 1)) <|
      rec_ i j t10 t11 (t12 + 1)
    )
  ) else (
    some (.brk ())
  )

def s_table_Sort_1_l1 : Nat → Int → Int → (List G_api_Column) → Int → Int → Option (Out Unit Int)
  | 0, _, _, _, _, _ => none
  | n_ + 1, i, j, t10, t11, t12 => s_table_Sort_1_l1_b (s_table_Sort_1_l1 n_) i j t10 t11 t12

def s_table_Sort_1_l1_F (n : Nat) (s : (Int × Int × (List G_api_Column) × Int × Int)) : Option (Out Unit Int) := s_table_Sort_1_l1 n s.1 s.2.1 s.2.2.1 s.2.2.2.1 s.2.2.2.2
def s_table_Sort_1_l1_B (rec_ : (Int × Int × (List G_api_Column) × Int × Int) → Option (Out Unit Int)) (s : (Int × Int × (List G_api_Column) × Int × Int)) : Option (Out Unit Int) := s_table_Sort_1_l1_b (fun i j t10 t11 t12 => rec_ (i, j, t10, t11, t12)) s.1 s.2.1 s.2.2.1 s.2.2.2.1 s.2.2.2.2
theorem s_table_Sort_1_l1_FB : ∀ n s, s_table_Sort_1_l1_F (n + 1) s = s_table_Sort_1_l1_B (s_table_Sort_1_l1_F n) s := fun _ _ => rfl

def s_table_Sort_1 (i : Int) (j : Int) (a2 : G_api_Table) : Option Int :=
  (s_table_Sort_1_l1 big i j a2.Columns (a2.Columns.length : Int) (0 : Int)).bind fun
    | .ret q_ => some q_
    | .brk () => s_table_Sort_1_k1

/-! ### slices.insertionSortCmpFunc[int] -/

def s_slices_insertionSortCmpFunc_int_k3 (data : (List Int)) : Option (List Int) :=
  some data

def s_slices_insertionSortCmpFunc_int_k2 (rec_ : Int → Int → G_api_Table → Int → (List Int) → Option (List Int)) (a : Int) (b : Int) (cmp : G_api_Table) (i : Int) (data : (List Int)) : Option (List Int) :=
  chk (inK .i64 (i + 1)) <|
  rec_ a b cmp (i + 1) data

def s_slices_insertionSortCmpFunc_int_j1 (rec_ : Int → Int → G_api_Table → Int → Int → (List Int) → Option (Int × Int × G_api_Table × Int × (List Int))) (a : Int) (b : Int) (cmp : G_api_Table) (i : Int) (j : Int) (t34 : Bool) (data : (List Int)) : Option (Int × Int × G_api_Table × Int × (List Int)) :=
  bif t34 then (
    chk (inK .i64 (j - 1)) <|
    chk (inK .i64 (j - 1)) <|
    chk (inR (j - 1) (data.length : Int)) <|
    (data[((j - 1)).toNat]?).bind fun data_e =>
    chk (inR j (data.length : Int)) <|
    (data[(j).toNat]?).bind fun data_e_1 =>
    chk (inR j (data.length : Int)) <|
    chk (inR (j - 1) ((data.set ((j).toNat) data_e).length : Int)) <|
    chk (inK .i64 (j - 1)) <|
    rec_ a b cmp i (j - 1) ((data.set ((j).toNat) data_e).set (((j - 1)).toNat) data_e_1)
  ) else (
    some (a, b, cmp, i, data)
  )

def s_slices_insertionSortCmpFunc_int_l2_b (rec_ : Int → Int → G_api_Table → Int → Int → (List Int) → Option (Int × Int × G_api_Table × Int × (List Int))) (a : Int) (b : Int) (cmp : G_api_Table) (i : Int) (j : Int) (data : (List Int)) : Option (Int × Int × G_api_Table × Int × (List Int)) :=
  bif (decide (j > a)) then (
    chk (inR j (data.length : Int)) <|
    (data[(j).toNat]?).bind fun data_e =>
    chk (inK .i64 (j - 1)) <|
    chk (inR (j - 1) (data.length : Int)) <|
    (data[((j - 1)).toNat]?).bind fun data_e_1 =>
    (s_table_Sort_1 data_e data_e_1 cmp).bind fun q =>
    s_slices_insertionSortCmpFunc_int_j1 rec_ a b cmp i j (decide (q < 0)) data
  ) else (
    s_slices_insertionSortCmpFunc_int_j1 rec_ a b cmp i j false data
  )

def s_slices_insertionSortCmpFunc_int_l2 : Nat → Int → Int → G_api_Table → Int → Int → (List Int) → Option (Int × Int × G_api_Table × Int × (List Int))
  | 0, _, _, _, _, _, _ => none
  | n_ + 1, a, b, cmp, i, j, data => s_slices_insertionSortCmpFunc_int_l2_b (s_slices_insertionSortCmpFunc_int_l2 n_) a b cmp i j data

def s_slices_insertionSortCmpFunc_int_l2_F (n : Nat) (s : (Int × Int × G_api_Table × Int × Int × (List Int))) : Option (Int × Int × G_api_Table × Int × (List Int)) := s_slices_insertionSortCmpFunc_int_l2 n s.1 s.2.1 s.2.2.1 s.2.2.2.1 s.2.2.2.2.1 s.2.2.2.2.2
def s_slices_insertionSortCmpFunc_int_l2_B (rec_ : (Int × Int × G_api_Table × Int × Int × (List Int)) → Option (Int × Int × G_api_Table × Int × (List Int))) (s : (Int × Int × G_api_Table × Int × Int × (List Int))) : Option (Int × Int × G_api_Table × Int × (List Int)) := s_slices_insertionSortCmpFunc_int_l2_b (fun a b cmp i j data => rec_ (a, b, cmp, i, j, data)) s.1 s.2.1 s.2.2.1 s.2.2.2.1 s.2.2.2.2.1 s.2.2.2.2.2
theorem s_slices_insertionSortCmpFunc_int_l2_FB : ∀ n s, s_slices_insertionSortCmpFunc_int_l2_F (n + 1) s = s_slices_insertionSortCmpFunc_int_l2_B (s_slices_insertionSortCmpFunc_int_l2_F n) s := fun _ _ => rfl

def s_slices_insertionSortCmpFunc_int_l1_b (rec_ : Int → Int → G_api_Table → Int → (List Int) → Option (List Int)) (a : Int) (b : Int) (cmp : G_api_Table) (i : Int) (data : (List Int)) : Option (List Int) :=
  bif (decide (i < b)) then (
    (s_slices_insertionSortCmpFunc_int_l2 big a b cmp i i data).bind fun (x0, x1, x2, x3, x4) => s_slices_insertionSortCmpFunc_int_k2 rec_ x0 x1 x2 x3 x4
  ) else (
    some data
  )

def s_slices_insertionSortCmpFunc_int_l1 : Nat → Int → Int → G_api_Table → Int → (List Int) → Option (List Int)
  | 0, _, _, _, _, _ => none
  | n_ + 1, a, b, cmp, i, data => s_slices_insertionSortCmpFunc_int_l1_b (s_slices_insertionSortCmpFunc_int_l1 n_) a b cmp i data

def s_slices_insertionSortCmpFunc_int (data : (List Int)) (a : Int) (b : Int) (c : G_api_Table) : Option (List Int) :=
  chk (inK .i64 (a + 1)) <|
  (s_slices_insertionSortCmpFunc_int_l1 big a b c (a + 1) data).bind fun x0 => s_slices_insertionSortCmpFunc_int_k3 x0

def s_slices_insertionSortCmpFunc_int_w (data : (List Int)) (a : Int) (b : Int) (c : G_api_Table) : Option (List Int) :=
  (s_slices_insertionSortCmpFunc_int data a b c).bind fun r => chk (decide (r.length = data.length) && true) (some r)

/-! ### slices.stableCmpFunc[int] -/

def s_slices_stableCmpFunc_int_k3 (data : (List Int)) : Option (List Int) :=
  some data

def s_slices_stableCmpFunc_int_k2 (rec_ : Int → G_api_Table → Int → (List Int) → Option (List Int)) (n : Int) (cmp : G_api_Table) (blockSize : Int) (a : Int) (data : (List Int)) : Option (List Int) :=
  chk (inK .i64 (a + blockSize)) <|
  bif (decide ((a + blockSize) < n)) then (
    none
  ) else (
    chk (inK .i64 (blockSize * 2)) <|
    rec_ n cmp (blockSize * 2) data
  )

def s_slices_stableCmpFunc_int_l3_b (rec_ : Int → G_api_Table → Int → Int → Int → (List Int) → Option (Int × G_api_Table × Int × Int × (List Int))) (n : Int) (cmp : G_api_Table) (blockSize : Int) (a : Int) (b : Int) (data : (List Int)) : Option (Int × G_api_Table × Int × Int × (List Int)) :=
  bif (decide (b ≤ n)) then (
    chk (inK .i64 (a + blockSize)) <|
    none
  ) else (
    some (n, cmp, blockSize, a, data)
  )

def s_slices_stableCmpFunc_int_l3 : Nat → Int → G_api_Table → Int → Int → Int → (List Int) → Option (Int × G_api_Table × Int × Int × (List Int))
  | 0, _, _, _, _, _, _ => none
  | n_ + 1, n, cmp, blockSize, a, b, data => s_slices_stableCmpFunc_int_l3_b (s_slices_stableCmpFunc_int_l3 n_) n cmp blockSize a b data

def s_slices_stableCmpFunc_int_l2_b (rec_ : Int → G_api_Table → Int → (List Int) → Option (List Int)) (n : Int) (cmp : G_api_Table) (blockSize : Int) (data : (List Int)) : Option (List Int) :=
  bif (decide (blockSize < n)) then (
    chk (inK .i64 (2 * blockSize)) <|
    (s_slices_stableCmpFunc_int_l3 big n cmp blockSize (0 : Int) (2 * blockSize) data).bind fun (x0, x1, x2, x3, x4) => s_slices_stableCmpFunc_int_k2 rec_ x0 x1 x2 x3 x4
  ) else (
    some data
  )

def s_slices_stableCmpFunc_int_l2 : Nat → Int → G_api_Table → Int → (List Int) → Option (List Int)
  | 0, _, _, _, _ => none
  | n_ + 1, n, cmp, blockSize, data => s_slices_stableCmpFunc_int_l2_b (s_slices_stableCmpFunc_int_l2 n_) n cmp blockSize data

def s_slices_stableCmpFunc_int_k1 (n : Int) (cmp : G_api_Table) (blockSize : Int) (a : Int) (data : (List Int)) : Option (List Int) :=
  (s_slices_insertionSortCmpFunc_int_w data a n cmp).bind fun t23 =>
  (s_slices_stableCmpFunc_int_l2 big n cmp blockSize t23).bind fun x0 => s_slices_stableCmpFunc_int_k3 x0

def s_slices_stableCmpFunc_int_l1_b (rec_ : Int → G_api_Table → Int → Int → Int → (List Int) → Option (Int × G_api_Table × Int × Int × (List Int))) (n : Int) (cmp : G_api_Table) (blockSize : Int) (a : Int) (b : Int) (data : (List Int)) : Option (Int × G_api_Table × Int × Int × (List Int)) :=
  bif (decide (b ≤ n)) then (
    (s_slices_insertionSortCmpFunc_int_w data a b cmp).bind fun t14 =>
    chk (inK .i64 (b + blockSize)) <|
    rec_ n cmp blockSize b (b + blockSize) t14
  ) else (
    some (n, cmp, blockSize, a, data)
  )

def s_slices_stableCmpFunc_int_l1 : Nat → Int → G_api_Table → Int → Int → Int → (List Int) → Option (Int × G_api_Table × Int × Int × (List Int))
  | 0, _, _, _, _, _, _ => none
  | n_ + 1, n, cmp, blockSize, a, b, data => s_slices_stableCmpFunc_int_l1_b (s_slices_stableCmpFunc_int_l1 n_) n cmp blockSize a b data

def s_slices_stableCmpFunc_int (data : (List Int)) (n : Int) (c : G_api_Table) : Option (List Int) :=
  (s_slices_stableCmpFunc_int_l1 big n c (20 : Int) (0 : Int) (20 : Int) data).bind fun (x0, x1, x2, x3, x4) => s_slices_stableCmpFunc_int_k1 x0 x1 x2 x3 x4

def s_slices_stableCmpFunc_int_w (data : (List Int)) (n : Int) (c : G_api_Table) : Option (List Int) :=
  (s_slices_stableCmpFunc_int data n c).bind fun r => chk (decide (r.length = data.length) && true) (some r)

/-! ### slices.SortStableFunc[[]int,int] -/

def s_slices_SortStableFunc_int_int (x_ : (List Int)) (c : G_api_Table) : Option (List Int) :=
  (s_slices_stableCmpFunc_int_w x_ (x_.length : Int) c).bind fun t4 =>
  some t4

def s_slices_SortStableFunc_int_int_w (x_ : (List Int)) (c : G_api_Table) : Option (List Int) :=
  (s_slices_SortStableFunc_int_int x_ c).bind fun r => chk (decide (r.length = x_.length) && true) (some r)

/-! ### tablefinder/table.within$1 -/

def s_table_within_1_j1 (t3 : Bool) : Option Bool :=
  some t3

def s_table_within_1 (i : Int) (a1 : Int) : Option Bool :=
  bif (decide (i ≥ 0)) then (
    s_table_within_1_j1 (decide (i < a1))
  ) else (
    s_table_within_1_j1 false
  )

/-! ### tablefinder/table.every[int] -/

def s_table_every_int_k1  : Option Bool :=
  some true

def s_table_every_int_l1_b (rec_ : Int → (List Int) → Int → Int → Option (Out Unit Bool)) (holds : Int) (t7 : (List Int)) (t8 : Int) (t9 : Int) : Option (Out Unit Bool) :=
  bif (decide (t9 < t8)) then (
    (idx t7 t9).bind fun x_ =>
    (s_table_within_1 x_ holds).bind fun q =>
    bif (!q) then (
      some (.ret false)
    ) else (
      chk (inK .i64 (t9 + 1)) <|
      rec_ holds t7 t8 (t9 + 1)
    )
  ) else (
    some (.brk ())
  )

def s_table_every_int_l1 : Nat → Int → (List Int) → Int → Int → Option (Out Unit Bool)
  | 0, _, _, _, _ => none
  | n_ + 1, holds, t7, t8, t9 => s_table_every_int_l1_b (s_table_every_int_l1 n_) holds t7 t8 t9

def s_table_every_int_l1_F (n : Nat) (s : (Int × (List Int) × Int × Int)) : Option (Out Unit Bool) := s_table_every_int_l1 n s.1 s.2.1 s.2.2.1 s.2.2.2
def s_table_every_int_l1_B (rec_ : (Int × (List Int) × Int × Int) → Option (Out Unit Bool)) (s : (Int × (List Int) × Int × Int)) : Option (Out Unit Bool) := s_table_every_int_l1_b (fun holds t7 t8 t9 => rec_ (holds, t7, t8, t9)) s.1 s.2.1 s.2.2.1 s.2.2.2
theorem s_table_every_int_l1_FB : ∀ n s, s_table_every_int_l1_F (n + 1) s = s_table_every_int_l1_B (s_table_every_int_l1_F n) s := fun _ _ => rfl

def s_table_every_int (l : (List Int)) (c : Int) : Option Bool :=
  (s_table_every_int_l1 big c l (l.length : Int) (0 : Int)).bind fun
    | .ret q_ => some q_
    | .brk () => s_table_every_int_k1

/-! ### tablefinder/table.within -/

def s_table_within (l : (List Int)) (n : Int) : Option Bool :=
  (s_table_every_int l n).bind fun q =>
  some q

/-! ### tablefinder/table.Select$1 -/

def s_table_Select_1_k1 (t4 : Str) (out : Str) (t4_1 : (List G_api_Cell)) (out_1 : (List G_api_Cell)) : Option G_api_Column :=
  some (G_api_Column.mk out out_1)

def s_table_Select_1_l1_b (rec_ : Int → G_api_Table → (List Int) → Int → Int → Str → Str → (List G_api_Cell) → (List G_api_Cell) → Option (Str × Str × (List G_api_Cell) × (List G_api_Cell))) (k : Int) (t1 : G_api_Table) (t15 : (List Int)) (t16 : Int) (t17 : Int) (t4 : Str) (out : Str) (t4_1 : (List G_api_Cell)) (out_1 : (List G_api_Cell)) : Option (Str × Str × (List G_api_Cell) × (List G_api_Cell)) :=
  bif (decide (t17 < t16)) then (
    (idx t15 t17).bind fun i =>
    (idx t1.Columns k).bind fun Column =>
    (idx Column.Cells i).bind fun Cell =>
    chk (room (out_1.length + ([Cell] : (List G_api_Cell)).length) 24) <|
    chk (inK .i64 (t17 + 1)) <|
    rec_ k t1 t15 t16 (t17 + 1) t4 out t4_1 (out_1 ++ ([Cell] : (List G_api_Cell)))
  ) else (
    some (t4, out, t4_1, out_1)
  )

def s_table_Select_1_l1 : Nat → Int → G_api_Table → (List Int) → Int → Int → Str → Str → (List G_api_Cell) → (List G_api_Cell) → Option (Str × Str × (List G_api_Cell) × (List G_api_Cell))
  | 0, _, _, _, _, _, _, _, _, _ => none
  | n_ + 1, k, t1, t15, t16, t17, t4, out, t4_1, out_1 => s_table_Select_1_l1_b (s_table_Select_1_l1 n_) k t1 t15 t16 t17 t4 out t4_1 out_1

def s_table_Select_1_l1_F (n : Nat) (s : (Int × G_api_Table × (List Int) × Int × Int × Str × Str × (List G_api_Cell) × (List G_api_Cell))) : Option (Str × Str × (List G_api_Cell) × (List G_api_Cell)) := s_table_Select_1_l1 n s.1 s.2.1 s.2.2.1 s.2.2.2.1 s.2.2.2.2.1 s.2.2.2.2.2.1 s.2.2.2.2.2.2.1 s.2.2.2.2.2.2.2.1 s.2.2.2.2.2.2.2.2
def s_table_Select_1_l1_B (rec_ : (Int × G_api_Table × (List Int) × Int × Int × Str × Str × (List G_api_Cell) × (List G_api_Cell)) → Option (Str × Str × (List G_api_Cell) × (List G_api_Cell))) (s : (Int × G_api_Table × (List Int) × Int × Int × Str × Str × (List G_api_Cell) × (List G_api_Cell))) : Option (Str × Str × (List G_api_Cell) × (List G_api_Cell)) := s_table_Select_1_l1_b (fun k t1 t15 t16 t17 t4 out t4_1 out_1 => rec_ (k, t1, t15, t16, t17, t4, out, t4_1, out_1)) s.1 s.2.1 s.2.2.1 s.2.2.2.1 s.2.2.2.2.1 s.2.2.2.2.2.1 s.2.2.2.2.2.2.1 s.2.2.2.2.2.2.2.1 s.2.2.2.2.2.2.2.2
theorem s_table_Select_1_l1_FB : ∀ n s, s_table_Select_1_l1_F (n + 1) s = s_table_Select_1_l1_B (s_table_Select_1_l1_F n) s := fun _ _ => rfl

def s_table_Select_1 (k : Int) (a1 : G_api_Table) (a2 : (List Int)) : Option G_api_Column :=
  (idx a1.Columns k).bind fun Column =>
  (s_table_Select_1_l1 big k a1 a2 (a2.length : Int) (0 : Int) ([] : Str) Column.Name ([] : (List G_api_Cell)) ([] : (List G_api_Cell))).bind fun (x0, x1, x2, x3) => s_table_Select_1_k1 x0 x1 x2 x3

/-! ### tablefinder/table.with -/

def s_table_with_k1 (t6 : Int) (t6_1 : Str) (out : Int) (out_1 : Str) (t6_2 : (List G_api_Column)) (out_2 : (List G_api_Column)) : Option G_api_Table :=
  some (G_api_Table.mk out out_1 out_2)

def s_table_with_l1_b (rec_ : G_api_Table → (List Int) → Int → Int → Int → Str → Int → Str → (List G_api_Column) → (List G_api_Column) → Option (Int × Str × Int × Str × (List G_api_Column) × (List G_api_Column))) (get_ : G_api_Table) (get__1 : (List Int)) (t14 : Int) (k : Int) (t6 : Int) (t6_1 : Str) (out : Int) (out_1 : Str) (t6_2 : (List G_api_Column)) (out_2 : (List G_api_Column)) : Option (Int × Str × Int × Str × (List G_api_Column) × (List G_api_Column)) :=
  bif (decide (k < t14)) then (
    (s_table_Select_1 k get_ get__1).bind fun q =>
    chk (room (out_2.length + ([q] : (List G_api_Column)).length) 40) <|
    chk (inK .i64 (k + 1)) <|
    rec_ get_ get__1 t14 (k + 1) t6 t6_1 out out_1 t6_2 (out_2 ++ ([q] : (List G_api_Column)))
  ) else (
    some (t6, t6_1, out, out_1, t6_2, out_2)
  )

def s_table_with_l1 : Nat → G_api_Table → (List Int) → Int → Int → Int → Str → Int → Str → (List G_api_Column) → (List G_api_Column) → Option (Int × Str × Int × Str × (List G_api_Column) × (List G_api_Column))
  | 0, _, _, _, _, _, _, _, _, _, _ => none
  | n_ + 1, get_, get__1, t14, k, t6, t6_1, out, out_1, t6_2, out_2 => s_table_with_l1_b (s_table_with_l1 n_) get_ get__1 t14 k t6 t6_1 out out_1 t6_2 out_2

def s_table_with_l1_F (n : Nat) (s : (G_api_Table × (List Int) × Int × Int × Int × Str × Int × Str × (List G_api_Column) × (List G_api_Column))) : Option (Int × Str × Int × Str × (List G_api_Column) × (List G_api_Column)) := s_table_with_l1 n s.1 s.2.1 s.2.2.1 s.2.2.2.1 s.2.2.2.2.1 s.2.2.2.2.2.1 s.2.2.2.2.2.2.1 s.2.2.2.2.2.2.2.1 s.2.2.2.2.2.2.2.2.1 s.2.2.2.2.2.2.2.2.2
def s_table_with_l1_B (rec_ : (G_api_Table × (List Int) × Int × Int × Int × Str × Int × Str × (List G_api_Column) × (List G_api_Column)) → Option (Int × Str × Int × Str × (List G_api_Column) × (List G_api_Column))) (s : (G_api_Table × (List Int) × Int × Int × Int × Str × Int × Str × (List G_api_Column) × (List G_api_Column))) : Option (Int × Str × Int × Str × (List G_api_Column) × (List G_api_Column)) := s_table_with_l1_b (fun get_ get__1 t14 k t6 t6_1 out out_1 t6_2 out_2 => rec_ (get_, get__1, t14, k, t6, t6_1, out, out_1, t6_2, out_2)) s.1 s.2.1 s.2.2.1 s.2.2.2.1 s.2.2.2.2.1 s.2.2.2.2.2.1 s.2.2.2.2.2.2.1 s.2.2.2.2.2.2.2.1 s.2.2.2.2.2.2.2.2.1 s.2.2.2.2.2.2.2.2.2
theorem s_table_with_l1_FB : ∀ n s, s_table_with_l1_F (n + 1) s = s_table_with_l1_B (s_table_with_l1_F n) s := fun _ _ => rfl

def s_table_with (t : G_api_Table) (n : Int) (c : G_api_Table) (c_1 : (List Int)) : Option G_api_Table :=
  (s_table_with_l1 big c c_1 n (0 : Int) (0 : Int) ([] : Str) t.ID t.Name ([] : (List G_api_Column)) ([] : (List G_api_Column))).bind fun (x0, x1, x2, x3, x4, x5) => s_table_with_k1 x0 x1 x2 x3 x4 x5

/-! ### tablefinder/table.Select -/

def s_table_Select (t : G_api_Table) (rows : (List Int)) : Option (G_api_Table × Int) :=
  (s_table_Valid t).bind fun q =>
  bif (!q) then (
    some ((G_api_Table.mk 0 ([] : Str) ([] : (List G_api_Column))), 1)
  ) else (
    (s_table_Rows t).bind fun q_1 =>
    (s_table_within rows q_1).bind fun q_2 =>
    bif (!q_2) then (
      some ((G_api_Table.mk 0 ([] : Str) ([] : (List G_api_Column))), 2)
    ) else (
      bif (decide ((rows.length : Int) > 4096)) then (
        some ((G_api_Table.mk 0 ([] : Str) ([] : (List G_api_Column))), 3)
      ) else (
        (s_table_with t (t.Columns.length : Int) t rows).bind fun q_3 =>
        some (q_3, 0)
      )
    )
  )

/-! ### tablefinder/table.Sort -/

def s_table_Sort_j2 (t : G_api_Table) (t2 : Int) (t2_1 : Str) (order : (List Int)) (t2_2 : (List G_api_Column)) : Option (G_api_Table × Int) :=
  (s_table_Select t order).bind fun (q, q_1) =>
  some (q, q_1)

def s_table_Sort_k1 (t : G_api_Table) (t2 : Int) (t2_1 : Str) (order : (List Int)) (t2_2 : (List G_api_Column)) : Option (G_api_Table × Int) :=
  (s_table_Valid t).bind fun q =>
  bif q then (
    (s_slices_SortStableFunc_int_int_w order t).bind fun t21 =>
    s_table_Sort_j2 t t2 t2_1 t21 t2_2
  ) else (
    s_table_Sort_j2 t t2 t2_1 order t2_2
  )

def s_table_Sort_l1_b (rec_ : Int → Int → G_api_Table → Int → Str → (List Int) → (List G_api_Column) → Option (G_api_Table × Int × Str × (List Int) × (List G_api_Column))) (t10 : Int) (i : Int) (t : G_api_Table) (t2 : Int) (t2_1 : Str) (order : (List Int)) (t2_2 : (List G_api_Column)) : Option (G_api_Table × Int × Str × (List Int) × (List G_api_Column)) :=
  bif (decide (i < t10)) then (
    chk (inR i (order.length : Int)) <|
    chk (inK .i64 (i + 1)) <|
    rec_ t10 (i + 1) t t2 t2_1 (order.set ((i).toNat) i) t2_2
  ) else (
    some (t, t2, t2_1, order, t2_2)
  )

def s_table_Sort_l1 : Nat → Int → Int → G_api_Table → Int → Str → (List Int) → (List G_api_Column) → Option (G_api_Table × Int × Str × (List Int) × (List G_api_Column))
  | 0, _, _, _, _, _, _, _ => none
  | n_ + 1, t10, i, t, t2, t2_1, order, t2_2 => s_table_Sort_l1_b (s_table_Sort_l1 n_) t10 i t t2 t2_1 order t2_2

def s_table_Sort_l1_F (n : Nat) (s : (Int × Int × G_api_Table × Int × Str × (List Int) × (List G_api_Column))) : Option (G_api_Table × Int × Str × (List Int) × (List G_api_Column)) := s_table_Sort_l1 n s.1 s.2.1 s.2.2.1 s.2.2.2.1 s.2.2.2.2.1 s.2.2.2.2.2.1 s.2.2.2.2.2.2
def s_table_Sort_l1_B (rec_ : (Int × Int × G_api_Table × Int × Str × (List Int) × (List G_api_Column)) → Option (G_api_Table × Int × Str × (List Int) × (List G_api_Column))) (s : (Int × Int × G_api_Table × Int × Str × (List Int) × (List G_api_Column))) : Option (G_api_Table × Int × Str × (List Int) × (List G_api_Column)) := s_table_Sort_l1_b (fun t10 i t t2 t2_1 order t2_2 => rec_ (t10, i, t, t2, t2_1, order, t2_2)) s.1 s.2.1 s.2.2.1 s.2.2.2.1 s.2.2.2.2.1 s.2.2.2.2.2.1 s.2.2.2.2.2.2
theorem s_table_Sort_l1_FB : ∀ n s, s_table_Sort_l1_F (n + 1) s = s_table_Sort_l1_B (s_table_Sort_l1_F n) s := fun _ _ => rfl

def s_table_Sort (t : G_api_Table) : Option (G_api_Table × Int) :=
  (s_table_Rows t).bind fun q =>
  chk (mkOk q q 8) <|
  (s_table_Sort_l1 big ((List.replicate (q).toNat (0 : Int)).length : Int) (0 : Int) t (0 : Int) ([] : Str) (List.replicate (q).toNat (0 : Int)) ([] : (List G_api_Column))).bind fun (x0, x1, x2, x3, x4) => s_table_Sort_k1 x0 x1 x2 x3 x4

/-! ### tablefinder/tablefinderlaw03.sane -/

def s_tablefinderlaw03_sane_j1 (t0 : Bool) : Option Bool :=
  some t0

def s_tablefinderlaw03_sane  : Option Bool :=
  (s_table_Sort (G_api_Table.mk 0 ([] : Str) ([(G_api_Column.mk ([] : Str) ([(G_api_Cell.mk false ([98] : Str)), (G_api_Cell.mk true ([] : Str)), (G_api_Cell.mk false ([97] : Str))] : (List G_api_Cell))), (G_api_Column.mk ([] : Str) ([(G_api_Cell.mk false ([49] : Str)), (G_api_Cell.mk false ([50] : Str)), (G_api_Cell.mk false ([51] : Str))] : (List G_api_Cell)))] : (List G_api_Column)))).bind fun (x_, e) =>
  bif (e == 0) then (
    (s_table_Valid (G_api_Table.mk 0 ([] : Str) ([(G_api_Column.mk ([] : Str) ([(G_api_Cell.mk false ([98] : Str)), (G_api_Cell.mk true ([] : Str)), (G_api_Cell.mk false ([97] : Str))] : (List G_api_Cell))), (G_api_Column.mk ([] : Str) ([(G_api_Cell.mk false ([49] : Str)), (G_api_Cell.mk false ([50] : Str)), (G_api_Cell.mk false ([51] : Str))] : (List G_api_Cell)))] : (List G_api_Column)))).bind fun q =>
    bif q then (
      (s_table_Rows x_).bind fun q_1 =>
      bif (q_1 == 3) then (
        (idx x_.Columns 0).bind fun Column =>
        (idx Column.Cells 0).bind fun Cell =>
        bif Cell.Null then (
          (idx x_.Columns 1).bind fun Column_1 =>
          (idx Column_1.Cells 1).bind fun Cell_1 =>
          s_tablefinderlaw03_sane_j1 (Cell_1.Text == ([51] : Str))
        ) else (
          s_tablefinderlaw03_sane_j1 false
        )
      ) else (
        s_tablefinderlaw03_sane_j1 false
      )
    ) else (
      s_tablefinderlaw03_sane_j1 false
    )
  ) else (
    s_tablefinderlaw03_sane_j1 false
  )

/-! ### tablefinder/tablefindermill.New -/

def s_tablefindermill_New_j1 (seeds : (List Int)) : Option G_tablefindermill_Dice :=
  some (G_tablefindermill_Dice.mk seeds 0)

def s_tablefindermill_New (seeds : (List Int)) : Option G_tablefindermill_Dice :=
  bif (decide ((seeds.length : Int) > 300)) then (
    chk (within 0 300 (seeds.length : Int)) <|
    s_tablefindermill_New_j1 (seeds.take ((300 : Int)).toNat)
  ) else (
    s_tablefindermill_New_j1 seeds
  )

/-! ### (*tablefinder/tablefindermill.Dice).Pick -/

def s_tablefindermill_Dice_Pick (d : G_tablefindermill_Dice) (n : Int) : Option (Int × G_tablefindermill_Dice) :=
  bif (decide (d.at_ ≥ (d.seeds.length : Int))) then (
    some (0, d)
  ) else (
    chk (inK .i64 (d.at_ + 1)) <|
    chk (inK .i64 ((d.at_ + 1) - 1)) <|
    (idx d.seeds ((d.at_ + 1) - 1)).bind fun seed =>
    chk (decide (n ≠ 0)) <|
    some ((Int.tmod (IntKind.wrap .i64 seed) n), (G_tablefindermill_Dice.mk d.seeds (d.at_ + 1)))
  )

/-! ### tablefinder/tablefindermill.Words -/

def s_tablefindermill_Words  : Option (List Str) :=
  some ([([97, 110, 110] : Str), ([98, 111, 98] : Str), ([99, 121] : Str), ([66, 101, 114, 110] : Str), ([85, 108, 109] : Str), ([78, 101, 119, 32, 89, 111, 114, 107] : Str), ([121, 111, 114, 107, 32, 110, 101, 119] : Str), ([97, 45, 49] : Str), ([98, 45, 50, 50] : Str), ([120] : Str), ([122, 195, 188, 114, 105, 99, 104] : Str), ([65, 110, 110] : Str), ([98, 111] : Str), ([99, 97, 116] : Str), ([98, 97, 116] : Str), ([114, 97, 116] : Str)] : (List Str))

/-! ### (*tablefinder/tablefindermill.Dice).Cell -/

def s_tablefindermill_Dice_Cell (d : G_tablefindermill_Dice) : Option (G_api_Cell × G_tablefindermill_Dice) :=
  (s_tablefindermill_Dice_Pick d 7).bind fun (q, t3) =>
  bif (q == 0) then (
    some ((G_api_Cell.mk true ([] : Str)), t3)
  ) else (
    (s_tablefindermill_Words).bind fun q_1 =>
    (s_tablefindermill_Words).bind fun q_2 =>
    (s_tablefindermill_Dice_Pick t3 3).bind fun (q_3, t12) =>
    chk (inR q_3 (([3, 6, (q_2.length : Int)] : (List Int)).length : Int)) <|
    (([3, 6, (q_2.length : Int)] : (List Int))[(q_3).toNat]?).bind fun Int_e =>
    (s_tablefindermill_Dice_Pick t12 Int_e).bind fun (q_4, t8) =>
    chk (inR q_4 (q_1.length : Int)) <|
    (q_1[(q_4).toNat]?).bind fun q_e =>
    some ((G_api_Cell.mk false q_e), t8)
  )

/-! ### strconv.Itoa -/

def s_strconv_Itoa (n : Int) : Option Str :=
  some (Lib.itoa n)

/-! ### (*tablefinder/tablefindermill.Dice).Column -/

def s_tablefindermill_Dice_Column_k3 (d : G_tablefindermill_Dice) (t4 : Str) (c : Str) (t4_1 : (List G_api_Cell)) (c_1 : (List G_api_Cell)) : Option (G_api_Column × G_tablefindermill_Dice) :=
  some ((G_api_Column.mk c c_1), d)

def s_tablefindermill_Dice_Column_j2 (rec_ : Int → Bool → Int → G_tablefindermill_Dice → Str → Str → (List G_api_Cell) → (List G_api_Cell) → Option (G_tablefindermill_Dice × Str × Str × (List G_api_Cell) × (List G_api_Cell))) (rows : Int) (numbers : Bool) (n : Int) (d : G_tablefindermill_Dice) (t4 : Str) (c : Str) (x_ : G_api_Cell) (t4_1 : (List G_api_Cell)) (c_1 : (List G_api_Cell)) : Option (G_tablefindermill_Dice × Str × Str × (List G_api_Cell) × (List G_api_Cell)) :=
  chk (room (c_1.length + ([x_] : (List G_api_Cell)).length) 24) <|
  chk (inK .i64 (n + 1)) <|
  rec_ rows numbers (n + 1) d t4 c t4_1 (c_1 ++ ([x_] : (List G_api_Cell)))

def s_tablefindermill_Dice_Column_j1 (rec_ : Int → Bool → Int → G_tablefindermill_Dice → Str → Str → (List G_api_Cell) → (List G_api_Cell) → Option (G_tablefindermill_Dice × Str × Str × (List G_api_Cell) × (List G_api_Cell))) (rows : Int) (numbers : Bool) (n : Int) (t30 : Bool) (d : G_tablefindermill_Dice) (t4 : Str) (c : Str) (x_ : G_api_Cell) (t4_1 : (List G_api_Cell)) (c_1 : (List G_api_Cell)) : Option (G_tablefindermill_Dice × Str × Str × (List G_api_Cell) × (List G_api_Cell)) :=
  bif t30 then (
    (s_tablefindermill_Dice_Pick d 9).bind fun (q, t31) =>
    (s_strconv_Itoa q).bind fun q_1 =>
    s_tablefindermill_Dice_Column_j2 rec_ rows numbers n t31 t4 c (G_api_Cell.mk x_.Null q_1) t4_1 c_1
  ) else (
    s_tablefindermill_Dice_Column_j2 rec_ rows numbers n d t4 c x_ t4_1 c_1
  )

def s_tablefindermill_Dice_Column_l1_b (rec_ : Int → Bool → Int → G_tablefindermill_Dice → Str → Str → (List G_api_Cell) → (List G_api_Cell) → Option (G_tablefindermill_Dice × Str × Str × (List G_api_Cell) × (List G_api_Cell))) (rows : Int) (numbers : Bool) (n : Int) (d : G_tablefindermill_Dice) (t4 : Str) (c : Str) (t4_1 : (List G_api_Cell)) (c_1 : (List G_api_Cell)) : Option (G_tablefindermill_Dice × Str × Str × (List G_api_Cell) × (List G_api_Cell)) :=
  bif (decide (n < rows)) then (
    (s_tablefindermill_Dice_Cell d).bind fun (x_, t23) =>
    bif numbers then (
      s_tablefindermill_Dice_Column_j1 rec_ rows numbers n (!x_.Null) t23 t4 c x_ t4_1 c_1
    ) else (
      s_tablefindermill_Dice_Column_j1 rec_ rows numbers n false t23 t4 c x_ t4_1 c_1
    )
  ) else (
    some (d, t4, c, t4_1, c_1)
  )

def s_tablefindermill_Dice_Column_l1 : Nat → Int → Bool → Int → G_tablefindermill_Dice → Str → Str → (List G_api_Cell) → (List G_api_Cell) → Option (G_tablefindermill_Dice × Str × Str × (List G_api_Cell) × (List G_api_Cell))
  | 0, _, _, _, _, _, _, _, _ => none
  | n_ + 1, rows, numbers, n, d, t4, c, t4_1, c_1 => s_tablefindermill_Dice_Column_l1_b (s_tablefindermill_Dice_Column_l1 n_) rows numbers n d t4 c t4_1 c_1

def s_tablefindermill_Dice_Column_l1_F (n : Nat) (s : (Int × Bool × Int × G_tablefindermill_Dice × Str × Str × (List G_api_Cell) × (List G_api_Cell))) : Option (G_tablefindermill_Dice × Str × Str × (List G_api_Cell) × (List G_api_Cell)) := s_tablefindermill_Dice_Column_l1 n s.1 s.2.1 s.2.2.1 s.2.2.2.1 s.2.2.2.2.1 s.2.2.2.2.2.1 s.2.2.2.2.2.2.1 s.2.2.2.2.2.2.2
def s_tablefindermill_Dice_Column_l1_B (rec_ : (Int × Bool × Int × G_tablefindermill_Dice × Str × Str × (List G_api_Cell) × (List G_api_Cell)) → Option (G_tablefindermill_Dice × Str × Str × (List G_api_Cell) × (List G_api_Cell))) (s : (Int × Bool × Int × G_tablefindermill_Dice × Str × Str × (List G_api_Cell) × (List G_api_Cell))) : Option (G_tablefindermill_Dice × Str × Str × (List G_api_Cell) × (List G_api_Cell)) := s_tablefindermill_Dice_Column_l1_b (fun rows numbers n d t4 c t4_1 c_1 => rec_ (rows, numbers, n, d, t4, c, t4_1, c_1)) s.1 s.2.1 s.2.2.1 s.2.2.2.1 s.2.2.2.2.1 s.2.2.2.2.2.1 s.2.2.2.2.2.2.1 s.2.2.2.2.2.2.2
theorem s_tablefindermill_Dice_Column_l1_FB : ∀ n s, s_tablefindermill_Dice_Column_l1_F (n + 1) s = s_tablefindermill_Dice_Column_l1_B (s_tablefindermill_Dice_Column_l1_F n) s := fun _ _ => rfl

def s_tablefindermill_Dice_Column (d : G_tablefindermill_Dice) (rows : Int) : Option (G_api_Column × G_tablefindermill_Dice) :=
  (s_tablefindermill_Dice_Pick d 4).bind fun (q, t10) =>
  chk (inR q (([([110, 97, 109, 101] : Str), ([99, 105, 116, 121] : Str), ([99] : Str), ([] : Str)] : (List Str)).length : Int)) <|
  (([([110, 97, 109, 101] : Str), ([99, 105, 116, 121] : Str), ([99] : Str), ([] : Str)] : (List Str))[(q).toNat]?).bind fun Str_e =>
  (s_tablefindermill_Dice_Pick t10 4).bind fun (q_1, t15) =>
  (s_tablefindermill_Dice_Column_l1 big rows (q_1 == 0) (0 : Int) t15 ([] : Str) Str_e ([] : (List G_api_Cell)) ([] : (List G_api_Cell))).bind fun (x0, x1, x2, x3, x4) => s_tablefindermill_Dice_Column_k3 x0 x1 x2 x3 x4

/-! ### (*tablefinder/tablefindermill.Dice).Table -/

def s_tablefindermill_Dice_Table_k1 (d : G_tablefindermill_Dice) (t8 : Int) (t8_1 : Str) (t : Int) (t_1 : Str) (t8_2 : (List G_api_Column)) (t_2 : (List G_api_Column)) : Option (G_api_Table × G_tablefindermill_Dice) :=
  some ((G_api_Table.mk t t_1 t_2), d)

def s_tablefindermill_Dice_Table_l1_b (rec_ : Int → Int → G_tablefindermill_Dice → Int → Str → Int → Str → (List G_api_Column) → (List G_api_Column) → Option (G_tablefindermill_Dice × Int × Str × Int × Str × (List G_api_Column) × (List G_api_Column))) (n : Int) (k : Int) (d : G_tablefindermill_Dice) (t8 : Int) (t8_1 : Str) (t : Int) (t_1 : Str) (t8_2 : (List G_api_Column)) (t_2 : (List G_api_Column)) : Option (G_tablefindermill_Dice × Int × Str × Int × Str × (List G_api_Column) × (List G_api_Column)) :=
  bif (decide (k > 0)) then (
    (s_tablefindermill_Dice_Column d n).bind fun (q, t33) =>
    chk (room (t_2.length + ([q] : (List G_api_Column)).length) 40) <|
    chk (inK .i64 (k - 1)) <|
    rec_ n (k - 1) t33 t8 t8_1 t t_1 t8_2 (t_2 ++ ([q] : (List G_api_Column)))
  ) else (
    some (d, t8, t8_1, t, t_1, t8_2, t_2)
  )

def s_tablefindermill_Dice_Table_l1 : Nat → Int → Int → G_tablefindermill_Dice → Int → Str → Int → Str → (List G_api_Column) → (List G_api_Column) → Option (G_tablefindermill_Dice × Int × Str × Int × Str × (List G_api_Column) × (List G_api_Column))
  | 0, _, _, _, _, _, _, _, _, _ => none
  | n_ + 1, n, k, d, t8, t8_1, t, t_1, t8_2, t_2 => s_tablefindermill_Dice_Table_l1_b (s_tablefindermill_Dice_Table_l1 n_) n k d t8 t8_1 t t_1 t8_2 t_2

def s_tablefindermill_Dice_Table_l1_F (n : Nat) (s : (Int × Int × G_tablefindermill_Dice × Int × Str × Int × Str × (List G_api_Column) × (List G_api_Column))) : Option (G_tablefindermill_Dice × Int × Str × Int × Str × (List G_api_Column) × (List G_api_Column)) := s_tablefindermill_Dice_Table_l1 n s.1 s.2.1 s.2.2.1 s.2.2.2.1 s.2.2.2.2.1 s.2.2.2.2.2.1 s.2.2.2.2.2.2.1 s.2.2.2.2.2.2.2.1 s.2.2.2.2.2.2.2.2
def s_tablefindermill_Dice_Table_l1_B (rec_ : (Int × Int × G_tablefindermill_Dice × Int × Str × Int × Str × (List G_api_Column) × (List G_api_Column)) → Option (G_tablefindermill_Dice × Int × Str × Int × Str × (List G_api_Column) × (List G_api_Column))) (s : (Int × Int × G_tablefindermill_Dice × Int × Str × Int × Str × (List G_api_Column) × (List G_api_Column))) : Option (G_tablefindermill_Dice × Int × Str × Int × Str × (List G_api_Column) × (List G_api_Column)) := s_tablefindermill_Dice_Table_l1_b (fun n k d t8 t8_1 t t_1 t8_2 t_2 => rec_ (n, k, d, t8, t8_1, t, t_1, t8_2, t_2)) s.1 s.2.1 s.2.2.1 s.2.2.2.1 s.2.2.2.2.1 s.2.2.2.2.2.1 s.2.2.2.2.2.2.1 s.2.2.2.2.2.2.2.1 s.2.2.2.2.2.2.2.2
theorem s_tablefindermill_Dice_Table_l1_FB : ∀ n s, s_tablefindermill_Dice_Table_l1_F (n + 1) s = s_tablefindermill_Dice_Table_l1_B (s_tablefindermill_Dice_Table_l1_F n) s := fun _ _ => rfl

def s_tablefindermill_Dice_Table (d : G_tablefindermill_Dice) (id : Int) (columns : Int) (rows : Int) : Option (G_api_Table × G_tablefindermill_Dice) :=
  (s_tablefindermill_Dice_Pick d 3).bind fun (q, t14) =>
  chk (inR q (([([116] : Str), ([112, 101, 111, 112, 108, 101] : Str), ([112, 108, 97, 99, 101, 115] : Str)] : (List Str)).length : Int)) <|
  (([([116] : Str), ([112, 101, 111, 112, 108, 101] : Str), ([112, 108, 97, 99, 101, 115] : Str)] : (List Str))[(q).toNat]?).bind fun Str_e =>
  chk (inK .i64 (rows + 1)) <|
  (s_tablefindermill_Dice_Pick t14 (rows + 1)).bind fun (n, t19) =>
  chk (inK .i64 (columns + 1)) <|
  (s_tablefindermill_Dice_Pick t19 (columns + 1)).bind fun (k, t23) =>
  (s_tablefindermill_Dice_Table_l1 big n k t23 (0 : Int) ([] : Str) id Str_e ([] : (List G_api_Column)) ([] : (List G_api_Column))).bind fun (x0, x1, x2, x3, x4, x5, x6) => s_tablefindermill_Dice_Table_k1 x0 x1 x2 x3 x4 x5 x6

/-! ### (*tablefinder/tablefindermill.Dice).List -/

def s_tablefindermill_Dice_List_k1 (d : G_tablefindermill_Dice) (out : (List G_api_Table)) : Option ((List G_api_Table) × G_tablefindermill_Dice) :=
  some (out, d)

def s_tablefindermill_Dice_List_l1_b (rec_ : Int → Int → Int → Int → G_tablefindermill_Dice → (List G_api_Table) → Option (G_tablefindermill_Dice × (List G_api_Table))) (columns : Int) (rows : Int) (id : Int) (n : Int) (d : G_tablefindermill_Dice) (out : (List G_api_Table)) : Option (G_tablefindermill_Dice × (List G_api_Table)) :=
  bif (decide (n > 0)) then (
    (s_tablefindermill_Dice_Table d id columns rows).bind fun (q, t23) =>
    chk (room (out.length + ([q] : (List G_api_Table)).length) 48) <|
    (s_tablefindermill_Dice_Pick t23 3).bind fun (q_1, t31) =>
    chk (inK .i64 (1 + q_1)) <|
    chk (inK .i64 (id + (1 + q_1))) <|
    chk (inK .i64 (n - 1)) <|
    rec_ columns rows (id + (1 + q_1)) (n - 1) t31 (out ++ ([q] : (List G_api_Table)))
  ) else (
    some (d, out)
  )

def s_tablefindermill_Dice_List_l1 : Nat → Int → Int → Int → Int → G_tablefindermill_Dice → (List G_api_Table) → Option (G_tablefindermill_Dice × (List G_api_Table))
  | 0, _, _, _, _, _, _ => none
  | n_ + 1, columns, rows, id, n, d, out => s_tablefindermill_Dice_List_l1_b (s_tablefindermill_Dice_List_l1 n_) columns rows id n d out

def s_tablefindermill_Dice_List_l1_F (n : Nat) (s : (Int × Int × Int × Int × G_tablefindermill_Dice × (List G_api_Table))) : Option (G_tablefindermill_Dice × (List G_api_Table)) := s_tablefindermill_Dice_List_l1 n s.1 s.2.1 s.2.2.1 s.2.2.2.1 s.2.2.2.2.1 s.2.2.2.2.2
def s_tablefindermill_Dice_List_l1_B (rec_ : (Int × Int × Int × Int × G_tablefindermill_Dice × (List G_api_Table)) → Option (G_tablefindermill_Dice × (List G_api_Table))) (s : (Int × Int × Int × Int × G_tablefindermill_Dice × (List G_api_Table))) : Option (G_tablefindermill_Dice × (List G_api_Table)) := s_tablefindermill_Dice_List_l1_b (fun columns rows id n d out => rec_ (columns, rows, id, n, d, out)) s.1 s.2.1 s.2.2.1 s.2.2.2.1 s.2.2.2.2.1 s.2.2.2.2.2
theorem s_tablefindermill_Dice_List_l1_FB : ∀ n s, s_tablefindermill_Dice_List_l1_F (n + 1) s = s_tablefindermill_Dice_List_l1_B (s_tablefindermill_Dice_List_l1_F n) s := fun _ _ => rfl

def s_tablefindermill_Dice_List (d : G_tablefindermill_Dice) (tables : Int) (columns : Int) (rows : Int) : Option ((List G_api_Table) × G_tablefindermill_Dice) :=
  (s_tablefindermill_Dice_Pick d 3).bind fun (id, t12) =>
  chk (inK .i64 (tables + 1)) <|
  (s_tablefindermill_Dice_Pick t12 (tables + 1)).bind fun (n, t14) =>
  (s_tablefindermill_Dice_List_l1 big columns rows id n t14 ([] : (List G_api_Table))).bind fun (x0, x1) => s_tablefindermill_Dice_List_k1 x0 x1

/-! ### tablefinder/tablefindermill.Mod -/

def s_tablefindermill_Mod_j1 (r_ : Int) : Option Int :=
  some r_

def s_tablefindermill_Mod (v_ : Int) (n : Int) : Option Int :=
  chk (decide (n ≠ 0)) <|
  bif (decide ((Int.tmod v_ n) < 0)) then (
    chk (inK .i64 ((Int.tmod v_ n) + n)) <|
    s_tablefindermill_Mod_j1 ((Int.tmod v_ n) + n)
  ) else (
    s_tablefindermill_Mod_j1 (Int.tmod v_ n)
  )

/-! ### tablefinder/tablefinderlaw03.odd -/

def s_tablefinderlaw03_odd_j2 (t : Int) (t_1 : Str) (t6 : Int) (t6_1 : Str) (t_2 : (List G_api_Column)) (t6_2 : (List G_api_Column)) : Option G_api_Table :=
  some (G_api_Table.mk t t_1 t_2)

def s_tablefinderlaw03_odd_j1 (at_ : Int) (k : Int) (t102 : Bool) (t : Int) (t_1 : Str) (t6 : Int) (t6_1 : Str) (t_2 : (List G_api_Column)) (t6_2 : (List G_api_Column)) : Option G_api_Table :=
  bif t102 then (
    chk (inR k (t_2.length : Int)) <|
    (t_2[(k).toNat]?).bind fun t_e =>
    chk (room (([] : (List G_api_Cell)).length + t_e.Cells.length) 24) <|
    chk (decide ((5 : Int) ≠ 0)) <|
    chk (inK .i64 (Int.tdiv at_ 5)) <|
    (s_tablefindermill_Mod (Int.tdiv at_ 5) ((([] : (List G_api_Cell)) ++ t_e.Cells).length : Int)).bind fun q =>
    (s_tablefindermill_Mod at_ 2).bind fun q_1 =>
    chk (mkOk 1025 1025 1) <|
    chk (decide ((2 : Int) ≠ 0)) <|
    chk (inK .i64 (Int.tdiv at_ 2)) <|
    (s_tablefindermill_Mod (Int.tdiv at_ 2) 3).bind fun q_2 =>
    chk (inR q_2 (([([120] : Str), ([195] : Str), ((List.replicate ((1025 : Int)).toNat (0 : Int)).map fun n => UInt8.ofNat (Int.toNat n))] : (List Str)).length : Int)) <|
    (([([120] : Str), ([195] : Str), ((List.replicate ((1025 : Int)).toNat (0 : Int)).map fun n => UInt8.ofNat (Int.toNat n))] : (List Str))[(q_2).toNat]?).bind fun Str_e =>
    chk (inR q ((([] : (List G_api_Cell)) ++ t_e.Cells).length : Int)) <|
    chk (inR k (t_2.length : Int)) <|
    (t_2[(k).toNat]?).bind fun el =>
    s_tablefinderlaw03_odd_j2 t t_1 t6 t6_1 (t_2.set ((k).toNat) (G_api_Column.mk el.Name ((([] : (List G_api_Cell)) ++ t_e.Cells).set ((q).toNat) (G_api_Cell.mk (q_1 == 0) Str_e)))) t6_2
  ) else (
    s_tablefinderlaw03_odd_j2 t t_1 t6 t6_1 t_2 t6_2
  )

def s_tablefinderlaw03_odd (t : G_api_Table) (what : Int) (at_ : Int) : Option G_api_Table :=
  chk (room (([] : (List G_api_Column)).length + t.Columns.length) 40) <|
  chk (inK .i64 (((([] : (List G_api_Column)) ++ t.Columns).length : Int) + 1)) <|
  (s_tablefindermill_Mod at_ (((([] : (List G_api_Column)) ++ t.Columns).length : Int) + 1)).bind fun k =>
  (s_tablefindermill_Mod what 8).bind fun q =>
  bif (q == 0) then (
    (s_tablefindermill_Mod at_ 3).bind fun q_1 =>
    chk (inR q_1 (([(-1), 1073741824, 1073741825] : (List Int)).length : Int)) <|
    (([(-1), 1073741824, 1073741825] : (List Int))[(q_1).toNat]?).bind fun Int_e =>
    s_tablefinderlaw03_odd_j2 Int_e t.Name (0 : Int) ([] : Str) (([] : (List G_api_Column)) ++ t.Columns) ([] : (List G_api_Column))
  ) else (
    bif (q == 1) then (
      s_tablefinderlaw03_odd_j2 t.ID ([255] : Str) (0 : Int) ([] : Str) (([] : (List G_api_Column)) ++ t.Columns) ([] : (List G_api_Column))
    ) else (
      bif (q == 2) then (
        bif (decide (k < ((([] : (List G_api_Column)) ++ t.Columns).length : Int))) then (
          chk (inR k ((([] : (List G_api_Column)) ++ t.Columns).length : Int)) <|
          ((([] : (List G_api_Column)) ++ t.Columns)[(k).toNat]?).bind fun Column =>
          chk (room (([] : (List G_api_Cell)).length + Column.Cells.length) 24) <|
          chk (room ((([] : (List G_api_Cell)) ++ Column.Cells).length + ([(G_api_Cell.mk false ([109, 111, 114, 101] : Str))] : (List G_api_Cell)).length) 24) <|
          chk (inR k ((([] : (List G_api_Column)) ++ t.Columns).length : Int)) <|
          ((([] : (List G_api_Column)) ++ t.Columns)[(k).toNat]?).bind fun el =>
          s_tablefinderlaw03_odd_j2 t.ID t.Name (0 : Int) ([] : Str) ((([] : (List G_api_Column)) ++ t.Columns).set ((k).toNat) (G_api_Column.mk el.Name ((([] : (List G_api_Cell)) ++ Column.Cells) ++ ([(G_api_Cell.mk false ([109, 111, 114, 101] : Str))] : (List G_api_Cell))))) ([] : (List G_api_Column))
        ) else (
          s_tablefinderlaw03_odd_j2 t.ID t.Name (0 : Int) ([] : Str) (([] : (List G_api_Column)) ++ t.Columns) ([] : (List G_api_Column))
        )
      ) else (
        bif (q == 3) then (
          bif (decide (k < ((([] : (List G_api_Column)) ++ t.Columns).length : Int))) then (
            (s_tablefindermill_Mod at_ 2).bind fun q_2 =>
            chk (inK .i64 (1024 + q_2)) <|
            chk (mkOk (1024 + q_2) (1024 + q_2) 1) <|
            chk (inR k ((([] : (List G_api_Column)) ++ t.Columns).length : Int)) <|
            ((([] : (List G_api_Column)) ++ t.Columns)[(k).toNat]?).bind fun el_1 =>
            s_tablefinderlaw03_odd_j2 t.ID t.Name (0 : Int) ([] : Str) ((([] : (List G_api_Column)) ++ t.Columns).set ((k).toNat) (G_api_Column.mk ((List.replicate ((1024 + q_2)).toNat (0 : Int)).map fun n => UInt8.ofNat (Int.toNat n)) el_1.Cells)) ([] : (List G_api_Column))
          ) else (
            s_tablefinderlaw03_odd_j2 t.ID t.Name (0 : Int) ([] : Str) (([] : (List G_api_Column)) ++ t.Columns) ([] : (List G_api_Column))
          )
        ) else (
          bif (q == 4) then (
            chk (inK .i64 (64 - ((([] : (List G_api_Column)) ++ t.Columns).length : Int))) <|
            (s_tablefindermill_Mod at_ 2).bind fun q_3 =>
            chk (inK .i64 ((64 - ((([] : (List G_api_Column)) ++ t.Columns).length : Int)) + q_3)) <|
            chk (decide (0 ≤ ((64 - ((([] : (List G_api_Column)) ++ t.Columns).length : Int)) + q_3))) <|
            chk (room ((([] : (List G_api_Column)) ++ t.Columns).length + (List.replicate (((64 - ((([] : (List G_api_Column)) ++ t.Columns).length : Int)) + q_3)).toNat (G_api_Column.mk ([] : Str) ([] : (List G_api_Cell)))).length) 40) <|
            s_tablefinderlaw03_odd_j2 t.ID t.Name (0 : Int) ([] : Str) ((([] : (List G_api_Column)) ++ t.Columns) ++ (List.replicate (((64 - ((([] : (List G_api_Column)) ++ t.Columns).length : Int)) + q_3)).toNat (G_api_Column.mk ([] : Str) ([] : (List G_api_Cell))))) ([] : (List G_api_Column))
          ) else (
            bif (q == 5) then (
              bif (decide (k < ((([] : (List G_api_Column)) ++ t.Columns).length : Int))) then (
                chk (inR k ((([] : (List G_api_Column)) ++ t.Columns).length : Int)) <|
                ((([] : (List G_api_Column)) ++ t.Columns)[(k).toNat]?).bind fun Column_1 =>
                s_tablefinderlaw03_odd_j1 at_ k (decide ((Column_1.Cells.length : Int) > 0)) t.ID t.Name (0 : Int) ([] : Str) (([] : (List G_api_Column)) ++ t.Columns) ([] : (List G_api_Column))
              ) else (
                s_tablefinderlaw03_odd_j1 at_ k false t.ID t.Name (0 : Int) ([] : Str) (([] : (List G_api_Column)) ++ t.Columns) ([] : (List G_api_Column))
              )
            ) else (
              s_tablefinderlaw03_odd_j2 t.ID t.Name (0 : Int) ([] : Str) (([] : (List G_api_Column)) ++ t.Columns) ([] : (List G_api_Column))
            )
          )
        )
      )
    )
  )

/-! ### tablefinder/tablefinderref02.Valid -/

def s_tablefinderref02_Valid (s : Str) : Option Bool :=
  (s_unicode_utf8_ValidString s).bind fun q =>
  some q

/-! ### tablefinder/tablefinderref03.name -/

def s_tablefinderref03_name_j1 (t2 : Bool) : Option Bool :=
  some t2

def s_tablefinderref03_name (s : Str) : Option Bool :=
  (s_tablefinderref02_Valid s).bind fun q =>
  bif q then (
    s_tablefinderref03_name_j1 (decide ((s.length : Int) ≤ 1024))
  ) else (
    s_tablefinderref03_name_j1 false
  )

/-! ### tablefinder/tablefinderref03.ValidCell -/

def s_tablefinderref03_ValidCell_j1 (t2 : Bool) : Option Bool :=
  some t2

def s_tablefinderref03_ValidCell (c : G_api_Cell) : Option Bool :=
  (s_tablefinderref02_Valid c.Text).bind fun q =>
  bif q then (
    bif (decide ((c.Text.length : Int) ≤ 1024)) then (
      bif (!c.Null) then (
        s_tablefinderref03_ValidCell_j1 true
      ) else (
        s_tablefinderref03_ValidCell_j1 (c.Text == ([] : Str))
      )
    ) else (
      s_tablefinderref03_ValidCell_j1 false
    )
  ) else (
    s_tablefinderref03_ValidCell_j1 false
  )

/-! ### tablefinder/tablefinderref03.Valid -/

def s_tablefinderref03_Valid_k4  : Option Bool :=
  some true

def s_tablefinderref03_Valid_k3 (rec_ : (List G_api_Column) → Int → Int → G_api_Table → Option (Out Unit Bool)) (t28 : (List G_api_Column)) (t29 : Int) (t30 : Int) (t : G_api_Table) : Option (Out Unit Bool) :=
  chk (inK .i64 (t30 + 1)) <|
  rec_ t28 t29 (t30 + 1) t

def s_tablefinderref03_Valid_l2_b (rec_ : (List G_api_Column) → Int → Int → (List G_api_Cell) → Int → Int → G_api_Table → Option (Out ((List G_api_Column) × Int × Int × G_api_Table) Bool)) (t28 : (List G_api_Column)) (t29 : Int) (t30 : Int) (t57 : (List G_api_Cell)) (t58 : Int) (t59 : Int) (t : G_api_Table) : Option (Out ((List G_api_Column) × Int × Int × G_api_Table) Bool) :=
  bif (decide (t59 < t58)) then (
    (idx t57 t59).bind fun x_ =>
    (s_tablefinderref03_ValidCell x_).bind fun q =>
    bif (!q) then (
      some (.ret false)
    ) else (
      chk (inK .i64 (t59 + 1)) <|
      rec_ t28 t29 t30 t57 t58 (t59 + 1) t
    )
  ) else (
    some (.brk (t28, t29, t30, t))
  )

def s_tablefinderref03_Valid_l2 : Nat → (List G_api_Column) → Int → Int → (List G_api_Cell) → Int → Int → G_api_Table → Option (Out ((List G_api_Column) × Int × Int × G_api_Table) Bool)
  | 0, _, _, _, _, _, _, _ => none
  | n_ + 1, t28, t29, t30, t57, t58, t59, t => s_tablefinderref03_Valid_l2_b (s_tablefinderref03_Valid_l2 n_) t28 t29 t30 t57 t58 t59 t

def s_tablefinderref03_Valid_j2 (rec_ : (List G_api_Column) → Int → Int → G_api_Table → Option (Out Unit Bool)) (t28 : (List G_api_Column)) (t29 : Int) (t30 : Int) (t55 : Bool) (t : G_api_Table) (c : G_api_Column) : Option (Out Unit Bool) :=
  bif t55 then (
    some (.ret false)
  ) else (
    (s_tablefinderref03_Valid_l2 big t28 t29 t30 c.Cells (c.Cells.length : Int) (0 : Int) t).bind fun
      | .ret q_ => some (.ret q_)
      | .brk (x0, x1, x2, x3) => s_tablefinderref03_Valid_k3 rec_ x0 x1 x2 x3
  )

def s_tablefinderref03_Valid_l1_b (rec_ : (List G_api_Column) → Int → Int → G_api_Table → Option (Out Unit Bool)) (t28 : (List G_api_Column)) (t29 : Int) (t30 : Int) (t : G_api_Table) : Option (Out Unit Bool) :=
  bif (decide (t30 < t29)) then (
    (idx t28 t30).bind fun c =>
    (s_tablefinderref03_name c.Name).bind fun q =>
    bif (!q) then (
      s_tablefinderref03_Valid_j2 rec_ t28 t29 t30 true t c
    ) else (
      bif (decide ((c.Cells.length : Int) > 4096)) then (
        s_tablefinderref03_Valid_j2 rec_ t28 t29 t30 true t c
      ) else (
        (idx t.Columns 0).bind fun Column =>
        s_tablefinderref03_Valid_j2 rec_ t28 t29 t30 ((c.Cells.length : Int) != (Column.Cells.length : Int)) t c
      )
    )
  ) else (
    some (.brk ())
  )

def s_tablefinderref03_Valid_l1 : Nat → (List G_api_Column) → Int → Int → G_api_Table → Option (Out Unit Bool)
  | 0, _, _, _, _ => none
  | n_ + 1, t28, t29, t30, t => s_tablefinderref03_Valid_l1_b (s_tablefinderref03_Valid_l1 n_) t28 t29 t30 t

def s_tablefinderref03_Valid_j1 (t26 : Bool) (t : G_api_Table) : Option Bool :=
  bif t26 then (
    some false
  ) else (
    (s_tablefinderref03_Valid_l1 big t.Columns (t.Columns.length : Int) (0 : Int) t).bind fun
      | .ret q_ => some q_
      | .brk () => s_tablefinderref03_Valid_k4
  )

def s_tablefinderref03_Valid (t : G_api_Table) : Option Bool :=
  bif (decide (t.ID < 0)) then (
    s_tablefinderref03_Valid_j1 true t
  ) else (
    bif (decide (t.ID > 1073741824)) then (
      s_tablefinderref03_Valid_j1 true t
    ) else (
      (s_tablefinderref03_name t.Name).bind fun q =>
      bif (!q) then (
        s_tablefinderref03_Valid_j1 true t
      ) else (
        s_tablefinderref03_Valid_j1 (decide ((t.Columns.length : Int) > 64)) t
      )
    )
  )

/-! ### tablefinder/tablefinderref03.Rows -/

def s_tablefinderref03_Rows (t : G_api_Table) : Option Int :=
  bif ((t.Columns.length : Int) == 0) then (
    some (0 : Int)
  ) else (
    (idx t.Columns 0).bind fun Column =>
    some (Column.Cells.length : Int)
  )

/-! ### slices.Clone[[]tablefinder/api.Cell,tablefinder/api.Cell] -/

def s_slices_Clone_api_Cell_api_Cell_j1 (s : (List G_api_Cell)) (t4 : Bool) : Option (List G_api_Cell) :=
  bif t4 then (
    some ([] : (List G_api_Cell))
  ) else (
    chk (room (([] : (List G_api_Cell)).length + s.length) 24) <|
    some (([] : (List G_api_Cell)) ++ s)
  )

def s_slices_Clone_api_Cell_api_Cell (s : (List G_api_Cell)) : Option (List G_api_Cell) :=
  bif (List.isEmpty s) then agree (
    s_slices_Clone_api_Cell_api_Cell_j1 s true
  ) (
    s_slices_Clone_api_Cell_api_Cell_j1 s false
  ) else (
    s_slices_Clone_api_Cell_api_Cell_j1 s false
  )

/-! ### tablefinder/table.column -/

def s_table_column (c : G_api_Column) : Option G_api_Column :=
  (s_slices_Clone_api_Cell_api_Cell c.Cells).bind fun q =>
  some (G_api_Column.mk c.Name q)

/-! ### tablefinder/table.Project$1 -/

def s_table_Project_1 (k : Int) (a1 : G_api_Table) (a2 : (List Int)) : Option G_api_Column :=
  (idx a2 k).bind fun a2_e =>
  (idx a1.Columns a2_e).bind fun Column =>
  (s_table_column Column).bind fun q =>
  some q

/-! ### tablefinder/table.with -/

def s_table_with_2_k1 (t6 : Int) (t6_1 : Str) (out : Int) (out_1 : Str) (t6_2 : (List G_api_Column)) (out_2 : (List G_api_Column)) : Option G_api_Table :=
  some (G_api_Table.mk out out_1 out_2)

def s_table_with_2_l1_b (rec_ : G_api_Table → (List Int) → Int → Int → Int → Str → Int → Str → (List G_api_Column) → (List G_api_Column) → Option (Int × Str × Int × Str × (List G_api_Column) × (List G_api_Column))) (get_ : G_api_Table) (get__1 : (List Int)) (t14 : Int) (k : Int) (t6 : Int) (t6_1 : Str) (out : Int) (out_1 : Str) (t6_2 : (List G_api_Column)) (out_2 : (List G_api_Column)) : Option (Int × Str × Int × Str × (List G_api_Column) × (List G_api_Column)) :=
  bif (decide (k < t14)) then (
    (s_table_Project_1 k get_ get__1).bind fun q =>
    chk (room (out_2.length + ([q] : (List G_api_Column)).length) 40) <|
    chk (inK .i64 (k + 1)) <|
    rec_ get_ get__1 t14 (k + 1) t6 t6_1 out out_1 t6_2 (out_2 ++ ([q] : (List G_api_Column)))
  ) else (
    some (t6, t6_1, out, out_1, t6_2, out_2)
  )

def s_table_with_2_l1 : Nat → G_api_Table → (List Int) → Int → Int → Int → Str → Int → Str → (List G_api_Column) → (List G_api_Column) → Option (Int × Str × Int × Str × (List G_api_Column) × (List G_api_Column))
  | 0, _, _, _, _, _, _, _, _, _, _ => none
  | n_ + 1, get_, get__1, t14, k, t6, t6_1, out, out_1, t6_2, out_2 => s_table_with_2_l1_b (s_table_with_2_l1 n_) get_ get__1 t14 k t6 t6_1 out out_1 t6_2 out_2

def s_table_with_2_l1_F (n : Nat) (s : (G_api_Table × (List Int) × Int × Int × Int × Str × Int × Str × (List G_api_Column) × (List G_api_Column))) : Option (Int × Str × Int × Str × (List G_api_Column) × (List G_api_Column)) := s_table_with_2_l1 n s.1 s.2.1 s.2.2.1 s.2.2.2.1 s.2.2.2.2.1 s.2.2.2.2.2.1 s.2.2.2.2.2.2.1 s.2.2.2.2.2.2.2.1 s.2.2.2.2.2.2.2.2.1 s.2.2.2.2.2.2.2.2.2
def s_table_with_2_l1_B (rec_ : (G_api_Table × (List Int) × Int × Int × Int × Str × Int × Str × (List G_api_Column) × (List G_api_Column)) → Option (Int × Str × Int × Str × (List G_api_Column) × (List G_api_Column))) (s : (G_api_Table × (List Int) × Int × Int × Int × Str × Int × Str × (List G_api_Column) × (List G_api_Column))) : Option (Int × Str × Int × Str × (List G_api_Column) × (List G_api_Column)) := s_table_with_2_l1_b (fun get_ get__1 t14 k t6 t6_1 out out_1 t6_2 out_2 => rec_ (get_, get__1, t14, k, t6, t6_1, out, out_1, t6_2, out_2)) s.1 s.2.1 s.2.2.1 s.2.2.2.1 s.2.2.2.2.1 s.2.2.2.2.2.1 s.2.2.2.2.2.2.1 s.2.2.2.2.2.2.2.1 s.2.2.2.2.2.2.2.2.1 s.2.2.2.2.2.2.2.2.2
theorem s_table_with_2_l1_FB : ∀ n s, s_table_with_2_l1_F (n + 1) s = s_table_with_2_l1_B (s_table_with_2_l1_F n) s := fun _ _ => rfl

def s_table_with_2 (t : G_api_Table) (n : Int) (c : G_api_Table) (c_1 : (List Int)) : Option G_api_Table :=
  (s_table_with_2_l1 big c c_1 n (0 : Int) (0 : Int) ([] : Str) t.ID t.Name ([] : (List G_api_Column)) ([] : (List G_api_Column))).bind fun (x0, x1, x2, x3, x4, x5) => s_table_with_2_k1 x0 x1 x2 x3 x4 x5

/-! ### tablefinder/table.Project -/

def s_table_Project (t : G_api_Table) (columns : (List Int)) : Option (G_api_Table × Int) :=
  (s_table_Valid t).bind fun q =>
  bif (!q) then (
    some ((G_api_Table.mk 0 ([] : Str) ([] : (List G_api_Column))), 1)
  ) else (
    (s_table_within columns (t.Columns.length : Int)).bind fun q_1 =>
    bif (!q_1) then (
      some ((G_api_Table.mk 0 ([] : Str) ([] : (List G_api_Column))), 2)
    ) else (
      bif (decide ((columns.length : Int) > 64)) then (
        some ((G_api_Table.mk 0 ([] : Str) ([] : (List G_api_Column))), 3)
      ) else (
        (s_table_with_2 t (columns.length : Int) t columns).bind fun q_2 =>
        some (q_2, 0)
      )
    )
  )

/-! ### tablefinder/tablefinderref03.Project -/

def s_tablefinderref03_Project_k2 (columns : (List Int)) (t4 : Int) (t4_1 : Str) (out : Int) (out_1 : Str) (t4_2 : (List G_api_Column)) (out_2 : (List G_api_Column)) : Option (G_api_Table × Int) :=
  bif (decide ((columns.length : Int) > 64)) then (
    some ((G_api_Table.mk 0 ([] : Str) ([] : (List G_api_Column))), 3)
  ) else (
    some ((G_api_Table.mk out out_1 out_2), 0)
  )

def s_tablefinderref03_Project_j1 (rec_ : (List Int) → (List Int) → Int → Int → G_api_Table → Int → Str → Int → Str → (List G_api_Column) → (List G_api_Column) → Option (Out ((List Int) × Int × Str × Int × Str × (List G_api_Column) × (List G_api_Column)) (G_api_Table × Int))) (columns : (List Int)) (k : Int) (t18 : (List Int)) (t19 : Int) (t20 : Int) (t32 : Bool) (t : G_api_Table) (t4 : Int) (t4_1 : Str) (out : Int) (out_1 : Str) (t4_2 : (List G_api_Column)) (out_2 : (List G_api_Column)) : Option (Out ((List Int) × Int × Str × Int × Str × (List G_api_Column) × (List G_api_Column)) (G_api_Table × Int)) :=
  bif t32 then (
    some (.ret ((G_api_Table.mk 0 ([] : Str) ([] : (List G_api_Column))), 2))
  ) else (
    (idx t.Columns k).bind fun Column =>
    chk (room (out_2.length + ([Column] : (List G_api_Column)).length) 40) <|
    chk (inK .i64 (t20 + 1)) <|
    rec_ columns t18 t19 (t20 + 1) t t4 t4_1 out out_1 t4_2 (out_2 ++ ([Column] : (List G_api_Column)))
  )

def s_tablefinderref03_Project_l1_b (rec_ : (List Int) → (List Int) → Int → Int → G_api_Table → Int → Str → Int → Str → (List G_api_Column) → (List G_api_Column) → Option (Out ((List Int) × Int × Str × Int × Str × (List G_api_Column) × (List G_api_Column)) (G_api_Table × Int))) (columns : (List Int)) (t18 : (List Int)) (t19 : Int) (t20 : Int) (t : G_api_Table) (t4 : Int) (t4_1 : Str) (out : Int) (out_1 : Str) (t4_2 : (List G_api_Column)) (out_2 : (List G_api_Column)) : Option (Out ((List Int) × Int × Str × Int × Str × (List G_api_Column) × (List G_api_Column)) (G_api_Table × Int)) :=
  bif (decide (t20 < t19)) then (
    (idx t18 t20).bind fun k =>
    bif (decide (k < 0)) then (
      s_tablefinderref03_Project_j1 rec_ columns k t18 t19 t20 true t t4 t4_1 out out_1 t4_2 out_2
    ) else (
      s_tablefinderref03_Project_j1 rec_ columns k t18 t19 t20 (decide (k ≥ (t.Columns.length : Int))) t t4 t4_1 out out_1 t4_2 out_2
    )
  ) else (
    some (.brk (columns, t4, t4_1, out, out_1, t4_2, out_2))
  )

def s_tablefinderref03_Project_l1 : Nat → (List Int) → (List Int) → Int → Int → G_api_Table → Int → Str → Int → Str → (List G_api_Column) → (List G_api_Column) → Option (Out ((List Int) × Int × Str × Int × Str × (List G_api_Column) × (List G_api_Column)) (G_api_Table × Int))
  | 0, _, _, _, _, _, _, _, _, _, _, _ => none
  | n_ + 1, columns, t18, t19, t20, t, t4, t4_1, out, out_1, t4_2, out_2 => s_tablefinderref03_Project_l1_b (s_tablefinderref03_Project_l1 n_) columns t18 t19 t20 t t4 t4_1 out out_1 t4_2 out_2

def s_tablefinderref03_Project_l1_F (n : Nat) (s : ((List Int) × (List Int) × Int × Int × G_api_Table × Int × Str × Int × Str × (List G_api_Column) × (List G_api_Column))) : Option (Out ((List Int) × Int × Str × Int × Str × (List G_api_Column) × (List G_api_Column)) (G_api_Table × Int)) := s_tablefinderref03_Project_l1 n s.1 s.2.1 s.2.2.1 s.2.2.2.1 s.2.2.2.2.1 s.2.2.2.2.2.1 s.2.2.2.2.2.2.1 s.2.2.2.2.2.2.2.1 s.2.2.2.2.2.2.2.2.1 s.2.2.2.2.2.2.2.2.2.1 s.2.2.2.2.2.2.2.2.2.2
def s_tablefinderref03_Project_l1_B (rec_ : ((List Int) × (List Int) × Int × Int × G_api_Table × Int × Str × Int × Str × (List G_api_Column) × (List G_api_Column)) → Option (Out ((List Int) × Int × Str × Int × Str × (List G_api_Column) × (List G_api_Column)) (G_api_Table × Int))) (s : ((List Int) × (List Int) × Int × Int × G_api_Table × Int × Str × Int × Str × (List G_api_Column) × (List G_api_Column))) : Option (Out ((List Int) × Int × Str × Int × Str × (List G_api_Column) × (List G_api_Column)) (G_api_Table × Int)) := s_tablefinderref03_Project_l1_b (fun columns t18 t19 t20 t t4 t4_1 out out_1 t4_2 out_2 => rec_ (columns, t18, t19, t20, t, t4, t4_1, out, out_1, t4_2, out_2)) s.1 s.2.1 s.2.2.1 s.2.2.2.1 s.2.2.2.2.1 s.2.2.2.2.2.1 s.2.2.2.2.2.2.1 s.2.2.2.2.2.2.2.1 s.2.2.2.2.2.2.2.2.1 s.2.2.2.2.2.2.2.2.2.1 s.2.2.2.2.2.2.2.2.2.2
theorem s_tablefinderref03_Project_l1_FB : ∀ n s, s_tablefinderref03_Project_l1_F (n + 1) s = s_tablefinderref03_Project_l1_B (s_tablefinderref03_Project_l1_F n) s := fun _ _ => rfl

def s_tablefinderref03_Project (t : G_api_Table) (columns : (List Int)) : Option (G_api_Table × Int) :=
  (s_tablefinderref03_Valid t).bind fun q =>
  bif (!q) then (
    some ((G_api_Table.mk 0 ([] : Str) ([] : (List G_api_Column))), 1)
  ) else (
    (s_tablefinderref03_Project_l1 big columns columns (columns.length : Int) (0 : Int) t (0 : Int) ([] : Str) t.ID t.Name ([] : (List G_api_Column)) ([] : (List G_api_Column))).bind fun
      | .ret q_ => some q_
      | .brk (x0, x1, x2, x3, x4, x5, x6) => s_tablefinderref03_Project_k2 x0 x1 x2 x3 x4 x5 x6
  )

/-! ### tablefinder/tablefinderref03.Select -/

def s_tablefinderref03_Select_k4 (t4 : Int) (t4_1 : Str) (out : Int) (out_1 : Str) (t4_2 : (List G_api_Column)) (out_2 : (List G_api_Column)) : Option (G_api_Table × Int) :=
  some ((G_api_Table.mk out out_1 out_2), 0)

def s_tablefinderref03_Select_k3 (rec_ : (List Int) → (List G_api_Column) → Int → Int → Int → Str → Int → Str → (List G_api_Column) → (List G_api_Column) → Option (Int × Str × Int × Str × (List G_api_Column) × (List G_api_Column))) (rows : (List Int)) (t44 : (List G_api_Column)) (t45 : Int) (t46 : Int) (t4 : Int) (t4_1 : Str) (out : Int) (out_1 : Str) (x_ : Str) (t4_2 : (List G_api_Column)) (out_2 : (List G_api_Column)) (x__1 : (List G_api_Cell)) : Option (Int × Str × Int × Str × (List G_api_Column) × (List G_api_Column)) :=
  chk (room (out_2.length + ([(G_api_Column.mk x_ x__1)] : (List G_api_Column)).length) 40) <|
  chk (inK .i64 (t46 + 1)) <|
  rec_ rows t44 t45 (t46 + 1) t4 t4_1 out out_1 t4_2 (out_2 ++ ([(G_api_Column.mk x_ x__1)] : (List G_api_Column)))

def s_tablefinderref03_Select_l3_b (rec_ : (List Int) → (List G_api_Column) → Int → Int → (List Int) → Int → Int → Int → Str → Int → Str → G_api_Column → Str → (List G_api_Column) → (List G_api_Column) → (List G_api_Cell) → Option ((List Int) × (List G_api_Column) × Int × Int × Int × Str × Int × Str × Str × (List G_api_Column) × (List G_api_Column) × (List G_api_Cell))) (rows : (List Int)) (t44 : (List G_api_Column)) (t45 : Int) (t46 : Int) (t53 : (List Int)) (t54 : Int) (t55 : Int) (t4 : Int) (t4_1 : Str) (out : Int) (out_1 : Str) (c : G_api_Column) (x_ : Str) (t4_2 : (List G_api_Column)) (out_2 : (List G_api_Column)) (x__1 : (List G_api_Cell)) : Option ((List Int) × (List G_api_Column) × Int × Int × Int × Str × Int × Str × Str × (List G_api_Column) × (List G_api_Column) × (List G_api_Cell)) :=
  bif (decide (t55 < t54)) then (
    (idx t53 t55).bind fun k =>
    (idx c.Cells k).bind fun Cell =>
    chk (room (x__1.length + ([Cell] : (List G_api_Cell)).length) 24) <|
    chk (inK .i64 (t55 + 1)) <|
    rec_ rows t44 t45 t46 t53 t54 (t55 + 1) t4 t4_1 out out_1 c x_ t4_2 out_2 (x__1 ++ ([Cell] : (List G_api_Cell)))
  ) else (
    some (rows, t44, t45, t46, t4, t4_1, out, out_1, x_, t4_2, out_2, x__1)
  )

def s_tablefinderref03_Select_l3 : Nat → (List Int) → (List G_api_Column) → Int → Int → (List Int) → Int → Int → Int → Str → Int → Str → G_api_Column → Str → (List G_api_Column) → (List G_api_Column) → (List G_api_Cell) → Option ((List Int) × (List G_api_Column) × Int × Int × Int × Str × Int × Str × Str × (List G_api_Column) × (List G_api_Column) × (List G_api_Cell))
  | 0, _, _, _, _, _, _, _, _, _, _, _, _, _, _, _, _ => none
  | n_ + 1, rows, t44, t45, t46, t53, t54, t55, t4, t4_1, out, out_1, c, x_, t4_2, out_2, x__1 => s_tablefinderref03_Select_l3_b (s_tablefinderref03_Select_l3 n_) rows t44 t45 t46 t53 t54 t55 t4 t4_1 out out_1 c x_ t4_2 out_2 x__1

def s_tablefinderref03_Select_l3_F (n : Nat) (s : ((List Int) × (List G_api_Column) × Int × Int × (List Int) × Int × Int × Int × Str × Int × Str × G_api_Column × Str × (List G_api_Column) × (List G_api_Column) × (List G_api_Cell))) : Option ((List Int) × (List G_api_Column) × Int × Int × Int × Str × Int × Str × Str × (List G_api_Column) × (List G_api_Column) × (List G_api_Cell)) := s_tablefinderref03_Select_l3 n s.1 s.2.1 s.2.2.1 s.2.2.2.1 s.2.2.2.2.1 s.2.2.2.2.2.1 s.2.2.2.2.2.2.1 s.2.2.2.2.2.2.2.1 s.2.2.2.2.2.2.2.2.1 s.2.2.2.2.2.2.2.2.2.1 s.2.2.2.2.2.2.2.2.2.2.1 s.2.2.2.2.2.2.2.2.2.2.2.1 s.2.2.2.2.2.2.2.2.2.2.2.2.1 s.2.2.2.2.2.2.2.2.2.2.2.2.2.1 s.2.2.2.2.2.2.2.2.2.2.2.2.2.2.1 s.2.2.2.2.2.2.2.2.2.2.2.2.2.2.2
def s_tablefinderref03_Select_l3_B (rec_ : ((List Int) × (List G_api_Column) × Int × Int × (List Int) × Int × Int × Int × Str × Int × Str × G_api_Column × Str × (List G_api_Column) × (List G_api_Column) × (List G_api_Cell)) → Option ((List Int) × (List G_api_Column) × Int × Int × Int × Str × Int × Str × Str × (List G_api_Column) × (List G_api_Column) × (List G_api_Cell))) (s : ((List Int) × (List G_api_Column) × Int × Int × (List Int) × Int × Int × Int × Str × Int × Str × G_api_Column × Str × (List G_api_Column) × (List G_api_Column) × (List G_api_Cell))) : Option ((List Int) × (List G_api_Column) × Int × Int × Int × Str × Int × Str × Str × (List G_api_Column) × (List G_api_Column) × (List G_api_Cell)) := s_tablefinderref03_Select_l3_b (fun rows t44 t45 t46 t53 t54 t55 t4 t4_1 out out_1 c x_ t4_2 out_2 x__1 => rec_ (rows, t44, t45, t46, t53, t54, t55, t4, t4_1, out, out_1, c, x_, t4_2, out_2, x__1)) s.1 s.2.1 s.2.2.1 s.2.2.2.1 s.2.2.2.2.1 s.2.2.2.2.2.1 s.2.2.2.2.2.2.1 s.2.2.2.2.2.2.2.1 s.2.2.2.2.2.2.2.2.1 s.2.2.2.2.2.2.2.2.2.1 s.2.2.2.2.2.2.2.2.2.2.1 s.2.2.2.2.2.2.2.2.2.2.2.1 s.2.2.2.2.2.2.2.2.2.2.2.2.1 s.2.2.2.2.2.2.2.2.2.2.2.2.2.1 s.2.2.2.2.2.2.2.2.2.2.2.2.2.2.1 s.2.2.2.2.2.2.2.2.2.2.2.2.2.2.2
theorem s_tablefinderref03_Select_l3_FB : ∀ n s, s_tablefinderref03_Select_l3_F (n + 1) s = s_tablefinderref03_Select_l3_B (s_tablefinderref03_Select_l3_F n) s := fun _ _ => rfl

def s_tablefinderref03_Select_l2_b (rec_ : (List Int) → (List G_api_Column) → Int → Int → Int → Str → Int → Str → (List G_api_Column) → (List G_api_Column) → Option (Int × Str × Int × Str × (List G_api_Column) × (List G_api_Column))) (rows : (List Int)) (t44 : (List G_api_Column)) (t45 : Int) (t46 : Int) (t4 : Int) (t4_1 : Str) (out : Int) (out_1 : Str) (t4_2 : (List G_api_Column)) (out_2 : (List G_api_Column)) : Option (Int × Str × Int × Str × (List G_api_Column) × (List G_api_Column)) :=
  bif (decide (t46 < t45)) then (
    (idx t44 t46).bind fun c =>
    (s_tablefinderref03_Select_l3 big rows t44 t45 t46 rows (rows.length : Int) (0 : Int) t4 t4_1 out out_1 c c.Name t4_2 out_2 ([] : (List G_api_Cell))).bind fun (x0, x1, x2, x3, x4, x5, x6, x7, x8, x9, x10, x11) => s_tablefinderref03_Select_k3 rec_ x0 x1 x2 x3 x4 x5 x6 x7 x8 x9 x10 x11
  ) else (
    some (t4, t4_1, out, out_1, t4_2, out_2)
  )

def s_tablefinderref03_Select_l2 : Nat → (List Int) → (List G_api_Column) → Int → Int → Int → Str → Int → Str → (List G_api_Column) → (List G_api_Column) → Option (Int × Str × Int × Str × (List G_api_Column) × (List G_api_Column))
  | 0, _, _, _, _, _, _, _, _, _, _ => none
  | n_ + 1, rows, t44, t45, t46, t4, t4_1, out, out_1, t4_2, out_2 => s_tablefinderref03_Select_l2_b (s_tablefinderref03_Select_l2 n_) rows t44 t45 t46 t4 t4_1 out out_1 t4_2 out_2

def s_tablefinderref03_Select_l2_F (n : Nat) (s : ((List Int) × (List G_api_Column) × Int × Int × Int × Str × Int × Str × (List G_api_Column) × (List G_api_Column))) : Option (Int × Str × Int × Str × (List G_api_Column) × (List G_api_Column)) := s_tablefinderref03_Select_l2 n s.1 s.2.1 s.2.2.1 s.2.2.2.1 s.2.2.2.2.1 s.2.2.2.2.2.1 s.2.2.2.2.2.2.1 s.2.2.2.2.2.2.2.1 s.2.2.2.2.2.2.2.2.1 s.2.2.2.2.2.2.2.2.2
def s_tablefinderref03_Select_l2_B (rec_ : ((List Int) × (List G_api_Column) × Int × Int × Int × Str × Int × Str × (List G_api_Column) × (List G_api_Column)) → Option (Int × Str × Int × Str × (List G_api_Column) × (List G_api_Column))) (s : ((List Int) × (List G_api_Column) × Int × Int × Int × Str × Int × Str × (List G_api_Column) × (List G_api_Column))) : Option (Int × Str × Int × Str × (List G_api_Column) × (List G_api_Column)) := s_tablefinderref03_Select_l2_b (fun rows t44 t45 t46 t4 t4_1 out out_1 t4_2 out_2 => rec_ (rows, t44, t45, t46, t4, t4_1, out, out_1, t4_2, out_2)) s.1 s.2.1 s.2.2.1 s.2.2.2.1 s.2.2.2.2.1 s.2.2.2.2.2.1 s.2.2.2.2.2.2.1 s.2.2.2.2.2.2.2.1 s.2.2.2.2.2.2.2.2.1 s.2.2.2.2.2.2.2.2.2
theorem s_tablefinderref03_Select_l2_FB : ∀ n s, s_tablefinderref03_Select_l2_F (n + 1) s = s_tablefinderref03_Select_l2_B (s_tablefinderref03_Select_l2_F n) s := fun _ _ => rfl

def s_tablefinderref03_Select_k2 (rows : (List Int)) (t : G_api_Table) (t4 : Int) (t4_1 : Str) (t4_2 : (List G_api_Column)) : Option (G_api_Table × Int) :=
  bif (decide ((rows.length : Int) > 4096)) then (
    some ((G_api_Table.mk 0 ([] : Str) ([] : (List G_api_Column))), 3)
  ) else (
    (s_tablefinderref03_Select_l2 big rows t.Columns (t.Columns.length : Int) (0 : Int) t4 t4_1 t.ID t.Name t4_2 ([] : (List G_api_Column))).bind fun (x0, x1, x2, x3, x4, x5) => s_tablefinderref03_Select_k4 x0 x1 x2 x3 x4 x5
  )

def s_tablefinderref03_Select_j1 (rec_ : (List Int) → (List Int) → Int → Int → G_api_Table → Int → Str → (List G_api_Column) → Option (Out ((List Int) × G_api_Table × Int × Str × (List G_api_Column)) (G_api_Table × Int))) (rows : (List Int)) (t18 : (List Int)) (t19 : Int) (t20 : Int) (t31 : Bool) (t : G_api_Table) (t4 : Int) (t4_1 : Str) (t4_2 : (List G_api_Column)) : Option (Out ((List Int) × G_api_Table × Int × Str × (List G_api_Column)) (G_api_Table × Int)) :=
  bif t31 then (
    some (.ret ((G_api_Table.mk 0 ([] : Str) ([] : (List G_api_Column))), 2))
  ) else (
    chk (inK .i64 (t20 + 1)) <|
    rec_ rows t18 t19 (t20 + 1) t t4 t4_1 t4_2
  )

def s_tablefinderref03_Select_l1_b (rec_ : (List Int) → (List Int) → Int → Int → G_api_Table → Int → Str → (List G_api_Column) → Option (Out ((List Int) × G_api_Table × Int × Str × (List G_api_Column)) (G_api_Table × Int))) (rows : (List Int)) (t18 : (List Int)) (t19 : Int) (t20 : Int) (t : G_api_Table) (t4 : Int) (t4_1 : Str) (t4_2 : (List G_api_Column)) : Option (Out ((List Int) × G_api_Table × Int × Str × (List G_api_Column)) (G_api_Table × Int)) :=
  bif (decide (t20 < t19)) then (
    (idx t18 t20).bind fun k =>
    bif (decide (k < 0)) then (
      s_tablefinderref03_Select_j1 rec_ rows t18 t19 t20 true t t4 t4_1 t4_2
    ) else (
      (s_tablefinderref03_Rows t).bind fun q =>
      s_tablefinderref03_Select_j1 rec_ rows t18 t19 t20 (decide (k ≥ q)) t t4 t4_1 t4_2
    )
  ) else (
    some (.brk (rows, t, t4, t4_1, t4_2))
  )

def s_tablefinderref03_Select_l1 : Nat → (List Int) → (List Int) → Int → Int → G_api_Table → Int → Str → (List G_api_Column) → Option (Out ((List Int) × G_api_Table × Int × Str × (List G_api_Column)) (G_api_Table × Int))
  | 0, _, _, _, _, _, _, _, _ => none
  | n_ + 1, rows, t18, t19, t20, t, t4, t4_1, t4_2 => s_tablefinderref03_Select_l1_b (s_tablefinderref03_Select_l1 n_) rows t18 t19 t20 t t4 t4_1 t4_2

def s_tablefinderref03_Select_l1_F (n : Nat) (s : ((List Int) × (List Int) × Int × Int × G_api_Table × Int × Str × (List G_api_Column))) : Option (Out ((List Int) × G_api_Table × Int × Str × (List G_api_Column)) (G_api_Table × Int)) := s_tablefinderref03_Select_l1 n s.1 s.2.1 s.2.2.1 s.2.2.2.1 s.2.2.2.2.1 s.2.2.2.2.2.1 s.2.2.2.2.2.2.1 s.2.2.2.2.2.2.2
def s_tablefinderref03_Select_l1_B (rec_ : ((List Int) × (List Int) × Int × Int × G_api_Table × Int × Str × (List G_api_Column)) → Option (Out ((List Int) × G_api_Table × Int × Str × (List G_api_Column)) (G_api_Table × Int))) (s : ((List Int) × (List Int) × Int × Int × G_api_Table × Int × Str × (List G_api_Column))) : Option (Out ((List Int) × G_api_Table × Int × Str × (List G_api_Column)) (G_api_Table × Int)) := s_tablefinderref03_Select_l1_b (fun rows t18 t19 t20 t t4 t4_1 t4_2 => rec_ (rows, t18, t19, t20, t, t4, t4_1, t4_2)) s.1 s.2.1 s.2.2.1 s.2.2.2.1 s.2.2.2.2.1 s.2.2.2.2.2.1 s.2.2.2.2.2.2.1 s.2.2.2.2.2.2.2
theorem s_tablefinderref03_Select_l1_FB : ∀ n s, s_tablefinderref03_Select_l1_F (n + 1) s = s_tablefinderref03_Select_l1_B (s_tablefinderref03_Select_l1_F n) s := fun _ _ => rfl

def s_tablefinderref03_Select (t : G_api_Table) (rows : (List Int)) : Option (G_api_Table × Int) :=
  (s_tablefinderref03_Valid t).bind fun q =>
  bif (!q) then (
    some ((G_api_Table.mk 0 ([] : Str) ([] : (List G_api_Column))), 1)
  ) else (
    (s_tablefinderref03_Select_l1 big rows rows (rows.length : Int) (0 : Int) t (0 : Int) ([] : Str) ([] : (List G_api_Column))).bind fun
      | .ret q_ => some q_
      | .brk (x0, x1, x2, x3, x4) => s_tablefinderref03_Select_k2 x0 x1 x2 x3 x4
  )

/-! ### tablefinder/tablefinderref03.SameCells -/

def s_tablefinderref03_SameCells_k2  : Option Bool :=
  some true

def s_tablefinderref03_SameCells_l1_b (rec_ : Int → Int → G_api_Column → G_api_Column → Option (Out Unit Bool)) (t22 : Int) (i : Int) (a : G_api_Column) (b : G_api_Column) : Option (Out Unit Bool) :=
  bif (decide (i < t22)) then (
    (idx a.Cells i).bind fun Cell =>
    (idx b.Cells i).bind fun Cell_1 =>
    bif (!(Cell.Null == Cell_1.Null && (Cell.Text == Cell_1.Text && true))) then (
      some (.ret false)
    ) else (
      chk (inK .i64 (i + 1)) <|
      rec_ t22 (i + 1) a b
    )
  ) else (
    some (.brk ())
  )

def s_tablefinderref03_SameCells_l1 : Nat → Int → Int → G_api_Column → G_api_Column → Option (Out Unit Bool)
  | 0, _, _, _, _ => none
  | n_ + 1, t22, i, a, b => s_tablefinderref03_SameCells_l1_b (s_tablefinderref03_SameCells_l1 n_) t22 i a b

def s_tablefinderref03_SameCells_l1_F (n : Nat) (s : (Int × Int × G_api_Column × G_api_Column)) : Option (Out Unit Bool) := s_tablefinderref03_SameCells_l1 n s.1 s.2.1 s.2.2.1 s.2.2.2
def s_tablefinderref03_SameCells_l1_B (rec_ : (Int × Int × G_api_Column × G_api_Column) → Option (Out Unit Bool)) (s : (Int × Int × G_api_Column × G_api_Column)) : Option (Out Unit Bool) := s_tablefinderref03_SameCells_l1_b (fun t22 i a b => rec_ (t22, i, a, b)) s.1 s.2.1 s.2.2.1 s.2.2.2
theorem s_tablefinderref03_SameCells_l1_FB : ∀ n s, s_tablefinderref03_SameCells_l1_F (n + 1) s = s_tablefinderref03_SameCells_l1_B (s_tablefinderref03_SameCells_l1_F n) s := fun _ _ => rfl

def s_tablefinderref03_SameCells_j1 (t19 : Bool) (a : G_api_Column) (b : G_api_Column) : Option Bool :=
  bif t19 then (
    some false
  ) else (
    (s_tablefinderref03_SameCells_l1 big (a.Cells.length : Int) (0 : Int) a b).bind fun
      | .ret q_ => some q_
      | .brk () => s_tablefinderref03_SameCells_k2
  )

def s_tablefinderref03_SameCells (a : G_api_Column) (b : G_api_Column) : Option Bool :=
  bif (!(a.Name == b.Name)) then (
    s_tablefinderref03_SameCells_j1 true a b
  ) else (
    s_tablefinderref03_SameCells_j1 ((a.Cells.length : Int) != (b.Cells.length : Int)) a b
  )

/-! ### tablefinder/tablefinderref03.Same -/

def s_tablefinderref03_Same_k2  : Option Bool :=
  some true

def s_tablefinderref03_Same_l1_b (rec_ : Int → Int → G_api_Table → G_api_Table → Option (Out Unit Bool)) (t29 : Int) (i : Int) (a : G_api_Table) (b : G_api_Table) : Option (Out Unit Bool) :=
  bif (decide (i < t29)) then (
    (idx a.Columns i).bind fun Column =>
    (idx b.Columns i).bind fun Column_1 =>
    (s_tablefinderref03_SameCells Column Column_1).bind fun q =>
    bif (!q) then (
      some (.ret false)
    ) else (
      chk (inK .i64 (i + 1)) <|
      rec_ t29 (i + 1) a b
    )
  ) else (
    some (.brk ())
  )

def s_tablefinderref03_Same_l1 : Nat → Int → Int → G_api_Table → G_api_Table → Option (Out Unit Bool)
  | 0, _, _, _, _ => none
  | n_ + 1, t29, i, a, b => s_tablefinderref03_Same_l1_b (s_tablefinderref03_Same_l1 n_) t29 i a b

def s_tablefinderref03_Same_l1_F (n : Nat) (s : (Int × Int × G_api_Table × G_api_Table)) : Option (Out Unit Bool) := s_tablefinderref03_Same_l1 n s.1 s.2.1 s.2.2.1 s.2.2.2
def s_tablefinderref03_Same_l1_B (rec_ : (Int × Int × G_api_Table × G_api_Table) → Option (Out Unit Bool)) (s : (Int × Int × G_api_Table × G_api_Table)) : Option (Out Unit Bool) := s_tablefinderref03_Same_l1_b (fun t29 i a b => rec_ (t29, i, a, b)) s.1 s.2.1 s.2.2.1 s.2.2.2
theorem s_tablefinderref03_Same_l1_FB : ∀ n s, s_tablefinderref03_Same_l1_F (n + 1) s = s_tablefinderref03_Same_l1_B (s_tablefinderref03_Same_l1_F n) s := fun _ _ => rfl

def s_tablefinderref03_Same_j1 (t26 : Bool) (a : G_api_Table) (b : G_api_Table) : Option Bool :=
  bif t26 then (
    some false
  ) else (
    (s_tablefinderref03_Same_l1 big (a.Columns.length : Int) (0 : Int) a b).bind fun
      | .ret q_ => some q_
      | .brk () => s_tablefinderref03_Same_k2
  )

def s_tablefinderref03_Same (a : G_api_Table) (b : G_api_Table) : Option Bool :=
  bif (a.ID != b.ID) then (
    s_tablefinderref03_Same_j1 true a b
  ) else (
    bif (!(a.Name == b.Name)) then (
      s_tablefinderref03_Same_j1 true a b
    ) else (
      s_tablefinderref03_Same_j1 ((a.Columns.length : Int) != (b.Columns.length : Int)) a b
    )
  )

/-! ### tablefinder/tablefinderref03.at -/

def s_tablefinderref03_at_k1 (out : (List G_api_Cell)) : Option (List G_api_Cell) :=
  some out

def s_tablefinderref03_at_l1_b (rec_ : Int → (List G_api_Column) → Int → Int → (List G_api_Cell) → Option (List G_api_Cell)) (i : Int) (t9 : (List G_api_Column)) (t10 : Int) (t11 : Int) (out : (List G_api_Cell)) : Option (List G_api_Cell) :=
  bif (decide (t11 < t10)) then (
    (idx t9 t11).bind fun c =>
    (idx c.Cells i).bind fun Cell =>
    chk (room (out.length + ([Cell] : (List G_api_Cell)).length) 24) <|
    chk (inK .i64 (t11 + 1)) <|
    rec_ i t9 t10 (t11 + 1) (out ++ ([Cell] : (List G_api_Cell)))
  ) else (
    some out
  )

def s_tablefinderref03_at_l1 : Nat → Int → (List G_api_Column) → Int → Int → (List G_api_Cell) → Option (List G_api_Cell)
  | 0, _, _, _, _, _ => none
  | n_ + 1, i, t9, t10, t11, out => s_tablefinderref03_at_l1_b (s_tablefinderref03_at_l1 n_) i t9 t10 t11 out

def s_tablefinderref03_at_l1_F (n : Nat) (s : (Int × (List G_api_Column) × Int × Int × (List G_api_Cell))) : Option (List G_api_Cell) := s_tablefinderref03_at_l1 n s.1 s.2.1 s.2.2.1 s.2.2.2.1 s.2.2.2.2
def s_tablefinderref03_at_l1_B (rec_ : (Int × (List G_api_Column) × Int × Int × (List G_api_Cell)) → Option (List G_api_Cell)) (s : (Int × (List G_api_Column) × Int × Int × (List G_api_Cell))) : Option (List G_api_Cell) := s_tablefinderref03_at_l1_b (fun i t9 t10 t11 out => rec_ (i, t9, t10, t11, out)) s.1 s.2.1 s.2.2.1 s.2.2.2.1 s.2.2.2.2
theorem s_tablefinderref03_at_l1_FB : ∀ n s, s_tablefinderref03_at_l1_F (n + 1) s = s_tablefinderref03_at_l1_B (s_tablefinderref03_at_l1_F n) s := fun _ _ => rfl

def s_tablefinderref03_at (t : G_api_Table) (i : Int) : Option (List G_api_Cell) :=
  (s_tablefinderref03_at_l1 big i t.Columns (t.Columns.length : Int) (0 : Int) ([] : (List G_api_Cell))).bind fun x0 => s_tablefinderref03_at_k1 x0

/-! ### tablefinder/tablefinderref03.CompareCells -/

def s_tablefinderref03_CompareCells_j1 (t5 : Bool) (a : G_api_Cell) (b : G_api_Cell) : Option Int :=
  bif t5 then (
    some (0 : Int)
  ) else (
    bif a.Null then (
      some (-1 : Int)
    ) else (
      bif b.Null then (
        some (1 : Int)
      ) else (
        bif (Op.bytesLess a.Text b.Text) then (
          some (-1 : Int)
        ) else (
          bif (!((Op.bytesLess a.Text b.Text) || a.Text == b.Text)) then (
            some (1 : Int)
          ) else (
            some (0 : Int)
          )
        )
      )
    )
  )

def s_tablefinderref03_CompareCells (a : G_api_Cell) (b : G_api_Cell) : Option Int :=
  bif a.Null then (
    s_tablefinderref03_CompareCells_j1 b.Null a b
  ) else (
    s_tablefinderref03_CompareCells_j1 false a b
  )

/-! ### tablefinder/tablefinderref03.compare -/

def s_tablefinderref03_compare_k1  : Option Int :=
  some (0 : Int)

def s_tablefinderref03_compare_l1_b (rec_ : (List G_api_Cell) → (List G_api_Cell) → Int → Int → Option (Out Unit Int)) (a : (List G_api_Cell)) (b : (List G_api_Cell)) (t8 : Int) (i : Int) : Option (Out Unit Int) :=
  bif (decide (i < t8)) then (
    (idx a i).bind fun a_e =>
    (idx b i).bind fun b_e =>
    (s_tablefinderref03_CompareCells a_e b_e).bind fun c =>
    bif (c != 0) then (
      some (.ret c)
    ) else (
      chk (inK .i64 (i + 1)) <|
      rec_ a b t8 (i + 1)
    )
  ) else (
    some (.brk ())
  )

def s_tablefinderref03_compare_l1 : Nat → (List G_api_Cell) → (List G_api_Cell) → Int → Int → Option (Out Unit Int)
  | 0, _, _, _, _ => none
  | n_ + 1, a, b, t8, i => s_tablefinderref03_compare_l1_b (s_tablefinderref03_compare_l1 n_) a b t8 i

def s_tablefinderref03_compare_l1_F (n : Nat) (s : ((List G_api_Cell) × (List G_api_Cell) × Int × Int)) : Option (Out Unit Int) := s_tablefinderref03_compare_l1 n s.1 s.2.1 s.2.2.1 s.2.2.2
def s_tablefinderref03_compare_l1_B (rec_ : ((List G_api_Cell) × (List G_api_Cell) × Int × Int) → Option (Out Unit Int)) (s : ((List G_api_Cell) × (List G_api_Cell) × Int × Int)) : Option (Out Unit Int) := s_tablefinderref03_compare_l1_b (fun a b t8 i => rec_ (a, b, t8, i)) s.1 s.2.1 s.2.2.1 s.2.2.2
theorem s_tablefinderref03_compare_l1_FB : ∀ n s, s_tablefinderref03_compare_l1_F (n + 1) s = s_tablefinderref03_compare_l1_B (s_tablefinderref03_compare_l1_F n) s := fun _ _ => rfl

def s_tablefinderref03_compare (a : (List G_api_Cell)) (b : (List G_api_Cell)) : Option Int :=
  (s_tablefinderref03_compare_l1 big a b (a.length : Int) (0 : Int)).bind fun
    | .ret q_ => some q_
    | .brk () => s_tablefinderref03_compare_k1

/-! ### tablefinder/tablefinderref03.Sort -/

def s_tablefinderref03_Sort_k3 (t : G_api_Table) (t2 : Int) (t2_1 : Str) (rows : (List Int)) (t2_2 : (List G_api_Column)) : Option (G_api_Table × Int) :=
  (s_tablefinderref03_Select t rows).bind fun (q, q_1) =>
  some (q, q_1)

def s_tablefinderref03_Sort_k2 (rec_ : Int → G_api_Table → Int → Str → (List Int) → (List G_api_Column) → Option (G_api_Table × Int × Str × (List Int) × (List G_api_Column))) (i : Int) (k : Int) (t : G_api_Table) (t2 : Int) (t2_1 : Str) (rows : (List Int)) (t2_2 : (List G_api_Column)) : Option (G_api_Table × Int × Str × (List Int) × (List G_api_Column)) :=
  chk (within 0 k (rows.length : Int)) <|
  chk (within k (rows.length : Int) (rows.length : Int)) <|
  chk (room (([i] : (List Int)).length + ((rows.drop ((k).toNat)).take ((rows.length : Int).toNat - (k).toNat)).length) 8) <|
  chk (decide (((k).toNat - 0) ≤ rows.length)) <|
  chk (room (((k).toNat - 0) + (([i] : (List Int)) ++ ((rows.drop ((k).toNat)).take ((rows.length : Int).toNat - (k).toNat))).length) 8) <|
  chk (inK .i64 (i + 1)) <|
  rec_ (i + 1) t t2 t2_1 (rows.take ((k).toNat - 0) ++ (([i] : (List Int)) ++ ((rows.drop ((k).toNat)).take ((rows.length : Int).toNat - (k).toNat)))) t2_2

def s_tablefinderref03_Sort_j1 (rec_ : Int → Int → G_api_Table → Int → Str → (List Int) → (List G_api_Column) → Option (Int × Int × G_api_Table × Int × Str × (List Int) × (List G_api_Column))) (i : Int) (k : Int) (t34 : Bool) (t : G_api_Table) (t2 : Int) (t2_1 : Str) (rows : (List Int)) (t2_2 : (List G_api_Column)) : Option (Int × Int × G_api_Table × Int × Str × (List Int) × (List G_api_Column)) :=
  bif t34 then (
    chk (inK .i64 (k - 1)) <|
    rec_ i (k - 1) t t2 t2_1 rows t2_2
  ) else (
    some (i, k, t, t2, t2_1, rows, t2_2)
  )

def s_tablefinderref03_Sort_l2_b (rec_ : Int → Int → G_api_Table → Int → Str → (List Int) → (List G_api_Column) → Option (Int × Int × G_api_Table × Int × Str × (List Int) × (List G_api_Column))) (i : Int) (k : Int) (t : G_api_Table) (t2 : Int) (t2_1 : Str) (rows : (List Int)) (t2_2 : (List G_api_Column)) : Option (Int × Int × G_api_Table × Int × Str × (List Int) × (List G_api_Column)) :=
  bif (decide (k > 0)) then (
    chk (inK .i64 (k - 1)) <|
    chk (inR (k - 1) (rows.length : Int)) <|
    (rows[((k - 1)).toNat]?).bind fun row =>
    (s_tablefinderref03_at t row).bind fun q =>
    (s_tablefinderref03_at t i).bind fun q_1 =>
    (s_tablefinderref03_compare q q_1).bind fun q_2 =>
    s_tablefinderref03_Sort_j1 rec_ i k (decide (q_2 > 0)) t t2 t2_1 rows t2_2
  ) else (
    s_tablefinderref03_Sort_j1 rec_ i k false t t2 t2_1 rows t2_2
  )

def s_tablefinderref03_Sort_l2 : Nat → Int → Int → G_api_Table → Int → Str → (List Int) → (List G_api_Column) → Option (Int × Int × G_api_Table × Int × Str × (List Int) × (List G_api_Column))
  | 0, _, _, _, _, _, _, _ => none
  | n_ + 1, i, k, t, t2, t2_1, rows, t2_2 => s_tablefinderref03_Sort_l2_b (s_tablefinderref03_Sort_l2 n_) i k t t2 t2_1 rows t2_2

def s_tablefinderref03_Sort_l2_F (n : Nat) (s : (Int × Int × G_api_Table × Int × Str × (List Int) × (List G_api_Column))) : Option (Int × Int × G_api_Table × Int × Str × (List Int) × (List G_api_Column)) := s_tablefinderref03_Sort_l2 n s.1 s.2.1 s.2.2.1 s.2.2.2.1 s.2.2.2.2.1 s.2.2.2.2.2.1 s.2.2.2.2.2.2
def s_tablefinderref03_Sort_l2_B (rec_ : (Int × Int × G_api_Table × Int × Str × (List Int) × (List G_api_Column)) → Option (Int × Int × G_api_Table × Int × Str × (List Int) × (List G_api_Column))) (s : (Int × Int × G_api_Table × Int × Str × (List Int) × (List G_api_Column))) : Option (Int × Int × G_api_Table × Int × Str × (List Int) × (List G_api_Column)) := s_tablefinderref03_Sort_l2_b (fun i k t t2 t2_1 rows t2_2 => rec_ (i, k, t, t2, t2_1, rows, t2_2)) s.1 s.2.1 s.2.2.1 s.2.2.2.1 s.2.2.2.2.1 s.2.2.2.2.2.1 s.2.2.2.2.2.2
theorem s_tablefinderref03_Sort_l2_FB : ∀ n s, s_tablefinderref03_Sort_l2_F (n + 1) s = s_tablefinderref03_Sort_l2_B (s_tablefinderref03_Sort_l2_F n) s := fun _ _ => rfl

def s_tablefinderref03_Sort_l1_b (rec_ : Int → G_api_Table → Int → Str → (List Int) → (List G_api_Column) → Option (G_api_Table × Int × Str × (List Int) × (List G_api_Column))) (i : Int) (t : G_api_Table) (t2 : Int) (t2_1 : Str) (rows : (List Int)) (t2_2 : (List G_api_Column)) : Option (G_api_Table × Int × Str × (List Int) × (List G_api_Column)) :=
  (s_tablefinderref03_Rows t).bind fun q =>
  bif (decide (i < q)) then (
    (s_tablefinderref03_Sort_l2 big i (rows.length : Int) t t2 t2_1 rows t2_2).bind fun (x0, x1, x2, x3, x4, x5, x6) => s_tablefinderref03_Sort_k2 rec_ x0 x1 x2 x3 x4 x5 x6
  ) else (
    some (t, t2, t2_1, rows, t2_2)
  )

def s_tablefinderref03_Sort_l1 : Nat → Int → G_api_Table → Int → Str → (List Int) → (List G_api_Column) → Option (G_api_Table × Int × Str × (List Int) × (List G_api_Column))
  | 0, _, _, _, _, _, _ => none
  | n_ + 1, i, t, t2, t2_1, rows, t2_2 => s_tablefinderref03_Sort_l1_b (s_tablefinderref03_Sort_l1 n_) i t t2 t2_1 rows t2_2

def s_tablefinderref03_Sort_l1_F (n : Nat) (s : (Int × G_api_Table × Int × Str × (List Int) × (List G_api_Column))) : Option (G_api_Table × Int × Str × (List Int) × (List G_api_Column)) := s_tablefinderref03_Sort_l1 n s.1 s.2.1 s.2.2.1 s.2.2.2.1 s.2.2.2.2.1 s.2.2.2.2.2
def s_tablefinderref03_Sort_l1_B (rec_ : (Int × G_api_Table × Int × Str × (List Int) × (List G_api_Column)) → Option (G_api_Table × Int × Str × (List Int) × (List G_api_Column))) (s : (Int × G_api_Table × Int × Str × (List Int) × (List G_api_Column))) : Option (G_api_Table × Int × Str × (List Int) × (List G_api_Column)) := s_tablefinderref03_Sort_l1_b (fun i t t2 t2_1 rows t2_2 => rec_ (i, t, t2, t2_1, rows, t2_2)) s.1 s.2.1 s.2.2.1 s.2.2.2.1 s.2.2.2.2.1 s.2.2.2.2.2
theorem s_tablefinderref03_Sort_l1_FB : ∀ n s, s_tablefinderref03_Sort_l1_F (n + 1) s = s_tablefinderref03_Sort_l1_B (s_tablefinderref03_Sort_l1_F n) s := fun _ _ => rfl

def s_tablefinderref03_Sort (t : G_api_Table) : Option (G_api_Table × Int) :=
  (s_tablefinderref03_Valid t).bind fun q =>
  bif (!q) then (
    some ((G_api_Table.mk 0 ([] : Str) ([] : (List G_api_Column))), 1)
  ) else (
    (s_tablefinderref03_Sort_l1 big (0 : Int) t (0 : Int) ([] : Str) ([] : (List Int)) ([] : (List G_api_Column))).bind fun (x0, x1, x2, x3, x4) => s_tablefinderref03_Sort_k3 x0 x1 x2 x3 x4
  )

/-! ### tablefinder/table.Row -/

def s_table_Row_k2 (out : (List G_api_Cell)) : Option ((List G_api_Cell) × Int) :=
  some (out, 0)

def s_table_Row_l1_b (rec_ : Int → (List G_api_Column) → Int → Int → (List G_api_Cell) → Option (List G_api_Cell)) (i : Int) (t23 : (List G_api_Column)) (t24 : Int) (t25 : Int) (out : (List G_api_Cell)) : Option (List G_api_Cell) :=
  bif (decide (t25 < t24)) then (
    (idx t23 t25).bind fun c =>
    (idx c.Cells i).bind fun Cell =>
    chk (room (out.length + ([Cell] : (List G_api_Cell)).length) 24) <|
    chk (inK .i64 (t25 + 1)) <|
    rec_ i t23 t24 (t25 + 1) (out ++ ([Cell] : (List G_api_Cell)))
  ) else (
    some out
  )

def s_table_Row_l1 : Nat → Int → (List G_api_Column) → Int → Int → (List G_api_Cell) → Option (List G_api_Cell)
  | 0, _, _, _, _, _ => none
  | n_ + 1, i, t23, t24, t25, out => s_table_Row_l1_b (s_table_Row_l1 n_) i t23 t24 t25 out

def s_table_Row_l1_F (n : Nat) (s : (Int × (List G_api_Column) × Int × Int × (List G_api_Cell))) : Option (List G_api_Cell) := s_table_Row_l1 n s.1 s.2.1 s.2.2.1 s.2.2.2.1 s.2.2.2.2
def s_table_Row_l1_B (rec_ : (Int × (List G_api_Column) × Int × Int × (List G_api_Cell)) → Option (List G_api_Cell)) (s : (Int × (List G_api_Column) × Int × Int × (List G_api_Cell))) : Option (List G_api_Cell) := s_table_Row_l1_b (fun i t23 t24 t25 out => rec_ (i, t23, t24, t25, out)) s.1 s.2.1 s.2.2.1 s.2.2.2.1 s.2.2.2.2
theorem s_table_Row_l1_FB : ∀ n s, s_table_Row_l1_F (n + 1) s = s_table_Row_l1_B (s_table_Row_l1_F n) s := fun _ _ => rfl

def s_table_Row_j1 (i : Int) (t13 : Bool) (t : G_api_Table) : Option ((List G_api_Cell) × Int) :=
  bif t13 then (
    some (([] : (List G_api_Cell)), 2)
  ) else (
    (s_table_Row_l1 big i t.Columns (t.Columns.length : Int) (0 : Int) ([] : (List G_api_Cell))).bind fun x0 => s_table_Row_k2 x0
  )

def s_table_Row (t : G_api_Table) (i : Int) : Option ((List G_api_Cell) × Int) :=
  (s_table_Valid t).bind fun q =>
  bif (!q) then (
    some (([] : (List G_api_Cell)), 1)
  ) else (
    bif (decide (i < 0)) then (
      s_table_Row_j1 i true t
    ) else (
      (s_table_Rows t).bind fun q_1 =>
      s_table_Row_j1 i (decide (i ≥ q_1)) t
    )
  )

/-! ### tablefinder/tablefinderref03.Row -/

def s_tablefinderref03_Row_j1 (i : Int) (t16 : Bool) (t : G_api_Table) : Option ((List G_api_Cell) × Int) :=
  bif t16 then (
    some (([] : (List G_api_Cell)), 2)
  ) else (
    (s_tablefinderref03_at t i).bind fun q =>
    some (q, 0)
  )

def s_tablefinderref03_Row (t : G_api_Table) (i : Int) : Option ((List G_api_Cell) × Int) :=
  (s_tablefinderref03_Valid t).bind fun q =>
  bif (!q) then (
    some (([] : (List G_api_Cell)), 1)
  ) else (
    bif (decide (i < 0)) then (
      s_tablefinderref03_Row_j1 i true t
    ) else (
      (s_tablefinderref03_Rows t).bind fun q_1 =>
      s_tablefinderref03_Row_j1 i (decide (i ≥ q_1)) t
    )
  )

/-! ### slices.Equal[[]tablefinder/api.Cell,tablefinder/api.Cell] -/

def s_slices_Equal_api_Cell_api_Cell_k1  : Option Bool :=
  some true

def s_slices_Equal_api_Cell_api_Cell_l1_b (rec_ : (List G_api_Cell) → (List G_api_Cell) → Int → Int → Option (Out Unit Bool)) (s1 : (List G_api_Cell)) (s2 : (List G_api_Cell)) (t12 : Int) (i : Int) : Option (Out Unit Bool) :=
  bif (decide (i < t12)) then (
    (idx s1 i).bind fun s1_e =>
    (idx s2 i).bind fun s2_e =>
    bif (!(s1_e.Null == s2_e.Null && (s1_e.Text == s2_e.Text && true))) then (
      some (.ret false)
    ) else (
      chk (inK .i64 (i + 1)) <|
      rec_ s1 s2 t12 (i + 1)
    )
  ) else (
    some (.brk ())
  )

def s_slices_Equal_api_Cell_api_Cell_l1 : Nat → (List G_api_Cell) → (List G_api_Cell) → Int → Int → Option (Out Unit Bool)
  | 0, _, _, _, _ => none
  | n_ + 1, s1, s2, t12, i => s_slices_Equal_api_Cell_api_Cell_l1_b (s_slices_Equal_api_Cell_api_Cell_l1 n_) s1 s2 t12 i

def s_slices_Equal_api_Cell_api_Cell_l1_F (n : Nat) (s : ((List G_api_Cell) × (List G_api_Cell) × Int × Int)) : Option (Out Unit Bool) := s_slices_Equal_api_Cell_api_Cell_l1 n s.1 s.2.1 s.2.2.1 s.2.2.2
def s_slices_Equal_api_Cell_api_Cell_l1_B (rec_ : ((List G_api_Cell) × (List G_api_Cell) × Int × Int) → Option (Out Unit Bool)) (s : ((List G_api_Cell) × (List G_api_Cell) × Int × Int)) : Option (Out Unit Bool) := s_slices_Equal_api_Cell_api_Cell_l1_b (fun s1 s2 t12 i => rec_ (s1, s2, t12, i)) s.1 s.2.1 s.2.2.1 s.2.2.2
theorem s_slices_Equal_api_Cell_api_Cell_l1_FB : ∀ n s, s_slices_Equal_api_Cell_api_Cell_l1_F (n + 1) s = s_slices_Equal_api_Cell_api_Cell_l1_B (s_slices_Equal_api_Cell_api_Cell_l1_F n) s := fun _ _ => rfl

def s_slices_Equal_api_Cell_api_Cell (s1 : (List G_api_Cell)) (s2 : (List G_api_Cell)) : Option Bool :=
  bif ((s1.length : Int) != (s2.length : Int)) then (
    some false
  ) else (
    (s_slices_Equal_api_Cell_api_Cell_l1 big s1 s2 (s1.length : Int) (0 : Int)).bind fun
      | .ret q_ => some q_
      | .brk () => s_slices_Equal_api_Cell_api_Cell_k1
  )

/-! ### tablefinder/table.Same$1 -/

def s_table_Same_1_j1 (t4 : Bool) : Option Bool :=
  some t4

def s_table_Same_1 (x_ : G_api_Column) (y : G_api_Column) : Option Bool :=
  bif (x_.Name == y.Name) then (
    (s_slices_Equal_api_Cell_api_Cell x_.Cells y.Cells).bind fun q =>
    s_table_Same_1_j1 q
  ) else (
    s_table_Same_1_j1 false
  )

/-! ### slices.EqualFunc[[]tablefinder/api.Column,[]tablefinder/api.Column,tablefinder/api.Column,tablefinder/api.Column] -/

def s_slices_EqualFunc_api_Column_api_Column_api_Column_api_Column_k1  : Option Bool :=
  some true

def s_slices_EqualFunc_api_Column_api_Column_api_Column_api_Column_l1_b (rec_ : (List G_api_Column) → (List G_api_Column) → Int → Int → Option (Out Unit Bool)) (s2 : (List G_api_Column)) (t15 : (List G_api_Column)) (t16 : Int) (i : Int) : Option (Out Unit Bool) :=
  bif (decide (i < t16)) then (
    (idx t15 i).bind fun v1 =>
    (idx s2 i).bind fun v2 =>
    (s_table_Same_1 v1 v2).bind fun q =>
    bif (!q) then (
      some (.ret false)
    ) else (
      chk (inK .i64 (i + 1)) <|
      rec_ s2 t15 t16 (i + 1)
    )
  ) else (
    some (.brk ())
  )

def s_slices_EqualFunc_api_Column_api_Column_api_Column_api_Column_l1 : Nat → (List G_api_Column) → (List G_api_Column) → Int → Int → Option (Out Unit Bool)
  | 0, _, _, _, _ => none
  | n_ + 1, s2, t15, t16, i => s_slices_EqualFunc_api_Column_api_Column_api_Column_api_Column_l1_b (s_slices_EqualFunc_api_Column_api_Column_api_Column_api_Column_l1 n_) s2 t15 t16 i

def s_slices_EqualFunc_api_Column_api_Column_api_Column_api_Column_l1_F (n : Nat) (s : ((List G_api_Column) × (List G_api_Column) × Int × Int)) : Option (Out Unit Bool) := s_slices_EqualFunc_api_Column_api_Column_api_Column_api_Column_l1 n s.1 s.2.1 s.2.2.1 s.2.2.2
def s_slices_EqualFunc_api_Column_api_Column_api_Column_api_Column_l1_B (rec_ : ((List G_api_Column) × (List G_api_Column) × Int × Int) → Option (Out Unit Bool)) (s : ((List G_api_Column) × (List G_api_Column) × Int × Int)) : Option (Out Unit Bool) := s_slices_EqualFunc_api_Column_api_Column_api_Column_api_Column_l1_b (fun s2 t15 t16 i => rec_ (s2, t15, t16, i)) s.1 s.2.1 s.2.2.1 s.2.2.2
theorem s_slices_EqualFunc_api_Column_api_Column_api_Column_api_Column_l1_FB : ∀ n s, s_slices_EqualFunc_api_Column_api_Column_api_Column_api_Column_l1_F (n + 1) s = s_slices_EqualFunc_api_Column_api_Column_api_Column_api_Column_l1_B (s_slices_EqualFunc_api_Column_api_Column_api_Column_api_Column_l1_F n) s := fun _ _ => rfl

def s_slices_EqualFunc_api_Column_api_Column_api_Column_api_Column (s1 : (List G_api_Column)) (s2 : (List G_api_Column)) : Option Bool :=
  bif ((s1.length : Int) != (s2.length : Int)) then (
    some false
  ) else (
    (s_slices_EqualFunc_api_Column_api_Column_api_Column_api_Column_l1 big s2 s1 (s1.length : Int) (0 : Int)).bind fun
      | .ret q_ => some q_
      | .brk () => s_slices_EqualFunc_api_Column_api_Column_api_Column_api_Column_k1
  )

/-! ### tablefinder/table.Same -/

def s_table_Same_j1 (t4 : Bool) : Option Bool :=
  some t4

def s_table_Same (a : G_api_Table) (b : G_api_Table) : Option Bool :=
  bif (a.ID == b.ID) then (
    bif (a.Name == b.Name) then (
      (s_slices_EqualFunc_api_Column_api_Column_api_Column_api_Column a.Columns b.Columns).bind fun q =>
      s_table_Same_j1 q
    ) else (
      s_table_Same_j1 false
    )
  ) else (
    s_table_Same_j1 false
  )

/-! ### internal/strconv.AppendBool -/

def s_internal_strconv_AppendBool (dst : (List Int)) (b : Bool) : Option (List Int) :=
  bif b then (
    chk (room (dst.length + (([116, 114, 117, 101] : Str).map fun b => ((b.toNat : Nat) : Int)).length) 1) <|
    some (dst ++ (([116, 114, 117, 101] : Str).map fun b => ((b.toNat : Nat) : Int)))
  ) else (
    chk (room (dst.length + (([102, 97, 108, 115, 101] : Str).map fun b => ((b.toNat : Nat) : Int)).length) 1) <|
    some (dst ++ (([102, 97, 108, 115, 101] : Str).map fun b => ((b.toNat : Nat) : Int)))
  )

/-! ### strconv.AppendBool -/

def s_strconv_AppendBool (dst : (List Int)) (b : Bool) : Option (List Int) :=
  (s_internal_strconv_AppendBool dst b).bind fun q =>
  some q

/-! ### unicode/utf8.decodeRuneInStringSlow -/

def s_unicode_utf8_decodeRuneInStringSlow_j3 (s0 : Int) (s1 : Int) (s2 : Int) (s3 : Int) (t98 : Bool) : Option (Int × Int) :=
  bif t98 then (
    some (65533, 1)
  ) else (
    chk (decide (0 ≤ (18 : Int))) <|
    chk (decide (0 ≤ (12 : Int))) <|
    chk (decide (0 ≤ (6 : Int))) <|
    some ((orK .i32 (orK .i32 (orK .i32 (shlK .i32 (IntKind.wrap .i32 (andK .u8 s0 7)) 18) (shlK .i32 (IntKind.wrap .i32 (andK .u8 s1 63)) 12)) (shlK .i32 (IntKind.wrap .i32 (andK .u8 s2 63)) 6)) (IntKind.wrap .i32 (andK .u8 s3 63))), 4)
  )

def s_unicode_utf8_decodeRuneInStringSlow_j2 (s : Str) (s0 : Int) (sz : Int) (s1 : Int) (s2 : Int) (t75 : Bool) : Option (Int × Int) :=
  bif t75 then (
    some (65533, 1)
  ) else (
    bif (decide (sz ≤ 3)) then (
      chk (decide (0 ≤ (12 : Int))) <|
      chk (decide (0 ≤ (6 : Int))) <|
      some ((orK .i32 (orK .i32 (shlK .i32 (IntKind.wrap .i32 (andK .u8 s0 15)) 12) (shlK .i32 (IntKind.wrap .i32 (andK .u8 s1 63)) 6)) (IntKind.wrap .i32 (andK .u8 s2 63))), 3)
    ) else (
      (idx s 3).bind fun c =>
      bif (decide (((c.toNat : Nat) : Int) < 128)) then (
        s_unicode_utf8_decodeRuneInStringSlow_j3 s0 s1 s2 ((c.toNat : Nat) : Int) true
      ) else (
        s_unicode_utf8_decodeRuneInStringSlow_j3 s0 s1 s2 ((c.toNat : Nat) : Int) (decide ((191 : Int) < ((c.toNat : Nat) : Int)))
      )
    )
  )

def s_unicode_utf8_decodeRuneInStringSlow_j1 (s : Str) (s0 : Int) (sz : Int) (s1 : Int) (t57 : Bool) : Option (Int × Int) :=
  bif t57 then (
    some (65533, 1)
  ) else (
    bif (decide (sz ≤ 2)) then (
      chk (decide (0 ≤ (6 : Int))) <|
      some ((orK .i32 (shlK .i32 (IntKind.wrap .i32 (andK .u8 s0 31)) 6) (IntKind.wrap .i32 (andK .u8 s1 63))), 2)
    ) else (
      (idx s 2).bind fun c =>
      bif (decide (((c.toNat : Nat) : Int) < 128)) then (
        s_unicode_utf8_decodeRuneInStringSlow_j2 s s0 sz s1 ((c.toNat : Nat) : Int) true
      ) else (
        s_unicode_utf8_decodeRuneInStringSlow_j2 s s0 sz s1 ((c.toNat : Nat) : Int) (decide ((191 : Int) < ((c.toNat : Nat) : Int)))
      )
    )
  )

def s_unicode_utf8_decodeRuneInStringSlow (s : Str) : Option (Int × Int) :=
  bif (decide ((s.length : Int) < 1)) then (
    some (65533, 0)
  ) else (
    (idx s 0).bind fun c =>
    chk (inR ((c.toNat : Nat) : Int) 256) <|
    (tabB (car := carU) (.int .u8) glob_utf8_first ((((c.toNat : Nat) : Int)).toNat * 1)).bind fun c_1 =>
    bif (decide (c_1 ≥ 240)) then (
      chk (decide (0 ≤ (31 : Int))) <|
      chk (decide (0 ≤ (31 : Int))) <|
      (idx s 0).bind fun c_2 =>
      some ((orK .i32 (andNotK .i32 (IntKind.wrap .i32 ((c_2.toNat : Nat) : Int)) (shrK .i32 (shlK .i32 (IntKind.wrap .i32 c_1) 31) 31)) (andK .i32 65533 (shrK .i32 (shlK .i32 (IntKind.wrap .i32 c_1) 31) 31))), 1)
    ) else (
      chk (decide (0 ≤ (4 : Int))) <|
      chk (inR (shrK .u8 c_1 4) 16) <|
      (tabB (car := carU) (.int .u8) glob_utf8_acceptRanges (((shrK .u8 c_1 4)).toNat * 2)).bind fun c_3 =>
      (tabB (car := carU) (.int .u8) glob_utf8_acceptRanges (((shrK .u8 c_1 4)).toNat * 2 + 1)).bind fun c_4 =>
      bif (decide ((s.length : Int) < (IntKind.wrap .i64 (andK .u8 c_1 7)))) then (
        some (65533, 1)
      ) else (
        (idx s 1).bind fun c_5 =>
        bif (decide (((c_5.toNat : Nat) : Int) < c_3)) then (
          s_unicode_utf8_decodeRuneInStringSlow_j1 s ((c.toNat : Nat) : Int) (IntKind.wrap .i64 (andK .u8 c_1 7)) ((c_5.toNat : Nat) : Int) true
        ) else (
          s_unicode_utf8_decodeRuneInStringSlow_j1 s ((c.toNat : Nat) : Int) (IntKind.wrap .i64 (andK .u8 c_1 7)) ((c_5.toNat : Nat) : Int) (decide (c_4 < ((c_5.toNat : Nat) : Int)))
        )
      )
    )
  )

/-! ### unicode/utf8.DecodeRuneInString -/

def s_unicode_utf8_DecodeRuneInString_j1 (s : Str) (t10 : Bool) : Option (Int × Int) :=
  bif t10 then (
    (idx s 0).bind fun c =>
    some ((IntKind.wrap .i32 ((c.toNat : Nat) : Int)), 1)
  ) else (
    (s_unicode_utf8_decodeRuneInStringSlow s).bind fun (r_, size) =>
    some (r_, size)
  )

def s_unicode_utf8_DecodeRuneInString (s : Str) : Option (Int × Int) :=
  bif (!(s == ([] : Str))) then (
    (idx s 0).bind fun c =>
    s_unicode_utf8_DecodeRuneInString_j1 s (decide (((c.toNat : Nat) : Int) < 128))
  ) else (
    s_unicode_utf8_DecodeRuneInString_j1 s false
  )

/-! ### strconv.IsPrint -/

def s_strconv_IsPrint_j3 (r_ : Int) (t38 : Bool) : Option Bool :=
  bif t38 then (
    none
  ) else (
    none
  )

def s_strconv_IsPrint_j2 (r_ : Int) (t30 : Bool) : Option Bool :=
  bif t30 then (
    some (r_ != 173)
  ) else (
    some false
  )

def s_strconv_IsPrint_j1 (r_ : Int) (t24 : Bool) : Option Bool :=
  bif t24 then (
    some true
  ) else (
    bif (decide ((161 : Int) ≤ r_)) then (
      s_strconv_IsPrint_j2 r_ (decide (r_ ≤ 255))
    ) else (
      s_strconv_IsPrint_j2 r_ false
    )
  )

def s_strconv_IsPrint (r_ : Int) : Option Bool :=
  bif (decide (r_ ≤ 255)) then (
    bif (decide ((32 : Int) ≤ r_)) then (
      s_strconv_IsPrint_j1 r_ (decide (r_ ≤ 126))
    ) else (
      s_strconv_IsPrint_j1 r_ false
    )
  ) else (
    bif (decide ((0 : Int) ≤ r_)) then (
      s_strconv_IsPrint_j3 r_ (decide (r_ < 65536))
    ) else (
      s_strconv_IsPrint_j3 r_ false
    )
  )

/-! ### strconv.isInGraphicList -/

def s_strconv_isInGraphicList (r_ : Int) : Option Bool :=
  bif (decide (r_ > 65535)) then (
    some false
  ) else (
    none
  )

/-! ### unicode/utf8.appendRuneNonASCII -/

def s_unicode_utf8_appendRuneNonASCII_j2 (r_ : Int) (t50 : Bool) (p : (List Int)) : Option (List Int) :=
  bif t50 then (
    chk (decide (0 ≤ (18 : Int))) <|
    chk (decide (0 ≤ (12 : Int))) <|
    chk (decide (0 ≤ (6 : Int))) <|
    chk (room (p.length + ([(orK .u8 240 (IntKind.wrap .u8 (shrK .i32 r_ 18))), (orK .u8 128 (andK .u8 (IntKind.wrap .u8 (shrK .i32 r_ 12)) 63)), (orK .u8 128 (andK .u8 (IntKind.wrap .u8 (shrK .i32 r_ 6)) 63)), (orK .u8 128 (andK .u8 (IntKind.wrap .u8 r_) 63))] : (List Int)).length) 1) <|
    some (p ++ ([(orK .u8 240 (IntKind.wrap .u8 (shrK .i32 r_ 18))), (orK .u8 128 (andK .u8 (IntKind.wrap .u8 (shrK .i32 r_ 12)) 63)), (orK .u8 128 (andK .u8 (IntKind.wrap .u8 (shrK .i32 r_ 6)) 63)), (orK .u8 128 (andK .u8 (IntKind.wrap .u8 r_) 63))] : (List Int)))
  ) else (
    chk (room (p.length + ([239, 191, 189] : (List Int)).length) 1) <|
    some (p ++ ([239, 191, 189] : (List Int)))
  )

def s_unicode_utf8_appendRuneNonASCII_j1 (r_ : Int) (i : Int) (t25 : Bool) (p : (List Int)) : Option (List Int) :=
  bif t25 then (
    chk (decide (0 ≤ (12 : Int))) <|
    chk (decide (0 ≤ (6 : Int))) <|
    chk (room (p.length + ([(orK .u8 224 (IntKind.wrap .u8 (shrK .i32 r_ 12))), (orK .u8 128 (andK .u8 (IntKind.wrap .u8 (shrK .i32 r_ 6)) 63)), (orK .u8 128 (andK .u8 (IntKind.wrap .u8 r_) 63))] : (List Int)).length) 1) <|
    some (p ++ ([(orK .u8 224 (IntKind.wrap .u8 (shrK .i32 r_ 12))), (orK .u8 128 (andK .u8 (IntKind.wrap .u8 (shrK .i32 r_ 6)) 63)), (orK .u8 128 (andK .u8 (IntKind.wrap .u8 r_) 63))] : (List Int)))
  ) else (
    bif (decide (i > 65535)) then (
      s_unicode_utf8_appendRuneNonASCII_j2 r_ (decide (i ≤ 1114111)) p
    ) else (
      s_unicode_utf8_appendRuneNonASCII_j2 r_ false p
    )
  )

def s_unicode_utf8_appendRuneNonASCII (p : (List Int)) (r_ : Int) : Option (List Int) :=
  bif (decide ((IntKind.wrap .u32 r_) ≤ 2047)) then (
    chk (decide (0 ≤ (6 : Int))) <|
    chk (room (p.length + ([(orK .u8 192 (IntKind.wrap .u8 (shrK .i32 r_ 6))), (orK .u8 128 (andK .u8 (IntKind.wrap .u8 r_) 63))] : (List Int)).length) 1) <|
    some (p ++ ([(orK .u8 192 (IntKind.wrap .u8 (shrK .i32 r_ 6))), (orK .u8 128 (andK .u8 (IntKind.wrap .u8 r_) 63))] : (List Int)))
  ) else (
    bif (decide ((IntKind.wrap .u32 r_) < 55296)) then (
      s_unicode_utf8_appendRuneNonASCII_j1 r_ (IntKind.wrap .u32 r_) (decide ((IntKind.wrap .u32 r_) < 55296)) p
    ) else (
      bif (decide ((57343 : Int) < (IntKind.wrap .u32 r_))) then (
        s_unicode_utf8_appendRuneNonASCII_j1 r_ (IntKind.wrap .u32 r_) (decide ((IntKind.wrap .u32 r_) ≤ 65535)) p
      ) else (
        s_unicode_utf8_appendRuneNonASCII_j1 r_ (IntKind.wrap .u32 r_) false p
      )
    )
  )

/-! ### unicode/utf8.AppendRune -/

def s_unicode_utf8_AppendRune (p : (List Int)) (r_ : Int) : Option (List Int) :=
  bif (decide ((IntKind.wrap .u32 r_) ≤ 127)) then (
    chk (room (p.length + ([(IntKind.wrap .u8 r_)] : (List Int)).length) 1) <|
    some (p ++ ([(IntKind.wrap .u8 r_)] : (List Int)))
  ) else (
    (s_unicode_utf8_appendRuneNonASCII p r_).bind fun q =>
    some q
  )

/-! ### unicode/utf8.ValidRune -/

def s_unicode_utf8_ValidRune_j2 (t10 : Bool) : Option Bool :=
  bif t10 then (
    some true
  ) else (
    some false
  )

def s_unicode_utf8_ValidRune_j1 (r_ : Int) (t3 : Bool) : Option Bool :=
  bif t3 then (
    some true
  ) else (
    bif (decide ((57343 : Int) < r_)) then (
      s_unicode_utf8_ValidRune_j2 (decide (r_ ≤ 1114111))
    ) else (
      s_unicode_utf8_ValidRune_j2 false
    )
  )

def s_unicode_utf8_ValidRune (r_ : Int) : Option Bool :=
  bif (decide ((0 : Int) ≤ r_)) then (
    s_unicode_utf8_ValidRune_j1 r_ (decide (r_ < 55296))
  ) else (
    s_unicode_utf8_ValidRune_j1 r_ false
  )

/-! ### strconv.appendEscapedRune -/

def s_strconv_appendEscapedRune_j9 (buf : (List Int)) : Option (List Int) :=
  some buf

def s_strconv_appendEscapedRune_k8 (buf : (List Int)) : Option (List Int) :=
  s_strconv_appendEscapedRune_j9 buf

def s_strconv_appendEscapedRune_k7 (buf : (List Int)) : Option (List Int) :=
  s_strconv_appendEscapedRune_j9 buf

def s_strconv_appendEscapedRune_l1_b (rec_ : Int → Int → (List Int) → Option (List Int)) (r_ : Int) (s : Int) (buf : (List Int)) : Option (List Int) :=
  bif (decide (s ≥ 0)) then (
    chk (decide (0 ≤ (IntKind.wrap .u64 s))) <|
    (idx ([48, 49, 50, 51, 52, 53, 54, 55, 56, 57, 97, 98, 99, 100, 101, 102] : Str) (andK .i32 (shrK .i32 r_ (IntKind.wrap .u64 s)) 15)).bind fun c =>
    chk (room (buf.length + ([((c.toNat : Nat) : Int)] : (List Int)).length) 1) <|
    chk (inK .i64 (s - 4)) <|
    rec_ r_ (s - 4) (buf ++ ([((c.toNat : Nat) : Int)] : (List Int)))
  ) else (
    some buf
  )

def s_strconv_appendEscapedRune_l1 : Nat → Int → Int → (List Int) → Option (List Int)
  | 0, _, _, _ => none
  | n_ + 1, r_, s, buf => s_strconv_appendEscapedRune_l1_b (s_strconv_appendEscapedRune_l1 n_) r_ s buf

def s_strconv_appendEscapedRune_j6 (r_ : Int) (buf : (List Int)) : Option (List Int) :=
  chk (room (buf.length + (([92, 117] : Str).map fun b => ((b.toNat : Nat) : Int)).length) 1) <|
  (s_strconv_appendEscapedRune_l1 big r_ (12 : Int) (buf ++ (([92, 117] : Str).map fun b => ((b.toNat : Nat) : Int)))).bind fun x0 => s_strconv_appendEscapedRune_k7 x0

def s_strconv_appendEscapedRune_l2_b (rec_ : Int → Int → (List Int) → Option (List Int)) (r_ : Int) (s : Int) (buf : (List Int)) : Option (List Int) :=
  bif (decide (s ≥ 0)) then (
    chk (decide (0 ≤ (IntKind.wrap .u64 s))) <|
    (idx ([48, 49, 50, 51, 52, 53, 54, 55, 56, 57, 97, 98, 99, 100, 101, 102] : Str) (andK .i32 (shrK .i32 r_ (IntKind.wrap .u64 s)) 15)).bind fun c =>
    chk (room (buf.length + ([((c.toNat : Nat) : Int)] : (List Int)).length) 1) <|
    chk (inK .i64 (s - 4)) <|
    rec_ r_ (s - 4) (buf ++ ([((c.toNat : Nat) : Int)] : (List Int)))
  ) else (
    some buf
  )

def s_strconv_appendEscapedRune_l2 : Nat → Int → Int → (List Int) → Option (List Int)
  | 0, _, _, _ => none
  | n_ + 1, r_, s, buf => s_strconv_appendEscapedRune_l2_b (s_strconv_appendEscapedRune_l2 n_) r_ s buf

def s_strconv_appendEscapedRune_j5 (r_ : Int) (t56 : Bool) (buf : (List Int)) : Option (List Int) :=
  bif t56 then (
    chk (room (buf.length + (([92, 120] : Str).map fun b => ((b.toNat : Nat) : Int)).length) 1) <|
    chk (decide (0 ≤ (4 : Int))) <|
    (idx ([48, 49, 50, 51, 52, 53, 54, 55, 56, 57, 97, 98, 99, 100, 101, 102] : Str) (shrK .u8 (IntKind.wrap .u8 r_) 4)).bind fun c =>
    chk (room ((buf ++ (([92, 120] : Str).map fun b => ((b.toNat : Nat) : Int))).length + ([((c.toNat : Nat) : Int)] : (List Int)).length) 1) <|
    (idx ([48, 49, 50, 51, 52, 53, 54, 55, 56, 57, 97, 98, 99, 100, 101, 102] : Str) (andK .u8 (IntKind.wrap .u8 r_) 15)).bind fun c_1 =>
    chk (room (((buf ++ (([92, 120] : Str).map fun b => ((b.toNat : Nat) : Int))) ++ ([((c.toNat : Nat) : Int)] : (List Int))).length + ([((c_1.toNat : Nat) : Int)] : (List Int)).length) 1) <|
    s_strconv_appendEscapedRune_j9 (((buf ++ (([92, 120] : Str).map fun b => ((b.toNat : Nat) : Int))) ++ ([((c.toNat : Nat) : Int)] : (List Int))) ++ ([((c_1.toNat : Nat) : Int)] : (List Int)))
  ) else (
    (s_unicode_utf8_ValidRune r_).bind fun q =>
    bif (!q) then (
      s_strconv_appendEscapedRune_j6 (65533 : Int) buf
    ) else (
      bif (decide (r_ < 65536)) then (
        s_strconv_appendEscapedRune_j6 r_ buf
      ) else (
        chk (room (buf.length + (([92, 85] : Str).map fun b => ((b.toNat : Nat) : Int)).length) 1) <|
        (s_strconv_appendEscapedRune_l2 big r_ (28 : Int) (buf ++ (([92, 85] : Str).map fun b => ((b.toNat : Nat) : Int)))).bind fun x0 => s_strconv_appendEscapedRune_k8 x0
      )
    )
  )

def s_strconv_appendEscapedRune_j4 (r_ : Int) (buf : (List Int)) : Option (List Int) :=
  bif (r_ == 7) then (
    chk (room (buf.length + (([92, 97] : Str).map fun b => ((b.toNat : Nat) : Int)).length) 1) <|
    s_strconv_appendEscapedRune_j9 (buf ++ (([92, 97] : Str).map fun b => ((b.toNat : Nat) : Int)))
  ) else (
    bif (r_ == 8) then (
      chk (room (buf.length + (([92, 98] : Str).map fun b => ((b.toNat : Nat) : Int)).length) 1) <|
      s_strconv_appendEscapedRune_j9 (buf ++ (([92, 98] : Str).map fun b => ((b.toNat : Nat) : Int)))
    ) else (
      bif (r_ == 12) then (
        chk (room (buf.length + (([92, 102] : Str).map fun b => ((b.toNat : Nat) : Int)).length) 1) <|
        s_strconv_appendEscapedRune_j9 (buf ++ (([92, 102] : Str).map fun b => ((b.toNat : Nat) : Int)))
      ) else (
        bif (r_ == 10) then (
          chk (room (buf.length + (([92, 110] : Str).map fun b => ((b.toNat : Nat) : Int)).length) 1) <|
          s_strconv_appendEscapedRune_j9 (buf ++ (([92, 110] : Str).map fun b => ((b.toNat : Nat) : Int)))
        ) else (
          bif (r_ == 13) then (
            chk (room (buf.length + (([92, 114] : Str).map fun b => ((b.toNat : Nat) : Int)).length) 1) <|
            s_strconv_appendEscapedRune_j9 (buf ++ (([92, 114] : Str).map fun b => ((b.toNat : Nat) : Int)))
          ) else (
            bif (r_ == 9) then (
              chk (room (buf.length + (([92, 116] : Str).map fun b => ((b.toNat : Nat) : Int)).length) 1) <|
              s_strconv_appendEscapedRune_j9 (buf ++ (([92, 116] : Str).map fun b => ((b.toNat : Nat) : Int)))
            ) else (
              bif (r_ == 11) then (
                chk (room (buf.length + (([92, 118] : Str).map fun b => ((b.toNat : Nat) : Int)).length) 1) <|
                s_strconv_appendEscapedRune_j9 (buf ++ (([92, 118] : Str).map fun b => ((b.toNat : Nat) : Int)))
              ) else (
                bif (decide (r_ < 32)) then (
                  s_strconv_appendEscapedRune_j5 r_ true buf
                ) else (
                  s_strconv_appendEscapedRune_j5 r_ (r_ == 127) buf
                )
              )
            )
          )
        )
      )
    )
  )

def s_strconv_appendEscapedRune_j3 (r_ : Int) (t51 : Bool) (buf : (List Int)) : Option (List Int) :=
  bif t51 then (
    (s_unicode_utf8_AppendRune buf r_).bind fun q =>
    some q
  ) else (
    s_strconv_appendEscapedRune_j4 r_ buf
  )

def s_strconv_appendEscapedRune_j2 (r_ : Int) (t36 : Bool) (buf : (List Int)) : Option (List Int) :=
  bif t36 then (
    chk (room (buf.length + ([(IntKind.wrap .u8 r_)] : (List Int)).length) 1) <|
    some (buf ++ ([(IntKind.wrap .u8 r_)] : (List Int)))
  ) else (
    s_strconv_appendEscapedRune_j4 r_ buf
  )

def s_strconv_appendEscapedRune_j1 (r_ : Int) (ASCIIonly : Bool) (graphicOnly : Bool) (t20 : Bool) (buf : (List Int)) : Option (List Int) :=
  bif t20 then (
    chk (room (buf.length + ([92] : (List Int)).length) 1) <|
    chk (room ((buf ++ ([92] : (List Int))).length + ([(IntKind.wrap .u8 r_)] : (List Int)).length) 1) <|
    some ((buf ++ ([92] : (List Int))) ++ ([(IntKind.wrap .u8 r_)] : (List Int)))
  ) else (
    bif ASCIIonly then (
      bif (decide (r_ < 128)) then (
        (s_strconv_IsPrint r_).bind fun q =>
        s_strconv_appendEscapedRune_j2 r_ q buf
      ) else (
        s_strconv_appendEscapedRune_j2 r_ false buf
      )
    ) else (
      (s_strconv_IsPrint r_).bind fun q_1 =>
      bif q_1 then (
        s_strconv_appendEscapedRune_j3 r_ true buf
      ) else (
        bif graphicOnly then (
          (s_strconv_isInGraphicList r_).bind fun q_2 =>
          s_strconv_appendEscapedRune_j3 r_ q_2 buf
        ) else (
          s_strconv_appendEscapedRune_j3 r_ false buf
        )
      )
    )
  )

def s_strconv_appendEscapedRune (buf : (List Int)) (r_ : Int) (quote : Int) (ASCIIonly : Bool) (graphicOnly : Bool) : Option (List Int) :=
  bif (r_ == (IntKind.wrap .i32 quote)) then (
    s_strconv_appendEscapedRune_j1 r_ ASCIIonly graphicOnly true buf
  ) else (
    s_strconv_appendEscapedRune_j1 r_ ASCIIonly graphicOnly (r_ == 92) buf
  )

/-! ### strconv.appendQuotedWith -/

def s_strconv_appendQuotedWith_k4 (quote : Int) (buf : (List Int)) : Option (List Int) :=
  chk (room (buf.length + ([quote] : (List Int)).length) 1) <|
  some (buf ++ ([quote] : (List Int)))

def s_strconv_appendQuotedWith_j3 (rec_ : Str → Int → Bool → Bool → (List Int) → Option (Int × (List Int))) (s : Str) (quote : Int) (ASCIIonly : Bool) (graphicOnly : Bool) (width : Int) (buf : (List Int)) : Option (Int × (List Int)) :=
  chk (within width (s.length : Int) (s.length : Int)) <|
  rec_ (s.drop (width).toNat) quote ASCIIonly graphicOnly buf

def s_strconv_appendQuotedWith_j2 (rec_ : Str → Int → Bool → Bool → (List Int) → Option (Int × (List Int))) (s : Str) (quote : Int) (ASCIIonly : Bool) (graphicOnly : Bool) (r_ : Int) (width : Int) (t56 : Bool) (buf : (List Int)) : Option (Int × (List Int)) :=
  bif t56 then (
    chk (room (buf.length + (([92, 120] : Str).map fun b => ((b.toNat : Nat) : Int)).length) 1) <|
    (idx s 0).bind fun c =>
    chk (decide (0 ≤ (4 : Int))) <|
    (idx ([48, 49, 50, 51, 52, 53, 54, 55, 56, 57, 97, 98, 99, 100, 101, 102] : Str) (shrK .u8 ((c.toNat : Nat) : Int) 4)).bind fun c_1 =>
    chk (room ((buf ++ (([92, 120] : Str).map fun b => ((b.toNat : Nat) : Int))).length + ([((c_1.toNat : Nat) : Int)] : (List Int)).length) 1) <|
    (idx s 0).bind fun c_2 =>
    (idx ([48, 49, 50, 51, 52, 53, 54, 55, 56, 57, 97, 98, 99, 100, 101, 102] : Str) (andK .u8 ((c_2.toNat : Nat) : Int) 15)).bind fun c_3 =>
    chk (room (((buf ++ (([92, 120] : Str).map fun b => ((b.toNat : Nat) : Int))) ++ ([((c_1.toNat : Nat) : Int)] : (List Int))).length + ([((c_3.toNat : Nat) : Int)] : (List Int)).length) 1) <|
    s_strconv_appendQuotedWith_j3 rec_ s quote ASCIIonly graphicOnly width (((buf ++ (([92, 120] : Str).map fun b => ((b.toNat : Nat) : Int))) ++ ([((c_1.toNat : Nat) : Int)] : (List Int))) ++ ([((c_3.toNat : Nat) : Int)] : (List Int)))
  ) else (
    (s_strconv_appendEscapedRune buf r_ quote ASCIIonly graphicOnly).bind fun buf_1 =>
    s_strconv_appendQuotedWith_j3 rec_ s quote ASCIIonly graphicOnly width buf_1
  )

def s_strconv_appendQuotedWith_l1_b (rec_ : Str → Int → Bool → Bool → (List Int) → Option (Int × (List Int))) (s : Str) (quote : Int) (ASCIIonly : Bool) (graphicOnly : Bool) (buf : (List Int)) : Option (Int × (List Int)) :=
  bif (decide ((s.length : Int) > 0)) then (
    (s_unicode_utf8_DecodeRuneInString s).bind fun (r_, width) =>
    bif (width == 1) then (
      s_strconv_appendQuotedWith_j2 rec_ s quote ASCIIonly graphicOnly r_ width (r_ == 65533) buf
    ) else (
      s_strconv_appendQuotedWith_j2 rec_ s quote ASCIIonly graphicOnly r_ width false buf
    )
  ) else (
    some (quote, buf)
  )

def s_strconv_appendQuotedWith_l1 : Nat → Str → Int → Bool → Bool → (List Int) → Option (Int × (List Int))
  | 0, _, _, _, _, _ => none
  | n_ + 1, s, quote, ASCIIonly, graphicOnly, buf => s_strconv_appendQuotedWith_l1_b (s_strconv_appendQuotedWith_l1 n_) s quote ASCIIonly graphicOnly buf

def s_strconv_appendQuotedWith_j1 (s : Str) (quote : Int) (ASCIIonly : Bool) (graphicOnly : Bool) (buf : (List Int)) : Option (List Int) :=
  chk (room (buf.length + ([quote] : (List Int)).length) 1) <|
  (s_strconv_appendQuotedWith_l1 big s quote ASCIIonly graphicOnly (buf ++ ([quote] : (List Int)))).bind fun (x0, x1) => s_strconv_appendQuotedWith_k4 x0 x1

def s_strconv_appendQuotedWith (buf : (List Int)) (s : Str) (quote : Int) (ASCIIonly : Bool) (graphicOnly : Bool) : Option (List Int) :=
  anyN buf.length fun cap => (
    chk (inK .i64 (((cap : Nat) : Int) - (buf.length : Int))) <|
    bif (decide ((((cap : Nat) : Int) - (buf.length : Int)) < (s.length : Int))) then (
      chk (inK .i64 ((buf.length : Int) + 1)) <|
      chk (inK .i64 (((buf.length : Int) + 1) + (s.length : Int))) <|
      chk (inK .i64 ((((buf.length : Int) + 1) + (s.length : Int)) + 1)) <|
      chk (mkOk (buf.length : Int) ((((buf.length : Int) + 1) + (s.length : Int)) + 1) 1) <|
      s_strconv_appendQuotedWith_j1 s quote ASCIIonly graphicOnly (buf.take (List.replicate ((buf.length : Int)).toNat (0 : Int)).length ++ (List.replicate ((buf.length : Int)).toNat (0 : Int)).drop buf.length)
    ) else (
      s_strconv_appendQuotedWith_j1 s quote ASCIIonly graphicOnly buf
    )
  )

/-! ### strconv.AppendQuote -/

def s_strconv_AppendQuote (dst : (List Int)) (s : Str) : Option (List Int) :=
  (s_strconv_appendQuotedWith dst s 34 false false).bind fun q =>
  some q

/-! ### tablefinder/table.rows -/

def s_table_rows_k2 (out : (List (Str × Int))) : Option (List (Str × Int)) :=
  some out

def s_table_rows_k1 (rec_ : Int → Int → G_api_Table → (List (Str × Int)) → Option (List (Str × Int))) (t10 : Int) (i : Int) (t : G_api_Table) (out : (List (Str × Int))) (key : (List Int)) : Option (List (Str × Int)) :=
  chk (inK .i64 (((lookB (k := .str) (v := (.int .i64)) (car := carU) out (key.map fun n => UInt8.ofNat (Int.toNat n))).getD (0 : Int)) + 1)) <|
  chk (inK .i64 (i + 1)) <|
  rec_ t10 (i + 1) t (setB (k := .str) (v := (.int .i64)) (car := carU) out (key.map fun n => UInt8.ofNat (Int.toNat n)) (((lookB (k := .str) (v := (.int .i64)) (car := carU) out (key.map fun n => UInt8.ofNat (Int.toNat n))).getD (0 : Int)) + 1))

def s_table_rows_l2_b (rec_ : Int → Int → Int → (List G_api_Column) → Int → Int → G_api_Table → (List (Str × Int)) → (List Int) → Option (Int × Int × G_api_Table × (List (Str × Int)) × (List Int))) (i : Int) (t10 : Int) (i_1 : Int) (t15 : (List G_api_Column)) (t16 : Int) (t17 : Int) (t : G_api_Table) (out : (List (Str × Int))) (key : (List Int)) : Option (Int × Int × G_api_Table × (List (Str × Int)) × (List Int)) :=
  bif (decide (t17 < t16)) then (
    (idx t15 t17).bind fun c =>
    (idx c.Cells i).bind fun Cell =>
    (s_strconv_AppendBool key Cell.Null).bind fun key_1 =>
    (idx c.Cells i).bind fun Cell_1 =>
    (s_strconv_AppendQuote key_1 Cell_1.Text).bind fun key_2 =>
    chk (inK .i64 (t17 + 1)) <|
    rec_ i t10 i_1 t15 t16 (t17 + 1) t out key_2
  ) else (
    some (t10, i_1, t, out, key)
  )

def s_table_rows_l2 : Nat → Int → Int → Int → (List G_api_Column) → Int → Int → G_api_Table → (List (Str × Int)) → (List Int) → Option (Int × Int × G_api_Table × (List (Str × Int)) × (List Int))
  | 0, _, _, _, _, _, _, _, _, _ => none
  | n_ + 1, i, t10, i_1, t15, t16, t17, t, out, key => s_table_rows_l2_b (s_table_rows_l2 n_) i t10 i_1 t15 t16 t17 t out key

def s_table_rows_l2_F (n : Nat) (s : (Int × Int × Int × (List G_api_Column) × Int × Int × G_api_Table × (List (Str × Int)) × (List Int))) : Option (Int × Int × G_api_Table × (List (Str × Int)) × (List Int)) := s_table_rows_l2 n s.1 s.2.1 s.2.2.1 s.2.2.2.1 s.2.2.2.2.1 s.2.2.2.2.2.1 s.2.2.2.2.2.2.1 s.2.2.2.2.2.2.2.1 s.2.2.2.2.2.2.2.2
def s_table_rows_l2_B (rec_ : (Int × Int × Int × (List G_api_Column) × Int × Int × G_api_Table × (List (Str × Int)) × (List Int)) → Option (Int × Int × G_api_Table × (List (Str × Int)) × (List Int))) (s : (Int × Int × Int × (List G_api_Column) × Int × Int × G_api_Table × (List (Str × Int)) × (List Int))) : Option (Int × Int × G_api_Table × (List (Str × Int)) × (List Int)) := s_table_rows_l2_b (fun i t10 i_1 t15 t16 t17 t out key => rec_ (i, t10, i_1, t15, t16, t17, t, out, key)) s.1 s.2.1 s.2.2.1 s.2.2.2.1 s.2.2.2.2.1 s.2.2.2.2.2.1 s.2.2.2.2.2.2.1 s.2.2.2.2.2.2.2.1 s.2.2.2.2.2.2.2.2
theorem s_table_rows_l2_FB : ∀ n s, s_table_rows_l2_F (n + 1) s = s_table_rows_l2_B (s_table_rows_l2_F n) s := fun _ _ => rfl

def s_table_rows_l1_b (rec_ : Int → Int → G_api_Table → (List (Str × Int)) → Option (List (Str × Int))) (t10 : Int) (i : Int) (t : G_api_Table) (out : (List (Str × Int))) : Option (List (Str × Int)) :=
  bif (decide (i < t10)) then (
    (s_table_rows_l2 big i t10 i t.Columns (t.Columns.length : Int) (0 : Int) t out ([] : (List Int))).bind fun (x0, x1, x2, x3, x4) => s_table_rows_k1 rec_ x0 x1 x2 x3 x4
  ) else (
    some out
  )

def s_table_rows_l1 : Nat → Int → Int → G_api_Table → (List (Str × Int)) → Option (List (Str × Int))
  | 0, _, _, _, _ => none
  | n_ + 1, t10, i, t, out => s_table_rows_l1_b (s_table_rows_l1 n_) t10 i t out

def s_table_rows_l1_F (n : Nat) (s : (Int × Int × G_api_Table × (List (Str × Int)))) : Option (List (Str × Int)) := s_table_rows_l1 n s.1 s.2.1 s.2.2.1 s.2.2.2
def s_table_rows_l1_B (rec_ : (Int × Int × G_api_Table × (List (Str × Int))) → Option (List (Str × Int))) (s : (Int × Int × G_api_Table × (List (Str × Int)))) : Option (List (Str × Int)) := s_table_rows_l1_b (fun t10 i t out => rec_ (t10, i, t, out)) s.1 s.2.1 s.2.2.1 s.2.2.2
theorem s_table_rows_l1_FB : ∀ n s, s_table_rows_l1_F (n + 1) s = s_table_rows_l1_B (s_table_rows_l1_F n) s := fun _ _ => rfl

def s_table_rows (t : G_api_Table) : Option (List (Str × Int)) :=
  (s_table_Rows t).bind fun q =>
  (s_table_rows_l1 big q (0 : Int) t ([] : (List (Str × Int)))).bind fun x0 => s_table_rows_k2 x0

/-! ### maps.Equal[map[string]int,map[string]int,string,int] -/

def s_maps_Equal_map_string_int_map_string_int_string_int_k2  : Option Bool :=
  some true

def s_maps_Equal_map_string_int_map_string_int_string_int_j1 (rec_ : (List (Str × Int)) → (List (Str × Int)) → (Option (Str × Int)) → Option (Out Unit Bool)) (m2 : (List (Str × Int))) (t33 : Bool) (t15 : (List (Str × Int))) (t15_at : (Option (Str × Int))) : Option (Out Unit Bool) :=
  bif t33 then (
    some (.ret false)
  ) else (
    rec_ m2 t15 t15_at
  )

def s_maps_Equal_map_string_int_map_string_int_string_int_l1_b (rec_ : (List (Str × Int)) → (List (Str × Int)) → (Option (Str × Int)) → Option (Out Unit Bool)) (m2 : (List (Str × Int))) (t15 : (List (Str × Int))) (t15_at : (Option (Str × Int))) : Option (Out Unit Bool) :=
  bif List.isEmpty t15 then (
    some (.brk ())
  ) else pickAll t15 fun q rest => (
    bif (!(lookB (k := .str) (v := (.int .i64)) (car := carU) m2 q.1).isSome) then (
      s_maps_Equal_map_string_int_map_string_int_string_int_j1 rec_ m2 true rest (some (q.1, q.2))
    ) else (
      s_maps_Equal_map_string_int_map_string_int_string_int_j1 rec_ m2 (q.2 != ((lookB (k := .str) (v := (.int .i64)) (car := carU) m2 q.1).getD (0 : Int))) rest (some (q.1, q.2))
    )
  )

def s_maps_Equal_map_string_int_map_string_int_string_int_l1 : Nat → (List (Str × Int)) → (List (Str × Int)) → (Option (Str × Int)) → Option (Out Unit Bool)
  | 0, _, _, _ => none
  | n_ + 1, m2, t15, t15_at => s_maps_Equal_map_string_int_map_string_int_string_int_l1_b (s_maps_Equal_map_string_int_map_string_int_string_int_l1 n_) m2 t15 t15_at

def s_maps_Equal_map_string_int_map_string_int_string_int (m1 : (List (Str × Int))) (m2 : (List (Str × Int))) : Option Bool :=
  chk (decide (m1.length ≤ maxInt)) <|
  chk (decide (m2.length ≤ maxInt)) <|
  bif ((m1.length : Int) != (m2.length : Int)) then (
    some false
  ) else (
    (s_maps_Equal_map_string_int_map_string_int_string_int_l1 big m2 m1 (none : Option (Str × Int))).bind fun
      | .ret q_ => some q_
      | .brk () => s_maps_Equal_map_string_int_map_string_int_string_int_k2
  )

/-! ### tablefinder/table.SameRows -/

def s_table_SameRows_j1 (t4 : Bool) : Option Bool :=
  some t4

def s_table_SameRows (a : G_api_Table) (b : G_api_Table) : Option Bool :=
  (s_table_Valid a).bind fun q =>
  bif q then (
    (s_table_Valid b).bind fun q_1 =>
    bif q_1 then (
      bif ((a.Columns.length : Int) == (b.Columns.length : Int)) then (
        (s_table_rows a).bind fun q_2 =>
        (s_table_rows b).bind fun q_3 =>
        (s_maps_Equal_map_string_int_map_string_int_string_int q_2 q_3).bind fun q_4 =>
        s_table_SameRows_j1 q_4
      ) else (
        s_table_SameRows_j1 false
      )
    ) else (
      s_table_SameRows_j1 false
    )
  ) else (
    s_table_SameRows_j1 false
  )

/-! ### tablefinder/tablefinderref03.SameRows -/

def s_tablefinderref03_SameRows_k5  : Option Bool :=
  some true

def s_tablefinderref03_SameRows_k4 (rec_ : Int → G_api_Table → G_api_Table → Option (Out Unit Bool)) (i : Int) (n : Int) (m : Int) (a : G_api_Table) (b : G_api_Table) : Option (Out Unit Bool) :=
  bif (n != m) then (
    some (.ret false)
  ) else (
    chk (inK .i64 (i + 1)) <|
    rec_ (i + 1) a b
  )

def s_tablefinderref03_SameRows_j3 (rec_ : Int → Int → Int → Int → G_api_Table → G_api_Table → Option (Int × Int × Int × G_api_Table × G_api_Table)) (i : Int) (n : Int) (m : Int) (k : Int) (a : G_api_Table) (b : G_api_Table) : Option (Int × Int × Int × G_api_Table × G_api_Table) :=
  chk (inK .i64 (k + 1)) <|
  rec_ i n m (k + 1) a b

def s_tablefinderref03_SameRows_j2 (rec_ : Int → Int → Int → Int → G_api_Table → G_api_Table → Option (Int × Int × Int × G_api_Table × G_api_Table)) (i : Int) (n : Int) (m : Int) (k : Int) (a : G_api_Table) (b : G_api_Table) : Option (Int × Int × Int × G_api_Table × G_api_Table) :=
  (s_tablefinderref03_at a i).bind fun q =>
  (s_tablefinderref03_at b k).bind fun q_1 =>
  (s_tablefinderref03_compare q q_1).bind fun q_2 =>
  bif (q_2 == 0) then (
    chk (inK .i64 (m + 1)) <|
    s_tablefinderref03_SameRows_j3 rec_ i n (m + 1) k a b
  ) else (
    s_tablefinderref03_SameRows_j3 rec_ i n m k a b
  )

def s_tablefinderref03_SameRows_l2_b (rec_ : Int → Int → Int → Int → G_api_Table → G_api_Table → Option (Int × Int × Int × G_api_Table × G_api_Table)) (i : Int) (n : Int) (m : Int) (k : Int) (a : G_api_Table) (b : G_api_Table) : Option (Int × Int × Int × G_api_Table × G_api_Table) :=
  (s_tablefinderref03_Rows a).bind fun q =>
  bif (decide (k < q)) then (
    (s_tablefinderref03_at a i).bind fun q_1 =>
    (s_tablefinderref03_at a k).bind fun q_2 =>
    (s_tablefinderref03_compare q_1 q_2).bind fun q_3 =>
    bif (q_3 == 0) then (
      chk (inK .i64 (n + 1)) <|
      s_tablefinderref03_SameRows_j2 rec_ i (n + 1) m k a b
    ) else (
      s_tablefinderref03_SameRows_j2 rec_ i n m k a b
    )
  ) else (
    some (i, n, m, a, b)
  )

def s_tablefinderref03_SameRows_l2 : Nat → Int → Int → Int → Int → G_api_Table → G_api_Table → Option (Int × Int × Int × G_api_Table × G_api_Table)
  | 0, _, _, _, _, _, _ => none
  | n_ + 1, i, n, m, k, a, b => s_tablefinderref03_SameRows_l2_b (s_tablefinderref03_SameRows_l2 n_) i n m k a b

def s_tablefinderref03_SameRows_l2_F (n : Nat) (s : (Int × Int × Int × Int × G_api_Table × G_api_Table)) : Option (Int × Int × Int × G_api_Table × G_api_Table) := s_tablefinderref03_SameRows_l2 n s.1 s.2.1 s.2.2.1 s.2.2.2.1 s.2.2.2.2.1 s.2.2.2.2.2
def s_tablefinderref03_SameRows_l2_B (rec_ : (Int × Int × Int × Int × G_api_Table × G_api_Table) → Option (Int × Int × Int × G_api_Table × G_api_Table)) (s : (Int × Int × Int × Int × G_api_Table × G_api_Table)) : Option (Int × Int × Int × G_api_Table × G_api_Table) := s_tablefinderref03_SameRows_l2_b (fun i n m k a b => rec_ (i, n, m, k, a, b)) s.1 s.2.1 s.2.2.1 s.2.2.2.1 s.2.2.2.2.1 s.2.2.2.2.2
theorem s_tablefinderref03_SameRows_l2_FB : ∀ n s, s_tablefinderref03_SameRows_l2_F (n + 1) s = s_tablefinderref03_SameRows_l2_B (s_tablefinderref03_SameRows_l2_F n) s := fun _ _ => rfl

def s_tablefinderref03_SameRows_l1_b (rec_ : Int → G_api_Table → G_api_Table → Option (Out Unit Bool)) (i : Int) (a : G_api_Table) (b : G_api_Table) : Option (Out Unit Bool) :=
  (s_tablefinderref03_Rows a).bind fun q =>
  bif (decide (i < q)) then (
    (s_tablefinderref03_SameRows_l2 big i (0 : Int) (0 : Int) (0 : Int) a b).bind fun (x0, x1, x2, x3, x4) => s_tablefinderref03_SameRows_k4 rec_ x0 x1 x2 x3 x4
  ) else (
    some (.brk ())
  )

def s_tablefinderref03_SameRows_l1 : Nat → Int → G_api_Table → G_api_Table → Option (Out Unit Bool)
  | 0, _, _, _ => none
  | n_ + 1, i, a, b => s_tablefinderref03_SameRows_l1_b (s_tablefinderref03_SameRows_l1 n_) i a b

def s_tablefinderref03_SameRows_l1_F (n : Nat) (s : (Int × G_api_Table × G_api_Table)) : Option (Out Unit Bool) := s_tablefinderref03_SameRows_l1 n s.1 s.2.1 s.2.2
def s_tablefinderref03_SameRows_l1_B (rec_ : (Int × G_api_Table × G_api_Table) → Option (Out Unit Bool)) (s : (Int × G_api_Table × G_api_Table)) : Option (Out Unit Bool) := s_tablefinderref03_SameRows_l1_b (fun i a b => rec_ (i, a, b)) s.1 s.2.1 s.2.2
theorem s_tablefinderref03_SameRows_l1_FB : ∀ n s, s_tablefinderref03_SameRows_l1_F (n + 1) s = s_tablefinderref03_SameRows_l1_B (s_tablefinderref03_SameRows_l1_F n) s := fun _ _ => rfl

def s_tablefinderref03_SameRows_j1 (t32 : Bool) (a : G_api_Table) (b : G_api_Table) : Option Bool :=
  bif t32 then (
    some false
  ) else (
    (s_tablefinderref03_SameRows_l1 big (0 : Int) a b).bind fun
      | .ret q_ => some q_
      | .brk () => s_tablefinderref03_SameRows_k5
  )

def s_tablefinderref03_SameRows (a : G_api_Table) (b : G_api_Table) : Option Bool :=
  (s_tablefinderref03_Valid a).bind fun q =>
  bif (!q) then (
    s_tablefinderref03_SameRows_j1 true a b
  ) else (
    (s_tablefinderref03_Valid b).bind fun q_1 =>
    bif (!q_1) then (
      s_tablefinderref03_SameRows_j1 true a b
    ) else (
      bif ((a.Columns.length : Int) != (b.Columns.length : Int)) then (
        s_tablefinderref03_SameRows_j1 true a b
      ) else (
        (s_tablefinderref03_Rows a).bind fun q_2 =>
        (s_tablefinderref03_Rows b).bind fun q_3 =>
        s_tablefinderref03_SameRows_j1 (q_2 != q_3) a b
      )
    )
  )

/-! ### tablefinder/table.every[tablefinder/api.Table] -/

def s_table_every_api_Table_k1  : Option Bool :=
  some true

def s_table_every_api_Table_l1_b (rec_ : (List G_api_Table) → Int → Int → Option (Out Unit Bool)) (t7 : (List G_api_Table)) (t8 : Int) (t9 : Int) : Option (Out Unit Bool) :=
  bif (decide (t9 < t8)) then (
    (idx t7 t9).bind fun x_ =>
    (s_table_Valid x_).bind fun q =>
    bif (!q) then (
      some (.ret false)
    ) else (
      chk (inK .i64 (t9 + 1)) <|
      rec_ t7 t8 (t9 + 1)
    )
  ) else (
    some (.brk ())
  )

def s_table_every_api_Table_l1 : Nat → (List G_api_Table) → Int → Int → Option (Out Unit Bool)
  | 0, _, _, _ => none
  | n_ + 1, t7, t8, t9 => s_table_every_api_Table_l1_b (s_table_every_api_Table_l1 n_) t7 t8 t9

def s_table_every_api_Table_l1_F (n : Nat) (s : ((List G_api_Table) × Int × Int)) : Option (Out Unit Bool) := s_table_every_api_Table_l1 n s.1 s.2.1 s.2.2
def s_table_every_api_Table_l1_B (rec_ : ((List G_api_Table) × Int × Int) → Option (Out Unit Bool)) (s : ((List G_api_Table) × Int × Int)) : Option (Out Unit Bool) := s_table_every_api_Table_l1_b (fun t7 t8 t9 => rec_ (t7, t8, t9)) s.1 s.2.1 s.2.2
theorem s_table_every_api_Table_l1_FB : ∀ n s, s_table_every_api_Table_l1_F (n + 1) s = s_table_every_api_Table_l1_B (s_table_every_api_Table_l1_F n) s := fun _ _ => rfl

def s_table_every_api_Table (l : (List G_api_Table)) : Option Bool :=
  (s_table_every_api_Table_l1 big l (l.length : Int) (0 : Int)).bind fun
    | .ret q_ => some q_
    | .brk () => s_table_every_api_Table_k1

/-! ### tablefinder/table.ValidList -/

def s_table_ValidList_j2 (t2 : Bool) : Option Bool :=
  some t2

def s_table_ValidList_k1 (l : (List G_api_Table)) : Option Bool :=
  bif (decide ((l.length : Int) ≤ 1024)) then (
    (s_table_every_api_Table l).bind fun q =>
    s_table_ValidList_j2 q
  ) else (
    s_table_ValidList_j2 false
  )

def s_table_ValidList_l1_b (rec_ : (List G_api_Table) → Int → Option (Out (List G_api_Table) Bool)) (l : (List G_api_Table)) (i : Int) : Option (Out (List G_api_Table) Bool) :=
  bif (decide (i < (l.length : Int))) then (
    chk (inK .i64 (i - 1)) <|
    (idx l (i - 1)).bind fun l_e =>
    (idx l i).bind fun l_e_1 =>
    bif (decide (l_e.ID ≥ l_e_1.ID)) then (
      some (.ret false)
    ) else (
      chk (inK .i64 (i + 1)) <|
      rec_ l (i + 1)
    )
  ) else (
    some (.brk l)
  )

def s_table_ValidList_l1 : Nat → (List G_api_Table) → Int → Option (Out (List G_api_Table) Bool)
  | 0, _, _ => none
  | n_ + 1, l, i => s_table_ValidList_l1_b (s_table_ValidList_l1 n_) l i

def s_table_ValidList_l1_F (n : Nat) (s : ((List G_api_Table) × Int)) : Option (Out (List G_api_Table) Bool) := s_table_ValidList_l1 n s.1 s.2
def s_table_ValidList_l1_B (rec_ : ((List G_api_Table) × Int) → Option (Out (List G_api_Table) Bool)) (s : ((List G_api_Table) × Int)) : Option (Out (List G_api_Table) Bool) := s_table_ValidList_l1_b (fun l i => rec_ (l, i)) s.1 s.2
theorem s_table_ValidList_l1_FB : ∀ n s, s_table_ValidList_l1_F (n + 1) s = s_table_ValidList_l1_B (s_table_ValidList_l1_F n) s := fun _ _ => rfl

def s_table_ValidList (l : (List G_api_Table)) : Option Bool :=
  (s_table_ValidList_l1 big l (1 : Int)).bind fun
    | .ret q_ => some q_
    | .brk x0 => s_table_ValidList_k1 x0

/-! ### tablefinder/tablefinderref03.ValidList -/

def s_tablefinderref03_ValidList_k2 (l : (List G_api_Table)) : Option Bool :=
  some (decide ((l.length : Int) ≤ 1024))

def s_tablefinderref03_ValidList_j1 (rec_ : (List G_api_Table) → (List G_api_Table) → Int → Int → Option (Out (List G_api_Table) Bool)) (l : (List G_api_Table)) (t5 : (List G_api_Table)) (t6 : Int) (i : Int) (t29 : Bool) : Option (Out (List G_api_Table) Bool) :=
  bif t29 then (
    some (.ret false)
  ) else (
    chk (inK .i64 (i + 1)) <|
    rec_ l t5 t6 (i + 1)
  )

def s_tablefinderref03_ValidList_l1_b (rec_ : (List G_api_Table) → (List G_api_Table) → Int → Int → Option (Out (List G_api_Table) Bool)) (l : (List G_api_Table)) (t5 : (List G_api_Table)) (t6 : Int) (i : Int) : Option (Out (List G_api_Table) Bool) :=
  bif (decide (i < t6)) then (
    (idx t5 i).bind fun t =>
    (s_tablefinderref03_Valid t).bind fun q =>
    bif (!q) then (
      s_tablefinderref03_ValidList_j1 rec_ l t5 t6 i true
    ) else (
      bif (decide (i > 0)) then (
        chk (inK .i64 (i - 1)) <|
        (idx l (i - 1)).bind fun l_e =>
        s_tablefinderref03_ValidList_j1 rec_ l t5 t6 i (decide (l_e.ID ≥ t.ID))
      ) else (
        s_tablefinderref03_ValidList_j1 rec_ l t5 t6 i false
      )
    )
  ) else (
    some (.brk l)
  )

def s_tablefinderref03_ValidList_l1 : Nat → (List G_api_Table) → (List G_api_Table) → Int → Int → Option (Out (List G_api_Table) Bool)
  | 0, _, _, _, _ => none
  | n_ + 1, l, t5, t6, i => s_tablefinderref03_ValidList_l1_b (s_tablefinderref03_ValidList_l1 n_) l t5 t6 i

def s_tablefinderref03_ValidList_l1_F (n : Nat) (s : ((List G_api_Table) × (List G_api_Table) × Int × Int)) : Option (Out (List G_api_Table) Bool) := s_tablefinderref03_ValidList_l1 n s.1 s.2.1 s.2.2.1 s.2.2.2
def s_tablefinderref03_ValidList_l1_B (rec_ : ((List G_api_Table) × (List G_api_Table) × Int × Int) → Option (Out (List G_api_Table) Bool)) (s : ((List G_api_Table) × (List G_api_Table) × Int × Int)) : Option (Out (List G_api_Table) Bool) := s_tablefinderref03_ValidList_l1_b (fun l t5 t6 i => rec_ (l, t5, t6, i)) s.1 s.2.1 s.2.2.1 s.2.2.2
theorem s_tablefinderref03_ValidList_l1_FB : ∀ n s, s_tablefinderref03_ValidList_l1_F (n + 1) s = s_tablefinderref03_ValidList_l1_B (s_tablefinderref03_ValidList_l1_F n) s := fun _ _ => rfl

def s_tablefinderref03_ValidList (l : (List G_api_Table)) : Option Bool :=
  (s_tablefinderref03_ValidList_l1 big l l (l.length : Int) (0 : Int)).bind fun
    | .ret q_ => some q_
    | .brk x0 => s_tablefinderref03_ValidList_k2 x0

/-! ### tablefinder/table.Refs -/

def s_table_Refs_k2 (out : (List G_api_Ref)) : Option (List G_api_Ref) :=
  some out

def s_table_Refs_k1 (rec_ : (List G_api_Table) → Int → Int → (List G_api_Ref) → Option (List G_api_Ref)) (t7 : (List G_api_Table)) (t8 : Int) (t9 : Int) (out : (List G_api_Ref)) : Option (List G_api_Ref) :=
  chk (inK .i64 (t9 + 1)) <|
  rec_ t7 t8 (t9 + 1) out

def s_table_Refs_l2_b (rec_ : (List G_api_Table) → Int → Int → Int → Int → (List G_api_Ref) → G_api_Table → Option ((List G_api_Table) × Int × Int × (List G_api_Ref))) (t7 : (List G_api_Table)) (t8 : Int) (t9 : Int) (t15 : Int) (k : Int) (out : (List G_api_Ref)) (t : G_api_Table) : Option ((List G_api_Table) × Int × Int × (List G_api_Ref)) :=
  bif (decide (k < t15)) then (
    chk (room (out.length + ([(G_api_Ref.mk t.ID k)] : (List G_api_Ref)).length) 16) <|
    chk (inK .i64 (k + 1)) <|
    rec_ t7 t8 t9 t15 (k + 1) (out ++ ([(G_api_Ref.mk t.ID k)] : (List G_api_Ref))) t
  ) else (
    some (t7, t8, t9, out)
  )

def s_table_Refs_l2 : Nat → (List G_api_Table) → Int → Int → Int → Int → (List G_api_Ref) → G_api_Table → Option ((List G_api_Table) × Int × Int × (List G_api_Ref))
  | 0, _, _, _, _, _, _, _ => none
  | n_ + 1, t7, t8, t9, t15, k, out, t => s_table_Refs_l2_b (s_table_Refs_l2 n_) t7 t8 t9 t15 k out t

def s_table_Refs_l2_F (n : Nat) (s : ((List G_api_Table) × Int × Int × Int × Int × (List G_api_Ref) × G_api_Table)) : Option ((List G_api_Table) × Int × Int × (List G_api_Ref)) := s_table_Refs_l2 n s.1 s.2.1 s.2.2.1 s.2.2.2.1 s.2.2.2.2.1 s.2.2.2.2.2.1 s.2.2.2.2.2.2
def s_table_Refs_l2_B (rec_ : ((List G_api_Table) × Int × Int × Int × Int × (List G_api_Ref) × G_api_Table) → Option ((List G_api_Table) × Int × Int × (List G_api_Ref))) (s : ((List G_api_Table) × Int × Int × Int × Int × (List G_api_Ref) × G_api_Table)) : Option ((List G_api_Table) × Int × Int × (List G_api_Ref)) := s_table_Refs_l2_b (fun t7 t8 t9 t15 k out t => rec_ (t7, t8, t9, t15, k, out, t)) s.1 s.2.1 s.2.2.1 s.2.2.2.1 s.2.2.2.2.1 s.2.2.2.2.2.1 s.2.2.2.2.2.2
theorem s_table_Refs_l2_FB : ∀ n s, s_table_Refs_l2_F (n + 1) s = s_table_Refs_l2_B (s_table_Refs_l2_F n) s := fun _ _ => rfl

def s_table_Refs_l1_b (rec_ : (List G_api_Table) → Int → Int → (List G_api_Ref) → Option (List G_api_Ref)) (t7 : (List G_api_Table)) (t8 : Int) (t9 : Int) (out : (List G_api_Ref)) : Option (List G_api_Ref) :=
  bif (decide (t9 < t8)) then (
    (idx t7 t9).bind fun t =>
    (s_table_Refs_l2 big t7 t8 t9 (t.Columns.length : Int) (0 : Int) out t).bind fun (x0, x1, x2, x3) => s_table_Refs_k1 rec_ x0 x1 x2 x3
  ) else (
    some out
  )

def s_table_Refs_l1 : Nat → (List G_api_Table) → Int → Int → (List G_api_Ref) → Option (List G_api_Ref)
  | 0, _, _, _, _ => none
  | n_ + 1, t7, t8, t9, out => s_table_Refs_l1_b (s_table_Refs_l1 n_) t7 t8 t9 out

def s_table_Refs_l1_F (n : Nat) (s : ((List G_api_Table) × Int × Int × (List G_api_Ref))) : Option (List G_api_Ref) := s_table_Refs_l1 n s.1 s.2.1 s.2.2.1 s.2.2.2
def s_table_Refs_l1_B (rec_ : ((List G_api_Table) × Int × Int × (List G_api_Ref)) → Option (List G_api_Ref)) (s : ((List G_api_Table) × Int × Int × (List G_api_Ref))) : Option (List G_api_Ref) := s_table_Refs_l1_b (fun t7 t8 t9 out => rec_ (t7, t8, t9, out)) s.1 s.2.1 s.2.2.1 s.2.2.2
theorem s_table_Refs_l1_FB : ∀ n s, s_table_Refs_l1_F (n + 1) s = s_table_Refs_l1_B (s_table_Refs_l1_F n) s := fun _ _ => rfl

def s_table_Refs (l : (List G_api_Table)) : Option (List G_api_Ref) :=
  (s_table_Refs_l1 big l (l.length : Int) (0 : Int) ([] : (List G_api_Ref))).bind fun x0 => s_table_Refs_k2 x0

/-! ### tablefinder/tablefinderref03.Refs -/

def s_tablefinderref03_Refs_k2 (out : (List G_api_Ref)) : Option (List G_api_Ref) :=
  some out

def s_tablefinderref03_Refs_k1 (rec_ : (List G_api_Table) → Int → Int → (List G_api_Ref) → Option (List G_api_Ref)) (t7 : (List G_api_Table)) (t8 : Int) (t9 : Int) (out : (List G_api_Ref)) : Option (List G_api_Ref) :=
  chk (inK .i64 (t9 + 1)) <|
  rec_ t7 t8 (t9 + 1) out

def s_tablefinderref03_Refs_l2_b (rec_ : (List G_api_Table) → Int → Int → Int → Int → (List G_api_Ref) → G_api_Table → Option ((List G_api_Table) × Int × Int × (List G_api_Ref))) (t7 : (List G_api_Table)) (t8 : Int) (t9 : Int) (t15 : Int) (i : Int) (out : (List G_api_Ref)) (t : G_api_Table) : Option ((List G_api_Table) × Int × Int × (List G_api_Ref)) :=
  bif (decide (i < t15)) then (
    chk (room (out.length + ([(G_api_Ref.mk t.ID i)] : (List G_api_Ref)).length) 16) <|
    chk (inK .i64 (i + 1)) <|
    rec_ t7 t8 t9 t15 (i + 1) (out ++ ([(G_api_Ref.mk t.ID i)] : (List G_api_Ref))) t
  ) else (
    some (t7, t8, t9, out)
  )

def s_tablefinderref03_Refs_l2 : Nat → (List G_api_Table) → Int → Int → Int → Int → (List G_api_Ref) → G_api_Table → Option ((List G_api_Table) × Int × Int × (List G_api_Ref))
  | 0, _, _, _, _, _, _, _ => none
  | n_ + 1, t7, t8, t9, t15, i, out, t => s_tablefinderref03_Refs_l2_b (s_tablefinderref03_Refs_l2 n_) t7 t8 t9 t15 i out t

def s_tablefinderref03_Refs_l1_b (rec_ : (List G_api_Table) → Int → Int → (List G_api_Ref) → Option (List G_api_Ref)) (t7 : (List G_api_Table)) (t8 : Int) (t9 : Int) (out : (List G_api_Ref)) : Option (List G_api_Ref) :=
  bif (decide (t9 < t8)) then (
    (idx t7 t9).bind fun t =>
    (s_tablefinderref03_Refs_l2 big t7 t8 t9 (t.Columns.length : Int) (0 : Int) out t).bind fun (x0, x1, x2, x3) => s_tablefinderref03_Refs_k1 rec_ x0 x1 x2 x3
  ) else (
    some out
  )

def s_tablefinderref03_Refs_l1 : Nat → (List G_api_Table) → Int → Int → (List G_api_Ref) → Option (List G_api_Ref)
  | 0, _, _, _, _ => none
  | n_ + 1, t7, t8, t9, out => s_tablefinderref03_Refs_l1_b (s_tablefinderref03_Refs_l1 n_) t7 t8 t9 out

def s_tablefinderref03_Refs (l : (List G_api_Table)) : Option (List G_api_Ref) :=
  (s_tablefinderref03_Refs_l1 big l (l.length : Int) (0 : Int) ([] : (List G_api_Ref))).bind fun x0 => s_tablefinderref03_Refs_k2 x0

/-! ### tablefinder/table.find$1 -/

def s_table_find_1 (t : G_api_Table) (a1 : Int) : Option Bool :=
  some (t.ID == a1)

/-! ### slices.IndexFunc[[]tablefinder/api.Table,tablefinder/api.Table] -/

def s_slices_IndexFunc_api_Table_api_Table_k1  : Option Int :=
  some (-1 : Int)

def s_slices_IndexFunc_api_Table_api_Table_l1_b (rec_ : (List G_api_Table) → Int → Int → Int → Option (Out Unit Int)) (s : (List G_api_Table)) (f : Int) (t7 : Int) (i : Int) : Option (Out Unit Int) :=
  bif (decide (i < t7)) then (
    (idx s i).bind fun s_e =>
    (s_table_find_1 s_e f).bind fun q =>
    bif q then (
      some (.ret i)
    ) else (
      chk (inK .i64 (i + 1)) <|
      rec_ s f t7 (i + 1)
    )
  ) else (
    some (.brk ())
  )

def s_slices_IndexFunc_api_Table_api_Table_l1 : Nat → (List G_api_Table) → Int → Int → Int → Option (Out Unit Int)
  | 0, _, _, _, _ => none
  | n_ + 1, s, f, t7, i => s_slices_IndexFunc_api_Table_api_Table_l1_b (s_slices_IndexFunc_api_Table_api_Table_l1 n_) s f t7 i

def s_slices_IndexFunc_api_Table_api_Table_l1_F (n : Nat) (s : ((List G_api_Table) × Int × Int × Int)) : Option (Out Unit Int) := s_slices_IndexFunc_api_Table_api_Table_l1 n s.1 s.2.1 s.2.2.1 s.2.2.2
def s_slices_IndexFunc_api_Table_api_Table_l1_B (rec_ : ((List G_api_Table) × Int × Int × Int) → Option (Out Unit Int)) (s : ((List G_api_Table) × Int × Int × Int)) : Option (Out Unit Int) := s_slices_IndexFunc_api_Table_api_Table_l1_b (fun s f t7 i => rec_ (s, f, t7, i)) s.1 s.2.1 s.2.2.1 s.2.2.2
theorem s_slices_IndexFunc_api_Table_api_Table_l1_FB : ∀ n s, s_slices_IndexFunc_api_Table_api_Table_l1_F (n + 1) s = s_slices_IndexFunc_api_Table_api_Table_l1_B (s_slices_IndexFunc_api_Table_api_Table_l1_F n) s := fun _ _ => rfl

def s_slices_IndexFunc_api_Table_api_Table (s : (List G_api_Table)) (c : Int) : Option Int :=
  (s_slices_IndexFunc_api_Table_api_Table_l1 big s c (s.length : Int) (0 : Int)).bind fun
    | .ret q_ => some q_
    | .brk () => s_slices_IndexFunc_api_Table_api_Table_k1

/-! ### tablefinder/table.find -/

def s_table_find (l : (List G_api_Table)) (id : Int) : Option Int :=
  (s_slices_IndexFunc_api_Table_api_Table l id).bind fun q =>
  some q

/-! ### tablefinder/table.Get -/

def s_table_Get_j1 (l : (List G_api_Table)) (i : Int) (t28 : Bool) (r_ : G_api_Ref) (t4 : Str) (t4_1 : (List G_api_Cell)) : Option (G_api_Column × Bool) :=
  bif t28 then (
    some ((G_api_Column.mk ([] : Str) ([] : (List G_api_Cell))), false)
  ) else (
    (idx l i).bind fun l_e =>
    (idx l_e.Columns r_.Column).bind fun Column =>
    (s_table_column Column).bind fun q =>
    some (q, true)
  )

def s_table_Get (l : (List G_api_Table)) (r_ : G_api_Ref) : Option (G_api_Column × Bool) :=
  (s_table_find l r_.Table).bind fun i =>
  bif (decide (i < 0)) then (
    s_table_Get_j1 l i true r_ ([] : Str) ([] : (List G_api_Cell))
  ) else (
    bif (decide (r_.Column < 0)) then (
      s_table_Get_j1 l i true r_ ([] : Str) ([] : (List G_api_Cell))
    ) else (
      (idx l i).bind fun l_e =>
      s_table_Get_j1 l i (decide (r_.Column ≥ (l_e.Columns.length : Int))) r_ ([] : Str) ([] : (List G_api_Cell))
    )
  )

/-! ### tablefinder/tablefinderref03.Find -/

def s_tablefinderref03_Find_k1 (t4 : Int) (t4_1 : Str) (t4_2 : (List G_api_Column)) : Option (G_api_Table × Bool) :=
  some ((G_api_Table.mk 0 ([] : Str) ([] : (List G_api_Column))), false)

def s_tablefinderref03_Find_l1_b (rec_ : Int → (List G_api_Table) → Int → Int → Int → Str → (List G_api_Column) → Option (Out (Int × Str × (List G_api_Column)) (G_api_Table × Bool))) (id : Int) (t8 : (List G_api_Table)) (t9 : Int) (t10 : Int) (t4 : Int) (t4_1 : Str) (t4_2 : (List G_api_Column)) : Option (Out (Int × Str × (List G_api_Column)) (G_api_Table × Bool)) :=
  bif (decide (t10 < t9)) then (
    (idx t8 t10).bind fun t =>
    bif (t.ID == id) then (
      some (.ret (t, true))
    ) else (
      chk (inK .i64 (t10 + 1)) <|
      rec_ id t8 t9 (t10 + 1) t4 t4_1 t4_2
    )
  ) else (
    some (.brk (t4, t4_1, t4_2))
  )

def s_tablefinderref03_Find_l1 : Nat → Int → (List G_api_Table) → Int → Int → Int → Str → (List G_api_Column) → Option (Out (Int × Str × (List G_api_Column)) (G_api_Table × Bool))
  | 0, _, _, _, _, _, _, _ => none
  | n_ + 1, id, t8, t9, t10, t4, t4_1, t4_2 => s_tablefinderref03_Find_l1_b (s_tablefinderref03_Find_l1 n_) id t8 t9 t10 t4 t4_1 t4_2

def s_tablefinderref03_Find_l1_F (n : Nat) (s : (Int × (List G_api_Table) × Int × Int × Int × Str × (List G_api_Column))) : Option (Out (Int × Str × (List G_api_Column)) (G_api_Table × Bool)) := s_tablefinderref03_Find_l1 n s.1 s.2.1 s.2.2.1 s.2.2.2.1 s.2.2.2.2.1 s.2.2.2.2.2.1 s.2.2.2.2.2.2
def s_tablefinderref03_Find_l1_B (rec_ : (Int × (List G_api_Table) × Int × Int × Int × Str × (List G_api_Column)) → Option (Out (Int × Str × (List G_api_Column)) (G_api_Table × Bool))) (s : (Int × (List G_api_Table) × Int × Int × Int × Str × (List G_api_Column))) : Option (Out (Int × Str × (List G_api_Column)) (G_api_Table × Bool)) := s_tablefinderref03_Find_l1_b (fun id t8 t9 t10 t4 t4_1 t4_2 => rec_ (id, t8, t9, t10, t4, t4_1, t4_2)) s.1 s.2.1 s.2.2.1 s.2.2.2.1 s.2.2.2.2.1 s.2.2.2.2.2.1 s.2.2.2.2.2.2
theorem s_tablefinderref03_Find_l1_FB : ∀ n s, s_tablefinderref03_Find_l1_F (n + 1) s = s_tablefinderref03_Find_l1_B (s_tablefinderref03_Find_l1_F n) s := fun _ _ => rfl

def s_tablefinderref03_Find (l : (List G_api_Table)) (id : Int) : Option (G_api_Table × Bool) :=
  (s_tablefinderref03_Find_l1 big id l (l.length : Int) (0 : Int) (0 : Int) ([] : Str) ([] : (List G_api_Column))).bind fun
    | .ret q_ => some q_
    | .brk (x0, x1, x2) => s_tablefinderref03_Find_k1 x0 x1 x2

/-! ### tablefinder/tablefinderref03.Get -/

def s_tablefinderref03_Get_j1 (t29 : Bool) (r_ : G_api_Ref) (t4 : Str) (t : G_api_Table) (t4_1 : (List G_api_Cell)) : Option (G_api_Column × Bool) :=
  bif t29 then (
    some ((G_api_Column.mk ([] : Str) ([] : (List G_api_Cell))), false)
  ) else (
    (idx t.Columns r_.Column).bind fun Column =>
    some (Column, true)
  )

def s_tablefinderref03_Get (l : (List G_api_Table)) (r_ : G_api_Ref) : Option (G_api_Column × Bool) :=
  (s_tablefinderref03_Find l r_.Table).bind fun (t, ok) =>
  bif (!ok) then (
    s_tablefinderref03_Get_j1 true r_ ([] : Str) t ([] : (List G_api_Cell))
  ) else (
    bif (decide (r_.Column < 0)) then (
      s_tablefinderref03_Get_j1 true r_ ([] : Str) t ([] : (List G_api_Cell))
    ) else (
      s_tablefinderref03_Get_j1 (decide (r_.Column ≥ (t.Columns.length : Int))) r_ ([] : Str) t ([] : (List G_api_Cell))
    )
  )

/-! ### cmp.isNaN[int] -/

def s_cmp_isNaN_int (x_ : Int) : Option Bool :=
  some (x_ != x_)

/-! ### cmp.Compare[int] -/

def s_cmp_Compare_int (x_ : Int) (y : Int) : Option Int :=
  (s_cmp_isNaN_int x_).bind fun xNaN =>
  (s_cmp_isNaN_int y).bind fun yNaN =>
  bif xNaN then (
    bif yNaN then (
      some (0 : Int)
    ) else (
      some (-1 : Int)
    )
  ) else (
    bif yNaN then (
      some (1 : Int)
    ) else (
      bif (decide (x_ < y)) then (
        some (-1 : Int)
      ) else (
        bif (decide (x_ > y)) then (
          some (1 : Int)
        ) else (
          some (0 : Int)
        )
      )
    )
  )

/-! ### cmp.Or[int] -/

def s_cmp_Or_int_k1 (zero : Int) : Option Int :=
  some zero

def s_cmp_Or_int_l1_b (rec_ : Int → (List Int) → Int → Int → Option (Out Int Int)) (zero : Int) (t6 : (List Int)) (t7 : Int) (t8 : Int) : Option (Out Int Int) :=
  bif (decide (t8 < t7)) then (
    (idx t6 t8).bind fun val =>
    bif (val != zero) then (
      some (.ret val)
    ) else (
      chk (inK .i64 (t8 + 1)) <|
      rec_ zero t6 t7 (t8 + 1)
    )
  ) else (
    some (.brk zero)
  )

def s_cmp_Or_int_l1 : Nat → Int → (List Int) → Int → Int → Option (Out Int Int)
  | 0, _, _, _, _ => none
  | n_ + 1, zero, t6, t7, t8 => s_cmp_Or_int_l1_b (s_cmp_Or_int_l1 n_) zero t6 t7 t8

def s_cmp_Or_int (vals : (List Int)) : Option Int :=
  (s_cmp_Or_int_l1 big (0 : Int) vals (vals.length : Int) (0 : Int)).bind fun
    | .ret q_ => some q_
    | .brk x0 => s_cmp_Or_int_k1 x0

/-! ### tablefinder/table.Less -/

def s_table_Less (a : G_api_Ref) (b : G_api_Ref) : Option Bool :=
  (s_cmp_Compare_int a.Table b.Table).bind fun q =>
  (s_cmp_Compare_int a.Column b.Column).bind fun q_1 =>
  (s_cmp_Or_int ([q, q_1] : (List Int))).bind fun q_2 =>
  some (decide (q_2 < 0))

/-! ### tablefinder/tablefinderref03.Less -/

def s_tablefinderref03_Less_j1 (t4 : Bool) : Option Bool :=
  some t4

def s_tablefinderref03_Less (a : G_api_Ref) (b : G_api_Ref) : Option Bool :=
  bif (decide (a.Table < b.Table)) then (
    s_tablefinderref03_Less_j1 true
  ) else (
    bif (a.Table == b.Table) then (
      s_tablefinderref03_Less_j1 (decide (a.Column < b.Column))
    ) else (
      s_tablefinderref03_Less_j1 false
    )
  )

/-! ### tablefinder/table.Find$1 -/

def s_table_Find_1 (k : Int) (a1 : G_api_Table) : Option G_api_Column :=
  (idx a1.Columns k).bind fun Column =>
  (s_table_column Column).bind fun q =>
  some q

/-! ### tablefinder/table.with -/

def s_table_with_3_k1 (t6 : Int) (t6_1 : Str) (out : Int) (out_1 : Str) (t6_2 : (List G_api_Column)) (out_2 : (List G_api_Column)) : Option G_api_Table :=
  some (G_api_Table.mk out out_1 out_2)

def s_table_with_3_l1_b (rec_ : G_api_Table → Int → Int → Int → Str → Int → Str → (List G_api_Column) → (List G_api_Column) → Option (Int × Str × Int × Str × (List G_api_Column) × (List G_api_Column))) (get_ : G_api_Table) (t14 : Int) (k : Int) (t6 : Int) (t6_1 : Str) (out : Int) (out_1 : Str) (t6_2 : (List G_api_Column)) (out_2 : (List G_api_Column)) : Option (Int × Str × Int × Str × (List G_api_Column) × (List G_api_Column)) :=
  bif (decide (k < t14)) then (
    (s_table_Find_1 k get_).bind fun q =>
    chk (room (out_2.length + ([q] : (List G_api_Column)).length) 40) <|
    chk (inK .i64 (k + 1)) <|
    rec_ get_ t14 (k + 1) t6 t6_1 out out_1 t6_2 (out_2 ++ ([q] : (List G_api_Column)))
  ) else (
    some (t6, t6_1, out, out_1, t6_2, out_2)
  )

def s_table_with_3_l1 : Nat → G_api_Table → Int → Int → Int → Str → Int → Str → (List G_api_Column) → (List G_api_Column) → Option (Int × Str × Int × Str × (List G_api_Column) × (List G_api_Column))
  | 0, _, _, _, _, _, _, _, _, _ => none
  | n_ + 1, get_, t14, k, t6, t6_1, out, out_1, t6_2, out_2 => s_table_with_3_l1_b (s_table_with_3_l1 n_) get_ t14 k t6 t6_1 out out_1 t6_2 out_2

def s_table_with_3_l1_F (n : Nat) (s : (G_api_Table × Int × Int × Int × Str × Int × Str × (List G_api_Column) × (List G_api_Column))) : Option (Int × Str × Int × Str × (List G_api_Column) × (List G_api_Column)) := s_table_with_3_l1 n s.1 s.2.1 s.2.2.1 s.2.2.2.1 s.2.2.2.2.1 s.2.2.2.2.2.1 s.2.2.2.2.2.2.1 s.2.2.2.2.2.2.2.1 s.2.2.2.2.2.2.2.2
def s_table_with_3_l1_B (rec_ : (G_api_Table × Int × Int × Int × Str × Int × Str × (List G_api_Column) × (List G_api_Column)) → Option (Int × Str × Int × Str × (List G_api_Column) × (List G_api_Column))) (s : (G_api_Table × Int × Int × Int × Str × Int × Str × (List G_api_Column) × (List G_api_Column))) : Option (Int × Str × Int × Str × (List G_api_Column) × (List G_api_Column)) := s_table_with_3_l1_b (fun get_ t14 k t6 t6_1 out out_1 t6_2 out_2 => rec_ (get_, t14, k, t6, t6_1, out, out_1, t6_2, out_2)) s.1 s.2.1 s.2.2.1 s.2.2.2.1 s.2.2.2.2.1 s.2.2.2.2.2.1 s.2.2.2.2.2.2.1 s.2.2.2.2.2.2.2.1 s.2.2.2.2.2.2.2.2
theorem s_table_with_3_l1_FB : ∀ n s, s_table_with_3_l1_F (n + 1) s = s_table_with_3_l1_B (s_table_with_3_l1_F n) s := fun _ _ => rfl

def s_table_with_3 (t : G_api_Table) (n : Int) (c : G_api_Table) : Option G_api_Table :=
  (s_table_with_3_l1 big c n (0 : Int) (0 : Int) ([] : Str) t.ID t.Name ([] : (List G_api_Column)) ([] : (List G_api_Column))).bind fun (x0, x1, x2, x3, x4, x5) => s_table_with_3_k1 x0 x1 x2 x3 x4 x5

/-! ### tablefinder/table.Find -/

def s_table_Find (l : (List G_api_Table)) (id : Int) : Option (G_api_Table × Bool) :=
  (s_table_find l id).bind fun i =>
  bif (decide (i < 0)) then (
    some ((G_api_Table.mk 0 ([] : Str) ([] : (List G_api_Column))), false)
  ) else (
    (idx l i).bind fun t =>
    (s_table_with_3 t (t.Columns.length : Int) t).bind fun q =>
    some (q, true)
  )

/-! ### tablefinder/tablefinderlaw03.TableSteps -/

def s_tablefinderlaw03_TableSteps_j10 (t14 : Bool) : Option Bool :=
  some t14

def s_tablefinderlaw03_TableSteps_k9 (at_ : Int) (l : (List G_api_Table)) (c : G_api_Cell) (e : G_api_Cell) : Option Bool :=
  (s_tablefindermill_Mod at_ 9).bind fun q =>
  (s_table_Find l q).bind fun (x_, is) =>
  (s_tablefindermill_Mod at_ 9).bind fun q_1 =>
  (s_tablefinderref03_Find l q_1).bind fun (y, ok) =>
  bif (is == ok) then (
    (s_tablefinderref03_Same x_ y).bind fun q_2 =>
    bif q_2 then (
      (s_table_CompareCells c e).bind fun q_3 =>
      (s_tablefinderref03_CompareCells c e).bind fun q_4 =>
      bif (q_3 == q_4) then (
        (s_table_ValidCell c).bind fun q_5 =>
        (s_tablefinderref03_ValidCell c).bind fun q_6 =>
        s_tablefinderlaw03_TableSteps_j10 (q_5 == q_6)
      ) else (
        s_tablefinderlaw03_TableSteps_j10 false
      )
    ) else (
      s_tablefinderlaw03_TableSteps_j10 false
    )
  ) else (
    s_tablefinderlaw03_TableSteps_j10 false
  )

def s_tablefinderlaw03_TableSteps_j8 (rec_ : Int → Int → (List G_api_Table) → Int → Int → G_api_Cell → G_api_Cell → (List G_api_Ref) → Option (Out (Int × (List G_api_Table) × G_api_Cell × G_api_Cell) Bool)) (what : Int) (at_ : Int) (l : (List G_api_Table)) (t256 : Int) (i : Int) (t323 : Bool) (c : G_api_Cell) (e : G_api_Cell) (t255 : (List G_api_Ref)) : Option (Out (Int × (List G_api_Table) × G_api_Cell × G_api_Cell) Bool) :=
  bif t323 then (
    some (.ret false)
  ) else (
    chk (inK .i64 (i + 1)) <|
    rec_ what at_ l t256 (i + 1) c e t255
  )

def s_tablefinderlaw03_TableSteps_l3_b (rec_ : Int → Int → (List G_api_Table) → Int → Int → G_api_Cell → G_api_Cell → (List G_api_Ref) → Option (Out (Int × (List G_api_Table) × G_api_Cell × G_api_Cell) Bool)) (what : Int) (at_ : Int) (l : (List G_api_Table)) (t256 : Int) (i : Int) (c : G_api_Cell) (e : G_api_Cell) (t255 : (List G_api_Ref)) : Option (Out (Int × (List G_api_Table) × G_api_Cell × G_api_Cell) Bool) :=
  bif (decide (i < t256)) then (
    chk (inR i (t255.length : Int)) <|
    (t255[(i).toNat]?).bind fun r_ =>
    (s_table_Get l r_).bind fun (a, is) =>
    (s_tablefinderref03_Get l r_).bind fun (b, ok) =>
    (s_tablefindermill_Mod at_ 9).bind fun q =>
    (s_tablefindermill_Mod what 5).bind fun q_1 =>
    chk (inK .i64 (q_1 - 1)) <|
    (s_table_Get l (G_api_Ref.mk q (q_1 - 1))).bind fun (q_2, u) =>
    (s_tablefinderref03_Get l (G_api_Ref.mk q (q_1 - 1))).bind fun (q_3, v_) =>
    (s_table_Refs l).bind fun q_4 =>
    chk (inR i (q_4.length : Int)) <|
    (q_4[(i).toNat]?).bind fun q_e =>
    bif (!(q_e.Table == r_.Table && (q_e.Column == r_.Column && true))) then (
      s_tablefinderlaw03_TableSteps_j8 rec_ what at_ l t256 i true c e t255
    ) else (
      bif (!(is == ok)) then (
        s_tablefinderlaw03_TableSteps_j8 rec_ what at_ l t256 i true c e t255
      ) else (
        (s_tablefinderref03_SameCells a b).bind fun q_5 =>
        bif (!q_5) then (
          s_tablefinderlaw03_TableSteps_j8 rec_ what at_ l t256 i true c e t255
        ) else (
          bif (!(u == v_)) then (
            s_tablefinderlaw03_TableSteps_j8 rec_ what at_ l t256 i true c e t255
          ) else (
            (s_table_Less r_ (G_api_Ref.mk q (q_1 - 1))).bind fun q_6 =>
            (s_tablefinderref03_Less r_ (G_api_Ref.mk q (q_1 - 1))).bind fun q_7 =>
            s_tablefinderlaw03_TableSteps_j8 rec_ what at_ l t256 i (!(q_6 == q_7)) c e t255
          )
        )
      )
    )
  ) else (
    some (.brk (at_, l, c, e))
  )

def s_tablefinderlaw03_TableSteps_l3 : Nat → Int → Int → (List G_api_Table) → Int → Int → G_api_Cell → G_api_Cell → (List G_api_Ref) → Option (Out (Int × (List G_api_Table) × G_api_Cell × G_api_Cell) Bool)
  | 0, _, _, _, _, _, _, _, _ => none
  | n_ + 1, what, at_, l, t256, i, c, e, t255 => s_tablefinderlaw03_TableSteps_l3_b (s_tablefinderlaw03_TableSteps_l3 n_) what at_ l t256 i c e t255

def s_tablefinderlaw03_TableSteps_l3_F (n : Nat) (s : (Int × Int × (List G_api_Table) × Int × Int × G_api_Cell × G_api_Cell × (List G_api_Ref))) : Option (Out (Int × (List G_api_Table) × G_api_Cell × G_api_Cell) Bool) := s_tablefinderlaw03_TableSteps_l3 n s.1 s.2.1 s.2.2.1 s.2.2.2.1 s.2.2.2.2.1 s.2.2.2.2.2.1 s.2.2.2.2.2.2.1 s.2.2.2.2.2.2.2
def s_tablefinderlaw03_TableSteps_l3_B (rec_ : (Int × Int × (List G_api_Table) × Int × Int × G_api_Cell × G_api_Cell × (List G_api_Ref)) → Option (Out (Int × (List G_api_Table) × G_api_Cell × G_api_Cell) Bool)) (s : (Int × Int × (List G_api_Table) × Int × Int × G_api_Cell × G_api_Cell × (List G_api_Ref))) : Option (Out (Int × (List G_api_Table) × G_api_Cell × G_api_Cell) Bool) := s_tablefinderlaw03_TableSteps_l3_b (fun what at_ l t256 i c e t255 => rec_ (what, at_, l, t256, i, c, e, t255)) s.1 s.2.1 s.2.2.1 s.2.2.2.1 s.2.2.2.2.1 s.2.2.2.2.2.1 s.2.2.2.2.2.2.1 s.2.2.2.2.2.2.2
theorem s_tablefinderlaw03_TableSteps_l3_FB : ∀ n s, s_tablefinderlaw03_TableSteps_l3_F (n + 1) s = s_tablefinderlaw03_TableSteps_l3_B (s_tablefinderlaw03_TableSteps_l3_F n) s := fun _ _ => rfl

def s_tablefinderlaw03_TableSteps_j7 (what : Int) (at_ : Int) (l : (List G_api_Table)) (t253 : Bool) (c : G_api_Cell) (e : G_api_Cell) : Option Bool :=
  bif t253 then (
    some false
  ) else (
    (s_tablefinderref03_Refs l).bind fun q =>
    (s_tablefinderlaw03_TableSteps_l3 big what at_ l (q.length : Int) (0 : Int) c e q).bind fun
      | .ret q_ => some q_
      | .brk (x0, x1, x2, x3) => s_tablefinderlaw03_TableSteps_k9 x0 x1 x2 x3
  )

def s_tablefinderlaw03_TableSteps_k6 (what : Int) (at_ : Int) (c : G_api_Cell) (e : G_api_Cell) (l : (List G_api_Table)) (t : G_api_Table) : Option Bool :=
  chk (room (([] : (List G_api_Table)).length + l.length) 48) <|
  (s_tablefinderlaw03_odd t what at_).bind fun q =>
  chk (room ((([] : (List G_api_Table)) ++ l).length + ([q] : (List G_api_Table)).length) 48) <|
  (s_table_ValidList l).bind fun q_1 =>
  (s_tablefinderref03_ValidList l).bind fun q_2 =>
  bif (!(q_1 == q_2)) then (
    s_tablefinderlaw03_TableSteps_j7 what at_ l true c e
  ) else (
    (s_table_ValidList ((([] : (List G_api_Table)) ++ l) ++ ([q] : (List G_api_Table)))).bind fun q_3 =>
    (s_tablefinderref03_ValidList ((([] : (List G_api_Table)) ++ l) ++ ([q] : (List G_api_Table)))).bind fun q_4 =>
    bif (!(q_3 == q_4)) then (
      s_tablefinderlaw03_TableSteps_j7 what at_ l true c e
    ) else (
      (s_table_Refs l).bind fun q_5 =>
      (s_tablefinderref03_Refs l).bind fun q_6 =>
      s_tablefinderlaw03_TableSteps_j7 what at_ l ((q_5.length : Int) != (q_6.length : Int)) c e
    )
  )

def s_tablefinderlaw03_TableSteps_j5 (rec_ : Int → Int → (List Int) → (List Int) → (List Int) → Int → Int → G_api_Cell → G_api_Cell → (List G_api_Table) → G_api_Table → (List G_api_Table) → Option (Out (Int × Int × G_api_Cell × G_api_Cell × (List G_api_Table) × G_api_Table) Bool)) (what : Int) (at_ : Int) (rows : (List Int)) (columns : (List Int)) (few : (List Int)) (t86 : Int) (t87 : Int) (t222 : Bool) (c : G_api_Cell) (e : G_api_Cell) (l : (List G_api_Table)) (t : G_api_Table) (t85 : (List G_api_Table)) : Option (Out (Int × Int × G_api_Cell × G_api_Cell × (List G_api_Table) × G_api_Table) Bool) :=
  bif t222 then (
    some (.ret false)
  ) else (
    chk (inK .i64 (t87 + 1)) <|
    rec_ what at_ rows columns few t86 (t87 + 1) c e l t t85
  )

def s_tablefinderlaw03_TableSteps_k4 (rec_ : Int → Int → (List Int) → (List Int) → (List Int) → Int → Int → G_api_Cell → G_api_Cell → (List G_api_Table) → G_api_Table → (List G_api_Table) → Option (Out (Int × Int × G_api_Cell × G_api_Cell × (List G_api_Table) × G_api_Table) Bool)) (what : Int) (at_ : Int) (rows : (List Int)) (columns : (List Int)) (few : (List Int)) (t86 : Int) (t87 : Int) (c : G_api_Cell) (e : G_api_Cell) (l : (List G_api_Table)) (t : G_api_Table) (x_ : G_api_Table) (t85 : (List G_api_Table)) : Option (Out (Int × Int × G_api_Cell × G_api_Cell × (List G_api_Table) × G_api_Table) Bool) :=
  (s_table_Sort x_).bind fun (u, f) =>
  (s_tablefinderref03_Sort x_).bind fun (v_, g) =>
  (s_tablefindermill_Mod what 8).bind fun q =>
  chk (inK .i64 (q - 1)) <|
  (s_table_Row x_ (q - 1)).bind fun (r_, h_) =>
  (s_tablefindermill_Mod what 8).bind fun q_1 =>
  chk (inK .i64 (q_1 - 1)) <|
  (s_tablefinderref03_Row x_ (q_1 - 1)).bind fun (w_, i) =>
  bif (f != g) then (
    s_tablefinderlaw03_TableSteps_j5 rec_ what at_ rows columns few t86 t87 true c e l t t85
  ) else (
    bif (h_ != i) then (
      s_tablefinderlaw03_TableSteps_j5 rec_ what at_ rows columns few t86 t87 true c e l t t85
    ) else (
      (s_tablefinderref03_Same u v_).bind fun q_2 =>
      bif (!q_2) then (
        s_tablefinderlaw03_TableSteps_j5 rec_ what at_ rows columns few t86 t87 true c e l t t85
      ) else (
        (s_tablefinderref03_SameCells (G_api_Column.mk ([] : Str) r_) (G_api_Column.mk ([] : Str) w_)).bind fun q_3 =>
        bif (!q_3) then (
          s_tablefinderlaw03_TableSteps_j5 rec_ what at_ rows columns few t86 t87 true c e l t t85
        ) else (
          (s_table_Same x_ t).bind fun q_4 =>
          (s_tablefinderref03_Same x_ t).bind fun q_5 =>
          bif (!(q_4 == q_5)) then (
            s_tablefinderlaw03_TableSteps_j5 rec_ what at_ rows columns few t86 t87 true c e l t t85
          ) else (
            (s_table_SameRows x_ t).bind fun q_6 =>
            (s_tablefinderref03_SameRows x_ t).bind fun q_7 =>
            s_tablefinderlaw03_TableSteps_j5 rec_ what at_ rows columns few t86 t87 (!(q_6 == q_7)) c e l t t85
          )
        )
      )
    )
  )

def s_tablefinderlaw03_TableSteps_j3 (rec_ : Int → Int → (List Int) → (List Int) → (List Int) → Int → Int → Int → Int → G_api_Cell → G_api_Cell → (List G_api_Table) → G_api_Table → G_api_Table → (List G_api_Table) → (List (List Int)) → Option (Out (Int × Int × (List Int) × (List Int) × (List Int) × Int × Int × G_api_Cell × G_api_Cell × (List G_api_Table) × G_api_Table × G_api_Table × (List G_api_Table)) Bool)) (what : Int) (at_ : Int) (rows : (List Int)) (columns : (List Int)) (few : (List Int)) (t86 : Int) (t87 : Int) (t107 : Int) (t108 : Int) (t155 : Bool) (c : G_api_Cell) (e : G_api_Cell) (l : (List G_api_Table)) (t : G_api_Table) (x_ : G_api_Table) (t85 : (List G_api_Table)) (t106 : (List (List Int))) : Option (Out (Int × Int × (List Int) × (List Int) × (List Int) × Int × Int × G_api_Cell × G_api_Cell × (List G_api_Table) × G_api_Table × G_api_Table × (List G_api_Table)) Bool) :=
  bif t155 then (
    some (.ret false)
  ) else (
    chk (inK .i64 (t108 + 1)) <|
    rec_ what at_ rows columns few t86 t87 t107 (t108 + 1) c e l t x_ t85 t106
  )

def s_tablefinderlaw03_TableSteps_l2_b (rec_ : Int → Int → (List Int) → (List Int) → (List Int) → Int → Int → Int → Int → G_api_Cell → G_api_Cell → (List G_api_Table) → G_api_Table → G_api_Table → (List G_api_Table) → (List (List Int)) → Option (Out (Int × Int × (List Int) × (List Int) × (List Int) × Int × Int × G_api_Cell × G_api_Cell × (List G_api_Table) × G_api_Table × G_api_Table × (List G_api_Table)) Bool)) (what : Int) (at_ : Int) (rows : (List Int)) (columns : (List Int)) (few : (List Int)) (t86 : Int) (t87 : Int) (t107 : Int) (t108 : Int) (c : G_api_Cell) (e : G_api_Cell) (l : (List G_api_Table)) (t : G_api_Table) (x_ : G_api_Table) (t85 : (List G_api_Table)) (t106 : (List (List Int))) : Option (Out (Int × Int × (List Int) × (List Int) × (List Int) × Int × Int × G_api_Cell × G_api_Cell × (List G_api_Table) × G_api_Table × G_api_Table × (List G_api_Table)) Bool) :=
  bif (decide (t108 < t107)) then (
    chk (inR t108 (t106.length : Int)) <|
    (t106[(t108).toNat]?).bind fun k =>
    (s_table_Project x_ k).bind fun (u, f) =>
    (s_tablefinderref03_Project x_ k).bind fun (v_, g) =>
    (s_table_Select x_ k).bind fun (p, h_) =>
    (s_tablefinderref03_Select x_ k).bind fun (q, i) =>
    bif (f != g) then (
      s_tablefinderlaw03_TableSteps_j3 rec_ what at_ rows columns few t86 t87 t107 t108 true c e l t x_ t85 t106
    ) else (
      bif (h_ != i) then (
        s_tablefinderlaw03_TableSteps_j3 rec_ what at_ rows columns few t86 t87 t107 t108 true c e l t x_ t85 t106
      ) else (
        (s_tablefinderref03_Same u v_).bind fun q_1 =>
        bif (!q_1) then (
          s_tablefinderlaw03_TableSteps_j3 rec_ what at_ rows columns few t86 t87 t107 t108 true c e l t x_ t85 t106
        ) else (
          (s_tablefinderref03_Same p q).bind fun q_2 =>
          s_tablefinderlaw03_TableSteps_j3 rec_ what at_ rows columns few t86 t87 t107 t108 (!q_2) c e l t x_ t85 t106
        )
      )
    )
  ) else (
    some (.brk (what, at_, rows, columns, few, t86, t87, c, e, l, t, x_, t85))
  )

def s_tablefinderlaw03_TableSteps_l2 : Nat → Int → Int → (List Int) → (List Int) → (List Int) → Int → Int → Int → Int → G_api_Cell → G_api_Cell → (List G_api_Table) → G_api_Table → G_api_Table → (List G_api_Table) → (List (List Int)) → Option (Out (Int × Int × (List Int) × (List Int) × (List Int) × Int × Int × G_api_Cell × G_api_Cell × (List G_api_Table) × G_api_Table × G_api_Table × (List G_api_Table)) Bool)
  | 0, _, _, _, _, _, _, _, _, _, _, _, _, _, _, _, _ => none
  | n_ + 1, what, at_, rows, columns, few, t86, t87, t107, t108, c, e, l, t, x_, t85, t106 => s_tablefinderlaw03_TableSteps_l2_b (s_tablefinderlaw03_TableSteps_l2 n_) what at_ rows columns few t86 t87 t107 t108 c e l t x_ t85 t106

def s_tablefinderlaw03_TableSteps_l2_F (n : Nat) (s : (Int × Int × (List Int) × (List Int) × (List Int) × Int × Int × Int × Int × G_api_Cell × G_api_Cell × (List G_api_Table) × G_api_Table × G_api_Table × (List G_api_Table) × (List (List Int)))) : Option (Out (Int × Int × (List Int) × (List Int) × (List Int) × Int × Int × G_api_Cell × G_api_Cell × (List G_api_Table) × G_api_Table × G_api_Table × (List G_api_Table)) Bool) := s_tablefinderlaw03_TableSteps_l2 n s.1 s.2.1 s.2.2.1 s.2.2.2.1 s.2.2.2.2.1 s.2.2.2.2.2.1 s.2.2.2.2.2.2.1 s.2.2.2.2.2.2.2.1 s.2.2.2.2.2.2.2.2.1 s.2.2.2.2.2.2.2.2.2.1 s.2.2.2.2.2.2.2.2.2.2.1 s.2.2.2.2.2.2.2.2.2.2.2.1 s.2.2.2.2.2.2.2.2.2.2.2.2.1 s.2.2.2.2.2.2.2.2.2.2.2.2.2.1 s.2.2.2.2.2.2.2.2.2.2.2.2.2.2.1 s.2.2.2.2.2.2.2.2.2.2.2.2.2.2.2
def s_tablefinderlaw03_TableSteps_l2_B (rec_ : (Int × Int × (List Int) × (List Int) × (List Int) × Int × Int × Int × Int × G_api_Cell × G_api_Cell × (List G_api_Table) × G_api_Table × G_api_Table × (List G_api_Table) × (List (List Int))) → Option (Out (Int × Int × (List Int) × (List Int) × (List Int) × Int × Int × G_api_Cell × G_api_Cell × (List G_api_Table) × G_api_Table × G_api_Table × (List G_api_Table)) Bool)) (s : (Int × Int × (List Int) × (List Int) × (List Int) × Int × Int × Int × Int × G_api_Cell × G_api_Cell × (List G_api_Table) × G_api_Table × G_api_Table × (List G_api_Table) × (List (List Int)))) : Option (Out (Int × Int × (List Int) × (List Int) × (List Int) × Int × Int × G_api_Cell × G_api_Cell × (List G_api_Table) × G_api_Table × G_api_Table × (List G_api_Table)) Bool) := s_tablefinderlaw03_TableSteps_l2_b (fun what at_ rows columns few t86 t87 t107 t108 c e l t x_ t85 t106 => rec_ (what, at_, rows, columns, few, t86, t87, t107, t108, c, e, l, t, x_, t85, t106)) s.1 s.2.1 s.2.2.1 s.2.2.2.1 s.2.2.2.2.1 s.2.2.2.2.2.1 s.2.2.2.2.2.2.1 s.2.2.2.2.2.2.2.1 s.2.2.2.2.2.2.2.2.1 s.2.2.2.2.2.2.2.2.2.1 s.2.2.2.2.2.2.2.2.2.2.1 s.2.2.2.2.2.2.2.2.2.2.2.1 s.2.2.2.2.2.2.2.2.2.2.2.2.1 s.2.2.2.2.2.2.2.2.2.2.2.2.2.1 s.2.2.2.2.2.2.2.2.2.2.2.2.2.2.1 s.2.2.2.2.2.2.2.2.2.2.2.2.2.2.2
theorem s_tablefinderlaw03_TableSteps_l2_FB : ∀ n s, s_tablefinderlaw03_TableSteps_l2_F (n + 1) s = s_tablefinderlaw03_TableSteps_l2_B (s_tablefinderlaw03_TableSteps_l2_F n) s := fun _ _ => rfl

def s_tablefinderlaw03_TableSteps_j2 (rec_ : Int → Int → (List Int) → (List Int) → (List Int) → Int → Int → G_api_Cell → G_api_Cell → (List G_api_Table) → G_api_Table → (List G_api_Table) → Option (Out (Int × Int × G_api_Cell × G_api_Cell × (List G_api_Table) × G_api_Table) Bool)) (what : Int) (at_ : Int) (rows : (List Int)) (columns : (List Int)) (few : (List Int)) (t86 : Int) (t87 : Int) (t102 : Bool) (c : G_api_Cell) (e : G_api_Cell) (l : (List G_api_Table)) (t : G_api_Table) (x_ : G_api_Table) (t85 : (List G_api_Table)) : Option (Out (Int × Int × G_api_Cell × G_api_Cell × (List G_api_Table) × G_api_Table) Bool) :=
  bif t102 then (
    some (.ret false)
  ) else (
    (s_tablefinderlaw03_TableSteps_l2 big what at_ rows columns few t86 t87 (([rows, columns, few, ([] : (List Int))] : (List (List Int))).length : Int) (0 : Int) c e l t x_ t85 ([rows, columns, few, ([] : (List Int))] : (List (List Int)))).bind fun
      | .ret q_ => some (.ret q_)
      | .brk (x0, x1, x2, x3, x4, x5, x6, x7, x8, x9, x10, x11, x12) => s_tablefinderlaw03_TableSteps_k4 rec_ x0 x1 x2 x3 x4 x5 x6 x7 x8 x9 x10 x11 x12
  )

def s_tablefinderlaw03_TableSteps_l1_b (rec_ : Int → Int → (List Int) → (List Int) → (List Int) → Int → Int → G_api_Cell → G_api_Cell → (List G_api_Table) → G_api_Table → (List G_api_Table) → Option (Out (Int × Int × G_api_Cell × G_api_Cell × (List G_api_Table) × G_api_Table) Bool)) (what : Int) (at_ : Int) (rows : (List Int)) (columns : (List Int)) (few : (List Int)) (t86 : Int) (t87 : Int) (c : G_api_Cell) (e : G_api_Cell) (l : (List G_api_Table)) (t : G_api_Table) (t85 : (List G_api_Table)) : Option (Out (Int × Int × G_api_Cell × G_api_Cell × (List G_api_Table) × G_api_Table) Bool) :=
  bif (decide (t87 < t86)) then (
    chk (inR t87 (t85.length : Int)) <|
    (t85[(t87).toNat]?).bind fun x_ =>
    (s_table_Valid x_).bind fun q =>
    (s_tablefinderref03_Valid x_).bind fun q_1 =>
    bif (!(q == q_1)) then (
      s_tablefinderlaw03_TableSteps_j2 rec_ what at_ rows columns few t86 t87 true c e l t x_ t85
    ) else (
      (s_table_Rows x_).bind fun q_2 =>
      (s_tablefinderref03_Rows x_).bind fun q_3 =>
      s_tablefinderlaw03_TableSteps_j2 rec_ what at_ rows columns few t86 t87 (q_2 != q_3) c e l t x_ t85
    )
  ) else (
    some (.brk (what, at_, c, e, l, t))
  )

def s_tablefinderlaw03_TableSteps_l1 : Nat → Int → Int → (List Int) → (List Int) → (List Int) → Int → Int → G_api_Cell → G_api_Cell → (List G_api_Table) → G_api_Table → (List G_api_Table) → Option (Out (Int × Int × G_api_Cell × G_api_Cell × (List G_api_Table) × G_api_Table) Bool)
  | 0, _, _, _, _, _, _, _, _, _, _, _, _ => none
  | n_ + 1, what, at_, rows, columns, few, t86, t87, c, e, l, t, t85 => s_tablefinderlaw03_TableSteps_l1_b (s_tablefinderlaw03_TableSteps_l1 n_) what at_ rows columns few t86 t87 c e l t t85

def s_tablefinderlaw03_TableSteps_l1_F (n : Nat) (s : (Int × Int × (List Int) × (List Int) × (List Int) × Int × Int × G_api_Cell × G_api_Cell × (List G_api_Table) × G_api_Table × (List G_api_Table))) : Option (Out (Int × Int × G_api_Cell × G_api_Cell × (List G_api_Table) × G_api_Table) Bool) := s_tablefinderlaw03_TableSteps_l1 n s.1 s.2.1 s.2.2.1 s.2.2.2.1 s.2.2.2.2.1 s.2.2.2.2.2.1 s.2.2.2.2.2.2.1 s.2.2.2.2.2.2.2.1 s.2.2.2.2.2.2.2.2.1 s.2.2.2.2.2.2.2.2.2.1 s.2.2.2.2.2.2.2.2.2.2.1 s.2.2.2.2.2.2.2.2.2.2.2
def s_tablefinderlaw03_TableSteps_l1_B (rec_ : (Int × Int × (List Int) × (List Int) × (List Int) × Int × Int × G_api_Cell × G_api_Cell × (List G_api_Table) × G_api_Table × (List G_api_Table)) → Option (Out (Int × Int × G_api_Cell × G_api_Cell × (List G_api_Table) × G_api_Table) Bool)) (s : (Int × Int × (List Int) × (List Int) × (List Int) × Int × Int × G_api_Cell × G_api_Cell × (List G_api_Table) × G_api_Table × (List G_api_Table))) : Option (Out (Int × Int × G_api_Cell × G_api_Cell × (List G_api_Table) × G_api_Table) Bool) := s_tablefinderlaw03_TableSteps_l1_b (fun what at_ rows columns few t86 t87 c e l t t85 => rec_ (what, at_, rows, columns, few, t86, t87, c, e, l, t, t85)) s.1 s.2.1 s.2.2.1 s.2.2.2.1 s.2.2.2.2.1 s.2.2.2.2.2.1 s.2.2.2.2.2.2.1 s.2.2.2.2.2.2.2.1 s.2.2.2.2.2.2.2.2.1 s.2.2.2.2.2.2.2.2.2.1 s.2.2.2.2.2.2.2.2.2.2.1 s.2.2.2.2.2.2.2.2.2.2.2
theorem s_tablefinderlaw03_TableSteps_l1_FB : ∀ n s, s_tablefinderlaw03_TableSteps_l1_F (n + 1) s = s_tablefinderlaw03_TableSteps_l1_B (s_tablefinderlaw03_TableSteps_l1_F n) s := fun _ _ => rfl

def s_tablefinderlaw03_TableSteps_j1 (s : (List Int)) (what : Int) (at_ : Int) (rows : (List Int)) (columns : (List Int)) (t64 : Bool) (c : G_api_Cell) (e : G_api_Cell) : Option Bool :=
  bif t64 then (
    some true
  ) else (
    (s_tablefindermill_New s).bind fun d =>
    (s_tablefindermill_Dice_List d 4 4 6).bind fun (l, t67) =>
    (s_tablefindermill_Dice_Pick t67 5).bind fun (q, t70) =>
    (s_tablefindermill_Dice_Table t70 q 4 6).bind fun (t, t69) =>
    (s_tablefindermill_Mod at_ 5).bind fun q_1 =>
    (s_tablefindermill_Mod what 5).bind fun q_2 =>
    (s_tablefindermill_Mod at_ 5).bind fun q_3 =>
    (s_tablefinderlaw03_odd t what at_).bind fun q_4 =>
    (s_tablefinderlaw03_TableSteps_l1 big what at_ rows columns ([q_1, q_2, q_3] : (List Int)) (([t, q_4] : (List G_api_Table)).length : Int) (0 : Int) c e l t ([t, q_4] : (List G_api_Table))).bind fun
      | .ret q_ => some q_
      | .brk (x0, x1, x2, x3, x4, x5) => s_tablefinderlaw03_TableSteps_k6 x0 x1 x2 x3 x4 x5
  )

def s_tablefinderlaw03_TableSteps (s : (List Int)) (what : Int) (at_ : Int) (rows : (List Int)) (columns : (List Int)) (c : G_api_Cell) (e : G_api_Cell) : Option Bool :=
  (s_tablefinderlaw03_sane).bind fun q =>
  bif (!q) then (
    some false
  ) else (
    bif (decide ((rows.length : Int) > 20)) then (
      s_tablefinderlaw03_TableSteps_j1 s what at_ rows columns true c e
    ) else (
      s_tablefinderlaw03_TableSteps_j1 s what at_ rows columns (decide ((columns.length : Int) > 20)) c e
    )
  )

end
end Go.Proofs
