/- Printed by wip/tools/tgen.py: specs. -/
import Derived.Test.YtahbkngofdpehaaDoorE4
set_option linter.unusedVariables false
set_option linter.unusedSimpArgs false
set_option linter.unusedSectionVars false
namespace Go.Proofs
open Go Eng
set_option maxRecDepth 100000
noncomputable section

structure G_api_Big where
  Neg : Bool
  Words : (List Int)
  deriving DecidableEq, Inhabited

structure G_api_Fraction where
  Num : G_api_Big
  Den : G_api_Big
  deriving DecidableEq, Inhabited

structure G_arr2_G_api_Fraction where
  e0 : G_api_Fraction
  e1 : G_api_Fraction
  deriving DecidableEq, Inhabited

structure G_api_Moments where
  N : Int
  X : G_api_Fraction
  Y : G_api_Fraction
  XX : G_api_Fraction
  YY : G_api_Fraction
  XY : G_api_Fraction
  deriving DecidableEq, Inhabited

def carU : Nat → Type
  | 0 => G_api_Big
  | 1 => G_api_Fraction
  | 2 => G_arr2_G_api_Fraction
  | 3 => G_api_Moments
  | _ => Unit

def sizeU : Nat → Nat
  | 0 => 2
  | 1 => 4
  | 2 => 8
  | 3 => 21
  | _ => 0


def glob_fraction_one : List (Lf carU) := [⟨.sl (.int .u32), ([1] : List Int)⟩]

/-! ### tablefinder/tablefinderref01.trim -/

def s_tablefinderref01_trim_k2 (w_ : (List Int)) : Option (List Int) :=
  some w_

def s_tablefinderref01_trim_j1 (rec_ : (List Int) → Option (List Int)) (w_ : (List Int)) (t14 : Bool) : Option (List Int) :=
  bif t14 then (
    chk (inK .i64 ((w_.length : Int) - 1)) <|
    chk (within 0 ((w_.length : Int) - 1) (w_.length : Int)) <|
    rec_ (w_.take (((w_.length : Int) - 1)).toNat)
  ) else (
    some w_
  )

def s_tablefinderref01_trim_l1_b (rec_ : (List Int) → Option (List Int)) (w_ : (List Int)) : Option (List Int) :=
  bif (decide ((w_.length : Int) > 0)) then (
    chk (inK .i64 ((w_.length : Int) - 1)) <|
    (idx w_ ((w_.length : Int) - 1)).bind fun w__e =>
    s_tablefinderref01_trim_j1 rec_ w_ (w__e == 0)
  ) else (
    s_tablefinderref01_trim_j1 rec_ w_ false
  )

def s_tablefinderref01_trim_l1 : Nat → (List Int) → Option (List Int)
  | 0, _ => none
  | n_ + 1, w_ => s_tablefinderref01_trim_l1_b (s_tablefinderref01_trim_l1 n_) w_

def s_tablefinderref01_trim (w_ : (List Int)) : Option (List Int) :=
  (s_tablefinderref01_trim_l1 big w_).bind fun x0 => s_tablefinderref01_trim_k2 x0

/-! ### tablefinder/tablefinderref01.big -/

def s_tablefinderref01_big_j1 (t4 : G_api_Big) : Option G_api_Big :=
  some t4

def s_tablefinderref01_big (neg : Bool) (w_ : (List Int)) : Option G_api_Big :=
  (s_tablefinderref01_trim w_).bind fun w__1 =>
  bif neg then (
    s_tablefinderref01_big_j1 (G_api_Big.mk (decide ((w__1.length : Int) > 0)) w__1)
  ) else (
    s_tablefinderref01_big_j1 (G_api_Big.mk false w__1)
  )

/-! ### tablefinder/tablefinderref01.FromInt -/

def s_tablefinderref01_FromInt_j1 (n : Int) (u : Int) (t2 : Bool) (t2_1 : (List Int)) : Option G_api_Big :=
  chk (decide (0 ≤ (32 : Int))) <|
  (s_tablefinderref01_big (decide (n < 0)) ([(IntKind.wrap .u32 u), (IntKind.wrap .u32 (shrK .u64 u 32))] : (List Int))).bind fun q =>
  some q

def s_tablefinderref01_FromInt (n : Int) : Option G_api_Big :=
  bif (decide (n < 0)) then (
    s_tablefinderref01_FromInt_j1 n (IntKind.wrap .u64 (0 - (IntKind.wrap .u64 n))) false ([] : (List Int))
  ) else (
    s_tablefinderref01_FromInt_j1 n (IntKind.wrap .u64 n) false ([] : (List Int))
  )

/-! ### tablefinder/tablefinderref01.ValidBig -/

def s_tablefinderref01_ValidBig_j1 (t2 : Bool) : Option Bool :=
  some t2

def s_tablefinderref01_ValidBig (a : G_api_Big) : Option Bool :=
  bif (decide ((a.Words.length : Int) ≤ 256)) then (
    bif ((a.Words.length : Int) == 0) then (
      bif (!a.Neg) then (
        s_tablefinderref01_ValidBig_j1 true
      ) else (
        bif (decide ((a.Words.length : Int) > 0)) then (
          chk (inK .i64 ((a.Words.length : Int) - 1)) <|
          (idx a.Words ((a.Words.length : Int) - 1)).bind fun Word =>
          s_tablefinderref01_ValidBig_j1 (Word != 0)
        ) else (
          s_tablefinderref01_ValidBig_j1 false
        )
      )
    ) else (
      bif (decide ((a.Words.length : Int) > 0)) then (
        chk (inK .i64 ((a.Words.length : Int) - 1)) <|
        (idx a.Words ((a.Words.length : Int) - 1)).bind fun Word_1 =>
        s_tablefinderref01_ValidBig_j1 (Word_1 != 0)
      ) else (
        s_tablefinderref01_ValidBig_j1 false
      )
    )
  ) else (
    s_tablefinderref01_ValidBig_j1 false
  )

/-! ### tablefinder/tablefinderref01.half -/

def s_tablefinderref01_half_k2 (out : (List Int)) : Option (List Int) :=
  (s_tablefinderref01_trim out).bind fun q =>
  some q

def s_tablefinderref01_half_j1 (rec_ : (List Int) → Int → Int → (List Int) → Option (List Int)) (a : (List Int)) (t9 : Int) (i : Int) (out : (List Int)) : Option (List Int) :=
  chk (inK .i64 (i + 1)) <|
  rec_ a t9 (i + 1) out

def s_tablefinderref01_half_l1_b (rec_ : (List Int) → Int → Int → (List Int) → Option (List Int)) (a : (List Int)) (t9 : Int) (i : Int) (out : (List Int)) : Option (List Int) :=
  bif (decide (i < t9)) then (
    chk (inR i (out.length : Int)) <|
    (out[(i).toNat]?).bind fun out_e =>
    chk (decide (0 ≤ (1 : Int))) <|
    chk (inR i (out.length : Int)) <|
    chk (inK .i64 (i + 1)) <|
    bif (decide ((i + 1) < (a.length : Int))) then (
      chk (inR i ((out.set ((i).toNat) (shrK .u32 out_e 1)).length : Int)) <|
      ((out.set ((i).toNat) (shrK .u32 out_e 1))[(i).toNat]?).bind fun e_e =>
      chk (inK .i64 (i + 1)) <|
      (idx a (i + 1)).bind fun a_e =>
      chk (decide (0 ≤ (31 : Int))) <|
      chk (inR i ((out.set ((i).toNat) (shrK .u32 out_e 1)).length : Int)) <|
      s_tablefinderref01_half_j1 rec_ a t9 i ((out.set ((i).toNat) (shrK .u32 out_e 1)).set ((i).toNat) (orK .u32 e_e (shlK .u32 a_e 31)))
    ) else (
      s_tablefinderref01_half_j1 rec_ a t9 i (out.set ((i).toNat) (shrK .u32 out_e 1))
    )
  ) else (
    some out
  )

def s_tablefinderref01_half_l1 : Nat → (List Int) → Int → Int → (List Int) → Option (List Int)
  | 0, _, _, _, _ => none
  | n_ + 1, a, t9, i, out => s_tablefinderref01_half_l1_b (s_tablefinderref01_half_l1 n_) a t9 i out

def s_tablefinderref01_half_l1_F (n : Nat) (s : ((List Int) × Int × Int × (List Int))) : Option (List Int) := s_tablefinderref01_half_l1 n s.1 s.2.1 s.2.2.1 s.2.2.2
def s_tablefinderref01_half_l1_B (rec_ : ((List Int) × Int × Int × (List Int)) → Option (List Int)) (s : ((List Int) × Int × Int × (List Int))) : Option (List Int) := s_tablefinderref01_half_l1_b (fun a t9 i out => rec_ (a, t9, i, out)) s.1 s.2.1 s.2.2.1 s.2.2.2
theorem s_tablefinderref01_half_l1_FB : ∀ n s, s_tablefinderref01_half_l1_F (n + 1) s = s_tablefinderref01_half_l1_B (s_tablefinderref01_half_l1_F n) s := fun _ _ => rfl

def s_tablefinderref01_half (a : (List Int)) : Option (List Int) :=
  chk (room (([] : (List Int)).length + a.length) 4) <|
  (s_tablefinderref01_half_l1 big a ((([] : (List Int)) ++ a).length : Int) (0 : Int) (([] : (List Int)) ++ a)).bind fun x0 => s_tablefinderref01_half_k2 x0

/-! ### tablefinder/tablefinderref01.cmp -/

def s_tablefinderref01_cmp_k1  : Option Int :=
  some (0 : Int)

def s_tablefinderref01_cmp_l1_b (rec_ : (List Int) → (List Int) → Int → Option (Out Unit Int)) (a : (List Int)) (b : (List Int)) (i : Int) : Option (Out Unit Int) :=
  bif (decide (i ≥ 0)) then (
    (idx a i).bind fun a_e =>
    (idx b i).bind fun b_e =>
    bif (decide (a_e < b_e)) then (
      some (.ret (-1 : Int))
    ) else (
      (idx a i).bind fun a_e_1 =>
      (idx b i).bind fun b_e_1 =>
      bif (decide (a_e_1 > b_e_1)) then (
        some (.ret (1 : Int))
      ) else (
        chk (inK .i64 (i - 1)) <|
        rec_ a b (i - 1)
      )
    )
  ) else (
    some (.brk ())
  )

def s_tablefinderref01_cmp_l1 : Nat → (List Int) → (List Int) → Int → Option (Out Unit Int)
  | 0, _, _, _ => none
  | n_ + 1, a, b, i => s_tablefinderref01_cmp_l1_b (s_tablefinderref01_cmp_l1 n_) a b i

def s_tablefinderref01_cmp_l1_F (n : Nat) (s : ((List Int) × (List Int) × Int)) : Option (Out Unit Int) := s_tablefinderref01_cmp_l1 n s.1 s.2.1 s.2.2
def s_tablefinderref01_cmp_l1_B (rec_ : ((List Int) × (List Int) × Int) → Option (Out Unit Int)) (s : ((List Int) × (List Int) × Int)) : Option (Out Unit Int) := s_tablefinderref01_cmp_l1_b (fun a b i => rec_ (a, b, i)) s.1 s.2.1 s.2.2
theorem s_tablefinderref01_cmp_l1_FB : ∀ n s, s_tablefinderref01_cmp_l1_F (n + 1) s = s_tablefinderref01_cmp_l1_B (s_tablefinderref01_cmp_l1_F n) s := fun _ _ => rfl

def s_tablefinderref01_cmp (a : (List Int)) (b : (List Int)) : Option Int :=
  bif ((a.length : Int) != (b.length : Int)) then (
    bif (decide ((a.length : Int) < (b.length : Int))) then (
      some (-1 : Int)
    ) else (
      some (1 : Int)
    )
  ) else (
    chk (inK .i64 ((a.length : Int) - 1)) <|
    (s_tablefinderref01_cmp_l1 big a b ((a.length : Int) - 1)).bind fun
      | .ret q_ => some q_
      | .brk () => s_tablefinderref01_cmp_k1
  )

/-! ### tablefinder/tablefinderref01.sub -/

def s_tablefinderref01_sub_k2 (out : (List Int)) : Option (List Int) :=
  (s_tablefinderref01_trim out).bind fun q =>
  some q

def s_tablefinderref01_sub_j1 (rec_ : (List Int) → (List Int) → Int → Int → (List Int) → Option (List Int)) (a : (List Int)) (b : (List Int)) (c : Int) (i : Int) (out : (List Int)) : Option (List Int) :=
  chk (room (out.length + ([(IntKind.wrap .u32 c)] : (List Int)).length) 4) <|
  chk (decide (0 ≤ (32 : Int))) <|
  chk (inK .i64 (i + 1)) <|
  rec_ a b (shrK .i64 c 32) (i + 1) (out ++ ([(IntKind.wrap .u32 c)] : (List Int)))

def s_tablefinderref01_sub_l1_b (rec_ : (List Int) → (List Int) → Int → Int → (List Int) → Option (List Int)) (a : (List Int)) (b : (List Int)) (c : Int) (i : Int) (out : (List Int)) : Option (List Int) :=
  bif (decide (i < (a.length : Int))) then (
    (idx a i).bind fun a_e =>
    chk (inK .i64 (c + (IntKind.wrap .i64 a_e))) <|
    bif (decide (i < (b.length : Int))) then (
      (idx b i).bind fun b_e =>
      chk (inK .i64 ((c + (IntKind.wrap .i64 a_e)) - (IntKind.wrap .i64 b_e))) <|
      s_tablefinderref01_sub_j1 rec_ a b ((c + (IntKind.wrap .i64 a_e)) - (IntKind.wrap .i64 b_e)) i out
    ) else (
      s_tablefinderref01_sub_j1 rec_ a b (c + (IntKind.wrap .i64 a_e)) i out
    )
  ) else (
    some out
  )

def s_tablefinderref01_sub_l1 : Nat → (List Int) → (List Int) → Int → Int → (List Int) → Option (List Int)
  | 0, _, _, _, _, _ => none
  | n_ + 1, a, b, c, i, out => s_tablefinderref01_sub_l1_b (s_tablefinderref01_sub_l1 n_) a b c i out

def s_tablefinderref01_sub_l1_F (n : Nat) (s : ((List Int) × (List Int) × Int × Int × (List Int))) : Option (List Int) := s_tablefinderref01_sub_l1 n s.1 s.2.1 s.2.2.1 s.2.2.2.1 s.2.2.2.2
def s_tablefinderref01_sub_l1_B (rec_ : ((List Int) × (List Int) × Int × Int × (List Int)) → Option (List Int)) (s : ((List Int) × (List Int) × Int × Int × (List Int))) : Option (List Int) := s_tablefinderref01_sub_l1_b (fun a b c i out => rec_ (a, b, c, i, out)) s.1 s.2.1 s.2.2.1 s.2.2.2.1 s.2.2.2.2
theorem s_tablefinderref01_sub_l1_FB : ∀ n s, s_tablefinderref01_sub_l1_F (n + 1) s = s_tablefinderref01_sub_l1_B (s_tablefinderref01_sub_l1_F n) s := fun _ _ => rfl

def s_tablefinderref01_sub (a : (List Int)) (b : (List Int)) : Option (List Int) :=
  (s_tablefinderref01_sub_l1 big a b (0 : Int) (0 : Int) ([] : (List Int))).bind fun x0 => s_tablefinderref01_sub_k2 x0

/-! ### tablefinder/tablefinderref01.twice -/

def s_tablefinderref01_twice_k1 (d : Int) (out : (List Int)) : Option (List Int) :=
  chk (room (out.length + ([d] : (List Int)).length) 4) <|
  (s_tablefinderref01_trim (out ++ ([d] : (List Int)))).bind fun q =>
  some q

def s_tablefinderref01_twice_l1_b (rec_ : (List Int) → Int → Int → (List Int) → Option (Int × (List Int))) (a : (List Int)) (d : Int) (i : Int) (out : (List Int)) : Option (Int × (List Int)) :=
  bif (decide (i < (a.length : Int))) then (
    (idx a i).bind fun a_e =>
    chk (decide (0 ≤ (1 : Int))) <|
    chk (room (out.length + ([(orK .u32 (shlK .u32 a_e 1) d)] : (List Int)).length) 4) <|
    (idx a i).bind fun a_e_1 =>
    chk (decide (0 ≤ (31 : Int))) <|
    chk (inK .i64 (i + 1)) <|
    rec_ a (shrK .u32 a_e_1 31) (i + 1) (out ++ ([(orK .u32 (shlK .u32 a_e 1) d)] : (List Int)))
  ) else (
    some (d, out)
  )

def s_tablefinderref01_twice_l1 : Nat → (List Int) → Int → Int → (List Int) → Option (Int × (List Int))
  | 0, _, _, _, _ => none
  | n_ + 1, a, d, i, out => s_tablefinderref01_twice_l1_b (s_tablefinderref01_twice_l1 n_) a d i out

def s_tablefinderref01_twice_l1_F (n : Nat) (s : ((List Int) × Int × Int × (List Int))) : Option (Int × (List Int)) := s_tablefinderref01_twice_l1 n s.1 s.2.1 s.2.2.1 s.2.2.2
def s_tablefinderref01_twice_l1_B (rec_ : ((List Int) × Int × Int × (List Int)) → Option (Int × (List Int))) (s : ((List Int) × Int × Int × (List Int))) : Option (Int × (List Int)) := s_tablefinderref01_twice_l1_b (fun a d i out => rec_ (a, d, i, out)) s.1 s.2.1 s.2.2.1 s.2.2.2
theorem s_tablefinderref01_twice_l1_FB : ∀ n s, s_tablefinderref01_twice_l1_F (n + 1) s = s_tablefinderref01_twice_l1_B (s_tablefinderref01_twice_l1_F n) s := fun _ _ => rfl

def s_tablefinderref01_twice (a : (List Int)) (d : Int) : Option (List Int) :=
  (s_tablefinderref01_twice_l1 big a d (0 : Int) ([] : (List Int))).bind fun (x0, x1) => s_tablefinderref01_twice_k1 x0 x1

/-! ### tablefinder/tablefinderref01.gcd -/

def s_tablefinderref01_gcd_k7 (a : (List Int)) : Option (List Int) :=
  some a

def s_tablefinderref01_gcd_l5_b (rec_ : (List Int) → Int → Option (List Int)) (a : (List Int)) (k : Int) : Option (List Int) :=
  bif (decide (k > 0)) then (
    (s_tablefinderref01_twice a 0).bind fun a_1 =>
    chk (inK .i64 (k - 1)) <|
    rec_ a_1 (k - 1)
  ) else (
    some a
  )

def s_tablefinderref01_gcd_l5 : Nat → (List Int) → Int → Option (List Int)
  | 0, _, _ => none
  | n_ + 1, a, k => s_tablefinderref01_gcd_l5_b (s_tablefinderref01_gcd_l5 n_) a k

def s_tablefinderref01_gcd_k6 (a : (List Int)) (k : Int) : Option (List Int) :=
  (s_tablefinderref01_gcd_l5 big a k).bind fun x0 => s_tablefinderref01_gcd_k7 x0

def s_tablefinderref01_gcd_j5 (rec_ : (List Int) → (List Int) → Int → Option ((List Int) × Int)) (a : (List Int)) (b : (List Int)) (k : Int) : Option ((List Int) × Int) :=
  (s_tablefinderref01_sub b a).bind fun b_1 =>
  rec_ a b_1 k

def s_tablefinderref01_gcd_k4 (rec_ : (List Int) → (List Int) → Int → Option ((List Int) × Int)) (a : (List Int)) (b : (List Int)) (k : Int) : Option ((List Int) × Int) :=
  (s_tablefinderref01_cmp a b).bind fun q =>
  bif (decide (q > 0)) then (
    s_tablefinderref01_gcd_j5 rec_ b a k
  ) else (
    s_tablefinderref01_gcd_j5 rec_ a b k
  )

def s_tablefinderref01_gcd_l4_b (rec_ : (List Int) → (List Int) → Int → Option ((List Int) × (List Int) × Int)) (a : (List Int)) (b : (List Int)) (k : Int) : Option ((List Int) × (List Int) × Int) :=
  (idx b 0).bind fun b_e =>
  bif ((andK .u32 b_e 1) == 0) then (
    (s_tablefinderref01_half b).bind fun b_1 =>
    rec_ a b_1 k
  ) else (
    some (a, b, k)
  )

def s_tablefinderref01_gcd_l4 : Nat → (List Int) → (List Int) → Int → Option ((List Int) × (List Int) × Int)
  | 0, _, _, _ => none
  | n_ + 1, a, b, k => s_tablefinderref01_gcd_l4_b (s_tablefinderref01_gcd_l4 n_) a b k

def s_tablefinderref01_gcd_k3 (rec_ : (List Int) → (List Int) → Int → Option ((List Int) × Int)) (a : (List Int)) (b : (List Int)) (k : Int) : Option ((List Int) × Int) :=
  (s_tablefinderref01_gcd_l4 big a b k).bind fun (x0, x1, x2) => s_tablefinderref01_gcd_k4 rec_ x0 x1 x2

def s_tablefinderref01_gcd_l3_b (rec_ : (List Int) → (List Int) → Int → Option ((List Int) × (List Int) × Int)) (a : (List Int)) (b : (List Int)) (k : Int) : Option ((List Int) × (List Int) × Int) :=
  (idx a 0).bind fun a_e =>
  bif ((andK .u32 a_e 1) == 0) then (
    (s_tablefinderref01_half a).bind fun a_1 =>
    rec_ a_1 b k
  ) else (
    some (a, b, k)
  )

def s_tablefinderref01_gcd_l3 : Nat → (List Int) → (List Int) → Int → Option ((List Int) × (List Int) × Int)
  | 0, _, _, _ => none
  | n_ + 1, a, b, k => s_tablefinderref01_gcd_l3_b (s_tablefinderref01_gcd_l3 n_) a b k

def s_tablefinderref01_gcd_l2_b (rec_ : (List Int) → (List Int) → Int → Option ((List Int) × Int)) (a : (List Int)) (b : (List Int)) (k : Int) : Option ((List Int) × Int) :=
  bif (decide ((b.length : Int) > 0)) then (
    (s_tablefinderref01_gcd_l3 big a b k).bind fun (x0, x1, x2) => s_tablefinderref01_gcd_k3 rec_ x0 x1 x2
  ) else (
    some (a, k)
  )

def s_tablefinderref01_gcd_l2 : Nat → (List Int) → (List Int) → Int → Option ((List Int) × Int)
  | 0, _, _, _ => none
  | n_ + 1, a, b, k => s_tablefinderref01_gcd_l2_b (s_tablefinderref01_gcd_l2 n_) a b k

def s_tablefinderref01_gcd_k2 (a : (List Int)) (b : (List Int)) (k : Int) : Option (List Int) :=
  (s_tablefinderref01_gcd_l2 big a b k).bind fun (x0, x1) => s_tablefinderref01_gcd_k6 x0 x1

def s_tablefinderref01_gcd_j1 (rec_ : (List Int) → (List Int) → Int → Option ((List Int) × (List Int) × Int)) (a : (List Int)) (b : (List Int)) (k : Int) (t17 : Bool) : Option ((List Int) × (List Int) × Int) :=
  bif t17 then (
    (s_tablefinderref01_half a).bind fun a_1 =>
    (s_tablefinderref01_half b).bind fun b_1 =>
    chk (inK .i64 (k + 1)) <|
    rec_ a_1 b_1 (k + 1)
  ) else (
    some (a, b, k)
  )

def s_tablefinderref01_gcd_l1_b (rec_ : (List Int) → (List Int) → Int → Option ((List Int) × (List Int) × Int)) (a : (List Int)) (b : (List Int)) (k : Int) : Option ((List Int) × (List Int) × Int) :=
  (idx a 0).bind fun a_e =>
  bif ((andK .u32 a_e 1) == 0) then (
    (idx b 0).bind fun b_e =>
    s_tablefinderref01_gcd_j1 rec_ a b k ((andK .u32 b_e 1) == 0)
  ) else (
    s_tablefinderref01_gcd_j1 rec_ a b k false
  )

def s_tablefinderref01_gcd_l1 : Nat → (List Int) → (List Int) → Int → Option ((List Int) × (List Int) × Int)
  | 0, _, _, _ => none
  | n_ + 1, a, b, k => s_tablefinderref01_gcd_l1_b (s_tablefinderref01_gcd_l1 n_) a b k

def s_tablefinderref01_gcd (a : (List Int)) (b : (List Int)) : Option (List Int) :=
  (s_tablefinderref01_gcd_l1 big a b (0 : Int)).bind fun (x0, x1, x2) => s_tablefinderref01_gcd_k2 x0 x1 x2

/-! ### tablefinder/tablefinderref01.bit -/

def s_tablefinderref01_bit (a : (List Int)) (i : Int) : Option Int :=
  chk (decide ((32 : Int) ≠ 0)) <|
  chk (inK .i64 (Int.tdiv i 32)) <|
  (idx a (Int.tdiv i 32)).bind fun a_e =>
  chk (decide ((32 : Int) ≠ 0)) <|
  chk (decide (0 ≤ (IntKind.wrap .u64 (Int.tmod i 32)))) <|
  some (andK .u32 (shrK .u32 a_e (IntKind.wrap .u64 (Int.tmod i 32))) 1)

/-! ### tablefinder/tablefinderref01.div -/

def s_tablefinderref01_div_k2 (r_ : (List Int)) (q : (List Int)) : Option ((List Int) × (List Int)) :=
  (s_tablefinderref01_trim q).bind fun q_1 =>
  some (q_1, r_)

def s_tablefinderref01_div_j1 (rec_ : (List Int) → (List Int) → (List Int) → Int → (List Int) → Option ((List Int) × (List Int))) (a : (List Int)) (b : (List Int)) (r_ : (List Int)) (i : Int) (q : (List Int)) : Option ((List Int) × (List Int)) :=
  chk (inK .i64 (i - 1)) <|
  rec_ a b r_ (i - 1) q

def s_tablefinderref01_div_l1_b (rec_ : (List Int) → (List Int) → (List Int) → Int → (List Int) → Option ((List Int) × (List Int))) (a : (List Int)) (b : (List Int)) (r_ : (List Int)) (i : Int) (q : (List Int)) : Option ((List Int) × (List Int)) :=
  bif (decide (i ≥ 0)) then (
    (s_tablefinderref01_bit a i).bind fun q_1 =>
    (s_tablefinderref01_twice r_ q_1).bind fun r__1 =>
    (s_tablefinderref01_cmp r__1 b).bind fun q_2 =>
    bif (decide (q_2 ≥ 0)) then (
      (s_tablefinderref01_sub r__1 b).bind fun r__2 =>
      chk (decide ((32 : Int) ≠ 0)) <|
      chk (inK .i64 (Int.tdiv i 32)) <|
      chk (inR (Int.tdiv i 32) (q.length : Int)) <|
      (q[((Int.tdiv i 32)).toNat]?).bind fun q_e =>
      chk (decide ((32 : Int) ≠ 0)) <|
      chk (decide (0 ≤ (IntKind.wrap .u64 (Int.tmod i 32)))) <|
      chk (inR (Int.tdiv i 32) (q.length : Int)) <|
      s_tablefinderref01_div_j1 rec_ a b r__2 i (q.set (((Int.tdiv i 32)).toNat) (orK .u32 q_e (shlK .u32 1 (IntKind.wrap .u64 (Int.tmod i 32)))))
    ) else (
      s_tablefinderref01_div_j1 rec_ a b r__1 i q
    )
  ) else (
    some (r_, q)
  )

def s_tablefinderref01_div_l1 : Nat → (List Int) → (List Int) → (List Int) → Int → (List Int) → Option ((List Int) × (List Int))
  | 0, _, _, _, _, _ => none
  | n_ + 1, a, b, r_, i, q => s_tablefinderref01_div_l1_b (s_tablefinderref01_div_l1 n_) a b r_ i q

def s_tablefinderref01_div_l1_F (n : Nat) (s : ((List Int) × (List Int) × (List Int) × Int × (List Int))) : Option ((List Int) × (List Int)) := s_tablefinderref01_div_l1 n s.1 s.2.1 s.2.2.1 s.2.2.2.1 s.2.2.2.2
def s_tablefinderref01_div_l1_B (rec_ : ((List Int) × (List Int) × (List Int) × Int × (List Int)) → Option ((List Int) × (List Int))) (s : ((List Int) × (List Int) × (List Int) × Int × (List Int))) : Option ((List Int) × (List Int)) := s_tablefinderref01_div_l1_b (fun a b r_ i q => rec_ (a, b, r_, i, q)) s.1 s.2.1 s.2.2.1 s.2.2.2.1 s.2.2.2.2
theorem s_tablefinderref01_div_l1_FB : ∀ n s, s_tablefinderref01_div_l1_F (n + 1) s = s_tablefinderref01_div_l1_B (s_tablefinderref01_div_l1_F n) s := fun _ _ => rfl

def s_tablefinderref01_div (a : (List Int)) (b : (List Int)) : Option ((List Int) × (List Int)) :=
  chk (mkOk (a.length : Int) (a.length : Int) 4) <|
  chk (inK .i64 (32 * (a.length : Int))) <|
  chk (inK .i64 ((32 * (a.length : Int)) - 1)) <|
  (s_tablefinderref01_div_l1 big a b ([] : (List Int)) ((32 * (a.length : Int)) - 1) (List.replicate ((a.length : Int)).toNat (0 : Int))).bind fun (x0, x1) => s_tablefinderref01_div_k2 x0 x1

/-! ### tablefinder/tablefinderref01.lowest -/

def s_tablefinderref01_lowest (num : G_api_Big) (den : G_api_Big) : Option G_api_Fraction :=
  bif ((num.Words.length : Int) == 0) then (
    (s_tablefinderref01_FromInt 1).bind fun q =>
    some (G_api_Fraction.mk (G_api_Big.mk false ([] : (List Int))) q)
  ) else (
    (s_tablefinderref01_gcd num.Words den.Words).bind fun g =>
    (s_tablefinderref01_div num.Words g).bind fun (x_, q_1) =>
    (s_tablefinderref01_div den.Words g).bind fun (y, q_2) =>
    (s_tablefinderref01_big (!(num.Neg == den.Neg)) x_).bind fun q_3 =>
    (s_tablefinderref01_big false y).bind fun q_4 =>
    some (G_api_Fraction.mk q_3 q_4)
  )

/-! ### tablefinder/tablefinderref01.Make -/

def s_tablefinderref01_Make_j1 (t13 : Bool) (num : G_api_Big) (den : G_api_Big) (t4 : Bool) (t4_1 : Bool) (t4_2 : (List Int)) (t4_3 : (List Int)) : Option (G_api_Fraction × Int) :=
  bif t13 then (
    some ((G_api_Fraction.mk (G_api_Big.mk false ([] : (List Int))) (G_api_Big.mk false ([] : (List Int)))), 1)
  ) else (
    bif ((den.Words.length : Int) == 0) then (
      some ((G_api_Fraction.mk (G_api_Big.mk false ([] : (List Int))) (G_api_Big.mk false ([] : (List Int)))), 8)
    ) else (
      (s_tablefinderref01_lowest num den).bind fun q =>
      some (q, 0)
    )
  )

def s_tablefinderref01_Make (num : G_api_Big) (den : G_api_Big) : Option (G_api_Fraction × Int) :=
  (s_tablefinderref01_ValidBig num).bind fun q =>
  bif (!q) then (
    s_tablefinderref01_Make_j1 true num den false false ([] : (List Int)) ([] : (List Int))
  ) else (
    (s_tablefinderref01_ValidBig den).bind fun q_1 =>
    s_tablefinderref01_Make_j1 (!q_1) num den false false ([] : (List Int)) ([] : (List Int))
  )

/-! ### tablefinder/tablefinderref01.Of -/

def s_tablefinderref01_Of (num : Int) (den : Int) : Option (G_api_Fraction × Int) :=
  (s_tablefinderref01_FromInt num).bind fun q =>
  (s_tablefinderref01_FromInt den).bind fun q_1 =>
  (s_tablefinderref01_Make q q_1).bind fun (q_2, q_3) =>
  some (q_2, q_3)

/-! ### tablefinder/tablefinderref23.Part -/

def s_tablefinderref23_Part (n : Int) (d : Int) : Option G_api_Fraction :=
  (s_tablefinderref01_Of n d).bind fun (f, q) =>
  some f

/-! ### tablefinder/tablefinderref23.Int -/

def s_tablefinderref23_Int (n : Int) : Option G_api_Fraction :=
  (s_tablefinderref23_Part n 1).bind fun q =>
  some q

/-! ### tablefinder/tablefinderlaw25.line -/

def s_tablefinderlaw25_line  : Option (List G_arr2_G_api_Fraction) :=
  (s_tablefinderref23_Int 1).bind fun q =>
  (s_tablefinderref23_Int 2).bind fun q_1 =>
  (s_tablefinderref23_Int 2).bind fun q_2 =>
  (s_tablefinderref23_Int 4).bind fun q_3 =>
  (s_tablefinderref23_Int 3).bind fun q_4 =>
  (s_tablefinderref23_Int 6).bind fun q_5 =>
  some ([(G_arr2_G_api_Fraction.mk q q_1), (G_arr2_G_api_Fraction.mk q_2 q_3), (G_arr2_G_api_Fraction.mk q_4 q_5)] : (List G_arr2_G_api_Fraction))

/-! ### tablefinder/fraction.trimmed -/

def s_fraction_trimmed_k2 (w_ : (List Int)) : Option (List Int) :=
  some w_

def s_fraction_trimmed_j1 (rec_ : (List Int) → Option (List Int)) (w_ : (List Int)) (t14 : Bool) : Option (List Int) :=
  bif t14 then (
    chk (inK .i64 ((w_.length : Int) - 1)) <|
    chk (within 0 ((w_.length : Int) - 1) (w_.length : Int)) <|
    rec_ (w_.take (((w_.length : Int) - 1)).toNat)
  ) else (
    some w_
  )

def s_fraction_trimmed_l1_b (rec_ : (List Int) → Option (List Int)) (w_ : (List Int)) : Option (List Int) :=
  bif (decide ((w_.length : Int) > 0)) then (
    chk (inK .i64 ((w_.length : Int) - 1)) <|
    (idx w_ ((w_.length : Int) - 1)).bind fun w__e =>
    s_fraction_trimmed_j1 rec_ w_ (w__e == 0)
  ) else (
    s_fraction_trimmed_j1 rec_ w_ false
  )

def s_fraction_trimmed_l1 : Nat → (List Int) → Option (List Int)
  | 0, _ => none
  | n_ + 1, w_ => s_fraction_trimmed_l1_b (s_fraction_trimmed_l1 n_) w_

def s_fraction_trimmed_l1_F (n : Nat) (s : (List Int)) : Option (List Int) := s_fraction_trimmed_l1 n s
def s_fraction_trimmed_l1_B (rec_ : (List Int) → Option (List Int)) (s : (List Int)) : Option (List Int) := s_fraction_trimmed_l1_b (fun w_ => rec_ w_) s
theorem s_fraction_trimmed_l1_FB : ∀ n s, s_fraction_trimmed_l1_F (n + 1) s = s_fraction_trimmed_l1_B (s_fraction_trimmed_l1_F n) s := fun _ _ => rfl

def s_fraction_trimmed (w_ : (List Int)) : Option (List Int) :=
  (s_fraction_trimmed_l1 big w_).bind fun x0 => s_fraction_trimmed_k2 x0

/-! ### tablefinder/fraction.natural -/

def s_fraction_natural (n : Int) : Option (List Int) :=
  chk (decide (0 ≤ (32 : Int))) <|
  (s_fraction_trimmed ([(IntKind.wrap .u32 n), (IntKind.wrap .u32 (shrK .u64 n 32))] : (List Int))).bind fun q =>
  some q

/-! ### tablefinder/fraction.signed -/

def s_fraction_signed_j1 (t4 : Bool) (t4_1 : (List Int)) : Option G_api_Big :=
  some (G_api_Big.mk t4 t4_1)

def s_fraction_signed (neg : Bool) (w_ : (List Int)) : Option G_api_Big :=
  bif neg then (
    chk (room w_.length 4) <|
    s_fraction_signed_j1 (decide ((w_.length : Int) > 0)) w_
  ) else (
    chk (room w_.length 4) <|
    s_fraction_signed_j1 false w_
  )

/-! ### tablefinder/fraction.FromInt -/

def s_fraction_FromInt (n : Int) : Option G_api_Big :=
  bif (decide (n < 0)) then (
    (s_fraction_natural (IntKind.wrap .u64 (0 - (IntKind.wrap .u64 n)))).bind fun q =>
    (s_fraction_signed true q).bind fun q_1 =>
    some q_1
  ) else (
    (s_fraction_natural (IntKind.wrap .u64 n)).bind fun q_2 =>
    (s_fraction_signed false q_2).bind fun q_3 =>
    some q_3
  )

/-! ### tablefinder/fraction.ValidBig -/

def s_fraction_ValidBig_j1 (t2 : Bool) : Option Bool :=
  some t2

def s_fraction_ValidBig (a : G_api_Big) : Option Bool :=
  bif (decide ((a.Words.length : Int) ≤ 256)) then (
    bif ((a.Words.length : Int) == 0) then (
      bif (!a.Neg) then (
        s_fraction_ValidBig_j1 true
      ) else (
        bif (decide ((a.Words.length : Int) > 0)) then (
          chk (inK .i64 ((a.Words.length : Int) - 1)) <|
          (idx a.Words ((a.Words.length : Int) - 1)).bind fun Word =>
          s_fraction_ValidBig_j1 (Word != 0)
        ) else (
          s_fraction_ValidBig_j1 false
        )
      )
    ) else (
      bif (decide ((a.Words.length : Int) > 0)) then (
        chk (inK .i64 ((a.Words.length : Int) - 1)) <|
        (idx a.Words ((a.Words.length : Int) - 1)).bind fun Word_1 =>
        s_fraction_ValidBig_j1 (Word_1 != 0)
      ) else (
        s_fraction_ValidBig_j1 false
      )
    )
  ) else (
    s_fraction_ValidBig_j1 false
  )

/-! ### tablefinder/fraction.bigs -/

def s_fraction_bigs_k1  : Option Bool :=
  some true

def s_fraction_bigs_l1_b (rec_ : (List G_api_Big) → Int → Int → Option (Out Unit Bool)) (t5 : (List G_api_Big)) (t6 : Int) (t7 : Int) : Option (Out Unit Bool) :=
  bif (decide (t7 < t6)) then (
    (idx t5 t7).bind fun a =>
    (s_fraction_ValidBig a).bind fun q =>
    bif (!q) then (
      some (.ret false)
    ) else (
      chk (inK .i64 (t7 + 1)) <|
      rec_ t5 t6 (t7 + 1)
    )
  ) else (
    some (.brk ())
  )

def s_fraction_bigs_l1 : Nat → (List G_api_Big) → Int → Int → Option (Out Unit Bool)
  | 0, _, _, _ => none
  | n_ + 1, t5, t6, t7 => s_fraction_bigs_l1_b (s_fraction_bigs_l1 n_) t5 t6 t7

def s_fraction_bigs_l1_F (n : Nat) (s : ((List G_api_Big) × Int × Int)) : Option (Out Unit Bool) := s_fraction_bigs_l1 n s.1 s.2.1 s.2.2
def s_fraction_bigs_l1_B (rec_ : ((List G_api_Big) × Int × Int) → Option (Out Unit Bool)) (s : ((List G_api_Big) × Int × Int)) : Option (Out Unit Bool) := s_fraction_bigs_l1_b (fun t5 t6 t7 => rec_ (t5, t6, t7)) s.1 s.2.1 s.2.2
theorem s_fraction_bigs_l1_FB : ∀ n s, s_fraction_bigs_l1_F (n + 1) s = s_fraction_bigs_l1_B (s_fraction_bigs_l1_F n) s := fun _ _ => rfl

def s_fraction_bigs (l : (List G_api_Big)) : Option Bool :=
  (s_fraction_bigs_l1 big l (l.length : Int) (0 : Int)).bind fun
    | .ret q_ => some q_
    | .brk () => s_fraction_bigs_k1

/-! ### cmp.isNaN[int] -/

def s_cmp_isNaN_int (x_ : Int) : Option Bool :=
  some (x_ != x_)

/-! ### cmp.Compare[int] -/

def s_cmp_Compare_int (x_ : Int) (y : Int) : Option Int :=
  (s_cmp_isNaN_int x_).bind fun xNaN =>
  (s_cmp_isNaN_int y).bind fun yNaN =>
  bif xNaN then (
    bif yNaN then (
      some (0 : Int)
    ) else (
      some (-1 : Int)
    )
  ) else (
    bif yNaN then (
      some (1 : Int)
    ) else (
      bif (decide (x_ < y)) then (
        some (-1 : Int)
      ) else (
        bif (decide (x_ > y)) then (
          some (1 : Int)
        ) else (
          some (0 : Int)
        )
      )
    )
  )

/-! ### cmp.isNaN[uint32] -/

def s_cmp_isNaN_uint32 (x_ : Int) : Option Bool :=
  some (x_ != x_)

/-! ### cmp.Compare[uint32] -/

def s_cmp_Compare_uint32 (x_ : Int) (y : Int) : Option Int :=
  (s_cmp_isNaN_uint32 x_).bind fun xNaN =>
  (s_cmp_isNaN_uint32 y).bind fun yNaN =>
  bif xNaN then (
    bif yNaN then (
      some (0 : Int)
    ) else (
      some (-1 : Int)
    )
  ) else (
    bif yNaN then (
      some (1 : Int)
    ) else (
      bif (decide (x_ < y)) then (
        some (-1 : Int)
      ) else (
        bif (decide (x_ > y)) then (
          some (1 : Int)
        ) else (
          some (0 : Int)
        )
      )
    )
  )

/-! ### (tablefinder/fraction.words).compare -/

def s_fraction_words_compare_k1  : Option Int :=
  some (0 : Int)

def s_fraction_words_compare_l1_b (rec_ : (List Int) → (List Int) → Int → Option (Out Unit Int)) (w_ : (List Int)) (v_ : (List Int)) (i : Int) : Option (Out Unit Int) :=
  bif (decide (i ≥ 0)) then (
    (idx w_ i).bind fun w__e =>
    (idx v_ i).bind fun v__e =>
    (s_cmp_Compare_uint32 w__e v__e).bind fun c =>
    bif (c != 0) then (
      some (.ret c)
    ) else (
      chk (inK .i64 (i - 1)) <|
      rec_ w_ v_ (i - 1)
    )
  ) else (
    some (.brk ())
  )

def s_fraction_words_compare_l1 : Nat → (List Int) → (List Int) → Int → Option (Out Unit Int)
  | 0, _, _, _ => none
  | n_ + 1, w_, v_, i => s_fraction_words_compare_l1_b (s_fraction_words_compare_l1 n_) w_ v_ i

def s_fraction_words_compare_l1_F (n : Nat) (s : ((List Int) × (List Int) × Int)) : Option (Out Unit Int) := s_fraction_words_compare_l1 n s.1 s.2.1 s.2.2
def s_fraction_words_compare_l1_B (rec_ : ((List Int) × (List Int) × Int) → Option (Out Unit Int)) (s : ((List Int) × (List Int) × Int)) : Option (Out Unit Int) := s_fraction_words_compare_l1_b (fun w_ v_ i => rec_ (w_, v_, i)) s.1 s.2.1 s.2.2
theorem s_fraction_words_compare_l1_FB : ∀ n s, s_fraction_words_compare_l1_F (n + 1) s = s_fraction_words_compare_l1_B (s_fraction_words_compare_l1_F n) s := fun _ _ => rfl

def s_fraction_words_compare (w_ : (List Int)) (v_ : (List Int)) : Option Int :=
  (s_cmp_Compare_int (w_.length : Int) (v_.length : Int)).bind fun c =>
  bif (c != 0) then (
    some c
  ) else (
    chk (inK .i64 ((w_.length : Int) - 1)) <|
    (s_fraction_words_compare_l1 big w_ v_ ((w_.length : Int) - 1)).bind fun
      | .ret q_ => some q_
      | .brk () => s_fraction_words_compare_k1
  )

/-! ### slices.Clone[tablefinder/fraction.words,uint32] -/

def s_slices_Clone_fraction_words_uint32_j1 (s : (List Int)) (t4 : Bool) : Option (List Int) :=
  bif t4 then (
    some ([] : (List Int))
  ) else (
    chk (room (([] : (List Int)).length + s.length) 4) <|
    some (([] : (List Int)) ++ s)
  )

def s_slices_Clone_fraction_words_uint32 (s : (List Int)) : Option (List Int) :=
  bif (List.isEmpty s) then agree (
    s_slices_Clone_fraction_words_uint32_j1 s true
  ) (
    s_slices_Clone_fraction_words_uint32_j1 s false
  ) else (
    s_slices_Clone_fraction_words_uint32_j1 s false
  )

/-! ### math/bits.Div32 -/

def s_math_bits_Div32_j1 (hi : Int) (lo : Int) (y : Int) (t15 : Bool) : Option (Int × Int) :=
  bif t15 then (
    none
  ) else (
    chk (decide (0 ≤ (32 : Int))) <|
    chk (decide ((IntKind.wrap .u64 y) ≠ 0)) <|
    chk (decide ((IntKind.wrap .u64 y) ≠ 0)) <|
    some ((IntKind.wrap .u32 (IntKind.wrap .u64 (Int.tdiv (orK .u64 (shlK .u64 (IntKind.wrap .u64 hi) 32) (IntKind.wrap .u64 lo)) (IntKind.wrap .u64 y)))), (IntKind.wrap .u32 (Int.tmod (orK .u64 (shlK .u64 (IntKind.wrap .u64 hi) 32) (IntKind.wrap .u64 lo)) (IntKind.wrap .u64 y))))
  )

def s_math_bits_Div32 (hi : Int) (lo : Int) (y : Int) : Option (Int × Int) :=
  bif (y != 0) then (
    s_math_bits_Div32_j1 hi lo y (decide (y ≤ hi))
  ) else (
    s_math_bits_Div32_j1 hi lo y false
  )

/-! ### (tablefinder/fraction.words).short -/

def s_fraction_words_short_k1 (rest : Int) (out : (List Int)) : Option ((List Int) × Int) :=
  (s_fraction_trimmed out).bind fun q =>
  some (q, rest)

def s_fraction_words_short_l1_b (rec_ : (List Int) → Int → Int → Int → (List Int) → Option (Int × (List Int))) (w_ : (List Int)) (d : Int) (rest : Int) (i : Int) (out : (List Int)) : Option (Int × (List Int)) :=
  bif (decide (i ≥ 0)) then (
    (idx w_ i).bind fun w__e =>
    (s_math_bits_Div32 rest w__e d).bind fun (q, rest_1) =>
    chk (inR i (out.length : Int)) <|
    chk (inK .i64 (i - 1)) <|
    rec_ w_ d rest_1 (i - 1) (out.set ((i).toNat) q)
  ) else (
    some (rest, out)
  )

def s_fraction_words_short_l1 : Nat → (List Int) → Int → Int → Int → (List Int) → Option (Int × (List Int))
  | 0, _, _, _, _, _ => none
  | n_ + 1, w_, d, rest, i, out => s_fraction_words_short_l1_b (s_fraction_words_short_l1 n_) w_ d rest i out

def s_fraction_words_short_l1_F (n : Nat) (s : ((List Int) × Int × Int × Int × (List Int))) : Option (Int × (List Int)) := s_fraction_words_short_l1 n s.1 s.2.1 s.2.2.1 s.2.2.2.1 s.2.2.2.2
def s_fraction_words_short_l1_B (rec_ : ((List Int) × Int × Int × Int × (List Int)) → Option (Int × (List Int))) (s : ((List Int) × Int × Int × Int × (List Int))) : Option (Int × (List Int)) := s_fraction_words_short_l1_b (fun w_ d rest i out => rec_ (w_, d, rest, i, out)) s.1 s.2.1 s.2.2.1 s.2.2.2.1 s.2.2.2.2
theorem s_fraction_words_short_l1_FB : ∀ n s, s_fraction_words_short_l1_F (n + 1) s = s_fraction_words_short_l1_B (s_fraction_words_short_l1_F n) s := fun _ _ => rfl

def s_fraction_words_short (w_ : (List Int)) (d : Int) : Option ((List Int) × Int) :=
  chk (mkOk (w_.length : Int) (w_.length : Int) 4) <|
  chk (inK .i64 ((w_.length : Int) - 1)) <|
  (s_fraction_words_short_l1 big w_ d (0 : Int) ((w_.length : Int) - 1) (List.replicate ((w_.length : Int)).toNat (0 : Int))).bind fun (x0, x1) => s_fraction_words_short_k1 x0 x1

/-! ### math/bits.Len32 -/

def s_math_bits_Len32_j2 (x_ : Int) (n : Int) : Option Int :=
  (idx ([0, 1, 2, 2, 3, 3, 3, 3, 4, 4, 4, 4, 4, 4, 4, 4, 5, 5, 5, 5, 5, 5, 5, 5, 5, 5, 5, 5, 5, 5, 5, 5, 6, 6, 6, 6, 6, 6, 6, 6, 6, 6, 6, 6, 6, 6, 6, 6, 6, 6, 6, 6, 6, 6, 6, 6, 6, 6, 6, 6, 6, 6, 6, 6, 7, 7, 7, 7, 7, 7, 7, 7, 7, 7, 7, 7, 7, 7, 7, 7, 7, 7, 7, 7, 7, 7, 7, 7, 7, 7, 7, 7, 7, 7, 7, 7, 7, 7, 7, 7, 7, 7, 7, 7, 7, 7, 7, 7, 7, 7, 7, 7, 7, 7, 7, 7, 7, 7, 7, 7, 7, 7, 7, 7, 7, 7, 7, 7, 8, 8, 8, 8, 8, 8, 8, 8, 8, 8, 8, 8, 8, 8, 8, 8, 8, 8, 8, 8, 8, 8, 8, 8, 8, 8, 8, 8, 8, 8, 8, 8, 8, 8, 8, 8, 8, 8, 8, 8, 8, 8, 8, 8, 8, 8, 8, 8, 8, 8, 8, 8, 8, 8, 8, 8, 8, 8, 8, 8, 8, 8, 8, 8, 8, 8, 8, 8, 8, 8, 8, 8, 8, 8, 8, 8, 8, 8, 8, 8, 8, 8, 8, 8, 8, 8, 8, 8, 8, 8, 8, 8, 8, 8, 8, 8, 8, 8, 8, 8, 8, 8, 8, 8, 8, 8, 8, 8, 8, 8, 8, 8, 8, 8, 8, 8, 8, 8, 8, 8, 8, 8, 8, 8, 8, 8, 8, 8] : Str) (IntKind.wrap .u8 x_)).bind fun c =>
  chk (inK .i64 (n + (IntKind.wrap .i64 ((c.toNat : Nat) : Int)))) <|
  some (n + (IntKind.wrap .i64 ((c.toNat : Nat) : Int)))

def s_math_bits_Len32_j1 (x_ : Int) (n : Int) : Option Int :=
  bif (decide (x_ ≥ 256)) then (
    chk (decide (0 ≤ (8 : Int))) <|
    chk (inK .i64 (n + 8)) <|
    s_math_bits_Len32_j2 (shrK .u32 x_ 8) (n + 8)
  ) else (
    s_math_bits_Len32_j2 x_ n
  )

def s_math_bits_Len32 (x_ : Int) : Option Int :=
  bif (decide (x_ ≥ 65536)) then (
    chk (decide (0 ≤ (16 : Int))) <|
    s_math_bits_Len32_j1 (shrK .u32 x_ 16) (16 : Int)
  ) else (
    s_math_bits_Len32_j1 x_ (0 : Int)
  )

/-! ### math/bits.LeadingZeros32 -/

def s_math_bits_LeadingZeros32 (x_ : Int) : Option Int :=
  (s_math_bits_Len32 x_).bind fun q =>
  chk (inK .i64 (32 - q)) <|
  some (32 - q)

/-! ### (tablefinder/fraction.words).shifted -/

def s_fraction_words_shifted_k1 (out : (List Int)) : Option (List Int) :=
  some out

def s_fraction_words_shifted_l1_b (rec_ : Int → (List Int) → Int → Int → (List Int) → Option (List Int)) (n : Int) (t13 : (List Int)) (t14 : Int) (i : Int) (out : (List Int)) : Option (List Int) :=
  bif (decide (i < t14)) then (
    (idx t13 i).bind fun d =>
    chk (decide (0 ≤ n)) <|
    chk (inR i (out.length : Int)) <|
    (out[(i).toNat]?).bind fun out_e =>
    chk (inR i (out.length : Int)) <|
    chk (inK .i64 (i + 1)) <|
    chk (decide (0 ≤ (32 : Int))) <|
    chk (inR (i + 1) ((out.set ((i).toNat) (orK .u32 out_e (IntKind.wrap .u32 (shlK .u64 (IntKind.wrap .u64 d) n)))).length : Int)) <|
    chk (inK .i64 (i + 1)) <|
    rec_ n t13 t14 (i + 1) ((out.set ((i).toNat) (orK .u32 out_e (IntKind.wrap .u32 (shlK .u64 (IntKind.wrap .u64 d) n)))).set (((i + 1)).toNat) (IntKind.wrap .u32 (shrK .u64 (shlK .u64 (IntKind.wrap .u64 d) n) 32)))
  ) else (
    some out
  )

def s_fraction_words_shifted_l1 : Nat → Int → (List Int) → Int → Int → (List Int) → Option (List Int)
  | 0, _, _, _, _, _ => none
  | n_ + 1, n, t13, t14, i, out => s_fraction_words_shifted_l1_b (s_fraction_words_shifted_l1 n_) n t13 t14 i out

def s_fraction_words_shifted_l1_F (n : Nat) (s : (Int × (List Int) × Int × Int × (List Int))) : Option (List Int) := s_fraction_words_shifted_l1 n s.1 s.2.1 s.2.2.1 s.2.2.2.1 s.2.2.2.2
def s_fraction_words_shifted_l1_B (rec_ : (Int × (List Int) × Int × Int × (List Int)) → Option (List Int)) (s : (Int × (List Int) × Int × Int × (List Int))) : Option (List Int) := s_fraction_words_shifted_l1_b (fun n t13 t14 i out => rec_ (n, t13, t14, i, out)) s.1 s.2.1 s.2.2.1 s.2.2.2.1 s.2.2.2.2
theorem s_fraction_words_shifted_l1_FB : ∀ n s, s_fraction_words_shifted_l1_F (n + 1) s = s_fraction_words_shifted_l1_B (s_fraction_words_shifted_l1_F n) s := fun _ _ => rfl

def s_fraction_words_shifted (w_ : (List Int)) (n : Int) : Option (List Int) :=
  chk (inK .i64 ((w_.length : Int) + 1)) <|
  chk (mkOk ((w_.length : Int) + 1) ((w_.length : Int) + 1) 4) <|
  (s_fraction_words_shifted_l1 big n w_ (w_.length : Int) (0 : Int) (List.replicate (((w_.length : Int) + 1)).toNat (0 : Int))).bind fun x0 => s_fraction_words_shifted_k1 x0

/-! ### math/bits.Sub32 -/

def s_math_bits_Sub32 (x_ : Int) (y : Int) (borrow : Int) : Option (Int × Int) :=
  chk (decide (0 ≤ (31 : Int))) <|
  some ((IntKind.wrap .u32 ((IntKind.wrap .u32 (x_ - y)) - borrow)), (shrK .u32 (orK .u32 (andK .u32 (xorK .u32 (if IntKind.signed .u32 then -1 else IntKind.max .u32) x_) y) (andK .u32 (xorK .u32 (if IntKind.signed .u32 then -1 else IntKind.max .u32) (xorK .u32 x_ y)) (IntKind.wrap .u32 ((IntKind.wrap .u32 (x_ - y)) - borrow)))) 31))

/-! ### math/bits.Add32 -/

def s_math_bits_Add32 (x_ : Int) (y : Int) (carry : Int) : Option (Int × Int) :=
  chk (decide (0 ≤ (32 : Int))) <|
  some ((IntKind.wrap .u32 (IntKind.wrap .u64 ((IntKind.wrap .u64 ((IntKind.wrap .u64 x_) + (IntKind.wrap .u64 y))) + (IntKind.wrap .u64 carry)))), (IntKind.wrap .u32 (shrK .u64 (IntKind.wrap .u64 ((IntKind.wrap .u64 ((IntKind.wrap .u64 x_) + (IntKind.wrap .u64 y))) + (IntKind.wrap .u64 carry))) 32)))

/-! ### tablefinder/fraction.digit -/

def s_fraction_digit_k4 (u_off : Nat) (u_len : Nat) (n : Int) (guess : Int) (add : Int) (u : (List Int)) : Option (Int × (List Int)) :=
  chk (inR n (u_len : Int)) <|
  (u[(u_off + (n).toNat)]?).bind fun u_e =>
  chk (inR n (u_len : Int)) <|
  some ((IntKind.wrap .u32 (IntKind.wrap .u64 (guess - 1))), (u.set (u_off + (n).toNat) (IntKind.wrap .u32 (u_e + add))))

def s_fraction_digit_l3_b (rec_ : Nat → Nat → Int → Int → Int → (List Int) → Int → Int → (List Int) → Option (Nat × Nat × Int × Int × Int × (List Int))) (u_off : Nat) (u_len : Nat) (n : Int) (guess : Int) (add : Int) (t130 : (List Int)) (t131 : Int) (i : Int) (u : (List Int)) : Option (Nat × Nat × Int × Int × Int × (List Int)) :=
  bif (decide (i < t131)) then (
    (idx t130 i).bind fun x_ =>
    chk (inR i (u_len : Int)) <|
    (u[(u_off + (i).toNat)]?).bind fun u_e =>
    (s_math_bits_Add32 u_e x_ add).bind fun (q, add_1) =>
    chk (inR i (u_len : Int)) <|
    chk (inK .i64 (i + 1)) <|
    rec_ u_off u_len n guess add_1 t130 t131 (i + 1) (u.set (u_off + (i).toNat) q)
  ) else (
    some (u_off, u_len, n, guess, add, u)
  )

def s_fraction_digit_l3 : Nat → Nat → Nat → Int → Int → Int → (List Int) → Int → Int → (List Int) → Option (Nat × Nat × Int × Int × Int × (List Int))
  | 0, _, _, _, _, _, _, _, _, _ => none
  | n_ + 1, u_off, u_len, n, guess, add, t130, t131, i, u => s_fraction_digit_l3_b (s_fraction_digit_l3 n_) u_off u_len n guess add t130 t131 i u

def s_fraction_digit_l3_F (n : Nat) (s : (Nat × Nat × Int × Int × Int × (List Int) × Int × Int × (List Int))) : Option (Nat × Nat × Int × Int × Int × (List Int)) := s_fraction_digit_l3 n s.1 s.2.1 s.2.2.1 s.2.2.2.1 s.2.2.2.2.1 s.2.2.2.2.2.1 s.2.2.2.2.2.2.1 s.2.2.2.2.2.2.2.1 s.2.2.2.2.2.2.2.2
def s_fraction_digit_l3_B (rec_ : (Nat × Nat × Int × Int × Int × (List Int) × Int × Int × (List Int)) → Option (Nat × Nat × Int × Int × Int × (List Int))) (s : (Nat × Nat × Int × Int × Int × (List Int) × Int × Int × (List Int))) : Option (Nat × Nat × Int × Int × Int × (List Int)) := s_fraction_digit_l3_b (fun u_off u_len n guess add t130 t131 i u => rec_ (u_off, u_len, n, guess, add, t130, t131, i, u)) s.1 s.2.1 s.2.2.1 s.2.2.2.1 s.2.2.2.2.1 s.2.2.2.2.2.1 s.2.2.2.2.2.2.1 s.2.2.2.2.2.2.2.1 s.2.2.2.2.2.2.2.2
theorem s_fraction_digit_l3_FB : ∀ n s, s_fraction_digit_l3_F (n + 1) s = s_fraction_digit_l3_B (s_fraction_digit_l3_F n) s := fun _ _ => rfl

def s_fraction_digit_k3 (u_off : Nat) (u_len : Nat) (d : (List Int)) (n : Int) (guess : Int) (borrow : Int) (carry : Int) (u : (List Int)) : Option (Int × (List Int)) :=
  chk (inR n (u_len : Int)) <|
  (u[(u_off + (n).toNat)]?).bind fun u_e =>
  (s_math_bits_Sub32 u_e (IntKind.wrap .u32 carry) borrow).bind fun (q, borrow_1) =>
  chk (inR n (u_len : Int)) <|
  bif (borrow_1 == 0) then (
    some ((IntKind.wrap .u32 guess), (u.set (u_off + (n).toNat) q))
  ) else (
    (s_fraction_digit_l3 big u_off u_len n guess (0 : Int) d (d.length : Int) (0 : Int) (u.set (u_off + (n).toNat) q)).bind fun (x0, x1, x2, x3, x4, x5) => s_fraction_digit_k4 x0 x1 x2 x3 x4 x5
  )

def s_fraction_digit_l2_b (rec_ : Nat → Nat → (List Int) → Int → Int → Int → Int → (List Int) → Int → Int → (List Int) → Option (Nat × Nat × (List Int) × Int × Int × Int × Int × (List Int))) (u_off : Nat) (u_len : Nat) (d : (List Int)) (n : Int) (guess : Int) (borrow : Int) (carry : Int) (t82 : (List Int)) (t83 : Int) (i : Int) (u : (List Int)) : Option (Nat × Nat × (List Int) × Int × Int × Int × Int × (List Int)) :=
  bif (decide (i < t83)) then (
    (idx t82 i).bind fun x_ =>
    chk (inR i (u_len : Int)) <|
    (u[(u_off + (i).toNat)]?).bind fun u_e =>
    (s_math_bits_Sub32 u_e (IntKind.wrap .u32 (IntKind.wrap .u64 (carry + (IntKind.wrap .u64 (guess * (IntKind.wrap .u64 x_)))))) borrow).bind fun (q, borrow_1) =>
    chk (inR i (u_len : Int)) <|
    chk (decide (0 ≤ (32 : Int))) <|
    chk (inK .i64 (i + 1)) <|
    rec_ u_off u_len d n guess borrow_1 (shrK .u64 (IntKind.wrap .u64 (carry + (IntKind.wrap .u64 (guess * (IntKind.wrap .u64 x_))))) 32) t82 t83 (i + 1) (u.set (u_off + (i).toNat) q)
  ) else (
    some (u_off, u_len, d, n, guess, borrow, carry, u)
  )

def s_fraction_digit_l2 : Nat → Nat → Nat → (List Int) → Int → Int → Int → Int → (List Int) → Int → Int → (List Int) → Option (Nat × Nat × (List Int) × Int × Int × Int × Int × (List Int))
  | 0, _, _, _, _, _, _, _, _, _, _, _ => none
  | n_ + 1, u_off, u_len, d, n, guess, borrow, carry, t82, t83, i, u => s_fraction_digit_l2_b (s_fraction_digit_l2 n_) u_off u_len d n guess borrow carry t82 t83 i u

def s_fraction_digit_l2_F (n : Nat) (s : (Nat × Nat × (List Int) × Int × Int × Int × Int × (List Int) × Int × Int × (List Int))) : Option (Nat × Nat × (List Int) × Int × Int × Int × Int × (List Int)) := s_fraction_digit_l2 n s.1 s.2.1 s.2.2.1 s.2.2.2.1 s.2.2.2.2.1 s.2.2.2.2.2.1 s.2.2.2.2.2.2.1 s.2.2.2.2.2.2.2.1 s.2.2.2.2.2.2.2.2.1 s.2.2.2.2.2.2.2.2.2.1 s.2.2.2.2.2.2.2.2.2.2
def s_fraction_digit_l2_B (rec_ : (Nat × Nat × (List Int) × Int × Int × Int × Int × (List Int) × Int × Int × (List Int)) → Option (Nat × Nat × (List Int) × Int × Int × Int × Int × (List Int))) (s : (Nat × Nat × (List Int) × Int × Int × Int × Int × (List Int) × Int × Int × (List Int))) : Option (Nat × Nat × (List Int) × Int × Int × Int × Int × (List Int)) := s_fraction_digit_l2_b (fun u_off u_len d n guess borrow carry t82 t83 i u => rec_ (u_off, u_len, d, n, guess, borrow, carry, t82, t83, i, u)) s.1 s.2.1 s.2.2.1 s.2.2.2.1 s.2.2.2.2.1 s.2.2.2.2.2.1 s.2.2.2.2.2.2.1 s.2.2.2.2.2.2.2.1 s.2.2.2.2.2.2.2.2.1 s.2.2.2.2.2.2.2.2.2.1 s.2.2.2.2.2.2.2.2.2.2
theorem s_fraction_digit_l2_FB : ∀ n s, s_fraction_digit_l2_F (n + 1) s = s_fraction_digit_l2_B (s_fraction_digit_l2_F n) s := fun _ _ => rfl

def s_fraction_digit_k2 (u_off : Nat) (u_len : Nat) (d : (List Int)) (n : Int) (guess : Int) (u : (List Int)) : Option (Int × (List Int)) :=
  (s_fraction_digit_l2 big u_off u_len d n guess (0 : Int) (0 : Int) d (d.length : Int) (0 : Int) u).bind fun (x0, x1, x2, x3, x4, x5, x6, x7) => s_fraction_digit_k3 x0 x1 x2 x3 x4 x5 x6 x7

def s_fraction_digit_j1 (rec_ : Nat → Nat → (List Int) → Int → Int → Int → (List Int) → Option (Nat × Nat × (List Int) × Int × Int × (List Int))) (u_off : Nat) (u_len : Nat) (d : (List Int)) (n : Int) (guess : Int) (rest : Int) (t71 : Bool) (u : (List Int)) : Option (Nat × Nat × (List Int) × Int × Int × (List Int)) :=
  bif t71 then (
    chk (inK .i64 (n - 1)) <|
    (idx d (n - 1)).bind fun d_e =>
    rec_ u_off u_len d n (IntKind.wrap .u64 (guess - 1)) (IntKind.wrap .u64 (rest + (IntKind.wrap .u64 d_e))) u
  ) else (
    some (u_off, u_len, d, n, guess, u)
  )

def s_fraction_digit_l1_b (rec_ : Nat → Nat → (List Int) → Int → Int → Int → (List Int) → Option (Nat × Nat × (List Int) × Int × Int × (List Int))) (u_off : Nat) (u_len : Nat) (d : (List Int)) (n : Int) (guess : Int) (rest : Int) (u : (List Int)) : Option (Nat × Nat × (List Int) × Int × Int × (List Int)) :=
  bif (decide (rest < 4294967296)) then (
    chk (inK .i64 (n - 2)) <|
    (idx d (n - 2)).bind fun d_e =>
    chk (decide (0 ≤ (32 : Int))) <|
    chk (inK .i64 (n - 2)) <|
    chk (inR (n - 2) (u_len : Int)) <|
    (u[(u_off + ((n - 2)).toNat)]?).bind fun u_e =>
    s_fraction_digit_j1 rec_ u_off u_len d n guess rest (decide ((IntKind.wrap .u64 (guess * (IntKind.wrap .u64 d_e))) > (orK .u64 (shlK .u64 rest 32) (IntKind.wrap .u64 u_e)))) u
  ) else (
    s_fraction_digit_j1 rec_ u_off u_len d n guess rest false u
  )

def s_fraction_digit_l1 : Nat → Nat → Nat → (List Int) → Int → Int → Int → (List Int) → Option (Nat × Nat × (List Int) × Int × Int × (List Int))
  | 0, _, _, _, _, _, _, _ => none
  | n_ + 1, u_off, u_len, d, n, guess, rest, u => s_fraction_digit_l1_b (s_fraction_digit_l1 n_) u_off u_len d n guess rest u

def s_fraction_digit_l1_F (n : Nat) (s : (Nat × Nat × (List Int) × Int × Int × Int × (List Int))) : Option (Nat × Nat × (List Int) × Int × Int × (List Int)) := s_fraction_digit_l1 n s.1 s.2.1 s.2.2.1 s.2.2.2.1 s.2.2.2.2.1 s.2.2.2.2.2.1 s.2.2.2.2.2.2
def s_fraction_digit_l1_B (rec_ : (Nat × Nat × (List Int) × Int × Int × Int × (List Int)) → Option (Nat × Nat × (List Int) × Int × Int × (List Int))) (s : (Nat × Nat × (List Int) × Int × Int × Int × (List Int))) : Option (Nat × Nat × (List Int) × Int × Int × (List Int)) := s_fraction_digit_l1_b (fun u_off u_len d n guess rest u => rec_ (u_off, u_len, d, n, guess, rest, u)) s.1 s.2.1 s.2.2.1 s.2.2.2.1 s.2.2.2.2.1 s.2.2.2.2.2.1 s.2.2.2.2.2.2
theorem s_fraction_digit_l1_FB : ∀ n s, s_fraction_digit_l1_F (n + 1) s = s_fraction_digit_l1_B (s_fraction_digit_l1_F n) s := fun _ _ => rfl

def s_fraction_digit (u : (List Int)) (u_off : Nat) (u_len : Nat) (d : (List Int)) : Option (Int × (List Int)) :=
  chk (inR (d.length : Int) (u_len : Int)) <|
  (u[(u_off + ((d.length : Int)).toNat)]?).bind fun u_e =>
  chk (decide (0 ≤ (32 : Int))) <|
  chk (inK .i64 ((d.length : Int) - 1)) <|
  chk (inR ((d.length : Int) - 1) (u_len : Int)) <|
  (u[(u_off + (((d.length : Int) - 1)).toNat)]?).bind fun u_e_1 =>
  chk (inK .i64 ((d.length : Int) - 1)) <|
  (idx d ((d.length : Int) - 1)).bind fun d_e =>
  chk (decide ((IntKind.wrap .u64 d_e) ≠ 0)) <|
  chk (inK .i64 ((d.length : Int) - 1)) <|
  (idx d ((d.length : Int) - 1)).bind fun d_e_1 =>
  (s_fraction_digit_l1 big u_off u_len d (d.length : Int) (if (4294967295 : Int) < (IntKind.wrap .u64 (Int.tdiv (orK .u64 (shlK .u64 (IntKind.wrap .u64 u_e) 32) (IntKind.wrap .u64 u_e_1)) (IntKind.wrap .u64 d_e))) then (4294967295 : Int) else (IntKind.wrap .u64 (Int.tdiv (orK .u64 (shlK .u64 (IntKind.wrap .u64 u_e) 32) (IntKind.wrap .u64 u_e_1)) (IntKind.wrap .u64 d_e)))) (IntKind.wrap .u64 ((orK .u64 (shlK .u64 (IntKind.wrap .u64 u_e) 32) (IntKind.wrap .u64 u_e_1)) - (IntKind.wrap .u64 ((if (4294967295 : Int) < (IntKind.wrap .u64 (Int.tdiv (orK .u64 (shlK .u64 (IntKind.wrap .u64 u_e) 32) (IntKind.wrap .u64 u_e_1)) (IntKind.wrap .u64 d_e))) then (4294967295 : Int) else (IntKind.wrap .u64 (Int.tdiv (orK .u64 (shlK .u64 (IntKind.wrap .u64 u_e) 32) (IntKind.wrap .u64 u_e_1)) (IntKind.wrap .u64 d_e)))) * (IntKind.wrap .u64 d_e_1))))) u).bind fun (x0, x1, x2, x3, x4, x5) => s_fraction_digit_k2 x0 x1 x2 x3 x4 x5

def s_fraction_digit_w (u : (List Int)) (u_off : Nat) (u_len : Nat) (d : (List Int)) : Option (Int × (List Int)) :=
  (s_fraction_digit u u_off u_len d).bind fun r => chk (decide (r.2.length = u.length) && true) (some r)

/-! ### tablefinder/fraction.trimmed -/

def s_fraction_trimmed_2_k2 (w_off : Nat) (w_len : Nat) (w_ : (List Int)) : Option (Nat × Nat × (List Int)) :=
  some (w_off, w_len, w_)

def s_fraction_trimmed_2_j1 (rec_ : Nat → Nat → (List Int) → Option (Nat × Nat × (List Int))) (w_off : Nat) (w_len : Nat) (t14 : Bool) (w_ : (List Int)) : Option (Nat × Nat × (List Int)) :=
  bif t14 then (
    chk (inK .i64 (((w_len : Nat) : Int) - 1)) <|
    chk (within 0 (((w_len : Nat) : Int) - 1) (w_len : Int)) <|
    rec_ (w_off + 0) (((((w_len : Nat) : Int) - 1)).toNat - 0) w_
  ) else (
    some (w_off, w_len, w_)
  )

def s_fraction_trimmed_2_l1_b (rec_ : Nat → Nat → (List Int) → Option (Nat × Nat × (List Int))) (w_off : Nat) (w_len : Nat) (w_ : (List Int)) : Option (Nat × Nat × (List Int)) :=
  bif (decide (((w_len : Nat) : Int) > 0)) then (
    chk (inK .i64 (((w_len : Nat) : Int) - 1)) <|
    chk (inR (((w_len : Nat) : Int) - 1) (w_len : Int)) <|
    (w_[(w_off + ((((w_len : Nat) : Int) - 1)).toNat)]?).bind fun w__e =>
    s_fraction_trimmed_2_j1 rec_ w_off w_len (w__e == 0) w_
  ) else (
    s_fraction_trimmed_2_j1 rec_ w_off w_len false w_
  )

def s_fraction_trimmed_2_l1 : Nat → Nat → Nat → (List Int) → Option (Nat × Nat × (List Int))
  | 0, _, _, _ => none
  | n_ + 1, w_off, w_len, w_ => s_fraction_trimmed_2_l1_b (s_fraction_trimmed_2_l1 n_) w_off w_len w_

def s_fraction_trimmed_2_l1_F (n : Nat) (s : (Nat × Nat × (List Int))) : Option (Nat × Nat × (List Int)) := s_fraction_trimmed_2_l1 n s.1 s.2.1 s.2.2
def s_fraction_trimmed_2_l1_B (rec_ : (Nat × Nat × (List Int)) → Option (Nat × Nat × (List Int))) (s : (Nat × Nat × (List Int))) : Option (Nat × Nat × (List Int)) := s_fraction_trimmed_2_l1_b (fun w_off w_len w_ => rec_ (w_off, w_len, w_)) s.1 s.2.1 s.2.2
theorem s_fraction_trimmed_2_l1_FB : ∀ n s, s_fraction_trimmed_2_l1_F (n + 1) s = s_fraction_trimmed_2_l1_B (s_fraction_trimmed_2_l1_F n) s := fun _ _ => rfl

def s_fraction_trimmed_2 (w_ : (List Int)) (w_off : Nat) (w_len : Nat) : Option (Nat × Nat × (List Int)) :=
  (s_fraction_trimmed_2_l1 big w_off w_len w_).bind fun (x0, x1, x2) => s_fraction_trimmed_2_k2 x0 x1 x2

def s_fraction_trimmed_2_w (w_ : (List Int)) (w_off : Nat) (w_len : Nat) : Option (Nat × Nat × (List Int)) :=
  (s_fraction_trimmed_2 w_ w_off w_len).bind fun r => chk (decide (r.2.2.length = w_.length) && true) (some r)

/-! ### (tablefinder/fraction.words).at -/

def s_fraction_words_at (w_ : (List Int)) (i : Int) : Option Int :=
  bif (decide (i < (w_.length : Int))) then (
    (idx w_ i).bind fun w__e =>
    some w__e
  ) else (
    some (0 : Int)
  )

/-! ### (tablefinder/fraction.words).at -/

def s_fraction_words_at_2 (w_ : (List Int)) (w_off : Nat) (w_len : Nat) (i : Int) : Option (Int × (List Int)) :=
  bif (decide (i < ((w_len : Nat) : Int))) then (
    chk (inR i (w_len : Int)) <|
    (w_[(w_off + (i).toNat)]?).bind fun w__e =>
    some (w__e, w_)
  ) else (
    some (0, w_)
  )

def s_fraction_words_at_2_w (w_ : (List Int)) (w_off : Nat) (w_len : Nat) (i : Int) : Option (Int × (List Int)) :=
  (s_fraction_words_at_2 w_ w_off w_len i).bind fun r => chk (decide (r.2.length = w_.length) && true) (some r)

/-! ### (tablefinder/fraction.words).over -/

def s_fraction_words_over_k2 (rest_off : Nat) (rest_len : Nat) (q : (List Int)) (rest : (List Int)) : Option ((List Int) × (List Int)) :=
  (s_fraction_trimmed q).bind fun q_1 =>
  (s_fraction_trimmed ((rest.drop rest_off).take rest_len)).bind fun q_2 =>
  some (q_1, q_2)

def s_fraction_words_over_l2_b (rec_ : Int → Nat → Nat → Int → Int → (List Int) → (List Int) → Option (Nat × Nat × (List Int) × (List Int))) (shift : Int) (rest_off : Nat) (rest_len : Nat) (t86 : Int) (i : Int) (q : (List Int)) (rest : (List Int)) : Option (Nat × Nat × (List Int) × (List Int)) :=
  bif (decide (i < t86)) then (
    chk (inK .i64 (i + 1)) <|
    (s_fraction_words_at_2_w rest rest_off rest_len (i + 1)).bind fun (q_1, t90) =>
    chk (decide (0 ≤ (32 : Int))) <|
    chk (inR i (rest_len : Int)) <|
    (t90[(rest_off + (i).toNat)]?).bind fun t90_e =>
    chk (decide (0 ≤ shift)) <|
    chk (inR i (rest_len : Int)) <|
    chk (inK .i64 (i + 1)) <|
    rec_ shift rest_off rest_len t86 (i + 1) q (t90.set (rest_off + (i).toNat) (IntKind.wrap .u32 (shrK .u64 (orK .u64 (shlK .u64 (IntKind.wrap .u64 q_1) 32) (IntKind.wrap .u64 t90_e)) shift)))
  ) else (
    some (rest_off, rest_len, q, rest)
  )

def s_fraction_words_over_l2 : Nat → Int → Nat → Nat → Int → Int → (List Int) → (List Int) → Option (Nat × Nat × (List Int) × (List Int))
  | 0, _, _, _, _, _, _, _ => none
  | n_ + 1, shift, rest_off, rest_len, t86, i, q, rest => s_fraction_words_over_l2_b (s_fraction_words_over_l2 n_) shift rest_off rest_len t86 i q rest

def s_fraction_words_over_l2_F (n : Nat) (s : (Int × Nat × Nat × Int × Int × (List Int) × (List Int))) : Option (Nat × Nat × (List Int) × (List Int)) := s_fraction_words_over_l2 n s.1 s.2.1 s.2.2.1 s.2.2.2.1 s.2.2.2.2.1 s.2.2.2.2.2.1 s.2.2.2.2.2.2
def s_fraction_words_over_l2_B (rec_ : (Int × Nat × Nat × Int × Int × (List Int) × (List Int)) → Option (Nat × Nat × (List Int) × (List Int))) (s : (Int × Nat × Nat × Int × Int × (List Int) × (List Int))) : Option (Nat × Nat × (List Int) × (List Int)) := s_fraction_words_over_l2_b (fun shift rest_off rest_len t86 i q rest => rec_ (shift, rest_off, rest_len, t86, i, q, rest)) s.1 s.2.1 s.2.2.1 s.2.2.2.1 s.2.2.2.2.1 s.2.2.2.2.2.1 s.2.2.2.2.2.2
theorem s_fraction_words_over_l2_FB : ∀ n s, s_fraction_words_over_l2_F (n + 1) s = s_fraction_words_over_l2_B (s_fraction_words_over_l2_F n) s := fun _ _ => rfl

def s_fraction_words_over_k1 (n : Int) (shift : Int) (u : (List Int)) (q : (List Int)) : Option ((List Int) × (List Int)) :=
  chk (within 0 n (u.length : Int)) <|
  (s_fraction_trimmed_2_w u 0 ((n).toNat - 0)).bind fun (rest_off, rest_len, t83) =>
  (s_fraction_words_over_l2 big shift rest_off rest_len ((rest_len : Nat) : Int) (0 : Int) q t83).bind fun (x0, x1, x2, x3) => s_fraction_words_over_k2 x0 x1 x2 x3

def s_fraction_words_over_l1_b (rec_ : Int → Int → (List Int) → Int → (List Int) → (List Int) → Option (Int × Int × (List Int) × (List Int))) (n : Int) (shift : Int) (d : (List Int)) (j : Int) (u : (List Int)) (q : (List Int)) : Option (Int × Int × (List Int) × (List Int)) :=
  bif (decide (j ≥ 0)) then (
    chk (inK .i64 (j + n)) <|
    chk (inK .i64 ((j + n) + 1)) <|
    chk (within j ((j + n) + 1) (u.length : Int)) <|
    (s_fraction_digit_w u ((j).toNat) ((((j + n) + 1)).toNat - (j).toNat) d).bind fun (q_1, t77) =>
    chk (inR j (q.length : Int)) <|
    chk (inK .i64 (j - 1)) <|
    rec_ n shift d (j - 1) t77 (q.set ((j).toNat) q_1)
  ) else (
    some (n, shift, u, q)
  )

def s_fraction_words_over_l1 : Nat → Int → Int → (List Int) → Int → (List Int) → (List Int) → Option (Int × Int × (List Int) × (List Int))
  | 0, _, _, _, _, _, _ => none
  | n_ + 1, n, shift, d, j, u, q => s_fraction_words_over_l1_b (s_fraction_words_over_l1 n_) n shift d j u q

def s_fraction_words_over_l1_F (n : Nat) (s : (Int × Int × (List Int) × Int × (List Int) × (List Int))) : Option (Int × Int × (List Int) × (List Int)) := s_fraction_words_over_l1 n s.1 s.2.1 s.2.2.1 s.2.2.2.1 s.2.2.2.2.1 s.2.2.2.2.2
def s_fraction_words_over_l1_B (rec_ : (Int × Int × (List Int) × Int × (List Int) × (List Int)) → Option (Int × Int × (List Int) × (List Int))) (s : (Int × Int × (List Int) × Int × (List Int) × (List Int))) : Option (Int × Int × (List Int) × (List Int)) := s_fraction_words_over_l1_b (fun n shift d j u q => rec_ (n, shift, d, j, u, q)) s.1 s.2.1 s.2.2.1 s.2.2.2.1 s.2.2.2.2.1 s.2.2.2.2.2
theorem s_fraction_words_over_l1_FB : ∀ n s, s_fraction_words_over_l1_F (n + 1) s = s_fraction_words_over_l1_B (s_fraction_words_over_l1_F n) s := fun _ _ => rfl

def s_fraction_words_over (w_ : (List Int)) (v_ : (List Int)) : Option ((List Int) × (List Int)) :=
  (s_fraction_words_compare w_ v_).bind fun q =>
  bif (decide (q < 0)) then (
    (s_slices_Clone_fraction_words_uint32 w_).bind fun q_1 =>
    some (([] : (List Int)), q_1)
  ) else (
    bif ((v_.length : Int) == 1) then (
      (idx v_ 0).bind fun v__e =>
      (s_fraction_words_short w_ v__e).bind fun (q_2, r_) =>
      (s_fraction_trimmed ([r_] : (List Int))).bind fun q_3 =>
      some (q_2, q_3)
    ) else (
      chk (inK .i64 ((v_.length : Int) - 1)) <|
      (idx v_ ((v_.length : Int) - 1)).bind fun v__e_1 =>
      (s_math_bits_LeadingZeros32 v__e_1).bind fun shift =>
      (s_fraction_words_shifted w_ shift).bind fun u =>
      (s_fraction_words_shifted v_ shift).bind fun q_4 =>
      chk (within 0 (v_.length : Int) (q_4.length : Int)) <|
      chk (inK .i64 ((w_.length : Int) - (v_.length : Int))) <|
      chk (inK .i64 (((w_.length : Int) - (v_.length : Int)) + 1)) <|
      chk (mkOk (((w_.length : Int) - (v_.length : Int)) + 1) (((w_.length : Int) - (v_.length : Int)) + 1) 4) <|
      chk (inK .i64 (((List.replicate ((((w_.length : Int) - (v_.length : Int)) + 1)).toNat (0 : Int)).length : Int) - 1)) <|
      (s_fraction_words_over_l1 big (v_.length : Int) shift ((q_4.drop 0).take (((v_.length : Int)).toNat - 0)) (((List.replicate ((((w_.length : Int) - (v_.length : Int)) + 1)).toNat (0 : Int)).length : Int) - 1) u (List.replicate ((((w_.length : Int) - (v_.length : Int)) + 1)).toNat (0 : Int))).bind fun (x0, x1, x2, x3) => s_fraction_words_over_k1 x0 x1 x2 x3
    )
  )

/-! ### (tablefinder/fraction.words).common -/

def s_fraction_words_common_k1 (w_ : (List Int)) : Option (List Int) :=
  some w_

def s_fraction_words_common_l1_b (rec_ : (List Int) → (List Int) → Option (List Int)) (w_ : (List Int)) (v_ : (List Int)) : Option (List Int) :=
  bif (decide ((v_.length : Int) > 0)) then (
    (s_fraction_words_over w_ v_).bind fun (q, r_) =>
    rec_ v_ r_
  ) else (
    some w_
  )

def s_fraction_words_common_l1 : Nat → (List Int) → (List Int) → Option (List Int)
  | 0, _, _ => none
  | n_ + 1, w_, v_ => s_fraction_words_common_l1_b (s_fraction_words_common_l1 n_) w_ v_

def s_fraction_words_common (w_ : (List Int)) (v_ : (List Int)) : Option (List Int) :=
  (s_fraction_words_common_l1 big w_ v_).bind fun x0 => s_fraction_words_common_k1 x0

/-! ### tablefinder/fraction.reduced -/

def s_fraction_reduced (num : G_api_Big) (den : G_api_Big) : Option G_api_Fraction :=
  (s_fraction_words_common num.Words den.Words).bind fun g =>
  (s_fraction_words_over num.Words g).bind fun (x_, q) =>
  (s_fraction_words_over den.Words g).bind fun (y, q_1) =>
  (s_fraction_signed (!(num.Neg == den.Neg)) x_).bind fun q_2 =>
  (s_fraction_signed false y).bind fun q_3 =>
  some (G_api_Fraction.mk q_2 q_3)

/-! ### tablefinder/fraction.Make -/

def s_fraction_Make (num : G_api_Big) (den : G_api_Big) : Option (G_api_Fraction × Int) :=
  (s_fraction_bigs ([num, den] : (List G_api_Big))).bind fun q =>
  bif (!q) then (
    some ((G_api_Fraction.mk (G_api_Big.mk false ([] : (List Int))) (G_api_Big.mk false ([] : (List Int)))), 1)
  ) else (
    bif ((den.Words.length : Int) == 0) then (
      some ((G_api_Fraction.mk (G_api_Big.mk false ([] : (List Int))) (G_api_Big.mk false ([] : (List Int)))), 8)
    ) else (
      (s_fraction_reduced num den).bind fun q_1 =>
      some (q_1, 0)
    )
  )

/-! ### tablefinder/fraction.Of -/

def s_fraction_Of (num : Int) (den : Int) : Option (G_api_Fraction × Int) :=
  (s_fraction_FromInt num).bind fun q =>
  (s_fraction_FromInt den).bind fun q_1 =>
  (s_fraction_Make q q_1).bind fun (q_2, q_3) =>
  some (q_2, q_3)

/-! ### tablefinder/num.Zero -/

def s_num_Zero  : Option G_api_Fraction :=
  (s_fraction_Of 0 1).bind fun (f, q) =>
  some f

/-! ### tablefinder/correlation.none -/

def s_correlation_none  : Option G_api_Moments :=
  (s_num_Zero).bind fun q =>
  (s_num_Zero).bind fun q_1 =>
  (s_num_Zero).bind fun q_2 =>
  (s_num_Zero).bind fun q_3 =>
  (s_num_Zero).bind fun q_4 =>
  some (G_api_Moments.mk 0 q q_1 q_2 q_3 q_4)

/-! ### tablefinder/fraction.Valid -/

def s_fraction_Valid_j1 (t2 : Bool) : Option Bool :=
  some t2

def s_fraction_Valid (f : G_api_Fraction) : Option Bool :=
  (s_fraction_bigs ([f.Num, f.Den] : (List G_api_Big))).bind fun q =>
  bif q then (
    bif (decide ((f.Den.Words.length : Int) > 0)) then (
      bif (!f.Den.Neg) then (
        (s_fraction_words_common f.Num.Words f.Den.Words).bind fun q_1 =>
        (s_fraction_words_compare q_1 ([1] : List Int)).bind fun q_2 =>
        s_fraction_Valid_j1 (q_2 == 0)
      ) else (
        s_fraction_Valid_j1 false
      )
    ) else (
      s_fraction_Valid_j1 false
    )
  ) else (
    s_fraction_Valid_j1 false
  )

/-! ### (tablefinder/fraction.words).times -/

def s_fraction_words_times_k2 (out : (List Int)) : Option (List Int) :=
  (s_fraction_trimmed out).bind fun q =>
  some q

def s_fraction_words_times_k1 (rec_ : (List Int) → (List Int) → Int → Int → (List Int) → Option (List Int)) (v_ : (List Int)) (i : Int) (carry : Int) (t17 : (List Int)) (t18 : Int) (i_1 : Int) (out : (List Int)) : Option (List Int) :=
  chk (inK .i64 (i + (v_.length : Int))) <|
  chk (inR (i + (v_.length : Int)) (out.length : Int)) <|
  chk (inK .i64 (i_1 + 1)) <|
  rec_ v_ t17 t18 (i_1 + 1) (out.set (((i + (v_.length : Int))).toNat) (IntKind.wrap .u32 carry))

def s_fraction_words_times_l2_b (rec_ : (List Int) → Int → Int → Int → (List Int) → Int → Int → (List Int) → Int → Int → (List Int) → Option ((List Int) × Int × Int × (List Int) × Int × Int × (List Int))) (v_ : (List Int)) (i : Int) (x_ : Int) (carry : Int) (t17 : (List Int)) (t18 : Int) (i_1 : Int) (t24 : (List Int)) (t25 : Int) (j : Int) (out : (List Int)) : Option ((List Int) × Int × Int × (List Int) × Int × Int × (List Int)) :=
  bif (decide (j < t25)) then (
    (idx t24 j).bind fun y =>
    chk (inK .i64 (i + j)) <|
    chk (inR (i + j) (out.length : Int)) <|
    (out[((i + j)).toNat]?).bind fun out_e =>
    chk (inK .i64 (i + j)) <|
    chk (inR (i + j) (out.length : Int)) <|
    chk (decide (0 ≤ (32 : Int))) <|
    chk (inK .i64 (j + 1)) <|
    rec_ v_ i x_ (shrK .u64 (IntKind.wrap .u64 (carry + (IntKind.wrap .u64 ((IntKind.wrap .u64 ((IntKind.wrap .u64 x_) * (IntKind.wrap .u64 y))) + (IntKind.wrap .u64 out_e))))) 32) t17 t18 i_1 t24 t25 (j + 1) (out.set (((i + j)).toNat) (IntKind.wrap .u32 (IntKind.wrap .u64 (carry + (IntKind.wrap .u64 ((IntKind.wrap .u64 ((IntKind.wrap .u64 x_) * (IntKind.wrap .u64 y))) + (IntKind.wrap .u64 out_e)))))))
  ) else (
    some (v_, i, carry, t17, t18, i_1, out)
  )

def s_fraction_words_times_l2 : Nat → (List Int) → Int → Int → Int → (List Int) → Int → Int → (List Int) → Int → Int → (List Int) → Option ((List Int) × Int × Int × (List Int) × Int × Int × (List Int))
  | 0, _, _, _, _, _, _, _, _, _, _, _ => none
  | n_ + 1, v_, i, x_, carry, t17, t18, i_1, t24, t25, j, out => s_fraction_words_times_l2_b (s_fraction_words_times_l2 n_) v_ i x_ carry t17 t18 i_1 t24 t25 j out

def s_fraction_words_times_l2_F (n : Nat) (s : ((List Int) × Int × Int × Int × (List Int) × Int × Int × (List Int) × Int × Int × (List Int))) : Option ((List Int) × Int × Int × (List Int) × Int × Int × (List Int)) := s_fraction_words_times_l2 n s.1 s.2.1 s.2.2.1 s.2.2.2.1 s.2.2.2.2.1 s.2.2.2.2.2.1 s.2.2.2.2.2.2.1 s.2.2.2.2.2.2.2.1 s.2.2.2.2.2.2.2.2.1 s.2.2.2.2.2.2.2.2.2.1 s.2.2.2.2.2.2.2.2.2.2
def s_fraction_words_times_l2_B (rec_ : ((List Int) × Int × Int × Int × (List Int) × Int × Int × (List Int) × Int × Int × (List Int)) → Option ((List Int) × Int × Int × (List Int) × Int × Int × (List Int))) (s : ((List Int) × Int × Int × Int × (List Int) × Int × Int × (List Int) × Int × Int × (List Int))) : Option ((List Int) × Int × Int × (List Int) × Int × Int × (List Int)) := s_fraction_words_times_l2_b (fun v_ i x_ carry t17 t18 i_1 t24 t25 j out => rec_ (v_, i, x_, carry, t17, t18, i_1, t24, t25, j, out)) s.1 s.2.1 s.2.2.1 s.2.2.2.1 s.2.2.2.2.1 s.2.2.2.2.2.1 s.2.2.2.2.2.2.1 s.2.2.2.2.2.2.2.1 s.2.2.2.2.2.2.2.2.1 s.2.2.2.2.2.2.2.2.2.1 s.2.2.2.2.2.2.2.2.2.2
theorem s_fraction_words_times_l2_FB : ∀ n s, s_fraction_words_times_l2_F (n + 1) s = s_fraction_words_times_l2_B (s_fraction_words_times_l2_F n) s := fun _ _ => rfl

def s_fraction_words_times_l1_b (rec_ : (List Int) → (List Int) → Int → Int → (List Int) → Option (List Int)) (v_ : (List Int)) (t17 : (List Int)) (t18 : Int) (i : Int) (out : (List Int)) : Option (List Int) :=
  bif (decide (i < t18)) then (
    (idx t17 i).bind fun x_ =>
    (s_fraction_words_times_l2 big v_ i x_ (0 : Int) t17 t18 i v_ (v_.length : Int) (0 : Int) out).bind fun (x0, x1, x2, x3, x4, x5, x6) => s_fraction_words_times_k1 rec_ x0 x1 x2 x3 x4 x5 x6
  ) else (
    some out
  )

def s_fraction_words_times_l1 : Nat → (List Int) → (List Int) → Int → Int → (List Int) → Option (List Int)
  | 0, _, _, _, _, _ => none
  | n_ + 1, v_, t17, t18, i, out => s_fraction_words_times_l1_b (s_fraction_words_times_l1 n_) v_ t17 t18 i out

def s_fraction_words_times_l1_F (n : Nat) (s : ((List Int) × (List Int) × Int × Int × (List Int))) : Option (List Int) := s_fraction_words_times_l1 n s.1 s.2.1 s.2.2.1 s.2.2.2.1 s.2.2.2.2
def s_fraction_words_times_l1_B (rec_ : ((List Int) × (List Int) × Int × Int × (List Int)) → Option (List Int)) (s : ((List Int) × (List Int) × Int × Int × (List Int))) : Option (List Int) := s_fraction_words_times_l1_b (fun v_ t17 t18 i out => rec_ (v_, t17, t18, i, out)) s.1 s.2.1 s.2.2.1 s.2.2.2.1 s.2.2.2.2
theorem s_fraction_words_times_l1_FB : ∀ n s, s_fraction_words_times_l1_F (n + 1) s = s_fraction_words_times_l1_B (s_fraction_words_times_l1_F n) s := fun _ _ => rfl

def s_fraction_words_times (w_ : (List Int)) (v_ : (List Int)) : Option (List Int) :=
  chk (inK .i64 ((w_.length : Int) + (v_.length : Int))) <|
  chk (mkOk ((w_.length : Int) + (v_.length : Int)) ((w_.length : Int) + (v_.length : Int)) 4) <|
  (s_fraction_words_times_l1 big v_ w_ (w_.length : Int) (0 : Int) (List.replicate (((w_.length : Int) + (v_.length : Int))).toNat (0 : Int))).bind fun x0 => s_fraction_words_times_k2 x0

/-! ### tablefinder/fraction.product -/

def s_fraction_product (a : G_api_Big) (b : G_api_Big) : Option G_api_Big :=
  (s_fraction_words_times a.Words b.Words).bind fun q =>
  (s_fraction_signed (!(a.Neg == b.Neg)) q).bind fun q_1 =>
  some q_1

/-! ### (tablefinder/fraction.words).plus -/

def s_fraction_words_plus_k1 (carry : Int) (out : (List Int)) : Option (List Int) :=
  chk (room (out.length + ([carry] : (List Int)).length) 4) <|
  (s_fraction_trimmed (out ++ ([carry] : (List Int)))).bind fun q =>
  some q

def s_fraction_words_plus_l1_b (rec_ : (List Int) → (List Int) → Int → Int → Int → (List Int) → Option (Int × (List Int))) (w_ : (List Int)) (v_ : (List Int)) (carry : Int) (t20 : Int) (i : Int) (out : (List Int)) : Option (Int × (List Int)) :=
  bif (decide (i < t20)) then (
    (s_fraction_words_at w_ i).bind fun q =>
    (s_fraction_words_at v_ i).bind fun q_1 =>
    (s_math_bits_Add32 q q_1 carry).bind fun (d, carry_1) =>
    chk (room (out.length + ([d] : (List Int)).length) 4) <|
    chk (inK .i64 (i + 1)) <|
    rec_ w_ v_ carry_1 t20 (i + 1) (out ++ ([d] : (List Int)))
  ) else (
    some (carry, out)
  )

def s_fraction_words_plus_l1 : Nat → (List Int) → (List Int) → Int → Int → Int → (List Int) → Option (Int × (List Int))
  | 0, _, _, _, _, _, _ => none
  | n_ + 1, w_, v_, carry, t20, i, out => s_fraction_words_plus_l1_b (s_fraction_words_plus_l1 n_) w_ v_ carry t20 i out

def s_fraction_words_plus_l1_F (n : Nat) (s : ((List Int) × (List Int) × Int × Int × Int × (List Int))) : Option (Int × (List Int)) := s_fraction_words_plus_l1 n s.1 s.2.1 s.2.2.1 s.2.2.2.1 s.2.2.2.2.1 s.2.2.2.2.2
def s_fraction_words_plus_l1_B (rec_ : ((List Int) × (List Int) × Int × Int × Int × (List Int)) → Option (Int × (List Int))) (s : ((List Int) × (List Int) × Int × Int × Int × (List Int))) : Option (Int × (List Int)) := s_fraction_words_plus_l1_b (fun w_ v_ carry t20 i out => rec_ (w_, v_, carry, t20, i, out)) s.1 s.2.1 s.2.2.1 s.2.2.2.1 s.2.2.2.2.1 s.2.2.2.2.2
theorem s_fraction_words_plus_l1_FB : ∀ n s, s_fraction_words_plus_l1_F (n + 1) s = s_fraction_words_plus_l1_B (s_fraction_words_plus_l1_F n) s := fun _ _ => rfl

def s_fraction_words_plus (w_ : (List Int)) (v_ : (List Int)) : Option (List Int) :=
  chk (inK .i64 ((if (v_.length : Int) > (w_.length : Int) then (v_.length : Int) else (w_.length : Int)) + 1)) <|
  chk (mkOk 0 ((if (v_.length : Int) > (w_.length : Int) then (v_.length : Int) else (w_.length : Int)) + 1) 4) <|
  (s_fraction_words_plus_l1 big w_ v_ (0 : Int) (if (v_.length : Int) > (w_.length : Int) then (v_.length : Int) else (w_.length : Int)) (0 : Int) (List.replicate ((0 : Int)).toNat (0 : Int))).bind fun (x0, x1) => s_fraction_words_plus_k1 x0 x1

/-! ### (tablefinder/fraction.words).minus -/

def s_fraction_words_minus_k1 (out : (List Int)) : Option (List Int) :=
  (s_fraction_trimmed out).bind fun q =>
  some q

def s_fraction_words_minus_l1_b (rec_ : (List Int) → (List Int) → Int → Int → Int → (List Int) → Option (List Int)) (w_ : (List Int)) (v_ : (List Int)) (borrow : Int) (t12 : Int) (i : Int) (out : (List Int)) : Option (List Int) :=
  bif (decide (i < t12)) then (
    (idx w_ i).bind fun w__e =>
    (s_fraction_words_at v_ i).bind fun q =>
    (s_math_bits_Sub32 w__e q borrow).bind fun (q_1, borrow_1) =>
    chk (inR i (out.length : Int)) <|
    chk (inK .i64 (i + 1)) <|
    rec_ w_ v_ borrow_1 t12 (i + 1) (out.set ((i).toNat) q_1)
  ) else (
    some out
  )

def s_fraction_words_minus_l1 : Nat → (List Int) → (List Int) → Int → Int → Int → (List Int) → Option (List Int)
  | 0, _, _, _, _, _, _ => none
  | n_ + 1, w_, v_, borrow, t12, i, out => s_fraction_words_minus_l1_b (s_fraction_words_minus_l1 n_) w_ v_ borrow t12 i out

def s_fraction_words_minus_l1_F (n : Nat) (s : ((List Int) × (List Int) × Int × Int × Int × (List Int))) : Option (List Int) := s_fraction_words_minus_l1 n s.1 s.2.1 s.2.2.1 s.2.2.2.1 s.2.2.2.2.1 s.2.2.2.2.2
def s_fraction_words_minus_l1_B (rec_ : ((List Int) × (List Int) × Int × Int × Int × (List Int)) → Option (List Int)) (s : ((List Int) × (List Int) × Int × Int × Int × (List Int))) : Option (List Int) := s_fraction_words_minus_l1_b (fun w_ v_ borrow t12 i out => rec_ (w_, v_, borrow, t12, i, out)) s.1 s.2.1 s.2.2.1 s.2.2.2.1 s.2.2.2.2.1 s.2.2.2.2.2
theorem s_fraction_words_minus_l1_FB : ∀ n s, s_fraction_words_minus_l1_F (n + 1) s = s_fraction_words_minus_l1_B (s_fraction_words_minus_l1_F n) s := fun _ _ => rfl

def s_fraction_words_minus (w_ : (List Int)) (v_ : (List Int)) : Option (List Int) :=
  chk (mkOk (w_.length : Int) (w_.length : Int) 4) <|
  (s_fraction_words_minus_l1 big w_ v_ (0 : Int) (w_.length : Int) (0 : Int) (List.replicate ((w_.length : Int)).toNat (0 : Int))).bind fun x0 => s_fraction_words_minus_k1 x0

/-! ### tablefinder/fraction.sum -/

def s_fraction_sum (a : G_api_Big) (b : G_api_Big) : Option G_api_Big :=
  bif (a.Neg == b.Neg) then (
    (s_fraction_words_plus a.Words b.Words).bind fun q =>
    (s_fraction_signed a.Neg q).bind fun q_1 =>
    some q_1
  ) else (
    (s_fraction_words_compare a.Words b.Words).bind fun q_2 =>
    bif (decide (q_2 ≥ 0)) then (
      (s_fraction_words_minus a.Words b.Words).bind fun q_3 =>
      (s_fraction_signed a.Neg q_3).bind fun q_4 =>
      some q_4
    ) else (
      (s_fraction_words_minus b.Words a.Words).bind fun q_5 =>
      (s_fraction_signed b.Neg q_5).bind fun q_6 =>
      some q_6
    )
  )

/-! ### tablefinder/fraction.plus -/

def s_fraction_plus (a : G_api_Fraction) (b : G_api_Fraction) : Option (G_api_Big × G_api_Big) :=
  (s_fraction_product a.Num b.Den).bind fun q =>
  (s_fraction_product b.Num a.Den).bind fun q_1 =>
  (s_fraction_sum q q_1).bind fun num =>
  (s_fraction_product a.Den b.Den).bind fun den =>
  some (num, den)

/-! ### (tablefinder/fraction.operation).result -/

def s_fraction_operation_result_j1 (t18 : Bool) (a : G_api_Fraction) (b : G_api_Fraction) (t6 : Bool) (t6_1 : Bool) (t6_2 : (List Int)) (t6_3 : (List Int)) : Option (G_api_Fraction × Int) :=
  bif t18 then (
    some ((G_api_Fraction.mk (G_api_Big.mk false ([] : (List Int))) (G_api_Big.mk false ([] : (List Int)))), 1)
  ) else (
    (s_fraction_plus a b).bind fun (num, den) =>
    bif ((den.Words.length : Int) == 0) then (
      some ((G_api_Fraction.mk (G_api_Big.mk false ([] : (List Int))) (G_api_Big.mk false ([] : (List Int)))), 8)
    ) else (
      (s_fraction_reduced num den).bind fun f =>
      bif (decide ((if (f.Den.Words.length : Int) > (f.Num.Words.length : Int) then (f.Den.Words.length : Int) else (f.Num.Words.length : Int)) > 256)) then (
        some ((G_api_Fraction.mk (G_api_Big.mk false ([] : (List Int))) (G_api_Big.mk false ([] : (List Int)))), 3)
      ) else (
        some (f, 0)
      )
    )
  )

def s_fraction_operation_result (a : G_api_Fraction) (b : G_api_Fraction) : Option (G_api_Fraction × Int) :=
  (s_fraction_Valid a).bind fun q =>
  bif (!q) then (
    s_fraction_operation_result_j1 true a b false false ([] : (List Int)) ([] : (List Int))
  ) else (
    (s_fraction_Valid b).bind fun q_1 =>
    s_fraction_operation_result_j1 (!q_1) a b false false ([] : (List Int)) ([] : (List Int))
  )

/-! ### tablefinder/fraction.Add -/

def s_fraction_Add (a : G_api_Fraction) (b : G_api_Fraction) : Option (G_api_Fraction × Int) :=
  (s_fraction_operation_result a b).bind fun (q, q_1) =>
  some (q, q_1)

/-! ### tablefinder/num.first -/

def s_num_first (f : G_api_Fraction) (a1 : Int) : Option G_api_Fraction :=
  some f

/-! ### tablefinder/num.Add -/

def s_num_Add (a : G_api_Fraction) (b : G_api_Fraction) : Option G_api_Fraction :=
  (s_fraction_Add a b).bind fun (q, q_1) =>
  (s_num_first q q_1).bind fun q_2 =>
  some q_2

/-! ### tablefinder/fraction.times -/

def s_fraction_times (a : G_api_Fraction) (b : G_api_Fraction) : Option (G_api_Big × G_api_Big) :=
  (s_fraction_product a.Num b.Num).bind fun num =>
  (s_fraction_product a.Den b.Den).bind fun den =>
  some (num, den)

/-! ### (tablefinder/fraction.operation).result -/

def s_fraction_operation_result_2_j1 (t18 : Bool) (a : G_api_Fraction) (b : G_api_Fraction) (t6 : Bool) (t6_1 : Bool) (t6_2 : (List Int)) (t6_3 : (List Int)) : Option (G_api_Fraction × Int) :=
  bif t18 then (
    some ((G_api_Fraction.mk (G_api_Big.mk false ([] : (List Int))) (G_api_Big.mk false ([] : (List Int)))), 1)
  ) else (
    (s_fraction_times a b).bind fun (num, den) =>
    bif ((den.Words.length : Int) == 0) then (
      some ((G_api_Fraction.mk (G_api_Big.mk false ([] : (List Int))) (G_api_Big.mk false ([] : (List Int)))), 8)
    ) else (
      (s_fraction_reduced num den).bind fun f =>
      bif (decide ((if (f.Den.Words.length : Int) > (f.Num.Words.length : Int) then (f.Den.Words.length : Int) else (f.Num.Words.length : Int)) > 256)) then (
        some ((G_api_Fraction.mk (G_api_Big.mk false ([] : (List Int))) (G_api_Big.mk false ([] : (List Int)))), 3)
      ) else (
        some (f, 0)
      )
    )
  )

def s_fraction_operation_result_2 (a : G_api_Fraction) (b : G_api_Fraction) : Option (G_api_Fraction × Int) :=
  (s_fraction_Valid a).bind fun q =>
  bif (!q) then (
    s_fraction_operation_result_2_j1 true a b false false ([] : (List Int)) ([] : (List Int))
  ) else (
    (s_fraction_Valid b).bind fun q_1 =>
    s_fraction_operation_result_2_j1 (!q_1) a b false false ([] : (List Int)) ([] : (List Int))
  )

/-! ### tablefinder/fraction.Mul -/

def s_fraction_Mul (a : G_api_Fraction) (b : G_api_Fraction) : Option (G_api_Fraction × Int) :=
  (s_fraction_operation_result_2 a b).bind fun (q, q_1) =>
  some (q, q_1)

/-! ### tablefinder/num.Mul -/

def s_num_Mul (a : G_api_Fraction) (b : G_api_Fraction) : Option G_api_Fraction :=
  (s_fraction_Mul a b).bind fun (q, q_1) =>
  (s_num_first q q_1).bind fun q_2 =>
  some q_2

/-! ### tablefinder/correlation.Add -/

def s_correlation_Add (m : G_api_Moments) (x_ : G_api_Fraction) (y : G_api_Fraction) : Option G_api_Moments :=
  chk (inK .i64 (m.N + 1)) <|
  (s_num_Add m.X x_).bind fun q =>
  (s_num_Add m.Y y).bind fun q_1 =>
  (s_num_Mul x_ x_).bind fun q_2 =>
  (s_num_Add m.XX q_2).bind fun q_3 =>
  (s_num_Mul y y).bind fun q_4 =>
  (s_num_Add m.YY q_4).bind fun q_5 =>
  (s_num_Mul x_ y).bind fun q_6 =>
  (s_num_Add m.XY q_6).bind fun q_7 =>
  some (G_api_Moments.mk (m.N + 1) q q_1 q_3 q_5 q_7)

/-! ### tablefinder/correlation.Of -/

def s_correlation_Of_k1 (t2 : Int) (t2_1 : Bool) (t2_2 : Bool) (t2_3 : Bool) (t2_4 : Bool) (t2_5 : Bool) (t2_6 : Bool) (t2_7 : Bool) (t2_8 : Bool) (t2_9 : Bool) (t2_10 : Bool) (m : G_api_Moments) (t2_11 : (List Int)) (t2_12 : (List Int)) (t2_13 : (List Int)) (t2_14 : (List Int)) (t2_15 : (List Int)) (t2_16 : (List Int)) (t2_17 : (List Int)) (t2_18 : (List Int)) (t2_19 : (List Int)) (t2_20 : (List Int)) : Option G_api_Moments :=
  some m

def s_correlation_Of_l1_b (rec_ : (List G_arr2_G_api_Fraction) → Int → Int → Int → Bool → Bool → Bool → Bool → Bool → Bool → Bool → Bool → Bool → Bool → G_api_Moments → (List Int) → (List Int) → (List Int) → (List Int) → (List Int) → (List Int) → (List Int) → (List Int) → (List Int) → (List Int) → Option (Int × Bool × Bool × Bool × Bool × Bool × Bool × Bool × Bool × Bool × Bool × G_api_Moments × (List Int) × (List Int) × (List Int) × (List Int) × (List Int) × (List Int) × (List Int) × (List Int) × (List Int) × (List Int))) (t7 : (List G_arr2_G_api_Fraction)) (t8 : Int) (t9 : Int) (t2 : Int) (t2_1 : Bool) (t2_2 : Bool) (t2_3 : Bool) (t2_4 : Bool) (t2_5 : Bool) (t2_6 : Bool) (t2_7 : Bool) (t2_8 : Bool) (t2_9 : Bool) (t2_10 : Bool) (m : G_api_Moments) (t2_11 : (List Int)) (t2_12 : (List Int)) (t2_13 : (List Int)) (t2_14 : (List Int)) (t2_15 : (List Int)) (t2_16 : (List Int)) (t2_17 : (List Int)) (t2_18 : (List Int)) (t2_19 : (List Int)) (t2_20 : (List Int)) : Option (Int × Bool × Bool × Bool × Bool × Bool × Bool × Bool × Bool × Bool × Bool × G_api_Moments × (List Int) × (List Int) × (List Int) × (List Int) × (List Int) × (List Int) × (List Int) × (List Int) × (List Int) × (List Int)) :=
  bif (decide (t9 < t8)) then (
    (idx t7 t9).bind fun p =>
    chk (inR 0 2) <|
    chk (inR 1 2) <|
    (s_correlation_Add m p.e0 p.e1).bind fun m_1 =>
    chk (inK .i64 (t9 + 1)) <|
    rec_ t7 t8 (t9 + 1) t2 t2_1 t2_2 t2_3 t2_4 t2_5 t2_6 t2_7 t2_8 t2_9 t2_10 m_1 t2_11 t2_12 t2_13 t2_14 t2_15 t2_16 t2_17 t2_18 t2_19 t2_20
  ) else (
    some (t2, t2_1, t2_2, t2_3, t2_4, t2_5, t2_6, t2_7, t2_8, t2_9, t2_10, m, t2_11, t2_12, t2_13, t2_14, t2_15, t2_16, t2_17, t2_18, t2_19, t2_20)
  )

def s_correlation_Of_l1 : Nat → (List G_arr2_G_api_Fraction) → Int → Int → Int → Bool → Bool → Bool → Bool → Bool → Bool → Bool → Bool → Bool → Bool → G_api_Moments → (List Int) → (List Int) → (List Int) → (List Int) → (List Int) → (List Int) → (List Int) → (List Int) → (List Int) → (List Int) → Option (Int × Bool × Bool × Bool × Bool × Bool × Bool × Bool × Bool × Bool × Bool × G_api_Moments × (List Int) × (List Int) × (List Int) × (List Int) × (List Int) × (List Int) × (List Int) × (List Int) × (List Int) × (List Int))
  | 0, _, _, _, _, _, _, _, _, _, _, _, _, _, _, _, _, _, _, _, _, _, _, _, _, _ => none
  | n_ + 1, t7, t8, t9, t2, t2_1, t2_2, t2_3, t2_4, t2_5, t2_6, t2_7, t2_8, t2_9, t2_10, m, t2_11, t2_12, t2_13, t2_14, t2_15, t2_16, t2_17, t2_18, t2_19, t2_20 => s_correlation_Of_l1_b (s_correlation_Of_l1 n_) t7 t8 t9 t2 t2_1 t2_2 t2_3 t2_4 t2_5 t2_6 t2_7 t2_8 t2_9 t2_10 m t2_11 t2_12 t2_13 t2_14 t2_15 t2_16 t2_17 t2_18 t2_19 t2_20

def s_correlation_Of_l1_F (n : Nat) (s : ((List G_arr2_G_api_Fraction) × Int × Int × Int × Bool × Bool × Bool × Bool × Bool × Bool × Bool × Bool × Bool × Bool × G_api_Moments × (List Int) × (List Int) × (List Int) × (List Int) × (List Int) × (List Int) × (List Int) × (List Int) × (List Int) × (List Int))) : Option (Int × Bool × Bool × Bool × Bool × Bool × Bool × Bool × Bool × Bool × Bool × G_api_Moments × (List Int) × (List Int) × (List Int) × (List Int) × (List Int) × (List Int) × (List Int) × (List Int) × (List Int) × (List Int)) := s_correlation_Of_l1 n s.1 s.2.1 s.2.2.1 s.2.2.2.1 s.2.2.2.2.1 s.2.2.2.2.2.1 s.2.2.2.2.2.2.1 s.2.2.2.2.2.2.2.1 s.2.2.2.2.2.2.2.2.1 s.2.2.2.2.2.2.2.2.2.1 s.2.2.2.2.2.2.2.2.2.2.1 s.2.2.2.2.2.2.2.2.2.2.2.1 s.2.2.2.2.2.2.2.2.2.2.2.2.1 s.2.2.2.2.2.2.2.2.2.2.2.2.2.1 s.2.2.2.2.2.2.2.2.2.2.2.2.2.2.1 s.2.2.2.2.2.2.2.2.2.2.2.2.2.2.2.1 s.2.2.2.2.2.2.2.2.2.2.2.2.2.2.2.2.1 s.2.2.2.2.2.2.2.2.2.2.2.2.2.2.2.2.2.1 s.2.2.2.2.2.2.2.2.2.2.2.2.2.2.2.2.2.2.1 s.2.2.2.2.2.2.2.2.2.2.2.2.2.2.2.2.2.2.2.1 s.2.2.2.2.2.2.2.2.2.2.2.2.2.2.2.2.2.2.2.2.1 s.2.2.2.2.2.2.2.2.2.2.2.2.2.2.2.2.2.2.2.2.2.1 s.2.2.2.2.2.2.2.2.2.2.2.2.2.2.2.2.2.2.2.2.2.2.1 s.2.2.2.2.2.2.2.2.2.2.2.2.2.2.2.2.2.2.2.2.2.2.2.1 s.2.2.2.2.2.2.2.2.2.2.2.2.2.2.2.2.2.2.2.2.2.2.2.2
def s_correlation_Of_l1_B (rec_ : ((List G_arr2_G_api_Fraction) × Int × Int × Int × Bool × Bool × Bool × Bool × Bool × Bool × Bool × Bool × Bool × Bool × G_api_Moments × (List Int) × (List Int) × (List Int) × (List Int) × (List Int) × (List Int) × (List Int) × (List Int) × (List Int) × (List Int)) → Option (Int × Bool × Bool × Bool × Bool × Bool × Bool × Bool × Bool × Bool × Bool × G_api_Moments × (List Int) × (List Int) × (List Int) × (List Int) × (List Int) × (List Int) × (List Int) × (List Int) × (List Int) × (List Int))) (s : ((List G_arr2_G_api_Fraction) × Int × Int × Int × Bool × Bool × Bool × Bool × Bool × Bool × Bool × Bool × Bool × Bool × G_api_Moments × (List Int) × (List Int) × (List Int) × (List Int) × (List Int) × (List Int) × (List Int) × (List Int) × (List Int) × (List Int))) : Option (Int × Bool × Bool × Bool × Bool × Bool × Bool × Bool × Bool × Bool × Bool × G_api_Moments × (List Int) × (List Int) × (List Int) × (List Int) × (List Int) × (List Int) × (List Int) × (List Int) × (List Int) × (List Int)) := s_correlation_Of_l1_b (fun t7 t8 t9 t2 t2_1 t2_2 t2_3 t2_4 t2_5 t2_6 t2_7 t2_8 t2_9 t2_10 m t2_11 t2_12 t2_13 t2_14 t2_15 t2_16 t2_17 t2_18 t2_19 t2_20 => rec_ (t7, t8, t9, t2, t2_1, t2_2, t2_3, t2_4, t2_5, t2_6, t2_7, t2_8, t2_9, t2_10, m, t2_11, t2_12, t2_13, t2_14, t2_15, t2_16, t2_17, t2_18, t2_19, t2_20)) s.1 s.2.1 s.2.2.1 s.2.2.2.1 s.2.2.2.2.1 s.2.2.2.2.2.1 s.2.2.2.2.2.2.1 s.2.2.2.2.2.2.2.1 s.2.2.2.2.2.2.2.2.1 s.2.2.2.2.2.2.2.2.2.1 s.2.2.2.2.2.2.2.2.2.2.1 s.2.2.2.2.2.2.2.2.2.2.2.1 s.2.2.2.2.2.2.2.2.2.2.2.2.1 s.2.2.2.2.2.2.2.2.2.2.2.2.2.1 s.2.2.2.2.2.2.2.2.2.2.2.2.2.2.1 s.2.2.2.2.2.2.2.2.2.2.2.2.2.2.2.1 s.2.2.2.2.2.2.2.2.2.2.2.2.2.2.2.2.1 s.2.2.2.2.2.2.2.2.2.2.2.2.2.2.2.2.2.1 s.2.2.2.2.2.2.2.2.2.2.2.2.2.2.2.2.2.2.1 s.2.2.2.2.2.2.2.2.2.2.2.2.2.2.2.2.2.2.2.1 s.2.2.2.2.2.2.2.2.2.2.2.2.2.2.2.2.2.2.2.2.1 s.2.2.2.2.2.2.2.2.2.2.2.2.2.2.2.2.2.2.2.2.2.1 s.2.2.2.2.2.2.2.2.2.2.2.2.2.2.2.2.2.2.2.2.2.2.1 s.2.2.2.2.2.2.2.2.2.2.2.2.2.2.2.2.2.2.2.2.2.2.2.1 s.2.2.2.2.2.2.2.2.2.2.2.2.2.2.2.2.2.2.2.2.2.2.2.2
theorem s_correlation_Of_l1_FB : ∀ n s, s_correlation_Of_l1_F (n + 1) s = s_correlation_Of_l1_B (s_correlation_Of_l1_F n) s := fun _ _ => rfl

def s_correlation_Of (l : (List G_arr2_G_api_Fraction)) : Option G_api_Moments :=
  (s_correlation_none).bind fun m =>
  (s_correlation_Of_l1 big l (l.length : Int) (0 : Int) (0 : Int) false false false false false false false false false false m ([] : (List Int)) ([] : (List Int)) ([] : (List Int)) ([] : (List Int)) ([] : (List Int)) ([] : (List Int)) ([] : (List Int)) ([] : (List Int)) ([] : (List Int)) ([] : (List Int))).bind fun (x0, x1, x2, x3, x4, x5, x6, x7, x8, x9, x10, x11, x12, x13, x14, x15, x16, x17, x18, x19, x20, x21) => s_correlation_Of_k1 x0 x1 x2 x3 x4 x5 x6 x7 x8 x9 x10 x11 x12 x13 x14 x15 x16 x17 x18 x19 x20 x21

/-! ### tablefinder/num.Of -/

def s_num_Of (a : Int) (b : Int) : Option G_api_Fraction :=
  (s_fraction_Of a b).bind fun (f, e) =>
  bif (e != 0) then (
    (s_num_Zero).bind fun q =>
    some q
  ) else (
    some f
  )

/-! ### tablefinder/fraction.opposite -/

def s_fraction_opposite_j1 (t2 : G_api_Big) : Option G_api_Big :=
  some t2

def s_fraction_opposite (a : G_api_Big) : Option G_api_Big :=
  bif (!a.Neg) then (
    s_fraction_opposite_j1 (G_api_Big.mk (decide ((a.Words.length : Int) > 0)) a.Words)
  ) else (
    s_fraction_opposite_j1 (G_api_Big.mk false a.Words)
  )

/-! ### tablefinder/fraction.Sub -/

def s_fraction_Sub (a : G_api_Fraction) (b : G_api_Fraction) : Option (G_api_Fraction × Int) :=
  (s_fraction_Valid b).bind fun q =>
  bif (!q) then (
    some ((G_api_Fraction.mk (G_api_Big.mk false ([] : (List Int))) (G_api_Big.mk false ([] : (List Int)))), 1)
  ) else (
    (s_fraction_opposite b.Num).bind fun q_1 =>
    (s_fraction_operation_result a (G_api_Fraction.mk q_1 b.Den)).bind fun (q_2, q_3) =>
    some (q_2, q_3)
  )

/-! ### tablefinder/num.Sub -/

def s_num_Sub (a : G_api_Fraction) (b : G_api_Fraction) : Option G_api_Fraction :=
  (s_fraction_Sub a b).bind fun (q, q_1) =>
  (s_num_first q q_1).bind fun q_2 =>
  some q_2

/-! ### tablefinder/correlation.part -/

def s_correlation_part (n : Int) (ab : G_api_Fraction) (a : G_api_Fraction) (b : G_api_Fraction) : Option G_api_Fraction :=
  (s_num_Of n 1).bind fun q =>
  (s_num_Mul q ab).bind fun q_1 =>
  (s_num_Mul a b).bind fun q_2 =>
  (s_num_Sub q_1 q_2).bind fun q_3 =>
  some q_3

/-! ### tablefinder/fraction.Cmp -/

def s_fraction_Cmp_j1 (t13 : Bool) (a : G_api_Fraction) (b : G_api_Fraction) : Option Int :=
  bif t13 then (
    some (0 : Int)
  ) else (
    (s_fraction_product a.Num b.Den).bind fun q =>
    (s_fraction_product b.Num a.Den).bind fun q_1 =>
    (s_fraction_opposite q_1).bind fun q_2 =>
    (s_fraction_sum q q_2).bind fun d =>
    bif d.Neg then (
      some (-1 : Int)
    ) else (
      bif (decide ((d.Words.length : Int) > 0)) then (
        some (1 : Int)
      ) else (
        some (0 : Int)
      )
    )
  )

def s_fraction_Cmp (a : G_api_Fraction) (b : G_api_Fraction) : Option Int :=
  (s_fraction_Valid a).bind fun q =>
  bif (!q) then (
    s_fraction_Cmp_j1 true a b
  ) else (
    (s_fraction_Valid b).bind fun q_1 =>
    s_fraction_Cmp_j1 (!q_1) a b
  )

/-! ### tablefinder/num.Sign -/

def s_num_Sign (a : G_api_Fraction) : Option Int :=
  (s_num_Zero).bind fun q =>
  (s_fraction_Cmp a q).bind fun q_1 =>
  some q_1

/-! ### tablefinder/fraction.over -/

def s_fraction_over (a : G_api_Fraction) (b : G_api_Fraction) : Option (G_api_Big × G_api_Big) :=
  (s_fraction_product a.Num b.Den).bind fun num =>
  (s_fraction_product a.Den b.Num).bind fun den =>
  some (num, den)

/-! ### (tablefinder/fraction.operation).result -/

def s_fraction_operation_result_3_j1 (t18 : Bool) (a : G_api_Fraction) (b : G_api_Fraction) (t6 : Bool) (t6_1 : Bool) (t6_2 : (List Int)) (t6_3 : (List Int)) : Option (G_api_Fraction × Int) :=
  bif t18 then (
    some ((G_api_Fraction.mk (G_api_Big.mk false ([] : (List Int))) (G_api_Big.mk false ([] : (List Int)))), 1)
  ) else (
    (s_fraction_over a b).bind fun (num, den) =>
    bif ((den.Words.length : Int) == 0) then (
      some ((G_api_Fraction.mk (G_api_Big.mk false ([] : (List Int))) (G_api_Big.mk false ([] : (List Int)))), 8)
    ) else (
      (s_fraction_reduced num den).bind fun f =>
      bif (decide ((if (f.Den.Words.length : Int) > (f.Num.Words.length : Int) then (f.Den.Words.length : Int) else (f.Num.Words.length : Int)) > 256)) then (
        some ((G_api_Fraction.mk (G_api_Big.mk false ([] : (List Int))) (G_api_Big.mk false ([] : (List Int)))), 3)
      ) else (
        some (f, 0)
      )
    )
  )

def s_fraction_operation_result_3 (a : G_api_Fraction) (b : G_api_Fraction) : Option (G_api_Fraction × Int) :=
  (s_fraction_Valid a).bind fun q =>
  bif (!q) then (
    s_fraction_operation_result_3_j1 true a b false false ([] : (List Int)) ([] : (List Int))
  ) else (
    (s_fraction_Valid b).bind fun q_1 =>
    s_fraction_operation_result_3_j1 (!q_1) a b false false ([] : (List Int)) ([] : (List Int))
  )

/-! ### tablefinder/fraction.Div -/

def s_fraction_Div (a : G_api_Fraction) (b : G_api_Fraction) : Option (G_api_Fraction × Int) :=
  (s_fraction_operation_result_3 a b).bind fun (q, q_1) =>
  some (q, q_1)

/-! ### tablefinder/num.Div -/

def s_num_Div (a : G_api_Fraction) (b : G_api_Fraction) : Option G_api_Fraction :=
  (s_fraction_Div a b).bind fun (q, q_1) =>
  (s_num_first q q_1).bind fun q_2 =>
  some q_2

/-! ### tablefinder/correlation.Square -/

def s_correlation_Square_j1 (t47 : Bool) (t2 : Bool) (t2_1 : Bool) (c : G_api_Fraction) (u : G_api_Fraction) (v_ : G_api_Fraction) (t2_2 : (List Int)) (t2_3 : (List Int)) : Option (G_api_Fraction × Int × Bool) :=
  bif t47 then (
    (s_num_Zero).bind fun q =>
    some (q, 0, false)
  ) else (
    (s_num_Mul c c).bind fun q_1 =>
    (s_num_Mul u v_).bind fun q_2 =>
    (s_num_Div q_1 q_2).bind fun q_3 =>
    (s_num_Sign c).bind fun q_4 =>
    some (q_3, q_4, true)
  )

def s_correlation_Square (m : G_api_Moments) : Option (G_api_Fraction × Int × Bool) :=
  (s_correlation_part m.N m.XY m.X m.Y).bind fun c =>
  (s_correlation_part m.N m.XX m.X m.X).bind fun u =>
  (s_correlation_part m.N m.YY m.Y m.Y).bind fun v_ =>
  bif (decide (m.N < 3)) then (
    s_correlation_Square_j1 true false false c u v_ ([] : (List Int)) ([] : (List Int))
  ) else (
    (s_num_Sign u).bind fun q =>
    bif (q == 0) then (
      s_correlation_Square_j1 true false false c u v_ ([] : (List Int)) ([] : (List Int))
    ) else (
      (s_num_Sign v_).bind fun q_1 =>
      s_correlation_Square_j1 (q_1 == 0) false false c u v_ ([] : (List Int)) ([] : (List Int))
    )
  )

/-! ### tablefinder/tablefinderref23.sameBig -/

def s_tablefinderref23_sameBig_k2  : Option Bool :=
  some true

def s_tablefinderref23_sameBig_l1_b (rec_ : (List Int) → Int → Int → G_api_Big → Option (Out Unit Bool)) (t22 : (List Int)) (t23 : Int) (i : Int) (b : G_api_Big) : Option (Out Unit Bool) :=
  bif (decide (i < t23)) then (
    (idx t22 i).bind fun w_ =>
    (idx b.Words i).bind fun Word =>
    bif (Word != w_) then (
      some (.ret false)
    ) else (
      chk (inK .i64 (i + 1)) <|
      rec_ t22 t23 (i + 1) b
    )
  ) else (
    some (.brk ())
  )

def s_tablefinderref23_sameBig_l1 : Nat → (List Int) → Int → Int → G_api_Big → Option (Out Unit Bool)
  | 0, _, _, _, _ => none
  | n_ + 1, t22, t23, i, b => s_tablefinderref23_sameBig_l1_b (s_tablefinderref23_sameBig_l1 n_) t22 t23 i b

def s_tablefinderref23_sameBig_l1_F (n : Nat) (s : ((List Int) × Int × Int × G_api_Big)) : Option (Out Unit Bool) := s_tablefinderref23_sameBig_l1 n s.1 s.2.1 s.2.2.1 s.2.2.2
def s_tablefinderref23_sameBig_l1_B (rec_ : ((List Int) × Int × Int × G_api_Big) → Option (Out Unit Bool)) (s : ((List Int) × Int × Int × G_api_Big)) : Option (Out Unit Bool) := s_tablefinderref23_sameBig_l1_b (fun t22 t23 i b => rec_ (t22, t23, i, b)) s.1 s.2.1 s.2.2.1 s.2.2.2
theorem s_tablefinderref23_sameBig_l1_FB : ∀ n s, s_tablefinderref23_sameBig_l1_F (n + 1) s = s_tablefinderref23_sameBig_l1_B (s_tablefinderref23_sameBig_l1_F n) s := fun _ _ => rfl

def s_tablefinderref23_sameBig_j1 (t20 : Bool) (a : G_api_Big) (b : G_api_Big) : Option Bool :=
  bif t20 then (
    some false
  ) else (
    (s_tablefinderref23_sameBig_l1 big a.Words (a.Words.length : Int) (0 : Int) b).bind fun
      | .ret q_ => some q_
      | .brk () => s_tablefinderref23_sameBig_k2
  )

def s_tablefinderref23_sameBig (a : G_api_Big) (b : G_api_Big) : Option Bool :=
  bif (!(a.Neg == b.Neg)) then (
    s_tablefinderref23_sameBig_j1 true a b
  ) else (
    s_tablefinderref23_sameBig_j1 ((a.Words.length : Int) != (b.Words.length : Int)) a b
  )

/-! ### tablefinder/tablefinderref23.Same -/

def s_tablefinderref23_Same_j1 (t4 : Bool) : Option Bool :=
  some t4

def s_tablefinderref23_Same (a : G_api_Fraction) (b : G_api_Fraction) : Option Bool :=
  (s_tablefinderref23_sameBig a.Num b.Num).bind fun q =>
  bif q then (
    (s_tablefinderref23_sameBig a.Den b.Den).bind fun q_1 =>
    s_tablefinderref23_Same_j1 q_1
  ) else (
    s_tablefinderref23_Same_j1 false
  )

/-! ### tablefinder/tablefinderlaw25.awake -/

def s_tablefinderlaw25_awake_j1 (t0 : Bool) : Option Bool :=
  some t0

def s_tablefinderlaw25_awake  : Option Bool :=
  (s_tablefinderlaw25_line).bind fun q =>
  (s_correlation_Of q).bind fun q_1 =>
  (s_correlation_Square q_1).bind fun (s, sign, ok) =>
  bif ok then (
    bif (sign == 1) then (
      (s_tablefinderref23_Int 1).bind fun q_2 =>
      (s_tablefinderref23_Same s q_2).bind fun q_3 =>
      s_tablefinderlaw25_awake_j1 q_3
    ) else (
      s_tablefinderlaw25_awake_j1 false
    )
  ) else (
    s_tablefinderlaw25_awake_j1 false
  )

/-! ### tablefinder/tablefinderkit.Mod -/

def s_tablefinderkit_Mod (n : Int) (m : Int) : Option Int :=
  bif (decide (m < 1)) then (
    some (0 : Int)
  ) else (
    chk (decide (m ≠ 0)) <|
    chk (inK .i64 ((Int.tmod n m) + m)) <|
    chk (decide (m ≠ 0)) <|
    some (Int.tmod ((Int.tmod n m) + m) m)
  )

/-! ### tablefinder/tablefinderref01.Valid -/

def s_tablefinderref01_Valid_j1 (t24 : Bool) (f : G_api_Fraction) : Option Bool :=
  bif t24 then (
    some false
  ) else (
    bif ((f.Num.Words.length : Int) == 0) then (
      (s_tablefinderref01_cmp f.Den.Words ([1] : (List Int))).bind fun q =>
      some (q == 0)
    ) else (
      (s_tablefinderref01_gcd f.Num.Words f.Den.Words).bind fun q_1 =>
      (s_tablefinderref01_cmp q_1 ([1] : (List Int))).bind fun q_2 =>
      some (q_2 == 0)
    )
  )

def s_tablefinderref01_Valid (f : G_api_Fraction) : Option Bool :=
  (s_tablefinderref01_ValidBig f.Num).bind fun q =>
  bif (!q) then (
    s_tablefinderref01_Valid_j1 true f
  ) else (
    (s_tablefinderref01_ValidBig f.Den).bind fun q_1 =>
    bif (!q_1) then (
      s_tablefinderref01_Valid_j1 true f
    ) else (
      bif f.Den.Neg then (
        s_tablefinderref01_Valid_j1 true f
      ) else (
        s_tablefinderref01_Valid_j1 ((f.Den.Words.length : Int) == 0) f
      )
    )
  )

/-! ### tablefinder/tablefinderref01.mul -/

def s_tablefinderref01_mul_k2 (out : (List Int)) : Option (List Int) :=
  (s_tablefinderref01_trim out).bind fun q =>
  some q

def s_tablefinderref01_mul_k1 (rec_ : (List Int) → (List Int) → Int → (List Int) → Option (List Int)) (a : (List Int)) (b : (List Int)) (i : Int) (c : Int) (out : (List Int)) : Option (List Int) :=
  chk (inK .i64 (i + (b.length : Int))) <|
  chk (inR (i + (b.length : Int)) (out.length : Int)) <|
  chk (inK .i64 (i + 1)) <|
  rec_ a b (i + 1) (out.set (((i + (b.length : Int))).toNat) (IntKind.wrap .u32 c))

def s_tablefinderref01_mul_l2_b (rec_ : (List Int) → (List Int) → Int → Int → Int → (List Int) → Option ((List Int) × (List Int) × Int × Int × (List Int))) (a : (List Int)) (b : (List Int)) (i : Int) (c : Int) (j : Int) (out : (List Int)) : Option ((List Int) × (List Int) × Int × Int × (List Int)) :=
  bif (decide (j < (b.length : Int))) then (
    (idx a i).bind fun a_e =>
    (idx b j).bind fun b_e =>
    chk (inK .i64 (i + j)) <|
    chk (inR (i + j) (out.length : Int)) <|
    (out[((i + j)).toNat]?).bind fun out_e =>
    chk (inK .i64 (i + j)) <|
    chk (inR (i + j) (out.length : Int)) <|
    chk (decide (0 ≤ (32 : Int))) <|
    chk (inK .i64 (j + 1)) <|
    rec_ a b i (shrK .u64 (IntKind.wrap .u64 (c + (IntKind.wrap .u64 ((IntKind.wrap .u64 ((IntKind.wrap .u64 a_e) * (IntKind.wrap .u64 b_e))) + (IntKind.wrap .u64 out_e))))) 32) (j + 1) (out.set (((i + j)).toNat) (IntKind.wrap .u32 (IntKind.wrap .u64 (c + (IntKind.wrap .u64 ((IntKind.wrap .u64 ((IntKind.wrap .u64 a_e) * (IntKind.wrap .u64 b_e))) + (IntKind.wrap .u64 out_e)))))))
  ) else (
    some (a, b, i, c, out)
  )

def s_tablefinderref01_mul_l2 : Nat → (List Int) → (List Int) → Int → Int → Int → (List Int) → Option ((List Int) × (List Int) × Int × Int × (List Int))
  | 0, _, _, _, _, _, _ => none
  | n_ + 1, a, b, i, c, j, out => s_tablefinderref01_mul_l2_b (s_tablefinderref01_mul_l2 n_) a b i c j out

def s_tablefinderref01_mul_l2_F (n : Nat) (s : ((List Int) × (List Int) × Int × Int × Int × (List Int))) : Option ((List Int) × (List Int) × Int × Int × (List Int)) := s_tablefinderref01_mul_l2 n s.1 s.2.1 s.2.2.1 s.2.2.2.1 s.2.2.2.2.1 s.2.2.2.2.2
def s_tablefinderref01_mul_l2_B (rec_ : ((List Int) × (List Int) × Int × Int × Int × (List Int)) → Option ((List Int) × (List Int) × Int × Int × (List Int))) (s : ((List Int) × (List Int) × Int × Int × Int × (List Int))) : Option ((List Int) × (List Int) × Int × Int × (List Int)) := s_tablefinderref01_mul_l2_b (fun a b i c j out => rec_ (a, b, i, c, j, out)) s.1 s.2.1 s.2.2.1 s.2.2.2.1 s.2.2.2.2.1 s.2.2.2.2.2
theorem s_tablefinderref01_mul_l2_FB : ∀ n s, s_tablefinderref01_mul_l2_F (n + 1) s = s_tablefinderref01_mul_l2_B (s_tablefinderref01_mul_l2_F n) s := fun _ _ => rfl

def s_tablefinderref01_mul_l1_b (rec_ : (List Int) → (List Int) → Int → (List Int) → Option (List Int)) (a : (List Int)) (b : (List Int)) (i : Int) (out : (List Int)) : Option (List Int) :=
  bif (decide (i < (a.length : Int))) then (
    (s_tablefinderref01_mul_l2 big a b i (0 : Int) (0 : Int) out).bind fun (x0, x1, x2, x3, x4) => s_tablefinderref01_mul_k1 rec_ x0 x1 x2 x3 x4
  ) else (
    some out
  )

def s_tablefinderref01_mul_l1 : Nat → (List Int) → (List Int) → Int → (List Int) → Option (List Int)
  | 0, _, _, _, _ => none
  | n_ + 1, a, b, i, out => s_tablefinderref01_mul_l1_b (s_tablefinderref01_mul_l1 n_) a b i out

def s_tablefinderref01_mul_l1_F (n : Nat) (s : ((List Int) × (List Int) × Int × (List Int))) : Option (List Int) := s_tablefinderref01_mul_l1 n s.1 s.2.1 s.2.2.1 s.2.2.2
def s_tablefinderref01_mul_l1_B (rec_ : ((List Int) × (List Int) × Int × (List Int)) → Option (List Int)) (s : ((List Int) × (List Int) × Int × (List Int))) : Option (List Int) := s_tablefinderref01_mul_l1_b (fun a b i out => rec_ (a, b, i, out)) s.1 s.2.1 s.2.2.1 s.2.2.2
theorem s_tablefinderref01_mul_l1_FB : ∀ n s, s_tablefinderref01_mul_l1_F (n + 1) s = s_tablefinderref01_mul_l1_B (s_tablefinderref01_mul_l1_F n) s := fun _ _ => rfl

def s_tablefinderref01_mul (a : (List Int)) (b : (List Int)) : Option (List Int) :=
  chk (inK .i64 ((a.length : Int) + (b.length : Int))) <|
  chk (mkOk ((a.length : Int) + (b.length : Int)) ((a.length : Int) + (b.length : Int)) 4) <|
  (s_tablefinderref01_mul_l1 big a b (0 : Int) (List.replicate (((a.length : Int) + (b.length : Int))).toNat (0 : Int))).bind fun x0 => s_tablefinderref01_mul_k2 x0

/-! ### tablefinder/tablefinderref01.Times -/

def s_tablefinderref01_Times (a : G_api_Big) (b : G_api_Big) : Option G_api_Big :=
  (s_tablefinderref01_mul a.Words b.Words).bind fun q =>
  (s_tablefinderref01_big (!(a.Neg == b.Neg)) q).bind fun q_1 =>
  some q_1

/-! ### tablefinder/tablefinderref01.add -/

def s_tablefinderref01_add_k4 (c : Int) (out : (List Int)) : Option (List Int) :=
  chk (room (out.length + ([(IntKind.wrap .u32 c)] : (List Int)).length) 4) <|
  some (out ++ ([(IntKind.wrap .u32 c)] : (List Int)))

def s_tablefinderref01_add_j3 (rec_ : (List Int) → (List Int) → Int → Int → (List Int) → Option (Int × (List Int))) (a : (List Int)) (b : (List Int)) (c : Int) (i : Int) (out : (List Int)) : Option (Int × (List Int)) :=
  chk (room (out.length + ([(IntKind.wrap .u32 c)] : (List Int)).length) 4) <|
  chk (decide (0 ≤ (32 : Int))) <|
  chk (inK .i64 (i + 1)) <|
  rec_ a b (shrK .u64 c 32) (i + 1) (out ++ ([(IntKind.wrap .u32 c)] : (List Int)))

def s_tablefinderref01_add_j2 (rec_ : (List Int) → (List Int) → Int → Int → (List Int) → Option (Int × (List Int))) (a : (List Int)) (b : (List Int)) (c : Int) (i : Int) (out : (List Int)) : Option (Int × (List Int)) :=
  bif (decide (i < (b.length : Int))) then (
    (idx b i).bind fun b_e =>
    s_tablefinderref01_add_j3 rec_ a b (IntKind.wrap .u64 (c + (IntKind.wrap .u64 b_e))) i out
  ) else (
    s_tablefinderref01_add_j3 rec_ a b c i out
  )

def s_tablefinderref01_add_j1 (rec_ : (List Int) → (List Int) → Int → Int → (List Int) → Option (Int × (List Int))) (a : (List Int)) (b : (List Int)) (c : Int) (i : Int) (t17 : Bool) (out : (List Int)) : Option (Int × (List Int)) :=
  bif t17 then (
    bif (decide (i < (a.length : Int))) then (
      (idx a i).bind fun a_e =>
      s_tablefinderref01_add_j2 rec_ a b (IntKind.wrap .u64 (c + (IntKind.wrap .u64 a_e))) i out
    ) else (
      s_tablefinderref01_add_j2 rec_ a b c i out
    )
  ) else (
    some (c, out)
  )

def s_tablefinderref01_add_l1_b (rec_ : (List Int) → (List Int) → Int → Int → (List Int) → Option (Int × (List Int))) (a : (List Int)) (b : (List Int)) (c : Int) (i : Int) (out : (List Int)) : Option (Int × (List Int)) :=
  bif (decide (i < (a.length : Int))) then (
    s_tablefinderref01_add_j1 rec_ a b c i true out
  ) else (
    s_tablefinderref01_add_j1 rec_ a b c i (decide (i < (b.length : Int))) out
  )

def s_tablefinderref01_add_l1 : Nat → (List Int) → (List Int) → Int → Int → (List Int) → Option (Int × (List Int))
  | 0, _, _, _, _, _ => none
  | n_ + 1, a, b, c, i, out => s_tablefinderref01_add_l1_b (s_tablefinderref01_add_l1 n_) a b c i out

def s_tablefinderref01_add_l1_F (n : Nat) (s : ((List Int) × (List Int) × Int × Int × (List Int))) : Option (Int × (List Int)) := s_tablefinderref01_add_l1 n s.1 s.2.1 s.2.2.1 s.2.2.2.1 s.2.2.2.2
def s_tablefinderref01_add_l1_B (rec_ : ((List Int) × (List Int) × Int × Int × (List Int)) → Option (Int × (List Int))) (s : ((List Int) × (List Int) × Int × Int × (List Int))) : Option (Int × (List Int)) := s_tablefinderref01_add_l1_b (fun a b c i out => rec_ (a, b, c, i, out)) s.1 s.2.1 s.2.2.1 s.2.2.2.1 s.2.2.2.2
theorem s_tablefinderref01_add_l1_FB : ∀ n s, s_tablefinderref01_add_l1_F (n + 1) s = s_tablefinderref01_add_l1_B (s_tablefinderref01_add_l1_F n) s := fun _ _ => rfl

def s_tablefinderref01_add (a : (List Int)) (b : (List Int)) : Option (List Int) :=
  (s_tablefinderref01_add_l1 big a b (0 : Int) (0 : Int) ([] : (List Int))).bind fun (x0, x1) => s_tablefinderref01_add_k4 x0 x1

/-! ### tablefinder/tablefinderref01.Plus -/

def s_tablefinderref01_Plus (a : G_api_Big) (b : G_api_Big) : Option G_api_Big :=
  bif (a.Neg == b.Neg) then (
    (s_tablefinderref01_add a.Words b.Words).bind fun q =>
    (s_tablefinderref01_big a.Neg q).bind fun q_1 =>
    some q_1
  ) else (
    (s_tablefinderref01_cmp a.Words b.Words).bind fun q_2 =>
    bif (decide (q_2 ≥ 0)) then (
      (s_tablefinderref01_sub a.Words b.Words).bind fun q_3 =>
      (s_tablefinderref01_big a.Neg q_3).bind fun q_4 =>
      some q_4
    ) else (
      (s_tablefinderref01_sub b.Words a.Words).bind fun q_5 =>
      (s_tablefinderref01_big b.Neg q_5).bind fun q_6 =>
      some q_6
    )
  )

/-! ### tablefinder/tablefinderref01.result -/

def s_tablefinderref01_result_j1 (t21 : Bool) (t4 : Bool) (t4_1 : Bool) (f : G_api_Fraction) (t4_2 : (List Int)) (t4_3 : (List Int)) : Option (G_api_Fraction × Int) :=
  bif t21 then (
    some ((G_api_Fraction.mk (G_api_Big.mk false ([] : (List Int))) (G_api_Big.mk false ([] : (List Int)))), 3)
  ) else (
    some (f, 0)
  )

def s_tablefinderref01_result (num : G_api_Big) (den : G_api_Big) : Option (G_api_Fraction × Int) :=
  (s_tablefinderref01_lowest num den).bind fun f =>
  bif (decide ((f.Num.Words.length : Int) > 256)) then (
    s_tablefinderref01_result_j1 true false false f ([] : (List Int)) ([] : (List Int))
  ) else (
    s_tablefinderref01_result_j1 (decide ((f.Den.Words.length : Int) > 256)) false false f ([] : (List Int)) ([] : (List Int))
  )

/-! ### tablefinder/tablefinderref01.Add -/

def s_tablefinderref01_Add_j1 (t13 : Bool) (a : G_api_Fraction) (b : G_api_Fraction) (t4 : Bool) (t4_1 : Bool) (t4_2 : (List Int)) (t4_3 : (List Int)) : Option (G_api_Fraction × Int) :=
  bif t13 then (
    some ((G_api_Fraction.mk (G_api_Big.mk false ([] : (List Int))) (G_api_Big.mk false ([] : (List Int)))), 1)
  ) else (
    (s_tablefinderref01_Times a.Num b.Den).bind fun q =>
    (s_tablefinderref01_Times b.Num a.Den).bind fun q_1 =>
    (s_tablefinderref01_Plus q q_1).bind fun q_2 =>
    (s_tablefinderref01_Times a.Den b.Den).bind fun q_3 =>
    (s_tablefinderref01_result q_2 q_3).bind fun (q_4, q_5) =>
    some (q_4, q_5)
  )

def s_tablefinderref01_Add (a : G_api_Fraction) (b : G_api_Fraction) : Option (G_api_Fraction × Int) :=
  (s_tablefinderref01_Valid a).bind fun q =>
  bif (!q) then (
    s_tablefinderref01_Add_j1 true a b false false ([] : (List Int)) ([] : (List Int))
  ) else (
    (s_tablefinderref01_Valid b).bind fun q_1 =>
    s_tablefinderref01_Add_j1 (!q_1) a b false false ([] : (List Int)) ([] : (List Int))
  )

/-! ### tablefinder/tablefinderref23.Add -/

def s_tablefinderref23_Add (a : G_api_Fraction) (b : G_api_Fraction) : Option G_api_Fraction :=
  (s_tablefinderref01_Add a b).bind fun (f, q) =>
  some f

/-! ### tablefinder/correlation.Of -/

def s_correlation_Of_2_k1 (l : (List G_arr2_G_api_Fraction)) (t2 : Int) (t2_1 : Bool) (t2_2 : Bool) (t2_3 : Bool) (t2_4 : Bool) (t2_5 : Bool) (t2_6 : Bool) (t2_7 : Bool) (t2_8 : Bool) (t2_9 : Bool) (t2_10 : Bool) (m : G_api_Moments) (t2_11 : (List Int)) (t2_12 : (List Int)) (t2_13 : (List Int)) (t2_14 : (List Int)) (t2_15 : (List Int)) (t2_16 : (List Int)) (t2_17 : (List Int)) (t2_18 : (List Int)) (t2_19 : (List Int)) (t2_20 : (List Int)) : Option (G_api_Moments × (List G_arr2_G_api_Fraction)) :=
  some (m, l)

def s_correlation_Of_2_l1_b (rec_ : Int → Int → (List G_arr2_G_api_Fraction) → Int → Bool → Bool → Bool → Bool → Bool → Bool → Bool → Bool → Bool → Bool → G_api_Moments → (List Int) → (List Int) → (List Int) → (List Int) → (List Int) → (List Int) → (List Int) → (List Int) → (List Int) → (List Int) → Option ((List G_arr2_G_api_Fraction) × Int × Bool × Bool × Bool × Bool × Bool × Bool × Bool × Bool × Bool × Bool × G_api_Moments × (List Int) × (List Int) × (List Int) × (List Int) × (List Int) × (List Int) × (List Int) × (List Int) × (List Int) × (List Int))) (t8 : Int) (t9 : Int) (l : (List G_arr2_G_api_Fraction)) (t2 : Int) (t2_1 : Bool) (t2_2 : Bool) (t2_3 : Bool) (t2_4 : Bool) (t2_5 : Bool) (t2_6 : Bool) (t2_7 : Bool) (t2_8 : Bool) (t2_9 : Bool) (t2_10 : Bool) (m : G_api_Moments) (t2_11 : (List Int)) (t2_12 : (List Int)) (t2_13 : (List Int)) (t2_14 : (List Int)) (t2_15 : (List Int)) (t2_16 : (List Int)) (t2_17 : (List Int)) (t2_18 : (List Int)) (t2_19 : (List Int)) (t2_20 : (List Int)) : Option ((List G_arr2_G_api_Fraction) × Int × Bool × Bool × Bool × Bool × Bool × Bool × Bool × Bool × Bool × Bool × G_api_Moments × (List Int) × (List Int) × (List Int) × (List Int) × (List Int) × (List Int) × (List Int) × (List Int) × (List Int) × (List Int)) :=
  bif (decide (t9 < t8)) then (
    chk (inR t9 (l.length : Int)) <|
    (l[(t9).toNat]?).bind fun p =>
    chk (inR 0 2) <|
    chk (inR 1 2) <|
    (s_correlation_Add m p.e0 p.e1).bind fun m_1 =>
    chk (inK .i64 (t9 + 1)) <|
    rec_ t8 (t9 + 1) l t2 t2_1 t2_2 t2_3 t2_4 t2_5 t2_6 t2_7 t2_8 t2_9 t2_10 m_1 t2_11 t2_12 t2_13 t2_14 t2_15 t2_16 t2_17 t2_18 t2_19 t2_20
  ) else (
    some (l, t2, t2_1, t2_2, t2_3, t2_4, t2_5, t2_6, t2_7, t2_8, t2_9, t2_10, m, t2_11, t2_12, t2_13, t2_14, t2_15, t2_16, t2_17, t2_18, t2_19, t2_20)
  )

def s_correlation_Of_2_l1 : Nat → Int → Int → (List G_arr2_G_api_Fraction) → Int → Bool → Bool → Bool → Bool → Bool → Bool → Bool → Bool → Bool → Bool → G_api_Moments → (List Int) → (List Int) → (List Int) → (List Int) → (List Int) → (List Int) → (List Int) → (List Int) → (List Int) → (List Int) → Option ((List G_arr2_G_api_Fraction) × Int × Bool × Bool × Bool × Bool × Bool × Bool × Bool × Bool × Bool × Bool × G_api_Moments × (List Int) × (List Int) × (List Int) × (List Int) × (List Int) × (List Int) × (List Int) × (List Int) × (List Int) × (List Int))
  | 0, _, _, _, _, _, _, _, _, _, _, _, _, _, _, _, _, _, _, _, _, _, _, _, _, _ => none
  | n_ + 1, t8, t9, l, t2, t2_1, t2_2, t2_3, t2_4, t2_5, t2_6, t2_7, t2_8, t2_9, t2_10, m, t2_11, t2_12, t2_13, t2_14, t2_15, t2_16, t2_17, t2_18, t2_19, t2_20 => s_correlation_Of_2_l1_b (s_correlation_Of_2_l1 n_) t8 t9 l t2 t2_1 t2_2 t2_3 t2_4 t2_5 t2_6 t2_7 t2_8 t2_9 t2_10 m t2_11 t2_12 t2_13 t2_14 t2_15 t2_16 t2_17 t2_18 t2_19 t2_20

def s_correlation_Of_2_l1_F (n : Nat) (s : (Int × Int × (List G_arr2_G_api_Fraction) × Int × Bool × Bool × Bool × Bool × Bool × Bool × Bool × Bool × Bool × Bool × G_api_Moments × (List Int) × (List Int) × (List Int) × (List Int) × (List Int) × (List Int) × (List Int) × (List Int) × (List Int) × (List Int))) : Option ((List G_arr2_G_api_Fraction) × Int × Bool × Bool × Bool × Bool × Bool × Bool × Bool × Bool × Bool × Bool × G_api_Moments × (List Int) × (List Int) × (List Int) × (List Int) × (List Int) × (List Int) × (List Int) × (List Int) × (List Int) × (List Int)) := s_correlation_Of_2_l1 n s.1 s.2.1 s.2.2.1 s.2.2.2.1 s.2.2.2.2.1 s.2.2.2.2.2.1 s.2.2.2.2.2.2.1 s.2.2.2.2.2.2.2.1 s.2.2.2.2.2.2.2.2.1 s.2.2.2.2.2.2.2.2.2.1 s.2.2.2.2.2.2.2.2.2.2.1 s.2.2.2.2.2.2.2.2.2.2.2.1 s.2.2.2.2.2.2.2.2.2.2.2.2.1 s.2.2.2.2.2.2.2.2.2.2.2.2.2.1 s.2.2.2.2.2.2.2.2.2.2.2.2.2.2.1 s.2.2.2.2.2.2.2.2.2.2.2.2.2.2.2.1 s.2.2.2.2.2.2.2.2.2.2.2.2.2.2.2.2.1 s.2.2.2.2.2.2.2.2.2.2.2.2.2.2.2.2.2.1 s.2.2.2.2.2.2.2.2.2.2.2.2.2.2.2.2.2.2.1 s.2.2.2.2.2.2.2.2.2.2.2.2.2.2.2.2.2.2.2.1 s.2.2.2.2.2.2.2.2.2.2.2.2.2.2.2.2.2.2.2.2.1 s.2.2.2.2.2.2.2.2.2.2.2.2.2.2.2.2.2.2.2.2.2.1 s.2.2.2.2.2.2.2.2.2.2.2.2.2.2.2.2.2.2.2.2.2.2.1 s.2.2.2.2.2.2.2.2.2.2.2.2.2.2.2.2.2.2.2.2.2.2.2.1 s.2.2.2.2.2.2.2.2.2.2.2.2.2.2.2.2.2.2.2.2.2.2.2.2
def s_correlation_Of_2_l1_B (rec_ : (Int × Int × (List G_arr2_G_api_Fraction) × Int × Bool × Bool × Bool × Bool × Bool × Bool × Bool × Bool × Bool × Bool × G_api_Moments × (List Int) × (List Int) × (List Int) × (List Int) × (List Int) × (List Int) × (List Int) × (List Int) × (List Int) × (List Int)) → Option ((List G_arr2_G_api_Fraction) × Int × Bool × Bool × Bool × Bool × Bool × Bool × Bool × Bool × Bool × Bool × G_api_Moments × (List Int) × (List Int) × (List Int) × (List Int) × (List Int) × (List Int) × (List Int) × (List Int) × (List Int) × (List Int))) (s : (Int × Int × (List G_arr2_G_api_Fraction) × Int × Bool × Bool × Bool × Bool × Bool × Bool × Bool × Bool × Bool × Bool × G_api_Moments × (List Int) × (List Int) × (List Int) × (List Int) × (List Int) × (List Int) × (List Int) × (List Int) × (List Int) × (List Int))) : Option ((List G_arr2_G_api_Fraction) × Int × Bool × Bool × Bool × Bool × Bool × Bool × Bool × Bool × Bool × Bool × G_api_Moments × (List Int) × (List Int) × (List Int) × (List Int) × (List Int) × (List Int) × (List Int) × (List Int) × (List Int) × (List Int)) := s_correlation_Of_2_l1_b (fun t8 t9 l t2 t2_1 t2_2 t2_3 t2_4 t2_5 t2_6 t2_7 t2_8 t2_9 t2_10 m t2_11 t2_12 t2_13 t2_14 t2_15 t2_16 t2_17 t2_18 t2_19 t2_20 => rec_ (t8, t9, l, t2, t2_1, t2_2, t2_3, t2_4, t2_5, t2_6, t2_7, t2_8, t2_9, t2_10, m, t2_11, t2_12, t2_13, t2_14, t2_15, t2_16, t2_17, t2_18, t2_19, t2_20)) s.1 s.2.1 s.2.2.1 s.2.2.2.1 s.2.2.2.2.1 s.2.2.2.2.2.1 s.2.2.2.2.2.2.1 s.2.2.2.2.2.2.2.1 s.2.2.2.2.2.2.2.2.1 s.2.2.2.2.2.2.2.2.2.1 s.2.2.2.2.2.2.2.2.2.2.1 s.2.2.2.2.2.2.2.2.2.2.2.1 s.2.2.2.2.2.2.2.2.2.2.2.2.1 s.2.2.2.2.2.2.2.2.2.2.2.2.2.1 s.2.2.2.2.2.2.2.2.2.2.2.2.2.2.1 s.2.2.2.2.2.2.2.2.2.2.2.2.2.2.2.1 s.2.2.2.2.2.2.2.2.2.2.2.2.2.2.2.2.1 s.2.2.2.2.2.2.2.2.2.2.2.2.2.2.2.2.2.1 s.2.2.2.2.2.2.2.2.2.2.2.2.2.2.2.2.2.2.1 s.2.2.2.2.2.2.2.2.2.2.2.2.2.2.2.2.2.2.2.1 s.2.2.2.2.2.2.2.2.2.2.2.2.2.2.2.2.2.2.2.2.1 s.2.2.2.2.2.2.2.2.2.2.2.2.2.2.2.2.2.2.2.2.2.1 s.2.2.2.2.2.2.2.2.2.2.2.2.2.2.2.2.2.2.2.2.2.2.1 s.2.2.2.2.2.2.2.2.2.2.2.2.2.2.2.2.2.2.2.2.2.2.2.1 s.2.2.2.2.2.2.2.2.2.2.2.2.2.2.2.2.2.2.2.2.2.2.2.2
theorem s_correlation_Of_2_l1_FB : ∀ n s, s_correlation_Of_2_l1_F (n + 1) s = s_correlation_Of_2_l1_B (s_correlation_Of_2_l1_F n) s := fun _ _ => rfl

def s_correlation_Of_2 (l : (List G_arr2_G_api_Fraction)) : Option (G_api_Moments × (List G_arr2_G_api_Fraction)) :=
  (s_correlation_none).bind fun m =>
  (s_correlation_Of_2_l1 big (l.length : Int) (0 : Int) l (0 : Int) false false false false false false false false false false m ([] : (List Int)) ([] : (List Int)) ([] : (List Int)) ([] : (List Int)) ([] : (List Int)) ([] : (List Int)) ([] : (List Int)) ([] : (List Int)) ([] : (List Int)) ([] : (List Int))).bind fun (x0, x1, x2, x3, x4, x5, x6, x7, x8, x9, x10, x11, x12, x13, x14, x15, x16, x17, x18, x19, x20, x21, x22) => s_correlation_Of_2_k1 x0 x1 x2 x3 x4 x5 x6 x7 x8 x9 x10 x11 x12 x13 x14 x15 x16 x17 x18 x19 x20 x21 x22

def s_correlation_Of_2_w (l : (List G_arr2_G_api_Fraction)) : Option (G_api_Moments × (List G_arr2_G_api_Fraction)) :=
  (s_correlation_Of_2 l).bind fun r => chk (decide (r.2.length = l.length) && true) (some r)

/-! ### tablefinder/tablefinderref01.Minus -/

def s_tablefinderref01_Minus (a : G_api_Big) : Option G_api_Big :=
  (s_tablefinderref01_big (!a.Neg) a.Words).bind fun q =>
  some q

/-! ### tablefinder/tablefinderref01.Cmp -/

def s_tablefinderref01_Cmp_j1 (t13 : Bool) (a : G_api_Fraction) (b : G_api_Fraction) : Option Int :=
  bif t13 then (
    some (0 : Int)
  ) else (
    (s_tablefinderref01_Times a.Num b.Den).bind fun q =>
    (s_tablefinderref01_Times b.Num a.Den).bind fun q_1 =>
    (s_tablefinderref01_Minus q_1).bind fun q_2 =>
    (s_tablefinderref01_Plus q q_2).bind fun x_ =>
    bif ((x_.Words.length : Int) == 0) then (
      some (0 : Int)
    ) else (
      bif x_.Neg then (
        some (-1 : Int)
      ) else (
        some (1 : Int)
      )
    )
  )

def s_tablefinderref01_Cmp (a : G_api_Fraction) (b : G_api_Fraction) : Option Int :=
  (s_tablefinderref01_Valid a).bind fun q =>
  bif (!q) then (
    s_tablefinderref01_Cmp_j1 true a b
  ) else (
    (s_tablefinderref01_Valid b).bind fun q_1 =>
    s_tablefinderref01_Cmp_j1 (!q_1) a b
  )

/-! ### tablefinder/tablefinderref23.Less -/

def s_tablefinderref23_Less (a : G_api_Fraction) (b : G_api_Fraction) : Option Bool :=
  (s_tablefinderref01_Cmp a b).bind fun q =>
  some (decide (q < 0))

/-! ### tablefinder/tablefinderlaw25.CorrelationLines -/

def s_tablefinderlaw25_CorrelationLines_j6 (t8 : Bool) : Option Bool :=
  some t8

def s_tablefinderlaw25_CorrelationLines_j5 (xs : (List Int)) (off : Int) (beside : Bool) (k : Int) (t89 : Bool) (l : (List G_arr2_G_api_Fraction)) (s : G_api_Fraction) : Option Bool :=
  bif t89 then (
    some false
  ) else (
    bif beside then (
      chk (inR 0 (l.length : Int)) <|
      chk (inR 1 2) <|
      (l[((0 : Int)).toNat]?).bind fun l_e =>
      (s_tablefinderref23_Int 1).bind fun q =>
      (s_tablefinderref23_Add l_e.e1 q).bind fun q_1 =>
      chk (inR 0 (l.length : Int)) <|
      chk (inR 1 2) <|
      (l[((0 : Int)).toNat]?).bind fun el =>
      (idx xs 0).bind fun x_ =>
      (s_tablefinderref23_Int (IntKind.wrap .i64 x_)).bind fun q_2 =>
      (idx xs 0).bind fun x__1 =>
      chk (inK .i64 (k * (IntKind.wrap .i64 x__1))) <|
      (s_tablefinderkit_Mod off 100).bind fun q_3 =>
      chk (inK .i64 ((k * (IntKind.wrap .i64 x__1)) + q_3)) <|
      (s_tablefinderref23_Int ((k * (IntKind.wrap .i64 x__1)) + q_3)).bind fun q_4 =>
      chk (room ((l.set (((0 : Int)).toNat) (G_arr2_G_api_Fraction.mk el.e0 q_1)).length + ([(G_arr2_G_api_Fraction.mk q_2 q_4)] : (List G_arr2_G_api_Fraction)).length) 128) <|
      (s_correlation_Of_2_w ((l.set (((0 : Int)).toNat) (G_arr2_G_api_Fraction.mk el.e0 q_1)) ++ ([(G_arr2_G_api_Fraction.mk q_2 q_4)] : (List G_arr2_G_api_Fraction)))).bind fun (q_5, t120) =>
      (s_correlation_Square q_5).bind fun (s_1, q_6, ok) =>
      bif ok then (
        (s_tablefinderref23_Int 1).bind fun q_7 =>
        (s_tablefinderref23_Less s_1 q_7).bind fun q_8 =>
        bif q_8 then (
          (s_tablefinderlaw25_awake).bind fun q_9 =>
          s_tablefinderlaw25_CorrelationLines_j6 q_9
        ) else (
          s_tablefinderlaw25_CorrelationLines_j6 false
        )
      ) else (
        s_tablefinderlaw25_CorrelationLines_j6 false
      )
    ) else (
      (s_tablefinderlaw25_awake).bind fun q_10 =>
      some q_10
    )
  )

def s_tablefinderlaw25_CorrelationLines_j4 (xs : (List Int)) (off : Int) (beside : Bool) (k : Int) (sign : Int) (ok : Bool) (t72 : Bool) (l : (List G_arr2_G_api_Fraction)) (s : G_api_Fraction) : Option Bool :=
  bif t72 then (
    some false
  ) else (
    bif (!ok) then (
      (s_tablefinderlaw25_awake).bind fun q =>
      some q
    ) else (
      (s_tablefinderref23_Int 1).bind fun q_1 =>
      (s_tablefinderref23_Same s q_1).bind fun q_2 =>
      bif (!q_2) then (
        s_tablefinderlaw25_CorrelationLines_j5 xs off beside k true l s
      ) else (
        chk (inK .i64 (0 - k)) <|
        chk (decide ((if (0 - k) > k then (0 - k) else k) ≠ 0)) <|
        chk (inK .i64 (Int.tdiv k (if (0 - k) > k then (0 - k) else k))) <|
        s_tablefinderlaw25_CorrelationLines_j5 xs off beside k (sign != (Int.tdiv k (if (0 - k) > k then (0 - k) else k))) l s
      )
    )
  )

def s_tablefinderlaw25_CorrelationLines_k3 (xs : (List Int)) (off : Int) (beside : Bool) (k : Int) (different : Bool) (l : (List G_arr2_G_api_Fraction)) : Option Bool :=
  (s_correlation_Of_2_w l).bind fun (q, t59) =>
  (s_correlation_Square q).bind fun (s, sign, ok) =>
  bif different then (
    s_tablefinderlaw25_CorrelationLines_j4 xs off beside k sign ok (!(ok == (decide ((xs.length : Int) ≥ 3)))) t59 s
  ) else (
    s_tablefinderlaw25_CorrelationLines_j4 xs off beside k sign ok (!(ok == false)) t59 s
  )

def s_tablefinderlaw25_CorrelationLines_j2 (rec_ : (List Int) → Int → Bool → Int → Bool → (List Int) → Int → Int → (List G_arr2_G_api_Fraction) → Option ((List Int) × Int × Bool × Int × Bool × (List G_arr2_G_api_Fraction))) (xs : (List Int)) (off : Int) (beside : Bool) (k : Int) (different : Bool) (x_ : Int) (t28 : (List Int)) (t29 : Int) (t30 : Int) (l : (List G_arr2_G_api_Fraction)) : Option ((List Int) × Int × Bool × Int × Bool × (List G_arr2_G_api_Fraction)) :=
  (s_tablefinderref23_Int (IntKind.wrap .i64 x_)).bind fun q =>
  chk (inK .i64 (k * (IntKind.wrap .i64 x_))) <|
  (s_tablefinderkit_Mod off 100).bind fun q_1 =>
  chk (inK .i64 ((k * (IntKind.wrap .i64 x_)) + q_1)) <|
  (s_tablefinderref23_Int ((k * (IntKind.wrap .i64 x_)) + q_1)).bind fun q_2 =>
  chk (room (l.length + ([(G_arr2_G_api_Fraction.mk q q_2)] : (List G_arr2_G_api_Fraction)).length) 128) <|
  chk (inK .i64 (t30 + 1)) <|
  rec_ xs off beside k different t28 t29 (t30 + 1) (l ++ ([(G_arr2_G_api_Fraction.mk q q_2)] : (List G_arr2_G_api_Fraction)))

def s_tablefinderlaw25_CorrelationLines_l1_b (rec_ : (List Int) → Int → Bool → Int → Bool → (List Int) → Int → Int → (List G_arr2_G_api_Fraction) → Option ((List Int) × Int × Bool × Int × Bool × (List G_arr2_G_api_Fraction))) (xs : (List Int)) (off : Int) (beside : Bool) (k : Int) (different : Bool) (t28 : (List Int)) (t29 : Int) (t30 : Int) (l : (List G_arr2_G_api_Fraction)) : Option ((List Int) × Int × Bool × Int × Bool × (List G_arr2_G_api_Fraction)) :=
  bif (decide (t30 < t29)) then (
    (idx t28 t30).bind fun x_ =>
    bif different then (
      s_tablefinderlaw25_CorrelationLines_j2 rec_ xs off beside k true x_ t28 t29 t30 l
    ) else (
      (idx xs 0).bind fun x__1 =>
      s_tablefinderlaw25_CorrelationLines_j2 rec_ xs off beside k (x_ != x__1) x_ t28 t29 t30 l
    )
  ) else (
    some (xs, off, beside, k, different, l)
  )

def s_tablefinderlaw25_CorrelationLines_l1 : Nat → (List Int) → Int → Bool → Int → Bool → (List Int) → Int → Int → (List G_arr2_G_api_Fraction) → Option ((List Int) × Int × Bool × Int × Bool × (List G_arr2_G_api_Fraction))
  | 0, _, _, _, _, _, _, _, _, _ => none
  | n_ + 1, xs, off, beside, k, different, t28, t29, t30, l => s_tablefinderlaw25_CorrelationLines_l1_b (s_tablefinderlaw25_CorrelationLines_l1 n_) xs off beside k different t28 t29 t30 l

def s_tablefinderlaw25_CorrelationLines_l1_F (n : Nat) (s : ((List Int) × Int × Bool × Int × Bool × (List Int) × Int × Int × (List G_arr2_G_api_Fraction))) : Option ((List Int) × Int × Bool × Int × Bool × (List G_arr2_G_api_Fraction)) := s_tablefinderlaw25_CorrelationLines_l1 n s.1 s.2.1 s.2.2.1 s.2.2.2.1 s.2.2.2.2.1 s.2.2.2.2.2.1 s.2.2.2.2.2.2.1 s.2.2.2.2.2.2.2.1 s.2.2.2.2.2.2.2.2
def s_tablefinderlaw25_CorrelationLines_l1_B (rec_ : ((List Int) × Int × Bool × Int × Bool × (List Int) × Int × Int × (List G_arr2_G_api_Fraction)) → Option ((List Int) × Int × Bool × Int × Bool × (List G_arr2_G_api_Fraction))) (s : ((List Int) × Int × Bool × Int × Bool × (List Int) × Int × Int × (List G_arr2_G_api_Fraction))) : Option ((List Int) × Int × Bool × Int × Bool × (List G_arr2_G_api_Fraction)) := s_tablefinderlaw25_CorrelationLines_l1_b (fun xs off beside k different t28 t29 t30 l => rec_ (xs, off, beside, k, different, t28, t29, t30, l)) s.1 s.2.1 s.2.2.1 s.2.2.2.1 s.2.2.2.2.1 s.2.2.2.2.2.1 s.2.2.2.2.2.2.1 s.2.2.2.2.2.2.2.1 s.2.2.2.2.2.2.2.2
theorem s_tablefinderlaw25_CorrelationLines_l1_FB : ∀ n s, s_tablefinderlaw25_CorrelationLines_l1_F (n + 1) s = s_tablefinderlaw25_CorrelationLines_l1_B (s_tablefinderlaw25_CorrelationLines_l1_F n) s := fun _ _ => rfl

def s_tablefinderlaw25_CorrelationLines_j1 (xs : (List Int)) (off : Int) (beside : Bool) (k : Int) : Option Bool :=
  (s_tablefinderlaw25_CorrelationLines_l1 big xs off beside k false xs (xs.length : Int) (0 : Int) ([] : (List G_arr2_G_api_Fraction))).bind fun (x0, x1, x2, x3, x4, x5) => s_tablefinderlaw25_CorrelationLines_k3 x0 x1 x2 x3 x4 x5

def s_tablefinderlaw25_CorrelationLines (xs : (List Int)) (slope : Int) (off : Int) (beside : Bool) : Option Bool :=
  bif (decide ((xs.length : Int) > 12)) then (
    (s_tablefinderlaw25_awake).bind fun q =>
    some q
  ) else (
    (s_tablefinderkit_Mod slope 7).bind fun q_1 =>
    chk (inK .i64 (1 + q_1)) <|
    bif (decide (slope < 0)) then (
      chk (inK .i64 (0 - (1 + q_1))) <|
      s_tablefinderlaw25_CorrelationLines_j1 xs off beside (0 - (1 + q_1))
    ) else (
      s_tablefinderlaw25_CorrelationLines_j1 xs off beside (1 + q_1)
    )
  )

end
end Go.Proofs
