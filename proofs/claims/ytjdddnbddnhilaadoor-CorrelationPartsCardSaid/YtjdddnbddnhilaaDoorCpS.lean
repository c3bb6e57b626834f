/- Printed by wip/tools/tgen.py: specs. -/
import Derived.Test.YtjdddnbddnhilaaDoorE4
set_option linter.unusedVariables false
set_option linter.unusedSimpArgs false
set_option linter.unusedSectionVars false
namespace Go.Proofs
open Go Eng
set_option maxRecDepth 100000
noncomputable section

structure GaBig where
  Neg : Bool
  Words : (List Int)
  deriving DecidableEq, Inhabited

structure GaFraction where
  Num : GaBig
  Den : GaBig
  deriving DecidableEq, Inhabited

structure G_arr2_GaFraction where
  e0 : GaFraction
  e1 : GaFraction
  deriving DecidableEq, Inhabited

structure GaMoments where
  N : Int
  X : GaFraction
  Y : GaFraction
  XX : GaFraction
  YY : GaFraction
  XY : GaFraction
  deriving DecidableEq, Inhabited

structure Gk_Dice where
  l : (List Int)
  at_ : Int
  deriving DecidableEq, Inhabited

def carU : Nat → Type
  | 0 => GaBig
  | 1 => GaFraction
  | 2 => G_arr2_GaFraction
  | 3 => GaMoments
  | 4 => Gk_Dice
  | _ => Unit

def sizeU : Nat → Nat
  | 0 => 2
  | 1 => 4
  | 2 => 8
  | 3 => 21
  | 4 => 2
  | _ => 0


def glob_fraction_one : List (Lf carU) := [⟨.sl (.int .u32), ([1] : List Int)⟩]

abbrev qL0 : Type := List Int
abbrev qL1 : Type := List G_arr2_GaFraction
abbrev qS62 : Type := qL1 × Int × Int × Int × Bool × Bool × Bool × Bool × Bool × Bool × Bool × Bool × Bool × Bool × GaMoments × qL0 × qL0 × qL0 × qL0 × qL0 × qL0 × qL0 × qL0 × qL0 × qL0
abbrev qS63 : Type := Int × Bool × Bool × Bool × Bool × Bool × Bool × Bool × Bool × Bool × Bool × GaMoments × qL0 × qL0 × qL0 × qL0 × qL0 × qL0 × qL0 × qL0 × qL0 × qL0
abbrev qS64 : Type := qL0 × Int × Int × qL0 × Int × Int × qL0
abbrev qS65 : Type := Nat × Nat × qL0 × Int × Int × Int × Int × qL0
abbrev qS66 : Type := qL0 × qL0 × Int × Int × Int × qL0
abbrev qS67 : Type := Int × Int × Int × qL1 × GaMoments
abbrev qS68 : Type := qL0 × qL0 × Int × Int × qL0
abbrev qS69 : Type := Nat × Nat × qL0 × Int × Int × qL0
abbrev qS70 : Type := Int × qL1 × GaMoments
abbrev qS71 : Type := Nat × Nat × Int × Int × Int × qL0
abbrev qS72 : Type := Int × Gk_Dice × qL1
abbrev qS73 : Type := Int × Int × qL0 × qL0
abbrev qS74 : Type := Gk_Dice × qL1
abbrev qS75 : Type := qL0 × Int × Int × GaBig
abbrev qS76 : Type := qL0 × qL0 × Int
abbrev qS77 : Type := qL0 × qL0
abbrev qR78 : Type := qL0 → qL0 → Int → Int → qL0 → Option (Int × qL0)
abbrev qR79 : Type := qL0 → qL0 → qL0 → Int → qL0 → Option qS77
abbrev qR80 : Type := qL0 → qL0 → Int → Int → qL0 → Option qL0
abbrev qR81 : Type := Nat → Nat → qL0 → Int → Int → Int → qL0 → Option qS69
abbrev qR82 : Type := qL0 → qL0 → Int → qL0 → Option qL0
abbrev qR83 : Type := qL0 → qL0 → Int → Option (qL0 × Int)
abbrev qR84 : Type := qL0 → Int → Int → qL0 → Option qL0
abbrev qR85 : Type := Int → Gk_Dice → qL1 → Option qS74
abbrev qR86 : Type := qL0 → qL0 → Int → Option (Out Unit Int)
abbrev qR87 : Type := qL0 → qL0 → Int → Option qS76
abbrev qR88 : Type := qL0 → Option qL0

/-! ### tablefinder/tablefinderkit.Light -/

def sk_Light (t : qL0) : Option Bool :=
 some (decide ((t.length : Int) ≤ 500))

/-! ### tablefinder/tablefinderref01.trim -/

def sr01_trim_k2 (w_ : qL0) : Option qL0 :=
 some w_

def sr01_trim_j1 (rec_ : qR88) (w_ : qL0) (t14 : Bool) : Option qL0 :=
 bif t14 then (
 chk (inK .i64 ((w_.length : Int) - 1)) <|
 chk (within 0 ((w_.length : Int) - 1) (w_.length : Int)) <|
 rec_ (w_.take (((w_.length : Int) - 1)).toNat)
 ) else (
 some w_
 )

def sr01_trim_l1_b (rec_ : qR88) (w_ : qL0) : Option qL0 :=
 bif (decide ((w_.length : Int) > 0)) then (
 chk (inK .i64 ((w_.length : Int) - 1)) <|
 (idx w_ ((w_.length : Int) - 1)).bind fun w__e =>
 sr01_trim_j1 rec_ w_ (w__e == 0)
 ) else (
 sr01_trim_j1 rec_ w_ false
 )

def sr01_trim_l1 : Nat → qL0 → Option qL0
 | 0, _ => none
 | n_ + 1, w_ => sr01_trim_l1_b (sr01_trim_l1 n_) w_

def sr01_trim (w_ : qL0) : Option qL0 :=
 (sr01_trim_l1 big w_).bind fun x0 => sr01_trim_k2 x0

/-! ### tablefinder/tablefinderref01.big -/

def sr01_big_j1 (t4 : GaBig) : Option GaBig :=
 some t4

def sr01_big (neg : Bool) (w_ : qL0) : Option GaBig :=
 (sr01_trim w_).bind fun w__1 =>
 bif neg then (
 sr01_big_j1 (GaBig.mk (decide ((w__1.length : Int) > 0)) w__1)
 ) else (
 sr01_big_j1 (GaBig.mk false w__1)
 )

/-! ### tablefinder/tablefinderref01.FromInt -/

def sr01_FromInt_j1 (n : Int) (u : Int) (t2 : Bool) (t2_1 : qL0) : Option GaBig :=
 chk (decide (0 ≤ (32 : Int))) <|
 (sr01_big (decide (n < 0)) ([(IntKind.wrap .u32 u), (IntKind.wrap .u32 (shrK .u64 u 32))] : qL0)).bind fun q =>
 some q

def sr01_FromInt (n : Int) : Option GaBig :=
 bif (decide (n < 0)) then (
 sr01_FromInt_j1 n (IntKind.wrap .u64 (0 - (IntKind.wrap .u64 n))) false ([] : qL0)
 ) else (
 sr01_FromInt_j1 n (IntKind.wrap .u64 n) false ([] : qL0)
 )

/-! ### tablefinder/tablefinderref01.ValidBig -/

def sr01_ValidBig_j1 (t2 : Bool) : Option Bool :=
 some t2

def sr01_ValidBig (a : GaBig) : Option Bool :=
 bif (decide ((a.Words.length : Int) ≤ 256)) then (
 bif ((a.Words.length : Int) == 0) then (
 bif (!a.Neg) then (
 sr01_ValidBig_j1 true
 ) else (
 bif (decide ((a.Words.length : Int) > 0)) then (
 chk (inK .i64 ((a.Words.length : Int) - 1)) <|
 (idx a.Words ((a.Words.length : Int) - 1)).bind fun Word =>
 sr01_ValidBig_j1 (Word != 0)
 ) else (
 sr01_ValidBig_j1 false
 )
 )
 ) else (
 bif (decide ((a.Words.length : Int) > 0)) then (
 chk (inK .i64 ((a.Words.length : Int) - 1)) <|
 (idx a.Words ((a.Words.length : Int) - 1)).bind fun Word_1 =>
 sr01_ValidBig_j1 (Word_1 != 0)
 ) else (
 sr01_ValidBig_j1 false
 )
 )
 ) else (
 sr01_ValidBig_j1 false
 )

/-! ### tablefinder/tablefinderref01.half -/

def sr01_half_k2 (out : qL0) : Option qL0 :=
 (sr01_trim out).bind fun q =>
 some q

def sr01_half_j1 (rec_ : qR84) (a : qL0) (t9 : Int) (i : Int) (out : qL0) : Option qL0 :=
 chk (inK .i64 (i + 1)) <|
 rec_ a t9 (i + 1) out

def sr01_half_l1_b (rec_ : qR84) (a : qL0) (t9 : Int) (i : Int) (out : qL0) : Option qL0 :=
 bif (decide (i < t9)) then (
 chk (inR i (out.length : Int)) <|
 (out[(i).toNat]?).bind fun out_e =>
 chk (decide (0 ≤ (1 : Int))) <|
 chk (inR i (out.length : Int)) <|
 chk (inK .i64 (i + 1)) <|
 bif (decide ((i + 1) < (a.length : Int))) then (
 chk (inR i ((out.set ((i).toNat) (shrK .u32 out_e 1)).length : Int)) <|
 ((out.set ((i).toNat) (shrK .u32 out_e 1))[(i).toNat]?).bind fun e_e =>
 chk (inK .i64 (i + 1)) <|
 (idx a (i + 1)).bind fun a_e =>
 chk (decide (0 ≤ (31 : Int))) <|
 chk (inR i ((out.set ((i).toNat) (shrK .u32 out_e 1)).length : Int)) <|
 sr01_half_j1 rec_ a t9 i ((out.set ((i).toNat) (shrK .u32 out_e 1)).set ((i).toNat) (orK .u32 e_e (shlK .u32 a_e 31)))
 ) else (
 sr01_half_j1 rec_ a t9 i (out.set ((i).toNat) (shrK .u32 out_e 1))
 )
 ) else (
 some out
 )

def sr01_half_l1 : Nat → qL0 → Int → Int → qL0 → Option qL0
 | 0, _, _, _, _ => none
 | n_ + 1, a, t9, i, out => sr01_half_l1_b (sr01_half_l1 n_) a t9 i out

def sr01_half (a : qL0) : Option qL0 :=
 chk (room (([] : qL0).length + a.length) 4) <|
 (sr01_half_l1 big a ((([] : qL0) ++ a).length : Int) (0 : Int) (([] : qL0) ++ a)).bind fun x0 => sr01_half_k2 x0

/-! ### tablefinder/tablefinderref01.cmp -/

def sr01_cmp_k1  : Option Int :=
 some (0 : Int)

def sr01_cmp_l1_b (rec_ : qR86) (a : qL0) (b : qL0) (i : Int) : Option (Out Unit Int) :=
 bif (decide (i ≥ 0)) then (
 (idx a i).bind fun a_e =>
 (idx b i).bind fun b_e =>
 bif (decide (a_e < b_e)) then (
 some (.ret (-1 : Int))
 ) else (
 (idx a i).bind fun a_e_1 =>
 (idx b i).bind fun b_e_1 =>
 bif (decide (a_e_1 > b_e_1)) then (
 some (.ret (1 : Int))
 ) else (
 chk (inK .i64 (i - 1)) <|
 rec_ a b (i - 1)
 )
 )
 ) else (
 some (.brk ())
 )

def sr01_cmp_l1 : Nat → qL0 → qL0 → Int → Option (Out Unit Int)
 | 0, _, _, _ => none
 | n_ + 1, a, b, i => sr01_cmp_l1_b (sr01_cmp_l1 n_) a b i

def sr01_cmp (a : qL0) (b : qL0) : Option Int :=
 bif ((a.length : Int) != (b.length : Int)) then (
 bif (decide ((a.length : Int) < (b.length : Int))) then (
 some (-1 : Int)
 ) else (
 some (1 : Int)
 )
 ) else (
 chk (inK .i64 ((a.length : Int) - 1)) <|
 (sr01_cmp_l1 big a b ((a.length : Int) - 1)).bind fun
 | .ret q_ => some q_
 | .brk () => sr01_cmp_k1
 )

/-! ### tablefinder/tablefinderref01.sub -/

def sr01_sub_k2 (out : qL0) : Option qL0 :=
 (sr01_trim out).bind fun q =>
 some q

def sr01_sub_j1 (rec_ : qR80) (a : qL0) (b : qL0) (c : Int) (i : Int) (out : qL0) : Option qL0 :=
 chk (room (out.length + ([(IntKind.wrap .u32 c)] : qL0).length) 4) <|
 chk (decide (0 ≤ (32 : Int))) <|
 chk (inK .i64 (i + 1)) <|
 rec_ a b (shrK .i64 c 32) (i + 1) (out ++ ([(IntKind.wrap .u32 c)] : qL0))

def sr01_sub_l1_b (rec_ : qR80) (a : qL0) (b : qL0) (c : Int) (i : Int) (out : qL0) : Option qL0 :=
 bif (decide (i < (a.length : Int))) then (
 (idx a i).bind fun a_e =>
 chk (inK .i64 (c + (IntKind.wrap .i64 a_e))) <|
 bif (decide (i < (b.length : Int))) then (
 (idx b i).bind fun b_e =>
 chk (inK .i64 ((c + (IntKind.wrap .i64 a_e)) - (IntKind.wrap .i64 b_e))) <|
 sr01_sub_j1 rec_ a b ((c + (IntKind.wrap .i64 a_e)) - (IntKind.wrap .i64 b_e)) i out
 ) else (
 sr01_sub_j1 rec_ a b (c + (IntKind.wrap .i64 a_e)) i out
 )
 ) else (
 some out
 )

def sr01_sub_l1 : Nat → qL0 → qL0 → Int → Int → qL0 → Option qL0
 | 0, _, _, _, _, _ => none
 | n_ + 1, a, b, c, i, out => sr01_sub_l1_b (sr01_sub_l1 n_) a b c i out

def sr01_sub (a : qL0) (b : qL0) : Option qL0 :=
 (sr01_sub_l1 big a b (0 : Int) (0 : Int) ([] : qL0)).bind fun x0 => sr01_sub_k2 x0

/-! ### tablefinder/tablefinderref01.twice -/

def sr01_twice_k1 (d : Int) (out : qL0) : Option qL0 :=
 chk (room (out.length + ([d] : qL0).length) 4) <|
 (sr01_trim (out ++ ([d] : qL0))).bind fun q =>
 some q

def sr01_twice_l1_b (rec_ : qL0 → Int → Int → qL0 → Option (Int × qL0)) (a : qL0) (d : Int) (i : Int) (out : qL0) : Option (Int × qL0) :=
 bif (decide (i < (a.length : Int))) then (
 (idx a i).bind fun a_e =>
 chk (decide (0 ≤ (1 : Int))) <|
 chk (room (out.length + ([(orK .u32 (shlK .u32 a_e 1) d)] : qL0).length) 4) <|
 (idx a i).bind fun a_e_1 =>
 chk (decide (0 ≤ (31 : Int))) <|
 chk (inK .i64 (i + 1)) <|
 rec_ a (shrK .u32 a_e_1 31) (i + 1) (out ++ ([(orK .u32 (shlK .u32 a_e 1) d)] : qL0))
 ) else (
 some (d, out)
 )

def sr01_twice_l1 : Nat → qL0 → Int → Int → qL0 → Option (Int × qL0)
 | 0, _, _, _, _ => none
 | n_ + 1, a, d, i, out => sr01_twice_l1_b (sr01_twice_l1 n_) a d i out

def sr01_twice (a : qL0) (d : Int) : Option qL0 :=
 (sr01_twice_l1 big a d (0 : Int) ([] : qL0)).bind fun (x0, x1) => sr01_twice_k1 x0 x1

/-! ### tablefinder/tablefinderref01.gcd -/

def sr01_gcd_k7 (a : qL0) : Option qL0 :=
 some a

def sr01_gcd_l5_b (rec_ : qL0 → Int → Option qL0) (a : qL0) (k : Int) : Option qL0 :=
 bif (decide (k > 0)) then (
 (sr01_twice a 0).bind fun a_1 =>
 chk (inK .i64 (k - 1)) <|
 rec_ a_1 (k - 1)
 ) else (
 some a
 )

def sr01_gcd_l5 : Nat → qL0 → Int → Option qL0
 | 0, _, _ => none
 | n_ + 1, a, k => sr01_gcd_l5_b (sr01_gcd_l5 n_) a k

def sr01_gcd_k6 (a : qL0) (k : Int) : Option qL0 :=
 (sr01_gcd_l5 big a k).bind fun x0 => sr01_gcd_k7 x0

def sr01_gcd_j5 (rec_ : qR83) (a : qL0) (b : qL0) (k : Int) : Option (qL0 × Int) :=
 (sr01_sub b a).bind fun b_1 =>
 rec_ a b_1 k

def sr01_gcd_k4 (rec_ : qR83) (a : qL0) (b : qL0) (k : Int) : Option (qL0 × Int) :=
 (sr01_cmp a b).bind fun q =>
 bif (decide (q > 0)) then (
 sr01_gcd_j5 rec_ b a k
 ) else (
 sr01_gcd_j5 rec_ a b k
 )

def sr01_gcd_l4_b (rec_ : qR87) (a : qL0) (b : qL0) (k : Int) : Option qS76 :=
 (idx b 0).bind fun b_e =>
 bif ((andK .u32 b_e 1) == 0) then (
 (sr01_half b).bind fun b_1 =>
 rec_ a b_1 k
 ) else (
 some (a, b, k)
 )

def sr01_gcd_l4 : Nat → qL0 → qL0 → Int → Option qS76
 | 0, _, _, _ => none
 | n_ + 1, a, b, k => sr01_gcd_l4_b (sr01_gcd_l4 n_) a b k

def sr01_gcd_k3 (rec_ : qR83) (a : qL0) (b : qL0) (k : Int) : Option (qL0 × Int) :=
 (sr01_gcd_l4 big a b k).bind fun (x0, x1, x2) => sr01_gcd_k4 rec_ x0 x1 x2

def sr01_gcd_l3_b (rec_ : qR87) (a : qL0) (b : qL0) (k : Int) : Option qS76 :=
 (idx a 0).bind fun a_e =>
 bif ((andK .u32 a_e 1) == 0) then (
 (sr01_half a).bind fun a_1 =>
 rec_ a_1 b k
 ) else (
 some (a, b, k)
 )

def sr01_gcd_l3 : Nat → qL0 → qL0 → Int → Option qS76
 | 0, _, _, _ => none
 | n_ + 1, a, b, k => sr01_gcd_l3_b (sr01_gcd_l3 n_) a b k

def sr01_gcd_l2_b (rec_ : qR83) (a : qL0) (b : qL0) (k : Int) : Option (qL0 × Int) :=
 bif (decide ((b.length : Int) > 0)) then (
 (sr01_gcd_l3 big a b k).bind fun (x0, x1, x2) => sr01_gcd_k3 rec_ x0 x1 x2
 ) else (
 some (a, k)
 )

def sr01_gcd_l2 : Nat → qL0 → qL0 → Int → Option (qL0 × Int)
 | 0, _, _, _ => none
 | n_ + 1, a, b, k => sr01_gcd_l2_b (sr01_gcd_l2 n_) a b k

def sr01_gcd_k2 (a : qL0) (b : qL0) (k : Int) : Option qL0 :=
 (sr01_gcd_l2 big a b k).bind fun (x0, x1) => sr01_gcd_k6 x0 x1

def sr01_gcd_j1 (rec_ : qR87) (a : qL0) (b : qL0) (k : Int) (t17 : Bool) : Option qS76 :=
 bif t17 then (
 (sr01_half a).bind fun a_1 =>
 (sr01_half b).bind fun b_1 =>
 chk (inK .i64 (k + 1)) <|
 rec_ a_1 b_1 (k + 1)
 ) else (
 some (a, b, k)
 )

def sr01_gcd_l1_b (rec_ : qR87) (a : qL0) (b : qL0) (k : Int) : Option qS76 :=
 (idx a 0).bind fun a_e =>
 bif ((andK .u32 a_e 1) == 0) then (
 (idx b 0).bind fun b_e =>
 sr01_gcd_j1 rec_ a b k ((andK .u32 b_e 1) == 0)
 ) else (
 sr01_gcd_j1 rec_ a b k false
 )

def sr01_gcd_l1 : Nat → qL0 → qL0 → Int → Option qS76
 | 0, _, _, _ => none
 | n_ + 1, a, b, k => sr01_gcd_l1_b (sr01_gcd_l1 n_) a b k

def sr01_gcd (a : qL0) (b : qL0) : Option qL0 :=
 (sr01_gcd_l1 big a b (0 : Int)).bind fun (x0, x1, x2) => sr01_gcd_k2 x0 x1 x2

/-! ### tablefinder/tablefinderref01.bit -/

def sr01_bit (a : qL0) (i : Int) : Option Int :=
 chk (decide ((32 : Int) ≠ 0)) <|
 chk (inK .i64 (Int.tdiv i 32)) <|
 (idx a (Int.tdiv i 32)).bind fun a_e =>
 chk (decide ((32 : Int) ≠ 0)) <|
 chk (decide (0 ≤ (IntKind.wrap .u64 (Int.tmod i 32)))) <|
 some (andK .u32 (shrK .u32 a_e (IntKind.wrap .u64 (Int.tmod i 32))) 1)

/-! ### tablefinder/tablefinderref01.div -/

def sr01_div_k2 (r_ : qL0) (q : qL0) : Option qS77 :=
 (sr01_trim q).bind fun q_1 =>
 some (q_1, r_)

def sr01_div_j1 (rec_ : qR79) (a : qL0) (b : qL0) (r_ : qL0) (i : Int) (q : qL0) : Option qS77 :=
 chk (inK .i64 (i - 1)) <|
 rec_ a b r_ (i - 1) q

def sr01_div_l1_b (rec_ : qR79) (a : qL0) (b : qL0) (r_ : qL0) (i : Int) (q : qL0) : Option qS77 :=
 bif (decide (i ≥ 0)) then (
 (sr01_bit a i).bind fun q_1 =>
 (sr01_twice r_ q_1).bind fun r__1 =>
 (sr01_cmp r__1 b).bind fun q_2 =>
 bif (decide (q_2 ≥ 0)) then (
 (sr01_sub r__1 b).bind fun r__2 =>
 chk (decide ((32 : Int) ≠ 0)) <|
 chk (inK .i64 (Int.tdiv i 32)) <|
 chk (inR (Int.tdiv i 32) (q.length : Int)) <|
 (q[((Int.tdiv i 32)).toNat]?).bind fun q_e =>
 chk (decide ((32 : Int) ≠ 0)) <|
 chk (decide (0 ≤ (IntKind.wrap .u64 (Int.tmod i 32)))) <|
 chk (inR (Int.tdiv i 32) (q.length : Int)) <|
 sr01_div_j1 rec_ a b r__2 i (q.set (((Int.tdiv i 32)).toNat) (orK .u32 q_e (shlK .u32 1 (IntKind.wrap .u64 (Int.tmod i 32)))))
 ) else (
 sr01_div_j1 rec_ a b r__1 i q
 )
 ) else (
 some (r_, q)
 )

def sr01_div_l1 : Nat → qL0 → qL0 → qL0 → Int → qL0 → Option qS77
 | 0, _, _, _, _, _ => none
 | n_ + 1, a, b, r_, i, q => sr01_div_l1_b (sr01_div_l1 n_) a b r_ i q

def sr01_div (a : qL0) (b : qL0) : Option qS77 :=
 chk (mkOk (a.length : Int) (a.length : Int) 4) <|
 chk (inK .i64 (32 * (a.length : Int))) <|
 chk (inK .i64 ((32 * (a.length : Int)) - 1)) <|
 (sr01_div_l1 big a b ([] : qL0) ((32 * (a.length : Int)) - 1) (List.replicate ((a.length : Int)).toNat (0 : Int))).bind fun (x0, x1) => sr01_div_k2 x0 x1

/-! ### tablefinder/tablefinderref01.lowest -/

def sr01_lowest (num : GaBig) (den : GaBig) : Option GaFraction :=
 bif ((num.Words.length : Int) == 0) then (
 (sr01_FromInt 1).bind fun q =>
 some (GaFraction.mk (GaBig.mk false ([] : qL0)) q)
 ) else (
 (sr01_gcd num.Words den.Words).bind fun g =>
 (sr01_div num.Words g).bind fun (x_, q_1) =>
 (sr01_div den.Words g).bind fun (y, q_2) =>
 (sr01_big (!(num.Neg == den.Neg)) x_).bind fun q_3 =>
 (sr01_big false y).bind fun q_4 =>
 some (GaFraction.mk q_3 q_4)
 )

/-! ### tablefinder/tablefinderref01.Make -/

def sr01_Make_j1 (t13 : Bool) (num : GaBig) (den : GaBig) (t4 : Bool) (t4_1 : Bool) (t4_2 : qL0) (t4_3 : qL0) : Option (GaFraction × Int) :=
 bif t13 then (
 some ((GaFraction.mk (GaBig.mk false ([] : qL0)) (GaBig.mk false ([] : qL0))), 1)
 ) else (
 bif ((den.Words.length : Int) == 0) then (
 some ((GaFraction.mk (GaBig.mk false ([] : qL0)) (GaBig.mk false ([] : qL0))), 8)
 ) else (
 (sr01_lowest num den).bind fun q =>
 some (q, 0)
 )
 )

def sr01_Make (num : GaBig) (den : GaBig) : Option (GaFraction × Int) :=
 (sr01_ValidBig num).bind fun q =>
 bif (!q) then (
 sr01_Make_j1 true num den false false ([] : qL0) ([] : qL0)
 ) else (
 (sr01_ValidBig den).bind fun q_1 =>
 sr01_Make_j1 (!q_1) num den false false ([] : qL0) ([] : qL0)
 )

/-! ### tablefinder/tablefinderref01.Of -/

def sr01_Of (num : Int) (den : Int) : Option (GaFraction × Int) :=
 (sr01_FromInt num).bind fun q =>
 (sr01_FromInt den).bind fun q_1 =>
 (sr01_Make q q_1).bind fun (q_2, q_3) =>
 some (q_2, q_3)

/-! ### tablefinder/tablefinderref23.Part -/

def sr23_Part (n : Int) (d : Int) : Option GaFraction :=
 (sr01_Of n d).bind fun (f, q) =>
 some f

/-! ### tablefinder/tablefinderref23.Int -/

def sr23_Int (n : Int) : Option GaFraction :=
 (sr23_Part n 1).bind fun q =>
 some q

/-! ### tablefinder/tablefinderlaw25.line -/

def sl25_line  : Option qL1 :=
 (sr23_Int 1).bind fun q =>
 (sr23_Int 2).bind fun q_1 =>
 (sr23_Int 2).bind fun q_2 =>
 (sr23_Int 4).bind fun q_3 =>
 (sr23_Int 3).bind fun q_4 =>
 (sr23_Int 6).bind fun q_5 =>
 some ([(G_arr2_GaFraction.mk q q_1), (G_arr2_GaFraction.mk q_2 q_3), (G_arr2_GaFraction.mk q_4 q_5)] : qL1)

/-! ### tablefinder/fraction.trimmed -/

def s_fraction_trimmed_k2 (w_ : qL0) : Option qL0 :=
 some w_

def s_fraction_trimmed_j1 (rec_ : qR88) (w_ : qL0) (t14 : Bool) : Option qL0 :=
 bif t14 then (
 chk (inK .i64 ((w_.length : Int) - 1)) <|
 chk (within 0 ((w_.length : Int) - 1) (w_.length : Int)) <|
 rec_ (w_.take (((w_.length : Int) - 1)).toNat)
 ) else (
 some w_
 )

def s_fraction_trimmed_l1_b (rec_ : qR88) (w_ : qL0) : Option qL0 :=
 bif (decide ((w_.length : Int) > 0)) then (
 chk (inK .i64 ((w_.length : Int) - 1)) <|
 (idx w_ ((w_.length : Int) - 1)).bind fun w__e =>
 s_fraction_trimmed_j1 rec_ w_ (w__e == 0)
 ) else (
 s_fraction_trimmed_j1 rec_ w_ false
 )

def s_fraction_trimmed_l1 : Nat → qL0 → Option qL0
 | 0, _ => none
 | n_ + 1, w_ => s_fraction_trimmed_l1_b (s_fraction_trimmed_l1 n_) w_

def s_fraction_trimmed_l1_F (n : Nat) (s : qL0) : Option qL0 := s_fraction_trimmed_l1 n s
def s_fraction_trimmed_l1_B (rec_ : qR88) (s : qL0) : Option qL0 := s_fraction_trimmed_l1_b (fun w_ => rec_ w_) s
theorem s_fraction_trimmed_l1_FB : ∀ n s, s_fraction_trimmed_l1_F (n + 1) s = s_fraction_trimmed_l1_B (s_fraction_trimmed_l1_F n) s := fun _ _ => rfl

def s_fraction_trimmed (w_ : qL0) : Option qL0 :=
 (s_fraction_trimmed_l1 big w_).bind fun x0 => s_fraction_trimmed_k2 x0

/-! ### tablefinder/fraction.natural -/

def s_fraction_natural (n : Int) : Option qL0 :=
 chk (decide (0 ≤ (32 : Int))) <|
 (s_fraction_trimmed ([(IntKind.wrap .u32 n), (IntKind.wrap .u32 (shrK .u64 n 32))] : qL0)).bind fun q =>
 some q

/-! ### tablefinder/fraction.signed -/

def s_fraction_signed_j1 (t4 : Bool) (t4_1 : qL0) : Option GaBig :=
 some (GaBig.mk t4 t4_1)

def s_fraction_signed (neg : Bool) (w_ : qL0) : Option GaBig :=
 bif neg then (
 chk (room w_.length 4) <|
 s_fraction_signed_j1 (decide ((w_.length : Int) > 0)) w_
 ) else (
 chk (room w_.length 4) <|
 s_fraction_signed_j1 false w_
 )

/-! ### tablefinder/fraction.FromInt -/

def s_fraction_FromInt (n : Int) : Option GaBig :=
 bif (decide (n < 0)) then (
 (s_fraction_natural (IntKind.wrap .u64 (0 - (IntKind.wrap .u64 n)))).bind fun q =>
 (s_fraction_signed true q).bind fun q_1 =>
 some q_1
 ) else (
 (s_fraction_natural (IntKind.wrap .u64 n)).bind fun q_2 =>
 (s_fraction_signed false q_2).bind fun q_3 =>
 some q_3
 )

/-! ### tablefinder/fraction.ValidBig -/

def s_fraction_ValidBig_j1 (t2 : Bool) : Option Bool :=
 some t2

def s_fraction_ValidBig (a : GaBig) : Option Bool :=
 bif (decide ((a.Words.length : Int) ≤ 256)) then (
 bif ((a.Words.length : Int) == 0) then (
 bif (!a.Neg) then (
 s_fraction_ValidBig_j1 true
 ) else (
 bif (decide ((a.Words.length : Int) > 0)) then (
 chk (inK .i64 ((a.Words.length : Int) - 1)) <|
 (idx a.Words ((a.Words.length : Int) - 1)).bind fun Word =>
 s_fraction_ValidBig_j1 (Word != 0)
 ) else (
 s_fraction_ValidBig_j1 false
 )
 )
 ) else (
 bif (decide ((a.Words.length : Int) > 0)) then (
 chk (inK .i64 ((a.Words.length : Int) - 1)) <|
 (idx a.Words ((a.Words.length : Int) - 1)).bind fun Word_1 =>
 s_fraction_ValidBig_j1 (Word_1 != 0)
 ) else (
 s_fraction_ValidBig_j1 false
 )
 )
 ) else (
 s_fraction_ValidBig_j1 false
 )

/-! ### tablefinder/fraction.bigs -/

def s_fraction_bigs_k1  : Option Bool :=
 some true

def s_fraction_bigs_l1_b (rec_ : (List GaBig) → Int → Int → Option (Out Unit Bool)) (t5 : (List GaBig)) (t6 : Int) (t7 : Int) : Option (Out Unit Bool) :=
 bif (decide (t7 < t6)) then (
 (idx t5 t7).bind fun a =>
 (s_fraction_ValidBig a).bind fun q =>
 bif (!q) then (
 some (.ret false)
 ) else (
 chk (inK .i64 (t7 + 1)) <|
 rec_ t5 t6 (t7 + 1)
 )
 ) else (
 some (.brk ())
 )

def s_fraction_bigs_l1 : Nat → (List GaBig) → Int → Int → Option (Out Unit Bool)
 | 0, _, _, _ => none
 | n_ + 1, t5, t6, t7 => s_fraction_bigs_l1_b (s_fraction_bigs_l1 n_) t5 t6 t7

def s_fraction_bigs_l1_F (n : Nat) (s : ((List GaBig) × Int × Int)) : Option (Out Unit Bool) := s_fraction_bigs_l1 n s.1 s.2.1 s.2.2
def s_fraction_bigs_l1_B (rec_ : ((List GaBig) × Int × Int) → Option (Out Unit Bool)) (s : ((List GaBig) × Int × Int)) : Option (Out Unit Bool) := s_fraction_bigs_l1_b (fun t5 t6 t7 => rec_ (t5, t6, t7)) s.1 s.2.1 s.2.2
theorem s_fraction_bigs_l1_FB : ∀ n s, s_fraction_bigs_l1_F (n + 1) s = s_fraction_bigs_l1_B (s_fraction_bigs_l1_F n) s := fun _ _ => rfl

def s_fraction_bigs (l : (List GaBig)) : Option Bool :=
 (s_fraction_bigs_l1 big l (l.length : Int) (0 : Int)).bind fun
 | .ret q_ => some q_
 | .brk () => s_fraction_bigs_k1

/-! ### cmp.isNaN[int] -/

def s_cmp_isNaN_int (x_ : Int) : Option Bool :=
 some (x_ != x_)

/-! ### cmp.Compare[int] -/

def s_cmp_Compare_int (x_ : Int) (y : Int) : Option Int :=
 (s_cmp_isNaN_int x_).bind fun xNaN =>
 (s_cmp_isNaN_int y).bind fun yNaN =>
 bif xNaN then (
 bif yNaN then (
 some (0 : Int)
 ) else (
 some (-1 : Int)
 )
 ) else (
 bif yNaN then (
 some (1 : Int)
 ) else (
 bif (decide (x_ < y)) then (
 some (-1 : Int)
 ) else (
 bif (decide (x_ > y)) then (
 some (1 : Int)
 ) else (
 some (0 : Int)
 )
 )
 )
 )

/-! ### cmp.isNaN[uint32] -/

def s_cmp_isNaN_uint32 (x_ : Int) : Option Bool :=
 some (x_ != x_)

/-! ### cmp.Compare[uint32] -/

def s_cmp_Compare_uint32 (x_ : Int) (y : Int) : Option Int :=
 (s_cmp_isNaN_uint32 x_).bind fun xNaN =>
 (s_cmp_isNaN_uint32 y).bind fun yNaN =>
 bif xNaN then (
 bif yNaN then (
 some (0 : Int)
 ) else (
 some (-1 : Int)
 )
 ) else (
 bif yNaN then (
 some (1 : Int)
 ) else (
 bif (decide (x_ < y)) then (
 some (-1 : Int)
 ) else (
 bif (decide (x_ > y)) then (
 some (1 : Int)
 ) else (
 some (0 : Int)
 )
 )
 )
 )

/-! ### (tablefinder/fraction.words).compare -/

def s_fraction_words_compare_k1  : Option Int :=
 some (0 : Int)

def s_fraction_words_compare_l1_b (rec_ : qR86) (w_ : qL0) (v_ : qL0) (i : Int) : Option (Out Unit Int) :=
 bif (decide (i ≥ 0)) then (
 (idx w_ i).bind fun w__e =>
 (idx v_ i).bind fun v__e =>
 (s_cmp_Compare_uint32 w__e v__e).bind fun c =>
 bif (c != 0) then (
 some (.ret c)
 ) else (
 chk (inK .i64 (i - 1)) <|
 rec_ w_ v_ (i - 1)
 )
 ) else (
 some (.brk ())
 )

def s_fraction_words_compare_l1 : Nat → qL0 → qL0 → Int → Option (Out Unit Int)
 | 0, _, _, _ => none
 | n_ + 1, w_, v_, i => s_fraction_words_compare_l1_b (s_fraction_words_compare_l1 n_) w_ v_ i

def s_fraction_words_compare (w_ : qL0) (v_ : qL0) : Option Int :=
 (s_cmp_Compare_int (w_.length : Int) (v_.length : Int)).bind fun c =>
 bif (c != 0) then (
 some c
 ) else (
 chk (inK .i64 ((w_.length : Int) - 1)) <|
 (s_fraction_words_compare_l1 big w_ v_ ((w_.length : Int) - 1)).bind fun
 | .ret q_ => some q_
 | .brk () => s_fraction_words_compare_k1
 )

/-! ### slices.Clone[tablefinder/fraction.words,uint32] -/

def ss_Clone_fraction_words_uint32_j1 (s : qL0) (t4 : Bool) : Option qL0 :=
 bif t4 then (
 some ([] : qL0)
 ) else (
 chk (room (([] : qL0).length + s.length) 4) <|
 some (([] : qL0) ++ s)
 )

def ss_Clone_fraction_words_uint32 (s : qL0) : Option qL0 :=
 bif (List.isEmpty s) then agree (
 ss_Clone_fraction_words_uint32_j1 s true
 ) (
 ss_Clone_fraction_words_uint32_j1 s false
 ) else (
 ss_Clone_fraction_words_uint32_j1 s false
 )

/-! ### math/bits.Div32 -/

def s_math_bits_Div32_j1 (hi : Int) (lo : Int) (y : Int) (t15 : Bool) : Option (Int × Int) :=
 bif t15 then (
 none
 ) else (
 chk (decide (0 ≤ (32 : Int))) <|
 chk (decide ((IntKind.wrap .u64 y) ≠ 0)) <|
 chk (decide ((IntKind.wrap .u64 y) ≠ 0)) <|
 some ((IntKind.wrap .u32 (IntKind.wrap .u64 (Int.tdiv (orK .u64 (shlK .u64 (IntKind.wrap .u64 hi) 32) (IntKind.wrap .u64 lo)) (IntKind.wrap .u64 y)))), (IntKind.wrap .u32 (Int.tmod (orK .u64 (shlK .u64 (IntKind.wrap .u64 hi) 32) (IntKind.wrap .u64 lo)) (IntKind.wrap .u64 y))))
 )

def s_math_bits_Div32 (hi : Int) (lo : Int) (y : Int) : Option (Int × Int) :=
 bif (y != 0) then (
 s_math_bits_Div32_j1 hi lo y (decide (y ≤ hi))
 ) else (
 s_math_bits_Div32_j1 hi lo y false
 )

/-! ### (tablefinder/fraction.words).short -/

def s_fraction_words_short_k1 (rest : Int) (out : qL0) : Option (qL0 × Int) :=
 (s_fraction_trimmed out).bind fun q =>
 some (q, rest)

def s_fraction_words_short_l1_b (rec_ : qL0 → Int → Int → Int → qL0 → Option (Int × qL0)) (w_ : qL0) (d : Int) (rest : Int) (i : Int) (out : qL0) : Option (Int × qL0) :=
 bif (decide (i ≥ 0)) then (
 (idx w_ i).bind fun w__e =>
 (s_math_bits_Div32 rest w__e d).bind fun (q, rest_1) =>
 chk (inR i (out.length : Int)) <|
 chk (inK .i64 (i - 1)) <|
 rec_ w_ d rest_1 (i - 1) (out.set ((i).toNat) q)
 ) else (
 some (rest, out)
 )

def s_fraction_words_short_l1 : Nat → qL0 → Int → Int → Int → qL0 → Option (Int × qL0)
 | 0, _, _, _, _, _ => none
 | n_ + 1, w_, d, rest, i, out => s_fraction_words_short_l1_b (s_fraction_words_short_l1 n_) w_ d rest i out

def s_fraction_words_short (w_ : qL0) (d : Int) : Option (qL0 × Int) :=
 chk (mkOk (w_.length : Int) (w_.length : Int) 4) <|
 chk (inK .i64 ((w_.length : Int) - 1)) <|
 (s_fraction_words_short_l1 big w_ d (0 : Int) ((w_.length : Int) - 1) (List.replicate ((w_.length : Int)).toNat (0 : Int))).bind fun (x0, x1) => s_fraction_words_short_k1 x0 x1

/-! ### math/bits.Len32 -/

def s_math_bits_Len32_j2 (x_ : Int) (n : Int) : Option Int :=
 (idx ([0, 1, 2, 2, 3, 3, 3, 3, 4, 4, 4, 4, 4, 4, 4, 4, 5, 5, 5, 5, 5, 5, 5, 5, 5, 5, 5, 5, 5, 5, 5, 5, 6, 6, 6, 6, 6, 6, 6, 6, 6, 6, 6, 6, 6, 6, 6, 6, 6, 6, 6, 6, 6, 6, 6, 6, 6, 6, 6, 6, 6, 6, 6, 6, 7, 7, 7, 7, 7, 7, 7, 7, 7, 7, 7, 7, 7, 7, 7, 7, 7, 7, 7, 7, 7, 7, 7, 7, 7, 7, 7, 7, 7, 7, 7, 7, 7, 7, 7, 7, 7, 7, 7, 7, 7, 7, 7, 7, 7, 7, 7, 7, 7, 7, 7, 7, 7, 7, 7, 7, 7, 7, 7, 7, 7, 7, 7, 7, 8, 8, 8, 8, 8, 8, 8, 8, 8, 8, 8, 8, 8, 8, 8, 8, 8, 8, 8, 8, 8, 8, 8, 8, 8, 8, 8, 8, 8, 8, 8, 8, 8, 8, 8, 8, 8, 8, 8, 8, 8, 8, 8, 8, 8, 8, 8, 8, 8, 8, 8, 8, 8, 8, 8, 8, 8, 8, 8, 8, 8, 8, 8, 8, 8, 8, 8, 8, 8, 8, 8, 8, 8, 8, 8, 8, 8, 8, 8, 8, 8, 8, 8, 8, 8, 8, 8, 8, 8, 8, 8, 8, 8, 8, 8, 8, 8, 8, 8, 8, 8, 8, 8, 8, 8, 8, 8, 8, 8, 8, 8, 8, 8, 8, 8, 8, 8, 8, 8, 8, 8, 8, 8, 8, 8, 8, 8, 8] : Str) (IntKind.wrap .u8 x_)).bind fun c =>
 chk (inK .i64 (n + (IntKind.wrap .i64 ((c.toNat : Nat) : Int)))) <|
 some (n + (IntKind.wrap .i64 ((c.toNat : Nat) : Int)))

def s_math_bits_Len32_j1 (x_ : Int) (n : Int) : Option Int :=
 bif (decide (x_ ≥ 256)) then (
 chk (decide (0 ≤ (8 : Int))) <|
 chk (inK .i64 (n + 8)) <|
 s_math_bits_Len32_j2 (shrK .u32 x_ 8) (n + 8)
 ) else (
 s_math_bits_Len32_j2 x_ n
 )

def s_math_bits_Len32 (x_ : Int) : Option Int :=
 bif (decide (x_ ≥ 65536)) then (
 chk (decide (0 ≤ (16 : Int))) <|
 s_math_bits_Len32_j1 (shrK .u32 x_ 16) (16 : Int)
 ) else (
 s_math_bits_Len32_j1 x_ (0 : Int)
 )

/-! ### math/bits.LeadingZeros32 -/

def s_math_bits_LeadingZeros32 (x_ : Int) : Option Int :=
 (s_math_bits_Len32 x_).bind fun q =>
 chk (inK .i64 (32 - q)) <|
 some (32 - q)

/-! ### (tablefinder/fraction.words).shifted -/

def s_fraction_words_shifted_k1 (out : qL0) : Option qL0 :=
 some out

def s_fraction_words_shifted_l1_b (rec_ : Int → qL0 → Int → Int → qL0 → Option qL0) (n : Int) (t13 : qL0) (t14 : Int) (i : Int) (out : qL0) : Option qL0 :=
 bif (decide (i < t14)) then (
 (idx t13 i).bind fun d =>
 chk (decide (0 ≤ n)) <|
 chk (inR i (out.length : Int)) <|
 (out[(i).toNat]?).bind fun out_e =>
 chk (inR i (out.length : Int)) <|
 chk (inK .i64 (i + 1)) <|
 chk (decide (0 ≤ (32 : Int))) <|
 chk (inR (i + 1) ((out.set ((i).toNat) (orK .u32 out_e (IntKind.wrap .u32 (shlK .u64 (IntKind.wrap .u64 d) n)))).length : Int)) <|
 chk (inK .i64 (i + 1)) <|
 rec_ n t13 t14 (i + 1) ((out.set ((i).toNat) (orK .u32 out_e (IntKind.wrap .u32 (shlK .u64 (IntKind.wrap .u64 d) n)))).set (((i + 1)).toNat) (IntKind.wrap .u32 (shrK .u64 (shlK .u64 (IntKind.wrap .u64 d) n) 32)))
 ) else (
 some out
 )

def s_fraction_words_shifted_l1 : Nat → Int → qL0 → Int → Int → qL0 → Option qL0
 | 0, _, _, _, _, _ => none
 | n_ + 1, n, t13, t14, i, out => s_fraction_words_shifted_l1_b (s_fraction_words_shifted_l1 n_) n t13 t14 i out

def s_fraction_words_shifted (w_ : qL0) (n : Int) : Option qL0 :=
 chk (inK .i64 ((w_.length : Int) + 1)) <|
 chk (mkOk ((w_.length : Int) + 1) ((w_.length : Int) + 1) 4) <|
 (s_fraction_words_shifted_l1 big n w_ (w_.length : Int) (0 : Int) (List.replicate (((w_.length : Int) + 1)).toNat (0 : Int))).bind fun x0 => s_fraction_words_shifted_k1 x0

/-! ### math/bits.Sub32 -/

def s_math_bits_Sub32 (x_ : Int) (y : Int) (borrow : Int) : Option (Int × Int) :=
 chk (decide (0 ≤ (31 : Int))) <|
 some ((IntKind.wrap .u32 ((IntKind.wrap .u32 (x_ - y)) - borrow)), (shrK .u32 (orK .u32 (andK .u32 (xorK .u32 (if IntKind.signed .u32 then -1 else IntKind.max .u32) x_) y) (andK .u32 (xorK .u32 (if IntKind.signed .u32 then -1 else IntKind.max .u32) (xorK .u32 x_ y)) (IntKind.wrap .u32 ((IntKind.wrap .u32 (x_ - y)) - borrow)))) 31))

/-! ### math/bits.Add32 -/

def s_math_bits_Add32 (x_ : Int) (y : Int) (carry : Int) : Option (Int × Int) :=
 chk (decide (0 ≤ (32 : Int))) <|
 some ((IntKind.wrap .u32 (IntKind.wrap .u64 ((IntKind.wrap .u64 ((IntKind.wrap .u64 x_) + (IntKind.wrap .u64 y))) + (IntKind.wrap .u64 carry)))), (IntKind.wrap .u32 (shrK .u64 (IntKind.wrap .u64 ((IntKind.wrap .u64 ((IntKind.wrap .u64 x_) + (IntKind.wrap .u64 y))) + (IntKind.wrap .u64 carry))) 32)))

/-! ### tablefinder/fraction.digit -/

def s_fraction_digit_k4 (u_off : Nat) (u_len : Nat) (n : Int) (guess : Int) (add : Int) (u : qL0) : Option (Int × qL0) :=
 chk (inR n (u_len : Int)) <|
 (u[(u_off + (n).toNat)]?).bind fun u_e =>
 chk (inR n (u_len : Int)) <|
 some ((IntKind.wrap .u32 (IntKind.wrap .u64 (guess - 1))), (u.set (u_off + (n).toNat) (IntKind.wrap .u32 (u_e + add))))

def s_fraction_digit_l3_b (rec_ : Nat → Nat → Int → Int → Int → qL0 → Int → Int → qL0 → Option qS71) (u_off : Nat) (u_len : Nat) (n : Int) (guess : Int) (add : Int) (t130 : qL0) (t131 : Int) (i : Int) (u : qL0) : Option qS71 :=
 bif (decide (i < t131)) then (
 (idx t130 i).bind fun x_ =>
 chk (inR i (u_len : Int)) <|
 (u[(u_off + (i).toNat)]?).bind fun u_e =>
 (s_math_bits_Add32 u_e x_ add).bind fun (q, add_1) =>
 chk (inR i (u_len : Int)) <|
 chk (inK .i64 (i + 1)) <|
 rec_ u_off u_len n guess add_1 t130 t131 (i + 1) (u.set (u_off + (i).toNat) q)
 ) else (
 some (u_off, u_len, n, guess, add, u)
 )

def s_fraction_digit_l3 : Nat → Nat → Nat → Int → Int → Int → qL0 → Int → Int → qL0 → Option qS71
 | 0, _, _, _, _, _, _, _, _, _ => none
 | n_ + 1, u_off, u_len, n, guess, add, t130, t131, i, u => s_fraction_digit_l3_b (s_fraction_digit_l3 n_) u_off u_len n guess add t130 t131 i u

def s_fraction_digit_k3 (u_off : Nat) (u_len : Nat) (d : qL0) (n : Int) (guess : Int) (borrow : Int) (carry : Int) (u : qL0) : Option (Int × qL0) :=
 chk (inR n (u_len : Int)) <|
 (u[(u_off + (n).toNat)]?).bind fun u_e =>
 (s_math_bits_Sub32 u_e (IntKind.wrap .u32 carry) borrow).bind fun (q, borrow_1) =>
 chk (inR n (u_len : Int)) <|
 bif (borrow_1 == 0) then (
 some ((IntKind.wrap .u32 guess), (u.set (u_off + (n).toNat) q))
 ) else (
 (s_fraction_digit_l3 big u_off u_len n guess (0 : Int) d (d.length : Int) (0 : Int) (u.set (u_off + (n).toNat) q)).bind fun (x0, x1, x2, x3, x4, x5) => s_fraction_digit_k4 x0 x1 x2 x3 x4 x5
 )

def s_fraction_digit_l2_b (rec_ : Nat → Nat → qL0 → Int → Int → Int → Int → qL0 → Int → Int → qL0 → Option qS65) (u_off : Nat) (u_len : Nat) (d : qL0) (n : Int) (guess : Int) (borrow : Int) (carry : Int) (t82 : qL0) (t83 : Int) (i : Int) (u : qL0) : Option qS65 :=
 bif (decide (i < t83)) then (
 (idx t82 i).bind fun x_ =>
 chk (inR i (u_len : Int)) <|
 (u[(u_off + (i).toNat)]?).bind fun u_e =>
 (s_math_bits_Sub32 u_e (IntKind.wrap .u32 (IntKind.wrap .u64 (carry + (IntKind.wrap .u64 (guess * (IntKind.wrap .u64 x_)))))) borrow).bind fun (q, borrow_1) =>
 chk (inR i (u_len : Int)) <|
 chk (decide (0 ≤ (32 : Int))) <|
 chk (inK .i64 (i + 1)) <|
 rec_ u_off u_len d n guess borrow_1 (shrK .u64 (IntKind.wrap .u64 (carry + (IntKind.wrap .u64 (guess * (IntKind.wrap .u64 x_))))) 32) t82 t83 (i + 1) (u.set (u_off + (i).toNat) q)
 ) else (
 some (u_off, u_len, d, n, guess, borrow, carry, u)
 )

def s_fraction_digit_l2 : Nat → Nat → Nat → qL0 → Int → Int → Int → Int → qL0 → Int → Int → qL0 → Option qS65
 | 0, _, _, _, _, _, _, _, _, _, _, _ => none
 | n_ + 1, u_off, u_len, d, n, guess, borrow, carry, t82, t83, i, u => s_fraction_digit_l2_b (s_fraction_digit_l2 n_) u_off u_len d n guess borrow carry t82 t83 i u

def s_fraction_digit_k2 (u_off : Nat) (u_len : Nat) (d : qL0) (n : Int) (guess : Int) (u : qL0) : Option (Int × qL0) :=
 (s_fraction_digit_l2 big u_off u_len d n guess (0 : Int) (0 : Int) d (d.length : Int) (0 : Int) u).bind fun (x0, x1, x2, x3, x4, x5, x6, x7) => s_fraction_digit_k3 x0 x1 x2 x3 x4 x5 x6 x7

def s_fraction_digit_j1 (rec_ : qR81) (u_off : Nat) (u_len : Nat) (d : qL0) (n : Int) (guess : Int) (rest : Int) (t71 : Bool) (u : qL0) : Option qS69 :=
 bif t71 then (
 chk (inK .i64 (n - 1)) <|
 (idx d (n - 1)).bind fun d_e =>
 rec_ u_off u_len d n (IntKind.wrap .u64 (guess - 1)) (IntKind.wrap .u64 (rest + (IntKind.wrap .u64 d_e))) u
 ) else (
 some (u_off, u_len, d, n, guess, u)
 )

def s_fraction_digit_l1_b (rec_ : qR81) (u_off : Nat) (u_len : Nat) (d : qL0) (n : Int) (guess : Int) (rest : Int) (u : qL0) : Option qS69 :=
 bif (decide (rest < 4294967296)) then (
 chk (inK .i64 (n - 2)) <|
 (idx d (n - 2)).bind fun d_e =>
 chk (decide (0 ≤ (32 : Int))) <|
 chk (inK .i64 (n - 2)) <|
 chk (inR (n - 2) (u_len : Int)) <|
 (u[(u_off + ((n - 2)).toNat)]?).bind fun u_e =>
 s_fraction_digit_j1 rec_ u_off u_len d n guess rest (decide ((IntKind.wrap .u64 (guess * (IntKind.wrap .u64 d_e))) > (orK .u64 (shlK .u64 rest 32) (IntKind.wrap .u64 u_e)))) u
 ) else (
 s_fraction_digit_j1 rec_ u_off u_len d n guess rest false u
 )

def s_fraction_digit_l1 : Nat → Nat → Nat → qL0 → Int → Int → Int → qL0 → Option qS69
 | 0, _, _, _, _, _, _, _ => none
 | n_ + 1, u_off, u_len, d, n, guess, rest, u => s_fraction_digit_l1_b (s_fraction_digit_l1 n_) u_off u_len d n guess rest u

def s_fraction_digit (u : qL0) (u_off : Nat) (u_len : Nat) (d : qL0) : Option (Int × qL0) :=
 chk (inR (d.length : Int) (u_len : Int)) <|
 (u[(u_off + ((d.length : Int)).toNat)]?).bind fun u_e =>
 chk (decide (0 ≤ (32 : Int))) <|
 chk (inK .i64 ((d.length : Int) - 1)) <|
 chk (inR ((d.length : Int) - 1) (u_len : Int)) <|
 (u[(u_off + (((d.length : Int) - 1)).toNat)]?).bind fun u_e_1 =>
 chk (inK .i64 ((d.length : Int) - 1)) <|
 (idx d ((d.length : Int) - 1)).bind fun d_e =>
 chk (decide ((IntKind.wrap .u64 d_e) ≠ 0)) <|
 chk (inK .i64 ((d.length : Int) - 1)) <|
 (idx d ((d.length : Int) - 1)).bind fun d_e_1 =>
 (s_fraction_digit_l1 big u_off u_len d (d.length : Int) (if (4294967295 : Int) < (IntKind.wrap .u64 (Int.tdiv (orK .u64 (shlK .u64 (IntKind.wrap .u64 u_e) 32) (IntKind.wrap .u64 u_e_1)) (IntKind.wrap .u64 d_e))) then (4294967295 : Int) else (IntKind.wrap .u64 (Int.tdiv (orK .u64 (shlK .u64 (IntKind.wrap .u64 u_e) 32) (IntKind.wrap .u64 u_e_1)) (IntKind.wrap .u64 d_e)))) (IntKind.wrap .u64 ((orK .u64 (shlK .u64 (IntKind.wrap .u64 u_e) 32) (IntKind.wrap .u64 u_e_1)) - (IntKind.wrap .u64 ((if (4294967295 : Int) < (IntKind.wrap .u64 (Int.tdiv (orK .u64 (shlK .u64 (IntKind.wrap .u64 u_e) 32) (IntKind.wrap .u64 u_e_1)) (IntKind.wrap .u64 d_e))) then (4294967295 : Int) else (IntKind.wrap .u64 (Int.tdiv (orK .u64 (shlK .u64 (IntKind.wrap .u64 u_e) 32) (IntKind.wrap .u64 u_e_1)) (IntKind.wrap .u64 d_e)))) * (IntKind.wrap .u64 d_e_1))))) u).bind fun (x0, x1, x2, x3, x4, x5) => s_fraction_digit_k2 x0 x1 x2 x3 x4 x5

def s_fraction_digit_w (u : qL0) (u_off : Nat) (u_len : Nat) (d : qL0) : Option (Int × qL0) :=
 (s_fraction_digit u u_off u_len d).bind fun r => chk (decide (r.2.length = u.length) && true) (some r)

/-! ### (tablefinder/fraction.words).at -/

def s_fraction_words_at (w_ : qL0) (i : Int) : Option Int :=
 bif (decide (i < (w_.length : Int))) then (
 (idx w_ i).bind fun w__e =>
 some w__e
 ) else (
 some (0 : Int)
 )

/-! ### (tablefinder/fraction.words).over -/

def s_fraction_words_over_k2 (rest : qL0) (q : qL0) : Option qS77 :=
 (s_fraction_trimmed q).bind fun q_1 =>
 (s_fraction_trimmed rest).bind fun q_2 =>
 some (q_1, q_2)

def s_fraction_words_over_l2_b (rec_ : Int → qL0 → Int → Int → qL0 → Option qS77) (shift : Int) (rest : qL0) (t86 : Int) (i : Int) (q : qL0) : Option qS77 :=
 bif (decide (i < t86)) then (
 chk (inK .i64 (i + 1)) <|
 (s_fraction_words_at rest (i + 1)).bind fun q_1 =>
 chk (decide (0 ≤ (32 : Int))) <|
 (idx rest i).bind fun rest_e =>
 chk (decide (0 ≤ shift)) <|
 (idx rest i).bind fun rest_e_1 =>
 none
 ) else (
 some (rest, q)
 )

def s_fraction_words_over_l2 : Nat → Int → qL0 → Int → Int → qL0 → Option qS77
 | 0, _, _, _, _, _ => none
 | n_ + 1, shift, rest, t86, i, q => s_fraction_words_over_l2_b (s_fraction_words_over_l2 n_) shift rest t86 i q

def s_fraction_words_over_k1 (n : Int) (shift : Int) (u : qL0) (q : qL0) : Option qS77 :=
 chk (within 0 n (u.length : Int)) <|
 (s_fraction_trimmed ((u.drop 0).take ((n).toNat - 0))).bind fun rest =>
 (s_fraction_words_over_l2 big shift rest (rest.length : Int) (0 : Int) q).bind fun (x0, x1) => s_fraction_words_over_k2 x0 x1

def s_fraction_words_over_l1_b (rec_ : Int → Int → qL0 → Int → qL0 → qL0 → Option qS73) (n : Int) (shift : Int) (d : qL0) (j : Int) (u : qL0) (q : qL0) : Option qS73 :=
 bif (decide (j ≥ 0)) then (
 chk (inK .i64 (j + n)) <|
 chk (inK .i64 ((j + n) + 1)) <|
 chk (within j ((j + n) + 1) (u.length : Int)) <|
 (s_fraction_digit_w u ((j).toNat) ((((j + n) + 1)).toNat - (j).toNat) d).bind fun (q_1, t77) =>
 chk (inR j (q.length : Int)) <|
 chk (inK .i64 (j - 1)) <|
 rec_ n shift d (j - 1) t77 (q.set ((j).toNat) q_1)
 ) else (
 some (n, shift, u, q)
 )

def s_fraction_words_over_l1 : Nat → Int → Int → qL0 → Int → qL0 → qL0 → Option qS73
 | 0, _, _, _, _, _, _ => none
 | n_ + 1, n, shift, d, j, u, q => s_fraction_words_over_l1_b (s_fraction_words_over_l1 n_) n shift d j u q

def s_fraction_words_over (w_ : qL0) (v_ : qL0) : Option qS77 :=
 (s_fraction_words_compare w_ v_).bind fun q =>
 bif (decide (q < 0)) then (
 (ss_Clone_fraction_words_uint32 w_).bind fun q_1 =>
 some (([] : qL0), q_1)
 ) else (
 bif ((v_.length : Int) == 1) then (
 (idx v_ 0).bind fun v__e =>
 (s_fraction_words_short w_ v__e).bind fun (q_2, r_) =>
 (s_fraction_trimmed ([r_] : qL0)).bind fun q_3 =>
 some (q_2, q_3)
 ) else (
 chk (inK .i64 ((v_.length : Int) - 1)) <|
 (idx v_ ((v_.length : Int) - 1)).bind fun v__e_1 =>
 (s_math_bits_LeadingZeros32 v__e_1).bind fun shift =>
 (s_fraction_words_shifted w_ shift).bind fun u =>
 (s_fraction_words_shifted v_ shift).bind fun q_4 =>
 chk (within 0 (v_.length : Int) (q_4.length : Int)) <|
 chk (inK .i64 ((w_.length : Int) - (v_.length : Int))) <|
 chk (inK .i64 (((w_.length : Int) - (v_.length : Int)) + 1)) <|
 chk (mkOk (((w_.length : Int) - (v_.length : Int)) + 1) (((w_.length : Int) - (v_.length : Int)) + 1) 4) <|
 chk (inK .i64 (((List.replicate ((((w_.length : Int) - (v_.length : Int)) + 1)).toNat (0 : Int)).length : Int) - 1)) <|
 (s_fraction_words_over_l1 big (v_.length : Int) shift ((q_4.drop 0).take (((v_.length : Int)).toNat - 0)) (((List.replicate ((((w_.length : Int) - (v_.length : Int)) + 1)).toNat (0 : Int)).length : Int) - 1) u (List.replicate ((((w_.length : Int) - (v_.length : Int)) + 1)).toNat (0 : Int))).bind fun (x0, x1, x2, x3) => s_fraction_words_over_k1 x0 x1 x2 x3
 )
 )

/-! ### (tablefinder/fraction.words).common -/

def s_fraction_words_common_k1 (w_ : qL0) : Option qL0 :=
 some w_

def s_fraction_words_common_l1_b (rec_ : qL0 → qL0 → Option qL0) (w_ : qL0) (v_ : qL0) : Option qL0 :=
 bif (decide ((v_.length : Int) > 0)) then (
 (s_fraction_words_over w_ v_).bind fun (q, r_) =>
 rec_ v_ r_
 ) else (
 some w_
 )

def s_fraction_words_common_l1 : Nat → qL0 → qL0 → Option qL0
 | 0, _, _ => none
 | n_ + 1, w_, v_ => s_fraction_words_common_l1_b (s_fraction_words_common_l1 n_) w_ v_

def s_fraction_words_common_l1_F (n : Nat) (s : qS77) : Option qL0 := s_fraction_words_common_l1 n s.1 s.2
def s_fraction_words_common_l1_B (rec_ : qS77 → Option qL0) (s : qS77) : Option qL0 := s_fraction_words_common_l1_b (fun w_ v_ => rec_ (w_, v_)) s.1 s.2
theorem s_fraction_words_common_l1_FB : ∀ n s, s_fraction_words_common_l1_F (n + 1) s = s_fraction_words_common_l1_B (s_fraction_words_common_l1_F n) s := fun _ _ => rfl

def s_fraction_words_common (w_ : qL0) (v_ : qL0) : Option qL0 :=
 (s_fraction_words_common_l1 big w_ v_).bind fun x0 => s_fraction_words_common_k1 x0

/-! ### tablefinder/fraction.reduced -/

def s_fraction_reduced (num : GaBig) (den : GaBig) : Option GaFraction :=
 (s_fraction_words_common num.Words den.Words).bind fun g =>
 (s_fraction_words_over num.Words g).bind fun (x_, q) =>
 (s_fraction_words_over den.Words g).bind fun (y, q_1) =>
 (s_fraction_signed (!(num.Neg == den.Neg)) x_).bind fun q_2 =>
 (s_fraction_signed false y).bind fun q_3 =>
 some (GaFraction.mk q_2 q_3)

/-! ### tablefinder/fraction.Make -/

def s_fraction_Make (num : GaBig) (den : GaBig) : Option (GaFraction × Int) :=
 (s_fraction_bigs ([num, den] : (List GaBig))).bind fun q =>
 bif (!q) then (
 some ((GaFraction.mk (GaBig.mk false ([] : qL0)) (GaBig.mk false ([] : qL0))), 1)
 ) else (
 bif ((den.Words.length : Int) == 0) then (
 some ((GaFraction.mk (GaBig.mk false ([] : qL0)) (GaBig.mk false ([] : qL0))), 8)
 ) else (
 (s_fraction_reduced num den).bind fun q_1 =>
 some (q_1, 0)
 )
 )

/-! ### tablefinder/fraction.Of -/

def s_fraction_Of (num : Int) (den : Int) : Option (GaFraction × Int) :=
 (s_fraction_FromInt num).bind fun q =>
 (s_fraction_FromInt den).bind fun q_1 =>
 (s_fraction_Make q q_1).bind fun (q_2, q_3) =>
 some (q_2, q_3)

/-! ### tablefinder/num.Zero -/

def s_num_Zero  : Option GaFraction :=
 (s_fraction_Of 0 1).bind fun (f, q) =>
 some f

/-! ### tablefinder/correlation.none -/

def s_correlation_none  : Option GaMoments :=
 (s_num_Zero).bind fun q =>
 (s_num_Zero).bind fun q_1 =>
 (s_num_Zero).bind fun q_2 =>
 (s_num_Zero).bind fun q_3 =>
 (s_num_Zero).bind fun q_4 =>
 some (GaMoments.mk 0 q q_1 q_2 q_3 q_4)

/-! ### tablefinder/fraction.Valid -/

def s_fraction_Valid_j1 (t2 : Bool) : Option Bool :=
 some t2

def s_fraction_Valid (f : GaFraction) : Option Bool :=
 (s_fraction_bigs ([f.Num, f.Den] : (List GaBig))).bind fun q =>
 bif q then (
 bif (decide ((f.Den.Words.length : Int) > 0)) then (
 bif (!f.Den.Neg) then (
 (s_fraction_words_common f.Num.Words f.Den.Words).bind fun q_1 =>
 (s_fraction_words_compare q_1 ([1] : List Int)).bind fun q_2 =>
 s_fraction_Valid_j1 (q_2 == 0)
 ) else (
 s_fraction_Valid_j1 false
 )
 ) else (
 s_fraction_Valid_j1 false
 )
 ) else (
 s_fraction_Valid_j1 false
 )

/-! ### (tablefinder/fraction.words).times -/

def s_fraction_words_times_k2 (out : qL0) : Option qL0 :=
 (s_fraction_trimmed out).bind fun q =>
 some q

def s_fraction_words_times_k1 (rec_ : qR80) (v_ : qL0) (i : Int) (carry : Int) (t17 : qL0) (t18 : Int) (i_1 : Int) (out : qL0) : Option qL0 :=
 chk (inK .i64 (i + (v_.length : Int))) <|
 chk (inR (i + (v_.length : Int)) (out.length : Int)) <|
 chk (inK .i64 (i_1 + 1)) <|
 rec_ v_ t17 t18 (i_1 + 1) (out.set (((i + (v_.length : Int))).toNat) (IntKind.wrap .u32 carry))

def s_fraction_words_times_l2_b (rec_ : qL0 → Int → Int → Int → qL0 → Int → Int → qL0 → Int → Int → qL0 → Option qS64) (v_ : qL0) (i : Int) (x_ : Int) (carry : Int) (t17 : qL0) (t18 : Int) (i_1 : Int) (t24 : qL0) (t25 : Int) (j : Int) (out : qL0) : Option qS64 :=
 bif (decide (j < t25)) then (
 (idx t24 j).bind fun y =>
 chk (inK .i64 (i + j)) <|
 chk (inR (i + j) (out.length : Int)) <|
 (out[((i + j)).toNat]?).bind fun out_e =>
 chk (inK .i64 (i + j)) <|
 chk (inR (i + j) (out.length : Int)) <|
 chk (decide (0 ≤ (32 : Int))) <|
 chk (inK .i64 (j + 1)) <|
 rec_ v_ i x_ (shrK .u64 (IntKind.wrap .u64 (carry + (IntKind.wrap .u64 ((IntKind.wrap .u64 ((IntKind.wrap .u64 x_) * (IntKind.wrap .u64 y))) + (IntKind.wrap .u64 out_e))))) 32) t17 t18 i_1 t24 t25 (j + 1) (out.set (((i + j)).toNat) (IntKind.wrap .u32 (IntKind.wrap .u64 (carry + (IntKind.wrap .u64 ((IntKind.wrap .u64 ((IntKind.wrap .u64 x_) * (IntKind.wrap .u64 y))) + (IntKind.wrap .u64 out_e)))))))
 ) else (
 some (v_, i, carry, t17, t18, i_1, out)
 )

def s_fraction_words_times_l2 : Nat → qL0 → Int → Int → Int → qL0 → Int → Int → qL0 → Int → Int → qL0 → Option qS64
 | 0, _, _, _, _, _, _, _, _, _, _, _ => none
 | n_ + 1, v_, i, x_, carry, t17, t18, i_1, t24, t25, j, out => s_fraction_words_times_l2_b (s_fraction_words_times_l2 n_) v_ i x_ carry t17 t18 i_1 t24 t25 j out

def s_fraction_words_times_l1_b (rec_ : qR80) (v_ : qL0) (t17 : qL0) (t18 : Int) (i : Int) (out : qL0) : Option qL0 :=
 bif (decide (i < t18)) then (
 (idx t17 i).bind fun x_ =>
 (s_fraction_words_times_l2 big v_ i x_ (0 : Int) t17 t18 i v_ (v_.length : Int) (0 : Int) out).bind fun (x0, x1, x2, x3, x4, x5, x6) => s_fraction_words_times_k1 rec_ x0 x1 x2 x3 x4 x5 x6
 ) else (
 some out
 )

def s_fraction_words_times_l1 : Nat → qL0 → qL0 → Int → Int → qL0 → Option qL0
 | 0, _, _, _, _, _ => none
 | n_ + 1, v_, t17, t18, i, out => s_fraction_words_times_l1_b (s_fraction_words_times_l1 n_) v_ t17 t18 i out

def s_fraction_words_times (w_ : qL0) (v_ : qL0) : Option qL0 :=
 chk (inK .i64 ((w_.length : Int) + (v_.length : Int))) <|
 chk (mkOk ((w_.length : Int) + (v_.length : Int)) ((w_.length : Int) + (v_.length : Int)) 4) <|
 (s_fraction_words_times_l1 big v_ w_ (w_.length : Int) (0 : Int) (List.replicate (((w_.length : Int) + (v_.length : Int))).toNat (0 : Int))).bind fun x0 => s_fraction_words_times_k2 x0

/-! ### tablefinder/fraction.product -/

def s_fraction_product (a : GaBig) (b : GaBig) : Option GaBig :=
 (s_fraction_words_times a.Words b.Words).bind fun q =>
 (s_fraction_signed (!(a.Neg == b.Neg)) q).bind fun q_1 =>
 some q_1

/-! ### (tablefinder/fraction.words).plus -/

def s_fraction_words_plus_k1 (carry : Int) (out : qL0) : Option qL0 :=
 chk (room (out.length + ([carry] : qL0).length) 4) <|
 (s_fraction_trimmed (out ++ ([carry] : qL0))).bind fun q =>
 some q

def s_fraction_words_plus_l1_b (rec_ : qL0 → qL0 → Int → Int → Int → qL0 → Option (Int × qL0)) (w_ : qL0) (v_ : qL0) (carry : Int) (t20 : Int) (i : Int) (out : qL0) : Option (Int × qL0) :=
 bif (decide (i < t20)) then (
 (s_fraction_words_at w_ i).bind fun q =>
 (s_fraction_words_at v_ i).bind fun q_1 =>
 (s_math_bits_Add32 q q_1 carry).bind fun (d, carry_1) =>
 chk (room (out.length + ([d] : qL0).length) 4) <|
 chk (inK .i64 (i + 1)) <|
 rec_ w_ v_ carry_1 t20 (i + 1) (out ++ ([d] : qL0))
 ) else (
 some (carry, out)
 )

def s_fraction_words_plus_l1 : Nat → qL0 → qL0 → Int → Int → Int → qL0 → Option (Int × qL0)
 | 0, _, _, _, _, _, _ => none
 | n_ + 1, w_, v_, carry, t20, i, out => s_fraction_words_plus_l1_b (s_fraction_words_plus_l1 n_) w_ v_ carry t20 i out

def s_fraction_words_plus_l1_F (n : Nat) (s : qS66) : Option (Int × qL0) := s_fraction_words_plus_l1 n s.1 s.2.1 s.2.2.1 s.2.2.2.1 s.2.2.2.2.1 s.2.2.2.2.2
def s_fraction_words_plus_l1_B (rec_ : qS66 → Option (Int × qL0)) (s : qS66) : Option (Int × qL0) := s_fraction_words_plus_l1_b (fun w_ v_ carry t20 i out => rec_ (w_, v_, carry, t20, i, out)) s.1 s.2.1 s.2.2.1 s.2.2.2.1 s.2.2.2.2.1 s.2.2.2.2.2
theorem s_fraction_words_plus_l1_FB : ∀ n s, s_fraction_words_plus_l1_F (n + 1) s = s_fraction_words_plus_l1_B (s_fraction_words_plus_l1_F n) s := fun _ _ => rfl

def s_fraction_words_plus (w_ : qL0) (v_ : qL0) : Option qL0 :=
 chk (inK .i64 ((if (v_.length : Int) > (w_.length : Int) then (v_.length : Int) else (w_.length : Int)) + 1)) <|
 chk (mkOk 0 ((if (v_.length : Int) > (w_.length : Int) then (v_.length : Int) else (w_.length : Int)) + 1) 4) <|
 (s_fraction_words_plus_l1 big w_ v_ (0 : Int) (if (v_.length : Int) > (w_.length : Int) then (v_.length : Int) else (w_.length : Int)) (0 : Int) (List.replicate ((0 : Int)).toNat (0 : Int))).bind fun (x0, x1) => s_fraction_words_plus_k1 x0 x1

/-! ### (tablefinder/fraction.words).minus -/

def s_fraction_words_minus_k1 (out : qL0) : Option qL0 :=
 (s_fraction_trimmed out).bind fun q =>
 some q

def s_fraction_words_minus_l1_b (rec_ : qL0 → qL0 → Int → Int → Int → qL0 → Option qL0) (w_ : qL0) (v_ : qL0) (borrow : Int) (t12 : Int) (i : Int) (out : qL0) : Option qL0 :=
 bif (decide (i < t12)) then (
 (idx w_ i).bind fun w__e =>
 (s_fraction_words_at v_ i).bind fun q =>
 (s_math_bits_Sub32 w__e q borrow).bind fun (q_1, borrow_1) =>
 chk (inR i (out.length : Int)) <|
 chk (inK .i64 (i + 1)) <|
 rec_ w_ v_ borrow_1 t12 (i + 1) (out.set ((i).toNat) q_1)
 ) else (
 some out
 )

def s_fraction_words_minus_l1 : Nat → qL0 → qL0 → Int → Int → Int → qL0 → Option qL0
 | 0, _, _, _, _, _, _ => none
 | n_ + 1, w_, v_, borrow, t12, i, out => s_fraction_words_minus_l1_b (s_fraction_words_minus_l1 n_) w_ v_ borrow t12 i out

def s_fraction_words_minus_l1_F (n : Nat) (s : qS66) : Option qL0 := s_fraction_words_minus_l1 n s.1 s.2.1 s.2.2.1 s.2.2.2.1 s.2.2.2.2.1 s.2.2.2.2.2
def s_fraction_words_minus_l1_B (rec_ : qS66 → Option qL0) (s : qS66) : Option qL0 := s_fraction_words_minus_l1_b (fun w_ v_ borrow t12 i out => rec_ (w_, v_, borrow, t12, i, out)) s.1 s.2.1 s.2.2.1 s.2.2.2.1 s.2.2.2.2.1 s.2.2.2.2.2
theorem s_fraction_words_minus_l1_FB : ∀ n s, s_fraction_words_minus_l1_F (n + 1) s = s_fraction_words_minus_l1_B (s_fraction_words_minus_l1_F n) s := fun _ _ => rfl

def s_fraction_words_minus (w_ : qL0) (v_ : qL0) : Option qL0 :=
 chk (mkOk (w_.length : Int) (w_.length : Int) 4) <|
 (s_fraction_words_minus_l1 big w_ v_ (0 : Int) (w_.length : Int) (0 : Int) (List.replicate ((w_.length : Int)).toNat (0 : Int))).bind fun x0 => s_fraction_words_minus_k1 x0

/-! ### tablefinder/fraction.sum -/

def s_fraction_sum (a : GaBig) (b : GaBig) : Option GaBig :=
 bif (a.Neg == b.Neg) then (
 (s_fraction_words_plus a.Words b.Words).bind fun q =>
 (s_fraction_signed a.Neg q).bind fun q_1 =>
 some q_1
 ) else (
 (s_fraction_words_compare a.Words b.Words).bind fun q_2 =>
 bif (decide (q_2 ≥ 0)) then (
 (s_fraction_words_minus a.Words b.Words).bind fun q_3 =>
 (s_fraction_signed a.Neg q_3).bind fun q_4 =>
 some q_4
 ) else (
 (s_fraction_words_minus b.Words a.Words).bind fun q_5 =>
 (s_fraction_signed b.Neg q_5).bind fun q_6 =>
 some q_6
 )
 )

/-! ### tablefinder/fraction.plus -/

def s_fraction_plus (a : GaFraction) (b : GaFraction) : Option (GaBig × GaBig) :=
 (s_fraction_product a.Num b.Den).bind fun q =>
 (s_fraction_product b.Num a.Den).bind fun q_1 =>
 (s_fraction_sum q q_1).bind fun num =>
 (s_fraction_product a.Den b.Den).bind fun den =>
 some (num, den)

/-! ### (tablefinder/fraction.operation).result -/

def s_fraction_operation_result_j1 (t18 : Bool) (a : GaFraction) (b : GaFraction) (t6 : Bool) (t6_1 : Bool) (t6_2 : qL0) (t6_3 : qL0) : Option (GaFraction × Int) :=
 bif t18 then (
 some ((GaFraction.mk (GaBig.mk false ([] : qL0)) (GaBig.mk false ([] : qL0))), 1)
 ) else (
 (s_fraction_plus a b).bind fun (num, den) =>
 bif ((den.Words.length : Int) == 0) then (
 some ((GaFraction.mk (GaBig.mk false ([] : qL0)) (GaBig.mk false ([] : qL0))), 8)
 ) else (
 (s_fraction_reduced num den).bind fun f =>
 bif (decide ((if (f.Den.Words.length : Int) > (f.Num.Words.length : Int) then (f.Den.Words.length : Int) else (f.Num.Words.length : Int)) > 256)) then (
 some ((GaFraction.mk (GaBig.mk false ([] : qL0)) (GaBig.mk false ([] : qL0))), 3)
 ) else (
 some (f, 0)
 )
 )
 )

def s_fraction_operation_result (a : GaFraction) (b : GaFraction) : Option (GaFraction × Int) :=
 (s_fraction_Valid a).bind fun q =>
 bif (!q) then (
 s_fraction_operation_result_j1 true a b false false ([] : qL0) ([] : qL0)
 ) else (
 (s_fraction_Valid b).bind fun q_1 =>
 s_fraction_operation_result_j1 (!q_1) a b false false ([] : qL0) ([] : qL0)
 )

/-! ### tablefinder/fraction.Add -/

def s_fraction_Add (a : GaFraction) (b : GaFraction) : Option (GaFraction × Int) :=
 (s_fraction_operation_result a b).bind fun (q, q_1) =>
 some (q, q_1)

/-! ### tablefinder/num.first -/

def s_num_first (f : GaFraction) (a1 : Int) : Option GaFraction :=
 some f

/-! ### tablefinder/num.Add -/

def s_num_Add (a : GaFraction) (b : GaFraction) : Option GaFraction :=
 (s_fraction_Add a b).bind fun (q, q_1) =>
 (s_num_first q q_1).bind fun q_2 =>
 some q_2

/-! ### tablefinder/fraction.times -/

def s_fraction_times (a : GaFraction) (b : GaFraction) : Option (GaBig × GaBig) :=
 (s_fraction_product a.Num b.Num).bind fun num =>
 (s_fraction_product a.Den b.Den).bind fun den =>
 some (num, den)

/-! ### (tablefinder/fraction.operation).result -/

def s_fraction_operation_result_2_j1 (t18 : Bool) (a : GaFraction) (b : GaFraction) (t6 : Bool) (t6_1 : Bool) (t6_2 : qL0) (t6_3 : qL0) : Option (GaFraction × Int) :=
 bif t18 then (
 some ((GaFraction.mk (GaBig.mk false ([] : qL0)) (GaBig.mk false ([] : qL0))), 1)
 ) else (
 (s_fraction_times a b).bind fun (num, den) =>
 bif ((den.Words.length : Int) == 0) then (
 some ((GaFraction.mk (GaBig.mk false ([] : qL0)) (GaBig.mk false ([] : qL0))), 8)
 ) else (
 (s_fraction_reduced num den).bind fun f =>
 bif (decide ((if (f.Den.Words.length : Int) > (f.Num.Words.length : Int) then (f.Den.Words.length : Int) else (f.Num.Words.length : Int)) > 256)) then (
 some ((GaFraction.mk (GaBig.mk false ([] : qL0)) (GaBig.mk false ([] : qL0))), 3)
 ) else (
 some (f, 0)
 )
 )
 )

def s_fraction_operation_result_2 (a : GaFraction) (b : GaFraction) : Option (GaFraction × Int) :=
 (s_fraction_Valid a).bind fun q =>
 bif (!q) then (
 s_fraction_operation_result_2_j1 true a b false false ([] : qL0) ([] : qL0)
 ) else (
 (s_fraction_Valid b).bind fun q_1 =>
 s_fraction_operation_result_2_j1 (!q_1) a b false false ([] : qL0) ([] : qL0)
 )

/-! ### tablefinder/fraction.Mul -/

def s_fraction_Mul (a : GaFraction) (b : GaFraction) : Option (GaFraction × Int) :=
 (s_fraction_operation_result_2 a b).bind fun (q, q_1) =>
 some (q, q_1)

/-! ### tablefinder/num.Mul -/

def s_num_Mul (a : GaFraction) (b : GaFraction) : Option GaFraction :=
 (s_fraction_Mul a b).bind fun (q, q_1) =>
 (s_num_first q q_1).bind fun q_2 =>
 some q_2

/-! ### tablefinder/correlation.Add -/

def s_correlation_Add (m : GaMoments) (x_ : GaFraction) (y : GaFraction) : Option GaMoments :=
 chk (inK .i64 (m.N + 1)) <|
 (s_num_Add m.X x_).bind fun q =>
 (s_num_Add m.Y y).bind fun q_1 =>
 (s_num_Mul x_ x_).bind fun q_2 =>
 (s_num_Add m.XX q_2).bind fun q_3 =>
 (s_num_Mul y y).bind fun q_4 =>
 (s_num_Add m.YY q_4).bind fun q_5 =>
 (s_num_Mul x_ y).bind fun q_6 =>
 (s_num_Add m.XY q_6).bind fun q_7 =>
 some (GaMoments.mk (m.N + 1) q q_1 q_3 q_5 q_7)

/-! ### tablefinder/correlation.Of -/

def s_correlation_Of_k1 (t2 : Int) (t2_1 : Bool) (t2_2 : Bool) (t2_3 : Bool) (t2_4 : Bool) (t2_5 : Bool) (t2_6 : Bool) (t2_7 : Bool) (t2_8 : Bool) (t2_9 : Bool) (t2_10 : Bool) (m : GaMoments) (t2_11 : qL0) (t2_12 : qL0) (t2_13 : qL0) (t2_14 : qL0) (t2_15 : qL0) (t2_16 : qL0) (t2_17 : qL0) (t2_18 : qL0) (t2_19 : qL0) (t2_20 : qL0) : Option GaMoments :=
 some m

def s_correlation_Of_l1_b (rec_ : qL1 → Int → Int → Int → Bool → Bool → Bool → Bool → Bool → Bool → Bool → Bool → Bool → Bool → GaMoments → qL0 → qL0 → qL0 → qL0 → qL0 → qL0 → qL0 → qL0 → qL0 → qL0 → Option qS63) (t7 : qL1) (t8 : Int) (t9 : Int) (t2 : Int) (t2_1 : Bool) (t2_2 : Bool) (t2_3 : Bool) (t2_4 : Bool) (t2_5 : Bool) (t2_6 : Bool) (t2_7 : Bool) (t2_8 : Bool) (t2_9 : Bool) (t2_10 : Bool) (m : GaMoments) (t2_11 : qL0) (t2_12 : qL0) (t2_13 : qL0) (t2_14 : qL0) (t2_15 : qL0) (t2_16 : qL0) (t2_17 : qL0) (t2_18 : qL0) (t2_19 : qL0) (t2_20 : qL0) : Option qS63 :=
 bif (decide (t9 < t8)) then (
 (idx t7 t9).bind fun p =>
 chk (inR 0 2) <|
 chk (inR 1 2) <|
 (s_correlation_Add m p.e0 p.e1).bind fun m_1 =>
 chk (inK .i64 (t9 + 1)) <|
 rec_ t7 t8 (t9 + 1) t2 t2_1 t2_2 t2_3 t2_4 t2_5 t2_6 t2_7 t2_8 t2_9 t2_10 m_1 t2_11 t2_12 t2_13 t2_14 t2_15 t2_16 t2_17 t2_18 t2_19 t2_20
 ) else (
 some (t2, t2_1, t2_2, t2_3, t2_4, t2_5, t2_6, t2_7, t2_8, t2_9, t2_10, m, t2_11, t2_12, t2_13, t2_14, t2_15, t2_16, t2_17, t2_18, t2_19, t2_20)
 )

def s_correlation_Of_l1 : Nat → qL1 → Int → Int → Int → Bool → Bool → Bool → Bool → Bool → Bool → Bool → Bool → Bool → Bool → GaMoments → qL0 → qL0 → qL0 → qL0 → qL0 → qL0 → qL0 → qL0 → qL0 → qL0 → Option qS63
 | 0, _, _, _, _, _, _, _, _, _, _, _, _, _, _, _, _, _, _, _, _, _, _, _, _, _ => none
 | n_ + 1, t7, t8, t9, t2, t2_1, t2_2, t2_3, t2_4, t2_5, t2_6, t2_7, t2_8, t2_9, t2_10, m, t2_11, t2_12, t2_13, t2_14, t2_15, t2_16, t2_17, t2_18, t2_19, t2_20 => s_correlation_Of_l1_b (s_correlation_Of_l1 n_) t7 t8 t9 t2 t2_1 t2_2 t2_3 t2_4 t2_5 t2_6 t2_7 t2_8 t2_9 t2_10 m t2_11 t2_12 t2_13 t2_14 t2_15 t2_16 t2_17 t2_18 t2_19 t2_20

def s_correlation_Of_l1_F (n : Nat) (s : qS62) : Option qS63 := s_correlation_Of_l1 n s.1 s.2.1 s.2.2.1 s.2.2.2.1 s.2.2.2.2.1 s.2.2.2.2.2.1 s.2.2.2.2.2.2.1 s.2.2.2.2.2.2.2.1 s.2.2.2.2.2.2.2.2.1 s.2.2.2.2.2.2.2.2.2.1 s.2.2.2.2.2.2.2.2.2.2.1 s.2.2.2.2.2.2.2.2.2.2.2.1 s.2.2.2.2.2.2.2.2.2.2.2.2.1 s.2.2.2.2.2.2.2.2.2.2.2.2.2.1 s.2.2.2.2.2.2.2.2.2.2.2.2.2.2.1 s.2.2.2.2.2.2.2.2.2.2.2.2.2.2.2.1 s.2.2.2.2.2.2.2.2.2.2.2.2.2.2.2.2.1 s.2.2.2.2.2.2.2.2.2.2.2.2.2.2.2.2.2.1 s.2.2.2.2.2.2.2.2.2.2.2.2.2.2.2.2.2.2.1 s.2.2.2.2.2.2.2.2.2.2.2.2.2.2.2.2.2.2.2.1 s.2.2.2.2.2.2.2.2.2.2.2.2.2.2.2.2.2.2.2.2.1 s.2.2.2.2.2.2.2.2.2.2.2.2.2.2.2.2.2.2.2.2.2.1 s.2.2.2.2.2.2.2.2.2.2.2.2.2.2.2.2.2.2.2.2.2.2.1 s.2.2.2.2.2.2.2.2.2.2.2.2.2.2.2.2.2.2.2.2.2.2.2.1 s.2.2.2.2.2.2.2.2.2.2.2.2.2.2.2.2.2.2.2.2.2.2.2.2
def s_correlation_Of_l1_B (rec_ : qS62 → Option qS63) (s : qS62) : Option qS63 := s_correlation_Of_l1_b (fun t7 t8 t9 t2 t2_1 t2_2 t2_3 t2_4 t2_5 t2_6 t2_7 t2_8 t2_9 t2_10 m t2_11 t2_12 t2_13 t2_14 t2_15 t2_16 t2_17 t2_18 t2_19 t2_20 => rec_ (t7, t8, t9, t2, t2_1, t2_2, t2_3, t2_4, t2_5, t2_6, t2_7, t2_8, t2_9, t2_10, m, t2_11, t2_12, t2_13, t2_14, t2_15, t2_16, t2_17, t2_18, t2_19, t2_20)) s.1 s.2.1 s.2.2.1 s.2.2.2.1 s.2.2.2.2.1 s.2.2.2.2.2.1 s.2.2.2.2.2.2.1 s.2.2.2.2.2.2.2.1 s.2.2.2.2.2.2.2.2.1 s.2.2.2.2.2.2.2.2.2.1 s.2.2.2.2.2.2.2.2.2.2.1 s.2.2.2.2.2.2.2.2.2.2.2.1 s.2.2.2.2.2.2.2.2.2.2.2.2.1 s.2.2.2.2.2.2.2.2.2.2.2.2.2.1 s.2.2.2.2.2.2.2.2.2.2.2.2.2.2.1 s.2.2.2.2.2.2.2.2.2.2.2.2.2.2.2.1 s.2.2.2.2.2.2.2.2.2.2.2.2.2.2.2.2.1 s.2.2.2.2.2.2.2.2.2.2.2.2.2.2.2.2.2.1 s.2.2.2.2.2.2.2.2.2.2.2.2.2.2.2.2.2.2.1 s.2.2.2.2.2.2.2.2.2.2.2.2.2.2.2.2.2.2.2.1 s.2.2.2.2.2.2.2.2.2.2.2.2.2.2.2.2.2.2.2.2.1 s.2.2.2.2.2.2.2.2.2.2.2.2.2.2.2.2.2.2.2.2.2.1 s.2.2.2.2.2.2.2.2.2.2.2.2.2.2.2.2.2.2.2.2.2.2.1 s.2.2.2.2.2.2.2.2.2.2.2.2.2.2.2.2.2.2.2.2.2.2.2.1 s.2.2.2.2.2.2.2.2.2.2.2.2.2.2.2.2.2.2.2.2.2.2.2.2
theorem s_correlation_Of_l1_FB : ∀ n s, s_correlation_Of_l1_F (n + 1) s = s_correlation_Of_l1_B (s_correlation_Of_l1_F n) s := fun _ _ => rfl

def s_correlation_Of (l : qL1) : Option GaMoments :=
 (s_correlation_none).bind fun m =>
 (s_correlation_Of_l1 big l (l.length : Int) (0 : Int) (0 : Int) false false false false false false false false false false m ([] : qL0) ([] : qL0) ([] : qL0) ([] : qL0) ([] : qL0) ([] : qL0) ([] : qL0) ([] : qL0) ([] : qL0) ([] : qL0)).bind fun (x0, x1, x2, x3, x4, x5, x6, x7, x8, x9, x10, x11, x12, x13, x14, x15, x16, x17, x18, x19, x20, x21) => s_correlation_Of_k1 x0 x1 x2 x3 x4 x5 x6 x7 x8 x9 x10 x11 x12 x13 x14 x15 x16 x17 x18 x19 x20 x21

/-! ### tablefinder/num.Of -/

def s_num_Of (a : Int) (b : Int) : Option GaFraction :=
 (s_fraction_Of a b).bind fun (f, e) =>
 bif (e != 0) then (
 (s_num_Zero).bind fun q =>
 some q
 ) else (
 some f
 )

/-! ### tablefinder/fraction.opposite -/

def s_fraction_opposite_j1 (t2 : GaBig) : Option GaBig :=
 some t2

def s_fraction_opposite (a : GaBig) : Option GaBig :=
 bif (!a.Neg) then (
 s_fraction_opposite_j1 (GaBig.mk (decide ((a.Words.length : Int) > 0)) a.Words)
 ) else (
 s_fraction_opposite_j1 (GaBig.mk false a.Words)
 )

/-! ### tablefinder/fraction.Sub -/

def s_fraction_Sub (a : GaFraction) (b : GaFraction) : Option (GaFraction × Int) :=
 (s_fraction_Valid b).bind fun q =>
 bif (!q) then (
 some ((GaFraction.mk (GaBig.mk false ([] : qL0)) (GaBig.mk false ([] : qL0))), 1)
 ) else (
 (s_fraction_opposite b.Num).bind fun q_1 =>
 (s_fraction_operation_result a (GaFraction.mk q_1 b.Den)).bind fun (q_2, q_3) =>
 some (q_2, q_3)
 )

/-! ### tablefinder/num.Sub -/

def s_num_Sub (a : GaFraction) (b : GaFraction) : Option GaFraction :=
 (s_fraction_Sub a b).bind fun (q, q_1) =>
 (s_num_first q q_1).bind fun q_2 =>
 some q_2

/-! ### tablefinder/correlation.part -/

def s_correlation_part (n : Int) (ab : GaFraction) (a : GaFraction) (b : GaFraction) : Option GaFraction :=
 (s_num_Of n 1).bind fun q =>
 (s_num_Mul q ab).bind fun q_1 =>
 (s_num_Mul a b).bind fun q_2 =>
 (s_num_Sub q_1 q_2).bind fun q_3 =>
 some q_3

/-! ### tablefinder/fraction.Cmp -/

def s_fraction_Cmp_j1 (t13 : Bool) (a : GaFraction) (b : GaFraction) : Option Int :=
 bif t13 then (
 some (0 : Int)
 ) else (
 (s_fraction_product a.Num b.Den).bind fun q =>
 (s_fraction_product b.Num a.Den).bind fun q_1 =>
 (s_fraction_opposite q_1).bind fun q_2 =>
 (s_fraction_sum q q_2).bind fun d =>
 bif d.Neg then (
 some (-1 : Int)
 ) else (
 bif (decide ((d.Words.length : Int) > 0)) then (
 some (1 : Int)
 ) else (
 some (0 : Int)
 )
 )
 )

def s_fraction_Cmp (a : GaFraction) (b : GaFraction) : Option Int :=
 (s_fraction_Valid a).bind fun q =>
 bif (!q) then (
 s_fraction_Cmp_j1 true a b
 ) else (
 (s_fraction_Valid b).bind fun q_1 =>
 s_fraction_Cmp_j1 (!q_1) a b
 )

/-! ### tablefinder/num.Sign -/

def s_num_Sign (a : GaFraction) : Option Int :=
 (s_num_Zero).bind fun q =>
 (s_fraction_Cmp a q).bind fun q_1 =>
 some q_1

/-! ### tablefinder/fraction.over -/

def s_fraction_over (a : GaFraction) (b : GaFraction) : Option (GaBig × GaBig) :=
 (s_fraction_product a.Num b.Den).bind fun num =>
 (s_fraction_product a.Den b.Num).bind fun den =>
 some (num, den)

/-! ### (tablefinder/fraction.operation).result -/

def s_fraction_operation_result_3_j1 (t18 : Bool) (a : GaFraction) (b : GaFraction) (t6 : Bool) (t6_1 : Bool) (t6_2 : qL0) (t6_3 : qL0) : Option (GaFraction × Int) :=
 bif t18 then (
 some ((GaFraction.mk (GaBig.mk false ([] : qL0)) (GaBig.mk false ([] : qL0))), 1)
 ) else (
 (s_fraction_over a b).bind fun (num, den) =>
 bif ((den.Words.length : Int) == 0) then (
 some ((GaFraction.mk (GaBig.mk false ([] : qL0)) (GaBig.mk false ([] : qL0))), 8)
 ) else (
 (s_fraction_reduced num den).bind fun f =>
 bif (decide ((if (f.Den.Words.length : Int) > (f.Num.Words.length : Int) then (f.Den.Words.length : Int) else (f.Num.Words.length : Int)) > 256)) then (
 some ((GaFraction.mk (GaBig.mk false ([] : qL0)) (GaBig.mk false ([] : qL0))), 3)
 ) else (
 some (f, 0)
 )
 )
 )

def s_fraction_operation_result_3 (a : GaFraction) (b : GaFraction) : Option (GaFraction × Int) :=
 (s_fraction_Valid a).bind fun q =>
 bif (!q) then (
 s_fraction_operation_result_3_j1 true a b false false ([] : qL0) ([] : qL0)
 ) else (
 (s_fraction_Valid b).bind fun q_1 =>
 s_fraction_operation_result_3_j1 (!q_1) a b false false ([] : qL0) ([] : qL0)
 )

/-! ### tablefinder/fraction.Div -/

def s_fraction_Div (a : GaFraction) (b : GaFraction) : Option (GaFraction × Int) :=
 (s_fraction_operation_result_3 a b).bind fun (q, q_1) =>
 some (q, q_1)

/-! ### tablefinder/num.Div -/

def s_num_Div (a : GaFraction) (b : GaFraction) : Option GaFraction :=
 (s_fraction_Div a b).bind fun (q, q_1) =>
 (s_num_first q q_1).bind fun q_2 =>
 some q_2

/-! ### tablefinder/correlation.Square -/

def s_correlation_Square_j1 (t47 : Bool) (t2 : Bool) (t2_1 : Bool) (c : GaFraction) (u : GaFraction) (v_ : GaFraction) (t2_2 : qL0) (t2_3 : qL0) : Option (GaFraction × Int × Bool) :=
 bif t47 then (
 (s_num_Zero).bind fun q =>
 some (q, 0, false)
 ) else (
 (s_num_Mul c c).bind fun q_1 =>
 (s_num_Mul u v_).bind fun q_2 =>
 (s_num_Div q_1 q_2).bind fun q_3 =>
 (s_num_Sign c).bind fun q_4 =>
 some (q_3, q_4, true)
 )

def s_correlation_Square (m : GaMoments) : Option (GaFraction × Int × Bool) :=
 (s_correlation_part m.N m.XY m.X m.Y).bind fun c =>
 (s_correlation_part m.N m.XX m.X m.X).bind fun u =>
 (s_correlation_part m.N m.YY m.Y m.Y).bind fun v_ =>
 bif (decide (m.N < 3)) then (
 s_correlation_Square_j1 true false false c u v_ ([] : qL0) ([] : qL0)
 ) else (
 (s_num_Sign u).bind fun q =>
 bif (q == 0) then (
 s_correlation_Square_j1 true false false c u v_ ([] : qL0) ([] : qL0)
 ) else (
 (s_num_Sign v_).bind fun q_1 =>
 s_correlation_Square_j1 (q_1 == 0) false false c u v_ ([] : qL0) ([] : qL0)
 )
 )

/-! ### tablefinder/tablefinderref23.sameBig -/

def sr23_sameBig_k2  : Option Bool :=
 some true

def sr23_sameBig_l1_b (rec_ : qL0 → Int → Int → GaBig → Option (Out Unit Bool)) (t22 : qL0) (t23 : Int) (i : Int) (b : GaBig) : Option (Out Unit Bool) :=
 bif (decide (i < t23)) then (
 (idx t22 i).bind fun w_ =>
 (idx b.Words i).bind fun Word =>
 bif (Word != w_) then (
 some (.ret false)
 ) else (
 chk (inK .i64 (i + 1)) <|
 rec_ t22 t23 (i + 1) b
 )
 ) else (
 some (.brk ())
 )

def sr23_sameBig_l1 : Nat → qL0 → Int → Int → GaBig → Option (Out Unit Bool)
 | 0, _, _, _, _ => none
 | n_ + 1, t22, t23, i, b => sr23_sameBig_l1_b (sr23_sameBig_l1 n_) t22 t23 i b

def sr23_sameBig_l1_F (n : Nat) (s : qS75) : Option (Out Unit Bool) := sr23_sameBig_l1 n s.1 s.2.1 s.2.2.1 s.2.2.2
def sr23_sameBig_l1_B (rec_ : qS75 → Option (Out Unit Bool)) (s : qS75) : Option (Out Unit Bool) := sr23_sameBig_l1_b (fun t22 t23 i b => rec_ (t22, t23, i, b)) s.1 s.2.1 s.2.2.1 s.2.2.2
theorem sr23_sameBig_l1_FB : ∀ n s, sr23_sameBig_l1_F (n + 1) s = sr23_sameBig_l1_B (sr23_sameBig_l1_F n) s := fun _ _ => rfl

def sr23_sameBig_j1 (t20 : Bool) (a : GaBig) (b : GaBig) : Option Bool :=
 bif t20 then (
 some false
 ) else (
 (sr23_sameBig_l1 big a.Words (a.Words.length : Int) (0 : Int) b).bind fun
 | .ret q_ => some q_
 | .brk () => sr23_sameBig_k2
 )

def sr23_sameBig (a : GaBig) (b : GaBig) : Option Bool :=
 bif (!(a.Neg == b.Neg)) then (
 sr23_sameBig_j1 true a b
 ) else (
 sr23_sameBig_j1 ((a.Words.length : Int) != (b.Words.length : Int)) a b
 )

/-! ### tablefinder/tablefinderref23.Same -/

def sr23_Same_j1 (t4 : Bool) : Option Bool :=
 some t4

def sr23_Same (a : GaFraction) (b : GaFraction) : Option Bool :=
 (sr23_sameBig a.Num b.Num).bind fun q =>
 bif q then (
 (sr23_sameBig a.Den b.Den).bind fun q_1 =>
 sr23_Same_j1 q_1
 ) else (
 sr23_Same_j1 false
 )

/-! ### tablefinder/tablefinderlaw25.awake -/

def sl25_awake_j1 (t0 : Bool) : Option Bool :=
 some t0

def sl25_awake  : Option Bool :=
 (sl25_line).bind fun q =>
 (s_correlation_Of q).bind fun q_1 =>
 (s_correlation_Square q_1).bind fun (s, sign, ok) =>
 bif ok then (
 bif (sign == 1) then (
 (sr23_Int 1).bind fun q_2 =>
 (sr23_Same s q_2).bind fun q_3 =>
 sl25_awake_j1 q_3
 ) else (
 sl25_awake_j1 false
 )
 ) else (
 sl25_awake_j1 false
 )

/-! ### tablefinder/tablefinderkit.Roll -/

def sk_Roll (t : qL0) : Option Gk_Dice :=
 some (Gk_Dice.mk t 0)

/-! ### tablefinder/tablefinderkit.Mod -/

def sk_Mod (n : Int) (m : Int) : Option Int :=
 bif (decide (m < 1)) then (
 some (0 : Int)
 ) else (
 chk (decide (m ≠ 0)) <|
 chk (inK .i64 ((Int.tmod n m) + m)) <|
 chk (decide (m ≠ 0)) <|
 some (Int.tmod ((Int.tmod n m) + m) m)
 )

/-! ### (*tablefinder/tablefinderkit.Dice).Next -/

def sk_Dice_Next (d : Gk_Dice) (n : Int) : Option (Int × Gk_Dice) :=
 bif (decide (d.at_ ≥ (d.l.length : Int))) then (
 some (0, d)
 ) else (
 chk (inK .i64 (d.at_ + 1)) <|
 chk (inK .i64 ((d.at_ + 1) - 1)) <|
 (idx d.l ((d.at_ + 1) - 1)).bind fun l_e =>
 (sk_Mod l_e n).bind fun q =>
 some (q, (Gk_Dice.mk d.l (d.at_ + 1)))
 )

/-! ### tablefinder/tablefinderkit.Fraction -/

def sk_Fraction (d : Gk_Dice) : Option (GaFraction × Gk_Dice) :=
 (sk_Dice_Next d 13).bind fun (q, t3) =>
 chk (inK .i64 (q - 4)) <|
 (sk_Dice_Next t3 4).bind fun (q_1, t6) =>
 chk (inK .i64 (1 + q_1)) <|
 (sr23_Part (q - 4) (1 + q_1)).bind fun q_2 =>
 some (q_2, t6)

/-! ### tablefinder/tablefinderref01.Valid -/

def sr01_Valid_j1 (t24 : Bool) (f : GaFraction) : Option Bool :=
 bif t24 then (
 some false
 ) else (
 bif ((f.Num.Words.length : Int) == 0) then (
 (sr01_cmp f.Den.Words ([1] : qL0)).bind fun q =>
 some (q == 0)
 ) else (
 (sr01_gcd f.Num.Words f.Den.Words).bind fun q_1 =>
 (sr01_cmp q_1 ([1] : qL0)).bind fun q_2 =>
 some (q_2 == 0)
 )
 )

def sr01_Valid (f : GaFraction) : Option Bool :=
 (sr01_ValidBig f.Num).bind fun q =>
 bif (!q) then (
 sr01_Valid_j1 true f
 ) else (
 (sr01_ValidBig f.Den).bind fun q_1 =>
 bif (!q_1) then (
 sr01_Valid_j1 true f
 ) else (
 bif f.Den.Neg then (
 sr01_Valid_j1 true f
 ) else (
 sr01_Valid_j1 ((f.Den.Words.length : Int) == 0) f
 )
 )
 )

/-! ### tablefinder/tablefinderref01.mul -/

def sr01_mul_k2 (out : qL0) : Option qL0 :=
 (sr01_trim out).bind fun q =>
 some q

def sr01_mul_k1 (rec_ : qR82) (a : qL0) (b : qL0) (i : Int) (c : Int) (out : qL0) : Option qL0 :=
 chk (inK .i64 (i + (b.length : Int))) <|
 chk (inR (i + (b.length : Int)) (out.length : Int)) <|
 chk (inK .i64 (i + 1)) <|
 rec_ a b (i + 1) (out.set (((i + (b.length : Int))).toNat) (IntKind.wrap .u32 c))

def sr01_mul_l2_b (rec_ : qL0 → qL0 → Int → Int → Int → qL0 → Option qS68) (a : qL0) (b : qL0) (i : Int) (c : Int) (j : Int) (out : qL0) : Option qS68 :=
 bif (decide (j < (b.length : Int))) then (
 (idx a i).bind fun a_e =>
 (idx b j).bind fun b_e =>
 chk (inK .i64 (i + j)) <|
 chk (inR (i + j) (out.length : Int)) <|
 (out[((i + j)).toNat]?).bind fun out_e =>
 chk (inK .i64 (i + j)) <|
 chk (inR (i + j) (out.length : Int)) <|
 chk (decide (0 ≤ (32 : Int))) <|
 chk (inK .i64 (j + 1)) <|
 rec_ a b i (shrK .u64 (IntKind.wrap .u64 (c + (IntKind.wrap .u64 ((IntKind.wrap .u64 ((IntKind.wrap .u64 a_e) * (IntKind.wrap .u64 b_e))) + (IntKind.wrap .u64 out_e))))) 32) (j + 1) (out.set (((i + j)).toNat) (IntKind.wrap .u32 (IntKind.wrap .u64 (c + (IntKind.wrap .u64 ((IntKind.wrap .u64 ((IntKind.wrap .u64 a_e) * (IntKind.wrap .u64 b_e))) + (IntKind.wrap .u64 out_e)))))))
 ) else (
 some (a, b, i, c, out)
 )

def sr01_mul_l2 : Nat → qL0 → qL0 → Int → Int → Int → qL0 → Option qS68
 | 0, _, _, _, _, _, _ => none
 | n_ + 1, a, b, i, c, j, out => sr01_mul_l2_b (sr01_mul_l2 n_) a b i c j out

def sr01_mul_l1_b (rec_ : qR82) (a : qL0) (b : qL0) (i : Int) (out : qL0) : Option qL0 :=
 bif (decide (i < (a.length : Int))) then (
 (sr01_mul_l2 big a b i (0 : Int) (0 : Int) out).bind fun (x0, x1, x2, x3, x4) => sr01_mul_k1 rec_ x0 x1 x2 x3 x4
 ) else (
 some out
 )

def sr01_mul_l1 : Nat → qL0 → qL0 → Int → qL0 → Option qL0
 | 0, _, _, _, _ => none
 | n_ + 1, a, b, i, out => sr01_mul_l1_b (sr01_mul_l1 n_) a b i out

def sr01_mul (a : qL0) (b : qL0) : Option qL0 :=
 chk (inK .i64 ((a.length : Int) + (b.length : Int))) <|
 chk (mkOk ((a.length : Int) + (b.length : Int)) ((a.length : Int) + (b.length : Int)) 4) <|
 (sr01_mul_l1 big a b (0 : Int) (List.replicate (((a.length : Int) + (b.length : Int))).toNat (0 : Int))).bind fun x0 => sr01_mul_k2 x0

/-! ### tablefinder/tablefinderref01.Times -/

def sr01_Times (a : GaBig) (b : GaBig) : Option GaBig :=
 (sr01_mul a.Words b.Words).bind fun q =>
 (sr01_big (!(a.Neg == b.Neg)) q).bind fun q_1 =>
 some q_1

/-! ### tablefinder/tablefinderref01.add -/

def sr01_add_k4 (c : Int) (out : qL0) : Option qL0 :=
 chk (room (out.length + ([(IntKind.wrap .u32 c)] : qL0).length) 4) <|
 some (out ++ ([(IntKind.wrap .u32 c)] : qL0))

def sr01_add_j3 (rec_ : qR78) (a : qL0) (b : qL0) (c : Int) (i : Int) (out : qL0) : Option (Int × qL0) :=
 chk (room (out.length + ([(IntKind.wrap .u32 c)] : qL0).length) 4) <|
 chk (decide (0 ≤ (32 : Int))) <|
 chk (inK .i64 (i + 1)) <|
 rec_ a b (shrK .u64 c 32) (i + 1) (out ++ ([(IntKind.wrap .u32 c)] : qL0))

def sr01_add_j2 (rec_ : qR78) (a : qL0) (b : qL0) (c : Int) (i : Int) (out : qL0) : Option (Int × qL0) :=
 bif (decide (i < (b.length : Int))) then (
 (idx b i).bind fun b_e =>
 sr01_add_j3 rec_ a b (IntKind.wrap .u64 (c + (IntKind.wrap .u64 b_e))) i out
 ) else (
 sr01_add_j3 rec_ a b c i out
 )

def sr01_add_j1 (rec_ : qR78) (a : qL0) (b : qL0) (c : Int) (i : Int) (t17 : Bool) (out : qL0) : Option (Int × qL0) :=
 bif t17 then (
 bif (decide (i < (a.length : Int))) then (
 (idx a i).bind fun a_e =>
 sr01_add_j2 rec_ a b (IntKind.wrap .u64 (c + (IntKind.wrap .u64 a_e))) i out
 ) else (
 sr01_add_j2 rec_ a b c i out
 )
 ) else (
 some (c, out)
 )

def sr01_add_l1_b (rec_ : qR78) (a : qL0) (b : qL0) (c : Int) (i : Int) (out : qL0) : Option (Int × qL0) :=
 bif (decide (i < (a.length : Int))) then (
 sr01_add_j1 rec_ a b c i true out
 ) else (
 sr01_add_j1 rec_ a b c i (decide (i < (b.length : Int))) out
 )

def sr01_add_l1 : Nat → qL0 → qL0 → Int → Int → qL0 → Option (Int × qL0)
 | 0, _, _, _, _, _ => none
 | n_ + 1, a, b, c, i, out => sr01_add_l1_b (sr01_add_l1 n_) a b c i out

def sr01_add (a : qL0) (b : qL0) : Option qL0 :=
 (sr01_add_l1 big a b (0 : Int) (0 : Int) ([] : qL0)).bind fun (x0, x1) => sr01_add_k4 x0 x1

/-! ### tablefinder/tablefinderref01.Plus -/

def sr01_Plus (a : GaBig) (b : GaBig) : Option GaBig :=
 bif (a.Neg == b.Neg) then (
 (sr01_add a.Words b.Words).bind fun q =>
 (sr01_big a.Neg q).bind fun q_1 =>
 some q_1
 ) else (
 (sr01_cmp a.Words b.Words).bind fun q_2 =>
 bif (decide (q_2 ≥ 0)) then (
 (sr01_sub a.Words b.Words).bind fun q_3 =>
 (sr01_big a.Neg q_3).bind fun q_4 =>
 some q_4
 ) else (
 (sr01_sub b.Words a.Words).bind fun q_5 =>
 (sr01_big b.Neg q_5).bind fun q_6 =>
 some q_6
 )
 )

/-! ### tablefinder/tablefinderref01.result -/

def sr01_result_j1 (t21 : Bool) (t4 : Bool) (t4_1 : Bool) (f : GaFraction) (t4_2 : qL0) (t4_3 : qL0) : Option (GaFraction × Int) :=
 bif t21 then (
 some ((GaFraction.mk (GaBig.mk false ([] : qL0)) (GaBig.mk false ([] : qL0))), 3)
 ) else (
 some (f, 0)
 )

def sr01_result (num : GaBig) (den : GaBig) : Option (GaFraction × Int) :=
 (sr01_lowest num den).bind fun f =>
 bif (decide ((f.Num.Words.length : Int) > 256)) then (
 sr01_result_j1 true false false f ([] : qL0) ([] : qL0)
 ) else (
 sr01_result_j1 (decide ((f.Den.Words.length : Int) > 256)) false false f ([] : qL0) ([] : qL0)
 )

/-! ### tablefinder/tablefinderref01.Add -/

def sr01_Add_j1 (t13 : Bool) (a : GaFraction) (b : GaFraction) (t4 : Bool) (t4_1 : Bool) (t4_2 : qL0) (t4_3 : qL0) : Option (GaFraction × Int) :=
 bif t13 then (
 some ((GaFraction.mk (GaBig.mk false ([] : qL0)) (GaBig.mk false ([] : qL0))), 1)
 ) else (
 (sr01_Times a.Num b.Den).bind fun q =>
 (sr01_Times b.Num a.Den).bind fun q_1 =>
 (sr01_Plus q q_1).bind fun q_2 =>
 (sr01_Times a.Den b.Den).bind fun q_3 =>
 (sr01_result q_2 q_3).bind fun (q_4, q_5) =>
 some (q_4, q_5)
 )

def sr01_Add (a : GaFraction) (b : GaFraction) : Option (GaFraction × Int) :=
 (sr01_Valid a).bind fun q =>
 bif (!q) then (
 sr01_Add_j1 true a b false false ([] : qL0) ([] : qL0)
 ) else (
 (sr01_Valid b).bind fun q_1 =>
 sr01_Add_j1 (!q_1) a b false false ([] : qL0) ([] : qL0)
 )

/-! ### tablefinder/tablefinderref23.Add -/

def sr23_Add (a : GaFraction) (b : GaFraction) : Option GaFraction :=
 (sr01_Add a b).bind fun (f, q) =>
 some f

/-! ### tablefinder/tablefinderlaw25.pairs -/

def sl25_pairs_k2 (d : Gk_Dice) (l : qL1) : Option (qL1 × Gk_Dice) :=
 some (l, d)

def sl25_pairs_j1 (rec_ : qR85) (k : Int) (d : Gk_Dice) (l : qL1) (x_ : GaFraction) (y : GaFraction) : Option qS74 :=
 chk (room (l.length + ([(G_arr2_GaFraction.mk x_ y)] : qL1).length) 128) <|
 chk (inK .i64 (k - 1)) <|
 rec_ (k - 1) d (l ++ ([(G_arr2_GaFraction.mk x_ y)] : qL1))

def sl25_pairs_l1_b (rec_ : qR85) (k : Int) (d : Gk_Dice) (l : qL1) : Option qS74 :=
 bif (decide (k > 0)) then (
 (sk_Fraction d).bind fun (x_, t13) =>
 (sk_Fraction t13).bind fun (y, t15) =>
 (sk_Dice_Next t15 4).bind fun (q, t17) =>
 bif (q == 1) then (
 (sr23_Add x_ x_).bind fun y_1 =>
 sl25_pairs_j1 rec_ k t17 l x_ y_1
 ) else (
 bif (q == 2) then (
 (sr23_Int 1).bind fun y_2 =>
 sl25_pairs_j1 rec_ k t17 l x_ y_2
 ) else (
 sl25_pairs_j1 rec_ k t17 l x_ y
 )
 )
 ) else (
 some (d, l)
 )

def sl25_pairs_l1 : Nat → Int → Gk_Dice → qL1 → Option qS74
 | 0, _, _, _ => none
 | n_ + 1, k, d, l => sl25_pairs_l1_b (sl25_pairs_l1 n_) k d l

def sl25_pairs_l1_F (n : Nat) (s : qS72) : Option qS74 := sl25_pairs_l1 n s.1 s.2.1 s.2.2
def sl25_pairs_l1_B (rec_ : qS72 → Option qS74) (s : qS72) : Option qS74 := sl25_pairs_l1_b (fun k d l => rec_ (k, d, l)) s.1 s.2.1 s.2.2
theorem sl25_pairs_l1_FB : ∀ n s, sl25_pairs_l1_F (n + 1) s = sl25_pairs_l1_B (sl25_pairs_l1_F n) s := fun _ _ => rfl

def sl25_pairs (d : Gk_Dice) : Option (qL1 × Gk_Dice) :=
 (sk_Dice_Next d 9).bind fun (k, t7) =>
 (sl25_pairs_l1 big k t7 ([] : qL1)).bind fun (x0, x1) => sl25_pairs_k2 x0 x1

/-! ### tablefinder/tablefinderref25.SameMoments -/

def sr25_SameMoments_j1 (t4 : Bool) : Option Bool :=
 some t4

def sr25_SameMoments (a : GaMoments) (b : GaMoments) : Option Bool :=
 bif (a.N == b.N) then (
 (sr23_Same a.X b.X).bind fun q =>
 bif q then (
 (sr23_Same a.Y b.Y).bind fun q_1 =>
 bif q_1 then (
 (sr23_Same a.XX b.XX).bind fun q_2 =>
 bif q_2 then (
 (sr23_Same a.YY b.YY).bind fun q_3 =>
 bif q_3 then (
 (sr23_Same a.XY b.XY).bind fun q_4 =>
 sr25_SameMoments_j1 q_4
 ) else (
 sr25_SameMoments_j1 false
 )
 ) else (
 sr25_SameMoments_j1 false
 )
 ) else (
 sr25_SameMoments_j1 false
 )
 ) else (
 sr25_SameMoments_j1 false
 )
 ) else (
 sr25_SameMoments_j1 false
 )

/-! ### tablefinder/tablefinderlaw25.CorrelationParts -/

def sl25_CorrelationParts_j2 (t4 : Bool) : Option Bool :=
 some t4

def sl25_CorrelationParts_k1 (turn : Int) (l : qL1) (m : GaMoments) : Option Bool :=
 chk (inK .i64 ((l.length : Int) + 1)) <|
 (sk_Mod turn ((l.length : Int) + 1)).bind fun k =>
 chk (within k (l.length : Int) (l.length : Int)) <|
 chk (room ((l.drop ((k).toNat)).take ((l.length : Int).toNat - (k).toNat)).length 128) <|
 chk (within 0 k (l.length : Int)) <|
 chk (room (((l.drop ((k).toNat)).take ((l.length : Int).toNat - (k).toNat)).length + ((l.drop 0).take ((k).toNat - 0)).length) 128) <|
 (s_correlation_Of (((l.drop ((k).toNat)).take ((l.length : Int).toNat - (k).toNat)) ++ ((l.drop 0).take ((k).toNat - 0)))).bind fun n =>
 (s_correlation_Of l).bind fun q =>
 (sr25_SameMoments m q).bind fun q_1 =>
 bif q_1 then (
 (sr25_SameMoments m n).bind fun q_2 =>
 bif q_2 then (
 bif (m.N == (l.length : Int)) then (
 (sl25_awake).bind fun q_3 =>
 sl25_CorrelationParts_j2 q_3
 ) else (
 sl25_CorrelationParts_j2 false
 )
 ) else (
 sl25_CorrelationParts_j2 false
 )
 ) else (
 sl25_CorrelationParts_j2 false
 )

def sl25_CorrelationParts_l1_b (rec_ : Int → Int → Int → qL1 → GaMoments → Option qS70) (turn : Int) (t20 : Int) (t21 : Int) (l : qL1) (m : GaMoments) : Option qS70 :=
 bif (decide (t21 < t20)) then (
 chk (inR t21 (l.length : Int)) <|
 (l[(t21).toNat]?).bind fun p =>
 chk (inR 0 2) <|
 chk (inR 1 2) <|
 (s_correlation_Add m p.e0 p.e1).bind fun m_1 =>
 chk (inK .i64 (t21 + 1)) <|
 rec_ turn t20 (t21 + 1) l m_1
 ) else (
 some (turn, l, m)
 )

def sl25_CorrelationParts_l1 : Nat → Int → Int → Int → qL1 → GaMoments → Option qS70
 | 0, _, _, _, _, _ => none
 | n_ + 1, turn, t20, t21, l, m => sl25_CorrelationParts_l1_b (sl25_CorrelationParts_l1 n_) turn t20 t21 l m

def sl25_CorrelationParts_l1_F (n : Nat) (s : qS67) : Option qS70 := sl25_CorrelationParts_l1 n s.1 s.2.1 s.2.2.1 s.2.2.2.1 s.2.2.2.2
def sl25_CorrelationParts_l1_B (rec_ : qS67 → Option qS70) (s : qS67) : Option qS70 := sl25_CorrelationParts_l1_b (fun turn t20 t21 l m => rec_ (turn, t20, t21, l, m)) s.1 s.2.1 s.2.2.1 s.2.2.2.1 s.2.2.2.2
theorem sl25_CorrelationParts_l1_FB : ∀ n s, sl25_CorrelationParts_l1_F (n + 1) s = sl25_CorrelationParts_l1_B (sl25_CorrelationParts_l1_F n) s := fun _ _ => rfl

def sl25_CorrelationParts (t : qL0) (turn : Int) : Option Bool :=
 (sk_Light t).bind fun q =>
 bif (!q) then (
 (sl25_awake).bind fun q_1 =>
 some q_1
 ) else (
 (sk_Roll t).bind fun q_2 =>
 (sl25_pairs q_2).bind fun (l, t16) =>
 (s_correlation_Of ([] : qL1)).bind fun m =>
 (sl25_CorrelationParts_l1 big turn (l.length : Int) (0 : Int) l m).bind fun (x0, x1, x2) => sl25_CorrelationParts_k1 x0 x1 x2
 )

end
end Go.Proofs
