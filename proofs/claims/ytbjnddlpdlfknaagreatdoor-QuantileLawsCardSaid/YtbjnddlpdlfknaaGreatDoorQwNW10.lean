/- Fractions: the four operations, comparison. -/
import Derived.Test.YtbjnddlpdlfknaaGreatDoorQwNW9
set_option linter.unusedVariables false
set_option linter.unusedSimpArgs false
set_option linter.unusedSectionVars false
namespace Go.Proofs
open Go Eng
def Sz (k:Nat) (q:Rat):Prop:=q.num.natAbs < 2 ^ k∧q.den < 2 ^ k
theorem Sz.mono {k l:Nat} {q:Rat} (h:Sz k q) (hl:k≤l):Sz l q:=⟨Nat.lt_of_lt_of_le h.1 (Nat.pow_le_pow_right (by decide) hl),Nat.lt_of_lt_of_le h.2 (Nat.pow_le_pow_right (by decide) hl)⟩
theorem ZwP {n k:Nat} (h:n < 2 ^ k) (m:Nat) (hk:k≤32*m):(wd n).length≤m:=by refine Zuh (Nat.lt_of_lt_of_le h ?_);rw[show Bw=2 ^ 32 from rfl,←Nat.pow_mul];exact Nat.pow_le_pow_right (by decide) hk
theorem Sz.wq {k:Nat} {q:Rat} (h:Sz k q) (hk:k≤8192):Wq 256 q:=⟨ZwP h.1 256 (by omega),ZwP (n:=(q.den:Int).natAbs) (by rw[Int.natAbs_natCast];exact h.2) 256 (by omega)⟩
theorem Zwn {x y:Int} {k:Nat} (hy:y≠0) (h1:x.natAbs < 2 ^ k) (h2:y.natAbs < 2 ^ k):Sz k (Rat.divInt x y):=by
 unfold Sz;rw[Rat.num_divInt,Rat.den_divInt,if_neg hy];refine⟨Nat.lt_of_le_of_lt ?_ h1,Nat.lt_of_le_of_lt (Nat.div_le_self _ _) h2⟩;have hd:((Int.gcd y x:Nat):Int)∣y.sign*x:=Int.dvd_trans (Int.gcd_dvd_right y x) (Int.dvd_mul_left _ _);rw[Int.natAbs_ediv_of_dvd hd,Int.natAbs_mul];refine Nat.le_trans (Nat.div_le_self _ _) ?_;have:y.sign.natAbs=1:=by rw[Int.natAbs_sign_of_ne_zero hy]
 rw[this,Nat.one_mul];exact Nat.le_refl _
theorem Zwb {x y k l:Nat} (hx:x < 2 ^ k) (hy:y < 2 ^ l):x*y < 2 ^ (k+l):=by rw[Nat.pow_add];exact Nat.mul_lt_mul_of_lt_of_le hx (Nat.le_of_lt hy) (Nat.two_pow_pos _)
theorem ZxG (a b:Rat):Rat.divInt (a.num*(b.den:Int)+b.num*(a.den:Int)) ((a.den:Int)*(b.den:Int))=a+b:=by have h1:=a.den_nz;have h2:=b.den_nz;rw[←Rat.divInt_add_divInt _ _ (by omega) (by omega),Rat.num_divInt_den,Rat.num_divInt_den]
theorem Sz.add {a b:Rat} {k l:Nat} (ha:Sz k a) (hb:Sz l b):Sz (k+l+1) (a+b):=by
 rw[←ZxG];have h1:=a.den_nz;have h2:=b.den_nz;have q1:=Zwb ha.1 hb.2;have q2:=Zwb ha.2 hb.1;have q3:=Zwb ha.2 hb.2;have hp:=Nat.two_pow_pos (k+l);refine Zwn (Int.mul_ne_zero (by omega) (by omega)) ?_ ?_
 ·rw[Nat.pow_succ];refine Nat.lt_of_le_of_lt (Int.natAbs_add_le _ _) ?_;rw[Int.natAbs_mul,Int.natAbs_mul,Int.natAbs_natCast,Int.natAbs_natCast,Nat.mul_comm b.num.natAbs];omega
 ·rw[Nat.pow_succ,Int.natAbs_mul,Int.natAbs_natCast,Int.natAbs_natCast];omega
theorem Zww {y:Int} (hy:y≠0):(((bg y).Words.length:Int) == 0)=false:=by have:=Zqj (n:=y.natAbs) (by omega);rw[ZoR,ZnR];exact beq_eq_false_iff_ne.2 (by omega)
end Go.Proofs
