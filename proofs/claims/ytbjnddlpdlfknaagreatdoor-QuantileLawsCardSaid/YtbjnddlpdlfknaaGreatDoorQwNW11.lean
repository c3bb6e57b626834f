/- Fractions: Sub, Div, comparison, sign; the names of package num. -/
import Derived.Test.YtbjnddlpdlfknaaGreatDoorQwNW10
set_option linter.unusedVariables false
set_option linter.unusedSimpArgs false
set_option linter.unusedSectionVars false
namespace Go.Proofs
open Go Eng
theorem Zxh (z:Int):Zrk (bg z)=some (bg (-z)):=by
 unfold Zrk Zrs;rw[Zus,ZoR,ZnR]
 by_cases hz:z < 0
 ·rw[decide_eq_true hz,Bool.not_true,cond_false];unfold bg;rw[Int.natAbs_neg,decide_eq_false (by omega:¬ -z < 0)]
 ·rw[decide_eq_false hz,Bool.not_false,cond_true];unfold bg;rw[Int.natAbs_neg];congr 2
  by_cases h0:z=0
  ·subst h0;rw[show (0:Int).natAbs=0 from rfl,ZrP];rfl
  ·have:=Zqj (n:=z.natAbs) (by omega);rw[decide_eq_true (by omega),decide_eq_true (by omega)]
theorem Sz.neg {q:Rat} {k:Nat} (h:Sz k q):Sz k (-q):=by show (-q.num).natAbs < 2 ^ k∧q.den < 2 ^ k;rw[Int.natAbs_neg];exact h
def Zxg (a b:Rat):Int:=if a < b then -1 else if b < a then 1 else 0
theorem Zwj (a b:Rat):a < b↔a.num*(b.den:Int) < b.num*(a.den:Int):=Rat.lt_iff a b
theorem Zw6 {a b:Rat} (qa:Wq 256 a) (qb:Wq 256 b):ZpI (fOf a) (fOf b)=some (Zxg a b):=by
 have w:∀{x y:Int},Wl 256 x→Wl 256 y→Wl 50000 (x*y):=fun hx hy=>by unfold Wl;rw[Int.natAbs_mul];exact Nat.le_trans (Zxn hx hy) (by decide)
 have m:∀{x:Int},Wl 256 x→Wl 50000 x:=fun h=>Nat.le_trans h (by decide)
 unfold ZpI;rw[Zxq a qa,Option.bind_some,Bool.not_true,cond_false,Zxq b qb,Option.bind_some,Bool.not_true];unfold Ztq;rw[cond_false];show ((Zo3 (bg a.num) (bg (b.den:Int))).bind fun q=>(Zo3 (bg b.num) (bg (a.den:Int))).bind _)=_;rw[ZwG _ _ (m qa.1) (m qb.2),Option.bind_some,ZwG _ _ (m qb.1) (m qa.2),Option.bind_some,Zxh,Option.bind_some];have w2:Wl 50000 (-(b.num*(a.den:Int))):=by unfold Wl;rw[Int.natAbs_neg];exact w qb.1 qa.2
 rw[Zz0 _ _ (w qa.1 qb.2) w2,Option.bind_some,Zus,ZoR,ZnR];unfold Zxg;have h1:=Zwj a b;have h2:=Zwj b a;generalize a.num*(b.den:Int)=x at*
 generalize b.num*(a.den:Int)=y at*
 by_cases hl:a < b
 ·rw[if_pos hl,decide_eq_true (by have:=h1.1 hl;omega),cond_true]
 ·have hn:¬x < y:=fun h=>hl (h1.2 h)
  rw[if_neg hl,decide_eq_false (by omega),cond_false]
  by_cases hg:b < a
  ·have:=Zqj (n:=(x+ -y).natAbs) (by have:=h2.1 hg;omega);rw[if_pos hg,decide_eq_true (by omega),cond_true]
  ·have hn2:¬y < x:=fun h=>hg (h2.2 h)
   rw[if_neg hg,show x+ -y=0 by omega,show (0:Int).natAbs=0 from rfl,ZrP];rfl
theorem Zzt (x y:Int) (hy:y≠0) (hx1:Wl 256 x) (hy1:Wl 256 y):Zte (bg x) (bg y)=some (fOf (Rat.divInt x y),0):=by
 have hb:=Zx5 [x,y] (by simp) (fun z hz=>by
  simp only[List.mem_cons,List.not_mem_nil,or_false]at hz;rcases hz with rfl |rfl
  ·exact hx1
  ·exact hy1)
 unfold Zte;rw[show ([bg x,bg y]:List ZnE)=[x,y].map bg from rfl,hb,Option.bind_some,Bool.not_true,cond_false,Zww hy,cond_false,ZwF _ _ hy (Nat.le_trans hx1 (by decide)) (Nat.le_trans hy1 (by decide)),Option.bind_some]
theorem ZBH {z:Int} (h1: -9223372036854775808≤z) (h2:z≤9223372036854775807):Wl 256 z:=Nat.le_trans (Zzu (by omega)) (by decide)
theorem ZAb (x y:Int) (hy:y≠0) (h1: -9223372036854775808≤x) (h2:x≤9223372036854775807) (h3: -9223372036854775808≤y) (h4:y≤9223372036854775807):Ztp x y=some (fOf (Rat.divInt x y),0):=by unfold Ztp;rw[ZwM x h1 h2,Option.bind_some,ZwM y h3 h4,Option.bind_some,Zzt x y hy (ZBH h1 h2) (ZBH h3 h4),Option.bind_some]
theorem Zy8:ZuR=some (fOf 0):=by unfold ZuR;rw[ZAb 0 1 (by decide) (by decide) (by decide) (by decide) (by decide),Option.bind_some,Rat.zero_divInt]
theorem Zyn (x y:Int) (hy:y≠0) (h1: -9223372036854775808≤x) (h2:x≤9223372036854775807) (h3: -9223372036854775808≤y) (h4:y≤9223372036854775807):Zv4 x y=some (fOf (Rat.divInt x y)):=by unfold Zv4;rw[ZAb x y hy h1 h2 h3 h4,Option.bind_some];rfl
theorem ZxM:Sz 1 0:=by unfold Sz;decide
end Go.Proofs
