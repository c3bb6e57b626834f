/- The second implementation: sums, products, fractions, comparison. -/
import Derived.Test.YtbjnddlpdlfknaaGreatDoorQwNW27
set_option linter.unusedVariables false
set_option linter.unusedSimpArgs false
set_option linter.unusedSectionVars false
namespace Go.Proofs
open Go Eng
theorem Zw1 (x y:Int) (hx:Wl 50000 x) (hy:Wl 50000 y):Zof (bg x) (bg y)=some (bg (x*y)):=by unfold Zof;have:=Zxn hx hy;rw[ZoR,ZoR,Zzr _ _ (by omega) (by omega),Option.bind_some,ZvR _ (ZsH _) (by omega),Zqs,Option.bind_some,Zx6]
theorem Zyl (x y:Int) (hx:Wl 50000 x) (hy:Wl 50000 y):ZpR (bg x) (bg y)=some (bg (x+y)):=by
 unfold Wl at hx hy;unfold ZpR;have h1:=ZxK hx hy;rw[ZoR,ZoR,Zus,Zus];have opp:decide (x < 0)≠decide (y < 0)→Zn3 (iL (wd x.natAbs)) (iL (wd y.natAbs))=some (ZwI x.natAbs y.natAbs):=fun _=>Zwz _ _ (by omega) (by omega)
 by_cases hs:decide (x < 0)=decide (y < 0)
 ·obtain⟨o,ho,hd,hl,hv⟩:=ZzJ x.natAbs y.natAbs (by omega) (by omega);rw[hs,beq_self_eq_true,cond_true,ho,Option.bind_some,ZvR _ hd (by omega),hv,Option.bind_some];congr 2
  by_cases hy0:y < 0
  ·have hx0:x < 0:=by rw[decide_eq_true hy0]at hs;exact of_decide_eq_true hs
   rw[decide_eq_true hy0,if_pos rfl];omega
  ·have hx0:¬x < 0:=by rw[decide_eq_false hy0]at hs;exact of_decide_eq_false hs
   rw[decide_eq_false hy0,if_neg (by decide)];omega
 ·rw[beq_eq_false_iff_ne.2 hs,cond_false,opp hs,Option.bind_some];rcases Nat.lt_or_ge x.natAbs y.natAbs with hlt |hge
  ·have:=Zru (Nat.sub_le y.natAbs x.natAbs);rw[Zue hlt,decide_eq_false (by omega),cond_false,Zwo _ _ (by omega) (by omega),Option.bind_some,ZvR _ (ZsH _) (by omega),Zqs,Option.bind_some];congr 2
   by_cases hy0:y < 0
   ·have hx0:¬x < 0:=fun h=>hs (by rw[decide_eq_true hy0,decide_eq_true h])
    rw[decide_eq_true hy0,if_pos rfl];omega
   ·have hx0:x < 0:=Decidable.byContradiction fun h=>hs (by rw[decide_eq_false hy0,decide_eq_false h])
    rw[decide_eq_false hy0,if_neg (by decide)];omega
  ·have hn:ZwI x.natAbs y.natAbs≥0:=by
    rcases Nat.lt_or_ge y.natAbs x.natAbs with h |h
    ·rw[Zt5 h];decide
    ·rw[show x.natAbs=y.natAbs by omega,Ztj];decide
   have:=Zru (Nat.sub_le x.natAbs y.natAbs);rw[decide_eq_true hn,cond_true,Zwo _ _ hge (by omega),Option.bind_some,ZvR _ (ZsH _) (by omega),Zqs,Option.bind_some];congr 2
   by_cases hx0:x < 0
   ·have hy0:¬y < 0:=fun h=>hs (by rw[decide_eq_true hx0,decide_eq_true h])
    rw[decide_eq_true hx0,if_pos rfl];omega
   ·have hy0:y < 0:=Decidable.byContradiction fun h=>hs (by rw[decide_eq_false hx0,decide_eq_false h])
    rw[decide_eq_false hx0,if_neg (by decide)];omega
theorem ZxS (z:Int) (hz:Wl 100000 z):Zpx (bg z)=some (bg (-z)):=by
 unfold Wl at hz;unfold Zpx;rw[Zus,ZoR,ZvR _ (ZsH _) (by omega),Zqs,Option.bind_some];congr 2
 by_cases h:z < 0
 ·rw[decide_eq_true h,if_neg (by decide)];omega
 ·rw[decide_eq_false h,if_pos (by decide)];omega
theorem ZwZ (q:Rat) (h:Wq 256 q):ZoP (fOf q)=some true:=by
 have hn:=h.1;have hd:=h.2;have hd0:=q.den_nz;unfold ZoP Zox fOf;dsimp only;rw[Zug,ZuS _ h.1,Option.bind_some,Bool.not_true,cond_false,Zug,ZuS _ h.2,Option.bind_some,Bool.not_true,cond_false,Zus,decide_eq_false (by omega),cond_false,Zww (by omega),cond_false,ZoR,ZoR,ZnR];unfold Wl at hn hd;have h1:(wd 1).length≤1:=Zuh (by decide);have hc:Nat.gcd q.num.natAbs (q.den:Int).natAbs=1:=q.reduced
 by_cases h0:q.num=0
 ·rw[h0]at hc;have e:(q.den:Int).natAbs=1:=by rwa [show (0:Int).natAbs=0 from rfl,Nat.gcd_zero_left]at hc
  rw[h0,show (0:Int).natAbs=0 from rfl,ZrP,e,←Zwq,Zwz 1 1 (by omega) (by omega),Ztj];rfl
 ·have hl:=Zqj (n:=q.num.natAbs) (by omega);rw[beq_eq_false_iff_ne.2 (by omega),cond_false,ZxY _ _ (by omega) (by omega) (by omega) (by omega),hc,Option.bind_some,←Zwq,Zwz 1 1 (by omega) (by omega),Ztj];rfl
theorem Zx3 {a b:Rat} (qa:Wq 256 a) (qb:Wq 256 b):Zo8 (fOf a) (fOf b)=some (Zxg a b):=by
 have w:∀{x y:Int},Wl 256 x→Wl 256 y→Wl 50000 (x*y):=fun hx hy=>by unfold Wl;rw[Int.natAbs_mul];exact Nat.le_trans (Zxn hx hy) (by decide)
 have m:∀{x:Int},Wl 256 x→Wl 50000 x:=fun h=>Nat.le_trans h (by decide)
 unfold Zo8 Zqy;rw[ZwZ a qa,Option.bind_some,Bool.not_true,cond_false,ZwZ b qb,Option.bind_some,Bool.not_true,cond_false];show ((Zof (bg a.num) (bg (b.den:Int))).bind fun q=>(Zof (bg b.num) (bg (a.den:Int))).bind _)=_;rw[Zw1 _ _ (m qa.1) (m qb.2),Option.bind_some,Zw1 _ _ (m qb.1) (m qa.2),Option.bind_some,ZxS _ (Nat.le_trans (w qb.1 qa.2) (by decide)),Option.bind_some];have w2:Wl 50000 (-(b.num*(a.den:Int))):=by unfold Wl;rw[Int.natAbs_neg];exact w qb.1 qa.2
 rw[Zyl _ _ (w qa.1 qb.2) w2,Option.bind_some,Zus,ZoR,ZnR];unfold Zxg;have h1:=Zwj a b;have h2:=Zwj b a;generalize a.num*(b.den:Int)=x at*
 generalize b.num*(a.den:Int)=y at*
 by_cases hl:a < b
 ·have hlt:=h1.1 hl;have:=Zqj (n:=(x+ -y).natAbs) (by omega);rw[if_pos hl,beq_eq_false_iff_ne.2 (by omega),cond_false,decide_eq_true (by omega),cond_true]
 ·have hn:¬x < y:=fun h=>hl (h1.2 h)
  rw[if_neg hl]
  by_cases hg:b < a
  ·have hlt:=h2.1 hg;have:=Zqj (n:=(x+ -y).natAbs) (by omega);rw[if_pos hg,beq_eq_false_iff_ne.2 (by omega),cond_false,decide_eq_false (by omega),cond_false]
  ·have hn2:¬y < x:=fun h=>hg (h2.2 h)
   rw[if_neg hg,show x+ -y=0 by omega,show (0:Int).natAbs=0 from rfl,ZrP];rfl
theorem Zws {a b:Rat} (qa:Wq 256 a) (qb:Wq 256 b):Zor (fOf a) (fOf b)=some (decide (a < b)):=by
 unfold Zor;rw[Zx3 qa qb,Option.bind_some];unfold Zxg
 by_cases h:a < b
 ·rw[if_pos h,decide_eq_true h];rfl
 ·rw[if_neg h,decide_eq_false h];split<;>rfl
theorem ZxI:ZpJ=some (fOf 0):=by unfold ZpJ;rw[ZuP 0 (by decide) (by decide),Option.bind_some];rfl
end Go.Proofs
