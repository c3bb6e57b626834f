/- Numbers of many words with a sign: sums, products, fractions in lowest terms. -/
import Derived.Test.YtbjnddlpdlfknaaGreatDoorQwNW7
set_option linter.unusedVariables false
set_option linter.unusedSimpArgs false
set_option linter.unusedSectionVars false
namespace Go.Proofs
open Go Eng
def bg (z:Int):ZnE:=⟨decide (z < 0),iL (wd z.natAbs)⟩
theorem Zus (z:Int):(bg z).Neg=decide (z < 0):=rfl
theorem ZoR (z:Int):(bg z).Words=iL (wd z.natAbs):=rfl
abbrev Wl (n:Nat) (z:Int):Prop:=(wd z.natAbs).length≤n
theorem ZtK (neg:Bool) (n:Nat) (h:(wd n).length≤1000000):Zn2 neg (iL (wd n))=some (bg (if neg then -(n:Int)else n)):=by
 unfold Zn2 Zsd bg;have hr:ZiZ (iL (wd n)).length 4=true:=ZtS (by rw[ZnR];omega);cases neg with
 |true=>
  rw[cond_true,hr,chk_true,ZnR,if_pos rfl,Int.natAbs_neg,Int.natAbs_natCast];congr 2
  by_cases h0:n=0
  ·subst h0;rw[ZrP];rfl
  ·have:=Zqj h0;rw[decide_eq_true (by omega),decide_eq_true (by omega)]
 |false=>
  rw[cond_false,hr,chk_true,if_neg (by decide),Int.natAbs_natCast,decide_eq_false (by omega)]
theorem ZwH (n:Nat) (h:n < 18446744073709551616):Zp3 (n:Int)=some (iL (wd n)):=by
 unfold Zp3;have e:([IntKind.wrap .u32 (n:Int),IntKind.wrap .u32 (shrK .u64 (n:Int) 32)]:List Int)=iL [n % 4294967296,n / 4294967296]:=by rw[show (32:Int)=((32:Nat):Int)from rfl,Zvq 32 (by omega),Zsh,ZsF (by omega)];rfl
 have hd:Dg [n % 4294967296,n / 4294967296]:=fun d hd=>by
  simp only[List.mem_cons,List.mem_singleton,List.not_mem_nil,or_false]at hd;rcases hd with rfl |rfl
  ·exact Nat.mod_lt _ (by decide)
  ·simp only[Bw];omega
 rw[e,Zvp hd (by simp)];have hv:val [n % 4294967296,n / 4294967296]=n:=by simp only[val,Nat.mul_zero,Nat.add_zero];exact Nat.mod_add_div n Bw
 rw[hv];rfl
theorem Zzu {n:Nat} (h:n < 18446744073709551616):(wd n).length≤2:=Zuh (by simp only[Bw];omega)
theorem ZwM (z:Int) (h1: -9223372036854775808≤z) (h2:z≤9223372036854775807):ZqI z=some (bg z):=by
 unfold ZqI
 by_cases hz:z < 0
 ·have e:IntKind.wrap .u64 (0 - IntKind.wrap .u64 z)=((z.natAbs:Nat):Int):=by rw[IntKind.wrap_u64,IntKind.wrap_u64];omega
  rw[decide_eq_true hz,cond_true,e,ZwH _ (by omega),Option.bind_some,ZtK _ _ (Nat.le_trans (Zzu (by omega)) (by decide)),Option.bind_some,if_pos rfl,show -((z.natAbs:Nat):Int)=z by omega]
 ·have e:IntKind.wrap .u64 z=((z.natAbs:Nat):Int):=by rw[IntKind.wrap_u64];omega
  rw[decide_eq_false hz,cond_false,e,ZwH _ (by omega),Option.bind_some,ZtK _ _ (Nat.le_trans (Zzu (by omega)) (by decide)),Option.bind_some,if_neg (by decide),show ((z.natAbs:Nat):Int)=z by omega]
theorem ZuS (z:Int) (h:Wl 256 z):Zqr (bg z)=some true:=by
 unfold Wl at h;have top:∀hp:0 < (wd z.natAbs).length,∃x:Nat,idx (iL (wd z.natAbs)) (((wd z.natAbs).length:Int) - 1)=some (x:Int)∧x≠0:=fun hp=>by
  refine⟨(wd z.natAbs)[(wd z.natAbs).length - 1], ?_,fun e=> ?_⟩
  ·rw[show ((wd z.natAbs).length:Int) - 1=(((wd z.natAbs).length - 1:Nat):Int) by omega,ZrN (by omega)]
  ·have hi:(wd z.natAbs).length - 1 < (wd z.natAbs).length:=by omega
   have h1:=ZnZ hi;rw[e,Nat.mul_zero,Nat.add_zero,List.take_of_length_le (by omega),Zqs]at h1;have h2:=Ztr ((ZsH z.natAbs).take ((wd z.natAbs).length - 1));rw[List.length_take,Nat.min_eq_left (by omega)]at h2;have h3:=ZwY hi;omega
 unfold Zqr Zov;rw[ZoR,Zus,ZnR,decide_eq_true (by omega),cond_true]
 by_cases h0:(wd z.natAbs).length=0
 ·have:z=0:=by have:=ZzY.1 (List.eq_nil_of_length_eq_zero h0);omega
  subst this;rw[h0];rfl
 ·obtain⟨x,hx,hx0⟩:=top (by omega);have e0:(((wd z.natAbs).length:Int) == 0)=false:=beq_eq_false_iff_ne.2 (by omega);have e1:((x:Int) != 0)=true:=by simp only[bne_iff_ne];omega
  rw[e0,cond_false,decide_eq_true (by omega),cond_true,ZnG (by omega),chk_true,hx,Option.bind_some,e1]
theorem Zx6 (x y:Int):(if (!((bg x).Neg == (bg y).Neg))=true then -((x.natAbs*y.natAbs:Nat):Int)else ((x.natAbs*y.natAbs:Nat):Int))=x*y:=by
 rw[Zus,Zus]
 by_cases hx:x < 0<;>by_cases hy:y < 0
 ·rw[decide_eq_true hx,decide_eq_true hy,if_neg (by decide),Int.natCast_mul,show ((x.natAbs:Nat):Int)= -x by omega,show ((y.natAbs:Nat):Int)= -y by omega,Int.neg_mul_neg]
 ·rw[decide_eq_true hx,decide_eq_false hy,if_pos (by decide),Int.natCast_mul,show ((x.natAbs:Nat):Int)= -x by omega,show ((y.natAbs:Nat):Int)=y by omega,Int.neg_mul,Int.neg_neg]
 ·rw[decide_eq_false hx,decide_eq_true hy,if_pos (by decide),Int.natCast_mul,show ((x.natAbs:Nat):Int)=x by omega,show ((y.natAbs:Nat):Int)= -y by omega,Int.mul_neg,Int.neg_neg]
 ·rw[decide_eq_false hx,decide_eq_false hy,if_neg (by decide),Int.natCast_mul,show ((x.natAbs:Nat):Int)=x by omega,show ((y.natAbs:Nat):Int)=y by omega]
theorem Zxn {x y:Nat} {n m:Nat} (hx:(wd x).length≤n) (hy:(wd y).length≤m):(wd (x*y)).length≤n+m:=by refine Zuh ?_;have h1:=Nat.mul_lt_mul_of_lt_of_le (ZsX x) (Nat.le_of_lt (ZsX y)) (Nat.pow_pos (by decide));rw[←Nat.pow_add]at h1;exact Nat.lt_of_lt_of_le h1 (Nat.pow_le_pow_right (by decide) (by omega))
theorem ZwG (x y:Int) (hx:Wl 50000 x) (hy:Wl 50000 y):Zo3 (bg x) (bg y)=some (bg (x*y)):=by unfold Zo3;have:=Zxn hx hy;rw[ZoR,ZoR,Zyg _ _ (by omega) (by omega),Option.bind_some,ZtK _ _ (by omega),Option.bind_some,Zx6]
theorem ZxK {x y n:Nat} (hx:(wd x).length≤n) (hy:(wd y).length≤n):(wd (x+y)).length≤n+1:=by refine Zuh ?_;have h1:=Nat.lt_of_lt_of_le (ZsX x) (Nat.pow_le_pow_right (n:=Bw) (by decide) hx);have h2:=Nat.lt_of_lt_of_le (ZsX y) (Nat.pow_le_pow_right (n:=Bw) (by decide) hy);rw[Nat.pow_succ];have:=Nat.mul_le_mul_left (Bw ^ n) (show 2≤Bw by decide);omega
theorem Zz0 (x y:Int) (hx:Wl 50000 x) (hy:Wl 50000 y):ZtN (bg x) (bg y)=some (bg (x+y)):=by
 unfold Wl at hx hy;unfold ZtN;have h1:=ZxK hx hy;rw[ZoR,ZoR,Zus,Zus];have opp:decide (x < 0)≠decide (y < 0)→Zog (iL (wd x.natAbs)) (iL (wd y.natAbs))=some (ZwI x.natAbs y.natAbs):=fun _=>Zwd _ _ (by omega) (by omega)
 by_cases hs:decide (x < 0)=decide (y < 0)
 ·rw[hs,beq_self_eq_true,cond_true,Zzo _ _ (by omega) (by omega),Option.bind_some,ZtK _ _ (by omega),Option.bind_some];congr 2
  by_cases hy0:y < 0
  ·have hx0:x < 0:=by rw[decide_eq_true hy0]at hs;exact of_decide_eq_true hs
   rw[decide_eq_true hy0,if_pos rfl];omega
  ·have hx0:¬x < 0:=by rw[decide_eq_false hy0]at hs;exact of_decide_eq_false hs
   rw[decide_eq_false hy0,if_neg (by decide)];omega
 ·rw[beq_eq_false_iff_ne.2 hs,cond_false,opp hs,Option.bind_some];rcases Nat.lt_or_ge x.natAbs y.natAbs with hlt |hge
  ·have:=Zru (Nat.sub_le y.natAbs x.natAbs);rw[Zue hlt,decide_eq_false (by omega),cond_false,Zxx _ _ (by omega) (by omega),Option.bind_some,ZtK _ _ (by omega),Option.bind_some];congr 2
   by_cases hy0:y < 0
   ·have hx0:¬x < 0:=fun h=>hs (by rw[decide_eq_true hy0,decide_eq_true h])
    rw[decide_eq_true hy0,if_pos rfl];omega
   ·have hx0:x < 0:=Decidable.byContradiction fun h=>hs (by rw[decide_eq_false hy0,decide_eq_false h])
    rw[decide_eq_false hy0,if_neg (by decide)];omega
  ·have hn:ZwI x.natAbs y.natAbs≥0:=by
    rcases Nat.lt_or_ge y.natAbs x.natAbs with h |h
    ·rw[Zt5 h];decide
    ·rw[show x.natAbs=y.natAbs by omega,Ztj];decide
   have:=Zru (Nat.sub_le x.natAbs y.natAbs);rw[decide_eq_true hn,cond_true,Zxx _ _ hge (by omega),Option.bind_some,ZtK _ _ (by omega),Option.bind_some];congr 2
   by_cases hx0:x < 0
   ·have hy0:¬y < 0:=fun h=>hs (by rw[decide_eq_true hx0,decide_eq_true h])
    rw[decide_eq_true hx0,if_pos rfl];omega
   ·have hy0:y < 0:=Decidable.byContradiction fun h=>hs (by rw[decide_eq_false hx0,decide_eq_false h])
    rw[decide_eq_false hx0,if_neg (by decide)];omega
end Go.Proofs
