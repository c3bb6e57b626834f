/- The second implementation: words. -/
import Derived.Test.YtbjnddlpdlfknaaGreatDoorQwNW13
set_option linter.unusedVariables false
set_option linter.unusedSimpArgs false
set_option linter.unusedSectionVars false
namespace Go.Proofs
open Go Eng
theorem Zxs:∀n w,Zok n w=ZoD n w
 |0,_=>rfl
 |n+1,w=>by have:Zok n=ZoD n:=funext (Zxs n);show ZsQ (Zok n) w=ZqW (ZoD n) w;rw[this];rfl
theorem Zxy (w:List Int):ZnV w=ZnW w:=by unfold ZnV ZnW;rw[Zxs];rfl
theorem ZvS {l:List Nat} (h:Dg l) (hl:l.length≤1000000):ZnV (iL l)=some (iL (wd (val l))):=by rw[Zxy,Zvp h hl]
theorem ZvR (neg:Bool) {l:List Nat} (h:Dg l) (hl:l.length≤1000000):ZnO neg (iL l)=some (bg (if neg then -(val l:Int)else val l)):=by
 unfold ZnO Zqx;rw[ZvS h hl,Option.bind_some,ZnR];unfold bg;cases neg with
 |true=>
  rw[cond_true,if_pos rfl,Int.natAbs_neg,Int.natAbs_natCast];congr 2
  by_cases h0:val l=0
  ·rw[h0,ZrP];rfl
  ·have:=Zqj h0;rw[decide_eq_true (by omega),decide_eq_true (by omega)]
 |false=>rw[cond_false,if_neg (by decide),Int.natAbs_natCast,decide_eq_false (by omega)]
theorem Zug (a:ZnE):Zoc a=Zqr a:=rfl
end Go.Proofs
