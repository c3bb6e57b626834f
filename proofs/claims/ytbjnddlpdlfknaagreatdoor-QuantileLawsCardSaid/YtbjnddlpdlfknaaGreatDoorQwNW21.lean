/- The second implementation: the binary gcd's main loop, the first number odd. -/
import Derived.Test.YtbjnddlpdlfknaaGreatDoorQwNW20
set_option linter.unusedVariables false
set_option linter.unusedSimpArgs false
set_option linter.unusedSectionVars false
namespace Go.Proofs
open Go Eng
theorem Zyu (k:Int):∀(n x y p q:Nat),x % 2=1→(wd x).length≤100000→(wd y).length≤100000→x < 2 ^ p→y < 2 ^ q→p+q+y % 2 < n→ZnP n (iL (wd x)) (iL (wd y)) k=some (iL (wd (Nat.gcd x y)),k)
 |0,x,y,p,q,_,_,_,_,_,h=>absurd h (by omega)
 |n+1,x,y,p,q,ho,hxl,hyl,hp,hq,hn=>by
  show ZoU (ZnP n) _ _ _=_;unfold ZoU;rw[ZnR]
  by_cases h0:y=0
  ·subst h0;rw[ZrP,Nat.gcd_zero_right];rfl
  ·have hl:=Zqj h0;obtain⟨z,hz,hz1,hz2,hz3⟩:=ZBW (iL (wd x)) k x ho h0 hyl;rw[decide_eq_true (by omega),cond_true,ZyJ _ _ ho,Option.bind_some];dsimp only;unfold ZrW;rw[hz,Option.bind_some];dsimp only;have hzl:=Nat.le_trans (Zru hz2.1) hyl;unfold ZrV;rw[Zwz x z hxl hzl,Option.bind_some];obtain⟨q',hq',hq2⟩:∃q',z < 2 ^ q'∧q'+1≤q+y % 2:=by
    by_cases he:y % 2=0
    ·cases q with
     |zero=>rw[Nat.pow_zero]at hq;omega
     |succ q=>
      refine⟨q, ?_,by omega⟩;have:=hz2.2 he;rw[Nat.pow_succ]at hq;omega
    ·exact⟨q,by omega,by omega⟩
   unfold Zqu;have eg:Nat.gcd x y=Nat.gcd x z:=by rw[Nat.gcd_comm x y,←hz3,Nat.gcd_comm]
   rw[eg]
   by_cases hc:z < x
   ·rw[Zt5 hc,show decide ((1:Int) > 0)=true from rfl,cond_true,Zwo x z (by omega) hxl,Option.bind_some,Zyu k n z (x - z) q' p hz1 hzl (Nat.le_trans (Zru (Nat.sub_le x z)) hxl) hq' (by omega) (by omega),Nat.gcd_sub_self_right (by omega),Nat.gcd_comm]
   ·have hnc:decide (ZwI x z > 0)=false:=by refine decide_eq_false ?_;unfold ZwI;rw[if_neg hc];split<;>decide
    rw[hnc,cond_false,Zwo z x (by omega) hzl,Option.bind_some,Zyu k n x (z - x) p q' ho hxl (Nat.le_trans (Zru (Nat.sub_le z x)) hzl) hp (by omega) (by omega),Nat.gcd_sub_self_right (by omega)]
end Go.Proofs
