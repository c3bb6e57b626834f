/- The second implementation: the whole binary gcd. -/
import Derived.Test.YtbjnddlpdlfknaaGreatDoorQwNW21
set_option linter.unusedVariables false
set_option linter.unusedSimpArgs false
set_option linter.unusedSectionVars false
namespace Go.Proofs
open Go Eng
theorem ZAh:∀(n x y j m:Nat),x≠0→y≠0→(wd x).length≤100000→(wd y).length≤100000→x < 2 ^ m→m≤n→j+m≤1000000000→
  ∃x' y' t:Nat,ZoK n (iL (wd x)) (iL (wd y)) (j:Int)=some (iL (wd x'),iL (wd y'),((j+t:Nat):Int))∧(x' % 2=1∨y' % 2=1)∧Nat.gcd x y=2 ^ t*Nat.gcd x' y'∧x'≠0∧y'≠0∧x'≤x∧y'≤y∧t≤m
 |0,x,y,j,m,hx,hy,hxl,hyl,hm,hmn,hj=>by
  have:m=0:=by omega
  subst this;rw[Nat.pow_zero]at hm;omega
 |n+1,x,y,j,m,hx,hy,hxl,hyl,hm,hmn,hj=>by
  show ∃x' y' t:Nat,Zra (ZoK n) _ _ _=_∧_;unfold Zra Zqv;rw[Zw4 hx,Option.bind_some,Zwv]
  by_cases h1:x % 2=0
  ·rw[decide_eq_true h1,cond_true,Zw4 hy,Option.bind_some,Zwv]
   by_cases h2:y % 2=0
   ·cases m with
    |zero=>rw[Nat.pow_zero]at hm;omega
    |succ m=>
     rw[decide_eq_true h2,cond_true,Zwk x hxl,Option.bind_some,Zwk y hyl,Option.bind_some,ZnG (by omega),chk_true];obtain⟨x',y',t,q1,q2,q3,q4,q5,q6,q7,q8⟩:=ZAh n (x / 2) (y / 2) (j+1) m (by omega) (by omega) (Nat.le_trans (Zru (Nat.div_le_self x 2)) hxl) (Nat.le_trans (Zru (Nat.div_le_self y 2)) hyl) (by rw[Nat.pow_succ]at hm;omega) (by omega) (by omega);refine⟨x',y',t+1, ?_,q2, ?_,q4,q5,by omega,by omega,by omega⟩
     ·rw[show (j:Int)+1=((j+1:Nat):Int)from rfl,q1,show j+1+t=j+(t+1) by omega]
     ·have:=Nat.gcd_mul_left 2 (x / 2) (y / 2);rw[show 2*(x / 2)=x by omega,show 2*(y / 2)=y by omega]at this;rw[this,q3,Nat.pow_succ,Nat.mul_comm (2 ^ t) 2,Nat.mul_assoc]
   ·rw[decide_eq_false h2,cond_false];exact⟨x,y,0,rfl,.inr (by omega),by rw[Nat.pow_zero,Nat.one_mul],hx,hy,Nat.le_refl _,Nat.le_refl _,Nat.zero_le _⟩
  ·rw[decide_eq_false h1,cond_false,cond_false];exact⟨x,y,0,rfl,.inl (by omega),by rw[Nat.pow_zero,Nat.one_mul],hx,hy,Nat.le_refl _,Nat.le_refl _,Nat.zero_le _⟩
theorem ZAg:∀(k n a:Nat),k < n→k≤1000000000→(wd (2 ^ k*a)).length≤100000→ZoJ n (iL (wd a)) (k:Int)=some (iL (wd (2 ^ k*a)))
 |k,0,a,h,_,_=>absurd h (by omega)
 |0,n+1,a,_,_,_=>by show ZoS (ZoJ n) _ _=_;unfold ZoS;rw[Nat.pow_zero,Nat.one_mul];rfl
 |k+1,n+1,a,h,hk,hl=>by
  show ZoS (ZoJ n) _ _=_;unfold ZoS;have e:2 ^ (k+1)*a=2 ^ k*(2*a+0):=by rw[Nat.pow_succ,Nat.mul_assoc,Nat.add_zero]
  have ha:(wd a).length≤100000:=Nat.le_trans (Zru (Nat.le_mul_of_pos_left a (Nat.two_pow_pos _))) hl;rw[e]at hl;have ht:=Zxr a 0 (by omega) ha;rw[Int.natCast_zero]at ht;rw[decide_eq_true (by omega),cond_true,ht,Option.bind_some,show ((k+1:Nat):Int) - 1=(k:Int) by omega,ZnG (by omega),chk_true,ZAg k n (2*a+0) (by omega) (by omega) hl,e]
theorem ZxY (a b:Nat) (ha0:a≠0) (hb0:b≠0) (ha:(wd a).length≤50000) (hb:(wd b).length≤50000):Zo5 (iL (wd a)) (iL (wd b))=some (iL (wd (Nat.gcd a b))):=by
 have hla:=Zvx ha;have hlb:=Zvx hb;obtain⟨x,y,t,q1,q2,q3,q4,q5,q6,q7,q8⟩:=ZAh big a b 0 (a.log2+1) ha0 hb0 (by omega) (by omega) (Zuf a) (Nat.le_of_lt (ZwA (by omega))) (by omega);rw[Int.natCast_zero,Nat.zero_add]at q1;have hxl:=Nat.le_trans (Zru q6) ha;have hyl:=Nat.le_trans (Zru q7) hb;have hlx:=Zvx hxl;have hly:=Zvx hyl;have main:ZnP big (iL (wd x)) (iL (wd y)) (t:Int)=some (iL (wd (Nat.gcd x y)),(t:Int)):=by
  by_cases hx:x % 2=1
  ·exact Zyu _ big x y _ _ hx (by omega) (by omega) (Zuf x) (Zuf y) (ZwA (by omega))
  ·have hy:y % 2=1:=by omega
   obtain⟨z,z1,z2,z3,z4⟩:=ZBX (iL (wd y)) (t:Int) y hy q4 (by omega);have hzl:=Nat.le_trans (Zru z3) hxl;have hlz:=Zvx hzl;have e:=Zyu (t:Int) big z y _ _ z2 (by omega) (by omega) (Zuf z) (Zuf y) (ZwA (by omega));rw[z4]at e;rw[←e];obtain⟨n,hn⟩:∃n,big=n+1:=⟨36893488147419103231,by rw[big_eq]⟩;have s1:∀u,ZnP big (iL (wd u)) (iL (wd y)) (t:Int)=ZoU (ZnP n) (iL (wd u)) (iL (wd y)) (t:Int):=fun u=>by rw[hn];rfl
   rw[s1,s1];unfold ZoU;have hl:=Zqj q5;rw[ZnR,decide_eq_true (by omega),cond_true,cond_true,z1,ZyJ _ _ z2]
 have hg:(wd (2 ^ t*Nat.gcd x y)).length≤100000:=by rw[←q3];exact Nat.le_trans (ZxJ (by omega) hb) (by omega)
 unfold Zo5;rw[q1,Option.bind_some];dsimp only;unfold ZrX ZrU ZrT;rw[main,Option.bind_some];dsimp only;rw[ZAg t big _ (ZwA (by omega)) (by omega) hg,Option.bind_some,q3]
end Go.Proofs
