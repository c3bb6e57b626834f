/- Ascending fractions that the dice make; ranks. -/
import Derived.Test.YtbjnddlpdlfknaaGreatDoorQwNW28
import Derived.Test.YtbjnddlpdlfknaaGreatDoorQwDN
import Derived.Test.YtbjnddlpdlfknaaGreatDoorQwQL1
set_option linter.unusedVariables false
set_option linter.unusedSimpArgs false
set_option linter.unusedSectionVars false
open List renaming length_map→ZCi, length_drop→Zz9, length_take→ZCj
open Option renaming bind_some→ZCk
namespace Go.Proofs
open Go Eng
theorem Zxu {x y:Int} (hy:y≠0) (h1:x.natAbs < 16) (h2:y.natAbs < 16):Sz 4 (Rat.divInt x y):=Zwn (k:=4) hy h1 h2
theorem ZzA {d:ZnB} (hd:Zv9 d):wp (Zpm d) (fun r=>(∃q,r.1=fOf q∧Sz 4 q)∧Zv9 r.2):=by
 unfold Zpm;rw[ZnD];refine Zn5 (Zxi hd (by omega)) fun⟨q,d1⟩ ⟨hq,hd1⟩=> ?_
 dsimp only at hq hd1⊢
 rw[ZnF,ZnD];refine⟨ZnG (by omega),Zn5 (Zxi hd1 (by omega)) fun⟨q1,d2⟩ ⟨hq1,hd2⟩=> ?_⟩;dsimp only at hq1 hd2⊢
 rw[ZnF,Zwp _ _ (by omega) (by omega) (by omega) (by omega) (by omega),ZnD,ZnC,ZnC];exact⟨ZnG (by omega),⟨_,rfl,Zxu (by omega) (by omega) (by omega)⟩,hd2⟩
theorem Zz8 {l:List Rat} {f:Rat} (hf:Sz 40 f) (hl:∀q∈l,Sz 40 q) (hn:l.length≤1000) (k:Int) (d:ZnB):
  wp (Zoo big k (l.length:Int) d (l.map fOf) (fOf f)) (fun x=>∃i:Nat,x=(k,(i:Int),d,l.map fOf,fOf f)∧i≤l.length∧(∀j,i≤j→j < l.length→f < gR l j)∧(0 < i→gR l (i - 1)≤f)):=by
 refine ZsG Zt7 (fun i:Nat=>(k,(i:Int),d,l.map fOf,fOf f)) (fun i=>i≤l.length∧∀j,i≤j→j < l.length→f < gR l j) (fun i=>i)
  (Q:=fun x=>∃i:Nat,x=(k,(i:Int),d,l.map fOf,fOf f)∧i≤l.length∧(∀j,i≤j→j < l.length→f < gR l j)∧(0 < i→gR l (i - 1)≤f)) l.length ⟨Nat.le_refl _,fun j h1 h2=>by omega⟩ (by omega) ?_
 rintro rec i ⟨h1,h2⟩ ih;unfold Zsk Zql Zps;dsimp only
 by_cases hi:0 < i
 ·have hlt:i - 1 < l.length:=by omega
  have hq:l[i - 1]∈l:=List.getElem_mem hlt;have et:((i:Int) - 1).toNat=i - 1:=by omega
  have eg:(l.map fOf)[i - 1]? =some (fOf l[i - 1]):=by rw[List.getElem?_map,List.getElem?_eq_getElem hlt];rfl
  rw[decide_eq_true (show (i:Int) > 0 by omega),cond_true,ZnF,ZnF,et,eg,ZnD,ZnC,Zws (hf.wq (by omega)) ((hl _ hq).wq (by omega)),ZnD,ZnC];refine⟨ZnG (by omega),ZqJ ⟨by omega,by rw[ZCi];omega⟩, ?_⟩
  by_cases hc:f < l[i - 1]
  ·rw[decide_eq_true hc,cond_true,ZnF];have:=ih (i - 1) ⟨by omega,fun j h3 h4=>by
    by_cases hj:j=i - 1
    ·rw[hj,Zvc hlt];exact hc
    ·exact h2 j (by omega) h4⟩ (by omega)
   rw[show ((i - 1:Nat):Int)=(i:Int) - 1 by omega]at this;exact⟨ZnG (by omega),this⟩
  ·rw[decide_eq_false hc,cond_false,ZnC];refine⟨i,rfl,h1,h2,fun _=> ?_⟩;rw[Zvc hlt];grind
 ·rw[decide_eq_false (show ¬(i:Int) > 0 by omega),cond_false,cond_false,ZnC];exact⟨i,rfl,h1,h2,fun h=>absurd h hi⟩
theorem Zwf {d:ZnB} (hd:Zv9 d) (m:Nat) (hm:m≤20):
  wp (ZoF d (m:Int)) (fun r=>(∃l:List Rat,r.1=l.map fOf∧l.length≤m∧Asc l∧∀q∈l,Sz 4 q)∧Zv9 r.2):=by
 unfold ZoF;rw[ZnF,ZnD];refine⟨ZnG (by omega),Zn5 (Zxi hd (by omega)) fun⟨k,d1⟩ ⟨hk,hd1⟩=> ?_⟩;dsimp only at hk hd1⊢
 rw[ZnD];refine Zn5 (ZsG Zt8 (fun(s:Int×ZnB×List Rat)=>(s.1,s.2.1,s.2.2.map fOf))
  (fun s=>(0≤s.1∧s.1+s.2.2.length≤m)∧Zv9 s.2.1∧Asc s.2.2∧∀q∈s.2.2,Sz 4 q) (fun s=>s.1.toNat)
  (Q:=fun x=>(∃l:List Rat,x.2=l.map fOf∧l.length≤m∧Asc l∧∀q∈l,Sz 4 q)∧Zv9 x.1) (k,d1,[]) ⟨by simp;omega,hd1,fun i j h1 h2=>absurd h2 (by simp),fun p hp=>absurd hp (by simp)⟩ (by dsimp only;omega) ?_) ?_
 ·rintro rec ⟨k,d,l⟩ ⟨⟨h0,h1⟩,hd,ha,hl⟩ ih;dsimp only at h0 h1 hd ha hl ih;unfold Zsm Zqm;dsimp only
  by_cases hk:k > 0
  ·rw[decide_eq_true hk,cond_true,ZnD];refine Zn5 (ZzA hd) ?_;rintro⟨f0,d2⟩ ⟨⟨f,hf,hs⟩,hd2⟩;dsimp only at hf hd2⊢
   subst hf;rw[ZCi,ZnD];refine Zn5 (Zz8 (hs.mono (by omega)) (fun q hq=>(hl q hq).mono (by omega)) (by omega) k d2) ?_;rintro _ ⟨i,rfl,hi,h3,h4⟩;unfold ZqN;dsimp only;have e1:((i:Int)).toNat - 0=i:=by omega
   have e2:(((l.map fOf).length:Int)).toNat - ((i:Int)).toNat=l.length - i:=by rw[ZCi];omega
   have e3:((l.map fOf).drop 0).take i++[fOf f]++((l.map fOf).drop i).take (l.length - i)=(l.take i++f::l.drop i).map fOf:=by rw[List.drop_zero,←List.map_take,←List.map_drop,List.take_of_length_le (l:=(l.drop i).map fOf) (by rw[ZCi,Zz9];omega),List.map_append,List.map_cons,List.append_assoc,List.singleton_append]
   rw[e1,e2,Int.toNat_natCast,e3];have hlen:(l.take i++f::l.drop i).length=l.length+1:=by rw[List.length_append,List.length_cons,ZCj,Zz9];omega
   have:=ih (k - 1,d2,l.take i++f::l.drop i) ⟨⟨by omega,by dsimp only;rw[hlen];omega⟩,hd2,ZzI hi ha h3 h4,fun q hq=>by
    rcases List.mem_append.1 hq with hq |hq
    ·exact hl q (List.mem_of_mem_take hq)
    ·rcases List.mem_cons.1 hq with hq |hq
     ·rw[hq];exact hs
     ·exact hl q (List.mem_of_mem_drop hq)⟩ (by dsimp only;omega)
   rw[ZnF,ZnF,ZnF,ZnF,ZnF,ZnF];refine⟨?_, ?_, ?_, ?_, ?_,ZnG (by omega),this⟩
   ·rw[ZCi];simp[Zb9];omega
   ·refine ZtS ?_;simp only[ZCj,Zz9,ZCi];omega
   ·refine ZtS ?_;simp only[ZCj,Zz9,ZCi,List.length_singleton];omega
   ·rw[ZCi];simp[Zb9];omega
   ·refine ZtS ?_;simp only[List.length_append,ZCj,Zz9,ZCi,List.length_singleton];omega
  ·rw[decide_eq_false hk,cond_false,ZnC];exact⟨⟨l,rfl,by omega,ha,hl⟩,hd⟩
 ·rintro⟨d3,l3⟩ ⟨⟨l,h1,h2,h3,h4⟩,h5⟩;unfold ZqM;dsimp only at h1 h5⊢
  rw[ZnC];exact⟨⟨l,h1,h2,h3,h4⟩,h5⟩
theorem ZxQ:((List.range 10).all fun a=>(List.range 21).all fun p=>decide (Zsq (a:Int) (p:Int)=some (0,((a*p:Nat):Int))))=true:=by kernel_rfl
theorem ZxR {a p:Nat} (ha:a < 10) (hp:p < 21):Zsq (a:Int) (p:Int)=some (0,((a*p:Nat):Int)):=
 of_decide_eq_true (List.all_eq_true.1 (List.all_eq_true.1 ZxQ a (List.mem_range.2 ha)) p (List.mem_range.2 hp))
theorem ZuQ {n:Nat} (h:n < 1000000):IntKind.wrap .u64 (n:Int)=n∧IntKind.wrap .i64 (n:Int)=n:=by refine⟨Zlj _ _ ?_ ?_,Zlj _ _ ?_ ?_⟩<;>simp[IntKind.min,IntKind.max,IntKind.signed,IntKind.bits]<;>omega
theorem ZxZ {n y:Nat} (hn:n < 1000000) (hy:0 < y) (hy2:y < 1000000):Zss 0 (n:Int) (y:Int)=some (((n / y:Nat):Int),((n % y:Nat):Int)):=by have h1:n / y≤n:=Nat.div_le_self _ _;unfold Zss;rw[show (((y:Int) == 0)=false)from beq_eq_false_iff_ne.2 (by omega),cond_false,decide_eq_false (show ¬(y:Int)≤0 by omega),cond_false,show (((0:Int) == 0)=true)from rfl,cond_true,show decide ((y:Int)≠0)=true from decide_eq_true (by omega)];rw[show Int.tdiv (n:Int) (y:Int)=((n / y:Nat):Int)from rfl,show Int.tmod (n:Int) (y:Int)=((n % y:Nat):Int)from rfl,(ZuQ (n:=n / y) (by omega)).1];rfl
theorem Zxb {q:Rat} (h:Sz 40 q):(fOf q).Num.Words.length≤2∧(fOf q).Den.Words.length≤2:=by
 have h1:=ZwP (n:=q.num.natAbs) h.1 2 (by omega);have h2:=ZwP (n:=q.den) h.2 2 (by omega);constructor
 ·show (iL (wd q.num.natAbs)).length≤2;rw[ZnR];exact h1
 ·show (iL (wd ((q.den:Int)).natAbs)).length≤2;rw[ZnR,Int.natAbs_natCast];exact h2
theorem ZxP {l:List Rat} (hl:l.length < 10) (h0:0 < l.length) (hs:∀q∈l,Sz 40 q) {p n:Nat} (hn:0 < n) (hn2:n≤20) (hp:p≤n):
  ZqD (l.map fOf) (p:Int) (n:Int)=some (fOf (gR l (rk l.length p n)),0):=by
 have hlt:=Zzl hn h0 hp;have hq:l[rk l.length p n]∈l:=List.getElem_mem hlt;have hm:l.length*p≤9*20:=Nat.mul_le_mul (by omega) (by omega);have hdv:(l.length*p+(n - 1)) / n≤l.length*p+(n - 1):=Nat.div_le_self _ _;unfold ZqD;rw[decide_eq_false (show ¬(n:Int) < 1 by omega),cond_false,decide_eq_false (show ¬(p:Int) < 0 by omega),cond_false,decide_eq_false (show ¬(p:Int) > (n:Int) by omega)];unfold ZrG;rw[cond_false,ZCi,show ((l.length:Int) == 0)=false from beq_eq_false_iff_ne.2 (by omega),cond_false,(ZuQ (n:=l.length) (by omega)).1,(ZuQ (n:=p) (by omega)).1,ZxR hl (by omega),ZCk];dsimp only;rw[show (n:Int) - 1=((n - 1:Nat):Int) by omega,(ZuQ (n:=n - 1) (by omega)).1,ZnG (by omega)];unfold chk;dsimp only;unfold Ztn;rw[show ((l.length*p:Nat):Int)+((n - 1:Nat):Int)+0=((l.length*p+(n - 1):Nat):Int) by omega,show (((l.length*p+(n - 1):Nat):Int) % 18446744073709551616)=((l.length*p+(n - 1):Nat):Int) by omega,show (((l.length*p+(n - 1):Nat):Int) / 18446744073709551616)=0 by omega];unfold chk;rw[show decide ((0:Int)≤0∧(0:Int)≤1)=true from rfl];dsimp only;rw[ZCk];dsimp only;rw[show IntKind.wrap .u64 (0+0)=0 from by decide,(ZuQ (n:=n) (by omega)).1,ZxZ (by omega) hn (by omega),ZCk];dsimp only;rw[(ZuQ (n:=(l.length*p+(n - 1)) / n) (by omega)).2];rw[show (if (1:Int) > (((l.length*p+(n - 1)) / n:Nat):Int)then (1:Int)else (((l.length*p+(n - 1)) / n:Nat):Int)) - 1=((rk l.length p n:Nat):Int)from by unfold rk;split<;>omega]
 rw[ZnG (by omega),Zu4 (by rw[ZCi];exact hlt),ZCk,List.getElem_map,Zvc hlt];unfold Zv3;have hw:=Zxb (hs _ hq);rw[ZtS (by omega),ZtS (by omega)];rfl
end Go.Proofs
