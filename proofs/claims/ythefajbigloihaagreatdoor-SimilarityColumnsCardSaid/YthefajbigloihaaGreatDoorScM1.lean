/- Plain laws over the specs, part 1. -/
import Derived.Test.YthefajbigloihaaGreatDoorScM0
set_option linter.unusedVariables false
set_option linter.unusedSimpArgs false
set_option linter.unusedSectionVars false
open Bool renaming not_true→ZJY, and_eq_true→ZHb, not_false→ZJX
open Int renaming natAbs_mul→ZJ1, natAbs_natCast→ZJ2, toNat_natCast→ZJ5, mul_ne_zero→ZJZ, natAbs_neg→ZJ3, natCast_add→ZJ4, natAbs_add_le→ZJ0
open List renaming length_cons→ZKd, getD_eq_getElem?_getD→ZJ9, length_nil→ZKe, take_length→ZKi, getElem?_eq_getElem→ZKa, all_eq_true→ZJ7, length_take→ZKg, length_singleton→ZKf, getElem?_eq_none→ZKb, take_of_length_le→ZKj, all_cons→ZJ6, take_succ_eq_append_getElem→ZKk, dropWhile_cons→ZJ8, getElem_cons_drop→ZKc, takeWhile_append_dropWhile→ZKh
open Nat renaming le_trans→ZKt, pow_succ→ZKH, gcd→ZKq, mul_add→ZKz, mul_assoc→ZKA, le_refl→ZKs, mod_lt→ZKy, pow_zero→ZKI, lt_of_le_of_lt→ZKu, mul_comm→ZKB, lt_or_ge→ZKw, pow_le_pow_right→ZKG, div_le_self→ZKp, one_mul→ZKD, pow_add→ZKF, le_of_lt→ZKr, two_pow_pos→ZKK, mul_left_comm→ZKC, zero_add→ZKL, pos_of_ne_zero→ZKE, lt_of_lt_of_le→ZKv, min_eq_left→ZKx, div_add_mod→ZKn, add_mul_div_left→ZKl, div_eq_of_lt→ZKo, add_mul_mod_self_left→ZKm, two_pow_add_eq_or_of_lt→ZKJ
open Option renaming bind_some→ZKM
namespace Go.Proofs
open Go Eng
def Sz (k:Nat) (q:Rat):Prop:=q.num.natAbs < 2 ^ k∧q.den < 2 ^ k
theorem Sz.mono {k l:Nat} {q:Rat} (h:Sz k q) (hl:k≤l):Sz l q:=⟨ZKv h.1 (ZKG (by decide) hl),ZKv h.2 (ZKG (by decide) hl)⟩
theorem ZAe {n k:Nat} (h:n < 2 ^ k) (m:Nat) (hk:k≤32*m):(wd n).length≤m:=by refine Zxg (ZKv h ?_);rw[show Bw=2 ^ 32 from rfl,←Nat.pow_mul];exact ZKG (by decide) hk
theorem Sz.wq {k:Nat} {q:Rat} (h:Sz k q) (hk:k≤8192):Wq 256 q:=⟨ZAe h.1 256 (by omega),ZAe (n:=(q.den:Int).natAbs) (by rw[ZJ2];exact h.2) 256 (by omega)⟩
theorem ZzD {x y:Int} {k:Nat} (hy:y≠0) (h1:x.natAbs < 2 ^ k) (h2:y.natAbs < 2 ^ k):Sz k (Rat.divInt x y):=by
 unfold Sz;rw[Rat.num_divInt,Rat.den_divInt,if_neg hy];refine⟨ZKu ?_ h1,ZKu (ZKp _ _) h2⟩;have hd:((Int.gcd y x:Nat):Int)∣y.sign*x:=Int.dvd_trans (Int.gcd_dvd_right y x) (Int.dvd_mul_left _ _);rw[Int.natAbs_ediv_of_dvd hd,ZJ1];refine ZKt (ZKp _ _) ?_;have:y.sign.natAbs=1:=by rw[Int.natAbs_sign_of_ne_zero hy]
 rw[this,ZKD];exact ZKs _
theorem ZyD {x y k l:Nat} (hx:x < 2 ^ k) (hy:y < 2 ^ l):x*y < 2 ^ (k+l):=by rw[ZKF];exact Nat.mul_lt_mul_of_lt_of_le hx (ZKr hy) (ZKK _)
theorem ZyI (a b:Rat):Rat.divInt (a.num*(b.den:Int)+b.num*(a.den:Int)) ((a.den:Int)*(b.den:Int))=a+b:=by have h1:=a.den_nz;have h2:=b.den_nz;rw[←Rat.divInt_add_divInt _ _ (by omega) (by omega),Rat.num_divInt_den,Rat.num_divInt_den]
theorem Sz.add {a b:Rat} {k l:Nat} (ha:Sz k a) (hb:Sz l b):Sz (k+l+1) (a+b):=by
 rw[←ZyI];have h1:=a.den_nz;have h2:=b.den_nz;have q1:=ZyD ha.1 hb.2;have q2:=ZyD ha.2 hb.1;have q3:=ZyD ha.2 hb.2;have hp:=ZKK (k+l);refine ZzD (ZJZ (by omega) (by omega)) ?_ ?_
 ·rw[ZKH];refine ZKu (ZJ0 _ _) ?_;rw[ZJ1,ZJ1,ZJ2,ZJ2,ZKB b.num.natAbs];omega
 ·rw[ZKH,ZJ1,ZJ2,ZJ2];omega
theorem ZFu {q:Rat} (h:Wq 256 q):decide ((if ((fOf q).Den.Words.length:Int) > ((fOf q).Num.Words.length:Int)then ((fOf q).Den.Words.length:Int)else ((fOf q).Num.Words.length:Int)) > 256)=false:=by have h1:=h.1;have h2:=h.2;unfold Wl at h1 h2;refine decide_eq_false ?_;unfold fOf;rw[ZoK,ZoK,ZnO,ZnO];split<;>omega
theorem ZyG {y:Int} (hy:y≠0):(((bg y).Words.length:Int) == 0)=false:=by have:=ZrA (n:=y.natAbs) (by omega);rw[ZoK,ZnO];exact beq_eq_false_iff_ne.2 (by omega)
theorem ZEW {a b:Rat} {k l:Nat} (ha:Sz k a) (hb:Sz l b) (hk:k+l+1≤8192):Zvk (fOf a) (fOf b)=some (fOf (a+b),0):=by
 have h1:=a.den_nz;have h2:=b.den_nz;have qa:=ha.wq (by omega);have qb:=hb.wq (by omega);have w:∀{x y:Int},Wl 256 x→Wl 256 y→Wl 512 (x*y):=fun hx hy=>by unfold Wl;rw[ZJ1];exact Zzz hx hy
 have m:∀{n:Nat} {x:Int},Wl n x→n≤50000→Wl 50000 x:=fun h h'=>ZKt h h'
 have w1:=w qa.1 qb.2;have w2:=w qb.1 qa.2;have w3:=w qa.2 qb.2;have w4:Wl 513 (a.num*(b.den:Int)+b.num*(a.den:Int)):=ZKt (Zsr (ZJ0 _ _)) (ZAJ w1 w2);have hd:(a.den:Int)*(b.den:Int)≠0:=ZJZ (by omega) (by omega);unfold Zvk ZoI;rw[ZyL a qa,ZKM,ZJY,cond_false,ZyL b qb,ZKM,ZJY];unfold ZpT ZwQ;rw[cond_false];show ((((ZnL (bg a.num) (bg (b.den:Int))).bind fun q=>(ZnL (bg b.num) (bg (a.den:Int))).bind fun q_1=>(Zuq q q_1).bind fun num=>(ZnL (bg (a.den:Int)) (bg (b.den:Int))).bind fun den=>some (num,den)).bind _).bind _)=_;rw[Zxa _ _ (m qa.1 (by omega)) (m qb.2 (by omega)),ZKM,Zxa _ _ (m qb.1 (by omega)) (m qa.2 (by omega)),ZKM,ZEM _ _ (m w1 (by omega)) (m w2 (by omega)),ZKM,Zxa _ _ (m qa.2 (by omega)) (m qb.2 (by omega)),ZKM,ZKM];dsimp only;rw[ZyG hd,cond_false,ZyC _ _ hd (m w4 (by omega)) (m w3 (by omega)),ZKM,ZyI,ZFu ((ha.add hb).wq hk),cond_false,ZKM]
end Go.Proofs
namespace Go.Proofs
open Go Eng
theorem ZAm (z:Int):Zqr (bg z)=some (bg (-z)):=by
 unfold Zqr ZtA;rw[Zxv,ZoK,ZnO]
 by_cases hz:z < 0
 ·rw[decide_eq_true hz,ZJY,cond_false];unfold bg;rw[ZJ3,decide_eq_false (by omega:¬ -z < 0)]
 ·rw[decide_eq_false hz,ZJX,cond_true];unfold bg;rw[ZJ3];congr 2
  by_cases h0:z=0
  ·subst h0;rw[show (0:Int).natAbs=0 from rfl,Zt3];rfl
  ·have:=ZrA (n:=z.natAbs) (by omega);rw[decide_eq_true (by omega),decide_eq_true (by omega)]
theorem ZF1 (q:Rat):fOf (-q)=⟨bg (-q.num),bg (q.den:Int)⟩:=rfl
theorem Sz.neg {q:Rat} {k:Nat} (h:Sz k q):Sz k (-q):=by show (-q.num).natAbs < 2 ^ k∧q.den < 2 ^ k;rw[ZJ3];exact h
theorem ZG5 {a b:Rat} {k l:Nat} (ha:Sz k a) (hb:Sz l b) (hk:k+l+1≤8192):ZwA (fOf a) (fOf b)=some (fOf (a - b),0):=by unfold ZwA;rw[ZyL b (hb.wq (by omega)),ZKM,ZJY,cond_false];show ((Zqr (bg b.num)).bind fun q_1=>(ZoI (fOf a) (ZnA.mk q_1 (bg (b.den:Int)))).bind fun x=>some (x.1,x.2))=_;have:=ZEW ha hb.neg hk;unfold Zvk at this;rw[ZAm,ZKM,←ZF1,Rat.sub_eq_add_neg];exact this
theorem ZAs {a b:Rat} {k l:Nat} (ha:Sz k a) (hb:Sz l b) (hk:k+l+1≤8192):Zx7 (fOf a) (fOf b)=some (fOf (a+b)):=by unfold Zx7 ZvS;rw[ZEW ha hb hk];rfl
theorem ZAq {a b:Rat} {k l:Nat} (ha:Sz k a) (hb:Sz l b) (hk:k+l+1≤8192):Zx6 (fOf a) (fOf b)=some (fOf (a - b)):=by unfold Zx6 ZvS;rw[ZG5 ha hb hk];rfl
def ZD8 (a b:Rat):Int:=if a < b then -1 else if b < a then 1 else 0
theorem ZAb (a b:Rat):a < b↔a.num*(b.den:Int) < b.num*(a.den:Int):=Rat.lt_iff a b
theorem ZHQ {a b:Rat} (qa:Wq 256 a) (qb:Wq 256 b):ZwC (fOf a) (fOf b)=some (ZD8 a b):=by
 have w:∀{x y:Int},Wl 256 x→Wl 256 y→Wl 50000 (x*y):=fun hx hy=>by unfold Wl;rw[ZJ1];exact ZKt (Zzz hx hy) (by decide)
 have m:∀{x:Int},Wl 256 x→Wl 50000 x:=fun h=>ZKt h (by decide)
 unfold ZwC;rw[ZyL a qa,ZKM,ZJY,cond_false,ZyL b qb,ZKM,ZJY];unfold Zwe;rw[cond_false];show ((ZnL (bg a.num) (bg (b.den:Int))).bind fun q=>(ZnL (bg b.num) (bg (a.den:Int))).bind _)=_;rw[Zxa _ _ (m qa.1) (m qb.2),ZKM,Zxa _ _ (m qb.1) (m qa.2),ZKM,ZAm,ZKM];have w2:Wl 50000 (-(b.num*(a.den:Int))):=by unfold Wl;rw[ZJ3];exact w qb.1 qa.2
 rw[ZEM _ _ (w qa.1 qb.2) w2,ZKM,Zxv,ZoK,ZnO];unfold ZD8;have h1:=ZAb a b;have h2:=ZAb b a;generalize a.num*(b.den:Int)=x at*
 generalize b.num*(a.den:Int)=y at*
 by_cases hl:a < b
 ·rw[if_pos hl,decide_eq_true (by have:=h1.1 hl;omega),cond_true]
 ·have hn:¬x < y:=fun h=>hl (h1.2 h)
  rw[if_neg hl,decide_eq_false (by omega),cond_false]
  by_cases hg:b < a
  ·have:=ZrA (n:=(x+ -y).natAbs) (by have:=h2.1 hg;omega);rw[if_pos hg,decide_eq_true (by omega),cond_true]
  ·have hn2:¬y < x:=fun h=>hg (h2.2 h)
   rw[if_neg hg,show x+ -y=0 by omega,show (0:Int).natAbs=0 from rfl,Zt3];rfl
theorem ZFM (x y:Int) (hy:y≠0) (hx1:Wl 256 x) (hy1:Wl 256 y):Zv2 (bg x) (bg y)=some (fOf (Rat.divInt x y),0):=by
 have hb:=ZDN [x,y] (by simp) (fun z hz=>by
  simp only[List.mem_cons,List.not_mem_nil,or_false]at hz;rcases hz with rfl |rfl
  ·exact hx1
  ·exact hy1)
 unfold Zv2;rw[show ([bg x,bg y]:List ZnB)=[x,y].map bg from rfl,hb,ZKM,ZJY,cond_false,ZyG hy,cond_false,ZyC _ _ hy (ZKt hx1 (by decide)) (ZKt hy1 (by decide)),ZKM]
theorem ZIJ {z:Int} (h1: -9223372036854775808≤z) (h2:z≤9223372036854775807):Wl 256 z:=ZKt (ZFO (by omega)) (by decide)
theorem ZHi (x y:Int) (hy:y≠0) (h1: -9223372036854775808≤x) (h2:x≤9223372036854775807) (h3: -9223372036854775808≤y) (h4:y≤9223372036854775807):Zwd x y=some (fOf (Rat.divInt x y),0):=by unfold Zwd;rw[ZAU x h1 h2,ZKM,ZAU y h3 h4,ZKM,ZFM x y hy (ZIJ h1 h2) (ZIJ h3 h4),ZKM]
theorem ZA0:Zwc=some (fOf 0):=by unfold Zwc;rw[ZHi 0 1 (by decide) (by decide) (by decide) (by decide) (by decide),ZKM,Rat.zero_divInt]
theorem ZAa (x y:Int) (hy:y≠0) (h1: -9223372036854775808≤x) (h2:x≤9223372036854775807) (h3: -9223372036854775808≤y) (h4:y≤9223372036854775807):Zxf x y=some (fOf (Rat.divInt x y)):=by unfold Zxf;rw[ZHi x y hy h1 h2 h3 h4,ZKM];rfl
theorem Zy3:Sz 1 0:=by unfold Sz;decide
theorem ZB6 {a:Rat} (qa:Wq 256 a):Zw9 (fOf a)=some (ZD8 a 0):=by unfold Zw9;rw[ZA0,ZKM,ZHQ qa (Zy3.wq (by decide)),ZKM]
theorem Zzn (a b:Rat):Rat.divInt (a.num*(b.den:Int)) ((a.den:Int)*b.num)=a / b:=by rw[←Rat.divInt_mul_divInt,Rat.num_divInt_den,Rat.div_def,Rat.inv_def]
theorem Sz.div {a b:Rat} {k l:Nat} (hb0:b≠0) (ha:Sz k a) (hb:Sz l b):Sz (k+l) (a / b):=by
 rw[←Zzn];have h1:=a.den_nz;have h2:b.num≠0:=fun e=>hb0 (Rat.num_eq_zero.1 e)
 refine ZzD (ZJZ (by omega) h2) ?_ ?_
 ·rw[ZJ1,ZJ2];exact ZyD ha.1 hb.2
 ·rw[ZJ1,ZJ2];exact ZyD ha.2 hb.1
theorem ZHO {a b:Rat} {k l:Nat} (hb0:b≠0) (ha:Sz k a) (hb:Sz l b) (hk:k+l≤8192):ZwB (fOf a) (fOf b)=some (fOf (a / b),0):=by
 have h1:=a.den_nz;have h2:b.num≠0:=fun e=>hb0 (Rat.num_eq_zero.1 e)
 have qa:=ha.wq (by omega);have qb:=hb.wq (by omega);have w:∀{x y:Int},Wl 256 x→Wl 256 y→Wl 50000 (x*y):=fun hx hy=>by unfold Wl;rw[ZJ1];exact ZKt (Zzz hx hy) (by decide)
 have m:∀{x:Int},Wl 256 x→Wl 50000 x:=fun h=>ZKt h (by decide)
 have w1:=w qa.1 qb.2;have w3:=w qa.2 qb.1;have hd:(a.den:Int)*b.num≠0:=ZJZ (by omega) h2;unfold ZwB Zqp;rw[ZyL a qa,ZKM,ZJY,cond_false,ZyL b qb,ZKM,ZJY];unfold Zpo ZwR;rw[cond_false];show ((((ZnL (bg a.num) (bg (b.den:Int))).bind fun num=>(ZnL (bg (a.den:Int)) (bg b.num)).bind fun den=>some (num,den)).bind _).bind _)=_;rw[Zxa _ _ (m qa.1) (m qb.2),ZKM,Zxa _ _ (m qa.2) (m qb.1),ZKM,ZKM];dsimp only;rw[ZyG hd,cond_false,ZyC _ _ hd w1 w3,ZKM,Zzn,ZFu ((Sz.div hb0 ha hb).wq hk),cond_false,ZKM]
theorem ZDt {a b:Rat} {k l:Nat} (hb0:b≠0) (ha:Sz k a) (hb:Sz l b) (hk:k+l≤8192):Zy4 (fOf a) (fOf b)=some (fOf (a / b)):=by unfold Zy4 ZvS;rw[ZHO hb0 ha hb hk];rfl
end Go.Proofs
namespace Go.Proofs
open Go Eng
theorem ZCw:∀n w,Zom n w=ZoL n w
 |0,_=>rfl
 |n+1,w=>by have:Zom n=ZoL n:=funext (ZCw n);show Zvx (Zom n) w=ZsY (ZoL n) w;rw[this];rfl
theorem ZCU (w:List Int):ZnZ w=Zn1 w:=by unfold ZnZ Zn1;rw[ZCw];rfl
theorem Zzl {l:List Nat} (h:Dg l) (hl:l.length≤1000000):ZnZ (iL l)=some (iL (wd (val l))):=by rw[ZCU,ZyM h hl]
theorem Zzg (neg:Bool) {l:List Nat} (h:Dg l) (hl:l.length≤1000000):ZnP neg (iL l)=some (bg (if neg then -(val l:Int)else val l)):=by
 unfold ZnP Zr2;rw[Zzl h hl,ZKM,ZnO];unfold bg;cases neg with
 |true=>
  rw[cond_true,if_pos rfl,ZJ3,ZJ2];congr 2
  by_cases h0:val l=0
  ·rw[h0,Zt3];rfl
  ·have:=ZrA h0;rw[decide_eq_true (by omega),decide_eq_true (by omega)]
 |false=>rw[cond_false,if_neg (by decide),ZJ2,decide_eq_false (by omega)]
theorem Zxe (a:ZnB):Zoh a=ZrM a:=rfl
end Go.Proofs
namespace Go.Proofs
open Go Eng
theorem ZAC (a b:Nat) (ha:(wd a).length≤100000) (hb:(wd b).length≤100000):Zoa (iL (wd a)) (iL (wd b))=some (ZAR a b):=by
 refine Zpf ?_;unfold Zoa;rw[ZnO,ZnO,ZnW];refine⟨fun h=> ?_,fun h=> ?_⟩
 ·have hne:(wd a).length≠(wd b).length:=fun e=>by rw[e]at h;simp at h
  rw[ZnW];refine⟨fun h=> ?_,fun h=> ?_⟩
  ·have h1:(wd a).length < (wd b).length:=by have:=of_decide_eq_true h;omega
   rw[ZnC,Zxc (ZAS h1)]
  ·have h1:(wd b).length < (wd a).length:=by have:=of_decide_eq_false h;omega
   rw[ZnC,ZwV (ZAS h1)]
 ·have hl:(wd a).length=(wd b).length:=by simp only[bne_eq_false_iff_eq]at h;omega
  rw[ZnE,ZnF];refine⟨ZnI (by omega), ?_⟩;refine ZnR (ZzO ZxR (wd a).length (by omega) (fun i (s:Unit)=>(iL (wd a),iL (wd b),i)) (fun k _=>(wd a).drop k=(wd b).drop k)
   (Q:=fun r=>r= .ret (ZAR a b)∨r= .brk ()∧a=b) () (by rw[List.drop_length,hl,List.drop_length]) ?_ ?_) ?_
  ·rintro rec k ⟨⟩ hk hP ih;have hk2:k < (wd b).length:=by omega
   unfold Zti ZqX;dsimp only;rw[ZnW];refine⟨fun _=> ?_,fun h=>by have:=of_decide_eq_false h;omega⟩;have ha:=ZxZ hk;have hb:=ZxZ hk2;rw[ZrN]at ha hb;have la:val ((wd a).take k) < Bw ^ k:=by have:=Zwg ((Zu5 a).take k);rwa [ZKg,ZKx (by omega)]at this
   have lb:val ((wd b).take k) < Bw ^ k:=by have:=Zwg ((Zu5 b).take k);rwa [ZKg,ZKx (by omega)]at this
   rw[Zt2 hk,ZnF,ZnC,Zt2 hk2,ZnF,ZnC,ZnW];refine⟨fun hc=> ?_,fun hc=> ?_⟩
   ·have h1:(wd a)[k] < (wd b)[k]:=by have:=of_decide_eq_true hc;omega
    have:a < b:=by rw[ha,hb,hP];exact ZA5 (A:=0) (B:=0) la (by omega)
    rw[ZnC];exact .inl (by rw[Zxc this])
   ·rw[ZnF,ZnC,ZnF,ZnC,ZnW];refine⟨fun hc2=> ?_,fun hc2=> ?_⟩
    ·have h1:(wd b)[k] < (wd a)[k]:=by have:=of_decide_eq_true hc2;omega
     have:b < a:=by rw[ha,hb,hP];exact ZA5 (A:=0) (B:=0) lb (by omega)
     rw[ZnC];exact .inl (by rw[ZwV this])
    ·rw[ZnE];refine⟨ZnI (by omega),ih () ?_⟩;have h1:(wd a)[k]=(wd b)[k]:=by have q1:=of_decide_eq_false hc;have q2:=of_decide_eq_false hc2;omega
     rw[←ZKc (h:=hk),←ZKc (h:=hk2),h1,hP]
  ·rintro rec ⟨⟩ hP;unfold Zti ZqX;dsimp only;rw[ZnW];refine⟨fun h=>by have:=of_decide_eq_true h;omega,fun _=> ?_⟩;rw[ZnC];rw[List.drop_zero,List.drop_zero]at hP;exact .inr ⟨rfl,by rw[←ZrN a,←ZrN b,hP]⟩
  ·rintro r (rfl |⟨rfl,rfl⟩)
   ·exact ZnC.2 rfl
   ·unfold Zuj;exact ZnC.2 (Zv8 a).symm
theorem ZB7 {a:Nat} (k:Nat) (hk:k≤32):shlK .u32 (a:Int) (k:Int)=((a*2 ^ k % 4294967296:Nat):Int):=by
 unfold shlK;rw[ZJ5,show IntKind.bits .u32=32 from rfl,ZKx (by omega)];have e:(a:Int)*(2:Int) ^ k=((a*2 ^ k:Nat):Int):=by push_cast;rfl
 rw[e,Zux]
theorem ZCv (a d:Nat) (hd:d≤1) (ha:(wd a).length≤100000):Zpj (iL (wd a)) (d:Int)=some (iL (wd (2*a+d))):=by
 refine Zpf ?_;unfold Zpj;rw[ZnF];refine ZnR (ZqI Zxl (wd a).length (by omega) (fun i (s:Nat×List Nat)=>(iL (wd a),(s.1:Int),i,iL s.2)) (fun i s=>s.1≤1∧s.2.length=i∧Dg s.2∧val s.2+Bw ^ i*s.1=2*val ((wd a).take i)+d)
  (Q:=fun y=>∃(c:Nat) (o:List Nat),y=((c:Int),iL o)∧c≤1∧Dg o∧o.length=(wd a).length∧val o+Bw ^ (wd a).length*c=2*a+d) (d,[]) ⟨hd,rfl,Zze,by simp[val]⟩ ?_ ?_) ?_
 ·rintro rec i ⟨c,o⟩ hi ⟨hc,hl,hod,hv⟩ ih;dsimp only at hc hl hod hv ih;have h1:=(Zu5 a).get hi;unfold Zsx Zqh;dsimp only;rw[ZnW,ZnO];refine⟨fun _=> ?_,fun h=>by have:=of_decide_eq_false h;omega⟩;rw[Zt2 hi,ZnF,ZnC];generalize ex:(wd a)[i]=x at h1;have eor:orK .u32 (shlK .u32 (x:Int) 1) (c:Int)=((c+x*2 ^ 1 % Bw:Nat):Int):=by rw[show (1:Int)=((1:Nat):Int)from rfl,ZB7 1 (by omega),ZBK (ZKy _ (by decide)) (by omega),Nat.or_comm];congr 1;exact ZBh (by decide) (by omega) h1
  have esh:shrK .u32 (x:Int) 31=((x / 2 ^ 31:Nat):Int):=Zzq 31 (by omega);rw[eor,ZKM,esh,ZnE,ZnE,ZnE,ZnE,ZnO];have hx:c+x*2 ^ 1 % Bw < Bw:=by simp only[Bw]at h1⊢;omega
  refine⟨by decide,Zv7 (by simp only[ZKf];omega),by decide,ZnI (by omega), ?_⟩;have:=ih (x / 2 ^ 31,o++[c+x*2 ^ 1 % Bw]) ⟨by simp only[Bw]at h1;dsimp only;omega,by simp[hl],hod.app (ZyF hx), ?_⟩
  ·rw[ZAy]at this;exact this
  ·dsimp only;have q:c+x*2 ^ 1 % Bw+Bw*(x / 2 ^ 31)=c+2*x:=by simp only[Bw]at h1⊢;omega
   have q2:Bw ^ i*(c+x*2 ^ 1 % Bw+Bw*(x / 2 ^ 31))=Bw ^ i*(c+2*x):=by rw[q]
   have q3:Bw ^ i*(2*x)=2*(Bw ^ i*x):=ZKC _ _ _;rw[ZKz,ZKz (Bw ^ i) c (2*x),q3]at q2;rw[Zvp,hl,Zn7 hi,ex];generalize c+x*2 ^ 1 % Bw=dg at*
   generalize x / 2 ^ 31=cy at*
   rw[ZKH,ZKA];omega
 ·rintro rec ⟨c,o⟩ ⟨hc,hl,hod,hv⟩;dsimp only at hc hl hod hv;unfold Zsx Zqh;dsimp only;rw[ZnW,ZnO];refine⟨fun h=>by have:=of_decide_eq_true h;omega,fun _=> ?_⟩;rw[ZnC];rw[ZKi,ZrN]at hv;exact⟨c,o,rfl,hc,hod,hl,hv⟩
 ·rintro y ⟨c,o,rfl,hc,hod,hl,hv⟩;dsimp only;unfold Ztb;have e:iL o++[(c:Int)]=iL (o++[c]):=by rw[ZAy];rfl
  rw[ZnE,ZnO,e,Zzl (hod.app (ZyF (by simp only[Bw];omega))) (by simp;omega),ZnF,ZnC,ZnC,Zvp,hl,hv];exact⟨Zv7 (by simp only[ZKf];omega),rfl⟩
end Go.Proofs
namespace Go.Proofs
open Go Eng
theorem ZFv (t:Int):shrK .i64 t 32=t / 4294967296:=by unfold shrK;rw[show min (32:Int).toNat (IntKind.bits .i64)=32 from by decide,Int.fdiv_eq_ediv_of_nonneg _ (by decide)];rfl
theorem ZAj (a b:Nat) (hab:b≤a) (ha:(wd a).length≤100000):Zoy (iL (wd a)) (iL (wd b))=some (iL (wd (a - b))):=by
 have hlb:(wd b).length≤(wd a).length:=Zsr hab;refine Zpf ?_;unfold Zoy;rw[ZnF];refine ZnR (ZqI ZxN (wd a).length (by omega) (fun i (s:Nat×List Nat)=>(iL (wd a),iL (wd b), -(s.1:Int),i,iL s.2)) (fun i s=>s.1≤1∧s.2.length=i∧Dg s.2∧val ((wd a).take i)+Bw ^ i*s.1=val s.2+val ((wd b).take i))
  (Q:=fun y=>∃(o:List Nat),y=iL o∧Dg o∧o.length=(wd a).length∧val o=a - b) (0,[]) ⟨by simp,rfl,Zze,by simp[val]⟩ ?_ ?_) ?_
 ·rintro rec i ⟨c,o⟩ hi ⟨hc,hl,hd,hv⟩ ih;dsimp only at hc hl hd hv ih;have h1:=(Zu5 a).get hi;have h2:=Zzt (Zu5 b) i;have ey0:(wd b).getD i 0=(if i < (wd b).length then (wd b).getD i 0 else 0):=by
   by_cases h:i < (wd b).length
   ·rw[if_pos h]
   ·rw[if_neg h,ZJ9,ZKb (by omega)];rfl
  have fin:∀y:Nat,(wd b).getD i 0=y→wp (Zp6 (fun a b c i out=>rec (a,b,c,i,out)) (iL (wd a)) (iL (wd b)) (-(c:Int)+((wd a)[i]:Int) - (y:Int)) (i:Int) (iL o)) (fun y=>∃(o:List Nat),y=iL o∧Dg o∧o.length=(wd a).length∧val o=a - b):=fun y ey=>by
   rw[ey]at h2;generalize ex:(wd a)[i]=x at h1;have ew:IntKind.wrap .u32 (-(c:Int)+(x:Int) - (y:Int))=(((x+4294967296 - y - c) % 4294967296:Nat):Int):=by simp only[Bw]at h1 h2;rw[IntKind.wrap_u32];omega
   have es:shrK .i64 (-(c:Int)+(x:Int) - (y:Int)) 32= -(((if x < y+c then 1 else 0):Nat):Int):=by simp only[Bw]at h1 h2;rw[ZFv];split<;>omega
   unfold Zp6;rw[ew,es,ZnE,ZnE,ZnE,ZnO];refine⟨Zv7 (by simp only[ZKf];omega),by decide,ZnI (by omega), ?_⟩;have:=ih ((if x < y+c then 1 else 0),o++[(x+4294967296 - y - c) % 4294967296]) ⟨by dsimp only;split<;>omega,by simp[hl],hd.app (ZyF (ZKy _ (by decide))), ?_⟩
   ·rw[ZAy]at this;exact this
   ·dsimp only;rw[Zvp,hl,ZKH,Zn7 hi,Zwa,ex,ey,ZKA];have e:x+Bw*(if x < y+c then 1 else 0)=(x+4294967296 - y - c) % 4294967296+y+c:=by simp only[Bw]at h1 h2⊢;split<;>omega
    have e2:Bw ^ i*(x+Bw*(if x < y+c then 1 else 0))=Bw ^ i*((x+4294967296 - y - c) % 4294967296+y+c):=by rw[e]
    rw[ZKz,ZKz,ZKz]at e2;omega
  unfold Ztc ZqT;dsimp only;rw[ZnW,ZnO,ZnO];refine⟨fun _=> ?_,fun h=>by have:=of_decide_eq_false h;omega⟩;have wx:IntKind.wrap .i64 ((wd a)[i]:Int)=((wd a)[i]:Int):=wrap_i64 (by simp only[Bw]at h1;omega);rw[Zt2 hi,ZnF,ZnC,wx,ZnE,ZnW];refine⟨ZnI (by simp only[Bw]at h1;omega),fun h=> ?_,fun h=> ?_⟩
  ·have hib:i < (wd b).length:=by have:=of_decide_eq_true h;omega
   have hy:=(Zu5 b).get hib;have wy:IntKind.wrap .i64 ((wd b)[i]:Int)=((wd b)[i]:Int):=wrap_i64 (by simp only[Bw]at hy;omega);rw[Zt2 hib,ZnF,ZnC,wy,ZnE];refine⟨ZnI (by simp only[Bw]at h1 hy;omega),fin _ ?_⟩;rw[ZJ9,ZKa hib];rfl
  ·have hib:¬i < (wd b).length:=by have:=of_decide_eq_false h;omega
   have:=fin 0 (by rw[ey0,if_neg hib]);rw[Int.natCast_zero,Int.sub_zero]at this;exact this
 ·rintro rec ⟨c,o⟩ ⟨hc,hl,hd,hv⟩;unfold Ztc ZqT;dsimp only at hc hl hd hv⊢
  rw[ZnW,ZnO];refine⟨fun h=>by have:=of_decide_eq_true h;omega,fun _=> ?_⟩;rw[ZnC];rw[ZKi,ZKj (by omega),ZrN,ZrN]at hv;have:=Zwg hd;rw[hl]at this;have hc0:c=0:=by
   rcases Nat.eq_zero_or_pos c with h |h
   ·exact h
   ·have:c=1:=by omega
    rw[this,Nat.mul_one]at hv;omega
  rw[hc0,Nat.mul_zero]at hv;exact⟨o,rfl,hd,hl,by omega⟩
 ·rintro y ⟨o,rfl,hd,hl,hv⟩;unfold Zua;rw[Zzl hd (by omega),ZnF,ZnC,ZnC,hv]
end Go.Proofs
namespace Go.Proofs
open Go Eng
theorem ZAd (a:Nat) (ha:(wd a).length≤100000):Zop (iL (wd a))=some (iL (wd (a / 2))):=by
 refine Zpf ?_;unfold Zop;rw[List.nil_append,ZnE,ZnF,ZnO];refine⟨Zv7 (by rw[ZKe];omega), ?_⟩;refine ZnR (ZqI Zxz (wd a).length (by omega) (fun i (o:List Nat)=>(iL (wd a),((wd a).length:Int),i,iL (o++(wd a).drop o.length))) (fun i o=>o.length=i∧Dg o∧val o*2+(wd a).getD 0 0 % 2=val ((wd a).take i)+Bw ^ i*((wd a).getD i 0 % 2))
  (Q:=fun y=>∃(o:List Nat),y=iL o∧Dg o∧o.length=(wd a).length∧val o=a / 2) [] ⟨rfl,Zze,by simp[val]⟩ ?_ ?_) ?_
 ·rintro rec i o hi ⟨hol,hod,hov⟩ ih;have h1:=(Zu5 a).get hi;have hyB:=Zzt (Zu5 a) (i+1);have hlen:(o++(wd a).drop o.length).length=(wd a).length:=by simp;omega
  have gx:(iL (o++(wd a).drop o.length))[i]? =some ((wd a)[i]:Int):=by rw[Zzc (by omega)];congr 2;rw[List.getElem_append_right (by omega)];simp[hol]
  have fin:∀z:Nat,z=(wd a)[i] / 2+(wd a).getD (i+1) 0*2 ^ 31 % Bw→wp (ZpO (fun a t9 i out=>rec (a,t9,i,out)) (iL (wd a)) ((wd a).length:Int) (i:Int) (iL ((o++(wd a).drop o.length).set i z))) (fun y=>∃(o:List Nat),y=iL o∧Dg o∧o.length=(wd a).length∧val o=a / 2):=fun z hz=>by
   unfold ZpO;have es:(o++(wd a).drop o.length).set i z=(o++[z])++(wd a).drop (o++[z]).length:=by rw[List.set_append_right _ _ (by omega),hol,Nat.sub_self,←ZKc (h:=hi),List.set_cons_zero];simp[hol]
   have eg:(wd a).getD i 0=(wd a)[i]:=by rw[ZJ9,ZKa hi];rfl
   rw[eg]at hov;rw[ZnE,es];generalize ex:(wd a)[i]=x at*
   generalize ey:(wd a).getD (i+1) 0=y at*
   have hzB:z < Bw:=by simp only[Bw]at h1 hz⊢;omega
   refine⟨ZnI (by omega),ih (o++[z]) ⟨by simp[hol],hod.app (ZyF hzB), ?_⟩⟩;have hd1:z*2+x % 2=x+Bw*(y % 2):=by simp only[Bw]at h1 hz⊢;omega
   have q1:Bw ^ i*(z*2+x % 2)=Bw ^ i*(x+Bw*(y % 2)):=by rw[hd1]
   rw[ZKz,ZKz]at q1;rw[Zvp,hol,Zn7 hi,ex,ZKH,Nat.add_mul,ZKA,ZKA];omega
  unfold ZsU ZqG;dsimp only;rw[ZnW];refine⟨fun _=> ?_,fun h=>by have:=of_decide_eq_false h;omega⟩;have esh:shrK .u32 ((wd a)[i]:Int) 1=(((wd a)[i] / 2:Nat):Int):=Zzq 1 (by omega);rw[ZJ5,gx,ZnE,ZnF,ZnC,ZnE,ZnE,ZnE,esh,Zym,ZnO,ZnO,hlen,ZnW];refine⟨Zsq ⟨by omega,by omega⟩,by decide,Zsq ⟨by omega,by omega⟩,ZnI (by omega),fun h=> ?_,fun h=> ?_⟩
  ·have hi2:i+1 < (wd a).length:=by have:=of_decide_eq_true h;omega
   have gz:(iL ((o++(wd a).drop o.length).set i ((wd a)[i] / 2)))[i]? =some (((wd a)[i] / 2:Nat):Int):=by rw[Zzc (by rw[List.length_set];omega),List.getElem_set_self]
   have e1:(i:Int)+1=((i+1:Nat):Int):=rfl;have eg:(wd a).getD (i+1) 0=(wd a)[i+1]:=by rw[ZJ9,ZKa hi2];rfl
   have eor:orK .u32 (((wd a)[i] / 2:Nat):Int) (shlK .u32 ((wd a)[i+1]:Int) 31)=(((wd a)[i] / 2+(wd a).getD (i+1) 0*2 ^ 31 % Bw:Nat):Int):=by rw[eg,show (31:Int)=((31:Nat):Int)from rfl,ZB7 31 (by omega),ZBK (by simp only[Bw]at h1;omega) (ZKy _ (by decide))];congr 1;exact ZBh (by decide) (by simp only[Bw]at h1;omega) ((Zu5 a).get hi2)
   rw[e1,Zt2 hi2,gz,ZnE,ZnF,ZnC,ZnE,ZnF,ZnC,ZnE,ZnE,eor,ZnO,List.length_set,hlen,Zym,List.set_set];exact⟨Zsq ⟨by omega,by omega⟩,ZnI (by omega),by decide,Zsq ⟨by omega,by omega⟩,fin _ rfl⟩
  ·have hi2:¬i+1 < (wd a).length:=by have:=of_decide_eq_false h;omega
   refine fin _ ?_;rw[ZJ9,ZKb (by omega)];simp
 ·rintro rec o ⟨hol,hod,hov⟩;unfold ZsU ZqG;dsimp only;rw[ZnW];refine⟨fun h=>by have:=of_decide_eq_true h;omega,fun _=> ?_⟩;rw[ZnC];have eg:(wd a).getD (wd a).length 0=0:=by rw[ZJ9,ZKb (by omega)];rfl
  rw[eg,Nat.zero_mod,Nat.mul_zero,Nat.add_zero,ZKi,ZrN]at hov;refine⟨o,by rw[hol,List.drop_length,List.append_nil],hod,hol, ?_⟩;omega
 ·rintro y ⟨o,rfl,hd,hl,hv⟩;unfold ZtL;rw[Zzl hd (by omega),ZnF,ZnC,ZnC,hv]
end Go.Proofs
namespace Go.Proofs
open Go Eng
theorem ZBN {a:Nat} (h:a≠0):idx (iL (wd a)) 0=some ((a % Bw:Nat):Int):=by rw[ZzA h];rfl
theorem ZAz {a:Nat}:(andK .u32 ((a % Bw:Nat):Int) 1 == 0)=decide (a % 2=0):=by
 rw[show (1:Int)=((1:Nat):Int)from rfl,ZBm (ZKy _ (by decide)) (by decide),Nat.and_one_is_mod];have e:a % Bw % 2=a % 2:=by simp only[Bw];omega
 rw[e]
 by_cases h:a % 2=0
 ·rw[h];rfl
 ·rw[decide_eq_false h];exact beq_eq_false_iff_ne.2 (by omega)
theorem ZCH (P:Nat→Prop) {f:Nat→List Int×List Int×Int→Option (List Int×List Int×Int)} (y:List Int) (k:Int)
  (hf:∀n x,x≠0→(wd x).length≤100000→f (n+1) (iL (wd x),y,k)=if x % 2=0 then f n (iL (wd (x / 2)),y,k)else some (iL (wd x),y,k))
  (hP:∀x,P (2*x)→P x):∀(n x:Nat),x≠0→(wd x).length≤100000→P x→(∀m,x < 2 ^ m→m≤n→∃z,f n (iL (wd x),y,k)=some (iL (wd z),y,k)∧z % 2=1∧z≤x∧P z)
 |0,x,hx,hl,hp,m,hm,hmn=>by
  have:m=0:=by omega
  subst this;rw[ZKI]at hm;omega
 |n+1,x,hx,hl,hp,m,hm,hmn=>by
  rw[hf n x hx hl]
  by_cases h:x % 2=0
  ·rw[if_pos h];cases m with
   |zero=>rw[ZKI]at hm;omega
   |succ m=>
    obtain⟨z,h1,h2,h3,h4⟩:=ZCH P y k hf hP n (x / 2) (by omega) (ZKt (Zsr (ZKp x 2)) hl) (hP _ (by rwa [show 2*(x / 2)=x by omega])) m (by rw[ZKH]at hm;omega) (by omega);exact⟨z,h1,h2,by omega,h4⟩
  ·rw[if_neg h];exact⟨x,rfl,by omega,ZKs _,hp⟩
end Go.Proofs
namespace Go.Proofs
open Go Eng
theorem Zxd (x:Nat):x < 2 ^ (x.log2+1):=Nat.lt_log2_self
theorem ZyS {x n:Nat} (h:(wd x).length≤n):x.log2≤32*n:=by
 rcases Nat.eq_zero_or_pos x with rfl |hp
 ·rw[Nat.log2_zero];omega
 ·have h1:=Nat.log2_self_le (n:=x) (by omega);have h2:=ZKv (ZvE x) (ZKG (n:=Bw) (by decide) h);rw[show Bw=2 ^ 32 from rfl,←Nat.pow_mul]at h2;exact ZKr ((Nat.pow_lt_pow_iff_right (a:=2) (by decide)).1 (ZKu h1 h2))
theorem ZDE {x b:Nat} (hb:b % 2=1):ZKq (2*x) b=ZKq x b:=by
 have hc:Nat.Coprime 2 b:=by unfold Nat.Coprime;rw[Nat.gcd_rec,hb,Nat.gcd_one_left]
 exact Nat.Coprime.gcd_mul_left_cancel x hc
theorem ZI7 (y:List Int) (k:Int) {x:Nat} (b:Nat) (hb:b % 2=1) (hx:x≠0) (hl:(wd x).length≤100000):∃z,Zof big (iL (wd x)) y k=some (iL (wd z),y,k)∧z % 2=1∧z≤x∧ZKq z b=ZKq x b:=by
 have hm:=ZyS hl;refine ZCH (fun z=>ZKq z b=ZKq x b) (f:=fun n t=>Zof n t.1 t.2.1 t.2.2) y k (fun n x hx hl=> ?_) (fun z h=>by rwa [ZDE hb]at h) big x hx hl rfl (x.log2+1) (Zxd x) (ZKr (ZAD (by omega)));show Zpt (Zof n) (iL (wd x)) y k=_;unfold Zpt;rw[ZBN hx,ZKM,ZAz]
 by_cases h:x % 2=0
 ·rw[decide_eq_true h,cond_true,if_pos h,ZAd x hl,ZKM]
 ·rw[decide_eq_false h,cond_false,if_neg h]
end Go.Proofs
namespace Go.Proofs
open Go Eng
theorem ZER (y:List Int) (k:Int) {x:Nat} (ho:x % 2=1):Zof big (iL (wd x)) y k=some (iL (wd x),y,k):=by obtain⟨n,hn⟩:=ZGa 1 (by decide);rw[hn];show Zpt (Zof n) (iL (wd x)) y k=_;unfold Zpt;rw[ZBN (by omega),ZKM,ZAz,decide_eq_false (by omega),cond_false]
theorem ZI6 (w:List Int) (k:Int) {y:Nat} (b:Nat) (hb:b % 2=1) (hy:y≠0) (hl:(wd y).length≤100000):∃z,Zoe big w (iL (wd y)) k=some (w,iL (wd z),k)∧z % 2=1∧(z≤y∧(y % 2=0→z≤y / 2))∧ZKq z b=ZKq y b:=by
 have hm:=ZyS hl;have step:∀n x,x≠0→(wd x).length≤100000→Zoe (n+1) w (iL (wd x)) k=if x % 2=0 then Zoe n w (iL (wd (x / 2))) k else some (w,iL (wd x),k):=fun n x hx hl=>by
  show Ztf (Zoe n) w (iL (wd x)) k=_;unfold Ztf;rw[ZBN hx,ZKM,ZAz]
  by_cases h:x % 2=0
  ·rw[decide_eq_true h,cond_true,if_pos h,ZAd x hl,ZKM]
  ·rw[decide_eq_false h,cond_false,if_neg h]
 have key:∀(n x m:Nat),x≠0→(wd x).length≤100000→x < 2 ^ m→m≤n→∃z,Zoe n w (iL (wd x)) k=some (w,iL (wd z),k)∧z % 2=1∧(z≤x∧(x % 2=0→z≤x / 2))∧ZKq z b=ZKq x b:=by
  intro n
  induction n with
  |zero=>
   intro x m hx hl hm hmn;have:m=0:=by omega
   subst this;rw[ZKI]at hm;omega
  |succ n ih=>
   intro x m hx hl hm hmn;rw[step n x hx hl]
   by_cases h:x % 2=0
   ·rw[if_pos h];cases m with
    |zero=>rw[ZKI]at hm;omega
    |succ m=>
     obtain⟨z,h1,h2,h3,h4⟩:=ih (x / 2) m (by omega) (ZKt (Zsr (ZKp x 2)) hl) (by rw[ZKH]at hm;omega) (by omega);refine⟨z,h1,h2,⟨by omega,fun _=>h3.1⟩, ?_⟩;rw[h4,←ZDE hb,show 2*(x / 2)=x by omega]
   ·rw[if_neg h];exact⟨x,rfl,by omega,⟨ZKs _,fun h'=>absurd h' h⟩,rfl⟩
 exact key big y (y.log2+1) hy hl (Zxd y) (ZKr (ZAD (by omega)))
end Go.Proofs
namespace Go.Proofs
open Go Eng
theorem ZEs (k:Int):∀(n x y p q:Nat),x % 2=1→(wd x).length≤100000→(wd y).length≤100000→x < 2 ^ p→y < 2 ^ q→p+q+y % 2 < n→ZnQ n (iL (wd x)) (iL (wd y)) k=some (iL (wd (ZKq x y)),k)
 |0,x,y,p,q,_,_,_,_,_,h=>absurd h (by omega)
 |n+1,x,y,p,q,ho,hxl,hyl,hp,hq,hn=>by
  show Zpu (ZnQ n) _ _ _=_;unfold Zpu;rw[ZnO]
  by_cases h0:y=0
  ·subst h0;rw[Zt3,Nat.gcd_zero_right];rfl
  ·have hl:=ZrA h0;obtain⟨z,hz,hz1,hz2,hz3⟩:=ZI6 (iL (wd x)) k x ho h0 hyl;rw[decide_eq_true (by omega),cond_true,ZER _ _ ho,ZKM];dsimp only;unfold Zug;rw[hz,ZKM];dsimp only;have hzl:=ZKt (Zsr hz2.1) hyl;unfold Zuf;rw[ZAC x z hxl hzl,ZKM];obtain⟨q',hq',hq2⟩:∃q',z < 2 ^ q'∧q'+1≤q+y % 2:=by
    by_cases he:y % 2=0
    ·cases q with
     |zero=>rw[ZKI]at hq;omega
     |succ q=>
      refine⟨q, ?_,by omega⟩;have:=hz2.2 he;rw[ZKH]at hq;omega
    ·exact⟨q,by omega,by omega⟩
   unfold ZrZ;have eg:ZKq x y=ZKq x z:=by rw[Nat.gcd_comm x y,←hz3,Nat.gcd_comm]
   rw[eg]
   by_cases hc:z < x
   ·rw[ZwV hc,show decide ((1:Int) > 0)=true from rfl,cond_true,ZAj x z (by omega) hxl,ZKM,ZEs k n z (x - z) q' p hz1 hzl (ZKt (Zsr (Nat.sub_le x z)) hxl) hq' (by omega) (by omega),Nat.gcd_sub_self_right (by omega),Nat.gcd_comm]
   ·have hnc:decide (ZAR x z > 0)=false:=by refine decide_eq_false ?_;unfold ZAR;rw[if_neg hc];split<;>decide
    rw[hnc,cond_false,ZAj z x (by omega) hzl,ZKM,ZEs k n x (z - x) p q' ho hxl (ZKt (Zsr (Nat.sub_le z x)) hzl) hp (by omega) (by omega),Nat.gcd_sub_self_right (by omega)]
end Go.Proofs
namespace Go.Proofs
open Go Eng
theorem ZHp:∀(n x y j m:Nat),x≠0→y≠0→(wd x).length≤100000→(wd y).length≤100000→x < 2 ^ m→m≤n→j+m≤1000000000→
  ∃x' y' t:Nat,ZoW n (iL (wd x)) (iL (wd y)) (j:Int)=some (iL (wd x'),iL (wd y'),((j+t:Nat):Int))∧(x' % 2=1∨y' % 2=1)∧ZKq x y=2 ^ t*ZKq x' y'∧x'≠0∧y'≠0∧x'≤x∧y'≤y∧t≤m
 |0,x,y,j,m,hx,hy,hxl,hyl,hm,hmn,hj=>by
  have:m=0:=by omega
  subst this;rw[ZKI]at hm;omega
 |n+1,x,y,j,m,hx,hy,hxl,hyl,hm,hmn,hj=>by
  show ∃x' y' t:Nat,Ztg (ZoW n) _ _ _=_∧_;unfold Ztg Zr0;rw[ZBN hx,ZKM,ZAz]
  by_cases h1:x % 2=0
  ·rw[decide_eq_true h1,cond_true,ZBN hy,ZKM,ZAz]
   by_cases h2:y % 2=0
   ·cases m with
    |zero=>rw[ZKI]at hm;omega
    |succ m=>
     rw[decide_eq_true h2,cond_true,ZAd x hxl,ZKM,ZAd y hyl,ZKM,ZnI (by omega),chk_true];obtain⟨x',y',t,q1,q2,q3,q4,q5,q6,q7,q8⟩:=ZHp n (x / 2) (y / 2) (j+1) m (by omega) (by omega) (ZKt (Zsr (ZKp x 2)) hxl) (ZKt (Zsr (ZKp y 2)) hyl) (by rw[ZKH]at hm;omega) (by omega) (by omega);refine⟨x',y',t+1, ?_,q2, ?_,q4,q5,by omega,by omega,by omega⟩
     ·rw[show (j:Int)+1=((j+1:Nat):Int)from rfl,q1,show j+1+t=j+(t+1) by omega]
     ·have:=Nat.gcd_mul_left 2 (x / 2) (y / 2);rw[show 2*(x / 2)=x by omega,show 2*(y / 2)=y by omega]at this;rw[this,q3,ZKH,ZKB (2 ^ t) 2,ZKA]
   ·rw[decide_eq_false h2,cond_false];exact⟨x,y,0,rfl,.inr (by omega),by rw[ZKI,ZKD],hx,hy,ZKs _,ZKs _,Nat.zero_le _⟩
  ·rw[decide_eq_false h1,cond_false,cond_false];exact⟨x,y,0,rfl,.inl (by omega),by rw[ZKI,ZKD],hx,hy,ZKs _,ZKs _,Nat.zero_le _⟩
theorem ZHo:∀(k n a:Nat),k < n→k≤1000000000→(wd (2 ^ k*a)).length≤100000→ZoV n (iL (wd a)) (k:Int)=some (iL (wd (2 ^ k*a)))
 |k,0,a,h,_,_=>absurd h (by omega)
 |0,n+1,a,_,_,_=>by show Zps (ZoV n) _ _=_;unfold Zps;rw[ZKI,ZKD];rfl
 |k+1,n+1,a,h,hk,hl=>by
  show Zps (ZoV n) _ _=_;unfold Zps;have e:2 ^ (k+1)*a=2 ^ k*(2*a+0):=by rw[ZKH,ZKA,Nat.add_zero]
  have ha:(wd a).length≤100000:=ZKt (Zsr (Nat.le_mul_of_pos_left a (ZKK _))) hl;rw[e]at hl;have ht:=ZCv a 0 (by omega) ha;rw[Int.natCast_zero]at ht;rw[decide_eq_true (by omega),cond_true,ht,ZKM,show ((k+1:Nat):Int) - 1=(k:Int) by omega,ZnI (by omega),chk_true,ZHo k n (2*a+0) (by omega) (by omega) hl,e]
theorem ZDF (a b:Nat) (ha0:a≠0) (hb0:b≠0) (ha:(wd a).length≤50000) (hb:(wd b).length≤50000):ZpU (iL (wd a)) (iL (wd b))=some (iL (wd (ZKq a b))):=by
 have hla:=ZyS ha;have hlb:=ZyS hb;obtain⟨x,y,t,q1,q2,q3,q4,q5,q6,q7,q8⟩:=ZHp big a b 0 (a.log2+1) ha0 hb0 (by omega) (by omega) (Zxd a) (ZKr (ZAD (by omega))) (by omega);rw[Int.natCast_zero,ZKL]at q1;have hxl:=ZKt (Zsr q6) ha;have hyl:=ZKt (Zsr q7) hb;have hlx:=ZyS hxl;have hly:=ZyS hyl;have main:ZnQ big (iL (wd x)) (iL (wd y)) (t:Int)=some (iL (wd (ZKq x y)),(t:Int)):=by
  by_cases hx:x % 2=1
  ·exact ZEs _ big x y _ _ hx (by omega) (by omega) (Zxd x) (Zxd y) (ZAD (by omega))
  ·have hy:y % 2=1:=by omega
   obtain⟨z,z1,z2,z3,z4⟩:=ZI7 (iL (wd y)) (t:Int) y hy q4 (by omega);have hzl:=ZKt (Zsr z3) hxl;have hlz:=ZyS hzl;have e:=ZEs (t:Int) big z y _ _ z2 (by omega) (by omega) (Zxd z) (Zxd y) (ZAD (by omega));rw[z4]at e;rw[←e];obtain⟨n,hn⟩:∃n,big=n+1:=⟨36893488147419103231,by rw[big_eq]⟩;have s1:∀u,ZnQ big (iL (wd u)) (iL (wd y)) (t:Int)=Zpu (ZnQ n) (iL (wd u)) (iL (wd y)) (t:Int):=fun u=>by rw[hn];rfl
   rw[s1,s1];unfold Zpu;have hl:=ZrA q5;rw[ZnO,decide_eq_true (by omega),cond_true,cond_true,z1,ZER _ _ z2]
 have hg:(wd (2 ^ t*ZKq x y)).length≤100000:=by rw[←q3];exact ZKt (ZDc (by omega) hb) (by omega)
 unfold ZpU;rw[q1,ZKM];dsimp only;unfold Zuh Zue Zud;rw[main,ZKM];dsimp only;rw[ZHo t big _ (ZAD (by omega)) (by omega) hg,ZKM,q3]
end Go.Proofs
namespace Go.Proofs
open Go Eng
theorem ZDM {l:List Nat} {i:Nat} (hd:Dg l) (h:i / 32 < l.length):l[i / 32] / 2 ^ (i % 32) % 2=val l / 2 ^ i % 2:=by
 have e:=ZxZ h;have hlt:=Zwg (hd.take (i / 32));rw[ZKg,ZKx (by omega)]at hlt;have hi:2 ^ i=Bw ^ (i / 32)*2 ^ (i % 32):=by rw[show Bw=2 ^ 32 from rfl,←Nat.pow_mul,←ZKF,ZKn]
 have hr:i % 32 < 32:=ZKy _ (by decide);have hB:Bw=2 ^ (i % 32)*(2*2 ^ (31 - i % 32)):=by rw[show 2*2 ^ (31 - i % 32)=2 ^ (31 - i % 32+1) by rw[ZKH,ZKB],←ZKF,show i % 32+(31 - i % 32+1)=32 by omega]
 have e1:val l / Bw ^ (i / 32)=l[i / 32]+Bw*val (l.drop (i / 32+1)):=by rw[e,ZKl _ _ (Nat.pow_pos (by decide)),ZKo hlt,ZKL]
 rw[hi,←Nat.div_div_eq_div_mul,e1];generalize l[i / 32]=x;generalize val (l.drop (i / 32+1))=y;have e2:(x+Bw*y) / 2 ^ (i % 32)=x / 2 ^ (i % 32)+2*(2 ^ (31 - i % 32)*y):=by rw[hB,ZKA,ZKl _ _ (ZKK _),ZKA]
 rw[e2,ZKm]
end Go.Proofs
namespace Go.Proofs
open Go Eng
theorem ZEL (i:Nat):Int.tdiv (i:Int) 32=((i / 32:Nat):Int):=by rw[Int.tdiv_eq_ediv_of_nonneg (by omega)];norm_cast
theorem ZEK (i:Nat):IntKind.wrap .u64 (Int.tmod (i:Int) 32)=((i % 32:Nat):Int):=by rw[Int.tmod_eq_emod_of_nonneg (by omega),IntKind.wrap_u64];omega
theorem ZHT {l:List Nat} {i:Nat} (hd:Dg l) (h:i / 32 < l.length) (hi:i≤1000000000):Zrs (iL l) (i:Int)=some ((val l / 2 ^ i % 2:Nat):Int):=by have h1:=hd.get h;unfold Zrs;rw[ZEL,ZEK,decide_eq_true (by decide),chk_true,ZnI (by omega),chk_true,Zt2 h,ZKM,chk_true,decide_eq_true (by omega),chk_true,Zzq _ (by omega),show (1:Int)=((1:Nat):Int)from rfl,ZBm (ZKu (ZKp _ _) h1) (by decide),Nat.and_one_is_mod,ZDM hd h]
end Go.Proofs
namespace Go.Proofs
open Go Eng
theorem ZEN {x j:Nat} (h:x / 2 ^ j % 2=0):x|||2 ^ j=x+2 ^ j:=by
 have hlo:=ZKy x (ZKK j);have e:x=2 ^ (j+1)*(x / 2 ^ j / 2)+x % 2 ^ j:=by
  have h1:=ZKn x (2 ^ j);have h2:2*(x / 2 ^ j / 2)=x / 2 ^ j:=by omega
  rw[ZKH,ZKA,h2,h1]
 have a1:=ZKJ (i:=j+1) (b:=x % 2 ^ j) (by rw[ZKH];omega) (x / 2 ^ j / 2);have a2:=ZKJ (i:=j) (b:=x % 2 ^ j) hlo 1;have a3:=ZKJ (i:=j+1) (b:=2 ^ j*1+x % 2 ^ j) (by rw[ZKH];omega) (x / 2 ^ j / 2);rw[Nat.mul_one]at a2 a3;generalize x / 2 ^ j / 2=t at*
 generalize x % 2 ^ j=lo at*
 rw[e,a1,Nat.or_assoc,Nat.or_comm lo,←a2,←a3,←a1];omega
theorem ZFx {j:Nat} (hj:j≤31):shlK .u32 1 (j:Int)=((2 ^ j:Nat):Int):=by have:=ZB7 (a:=1) j (by omega);rw[ZKD,Nat.mod_eq_of_lt (ZKu (ZKG (by decide) hj) (by decide))]at this;exact this
theorem ZDC {A k:Nat}:A / 2 ^ k=2*(A / 2 ^ (k+1))+A / 2 ^ k % 2:=by rw[ZKH,←Nat.div_div_eq_div_mul];omega
theorem ZDG (a b:Nat) (hb0:b≠0) (ha:(wd a).length≤50000) (hb:(wd b).length≤50000):ZpV (iL (wd a)) (iL (wd b))=some (iL (wd (a / b)),iL (wd (a % b))):=by
 have hlen:∀k,(wd (2*(a / 2 ^ (k+1) % b)+a / 2 ^ k % 2)).length≤50001:=fun k=>by
  have h1:=ZKy (a / 2 ^ (k+1)) (ZKE hb0);have h2:2*(a / 2 ^ (k+1) % b)+a / 2 ^ k % 2≤b+b:=by omega
  exact ZKt (Zsr h2) (ZAJ hb hb)
 refine Zpf ?_;unfold ZpV;rw[ZnE,ZnE,ZnE,ZnF,ZnO,ZJ5,ZAx];refine⟨ZyR (by omega),ZnI (by omega),ZnI (by omega), ?_⟩;have e0:(32*((wd a).length:Int)) - 1=((32*(wd a).length:Nat):Int) - 1:=by omega
 rw[e0,show ([]:List Int)=iL (wd 0) by rw[Zt3];rfl];refine ZnR (ZzO ZxQ (32*(wd a).length) (by omega) (fun i (q:Nat×List Nat)=>(iL (wd a),iL (wd b),iL (wd q.1),i,iL q.2))
  (fun k q=>q.1=a / 2 ^ k % b∧Dg q.2∧q.2.length=(wd a).length∧val q.2=a / 2 ^ k / b*2 ^ k)
  (Q:=fun y=>∃o:List Nat,y=(iL (wd (a % b)),iL o)∧Dg o∧o.length=(wd a).length∧val o=a / b) (0,List.replicate (wd a).length 0) ?_ ?_ ?_) ?_
 ·have h0:a / 2 ^ (32*(wd a).length)=0:=by refine ZKo ?_;rw[Nat.pow_mul];exact ZvE a
  rw[h0,Nat.zero_mod,Nat.zero_div,Nat.zero_mul];exact⟨rfl,ZDH _,List.length_replicate,ZB1 _⟩
 ·rintro rec k ⟨r,q⟩ hk ⟨hr,hd,hl,hv⟩ ih;dsimp only at hr hd hl hv;have hk32:k / 32 < (wd a).length:=by omega
  unfold Zth ZqW;dsimp only;have hbit:=ZHT (i:=k) (Zu5 a) hk32 (by omega);rw[ZrN]at hbit;have h2:a / 2 ^ k % 2≤1:=by omega
  have htw:=ZCv r (a / 2 ^ k % 2) h2 (by
   rw[hr];exact ZKt (Zsr (ZKr (ZKy _ (ZKE hb0)))) (by omega))
  have hlk:=hlen k;rw[←hr]at hlk;have hx:=ZDC (A:=a) (k:=k);have hdm:=ZKn (a / 2 ^ (k+1)) b;rw[←hr]at hdm;have hrlt:r < b:=by rw[hr];exact ZKy _ (ZKE hb0)
  rw[ZnW];refine⟨fun _=> ?_,fun h=>by have:=of_decide_eq_false h;omega⟩;rw[hbit,ZnF,ZnC,htw,ZnF,ZnC,ZAC _ _ (by omega) (by omega),ZnF,ZnC,ZnW];have nx:∀r' q',(r'=a / 2 ^ k % b∧Dg q'∧q'.length=(wd a).length∧val q'=a / 2 ^ k / b*2 ^ k)→wp (Zp9 (fun a b r_ i q=>rec (a,b,r_,i,q)) (iL (wd a)) (iL (wd b)) (iL (wd r')) (k:Int) (iL q')) (fun y=>∃o:List Nat,y=(iL (wd (a % b)),iL o)∧Dg o∧o.length=(wd a).length∧val o=a / b):=fun r' q' h=>by unfold Zp9;rw[ZnE];exact⟨ZnI (by omega),ih (r',q') h⟩
  generalize eX:a / 2 ^ (k+1)=X at*
  generalize ed:a / 2 ^ k % 2=d at*
  refine⟨fun hc=> ?_,fun hc=> ?_⟩
  ·have hge:b≤2*r+d:=by
    rcases ZKw (2*r+d) b with h |h
    ·rw[Zxc h]at hc;exact absurd (of_decide_eq_true hc) (by decide)
    ·exact h
   have hq:k / 32 < q.length:=by omega
   have hz:q[k / 32] / 2 ^ (k % 32) % 2=0:=by rw[ZDM hd hq,hv,ZKH,←ZKA,Nat.mul_right_comm,Nat.mul_div_cancel _ (ZKK k)];omega
   have hx32:=hd.get hq;rw[ZAj _ _ hge (by omega),ZnF,ZnC,ZEL,ZEK,ZJ5,ZnE,ZnE,ZnE,Zzc hq,ZnF,ZnC,ZnE,ZnE,ZnE,ZFx (by omega),ZBK hx32 (ZKu (ZKG (by decide) (show k % 32≤31 by omega)) (by decide)),ZEN hz,Zym,ZnO];refine⟨by decide,ZnI (by omega),Zsq ⟨by omega,by omega⟩,by decide,decide_eq_true (by omega),Zsq ⟨by omega,by omega⟩, ?_⟩;have hsum:q[k / 32]+2 ^ (k % 32) < Bw:=by
    have hB:Bw=2 ^ (k % 32)*(2*2 ^ (31 - k % 32)):=by rw[show 2*2 ^ (31 - k % 32)=2 ^ (31 - k % 32+1) by rw[ZKH,ZKB],←ZKF,show k % 32+(31 - k % 32+1)=32 by omega]
    rw[←ZEN hz];exact Nat.or_lt_two_pow (n:=32) hx32 (ZKu (ZKG (by decide) (show k % 32≤31 by omega)) (by decide))
   refine nx (2*r+d - b) (q.set (k / 32) (q[k / 32]+2 ^ (k % 32))) ⟨?_,hd.set _ hsum,by rw[List.length_set,hl], ?_⟩
   ·rw[hx,show 2*X+d=(2*r+d - b)+b*(2*(X / b)+1) by rw[ZKz,ZKC];omega,ZKm,Nat.mod_eq_of_lt (by omega)]
   ·have hvs:=Zyq q (k / 32) (q[k / 32]+2 ^ (k % 32)) hq;have hp:Bw ^ (k / 32)*2 ^ (k % 32)=2 ^ k:=by rw[show Bw=2 ^ 32 from rfl,←Nat.pow_mul,←ZKF,ZKn]
    rw[ZKz,hp]at hvs;have e1:(2*X+d) / b=2*(X / b)+1:=by rw[show 2*X+d=(2*r+d - b)+b*(2*(X / b)+1) by rw[ZKz,ZKC];omega,ZKl _ _ (ZKE hb0),ZKo (by omega),ZKL]
    rw[hx,e1];rw[hv,ZKH]at hvs;have e2:X / b*(2 ^ k*2)=2*(X / b)*2 ^ k:=by rw[ZKB (2 ^ k) 2,←ZKA,ZKB (X / b) 2]
    rw[Nat.add_mul,ZKD];omega
  ·have hlt:2*r+d < b:=by
    rcases ZKw (2*r+d) b with h |h
    ·exact h
    ·rcases ZKw b (2*r+d)with h' |h'
     ·rw[ZwV h']at hc;exact absurd (of_decide_eq_false hc) (by decide)
     ·rw[show 2*r+d=b by omega,Zv8]at hc;exact absurd (of_decide_eq_false hc) (by decide)
   have e0:2*X+d=(2*r+d)+b*(2*(X / b)):=by rw[ZKC];omega
   refine nx (2*r+d) q ⟨?_,hd,hl, ?_⟩
   ·rw[hx,e0,ZKm,Nat.mod_eq_of_lt hlt]
   ·rw[hx,e0,ZKl _ _ (ZKE hb0),ZKo hlt,ZKL,hv,ZKH,ZKB (2 ^ k) 2,←ZKA,ZKB (X / b) 2]
 ·rintro rec ⟨r,q⟩ ⟨hr,hd,hl,hv⟩;dsimp only at hr hd hl hv;rw[ZKI,Nat.div_one]at hr hv;unfold Zth ZqW;dsimp only;rw[ZnW];refine⟨fun h=>by have:=of_decide_eq_true h;omega,fun _=> ?_⟩;rw[ZnC,hr];exact⟨q,rfl,hd,hl,by rw[hv,Nat.mul_one]⟩
 ·rintro y ⟨o,rfl,hd,hl,hv⟩;dsimp only;unfold Zui;rw[Zzl hd (by omega),ZnF,ZnC,ZnC,hv]
end Go.Proofs
namespace Go.Proofs
open Go Eng
theorem ZC2 (n:Int):Rat.divInt n 1=(n:Rat):=by have h:=Rat.num_divInt_den (n:Rat);rw[Rat.num_intCast,Rat.den_intCast]at h;exact h
end Go.Proofs
namespace Go.Proofs
open Go Eng
theorem ZwH (z:Int) (h1: -9223372036854775808≤z) (h2:z≤9223372036854775807):ZnM z=some (bg z):=by
 have key:∀(b:Bool) (n:Nat),n < 18446744073709551616→ZnP b [IntKind.wrap .u32 (n:Int),IntKind.wrap .u32 (shrK .u64 (n:Int) 32)]=some (bg (if b then -(n:Int)else n)):=fun b n h=>by
  have e:([IntKind.wrap .u32 (n:Int),IntKind.wrap .u32 (shrK .u64 (n:Int) 32)]:List Int)=iL [n % 4294967296,n / 4294967296]:=by rw[show (32:Int)=((32:Nat):Int)from rfl,Zys 32 (by omega),Zux,Zu4 (by omega)];rfl
  have hd:Dg [n % 4294967296,n / 4294967296]:=fun d hd=>by
   simp only[List.mem_cons,List.mem_singleton,List.not_mem_nil,or_false]at hd;rcases hd with rfl |rfl
   ·exact ZKy _ (by decide)
   ·simp only[Bw];omega
  have hv:val [n % 4294967296,n / 4294967296]=n:=by simp only[val,Nat.mul_zero,Nat.add_zero];exact Nat.mod_add_div n Bw
  rw[e,Zzg b hd (by simp),hv]
 unfold ZnM Zqj;have h32:decide (0≤(32:Int))=true:=rfl
 by_cases hz:z < 0
 ·have e:IntKind.wrap .u64 (0 - IntKind.wrap .u64 z)=((z.natAbs:Nat):Int):=by rw[IntKind.wrap_u64,IntKind.wrap_u64];omega
  rw[decide_eq_true hz,cond_true,h32,chk_true,e,key true _ (by omega),ZKM,if_pos rfl,show -((z.natAbs:Nat):Int)=z by omega]
 ·have e:IntKind.wrap .u64 z=((z.natAbs:Nat):Int):=by rw[IntKind.wrap_u64];omega
  rw[decide_eq_false hz,cond_false,h32,chk_true,e,key false _ (by omega),ZKM,if_neg (by decide),show ((z.natAbs:Nat):Int)=z by omega]
theorem ZGc:bg 0=⟨false,[]⟩:=by unfold bg;rw[show (0:Int).natAbs=0 from rfl,Zt3];rfl
theorem Zzm (x y:Int) (hy:y≠0) (hx1:Wl 50000 x) (hy1:Wl 50000 y):Zot (bg x) (bg y)=some (fOf (Rat.divInt x y)):=by
 unfold Zot
 by_cases hx:x=0
 ·subst hx;rw[Rat.zero_divInt,ZoK,ZnO,show (0:Int).natAbs=0 from rfl,Zt3,ZwH 1 (by decide) (by decide)];show some (ZnA.mk ⟨false,[]⟩ (bg 1))=some (fOf 0);rw[←ZGc];rfl
 ·have hx0:0 < x.natAbs:=by omega
  have hy0:0 < y.natAbs:=by omega
  have hg0:ZKq x.natAbs y.natAbs≠0:=fun e=>by have:=Nat.gcd_pos_of_pos_right x.natAbs hy0;omega
  have hgl:=ZDc (x:=x.natAbs) hy0 hy1;have hxl:=ZCt (ZKq x.natAbs y.natAbs) hx1;have hyl:=ZCt (ZKq x.natAbs y.natAbs) hy1;have h:=ZyC x y hy hx1 hy1;unfold Zpe at h;rw[ZoK,ZoK,ZAB _ _ hx1 hy1,ZKM,ZzT _ _ hg0 hx1 hgl,ZKM]at h;dsimp only at h;rw[ZzT _ _ hg0 hy1 hgl,ZKM]at h;dsimp only at h;rw[Zu7 _ _ (by omega),ZKM,Zu7 _ _ (by omega),ZKM]at h;have hlen:=ZrA (n:=x.natAbs) (by omega);rw[←h,ZoK,ZoK,ZnO,beq_eq_false_iff_ne.2 (by omega),cond_false,ZDF _ _ (by omega) (by omega) hx1 hy1,ZKM,ZDG _ _ hg0 hx1 hgl,ZKM];dsimp only;rw[ZDG _ _ hg0 hy1 hgl,ZKM];dsimp only;rw[Zzg _ (Zu5 _) (by omega),ZKM,Zzg _ (Zu5 _) (by omega),ZKM,ZrN,ZrN]
theorem ZEn (x y:Int) (hy:y≠0) (hx1:Wl 256 x) (hy1:Wl 256 y):Zq1 (bg x) (bg y)=some (fOf (Rat.divInt x y),0):=by unfold Zq1 Zri;rw[Zxe,ZxY x hx1,ZKM,ZJY,cond_false,Zxe,ZxY y hy1,ZKM,ZJY,cond_false,ZyG hy,cond_false,Zzm x y hy (ZKt hx1 (by decide)) (ZKt hy1 (by decide)),ZKM]
theorem ZHj (x y:Int) (hy:y≠0) (h1: -9223372036854775808≤x) (h2:x≤9223372036854775807) (h3: -9223372036854775808≤y) (h4:y≤9223372036854775807):Zqu x y=some (fOf (Rat.divInt x y),0):=by unfold Zqu;rw[ZwH x h1 h2,ZKM,ZwH y h3 h4,ZKM,ZEn x y hy (ZIJ h1 h2) (ZIJ h3 h4),ZKM]
theorem ZzG (x y:Int) (hy:y≠0) (h1: -9223372036854775808≤x) (h2:x≤9223372036854775807) (h3: -9223372036854775808≤y) (h4:y≤9223372036854775807):Zod x y=some (fOf (Rat.divInt x y)):=by unfold Zod;rw[Zwr];unfold ZuV;rw[ZHj x y hy h1 h2 h3 h4,ZKM]
theorem ZAc (x:Int) (h1: -9223372036854775808≤x) (h2:x≤9223372036854775807):Zn8 x=some (fOf (x:Rat)):=by unfold Zn8;rw[Zwr];unfold Zvl;rw[ZzG x 1 (by decide) h1 h2 (by decide) (by decide),ZKM,ZC2]
theorem ZG2 {a b:Nat} (h:wd a=wd b):a=b:=by rw[←ZrN a,←ZrN b,h]
theorem ZAP (x y:Int) (hx:Wl 100000 x) (hy:Wl 100000 y):ZoN (bg x) (bg y)=some (decide (x=y)):=by
 unfold Wl at hx hy;refine Zpf ?_;unfold ZoN Zqg;rw[Zxv,Zxv,ZoK,ZoK,ZnO,ZnO]
 by_cases hs:decide (x < 0)=decide (y < 0)
 ·rw[hs,beq_self_eq_true,ZJY,cond_false]
  by_cases hl:(wd x.natAbs).length=(wd y.natAbs).length
  ·rw[hl,bne_self_eq_false,cond_false,ZnF];refine ZnR (ZqI ZwZ (wd y.natAbs).length (by omega) (fun i (_:Unit)=>(iL (wd x.natAbs),((wd y.natAbs).length:Int),i,bg y)) (fun i _=>(wd x.natAbs).take i=(wd y.natAbs).take i)
    (Q:=fun r=>r= .ret false∧wd x.natAbs≠wd y.natAbs∨r= .brk ()∧wd x.natAbs=wd y.natAbs) () (by rw[List.take_zero,List.take_zero]) ?_ ?_) ?_
   ·rintro rec i ⟨⟩ hi hP ih;have hi2:i < (wd x.natAbs).length:=by omega
    unfold ZrD ZpD;dsimp only;rw[ZnW];refine⟨fun _=> ?_,fun h=>by have:=of_decide_eq_false h;omega⟩;rw[ZoK,Zt2 hi2,ZnF,ZnC,Zt2 hi,ZnF,ZnC,ZnW];refine⟨fun h=> ?_,fun h=> ?_⟩
    ·rw[ZnC];refine .inl ⟨rfl,fun e=> ?_⟩;have h1:(wd y.natAbs)[i]=(wd x.natAbs)[i]:=by simp only[e]
     rw[h1,bne_self_eq_false]at h;exact absurd h (by decide)
    ·rw[ZnE];refine⟨ZnI (by omega),ih () ?_⟩;rw[bne_eq_false_iff_eq]at h;have h1:(wd y.natAbs)[i]=(wd x.natAbs)[i]:=by omega
     rw[ZKk hi2,ZKk hi,hP,h1]
   ·rintro rec ⟨⟩ hP;unfold ZrD ZpD;dsimp only;rw[ZnW];refine⟨fun h=>by have:=of_decide_eq_true h;omega,fun _=> ?_⟩;rw[ZnC];rw[ZKi,←hl,ZKi]at hP;exact .inr ⟨rfl,hP⟩
   ·rintro r (⟨rfl,h⟩ |⟨rfl,h⟩)
    ·exact ZnC.2 (decide_eq_false (fun e=>h (by rw[e]))).symm
    ·unfold Zsw;have h1:=ZG2 h;refine ZnC.2 (decide_eq_true ?_).symm
     by_cases hy0:y < 0
     ·have hx0:x < 0:=by rw[decide_eq_true hy0]at hs;exact of_decide_eq_true hs
      omega
     ·have hx0:¬x < 0:=by rw[decide_eq_false hy0]at hs;exact of_decide_eq_false hs
      omega
  ·have:(((wd x.natAbs).length:Int) != ((wd y.natAbs).length:Int))=true:=by rw[bne_iff_ne];omega
   rw[this,cond_true,ZnC];exact(decide_eq_false (fun e=>hl (by rw[e]))).symm
 ·rw[beq_eq_false_iff_ne.2 hs,ZJX,cond_true,cond_true,ZnC];exact(decide_eq_false (fun e=>hs (by rw[e]))).symm
theorem Zx1 (p q:Rat) (hp:Wq 256 p) (hq:Wq 256 q):ZnY (fOf p) (fOf q)=some (decide (p=q)):=by
 have m:∀{x:Int},Wl 256 x→Wl 100000 x:=fun h=>ZKt h (by decide)
 unfold ZnY Zrd fOf;dsimp only;rw[ZAP _ _ (m hp.1) (m hq.1),ZKM]
 by_cases h1:p.num=q.num
 ·rw[decide_eq_true h1,cond_true,ZAP _ _ (m hp.2) (m hq.2),ZKM];congr 1
  by_cases h2:p.den=q.den
  ·rw[decide_eq_true (by omega),decide_eq_true (Rat.ext h1 h2)]
  ·rw[decide_eq_false (by omega),decide_eq_false (fun e=>h2 (by rw[e]))]
 ·rw[decide_eq_false h1,cond_false,decide_eq_false (fun e=>h1 (by rw[e]))]
end Go.Proofs
namespace Go.Proofs
open Go Eng
theorem ZFK (a b:Nat) (ha:(wd a).length≤100000) (hb:(wd b).length≤100000):Zrr (iL (wd a)) (iL (wd b))=some (iL (wd (a*b))):=by
 refine Zpf ?_;unfold Zrr;rw[ZnO,ZnO,ZnE,ZnE,ZnF,←ZJ4,ZJ5,ZAx];refine⟨ZnI (by omega),ZyR (by omega), ?_⟩;generalize hm:(wd a).length=m at ha⊢
 generalize hn:(wd b).length=n at hb⊢
 refine ZnR (ZqI ZxP m (by omega) (fun i (s:List Nat)=>(iL (wd a),iL (wd b),i,iL s)) (fun i s=>s.length=m+n∧Dg s∧val s=val ((wd a).take i)*b∧∀k,i+n≤k→k < m+n→s[k]? =some 0)
  (Q:=fun y=>∃(o:List Nat),y=iL o∧Dg o∧o.length=m+n∧val o=a*b) (List.replicate (m+n) 0) ⟨by simp,ZDH _,by rw[ZB1];simp[val],fun k _ h=>by rw[List.getElem?_replicate,if_pos h]⟩ ?_ ?_) ?_
 ·rintro rec i s hlt ⟨hl,hd,hv,hz⟩ ih;have hi:i < (wd a).length:=by omega
  have h1:=(Zu5 a).get hi;unfold Zte ZqV;dsimp only;rw[ZnW,ZnO,hm];refine⟨fun _=> ?_,fun h=>by simp only[decide_eq_false_iff_not]at h;omega⟩;rw[ZnF];generalize ex:(wd a)[i]=x at h1;refine ZnR (ZqI ZxO n (by omega) (fun j (t:Nat×List Nat)=>(iL (wd a),iL (wd b),(i:Int),(t.1:Int),j,iL t.2)) (fun j t=>t.1 < Bw∧t.2.length=m+n∧Dg t.2∧val t.2+Bw ^ (i+j)*t.1=val s+Bw ^ i*(x*val ((wd b).take j))∧∀k,i+n≤k→k < m+n→t.2[k]? =some 0)
   (Q:=fun y=>∃(c:Nat) (o:List Nat),y=(iL (wd a),iL (wd b),(i:Int),(c:Int),iL o)∧c < Bw∧o.length=m+n∧Dg o∧val o+Bw ^ (i+n)*c=val s+Bw ^ i*(x*b)∧∀k,i+n≤k→k < m+n→o[k]? =some 0) (0,s) ⟨by simp only[Bw];omega,hl,hd,by simp[val],hz⟩ ?_ ?_) ?_
  ·rintro rec2 j ⟨c,o⟩ hj ⟨hc,hol,hod,hov,hoz⟩ ih2;dsimp only at hc hol hod hov hoz ih2;have hj2:j < (wd b).length:=by omega
   have h2:=(Zu5 b).get hj2;have hij:i+j < o.length:=by omega
   have h3:=hod.get hij;unfold Ztd ZqU;dsimp only;rw[ZnW,ZnO,hn];refine⟨fun _=> ?_,fun h=>by simp only[decide_eq_false_iff_not]at h;omega⟩;rw[Zt2 hi,ex,ZnF,ZnC,Zt2 hj2,ZnF,ZnC,ZnE,ZnE,←ZJ4,ZJ5,Zzc hij,ZnF,ZnC,ZnE,ZnE,ZnE,ZnE];generalize ey:(wd b)[j]=y at h2;generalize ee:o[i+j]=e at h3;rw[ZHm hc h1 h2 h3,Zux,show (32:Int)=((32:Nat):Int)from rfl,Zys 32 (by omega),ZnO,Zym];refine⟨ZnI (by omega),Zsq ⟨by omega,by omega⟩,ZnI (by omega),Zsq ⟨by omega,by omega⟩,by decide,ZnI (by omega), ?_⟩;refine ih2 ((c+x*y+e) / Bw,o.set (i+j) ((c+x*y+e) % Bw)) ⟨ZEQ hc h1 h2 h3,by simp[hol],hod.set _ (ZKy _ (by decide)), ?_,fun k hk hk2=> ?_⟩
   ·dsimp only;have q1:=Zyq o (i+j) ((c+x*y+e) % Bw) hij;rw[ee]at q1;have q2:Bw ^ (i+j)*((c+x*y+e) % Bw+Bw*((c+x*y+e) / Bw))=Bw ^ (i+j)*(c+x*y+e):=by rw[Nat.mod_add_div]
    rw[ZKz,ZKz,ZKz]at q2;rw[←Nat.add_assoc,ZKH,ZKA,Zn7 hj2,ey,ZKz,ZKz];have q3:Bw ^ i*(x*(Bw ^ j*y))=Bw ^ (i+j)*(x*y):=by rw[ZKF,ZKA,ZKC x]
    omega
   ·dsimp only;rw[List.getElem?_set_ne (by omega)];exact hoz k hk hk2
  ·rintro rec2 ⟨c,o⟩ ⟨hc,hol,hod,hov,hoz⟩;dsimp only at hc hol hod hov hoz;unfold Ztd ZqU;dsimp only;rw[ZnW,ZnO,hn];refine⟨fun h=>by have:=of_decide_eq_true h;omega,fun _=> ?_⟩;rw[ZnC];rw[ZKj (by omega),ZrN]at hov;exact⟨c,o,rfl,hc,hol,hod,hov,hoz⟩
  ·rintro y ⟨c,o,rfl,hc,hol,hod,hov,hoz⟩;dsimp only;unfold Zuc;rw[ZnO,hn,ZnE,ZnE,ZnE,←ZJ4,ZJ5,Zu4 hc,Zym,ZnO];refine⟨ZnI (by omega),Zsq ⟨by omega,by omega⟩,ZnI (by omega), ?_⟩;have hp:i+n < o.length:=by omega
   have h0:o[i+n]=0:=by have:=hoz (i+n) (ZKs _) (by omega);rw[ZKa hp]at this;exact Option.some.inj this
   have q1:=Zyq o (i+n) c hp;rw[h0,Nat.mul_zero,Nat.add_zero]at q1;refine ih (o.set (i+n) c) ⟨by simp[hol],hod.set _ hc, ?_,fun k hk hk2=> ?_⟩
   ·rw[q1,hov,hv,Zn7 hi,ex,Nat.add_mul,ZKA]
   ·rw[List.getElem?_set_ne (by omega)];exact hoz k (by omega) hk2
 ·rintro rec s ⟨hl,hd,hv,hz⟩;unfold Zte ZqV;dsimp only;rw[ZnW,ZnO,hm];refine⟨fun h=>by have:=of_decide_eq_true h;omega,fun _=> ?_⟩;rw[ZnC];rw[ZKj (by omega),ZrN]at hv;exact⟨s,rfl,hd,hl,hv⟩
 ·rintro y ⟨o,rfl,hd,hl,hv⟩;unfold Zub;rw[Zzl hd (by omega),ZnF,ZnC,ZnC,hv]
theorem ZGh (a b:Nat) (ha:(wd a).length≤100000) (hb:(wd b).length≤100000):∃o:List Nat,ZpW (iL (wd a)) (iL (wd b))=some (iL o)∧Dg o∧o.length≤100001∧val o=a+b:=by
 obtain⟨m,hma,hmb,hm2,hmx⟩:∃m:Nat,(wd a).length≤m∧(wd b).length≤m∧m≤100000∧∀i,i < m→i < (wd a).length∨i < (wd b).length:=by
  by_cases h:(wd a).length≤(wd b).length
  ·exact⟨(wd b).length,h,ZKs _,hb,fun i hi=> .inr hi⟩
  ·exact⟨(wd a).length,ZKs _,by omega,ha,fun i hi=> .inl hi⟩
 suffices h:wp (ZpW (iL (wd a)) (iL (wd b))) (fun x=>∃o:List Nat,x=iL o∧Dg o∧o.length≤100001∧val o=a+b) by obtain⟨x,hx,o,rfl,h⟩:=h;exact⟨o,hx,h⟩
 unfold ZpW;rw[ZnF];refine ZnR (ZqI ZxS m (by omega) (fun i (s:Nat×List Nat)=>(iL (wd a),iL (wd b),(s.1:Int),i,iL s.2)) (fun i s=>s.1≤1∧s.2.length=i∧Dg s.2∧val s.2+Bw ^ i*s.1=val ((wd a).take i)+val ((wd b).take i))
  (Q:=fun y=>∃(c:Nat) (o:List Nat),y=((c:Int),iL o)∧c≤1∧Dg o∧o.length=m∧val o+Bw ^ m*c=a+b) (0,[]) ⟨by simp,rfl,Zze,by simp[val]⟩ ?_ ?_) ?_
 ·rintro rec i ⟨c,o⟩ hlt ⟨hc,hl,hd,hv⟩ ih;dsimp only at hc hl hd hv ih;have h1:=Zzt (Zu5 a) i;have h2:=Zzt (Zu5 b) i;have j3:∀x y:Nat,(wd a).getD i 0=x→(wd b).getD i 0=y→wp (Zqa (fun a b c i out=>rec (a,b,c,i,out)) (iL (wd a)) (iL (wd b)) ((c+x+y:Nat):Int) (i:Int) (iL o)) (fun y=>∃(c:Nat) (o:List Nat),y=((c:Int),iL o)∧c≤1∧Dg o∧o.length=m∧val o+Bw ^ m*c=a+b):=fun x y ex ey=>by
   rw[ex]at h1;rw[ey]at h2;unfold Zqa;rw[ZnE,ZnE,ZnE,Zux,show (32:Int)=((32:Nat):Int)from rfl,Zys 32 (by omega),ZnO];refine⟨Zv7 (by simp only[ZKf];omega),by decide,ZnI (by omega), ?_⟩;have:=ih ((c+x+y) / Bw,o++[(c+x+y) % Bw]) ⟨by simp only[Bw]at h1 h2⊢;omega,by simp[hl],hd.app (ZyF (ZKy _ (by decide))), ?_⟩
   ·rw[ZAy]at this;exact this
   ·dsimp only;rw[Zvp,hl,ZKH,Zwa,Zwa,ex,ey,Nat.add_assoc,ZKA,←ZKz,Nat.mod_add_div,ZKz,ZKz];omega
  have j2:∀x:Nat,(wd a).getD i 0=x→wp (Zqb (fun a b c i out=>rec (a,b,c,i,out)) (iL (wd a)) (iL (wd b)) ((c+x:Nat):Int) (i:Int) (iL o)) (fun y=>∃(c:Nat) (o:List Nat),y=((c:Int),iL o)∧c≤1∧Dg o∧o.length=m∧val o+Bw ^ m*c=a+b):=fun x ex=>by
   have hx:=h1;rw[ex]at hx;unfold Zqb;rw[ZnO,ZnW];refine⟨fun h=> ?_,fun h=> ?_⟩
   ·have hib:i < (wd b).length:=by have:=of_decide_eq_true h;omega
    have ey:(wd b).getD i 0=(wd b)[i]:=by rw[ZJ9,ZKa hib];rfl
    have hy:=(Zu5 b).get hib;rw[Zt2 hib,ZnF,ZnC,Zn6 (by simp only[Bw]at hy;omega),←ZJ4,Zn6 (by simp only[Bw]at hx hy;omega)];exact j3 x _ ex ey
   ·have hib:¬i < (wd b).length:=by have:=of_decide_eq_false h;omega
    exact j3 x 0 ex (by rw[ZJ9,ZKb (by omega)];rfl)
  have j1:wp (ZoX (fun a b c i out=>rec (a,b,c,i,out)) (iL (wd a)) (iL (wd b)) (c:Int) (i:Int) true (iL o)) (fun y=>∃(c:Nat) (o:List Nat),y=((c:Int),iL o)∧c≤1∧Dg o∧o.length=m∧val o+Bw ^ m*c=a+b):=by
   unfold ZoX;rw[cond_true,ZnO,ZnW];refine⟨fun h=> ?_,fun h=> ?_⟩
   ·have hib:i < (wd a).length:=by have:=of_decide_eq_true h;omega
    have ey:(wd a).getD i 0=(wd a)[i]:=by rw[ZJ9,ZKa hib];rfl
    have hy:=(Zu5 a).get hib;rw[Zt2 hib,ZnF,ZnC,Zn6 (by simp only[Bw]at hy;omega),←ZJ4,Zn6 (by simp only[Bw]at hy;omega)];exact j2 _ ey
   ·have hib:¬i < (wd a).length:=by have:=of_decide_eq_false h;omega
    exact j2 0 (by rw[ZJ9,ZKb (by omega)];rfl)
  unfold Ztj ZqY;dsimp only;rw[ZnO,ZnO,ZnW];refine⟨fun _=>j1,fun h=> ?_⟩;have hib:¬i < (wd a).length:=by have:=of_decide_eq_false h;omega
  rw[decide_eq_true (by rcases hmx i hlt with h |h<;>omega)];exact j1
 ·rintro rec ⟨c,o⟩ ⟨hc,hl,hd,hv⟩;dsimp only at hc hl hd hv;unfold Ztj ZqY;dsimp only;rw[ZnO,ZnO,decide_eq_false (by omega),cond_false,decide_eq_false (by omega)];unfold ZoX;rw[cond_false,ZnC];rw[ZKj hma,ZKj hmb,ZrN,ZrN]at hv;exact⟨c,o,rfl,hc,hd,hl,hv⟩
 ·rintro y ⟨c,o,rfl,hc,hd,hl,hv⟩;dsimp only;unfold Zuk;have e:iL o++[(c:Int)]=iL (o++[c]):=by rw[ZAy];rfl
  rw[Zu4 (by omega),ZnE,ZnO,e,ZnC];exact⟨Zv7 (by simp only[ZKf];omega),_,rfl,hd.app (ZyF (by unfold Bw;omega)),by simp;omega,by rw[Zvp,hl,hv]⟩
end Go.Proofs
namespace Go.Proofs
open Go Eng
theorem Zu6 (x y:Int) (hx:Wl 50000 x) (hy:Wl 50000 y):ZnG (bg x) (bg y)=some (bg (x*y)):=by unfold ZnG;have:=Zzz hx hy;rw[ZoK,ZoK,ZFK _ _ (by omega) (by omega),ZKM,Zzg _ (Zu5 _) (by omega),ZrN,ZKM,ZDO]
theorem Zz9 (x y:Int) (hx:Wl 50000 x) (hy:Wl 50000 y):Zn2 (bg x) (bg y)=some (bg (x+y)):=by
 unfold Wl at hx hy;unfold Zn2;have h1:=ZAJ hx hy;rw[ZoK,ZoK,Zxv,Zxv];have opp:decide (x < 0)≠decide (y < 0)→Zoa (iL (wd x.natAbs)) (iL (wd y.natAbs))=some (ZAR x.natAbs y.natAbs):=fun _=>ZAC _ _ (by omega) (by omega)
 by_cases hs:decide (x < 0)=decide (y < 0)
 ·obtain⟨o,ho,hd,hl,hv⟩:=ZGh x.natAbs y.natAbs (by omega) (by omega);rw[hs,beq_self_eq_true,cond_true,ho,ZKM,Zzg _ hd (by omega),hv,ZKM];congr 2
  by_cases hy0:y < 0
  ·have hx0:x < 0:=by rw[decide_eq_true hy0]at hs;exact of_decide_eq_true hs
   rw[decide_eq_true hy0,if_pos rfl];omega
  ·have hx0:¬x < 0:=by rw[decide_eq_false hy0]at hs;exact of_decide_eq_false hs
   rw[decide_eq_false hy0,if_neg (by decide)];omega
 ·rw[beq_eq_false_iff_ne.2 hs,cond_false,opp hs,ZKM];rcases ZKw x.natAbs y.natAbs with hlt |hge
  ·have:=Zsr (Nat.sub_le y.natAbs x.natAbs);rw[Zxc hlt,decide_eq_false (by omega),cond_false,ZAj _ _ (by omega) (by omega),ZKM,Zzg _ (Zu5 _) (by omega),ZrN,ZKM];congr 2
   by_cases hy0:y < 0
   ·have hx0:¬x < 0:=fun h=>hs (by rw[decide_eq_true hy0,decide_eq_true h])
    rw[decide_eq_true hy0,if_pos rfl];omega
   ·have hx0:x < 0:=Decidable.byContradiction fun h=>hs (by rw[decide_eq_false hy0,decide_eq_false h])
    rw[decide_eq_false hy0,if_neg (by decide)];omega
  ·have hn:ZAR x.natAbs y.natAbs≥0:=by
    rcases ZKw y.natAbs x.natAbs with h |h
    ·rw[ZwV h];decide
    ·rw[show x.natAbs=y.natAbs by omega,Zv8];decide
   have:=Zsr (Nat.sub_le x.natAbs y.natAbs);rw[decide_eq_true hn,cond_true,ZAj _ _ hge (by omega),ZKM,Zzg _ (Zu5 _) (by omega),ZrN,ZKM];congr 2
   by_cases hx0:x < 0
   ·have hy0:¬y < 0:=fun h=>hs (by rw[decide_eq_true hx0,decide_eq_true h])
    rw[decide_eq_true hx0,if_pos rfl];omega
   ·have hy0:y < 0:=Decidable.byContradiction fun h=>hs (by rw[decide_eq_false hx0,decide_eq_false h])
    rw[decide_eq_false hx0,if_neg (by decide)];omega
theorem ZAu (z:Int) (hz:Wl 100000 z):Zok (bg z)=some (bg (-z)):=by
 unfold Wl at hz;unfold Zok;rw[Zxv,ZoK,Zzg _ (Zu5 _) (by omega),ZrN,ZKM];congr 2
 by_cases h:z < 0
 ·rw[decide_eq_true h,if_neg (by decide)];omega
 ·rw[decide_eq_false h,if_pos (by decide)];omega
theorem Zxh (q:Rat) (h:Wq 256 q):ZnN (fOf q)=some true:=by
 have hn:=h.1;have hd:=h.2;have hd0:=q.den_nz;unfold ZnN ZoF fOf;dsimp only;rw[Zxe,ZxY _ h.1,ZKM,ZJY,cond_false,Zxe,ZxY _ h.2,ZKM,ZJY,cond_false,Zxv,decide_eq_false (by omega),cond_false,ZyG (by omega),cond_false,ZoK,ZoK,ZnO];unfold Wl at hn hd;have h1:(wd 1).length≤1:=Zxg (by decide);have hc:ZKq q.num.natAbs (q.den:Int).natAbs=1:=q.reduced
 by_cases h0:q.num=0
 ·rw[h0]at hc;have e:(q.den:Int).natAbs=1:=by rwa [show (0:Int).natAbs=0 from rfl,Nat.gcd_zero_left]at hc
  rw[h0,show (0:Int).natAbs=0 from rfl,Zt3,e,←ZAn,ZAC 1 1 (by omega) (by omega),Zv8];rfl
 ·have hl:=ZrA (n:=q.num.natAbs) (by omega);rw[beq_eq_false_iff_ne.2 (by omega),cond_false,ZDF _ _ (by omega) (by omega) (by omega) (by omega),hc,ZKM,←ZAn,ZAC 1 1 (by omega) (by omega),Zv8];rfl
theorem ZzS (x y:Int) (hy:y≠0) (hx1:Wl 50000 x) (hy1:Wl 50000 y) (hq:Wq 256 (Rat.divInt x y)):Zos (bg x) (bg y)=some (fOf (Rat.divInt x y),0):=by have h1:=hq.1;have h2:=hq.2;unfold Wl at h1 h2;unfold Zos ZqF;rw[Zzm x y hy hx1 hy1,ZKM];unfold fOf;rw[ZoK,ZoK,ZnO,ZnO,decide_eq_false (by omega),cond_false,decide_eq_false (by omega),cond_false]
theorem ZGi {a b:Rat} {k l:Nat} (ha:Sz k a) (hb:Sz l b) (hk:k+l+1≤8192):Zrw (fOf a) (fOf b)=some (fOf (a+b),0):=by
 have h1:=a.den_nz;have h2:=b.den_nz;have qa:=ha.wq (by omega);have qb:=hb.wq (by omega);have w:∀{x y:Int},Wl 256 x→Wl 256 y→Wl 512 (x*y):=fun hx hy=>by unfold Wl;rw[ZJ1];exact Zzz hx hy
 have m:∀{n:Nat} {x:Int},Wl n x→n≤50000→Wl 50000 x:=fun h h'=>ZKt h h'
 have w1:=w qa.1 qb.2;have w2:=w qb.1 qa.2;have w3:=w qa.2 qb.2;have w4:Wl 513 (a.num*(b.den:Int)+b.num*(a.den:Int)):=ZKt (Zsr (ZJ0 _ _)) (ZAJ w1 w2);have hd:(a.den:Int)*(b.den:Int)≠0:=ZJZ (by omega) (by omega);unfold Zrw Zr6;rw[Zxh a qa,ZKM,ZJY,cond_false,Zxh b qb,ZKM,ZJY,cond_false];show ((ZnG (bg a.num) (bg (b.den:Int))).bind fun q=>(ZnG (bg b.num) (bg (a.den:Int))).bind fun q_1=>(Zn2 q q_1).bind fun q_2=>(ZnG (bg (a.den:Int)) (bg (b.den:Int))).bind _)=_;rw[Zu6 _ _ (m qa.1 (by omega)) (m qb.2 (by omega)),ZKM,Zu6 _ _ (m qb.1 (by omega)) (m qa.2 (by omega)),ZKM,Zz9 _ _ (m w1 (by omega)) (m w2 (by omega)),ZKM,Zu6 _ _ (m qa.2 (by omega)) (m qb.2 (by omega)),ZKM];have hw:Wq 256 (Rat.divInt (a.num*(b.den:Int)+b.num*(a.den:Int)) ((a.den:Int)*(b.den:Int))):=by rw[ZyI];exact(ha.add hb).wq hk
 rw[ZzS _ _ hd (m w4 (by omega)) (m w3 (by omega)) hw,ZyI,ZKM]
theorem ZBn {a b:Rat} {k l:Nat} (ha:Sz k a) (hb:Sz l b) (hk:k+l+1≤8192):Zo0 (fOf a) (fOf b)=some (fOf (a+b)):=by unfold Zo0;rw[ZGi ha hb hk];rfl
theorem ZF7 {a b:Rat} (qa:Wq 256 a) (qb:Wq 256 b):Zrv (fOf a) (fOf b)=some (ZD8 a b):=by
 have w:∀{x y:Int},Wl 256 x→Wl 256 y→Wl 50000 (x*y):=fun hx hy=>by unfold Wl;rw[ZJ1];exact ZKt (Zzz hx hy) (by decide)
 have m:∀{x:Int},Wl 256 x→Wl 50000 x:=fun h=>ZKt h (by decide)
 unfold Zrv Zr5;rw[Zxh a qa,ZKM,ZJY,cond_false,Zxh b qb,ZKM,ZJY,cond_false];show ((ZnG (bg a.num) (bg (b.den:Int))).bind fun q=>(ZnG (bg b.num) (bg (a.den:Int))).bind _)=_;rw[Zu6 _ _ (m qa.1) (m qb.2),ZKM,Zu6 _ _ (m qb.1) (m qa.2),ZKM,ZAu _ (ZKt (w qb.1 qa.2) (by decide)),ZKM];have w2:Wl 50000 (-(b.num*(a.den:Int))):=by unfold Wl;rw[ZJ3];exact w qb.1 qa.2
 rw[Zz9 _ _ (w qa.1 qb.2) w2,ZKM,Zxv,ZoK,ZnO];unfold ZD8;have h1:=ZAb a b;have h2:=ZAb b a;generalize a.num*(b.den:Int)=x at*
 generalize b.num*(a.den:Int)=y at*
 by_cases hl:a < b
 ·have hlt:=h1.1 hl;have:=ZrA (n:=(x+ -y).natAbs) (by omega);rw[if_pos hl,beq_eq_false_iff_ne.2 (by omega),cond_false,decide_eq_true (by omega),cond_true]
 ·have hn:¬x < y:=fun h=>hl (h1.2 h)
  rw[if_neg hl]
  by_cases hg:b < a
  ·have hlt:=h2.1 hg;have:=ZrA (n:=(x+ -y).natAbs) (by omega);rw[if_pos hg,beq_eq_false_iff_ne.2 (by omega),cond_false,decide_eq_false (by omega),cond_false]
  ·have hn2:¬y < x:=fun h=>hg (h2.2 h)
   rw[if_neg hg,show x+ -y=0 by omega,show (0:Int).natAbs=0 from rfl,Zt3];rfl
theorem ZDx {a b:Rat} (qa:Wq 256 a) (qb:Wq 256 b):ZqN (fOf a) (fOf b)=some (decide (a < b)):=by
 unfold ZqN;rw[ZF7 qa qb,ZKM];unfold ZD8
 by_cases h:a < b
 ·rw[if_pos h,decide_eq_true h];rfl
 ·rw[if_neg h,decide_eq_false h];split<;>rfl
theorem Zzw:ZnS=some (fOf 0):=by unfold ZnS;rw[ZAc 0 (by decide) (by decide),ZKM];rfl
end Go.Proofs
namespace Go.Proofs
open Go Eng
theorem ZAM (a b:Rat):Rat.divInt (a.num*(b.den:Int)+ -(b.num*(a.den:Int))) ((a.den:Int)*(b.den:Int))=a - b:=by have:=ZyI a (-b);rw[show (-b).num= -b.num from rfl,show (-b).den=b.den from rfl,Int.neg_mul]at this;rw[this,Rat.sub_eq_add_neg]
theorem Sz.sub {a b:Rat} {k l:Nat} (ha:Sz k a) (hb:Sz l b):Sz (k+l+1) (a - b):=by rw[Rat.sub_eq_add_neg];exact ha.add hb.neg
theorem ZFs {a b:Rat} {k l:Nat} (ha:Sz k a) (hb:Sz l b) (hk:k+l+1≤8192):Zrt (fOf a) (fOf b)=some (fOf (a - b),0):=by
 have h1:=a.den_nz;have h2:=b.den_nz;have qa:=ha.wq (by omega);have qb:=hb.wq (by omega);have w:∀{x y:Int},Wl 256 x→Wl 256 y→Wl 512 (x*y):=fun hx hy=>by unfold Wl;rw[ZJ1];exact Zzz hx hy
 have m:∀{n:Nat} {x:Int},Wl n x→n≤50000→Wl 50000 x:=fun h h'=>ZKt h h'
 have w1:=w qa.1 qb.2;have w2:=w qb.1 qa.2;have w2':Wl 512 (-(b.num*(a.den:Int))):=by unfold Wl;rw[ZJ3];exact w2
 have w3:=w qa.2 qb.2;have w4:Wl 513 (a.num*(b.den:Int)+ -(b.num*(a.den:Int))):=ZKt (Zsr (ZJ0 _ _)) (ZAJ w1 w2');have hd:(a.den:Int)*(b.den:Int)≠0:=ZJZ (by omega) (by omega);unfold Zrt Zr3;rw[Zxh a qa,ZKM,ZJY,cond_false,Zxh b qb,ZKM,ZJY,cond_false];show ((ZnG (bg a.num) (bg (b.den:Int))).bind fun q=>(ZnG (bg b.num) (bg (a.den:Int))).bind fun q_1=>(Zok q_1).bind fun q_2=>(Zn2 q q_2).bind fun q_3=>(ZnG (bg (a.den:Int)) (bg (b.den:Int))).bind _)=_;rw[Zu6 _ _ (m qa.1 (by omega)) (m qb.2 (by omega)),ZKM,Zu6 _ _ (m qb.1 (by omega)) (m qa.2 (by omega)),ZKM,ZAu _ (ZKt w2 (by decide)),ZKM,Zz9 _ _ (m w1 (by omega)) (m w2' (by omega)),ZKM,Zu6 _ _ (m qa.2 (by omega)) (m qb.2 (by omega)),ZKM];have hw:Wq 256 (Rat.divInt (a.num*(b.den:Int)+ -(b.num*(a.den:Int))) ((a.den:Int)*(b.den:Int))):=by rw[ZAM];exact(ha.sub hb).wq hk
 rw[ZzS _ _ hd (m w4 (by omega)) (m w3 (by omega)) hw,ZAM,ZKM]
theorem ZF3 {a b:Rat} {k l:Nat} (hb0:b≠0) (ha:Sz k a) (hb:Sz l b) (hk:k+l≤8192):Zru (fOf a) (fOf b)=some (fOf (a / b),0):=by
 have h1:=a.den_nz;have h2:=b.den_nz;have hn:b.num≠0:=fun h=>hb0 (Rat.num_eq_zero.1 h)
 have qa:=ha.wq (by omega);have qb:=hb.wq (by omega);have w:∀{x y:Int},Wl 256 x→Wl 256 y→Wl 512 (x*y):=fun hx hy=>by unfold Wl;rw[ZJ1];exact Zzz hx hy
 have m:∀{n:Nat} {x:Int},Wl n x→n≤50000→Wl 50000 x:=fun h h'=>ZKt h h'
 have w1:=w qa.1 qb.2;have w3:=w qa.2 qb.1;have hd:(a.den:Int)*b.num≠0:=ZJZ (by omega) hn;unfold Zru Zr4;rw[Zxh a qa,ZKM,ZJY,cond_false,Zxh b qb,ZKM,ZJY,cond_false];show (bif (((bg b.num).Words.length:Int) == 0)then _ else (ZnG (bg a.num) (bg (b.den:Int))).bind fun q=>(ZnG (bg (a.den:Int)) (bg b.num)).bind _)=_;rw[ZyG hn,cond_false,Zu6 _ _ (m qa.1 (by omega)) (m qb.2 (by omega)),ZKM,Zu6 _ _ (m qa.2 (by omega)) (m qb.1 (by omega)),ZKM];have hw:Wq 256 (Rat.divInt (a.num*(b.den:Int)) ((a.den:Int)*b.num)):=by rw[Zzn];exact(Sz.div hb0 ha hb).wq hk
 rw[ZzS _ _ hd (m w1 (by omega)) (m w3 (by omega)) hw,Zzn,ZKM]
theorem ZA8 {a b:Rat} {k l:Nat} (ha:Sz k a) (hb:Sz l b) (hk:k+l+1≤8192):ZoZ (fOf a) (fOf b)=some (fOf (a - b)):=by unfold ZoZ;rw[ZFs ha hb hk];rfl
theorem ZEv {a b:Rat} {k l:Nat} (hb0:b≠0) (ha:Sz k a) (hb:Sz l b) (hk:k+l≤8192):Zro (fOf a) (fOf b)=some (fOf (a / b)):=by unfold Zro;rw[ZF3 hb0 ha hb hk];rfl
def ZC9 (x:Rat):Rat:=if x < 0 then 0 - x else x
theorem ZEE {a:Rat} {k:Nat} (ha:Sz k a) (hk:k+2≤8192):Zrp (fOf a)=some (fOf (ZC9 a)):=by
 unfold Zrp ZC9;rw[Zzw,ZKM,ZDx (ha.wq (by omega)) (Zy3.wq (by omega)),ZKM]
 by_cases h:a < 0
 ·rw[decide_eq_true h,cond_true,if_pos h,ZKM,ZA8 Zy3 ha (by omega),ZKM]
 ·rw[decide_eq_false h,cond_false,if_neg h]
end Go.Proofs
namespace Go.Proofs
open Go Eng
theorem ZEC:∀x y:Str,Op.bytesLess x y=decide (x < y)
 |x,[]=>by
  have:¬x < []:=by simp
  rw[decide_eq_false this];cases x<;>rfl
 | [],b::y=>by
  have:([]:Str) < b::y:=by simp
  rw[decide_eq_true this];rfl
 |a::x,b::y=>by rw[Op.bytesLess,ZEC x y,Bool.eq_iff_iff];simp only[Bool.or_eq_true,ZHb,decide_eq_true_eq,beq_iff_eq];rw[List.cons_lt_cons_iff]
def Srt (l:List Str):Prop:=l.Pairwise (fun a b=>a≤b)∧l.Nodup
theorem ZA9 (l:List Str):Srt (Zs5 l):=⟨Zzj l,Zw3 l⟩
theorem ZAN {l:List Str} (h:Srt l) {i j:Nat} (hij:i < j) (hj:j < l.length):l[i] < l[j]:=by
 have h1:=List.pairwise_iff_getElem.1 h.1 i j (by omega) hj hij;have h2:=List.pairwise_iff_getElem.1 h.2 i j (by omega) hj hij;rcases List.le_iff_lt_or_eq.1 h1 with h3 |h3
 ·exact h3
 ·exact absurd h3 h2
theorem ZFN (x y:Str):ZuN x y=some (decide (x < y)):=by unfold ZuN Zt0 ZsJ;rw[show (x == x)=true by simp];rw[←ZEC];rfl
theorem ZHl {i j:Nat} (h:i+j≤4611686018427387904):IntKind.wrap .i64 (shrK .u64 (IntKind.wrap .u64 ((i:Int)+(j:Int))) 1)=(((i+j) / 2:Nat):Int):=by rw[show (i:Int)+(j:Int)=((i+j:Nat):Int) by omega,Zn6 (by omega),show (1:Int)=((1:Nat):Int)from rfl,Zys 1 (by decide),wrap_i64 (by omega)]
theorem ZDk {xs:List Str} (hs:Srt xs) (hl:xs.length≤1000000000000) (t:Str):wp (Zoi xs t) (fun r=>r.2=xs.contains t):=by
 unfold Zoi;rw[ZnF];refine ZnR (Zwt Zvm (fun(s:Nat×Nat)=>(xs,t,(xs.length:Int),(s.1:Int),(s.2:Int)))
  (fun s=>(s.1≤s.2∧s.2≤xs.length)∧(∀k (h:k < xs.length),k < s.1→xs[k] < t)∧(∀k (h:k < xs.length),s.2≤k→¬xs[k] < t)) (fun s=>s.2 - s.1)
  (Q:=fun x=>∃i:Nat,x=(xs,t,(xs.length:Int),(i:Int))∧i≤xs.length∧(∀k (h:k < xs.length),k < i→xs[k] < t)∧(∀k (h:k < xs.length),i≤k→¬xs[k] < t)) (0,xs.length) ⟨⟨Nat.zero_le _,ZKs _⟩,fun k _ h=>absurd h (Nat.not_lt_zero _),fun k h h'=>absurd h (by dsimp only at h';omega)⟩ (by dsimp only;omega) ?_) ?_
 ·rintro rec ⟨i,j⟩ ⟨⟨h1,h2⟩,hlo,hhi⟩ ih;dsimp only at h1 h2 hlo hhi ih⊢
  unfold ZrP Zpg;dsimp only;rw[ZHl (by omega)];rw[ZnW];refine⟨fun h=> ?_,fun h=> ?_⟩
  ·simp only[decide_eq_true_eq]at h;have hij:i < j:=by omega
   have hm:(i+j) / 2 < xs.length:=by omega
   rw[ZnE,ZnE];refine⟨ZnI (by omega),by decide, ?_⟩;rw[Zur hm,ZKM,ZFN,ZKM,ZnW];refine⟨fun hc=> ?_,fun hc=> ?_⟩
   ·simp only[decide_eq_true_eq]at hc;rw[ZnE];refine⟨ZnI (by omega), ?_⟩;have:=ih ((i+j) / 2+1,j) ⟨⟨by dsimp only;omega,h2⟩,fun k hk hlt=> ?_,hhi⟩ (by dsimp only;omega)
    ·dsimp only at this
     rwa [show (((i+j) / 2+1:Nat):Int)=(((i+j) / 2:Nat):Int)+1 by omega]at this
    ·dsimp only at hlt;rcases ZKw k ((i+j) / 2)with h3 |h3
     ·exact List.lt_trans (ZAN hs h3 hm) hc
     ·obtain rfl:k=(i+j) / 2:=by omega
      exact hc
   ·simp only[decide_eq_false_iff_not]at hc;refine ih (i,(i+j) / 2) ⟨⟨by dsimp only;omega,by dsimp only;omega⟩,hlo,fun k hk hle=> ?_⟩ (by dsimp only;omega);dsimp only at hle;rcases ZKw ((i+j) / 2) k with h3 |h3
    ·exact fun h4=>hc (List.lt_trans (ZAN hs h3 hk) h4)
    ·obtain rfl:k=(i+j) / 2:=by omega
     exact hc
  ·simp only[decide_eq_false_iff_not]at h;obtain rfl:i=j:=by omega
   rw[ZnC];exact⟨i,rfl,h2,hlo,hhi⟩
 ·rintro x ⟨i,rfl,hi,hlo,hhi⟩;dsimp only;unfold ZpH ZnV;have key:xs.contains t=true↔∃h:i < xs.length,xs[i]=t:=by
   rw[List.contains_iff_mem];constructor
   ·intro hm;obtain⟨k,hk,hkt⟩:=List.getElem_of_mem hm;have h1:i≤k:=by
     rcases ZKw k i with h |h
     ·have:=hlo k hk h;rw[hkt]at this;exact absurd this (List.lt_irrefl t)
     ·exact h
    rcases ZKw i k with h |h
    ·have h2:=ZAN hs h hk;rw[hkt]at h2;exact absurd h2 (hhi i (by omega) (ZKs _))
    ·obtain rfl:i=k:=by omega
     exact⟨hk,hkt⟩
   ·rintro⟨h,rfl⟩;exact List.getElem_mem h
  rw[ZnW];refine⟨fun h=> ?_,fun h=> ?_⟩
  ·simp only[decide_eq_true_eq]at h;have hi':i < xs.length:=by omega
   rw[Zur hi',ZKM,ZnW];refine⟨fun hc=> ?_,fun hc=> ?_⟩
   ·rw[ZnC];exact(key.2 ⟨hi',by simpa using hc⟩).symm
   ·have hn:xs.contains t=false:=by rw[Bool.eq_false_iff];intro h3;obtain⟨_,h4⟩:=key.1 h3;rw[h4]at hc;simp at hc
    rw[ZKM];unfold Zsh;rw[ZKM,show (xs[i] == xs[i])=true by simp,ZJY,cond_false,ZnC,hn]
  ·simp only[decide_eq_false_iff_not]at h;rw[ZnC]
   symm
   rw[Bool.eq_false_iff];intro h3;obtain⟨h4,_⟩:=key.1 h3;omega
def comm (a b:List Str):Nat:=(a.filter fun x=>b.contains x).length
theorem ZzY (a b:List Str):comm a b≤a.length:=List.length_filter_le _ _
theorem ZDj {a b:List Str} (hb:Srt b) (hla:a.length≤1000000000000) (hlb:b.length≤1000000000000):Ztm a b=some (comm a b:Int):=by
 refine Zpf ?_;unfold Ztm;rw[ZnF];refine ZnR (ZqI Zyt a.length (by omega) (fun i (n:Nat)=>(b,(n:Int),a,(a.length:Int),i)) (fun i n=>n=comm (a.take i) b)
  (Q:=fun x=>x=(comm a b:Int)) 0 (by simp[comm]) ?_ ?_) ?_
 ·rintro rec i n hi rfl ih;unfold ZuG Zsl;dsimp only;rw[decide_eq_true (show (i:Int) < (a.length:Int) by omega),cond_true,Zur hi,ZKM,ZnF];refine ZnR (ZDk hb hlb _) fun⟨q,ok⟩ hok=> ?_
  dsimp only at hok⊢
  have hc:comm (a.take (i+1)) b=comm (a.take i) b+(if b.contains a[i]then 1 else 0):=by unfold comm;rw[ZKk hi,List.filter_append,List.length_append];congr 1;cases h:b.contains a[i]<;>(simp only[List.filter_cons,h,List.filter_nil];rfl)
  have hle:=ZzY (a.take i) b;rw[ZKg]at hle;have hk:inK .i64 ((i:Int)+1)=true:=ZnI (by omega);unfold Zty;rw[ZnW];refine⟨fun h=> ?_,fun h=> ?_⟩
  ·rw[ZnE,ZnE];refine⟨ZnI (by omega),hk, ?_⟩;have:=ih (comm (a.take i) b+1) (by rw[hc,←hok,h];rfl)
   rwa [show ((comm (a.take i) b+1:Nat):Int)=(comm (a.take i) b:Int)+1 by omega]at this
  ·rw[ZnE];exact⟨hk,ih (comm (a.take i) b) (by rw[hc,←hok,h];rfl)⟩
 ·rintro rec n rfl;unfold ZuG Zsl;dsimp only;rw[decide_eq_false (show ¬(a.length:Int) < (a.length:Int) by omega),cond_false,ZnC,ZKi]
 ·rintro x rfl;unfold Zvn;rw[ZnC]
end Go.Proofs
namespace Go.Proofs
open Go Eng
theorem ZAf {σ τ X:Type} {f:Nat→σ→Option X} {body:(σ→Option X)→σ→Option X} (hf:∀n s,f (n+1) s=body (f n) s)
  (st:τ→σ) (P:τ→Prop) (m:τ→Nat) {Q:X→Prop} (t0:τ) (h0:P t0) (hm:m t0≤9223372036854775808)
  (step:∀(rec:σ→Option X) t,P t→(∀t',P t'→m t' < m t→wp (rec (st t')) Q)→wp (body rec (st t)) Q):wp (f big (st t0)) Q:=by
 have key:∀(n:Nat) t,P t→m t < n→wp (f n (st t)) Q:=by
  intro n
  induction n with
  |zero=>intro t _ h;omega
  |succ n ih=>
   intro t hP hm;rw[hf];exact step _ t hP fun t' h' hlt=>ih t' h' (by omega)
 exact key big t0 h0 (by rw[big_eq];omega)
def isD (b:UInt8):Bool:=decide (48≤b.toNat)&&decide (b.toNat≤57)
def ZBa:Str→Bool×Str
 | []=>(false,[])
 |b::r=>bif b == 45 then (true,r)else bif b == 43 then (false,r)else (false,b::r)
def okD (s:Str) (m:Nat):Bool:=decide (1≤s.length)&&decide (s.length≤m)&&s.all isD
def Zyl (body:Str):Option (Str×Str):=
 bif decide (1≤(body.takeWhile isD).length)&&decide ((body.takeWhile isD).length≤15)then
  (match body.dropWhile isD with
  | []=>some (body.takeWhile isD,[])
  |c::p=>bif c == 46&&okD p 9 then some (body.takeWhile isD,p)else none)
 else none
def ZyP (t:Str):Option (Bool×Str×Str):=(Zyl (ZBa t).2).map fun x=>((ZBa t).1,x.1,x.2)
def n46 (b:UInt8):Bool:=b != 46
theorem Zz7 {p:UInt8→Bool}:∀(F R:Str),F.all p=true→(∀b r,R=b::r→p b=false)→(F++R).takeWhile p=F∧(F++R).dropWhile p=R
 | [],[],_,_=>⟨rfl,rfl⟩
 | [],b::r,_,h=>by have:=h b r rfl;simp[List.takeWhile,List.dropWhile,this]
 |x::F,R,h,hR=>by rw[ZJ6,ZHb]at h;obtain⟨h1,h2⟩:=Zz7 F R h.2 hR;rw[List.cons_append,List.takeWhile_cons,ZJ8,h.1,if_pos rfl,if_pos rfl,h1,h2];exact⟨rfl,rfl⟩
theorem ZEJ (p:UInt8→Bool):∀l:Str,(l.takeWhile p).all p=true
 | []=>rfl
 |x::l=>by
  rw[List.takeWhile_cons];cases h:p x with
  |true=>simp only[if_true,ZJ6,h,Bool.true_and];exact ZEJ p l
  |false=>rfl
theorem ZBk (p:UInt8→Bool):∀(l:Str) b r,l.dropWhile p=b::r→p b=false
 | [],b,r,h=>by simp at h
 |x::l,b,r,h=>by
  rw[ZJ8]at h;cases hx:p x with
  |true=>rw[hx,if_pos rfl]at h;exact ZBk p l b r h
  |false=>rw[hx,if_neg (by simp)]at h;simp only[List.cons.injEq]at h;rw[←h.1];exact hx
theorem ZFU {b:UInt8} (h:isD b=true):n46 b=true:=by unfold n46;rw[bne_iff_ne];rintro rfl;exact absurd h (by decide)
theorem ZGg {l:Str} (h:l.all isD=true):l.all n46=true:=ZJ7.2 fun b hb=>ZFU (ZJ7.1 h b hb)
theorem ZAt {b:UInt8} (h:n46 b=false):b=46:=by unfold n46 at h;simpa using h
theorem ZzF (body:Str):Zyl body=bif okD (body.takeWhile n46) 15&&((body.dropWhile n46).isEmpty||okD (body.dropWhile n46).tail 9)then some (body.takeWhile n46,(body.dropWhile n46).tail)else none:=by
 have hsp:body.takeWhile n46++body.dropWhile n46=body:=ZKh;cases hall:(body.takeWhile n46).all isD with
 |true=>
  have hs:=Zz7 (p:=isD) (body.takeWhile n46) (body.dropWhile n46) hall (fun b r e=>by rw[ZAt (ZBk n46 body b r e)];decide)
  rw[hsp]at hs;unfold Zyl;rw[hs.1,hs.2];have e:okD (body.takeWhile n46) 15=(decide (1≤(body.takeWhile n46).length)&&decide ((body.takeWhile n46).length≤15)):=by unfold okD;rw[hall,Bool.and_true]
  rw[e];cases (decide (1≤(body.takeWhile n46).length)&&decide ((body.takeWhile n46).length≤15))with
  |false=>rfl
  |true=>
   rw[cond_true,Bool.true_and];cases hR:body.dropWhile n46 with
   |nil=>rfl
   |cons c p=>
    rw[ZAt (ZBk n46 body c p hR)];rfl
 |false=>
  have e:okD (body.takeWhile n46) 15=false:=by unfold okD;rw[hall,Bool.and_false]
  rw[e,Bool.false_and,cond_false];have hsp2:body.takeWhile isD++body.dropWhile isD=body:=ZKh;have hD:=ZEJ isD body;unfold Zyl;cases (decide (1≤(body.takeWhile isD).length)&&decide ((body.takeWhile isD).length≤15))with
  |false=>rfl
  |true=>
   rw[cond_true];have key:(∀b r,body.dropWhile isD=b::r→b=46)→False:=fun h46=>by have hs:=Zz7 (p:=n46) (body.takeWhile isD) (body.dropWhile isD) (ZGg hD) (fun b r e=>by rw[h46 b r e];decide);rw[hsp2]at hs;rw[hs.1,hD]at hall;cases hall
   cases hR:body.dropWhile isD with
   |nil=>exact(key fun b r e=>by rw[hR]at e;cases e).elim
   |cons c p=>
    dsimp only;cases hc:c == 46 with
    |false=>rfl
    |true=>exact(key fun b r e=>by rw[hR]at e;simp only[List.cons.injEq]at e;rw[←e.1];exact eq_of_beq hc).elim
def Zy9 (l:Str):Nat:=l.foldl (fun n b=>10*n+(b.toNat - 48)) 0
theorem ZBL (l:Str) (b:UInt8):Zy9 (l++[b])=10*Zy9 l+(b.toNat - 48):=by unfold Zy9;rw[List.foldl_append];rfl
theorem ZFE {l:Str} (h:l.all isD=true):Zy9 l < 10 ^ l.length:=by
 have key:∀(l:Str) (n k:Nat),l.all isD=true→n < 10 ^ k→l.foldl (fun n b=>10*n+(b.toNat - 48)) n < 10 ^ (k+l.length):=by
  intro l
  induction l with
  |nil=>intro n k _ h;exact h
  |cons b l ih=>
   intro n k hb hn;rw[ZJ6,ZHb]at hb;have hd:=hb.1;unfold isD at hd;simp only[ZHb,decide_eq_true_eq]at hd;have:=ih (10*n+(b.toNat - 48)) (k+1) hb.2 (by rw[ZKH];omega);rw[List.foldl_cons,ZKd]
   rwa [show k+1+l.length=k+(l.length+1) by omega]at this
 have:=key l 0 0 h (by decide)
 rwa [ZKL]at this
def ZHP (x:Bool×Str×Str):Rat:=Rat.divInt (if x.1 then -((Zy9 (x.2.1++x.2.2):Nat):Int)else ((Zy9 (x.2.1++x.2.2):Nat):Int)) ((10 ^ x.2.2.length:Nat):Int)
structure ZBo (D P:Str):Prop where
 d1:1≤D.length
 d2:D.length≤15
 p:P.length≤9
 dd:D.all isD=true
 pp:P.all isD=true
theorem Zyb {body D P:Str} (h:Zyl body=some (D,P)):ZBo D P:=by
 rw[ZzF]at h;cases hc:(okD (body.takeWhile n46) 15&&((body.dropWhile n46).isEmpty||okD (body.dropWhile n46).tail 9))with
 |false=>rw[hc,cond_false]at h;cases h
 |true=>
  rw[hc,cond_true]at h;simp only[Option.some.injEq,Prod.mk.injEq]at h;obtain⟨rfl,rfl⟩:=h;rw[ZHb]at hc;obtain⟨h1,h2⟩:=hc;unfold okD at h1;simp only[ZHb,decide_eq_true_eq]at h1;cases hR:body.dropWhile n46 with
  |nil=>exact⟨h1.1.1,h1.1.2,by simp,h1.2,by simp⟩
  |cons c p=>
   rw[hR]at h2;simp only[List.isEmpty_cons,Bool.false_or,List.tail_cons]at h2⊢
   unfold okD at h2;simp only[ZHb,decide_eq_true_eq]at h2;exact⟨h1.1.1,h1.1.2,h2.1.2,h1.2,h2.2⟩
theorem ZzE {k:Nat} (h:k≤24):10 ^ k < 2 ^ 80:=ZKu (ZKG (by decide) h) (by decide)
theorem ZzJ {l:Str} (h:l.all isD=true) (hl:l.length≤24):Zy9 l < 2 ^ 80:=Nat.lt_trans (ZFE h) (ZzE hl)
theorem ZEH {n:Nat} (h:n < 2 ^ 80):(wd n).length≤3:=ZAe h 3 (by decide)
end Go.Proofs
namespace Go.Proofs
open Go Eng
theorem Zz3 (s:Str) (c:UInt8):Zoc s [c]=some (match s with |b::_=>b == c | []=>false):=by
 unfold Zoc ZoO;cases s with
 |nil=>rfl
 |cons b r=>
  rw[decide_eq_true (show ((b::r).length:Int)≥(([c]:Str).length:Int) by simp only[ZKd,ZKe];omega),cond_true,ZpY (by simp only[ZKd,ZKe];omega),chk_true];simp
theorem ZBQ (s:Str) (c:UInt8):Ztl s [c]=some (match s with |b::r=>bif b == c then (r,true)else (b::r,false) | []=>([],false)):=by
 unfold Ztl Zpn;rw[Zz3];cases s with
 |nil=>rfl
 |cons b r=>
  rw[ZKM];dsimp only;cases hb:b == c with
  |false=>rfl
  |true=>
   rw[ZJY,cond_false,ZpY (by simp only[ZKd,ZKe];omega),chk_true];rfl
theorem ZzB (s:Str) (c:UInt8):ZsG s [c]=some (match s with |b::r=>bif b == c then r else b::r | []=>[]):=by
 unfold ZsG Zpb;rw[Zz3];cases s with
 |nil=>rfl
 |cons b r=>
  rw[ZKM];dsimp only;cases hb:b == c with
  |false=>rfl
  |true=>
   rw[cond_true,ZpY (by simp only[ZKd,ZKe];omega),chk_true];rfl
theorem ZDB:∀s:Str,Lib.indexByte s 46=if s.dropWhile n46=[]then -1 else ((s.takeWhile n46).length:Int)
 | []=>rfl
 |b::s=>by
  rw[Lib.indexByte,ZDB s,ZJ8,List.takeWhile_cons];cases h:n46 b with
  |false=>
   rw[ZAt h];simp
  |true=>
   have hb:(b == 46)=false:=by unfold n46 at h;simpa using h
   simp only[hb,Bool.false_eq_true,if_false,if_true]
   by_cases hd:s.dropWhile n46=[]
   ·simp[hd]
   ·simp only[hd,if_false];rw[if_neg (by simp),ZKd];omega
theorem ZjU {s:Str} (hl:s.length≤9223372036854775807):Zwb s [46]=some (s.takeWhile n46,(s.dropWhile n46).tail, !(s.dropWhile n46).isEmpty):=by
 have hsp:s.takeWhile n46++s.dropWhile n46=s:=ZKh;have hidx:Zpc s [46]=some (Lib.indexByte s 46):=by
  unfold Zpc ZpI Zpm;rw[show ((([46]:Str).length:Int) == 0)=false from rfl,cond_false]
  by_cases h:([46]:Str)=s
  ·subst h;rfl
  ·rw[show (([46]:Str) == s)=false by simpa using h,cond_false];rfl
 unfold Zwb Zrj;rw[hidx,ZKM,ZDB];cases hR:s.dropWhile n46 with
 |nil=>
  rw[hR,List.append_nil]at hsp;rw[if_pos rfl,show decide ((-1:Int)≥0)=false from rfl,cond_false,ZKM,hsp];rfl
 |cons c p=>
  have hlen:(s.takeWhile n46).length+(p.length+1)=s.length:=by have:=congrArg List.length hsp;rw[List.length_append,hR,ZKd]at this;exact this
  rw[if_neg (by simp),decide_eq_true (show ((s.takeWhile n46).length:Int)≥0 by omega),cond_true,ZpY (by omega),ZnI (by simp only[ZKd,ZKe];omega),ZpY (by simp only[ZKd,ZKe];omega)];simp only[chk_true,ZKM];have e1:s.take ((((s.takeWhile n46).length:Nat):Int)).toNat=s.takeWhile n46:=by
   rw[ZJ5]
   conv=>lhs;rw[←hsp]
   rw[List.take_left' (by rw[hsp])]
  have e2:s.drop ((((s.takeWhile n46).length:Nat):Int)+(([46]:Str).length:Int)).toNat=p:=by
   rw[show ((((s.takeWhile n46).length:Nat):Int)+(([46]:Str).length:Int)).toNat=(s.takeWhile n46).length+1 by simp only[ZKd,ZKe];omega]
   conv=>lhs;rw[←hsp,hR]
   rw[show (s.takeWhile n46++c::p).takeWhile n46=s.takeWhile n46 by rw[←hR,hsp]];rw[←List.drop_drop,List.drop_left' rfl];rfl
  rw[e1,e2];rfl
theorem dset:((List.range 256).all fun n=>([48,49,50,51,52,53,54,55,56,57]:Str).contains n.toUInt8 == isD n.toUInt8)=true:=by decide+kernel
theorem ZF2 (b:UInt8):([48,49,50,51,52,53,54,55,56,57]:Str).contains b=isD b:=by have:=ZJ7.1 dset b.toNat (List.mem_range.2 b.toNat_lt);rw[show b.toNat.toUInt8=b from UInt8.ofNat_toNat]at this;exact eq_of_beq this
theorem Zwf {p:UInt8→Bool}:∀l:Str,l.dropWhile p=[]↔l.all p=true
 | []=>by simp
 |b::l=>by
  rw[ZJ8,ZJ6];cases h:p b with
  |true=>rw[if_pos rfl,Bool.true_and];exact Zwf l
  |false=>simp
theorem ZEd (s cs:Str):(Lib.trimS s cs == [])=s.all (cs.contains ·):=by
 rw[Bool.eq_iff_iff,beq_iff_eq];unfold Lib.trimS Lib.trimLeftS Lib.trimRightS;rw[Zwf];constructor
 ·intro h;have h1:(s.reverse.dropWhile (cs.contains ·)).all (cs.contains ·)=true:=by rw[←List.all_reverse];exact h
  have h2:s.reverse.dropWhile (cs.contains ·)=[]:=by
   cases he:s.reverse.dropWhile (cs.contains ·)with
   |nil=>rfl
   |cons b r=>
    have h3:=ZBk (cs.contains ·) _ b r he;rw[he,ZJ6,h3]at h1;cases h1
  rw[Zwf,List.all_reverse]at h2;exact h2
 ·intro h;have h2:s.reverse.dropWhile (cs.contains ·)=[]:=by rw[Zwf,List.all_reverse];exact h
  rw[h2];rfl
theorem ZBP (s:Str) (m:Nat):Zs4 s (m:Int)=some (okD s m):=by
 unfold Zs4 ZsI okD Zwx
 by_cases h1:1≤s.length
 ·rw[decide_eq_true (show (s.length:Int)≥1 by omega),cond_true,decide_eq_true h1]
  by_cases h2:s.length≤m
  ·rw[decide_eq_true (show (s.length:Int)≤(m:Int) by omega),cond_true,decide_eq_true h2];rw[show (([48,49,50,51,52,53,54,55,56,57]:Str).all fun b=>decide (b.toNat < 128))=true from by decide,chk_true,show decide (([48,49,50,51,52,53,54,55,56,57]:Str).length < 4294967281)=true from by decide,chk_true,ZKM,ZEd];rw[show (fun b:UInt8=>([48,49,50,51,52,53,54,55,56,57]:Str).contains b)=isD from funext ZF2];rfl
  ·rw[decide_eq_false (show ¬(s.length:Int)≤(m:Int) by omega),cond_false,decide_eq_false h2];rfl
 ·rw[decide_eq_false (show ¬(s.length:Int)≥1 by omega),cond_false,decide_eq_false h1];rfl
def zf:ZnA:=ZnA.mk (ZnB.mk false []) (ZnB.mk false [])
theorem ZG4:([10]:List Int)=iL (wd 10):=by kernel_rfl
theorem ZFC:([1]:List Int)=iL (wd 1):=by kernel_rfl
theorem ZFI:([]:List Int)=iL (wd 0):=by kernel_rfl
theorem ZC3 {b:UInt8} (h:isD b=true):IntKind.wrap .u64 (IntKind.wrap .u8 (((b.toNat:Nat):Int) - 48))=((b.toNat - 48:Nat):Int):=by unfold isD at h;simp only[ZHb,decide_eq_true_eq]at h;rw[wrap_u8 (by omega),wrap_u64 (by omega)];omega
theorem ZET {neg:Bool} {D P:Str} (h:ZBo D P):Zqy neg D P false false false [] []=some (fOf (ZHP (neg,D,P)),true):=by
 have hd1:=h.d2;have hp1:=h.p;have hall:(D++P).all isD=true:=by rw[List.all_append,h.dd,h.pp];rfl
 have hlen:(D++P).length≤24:=by rw[List.length_append];omega
 refine Zpf ?_;unfold Zqy;rw[cond_false,ZFC,ZCK _ (by have:=ZEH (n:=1) (by decide);omega),ZKM,ZnE,ZnE,ZnF,ZG4,ZFI];refine⟨decide_eq_true (by unfold Zq;omega),decide_eq_true (by omega), ?_⟩;refine ZnR (ZqI ZyB (D++P).length (by omega) (fun i (n:Nat)=>(neg,P,iL (wd n),iL (wd 10),(((D++P).map fun b:UInt8=>((b.toNat:Nat):Int)).length:Int),i,false,false,iL (wd 1),(D++P).map (fun b:UInt8=>((b.toNat:Nat):Int)),iL (wd 0),iL (wd 0))) (fun i n=>n=Zy9 ((D++P).take i))
  (Q:=fun x=>x=(neg,P,iL (wd (Zy9 (D++P))),iL (wd 10),false,false,iL (wd 1),iL (wd 0),iL (wd 0))) 0 (by rfl) ?_ ?_) ?_
 ·rintro rec i n hi rfl ih;unfold Zu3 Zs1;dsimp only;have hb:isD (D++P)[i]=true:=ZJ7.1 hall _ (List.getElem_mem hi);have hn:Zy9 ((D++P).take i) < 2 ^ 80:=ZzJ (ZJ7.2 fun b hb=>ZJ7.1 hall b (List.mem_of_mem_take hb)) (by rw[ZKg];omega);have hn2:Zy9 ((D++P).take (i+1))=Zy9 ((D++P).take i)*10+((D++P)[i].toNat - 48):=by rw[ZKk hi,ZBL,ZKB]
  have hlm:i < ((D++P).map fun b:UInt8=>((b.toNat:Nat):Int)).length:=by rw[List.length_map];exact hi
  have hb':=hb;unfold isD at hb';simp only[ZHb,decide_eq_true_eq]at hb';have w1:=ZEH hn;have w10:=ZEH (n:=10) (by decide);have w2:(wd (Zy9 ((D++P).take i)*10)).length≤100:=ZAe (k:=84) (by omega) 100 (by decide);have w3:=ZEH (n:=(D++P)[i].toNat - 48) (by omega);rw[decide_eq_true (show (i:Int) < (((D++P).map fun b:UInt8=>((b.toNat:Nat):Int)).length:Int) by rw[List.length_map];omega),cond_true,ZAw hlm,chk_true,ZJ5,ZKa hlm,ZKM,List.getElem_map,ZA6 _ _ (by omega) (by omega),ZKM,ZC3 hb,ZzV _ (by omega),ZKM,
   ZDo _ _ (by omega) (by omega),ZKM,ZnE]
  refine⟨ZnI (by omega), ?_⟩;have:=ih (Zy9 ((D++P).take i)*10+((D++P)[i].toNat - 48)) hn2.symm;exact this
 ·rintro rec n rfl;unfold Zu3 Zs1;dsimp only;rw[decide_eq_false (by rw[List.length_map];omega),cond_false,ZnC,ZKi]
 ·rintro x rfl;dsimp only;unfold Zv4;rw[ZnF];refine ZnR (ZqI ZyA P.length (by omega) (fun i (k:Nat)=>(neg,iL (wd (Zy9 (D++P))),iL (wd 10),iL (wd (10 ^ k)),(P.length:Int),i,false,false,iL (wd 0),iL (wd 0))) (fun i k=>k=i)
   (Q:=fun x=>x=(neg,iL (wd (Zy9 (D++P))),iL (wd (10 ^ P.length)),false,false,iL (wd 0),iL (wd 0))) 0 (by rfl) ?_ ?_) ?_
  ·rintro rec i k hi rfl ih;unfold Zu2 Zs0;dsimp only;have w1:=ZEH (ZzE (show k≤24 by omega));have w10:=ZEH (n:=10) (by decide);rw[decide_eq_true (show (k:Int) < (P.length:Int) by omega),cond_true,ZA6 _ _ (by omega) (by omega),ZKM,ZnE,←ZKH];exact⟨ZnI (by omega),ih (k+1) rfl⟩
  ·rintro rec k rfl;unfold Zu2 Zs0;dsimp only;rw[decide_eq_false (by omega),cond_false,ZnC]
  ·rintro x rfl;dsimp only;unfold Zv3;have hnum:=ZzJ hall hlen;have hpw:=ZzE (show P.length≤24 by omega);have w1:=ZEH hnum;have w2:=ZEH hpw;rw[Zu7 _ _ (by omega),ZKM,Zu7 _ _ (by omega),ZKM];have hne:((10 ^ P.length:Nat):Int)≠0:=by have:=Nat.pow_pos (n:=P.length) (show 0 < 10 by decide);omega
   have:=ZyC (if neg=true then -((Zy9 (D++P):Nat):Int)else ((Zy9 (D++P):Nat):Int)) ((10 ^ P.length:Nat):Int) hne (by
    show (wd _).length≤50000;have e:(if neg=true then -((Zy9 (D++P):Nat):Int)else ((Zy9 (D++P):Nat):Int)).natAbs=Zy9 (D++P):=by split<;>omega
    rw[e];omega) (by show (wd _).length≤50000;rw[ZJ2];omega)
   simp only[Bool.false_eq_true,if_false];rw[this,ZKM,ZnC];rfl
theorem ZAV {t:Str} (hl:t.length≤9223372036854775807):Zrb t=some (match ZyP t with |some x=>(fOf (ZHP x),true) |none=>(zf,false)):=by
 have key:∀(body:Str) (neg:Bool),body.length≤9223372036854775807→Zsk body neg false false [] []=some (match (Zyl body).map fun x=>(neg,x.1,x.2)with |some x=>(fOf (ZHP x),true) |none=>(zf,false)):=by
  intro body neg hb;unfold Zsk;rw[ZjU hb,ZKM];dsimp only;rw[show (15:Int)=((15:Nat):Int)from rfl,ZBP,ZKM,show (9:Int)=((9:Nat):Int)from rfl];have hpc:=ZzF body;cases h1:okD (body.takeWhile n46) 15 with
  |false=>
   rw[h1,Bool.false_and,cond_false]at hpc;rw[hpc,ZJX,cond_true];rfl
  |true=>
   rw[h1,Bool.true_and]at hpc;rw[ZJY,cond_false];cases h2:(body.dropWhile n46).isEmpty with
   |true=>
    rw[h2,Bool.true_or,cond_true]at hpc;rw[ZJY,cond_false,ZET (Zyb hpc),hpc];rfl
   |false=>
    rw[h2,Bool.false_or]at hpc;rw[ZJX,cond_true,ZBP,ZKM];cases h3:okD (body.dropWhile n46).tail 9 with
    |false=>
     rw[h3,cond_false]at hpc;rw[hpc];rfl
    |true=>
     rw[h3,cond_true]at hpc;rw[ZJY,ZET (Zyb hpc),hpc];rfl
 unfold Zrb ZyP ZBa;rw[ZBQ,ZKM];cases t with
 |nil=>
  dsimp only;rw[ZJX,cond_true,ZzB,ZKM];dsimp only;rw[key [] false hl]
 |cons b r=>
  dsimp only;simp only[ZKd]at hl;cases h1:b == 45 with
  |true=>
   rw[cond_true,cond_true];dsimp only;rw[ZJY,cond_false,key r true (by omega)]
  |false=>
   rw[cond_false,cond_false];dsimp only;rw[ZJX,cond_true,ZzB,ZKM];dsimp only;cases h2:b == 43 with
   |true=>rw[cond_true,cond_true];dsimp only;rw[key r false (by omega)]
   |false=>rw[cond_false,cond_false];dsimp only;rw[key (b::r) false (by simp only[ZKd];omega)]
end Go.Proofs
