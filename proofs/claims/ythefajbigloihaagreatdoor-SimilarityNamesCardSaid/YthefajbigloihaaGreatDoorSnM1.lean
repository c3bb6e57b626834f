/- Plain laws over the specs, part 1. -/
import Derived.Test.YthefajbigloihaaGreatDoorSnM0
import Derived.Test.YthefajbigloihaaGreatDoorQ
set_option linter.unusedVariables false
set_option linter.unusedSimpArgs false
set_option linter.unusedSectionVars false
open Bool renaming not_true→ZBb
open Int renaming natAbs_natCast→ZDu, natAbs_mul→ZDt, toNat_natCast→ZDw, natAbs_neg→ZDv, mul_ne_zero→ZDs
open List renaming length_append→ZDH, length_take→ZDK, take_length→ZDQ, all_eq_true→ZDx, length_singleton→ZDJ, take_succ_eq_append_getElem→ZDR, mem_append→ZDL, mem_cons→ZDM, getD_eq_getElem?_getD→ZDB, filter_cons→ZDA, not_mem_nil→ZDO, contains_iff_mem→ZDy, getElem_mem→ZDG, length_filter_le→ZDI, filter_append→ZDz, getElem?_eq_getElem→ZDD, mem_singleton→ZDN, getElem_cons_drop→ZDF, getElem?_eq_none→ZDE, pairwise_iff_getElem→ZDP, getElem?_cons_zero→ZDC
open Nat renaming le_trans→ZD0, gcd→ZDX, pow_succ→ZEd, mul_assoc→ZD7, pow_zero→ZEe, le_refl→ZDZ, mod_lt→ZD5, mul_add→ZD6, lt_or_ge→ZD3, lt_of_le_of_lt→ZD1, mul_comm→ZD8, pow_le_pow_right→ZEc, div_le_self→ZDW, one_mul→ZEa, le_of_lt→ZDY, two_pow_pos→ZEg, pos_of_ne_zero→ZEb, lt_of_lt_of_le→ZD2, min_eq_left→ZD4, mul_left_comm→ZD9, div_add_mod→ZDU, add_mul_div_left→ZDS, div_eq_of_lt→ZDV, add_mul_mod_self_left→ZDT, two_pow_add_eq_or_of_lt→ZEf
open Option renaming bind_some→ZEh, some.inj→ZEi
namespace Go.Proofs
open Go Eng
def Sz (k:Nat) (q:Rat):Prop:=q.num.natAbs < 2 ^ k∧q.den < 2 ^ k
theorem Sz.mono {k l:Nat} {q:Rat} (h:Sz k q) (hl:k≤l):Sz l q:=⟨ZD2 h.1 (ZEc (by decide) hl),ZD2 h.2 (ZEc (by decide) hl)⟩
theorem Zyj {n k:Nat} (h:n < 2 ^ k) (m:Nat) (hk:k≤32*m):(wd n).length≤m:=by refine Zuv (ZD2 h ?_);rw[show Bw=2 ^ 32 from rfl,←Nat.pow_mul];exact ZEc (by decide) hk
theorem Sz.wq {k:Nat} {q:Rat} (h:Sz k q) (hk:k≤8192):Wq 256 q:=⟨Zyj h.1 256 (by omega),Zyj (n:=(q.den:Int).natAbs) (by rw[ZDu];exact h.2) 256 (by omega)⟩
theorem Zvm {x y:Int} {k:Nat} (hy:y≠0) (h1:x.natAbs < 2 ^ k) (h2:y.natAbs < 2 ^ k):Sz k (Rat.divInt x y):=by
 unfold Sz;rw[Rat.num_divInt,Rat.den_divInt,if_neg hy];refine⟨ZD1 ?_ h1,ZD1 (ZDW _ _) h2⟩;have hd:((Int.gcd y x:Nat):Int)∣y.sign*x:=Int.dvd_trans (Int.gcd_dvd_right y x) (Int.dvd_mul_left _ _);rw[Int.natAbs_ediv_of_dvd hd,ZDt];refine ZD0 (ZDW _ _) ?_;have:y.sign.natAbs=1:=by rw[Int.natAbs_sign_of_ne_zero hy]
 rw[this,ZEa];exact ZDZ _
theorem ZuY {x y k l:Nat} (hx:x < 2 ^ k) (hy:y < 2 ^ l):x*y < 2 ^ (k+l):=by rw[Nat.pow_add];exact Nat.mul_lt_mul_of_lt_of_le hx (ZDY hy) (ZEg _)
theorem ZwG (a b:Rat):Rat.divInt (a.num*(b.den:Int)+b.num*(a.den:Int)) ((a.den:Int)*(b.den:Int))=a+b:=by have h1:=a.den_nz;have h2:=b.den_nz;rw[←Rat.divInt_add_divInt _ _ (by omega) (by omega),Rat.num_divInt_den,Rat.num_divInt_den]
theorem Sz.add {a b:Rat} {k l:Nat} (ha:Sz k a) (hb:Sz l b):Sz (k+l+1) (a+b):=by
 rw[←ZwG];have h1:=a.den_nz;have h2:=b.den_nz;have q1:=ZuY ha.1 hb.2;have q2:=ZuY ha.2 hb.1;have q3:=ZuY ha.2 hb.2;have hp:=ZEg (k+l);refine Zvm (ZDs (by omega) (by omega)) ?_ ?_
 ·rw[ZEd];refine ZD1 (Int.natAbs_add_le _ _) ?_;rw[ZDt,ZDt,ZDu,ZDu,ZD8 b.num.natAbs];omega
 ·rw[ZEd,ZDt,ZDu,ZDu];omega
theorem ZAc {q:Rat} (h:Wq 256 q):decide ((if ((fOf q).Den.Words.length:Int) > ((fOf q).Num.Words.length:Int)then ((fOf q).Den.Words.length:Int)else ((fOf q).Num.Words.length:Int)) > 256)=false:=by have h1:=h.1;have h2:=h.2;unfold Wl at h1 h2;refine decide_eq_false ?_;unfold fOf;rw[ZpY,ZpY,ZnV,ZnV];split<;>omega
theorem ZvY {y:Int} (hy:y≠0):(((bg y).Words.length:Int) == 0)=false:=by have:=Zrq (n:=y.natAbs) (by omega);rw[ZpY,ZnV];exact beq_eq_false_iff_ne.2 (by omega)
theorem ZzC {a b:Rat} {k l:Nat} (ha:Sz k a) (hb:Sz l b) (hk:k+l+1≤8192):Zsv (fOf a) (fOf b)=some (fOf (a+b),0):=by
 have h1:=a.den_nz;have h2:=b.den_nz;have qa:=ha.wq (by omega);have qb:=hb.wq (by omega);have w:∀{x y:Int},Wl 256 x→Wl 256 y→Wl 512 (x*y):=fun hx hy=>by unfold Wl;rw[ZDt];exact ZxF hx hy
 have m:∀{n:Nat} {x:Int},Wl n x→n≤50000→Wl 50000 x:=fun h h'=>ZD0 h h'
 have w1:=w qa.1 qb.2;have w2:=w qb.1 qa.2;have w3:=w qa.2 qb.2;have w4:Wl 513 (a.num*(b.den:Int)+b.num*(a.den:Int)):=ZD0 (ZrB (Int.natAbs_add_le _ _)) (Zyk w1 w2);have hd:(a.den:Int)*(b.den:Int)≠0:=ZDs (by omega) (by omega);unfold Zsv Zon;rw[Zu2 a qa,ZEh,ZBb,cond_false,Zu2 b qb,ZEh,ZBb];unfold Zo5 ZtG;rw[cond_false];show ((((ZnK (bg a.num) (bg (b.den:Int))).bind fun q=>(ZnK (bg b.num) (bg (a.den:Int))).bind fun q_1=>(ZrQ q q_1).bind fun num=>(ZnK (bg (a.den:Int)) (bg (b.den:Int))).bind fun den=>some (num,den)).bind _).bind _)=_;rw[ZtR _ _ (m qa.1 (by omega)) (m qb.2 (by omega)),ZEh,ZtR _ _ (m qb.1 (by omega)) (m qa.2 (by omega)),ZEh,Zzv _ _ (m w1 (by omega)) (m w2 (by omega)),ZEh,ZtR _ _ (m qa.2 (by omega)) (m qb.2 (by omega)),ZEh,ZEh];dsimp only;rw[ZvY hd,cond_false,ZuX _ _ hd (m w4 (by omega)) (m w3 (by omega)),ZEh,ZwG,ZAc ((ha.add hb).wq hk),cond_false,ZEh]
end Go.Proofs
namespace Go.Proofs
open Go Eng
theorem Zwj (z:Int):Zps (bg z)=some (bg (-z)):=by
 unfold Zps Zrh;rw[Zvg,ZpY,ZnV]
 by_cases hz:z < 0
 ·rw[decide_eq_true hz,ZBb,cond_false];unfold bg;rw[ZDv,decide_eq_false (by omega:¬ -z < 0)]
 ·rw[decide_eq_false hz,Bool.not_false,cond_true];unfold bg;rw[ZDv];congr 2
  by_cases h0:z=0
  ·subst h0;rw[show (0:Int).natAbs=0 from rfl,Zsf];rfl
  ·have:=Zrq (n:=z.natAbs) (by omega);rw[decide_eq_true (by omega),decide_eq_true (by omega)]
theorem ZAF (q:Rat):fOf (-q)=⟨bg (-q.num),bg (q.den:Int)⟩:=rfl
theorem Sz.neg {q:Rat} {k:Nat} (h:Sz k q):Sz k (-q):=by show (-q.num).natAbs < 2 ^ k∧q.den < 2 ^ k;rw[ZDv];exact h
theorem ZA6 {a b:Rat} {k l:Nat} (ha:Sz k a) (hb:Sz l b) (hk:k+l+1≤8192):Ztn (fOf a) (fOf b)=some (fOf (a - b),0):=by unfold Ztn;rw[Zu2 b (hb.wq (by omega)),ZEh,ZBb,cond_false];show ((Zps (bg b.num)).bind fun q_1=>(Zon (fOf a) (ZnA.mk q_1 (bg (b.den:Int)))).bind fun x=>some (x.1,x.2))=_;have:=ZzC ha hb.neg hk;unfold Zsv at this;rw[Zwj,ZEh,←ZAF,Rat.sub_eq_add_neg];exact this
theorem Zwm {a b:Rat} {k l:Nat} (ha:Sz k a) (hb:Sz l b) (hk:k+l+1≤8192):Zuz (fOf a) (fOf b)=some (fOf (a+b)):=by unfold Zuz ZsQ;rw[ZzC ha hb hk];rfl
theorem Zwl {a b:Rat} {k l:Nat} (ha:Sz k a) (hb:Sz l b) (hk:k+l+1≤8192):Zuy (fOf a) (fOf b)=some (fOf (a - b)):=by unfold Zuy ZsQ;rw[ZA6 ha hb hk];rfl
def ZAh (a b:Rat):Int:=if a < b then -1 else if b < a then 1 else 0
theorem ZxV (a b:Rat):a < b↔a.num*(b.den:Int) < b.num*(a.den:Int):=Rat.lt_iff a b
theorem ZBP {a b:Rat} (qa:Wq 256 a) (qb:Wq 256 b):Ztp (fOf a) (fOf b)=some (ZAh a b):=by
 have w:∀{x y:Int},Wl 256 x→Wl 256 y→Wl 50000 (x*y):=fun hx hy=>by unfold Wl;rw[ZDt];exact ZD0 (ZxF hx hy) (by decide)
 have m:∀{x:Int},Wl 256 x→Wl 50000 x:=fun h=>ZD0 h (by decide)
 unfold Ztp;rw[Zu2 a qa,ZEh,ZBb,cond_false,Zu2 b qb,ZEh,ZBb];unfold Zta;rw[cond_false];show ((ZnK (bg a.num) (bg (b.den:Int))).bind fun q=>(ZnK (bg b.num) (bg (a.den:Int))).bind _)=_;rw[ZtR _ _ (m qa.1) (m qb.2),ZEh,ZtR _ _ (m qb.1) (m qa.2),ZEh,Zwj,ZEh];have w2:Wl 50000 (-(b.num*(a.den:Int))):=by unfold Wl;rw[ZDv];exact w qb.1 qa.2
 rw[Zzv _ _ (w qa.1 qb.2) w2,ZEh,Zvg,ZpY,ZnV];unfold ZAh;have h1:=ZxV a b;have h2:=ZxV b a;generalize a.num*(b.den:Int)=x at*
 generalize b.num*(a.den:Int)=y at*
 by_cases hl:a < b
 ·rw[if_pos hl,decide_eq_true (by have:=h1.1 hl;omega),cond_true]
 ·have hn:¬x < y:=fun h=>hl (h1.2 h)
  rw[if_neg hl,decide_eq_false (by omega),cond_false]
  by_cases hg:b < a
  ·have:=Zrq (n:=(x+ -y).natAbs) (by have:=h2.1 hg;omega);rw[if_pos hg,decide_eq_true (by omega),cond_true]
  ·have hn2:¬y < x:=fun h=>hg (h2.2 h)
   rw[if_neg hg,show x+ -y=0 by omega,show (0:Int).natAbs=0 from rfl,Zsf];rfl
theorem ZAq (x y:Int) (hy:y≠0) (hx1:Wl 256 x) (hy1:Wl 256 y):Zs0 (bg x) (bg y)=some (fOf (Rat.divInt x y),0):=by
 have hb:=ZyP [x,y] (by simp) (fun z hz=>by
  simp only[ZDM,ZDO,or_false]at hz;rcases hz with rfl |rfl
  ·exact hx1
  ·exact hy1)
 unfold Zs0;rw[show ([bg x,bg y]:List ZnC)=[x,y].map bg from rfl,hb,ZEh,ZBb,cond_false,ZvY hy,cond_false,ZuX _ _ hy (ZD0 hx1 (by decide)) (ZD0 hy1 (by decide)),ZEh]
theorem ZCJ {z:Int} (h1: -9223372036854775808≤z) (h2:z≤9223372036854775807):Wl 256 z:=ZD0 (ZAs (by omega)) (by decide)
theorem ZBg (x y:Int) (hy:y≠0) (h1: -9223372036854775808≤x) (h2:x≤9223372036854775807) (h3: -9223372036854775808≤y) (h4:y≤9223372036854775807):Zs9 x y=some (fOf (Rat.divInt x y),0):=by unfold Zs9;rw[ZwC x h1 h2,ZEh,ZwC y h3 h4,ZEh,ZAq x y hy (ZCJ h1 h2) (ZCJ h3 h4),ZEh]
theorem ZwI:Zs7=some (fOf 0):=by unfold Zs7;rw[ZBg 0 1 (by decide) (by decide) (by decide) (by decide) (by decide),ZEh,Rat.zero_divInt]
theorem Zwc (x y:Int) (hy:y≠0) (h1: -9223372036854775808≤x) (h2:x≤9223372036854775807) (h3: -9223372036854775808≤y) (h4:y≤9223372036854775807):ZtV x y=some (fOf (Rat.divInt x y)):=by unfold ZtV;rw[ZBg x y hy h1 h2 h3 h4,ZEh];rfl
theorem Zxq:Sz 1 0:=by unfold Sz;decide
theorem Zxv {a:Rat} (qa:Wq 256 a):ZtQ (fOf a)=some (ZAh a 0):=by unfold ZtQ;rw[ZwI,ZEh,ZBP qa (Zxq.wq (by decide)),ZEh]
theorem ZwD (a b:Rat):Rat.divInt (a.num*(b.den:Int)) ((a.den:Int)*b.num)=a / b:=by rw[←Rat.divInt_mul_divInt,Rat.num_divInt_den,Rat.div_def,Rat.inv_def]
theorem Sz.div {a b:Rat} {k l:Nat} (hb0:b≠0) (ha:Sz k a) (hb:Sz l b):Sz (k+l) (a / b):=by
 rw[←ZwD];have h1:=a.den_nz;have h2:b.num≠0:=fun e=>hb0 (Rat.num_eq_zero.1 e)
 refine Zvm (ZDs (by omega) h2) ?_ ?_
 ·rw[ZDt,ZDu];exact ZuY ha.1 hb.2
 ·rw[ZDt,ZDu];exact ZuY ha.2 hb.1
theorem ZBM {a b:Rat} {k l:Nat} (hb0:b≠0) (ha:Sz k a) (hb:Sz l b) (hk:k+l≤8192):Zto (fOf a) (fOf b)=some (fOf (a / b),0):=by
 have h1:=a.den_nz;have h2:b.num≠0:=fun e=>hb0 (Rat.num_eq_zero.1 e)
 have qa:=ha.wq (by omega);have qb:=hb.wq (by omega);have w:∀{x y:Int},Wl 256 x→Wl 256 y→Wl 50000 (x*y):=fun hx hy=>by unfold Wl;rw[ZDt];exact ZD0 (ZxF hx hy) (by decide)
 have m:∀{x:Int},Wl 256 x→Wl 50000 x:=fun h=>ZD0 h (by decide)
 have w1:=w qa.1 qb.2;have w3:=w qa.2 qb.1;have hd:(a.den:Int)*b.num≠0:=ZDs (by omega) h2;unfold Zto Zpp;rw[Zu2 a qa,ZEh,ZBb,cond_false,Zu2 b qb,ZEh,ZBb];unfold ZoJ ZtH;rw[cond_false];show ((((ZnK (bg a.num) (bg (b.den:Int))).bind fun num=>(ZnK (bg (a.den:Int)) (bg b.num)).bind fun den=>some (num,den)).bind _).bind _)=_;rw[ZtR _ _ (m qa.1) (m qb.2),ZEh,ZtR _ _ (m qa.2) (m qb.1),ZEh,ZEh];dsimp only;rw[ZvY hd,cond_false,ZuX _ _ hd w1 w3,ZEh,ZwD,ZAc ((Sz.div hb0 ha hb).wq hk),cond_false,ZEh]
theorem Zyz {a b:Rat} {k l:Nat} (hb0:b≠0) (ha:Sz k a) (hb:Sz l b) (hk:k+l≤8192):Zvo (fOf a) (fOf b)=some (fOf (a / b)):=by unfold Zvo ZsQ;rw[ZBM hb0 ha hb hk];rfl
end Go.Proofs
namespace Go.Proofs
open Go Eng
theorem ZxJ:∀n w,Zn4 n w=Zop n w
 |0,_=>rfl
 |n+1,w=>by have:Zn4 n=Zop n:=funext (ZxJ n);show ZsA (Zn4 n) w=ZqS (Zop n) w;rw[this];rfl
theorem Zx5 (w:List Int):ZnR w=ZnQ w:=by unfold ZnR ZnQ;rw[ZxJ];rfl
theorem ZvQ {l:List Nat} (h:Dg l) (hl:l.length≤1000000):ZnR (iL l)=some (iL (wd (val l))):=by rw[Zx5,Zu3 h hl]
theorem ZxD (neg:Bool) {l:List Nat} (h:Dg l) (hl:l.length≤1000000):Zoe neg (iL l)=some (bg (if neg then -(val l:Int)else val l)):=by
 unfold Zoe Zqj;rw[ZvQ h hl,ZEh,ZnV];unfold bg;cases neg with
 |true=>
  rw[cond_true,if_pos rfl,ZDv,ZDu];congr 2
  by_cases h0:val l=0
  ·rw[h0,Zsf];rfl
  ·have:=Zrq h0;rw[decide_eq_true (by omega),decide_eq_true (by omega)]
 |false=>rw[cond_false,if_neg (by decide),ZDu,decide_eq_false (by omega)]
theorem ZvC (a:ZnC):ZoO a=Zqb a:=rfl
end Go.Proofs
namespace Go.Proofs
open Go Eng
theorem ZyN (a b:Nat) (ha:(wd a).length≤100000) (hb:(wd b).length≤100000):Zo8 (iL (wd a)) (iL (wd b))=some (ZwZ a b):=by
 refine ZqA ?_;unfold Zo8;rw[ZnV,ZnV,ZnW];refine⟨fun h=> ?_,fun h=> ?_⟩
 ·have hne:(wd a).length≠(wd b).length:=fun e=>by rw[e]at h;simp at h
  rw[ZnW];refine⟨fun h=> ?_,fun h=> ?_⟩
  ·have h1:(wd a).length < (wd b).length:=by have:=of_decide_eq_true h;omega
   rw[ZnB,Zt9 (ZwA h1)]
  ·have h1:(wd b).length < (wd a).length:=by have:=of_decide_eq_false h;omega
   rw[ZnB,ZtT (ZwA h1)]
 ·have hl:(wd a).length=(wd b).length:=by simp only[bne_eq_false_iff_eq]at h;omega
  rw[ZnE,ZnF];refine⟨ZnI (by omega), ?_⟩;refine ZoD (ZvX Zuo (wd a).length (by omega) (fun i (s:Unit)=>(iL (wd a),iL (wd b),i)) (fun k _=>(wd a).drop k=(wd b).drop k)
   (Q:=fun r=>r= .ret (ZwZ a b)∨r= .brk ()∧a=b) () (by rw[List.drop_length,hl,List.drop_length]) ?_ ?_) ?_
  ·rintro rec k ⟨⟩ hk hP ih;have hk2:k < (wd b).length:=by omega
   unfold Zq2 ZpE;dsimp only;rw[ZnW];refine⟨fun _=> ?_,fun h=>by have:=of_decide_eq_false h;omega⟩;have ha:=Zuw hk;have hb:=Zuw hk2;rw[ZrR]at ha hb;have la:val ((wd a).take k) < Bw ^ k:=by have:=Ztb ((ZtJ a).take k);rwa [ZDK,ZD4 (by omega)]at this
   have lb:val ((wd b).take k) < Bw ^ k:=by have:=Ztb ((ZtJ b).take k);rwa [ZDK,ZD4 (by omega)]at this
   rw[Zsu hk,ZnF,ZnB,Zsu hk2,ZnF,ZnB,ZnW];refine⟨fun hc=> ?_,fun hc=> ?_⟩
   ·have h1:(wd a)[k] < (wd b)[k]:=by have:=of_decide_eq_true hc;omega
    have:a < b:=by rw[ha,hb,hP];exact ZwL (A:=0) (B:=0) la (by omega)
    rw[ZnB];exact .inl (by rw[Zt9 this])
   ·rw[ZnF,ZnB,ZnF,ZnB,ZnW];refine⟨fun hc2=> ?_,fun hc2=> ?_⟩
    ·have h1:(wd b)[k] < (wd a)[k]:=by have:=of_decide_eq_true hc2;omega
     have:b < a:=by rw[ha,hb,hP];exact ZwL (A:=0) (B:=0) lb (by omega)
     rw[ZnB];exact .inl (by rw[ZtT this])
    ·rw[ZnE];refine⟨ZnI (by omega),ih () ?_⟩;have h1:(wd a)[k]=(wd b)[k]:=by have q1:=of_decide_eq_false hc;have q2:=of_decide_eq_false hc2;omega
     rw[←ZDF (h:=hk),←ZDF (h:=hk2),h1,hP]
  ·rintro rec ⟨⟩ hP;unfold Zq2 ZpE;dsimp only;rw[ZnW];refine⟨fun h=>by have:=of_decide_eq_true h;omega,fun _=> ?_⟩;rw[ZnB];rw[List.drop_zero,List.drop_zero]at hP;exact .inr ⟨rfl,by rw[←ZrR a,←ZrR b,hP]⟩
  ·rintro r (rfl |⟨rfl,rfl⟩)
   ·exact ZnB.2 rfl
   ·unfold ZrK;exact ZnB.2 (Zt6 a).symm
theorem Zxw {a:Nat} (k:Nat) (hk:k≤32):shlK .u32 (a:Int) (k:Int)=((a*2 ^ k % 4294967296:Nat):Int):=by
 unfold shlK;rw[ZDw,show IntKind.bits .u32=32 from rfl,ZD4 (by omega)];have e:(a:Int)*(2:Int) ^ k=((a*2 ^ k:Nat):Int):=by push_cast;rfl
 rw[e,Zs6]
theorem ZxI (a d:Nat) (hd:d≤1) (ha:(wd a).length≤100000):ZoG (iL (wd a)) (d:Int)=some (iL (wd (2*a+d))):=by
 refine ZqA ?_;unfold ZoG;rw[ZnF];refine ZoD (Zrr ZtX (wd a).length (by omega) (fun i (s:Nat×List Nat)=>(iL (wd a),(s.1:Int),i,iL s.2)) (fun i s=>s.1≤1∧s.2.length=i∧Dg s.2∧val s.2+Bw ^ i*s.1=2*val ((wd a).take i)+d)
  (Q:=fun y=>∃(c:Nat) (o:List Nat),y=((c:Int),iL o)∧c≤1∧Dg o∧o.length=(wd a).length∧val o+Bw ^ (wd a).length*c=2*a+d) (d,[]) ⟨hd,rfl,ZvF,by simp[val]⟩ ?_ ?_) ?_
 ·rintro rec i ⟨c,o⟩ hi ⟨hc,hl,hod,hv⟩ ih;dsimp only at hc hl hod hv ih;have h1:=(ZtJ a).get hi;unfold ZqF Zpl;dsimp only;rw[ZnW,ZnV];refine⟨fun _=> ?_,fun h=>by have:=of_decide_eq_false h;omega⟩;rw[Zsu hi,ZnF,ZnB];generalize ex:(wd a)[i]=x at h1;have eor:orK .u32 (shlK .u32 (x:Int) 1) (c:Int)=((c+x*2 ^ 1 % Bw:Nat):Int):=by rw[show (1:Int)=((1:Nat):Int)from rfl,Zxw 1 (by omega),Zxc (ZD5 _ (by decide)) (by omega),Nat.or_comm];congr 1;exact ZwP (by decide) (by omega) h1
  have esh:shrK .u32 (x:Int) 31=((x / 2 ^ 31:Nat):Int):=ZvH 31 (by omega);rw[eor,ZEh,esh,ZnE,ZnE,ZnE,ZnE,ZnV];have hx:c+x*2 ^ 1 % Bw < Bw:=by simp only[Bw]at h1⊢;omega
  refine⟨by decide,ZuE (by simp only[ZDJ];omega),by decide,ZnI (by omega), ?_⟩;have:=ih (x / 2 ^ 31,o++[c+x*2 ^ 1 % Bw]) ⟨by simp only[Bw]at h1;dsimp only;omega,by simp[hl],hod.app (Zvu hx), ?_⟩
  ·rw[Zxg]at this;exact this
  ·dsimp only;have q:c+x*2 ^ 1 % Bw+Bw*(x / 2 ^ 31)=c+2*x:=by simp only[Bw]at h1⊢;omega
   have q2:Bw ^ i*(c+x*2 ^ 1 % Bw+Bw*(x / 2 ^ 31))=Bw ^ i*(c+2*x):=by rw[q]
   have q3:Bw ^ i*(2*x)=2*(Bw ^ i*x):=ZD9 _ _ _;rw[ZD6,ZD6 (Bw ^ i) c (2*x),q3]at q2;rw[Ztq,hl,Zn1 hi,ex];generalize c+x*2 ^ 1 % Bw=dg at*
   generalize x / 2 ^ 31=cy at*
   rw[ZEd,ZD7];omega
 ·rintro rec ⟨c,o⟩ ⟨hc,hl,hod,hv⟩;dsimp only at hc hl hod hv;unfold ZqF Zpl;dsimp only;rw[ZnW,ZnV];refine⟨fun h=>by have:=of_decide_eq_true h;omega,fun _=> ?_⟩;rw[ZnB];rw[ZDQ,ZrR]at hv;exact⟨c,o,rfl,hc,hod,hl,hv⟩
 ·rintro y ⟨c,o,rfl,hc,hod,hl,hv⟩;dsimp only;unfold ZqX;have e:iL o++[(c:Int)]=iL (o++[c]):=by rw[Zxg];rfl
  rw[ZnE,ZnV,e,ZvQ (hod.app (Zvu (by simp only[Bw];omega))) (by simp;omega),ZnF,ZnB,ZnB,Ztq,hl,hv];exact⟨ZuE (by simp only[ZDJ];omega),rfl⟩
end Go.Proofs
namespace Go.Proofs
open Go Eng
theorem ZAd (t:Int):shrK .i64 t 32=t / 4294967296:=by unfold shrK;rw[show min (32:Int).toNat (IntKind.bits .i64)=32 from by decide,Int.fdiv_eq_ediv_of_nonneg _ (by decide)];rfl
theorem Zxr (a b:Nat) (hab:b≤a) (ha:(wd a).length≤100000):Zo6 (iL (wd a)) (iL (wd b))=some (iL (wd (a - b))):=by
 have hlb:(wd b).length≤(wd a).length:=ZrB hab;refine ZqA ?_;unfold Zo6;rw[ZnF];refine ZoD (Zrr Zum (wd a).length (by omega) (fun i (s:Nat×List Nat)=>(iL (wd a),iL (wd b), -(s.1:Int),i,iL s.2)) (fun i s=>s.1≤1∧s.2.length=i∧Dg s.2∧val ((wd a).take i)+Bw ^ i*s.1=val s.2+val ((wd b).take i))
  (Q:=fun y=>∃(o:List Nat),y=iL o∧Dg o∧o.length=(wd a).length∧val o=a - b) (0,[]) ⟨by simp,rfl,ZvF,by simp[val]⟩ ?_ ?_) ?_
 ·rintro rec i ⟨c,o⟩ hi ⟨hc,hl,hd,hv⟩ ih;dsimp only at hc hl hd hv ih;have h1:=(ZtJ a).get hi;have h2:=Zwo (ZtJ b) i;have ey0:(wd b).getD i 0=(if i < (wd b).length then (wd b).getD i 0 else 0):=by
   by_cases h:i < (wd b).length
   ·rw[if_pos h]
   ·rw[if_neg h,ZDB,ZDE (by omega)];rfl
  have fin:∀y:Nat,(wd b).getD i 0=y→wp (Zpd (fun a b c i out=>rec (a,b,c,i,out)) (iL (wd a)) (iL (wd b)) (-(c:Int)+((wd a)[i]:Int) - (y:Int)) (i:Int) (iL o)) (fun y=>∃(o:List Nat),y=iL o∧Dg o∧o.length=(wd a).length∧val o=a - b):=fun y ey=>by
   rw[ey]at h2;generalize ex:(wd a)[i]=x at h1;have ew:IntKind.wrap .u32 (-(c:Int)+(x:Int) - (y:Int))=(((x+4294967296 - y - c) % 4294967296:Nat):Int):=by simp only[Bw]at h1 h2;rw[IntKind.wrap_u32];omega
   have es:shrK .i64 (-(c:Int)+(x:Int) - (y:Int)) 32= -(((if x < y+c then 1 else 0):Nat):Int):=by simp only[Bw]at h1 h2;rw[ZAd];split<;>omega
   unfold Zpd;rw[ew,es,ZnE,ZnE,ZnE,ZnV];refine⟨ZuE (by simp only[ZDJ];omega),by decide,ZnI (by omega), ?_⟩;have:=ih ((if x < y+c then 1 else 0),o++[(x+4294967296 - y - c) % 4294967296]) ⟨by dsimp only;split<;>omega,by simp[hl],hd.app (Zvu (ZD5 _ (by decide))), ?_⟩
   ·rw[Zxg]at this;exact this
   ·dsimp only;rw[Ztq,hl,ZEd,Zn1 hi,Zui,ex,ey,ZD7];have e:x+Bw*(if x < y+c then 1 else 0)=(x+4294967296 - y - c) % 4294967296+y+c:=by simp only[Bw]at h1 h2⊢;split<;>omega
    have e2:Bw ^ i*(x+Bw*(if x < y+c then 1 else 0))=Bw ^ i*((x+4294967296 - y - c) % 4294967296+y+c):=by rw[e]
    rw[ZD6,ZD6,ZD6]at e2;omega
  unfold ZqY ZpC;dsimp only;rw[ZnW,ZnV,ZnV];refine⟨fun _=> ?_,fun h=>by have:=of_decide_eq_false h;omega⟩;have wx:IntKind.wrap .i64 ((wd a)[i]:Int)=((wd a)[i]:Int):=wrap_i64 (by simp only[Bw]at h1;omega);rw[Zsu hi,ZnF,ZnB,wx,ZnE,ZnW];refine⟨ZnI (by simp only[Bw]at h1;omega),fun h=> ?_,fun h=> ?_⟩
  ·have hib:i < (wd b).length:=by have:=of_decide_eq_true h;omega
   have hy:=(ZtJ b).get hib;have wy:IntKind.wrap .i64 ((wd b)[i]:Int)=((wd b)[i]:Int):=wrap_i64 (by simp only[Bw]at hy;omega);rw[Zsu hib,ZnF,ZnB,wy,ZnE];refine⟨ZnI (by simp only[Bw]at h1 hy;omega),fin _ ?_⟩;rw[ZDB,ZDD hib];rfl
  ·have hib:¬i < (wd b).length:=by have:=of_decide_eq_false h;omega
   have:=fin 0 (by rw[ey0,if_neg hib]);rw[Int.natCast_zero,Int.sub_zero]at this;exact this
 ·rintro rec ⟨c,o⟩ ⟨hc,hl,hd,hv⟩;unfold ZqY ZpC;dsimp only at hc hl hd hv⊢
  rw[ZnW,ZnV];refine⟨fun h=>by have:=of_decide_eq_true h;omega,fun _=> ?_⟩;rw[ZnB];rw[ZDQ,List.take_of_length_le (by omega),ZrR,ZrR]at hv;have:=Ztb hd;rw[hl]at this;have hc0:c=0:=by
   rcases Nat.eq_zero_or_pos c with h |h
   ·exact h
   ·have:c=1:=by omega
    rw[this,Nat.mul_one]at hv;omega
  rw[hc0,Nat.mul_zero]at hv;exact⟨o,rfl,hd,hl,by omega⟩
 ·rintro y ⟨o,rfl,hd,hl,hv⟩;unfold ZrD;rw[ZvQ hd (by omega),ZnF,ZnB,ZnB,hv]
end Go.Proofs
namespace Go.Proofs
open Go Eng
theorem Zwd (a:Nat) (ha:(wd a).length≤100000):Zn7 (iL (wd a))=some (iL (wd (a / 2))):=by
 refine ZqA ?_;unfold Zn7;rw[List.nil_append,ZnE,ZnF,ZnV];refine⟨ZuE (by rw[List.length_nil];omega), ?_⟩;refine ZoD (Zrr Zt8 (wd a).length (by omega) (fun i (o:List Nat)=>(iL (wd a),((wd a).length:Int),i,iL (o++(wd a).drop o.length))) (fun i o=>o.length=i∧Dg o∧val o*2+(wd a).getD 0 0 % 2=val ((wd a).take i)+Bw ^ i*((wd a).getD i 0 % 2))
  (Q:=fun y=>∃(o:List Nat),y=iL o∧Dg o∧o.length=(wd a).length∧val o=a / 2) [] ⟨rfl,ZvF,by simp[val]⟩ ?_ ?_) ?_
 ·rintro rec i o hi ⟨hol,hod,hov⟩ ih;have h1:=(ZtJ a).get hi;have hyB:=Zwo (ZtJ a) (i+1);have hlen:(o++(wd a).drop o.length).length=(wd a).length:=by simp;omega
  have gx:(iL (o++(wd a).drop o.length))[i]? =some ((wd a)[i]:Int):=by rw[ZvE (by omega)];congr 2;rw[List.getElem_append_right (by omega)];simp[hol]
  have fin:∀z:Nat,z=(wd a)[i] / 2+(wd a).getD (i+1) 0*2 ^ 31 % Bw→wp (Zo0 (fun a t9 i out=>rec (a,t9,i,out)) (iL (wd a)) ((wd a).length:Int) (i:Int) (iL ((o++(wd a).drop o.length).set i z))) (fun y=>∃(o:List Nat),y=iL o∧Dg o∧o.length=(wd a).length∧val o=a / 2):=fun z hz=>by
   unfold Zo0;have es:(o++(wd a).drop o.length).set i z=(o++[z])++(wd a).drop (o++[z]).length:=by rw[List.set_append_right _ _ (by omega),hol,Nat.sub_self,←ZDF (h:=hi),List.set_cons_zero];simp[hol]
   have eg:(wd a).getD i 0=(wd a)[i]:=by rw[ZDB,ZDD hi];rfl
   rw[eg]at hov;rw[ZnE,es];generalize ex:(wd a)[i]=x at*
   generalize ey:(wd a).getD (i+1) 0=y at*
   have hzB:z < Bw:=by simp only[Bw]at h1 hz⊢;omega
   refine⟨ZnI (by omega),ih (o++[z]) ⟨by simp[hol],hod.app (Zvu hzB), ?_⟩⟩;have hd1:z*2+x % 2=x+Bw*(y % 2):=by simp only[Bw]at h1 hz⊢;omega
   have q1:Bw ^ i*(z*2+x % 2)=Bw ^ i*(x+Bw*(y % 2)):=by rw[hd1]
   rw[ZD6,ZD6]at q1;rw[Ztq,hol,Zn1 hi,ex,ZEd,Nat.add_mul,ZD7,ZD7];omega
  unfold ZqO Zpx;dsimp only;rw[ZnW];refine⟨fun _=> ?_,fun h=>by have:=of_decide_eq_false h;omega⟩;have esh:shrK .u32 ((wd a)[i]:Int) 1=(((wd a)[i] / 2:Nat):Int):=ZvH 1 (by omega);rw[ZDw,gx,ZnE,ZnF,ZnB,ZnE,ZnE,ZnE,esh,Zvc,ZnV,ZnV,hlen,ZnW];refine⟨Zrd ⟨by omega,by omega⟩,by decide,Zrd ⟨by omega,by omega⟩,ZnI (by omega),fun h=> ?_,fun h=> ?_⟩
  ·have hi2:i+1 < (wd a).length:=by have:=of_decide_eq_true h;omega
   have gz:(iL ((o++(wd a).drop o.length).set i ((wd a)[i] / 2)))[i]? =some (((wd a)[i] / 2:Nat):Int):=by rw[ZvE (by rw[List.length_set];omega),List.getElem_set_self]
   have e1:(i:Int)+1=((i+1:Nat):Int):=rfl;have eg:(wd a).getD (i+1) 0=(wd a)[i+1]:=by rw[ZDB,ZDD hi2];rfl
   have eor:orK .u32 (((wd a)[i] / 2:Nat):Int) (shlK .u32 ((wd a)[i+1]:Int) 31)=(((wd a)[i] / 2+(wd a).getD (i+1) 0*2 ^ 31 % Bw:Nat):Int):=by rw[eg,show (31:Int)=((31:Nat):Int)from rfl,Zxw 31 (by omega),Zxc (by simp only[Bw]at h1;omega) (ZD5 _ (by decide))];congr 1;exact ZwP (by decide) (by simp only[Bw]at h1;omega) ((ZtJ a).get hi2)
   rw[e1,Zsu hi2,gz,ZnE,ZnF,ZnB,ZnE,ZnF,ZnB,ZnE,ZnE,eor,ZnV,List.length_set,hlen,Zvc,List.set_set];exact⟨Zrd ⟨by omega,by omega⟩,ZnI (by omega),by decide,Zrd ⟨by omega,by omega⟩,fin _ rfl⟩
  ·have hi2:¬i+1 < (wd a).length:=by have:=of_decide_eq_false h;omega
   refine fin _ ?_;rw[ZDB,ZDE (by omega)];simp
 ·rintro rec o ⟨hol,hod,hov⟩;unfold ZqO Zpx;dsimp only;rw[ZnW];refine⟨fun h=>by have:=of_decide_eq_true h;omega,fun _=> ?_⟩;rw[ZnB];have eg:(wd a).getD (wd a).length 0=0:=by rw[ZDB,ZDE (by omega)];rfl
  rw[eg,Nat.zero_mod,Nat.mul_zero,Nat.add_zero,ZDQ,ZrR]at hov;refine⟨o,by rw[hol,List.drop_length,List.append_nil],hod,hol, ?_⟩;omega
 ·rintro y ⟨o,rfl,hd,hl,hv⟩;unfold Zrk;rw[ZvQ hd (by omega),ZnF,ZnB,ZnB,hv]
end Go.Proofs
namespace Go.Proofs
open Go Eng
theorem Zxe {a:Nat} (h:a≠0):idx (iL (wd a)) 0=some ((a % Bw:Nat):Int):=by rw[ZvP h];rfl
theorem Zwp {a:Nat}:(andK .u32 ((a % Bw:Nat):Int) 1 == 0)=decide (a % 2=0):=by
 rw[show (1:Int)=((1:Nat):Int)from rfl,ZwX (ZD5 _ (by decide)) (by decide),Nat.and_one_is_mod];have e:a % Bw % 2=a % 2:=by simp only[Bw];omega
 rw[e]
 by_cases h:a % 2=0
 ·rw[h];rfl
 ·rw[decide_eq_false h];exact beq_eq_false_iff_ne.2 (by omega)
theorem ZxR (P:Nat→Prop) {f:Nat→List Int×List Int×Int→Option (List Int×List Int×Int)} (y:List Int) (k:Int)
  (hf:∀n x,x≠0→(wd x).length≤100000→f (n+1) (iL (wd x),y,k)=if x % 2=0 then f n (iL (wd (x / 2)),y,k)else some (iL (wd x),y,k))
  (hP:∀x,P (2*x)→P x):∀(n x:Nat),x≠0→(wd x).length≤100000→P x→(∀m,x < 2 ^ m→m≤n→∃z,f n (iL (wd x),y,k)=some (iL (wd z),y,k)∧z % 2=1∧z≤x∧P z)
 |0,x,hx,hl,hp,m,hm,hmn=>by
  have:m=0:=by omega
  subst this;rw[ZEe]at hm;omega
 |n+1,x,hx,hl,hp,m,hm,hmn=>by
  rw[hf n x hx hl]
  by_cases h:x % 2=0
  ·rw[if_pos h];cases m with
   |zero=>rw[ZEe]at hm;omega
   |succ m=>
    obtain⟨z,h1,h2,h3,h4⟩:=ZxR P y k hf hP n (x / 2) (by omega) (ZD0 (ZrB (ZDW x 2)) hl) (hP _ (by rwa [show 2*(x / 2)=x by omega])) m (by rw[ZEd]at hm;omega) (by omega);exact⟨z,h1,h2,by omega,h4⟩
  ·rw[if_neg h];exact⟨x,rfl,by omega,ZDZ _,hp⟩
end Go.Proofs
namespace Go.Proofs
open Go Eng
theorem ZtU (x:Nat):x < 2 ^ (x.log2+1):=Nat.lt_log2_self
theorem Zu9 {x n:Nat} (h:(wd x).length≤n):x.log2≤32*n:=by
 rcases Nat.eq_zero_or_pos x with rfl |hp
 ·rw[Nat.log2_zero];omega
 ·have h1:=Nat.log2_self_le (n:=x) (by omega);have h2:=ZD2 (ZsH x) (ZEc (n:=Bw) (by decide) h);rw[show Bw=2 ^ 32 from rfl,←Nat.pow_mul]at h2;exact ZDY ((Nat.pow_lt_pow_iff_right (a:=2) (by decide)).1 (ZD1 h1 h2))
theorem ZyI {x b:Nat} (hb:b % 2=1):ZDX (2*x) b=ZDX x b:=by
 have hc:Nat.Coprime 2 b:=by unfold Nat.Coprime;rw[Nat.gcd_rec,hb,Nat.gcd_one_left]
 exact Nat.Coprime.gcd_mul_left_cancel x hc
theorem ZC0 (y:List Int) (k:Int) {x:Nat} (b:Nat) (hb:b % 2=1) (hx:x≠0) (hl:(wd x).length≤100000):∃z,ZnY big (iL (wd x)) y k=some (iL (wd z),y,k)∧z % 2=1∧z≤x∧ZDX z b=ZDX x b:=by
 have hm:=Zu9 hl;refine ZxR (fun z=>ZDX z b=ZDX x b) (f:=fun n t=>ZnY n t.1 t.2.1 t.2.2) y k (fun n x hx hl=> ?_) (fun z h=>by rwa [ZyI hb]at h) big x hx hl rfl (x.log2+1) (ZtU x) (ZDY (Zws (by omega)));show ZoM (ZnY n) (iL (wd x)) y k=_;unfold ZoM;rw[Zxe hx,ZEh,Zwp]
 by_cases h:x % 2=0
 ·rw[decide_eq_true h,cond_true,if_pos h,Zwd x hl,ZEh]
 ·rw[decide_eq_false h,cond_false,if_neg h]
end Go.Proofs
namespace Go.Proofs
open Go Eng
theorem ZzA (y:List Int) (k:Int) {x:Nat} (ho:x % 2=1):ZnY big (iL (wd x)) y k=some (iL (wd x),y,k):=by obtain⟨n,hn⟩:=ZAJ 1 (by decide);rw[hn];show ZoM (ZnY n) (iL (wd x)) y k=_;unfold ZoM;rw[Zxe (by omega),ZEh,Zwp,decide_eq_false (by omega),cond_false]
theorem ZCZ (w:List Int) (k:Int) {y:Nat} (b:Nat) (hb:b % 2=1) (hy:y≠0) (hl:(wd y).length≤100000):∃z,ZnX big w (iL (wd y)) k=some (w,iL (wd z),k)∧z % 2=1∧(z≤y∧(y % 2=0→z≤y / 2))∧ZDX z b=ZDX y b:=by
 have hm:=Zu9 hl;have step:∀n x,x≠0→(wd x).length≤100000→ZnX (n+1) w (iL (wd x)) k=if x % 2=0 then ZnX n w (iL (wd (x / 2))) k else some (w,iL (wd x),k):=fun n x hx hl=>by
  show ZqZ (ZnX n) w (iL (wd x)) k=_;unfold ZqZ;rw[Zxe hx,ZEh,Zwp]
  by_cases h:x % 2=0
  ·rw[decide_eq_true h,cond_true,if_pos h,Zwd x hl,ZEh]
  ·rw[decide_eq_false h,cond_false,if_neg h]
 have key:∀(n x m:Nat),x≠0→(wd x).length≤100000→x < 2 ^ m→m≤n→∃z,ZnX n w (iL (wd x)) k=some (w,iL (wd z),k)∧z % 2=1∧(z≤x∧(x % 2=0→z≤x / 2))∧ZDX z b=ZDX x b:=by
  intro n
  induction n with
  |zero=>
   intro x m hx hl hm hmn;have:m=0:=by omega
   subst this;rw[ZEe]at hm;omega
  |succ n ih=>
   intro x m hx hl hm hmn;rw[step n x hx hl]
   by_cases h:x % 2=0
   ·rw[if_pos h];cases m with
    |zero=>rw[ZEe]at hm;omega
    |succ m=>
     obtain⟨z,h1,h2,h3,h4⟩:=ih (x / 2) m (by omega) (ZD0 (ZrB (ZDW x 2)) hl) (by rw[ZEd]at hm;omega) (by omega);refine⟨z,h1,h2,⟨by omega,fun _=>h3.1⟩, ?_⟩;rw[h4,←ZyI hb,show 2*(x / 2)=x by omega]
   ·rw[if_neg h];exact⟨x,rfl,by omega,⟨ZDZ _,fun h'=>absurd h' h⟩,rfl⟩
 exact key big y (y.log2+1) hy hl (ZtU y) (ZDY (Zws (by omega)))
end Go.Proofs
namespace Go.Proofs
open Go Eng
theorem Zzj (k:Int):∀(n x y p q:Nat),x % 2=1→(wd x).length≤100000→(wd y).length≤100000→x < 2 ^ p→y < 2 ^ q→p+q+y % 2 < n→ZnL n (iL (wd x)) (iL (wd y)) k=some (iL (wd (ZDX x y)),k)
 |0,x,y,p,q,_,_,_,_,_,h=>absurd h (by omega)
 |n+1,x,y,p,q,ho,hxl,hyl,hp,hq,hn=>by
  show ZoN (ZnL n) _ _ _=_;unfold ZoN;rw[ZnV]
  by_cases h0:y=0
  ·subst h0;rw[Zsf,Nat.gcd_zero_right];rfl
  ·have hl:=Zrq h0;obtain⟨z,hz,hz1,hz2,hz3⟩:=ZCZ (iL (wd x)) k x ho h0 hyl;rw[decide_eq_true (by omega),cond_true,ZzA _ _ ho,ZEh];dsimp only;unfold ZrH;rw[hz,ZEh];dsimp only;have hzl:=ZD0 (ZrB hz2.1) hyl;unfold ZrG;rw[ZyN x z hxl hzl,ZEh];obtain⟨q',hq',hq2⟩:∃q',z < 2 ^ q'∧q'+1≤q+y % 2:=by
    by_cases he:y % 2=0
    ·cases q with
     |zero=>rw[ZEe]at hq;omega
     |succ q=>
      refine⟨q, ?_,by omega⟩;have:=hz2.2 he;rw[ZEd]at hq;omega
    ·exact⟨q,by omega,by omega⟩
   unfold Zqg;have eg:ZDX x y=ZDX x z:=by rw[Nat.gcd_comm x y,←hz3,Nat.gcd_comm]
   rw[eg]
   by_cases hc:z < x
   ·rw[ZtT hc,show decide ((1:Int) > 0)=true from rfl,cond_true,Zxr x z (by omega) hxl,ZEh,Zzj k n z (x - z) q' p hz1 hzl (ZD0 (ZrB (Nat.sub_le x z)) hxl) hq' (by omega) (by omega),Nat.gcd_sub_self_right (by omega),Nat.gcd_comm]
   ·have hnc:decide (ZwZ x z > 0)=false:=by refine decide_eq_false ?_;unfold ZwZ;rw[if_neg hc];split<;>decide
    rw[hnc,cond_false,Zxr z x (by omega) hzl,ZEh,Zzj k n x (z - x) p q' ho hxl (ZD0 (ZrB (Nat.sub_le z x)) hzl) hp (by omega) (by omega),Nat.gcd_sub_self_right (by omega)]
end Go.Proofs
namespace Go.Proofs
open Go Eng
theorem ZBn:∀(n x y j m:Nat),x≠0→y≠0→(wd x).length≤100000→(wd y).length≤100000→x < 2 ^ m→m≤n→j+m≤1000000000→
  ∃x' y' t:Nat,Zoy n (iL (wd x)) (iL (wd y)) (j:Int)=some (iL (wd x'),iL (wd y'),((j+t:Nat):Int))∧(x' % 2=1∨y' % 2=1)∧ZDX x y=2 ^ t*ZDX x' y'∧x'≠0∧y'≠0∧x'≤x∧y'≤y∧t≤m
 |0,x,y,j,m,hx,hy,hxl,hyl,hm,hmn,hj=>by
  have:m=0:=by omega
  subst this;rw[ZEe]at hm;omega
 |n+1,x,y,j,m,hx,hy,hxl,hyl,hm,hmn,hj=>by
  show ∃x' y' t:Nat,Zq0 (Zoy n) _ _ _=_∧_;unfold Zq0 Zqh;rw[Zxe hx,ZEh,Zwp]
  by_cases h1:x % 2=0
  ·rw[decide_eq_true h1,cond_true,Zxe hy,ZEh,Zwp]
   by_cases h2:y % 2=0
   ·cases m with
    |zero=>rw[ZEe]at hm;omega
    |succ m=>
     rw[decide_eq_true h2,cond_true,Zwd x hxl,ZEh,Zwd y hyl,ZEh,ZnI (by omega),chk_true];obtain⟨x',y',t,q1,q2,q3,q4,q5,q6,q7,q8⟩:=ZBn n (x / 2) (y / 2) (j+1) m (by omega) (by omega) (ZD0 (ZrB (ZDW x 2)) hxl) (ZD0 (ZrB (ZDW y 2)) hyl) (by rw[ZEd]at hm;omega) (by omega) (by omega);refine⟨x',y',t+1, ?_,q2, ?_,q4,q5,by omega,by omega,by omega⟩
     ·rw[show (j:Int)+1=((j+1:Nat):Int)from rfl,q1,show j+1+t=j+(t+1) by omega]
     ·have:=Nat.gcd_mul_left 2 (x / 2) (y / 2);rw[show 2*(x / 2)=x by omega,show 2*(y / 2)=y by omega]at this;rw[this,q3,ZEd,ZD8 (2 ^ t) 2,ZD7]
   ·rw[decide_eq_false h2,cond_false];exact⟨x,y,0,rfl,.inr (by omega),by rw[ZEe,ZEa],hx,hy,ZDZ _,ZDZ _,Nat.zero_le _⟩
  ·rw[decide_eq_false h1,cond_false,cond_false];exact⟨x,y,0,rfl,.inl (by omega),by rw[ZEe,ZEa],hx,hy,ZDZ _,ZDZ _,Nat.zero_le _⟩
theorem ZBm:∀(k n a:Nat),k < n→k≤1000000000→(wd (2 ^ k*a)).length≤100000→Zox n (iL (wd a)) (k:Int)=some (iL (wd (2 ^ k*a)))
 |k,0,a,h,_,_=>absurd h (by omega)
 |0,n+1,a,_,_,_=>by show ZoL (Zox n) _ _=_;unfold ZoL;rw[ZEe,ZEa];rfl
 |k+1,n+1,a,h,hk,hl=>by
  show ZoL (Zox n) _ _=_;unfold ZoL;have e:2 ^ (k+1)*a=2 ^ k*(2*a+0):=by rw[ZEd,ZD7,Nat.add_zero]
  have ha:(wd a).length≤100000:=ZD0 (ZrB (Nat.le_mul_of_pos_left a (ZEg _))) hl;rw[e]at hl;have ht:=ZxI a 0 (by omega) ha;rw[Int.natCast_zero]at ht;rw[decide_eq_true (by omega),cond_true,ht,ZEh,show ((k+1:Nat):Int) - 1=(k:Int) by omega,ZnI (by omega),chk_true,ZBm k n (2*a+0) (by omega) (by omega) hl,e]
theorem ZAD (a b:Nat) (ha0:a≠0) (hb0:b≠0) (ha:(wd a).length≤50000) (hb:(wd b).length≤50000):Zp0 (iL (wd a)) (iL (wd b))=some (iL (wd (ZDX a b))):=by
 have hla:=Zu9 ha;have hlb:=Zu9 hb;obtain⟨x,y,t,q1,q2,q3,q4,q5,q6,q7,q8⟩:=ZBn big a b 0 (a.log2+1) ha0 hb0 (by omega) (by omega) (ZtU a) (ZDY (Zws (by omega))) (by omega);rw[Int.natCast_zero,Nat.zero_add]at q1;have hxl:=ZD0 (ZrB q6) ha;have hyl:=ZD0 (ZrB q7) hb;have hlx:=Zu9 hxl;have hly:=Zu9 hyl;have main:ZnL big (iL (wd x)) (iL (wd y)) (t:Int)=some (iL (wd (ZDX x y)),(t:Int)):=by
  by_cases hx:x % 2=1
  ·exact Zzj _ big x y _ _ hx (by omega) (by omega) (ZtU x) (ZtU y) (Zws (by omega))
  ·have hy:y % 2=1:=by omega
   obtain⟨z,z1,z2,z3,z4⟩:=ZC0 (iL (wd y)) (t:Int) y hy q4 (by omega);have hzl:=ZD0 (ZrB z3) hxl;have hlz:=Zu9 hzl;have e:=Zzj (t:Int) big z y _ _ z2 (by omega) (by omega) (ZtU z) (ZtU y) (Zws (by omega));rw[z4]at e;rw[←e];obtain⟨n,hn⟩:∃n,big=n+1:=⟨36893488147419103231,by rw[big_eq]⟩;have s1:∀u,ZnL big (iL (wd u)) (iL (wd y)) (t:Int)=ZoN (ZnL n) (iL (wd u)) (iL (wd y)) (t:Int):=fun u=>by rw[hn];rfl
   rw[s1,s1];unfold ZoN;have hl:=Zrq q5;rw[ZnV,decide_eq_true (by omega),cond_true,cond_true,z1,ZzA _ _ z2]
 have hg:(wd (2 ^ t*ZDX x y)).length≤100000:=by rw[←q3];exact ZD0 (Zyi (by omega) hb) (by omega)
 unfold Zp0;rw[q1,ZEh];dsimp only;unfold ZrI ZrF ZrE;rw[main,ZEh];dsimp only;rw[ZBm t big _ (Zws (by omega)) (by omega) hg,ZEh,q3]
end Go.Proofs
namespace Go.Proofs
open Go Eng
theorem ZyO {l:List Nat} {i:Nat} (hd:Dg l) (h:i / 32 < l.length):l[i / 32] / 2 ^ (i % 32) % 2=val l / 2 ^ i % 2:=by
 have e:=Zuw h;have hlt:=Ztb (hd.take (i / 32));rw[ZDK,ZD4 (by omega)]at hlt;have hi:2 ^ i=Bw ^ (i / 32)*2 ^ (i % 32):=by rw[show Bw=2 ^ 32 from rfl,←Nat.pow_mul,←Nat.pow_add,ZDU]
 have hr:i % 32 < 32:=ZD5 _ (by decide);have hB:Bw=2 ^ (i % 32)*(2*2 ^ (31 - i % 32)):=by rw[show 2*2 ^ (31 - i % 32)=2 ^ (31 - i % 32+1) by rw[ZEd,ZD8],←Nat.pow_add,show i % 32+(31 - i % 32+1)=32 by omega]
 have e1:val l / Bw ^ (i / 32)=l[i / 32]+Bw*val (l.drop (i / 32+1)):=by rw[e,ZDS _ _ (Nat.pow_pos (by decide)),ZDV hlt,Nat.zero_add]
 rw[hi,←Nat.div_div_eq_div_mul,e1];generalize l[i / 32]=x;generalize val (l.drop (i / 32+1))=y;have e2:(x+Bw*y) / 2 ^ (i % 32)=x / 2 ^ (i % 32)+2*(2 ^ (31 - i % 32)*y):=by rw[hB,ZD7,ZDS _ _ (ZEg _),ZD7]
 rw[e2,ZDT]
end Go.Proofs
namespace Go.Proofs
open Go Eng
theorem Zzu (i:Nat):Int.tdiv (i:Int) 32=((i / 32:Nat):Int):=by rw[Int.tdiv_eq_ediv_of_nonneg (by omega)];norm_cast
theorem Zzt (i:Nat):IntKind.wrap .u64 (Int.tmod (i:Int) 32)=((i % 32:Nat):Int):=by rw[Int.tmod_eq_emod_of_nonneg (by omega),IntKind.wrap_u64];omega
theorem ZBS {l:List Nat} {i:Nat} (hd:Dg l) (h:i / 32 < l.length) (hi:i≤1000000000):Zp1 (iL l) (i:Int)=some ((val l / 2 ^ i % 2:Nat):Int):=by have h1:=hd.get h;unfold Zp1;rw[Zzu,Zzt,decide_eq_true (by decide),chk_true,ZnI (by omega),chk_true,Zsu h,ZEh,chk_true,decide_eq_true (by omega),chk_true,ZvH _ (by omega),show (1:Int)=((1:Nat):Int)from rfl,ZwX (ZD1 (ZDW _ _) h1) (by decide),Nat.and_one_is_mod,ZyO hd h]
end Go.Proofs
namespace Go.Proofs
open Go Eng
theorem Zzw {x j:Nat} (h:x / 2 ^ j % 2=0):x|||2 ^ j=x+2 ^ j:=by
 have hlo:=ZD5 x (ZEg j);have e:x=2 ^ (j+1)*(x / 2 ^ j / 2)+x % 2 ^ j:=by
  have h1:=ZDU x (2 ^ j);have h2:2*(x / 2 ^ j / 2)=x / 2 ^ j:=by omega
  rw[ZEd,ZD7,h2,h1]
 have a1:=ZEf (i:=j+1) (b:=x % 2 ^ j) (by rw[ZEd];omega) (x / 2 ^ j / 2);have a2:=ZEf (i:=j) (b:=x % 2 ^ j) hlo 1;have a3:=ZEf (i:=j+1) (b:=2 ^ j*1+x % 2 ^ j) (by rw[ZEd];omega) (x / 2 ^ j / 2);rw[Nat.mul_one]at a2 a3;generalize x / 2 ^ j / 2=t at*
 generalize x % 2 ^ j=lo at*
 rw[e,a1,Nat.or_assoc,Nat.or_comm lo,←a2,←a3,←a1];omega
theorem ZAf {j:Nat} (hj:j≤31):shlK .u32 1 (j:Int)=((2 ^ j:Nat):Int):=by have:=Zxw (a:=1) j (by omega);rw[ZEa,Nat.mod_eq_of_lt (ZD1 (ZEc (by decide) hj) (by decide))]at this;exact this
theorem ZyG {A k:Nat}:A / 2 ^ k=2*(A / 2 ^ (k+1))+A / 2 ^ k % 2:=by rw[ZEd,←Nat.div_div_eq_div_mul];omega
theorem ZyJ (a b:Nat) (hb0:b≠0) (ha:(wd a).length≤50000) (hb:(wd b).length≤50000):Zo7 (iL (wd a)) (iL (wd b))=some (iL (wd (a / b)),iL (wd (a % b))):=by
 have hlen:∀k,(wd (2*(a / 2 ^ (k+1) % b)+a / 2 ^ k % 2)).length≤50001:=fun k=>by
  have h1:=ZD5 (a / 2 ^ (k+1)) (ZEb hb0);have h2:2*(a / 2 ^ (k+1) % b)+a / 2 ^ k % 2≤b+b:=by omega
  exact ZD0 (ZrB h2) (Zyk hb hb)
 refine ZqA ?_;unfold Zo7;rw[ZnE,ZnE,ZnE,ZnF,ZnV,ZDw,ZwB];refine⟨Zvz (by omega),ZnI (by omega),ZnI (by omega), ?_⟩;have e0:(32*((wd a).length:Int)) - 1=((32*(wd a).length:Nat):Int) - 1:=by omega
 rw[e0,show ([]:List Int)=iL (wd 0) by rw[Zsf];rfl];refine ZoD (ZvX Zun (32*(wd a).length) (by omega) (fun i (q:Nat×List Nat)=>(iL (wd a),iL (wd b),iL (wd q.1),i,iL q.2))
  (fun k q=>q.1=a / 2 ^ k % b∧Dg q.2∧q.2.length=(wd a).length∧val q.2=a / 2 ^ k / b*2 ^ k)
  (Q:=fun y=>∃o:List Nat,y=(iL (wd (a % b)),iL o)∧Dg o∧o.length=(wd a).length∧val o=a / b) (0,List.replicate (wd a).length 0) ?_ ?_ ?_) ?_
 ·have h0:a / 2 ^ (32*(wd a).length)=0:=by refine ZDV ?_;rw[Nat.pow_mul];exact ZsH a
  rw[h0,Nat.zero_mod,Nat.zero_div,Nat.zero_mul];exact⟨rfl,ZzB _,List.length_replicate,Zyl _⟩
 ·rintro rec k ⟨r,q⟩ hk ⟨hr,hd,hl,hv⟩ ih;dsimp only at hr hd hl hv;have hk32:k / 32 < (wd a).length:=by omega
  unfold Zq1 ZpD;dsimp only;have hbit:=ZBS (i:=k) (ZtJ a) hk32 (by omega);rw[ZrR]at hbit;have h2:a / 2 ^ k % 2≤1:=by omega
  have htw:=ZxI r (a / 2 ^ k % 2) h2 (by
   rw[hr];exact ZD0 (ZrB (ZDY (ZD5 _ (ZEb hb0)))) (by omega))
  have hlk:=hlen k;rw[←hr]at hlk;have hx:=ZyG (A:=a) (k:=k);have hdm:=ZDU (a / 2 ^ (k+1)) b;rw[←hr]at hdm;have hrlt:r < b:=by rw[hr];exact ZD5 _ (ZEb hb0)
  rw[ZnW];refine⟨fun _=> ?_,fun h=>by have:=of_decide_eq_false h;omega⟩;rw[hbit,ZnF,ZnB,htw,ZnF,ZnB,ZyN _ _ (by omega) (by omega),ZnF,ZnB,ZnW];have nx:∀r' q',(r'=a / 2 ^ k % b∧Dg q'∧q'.length=(wd a).length∧val q'=a / 2 ^ k / b*2 ^ k)→wp (Zpg (fun a b r_ i q=>rec (a,b,r_,i,q)) (iL (wd a)) (iL (wd b)) (iL (wd r')) (k:Int) (iL q')) (fun y=>∃o:List Nat,y=(iL (wd (a % b)),iL o)∧Dg o∧o.length=(wd a).length∧val o=a / b):=fun r' q' h=>by unfold Zpg;rw[ZnE];exact⟨ZnI (by omega),ih (r',q') h⟩
  generalize eX:a / 2 ^ (k+1)=X at*
  generalize ed:a / 2 ^ k % 2=d at*
  refine⟨fun hc=> ?_,fun hc=> ?_⟩
  ·have hge:b≤2*r+d:=by
    rcases ZD3 (2*r+d) b with h |h
    ·rw[Zt9 h]at hc;exact absurd (of_decide_eq_true hc) (by decide)
    ·exact h
   have hq:k / 32 < q.length:=by omega
   have hz:q[k / 32] / 2 ^ (k % 32) % 2=0:=by rw[ZyO hd hq,hv,ZEd,←ZD7,Nat.mul_right_comm,Nat.mul_div_cancel _ (ZEg k)];omega
   have hx32:=hd.get hq;rw[Zxr _ _ hge (by omega),ZnF,ZnB,Zzu,Zzt,ZDw,ZnE,ZnE,ZnE,ZvE hq,ZnF,ZnB,ZnE,ZnE,ZnE,ZAf (by omega),Zxc hx32 (ZD1 (ZEc (by decide) (show k % 32≤31 by omega)) (by decide)),Zzw hz,Zvc,ZnV];refine⟨by decide,ZnI (by omega),Zrd ⟨by omega,by omega⟩,by decide,decide_eq_true (by omega),Zrd ⟨by omega,by omega⟩, ?_⟩;have hsum:q[k / 32]+2 ^ (k % 32) < Bw:=by
    have hB:Bw=2 ^ (k % 32)*(2*2 ^ (31 - k % 32)):=by rw[show 2*2 ^ (31 - k % 32)=2 ^ (31 - k % 32+1) by rw[ZEd,ZD8],←Nat.pow_add,show k % 32+(31 - k % 32+1)=32 by omega]
    rw[←Zzw hz];exact Nat.or_lt_two_pow (n:=32) hx32 (ZD1 (ZEc (by decide) (show k % 32≤31 by omega)) (by decide))
   refine nx (2*r+d - b) (q.set (k / 32) (q[k / 32]+2 ^ (k % 32))) ⟨?_,hd.set _ hsum,by rw[List.length_set,hl], ?_⟩
   ·rw[hx,show 2*X+d=(2*r+d - b)+b*(2*(X / b)+1) by rw[ZD6,ZD9];omega,ZDT,Nat.mod_eq_of_lt (by omega)]
   ·have hvs:=Zvl q (k / 32) (q[k / 32]+2 ^ (k % 32)) hq;have hp:Bw ^ (k / 32)*2 ^ (k % 32)=2 ^ k:=by rw[show Bw=2 ^ 32 from rfl,←Nat.pow_mul,←Nat.pow_add,ZDU]
    rw[ZD6,hp]at hvs;have e1:(2*X+d) / b=2*(X / b)+1:=by rw[show 2*X+d=(2*r+d - b)+b*(2*(X / b)+1) by rw[ZD6,ZD9];omega,ZDS _ _ (ZEb hb0),ZDV (by omega),Nat.zero_add]
    rw[hx,e1];rw[hv,ZEd]at hvs;have e2:X / b*(2 ^ k*2)=2*(X / b)*2 ^ k:=by rw[ZD8 (2 ^ k) 2,←ZD7,ZD8 (X / b) 2]
    rw[Nat.add_mul,ZEa];omega
  ·have hlt:2*r+d < b:=by
    rcases ZD3 (2*r+d) b with h |h
    ·exact h
    ·rcases ZD3 b (2*r+d)with h' |h'
     ·rw[ZtT h']at hc;exact absurd (of_decide_eq_false hc) (by decide)
     ·rw[show 2*r+d=b by omega,Zt6]at hc;exact absurd (of_decide_eq_false hc) (by decide)
   have e0:2*X+d=(2*r+d)+b*(2*(X / b)):=by rw[ZD9];omega
   refine nx (2*r+d) q ⟨?_,hd,hl, ?_⟩
   ·rw[hx,e0,ZDT,Nat.mod_eq_of_lt hlt]
   ·rw[hx,e0,ZDS _ _ (ZEb hb0),ZDV hlt,Nat.zero_add,hv,ZEd,ZD8 (2 ^ k) 2,←ZD7,ZD8 (X / b) 2]
 ·rintro rec ⟨r,q⟩ ⟨hr,hd,hl,hv⟩;dsimp only at hr hd hl hv;rw[ZEe,Nat.div_one]at hr hv;unfold Zq1 ZpD;dsimp only;rw[ZnW];refine⟨fun h=>by have:=of_decide_eq_true h;omega,fun _=> ?_⟩;rw[ZnB,hr];exact⟨q,rfl,hd,hl,by rw[hv,Nat.mul_one]⟩
 ·rintro y ⟨o,rfl,hd,hl,hv⟩;dsimp only;unfold ZrJ;rw[ZvQ hd (by omega),ZnF,ZnB,ZnB,hv]
end Go.Proofs
namespace Go.Proofs
open Go Eng
theorem Zyd (n:Int):Rat.divInt n 1=(n:Rat):=by have h:=Rat.num_divInt_den (n:Rat);rw[Rat.num_intCast,Rat.den_intCast]at h;exact h
end Go.Proofs
namespace Go.Proofs
open Go Eng
theorem ZvL (z:Int) (h1: -9223372036854775808≤z) (h2:z≤9223372036854775807):Zn5 z=some (bg z):=by
 have key:∀(b:Bool) (n:Nat),n < 18446744073709551616→Zoe b [IntKind.wrap .u32 (n:Int),IntKind.wrap .u32 (shrK .u64 (n:Int) 32)]=some (bg (if b then -(n:Int)else n)):=fun b n h=>by
  have e:([IntKind.wrap .u32 (n:Int),IntKind.wrap .u32 (shrK .u64 (n:Int) 32)]:List Int)=iL [n % 4294967296,n / 4294967296]:=by rw[show (32:Int)=((32:Nat):Int)from rfl,Zvn 32 (by omega),Zs6,Ztk (by omega)];rfl
  have hd:Dg [n % 4294967296,n / 4294967296]:=fun d hd=>by
   simp only[ZDM,ZDN,ZDO,or_false]at hd;rcases hd with rfl |rfl
   ·exact ZD5 _ (by decide)
   ·simp only[Bw];omega
  have hv:val [n % 4294967296,n / 4294967296]=n:=by simp only[val,Nat.mul_zero,Nat.add_zero];exact Nat.mod_add_div n Bw
  rw[e,ZxD b hd (by simp),hv]
 unfold Zn5 Zpm;have h32:decide (0≤(32:Int))=true:=rfl
 by_cases hz:z < 0
 ·have e:IntKind.wrap .u64 (0 - IntKind.wrap .u64 z)=((z.natAbs:Nat):Int):=by rw[IntKind.wrap_u64,IntKind.wrap_u64];omega
  rw[decide_eq_true hz,cond_true,h32,chk_true,e,key true _ (by omega),ZEh,if_pos rfl,show -((z.natAbs:Nat):Int)=z by omega]
 ·have e:IntKind.wrap .u64 z=((z.natAbs:Nat):Int):=by rw[IntKind.wrap_u64];omega
  rw[decide_eq_false hz,cond_false,h32,chk_true,e,key false _ (by omega),ZEh,if_neg (by decide),show ((z.natAbs:Nat):Int)=z by omega]
theorem ZAK:bg 0=⟨false,[]⟩:=by unfold bg;rw[show (0:Int).natAbs=0 from rfl,Zsf];rfl
theorem Zx8 (x y:Int) (hy:y≠0) (hx1:Wl 50000 x) (hy1:Wl 50000 y):Zpe (bg x) (bg y)=some (fOf (Rat.divInt x y)):=by
 unfold Zpe
 by_cases hx:x=0
 ·subst hx;rw[Rat.zero_divInt,ZpY,ZnV,show (0:Int).natAbs=0 from rfl,Zsf,ZvL 1 (by decide) (by decide)];show some (ZnA.mk ⟨false,[]⟩ (bg 1))=some (fOf 0);rw[←ZAK];rfl
 ·have hx0:0 < x.natAbs:=by omega
  have hy0:0 < y.natAbs:=by omega
  have hg0:ZDX x.natAbs y.natAbs≠0:=fun e=>by have:=Nat.gcd_pos_of_pos_right x.natAbs hy0;omega
  have hgl:=Zyi (x:=x.natAbs) hy0 hy1;have hxl:=ZxG (ZDX x.natAbs y.natAbs) hx1;have hyl:=ZxG (ZDX x.natAbs y.natAbs) hy1;have h:=ZuX x y hy hx1 hy1;unfold ZoC at h;rw[ZpY,ZpY,Zwr _ _ hx1 hy1,ZEh,Zv0 _ _ hg0 hx1 hgl,ZEh]at h;dsimp only at h;rw[Zv0 _ _ hg0 hy1 hgl,ZEh]at h;dsimp only at h;rw[Zso _ _ (by omega),ZEh,Zso _ _ (by omega),ZEh]at h;have hlen:=Zrq (n:=x.natAbs) (by omega);rw[←h,ZpY,ZpY,ZnV,beq_eq_false_iff_ne.2 (by omega),cond_false,ZAD _ _ (by omega) (by omega) hx1 hy1,ZEh,ZyJ _ _ hg0 hx1 hgl,ZEh];dsimp only;rw[ZyJ _ _ hg0 hy1 hgl,ZEh];dsimp only;rw[ZxD _ (ZtJ _) (by omega),ZEh,ZxD _ (ZtJ _) (by omega),ZEh,ZrR,ZrR]
theorem Zze (x y:Int) (hy:y≠0) (hx1:Wl 256 x) (hy1:Wl 256 y):ZpF (bg x) (bg y)=some (fOf (Rat.divInt x y),0):=by unfold ZpF ZpU;rw[ZvC,ZvG x hx1,ZEh,ZBb,cond_false,ZvC,ZvG y hy1,ZEh,ZBb,cond_false,ZvY hy,cond_false,Zx8 x y hy (ZD0 hx1 (by decide)) (ZD0 hy1 (by decide)),ZEh]
theorem ZBh (x y:Int) (hy:y≠0) (h1: -9223372036854775808≤x) (h2:x≤9223372036854775807) (h3: -9223372036854775808≤y) (h4:y≤9223372036854775807):Zqn x y=some (fOf (Rat.divInt x y),0):=by unfold Zqn;rw[ZvL x h1 h2,ZEh,ZvL y h3 h4,ZEh,Zze x y hy (ZCJ h1 h2) (ZCJ h3 h4),ZEh]
theorem Zwi (x y:Int) (hy:y≠0) (h1: -9223372036854775808≤x) (h2:x≤9223372036854775807) (h3: -9223372036854775808≤y) (h4:y≤9223372036854775807):Zoa x y=some (fOf (Rat.divInt x y)):=by unfold Zoa;rw[Ztj];unfold Zsg;rw[ZBh x y hy h1 h2 h3 h4,ZEh]
theorem ZxW (x:Int) (h1: -9223372036854775808≤x) (h2:x≤9223372036854775807):ZoF x=some (fOf (x:Rat)):=by unfold ZoF;rw[Ztj];unfold Zsx;rw[Zwi x 1 (by decide) h1 h2 (by decide) (by decide),ZEh,Zyd]
theorem ZA5 {a b:Nat} (h:wd a=wd b):a=b:=by rw[←ZrR a,←ZrR b,h]
theorem Zwy (x y:Int) (hx:Wl 100000 x) (hy:Wl 100000 y):Zoq (bg x) (bg y)=some (decide (x=y)):=by
 unfold Wl at hx hy;refine ZqA ?_;unfold Zoq Zpk;rw[Zvg,Zvg,ZpY,ZpY,ZnV,ZnV]
 by_cases hs:decide (x < 0)=decide (y < 0)
 ·rw[hs,beq_self_eq_true,ZBb,cond_false]
  by_cases hl:(wd x.natAbs).length=(wd y.natAbs).length
  ·rw[hl,bne_self_eq_false,cond_false,ZnF];refine ZoD (Zrr ZtM (wd y.natAbs).length (by omega) (fun i (_:Unit)=>(iL (wd x.natAbs),((wd y.natAbs).length:Int),i,bg y)) (fun i _=>(wd x.natAbs).take i=(wd y.natAbs).take i)
    (Q:=fun r=>r= .ret false∧wd x.natAbs≠wd y.natAbs∨r= .brk ()∧wd x.natAbs=wd y.natAbs) () (by rw[List.take_zero,List.take_zero]) ?_ ?_) ?_
   ·rintro rec i ⟨⟩ hi hP ih;have hi2:i < (wd x.natAbs).length:=by omega
    unfold Zp6 ZoV;dsimp only;rw[ZnW];refine⟨fun _=> ?_,fun h=>by have:=of_decide_eq_false h;omega⟩;rw[ZpY,Zsu hi2,ZnF,ZnB,Zsu hi,ZnF,ZnB,ZnW];refine⟨fun h=> ?_,fun h=> ?_⟩
    ·rw[ZnB];refine .inl ⟨rfl,fun e=> ?_⟩;have h1:(wd y.natAbs)[i]=(wd x.natAbs)[i]:=by simp only[e]
     rw[h1,bne_self_eq_false]at h;exact absurd h (by decide)
    ·rw[ZnE];refine⟨ZnI (by omega),ih () ?_⟩;rw[bne_eq_false_iff_eq]at h;have h1:(wd y.natAbs)[i]=(wd x.natAbs)[i]:=by omega
     rw[ZDR hi2,ZDR hi,hP,h1]
   ·rintro rec ⟨⟩ hP;unfold Zp6 ZoV;dsimp only;rw[ZnW];refine⟨fun h=>by have:=of_decide_eq_true h;omega,fun _=> ?_⟩;rw[ZnB];rw[ZDQ,←hl,ZDQ]at hP;exact .inr ⟨rfl,hP⟩
   ·rintro r (⟨rfl,h⟩ |⟨rfl,h⟩)
    ·exact ZnB.2 (decide_eq_false (fun e=>h (by rw[e]))).symm
    ·unfold ZqE;have h1:=ZA5 h;refine ZnB.2 (decide_eq_true ?_).symm
     by_cases hy0:y < 0
     ·have hx0:x < 0:=by rw[decide_eq_true hy0]at hs;exact of_decide_eq_true hs
      omega
     ·have hx0:¬x < 0:=by rw[decide_eq_false hy0]at hs;exact of_decide_eq_false hs
      omega
  ·have:(((wd x.natAbs).length:Int) != ((wd y.natAbs).length:Int))=true:=by rw[bne_iff_ne];omega
   rw[this,cond_true,ZnB];exact(decide_eq_false (fun e=>hl (by rw[e]))).symm
 ·rw[beq_eq_false_iff_ne.2 hs,Bool.not_false,cond_true,cond_true,ZnB];exact(decide_eq_false (fun e=>hs (by rw[e]))).symm
theorem Zwh (p q:Rat) (hp:Wq 256 p) (hq:Wq 256 q):Zos (fOf p) (fOf q)=some (decide (p=q)):=by
 have m:∀{x:Int},Wl 256 x→Wl 100000 x:=fun h=>ZD0 h (by decide)
 unfold Zos ZpT fOf;dsimp only;rw[Zwy _ _ (m hp.1) (m hq.1),ZEh]
 by_cases h1:p.num=q.num
 ·rw[decide_eq_true h1,cond_true,Zwy _ _ (m hp.2) (m hq.2),ZEh];congr 1
  by_cases h2:p.den=q.den
  ·rw[decide_eq_true (by omega),decide_eq_true (Rat.ext h1 h2)]
  ·rw[decide_eq_false (by omega),decide_eq_false (fun e=>h2 (by rw[e]))]
 ·rw[decide_eq_false h1,cond_false,decide_eq_false (fun e=>h1 (by rw[e]))]
end Go.Proofs
namespace Go.Proofs
open Go Eng
theorem ZAH:∀x y:Str,Op.bytesLess x y=decide (x < y)
 |x,[]=>by
  have:¬x < []:=by simp
  rw[decide_eq_false this];cases x<;>rfl
 | [],b::y=>by
  have:([]:Str) < b::y:=by simp
  rw[decide_eq_true this];rfl
 |a::x,b::y=>by rw[Op.bytesLess,ZAH x y,Bool.eq_iff_iff];simp only[Bool.or_eq_true,Bool.and_eq_true,decide_eq_true_eq,beq_iff_eq];rw[List.cons_lt_cons_iff]
def Srt (l:List Str):Prop:=l.Pairwise (fun a b=>a≤b)∧l.Nodup
theorem Zxt (l:List Str):Srt (Zsn l):=⟨Zvx l,ZtO l⟩
theorem Zw7 {l:List Str} (h:Srt l) {i j:Nat} (hij:i < j) (hj:j < l.length):l[i] < l[j]:=by
 have h1:=ZDP.1 h.1 i j (by omega) hj hij;have h2:=ZDP.1 h.2 i j (by omega) hj hij;rcases List.le_iff_lt_or_eq.1 h1 with h3 |h3
 ·exact h3
 ·exact absurd h3 h2
theorem ZAr (x y:Str):Zsc x y=some (decide (x < y)):=by unfold Zsc ZrA ZqL;rw[show (x == x)=true by simp];rw[←ZAH];rfl
theorem ZBj {i j:Nat} (h:i+j≤4611686018427387904):IntKind.wrap .i64 (shrK .u64 (IntKind.wrap .u64 ((i:Int)+(j:Int))) 1)=(((i+j) / 2:Nat):Int):=by rw[show (i:Int)+(j:Int)=((i+j:Nat):Int) by omega,Zn3 (by omega),show (1:Int)=((1:Nat):Int)from rfl,Zvn 1 (by decide),wrap_i64 (by omega)]
theorem Zyq {xs:List Str} (hs:Srt xs) (hl:xs.length≤1000000000000) (t:Str):wp (Zn0 xs t) (fun r=>r.2=xs.contains t):=by
 unfold Zn0;rw[ZnF];refine ZoD (ZuU Zsy (fun(s:Nat×Nat)=>(xs,t,(xs.length:Int),(s.1:Int),(s.2:Int)))
  (fun s=>(s.1≤s.2∧s.2≤xs.length)∧(∀k (h:k < xs.length),k < s.1→xs[k] < t)∧(∀k (h:k < xs.length),s.2≤k→¬xs[k] < t)) (fun s=>s.2 - s.1)
  (Q:=fun x=>∃i:Nat,x=(xs,t,(xs.length:Int),(i:Int))∧i≤xs.length∧(∀k (h:k < xs.length),k < i→xs[k] < t)∧(∀k (h:k < xs.length),i≤k→¬xs[k] < t)) (0,xs.length) ⟨⟨Nat.zero_le _,ZDZ _⟩,fun k _ h=>absurd h (Nat.not_lt_zero _),fun k h h'=>absurd h (by dsimp only at h';omega)⟩ (by dsimp only;omega) ?_) ?_
 ·rintro rec ⟨i,j⟩ ⟨⟨h1,h2⟩,hlo,hhi⟩ ih;dsimp only at h1 h2 hlo hhi ih⊢
  unfold Zqd ZoE;dsimp only;rw[ZBj (by omega)];rw[ZnW];refine⟨fun h=> ?_,fun h=> ?_⟩
  ·simp only[decide_eq_true_eq]at h;have hij:i < j:=by omega
   have hm:(i+j) / 2 < xs.length:=by omega
   rw[ZnE,ZnE];refine⟨ZnI (by omega),by decide, ?_⟩;rw[Zua hm,ZEh,ZAr,ZEh,ZnW];refine⟨fun hc=> ?_,fun hc=> ?_⟩
   ·simp only[decide_eq_true_eq]at hc;rw[ZnE];refine⟨ZnI (by omega), ?_⟩;have:=ih ((i+j) / 2+1,j) ⟨⟨by dsimp only;omega,h2⟩,fun k hk hlt=> ?_,hhi⟩ (by dsimp only;omega)
    ·dsimp only at this
     rwa [show (((i+j) / 2+1:Nat):Int)=(((i+j) / 2:Nat):Int)+1 by omega]at this
    ·dsimp only at hlt;rcases ZD3 k ((i+j) / 2)with h3 |h3
     ·exact List.lt_trans (Zw7 hs h3 hm) hc
     ·obtain rfl:k=(i+j) / 2:=by omega
      exact hc
   ·simp only[decide_eq_false_iff_not]at hc;refine ih (i,(i+j) / 2) ⟨⟨by dsimp only;omega,by dsimp only;omega⟩,hlo,fun k hk hle=> ?_⟩ (by dsimp only;omega);dsimp only at hle;rcases ZD3 ((i+j) / 2) k with h3 |h3
    ·exact fun h4=>hc (List.lt_trans (Zw7 hs h3 hk) h4)
    ·obtain rfl:k=(i+j) / 2:=by omega
     exact hc
  ·simp only[decide_eq_false_iff_not]at h;obtain rfl:i=j:=by omega
   rw[ZnB];exact⟨i,rfl,h2,hlo,hhi⟩
 ·rintro x ⟨i,rfl,hi,hlo,hhi⟩;dsimp only;unfold ZoW ZnM;have key:xs.contains t=true↔∃h:i < xs.length,xs[i]=t:=by
   rw[ZDy];constructor
   ·intro hm;obtain⟨k,hk,hkt⟩:=List.getElem_of_mem hm;have h1:i≤k:=by
     rcases ZD3 k i with h |h
     ·have:=hlo k hk h;rw[hkt]at this;exact absurd this (List.lt_irrefl t)
     ·exact h
    rcases ZD3 i k with h |h
    ·have h2:=Zw7 hs h hk;rw[hkt]at h2;exact absurd h2 (hhi i (by omega) (ZDZ _))
    ·obtain rfl:i=k:=by omega
     exact⟨hk,hkt⟩
   ·rintro⟨h,rfl⟩;exact ZDG h
  rw[ZnW];refine⟨fun h=> ?_,fun h=> ?_⟩
  ·simp only[decide_eq_true_eq]at h;have hi':i < xs.length:=by omega
   rw[Zua hi',ZEh,ZnW];refine⟨fun hc=> ?_,fun hc=> ?_⟩
   ·rw[ZnB];exact(key.2 ⟨hi',by simpa using hc⟩).symm
   ·have hn:xs.contains t=false:=by rw[Bool.eq_false_iff];intro h3;obtain⟨_,h4⟩:=key.1 h3;rw[h4]at hc;simp at hc
    rw[ZEh];unfold Zqq;rw[ZEh,show (xs[i] == xs[i])=true by simp,ZBb,cond_false,ZnB,hn]
  ·simp only[decide_eq_false_iff_not]at h;rw[ZnB]
   symm
   rw[Bool.eq_false_iff];intro h3;obtain⟨h4,_⟩:=key.1 h3;omega
def comm (a b:List Str):Nat:=(a.filter fun x=>b.contains x).length
theorem Zv3 (a b:List Str):comm a b≤a.length:=ZDI _ _
theorem Zyp {a b:List Str} (hb:Srt b) (hla:a.length≤1000000000000) (hlb:b.length≤1000000000000):Zq3 a b=some (comm a b:Int):=by
 refine ZqA ?_;unfold Zq3;rw[ZnF];refine ZoD (Zrr ZuR a.length (by omega) (fun i (n:Nat)=>(b,(n:Int),a,(a.length:Int),i)) (fun i n=>n=comm (a.take i) b)
  (Q:=fun x=>x=(comm a b:Int)) 0 (by simp[comm]) ?_ ?_) ?_
 ·rintro rec i n hi rfl ih;unfold Zr4 Zqt;dsimp only;rw[decide_eq_true (show (i:Int) < (a.length:Int) by omega),cond_true,Zua hi,ZEh,ZnF];refine ZoD (Zyq hb hlb _) fun⟨q,ok⟩ hok=> ?_
  dsimp only at hok⊢
  have hc:comm (a.take (i+1)) b=comm (a.take i) b+(if b.contains a[i]then 1 else 0):=by unfold comm;rw[ZDR hi,ZDz,ZDH];congr 1;cases h:b.contains a[i]<;>(simp only[ZDA,h,List.filter_nil];rfl)
  have hle:=Zv3 (a.take i) b;rw[ZDK]at hle;have hk:inK .i64 ((i:Int)+1)=true:=ZnI (by omega);unfold Zrf;rw[ZnW];refine⟨fun h=> ?_,fun h=> ?_⟩
  ·rw[ZnE,ZnE];refine⟨ZnI (by omega),hk, ?_⟩;have:=ih (comm (a.take i) b+1) (by rw[hc,←hok,h];rfl)
   rwa [show ((comm (a.take i) b+1:Nat):Int)=(comm (a.take i) b:Int)+1 by omega]at this
  ·rw[ZnE];exact⟨hk,ih (comm (a.take i) b) (by rw[hc,←hok,h];rfl)⟩
 ·rintro rec n rfl;unfold Zr4 Zqt;dsimp only;rw[decide_eq_false (show ¬(a.length:Int) < (a.length:Int) by omega),cond_false,ZnB,ZDQ]
 ·rintro x rfl;unfold Zsz;rw[ZnB]
end Go.Proofs
namespace Go.Proofs
open Go Eng
theorem ZwM {x y:Int} (hy:y≠0) (h1:x.natAbs < 16) (h2:y.natAbs < 16):Sz 4 (Rat.divInt x y):=Zvm (k:=4) hy h1 h2
theorem ZDb:Zqz [48]=Zry false [] [1] false false [] []:=by kernel_rfl
theorem dec0:Zqz [48]=some (fOf (Rat.divInt 0 1),true):=by
 rw[ZDb];unfold Zry;have e0:iL (wd 0)=[]:=by kernel_rfl
 have e1:iL (wd 1)=[1]:=by kernel_rfl
 have l0:Nat.ble (wd 0).length 50000=true:=by kernel_rfl
 have l1:Nat.ble (wd 1).length 50000=true:=by kernel_rfl
 have w0:=Nat.le_of_ble_eq_true l0;have w1:=Nat.le_of_ble_eq_true l1;have h1:=Zso false 0 (by omega);have h2:=Zso false 1 (by omega);rw[e0]at h1;rw[e1]at h2;rw[h1,ZEh,h2,ZEh];have:=ZuX 0 1 (by decide) w0 w1;simp only[Bool.false_eq_true,if_false];rw[show ((0:Nat):Int)=0 from rfl,show ((1:Nat):Int)=1 from rfl,this,ZEh]
theorem can0:ZrZ 4 [48]=some ([48],true):=by
 have h:ZrZ 4 [48]=(ZsJ [48]).bind fun(a,b)=>some (a,b):=by kernel_rfl
 rw[h];unfold ZsJ;rw[dec0];show _=_
 kernel_rfl
theorem valZ:ZpG (ZnG.mk false [48])=some (fOf (Rat.divInt 0 1),true):=by
 unfold ZpG Zuk;rw[can0];dsimp only;rw[cond_false,ZEh];dsimp only;rw[ZBb,cond_false,dec0];show _=_
 kernel_rfl
def ZCW:List (Str×Int):=[([45,51], -3),([45,50], -2),([45,49], -1),([49],1),([50],2),([51],3),([52],4),([53],5),([54],6),([55],7),([56],8),([49,48],10)]
def ZAz:List (Str×Int):=[([45,49,46,53], -3),([49,46,53,48],3)]
def noT:List Str:=[[97],[98],[99],[100],[120],[],[49,46,50,46,51],[107,48],[107,49],[107,50],[107,51],[107,52],[107,53],[107,54],[107,55],[107,56],[107,57],[107,49,48],[107,49,49],[107,49,50],[107,49,51]]
def fx (n:Int) (d:Int):ZnA:=⟨⟨decide (n < 0),if n=0 then []else [(n.natAbs:Int)]⟩,⟨false,[d]⟩⟩
theorem Zyy:(ZCW.all fun p=>decide (ZpG (ZnG.mk false p.1)=some (fx p.2 1,true)))=true:=by kernel_rfl
theorem Zzk:(ZAz.all fun p=>decide (ZpG (ZnG.mk false p.1)=some (fx p.2 2,true)))=true:=by kernel_rfl
theorem Zzy:(noT.all fun s=>match ZpG (ZnG.mk false s)with |some (_,false)=>true |_=>false)=true:=by kernel_rfl
theorem ZBu:(ZCW.all fun p=>decide (fx p.2 1=fOf (Rat.divInt p.2 1))&&decide (p.2.natAbs < 16))=true:=by kernel_rfl
theorem ZAE:(ZAz.all fun p=>decide (fx p.2 2=fOf (Rat.divInt p.2 2))&&decide (p.2.natAbs < 16))=true:=by kernel_rfl
def texts:List Str:=[48]::(ZCW.map (·.1)++ZAz.map (·.1)++noT)
def Zy2 (c:ZnG):Prop:=c=ZnG.mk true []∨∃s∈texts,c=ZnG.mk false s
theorem Zy5 {c:ZnG} (h:Zy2 c):(∃q,ZpG c=some (fOf q,true)∧Sz 4 q)∨(∃f,ZpG c=some (f,false)):=by
 rcases h with rfl |⟨s,hs,rfl⟩
 ·refine .inr ⟨fOf 0, ?_⟩;unfold ZpG;dsimp only;rw[cond_true,ZwI];rfl
 ·rcases ZDM.1 hs with rfl |hs
  ·exact .inl ⟨_,valZ,ZwM (by decide) (by decide) (by decide)⟩
  ·rcases ZDL.1 hs with hs |hs
   ·rcases ZDL.1 hs with hs |hs
    ·obtain⟨p,hp,rfl⟩:=List.mem_map.1 hs;have h1:=of_decide_eq_true (ZDx.1 Zyy p hp);have h2:=ZDx.1 ZBu p hp;simp only[Bool.and_eq_true,decide_eq_true_eq]at h2;rw[h2.1]at h1;exact .inl ⟨_,h1,ZwM (by decide) h2.2 (by decide)⟩
    ·obtain⟨p,hp,rfl⟩:=List.mem_map.1 hs;have h1:=of_decide_eq_true (ZDx.1 Zzk p hp);have h2:=ZDx.1 ZAE p hp;simp only[Bool.and_eq_true,decide_eq_true_eq]at h2;rw[h2.1]at h1;exact .inl ⟨_,h1,ZwM (by decide) h2.2 (by decide)⟩
   ·have h1:=ZDx.1 Zzy s hs;split at h1;rotate_left;simp at h1;rename_i f hf;exact .inr ⟨f,hf⟩
open Classical in
noncomputable def nv (c:ZnG):Option Rat:=if h:∃q,ZpG c=some (fOf q,true)∧Sz 4 q then some h.choose else none
theorem Zyw {c:ZnG} {q:Rat} (h:nv c=some q):ZpG c=some (fOf q,true)∧Sz 4 q:=by unfold nv at h;split at h;rotate_left;simp at h;rename_i hx;obtain rfl:=ZEi h;exact hx.choose_spec
theorem Zyx {c:ZnG} (hc:Zy2 c) (h:nv c=none):∃f,ZpG c=some (f,false):=by
 unfold nv at h;split at h
 ·simp at h
 ·rename_i hx;exact(Zy5 hc).resolve_left hx
theorem ZwS {s:Str} (h:texts.contains s=true):Zy2 (ZnG.mk false s):= .inr ⟨s,ZDy.1 h,rfl⟩
theorem Zz5 {d:ZnD} (hd:ZwH d) {l:List Str} (h0:1≤l.length) (h1:l.length≤1000):wp (Zo1 d l) (fun r=>r.1∈l∧ZwH r.2):=by
 unfold Zo1;rw[ZnF];refine ZoD (ZyA hd (by omega)) fun⟨q,d1⟩ ⟨hq,hd1⟩=> ?_
 dsimp only at hq hd1⊢
 rw[ZnF,Zzr];refine⟨hq.1,by omega, ?_⟩;rw[ZnB];exact⟨ZDG _,hd1⟩
end Go.Proofs
namespace Go.Proofs
open Go Eng
def Ztx (name:Str):List Str:=Zsn (ZuT (name++[32]) [])
def Zym (l:List ZnG):List Str:=(l.filter fun x=> !x.Null).map fun x=>x.Text
def ZsI (l:List ZnG):List Str:=Zsn (Zym l)
theorem Zwb {name:Str} (h:name.length≤1000000):Zoo name=some (Ztx name):=by unfold Zoo;rw[Ztj,decide_eq_true (by omega)];rfl
theorem Zw5 {c:ZnJ} (h:c.Cells.length≤1000000):ZqG c=some (ZsI c.Cells):=by unfold ZqG;rw[Ztj,decide_eq_true (by omega)];rfl
theorem ZvO:∀(s cur:List UInt8),(ZuT s cur).length≤s.length
 | [],cur=>by simp[ZuT]
 |b::s,cur=>by
  have h1:=ZvO s [];have h3:=ZvO s (cur++[xwC b]);unfold ZuT;cases xwC b == 0 with
  |true=>
   rw[cond_true];cases cur.isEmpty with
   |true=>rw[cond_true];simp;omega
   |false=>rw[cond_false];simp;omega
  |false=>rw[cond_false];simp;omega
theorem ZvZ (l:List (List UInt8)):(Zsn l).length≤l.length:=by
 have h:∀l:List (List UInt8),(ZtN l).length≤l.length:=by
  intro l
  induction l with
  |nil=>simp[ZtN]
  |cons x r ih=>
   unfold ZtN;cases r.contains x with
   |true=>rw[cond_true];simp;omega
   |false=>rw[cond_false];simp;omega
 unfold Zsn;rw[List.length_mergeSort];exact h l
theorem ZtP (name:Str):(Ztx name).length≤name.length+1:=by have h1:=ZvZ (ZuT (name++[32]) []);have h2:=ZvO (name++[32]) [];simp only[ZDH,ZDJ]at h2;exact ZD0 h1 h2
theorem Zu1 (l:List ZnG):(ZsI l).length≤l.length:=by have h1:=ZvZ (Zym l);unfold Zym at h1;rw[List.length_map]at h1;exact ZD0 h1 (ZDI _ _)
theorem ZyK {a b:List Str} (ha:a.Nodup) (hb:b.Nodup):comm a b=comm b a:=by unfold comm;refine List.Perm.length_eq ((List.perm_ext_iff_of_nodup (ha.filter _) (hb.filter _)).2 fun x=> ?_);simp only[List.mem_filter,ZDy];exact And.comm
theorem ZyL (a:List Str):comm a a=a.length:=by unfold comm;rw[List.filter_eq_self.2];intro x hx;exact ZDy.2 hx
def Zuf (a b:List Str):Rat:=Rat.divInt (comm a b:Int) (max (a.length+b.length - comm a b) 1:Nat)
theorem ZxP {a b:List Str} (hb:Srt b) (hla:a.length≤1000000) (hlb:b.length≤1000000):Zqu a b=some (fOf (Zuf a b)):=by
 have hc:=Zv3 a b;unfold Zqu;rw[Zyp hb (by omega) (by omega),ZEh,ZnI (by omega),ZnI (by omega),chk_true,chk_true];have e:(if (1:Int) > (((a.length:Int)+(b.length:Int)) - (comm a b:Int))then (1:Int)else (((a.length:Int)+(b.length:Int)) - (comm a b:Int)))=((max (a.length+b.length - comm a b) 1:Nat):Int):=by
  rcases ZD3 (a.length+b.length - comm a b) 1 with h |h
  ·rw[if_pos (by omega),Nat.max_eq_right (by omega)];rfl
  ·rw[Nat.max_eq_left h];split<;>omega
 rw[e,Zwc _ _ (by omega) (by omega) (by omega) (by omega) (by omega),ZEh];rfl
theorem Zw9 {a b:List Str} {k:Nat} (hk:a.length+b.length < 2 ^ k) (h1:1 < 2 ^ k):Sz k (Zuf a b):=by have:=Zv3 a b;exact Zvm (by omega) (by omega) (by omega)
theorem ZvK {a:List Str}:Zuf a a=if a=[]then 0 else 1:=by
 unfold Zuf;rw[ZyL];cases a with
 |nil=>rw[if_pos rfl];decide+kernel
 |cons x r=>
  rw[if_neg (by simp)];have e:max ((x::r).length+(x::r).length - (x::r).length) 1=(x::r).length:=by simp
  rw[e,Rat.divInt_self' (by simp only[List.length_cons];omega)]
noncomputable def isN (c:ZnG):Bool:=(nv c).isSome
noncomputable def ZvV (l:List ZnG):Nat:=(l.filter fun x=> !x.Null).length
noncomputable def Zzc (l:List ZnG):Nat:=(l.filter fun x=> !x.Null&&isN x).length
noncomputable def Zud (l:List ZnG):Rat:=Rat.divInt (Zzc l:Int) (max (ZvV l) 1:Nat)
theorem Zxz (l:List ZnG):Zzc l≤ZvV l:=by unfold Zzc ZvV;rw[show (fun x:ZnG=> !x.Null&&isN x)=fun x=>(isN x)&& !x.Null from funext fun x=>Bool.and_comm _ _,←List.filter_filter];exact ZDI _ _
theorem ZwT (l:List ZnG):ZvV l≤l.length:=ZDI _ _
theorem ZwN {c:ZnJ} (hc:∀x∈c.Cells,Zy2 x) (hl:c.Cells.length≤1000):Zo4 c=some (fOf (Zud c.Cells)):=by
 unfold Zo4;rw[Ztj];refine ZqA ?_;unfold ZtD;rw[ZnF];refine ZoD (ZwU ZuV c.Cells (by omega) (fun i (s:Nat×Nat)=>((s.1:Int),(s.2:Int),c.Cells,(c.Cells.length:Int),i,false,false,([]:List Int),([]:List Int))) (fun k s=>s.1=ZvV (c.Cells.take k)∧s.2=Zzc (c.Cells.take k))
  (Q:=fun x=>x=((ZvV c.Cells:Int),(Zzc c.Cells:Int),false,false,([]:List Int),([]:List Int))) (0,0) ⟨by simp[ZvV],by simp[Zzc]⟩ ?_ ?_) ?_
 ·rintro rec k ⟨f,n⟩ hk ⟨hf,hn⟩ ih;dsimp only at hf hn ih;unfold Zsh ZqP Zqs;dsimp only;have hs:c.Cells.take (k+1)=c.Cells.take k++[c.Cells[k]]:=ZDR hk;have b1:=ZwT (c.Cells.take k);have b2:=Zxz (c.Cells.take k);rw[ZDK]at b1;have e1:ZvV (c.Cells.take (k+1))=f+(bif c.Cells[k].Null then 0 else 1):=by rw[hs,hf];unfold ZvV;rw[ZDz,ZDH];cases h:c.Cells[k].Null<;>simp[ZDA,h]
  have e2:Zzc (c.Cells.take (k+1))=n+(bif !c.Cells[k].Null&&isN c.Cells[k]then 1 else 0):=by rw[hs,hn];unfold Zzc;rw[ZDz,ZDH];cases h:(!c.Cells[k].Null&&isN c.Cells[k])<;>simp[ZDA,h]
  rw[decide_eq_true (show (k:Int) < (c.Cells.length:Int) by omega),cond_true,Zua hk,ZEh];cases hnul:c.Cells[k].Null with
  |true=>
   rw[hnul]at e1 e2;rw[cond_true,ZnE];exact⟨ZnI (by omega),ih (f,n) ⟨by rw[e1];rfl,by rw[e2];rfl⟩⟩
  |false=>
   rw[hnul]at e1 e2;rw[cond_false,ZnE];refine⟨ZnI (by omega), ?_⟩;cases hv:nv c.Cells[k]with
   |some q=>
    have hi:isN c.Cells[k]=true:=by unfold isN;rw[hv];rfl
    rw[hi]at e2;rw[(Zyw hv).1,ZEh];dsimp only;rw[cond_true,ZnE,ZnE];refine⟨ZnI (by omega),ZnI (by omega), ?_⟩;have:=ih (f+1,n+1) ⟨by rw[e1];rfl,by rw[e2];rfl⟩
    rwa [show ((f+1:Nat):Int)=(f:Int)+1 by omega,show ((n+1:Nat):Int)=(n:Int)+1 by omega]at this
   |none=>
    have hi:isN c.Cells[k]=false:=by unfold isN;rw[hv];rfl
    rw[hi]at e2;obtain⟨g,hg⟩:=Zyx (hc _ (ZDG hk)) hv;rw[hg,ZEh];dsimp only;rw[cond_false,ZnE];refine⟨ZnI (by omega), ?_⟩;have:=ih (f+1,n) ⟨by rw[e1];rfl,by rw[e2];rfl⟩
    rwa [show ((f+1:Nat):Int)=(f:Int)+1 by omega]at this
 ·rintro rec ⟨f,n⟩ ⟨hf,hn⟩;dsimp only at hf hn;unfold Zsh ZqP;dsimp only;rw[decide_eq_false (show ¬(c.Cells.length:Int) < (c.Cells.length:Int) by omega),cond_false,ZnB,hf,hn,ZDQ]
 ·rintro x rfl;have b1:=ZwT c.Cells;have b2:=Zxz c.Cells;dsimp only;unfold ZsP;have e:(if (1:Int) > (ZvV c.Cells:Int)then (1:Int)else (ZvV c.Cells:Int))=((max (ZvV c.Cells) 1:Nat):Int):=by
   rcases ZD3 (ZvV c.Cells) 1 with h |h
   ·rw[if_pos (by omega),Nat.max_eq_right (by omega)];rfl
   ·rw[Nat.max_eq_left h];split<;>omega
  rw[e,Zwc _ _ (by omega) (by omega) (by omega) (by omega) (by omega),ZEh,ZnB];rfl
theorem Zw8 {l:List ZnG} {k:Nat} (h:l.length < 2 ^ k) (h1:1 < 2 ^ k):Sz k (Zud l):=by have b1:=ZwT l;have b2:=Zxz l;exact Zvm (by omega) (by omega) (by omega)
end Go.Proofs
namespace Go.Proofs
open Go Eng
theorem Zxa {a:Rat}:(ZAh a 0 == 0)=decide (a=0):=by
 unfold ZAh
 by_cases h:a < 0
 ·rw[if_pos h,decide_eq_false (by grind)];rfl
 ·rw[if_neg h]
  by_cases h2:0 < a
  ·rw[if_pos h2,decide_eq_false (by grind)];rfl
  ·rw[if_neg h2,decide_eq_true (by grind)];rfl
theorem Zxb (a b:Rat):(ZAh a b < 0)↔a < b:=by
 unfold ZAh
 by_cases h:a < b
 ·rw[if_pos h];exact⟨fun _=>h,fun _=>by decide⟩
 ·rw[if_neg h];refine⟨fun h2=> ?_,fun h2=>absurd h2 h⟩;split at h2<;>exact absurd h2 (by decide)
def ZA1 (x:Rat):Rat:=if x < 0 then 0 - x else x
def ofQ (v n s t:Rat):Rat:=if v=0∧n=0 then 0 else (v+v+n+(1 - ZA1 (s - t))) / 4
noncomputable def ZBO (a b:ZnJ):Rat:=ofQ (Zuf (ZsI a.Cells) (ZsI b.Cells)) (Zuf (Ztx a.Name) (Ztx b.Name)) (Zud a.Cells) (Zud b.Cells)
structure Zy1 (a:ZnJ):Prop where
 name:a.Name.length≤300
 rows:a.Cells.length≤100
 cells:∀x∈a.Cells,Zy2 x
theorem Zwg (s:Str):Srt (Ztx s):=Zxt _
theorem Zx7 (l:List ZnG):Srt (ZsI l):=Zxt _
theorem Zz7 {a b:ZnJ} (ha:a.Cells.length≤100) (hb:b.Cells.length≤100):Zq4 a b=some (fOf (Zuf (ZsI a.Cells) (ZsI b.Cells))):=by have h1:=Zu1 a.Cells;have h2:=Zu1 b.Cells;unfold Zq4;rw[Zw5 (by omega),ZEh,Zw5 (by omega),ZEh,ZxP (Zx7 _) (by omega) (by omega),ZEh]
theorem ZxT {a b:Str} (ha:a.length≤300) (hb:b.length≤300):Zqw a b=some (fOf (Zuf (Ztx a) (Ztx b))):=by have h1:=ZtP a;have h2:=ZtP b;unfold Zqw;rw[Zwb (by omega),ZEh,Zwb (by omega),ZEh,ZxP (Zwg _) (by omega) (by omega),ZEh]
theorem Zz6 {a b:ZnJ} (ha:a.Cells.length≤100) (hb:b.Cells.length≤100):Sz 10 (Zuf (ZsI a.Cells) (ZsI b.Cells)):=by have h1:=Zu1 a.Cells;have h2:=Zu1 b.Cells;exact Zw9 (by omega) (by decide)
theorem ZxS {a b:Str} (ha:a.length≤300) (hb:b.length≤300):Sz 10 (Zuf (Ztx a) (Ztx b)):=by have h1:=ZtP a;have h2:=ZtP b;exact Zw9 (by omega) (by decide)
theorem ZxL:Sz 1 1:=by unfold Sz;decide
theorem ZAn:ZtV 1 1=some (fOf 1):=by
 have:=Zwc 1 1 (by decide) (by decide) (by decide) (by decide) (by decide)
 rwa [show Rat.divInt 1 1=1 by decide+kernel]at this
theorem ZAm:ZtV 4 1=some (fOf 4):=by
 have:=Zwc 4 1 (by decide) (by decide) (by decide) (by decide) (by decide)
 rwa [show Rat.divInt 4 1=4 by decide+kernel]at this
theorem ZAa:Sz 3 4:=by unfold Sz;decide
theorem ZAP {x:Rat} {k:Nat} (h:Sz k x) (hk:1≤k):Sz (k+2) (ZA1 x):=by
 unfold ZA1;split
 ·have:=Zxq.add h.neg;rw[show (0:Rat) - x=0+ -x by grind];exact this.mono (by omega)
 ·exact h.mono (by omega)
theorem ZBe {v n ap:Rat} (hv:Sz 10 v) (hn:Sz 10 n) (ha:Sz 30 ap):Zru false false (fOf v) (fOf n) (fOf ap) [] []=some (fOf ((v+v+n+(1 - ap)) / 4)):=by
 unfold Zru;have h1:=hv.add hv;have h2:=h1.add hn;have h3:Sz 32 (1 - ap):=by rw[show (1:Rat) - ap=1+ -ap by grind];exact(ZxL.add ha.neg).mono (by decide)
 have h4:=h2.add h3;rw[Zwm hv hv (by decide),ZEh,Zwm h1 hn (by decide),ZEh,ZAn,ZEh,Zwl ZxL ha (by decide),ZEh,Zwm h2 h3 (by decide),ZEh,ZAm,ZEh,
  Zyz (by decide) h4 ZAa (by decide),ZEh]
theorem ZBf {a b:ZnJ} (ha:Zy1 a) (hb:Zy1 b) {v n:Rat} (hv:Sz 10 v) (hn:Sz 10 n):
  Zqv false a b false false (fOf v) (fOf n) [] []=some (fOf ((v+v+n+(1 - ZA1 (Zud a.Cells - Zud b.Cells))) / 4)):=by
 unfold Zqv;have hr1:=ha.rows;have hr2:=hb.rows;have h1:Sz 10 (Zud a.Cells):=Zw8 (by omega) (by decide);have h2:Sz 10 (Zud b.Cells):=Zw8 (by omega) (by decide);have h3:Sz 21 (Zud a.Cells - Zud b.Cells):=by rw[Rat.sub_eq_add_neg];exact h1.add h2.neg
 rw[cond_false,ZwN ha.cells (by omega),ZEh,ZwN hb.cells (by omega),ZEh,Zwl h1 h2 (by decide),ZEh,Zxv (h3.wq (by decide)),ZEh];have h4:=ZAP h3 (by decide);unfold ZA1 at h4⊢
 by_cases h:Zud a.Cells - Zud b.Cells < 0
 ·rw[decide_eq_true ((Zxb _ _).2 h),cond_true,ZwI,ZEh,Zwl Zxq h3 (by decide),ZEh];rw[if_pos h]at h4⊢
  exact ZBe hv hn (h4.mono (by decide))
 ·rw[decide_eq_false (fun h5=>h ((Zxb _ _).1 h5)),cond_false];rw[if_neg h]at h4⊢
  exact ZBe hv hn (h4.mono (by decide))
theorem ZBN {a b:ZnJ} (ha:Zy1 a) (hb:Zy1 b):Zr5 a b=some (fOf (ZBO a b)):=by
 unfold Zr5 ZBO ofQ;have hv:=Zz6 ha.rows hb.rows;have hn:=ZxS ha.name hb.name;rw[Zz7 ha.rows hb.rows,ZEh,ZxT ha.name hb.name,ZEh,Zxv (hv.wq (by decide)),ZEh,Zxa]
 by_cases h1:Zuf (ZsI a.Cells) (ZsI b.Cells)=0
 ·rw[decide_eq_true h1,cond_true,Zxv (hn.wq (by decide)),ZEh,Zxa]
  by_cases h2:Zuf (Ztx a.Name) (Ztx b.Name)=0
  ·rw[decide_eq_true h2,if_pos ⟨h1,h2⟩];unfold Zqv;rw[cond_true,ZwI,ZEh]
  ·rw[decide_eq_false h2,if_neg (fun h=>h2 h.2)];exact ZBf ha hb hv hn
 ·rw[decide_eq_false h1,cond_false,if_neg (fun h=>h1 h.1)];exact ZBf ha hb hv hn
theorem ZyM (a:ZnJ):ZBO a a=if Ztx a.Name=[]then (if ZsI a.Cells=[]then 0 else 3 / 4)else (if ZsI a.Cells=[]then 1 / 2 else 1):=by
 unfold ZBO;rw[ZvK,ZvK];unfold ofQ ZA1;have e:Zud a.Cells - Zud a.Cells=0:=by grind
 rw[e]
 by_cases h1:Ztx a.Name=[]<;>by_cases h2:ZsI a.Cells=[]<;>simp only[h1,h2,if_true,if_false]<;>decide+kernel
end Go.Proofs
namespace Go.Proofs
open Go Eng
theorem Zv5 {a b:List Str} (ha:a.length≤1000000):Zoc a b=some (decide (a=b)):=by
 unfold Zoc
 by_cases hl:a.length=b.length
 ·rw[show ((a.length:Int) != (b.length:Int))=false by rw[hl];simp,cond_false];have key:wp (Zol big b a (a.length:Int) 0) (fun x=>x=if a=b then .brk ()else .ret false):=by
   refine ZwU Ztv a (by omega) (fun i (_:Unit)=>(b,a,(a.length:Int),i)) (fun k _=>a.take k=b.take k) () (by simp) ?_ ?_
   ·rintro rec k _ hk he ih;unfold ZpA ZoA;dsimp only;have hkb:k < b.length:=by omega
    rw[decide_eq_true (show (k:Int) < (a.length:Int) by omega),cond_true,Zua hk,ZEh,Zua hkb,ZEh]
    by_cases h:b[k]=a[k]
    ·rw[show (b[k] == a[k])=true by simpa using h,ZBb,cond_false,ZnE];refine⟨ZnI (by omega),ih () ?_⟩;rw[ZDR hk,ZDR hkb,he,h]
    ·rw[show (b[k] == a[k])=false by simpa using h,Bool.not_false,cond_true,ZnB,if_neg];intro e;subst e;exact h rfl
   ·rintro rec _ he;unfold ZpA ZoA;dsimp only;rw[decide_eq_false (show ¬(a.length:Int) < (a.length:Int) by omega),cond_false,ZnB,if_pos];have h2:=he;rw[ZDQ,hl,ZDQ]at h2;exact h2
  obtain⟨x,hx,rfl⟩:=key;rw[hx,ZEh]
  by_cases h:a=b
  ·rw[if_pos h,decide_eq_true h];rfl
  ·rw[if_neg h,decide_eq_false h]
 ·rw[show ((a.length:Int) != (b.length:Int))=true by simp;omega,cond_true,decide_eq_false (fun e=>hl (by rw[e]))]
theorem ZwJ {l r:List Str} (h1:r.Pairwise (fun a b=>a≤b)) (h2:r.Nodup) (h:∀x,x∈l↔x∈r):Zsn l=r:=
 Zu4 (Zvx l) h1 (ZtO l) h2 fun x=>by rw[Ztw,h]
def Zxk:Str:=[85,110,105,116,32,80,114,105,99,101,95,50]
def ZvM:ZnJ:=⟨Zxk,[⟨false,[49]⟩,⟨false,[120]⟩]⟩
theorem ZxY:Ztx Zxk=[[50],[112,114,105,99,101],[117,110,105,116]]:=by
 have e:ZuT (Zxk++[32]) []=[[117,110,105,116],[112,114,105,99,101],[50]]:=by decide+kernel
 unfold Ztx;rw[e];exact ZwJ (by decide+kernel) (by decide+kernel) (fun x=>by simp only[ZDM,ZDO,or_false];constructor<;>(rintro(h |h |h)<;>simp[h]))
theorem ZAN:Zy1 ZvM:=⟨by decide,by decide,fun x hx=>by
 simp only[ZvM,ZDM,ZDO,or_false]at hx;rcases hx with rfl |rfl
 ·exact ZwS (by kernel_rfl)
 ·exact ZwS (by kernel_rfl)⟩
theorem ZyR:ZsI ZvM.Cells≠[]:=by
 intro h;have:([49]:Str)∈ZsI ZvM.Cells:=by unfold ZsI;rw[Ztw];decide+kernel
 rw[h]at this;simp at this
theorem ZAw:isN ⟨false,[49]⟩=true:=by
 unfold isN;cases h:nv ⟨false,[49]⟩with
 |some q=>rfl
 |none=>
  obtain⟨f,hf⟩:=Zyx (ZwS (by kernel_rfl)) h;have h1:=of_decide_eq_true (ZDx.1 Zyy ([49],1) (by decide+kernel));rw[hf]at h1;simp at h1
theorem ZC1:isN ⟨false,[120]⟩=false:=by
 unfold isN;cases h:nv ⟨false,[120]⟩with
 |none=>rfl
 |some q=>
  have hf:=(Zyw h).1;have h1:=ZDx.1 Zzy [120] (by decide+kernel);rw[hf]at h1;simp at h1
theorem Zzp:Zud ZvM.Cells=1 / 2:=by
 unfold Zud Zzc ZvV;have e1:(ZvM.Cells.filter fun x=> !x.Null&&isN x)=[⟨false,[49]⟩]:=by simp[ZvM,ZAw,ZC1]
 have e2:(ZvM.Cells.filter fun x=> !x.Null)=ZvM.Cells:=by decide+kernel
 rw[e1,e2];decide+kernel
theorem ZAx:ZoF 1=some (fOf 1):=ZxW 1 (by decide) (by decide)
theorem Zyu:Zoa 1 2=some (fOf (1 / 2)):=by rw[Zwi 1 2 (by decide) (by decide) (by decide) (by decide) (by decide)];congr 2;decide+kernel
theorem Zyn:Sz 2 (1 / 2):=by unfold Sz;decide+kernel
theorem ZyQ:ZoH=some true:=by
 unfold ZoH ZoP;show (Zoo Zxk).bind _=_;rw[Zwb (by decide),ZEh,ZxY,Zv5 (by decide),ZEh,decide_eq_true rfl,cond_true];show (Zr5 ZvM ZvM).bind _=_;have e:ZBO ZvM ZvM=1:=by rw[ZyM,if_neg (by rw[show ZvM.Name=Zxk from rfl,ZxY];simp),if_neg ZyR]
 rw[ZBN ZAN ZAN,ZEh,e,ZAx,ZEh,Zwh _ _ (ZxL.wq (by decide)) (ZxL.wq (by decide)),ZEh,decide_eq_true rfl,cond_true];show (Zo4 ZvM).bind _=_;rw[ZwN ZAN.cells (by decide),ZEh,Zzp,Zyu,ZEh,Zwh _ _ (Zyn.wq (by decide)) (Zyn.wq (by decide)),ZEh,decide_eq_true rfl]
end Go.Proofs
namespace Go.Proofs
open Go Eng
theorem Zxu (l:List Str):Srt l↔l.Pairwise (fun a b=>a < b):=by
 constructor
 ·intro h;rw[ZDP];intro i j hi hj hij;exact Zw7 h hij hj
 ·intro h;refine⟨h.imp fun h=>List.le_of_lt h, ?_⟩;exact h.imp fun {a b} h e=>by subst e;exact List.lt_irrefl _ h
theorem ZyB {a w:Str} (h:¬a < w) (hne:a≠w):w < a:=by
 rcases List.le_iff_lt_or_eq.1 (List.not_lt.1 h)with h1 |h1
 ·exact h1
 ·exact absurd h1.symm hne
theorem Zx9:((List.range 256).all fun n=>decide (Zpb (n:Int)=some (((xwC n.toUInt8).toNat:Nat):Int)))=true:=by kernel_rfl
theorem ZyD (b:UInt8):Zpb ((b.toNat:Nat):Int)=some (((xwC b).toNat:Nat):Int):=by
 have:=of_decide_eq_true (ZDx.1 Zx9 b.toNat (List.mem_range.2 b.toNat_lt))
 rwa [show b.toNat.toUInt8=b from UInt8.ofNat_toNat]at this
theorem ZBa {ws:List Str} {w:Str} (hl:ws.length≤1000):ZpZ (Zsn ws) w=some (Zsn (ws++[w])):=by
 have hs:=Zxt ws;have hlen:=ZvZ ws;have hmem:∀x,x∈Zsn ws↔x∈ws:=Ztw ws;generalize Zsn ws=l at hs hlen hmem;refine ZqA ?_;unfold ZpZ;rw[ZnF];refine ZoD (ZuU Zul (fun(i:Nat)=>(l,w,(i:Int))) (fun i=>i≤l.length∧∀k (h:k < l.length),k < i→l[k] < w) (fun i=>l.length - i)
  (Q:=fun x=>∃i:Nat,x=(l,w,(i:Int))∧i≤l.length∧(∀k (h:k < l.length),k < i→l[k] < w)∧∀h:i < l.length,¬l[i] < w) 0 ⟨Nat.zero_le _,fun k _ h=>absurd h (Nat.not_lt_zero _)⟩ (by omega) ?_) ?_
 ·rintro rec i ⟨hi,hlo⟩ ih;unfold ZsL ZqV Zqf;dsimp only;rw[ZnW];refine⟨fun h=> ?_,fun h=> ?_⟩
  ·simp only[decide_eq_true_eq]at h;have hi':i < l.length:=by omega
   rw[Zua hi',ZEh,ZAH,ZnW];refine⟨fun hc=> ?_,fun hc=> ?_⟩
   ·simp only[decide_eq_true_eq]at hc;rw[ZnE];refine⟨ZnI (by omega), ?_⟩;refine ih (i+1) ⟨by omega,fun k hk hki=> ?_⟩ (by omega);rcases ZD3 k i with h1 |h1
    ·exact hlo k hk h1
    ·obtain rfl:k=i:=by omega
     exact hc
   ·simp only[decide_eq_false_iff_not]at hc;rw[ZnB];exact⟨i,rfl,hi,hlo,fun _=>hc⟩
  ·simp only[decide_eq_false_iff_not]at h;rw[cond_false,ZnB];exact⟨i,rfl,hi,hlo,fun h'=>absurd h' (by omega)⟩
 ·rintro x ⟨i,rfl,hi,hlo,hhi⟩;dsimp only;unfold ZrC Zqe;have ins:(∀h:i < l.length,l[i]≠w)→wp (chk (Zb9 0 (i:Int) (l.length:Int)) <| chk (ZiZ (l.take ((i:Int)).toNat).length 16) <| chk (ZiZ ((l.take ((i:Int)).toNat).length+([w]:(List Str)).length) 16) <| chk (Zb9 (i:Int) (l.length:Int) (l.length:Int)) <|
    chk (ZiZ (((l.take ((i:Int)).toNat)++([w]:(List Str))).length+(l.drop ((i:Int)).toNat).length) 16) <| some (((l.take ((i:Int)).toNat)++([w]:(List Str)))++(l.drop ((i:Int)).toNat))) (fun x=>x=Zsn (ws++[w])):=by
   intro hne;rw[ZnE,ZnE,ZnE,ZnE,ZnE,ZnB,ZDw];refine⟨Zuu (by omega),ZuE (by rw[ZDK];omega),ZuE (by rw[ZDK];simp;omega),Zuu (by omega),ZuE (by rw[ZDH,ZDK,List.length_drop];simp;omega), ?_⟩;have hS:Srt ((l.take i++[w])++l.drop i):=by
    rw[Zxu,List.pairwise_append,List.pairwise_append];have hw:∀x∈l.take i,x < w:=fun x hx=>by obtain⟨k,hk,rfl⟩:=List.getElem_of_mem hx;rw[ZDK]at hk;rw[List.getElem_take];exact hlo k (by omega) (by omega)
    have hd:∀x∈l.drop i,w < x:=fun x hx=>by
     obtain⟨k,hk,rfl⟩:=List.getElem_of_mem hx;rw[List.length_drop]at hk;rw[List.getElem_drop];have h0:w < l[i]'(by omega):=ZyB (hhi (by omega)) (hne (by omega));rcases Nat.eq_zero_or_pos k with rfl |hk0
     ·exact h0
     ·exact List.lt_trans h0 (Zw7 hs (show i < i+k by omega) (by omega))
    refine⟨⟨((Zxu l).1 hs).sublist (List.take_sublist _ _),by simp,fun a ha b hb=> ?_⟩,((Zxu l).1 hs).sublist (List.drop_sublist _ _),fun a ha b hb=> ?_⟩
    ·rw[ZDN.1 hb];exact hw a ha
    ·rcases ZDL.1 ha with ha |ha
     ·exact List.lt_trans (hw a ha) (hd b hb)
     ·rw[ZDN.1 ha];exact hd b hb
   refine(ZwJ hS.1 hS.2 fun x=> ?_).symm;rw[ZDL,ZDL,ZDL,←hmem x];have e:x∈l↔x∈l.take i∨x∈l.drop i:=by rw[←ZDL,List.take_append_drop]
   rw[e];constructor
   ·rintro((h |h) |h)
    ·exact .inl (.inl h)
    ·exact .inr h
    ·exact .inl (.inr h)
   ·rintro((h |h) |h)
    ·exact .inl (.inl h)
    ·exact .inr h
    ·exact .inl (.inr h)
  rw[ZnW];refine⟨fun h=> ?_,fun h=> ?_⟩
  ·simp only[decide_eq_true_eq]at h;have hi':i < l.length:=by omega
   rw[Zua hi',ZEh,ZnW];refine⟨fun hc=> ?_,fun hc=>ins fun _ e=> ?_⟩
   ·rw[ZnB];have hc':l[i]=w:=by simpa using hc
    refine(ZwJ hs.1 hs.2 fun x=> ?_).symm;rw[ZDL,←hmem x,ZDN];constructor
    ·rintro(h |h)
     ·exact h
     ·rw[h,←hc'];exact ZDG hi'
    ·exact .inl
   ·rw[e]at hc;simp at hc
  ·simp only[decide_eq_false_iff_not]at h;rw[cond_false];exact ins fun h'=>absurd h' (by omega)
theorem ZBt (s cur:Str) (ws:List Str) {r:List Str} (h:ws++ZuT s cur=r):ws.length≤r.length:=by rw[←h,ZDH];omega
theorem ZvJ {name:Str} (hn:name.length≤300):Zok name=some (Ztx name):=by
 refine ZqA ?_;unfold Zok Ztx;have hlen:=ZvO (name++[32]) [];rw[ZDH,ZDJ]at hlen;generalize hR:ZuT (name++[32]) []=R at hlen⊢
 have hnil:Zsn []=[]:=by kernel_rfl
 rw[ZnF,show ZnN big name ([]:List Str) ([]:Str) 0=ZnN big name (Zsn []) ([]:Str) 0 by rw[hnil]];refine ZoD (ZuU ZtW (fun(s:Nat×List Str×Str)=>(name,Zsn s.2.1,s.2.2,(s.1:Int)))
  (fun s=>s.1≤name.length+1∧s.2.1++ZuT (List.drop s.1 (name++[32])) s.2.2=R∧s.2.2.length≤s.1) (fun s=>name.length+1 - s.1)
  (Q:=fun x=>x=Zsn R) (0,[],[]) ⟨by omega,hR,by simp⟩ (by dsimp only;omega) ?_) ?_
 ·rintro rec ⟨i,ws,word⟩ ⟨hi,hgo,hw⟩ ih;dsimp only at hi hgo hw ih;have hwl:=ZBt _ _ _ hgo;unfold Zsq ZqB;dsimp only
  by_cases hle:i≤name.length
  ·have hi':i < (name++[32]).length:=by rw[ZDH,ZDJ];omega
   have hdr:(name++[32]).drop i=(name++[32])[i]::(name++[32]).drop (i+1):=List.drop_eq_getElem_cons hi';have key:wp (ZoK (fun name out word i=>rec (name,out,word,i)) name (Zsn ws) word (i:Int) (((xwC (name++[32])[i]).toNat:Nat):Int)) (fun x=>x=Zsn R):=by
    rw[hdr]at hgo;unfold ZuT at hgo;unfold ZoK Zpz Zpy
    by_cases hc:xwC (name++[32])[i]=0
    ·rw[hc]at hgo⊢
     rw[show ((((0:UInt8).toNat:Nat):Int) != 0)=false from rfl,cond_false];rw[show ((0:UInt8) == 0)=true from rfl,cond_true]at hgo;cases hwd:word with
     |nil=>
      subst hwd;rw[show (!(([]:Str) == ([]:Str)))=false from rfl,cond_false,ZnE];exact⟨ZnI (by omega),ih (i+1,ws,[]) ⟨by dsimp only;omega,hgo,by simp⟩ (by dsimp only;omega)⟩
     |cons c0 r0=>
      rw[hwd,show (c0::r0).isEmpty=false from rfl,cond_false]at hgo;rw[show (!((c0::r0) == ([]:Str)))=true by simp,cond_true,ZBa (by omega),ZEh,ZnE];exact⟨ZnI (by omega),ih (i+1,ws++[c0::r0],[]) ⟨by dsimp only;omega,by dsimp only;rw[List.append_assoc];exact hgo,by simp⟩ (by dsimp only;omega)⟩
    ·have hc2:(((((xwC (name++[32])[i]).toNat:Nat):Int)) != 0)=true:=by rw[bne_iff_ne];intro e;refine hc (UInt8.toNat_inj.1 ?_);show _=0;omega
     rw[show (xwC (name++[32])[i] == 0)=false from beq_eq_false_iff_ne.2 hc,cond_false]at hgo;have e1:([((((xwC (name++[32])[i]).toNat:Nat):Int))].map fun n=>UInt8.ofNat (Int.toNat n))=[xwC (name++[32])[i]]:=by rw[List.map_cons,List.map_nil,ZDw,UInt8.ofNat_toNat]
     rw[hc2,cond_true,e1,ZnE,ZnE];refine⟨decide_eq_true (by simp only[ZDJ];unfold Zq;omega),ZnI (by omega),ih (i+1,ws,word++[xwC (name++[32])[i]]) ⟨by dsimp only;omega,hgo,by dsimp only;rw[ZDH,ZDJ];omega⟩ (by dsimp only;omega)⟩
   rw[decide_eq_true (show (i:Int)≤(name.length:Int) by omega),cond_true]
   by_cases hlt:i < name.length
   ·rw[decide_eq_true (show (i:Int) < (name.length:Int) by omega),cond_true,Zua hlt,ZEh,ZyD,ZEh]
    rwa [List.getElem_append_left hlt]at key
   ·obtain rfl:i=name.length:=by omega
    rw[decide_eq_false (show ¬(name.length:Int) < (name.length:Int) by omega),cond_false];rw[List.getElem_append_right (ZDZ _)]at key;simp only[Nat.sub_self,List.getElem_cons_zero]at key
    rwa [show (((xwC 32).toNat:Nat):Int)=0 by decide+kernel]at key
  ·obtain rfl:i=name.length+1:=by omega
   rw[decide_eq_false (show ¬((name.length+1:Nat):Int)≤(name.length:Int) by omega),cond_false,ZnB];rw[List.drop_of_length_le (by simp)]at hgo;unfold ZuT at hgo;rw[List.append_nil]at hgo;rw[hgo]
 ·rintro x rfl;unfold ZqW;rw[ZnB]
theorem ZxC {b:List Str} (hb:b.Nodup) (x:Str):(b.filter fun y=>x == y).length=if b.contains x then 1 else 0:=by
 induction b with
 |nil=>rfl
 |cons y r ih=>
  rw[List.nodup_cons]at hb;have ih:=ih hb.2;rw[ZDA,List.contains_cons]
  by_cases h:x=y
  ·subst h;have hn:r.contains x=false:=by rw[Bool.eq_false_iff];intro h2;exact hb.1 (ZDy.1 h2)
   rw[hn]at ih;simp only[beq_self_eq_true,if_true,List.length_cons,Bool.true_or];rw[ih];rfl
  ·have h1:(x == y)=false:=by simpa using h
   rw[h1,Bool.false_or];simp only[Bool.false_eq_true,if_false];exact ih
theorem Zyc {a b:List Str} (ha:Srt a) (hb:Srt b) (hla:a.length≤1000) (hlb:b.length≤1000):ZoY a b=some (fOf (Zuf a b)):=by
 refine ZqA ?_;have hcl:=Zv3 a b;unfold ZoY;rw[ZnF];refine ZoD (Zrr ZtL a.length (by omega) (fun i (n:Nat)=>(a,b,(n:Int),a,(a.length:Int),i,false,false,([]:List Int),([]:List Int))) (fun i n=>n=comm (a.take i) b)
  (Q:=fun x=>x=(a,b,(comm a b:Int),false,false,([]:List Int),([]:List Int))) 0 (by simp[comm]) ?_ ?_) ?_
 ·rintro rec i n hi rfl ih;unfold Zp5 ZoU;dsimp only;have hcl2:=Zv3 (a.take i) b;rw[ZDK]at hcl2;rw[decide_eq_true (show (i:Int) < (a.length:Int) by omega),cond_true,Zua hi,ZEh,ZnF];refine ZoD (Zrr ZtK b.length (by omega) (fun k (n:Nat)=>(a,b,(n:Int),a[i],a,(a.length:Int),(i:Int),b,(b.length:Int),k,false,false,([]:List Int),([]:List Int))) (fun k n=>n=comm (a.take i) b+((b.take k).filter fun y=>a[i] == y).length)
   (Q:=fun x=>x=(a,b,((comm (a.take i) b+(b.filter fun y=>a[i] == y).length:Nat):Int),a,(a.length:Int),(i:Int),false,false,([]:List Int),([]:List Int))) (comm (a.take i) b) (by simp) ?_ ?_) ?_
  ·rintro rec2 k n hk rfl ih2;unfold Zp4 ZoT Zpi;dsimp only;have hf:((b.take k).filter fun y=>a[i] == y).length≤k:=ZD0 (ZDI _ _) (by rw[ZDK];omega);have hs:((b.take (k+1)).filter fun y=>a[i] == y).length=((b.take k).filter fun y=>a[i] == y).length+(bif a[i] == b[k]then 1 else 0):=by rw[ZDR hk,ZDz,ZDH];cases h:a[i] == b[k]<;>simp[ZDA,h]
   rw[decide_eq_true (show (k:Int) < (b.length:Int) by omega),cond_true,Zua hk,ZEh];cases h:a[i] == b[k]with
   |true=>
    rw[h]at hs;rw[cond_true,ZnE,ZnE];refine⟨ZnI (by omega),ZnI (by omega), ?_⟩;have:=ih2 (comm (a.take i) b+((b.take k).filter fun y=>a[i] == y).length+1) (by rw[hs];rfl)
    rwa [show ((comm (a.take i) b+((b.take k).filter fun y=>a[i] == y).length+1:Nat):Int)=((comm (a.take i) b+((b.take k).filter fun y=>a[i] == y).length:Nat):Int)+1 by omega]at this
   |false=>
    rw[h]at hs;rw[cond_false,ZnE];exact⟨ZnI (by omega),ih2 _ (by rw[hs];rfl)⟩
  ·rintro rec2 n rfl;unfold Zp4 ZoT;dsimp only;rw[decide_eq_false (show ¬(b.length:Int) < (b.length:Int) by omega),cond_false,ZnB,ZDQ]
  ·rintro x rfl;dsimp only;unfold ZqD;rw[ZnE];refine⟨ZnI (by omega),ih _ ?_⟩;rw[ZxC hb.2];unfold comm;rw[ZDR hi,ZDz,ZDH];congr 1;cases h:b.contains a[i]<;>(simp only[ZDA,h,List.filter_nil];rfl)
 ·rintro rec n rfl;unfold Zp5 ZoU;dsimp only;rw[decide_eq_false (show ¬(a.length:Int) < (a.length:Int) by omega),cond_false,ZnB,ZDQ]
 ·rintro x rfl;dsimp only;unfold ZqC;rw[ZnE,ZnW];refine⟨ZnI (by omega),fun h=> ?_,fun h=> ?_⟩
  ·have h0:a.length+b.length=0:=by
    have:(a.length:Int)+(b.length:Int)=0:=by simpa using h
    omega
   have ha0:a=[]:=List.eq_nil_of_length_eq_zero (by omega);subst ha0;unfold ZqN;rw[ZxW 0 (by decide) (by decide),ZEh,ZEh,ZnB];have:Zuf [] b=0:=by have hb0:b=[]:=List.eq_nil_of_length_eq_zero (by omega);subst hb0;rw[ZvK,if_pos rfl]
   rw[this];rfl
  ·have h0:¬(a.length+b.length=0):=by
    intro e;have:((a.length:Int)+(b.length:Int) == 0)=true:=by simp;omega
    rw[this]at h;cases h
   have hcb:comm a b≤b.length:=by have:=Zv3 b a;rw[←ZyK ha.2 hb.2]at this;exact this
   rw[ZnE,ZnE,Zwi _ _ (by omega) (by omega) (by omega) (by omega) (by omega),ZEh,ZnB];refine⟨ZnI (by omega),ZnI (by omega), ?_⟩;unfold Zuf;rw[Nat.max_eq_left (by omega)];congr 2;omega
end Go.Proofs
namespace Go.Proofs
open Go Eng
theorem Zxx {a b:Str} (ha:a.length≤300) (hb:b.length≤300):Zpt a b=some (fOf (Zuf (Ztx a) (Ztx b))):=by have h1:=ZtP a;have h2:=ZtP b;unfold Zpt;rw[ZvJ ha,ZEh,ZvJ hb,ZEh,Zyc (Zwg _) (Zwg _) (by omega) (by omega),ZEh]
theorem Zzd {a b x:Str} (ha:a.length≤300) (hb:b.length≤300) (hx:x.length≤300):Zoi a b x=some true:=by
 unfold Zoi;obtain⟨L,hL⟩:∃L:List ZnS,L=[ZnS.mk a b,ZnS.mk x a,ZnS.mk x [117,110,105,116,32,112,114,105,99,101],ZnS.mk x []]:=⟨_,rfl⟩;rw[←hL];have hall:∀p∈L,p.e0.length≤300∧p.e1.length≤300:=by
  intro p hp;rw[hL]at hp;simp only[ZDM,ZDO,or_false]at hp;rcases hp with rfl |rfl |rfl |rfl
  ·exact⟨ha,hb⟩
  ·exact⟨hx,ha⟩
  ·exact⟨hx,by show (10:Nat)≤300;omega⟩
  ·exact⟨hx,by show (0:Nat)≤300;omega⟩
 have hlen:L.length≤10:=by rw[hL];show (4:Nat)≤10;omega
 have key:wp (ZnO big (L.length:Int) 0 L) (fun x=>x= .brk ()):=by
  refine ZwU ZsF L (by omega) (fun i (_:Unit)=>((L.length:Int),i,L)) (fun _ _=>True) () trivial ?_ ?_
  ·rintro rec k _ hk _ ih;unfold ZoQ Zn8 Zoj;dsimp only;obtain⟨h0,h1⟩:=hall _ (ZDG hk);have hw:=ZtP L[k].e0;have hz:=(ZxS h0 h1).wq (by decide);rw[decide_eq_true (show (k:Int) < (L.length:Int) by omega),cond_true,ZAy hk,chk_true,ZDw,ZDD hk,ZEh,show inR 0 2=true from rfl,show inR 1 2=true from rfl];simp only[chk_true];rw[Zwb (by omega),ZEh,ZvJ h0,ZEh,Zv5 (by omega),ZEh,decide_eq_true rfl,ZBb,cond_false,ZxT h0 h1,ZEh,Zxx h0 h1,ZEh,Zwh _ _ hz hz,ZEh,decide_eq_true rfl,ZBb,cond_false,ZnE];exact⟨ZnI (by omega),ih () trivial⟩
  ·rintro rec _ _;unfold ZoQ Zn8;dsimp only;rw[decide_eq_false (show ¬(L.length:Int) < (L.length:Int) by omega),cond_false,ZnB]
 obtain⟨y,hy,rfl⟩:=key;rw[hy,ZEh];unfold Zo3;rw[ZyQ];rfl
def Zxd:List Str:=[[117,110,105,116],[85,110,105,116],[32],[95],[112,114,105,99,101],[50],[195,169],[65]]
theorem ZwR:(Zxd.all fun s=>decide (s.length≤5))=true:=by decide+kernel
theorem ZwQ {a b:Str} {t:List Int} {q:Bool} (ha:q=false→a.length≤300∧b.length≤300∧t.length≤500):ZnP a b t q=some true:=by
 unfold ZnP;cases q with
 |true=>rw[cond_true,ZyQ];rfl
 |false=>
  obtain⟨h1,h2,h3⟩:=ha rfl;refine ZqA ?_;unfold Zrt;rw[cond_false,ZnF,ZnB,ZnF];refine ZoD (ZyA (d:=⟨t,0⟩) ⟨by simp,by simp,by simp only;omega⟩ (n:=6) (by omega)) ?_;rintro⟨q1,d1⟩ ⟨hq1,hd1⟩;dsimp only at hq1 hd1⊢
  obtain⟨m,rfl⟩:∃m:Nat,q1=(m:Int):=⟨q1.toNat,by omega⟩;rw[ZnF];refine ZoD (Zrr ZsG m (by omega) (fun i (s:ZnD×Str)=>(a,b,s.2,(m:Int),i,s.1)) (fun i s=>ZwH s.1∧s.2.length≤5*i)
   (Q:=fun x=>x.1=a∧x.2.1=b∧x.2.2.length≤5*m) (d1,[]) ⟨hd1,by simp⟩ ?_ ?_) ?_
  ·rintro rec i ⟨d,x⟩ hi ⟨hd,hx⟩ ih;dsimp only at hd hx ih;unfold ZoR Zn9;dsimp only;rw[decide_eq_true (show (i:Int) < (m:Int) by omega),cond_true,ZnF];refine ZoD (Zz5 hd (l:=Zxd) (by decide) (by decide)) ?_;rintro⟨s,d2⟩ ⟨hs,hd2⟩;dsimp only at hs hd2⊢
   have hsl:=of_decide_eq_true (ZDx.1 ZwR s hs);rw[ZnE,ZnE];exact⟨decide_eq_true (by unfold Zq;omega),ZnI (by omega),ih (d2,x++s) ⟨hd2,by dsimp only;rw[ZDH];omega⟩⟩
  ·rintro rec ⟨d,x⟩ ⟨hd,hx⟩;unfold ZoR Zn9;dsimp only at hd hx⊢
   rw[decide_eq_false (show ¬(m:Int) < (m:Int) by omega),cond_false,ZnB];exact⟨rfl,rfl,hx⟩
  ·rintro⟨a',b',x⟩ ⟨ha',hb',hx⟩;dsimp only at ha' hb' hx⊢
   subst ha' hb';rw[Zzd h1 h2 (by omega),ZnB]
theorem similarityNames_law (a b:Str) (t:List Int):Zow a b t=some true:=by
 unfold Zow Zre
 by_cases ha:(a.length:Int) > 300
 ·rw[decide_eq_true ha,cond_true];exact ZwQ (by simp)
 ·rw[decide_eq_false ha,cond_false]
  by_cases hb:(b.length:Int) > 300
  ·rw[decide_eq_true hb,cond_true];exact ZwQ (by simp)
  ·rw[decide_eq_false hb,cond_false,ZEh];refine ZwQ fun h=> ?_
   simp only[Bool.not_eq_false',decide_eq_true_eq]at h;omega
end Go.Proofs
namespace Eng
open Go Go.Lib
theorem globOk_one {Pg:Program} {w:World} {n:String} {g:Nat} {t e:TypeId} {k:IntKind} {z:Int} (hn:Pg.globalNamed n=some g) (hty:(Pg.globals[g]?).map (·.type)=some t)
  (ht:Pg.underlying t=some (.slice e)) (he:Pg.underlying e=some (.int k)) (hce:Pg.cellsOf e=1) (hz:k.min≤z∧z≤k.max)
  (h:VarReads Pg w n (.slice [.lit (.int k z)] [])):Zej w (fun b=>b < w.heap.size) g [P.sl 1 [.int k z]]:=by
 obtain⟨g',t',cs,fuel,p,hg,hty',hvar,hd⟩:=h;obtain rfl:=ZEi (hn.symm.trans hg);obtain rfl:=ZEi (hty.symm.trans hty');rcases DataW.trod_slice ht hd with ⟨_,hx⟩ |⟨a,len,cap,elems,rest,m,_,hcs,hx,_,hl,hcap,hlen,hel,_,_⟩
 ·cases congrArg Prod.fst hx
 ·have e0:=congrArg Prod.fst hx;simp only[DataW.slice.injEq]at e0;obtain⟨e1,_⟩:=e0
  match elems,e1 with
  | [(d,q)],e1=>
   simp only[List.map_cons,List.map_nil,List.cons.injEq,and_true]at e1;subst e1;have hlen1:len=1:=by simpa using hlen.symm
   subst hlen1;obtain⟨ci,hci,htr⟩:=Option.bind_eq_some_iff.1 (hel 0 (by decide));obtain⟨z',hc,hxx,_⟩:=DataW.trod_int he htr;have hzz:z'=z:=by have:=congrArg Prod.fst hxx;simpa using this.symm
   subst hzz;subst hc;rw[hce,Nat.zero_mul]at hci;obtain⟨_,_,hc2⟩:=World.cells?_some hci;have h0:=hc2 0 (by decide);have hb:w.cell? a=some (.int k z'):=by simpa[Addr.add]using h0
   have hspot:a.spot=none:=by
    unfold World.cell? at hb;cases hs:a.spot with
    |none=>rfl
    |some s=>rw[hs]at hb;split at hb<;>simp at hb
   have ha:a=⟨a.block,a.off,none⟩:=by cases a;simp at hspot;subst hspot;rfl
   have hlt:a.block < w.heap.size:=ZjV (by rw[ha]at hb;exact hb);have hcs1:cs.size=1:=by have:=congrArg List.length hcs;simpa using this
   refine Zvt (t:=0) (fr:= #[]) (Zwe hn hvar) _ (by rw[hcs1];rfl) fun j v p hv hp=> ?_
   have hj:j=0:=by have:=(Array.getElem?_eq_some_iff.1 hv).1;omega
   subst hj;simp only[ZDC,Option.some.injEq]at hp;subst hp;rw[←Array.getElem?_toList,hcs]at hv;simp only[ZDC,Option.some.injEq]at hv;subst hv;refine⟨.sl (some a) 1 cap _ _ (fun _=> .int k z') rfl (by decide) hl (fun i hi=>rfl) (fun i hi=> ?_) (fun i x hx=> ?_),rfl⟩
   ·have hi0:i=0:=by omega
    subst hi0;refine⟨a.block,a.off,by rw[←ha],hlt,fun j v hv=> ?_⟩;have hj:=(Array.getElem?_eq_some_iff.1 hv).1;have hj0:j=0:=by have:(Value.int k z').cells.size=1:=rfl;omega
    subst hj0;have hvv:v= .int k z':=by have:(Value.int k z').cells[0]? =some (.int k z'):=rfl;exact ZEi (hv.symm.trans this)
    subst hvv;rw[ha]at hb;simpa using hb
   ·have hi0:i=0:=by have:=(List.getElem?_eq_some_iff.1 hx).1;simp at this;omega
    subst hi0;simp only[ZDC,Option.some.injEq]at hx;subst hx;exact .int k z' hz.1 hz.2
end Eng
