/- Plain laws over the specs, part 1. -/
import Derived.Test.YthefajbigloihaaGreatDoorSwM0
import Derived.Test.YthefajbigloihaaGreatDoorQ
set_option linter.unusedVariables false
set_option linter.unusedSimpArgs false
set_option linter.unusedSectionVars false
open Bool renaming not_true→ZCx, and_eq_true→ZAk
open Int renaming natAbs_natCast→ZCA, natAbs_mul→ZCz, natAbs_neg→ZCB, toNat_natCast→ZCC, mul_ne_zero→ZCy
open List renaming all_eq_true→ZCD, take_length→ZCS, getElem_mem→ZCK, length_append→ZCL, getD_eq_getElem?_getD→ZCF, take_succ_eq_append_getElem→ZCT, mem_cons→ZCQ, length_take→ZCO, getElem?_eq_getElem→ZCH, not_mem_nil→ZCR, length_singleton→ZCN, length_filter_le→ZCM, mem_append→ZCP, getElem_cons_drop→ZCJ, getElem?_eq_none→ZCI, contains_iff_mem→ZCE, getElem?_cons_zero→ZCG
open Nat renaming le_trans→ZC2, gcd→ZCZ, pow_succ→ZDf, mul_assoc→ZC9, pow_zero→ZDg, mod_lt→ZC7, mul_add→ZC8, le_refl→ZC1, lt_or_ge→ZC5, lt_of_le_of_lt→ZC3, mul_comm→ZDa, pow_le_pow_right→ZDe, div_le_self→ZCY, one_mul→ZDc, le_of_lt→ZC0, two_pow_pos→ZDi, pos_of_ne_zero→ZDd, lt_of_lt_of_le→ZC4, min_eq_left→ZC6, mul_left_comm→ZDb, div_add_mod→ZCW, add_mul_div_left→ZCU, div_eq_of_lt→ZCX, add_mul_mod_self_left→ZCV, two_pow_add_eq_or_of_lt→ZDh
open Option renaming bind_some→ZDj, some.inj→ZDk
namespace Go.Proofs
open Go Eng
def Sz (k:Nat) (q:Rat):Prop:=q.num.natAbs < 2 ^ k∧q.den < 2 ^ k
theorem Sz.mono {k l:Nat} {q:Rat} (h:Sz k q) (hl:k≤l):Sz l q:=⟨ZC4 h.1 (ZDe (by decide) hl),ZC4 h.2 (ZDe (by decide) hl)⟩
theorem Zxv {n k:Nat} (h:n < 2 ^ k) (m:Nat) (hk:k≤32*m):(wd n).length≤m:=by refine ZtO (ZC4 h ?_);rw[show Bw=2 ^ 32 from rfl,←Nat.pow_mul];exact ZDe (by decide) hk
theorem Sz.wq {k:Nat} {q:Rat} (h:Sz k q) (hk:k≤8192):Wq 256 q:=⟨Zxv h.1 256 (by omega),Zxv (n:=(q.den:Int).natAbs) (by rw[ZCA];exact h.2) 256 (by omega)⟩
theorem ZuC {x y:Int} {k:Nat} (hy:y≠0) (h1:x.natAbs < 2 ^ k) (h2:y.natAbs < 2 ^ k):Sz k (Rat.divInt x y):=by
 unfold Sz;rw[Rat.num_divInt,Rat.den_divInt,if_neg hy];refine⟨ZC3 ?_ h1,ZC3 (ZCY _ _) h2⟩;have hd:((Int.gcd y x:Nat):Int)∣y.sign*x:=Int.dvd_trans (Int.gcd_dvd_right y x) (Int.dvd_mul_left _ _);rw[Int.natAbs_ediv_of_dvd hd,ZCz];refine ZC2 (ZCY _ _) ?_;have:y.sign.natAbs=1:=by rw[Int.natAbs_sign_of_ne_zero hy]
 rw[this,ZDc];exact ZC1 _
theorem Zuf {x y k l:Nat} (hx:x < 2 ^ k) (hy:y < 2 ^ l):x*y < 2 ^ (k+l):=by rw[Nat.pow_add];exact Nat.mul_lt_mul_of_lt_of_le hx (ZC0 hy) (ZDi _)
theorem ZvU (a b:Rat):Rat.divInt (a.num*(b.den:Int)+b.num*(a.den:Int)) ((a.den:Int)*(b.den:Int))=a+b:=by have h1:=a.den_nz;have h2:=b.den_nz;rw[←Rat.divInt_add_divInt _ _ (by omega) (by omega),Rat.num_divInt_den,Rat.num_divInt_den]
theorem Sz.add {a b:Rat} {k l:Nat} (ha:Sz k a) (hb:Sz l b):Sz (k+l+1) (a+b):=by
 rw[←ZvU];have h1:=a.den_nz;have h2:=b.den_nz;have q1:=Zuf ha.1 hb.2;have q2:=Zuf ha.2 hb.1;have q3:=Zuf ha.2 hb.2;have hp:=ZDi (k+l);refine ZuC (ZCy (by omega) (by omega)) ?_ ?_
 ·rw[ZDf];refine ZC3 (Int.natAbs_add_le _ _) ?_;rw[ZCz,ZCz,ZCA,ZCA,ZDa b.num.natAbs];omega
 ·rw[ZDf,ZCz,ZCA,ZCA];omega
theorem Zzp {q:Rat} (h:Wq 256 q):decide ((if ((fOf q).Den.Words.length:Int) > ((fOf q).Num.Words.length:Int)then ((fOf q).Den.Words.length:Int)else ((fOf q).Num.Words.length:Int)) > 256)=false:=by have h1:=h.1;have h2:=h.2;unfold Wl at h1 h2;refine decide_eq_false ?_;unfold fOf;rw[ZpH,ZpH,ZnS,ZnS];split<;>omega
theorem Zvj {y:Int} (hy:y≠0):(((bg y).Words.length:Int) == 0)=false:=by have:=ZqX (n:=y.natAbs) (by omega);rw[ZpH,ZnS];exact beq_eq_false_iff_ne.2 (by omega)
theorem ZyP {a b:Rat} {k l:Nat} (ha:Sz k a) (hb:Sz l b) (hk:k+l+1≤8192):ZrX (fOf a) (fOf b)=some (fOf (a+b),0):=by
 have h1:=a.den_nz;have h2:=b.den_nz;have qa:=ha.wq (by omega);have qb:=hb.wq (by omega);have w:∀{x y:Int},Wl 256 x→Wl 256 y→Wl 512 (x*y):=fun hx hy=>by unfold Wl;rw[ZCz];exact ZwP hx hy
 have m:∀{n:Nat} {x:Int},Wl n x→n≤50000→Wl 50000 x:=fun h h'=>ZC2 h h'
 have w1:=w qa.1 qb.2;have w2:=w qb.1 qa.2;have w3:=w qa.2 qb.2;have w4:Wl 513 (a.num*(b.den:Int)+b.num*(a.den:Int)):=ZC2 (Zq8 (Int.natAbs_add_le _ _)) (Zxw w1 w2);have hd:(a.den:Int)*(b.den:Int)≠0:=ZCy (by omega) (by omega);unfold ZrX Zok;rw[Zuj a qa,ZDj,ZCx,cond_false,Zuj b qb,ZDj,ZCx];unfold ZoU Zs6;rw[cond_false];show ((((ZnK (bg a.num) (bg (b.den:Int))).bind fun q=>(ZnK (bg b.num) (bg (a.den:Int))).bind fun q_1=>(Zrm q q_1).bind fun num=>(ZnK (bg (a.den:Int)) (bg (b.den:Int))).bind fun den=>some (num,den)).bind _).bind _)=_;rw[Ztf _ _ (m qa.1 (by omega)) (m qb.2 (by omega)),ZDj,Ztf _ _ (m qb.1 (by omega)) (m qa.2 (by omega)),ZDj,ZyI _ _ (m w1 (by omega)) (m w2 (by omega)),ZDj,Ztf _ _ (m qa.2 (by omega)) (m qb.2 (by omega)),ZDj,ZDj];dsimp only;rw[Zvj hd,cond_false,Zue _ _ hd (m w4 (by omega)) (m w3 (by omega)),ZDj,ZvU,Zzp ((ha.add hb).wq hk),cond_false,ZDj]
end Go.Proofs
namespace Go.Proofs
open Go Eng
theorem Zvx (z:Int):Zpe (bg z)=some (bg (-z)):=by
 unfold Zpe ZqO;rw[Zuv,ZpH,ZnS]
 by_cases hz:z < 0
 ·rw[decide_eq_true hz,ZCx,cond_false];unfold bg;rw[ZCB,decide_eq_false (by omega:¬ -z < 0)]
 ·rw[decide_eq_false hz,Bool.not_false,cond_true];unfold bg;rw[ZCB];congr 2
  by_cases h0:z=0
  ·subst h0;rw[show (0:Int).natAbs=0 from rfl,ZrJ];rfl
  ·have:=ZqX (n:=z.natAbs) (by omega);rw[decide_eq_true (by omega),decide_eq_true (by omega)]
theorem ZzR (q:Rat):fOf (-q)=⟨bg (-q.num),bg (q.den:Int)⟩:=rfl
theorem Sz.neg {q:Rat} {k:Nat} (h:Sz k q):Sz k (-q):=by show (-q.num).natAbs < 2 ^ k∧q.den < 2 ^ k;rw[ZCB];exact h
theorem ZAg {a b:Rat} {k l:Nat} (ha:Sz k a) (hb:Sz l b) (hk:k+l+1≤8192):ZsN (fOf a) (fOf b)=some (fOf (a - b),0):=by unfold ZsN;rw[Zuj b (hb.wq (by omega)),ZDj,ZCx,cond_false];show ((Zpe (bg b.num)).bind fun q_1=>(Zok (fOf a) (ZnA.mk q_1 (bg (b.den:Int)))).bind fun x=>some (x.1,x.2))=_;have:=ZyP ha hb.neg hk;unfold ZrX at this;rw[Zvx,ZDj,←ZzR,Rat.sub_eq_add_neg];exact this
theorem ZvA {a b:Rat} {k l:Nat} (ha:Sz k a) (hb:Sz l b) (hk:k+l+1≤8192):ZtS (fOf a) (fOf b)=some (fOf (a+b)):=by unfold ZtS Zsg;rw[ZyP ha hb hk];rfl
theorem Zvz {a b:Rat} {k l:Nat} (ha:Sz k a) (hb:Sz l b) (hk:k+l+1≤8192):ZtR (fOf a) (fOf b)=some (fOf (a - b)):=by unfold ZtR Zsg;rw[ZAg ha hb hk];rfl
def Zzu (a b:Rat):Int:=if a < b then -1 else if b < a then 1 else 0
theorem Zw6 (a b:Rat):a < b↔a.num*(b.den:Int) < b.num*(a.den:Int):=Rat.lt_iff a b
theorem ZAX {a b:Rat} (qa:Wq 256 a) (qb:Wq 256 b):ZsP (fOf a) (fOf b)=some (Zzu a b):=by
 have w:∀{x y:Int},Wl 256 x→Wl 256 y→Wl 50000 (x*y):=fun hx hy=>by unfold Wl;rw[ZCz];exact ZC2 (ZwP hx hy) (by decide)
 have m:∀{x:Int},Wl 256 x→Wl 50000 x:=fun h=>ZC2 h (by decide)
 unfold ZsP;rw[Zuj a qa,ZDj,ZCx,cond_false,Zuj b qb,ZDj,ZCx];unfold ZsA;rw[cond_false];show ((ZnK (bg a.num) (bg (b.den:Int))).bind fun q=>(ZnK (bg b.num) (bg (a.den:Int))).bind _)=_;rw[Ztf _ _ (m qa.1) (m qb.2),ZDj,Ztf _ _ (m qb.1) (m qa.2),ZDj,Zvx,ZDj];have w2:Wl 50000 (-(b.num*(a.den:Int))):=by unfold Wl;rw[ZCB];exact w qb.1 qa.2
 rw[ZyI _ _ (w qa.1 qb.2) w2,ZDj,Zuv,ZpH,ZnS];unfold Zzu;have h1:=Zw6 a b;have h2:=Zw6 b a;generalize a.num*(b.den:Int)=x at*
 generalize b.num*(a.den:Int)=y at*
 by_cases hl:a < b
 ·rw[if_pos hl,decide_eq_true (by have:=h1.1 hl;omega),cond_true]
 ·have hn:¬x < y:=fun h=>hl (h1.2 h)
  rw[if_neg hl,decide_eq_false (by omega),cond_false]
  by_cases hg:b < a
  ·have:=ZqX (n:=(x+ -y).natAbs) (by have:=h2.1 hg;omega);rw[if_pos hg,decide_eq_true (by omega),cond_true]
  ·have hn2:¬y < x:=fun h=>hg (h2.2 h)
   rw[if_neg hg,show x+ -y=0 by omega,show (0:Int).natAbs=0 from rfl,ZrJ];rfl
theorem ZzD (x y:Int) (hy:y≠0) (hx1:Wl 256 x) (hy1:Wl 256 y):Zsq (bg x) (bg y)=some (fOf (Rat.divInt x y),0):=by
 have hb:=Zx4 [x,y] (by simp) (fun z hz=>by
  simp only[ZCQ,ZCR,or_false]at hz;rcases hz with rfl |rfl
  ·exact hx1
  ·exact hy1)
 unfold Zsq;rw[show ([bg x,bg y]:List ZnB)=[x,y].map bg from rfl,hb,ZDj,ZCx,cond_false,Zvj hy,cond_false,Zue _ _ hy (ZC2 hx1 (by decide)) (ZC2 hy1 (by decide)),ZDj]
theorem ZBS {z:Int} (h1: -9223372036854775808≤z) (h2:z≤9223372036854775807):Wl 256 z:=ZC2 (ZzF (by omega)) (by decide)
theorem ZAp (x y:Int) (hy:y≠0) (h1: -9223372036854775808≤x) (h2:x≤9223372036854775807) (h3: -9223372036854775808≤y) (h4:y≤9223372036854775807):Zsz x y=some (fOf (Rat.divInt x y),0):=by unfold Zsz;rw[ZvQ x h1 h2,ZDj,ZvQ y h3 h4,ZDj,ZzD x y hy (ZBS h1 h2) (ZBS h3 h4),ZDj]
theorem ZvW:Zsx=some (fOf 0):=by unfold Zsx;rw[ZAp 0 1 (by decide) (by decide) (by decide) (by decide) (by decide),ZDj,Rat.zero_divInt]
theorem Zvs (x y:Int) (hy:y≠0) (h1: -9223372036854775808≤x) (h2:x≤9223372036854775807) (h3: -9223372036854775808≤y) (h4:y≤9223372036854775807):Ztj x y=some (fOf (Rat.divInt x y)):=by unfold Ztj;rw[ZAp x y hy h1 h2 h3 h4,ZDj];rfl
theorem ZwB:Sz 1 0:=by unfold Sz;decide
theorem ZwE {a:Rat} (qa:Wq 256 a):Zte (fOf a)=some (Zzu a 0):=by unfold Zte;rw[ZvW,ZDj,ZAX qa (ZwB.wq (by decide)),ZDj]
theorem ZvR (a b:Rat):Rat.divInt (a.num*(b.den:Int)) ((a.den:Int)*b.num)=a / b:=by rw[←Rat.divInt_mul_divInt,Rat.num_divInt_den,Rat.div_def,Rat.inv_def]
theorem Sz.div {a b:Rat} {k l:Nat} (hb0:b≠0) (ha:Sz k a) (hb:Sz l b):Sz (k+l) (a / b):=by
 rw[←ZvR];have h1:=a.den_nz;have h2:b.num≠0:=fun e=>hb0 (Rat.num_eq_zero.1 e)
 refine ZuC (ZCy (by omega) h2) ?_ ?_
 ·rw[ZCz,ZCA];exact Zuf ha.1 hb.2
 ·rw[ZCz,ZCA];exact Zuf ha.2 hb.1
theorem ZAU {a b:Rat} {k l:Nat} (hb0:b≠0) (ha:Sz k a) (hb:Sz l b) (hk:k+l≤8192):ZsO (fOf a) (fOf b)=some (fOf (a / b),0):=by
 have h1:=a.den_nz;have h2:b.num≠0:=fun e=>hb0 (Rat.num_eq_zero.1 e)
 have qa:=ha.wq (by omega);have qb:=hb.wq (by omega);have w:∀{x y:Int},Wl 256 x→Wl 256 y→Wl 50000 (x*y):=fun hx hy=>by unfold Wl;rw[ZCz];exact ZC2 (ZwP hx hy) (by decide)
 have m:∀{x:Int},Wl 256 x→Wl 50000 x:=fun h=>ZC2 h (by decide)
 have w1:=w qa.1 qb.2;have w3:=w qa.2 qb.1;have hd:(a.den:Int)*b.num≠0:=ZCy (by omega) h2;unfold ZsO Zpb;rw[Zuj a qa,ZDj,ZCx,cond_false,Zuj b qb,ZDj,ZCx];unfold ZoD Zs7;rw[cond_false];show ((((ZnK (bg a.num) (bg (b.den:Int))).bind fun num=>(ZnK (bg (a.den:Int)) (bg b.num)).bind fun den=>some (num,den)).bind _).bind _)=_;rw[Ztf _ _ (m qa.1) (m qb.2),ZDj,Ztf _ _ (m qa.2) (m qb.1),ZDj,ZDj];dsimp only;rw[Zvj hd,cond_false,Zue _ _ hd w1 w3,ZDj,ZvR,Zzp ((Sz.div hb0 ha hb).wq hk),cond_false,ZDj]
theorem ZxO {a b:Rat} {k l:Nat} (hb0:b≠0) (ha:Sz k a) (hb:Sz l b) (hk:k+l≤8192):ZuF (fOf a) (fOf b)=some (fOf (a / b)):=by unfold ZuF Zsg;rw[ZAU hb0 ha hb hk];rfl
end Go.Proofs
namespace Go.Proofs
open Go Eng
theorem ZwT:∀n w,Zn3 n w=Zol n w
 |0,_=>rfl
 |n+1,w=>by have:Zn3 n=Zol n:=funext (ZwT n);show Zr2 (Zn3 n) w=Zqr (Zol n) w;rw[this];rfl
theorem Zxg (w:List Int):ZnO w=ZnN w:=by unfold ZnO ZnN;rw[ZwT];rfl
theorem Zva {l:List Nat} (h:Dg l) (hl:l.length≤1000000):ZnO (iL l)=some (iL (wd (val l))):=by rw[Zxg,Zuk h hl]
theorem ZwL (neg:Bool) {l:List Nat} (h:Dg l) (hl:l.length≤1000000):Zob neg (iL l)=some (bg (if neg then -(val l:Int)else val l)):=by
 unfold Zob ZpY;rw[Zva h hl,ZDj,ZnS];unfold bg;cases neg with
 |true=>
  rw[cond_true,if_pos rfl,ZCB,ZCA];congr 2
  by_cases h0:val l=0
  ·rw[h0,ZrJ];rfl
  ·have:=ZqX h0;rw[decide_eq_true (by omega),decide_eq_true (by omega)]
 |false=>rw[cond_false,if_neg (by decide),ZCA,decide_eq_false (by omega)]
theorem ZuX (a:ZnB):ZoH a=ZpR a:=rfl
end Go.Proofs
namespace Go.Proofs
open Go Eng
theorem Zx2 (a b:Nat) (ha:(wd a).length≤100000) (hb:(wd b).length≤100000):ZoX (iL (wd a)) (iL (wd b))=some (Zwa a b):=by
 refine Zq7 ?_;unfold ZoX;rw[ZnS,ZnS,Zn2];refine⟨fun h=> ?_,fun h=> ?_⟩
 ·have hne:(wd a).length≠(wd b).length:=fun e=>by rw[e]at h;simp at h
  rw[Zn2];refine⟨fun h=> ?_,fun h=> ?_⟩
  ·have h1:(wd a).length < (wd b).length:=by have:=of_decide_eq_true h;omega
   rw[ZnC,Ztw (ZvO h1)]
  ·have h1:(wd b).length < (wd a).length:=by have:=of_decide_eq_false h;omega
   rw[ZnC,Zth (ZvO h1)]
 ·have hl:(wd a).length=(wd b).length:=by simp only[bne_eq_false_iff_eq]at h;omega
  rw[ZnF,ZnE];refine⟨ZnI (by omega), ?_⟩;refine ZoM (Zvi ZtI (wd a).length (by omega) (fun i (s:Unit)=>(iL (wd a),iL (wd b),i)) (fun k _=>(wd a).drop k=(wd b).drop k)
   (Q:=fun r=>r= .ret (Zwa a b)∨r= .brk ()∧a=b) () (by rw[List.drop_length,hl,List.drop_length]) ?_ ?_) ?_
  ·rintro rec k ⟨⟩ hk hP ih;have hk2:k < (wd b).length:=by omega
   unfold Zqz Zpn;dsimp only;rw[Zn2];refine⟨fun _=> ?_,fun h=>by have:=of_decide_eq_false h;omega⟩;have ha:=ZtP hk;have hb:=ZtP hk2;rw[Zrn]at ha hb;have la:val ((wd a).take k) < Bw ^ k:=by have:=ZsB ((Zta a).take k);rwa [ZCO,ZC6 (by omega)]at this
   have lb:val ((wd b).take k) < Bw ^ k:=by have:=ZsB ((Zta b).take k);rwa [ZCO,ZC6 (by omega)]at this
   rw[ZrW hk,ZnE,ZnC,ZrW hk2,ZnE,ZnC,Zn2];refine⟨fun hc=> ?_,fun hc=> ?_⟩
   ·have h1:(wd a)[k] < (wd b)[k]:=by have:=of_decide_eq_true hc;omega
    have:a < b:=by rw[ha,hb,hP];exact ZvY (A:=0) (B:=0) la (by omega)
    rw[ZnC];exact .inl (by rw[Ztw this])
   ·rw[ZnE,ZnC,ZnE,ZnC,Zn2];refine⟨fun hc2=> ?_,fun hc2=> ?_⟩
    ·have h1:(wd b)[k] < (wd a)[k]:=by have:=of_decide_eq_true hc2;omega
     have:b < a:=by rw[ha,hb,hP];exact ZvY (A:=0) (B:=0) lb (by omega)
     rw[ZnC];exact .inl (by rw[Zth this])
    ·rw[ZnF];refine⟨ZnI (by omega),ih () ?_⟩;have h1:(wd a)[k]=(wd b)[k]:=by have q1:=of_decide_eq_false hc;have q2:=of_decide_eq_false hc2;omega
     rw[←ZCJ (h:=hk),←ZCJ (h:=hk2),h1,hP]
  ·rintro rec ⟨⟩ hP;unfold Zqz Zpn;dsimp only;rw[Zn2];refine⟨fun h=>by have:=of_decide_eq_true h;omega,fun _=> ?_⟩;rw[ZnC];rw[List.drop_zero,List.drop_zero]at hP;exact .inr ⟨rfl,by rw[←Zrn a,←Zrn b,hP]⟩
  ·rintro r (rfl |⟨rfl,rfl⟩)
   ·exact ZnC.2 rfl
   ·unfold Zrg;exact ZnC.2 (Ztt a).symm
theorem ZwF {a:Nat} (k:Nat) (hk:k≤32):shlK .u32 (a:Int) (k:Int)=((a*2 ^ k % 4294967296:Nat):Int):=by
 unfold shlK;rw[ZCC,show IntKind.bits .u32=32 from rfl,ZC6 (by omega)];have e:(a:Int)*(2:Int) ^ k=((a*2 ^ k:Nat):Int):=by push_cast;rfl
 rw[e,Zsw]
theorem ZwS (a d:Nat) (hd:d≤1) (ha:(wd a).length≤100000):ZoA (iL (wd a)) (d:Int)=some (iL (wd (2*a+d))):=by
 refine Zq7 ?_;unfold ZoA;rw[ZnE];refine ZoM (ZrK Ztk (wd a).length (by omega) (fun i (s:Nat×List Nat)=>(iL (wd a),(s.1:Int),i,iL s.2)) (fun i s=>s.1≤1∧s.2.length=i∧Dg s.2∧val s.2+Bw ^ i*s.1=2*val ((wd a).take i)+d)
  (Q:=fun y=>∃(c:Nat) (o:List Nat),y=((c:Int),iL o)∧c≤1∧Dg o∧o.length=(wd a).length∧val o+Bw ^ (wd a).length*c=2*a+d) (d,[]) ⟨hd,rfl,Zu0,by simp[val]⟩ ?_ ?_) ?_
 ·rintro rec i ⟨c,o⟩ hi ⟨hc,hl,hod,hv⟩ ih;dsimp only at hc hl hod hv ih;have h1:=(Zta a).get hi;unfold Zqg Zo7;dsimp only;rw[Zn2,ZnS];refine⟨fun _=> ?_,fun h=>by have:=of_decide_eq_false h;omega⟩;rw[ZrW hi,ZnE,ZnC];generalize ex:(wd a)[i]=x at h1;have eor:orK .u32 (shlK .u32 (x:Int) 1) (c:Int)=((c+x*2 ^ 1 % Bw:Nat):Int):=by rw[show (1:Int)=((1:Nat):Int)from rfl,ZwF 1 (by omega),Zwn (ZC7 _ (by decide)) (by omega),Nat.or_comm];congr 1;exact Zv2 (by decide) (by omega) h1
  have esh:shrK .u32 (x:Int) 31=((x / 2 ^ 31:Nat):Int):=Zu2 31 (by omega);rw[eor,ZDj,esh,ZnF,ZnF,ZnF,ZnF,ZnS];have hx:c+x*2 ^ 1 % Bw < Bw:=by simp only[Bw]at h1⊢;omega
  refine⟨by decide,ZuH (by simp only[ZCN];omega),by decide,ZnI (by omega), ?_⟩;have:=ih (x / 2 ^ 31,o++[c+x*2 ^ 1 % Bw]) ⟨by simp only[Bw]at h1;dsimp only;omega,by simp[hl],hod.app (ZuN hx), ?_⟩
  ·rw[Zwq]at this;exact this
  ·dsimp only;have q:c+x*2 ^ 1 % Bw+Bw*(x / 2 ^ 31)=c+2*x:=by simp only[Bw]at h1⊢;omega
   have q2:Bw ^ i*(c+x*2 ^ 1 % Bw+Bw*(x / 2 ^ 31))=Bw ^ i*(c+2*x):=by rw[q]
   have q3:Bw ^ i*(2*x)=2*(Bw ^ i*x):=ZDb _ _ _;rw[ZC8,ZC8 (Bw ^ i) c (2*x),q3]at q2;rw[ZsQ,hl,ZnZ hi,ex];generalize c+x*2 ^ 1 % Bw=dg at*
   generalize x / 2 ^ 31=cy at*
   rw[ZDf,ZC9];omega
 ·rintro rec ⟨c,o⟩ ⟨hc,hl,hod,hv⟩;dsimp only at hc hl hod hv;unfold Zqg Zo7;dsimp only;rw[Zn2,ZnS];refine⟨fun h=>by have:=of_decide_eq_true h;omega,fun _=> ?_⟩;rw[ZnC];rw[ZCS,Zrn]at hv;exact⟨c,o,rfl,hc,hod,hl,hv⟩
 ·rintro y ⟨c,o,rfl,hc,hod,hl,hv⟩;dsimp only;unfold Zqu;have e:iL o++[(c:Int)]=iL (o++[c]):=by rw[Zwq];rfl
  rw[ZnF,ZnS,e,Zva (hod.app (ZuN (by simp only[Bw];omega))) (by simp;omega),ZnE,ZnC,ZnC,ZsQ,hl,hv];exact⟨ZuH (by simp only[ZCN];omega),rfl⟩
end Go.Proofs
namespace Go.Proofs
open Go Eng
theorem Zzq (t:Int):shrK .i64 t 32=t / 4294967296:=by unfold shrK;rw[show min (32:Int).toNat (IntKind.bits .i64)=32 from by decide,Int.fdiv_eq_ediv_of_nonneg _ (by decide)];rfl
theorem ZwC (a b:Nat) (hab:b≤a) (ha:(wd a).length≤100000):ZoV (iL (wd a)) (iL (wd b))=some (iL (wd (a - b))):=by
 have hlb:(wd b).length≤(wd a).length:=Zq8 hab;refine Zq7 ?_;unfold ZoV;rw[ZnE];refine ZoM (ZrK ZtG (wd a).length (by omega) (fun i (s:Nat×List Nat)=>(iL (wd a),iL (wd b), -(s.1:Int),i,iL s.2)) (fun i s=>s.1≤1∧s.2.length=i∧Dg s.2∧val ((wd a).take i)+Bw ^ i*s.1=val s.2+val ((wd b).take i))
  (Q:=fun y=>∃(o:List Nat),y=iL o∧Dg o∧o.length=(wd a).length∧val o=a - b) (0,[]) ⟨by simp,rfl,Zu0,by simp[val]⟩ ?_ ?_) ?_
 ·rintro rec i ⟨c,o⟩ hi ⟨hc,hl,hd,hv⟩ ih;dsimp only at hc hl hd hv ih;have h1:=(Zta a).get hi;have h2:=ZvC (Zta b) i;have ey0:(wd b).getD i 0=(if i < (wd b).length then (wd b).getD i 0 else 0):=by
   by_cases h:i < (wd b).length
   ·rw[if_pos h]
   ·rw[if_neg h,ZCF,ZCI (by omega)];rfl
  have fin:∀y:Nat,(wd b).getD i 0=y→wp (Zo0 (fun a b c i out=>rec (a,b,c,i,out)) (iL (wd a)) (iL (wd b)) (-(c:Int)+((wd a)[i]:Int) - (y:Int)) (i:Int) (iL o)) (fun y=>∃(o:List Nat),y=iL o∧Dg o∧o.length=(wd a).length∧val o=a - b):=fun y ey=>by
   rw[ey]at h2;generalize ex:(wd a)[i]=x at h1;have ew:IntKind.wrap .u32 (-(c:Int)+(x:Int) - (y:Int))=(((x+4294967296 - y - c) % 4294967296:Nat):Int):=by simp only[Bw]at h1 h2;rw[IntKind.wrap_u32];omega
   have es:shrK .i64 (-(c:Int)+(x:Int) - (y:Int)) 32= -(((if x < y+c then 1 else 0):Nat):Int):=by simp only[Bw]at h1 h2;rw[Zzq];split<;>omega
   unfold Zo0;rw[ew,es,ZnF,ZnF,ZnF,ZnS];refine⟨ZuH (by simp only[ZCN];omega),by decide,ZnI (by omega), ?_⟩;have:=ih ((if x < y+c then 1 else 0),o++[(x+4294967296 - y - c) % 4294967296]) ⟨by dsimp only;split<;>omega,by simp[hl],hd.app (ZuN (ZC7 _ (by decide))), ?_⟩
   ·rw[Zwq]at this;exact this
   ·dsimp only;rw[ZsQ,hl,ZDf,ZnZ hi,ZtD,ex,ey,ZC9];have e:x+Bw*(if x < y+c then 1 else 0)=(x+4294967296 - y - c) % 4294967296+y+c:=by simp only[Bw]at h1 h2⊢;split<;>omega
    have e2:Bw ^ i*(x+Bw*(if x < y+c then 1 else 0))=Bw ^ i*((x+4294967296 - y - c) % 4294967296+y+c):=by rw[e]
    rw[ZC8,ZC8,ZC8]at e2;omega
  unfold Zqv Zpl;dsimp only;rw[Zn2,ZnS,ZnS];refine⟨fun _=> ?_,fun h=>by have:=of_decide_eq_false h;omega⟩;have wx:IntKind.wrap .i64 ((wd a)[i]:Int)=((wd a)[i]:Int):=wrap_i64 (by simp only[Bw]at h1;omega);rw[ZrW hi,ZnE,ZnC,wx,ZnF,Zn2];refine⟨ZnI (by simp only[Bw]at h1;omega),fun h=> ?_,fun h=> ?_⟩
  ·have hib:i < (wd b).length:=by have:=of_decide_eq_true h;omega
   have hy:=(Zta b).get hib;have wy:IntKind.wrap .i64 ((wd b)[i]:Int)=((wd b)[i]:Int):=wrap_i64 (by simp only[Bw]at hy;omega);rw[ZrW hib,ZnE,ZnC,wy,ZnF];refine⟨ZnI (by simp only[Bw]at h1 hy;omega),fin _ ?_⟩;rw[ZCF,ZCH hib];rfl
  ·have hib:¬i < (wd b).length:=by have:=of_decide_eq_false h;omega
   have:=fin 0 (by rw[ey0,if_neg hib]);rw[Int.natCast_zero,Int.sub_zero]at this;exact this
 ·rintro rec ⟨c,o⟩ ⟨hc,hl,hd,hv⟩;unfold Zqv Zpl;dsimp only at hc hl hd hv⊢
  rw[Zn2,ZnS];refine⟨fun h=>by have:=of_decide_eq_true h;omega,fun _=> ?_⟩;rw[ZnC];rw[ZCS,List.take_of_length_le (by omega),Zrn,Zrn]at hv;have:=ZsB hd;rw[hl]at this;have hc0:c=0:=by
   rcases Nat.eq_zero_or_pos c with h |h
   ·exact h
   ·have:c=1:=by omega
    rw[this,Nat.mul_one]at hv;omega
  rw[hc0,Nat.mul_zero]at hv;exact⟨o,rfl,hd,hl,by omega⟩
 ·rintro y ⟨o,rfl,hd,hl,hv⟩;unfold Zq9;rw[Zva hd (by omega),ZnE,ZnC,ZnC,hv]
end Go.Proofs
namespace Go.Proofs
open Go Eng
theorem Zvt (a:Nat) (ha:(wd a).length≤100000):Zn7 (iL (wd a))=some (iL (wd (a / 2))):=by
 refine Zq7 ?_;unfold Zn7;rw[List.nil_append,ZnF,ZnE,ZnS];refine⟨ZuH (by rw[List.length_nil];omega), ?_⟩;refine ZoM (ZrK Ztv (wd a).length (by omega) (fun i (o:List Nat)=>(iL (wd a),((wd a).length:Int),i,iL (o++(wd a).drop o.length))) (fun i o=>o.length=i∧Dg o∧val o*2+(wd a).getD 0 0 % 2=val ((wd a).take i)+Bw ^ i*((wd a).getD i 0 % 2))
  (Q:=fun y=>∃(o:List Nat),y=iL o∧Dg o∧o.length=(wd a).length∧val o=a / 2) [] ⟨rfl,Zu0,by simp[val]⟩ ?_ ?_) ?_
 ·rintro rec i o hi ⟨hol,hod,hov⟩ ih;have h1:=(Zta a).get hi;have hyB:=ZvC (Zta a) (i+1);have hlen:(o++(wd a).drop o.length).length=(wd a).length:=by simp;omega
  have gx:(iL (o++(wd a).drop o.length))[i]? =some ((wd a)[i]:Int):=by rw[ZuZ (by omega)];congr 2;rw[List.getElem_append_right (by omega)];simp[hol]
  have fin:∀z:Nat,z=(wd a)[i] / 2+(wd a).getD (i+1) 0*2 ^ 31 % Bw→wp (ZoR (fun a t9 i out=>rec (a,t9,i,out)) (iL (wd a)) ((wd a).length:Int) (i:Int) (iL ((o++(wd a).drop o.length).set i z))) (fun y=>∃(o:List Nat),y=iL o∧Dg o∧o.length=(wd a).length∧val o=a / 2):=fun z hz=>by
   unfold ZoR;have es:(o++(wd a).drop o.length).set i z=(o++[z])++(wd a).drop (o++[z]).length:=by rw[List.set_append_right _ _ (by omega),hol,Nat.sub_self,←ZCJ (h:=hi),List.set_cons_zero];simp[hol]
   have eg:(wd a).getD i 0=(wd a)[i]:=by rw[ZCF,ZCH hi];rfl
   rw[eg]at hov;rw[ZnF,es];generalize ex:(wd a)[i]=x at*
   generalize ey:(wd a).getD (i+1) 0=y at*
   have hzB:z < Bw:=by simp only[Bw]at h1 hz⊢;omega
   refine⟨ZnI (by omega),ih (o++[z]) ⟨by simp[hol],hod.app (ZuN hzB), ?_⟩⟩;have hd1:z*2+x % 2=x+Bw*(y % 2):=by simp only[Bw]at h1 hz⊢;omega
   have q1:Bw ^ i*(z*2+x % 2)=Bw ^ i*(x+Bw*(y % 2)):=by rw[hd1]
   rw[ZC8,ZC8]at q1;rw[ZsQ,hol,ZnZ hi,ex,ZDf,Nat.add_mul,ZC9,ZC9];omega
  unfold Zqn Zpi;dsimp only;rw[Zn2];refine⟨fun _=> ?_,fun h=>by have:=of_decide_eq_false h;omega⟩;have esh:shrK .u32 ((wd a)[i]:Int) 1=(((wd a)[i] / 2:Nat):Int):=Zu2 1 (by omega);rw[ZCC,gx,ZnF,ZnE,ZnC,ZnF,ZnF,ZnF,esh,Zut,ZnS,ZnS,hlen,Zn2];refine⟨ZqK ⟨by omega,by omega⟩,by decide,ZqK ⟨by omega,by omega⟩,ZnI (by omega),fun h=> ?_,fun h=> ?_⟩
  ·have hi2:i+1 < (wd a).length:=by have:=of_decide_eq_true h;omega
   have gz:(iL ((o++(wd a).drop o.length).set i ((wd a)[i] / 2)))[i]? =some (((wd a)[i] / 2:Nat):Int):=by rw[ZuZ (by rw[List.length_set];omega),List.getElem_set_self]
   have e1:(i:Int)+1=((i+1:Nat):Int):=rfl;have eg:(wd a).getD (i+1) 0=(wd a)[i+1]:=by rw[ZCF,ZCH hi2];rfl
   have eor:orK .u32 (((wd a)[i] / 2:Nat):Int) (shlK .u32 ((wd a)[i+1]:Int) 31)=(((wd a)[i] / 2+(wd a).getD (i+1) 0*2 ^ 31 % Bw:Nat):Int):=by rw[eg,show (31:Int)=((31:Nat):Int)from rfl,ZwF 31 (by omega),Zwn (by simp only[Bw]at h1;omega) (ZC7 _ (by decide))];congr 1;exact Zv2 (by decide) (by simp only[Bw]at h1;omega) ((Zta a).get hi2)
   rw[e1,ZrW hi2,gz,ZnF,ZnE,ZnC,ZnF,ZnE,ZnC,ZnF,ZnF,eor,ZnS,List.length_set,hlen,Zut,List.set_set];exact⟨ZqK ⟨by omega,by omega⟩,ZnI (by omega),by decide,ZqK ⟨by omega,by omega⟩,fin _ rfl⟩
  ·have hi2:¬i+1 < (wd a).length:=by have:=of_decide_eq_false h;omega
   refine fin _ ?_;rw[ZCF,ZCI (by omega)];simp
 ·rintro rec o ⟨hol,hod,hov⟩;unfold Zqn Zpi;dsimp only;rw[Zn2];refine⟨fun h=>by have:=of_decide_eq_true h;omega,fun _=> ?_⟩;rw[ZnC];have eg:(wd a).getD (wd a).length 0=0:=by rw[ZCF,ZCI (by omega)];rfl
  rw[eg,Nat.zero_mod,Nat.mul_zero,Nat.add_zero,ZCS,Zrn]at hov;refine⟨o,by rw[hol,List.drop_length,List.append_nil],hod,hol, ?_⟩;omega
 ·rintro y ⟨o,rfl,hd,hl,hv⟩;unfold ZqR;rw[Zva hd (by omega),ZnE,ZnC,ZnC,hv]
end Go.Proofs
namespace Go.Proofs
open Go Eng
theorem Zwo {a:Nat} (h:a≠0):idx (iL (wd a)) 0=some ((a % Bw:Nat):Int):=by rw[Zu9 h];rfl
theorem ZvD {a:Nat}:(andK .u32 ((a % Bw:Nat):Int) 1 == 0)=decide (a % 2=0):=by
 rw[show (1:Int)=((1:Nat):Int)from rfl,Zv8 (ZC7 _ (by decide)) (by decide),Nat.and_one_is_mod];have e:a % Bw % 2=a % 2:=by simp only[Bw];omega
 rw[e]
 by_cases h:a % 2=0
 ·rw[h];rfl
 ·rw[decide_eq_false h];exact beq_eq_false_iff_ne.2 (by omega)
theorem Zw2 (P:Nat→Prop) {f:Nat→List Int×List Int×Int→Option (List Int×List Int×Int)} (y:List Int) (k:Int)
  (hf:∀n x,x≠0→(wd x).length≤100000→f (n+1) (iL (wd x),y,k)=if x % 2=0 then f n (iL (wd (x / 2)),y,k)else some (iL (wd x),y,k))
  (hP:∀x,P (2*x)→P x):∀(n x:Nat),x≠0→(wd x).length≤100000→P x→(∀m,x < 2 ^ m→m≤n→∃z,f n (iL (wd x),y,k)=some (iL (wd z),y,k)∧z % 2=1∧z≤x∧P z)
 |0,x,hx,hl,hp,m,hm,hmn=>by
  have:m=0:=by omega
  subst this;rw[ZDg]at hm;omega
 |n+1,x,hx,hl,hp,m,hm,hmn=>by
  rw[hf n x hx hl]
  by_cases h:x % 2=0
  ·rw[if_pos h];cases m with
   |zero=>rw[ZDg]at hm;omega
   |succ m=>
    obtain⟨z,h1,h2,h3,h4⟩:=Zw2 P y k hf hP n (x / 2) (by omega) (ZC2 (Zq8 (ZCY x 2)) hl) (hP _ (by rwa [show 2*(x / 2)=x by omega])) m (by rw[ZDf]at hm;omega) (by omega);exact⟨z,h1,h2,by omega,h4⟩
  ·rw[if_neg h];exact⟨x,rfl,by omega,ZC1 _,hp⟩
end Go.Proofs
namespace Go.Proofs
open Go Eng
theorem Zti (x:Nat):x < 2 ^ (x.log2+1):=Nat.lt_log2_self
theorem Zup {x n:Nat} (h:(wd x).length≤n):x.log2≤32*n:=by
 rcases Nat.eq_zero_or_pos x with rfl |hp
 ·rw[Nat.log2_zero];omega
 ·have h1:=Nat.log2_self_le (n:=x) (by omega);have h2:=ZC4 (Zr9 x) (ZDe (n:=Bw) (by decide) h);rw[show Bw=2 ^ 32 from rfl,←Nat.pow_mul]at h2;exact ZC0 ((Nat.pow_lt_pow_iff_right (a:=2) (by decide)).1 (ZC3 h1 h2))
theorem ZxY {x b:Nat} (hb:b % 2=1):ZCZ (2*x) b=ZCZ x b:=by
 have hc:Nat.Coprime 2 b:=by unfold Nat.Coprime;rw[Nat.gcd_rec,hb,Nat.gcd_one_left]
 exact Nat.Coprime.gcd_mul_left_cancel x hc
theorem ZCa (y:List Int) (k:Int) {x:Nat} (b:Nat) (hb:b % 2=1) (hx:x≠0) (hl:(wd x).length≤100000):∃z,ZnV big (iL (wd x)) y k=some (iL (wd z),y,k)∧z % 2=1∧z≤x∧ZCZ z b=ZCZ x b:=by
 have hm:=Zup hl;refine Zw2 (fun z=>ZCZ z b=ZCZ x b) (f:=fun n t=>ZnV n t.1 t.2.1 t.2.2) y k (fun n x hx hl=> ?_) (fun z h=>by rwa [ZxY hb]at h) big x hx hl rfl (x.log2+1) (Zti x) (ZC0 (ZvG (by omega)));show ZoF (ZnV n) (iL (wd x)) y k=_;unfold ZoF;rw[Zwo hx,ZDj,ZvD]
 by_cases h:x % 2=0
 ·rw[decide_eq_true h,cond_true,if_pos h,Zvt x hl,ZDj]
 ·rw[decide_eq_false h,cond_false,if_neg h]
end Go.Proofs
namespace Go.Proofs
open Go Eng
theorem ZyM (y:List Int) (k:Int) {x:Nat} (ho:x % 2=1):ZnV big (iL (wd x)) y k=some (iL (wd x),y,k):=by obtain⟨n,hn⟩:=ZzU 1 (by decide);rw[hn];show ZoF (ZnV n) (iL (wd x)) y k=_;unfold ZoF;rw[Zwo (by omega),ZDj,ZvD,decide_eq_false (by omega),cond_false]
theorem ZB9 (w:List Int) (k:Int) {y:Nat} (b:Nat) (hb:b % 2=1) (hy:y≠0) (hl:(wd y).length≤100000):∃z,ZnU big w (iL (wd y)) k=some (w,iL (wd z),k)∧z % 2=1∧(z≤y∧(y % 2=0→z≤y / 2))∧ZCZ z b=ZCZ y b:=by
 have hm:=Zup hl;have step:∀n x,x≠0→(wd x).length≤100000→ZnU (n+1) w (iL (wd x)) k=if x % 2=0 then ZnU n w (iL (wd (x / 2))) k else some (w,iL (wd x),k):=fun n x hx hl=>by
  show Zqw (ZnU n) w (iL (wd x)) k=_;unfold Zqw;rw[Zwo hx,ZDj,ZvD]
  by_cases h:x % 2=0
  ·rw[decide_eq_true h,cond_true,if_pos h,Zvt x hl,ZDj]
  ·rw[decide_eq_false h,cond_false,if_neg h]
 have key:∀(n x m:Nat),x≠0→(wd x).length≤100000→x < 2 ^ m→m≤n→∃z,ZnU n w (iL (wd x)) k=some (w,iL (wd z),k)∧z % 2=1∧(z≤x∧(x % 2=0→z≤x / 2))∧ZCZ z b=ZCZ x b:=by
  intro n
  induction n with
  |zero=>
   intro x m hx hl hm hmn;have:m=0:=by omega
   subst this;rw[ZDg]at hm;omega
  |succ n ih=>
   intro x m hx hl hm hmn;rw[step n x hx hl]
   by_cases h:x % 2=0
   ·rw[if_pos h];cases m with
    |zero=>rw[ZDg]at hm;omega
    |succ m=>
     obtain⟨z,h1,h2,h3,h4⟩:=ih (x / 2) m (by omega) (ZC2 (Zq8 (ZCY x 2)) hl) (by rw[ZDf]at hm;omega) (by omega);refine⟨z,h1,h2,⟨by omega,fun _=>h3.1⟩, ?_⟩;rw[h4,←ZxY hb,show 2*(x / 2)=x by omega]
   ·rw[if_neg h];exact⟨x,rfl,by omega,⟨ZC1 _,fun h'=>absurd h' h⟩,rfl⟩
 exact key big y (y.log2+1) hy hl (Zti y) (ZC0 (ZvG (by omega)))
end Go.Proofs
namespace Go.Proofs
open Go Eng
theorem Zyw (k:Int):∀(n x y p q:Nat),x % 2=1→(wd x).length≤100000→(wd y).length≤100000→x < 2 ^ p→y < 2 ^ q→p+q+y % 2 < n→ZnL n (iL (wd x)) (iL (wd y)) k=some (iL (wd (ZCZ x y)),k)
 |0,x,y,p,q,_,_,_,_,_,h=>absurd h (by omega)
 |n+1,x,y,p,q,ho,hxl,hyl,hp,hq,hn=>by
  show ZoG (ZnL n) _ _ _=_;unfold ZoG;rw[ZnS]
  by_cases h0:y=0
  ·subst h0;rw[ZrJ,Nat.gcd_zero_right];rfl
  ·have hl:=ZqX h0;obtain⟨z,hz,hz1,hz2,hz3⟩:=ZB9 (iL (wd x)) k x ho h0 hyl;rw[decide_eq_true (by omega),cond_true,ZyM _ _ ho,ZDj];dsimp only;unfold Zrd;rw[hz,ZDj];dsimp only;have hzl:=ZC2 (Zq8 hz2.1) hyl;unfold Zrc;rw[Zx2 x z hxl hzl,ZDj];obtain⟨q',hq',hq2⟩:∃q',z < 2 ^ q'∧q'+1≤q+y % 2:=by
    by_cases he:y % 2=0
    ·cases q with
     |zero=>rw[ZDg]at hq;omega
     |succ q=>
      refine⟨q, ?_,by omega⟩;have:=hz2.2 he;rw[ZDf]at hq;omega
    ·exact⟨q,by omega,by omega⟩
   unfold ZpV;have eg:ZCZ x y=ZCZ x z:=by rw[Nat.gcd_comm x y,←hz3,Nat.gcd_comm]
   rw[eg]
   by_cases hc:z < x
   ·rw[Zth hc,show decide ((1:Int) > 0)=true from rfl,cond_true,ZwC x z (by omega) hxl,ZDj,Zyw k n z (x - z) q' p hz1 hzl (ZC2 (Zq8 (Nat.sub_le x z)) hxl) hq' (by omega) (by omega),Nat.gcd_sub_self_right (by omega),Nat.gcd_comm]
   ·have hnc:decide (Zwa x z > 0)=false:=by refine decide_eq_false ?_;unfold Zwa;rw[if_neg hc];split<;>decide
    rw[hnc,cond_false,ZwC z x (by omega) hzl,ZDj,Zyw k n x (z - x) p q' ho hxl (ZC2 (Zq8 (Nat.sub_le z x)) hzl) hp (by omega) (by omega),Nat.gcd_sub_self_right (by omega)]
end Go.Proofs
namespace Go.Proofs
open Go Eng
theorem ZAw:∀(n x y j m:Nat),x≠0→y≠0→(wd x).length≤100000→(wd y).length≤100000→x < 2 ^ m→m≤n→j+m≤1000000000→
  ∃x' y' t:Nat,Zot n (iL (wd x)) (iL (wd y)) (j:Int)=some (iL (wd x'),iL (wd y'),((j+t:Nat):Int))∧(x' % 2=1∨y' % 2=1)∧ZCZ x y=2 ^ t*ZCZ x' y'∧x'≠0∧y'≠0∧x'≤x∧y'≤y∧t≤m
 |0,x,y,j,m,hx,hy,hxl,hyl,hm,hmn,hj=>by
  have:m=0:=by omega
  subst this;rw[ZDg]at hm;omega
 |n+1,x,y,j,m,hx,hy,hxl,hyl,hm,hmn,hj=>by
  show ∃x' y' t:Nat,Zqx (Zot n) _ _ _=_∧_;unfold Zqx ZpW;rw[Zwo hx,ZDj,ZvD]
  by_cases h1:x % 2=0
  ·rw[decide_eq_true h1,cond_true,Zwo hy,ZDj,ZvD]
   by_cases h2:y % 2=0
   ·cases m with
    |zero=>rw[ZDg]at hm;omega
    |succ m=>
     rw[decide_eq_true h2,cond_true,Zvt x hxl,ZDj,Zvt y hyl,ZDj,ZnI (by omega),chk_true];obtain⟨x',y',t,q1,q2,q3,q4,q5,q6,q7,q8⟩:=ZAw n (x / 2) (y / 2) (j+1) m (by omega) (by omega) (ZC2 (Zq8 (ZCY x 2)) hxl) (ZC2 (Zq8 (ZCY y 2)) hyl) (by rw[ZDf]at hm;omega) (by omega) (by omega);refine⟨x',y',t+1, ?_,q2, ?_,q4,q5,by omega,by omega,by omega⟩
     ·rw[show (j:Int)+1=((j+1:Nat):Int)from rfl,q1,show j+1+t=j+(t+1) by omega]
     ·have:=Nat.gcd_mul_left 2 (x / 2) (y / 2);rw[show 2*(x / 2)=x by omega,show 2*(y / 2)=y by omega]at this;rw[this,q3,ZDf,ZDa (2 ^ t) 2,ZC9]
   ·rw[decide_eq_false h2,cond_false];exact⟨x,y,0,rfl,.inr (by omega),by rw[ZDg,ZDc],hx,hy,ZC1 _,ZC1 _,Nat.zero_le _⟩
  ·rw[decide_eq_false h1,cond_false,cond_false];exact⟨x,y,0,rfl,.inl (by omega),by rw[ZDg,ZDc],hx,hy,ZC1 _,ZC1 _,Nat.zero_le _⟩
theorem ZAv:∀(k n a:Nat),k < n→k≤1000000000→(wd (2 ^ k*a)).length≤100000→Zos n (iL (wd a)) (k:Int)=some (iL (wd (2 ^ k*a)))
 |k,0,a,h,_,_=>absurd h (by omega)
 |0,n+1,a,_,_,_=>by show ZoE (Zos n) _ _=_;unfold ZoE;rw[ZDg,ZDc];rfl
 |k+1,n+1,a,h,hk,hl=>by
  show ZoE (Zos n) _ _=_;unfold ZoE;have e:2 ^ (k+1)*a=2 ^ k*(2*a+0):=by rw[ZDf,ZC9,Nat.add_zero]
  have ha:(wd a).length≤100000:=ZC2 (Zq8 (Nat.le_mul_of_pos_left a (ZDi _))) hl;rw[e]at hl;have ht:=ZwS a 0 (by omega) ha;rw[Int.natCast_zero]at ht;rw[decide_eq_true (by omega),cond_true,ht,ZDj,show ((k+1:Nat):Int) - 1=(k:Int) by omega,ZnI (by omega),chk_true,ZAv k n (2*a+0) (by omega) (by omega) hl,e]
theorem ZzP (a b:Nat) (ha0:a≠0) (hb0:b≠0) (ha:(wd a).length≤50000) (hb:(wd b).length≤50000):ZpI (iL (wd a)) (iL (wd b))=some (iL (wd (ZCZ a b))):=by
 have hla:=Zup ha;have hlb:=Zup hb;obtain⟨x,y,t,q1,q2,q3,q4,q5,q6,q7,q8⟩:=ZAw big a b 0 (a.log2+1) ha0 hb0 (by omega) (by omega) (Zti a) (ZC0 (ZvG (by omega))) (by omega);rw[Int.natCast_zero,Nat.zero_add]at q1;have hxl:=ZC2 (Zq8 q6) ha;have hyl:=ZC2 (Zq8 q7) hb;have hlx:=Zup hxl;have hly:=Zup hyl;have main:ZnL big (iL (wd x)) (iL (wd y)) (t:Int)=some (iL (wd (ZCZ x y)),(t:Int)):=by
  by_cases hx:x % 2=1
  ·exact Zyw _ big x y _ _ hx (by omega) (by omega) (Zti x) (Zti y) (ZvG (by omega))
  ·have hy:y % 2=1:=by omega
   obtain⟨z,z1,z2,z3,z4⟩:=ZCa (iL (wd y)) (t:Int) y hy q4 (by omega);have hzl:=ZC2 (Zq8 z3) hxl;have hlz:=Zup hzl;have e:=Zyw (t:Int) big z y _ _ z2 (by omega) (by omega) (Zti z) (Zti y) (ZvG (by omega));rw[z4]at e;rw[←e];obtain⟨n,hn⟩:∃n,big=n+1:=⟨36893488147419103231,by rw[big_eq]⟩;have s1:∀u,ZnL big (iL (wd u)) (iL (wd y)) (t:Int)=ZoG (ZnL n) (iL (wd u)) (iL (wd y)) (t:Int):=fun u=>by rw[hn];rfl
   rw[s1,s1];unfold ZoG;have hl:=ZqX q5;rw[ZnS,decide_eq_true (by omega),cond_true,cond_true,z1,ZyM _ _ z2]
 have hg:(wd (2 ^ t*ZCZ x y)).length≤100000:=by rw[←q3];exact ZC2 (Zxu (by omega) hb) (by omega)
 unfold ZpI;rw[q1,ZDj];dsimp only;unfold Zre Zrb Zra;rw[main,ZDj];dsimp only;rw[ZAv t big _ (ZvG (by omega)) (by omega) hg,ZDj,q3]
end Go.Proofs
namespace Go.Proofs
open Go Eng
theorem Zx3 {l:List Nat} {i:Nat} (hd:Dg l) (h:i / 32 < l.length):l[i / 32] / 2 ^ (i % 32) % 2=val l / 2 ^ i % 2:=by
 have e:=ZtP h;have hlt:=ZsB (hd.take (i / 32));rw[ZCO,ZC6 (by omega)]at hlt;have hi:2 ^ i=Bw ^ (i / 32)*2 ^ (i % 32):=by rw[show Bw=2 ^ 32 from rfl,←Nat.pow_mul,←Nat.pow_add,ZCW]
 have hr:i % 32 < 32:=ZC7 _ (by decide);have hB:Bw=2 ^ (i % 32)*(2*2 ^ (31 - i % 32)):=by rw[show 2*2 ^ (31 - i % 32)=2 ^ (31 - i % 32+1) by rw[ZDf,ZDa],←Nat.pow_add,show i % 32+(31 - i % 32+1)=32 by omega]
 have e1:val l / Bw ^ (i / 32)=l[i / 32]+Bw*val (l.drop (i / 32+1)):=by rw[e,ZCU _ _ (Nat.pow_pos (by decide)),ZCX hlt,Nat.zero_add]
 rw[hi,←Nat.div_div_eq_div_mul,e1];generalize l[i / 32]=x;generalize val (l.drop (i / 32+1))=y;have e2:(x+Bw*y) / 2 ^ (i % 32)=x / 2 ^ (i % 32)+2*(2 ^ (31 - i % 32)*y):=by rw[hB,ZC9,ZCU _ _ (ZDi _),ZC9]
 rw[e2,ZCV]
end Go.Proofs
namespace Go.Proofs
open Go Eng
theorem ZyH (i:Nat):Int.tdiv (i:Int) 32=((i / 32:Nat):Int):=by rw[Int.tdiv_eq_ediv_of_nonneg (by omega)];norm_cast
theorem ZyG (i:Nat):IntKind.wrap .u64 (Int.tmod (i:Int) 32)=((i % 32:Nat):Int):=by rw[Int.tmod_eq_emod_of_nonneg (by omega),IntKind.wrap_u64];omega
theorem ZA1 {l:List Nat} {i:Nat} (hd:Dg l) (h:i / 32 < l.length) (hi:i≤1000000000):ZpJ (iL l) (i:Int)=some ((val l / 2 ^ i % 2:Nat):Int):=by have h1:=hd.get h;unfold ZpJ;rw[ZyH,ZyG,decide_eq_true (by decide),chk_true,ZnI (by omega),chk_true,ZrW h,ZDj,chk_true,decide_eq_true (by omega),chk_true,Zu2 _ (by omega),show (1:Int)=((1:Nat):Int)from rfl,Zv8 (ZC3 (ZCY _ _) h1) (by decide),Nat.and_one_is_mod,Zx3 hd h]
end Go.Proofs
namespace Go.Proofs
open Go Eng
theorem ZyJ {x j:Nat} (h:x / 2 ^ j % 2=0):x|||2 ^ j=x+2 ^ j:=by
 have hlo:=ZC7 x (ZDi j);have e:x=2 ^ (j+1)*(x / 2 ^ j / 2)+x % 2 ^ j:=by
  have h1:=ZCW x (2 ^ j);have h2:2*(x / 2 ^ j / 2)=x / 2 ^ j:=by omega
  rw[ZDf,ZC9,h2,h1]
 have a1:=ZDh (i:=j+1) (b:=x % 2 ^ j) (by rw[ZDf];omega) (x / 2 ^ j / 2);have a2:=ZDh (i:=j) (b:=x % 2 ^ j) hlo 1;have a3:=ZDh (i:=j+1) (b:=2 ^ j*1+x % 2 ^ j) (by rw[ZDf];omega) (x / 2 ^ j / 2);rw[Nat.mul_one]at a2 a3;generalize x / 2 ^ j / 2=t at*
 generalize x % 2 ^ j=lo at*
 rw[e,a1,Nat.or_assoc,Nat.or_comm lo,←a2,←a3,←a1];omega
theorem Zzs {j:Nat} (hj:j≤31):shlK .u32 1 (j:Int)=((2 ^ j:Nat):Int):=by have:=ZwF (a:=1) j (by omega);rw[ZDc,Nat.mod_eq_of_lt (ZC3 (ZDe (by decide) hj) (by decide))]at this;exact this
theorem ZxU {A k:Nat}:A / 2 ^ k=2*(A / 2 ^ (k+1))+A / 2 ^ k % 2:=by rw[ZDf,←Nat.div_div_eq_div_mul];omega
theorem ZxZ (a b:Nat) (hb0:b≠0) (ha:(wd a).length≤50000) (hb:(wd b).length≤50000):ZoW (iL (wd a)) (iL (wd b))=some (iL (wd (a / b)),iL (wd (a % b))):=by
 have hlen:∀k,(wd (2*(a / 2 ^ (k+1) % b)+a / 2 ^ k % 2)).length≤50001:=fun k=>by
  have h1:=ZC7 (a / 2 ^ (k+1)) (ZDd hb0);have h2:2*(a / 2 ^ (k+1) % b)+a / 2 ^ k % 2≤b+b:=by omega
  exact ZC2 (Zq8 h2) (Zxw hb hb)
 refine Zq7 ?_;unfold ZoW;rw[ZnF,ZnF,ZnF,ZnE,ZnS,ZCC,ZvP];refine⟨ZuU (by omega),ZnI (by omega),ZnI (by omega), ?_⟩;have e0:(32*((wd a).length:Int)) - 1=((32*(wd a).length:Nat):Int) - 1:=by omega
 rw[e0,show ([]:List Int)=iL (wd 0) by rw[ZrJ];rfl];refine ZoM (Zvi ZtH (32*(wd a).length) (by omega) (fun i (q:Nat×List Nat)=>(iL (wd a),iL (wd b),iL (wd q.1),i,iL q.2))
  (fun k q=>q.1=a / 2 ^ k % b∧Dg q.2∧q.2.length=(wd a).length∧val q.2=a / 2 ^ k / b*2 ^ k)
  (Q:=fun y=>∃o:List Nat,y=(iL (wd (a % b)),iL o)∧Dg o∧o.length=(wd a).length∧val o=a / b) (0,List.replicate (wd a).length 0) ?_ ?_ ?_) ?_
 ·have h0:a / 2 ^ (32*(wd a).length)=0:=by refine ZCX ?_;rw[Nat.pow_mul];exact Zr9 a
  rw[h0,Nat.zero_mod,Nat.zero_div,Nat.zero_mul];exact⟨rfl,ZyO _,List.length_replicate,Zxx _⟩
 ·rintro rec k ⟨r,q⟩ hk ⟨hr,hd,hl,hv⟩ ih;dsimp only at hr hd hl hv;have hk32:k / 32 < (wd a).length:=by omega
  unfold Zqy Zpm;dsimp only;have hbit:=ZA1 (i:=k) (Zta a) hk32 (by omega);rw[Zrn]at hbit;have h2:a / 2 ^ k % 2≤1:=by omega
  have htw:=ZwS r (a / 2 ^ k % 2) h2 (by
   rw[hr];exact ZC2 (Zq8 (ZC0 (ZC7 _ (ZDd hb0)))) (by omega))
  have hlk:=hlen k;rw[←hr]at hlk;have hx:=ZxU (A:=a) (k:=k);have hdm:=ZCW (a / 2 ^ (k+1)) b;rw[←hr]at hdm;have hrlt:r < b:=by rw[hr];exact ZC7 _ (ZDd hb0)
  rw[Zn2];refine⟨fun _=> ?_,fun h=>by have:=of_decide_eq_false h;omega⟩;rw[hbit,ZnE,ZnC,htw,ZnE,ZnC,Zx2 _ _ (by omega) (by omega),ZnE,ZnC,Zn2];have nx:∀r' q',(r'=a / 2 ^ k % b∧Dg q'∧q'.length=(wd a).length∧val q'=a / 2 ^ k / b*2 ^ k)→wp (Zo3 (fun a b r_ i q=>rec (a,b,r_,i,q)) (iL (wd a)) (iL (wd b)) (iL (wd r')) (k:Int) (iL q')) (fun y=>∃o:List Nat,y=(iL (wd (a % b)),iL o)∧Dg o∧o.length=(wd a).length∧val o=a / b):=fun r' q' h=>by unfold Zo3;rw[ZnF];exact⟨ZnI (by omega),ih (r',q') h⟩
  generalize eX:a / 2 ^ (k+1)=X at*
  generalize ed:a / 2 ^ k % 2=d at*
  refine⟨fun hc=> ?_,fun hc=> ?_⟩
  ·have hge:b≤2*r+d:=by
    rcases ZC5 (2*r+d) b with h |h
    ·rw[Ztw h]at hc;exact absurd (of_decide_eq_true hc) (by decide)
    ·exact h
   have hq:k / 32 < q.length:=by omega
   have hz:q[k / 32] / 2 ^ (k % 32) % 2=0:=by rw[Zx3 hd hq,hv,ZDf,←ZC9,Nat.mul_right_comm,Nat.mul_div_cancel _ (ZDi k)];omega
   have hx32:=hd.get hq;rw[ZwC _ _ hge (by omega),ZnE,ZnC,ZyH,ZyG,ZCC,ZnF,ZnF,ZnF,ZuZ hq,ZnE,ZnC,ZnF,ZnF,ZnF,Zzs (by omega),Zwn hx32 (ZC3 (ZDe (by decide) (show k % 32≤31 by omega)) (by decide)),ZyJ hz,Zut,ZnS];refine⟨by decide,ZnI (by omega),ZqK ⟨by omega,by omega⟩,by decide,decide_eq_true (by omega),ZqK ⟨by omega,by omega⟩, ?_⟩;have hsum:q[k / 32]+2 ^ (k % 32) < Bw:=by
    have hB:Bw=2 ^ (k % 32)*(2*2 ^ (31 - k % 32)):=by rw[show 2*2 ^ (31 - k % 32)=2 ^ (31 - k % 32+1) by rw[ZDf,ZDa],←Nat.pow_add,show k % 32+(31 - k % 32+1)=32 by omega]
    rw[←ZyJ hz];exact Nat.or_lt_two_pow (n:=32) hx32 (ZC3 (ZDe (by decide) (show k % 32≤31 by omega)) (by decide))
   refine nx (2*r+d - b) (q.set (k / 32) (q[k / 32]+2 ^ (k % 32))) ⟨?_,hd.set _ hsum,by rw[List.length_set,hl], ?_⟩
   ·rw[hx,show 2*X+d=(2*r+d - b)+b*(2*(X / b)+1) by rw[ZC8,ZDb];omega,ZCV,Nat.mod_eq_of_lt (by omega)]
   ·have hvs:=ZuB q (k / 32) (q[k / 32]+2 ^ (k % 32)) hq;have hp:Bw ^ (k / 32)*2 ^ (k % 32)=2 ^ k:=by rw[show Bw=2 ^ 32 from rfl,←Nat.pow_mul,←Nat.pow_add,ZCW]
    rw[ZC8,hp]at hvs;have e1:(2*X+d) / b=2*(X / b)+1:=by rw[show 2*X+d=(2*r+d - b)+b*(2*(X / b)+1) by rw[ZC8,ZDb];omega,ZCU _ _ (ZDd hb0),ZCX (by omega),Nat.zero_add]
    rw[hx,e1];rw[hv,ZDf]at hvs;have e2:X / b*(2 ^ k*2)=2*(X / b)*2 ^ k:=by rw[ZDa (2 ^ k) 2,←ZC9,ZDa (X / b) 2]
    rw[Nat.add_mul,ZDc];omega
  ·have hlt:2*r+d < b:=by
    rcases ZC5 (2*r+d) b with h |h
    ·exact h
    ·rcases ZC5 b (2*r+d)with h' |h'
     ·rw[Zth h']at hc;exact absurd (of_decide_eq_false hc) (by decide)
     ·rw[show 2*r+d=b by omega,Ztt]at hc;exact absurd (of_decide_eq_false hc) (by decide)
   have e0:2*X+d=(2*r+d)+b*(2*(X / b)):=by rw[ZDb];omega
   refine nx (2*r+d) q ⟨?_,hd,hl, ?_⟩
   ·rw[hx,e0,ZCV,Nat.mod_eq_of_lt hlt]
   ·rw[hx,e0,ZCU _ _ (ZDd hb0),ZCX hlt,Nat.zero_add,hv,ZDf,ZDa (2 ^ k) 2,←ZC9,ZDa (X / b) 2]
 ·rintro rec ⟨r,q⟩ ⟨hr,hd,hl,hv⟩;dsimp only at hr hd hl hv;rw[ZDg,Nat.div_one]at hr hv;unfold Zqy Zpm;dsimp only;rw[Zn2];refine⟨fun h=>by have:=of_decide_eq_true h;omega,fun _=> ?_⟩;rw[ZnC,hr];exact⟨q,rfl,hd,hl,by rw[hv,Nat.mul_one]⟩
 ·rintro y ⟨o,rfl,hd,hl,hv⟩;dsimp only;unfold Zrf;rw[Zva hd (by omega),ZnE,ZnC,ZnC,hv]
end Go.Proofs
namespace Go.Proofs
open Go Eng
theorem Zxm (n:Int):Rat.divInt n 1=(n:Rat):=by have h:=Rat.num_divInt_den (n:Rat);rw[Rat.num_intCast,Rat.den_intCast]at h;exact h
end Go.Proofs
namespace Go.Proofs
open Go Eng
theorem Zu5 (z:Int) (h1: -9223372036854775808≤z) (h2:z≤9223372036854775807):Zn4 z=some (bg z):=by
 have key:∀(b:Bool) (n:Nat),n < 18446744073709551616→Zob b [IntKind.wrap .u32 (n:Int),IntKind.wrap .u32 (shrK .u64 (n:Int) 32)]=some (bg (if b then -(n:Int)else n)):=fun b n h=>by
  have e:([IntKind.wrap .u32 (n:Int),IntKind.wrap .u32 (shrK .u64 (n:Int) 32)]:List Int)=iL [n % 4294967296,n / 4294967296]:=by rw[show (32:Int)=((32:Nat):Int)from rfl,ZuD 32 (by omega),Zsw,ZsK (by omega)];rfl
  have hd:Dg [n % 4294967296,n / 4294967296]:=fun d hd=>by
   simp only[ZCQ,List.mem_singleton,ZCR,or_false]at hd;rcases hd with rfl |rfl
   ·exact ZC7 _ (by decide)
   ·simp only[Bw];omega
  have hv:val [n % 4294967296,n / 4294967296]=n:=by simp only[val,Nat.mul_zero,Nat.add_zero];exact Nat.mod_add_div n Bw
  rw[e,ZwL b hd (by simp),hv]
 unfold Zn4 Zo8;have h32:decide (0≤(32:Int))=true:=rfl
 by_cases hz:z < 0
 ·have e:IntKind.wrap .u64 (0 - IntKind.wrap .u64 z)=((z.natAbs:Nat):Int):=by rw[IntKind.wrap_u64,IntKind.wrap_u64];omega
  rw[decide_eq_true hz,cond_true,h32,chk_true,e,key true _ (by omega),ZDj,if_pos rfl,show -((z.natAbs:Nat):Int)=z by omega]
 ·have e:IntKind.wrap .u64 z=((z.natAbs:Nat):Int):=by rw[IntKind.wrap_u64];omega
  rw[decide_eq_false hz,cond_false,h32,chk_true,e,key false _ (by omega),ZDj,if_neg (by decide),show ((z.natAbs:Nat):Int)=z by omega]
theorem ZzV:bg 0=⟨false,[]⟩:=by unfold bg;rw[show (0:Int).natAbs=0 from rfl,ZrJ];rfl
theorem Zxj (x y:Int) (hy:y≠0) (hx1:Wl 50000 x) (hy1:Wl 50000 y):Zo1 (bg x) (bg y)=some (fOf (Rat.divInt x y)):=by
 unfold Zo1
 by_cases hx:x=0
 ·subst hx;rw[Rat.zero_divInt,ZpH,ZnS,show (0:Int).natAbs=0 from rfl,ZrJ,Zu5 1 (by decide) (by decide)];show some (ZnA.mk ⟨false,[]⟩ (bg 1))=some (fOf 0);rw[←ZzV];rfl
 ·have hx0:0 < x.natAbs:=by omega
  have hy0:0 < y.natAbs:=by omega
  have hg0:ZCZ x.natAbs y.natAbs≠0:=fun e=>by have:=Nat.gcd_pos_of_pos_right x.natAbs hy0;omega
  have hgl:=Zxu (x:=x.natAbs) hy0 hy1;have hxl:=ZwQ (ZCZ x.natAbs y.natAbs) hx1;have hyl:=ZwQ (ZCZ x.natAbs y.natAbs) hy1;have h:=Zue x y hy hx1 hy1;unfold Zox at h;rw[ZpH,ZpH,ZvF _ _ hx1 hy1,ZDj,Zvk _ _ hg0 hx1 hgl,ZDj]at h;dsimp only at h;rw[Zvk _ _ hg0 hy1 hgl,ZDj]at h;dsimp only at h;rw[ZrS _ _ (by omega),ZDj,ZrS _ _ (by omega),ZDj]at h;have hlen:=ZqX (n:=x.natAbs) (by omega);rw[←h,ZpH,ZpH,ZnS,beq_eq_false_iff_ne.2 (by omega),cond_false,ZzP _ _ (by omega) (by omega) hx1 hy1,ZDj,ZxZ _ _ hg0 hx1 hgl,ZDj];dsimp only;rw[ZxZ _ _ hg0 hy1 hgl,ZDj];dsimp only;rw[ZwL _ (Zta _) (by omega),ZDj,ZwL _ (Zta _) (by omega),ZDj,Zrn,Zrn]
theorem Zyr (x y:Int) (hy:y≠0) (hx1:Wl 256 x) (hy1:Wl 256 y):Zpo (bg x) (bg y)=some (fOf (Rat.divInt x y),0):=by unfold Zpo ZpD;rw[ZuX,Zu1 x hx1,ZDj,ZCx,cond_false,ZuX,Zu1 y hy1,ZDj,ZCx,cond_false,Zvj hy,cond_false,Zxj x y hy (ZC2 hx1 (by decide)) (ZC2 hy1 (by decide)),ZDj]
theorem ZAq (x y:Int) (hy:y≠0) (h1: -9223372036854775808≤x) (h2:x≤9223372036854775807) (h3: -9223372036854775808≤y) (h4:y≤9223372036854775807):Zp2 x y=some (fOf (Rat.divInt x y),0):=by unfold Zp2;rw[Zu5 x h1 h2,ZDj,Zu5 y h3 h4,ZDj,Zyr x y hy (ZBS h1 h2) (ZBS h3 h4),ZDj]
theorem Zwm (x y:Int) (hy:y≠0) (h1: -9223372036854775808≤x) (h2:x≤9223372036854775807) (h3: -9223372036854775808≤y) (h4:y≤9223372036854775807):Zor x y=some (fOf (Rat.divInt x y)):=by unfold Zor;rw[ZsJ];unfold ZrL;rw[ZAq x y hy h1 h2 h3 h4,ZDj]
theorem Zw7 (x:Int) (h1: -9223372036854775808≤x) (h2:x≤9223372036854775807):Zoz x=some (fOf (x:Rat)):=by unfold Zoz;rw[ZsJ];unfold ZrZ;rw[Zwm x 1 (by decide) h1 h2 (by decide) (by decide),ZDj,Zxm]
theorem ZAb {a b:Nat} (h:wd a=wd b):a=b:=by rw[←Zrn a,←Zrn b,h]
theorem ZvM (x y:Int) (hx:Wl 100000 x) (hy:Wl 100000 y):Zom (bg x) (bg y)=some (decide (x=y)):=by
 unfold Wl at hx hy;refine Zq7 ?_;unfold Zom Zo6;rw[Zuv,Zuv,ZpH,ZpH,ZnS,ZnS]
 by_cases hs:decide (x < 0)=decide (y < 0)
 ·rw[hs,beq_self_eq_true,ZCx,cond_false]
  by_cases hl:(wd x.natAbs).length=(wd y.natAbs).length
  ·rw[hl,bne_self_eq_false,cond_false,ZnE];refine ZoM (ZrK Ztb (wd y.natAbs).length (by omega) (fun i (_:Unit)=>(iL (wd x.natAbs),((wd y.natAbs).length:Int),i,bg y)) (fun i _=>(wd x.natAbs).take i=(wd y.natAbs).take i)
    (Q:=fun r=>r= .ret false∧wd x.natAbs≠wd y.natAbs∨r= .brk ()∧wd x.natAbs=wd y.natAbs) () (by rw[List.take_zero,List.take_zero]) ?_ ?_) ?_
   ·rintro rec i ⟨⟩ hi hP ih;have hi2:i < (wd x.natAbs).length:=by omega
    unfold ZpM ZoN;dsimp only;rw[Zn2];refine⟨fun _=> ?_,fun h=>by have:=of_decide_eq_false h;omega⟩;rw[ZpH,ZrW hi2,ZnE,ZnC,ZrW hi,ZnE,ZnC,Zn2];refine⟨fun h=> ?_,fun h=> ?_⟩
    ·rw[ZnC];refine .inl ⟨rfl,fun e=> ?_⟩;have h1:(wd y.natAbs)[i]=(wd x.natAbs)[i]:=by simp only[e]
     rw[h1,bne_self_eq_false]at h;exact absurd h (by decide)
    ·rw[ZnF];refine⟨ZnI (by omega),ih () ?_⟩;rw[bne_eq_false_iff_eq]at h;have h1:(wd y.natAbs)[i]=(wd x.natAbs)[i]:=by omega
     rw[ZCT hi2,ZCT hi,hP,h1]
   ·rintro rec ⟨⟩ hP;unfold ZpM ZoN;dsimp only;rw[Zn2];refine⟨fun h=>by have:=of_decide_eq_true h;omega,fun _=> ?_⟩;rw[ZnC];rw[ZCS,←hl,ZCS]at hP;exact .inr ⟨rfl,hP⟩
   ·rintro r (⟨rfl,h⟩ |⟨rfl,h⟩)
    ·exact ZnC.2 (decide_eq_false (fun e=>h (by rw[e]))).symm
    ·unfold Zqf;have h1:=ZAb h;refine ZnC.2 (decide_eq_true ?_).symm
     by_cases hy0:y < 0
     ·have hx0:x < 0:=by rw[decide_eq_true hy0]at hs;exact of_decide_eq_true hs
      omega
     ·have hx0:¬x < 0:=by rw[decide_eq_false hy0]at hs;exact of_decide_eq_false hs
      omega
  ·have:(((wd x.natAbs).length:Int) != ((wd y.natAbs).length:Int))=true:=by rw[bne_iff_ne];omega
   rw[this,cond_true,ZnC];exact(decide_eq_false (fun e=>hl (by rw[e]))).symm
 ·rw[beq_eq_false_iff_ne.2 hs,Bool.not_false,cond_true,cond_true,ZnC];exact(decide_eq_false (fun e=>hs (by rw[e]))).symm
theorem Zvb (p q:Rat) (hp:Wq 256 p) (hq:Wq 256 q):Zoo (fOf p) (fOf q)=some (decide (p=q)):=by
 have m:∀{x:Int},Wl 256 x→Wl 100000 x:=fun h=>ZC2 h (by decide)
 unfold Zoo ZpC fOf;dsimp only;rw[ZvM _ _ (m hp.1) (m hq.1),ZDj]
 by_cases h1:p.num=q.num
 ·rw[decide_eq_true h1,cond_true,ZvM _ _ (m hp.2) (m hq.2),ZDj];congr 1
  by_cases h2:p.den=q.den
  ·rw[decide_eq_true (by omega),decide_eq_true (Rat.ext h1 h2)]
  ·rw[decide_eq_false (by omega),decide_eq_false (fun e=>h2 (by rw[e]))]
 ·rw[decide_eq_false h1,cond_false,decide_eq_false (fun e=>h1 (by rw[e]))]
end Go.Proofs
namespace Go.Proofs
open Go Eng
theorem ZA0:∀x y:Str,Op.bytesLess x y=decide (x < y)
 |x,[]=>by
  have:¬x < []:=by simp
  rw[decide_eq_false this];cases x<;>rfl
 | [],b::y=>by
  have:([]:Str) < b::y:=by simp
  rw[decide_eq_true this];rfl
 |a::x,b::y=>by rw[Op.bytesLess,ZA0 x y,Bool.eq_iff_iff];simp only[Bool.or_eq_true,ZAk,decide_eq_true_eq,beq_iff_eq];rw[List.cons_lt_cons_iff]
def Srt (l:List Str):Prop:=l.Pairwise (fun a b=>a≤b)∧l.Nodup
theorem ZxB (l:List Str):Srt (ZsX l):=⟨ZuR l,Ztd l⟩
theorem ZxC {l:List Str} (h:Srt l) {i j:Nat} (hij:i < j) (hj:j < l.length):l[i] < l[j]:=by
 have h1:=List.pairwise_iff_getElem.1 h.1 i j (by omega) hj hij;have h2:=List.pairwise_iff_getElem.1 h.2 i j (by omega) hj hij;rcases List.le_iff_lt_or_eq.1 h1 with h3 |h3
 ·exact h3
 ·exact absurd h3 h2
theorem ZzE (x y:Str):ZrG x y=some (decide (x < y)):=by unfold ZrG Zq6 Zqm;rw[show (x == x)=true by simp];rw[←ZA0];rfl
theorem ZAs {i j:Nat} (h:i+j≤4611686018427387904):IntKind.wrap .i64 (shrK .u64 (IntKind.wrap .u64 ((i:Int)+(j:Int))) 1)=(((i+j) / 2:Nat):Int):=by rw[show (i:Int)+(j:Int)=((i+j:Nat):Int) by omega,Zn1 (by omega),show (1:Int)=((1:Nat):Int)from rfl,ZuD 1 (by decide),wrap_i64 (by omega)]
theorem ZxF {xs:List Str} (hs:Srt xs) (hl:xs.length≤1000000000000) (t:Str):wp (ZnY xs t) (fun r=>r.2=xs.contains t):=by
 unfold ZnY;rw[ZnE];refine ZoM (Zu8 Zr0 (fun(s:Nat×Nat)=>(xs,t,(xs.length:Int),(s.1:Int),(s.2:Int)))
  (fun s=>(s.1≤s.2∧s.2≤xs.length)∧(∀k (h:k < xs.length),k < s.1→xs[k] < t)∧(∀k (h:k < xs.length),s.2≤k→¬xs[k] < t)) (fun s=>s.2 - s.1)
  (Q:=fun x=>∃i:Nat,x=(xs,t,(xs.length:Int),(i:Int))∧i≤xs.length∧(∀k (h:k < xs.length),k < i→xs[k] < t)∧(∀k (h:k < xs.length),i≤k→¬xs[k] < t)) (0,xs.length) ⟨⟨Nat.zero_le _,ZC1 _⟩,fun k _ h=>absurd h (Nat.not_lt_zero _),fun k h h'=>absurd h (by dsimp only at h';omega)⟩ (by dsimp only;omega) ?_) ?_
 ·rintro rec ⟨i,j⟩ ⟨⟨h1,h2⟩,hlo,hhi⟩ ih;dsimp only at h1 h2 hlo hhi ih⊢
  unfold ZpU Zoy;dsimp only;rw[ZAs (by omega)];rw[Zn2];refine⟨fun h=> ?_,fun h=> ?_⟩
  ·simp only[decide_eq_true_eq]at h;have hij:i < j:=by omega
   have hm:(i+j) / 2 < xs.length:=by omega
   rw[ZnF,ZnF];refine⟨ZnI (by omega),by decide, ?_⟩;rw[ZuL hm,ZDj,ZzE,ZDj,Zn2];refine⟨fun hc=> ?_,fun hc=> ?_⟩
   ·simp only[decide_eq_true_eq]at hc;rw[ZnF];refine⟨ZnI (by omega), ?_⟩;have:=ih ((i+j) / 2+1,j) ⟨⟨by dsimp only;omega,h2⟩,fun k hk hlt=> ?_,hhi⟩ (by dsimp only;omega)
    ·dsimp only at this
     rwa [show (((i+j) / 2+1:Nat):Int)=(((i+j) / 2:Nat):Int)+1 by omega]at this
    ·dsimp only at hlt;rcases ZC5 k ((i+j) / 2)with h3 |h3
     ·exact List.lt_trans (ZxC hs h3 hm) hc
     ·obtain rfl:k=(i+j) / 2:=by omega
      exact hc
   ·simp only[decide_eq_false_iff_not]at hc;refine ih (i,(i+j) / 2) ⟨⟨by dsimp only;omega,by dsimp only;omega⟩,hlo,fun k hk hle=> ?_⟩ (by dsimp only;omega);dsimp only at hle;rcases ZC5 ((i+j) / 2) k with h3 |h3
    ·exact fun h4=>hc (List.lt_trans (ZxC hs h3 hk) h4)
    ·obtain rfl:k=(i+j) / 2:=by omega
     exact hc
  ·simp only[decide_eq_false_iff_not]at h;obtain rfl:i=j:=by omega
   rw[ZnC];exact⟨i,rfl,h2,hlo,hhi⟩
 ·rintro x ⟨i,rfl,hi,hlo,hhi⟩;dsimp only;unfold ZoO ZnM;have key:xs.contains t=true↔∃h:i < xs.length,xs[i]=t:=by
   rw[ZCE];constructor
   ·intro hm;obtain⟨k,hk,hkt⟩:=List.getElem_of_mem hm;have h1:i≤k:=by
     rcases ZC5 k i with h |h
     ·have:=hlo k hk h;rw[hkt]at this;exact absurd this (List.lt_irrefl t)
     ·exact h
    rcases ZC5 i k with h |h
    ·have h2:=ZxC hs h hk;rw[hkt]at h2;exact absurd h2 (hhi i (by omega) (ZC1 _))
    ·obtain rfl:i=k:=by omega
     exact⟨hk,hkt⟩
   ·rintro⟨h,rfl⟩;exact ZCK h
  rw[Zn2];refine⟨fun h=> ?_,fun h=> ?_⟩
  ·simp only[decide_eq_true_eq]at h;have hi':i < xs.length:=by omega
   rw[ZuL hi',ZDj,Zn2];refine⟨fun hc=> ?_,fun hc=> ?_⟩
   ·rw[ZnC];exact(key.2 ⟨hi',by simpa using hc⟩).symm
   ·have hn:xs.contains t=false:=by rw[Bool.eq_false_iff];intro h3;obtain⟨_,h4⟩:=key.1 h3;rw[h4]at hc;simp at hc
    rw[ZDj];unfold Zp5;rw[ZDj,show (xs[i] == xs[i])=true by simp,ZCx,cond_false,ZnC,hn]
  ·simp only[decide_eq_false_iff_not]at h;rw[ZnC]
   symm
   rw[Bool.eq_false_iff];intro h3;obtain⟨h4,_⟩:=key.1 h3;omega
def comm (a b:List Str):Nat:=(a.filter fun x=>b.contains x).length
theorem ZwK (a b:List Str):comm a b≤a.length:=ZCM _ _
theorem ZxE {a b:List Str} (hb:Srt b) (hla:a.length≤1000000000000) (hlb:b.length≤1000000000000):ZqA a b=some (comm a b:Int):=by
 refine Zq7 ?_;unfold ZqA;rw[ZnE];refine ZoM (ZrK Zt9 a.length (by omega) (fun i (n:Nat)=>(b,(n:Int),a,(a.length:Int),i)) (fun i n=>n=comm (a.take i) b)
  (Q:=fun x=>x=(comm a b:Int)) 0 (by simp[comm]) ?_ ?_) ?_
 ·rintro rec i n hi rfl ih;unfold Zry Zp8;dsimp only;rw[decide_eq_true (show (i:Int) < (a.length:Int) by omega),cond_true,ZuL hi,ZDj,ZnE];refine ZoM (ZxF hb hlb _) fun⟨q,ok⟩ hok=> ?_
  dsimp only at hok⊢
  have hc:comm (a.take (i+1)) b=comm (a.take i) b+(if b.contains a[i]then 1 else 0):=by unfold comm;rw[ZCT hi,List.filter_append,ZCL];congr 1;cases h:b.contains a[i]<;>(simp only[List.filter_cons,h,List.filter_nil];rfl)
  have hle:=ZwK (a.take i) b;rw[ZCO]at hle;have hk:inK .i64 ((i:Int)+1)=true:=ZnI (by omega);unfold ZqM;rw[Zn2];refine⟨fun h=> ?_,fun h=> ?_⟩
  ·rw[ZnF,ZnF];refine⟨ZnI (by omega),hk, ?_⟩;have:=ih (comm (a.take i) b+1) (by rw[hc,←hok,h];rfl)
   rwa [show ((comm (a.take i) b+1:Nat):Int)=(comm (a.take i) b:Int)+1 by omega]at this
  ·rw[ZnF];exact⟨hk,ih (comm (a.take i) b) (by rw[hc,←hok,h];rfl)⟩
 ·rintro rec n rfl;unfold Zry Zp8;dsimp only;rw[decide_eq_false (show ¬(a.length:Int) < (a.length:Int) by omega),cond_false,ZnC,ZCS]
 ·rintro x rfl;unfold Zr1;rw[ZnC]
end Go.Proofs
namespace Go.Proofs
open Go Eng
theorem ZvZ {x y:Int} (hy:y≠0) (h1:x.natAbs < 16) (h2:y.natAbs < 16):Sz 4 (Rat.divInt x y):=ZuC (k:=4) hy h1 h2
theorem ZCl:Zqe [48]=Zq4 false [] [1] false false [] []:=by kernel_rfl
theorem dec0:Zqe [48]=some (fOf (Rat.divInt 0 1),true):=by
 rw[ZCl];unfold Zq4;have e0:iL (wd 0)=[]:=by kernel_rfl
 have e1:iL (wd 1)=[1]:=by kernel_rfl
 have l0:Nat.ble (wd 0).length 50000=true:=by kernel_rfl
 have l1:Nat.ble (wd 1).length 50000=true:=by kernel_rfl
 have w0:=Nat.le_of_ble_eq_true l0;have w1:=Nat.le_of_ble_eq_true l1;have h1:=ZrS false 0 (by omega);have h2:=ZrS false 1 (by omega);rw[e0]at h1;rw[e1]at h2;rw[h1,ZDj,h2,ZDj];have:=Zue 0 1 (by decide) w0 w1;simp only[Bool.false_eq_true,if_false];rw[show ((0:Nat):Int)=0 from rfl,show ((1:Nat):Int)=1 from rfl,this,ZDj]
theorem can0:Zrv 4 [48]=some ([48],true):=by
 have h:Zrv 4 [48]=(Zsb [48]).bind fun(a,b)=>some (a,b):=by kernel_rfl
 rw[h];unfold Zsb;rw[dec0];show _=_
 kernel_rfl
theorem valZ:Zpp (ZnG.mk false [48])=some (fOf (Rat.divInt 0 1),true):=by
 unfold Zpp ZtF;rw[can0];dsimp only;rw[cond_false,ZDj];dsimp only;rw[ZCx,cond_false,dec0];show _=_
 kernel_rfl
def ZB6:List (Str×Int):=[([45,51], -3),([45,50], -2),([45,49], -1),([49],1),([50],2),([51],3),([52],4),([53],5),([54],6),([55],7),([56],8),([49,48],10)]
def ZzL:List (Str×Int):=[([45,49,46,53], -3),([49,46,53,48],3)]
def noT:List Str:=[[97],[98],[99],[100],[120],[],[49,46,50,46,51],[107,48],[107,49],[107,50],[107,51],[107,52],[107,53],[107,54],[107,55],[107,56],[107,57],[107,49,48],[107,49,49],[107,49,50],[107,49,51]]
def fx (n:Int) (d:Int):ZnA:=⟨⟨decide (n < 0),if n=0 then []else [(n.natAbs:Int)]⟩,⟨false,[d]⟩⟩
theorem ZxN:(ZB6.all fun p=>decide (Zpp (ZnG.mk false p.1)=some (fx p.2 1,true)))=true:=by kernel_rfl
theorem Zyx:(ZzL.all fun p=>decide (Zpp (ZnG.mk false p.1)=some (fx p.2 2,true)))=true:=by kernel_rfl
theorem ZyK:(noT.all fun s=>match Zpp (ZnG.mk false s)with |some (_,false)=>true |_=>false)=true:=by kernel_rfl
theorem ZAC:(ZB6.all fun p=>decide (fx p.2 1=fOf (Rat.divInt p.2 1))&&decide (p.2.natAbs < 16))=true:=by kernel_rfl
theorem ZzQ:(ZzL.all fun p=>decide (fx p.2 2=fOf (Rat.divInt p.2 2))&&decide (p.2.natAbs < 16))=true:=by kernel_rfl
def texts:List Str:=[48]::(ZB6.map (·.1)++ZzL.map (·.1)++noT)
def Zye (c:ZnG):Prop:=c=ZnG.mk true []∨∃s∈texts,c=ZnG.mk false s
theorem Zyk {c:ZnG} (h:Zye c):(∃q,Zpp c=some (fOf q,true)∧Sz 4 q)∨(∃f,Zpp c=some (f,false)):=by
 rcases h with rfl |⟨s,hs,rfl⟩
 ·refine .inr ⟨fOf 0, ?_⟩;unfold Zpp;dsimp only;rw[cond_true,ZvW];rfl
 ·rcases ZCQ.1 hs with rfl |hs
  ·exact .inl ⟨_,valZ,ZvZ (by decide) (by decide) (by decide)⟩
  ·rcases ZCP.1 hs with hs |hs
   ·rcases ZCP.1 hs with hs |hs
    ·obtain⟨p,hp,rfl⟩:=List.mem_map.1 hs;have h1:=of_decide_eq_true (ZCD.1 ZxN p hp);have h2:=ZCD.1 ZAC p hp;simp only[ZAk,decide_eq_true_eq]at h2;rw[h2.1]at h1;exact .inl ⟨_,h1,ZvZ (by decide) h2.2 (by decide)⟩
    ·obtain⟨p,hp,rfl⟩:=List.mem_map.1 hs;have h1:=of_decide_eq_true (ZCD.1 Zyx p hp);have h2:=ZCD.1 ZzQ p hp;simp only[ZAk,decide_eq_true_eq]at h2;rw[h2.1]at h1;exact .inl ⟨_,h1,ZvZ (by decide) h2.2 (by decide)⟩
   ·have h1:=ZCD.1 ZyK s hs;split at h1;rotate_left;simp at h1;rename_i f hf;exact .inr ⟨f,hf⟩
open Classical in
noncomputable def nv (c:ZnG):Option Rat:=if h:∃q,Zpp c=some (fOf q,true)∧Sz 4 q then some h.choose else none
theorem ZxL {c:ZnG} {q:Rat} (h:nv c=some q):Zpp c=some (fOf q,true)∧Sz 4 q:=by unfold nv at h;split at h;rotate_left;simp at h;rename_i hx;obtain rfl:=ZDk h;exact hx.choose_spec
theorem ZxM {c:ZnG} (hc:Zye c) (h:nv c=none):∃f,Zpp c=some (f,false):=by
 unfold nv at h;split at h
 ·simp at h
 ·rename_i hx;exact(Zyk hc).resolve_left hx
theorem Zv3 {s:Str} (h:texts.contains s=true):Zye (ZnG.mk false s):= .inr ⟨s,ZCE.1 h,rfl⟩
theorem Zxt {d:ZnD} (hd:ZvV d) {l:List Str} (h0:1≤l.length) (h1:l.length≤1000):wp (Zon d l) (fun r=>r.1∈l∧ZvV r.2):=by
 unfold Zon;rw[ZnE];refine ZoM (ZwI hd (by omega)) fun⟨q,d1⟩ ⟨hq,hd1⟩=> ?_
 dsimp only at hq hd1⊢
 rw[ZnE,ZyE];refine⟨hq.1,by omega, ?_⟩;rw[ZnC];exact⟨ZCK _,hd1⟩
end Go.Proofs
namespace Go.Proofs
open Go Eng
def ZpS (name:Str):List Str:=ZsX (Zs9 (name++[32]) [])
def Zxy (l:List ZnG):List Str:=(l.filter fun x=> !x.Null).map fun x=>x.Text
def Zsa (l:List ZnG):List Str:=ZsX (Zxy l)
theorem ZuT {name:Str} (h:name.length≤1000000):ZnX name=some (ZpS name):=by unfold ZnX;rw[ZsJ,decide_eq_true (by omega)];rfl
theorem Zwg {c:ZnJ} (h:c.Cells.length≤1000000):Zqh c=some (Zsa c.Cells):=by unfold Zqh;rw[ZsJ,decide_eq_true (by omega)];rfl
theorem Zvu:∀(s cur:List UInt8),(Zs9 s cur).length≤s.length
 | [],cur=>by simp[Zs9]
 |b::s,cur=>by
  have h1:=Zvu s [];have h3:=Zvu s (cur++[xwC b]);unfold Zs9;cases xwC b == 0 with
  |true=>
   rw[cond_true];cases cur.isEmpty with
   |true=>rw[cond_true];simp;omega
   |false=>rw[cond_false];simp;omega
  |false=>rw[cond_false];simp;omega
theorem ZvI (l:List (List UInt8)):(ZsX l).length≤l.length:=by
 have h:∀l:List (List UInt8),(Ztc l).length≤l.length:=by
  intro l
  induction l with
  |nil=>simp[Ztc]
  |cons x r ih=>
   unfold Ztc;cases r.contains x with
   |true=>rw[cond_true];simp;omega
   |false=>rw[cond_false];simp;omega
 unfold ZsX;rw[List.length_mergeSort];exact h l
theorem Zub (name:Str):(ZpS name).length≤name.length+1:=by have h1:=ZvI (Zs9 (name++[32]) []);have h2:=Zvu (name++[32]) [];simp only[ZCL,ZCN]at h2;exact ZC2 h1 h2
theorem Zui (l:List ZnG):(Zsa l).length≤l.length:=by have h1:=ZvI (Zxy l);unfold Zxy at h1;rw[List.length_map]at h1;exact ZC2 h1 (ZCM _ _)
theorem Zx0 (a:List Str):comm a a=a.length:=by unfold comm;rw[List.filter_eq_self.2];intro x hx;exact ZCE.2 hx
def Zus (a b:List Str):Rat:=Rat.divInt (comm a b:Int) (max (a.length+b.length - comm a b) 1:Nat)
theorem Zw0 {a b:List Str} (hb:Srt b) (hla:a.length≤1000000) (hlb:b.length≤1000000):Zp9 a b=some (fOf (Zus a b)):=by
 have hc:=ZwK a b;unfold Zp9;rw[ZxE hb (by omega) (by omega),ZDj,ZnI (by omega),ZnI (by omega),chk_true,chk_true];have e:(if (1:Int) > (((a.length:Int)+(b.length:Int)) - (comm a b:Int))then (1:Int)else (((a.length:Int)+(b.length:Int)) - (comm a b:Int)))=((max (a.length+b.length - comm a b) 1:Nat):Int):=by
  rcases ZC5 (a.length+b.length - comm a b) 1 with h |h
  ·rw[if_pos (by omega),Nat.max_eq_right (by omega)];rfl
  ·rw[Nat.max_eq_left h];split<;>omega
 rw[e,Zvs _ _ (by omega) (by omega) (by omega) (by omega) (by omega),ZDj];rfl
theorem Zwj {a b:List Str} {k:Nat} (hk:a.length+b.length < 2 ^ k) (h1:1 < 2 ^ k):Sz k (Zus a b):=by have:=ZwK a b;exact ZuC (by omega) (by omega) (by omega)
theorem Zu4 {a:List Str}:Zus a a=if a=[]then 0 else 1:=by
 unfold Zus;rw[Zx0];cases a with
 |nil=>rw[if_pos rfl];decide+kernel
 |cons x r=>
  rw[if_neg (by simp)];have e:max ((x::r).length+(x::r).length - (x::r).length) 1=(x::r).length:=by simp
  rw[e,Rat.divInt_self' (by simp only[List.length_cons];omega)]
noncomputable def isN (c:ZnG):Bool:=(nv c).isSome
noncomputable def Zvg (l:List ZnG):Nat:=(l.filter fun x=> !x.Null).length
noncomputable def Zyq (l:List ZnG):Nat:=(l.filter fun x=> !x.Null&&isN x).length
noncomputable def Ztz (l:List ZnG):Rat:=Rat.divInt (Zyq l:Int) (max (Zvg l) 1:Nat)
theorem ZwH (l:List ZnG):Zyq l≤Zvg l:=by unfold Zyq Zvg;rw[show (fun x:ZnG=> !x.Null&&isN x)=fun x=>(isN x)&& !x.Null from funext fun x=>Bool.and_comm _ _,←List.filter_filter];exact ZCM _ _
theorem Zv4 (l:List ZnG):Zvg l≤l.length:=ZCM _ _
theorem Zv0 {c:ZnJ} (hc:∀x∈c.Cells,Zye x) (hl:c.Cells.length≤1000):ZoT c=some (fOf (Ztz c.Cells)):=by
 unfold ZoT;rw[ZsJ];refine Zq7 ?_;unfold Zs3;rw[ZnE];refine ZoM (Zv5 Zuc c.Cells (by omega) (fun i (s:Nat×Nat)=>((s.1:Int),(s.2:Int),c.Cells,(c.Cells.length:Int),i,false,false,([]:List Int),([]:List Int))) (fun k s=>s.1=Zvg (c.Cells.take k)∧s.2=Zyq (c.Cells.take k))
  (Q:=fun x=>x=((Zvg c.Cells:Int),(Zyq c.Cells:Int),false,false,([]:List Int),([]:List Int))) (0,0) ⟨by simp[Zvg],by simp[Zyq]⟩ ?_ ?_) ?_
 ·rintro rec k ⟨f,n⟩ hk ⟨hf,hn⟩ ih;dsimp only at hf hn ih;unfold ZrM Zqo Zp7;dsimp only;have hs:c.Cells.take (k+1)=c.Cells.take k++[c.Cells[k]]:=ZCT hk;have b1:=Zv4 (c.Cells.take k);have b2:=ZwH (c.Cells.take k);rw[ZCO]at b1;have e1:Zvg (c.Cells.take (k+1))=f+(bif c.Cells[k].Null then 0 else 1):=by rw[hs,hf];unfold Zvg;rw[List.filter_append,ZCL];cases h:c.Cells[k].Null<;>simp[List.filter_cons,h]
  have e2:Zyq (c.Cells.take (k+1))=n+(bif !c.Cells[k].Null&&isN c.Cells[k]then 1 else 0):=by rw[hs,hn];unfold Zyq;rw[List.filter_append,ZCL];cases h:(!c.Cells[k].Null&&isN c.Cells[k])<;>simp[List.filter_cons,h]
  rw[decide_eq_true (show (k:Int) < (c.Cells.length:Int) by omega),cond_true,ZuL hk,ZDj];cases hnul:c.Cells[k].Null with
  |true=>
   rw[hnul]at e1 e2;rw[cond_true,ZnF];exact⟨ZnI (by omega),ih (f,n) ⟨by rw[e1];rfl,by rw[e2];rfl⟩⟩
  |false=>
   rw[hnul]at e1 e2;rw[cond_false,ZnF];refine⟨ZnI (by omega), ?_⟩;cases hv:nv c.Cells[k]with
   |some q=>
    have hi:isN c.Cells[k]=true:=by unfold isN;rw[hv];rfl
    rw[hi]at e2;rw[(ZxL hv).1,ZDj];dsimp only;rw[cond_true,ZnF,ZnF];refine⟨ZnI (by omega),ZnI (by omega), ?_⟩;have:=ih (f+1,n+1) ⟨by rw[e1];rfl,by rw[e2];rfl⟩
    rwa [show ((f+1:Nat):Int)=(f:Int)+1 by omega,show ((n+1:Nat):Int)=(n:Int)+1 by omega]at this
   |none=>
    have hi:isN c.Cells[k]=false:=by unfold isN;rw[hv];rfl
    rw[hi]at e2;obtain⟨g,hg⟩:=ZxM (hc _ (ZCK hk)) hv;rw[hg,ZDj];dsimp only;rw[cond_false,ZnF];refine⟨ZnI (by omega), ?_⟩;have:=ih (f+1,n) ⟨by rw[e1];rfl,by rw[e2];rfl⟩
    rwa [show ((f+1:Nat):Int)=(f:Int)+1 by omega]at this
 ·rintro rec ⟨f,n⟩ ⟨hf,hn⟩;dsimp only at hf hn;unfold ZrM Zqo;dsimp only;rw[decide_eq_false (show ¬(c.Cells.length:Int) < (c.Cells.length:Int) by omega),cond_false,ZnC,hf,hn,ZCS]
 ·rintro x rfl;have b1:=Zv4 c.Cells;have b2:=ZwH c.Cells;dsimp only;unfold Zsf;have e:(if (1:Int) > (Zvg c.Cells:Int)then (1:Int)else (Zvg c.Cells:Int))=((max (Zvg c.Cells) 1:Nat):Int):=by
   rcases ZC5 (Zvg c.Cells) 1 with h |h
   ·rw[if_pos (by omega),Nat.max_eq_right (by omega)];rfl
   ·rw[Nat.max_eq_left h];split<;>omega
  rw[e,Zvs _ _ (by omega) (by omega) (by omega) (by omega) (by omega),ZDj,ZnC];rfl
theorem Zwi {l:List ZnG} {k:Nat} (h:l.length < 2 ^ k) (h1:1 < 2 ^ k):Sz k (Ztz l):=by have b1:=Zv4 l;have b2:=ZwH l;exact ZuC (by omega) (by omega) (by omega)
end Go.Proofs
namespace Go.Proofs
open Go Eng
theorem Zwk {a:Rat}:(Zzu a 0 == 0)=decide (a=0):=by
 unfold Zzu
 by_cases h:a < 0
 ·rw[if_pos h,decide_eq_false (by grind)];rfl
 ·rw[if_neg h]
  by_cases h2:0 < a
  ·rw[if_pos h2,decide_eq_false (by grind)];rfl
  ·rw[if_neg h2,decide_eq_true (by grind)];rfl
theorem Zwl (a b:Rat):(Zzu a b < 0)↔a < b:=by
 unfold Zzu
 by_cases h:a < b
 ·rw[if_pos h];exact⟨fun _=>h,fun _=>by decide⟩
 ·rw[if_neg h];refine⟨fun h2=> ?_,fun h2=>absurd h2 h⟩;split at h2<;>exact absurd h2 (by decide)
def Zz7 (x:Rat):Rat:=if x < 0 then 0 - x else x
def ofQ (v n s t:Rat):Rat:=if v=0∧n=0 then 0 else (v+v+n+(1 - Zz7 (s - t))) / 4
noncomputable def ZAW (a b:ZnJ):Rat:=ofQ (Zus (Zsa a.Cells) (Zsa b.Cells)) (Zus (ZpS a.Name) (ZpS b.Name)) (Ztz a.Cells) (Ztz b.Cells)
structure Zyd (a:ZnJ):Prop where
 name:a.Name.length≤300
 rows:a.Cells.length≤100
 cells:∀x∈a.Cells,Zye x
theorem ZxA (s:Str):Srt (ZpS s):=ZxB _
theorem Zxi (l:List ZnG):Srt (Zsa l):=ZxB _
theorem Zzk {a b:ZnJ} (ha:a.Cells.length≤100) (hb:b.Cells.length≤100):ZqB a b=some (fOf (Zus (Zsa a.Cells) (Zsa b.Cells))):=by have h1:=Zui a.Cells;have h2:=Zui b.Cells;unfold ZqB;rw[Zwg (by omega),ZDj,Zwg (by omega),ZDj,Zw0 (Zxi _) (by omega) (by omega),ZDj]
theorem Zw4 {a b:Str} (ha:a.length≤300) (hb:b.length≤300):Zqb a b=some (fOf (Zus (ZpS a) (ZpS b))):=by have h1:=Zub a;have h2:=Zub b;unfold Zqb;rw[ZuT (by omega),ZDj,ZuT (by omega),ZDj,Zw0 (ZxA _) (by omega) (by omega),ZDj]
theorem Zzj {a b:ZnJ} (ha:a.Cells.length≤100) (hb:b.Cells.length≤100):Sz 10 (Zus (Zsa a.Cells) (Zsa b.Cells)):=by have h1:=Zui a.Cells;have h2:=Zui b.Cells;exact Zwj (by omega) (by decide)
theorem Zw3 {a b:Str} (ha:a.length≤300) (hb:b.length≤300):Sz 10 (Zus (ZpS a) (ZpS b)):=by have h1:=Zub a;have h2:=Zub b;exact Zwj (by omega) (by decide)
theorem ZwV:Sz 1 1:=by unfold Sz;decide
theorem ZzA:Ztj 1 1=some (fOf 1):=by
 have:=Zvs 1 1 (by decide) (by decide) (by decide) (by decide) (by decide)
 rwa [show Rat.divInt 1 1=1 by decide+kernel]at this
theorem Zzz:Ztj 4 1=some (fOf 4):=by
 have:=Zvs 4 1 (by decide) (by decide) (by decide) (by decide) (by decide)
 rwa [show Rat.divInt 4 1=4 by decide+kernel]at this
theorem Zzn:Sz 3 4:=by unfold Sz;decide
theorem Zz0 {x:Rat} {k:Nat} (h:Sz k x) (hk:1≤k):Sz (k+2) (Zz7 x):=by
 unfold Zz7;split
 ·have:=ZwB.add h.neg;rw[show (0:Rat) - x=0+ -x by grind];exact this.mono (by omega)
 ·exact h.mono (by omega)
theorem ZAn {v n ap:Rat} (hv:Sz 10 v) (hn:Sz 10 n) (ha:Sz 30 ap):Zq0 false false (fOf v) (fOf n) (fOf ap) [] []=some (fOf ((v+v+n+(1 - ap)) / 4)):=by
 unfold Zq0;have h1:=hv.add hv;have h2:=h1.add hn;have h3:Sz 32 (1 - ap):=by rw[show (1:Rat) - ap=1+ -ap by grind];exact(ZwV.add ha.neg).mono (by decide)
 have h4:=h2.add h3;rw[ZvA hv hv (by decide),ZDj,ZvA h1 hn (by decide),ZDj,ZzA,ZDj,Zvz ZwV ha (by decide),ZDj,ZvA h2 h3 (by decide),ZDj,Zzz,ZDj,
  ZxO (by decide) h4 Zzn (by decide),ZDj]
theorem ZAo {a b:ZnJ} (ha:Zyd a) (hb:Zyd b) {v n:Rat} (hv:Sz 10 v) (hn:Sz 10 n):
  Zqa false a b false false (fOf v) (fOf n) [] []=some (fOf ((v+v+n+(1 - Zz7 (Ztz a.Cells - Ztz b.Cells))) / 4)):=by
 unfold Zqa;have hr1:=ha.rows;have hr2:=hb.rows;have h1:Sz 10 (Ztz a.Cells):=Zwi (by omega) (by decide);have h2:Sz 10 (Ztz b.Cells):=Zwi (by omega) (by decide);have h3:Sz 21 (Ztz a.Cells - Ztz b.Cells):=by rw[Rat.sub_eq_add_neg];exact h1.add h2.neg
 rw[cond_false,Zv0 ha.cells (by omega),ZDj,Zv0 hb.cells (by omega),ZDj,Zvz h1 h2 (by decide),ZDj,ZwE (h3.wq (by decide)),ZDj];have h4:=Zz0 h3 (by decide);unfold Zz7 at h4⊢
 by_cases h:Ztz a.Cells - Ztz b.Cells < 0
 ·rw[decide_eq_true ((Zwl _ _).2 h),cond_true,ZvW,ZDj,Zvz ZwB h3 (by decide),ZDj];rw[if_pos h]at h4⊢
  exact ZAn hv hn (h4.mono (by decide))
 ·rw[decide_eq_false (fun h5=>h ((Zwl _ _).1 h5)),cond_false];rw[if_neg h]at h4⊢
  exact ZAn hv hn (h4.mono (by decide))
theorem ZAV {a b:ZnJ} (ha:Zyd a) (hb:Zyd b):Zrz a b=some (fOf (ZAW a b)):=by
 unfold Zrz ZAW ofQ;have hv:=Zzj ha.rows hb.rows;have hn:=Zw3 ha.name hb.name;rw[Zzk ha.rows hb.rows,ZDj,Zw4 ha.name hb.name,ZDj,ZwE (hv.wq (by decide)),ZDj,Zwk]
 by_cases h1:Zus (Zsa a.Cells) (Zsa b.Cells)=0
 ·rw[decide_eq_true h1,cond_true,ZwE (hn.wq (by decide)),ZDj,Zwk]
  by_cases h2:Zus (ZpS a.Name) (ZpS b.Name)=0
  ·rw[decide_eq_true h2,if_pos ⟨h1,h2⟩];unfold Zqa;rw[cond_true,ZvW,ZDj]
  ·rw[decide_eq_false h2,if_neg (fun h=>h2 h.2)];exact ZAo ha hb hv hn
 ·rw[decide_eq_false h1,cond_false,if_neg (fun h=>h1 h.1)];exact ZAo ha hb hv hn
theorem Zx1 (a:ZnJ):ZAW a a=if ZpS a.Name=[]then (if Zsa a.Cells=[]then 0 else 3 / 4)else (if Zsa a.Cells=[]then 1 / 2 else 1):=by
 unfold ZAW;rw[Zu4,Zu4];unfold ofQ Zz7;have e:Ztz a.Cells - Ztz a.Cells=0:=by grind
 rw[e]
 by_cases h1:ZpS a.Name=[]<;>by_cases h2:Zsa a.Cells=[]<;>simp only[h1,h2,if_true,if_false]<;>decide+kernel
end Go.Proofs
namespace Go.Proofs
open Go Eng
theorem ZuE {a b:List Str} (ha:a.length≤1000000):ZnT a b=some (decide (a=b)):=by
 unfold ZnT
 by_cases hl:a.length=b.length
 ·rw[show ((a.length:Int) != (b.length:Int))=false by rw[hl];simp,cond_false];have key:wp (Zoi big b a (a.length:Int) 0) (fun x=>x=if a=b then .brk ()else .ret false):=by
   refine Zv5 ZsV a (by omega) (fun i (_:Unit)=>(b,a,(a.length:Int),i)) (fun k _=>a.take k=b.take k) () (by simp) ?_ ?_
   ·rintro rec k _ hk he ih;unfold Zpj Zov;dsimp only;have hkb:k < b.length:=by omega
    rw[decide_eq_true (show (k:Int) < (a.length:Int) by omega),cond_true,ZuL hk,ZDj,ZuL hkb,ZDj]
    by_cases h:b[k]=a[k]
    ·rw[show (b[k] == a[k])=true by simpa using h,ZCx,cond_false,ZnF];refine⟨ZnI (by omega),ih () ?_⟩;rw[ZCT hk,ZCT hkb,he,h]
    ·rw[show (b[k] == a[k])=false by simpa using h,Bool.not_false,cond_true,ZnC,if_neg];intro e;subst e;exact h rfl
   ·rintro rec _ he;unfold Zpj Zov;dsimp only;rw[decide_eq_false (show ¬(a.length:Int) < (a.length:Int) by omega),cond_false,ZnC,if_pos];have h2:=he;rw[ZCS,hl,ZCS]at h2;exact h2
  obtain⟨x,hx,rfl⟩:=key;rw[hx,ZDj]
  by_cases h:a=b
  ·rw[if_pos h,decide_eq_true h];rfl
  ·rw[if_neg h,decide_eq_false h]
 ·rw[show ((a.length:Int) != (b.length:Int))=true by simp;omega,cond_true,decide_eq_false (fun e=>hl (by rw[e]))]
theorem ZwN {l r:List Str} (h1:r.Pairwise (fun a b=>a≤b)) (h2:r.Nodup) (h:∀x,x∈l↔x∈r):ZsX l=r:=
 Zul (ZuR l) h1 (Ztd l) h2 fun x=>by rw[ZsW,h]
def Zwu:Str:=[85,110,105,116,32,80,114,105,99,101,95,50]
def Zu6:ZnJ:=⟨Zwu,[⟨false,[49]⟩,⟨false,[120]⟩]⟩
theorem Zw9:ZpS Zwu=[[50],[112,114,105,99,101],[117,110,105,116]]:=by
 have e:Zs9 (Zwu++[32]) []=[[117,110,105,116],[112,114,105,99,101],[50]]:=by decide+kernel
 unfold ZpS;rw[e];exact ZwN (by decide+kernel) (by decide+kernel) (fun x=>by simp only[ZCQ,ZCR,or_false];constructor<;>(rintro(h |h |h)<;>simp[h]))
theorem ZzY:Zyd Zu6:=⟨by decide,by decide,fun x hx=>by
 simp only[Zu6,ZCQ,ZCR,or_false]at hx;rcases hx with rfl |rfl
 ·exact Zv3 (by kernel_rfl)
 ·exact Zv3 (by kernel_rfl)⟩
theorem Zx5:Zsa Zu6.Cells≠[]:=by
 intro h;have:([49]:Str)∈Zsa Zu6.Cells:=by unfold Zsa;rw[ZsW];decide+kernel
 rw[h]at this;simp at this
theorem ZzK:isN ⟨false,[49]⟩=true:=by
 unfold isN;cases h:nv ⟨false,[49]⟩with
 |some q=>rfl
 |none=>
  obtain⟨f,hf⟩:=ZxM (Zv3 (by kernel_rfl)) h;have h1:=of_decide_eq_true (ZCD.1 ZxN ([49],1) (by decide+kernel));rw[hf]at h1;simp at h1
theorem ZCb:isN ⟨false,[120]⟩=false:=by
 unfold isN;cases h:nv ⟨false,[120]⟩with
 |none=>rfl
 |some q=>
  have hf:=(ZxL h).1;have h1:=ZCD.1 ZyK [120] (by decide+kernel);rw[hf]at h1;simp at h1
theorem ZyC:Ztz Zu6.Cells=1 / 2:=by
 unfold Ztz Zyq Zvg;have e1:(Zu6.Cells.filter fun x=> !x.Null&&isN x)=[⟨false,[49]⟩]:=by simp[Zu6,ZzK,ZCb]
 have e2:(Zu6.Cells.filter fun x=> !x.Null)=Zu6.Cells:=by decide+kernel
 rw[e1,e2];decide+kernel
theorem ZxR:Zoz 1=some (fOf 1):=Zw7 1 (by decide) (by decide)
theorem ZxJ:Zor 1 2=some (fOf (1 / 2)):=by rw[Zwm 1 2 (by decide) (by decide) (by decide) (by decide) (by decide)];congr 2;decide+kernel
theorem Zxz:Sz 2 (1 / 2):=by unfold Sz;decide+kernel
theorem ZwM:ZoB=some true:=by
 unfold ZoB ZoI;show (ZnX Zwu).bind _=_;rw[ZuT (by decide),ZDj,Zw9,ZuE (by decide),ZDj,decide_eq_true rfl,cond_true];show (Zrz Zu6 Zu6).bind _=_;have e:ZAW Zu6 Zu6=1:=by rw[Zx1,if_neg (by rw[show Zu6.Name=Zwu from rfl,Zw9];simp),if_neg Zx5]
 rw[ZAV ZzY ZzY,ZDj,e,ZxR,ZDj,Zvb _ _ (ZwV.wq (by decide)) (ZwV.wq (by decide)),ZDj,decide_eq_true rfl,cond_true];show (ZoT Zu6).bind _=_;rw[Zv0 ZzY.cells (by decide),ZDj,ZyC,ZxJ,ZDj,Zvb _ _ (Zxz.wq (by decide)) (Zxz.wq (by decide)),ZDj,decide_eq_true rfl]
end Go.Proofs
namespace Go.Proofs
open Go Eng
def W4:List Str:=[[117,110,105,116],[112,114,105,99,101],[120,50],[105,100]]
def U4:List Str:=[[85,78,73,84],[80,114,105,99,101],[88,50],[105,68]]
def ZB5:List Str:=[[32],[95],[45,45],[47]]
def ZB4:List Str:=[[46],[32],[95]]
theorem ZyN:∀(p:Str) (tail cur:Str),p≠[]→(p.all fun b=>xwC b == 0)=true→Zs9 (p++tail) cur=bif cur.isEmpty then Zs9 tail []else cur::Zs9 tail []
 | [],_,_,h,_=>absurd rfl h
 |b::p,tail,cur,_,h=>by
  rw[List.all_cons,ZAk]at h;rw[List.cons_append,Zs9,h.1,cond_true];cases p with
  |nil=>rfl
  |cons c p=>
   have:=ZyN (c::p) tail [] (by simp) h.2;rw[this];rfl
theorem ZxV:∀(p:Str) (tail cur:Str),(p.all fun b=>xwC b != 0)=true→Zs9 (p++tail) cur=Zs9 tail (cur++p.map xwC)
 | [],_,_,_=>by simp
 |b::p,tail,cur,h=>by
  rw[List.all_cons,ZAk]at h;have h1:(xwC b == 0)=false:=by have:=h.1;simpa using this
  rw[List.cons_append,Zs9,h1,cond_false,ZxV p tail _ h.2];simp
theorem ZxW {w s:Str} (hw:(w.all fun b=>xwC b != 0)=true) (hw0:(w.map xwC).isEmpty=false) (hs:(s.all fun b=>xwC b == 0)=true) (hs0:s≠[]) (tail:Str):Zs9 (w++s++tail) []=w.map xwC::Zs9 tail []:=by rw[List.append_assoc,ZxV w _ _ hw,List.nil_append,ZyN s tail _ hs0 hs,hw0];rfl
theorem Zzi:(W4.all fun w=>(w.all fun b=>xwC b != 0)&& !(w.map xwC).isEmpty&&(w.map xwC == w)&&decide (w.length≤10))=true:=by decide+kernel
theorem ZAe:(U4.all fun w=>(w.all fun b=>xwC b != 0)&& !(w.map xwC).isEmpty&&decide (w.length≤10))=true:=by decide+kernel
theorem ZwW:((ZB5++ZB4).all fun s=>(s.all fun b=>xwC b == 0)&& !s.isEmpty&&decide (s.length≤2))=true:=by decide+kernel
theorem ZAf:U4.map (fun w=>w.map xwC)=W4:=by decide+kernel
theorem go_W {k:Nat} (hk:k < W4.length) {s:Str} (hs:s∈ZB5) (tail:Str):Zs9 (W4[k]++s++tail) []=W4[k]::Zs9 tail []:=by have h1:=ZCD.1 Zzi _ (ZCK hk);have h2:=ZCD.1 ZwW s (List.mem_append_left _ hs);simp only[ZAk,Bool.not_eq_true',beq_iff_eq]at h1 h2;have:=ZxW h1.1.1.1 h1.1.1.2 h2.1.1 (by intro e;rw[e]at h2;simp at h2) tail;rw[h1.1.2]at this;exact this
theorem go_U {k:Nat} (hk:k < U4.length) (hk':k < W4.length) {s:Str} (hs:s∈ZB4) (tail:Str):Zs9 (U4[k]++s++tail) []=W4[k]::Zs9 tail []:=by
 have h1:=ZCD.1 ZAe _ (ZCK hk);have h2:=ZCD.1 ZwW s (List.mem_append_right _ hs);simp only[ZAk,Bool.not_eq_true',beq_iff_eq]at h1 h2;have:=ZxW h1.1.1 h1.1.2 h2.1.1 (by intro e;rw[e]at h2;simp at h2) tail;have e:U4[k].map xwC=W4[k]:=by
  have h3:(U4.map (fun w=>w.map xwC))[k]'(by simpa using hk)=W4[k]:=by simp only[ZAf]
  rwa [List.getElem_map]at h3
 exact this.trans (congrArg (· ::Zs9 tail []) e)
structure ZBV (i:Nat) (a b:Str) (A B:List Str):Prop where
 la:a.length≤12*i
 lb:b.length≤12*i
 ga:∀tail,Zs9 (a++tail) []=A++Zs9 tail []
 gb:∀tail,Zs9 (b++tail) []=B++Zs9 tail []
 ab:∀x,x∈A↔x∈B
 a4:∀x∈A,x∈W4
theorem Zyh {i:Nat} {a b:Str} {A B:List Str} (h:ZBV i a b A B):ZpS a=ZsX A∧ZpS b=ZsX A:=by unfold ZpS;rw[h.ga,h.gb,show Zs9 [32] []=[] by decide+kernel,List.append_nil,List.append_nil];exact⟨rfl,Zwx fun x=>(h.ab x).symm⟩
theorem Zxr {w:Str} (h:w∈W4):ZpS w=[w]:=by
 have e:(W4.all fun w=>Zs9 (w++[32]) [] == [w])=true:=by decide+kernel
 have:=ZCD.1 e w h;unfold ZpS;rw[eq_of_beq this];exact ZwN (by simp) (by simp) (fun _=>Iff.rfl)
theorem ZAc {w:Str} (h:w∈W4):w.length≤10:=by have h1:=ZCD.1 Zzi w h;simp only[ZAk,decide_eq_true_eq]at h1;exact h1.2
theorem Zyi {a b:Str} (ha:a.length≤300) (hb:b.length≤300) (h:ZpS a=ZpS b):Zof a b (ZpS a)=some true:=by
 unfold Zof Zoh;have hz:=(Zw3 ha hb).wq (by decide);rw[Zw4 ha hb,ZDj];rw[←h]at hz⊢
 rw[Zu4]at hz⊢
 cases he:ZpS a with
 |nil=>
  rw[he,if_pos rfl]at hz;rw[if_pos rfl,show (if ((([]:List Str)).length:Int) < (1:Int)then ((([]:List Str)).length:Int)else (1:Int))=0 from rfl,Zw7 0 (by decide) (by decide),ZDj];rw[show (((0:Int)):Rat)=0 from rfl,Zvb _ _ hz hz,ZDj,decide_eq_true rfl,cond_true,ZwM,ZDj]
 |cons x r=>
  rw[he,if_neg (by simp)]at hz;have e3:(if (((x::r)).length:Int) < (1:Int)then (((x::r)).length:Int)else (1:Int))=1:=if_neg (by simp only[List.length_cons];omega);rw[e3,if_neg (show ¬x::r=[] by simp),ZxR,ZDj,Zvb _ _ hz hz,ZDj,decide_eq_true rfl,cond_true,ZwM,ZDj]
theorem Zyj {i:Nat} {a b:Str} {A B:List Str} (h:ZBV i a b A B) (hi:i≤6):Zog a b=some true:=by
 obtain⟨e1,e2⟩:=Zyh h;have ha:=h.la;have hb:=h.lb;have hlen:=Zub a;have h4:∀w∈ZpS a,w∈W4:=fun w hw=>by rw[e1,ZsW]at hw;exact h.a4 w hw
 unfold Zog;rw[ZuT (by omega),ZDj,ZuT (by omega),ZDj,ZuE (by omega),ZDj,decide_eq_true (e1.trans e2.symm),ZCx,cond_false];have key:wp (ZnR big a b (ZpS a) (ZpS a) ((ZpS a).length:Int) 0) (fun x=>x= .brk (a,b,ZpS a)):=by
  refine Zv5 Zr7 (ZpS a) (by omega) (fun i (_:Unit)=>(a,b,ZpS a,ZpS a,((ZpS a).length:Int),i)) (fun _ _=>True) () trivial ?_ ?_
  ·rintro rec k _ hk _ ih;unfold ZoJ Zn8;dsimp only;have hm:=h4 _ (ZCK hk);have hl:=ZAc hm;rw[decide_eq_true (show (k:Int) < ((ZpS a).length:Int) by omega),cond_true,ZuL hk,ZDj,ZuT (by omega),ZDj,Zxr hm,ZuE (by simp),ZDj,decide_eq_true rfl,ZCx,cond_false,ZnF];exact⟨ZnI (by omega),ih () trivial⟩
  ·rintro rec _ _;unfold ZoJ Zn8;dsimp only;rw[decide_eq_false (show ¬((ZpS a).length:Int) < ((ZpS a).length:Int) by omega),cond_false,ZnC]
 obtain⟨x,hx,rfl⟩:=key;rw[hx,ZDj];exact Zyi (by omega) (by omega) (e1.trans e2.symm)
theorem similarityWords_law (t:List Int):Zoq t=some true:=by
 refine Zq7 ?_;unfold Zoq ZqL;rw[ZnE,ZnC,Zn2];refine⟨fun _=>by rw[ZwM,ZnE,ZnC,ZnC],fun hl=> ?_⟩;simp only[Bool.not_eq_false',decide_eq_true_eq]at hl;unfold ZqZ;rw[ZnE,ZnC,ZnE];refine ZoM (ZwI (d:=⟨t,0⟩) ⟨by simp,by simp,by simp only;omega⟩ (n:=6) (by omega)) ?_;rintro⟨q2,d1⟩ ⟨hq2,hd1⟩;dsimp only at hq2 hd1⊢
 obtain⟨m,rfl⟩:∃m:Nat,q2=(m:Int):=⟨q2.toNat,by omega⟩;rw[ZnE];refine ZoM (ZrK Zr8 m (by omega) (fun i (s:ZnD×Str×Str)=>(s.2.1,s.2.2,(m:Int),i,s.1)) (fun i s=>ZvV s.1∧∃A B,ZBV i s.2.1 s.2.2 A B)
  (Q:=fun x=>∃A B,ZBV m x.1 x.2 A B) (d1,[],[]) ⟨hd1,[],[],⟨by simp,by simp,fun _=>rfl,fun _=>rfl,fun _=>Iff.rfl,fun x h=>absurd h (by simp)⟩⟩ ?_ ?_) ?_
 ·rintro rec i ⟨d,a,b⟩ hi ⟨hd,A,B,h⟩ ih;dsimp only at hd h ih;have hla:=h.la;have hlb:=h.lb;unfold ZoK Zn9;dsimp only;rw[decide_eq_true (show (i:Int) < (m:Int) by omega),cond_true,ZnE];refine ZoM (ZwI hd (n:=4) (by omega)) ?_;rintro⟨n,d2⟩ ⟨hn,hd2⟩;dsimp only at hn hd2⊢
  obtain⟨k,rfl⟩:∃k:Nat,n=(k:Int):=⟨n.toNat,by omega⟩;have hk:k < W4.length:=by show k < 4;omega
  have hk':k < U4.length:=by show k < 4;omega
  have hw:=ZCD.1 Zzi _ (ZCK hk);have hu:=ZCD.1 ZAe _ (ZCK hk');simp only[ZAk,decide_eq_true_eq]at hw hu;show wp (chk (inR (k:Int) (W4.length:Int)) <| (W4[(k:Int).toNat]?).bind _) _;rw[ZnF,ZCC,ZCH hk,ZDj,ZnE];refine⟨ZxT hk, ?_⟩;refine ZoM (Zxt hd2 (l:=ZB5) (by decide) (by decide)) ?_;rintro⟨s,d3⟩ ⟨hs,hd3⟩;dsimp only at hs hd3⊢
  have hs2:=ZCD.1 ZwW s (List.mem_append_left _ hs);simp only[ZAk,decide_eq_true_eq]at hs2;rw[ZnF,ZnF];refine⟨decide_eq_true (by unfold Zq;omega),decide_eq_true (by rw[ZCL];unfold Zq;omega), ?_⟩;show wp (chk (inR (k:Int) (U4.length:Int)) <| (U4[k]?).bind _) _;rw[ZnF,ZCH hk',ZDj,ZnE];refine⟨ZxT hk', ?_⟩;refine ZoM (Zxt hd3 (l:=ZB4) (by decide) (by decide)) ?_;rintro⟨s',d4⟩ ⟨hs',hd4⟩;dsimp only at hs' hd4⊢
  have hs3:=ZCD.1 ZwW s' (List.mem_append_right _ hs');simp only[ZAk,decide_eq_true_eq]at hs3;rw[ZnF,ZnF,ZnF];refine⟨decide_eq_true (by unfold Zq;omega),decide_eq_true (by rw[ZCL];unfold Zq;omega),ZnI (by omega), ?_⟩;refine ih (d4,a++(W4[k]++s),(U4[k]++s')++b) ⟨hd4,A++[W4[k]],W4[k]::B, ?_⟩;dsimp only;exact {
   la:=by simp only[ZCL];omega
   lb:=by simp only[ZCL];omega
   ga:=fun tail=>by rw[List.append_assoc,h.ga];exact(congrArg (A++ ·) (go_W hk hs tail)).trans (by simp;rfl)
   gb:=fun tail=>by rw[List.append_assoc];exact(go_U hk' hk hs' _).trans (by rw[h.gb];rfl)
   ab:=fun x=>by rw[ZCP,h.ab,List.mem_singleton];exact Or.comm.trans List.mem_cons.symm
   a4:=fun x hx=>by
    rcases ZCP.1 hx with hx |hx
    ·exact h.a4 x hx
    ·rw[List.mem_singleton.1 hx];exact ZCK hk}
 ·rintro rec ⟨d,a,b⟩ ⟨hd,A,B,h⟩;unfold ZoK Zn9;dsimp only at hd h⊢
  rw[decide_eq_false (show ¬(m:Int) < (m:Int) by omega),cond_false,ZnC];exact⟨A,B,h⟩
 ·rintro⟨a,b⟩ ⟨A,B,h⟩;dsimp only at h⊢
  rw[Zyj h (by omega),ZnC]
end Go.Proofs
namespace Eng
open Go Go.Lib
theorem globOk_one {Pg:Program} {w:World} {n:String} {g:Nat} {t e:TypeId} {k:IntKind} {z:Int} (hn:Pg.globalNamed n=some g) (hty:(Pg.globals[g]?).map (·.type)=some t)
  (ht:Pg.underlying t=some (.slice e)) (he:Pg.underlying e=some (.int k)) (hce:Pg.cellsOf e=1) (hz:k.min≤z∧z≤k.max)
  (h:VarReads Pg w n (.slice [.lit (.int k z)] [])):Zej w (fun b=>b < w.heap.size) g [P.sl 1 [.int k z]]:=by
 obtain⟨g',t',cs,fuel,p,hg,hty',hvar,hd⟩:=h;obtain rfl:=ZDk (hn.symm.trans hg);obtain rfl:=ZDk (hty.symm.trans hty');rcases DataW.trod_slice ht hd with ⟨_,hx⟩ |⟨a,len,cap,elems,rest,m,_,hcs,hx,_,hl,hcap,hlen,hel,_,_⟩
 ·cases congrArg Prod.fst hx
 ·have e0:=congrArg Prod.fst hx;simp only[DataW.slice.injEq]at e0;obtain⟨e1,_⟩:=e0
  match elems,e1 with
  | [(d,q)],e1=>
   simp only[List.map_cons,List.map_nil,List.cons.injEq,and_true]at e1;subst e1;have hlen1:len=1:=by simpa using hlen.symm
   subst hlen1;obtain⟨ci,hci,htr⟩:=Option.bind_eq_some_iff.1 (hel 0 (by decide));obtain⟨z',hc,hxx,_⟩:=DataW.trod_int he htr;have hzz:z'=z:=by have:=congrArg Prod.fst hxx;simpa using this.symm
   subst hzz;subst hc;rw[hce,Nat.zero_mul]at hci;obtain⟨_,_,hc2⟩:=World.cells?_some hci;have h0:=hc2 0 (by decide);have hb:w.cell? a=some (.int k z'):=by simpa[Addr.add]using h0
   have hspot:a.spot=none:=by
    unfold World.cell? at hb;cases hs:a.spot with
    |none=>rfl
    |some s=>rw[hs]at hb;split at hb<;>simp at hb
   have ha:a=⟨a.block,a.off,none⟩:=by cases a;simp at hspot;subst hspot;rfl
   have hlt:a.block < w.heap.size:=ZjV (by rw[ha]at hb;exact hb);have hcs1:cs.size=1:=by have:=congrArg List.length hcs;simpa using this
   refine ZuM (t:=0) (fr:= #[]) (Zvv hn hvar) _ (by rw[hcs1];rfl) fun j v p hv hp=> ?_
   have hj:j=0:=by have:=(Array.getElem?_eq_some_iff.1 hv).1;omega
   subst hj;simp only[ZCG,Option.some.injEq]at hp;subst hp;rw[←Array.getElem?_toList,hcs]at hv;simp only[ZCG,Option.some.injEq]at hv;subst hv;refine⟨.sl (some a) 1 cap _ _ (fun _=> .int k z') rfl (by decide) hl (fun i hi=>rfl) (fun i hi=> ?_) (fun i x hx=> ?_),rfl⟩
   ·have hi0:i=0:=by omega
    subst hi0;refine⟨a.block,a.off,by rw[←ha],hlt,fun j v hv=> ?_⟩;have hj:=(Array.getElem?_eq_some_iff.1 hv).1;have hj0:j=0:=by have:(Value.int k z').cells.size=1:=rfl;omega
    subst hj0;have hvv:v= .int k z':=by have:(Value.int k z').cells[0]? =some (.int k z'):=rfl;exact ZDk (hv.symm.trans this)
    subst hvv;rw[ha]at hb;simpa using hb
   ·have hi0:i=0:=by have:=(List.getElem?_eq_some_iff.1 hx).1;simp at this;omega
    subst hi0;simp only[ZCG,Option.some.injEq]at hx;subst hx;exact .int k z' hz.1 hz.2
end Eng
