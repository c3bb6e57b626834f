/- Plain laws over the specs, part 1. -/
import Derived.Test.YtbjnddlpdlfknaaGreatDoorCkM0
set_option linter.unusedVariables false
set_option linter.unusedSimpArgs false
set_option linter.unusedSectionVars false
open Bool renaming not_true→ZEN
open Int renaming natAbs_natCast→ZHO, natAbs_mul→ZHN, mul_ne_zero→ZHM, natAbs_neg→ZHP, toNat_natCast→ZHQ
open List renaming mem_cons→ZH4, length_singleton→ZH1, all_eq_true→ZHR, take_length→ZH7, not_mem_nil→ZH6, length_append→ZHY, mem_append→ZH3, mem_singleton→ZH5, getD_eq_getElem?_getD→ZHU, length_cons→ZHZ, foldl_cons→ZHT, foldl_append→ZHS, length_map→ZH0, length_take→ZH2, take_succ_eq_append_getElem→ZH8, getElem_cons_drop→ZHX, getElem?_eq_none→ZHW, getElem?_eq_getElem→ZHV
open Nat renaming le_trans→ZIh, gcd→ZIe, pow_succ→ZIt, mul_assoc→ZIn, pow_zero→ZIu, mod_lt→ZIl, mul_add→ZIm, lt_of_le_of_lt→ZIi, mul_comm→ZIo, pow_le_pow_right→ZIs, div_le_self→ZId, one_mul→ZIq, le_refl→ZIg, le_of_lt→ZIf, two_pow_pos→ZIw, zero_add→ZIx, pos_of_ne_zero→ZIr, lt_of_lt_of_le→ZIj, min_eq_left→ZIk, mul_left_comm→ZIp, div_add_mod→ZIb, add_mul_div_left→ZH9, div_eq_of_lt→ZIc, add_mul_mod_self_left→ZIa, two_pow_add_eq_or_of_lt→ZIv
open Option renaming bind_some→ZIy
open UInt8 renaming not_lt→ZIz
namespace Go.Proofs
open Go Eng
def Sz (k:Nat) (q:Rat):Prop:=q.num.natAbs < 2 ^ k∧q.den < 2 ^ k
theorem Sz.mono {k l:Nat} {q:Rat} (h:Sz k q) (hl:k≤l):Sz l q:=⟨ZIj h.1 (ZIs (by decide) hl),ZIj h.2 (ZIs (by decide) hl)⟩
theorem ZA9 {n k:Nat} (h:n < 2 ^ k) (m:Nat) (hk:k≤32*m):(wd n).length≤m:=by refine ZwK (ZIj h ?_);rw[show Bw=2 ^ 32 from rfl,←Nat.pow_mul];exact ZIs (by decide) hk
theorem Sz.wq {k:Nat} {q:Rat} (h:Sz k q) (hk:k≤8192):Wq 256 q:=⟨ZA9 h.1 256 (by omega),ZA9 (n:=(q.den:Int).natAbs) (by rw[ZHO];exact h.2) 256 (by omega)⟩
theorem Zxs {x y:Int} {k:Nat} (hy:y≠0) (h1:x.natAbs < 2 ^ k) (h2:y.natAbs < 2 ^ k):Sz k (Rat.divInt x y):=by
 unfold Sz;rw[Rat.num_divInt,Rat.den_divInt,if_neg hy];refine⟨ZIi ?_ h1,ZIi (ZId _ _) h2⟩;have hd:((Int.gcd y x:Nat):Int)∣y.sign*x:=Int.dvd_trans (Int.gcd_dvd_right y x) (Int.dvd_mul_left _ _);rw[Int.natAbs_ediv_of_dvd hd,ZHN];refine ZIh (ZId _ _) ?_;have:y.sign.natAbs=1:=by rw[Int.natAbs_sign_of_ne_zero hy]
 rw[this,ZIq];exact ZIg _
theorem ZvX {x y k l:Nat} (hx:x < 2 ^ k) (hy:y < 2 ^ l):x*y < 2 ^ (k+l):=by rw[Nat.pow_add];exact Nat.mul_lt_mul_of_lt_of_le hx (ZIf hy) (ZIw _)
theorem Zzo (a b:Rat):Rat.divInt (a.num*(b.den:Int)+b.num*(a.den:Int)) ((a.den:Int)*(b.den:Int))=a+b:=by have h1:=a.den_nz;have h2:=b.den_nz;rw[←Rat.divInt_add_divInt _ _ (by omega) (by omega),Rat.num_divInt_den,Rat.num_divInt_den]
theorem Zzf (a b:Rat):Rat.divInt (a.num*b.num) ((a.den:Int)*(b.den:Int))=a*b:=by rw[←Rat.divInt_mul_divInt,Rat.num_divInt_den,Rat.num_divInt_den]
theorem Sz.add {a b:Rat} {k l:Nat} (ha:Sz k a) (hb:Sz l b):Sz (k+l+1) (a+b):=by
 rw[←Zzo];have h1:=a.den_nz;have h2:=b.den_nz;have q1:=ZvX ha.1 hb.2;have q2:=ZvX ha.2 hb.1;have q3:=ZvX ha.2 hb.2;have hp:=ZIw (k+l);refine Zxs (ZHM (by omega) (by omega)) ?_ ?_
 ·rw[ZIt];refine ZIi (Int.natAbs_add_le _ _) ?_;rw[ZHN,ZHN,ZHO,ZHO,ZIo b.num.natAbs];omega
 ·rw[ZIt,ZHN,ZHO,ZHO];omega
theorem Sz.mul {a b:Rat} {k l:Nat} (ha:Sz k a) (hb:Sz l b):Sz (k+l) (a*b):=by
 rw[←Zzf];have h1:=a.den_nz;have h2:=b.den_nz;refine Zxs (ZHM (by omega) (by omega)) ?_ ?_
 ·rw[ZHN];exact ZvX ha.1 hb.1
 ·rw[ZHN,ZHO,ZHO];exact ZvX ha.2 hb.2
theorem ZDa {q:Rat} (h:Wq 256 q):decide ((if ((fOf q).Den.Words.length:Int) > ((fOf q).Num.Words.length:Int)then ((fOf q).Den.Words.length:Int)else ((fOf q).Num.Words.length:Int)) > 256)=false:=by have h1:=h.1;have h2:=h.2;unfold Wl at h1 h2;refine decide_eq_false ?_;unfold fOf;rw[ZqT,ZqT,Zog,Zog];split<;>omega
theorem ZxZ {y:Int} (hy:y≠0):(((bg y).Words.length:Int) == 0)=false:=by have:=ZsI (n:=y.natAbs) (by omega);rw[ZqT,Zog];exact beq_eq_false_iff_ne.2 (by omega)
theorem ZCF {a b:Rat} {k l:Nat} (ha:Sz k a) (hb:Sz l b) (hk:k+l+1≤8192):Zt1 (fOf a) (fOf b)=some (fOf (a+b),0):=by
 have h1:=a.den_nz;have h2:=b.den_nz;have qa:=ha.wq (by omega);have qb:=hb.wq (by omega);have w:∀{x y:Int},Wl 256 x→Wl 256 y→Wl 512 (x*y):=fun hx hy=>by unfold Wl;rw[ZHN];exact ZzF hx hy
 have m:∀{n:Nat} {x:Int},Wl n x→n≤50000→Wl 50000 x:=fun h h'=>ZIh h h'
 have w1:=w qa.1 qb.2;have w2:=w qb.1 qa.2;have w3:=w qa.2 qb.2;have w4:Wl 513 (a.num*(b.den:Int)+b.num*(a.den:Int)):=ZIh (ZsT (Int.natAbs_add_le _ _)) (ZBa w1 w2);have hd:(a.den:Int)*(b.den:Int)≠0:=ZHM (by omega) (by omega);unfold Zt1 ZoX;rw[Zwu a qa,ZIy,ZEN,cond_false,Zwu b qb,ZIy,ZEN];unfold ZpN ZvJ;rw[cond_false];show ((((ZnM (bg a.num) (bg (b.den:Int))).bind fun q=>(ZnM (bg b.num) (bg (a.den:Int))).bind fun q_1=>(Ztg q q_1).bind fun num=>(ZnM (bg (a.den:Int)) (bg (b.den:Int))).bind fun den=>some (num,den)).bind _).bind _)=_;rw[ZuQ _ _ (m qa.1 (by omega)) (m qb.2 (by omega)),ZIy,ZuQ _ _ (m qb.1 (by omega)) (m qa.2 (by omega)),ZIy,ZCu _ _ (m w1 (by omega)) (m w2 (by omega)),ZIy,ZuQ _ _ (m qa.2 (by omega)) (m qb.2 (by omega)),ZIy,ZIy];dsimp only;rw[ZxZ hd,cond_false,ZwJ _ _ hd (m w4 (by omega)) (m w3 (by omega)),ZIy,Zzo,ZDa ((ha.add hb).wq hk),cond_false,ZIy]
theorem ZEV {a b:Rat} {k l:Nat} (ha:Sz k a) (hb:Sz l b) (hk:k+l≤8192):Zvj (fOf a) (fOf b)=some (fOf (a*b),0):=by
 have h1:=a.den_nz;have h2:=b.den_nz;have qa:=ha.wq (by omega);have qb:=hb.wq (by omega);have w:∀{x y:Int},Wl 256 x→Wl 256 y→Wl 512 (x*y):=fun hx hy=>by unfold Wl;rw[ZHN];exact ZzF hx hy
 have m:∀{n:Nat} {x:Int},Wl n x→n≤50000→Wl 50000 x:=fun h h'=>ZIh h h'
 have w1:=w qa.1 qb.1;have w3:=w qa.2 qb.2;have hd:(a.den:Int)*(b.den:Int)≠0:=ZHM (by omega) (by omega);unfold Zvj Zp5;rw[Zwu a qa,ZIy,ZEN,cond_false,Zwu b qb,ZIy,ZEN];unfold Zpp Zvo;rw[cond_false];show ((((ZnM (bg a.num) (bg b.num)).bind fun num=>(ZnM (bg (a.den:Int)) (bg (b.den:Int))).bind fun den=>some (num,den)).bind _).bind _)=_;rw[ZuQ _ _ (m qa.1 (by omega)) (m qb.1 (by omega)),ZIy,ZuQ _ _ (m qa.2 (by omega)) (m qb.2 (by omega)),ZIy,ZIy];dsimp only;rw[ZxZ hd,cond_false,ZwJ _ _ hd (m w1 (by omega)) (m w3 (by omega)),ZIy,Zzf,ZDa ((ha.mul hb).wq hk),cond_false,ZIy]
end Go.Proofs
namespace Go.Proofs
open Go Eng
theorem ZyS (z:Int):Zp8 (bg z)=some (bg (-z)):=by
 unfold Zp8 Zsm;rw[ZxI,ZqT,Zog]
 by_cases hz:z < 0
 ·rw[decide_eq_true hz,ZEN,cond_false];unfold bg;rw[ZHP,decide_eq_false (by omega:¬ -z < 0)]
 ·rw[decide_eq_false hz,Bool.not_false,cond_true];unfold bg;rw[ZHP];congr 2
  by_cases h0:z=0
  ·subst h0;rw[show (0:Int).natAbs=0 from rfl,ZtF];rfl
  ·have:=ZsI (n:=z.natAbs) (by omega);rw[decide_eq_true (by omega),decide_eq_true (by omega)]
theorem ZDH (q:Rat):fOf (-q)=⟨bg (-q.num),bg (q.den:Int)⟩:=rfl
theorem Sz.neg {q:Rat} {k:Nat} (h:Sz k q):Sz k (-q):=by show (-q.num).natAbs < 2 ^ k∧q.den < 2 ^ k;rw[ZHP];exact h
theorem ZEF {a b:Rat} {k l:Nat} (ha:Sz k a) (hb:Sz l b) (hk:k+l+1≤8192):Zvi (fOf a) (fOf b)=some (fOf (a - b),0):=by unfold Zvi;rw[Zwu b (hb.wq (by omega)),ZIy,ZEN,cond_false];show ((Zp8 (bg b.num)).bind fun q_1=>(ZoX (fOf a) (ZnC.mk q_1 (bg (b.den:Int)))).bind fun x=>some (x.1,x.2))=_;have:=ZCF ha hb.neg hk;unfold Zt1 at this;rw[ZyS,ZIy,←ZDH,Rat.sub_eq_add_neg];exact this
theorem Zxv {a b:Rat} {k l:Nat} (ha:Sz k a) (hb:Sz l b) (hk:k+l+1≤8192):Zvf (fOf a) (fOf b)=some (fOf (a+b)):=by unfold Zvf Zta;rw[ZCF ha hb hk];rfl
theorem Zw4 {a b:Rat} {k l:Nat} (ha:Sz k a) (hb:Sz l b) (hk:k+l≤8192):Zur (fOf a) (fOf b)=some (fOf (a*b)):=by unfold Zur Zta;rw[ZEV ha hb hk];rfl
theorem ZBq {a b:Rat} {k l:Nat} (ha:Sz k a) (hb:Sz l b) (hk:k+l+1≤8192):ZxQ (fOf a) (fOf b)=some (fOf (a - b)):=by unfold ZxQ Zta;rw[ZEF ha hb hk];rfl
def Zz9 (a b:Rat):Int:=if a < b then -1 else if b < a then 1 else 0
theorem ZAF (a b:Rat):a < b↔a.num*(b.den:Int) < b.num*(a.den:Int):=Rat.lt_iff a b
theorem ZFq {a b:Rat} (qa:Wq 256 a) (qb:Wq 256 b):Zvl (fOf a) (fOf b)=some (Zz9 a b):=by
 have w:∀{x y:Int},Wl 256 x→Wl 256 y→Wl 50000 (x*y):=fun hx hy=>by unfold Wl;rw[ZHN];exact ZIh (ZzF hx hy) (by decide)
 have m:∀{x:Int},Wl 256 x→Wl 50000 x:=fun h=>ZIh h (by decide)
 unfold Zvl;rw[Zwu a qa,ZIy,ZEN,cond_false,Zwu b qb,ZIy,ZEN];unfold ZuP;rw[cond_false];show ((ZnM (bg a.num) (bg (b.den:Int))).bind fun q=>(ZnM (bg b.num) (bg (a.den:Int))).bind _)=_;rw[ZuQ _ _ (m qa.1) (m qb.2),ZIy,ZuQ _ _ (m qb.1) (m qa.2),ZIy,ZyS,ZIy];have w2:Wl 50000 (-(b.num*(a.den:Int))):=by unfold Wl;rw[ZHP];exact w qb.1 qa.2
 rw[ZCu _ _ (w qa.1 qb.2) w2,ZIy,ZxI,ZqT,Zog];unfold Zz9;have h1:=ZAF a b;have h2:=ZAF b a;generalize a.num*(b.den:Int)=x at*
 generalize b.num*(a.den:Int)=y at*
 by_cases hl:a < b
 ·rw[if_pos hl,decide_eq_true (by have:=h1.1 hl;omega),cond_true]
 ·have hn:¬x < y:=fun h=>hl (h1.2 h)
  rw[if_neg hl,decide_eq_false (by omega),cond_false]
  by_cases hg:b < a
  ·have:=ZsI (n:=(x+ -y).natAbs) (by have:=h2.1 hg;omega);rw[if_pos hg,decide_eq_true (by omega),cond_true]
  ·have hn2:¬y < x:=fun h=>hg (h2.2 h)
   rw[if_neg hg,show x+ -y=0 by omega,show (0:Int).natAbs=0 from rfl,ZtF];rfl
theorem ZDs (x y:Int) (hy:y≠0) (hx1:Wl 256 x) (hy1:Wl 256 y):ZuC (bg x) (bg y)=some (fOf (Rat.divInt x y),0):=by
 have hb:=ZBK [x,y] (by simp) (fun z hz=>by
  simp only[ZH4,ZH6,or_false]at hz;rcases hz with rfl |rfl
  ·exact hx1
  ·exact hy1)
 unfold ZuC;rw[show ([bg x,bg y]:List ZnD)=[x,y].map bg from rfl,hb,ZIy,ZEN,cond_false,ZxZ hy,cond_false,ZwJ _ _ hy (ZIh hx1 (by decide)) (ZIh hy1 (by decide)),ZIy]
theorem ZGp {z:Int} (h1: -9223372036854775808≤z) (h2:z≤9223372036854775807):Wl 256 z:=ZIh (ZDu (by omega)) (by decide)
theorem ZER (x y:Int) (hy:y≠0) (h1: -9223372036854775808≤x) (h2:x≤9223372036854775807) (h3: -9223372036854775808≤y) (h4:y≤9223372036854775807):ZuO x y=some (fOf (Rat.divInt x y),0):=by unfold ZuO;rw[Zzk x h1 h2,ZIy,Zzk y h3 h4,ZIy,ZDs x y hy (ZGp h1 h2) (ZGp h3 h4),ZIy]
theorem Zyx:Zro=some (fOf 0):=by unfold Zro;rw[ZER 0 1 (by decide) (by decide) (by decide) (by decide) (by decide),ZIy,Rat.zero_divInt]
theorem ZAA (x y:Int) (hy:y≠0) (h1: -9223372036854775808≤x) (h2:x≤9223372036854775807) (h3: -9223372036854775808≤y) (h4:y≤9223372036854775807):Zxe x y=some (fOf (Rat.divInt x y)):=by unfold Zxe;rw[ZER x y hy h1 h2 h3 h4,ZIy];rfl
theorem ZAc:Sz 1 0:=by unfold Sz;decide
theorem ZAf {a:Rat} (qa:Wq 256 a):ZvT (fOf a)=some (Zz9 a 0):=by unfold ZvT;rw[Zyx,ZIy,ZFq qa (ZAc.wq (by decide)),ZIy]
theorem Zzl (a b:Rat):Rat.divInt (a.num*(b.den:Int)) ((a.den:Int)*b.num)=a / b:=by rw[←Rat.divInt_mul_divInt,Rat.num_divInt_den,Rat.div_def,Rat.inv_def]
theorem Sz.div {a b:Rat} {k l:Nat} (hb0:b≠0) (ha:Sz k a) (hb:Sz l b):Sz (k+l) (a / b):=by
 rw[←Zzl];have h1:=a.den_nz;have h2:b.num≠0:=fun e=>hb0 (Rat.num_eq_zero.1 e)
 refine Zxs (ZHM (by omega) h2) ?_ ?_
 ·rw[ZHN,ZHO];exact ZvX ha.1 hb.2
 ·rw[ZHN,ZHO];exact ZvX ha.2 hb.1
theorem ZFp {a b:Rat} {k l:Nat} (hb0:b≠0) (ha:Sz k a) (hb:Sz l b) (hk:k+l≤8192):Zvk (fOf a) (fOf b)=some (fOf (a / b),0):=by
 have h1:=a.den_nz;have h2:b.num≠0:=fun e=>hb0 (Rat.num_eq_zero.1 e)
 have qa:=ha.wq (by omega);have qb:=hb.wq (by omega);have w:∀{x y:Int},Wl 256 x→Wl 256 y→Wl 50000 (x*y):=fun hx hy=>by unfold Wl;rw[ZHN];exact ZIh (ZzF hx hy) (by decide)
 have m:∀{x:Int},Wl 256 x→Wl 50000 x:=fun h=>ZIh h (by decide)
 have w1:=w qa.1 qb.2;have w3:=w qa.2 qb.1;have hd:(a.den:Int)*b.num≠0:=ZHM (by omega) h2;unfold Zvk Zp4;rw[Zwu a qa,ZIy,ZEN,cond_false,Zwu b qb,ZIy,ZEN];unfold Zpo ZvK;rw[cond_false];show ((((ZnM (bg a.num) (bg (b.den:Int))).bind fun num=>(ZnM (bg (a.den:Int)) (bg b.num)).bind fun den=>some (num,den)).bind _).bind _)=_;rw[ZuQ _ _ (m qa.1) (m qb.2),ZIy,ZuQ _ _ (m qa.2) (m qb.1),ZIy,ZIy];dsimp only;rw[ZxZ hd,cond_false,ZwJ _ _ hd w1 w3,ZIy,Zzl,ZDa ((Sz.div hb0 ha hb).wq hk),cond_false,ZIy]
theorem ZzR {a b:Rat} {k l:Nat} (hb0:b≠0) (ha:Sz k a) (hb:Sz l b) (hk:k+l≤8192):Zv3 (fOf a) (fOf b)=some (fOf (a / b)):=by unfold Zv3 Zta;rw[ZFp hb0 ha hb hk];rfl
end Go.Proofs
namespace Go.Proofs
open Go Eng
def fP (p:Rat×Rat):ZnB:=⟨fOf p.1,fOf p.2⟩
def sR (f:Rat×Rat→Rat) (l:List (Rat×Rat)):Rat:=l.foldl (fun s p=>s+f p) 0
theorem ZxS (f:Rat×Rat→Rat):sR f []=0:=rfl
theorem Zvs (f:Rat×Rat→Rat) (l:List (Rat×Rat)) (p:Rat×Rat):sR f (l++[p])=sR f l+f p:=by unfold sR;rw[ZHS];rfl
def mR (l:List (Rat×Rat)):ZnO:=⟨(l.length:Int),fOf (sR (fun p=>p.1) l),fOf (sR (fun p=>p.2) l),fOf (sR (fun p=>p.1*p.1) l),fOf (sR (fun p=>p.2*p.2) l),fOf (sR (fun p=>p.1*p.2) l)⟩
def SzL (b:Nat) (l:List (Rat×Rat)):Prop:=∀p∈l,Sz b p.1∧Sz b p.2
theorem ZyQ {b c:Nat} {f:Rat×Rat→Rat} (hf:∀p:Rat×Rat,Sz b p.1→Sz b p.2→Sz c (f p)):∀(n:Nat) (l:List (Rat×Rat)),l.length=n→SzL b l→Sz (1+n*(c+1)) (sR f l)
 |0,l,hl,_=>by rw[List.eq_nil_of_length_eq_zero hl,ZxS];exact ZAc.mono (by omega)
 |n+1,l,hl,h=>by
  rcases List.eq_nil_or_concat l with rfl |⟨v,x,rfl⟩
  ·simp at hl
  ·rw[List.concat_eq_append]at hl h⊢
   have hx:=h x (by simp);have ih:=ZyQ hf n v (by simpa using hl) (fun p hp=>h p (by simp[hp]));rw[Zvs];refine(ih.add (hf x hx.1 hx.2)).mono ?_;rw[Nat.add_mul,ZIq];omega
theorem ZBH {b:Nat} {l:List (Rat×Rat)} {p:Rat×Rat} (hl:l.length≤20) (hb:b≤20) (h:SzL b l) (hp:Sz b p.1∧Sz b p.2):ZtB (mR l) (fP p).e0 (fP p).e1=some (mR (l++[p])):=by have c1:l.length*(b+1)≤20*21:=Nat.mul_le_mul hl (by omega);have c2:l.length*(b+b+1)≤20*41:=Nat.mul_le_mul hl (by omega);have h1:=ZyQ (f:=fun p=>p.1) (fun p h _=>h) _ l rfl h;have h2:=ZyQ (f:=fun p=>p.2) (fun p _ h=>h) _ l rfl h;have h3:=ZyQ (f:=fun p=>p.1*p.1) (fun p h _=>h.mul h) _ l rfl h;have h4:=ZyQ (f:=fun p=>p.2*p.2) (fun p _ h=>h.mul h) _ l rfl h;have h5:=ZyQ (f:=fun p=>p.1*p.2) (fun p h h'=>h.mul h') _ l rfl h;unfold ZtB mR fP;dsimp only;rw[ZnL (by omega),chk_true,Zxv h1 hp.1 (by omega),ZIy,Zxv h2 hp.2 (by omega),ZIy,Zw4 hp.1 hp.1 (by omega),ZIy,Zxv h3 (hp.1.mul hp.1) (by omega),ZIy,Zw4 hp.2 hp.2 (by omega),ZIy,Zxv h4 (hp.2.mul hp.2) (by omega),ZIy,Zw4 hp.1 hp.2 (by omega),ZIy,Zxv h5 (hp.1.mul hp.2) (by omega),ZIy];simp only[Zvs,ZHY,ZH1,Int.natCast_add];rfl
theorem ZDp:ZsP=some (mR []):=by unfold ZsP;rw[Zyx,ZIy,ZIy,ZIy,ZIy,ZIy];rfl
theorem ZCn {b:Nat} {l:List (Rat×Rat)} (hl:l.length≤20) (hb:b≤20) (h:SzL b l):ZtY (l.map fP)=some (mR l):=by
 refine ZqS ?_;unfold ZtY;rw[ZDp,ZnI,ZnG,ZnI,ZH0];refine Zn6 (ZtG ZxM l.length (by omega) (fun i (m:ZnO)=>(l.map fP,(l.length:Int),i,0,false,false,false,false,false,false,false,false,false,false,m,[],[],[],[],[],[],[],[],[],[])) (fun i m=>m=mR (l.take i)) (Q:=fun y=>∃a0 a1 a2 a3 a4 a5 a6 a7 a8 a9 a10 b1 b2 b3 b4 b5 b6 b7 b8 b9 b10,y=(a0,a1,a2,a3,a4,a5,a6,a7,a8,a9,a10,mR l,b1,b2,b3,b4,b5,b6,b7,b8,b9,b10)) (mR []) rfl ?_ ?_) ?_
 ·rintro rec i m hi rfl ih;unfold ZuG ZsQ;dsimp only;rw[Zn9];refine⟨fun _=> ?_,fun h=>by have:=of_decide_eq_false h;omega⟩;rw[Zxo (by rw[ZH0];exact hi),ZnI,ZnG,ZnJ,ZnJ,List.getElem_map,ZBH (by rw[ZH2];omega) hb (fun p hp=>h p (List.mem_of_mem_take hp)) (h _ (List.getElem_mem hi)),ZnI,ZnG,ZnJ];refine⟨by decide,by decide,ZnL (by omega),ih _ ?_⟩;rw[ZH8 hi]
 ·rintro rec m rfl;unfold ZuG ZsQ;dsimp only;rw[Zn9];refine⟨fun h=>by have:=of_decide_eq_true h;omega,fun _=> ?_⟩;rw[ZnG,ZH7];exact⟨_,_,_,_,_,_,_,_,_,_,_,_,_,_,_,_,_,_,_,_,_,rfl⟩
 ·rintro y ⟨a0,a1,a2,a3,a4,a5,a6,a7,a8,a9,a10,b1,b2,b3,b4,b5,b6,b7,b8,b9,b10,rfl⟩;exact ZnG.2 rfl
end Go.Proofs
namespace Go.Proofs
open Go Eng
theorem ZzM {a:Rat}:(Zz9 a 0 == 0)=decide (a=0):=by
 unfold Zz9
 by_cases h1:a < 0
 ·rw[if_pos h1,decide_eq_false (fun e=>by rw[e]at h1;exact Rat.lt_irrefl h1)];rfl
 ·rw[if_neg h1]
  by_cases h2:0 < a
  ·rw[if_pos h2,decide_eq_false (fun e=>by rw[e]at h2;exact Rat.lt_irrefl h2)];rfl
  ·have:a=0:=Rat.le_antisymm (Rat.not_lt.1 h2) (Rat.not_lt.1 h1);rw[if_neg h2,decide_eq_true this];rfl
theorem ZBc {n:Nat} (h:n≤31):Sz 5 (Rat.divInt (n:Int) 1):=Zxs (by decide) (by rw[ZHO];omega) (by decide)
def ZzP (n:Nat) (ab a b:Rat):Rat:=Rat.divInt (n:Int) 1*ab - a*b
theorem Sz.sub {a b:Rat} {k l:Nat} (ha:Sz k a) (hb:Sz l b):Sz (k+l+1) (a - b):=by rw[Rat.sub_eq_add_neg];exact ha.add hb.neg
theorem ZAj {n:Nat} {ab a b:Rat} {k l m:Nat} (hn:n≤31) (h1:Sz k ab) (h2:Sz l a) (h3:Sz m b) (hs:k+l+m≤8000):ZoZ (n:Int) (fOf ab) (fOf a) (fOf b)=some (fOf (ZzP n ab a b))∧Sz (5+k+(l+m)+1) (ZzP n ab a b):=by refine⟨?_,((ZBc hn).mul h1).sub (h2.mul h3)⟩;unfold ZoZ ZzP;rw[ZAA _ 1 (by decide) (by omega) (by omega) (by decide) (by decide),ZIy,Zw4 (ZBc hn) h1 (by omega),ZIy,Zw4 h2 h3 (by omega),ZIy,ZBq ((ZBc hn).mul h1) (h2.mul h3) (by omega),ZIy]
def cR (l:List (Rat×Rat)):Rat:=ZzP l.length (sR (fun p=>p.1*p.2) l) (sR (fun p=>p.1) l) (sR (fun p=>p.2) l)
def uR (l:List (Rat×Rat)):Rat:=ZzP l.length (sR (fun p=>p.1*p.1) l) (sR (fun p=>p.1) l) (sR (fun p=>p.1) l)
def vR (l:List (Rat×Rat)):Rat:=ZzP l.length (sR (fun p=>p.2*p.2) l) (sR (fun p=>p.2) l) (sR (fun p=>p.2) l)
def sqR (l:List (Rat×Rat)):ZnC×Int×Bool:=if l.length < 3∨uR l=0∨vR l=0 then (fOf 0,0,false)else (fOf (cR l*cR l / (uR l*vR l)),Zz9 (cR l) 0,true)
theorem ZBr {a b:Rat} (ha:a≠0) (hb:b≠0):a*b≠0:=fun e=>(Rat.mul_eq_zero.1 e).elim ha hb
theorem ZBd {b:Nat} {l:List (Rat×Rat)} (hl:l.length≤20) (hb:b≤20) (h:SzL b l):ZrF (mR l)=some (sqR l):=by
 have c1:l.length*(b+1)≤20*21:=Nat.mul_le_mul hl (by omega);have c2:l.length*(b+b+1)≤20*41:=Nat.mul_le_mul hl (by omega);have h1:=(ZyQ (f:=fun p=>p.1) (fun p h _=>h) _ l rfl h).mono (show _≤421 by omega);have h2:=(ZyQ (f:=fun p=>p.2) (fun p _ h=>h) _ l rfl h).mono (show _≤421 by omega);have h3:=(ZyQ (f:=fun p=>p.1*p.1) (fun p h _=>h.mul h) _ l rfl h).mono (show _≤821 by omega);have h4:=(ZyQ (f:=fun p=>p.2*p.2) (fun p _ h=>h.mul h) _ l rfl h).mono (show _≤821 by omega);have h5:=(ZyQ (f:=fun p=>p.1*p.2) (fun p h h'=>h.mul h') _ l rfl h).mono (show _≤821 by omega);obtain⟨e1,z1⟩:=ZAj (n:=l.length) (by omega) h5 h1 h2 (by omega);obtain⟨e2,z2⟩:=ZAj (n:=l.length) (by omega) h3 h1 h1 (by omega);obtain⟨e3,z3⟩:=ZAj (n:=l.length) (by omega) h4 h2 h2 (by omega);have e1':ZoZ (mR l).N (mR l).XY (mR l).X (mR l).Y=some (fOf (cR l)):=e1;have e2':ZoZ (mR l).N (mR l).XX (mR l).X (mR l).X=some (fOf (uR l)):=e2;have e3':ZoZ (mR l).N (mR l).YY (mR l).Y (mR l).Y=some (fOf (vR l)):=e3;have z1':Sz 1669 (cR l):=z1;have z2':Sz 1669 (uR l):=z2;have z3':Sz 1669 (vR l):=z3;have dead:∀c u v,Zo4 true false false c u v [] []=some (fOf 0,0,false):=fun c u v=>by unfold Zo4;rw[cond_true,Zyx];rfl
 unfold ZrF sqR;rw[e1',ZIy,e2',ZIy,e3',ZIy,show (mR l).N=(l.length:Int)from rfl];generalize cR l=c at*
 generalize uR l=u at*
 generalize vR l=v at*
 by_cases h0:l.length < 3
 ·rw[decide_eq_true (by omega),cond_true,dead,if_pos (.inl h0)]
 ·rw[decide_eq_false (by omega),cond_false,ZAf (z2'.wq (by omega)),ZIy,ZzM]
  by_cases hu:u=0
  ·rw[decide_eq_true hu,cond_true,dead,if_pos (.inr (.inl hu))]
  ·rw[decide_eq_false hu,cond_false,ZAf (z3'.wq (by omega)),ZIy,ZzM]
   by_cases hv:v=0
   ·rw[decide_eq_true hv,dead,if_pos (.inr (.inr hv))]
   ·rw[decide_eq_false hv,if_neg (by rintro(h |h |h)<;>contradiction)];unfold Zo4;rw[cond_false,Zw4 z1' z1' (by omega),ZIy,Zw4 z2' z3' (by omega),ZIy,ZzR (ZBr hu hv) (z1'.mul z1') (z2'.mul z3') (by omega),ZIy,ZAf (z1'.wq (by omega)),ZIy]
end Go.Proofs
namespace Go.Proofs
open Go Eng
theorem Zxb {α:Type} {P:List α→Prop} (h0:P []) (h1:∀l x,P l→P (l++[x])):∀l,P l:=by
 have:∀(n:Nat) l,l.length=n→P l:=by
  intro n
  induction n with
  |zero=>intro l hl;rw[List.eq_nil_of_length_eq_zero hl];exact h0
  |succ n ih=>
   intro l hl;rcases List.eq_nil_or_concat l with rfl |⟨v,x,rfl⟩
   ·simp at hl
   ·rw[List.concat_eq_append]at hl⊢
    exact h1 v x (ih v (by simpa using hl))
 exact fun l=>this _ l rfl
abbrev Rl:=List (Rat×Rat)
theorem ZyD (n:Int):Rat.divInt n 1=(n:Rat):=by have h:=Rat.num_divInt_den (n:Rat);rw[Rat.num_intCast,Rat.den_intCast]at h;exact h
theorem ZA1 (n:Nat):Rat.divInt (n:Int) 1=(n:Rat):=ZyD n
theorem Zzu (n:Nat) (ab a b:Rat):ZzP n ab a b=(n:Rat)*ab - a*b:=by unfold ZzP;rw[ZA1]
theorem ZBi (f g:Rat×Rat→Rat) (a b:Rat):∀l:Rl,sR (fun p=>a*f p+b*g p) l=a*sR f l+b*sR g l:=
 Zxb (by rw[ZxS,ZxS,ZxS];grind) (fun l x ih=>by rw[Zvs,Zvs,Zvs,ih];grind)
theorem Zx2 {f g:Rat×Rat→Rat} {l:Rl} (h:∀p∈l,f p=g p):sR f l=sR g l:=by revert h;refine Zxb (P:=fun l=>(∀p∈l,f p=g p)→sR f l=sR g l) (fun _=>rfl) (fun l x ih h=> ?_) l;rw[Zvs,Zvs,ih (fun p hp=>h p (by simp[hp])),h x (by simp)]
theorem ZB6 (a:Rat):∀l:Rl,sR (fun _=>a) l=(l.length:Rat)*a:=
 Zxb (by rw[ZxS];simp) (fun l x ih=>by rw[Zvs,ih,ZHY,ZH1,Rat.natCast_add];grind)
theorem ZAt (f:Rat×Rat→Rat) (g:Rat×Rat→Rat×Rat) (l:Rl):sR f (l.map g)=sR (fun p=>f (g p)) l:=by unfold sR;rw[List.foldl_map]
theorem ZzJ (a:Rat):0≤a*a:=by
 rcases(Rat.le_total:(0:Rat)≤a∨a≤0)with h |h
 ·exact Rat.mul_nonneg h h
 ·have h1:0≤ -a:=by grind
  have:=Rat.mul_nonneg h1 h1;grind
theorem ZzL {f:Rat×Rat→Rat} (hf:∀p,0≤f p):∀l:Rl,0≤sR f l:=
 Zxb (by rw[ZxS];exact Rat.le_refl) (fun l x ih=>by rw[Zvs];have:=hf x;grind)
theorem ZDh {f:Rat×Rat→Rat} (hf:∀p,0≤f p):∀l:Rl,sR f l=0→∀p∈l,f p=0:=
 Zxb (fun _ p hp=>absurd hp (by simp)) (fun l x ih h p hp=>by
  rw[Zvs]at h;have h1:=hf x;have h2:=ZzL hf l;rcases ZH3.1 hp with hp |hp
  ·exact ih (by grind) p hp
  ·rw[ZH5.1 hp];grind)
def qR (f:Rat×Rat→Rat) (l:Rl):Rat:=(l.length:Rat)*sR (fun p=>f p*f p) l - sR f l*sR f l
theorem ZEv (l:Rl):uR l=qR (fun p=>p.1) l:=Zzu _ _ _ _
theorem vR_q (l:Rl):vR l=qR (fun p=>p.2) l:=Zzu _ _ _ _
theorem cR_q (l:Rl):cR l=(l.length:Rat)*sR (fun p=>p.1*p.2) l - sR (fun p=>p.1) l*sR (fun p=>p.2) l:=Zzu _ _ _ _
def dR (f:Rat×Rat→Rat) (z:Rat) (l:Rl):Rat:=sR (fun p=>(f p - z)*(f p - z)) l
theorem ZG5 (f:Rat×Rat→Rat) (z:Rat):∀l:Rl,dR f z l=sR (fun p=>f p*f p) l - 2*z*sR f l+(l.length:Rat)*(z*z):=
 Zxb (by unfold dR;rw[ZxS,ZxS,ZxS];simp;grind) (fun l x ih=>by
  unfold dR at ih⊢
  rw[Zvs,Zvs,Zvs,ih,ZHY,ZH1,Rat.natCast_add];grind)
theorem ZBk (f:Rat×Rat→Rat) (l:Rl) (p:Rat×Rat):qR f (l++[p])=qR f l+dR f (f p) l:=by unfold qR;rw[ZG5,Zvs,Zvs,ZHY,ZH1,Rat.natCast_add];grind
theorem Zz3 (f:Rat×Rat→Rat) (z:Rat) (l:Rl):0≤dR f z l:=ZzL (fun p=>ZzJ _) l
theorem ZzO (f:Rat×Rat→Rat):∀l:Rl,0≤qR f l:=
 Zxb (by unfold qR;rw[ZxS,ZxS];simp;grind) (fun l x ih=>by rw[ZBk];have:=Zz3 f (f x) l;grind)
theorem ZC8 {a:Rat} (h:a*a=0):a=0:=(Rat.mul_eq_zero.1 h).elim id id
theorem ZDl (f:Rat×Rat→Rat):∀l:Rl,qR f l=0→∀p∈l,∀q∈l,f p=f q:=
 Zxb (fun _ p hp=>absurd hp (by simp)) (fun l x ih h p hp q hq=>by
  rw[ZBk]at h;have h1:=ZzO f l;have h2:=Zz3 f (f x) l;have e1:qR f l=0:=by grind
  have e2:dR f (f x) l=0:=by grind
  have e3:=ZDh (fun p=>ZzJ (f p - f x)) l e2;have key:∀p∈l++[x],f p=f x:=fun p hp=>by
   rcases ZH3.1 hp with hp |hp
   ·have:=ZC8 (e3 p hp);grind
   ·rw[ZH5.1 hp]
  rw[key p hp,key q hq])
theorem ZEO {a:Rat} (h:0≤a) (h0:a≠0):0 < a:=Rat.lt_iff_le_and_ne.2 ⟨h,Ne.symm h0⟩
theorem ZB0 (l:Rl):0≤uR l:=by rw[ZEv];exact ZzO _ l
end Go.Proofs
namespace Go.Proofs
open Go Eng
theorem ZAr:∀n w,Zow n w=Zo2 n w
 |0,_=>rfl
 |n+1,w=>by have:Zow n=Zo2 n:=funext (ZAr n);show Zt9 (Zow n) w=ZrV (Zo2 n) w;rw[this];rfl
theorem ZAP (w:List Int):Zn0 w=Zn5 w:=by unfold Zn0 Zn5;rw[ZAr];rfl
theorem Zyo {l:List Nat} (h:Dg l) (hl:l.length≤1000000):Zn0 (iL l)=some (iL (wd (val l))):=by rw[ZAP,Zxz h hl]
theorem ZAm (neg:Bool) {l:List Nat} (h:Dg l) (hl:l.length≤1000000):ZnV neg (iL l)=some (bg (if neg then -(val l:Int)else val l)):=by
 unfold ZnV Zre;rw[Zyo h hl,ZIy,Zog];unfold bg;cases neg with
 |true=>
  rw[cond_true,if_pos rfl,ZHP,ZHO];congr 2
  by_cases h0:val l=0
  ·rw[h0,ZtF];rfl
  ·have:=ZsI h0;rw[decide_eq_true (by omega),decide_eq_true (by omega)]
 |false=>rw[cond_false,if_neg (by decide),ZHO,decide_eq_false (by omega)]
theorem Zx8 (a:ZnD):Zpt a=Zq5 a:=rfl
end Go.Proofs
namespace Go.Proofs
open Go Eng
theorem ZBI (a b:Nat) (ha:(wd a).length≤100000) (hb:(wd b).length≤100000):Zpc (iL (wd a)) (iL (wd b))=some (ZzE a b):=by
 refine ZqS ?_;unfold Zpc;rw[Zog,Zog,Zn9];refine⟨fun h=> ?_,fun h=> ?_⟩
 ·have hne:(wd a).length≠(wd b).length:=fun e=>by rw[e]at h;simp at h
  rw[Zn9];refine⟨fun h=> ?_,fun h=> ?_⟩
  ·have h1:(wd a).length < (wd b).length:=by have:=of_decide_eq_true h;omega
   rw[ZnG,Zwo (Zzg h1)]
  ·have h1:(wd b).length < (wd a).length:=by have:=of_decide_eq_false h;omega
   rw[ZnG,ZvW (Zzg h1)]
 ·have hl:(wd a).length=(wd b).length:=by simp only[bne_eq_false_iff_eq]at h;omega
  rw[ZnJ,ZnI];refine⟨ZnL (by omega), ?_⟩;refine Zn6 (Zyv ZwD (wd a).length (by omega) (fun i (s:Unit)=>(iL (wd a),iL (wd b),i)) (fun k _=>(wd a).drop k=(wd b).drop k)
   (Q:=fun r=>r= .ret (ZzE a b)∨r= .brk ()∧a=b) () (by rw[List.drop_length,hl,List.drop_length]) ?_ ?_) ?_
  ·rintro rec k ⟨⟩ hk hP ih;have hk2:k < (wd b).length:=by omega
   unfold Zr5 Zqn;dsimp only;rw[Zn9];refine⟨fun _=> ?_,fun h=>by have:=of_decide_eq_false h;omega⟩;have ha:=ZwL hk;have hb:=ZwL hk2;rw[Zth]at ha hb;have la:val ((wd a).take k) < Bw ^ k:=by have:=ZuR ((ZvP a).take k);rwa [ZH2,ZIk (by omega)]at this
   have lb:val ((wd b).take k) < Bw ^ k:=by have:=ZuR ((ZvP b).take k);rwa [ZH2,ZIk (by omega)]at this
   rw[ZtZ hk,ZnI,ZnG,ZtZ hk2,ZnI,ZnG,Zn9];refine⟨fun hc=> ?_,fun hc=> ?_⟩
   ·have h1:(wd a)[k] < (wd b)[k]:=by have:=of_decide_eq_true hc;omega
    have:a < b:=by rw[ha,hb,hP];exact Zzs (A:=0) (B:=0) la (by omega)
    rw[ZnG];exact .inl (by rw[Zwo this])
   ·rw[ZnI,ZnG,ZnI,ZnG,Zn9];refine⟨fun hc2=> ?_,fun hc2=> ?_⟩
    ·have h1:(wd b)[k] < (wd a)[k]:=by have:=of_decide_eq_true hc2;omega
     have:b < a:=by rw[ha,hb,hP];exact Zzs (A:=0) (B:=0) lb (by omega)
     rw[ZnG];exact .inl (by rw[ZvW this])
    ·rw[ZnJ];refine⟨ZnL (by omega),ih () ?_⟩;have h1:(wd a)[k]=(wd b)[k]:=by have q1:=of_decide_eq_false hc;have q2:=of_decide_eq_false hc2;omega
     rw[←ZHX (h:=hk),←ZHX (h:=hk2),h1,hP]
  ·rintro rec ⟨⟩ hP;unfold Zr5 Zqn;dsimp only;rw[Zn9];refine⟨fun h=>by have:=of_decide_eq_true h;omega,fun _=> ?_⟩;rw[ZnG];rw[List.drop_zero,List.drop_zero]at hP;exact .inr ⟨rfl,by rw[←Zth a,←Zth b,hP]⟩
  ·rintro r (rfl |⟨rfl,rfl⟩)
   ·exact ZnG.2 rfl
   ·unfold Zs6;exact ZnG.2 (Zwe a).symm
theorem ZAg {a:Nat} (k:Nat) (hk:k≤32):shlK .u32 (a:Int) (k:Int)=((a*2 ^ k % 4294967296:Nat):Int):=by
 unfold shlK;rw[ZHQ,show IntKind.bits .u32=32 from rfl,ZIk (by omega)];have e:(a:Int)*(2:Int) ^ k=((a*2 ^ k:Nat):Int):=by push_cast;rfl
 rw[e,ZuM]
theorem ZAq (a d:Nat) (hd:d≤1) (ha:(wd a).length≤100000):Zpj (iL (wd a)) (d:Int)=some (iL (wd (2*a+d))):=by
 refine ZqS ?_;unfold Zpj;rw[ZnI];refine Zn6 (ZtG Zv2 (wd a).length (by omega) (fun i (s:Nat×List Nat)=>(iL (wd a),(s.1:Int),i,iL s.2)) (fun i s=>s.1≤1∧s.2.length=i∧Dg s.2∧val s.2+Bw ^ i*s.1=2*val ((wd a).take i)+d)
  (Q:=fun y=>∃(c:Nat) (o:List Nat),y=((c:Int),iL o)∧c≤1∧Dg o∧o.length=(wd a).length∧val o+Bw ^ (wd a).length*c=2*a+d) (d,[]) ⟨hd,rfl,Zyb,by simp[val]⟩ ?_ ?_) ?_
 ·rintro rec i ⟨c,o⟩ hi ⟨hc,hl,hod,hv⟩ ih;dsimp only at hc hl hod hv ih;have h1:=(ZvP a).get hi;unfold Zrv ZpZ;dsimp only;rw[Zn9,Zog];refine⟨fun _=> ?_,fun h=>by have:=of_decide_eq_false h;omega⟩;rw[ZtZ hi,ZnI,ZnG];generalize ex:(wd a)[i]=x at h1;have eor:orK .u32 (shlK .u32 (x:Int) 1) (c:Int)=((c+x*2 ^ 1 % Bw:Nat):Int):=by rw[show (1:Int)=((1:Nat):Int)from rfl,ZAg 1 (by omega),ZzQ (ZIl _ (by decide)) (by omega),Nat.or_comm];congr 1;exact Zzv (by decide) (by omega) h1
  have esh:shrK .u32 (x:Int) 31=((x / 2 ^ 31:Nat):Int):=Zye 31 (by omega);rw[eor,ZIy,esh,ZnJ,ZnJ,ZnJ,ZnJ,Zog];have hx:c+x*2 ^ 1 % Bw < Bw:=by simp only[Bw]at h1⊢;omega
  refine⟨by decide,ZwZ (by simp only[ZH1];omega),by decide,ZnL (by omega), ?_⟩;have:=ih (x / 2 ^ 31,o++[c+x*2 ^ 1 % Bw]) ⟨by simp only[Bw]at h1;dsimp only;omega,by simp[hl],hod.app (ZxY hx), ?_⟩
  ·rw[Zz1]at this;exact this
  ·dsimp only;have q:c+x*2 ^ 1 % Bw+Bw*(x / 2 ^ 31)=c+2*x:=by simp only[Bw]at h1⊢;omega
   have q2:Bw ^ i*(c+x*2 ^ 1 % Bw+Bw*(x / 2 ^ 31))=Bw ^ i*(c+2*x):=by rw[q]
   have q3:Bw ^ i*(2*x)=2*(Bw ^ i*x):=ZIp _ _ _;rw[ZIm,ZIm (Bw ^ i) c (2*x),q3]at q2;rw[Zvm,hl,Zop hi,ex];generalize c+x*2 ^ 1 % Bw=dg at*
   generalize x / 2 ^ 31=cy at*
   rw[ZIt,ZIn];omega
 ·rintro rec ⟨c,o⟩ ⟨hc,hl,hod,hv⟩;dsimp only at hc hl hod hv;unfold Zrv ZpZ;dsimp only;rw[Zn9,Zog];refine⟨fun h=>by have:=of_decide_eq_true h;omega,fun _=> ?_⟩;rw[ZnG];rw[ZH7,Zth]at hv;exact⟨c,o,rfl,hc,hod,hl,hv⟩
 ·rintro y ⟨c,o,rfl,hc,hod,hl,hv⟩;dsimp only;unfold Zr0;have e:iL o++[(c:Int)]=iL (o++[c]):=by rw[Zz1];rfl
  rw[ZnJ,Zog,e,Zyo (hod.app (ZxY (by simp only[Bw];omega))) (by simp;omega),ZnI,ZnG,ZnG,Zvm,hl,hv];exact⟨ZwZ (by simp only[ZH1];omega),rfl⟩
end Go.Proofs
namespace Go.Proofs
open Go Eng
theorem ZDb (t:Int):shrK .i64 t 32=t / 4294967296:=by unfold shrK;rw[show min (32:Int).toNat (IntKind.bits .i64)=32 from by decide,Int.fdiv_eq_ediv_of_nonneg _ (by decide)];rfl
theorem ZAd (a b:Nat) (hab:b≤a) (ha:(wd a).length≤100000):ZoN (iL (wd a)) (iL (wd b))=some (iL (wd (a - b))):=by
 have hlb:(wd b).length≤(wd a).length:=ZsT hab;refine ZqS ?_;unfold ZoN;rw[ZnI];refine Zn6 (ZtG ZwB (wd a).length (by omega) (fun i (s:Nat×List Nat)=>(iL (wd a),iL (wd b), -(s.1:Int),i,iL s.2)) (fun i s=>s.1≤1∧s.2.length=i∧Dg s.2∧val ((wd a).take i)+Bw ^ i*s.1=val s.2+val ((wd b).take i))
  (Q:=fun y=>∃(o:List Nat),y=iL o∧Dg o∧o.length=(wd a).length∧val o=a - b) (0,[]) ⟨by simp,rfl,Zyb,by simp[val]⟩ ?_ ?_) ?_
 ·rintro rec i ⟨c,o⟩ hi ⟨hc,hl,hd,hv⟩ ih;dsimp only at hc hl hd hv ih;have h1:=(ZvP a).get hi;have h2:=Zy1 (ZvP b) i;have ey0:(wd b).getD i 0=(if i < (wd b).length then (wd b).getD i 0 else 0):=by
   by_cases h:i < (wd b).length
   ·rw[if_pos h]
   ·rw[if_neg h,ZHU,ZHW (by omega)];rfl
  have fin:∀y:Nat,(wd b).getD i 0=y→wp (ZpT (fun a b c i out=>rec (a,b,c,i,out)) (iL (wd a)) (iL (wd b)) (-(c:Int)+((wd a)[i]:Int) - (y:Int)) (i:Int) (iL o)) (fun y=>∃(o:List Nat),y=iL o∧Dg o∧o.length=(wd a).length∧val o=a - b):=fun y ey=>by
   rw[ey]at h2;generalize ex:(wd a)[i]=x at h1;have ew:IntKind.wrap .u32 (-(c:Int)+(x:Int) - (y:Int))=(((x+4294967296 - y - c) % 4294967296:Nat):Int):=by simp only[Bw]at h1 h2;rw[IntKind.wrap_u32];omega
   have es:shrK .i64 (-(c:Int)+(x:Int) - (y:Int)) 32= -(((if x < y+c then 1 else 0):Nat):Int):=by simp only[Bw]at h1 h2;rw[ZDb];split<;>omega
   unfold ZpT;rw[ew,es,ZnJ,ZnJ,ZnJ,Zog];refine⟨ZwZ (by simp only[ZH1];omega),by decide,ZnL (by omega), ?_⟩;have:=ih ((if x < y+c then 1 else 0),o++[(x+4294967296 - y - c) % 4294967296]) ⟨by dsimp only;split<;>omega,by simp[hl],hd.app (ZxY (ZIl _ (by decide))), ?_⟩
   ·rw[Zz1]at this;exact this
   ·dsimp only;rw[Zvm,hl,ZIt,Zop hi,Zwv,ex,ey,ZIn];have e:x+Bw*(if x < y+c then 1 else 0)=(x+4294967296 - y - c) % 4294967296+y+c:=by simp only[Bw]at h1 h2⊢;split<;>omega
    have e2:Bw ^ i*(x+Bw*(if x < y+c then 1 else 0))=Bw ^ i*((x+4294967296 - y - c) % 4294967296+y+c):=by rw[e]
    rw[ZIm,ZIm,ZIm]at e2;omega
  unfold Zr1 Zql;dsimp only;rw[Zn9,Zog,Zog];refine⟨fun _=> ?_,fun h=>by have:=of_decide_eq_false h;omega⟩;have wx:IntKind.wrap .i64 ((wd a)[i]:Int)=((wd a)[i]:Int):=wrap_i64 (by simp only[Bw]at h1;omega);rw[ZtZ hi,ZnI,ZnG,wx,ZnJ,Zn9];refine⟨ZnL (by simp only[Bw]at h1;omega),fun h=> ?_,fun h=> ?_⟩
  ·have hib:i < (wd b).length:=by have:=of_decide_eq_true h;omega
   have hy:=(ZvP b).get hib;have wy:IntKind.wrap .i64 ((wd b)[i]:Int)=((wd b)[i]:Int):=wrap_i64 (by simp only[Bw]at hy;omega);rw[ZtZ hib,ZnI,ZnG,wy,ZnJ];refine⟨ZnL (by simp only[Bw]at h1 hy;omega),fin _ ?_⟩;rw[ZHU,ZHV hib];rfl
  ·have hib:¬i < (wd b).length:=by have:=of_decide_eq_false h;omega
   have:=fin 0 (by rw[ey0,if_neg hib]);rw[Int.natCast_zero,Int.sub_zero]at this;exact this
 ·rintro rec ⟨c,o⟩ ⟨hc,hl,hd,hv⟩;unfold Zr1 Zql;dsimp only at hc hl hd hv⊢
  rw[Zn9,Zog];refine⟨fun h=>by have:=of_decide_eq_true h;omega,fun _=> ?_⟩;rw[ZnG];rw[ZH7,List.take_of_length_le (by omega),Zth,Zth]at hv;have:=ZuR hd;rw[hl]at this;have hc0:c=0:=by
   rcases Nat.eq_zero_or_pos c with h |h
   ·exact h
   ·have:c=1:=by omega
    rw[this,Nat.mul_one]at hv;omega
  rw[hc0,Nat.mul_zero]at hv;exact⟨o,rfl,hd,hl,by omega⟩
 ·rintro y ⟨o,rfl,hd,hl,hv⟩;unfold ZsY;rw[Zyo hd (by omega),ZnI,ZnG,ZnG,hv]
end Go.Proofs
namespace Go.Proofs
open Go Eng
theorem ZyN (a:Nat) (ha:(wd a).length≤100000):ZoC (iL (wd a))=some (iL (wd (a / 2))):=by
 refine ZqS ?_;unfold ZoC;rw[List.nil_append,ZnJ,ZnI,Zog];refine⟨ZwZ (by rw[List.length_nil];omega), ?_⟩;refine Zn6 (ZtG Zwh (wd a).length (by omega) (fun i (o:List Nat)=>(iL (wd a),((wd a).length:Int),i,iL (o++(wd a).drop o.length))) (fun i o=>o.length=i∧Dg o∧val o*2+(wd a).getD 0 0 % 2=val ((wd a).take i)+Bw ^ i*((wd a).getD i 0 % 2))
  (Q:=fun y=>∃(o:List Nat),y=iL o∧Dg o∧o.length=(wd a).length∧val o=a / 2) [] ⟨rfl,Zyb,by simp[val]⟩ ?_ ?_) ?_
 ·rintro rec i o hi ⟨hol,hod,hov⟩ ih;have h1:=(ZvP a).get hi;have hyB:=Zy1 (ZvP a) (i+1);have hlen:(o++(wd a).drop o.length).length=(wd a).length:=by simp;omega
  have gx:(iL (o++(wd a).drop o.length))[i]? =some ((wd a)[i]:Int):=by rw[Zx9 (by omega)];congr 2;rw[List.getElem_append_right (by omega)];simp[hol]
  have fin:∀z:Nat,z=(wd a)[i] / 2+(wd a).getD (i+1) 0*2 ^ 31 % Bw→wp (ZpH (fun a t9 i out=>rec (a,t9,i,out)) (iL (wd a)) ((wd a).length:Int) (i:Int) (iL ((o++(wd a).drop o.length).set i z))) (fun y=>∃(o:List Nat),y=iL o∧Dg o∧o.length=(wd a).length∧val o=a / 2):=fun z hz=>by
   unfold ZpH;have es:(o++(wd a).drop o.length).set i z=(o++[z])++(wd a).drop (o++[z]).length:=by rw[List.set_append_right _ _ (by omega),hol,Nat.sub_self,←ZHX (h:=hi),List.set_cons_zero];simp[hol]
   have eg:(wd a).getD i 0=(wd a)[i]:=by rw[ZHU,ZHV hi];rfl
   rw[eg]at hov;rw[ZnJ,es];generalize ex:(wd a)[i]=x at*
   generalize ey:(wd a).getD (i+1) 0=y at*
   have hzB:z < Bw:=by simp only[Bw]at h1 hz⊢;omega
   refine⟨ZnL (by omega),ih (o++[z]) ⟨by simp[hol],hod.app (ZxY hzB), ?_⟩⟩;have hd1:z*2+x % 2=x+Bw*(y % 2):=by simp only[Bw]at h1 hz⊢;omega
   have q1:Bw ^ i*(z*2+x % 2)=Bw ^ i*(x+Bw*(y % 2)):=by rw[hd1]
   rw[ZIm,ZIm]at q1;rw[Zvm,hol,Zop hi,ex,ZIt,Nat.add_mul,ZIn,ZIn];omega
  unfold ZrQ Zqg;dsimp only;rw[Zn9];refine⟨fun _=> ?_,fun h=>by have:=of_decide_eq_false h;omega⟩;have esh:shrK .u32 ((wd a)[i]:Int) 1=(((wd a)[i] / 2:Nat):Int):=Zye 1 (by omega);rw[ZHQ,gx,ZnJ,ZnI,ZnG,ZnJ,ZnJ,ZnJ,esh,ZxG,Zog,Zog,hlen,Zn9];refine⟨Zqd ⟨by omega,by omega⟩,by decide,Zqd ⟨by omega,by omega⟩,ZnL (by omega),fun h=> ?_,fun h=> ?_⟩
  ·have hi2:i+1 < (wd a).length:=by have:=of_decide_eq_true h;omega
   have gz:(iL ((o++(wd a).drop o.length).set i ((wd a)[i] / 2)))[i]? =some (((wd a)[i] / 2:Nat):Int):=by rw[Zx9 (by rw[List.length_set];omega),List.getElem_set_self]
   have e1:(i:Int)+1=((i+1:Nat):Int):=rfl;have eg:(wd a).getD (i+1) 0=(wd a)[i+1]:=by rw[ZHU,ZHV hi2];rfl
   have eor:orK .u32 (((wd a)[i] / 2:Nat):Int) (shlK .u32 ((wd a)[i+1]:Int) 31)=(((wd a)[i] / 2+(wd a).getD (i+1) 0*2 ^ 31 % Bw:Nat):Int):=by rw[eg,show (31:Int)=((31:Nat):Int)from rfl,ZAg 31 (by omega),ZzQ (by simp only[Bw]at h1;omega) (ZIl _ (by decide))];congr 1;exact Zzv (by decide) (by simp only[Bw]at h1;omega) ((ZvP a).get hi2)
   rw[e1,ZtZ hi2,gz,ZnJ,ZnI,ZnG,ZnJ,ZnI,ZnG,ZnJ,ZnJ,eor,Zog,List.length_set,hlen,ZxG,List.set_set];exact⟨Zqd ⟨by omega,by omega⟩,ZnL (by omega),by decide,Zqd ⟨by omega,by omega⟩,fin _ rfl⟩
  ·have hi2:¬i+1 < (wd a).length:=by have:=of_decide_eq_false h;omega
   refine fin _ ?_;rw[ZHU,ZHW (by omega)];simp
 ·rintro rec o ⟨hol,hod,hov⟩;unfold ZrQ Zqg;dsimp only;rw[Zn9];refine⟨fun h=>by have:=of_decide_eq_true h;omega,fun _=> ?_⟩;rw[ZnG];have eg:(wd a).getD (wd a).length 0=0:=by rw[ZHU,ZHW (by omega)];rfl
  rw[eg,Nat.zero_mod,Nat.mul_zero,Nat.add_zero,ZH7,Zth]at hov;refine⟨o,by rw[hol,List.drop_length,List.append_nil],hod,hol, ?_⟩;omega
 ·rintro y ⟨o,rfl,hd,hl,hv⟩;unfold ZsA;rw[Zyo hd (by omega),ZnI,ZnG,ZnG,hv]
end Go.Proofs
namespace Go.Proofs
open Go Eng
theorem ZzS {a:Nat} (h:a≠0):idx (iL (wd a)) 0=some ((a % Bw:Nat):Int):=by rw[Zyn h];rfl
theorem Zy2 {a:Nat}:(andK .u32 ((a % Bw:Nat):Int) 1 == 0)=decide (a % 2=0):=by
 rw[show (1:Int)=((1:Nat):Int)from rfl,ZzC (ZIl _ (by decide)) (by decide),Nat.and_one_is_mod];have e:a % Bw % 2=a % 2:=by simp only[Bw];omega
 rw[e]
 by_cases h:a % 2=0
 ·rw[h];rfl
 ·rw[decide_eq_false h];exact beq_eq_false_iff_ne.2 (by omega)
theorem ZAz (P:Nat→Prop) {f:Nat→List Int×List Int×Int→Option (List Int×List Int×Int)} (y:List Int) (k:Int)
  (hf:∀n x,x≠0→(wd x).length≤100000→f (n+1) (iL (wd x),y,k)=if x % 2=0 then f n (iL (wd (x / 2)),y,k)else some (iL (wd x),y,k))
  (hP:∀x,P (2*x)→P x):∀(n x:Nat),x≠0→(wd x).length≤100000→P x→(∀m,x < 2 ^ m→m≤n→∃z,f n (iL (wd x),y,k)=some (iL (wd z),y,k)∧z % 2=1∧z≤x∧P z)
 |0,x,hx,hl,hp,m,hm,hmn=>by
  have:m=0:=by omega
  subst this;rw[ZIu]at hm;omega
 |n+1,x,hx,hl,hp,m,hm,hmn=>by
  rw[hf n x hx hl]
  by_cases h:x % 2=0
  ·rw[if_pos h];cases m with
   |zero=>rw[ZIu]at hm;omega
   |succ m=>
    obtain⟨z,h1,h2,h3,h4⟩:=ZAz P y k hf hP n (x / 2) (by omega) (ZIh (ZsT (ZId x 2)) hl) (hP _ (by rwa [show 2*(x / 2)=x by omega])) m (by rw[ZIt]at hm;omega) (by omega);exact⟨z,h1,h2,by omega,h4⟩
  ·rw[if_neg h];exact⟨x,rfl,by omega,ZIg _,hp⟩
end Go.Proofs
namespace Go.Proofs
open Go Eng
theorem ZvY (x:Nat):x < 2 ^ (x.log2+1):=Nat.lt_log2_self
theorem ZxE {x n:Nat} (h:(wd x).length≤n):x.log2≤32*n:=by
 rcases Nat.eq_zero_or_pos x with rfl |hp
 ·rw[Nat.log2_zero];omega
 ·have h1:=Nat.log2_self_le (n:=x) (by omega);have h2:=ZIj (Zuk x) (ZIs (n:=Bw) (by decide) h);rw[show Bw=2 ^ 32 from rfl,←Nat.pow_mul]at h2;exact ZIf ((Nat.pow_lt_pow_iff_right (a:=2) (by decide)).1 (ZIi h1 h2))
theorem ZBE {x b:Nat} (hb:b % 2=1):ZIe (2*x) b=ZIe x b:=by
 have hc:Nat.Coprime 2 b:=by unfold Nat.Coprime;rw[Nat.gcd_rec,hb,Nat.gcd_one_left]
 exact Nat.Coprime.gcd_mul_left_cancel x hc
theorem ZGS (y:List Int) (k:Int) {x:Nat} (b:Nat) (hb:b % 2=1) (hx:x≠0) (hl:(wd x).length≤100000):∃z,Zoj big (iL (wd x)) y k=some (iL (wd z),y,k)∧z % 2=1∧z≤x∧ZIe z b=ZIe x b:=by
 have hm:=ZxE hl;refine ZAz (fun z=>ZIe z b=ZIe x b) (f:=fun n t=>Zoj n t.1 t.2.1 t.2.2) y k (fun n x hx hl=> ?_) (fun z h=>by rwa [ZBE hb]at h) big x hx hl rfl (x.log2+1) (ZvY x) (ZIf (Zy6 (by omega)));show Zpr (Zoj n) (iL (wd x)) y k=_;unfold Zpr;rw[ZzS hx,ZIy,Zy2]
 by_cases h:x % 2=0
 ·rw[decide_eq_true h,cond_true,if_pos h,ZyN x hl,ZIy]
 ·rw[decide_eq_false h,cond_false,if_neg h]
end Go.Proofs
namespace Go.Proofs
open Go Eng
theorem ZCz (y:List Int) (k:Int) {x:Nat} (ho:x % 2=1):Zoj big (iL (wd x)) y k=some (iL (wd x),y,k):=by obtain⟨n,hn⟩:=ZzB 1 (by decide);rw[hn];show Zpr (Zoj n) (iL (wd x)) y k=_;unfold Zpr;rw[ZzS (by omega),ZIy,Zy2,decide_eq_false (by omega),cond_false]
theorem ZGR (w:List Int) (k:Int) {y:Nat} (b:Nat) (hb:b % 2=1) (hy:y≠0) (hl:(wd y).length≤100000):∃z,Zoi big w (iL (wd y)) k=some (w,iL (wd z),k)∧z % 2=1∧(z≤y∧(y % 2=0→z≤y / 2))∧ZIe z b=ZIe y b:=by
 have hm:=ZxE hl;have step:∀n x,x≠0→(wd x).length≤100000→Zoi (n+1) w (iL (wd x)) k=if x % 2=0 then Zoi n w (iL (wd (x / 2))) k else some (w,iL (wd x),k):=fun n x hx hl=>by
  show Zr2 (Zoi n) w (iL (wd x)) k=_;unfold Zr2;rw[ZzS hx,ZIy,Zy2]
  by_cases h:x % 2=0
  ·rw[decide_eq_true h,cond_true,if_pos h,ZyN x hl,ZIy]
  ·rw[decide_eq_false h,cond_false,if_neg h]
 have key:∀(n x m:Nat),x≠0→(wd x).length≤100000→x < 2 ^ m→m≤n→∃z,Zoi n w (iL (wd x)) k=some (w,iL (wd z),k)∧z % 2=1∧(z≤x∧(x % 2=0→z≤x / 2))∧ZIe z b=ZIe x b:=by
  intro n
  induction n with
  |zero=>
   intro x m hx hl hm hmn;have:m=0:=by omega
   subst this;rw[ZIu]at hm;omega
  |succ n ih=>
   intro x m hx hl hm hmn;rw[step n x hx hl]
   by_cases h:x % 2=0
   ·rw[if_pos h];cases m with
    |zero=>rw[ZIu]at hm;omega
    |succ m=>
     obtain⟨z,h1,h2,h3,h4⟩:=ih (x / 2) m (by omega) (ZIh (ZsT (ZId x 2)) hl) (by rw[ZIt]at hm;omega) (by omega);refine⟨z,h1,h2,⟨by omega,fun _=>h3.1⟩, ?_⟩;rw[h4,←ZBE hb,show 2*(x / 2)=x by omega]
   ·rw[if_neg h];exact⟨x,rfl,by omega,⟨ZIg _,fun h'=>absurd h' h⟩,rfl⟩
 exact key big y (y.log2+1) hy hl (ZvY y) (ZIf (Zy6 (by omega)))
end Go.Proofs
namespace Go.Proofs
open Go Eng
theorem ZCh (k:Int):∀(n x y p q:Nat),x % 2=1→(wd x).length≤100000→(wd y).length≤100000→x < 2 ^ p→y < 2 ^ q→p+q+y % 2 < n→ZnW n (iL (wd x)) (iL (wd y)) k=some (iL (wd (ZIe x y)),k)
 |0,x,y,p,q,_,_,_,_,_,h=>absurd h (by omega)
 |n+1,x,y,p,q,ho,hxl,hyl,hp,hq,hn=>by
  show Zps (ZnW n) _ _ _=_;unfold Zps;rw[Zog]
  by_cases h0:y=0
  ·subst h0;rw[ZtF,Nat.gcd_zero_right];rfl
  ·have hl:=ZsI h0;obtain⟨z,hz,hz1,hz2,hz3⟩:=ZGR (iL (wd x)) k x ho h0 hyl;rw[decide_eq_true (by omega),cond_true,ZCz _ _ ho,ZIy];dsimp only;unfold Zs3;rw[hz,ZIy];dsimp only;have hzl:=ZIh (ZsT hz2.1) hyl;unfold Zs2;rw[ZBI x z hxl hzl,ZIy];obtain⟨q',hq',hq2⟩:∃q',z < 2 ^ q'∧q'+1≤q+y % 2:=by
    by_cases he:y % 2=0
    ·cases q with
     |zero=>rw[ZIu]at hq;omega
     |succ q=>
      refine⟨q, ?_,by omega⟩;have:=hz2.2 he;rw[ZIt]at hq;omega
    ·exact⟨q,by omega,by omega⟩
   unfold Zrb;have eg:ZIe x y=ZIe x z:=by rw[Nat.gcd_comm x y,←hz3,Nat.gcd_comm]
   rw[eg]
   by_cases hc:z < x
   ·rw[ZvW hc,show decide ((1:Int) > 0)=true from rfl,cond_true,ZAd x z (by omega) hxl,ZIy,ZCh k n z (x - z) q' p hz1 hzl (ZIh (ZsT (Nat.sub_le x z)) hxl) hq' (by omega) (by omega),Nat.gcd_sub_self_right (by omega),Nat.gcd_comm]
   ·have hnc:decide (ZzE x z > 0)=false:=by refine decide_eq_false ?_;unfold ZzE;rw[if_neg hc];split<;>decide
    rw[hnc,cond_false,ZAd z x (by omega) hzl,ZIy,ZCh k n x (z - x) p q' ho hxl (ZIh (ZsT (Nat.sub_le z x)) hzl) hp (by omega) (by omega),Nat.gcd_sub_self_right (by omega)]
end Go.Proofs
namespace Go.Proofs
open Go Eng
theorem ZE2:∀(n x y j m:Nat),x≠0→y≠0→(wd x).length≤100000→(wd y).length≤100000→x < 2 ^ m→m≤n→j+m≤1000000000→
  ∃x' y' t:Nat,Zpa n (iL (wd x)) (iL (wd y)) (j:Int)=some (iL (wd x'),iL (wd y'),((j+t:Nat):Int))∧(x' % 2=1∨y' % 2=1)∧ZIe x y=2 ^ t*ZIe x' y'∧x'≠0∧y'≠0∧x'≤x∧y'≤y∧t≤m
 |0,x,y,j,m,hx,hy,hxl,hyl,hm,hmn,hj=>by
  have:m=0:=by omega
  subst this;rw[ZIu]at hm;omega
 |n+1,x,y,j,m,hx,hy,hxl,hyl,hm,hmn,hj=>by
  show ∃x' y' t:Nat,Zr3 (Zpa n) _ _ _=_∧_;unfold Zr3 Zrc;rw[ZzS hx,ZIy,Zy2]
  by_cases h1:x % 2=0
  ·rw[decide_eq_true h1,cond_true,ZzS hy,ZIy,Zy2]
   by_cases h2:y % 2=0
   ·cases m with
    |zero=>rw[ZIu]at hm;omega
    |succ m=>
     rw[decide_eq_true h2,cond_true,ZyN x hxl,ZIy,ZyN y hyl,ZIy,ZnL (by omega),chk_true];obtain⟨x',y',t,q1,q2,q3,q4,q5,q6,q7,q8⟩:=ZE2 n (x / 2) (y / 2) (j+1) m (by omega) (by omega) (ZIh (ZsT (ZId x 2)) hxl) (ZIh (ZsT (ZId y 2)) hyl) (by rw[ZIt]at hm;omega) (by omega) (by omega);refine⟨x',y',t+1, ?_,q2, ?_,q4,q5,by omega,by omega,by omega⟩
     ·rw[show (j:Int)+1=((j+1:Nat):Int)from rfl,q1,show j+1+t=j+(t+1) by omega]
     ·have:=Nat.gcd_mul_left 2 (x / 2) (y / 2);rw[show 2*(x / 2)=x by omega,show 2*(y / 2)=y by omega]at this;rw[this,q3,ZIt,ZIo (2 ^ t) 2,ZIn]
   ·rw[decide_eq_false h2,cond_false];exact⟨x,y,0,rfl,.inr (by omega),by rw[ZIu,ZIq],hx,hy,ZIg _,ZIg _,Nat.zero_le _⟩
  ·rw[decide_eq_false h1,cond_false,cond_false];exact⟨x,y,0,rfl,.inl (by omega),by rw[ZIu,ZIq],hx,hy,ZIg _,ZIg _,Nat.zero_le _⟩
theorem ZE1:∀(k n a:Nat),k < n→k≤1000000000→(wd (2 ^ k*a)).length≤100000→Zo9 n (iL (wd a)) (k:Int)=some (iL (wd (2 ^ k*a)))
 |k,0,a,h,_,_=>absurd h (by omega)
 |0,n+1,a,_,_,_=>by show Zpq (Zo9 n) _ _=_;unfold Zpq;rw[ZIu,ZIq];rfl
 |k+1,n+1,a,h,hk,hl=>by
  show Zpq (Zo9 n) _ _=_;unfold Zpq;have e:2 ^ (k+1)*a=2 ^ k*(2*a+0):=by rw[ZIt,ZIn,Nat.add_zero]
  have ha:(wd a).length≤100000:=ZIh (ZsT (Nat.le_mul_of_pos_left a (ZIw _))) hl;rw[e]at hl;have ht:=ZAq a 0 (by omega) ha;rw[Int.natCast_zero]at ht;rw[decide_eq_true (by omega),cond_true,ht,ZIy,show ((k+1:Nat):Int) - 1=(k:Int) by omega,ZnL (by omega),chk_true,ZE1 k n (2*a+0) (by omega) (by omega) hl,e]
theorem ZDG (a b:Nat) (ha0:a≠0) (hb0:b≠0) (ha:(wd a).length≤50000) (hb:(wd b).length≤50000):ZqU (iL (wd a)) (iL (wd b))=some (iL (wd (ZIe a b))):=by
 have hla:=ZxE ha;have hlb:=ZxE hb;obtain⟨x,y,t,q1,q2,q3,q4,q5,q6,q7,q8⟩:=ZE2 big a b 0 (a.log2+1) ha0 hb0 (by omega) (by omega) (ZvY a) (ZIf (Zy6 (by omega))) (by omega);rw[Int.natCast_zero,ZIx]at q1;have hxl:=ZIh (ZsT q6) ha;have hyl:=ZIh (ZsT q7) hb;have hlx:=ZxE hxl;have hly:=ZxE hyl;have main:ZnW big (iL (wd x)) (iL (wd y)) (t:Int)=some (iL (wd (ZIe x y)),(t:Int)):=by
  by_cases hx:x % 2=1
  ·exact ZCh _ big x y _ _ hx (by omega) (by omega) (ZvY x) (ZvY y) (Zy6 (by omega))
  ·have hy:y % 2=1:=by omega
   obtain⟨z,z1,z2,z3,z4⟩:=ZGS (iL (wd y)) (t:Int) y hy q4 (by omega);have hzl:=ZIh (ZsT z3) hxl;have hlz:=ZxE hzl;have e:=ZCh (t:Int) big z y _ _ z2 (by omega) (by omega) (ZvY z) (ZvY y) (Zy6 (by omega));rw[z4]at e;rw[←e];obtain⟨n,hn⟩:∃n,big=n+1:=⟨36893488147419103231,by rw[big_eq]⟩;have s1:∀u,ZnW big (iL (wd u)) (iL (wd y)) (t:Int)=Zps (ZnW n) (iL (wd u)) (iL (wd y)) (t:Int):=fun u=>by rw[hn];rfl
   rw[s1,s1];unfold Zps;have hl:=ZsI q5;rw[Zog,decide_eq_true (by omega),cond_true,cond_true,z1,ZCz _ _ z2]
 have hg:(wd (2 ^ t*ZIe x y)).length≤100000:=by rw[←q3];exact ZIh (ZA8 (by omega) hb) (by omega)
 unfold ZqU;rw[q1,ZIy];dsimp only;unfold Zs4 Zs1 Zs0;rw[main,ZIy];dsimp only;rw[ZE1 t big _ (Zy6 (by omega)) (by omega) hg,ZIy,q3]
end Go.Proofs
namespace Go.Proofs
open Go Eng
theorem ZBJ {l:List Nat} {i:Nat} (hd:Dg l) (h:i / 32 < l.length):l[i / 32] / 2 ^ (i % 32) % 2=val l / 2 ^ i % 2:=by
 have e:=ZwL h;have hlt:=ZuR (hd.take (i / 32));rw[ZH2,ZIk (by omega)]at hlt;have hi:2 ^ i=Bw ^ (i / 32)*2 ^ (i % 32):=by rw[show Bw=2 ^ 32 from rfl,←Nat.pow_mul,←Nat.pow_add,ZIb]
 have hr:i % 32 < 32:=ZIl _ (by decide);have hB:Bw=2 ^ (i % 32)*(2*2 ^ (31 - i % 32)):=by rw[show 2*2 ^ (31 - i % 32)=2 ^ (31 - i % 32+1) by rw[ZIt,ZIo],←Nat.pow_add,show i % 32+(31 - i % 32+1)=32 by omega]
 have e1:val l / Bw ^ (i / 32)=l[i / 32]+Bw*val (l.drop (i / 32+1)):=by rw[e,ZH9 _ _ (Nat.pow_pos (by decide)),ZIc hlt,ZIx]
 rw[hi,←Nat.div_div_eq_div_mul,e1];generalize l[i / 32]=x;generalize val (l.drop (i / 32+1))=y;have e2:(x+Bw*y) / 2 ^ (i % 32)=x / 2 ^ (i % 32)+2*(2 ^ (31 - i % 32)*y):=by rw[hB,ZIn,ZH9 _ _ (ZIw _),ZIn]
 rw[e2,ZIa]
end Go.Proofs
namespace Go.Proofs
open Go Eng
theorem ZCs (i:Nat):Int.tdiv (i:Int) 32=((i / 32:Nat):Int):=by rw[Int.tdiv_eq_ediv_of_nonneg (by omega)];norm_cast
theorem ZCr (i:Nat):IntKind.wrap .u64 (Int.tmod (i:Int) 32)=((i % 32:Nat):Int):=by rw[Int.tmod_eq_emod_of_nonneg (by omega),IntKind.wrap_u64];omega
theorem ZFu {l:List Nat} {i:Nat} (hd:Dg l) (h:i / 32 < l.length) (hi:i≤1000000000):ZqV (iL l) (i:Int)=some ((val l / 2 ^ i % 2:Nat):Int):=by have h1:=hd.get h;unfold ZqV;rw[ZCs,ZCr,decide_eq_true (by decide),chk_true,ZnL (by omega),chk_true,ZtZ h,ZIy,chk_true,decide_eq_true (by omega),chk_true,Zye _ (by omega),show (1:Int)=((1:Nat):Int)from rfl,ZzC (ZIi (ZId _ _) h1) (by decide),Nat.and_one_is_mod,ZBJ hd h]
end Go.Proofs
namespace Go.Proofs
open Go Eng
theorem ZCw {x j:Nat} (h:x / 2 ^ j % 2=0):x|||2 ^ j=x+2 ^ j:=by
 have hlo:=ZIl x (ZIw j);have e:x=2 ^ (j+1)*(x / 2 ^ j / 2)+x % 2 ^ j:=by
  have h1:=ZIb x (2 ^ j);have h2:2*(x / 2 ^ j / 2)=x / 2 ^ j:=by omega
  rw[ZIt,ZIn,h2,h1]
 have a1:=ZIv (i:=j+1) (b:=x % 2 ^ j) (by rw[ZIt];omega) (x / 2 ^ j / 2);have a2:=ZIv (i:=j) (b:=x % 2 ^ j) hlo 1;have a3:=ZIv (i:=j+1) (b:=2 ^ j*1+x % 2 ^ j) (by rw[ZIt];omega) (x / 2 ^ j / 2);rw[Nat.mul_one]at a2 a3;generalize x / 2 ^ j / 2=t at*
 generalize x % 2 ^ j=lo at*
 rw[e,a1,Nat.or_assoc,Nat.or_comm lo,←a2,←a3,←a1];omega
theorem ZDd {j:Nat} (hj:j≤31):shlK .u32 1 (j:Int)=((2 ^ j:Nat):Int):=by have:=ZAg (a:=1) j (by omega);rw[ZIq,Nat.mod_eq_of_lt (ZIi (ZIs (by decide) hj) (by decide))]at this;exact this
theorem ZBC {A k:Nat}:A / 2 ^ k=2*(A / 2 ^ (k+1))+A / 2 ^ k % 2:=by rw[ZIt,←Nat.div_div_eq_div_mul];omega
theorem ZBG (a b:Nat) (hb0:b≠0) (ha:(wd a).length≤50000) (hb:(wd b).length≤50000):ZpO (iL (wd a)) (iL (wd b))=some (iL (wd (a / b)),iL (wd (a % b))):=by
 have hlen:∀k,(wd (2*(a / 2 ^ (k+1) % b)+a / 2 ^ k % 2)).length≤50001:=fun k=>by
  have h1:=ZIl (a / 2 ^ (k+1)) (ZIr hb0);have h2:2*(a / 2 ^ (k+1) % b)+a / 2 ^ k % 2≤b+b:=by omega
  exact ZIh (ZsT h2) (ZBa hb hb)
 refine ZqS ?_;unfold ZpO;rw[ZnJ,ZnJ,ZnJ,ZnI,Zog,ZHQ,Zzj];refine⟨Zx3 (by omega),ZnL (by omega),ZnL (by omega), ?_⟩;have e0:(32*((wd a).length:Int)) - 1=((32*(wd a).length:Nat):Int) - 1:=by omega
 rw[e0,show ([]:List Int)=iL (wd 0) by rw[ZtF];rfl];refine Zn6 (Zyv ZwC (32*(wd a).length) (by omega) (fun i (q:Nat×List Nat)=>(iL (wd a),iL (wd b),iL (wd q.1),i,iL q.2))
  (fun k q=>q.1=a / 2 ^ k % b∧Dg q.2∧q.2.length=(wd a).length∧val q.2=a / 2 ^ k / b*2 ^ k)
  (Q:=fun y=>∃o:List Nat,y=(iL (wd (a % b)),iL o)∧Dg o∧o.length=(wd a).length∧val o=a / b) (0,List.replicate (wd a).length 0) ?_ ?_ ?_) ?_
 ·have h0:a / 2 ^ (32*(wd a).length)=0:=by refine ZIc ?_;rw[Nat.pow_mul];exact Zuk a
  rw[h0,Nat.zero_mod,Nat.zero_div,Nat.zero_mul];exact⟨rfl,ZCD _,List.length_replicate,ZBb _⟩
 ·rintro rec k ⟨r,q⟩ hk ⟨hr,hd,hl,hv⟩ ih;dsimp only at hr hd hl hv;have hk32:k / 32 < (wd a).length:=by omega
  unfold Zr4 Zqm;dsimp only;have hbit:=ZFu (i:=k) (ZvP a) hk32 (by omega);rw[Zth]at hbit;have h2:a / 2 ^ k % 2≤1:=by omega
  have htw:=ZAq r (a / 2 ^ k % 2) h2 (by
   rw[hr];exact ZIh (ZsT (ZIf (ZIl _ (ZIr hb0)))) (by omega))
  have hlk:=hlen k;rw[←hr]at hlk;have hx:=ZBC (A:=a) (k:=k);have hdm:=ZIb (a / 2 ^ (k+1)) b;rw[←hr]at hdm;have hrlt:r < b:=by rw[hr];exact ZIl _ (ZIr hb0)
  rw[Zn9];refine⟨fun _=> ?_,fun h=>by have:=of_decide_eq_false h;omega⟩;rw[hbit,ZnI,ZnG,htw,ZnI,ZnG,ZBI _ _ (by omega) (by omega),ZnI,ZnG,Zn9];have nx:∀r' q',(r'=a / 2 ^ k % b∧Dg q'∧q'.length=(wd a).length∧val q'=a / 2 ^ k / b*2 ^ k)→wp (ZpV (fun a b r_ i q=>rec (a,b,r_,i,q)) (iL (wd a)) (iL (wd b)) (iL (wd r')) (k:Int) (iL q')) (fun y=>∃o:List Nat,y=(iL (wd (a % b)),iL o)∧Dg o∧o.length=(wd a).length∧val o=a / b):=fun r' q' h=>by unfold ZpV;rw[ZnJ];exact⟨ZnL (by omega),ih (r',q') h⟩
  generalize eX:a / 2 ^ (k+1)=X at*
  generalize ed:a / 2 ^ k % 2=d at*
  refine⟨fun hc=> ?_,fun hc=> ?_⟩
  ·have hge:b≤2*r+d:=by
    rcases Nat.lt_or_ge (2*r+d) b with h |h
    ·rw[Zwo h]at hc;exact absurd (of_decide_eq_true hc) (by decide)
    ·exact h
   have hq:k / 32 < q.length:=by omega
   have hz:q[k / 32] / 2 ^ (k % 32) % 2=0:=by rw[ZBJ hd hq,hv,ZIt,←ZIn,Nat.mul_right_comm,Nat.mul_div_cancel _ (ZIw k)];omega
   have hx32:=hd.get hq;rw[ZAd _ _ hge (by omega),ZnI,ZnG,ZCs,ZCr,ZHQ,ZnJ,ZnJ,ZnJ,Zx9 hq,ZnI,ZnG,ZnJ,ZnJ,ZnJ,ZDd (by omega),ZzQ hx32 (ZIi (ZIs (by decide) (show k % 32≤31 by omega)) (by decide)),ZCw hz,ZxG,Zog];refine⟨by decide,ZnL (by omega),Zqd ⟨by omega,by omega⟩,by decide,decide_eq_true (by omega),Zqd ⟨by omega,by omega⟩, ?_⟩;have hsum:q[k / 32]+2 ^ (k % 32) < Bw:=by
    have hB:Bw=2 ^ (k % 32)*(2*2 ^ (31 - k % 32)):=by rw[show 2*2 ^ (31 - k % 32)=2 ^ (31 - k % 32+1) by rw[ZIt,ZIo],←Nat.pow_add,show k % 32+(31 - k % 32+1)=32 by omega]
    rw[←ZCw hz];exact Nat.or_lt_two_pow (n:=32) hx32 (ZIi (ZIs (by decide) (show k % 32≤31 by omega)) (by decide))
   refine nx (2*r+d - b) (q.set (k / 32) (q[k / 32]+2 ^ (k % 32))) ⟨?_,hd.set _ hsum,by rw[List.length_set,hl], ?_⟩
   ·rw[hx,show 2*X+d=(2*r+d - b)+b*(2*(X / b)+1) by rw[ZIm,ZIp];omega,ZIa,Nat.mod_eq_of_lt (by omega)]
   ·have hvs:=ZxP q (k / 32) (q[k / 32]+2 ^ (k % 32)) hq;have hp:Bw ^ (k / 32)*2 ^ (k % 32)=2 ^ k:=by rw[show Bw=2 ^ 32 from rfl,←Nat.pow_mul,←Nat.pow_add,ZIb]
    rw[ZIm,hp]at hvs;have e1:(2*X+d) / b=2*(X / b)+1:=by rw[show 2*X+d=(2*r+d - b)+b*(2*(X / b)+1) by rw[ZIm,ZIp];omega,ZH9 _ _ (ZIr hb0),ZIc (by omega),ZIx]
    rw[hx,e1];rw[hv,ZIt]at hvs;have e2:X / b*(2 ^ k*2)=2*(X / b)*2 ^ k:=by rw[ZIo (2 ^ k) 2,←ZIn,ZIo (X / b) 2]
    rw[Nat.add_mul,ZIq];omega
  ·have hlt:2*r+d < b:=by
    rcases Nat.lt_or_ge (2*r+d) b with h |h
    ·exact h
    ·rcases Nat.lt_or_ge b (2*r+d)with h' |h'
     ·rw[ZvW h']at hc;exact absurd (of_decide_eq_false hc) (by decide)
     ·rw[show 2*r+d=b by omega,Zwe]at hc;exact absurd (of_decide_eq_false hc) (by decide)
   have e0:2*X+d=(2*r+d)+b*(2*(X / b)):=by rw[ZIp];omega
   refine nx (2*r+d) q ⟨?_,hd,hl, ?_⟩
   ·rw[hx,e0,ZIa,Nat.mod_eq_of_lt hlt]
   ·rw[hx,e0,ZH9 _ _ (ZIr hb0),ZIc hlt,ZIx,hv,ZIt,ZIo (2 ^ k) 2,←ZIn,ZIo (X / b) 2]
 ·rintro rec ⟨r,q⟩ ⟨hr,hd,hl,hv⟩;dsimp only at hr hd hl hv;rw[ZIu,Nat.div_one]at hr hv;unfold Zr4 Zqm;dsimp only;rw[Zn9];refine⟨fun h=>by have:=of_decide_eq_true h;omega,fun _=> ?_⟩;rw[ZnG,hr];exact⟨q,rfl,hd,hl,by rw[hv,Nat.mul_one]⟩
 ·rintro y ⟨o,rfl,hd,hl,hv⟩;dsimp only;unfold Zs5;rw[Zyo hd (by omega),ZnI,ZnG,ZnG,hv]
end Go.Proofs
namespace Go.Proofs
open Go Eng
theorem Zyk (z:Int) (h1: -9223372036854775808≤z) (h2:z≤9223372036854775807):ZnR z=some (bg z):=by
 have key:∀(b:Bool) (n:Nat),n < 18446744073709551616→ZnV b [IntKind.wrap .u32 (n:Int),IntKind.wrap .u32 (shrK .u64 (n:Int) 32)]=some (bg (if b then -(n:Int)else n)):=fun b n h=>by
  have e:([IntKind.wrap .u32 (n:Int),IntKind.wrap .u32 (shrK .u64 (n:Int) 32)]:List Int)=iL [n % 4294967296,n / 4294967296]:=by rw[show (32:Int)=((32:Nat):Int)from rfl,Zyd 32 (by omega),ZuM,Zu7 (by omega)];rfl
  have hd:Dg [n % 4294967296,n / 4294967296]:=fun d hd=>by
   simp only[ZH4,ZH5,ZH6,or_false]at hd;rcases hd with rfl |rfl
   ·exact ZIl _ (by decide)
   ·simp only[Bw];omega
  have hv:val [n % 4294967296,n / 4294967296]=n:=by simp only[val,Nat.mul_zero,Nat.add_zero];exact Nat.mod_add_div n Bw
  rw[e,ZAm b hd (by simp),hv]
 unfold ZnR Zp0;have h32:decide (0≤(32:Int))=true:=rfl
 by_cases hz:z < 0
 ·have e:IntKind.wrap .u64 (0 - IntKind.wrap .u64 z)=((z.natAbs:Nat):Int):=by rw[IntKind.wrap_u64,IntKind.wrap_u64];omega
  rw[decide_eq_true hz,cond_true,h32,chk_true,e,key true _ (by omega),ZIy,if_pos rfl,show -((z.natAbs:Nat):Int)=z by omega]
 ·have e:IntKind.wrap .u64 z=((z.natAbs:Nat):Int):=by rw[IntKind.wrap_u64];omega
  rw[decide_eq_false hz,cond_false,h32,chk_true,e,key false _ (by omega),ZIy,if_neg (by decide),show ((z.natAbs:Nat):Int)=z by omega]
theorem ZDM:bg 0=⟨false,[]⟩:=by unfold bg;rw[show (0:Int).natAbs=0 from rfl,ZtF];rfl
theorem ZAS (x y:Int) (hy:y≠0) (hx1:Wl 50000 x) (hy1:Wl 50000 y):Zo8 (bg x) (bg y)=some (fOf (Rat.divInt x y)):=by
 unfold Zo8
 by_cases hx:x=0
 ·subst hx;rw[Rat.zero_divInt,ZqT,Zog,show (0:Int).natAbs=0 from rfl,ZtF,Zyk 1 (by decide) (by decide)];show some (ZnC.mk ⟨false,[]⟩ (bg 1))=some (fOf 0);rw[←ZDM];rfl
 ·have hx0:0 < x.natAbs:=by omega
  have hy0:0 < y.natAbs:=by omega
  have hg0:ZIe x.natAbs y.natAbs≠0:=fun e=>by have:=Nat.gcd_pos_of_pos_right x.natAbs hy0;omega
  have hgl:=ZA8 (x:=x.natAbs) hy0 hy1;have hxl:=ZAn (ZIe x.natAbs y.natAbs) hx1;have hyl:=ZAn (ZIe x.natAbs y.natAbs) hy1;have h:=ZwJ x y hy hx1 hy1;unfold ZoY at h;rw[ZqT,ZqT,Zy5 _ _ hx1 hy1,ZIy,Zyy _ _ hg0 hx1 hgl,ZIy]at h;dsimp only at h;rw[Zyy _ _ hg0 hy1 hgl,ZIy]at h;dsimp only at h;rw[ZtQ _ _ (by omega),ZIy,ZtQ _ _ (by omega),ZIy]at h;have hlen:=ZsI (n:=x.natAbs) (by omega);rw[←h,ZqT,ZqT,Zog,beq_eq_false_iff_ne.2 (by omega),cond_false,ZDG _ _ (by omega) (by omega) hx1 hy1,ZIy,ZBG _ _ hg0 hx1 hgl,ZIy];dsimp only;rw[ZBG _ _ hg0 hy1 hgl,ZIy];dsimp only;rw[ZAm _ (ZvP _) (by omega),ZIy,ZAm _ (ZvP _) (by omega),ZIy,Zth,Zth]
theorem ZCc (x y:Int) (hy:y≠0) (hx1:Wl 256 x) (hy1:Wl 256 y):Zqt (bg x) (bg y)=some (fOf (Rat.divInt x y),0):=by unfold Zqt ZqO;rw[Zx8,Zyc x hx1,ZIy,ZEN,cond_false,Zx8,Zyc y hy1,ZIy,ZEN,cond_false,ZxZ hy,cond_false,ZAS x y hy (ZIh hx1 (by decide)) (ZIh hy1 (by decide)),ZIy]
theorem ZES (x y:Int) (hy:y≠0) (h1: -9223372036854775808≤x) (h2:x≤9223372036854775807) (h3: -9223372036854775808≤y) (h4:y≤9223372036854775807):Zp9 x y=some (fOf (Rat.divInt x y),0):=by unfold Zp9;rw[Zyk x h1 h2,ZIy,Zyk y h3 h4,ZIy,ZCc x y hy (ZGp h1 h2) (ZGp h3 h4),ZIy]
theorem ZBl (x y:Int) (hy:y≠0) (h1: -9223372036854775808≤x) (h2:x≤9223372036854775807) (h3: -9223372036854775808≤y) (h4:y≤9223372036854775807):Zqi x y=some (fOf (Rat.divInt x y)):=by unfold Zqi;rw[ZES x y hy h1 h2 h3 h4,ZIy]
theorem Zx4 (x:Int) (h1: -9223372036854775808≤x) (h2:x≤9223372036854775807):ZnY x=some (fOf (x:Rat)):=by unfold ZnY;rw[ZBl x 1 (by decide) h1 h2 (by decide) (by decide),ZIy,ZyD]
theorem ZEC {a b:Nat} (h:wd a=wd b):a=b:=by rw[←Zth a,←Zth b,h]
theorem Zzd (x y:Int) (hx:Wl 100000 x) (hy:Wl 100000 y):Zo3 (bg x) (bg y)=some (decide (x=y)):=by
 unfold Wl at hx hy;refine ZqS ?_;unfold Zo3 ZpY;rw[ZxI,ZxI,ZqT,ZqT,Zog,Zog]
 by_cases hs:decide (x < 0)=decide (y < 0)
 ·rw[hs,beq_self_eq_true,ZEN,cond_false]
  by_cases hl:(wd x.natAbs).length=(wd y.natAbs).length
  ·rw[hl,bne_self_eq_false,cond_false,ZnI];refine Zn6 (ZtG ZvQ (wd y.natAbs).length (by omega) (fun i (_:Unit)=>(iL (wd x.natAbs),((wd y.natAbs).length:Int),i,bg y)) (fun i _=>(wd x.natAbs).take i=(wd y.natAbs).take i)
    (Q:=fun r=>r= .ret false∧wd x.natAbs≠wd y.natAbs∨r= .brk ()∧wd x.natAbs=wd y.natAbs) () (by rw[List.take_zero,List.take_zero]) ?_ ?_) ?_
   ·rintro rec i ⟨⟩ hi hP ih;have hi2:i < (wd x.natAbs).length:=by omega
    unfold ZqX ZpC;dsimp only;rw[Zn9];refine⟨fun _=> ?_,fun h=>by have:=of_decide_eq_false h;omega⟩;rw[ZqT,ZtZ hi2,ZnI,ZnG,ZtZ hi,ZnI,ZnG,Zn9];refine⟨fun h=> ?_,fun h=> ?_⟩
    ·rw[ZnG];refine .inl ⟨rfl,fun e=> ?_⟩;have h1:(wd y.natAbs)[i]=(wd x.natAbs)[i]:=by simp only[e]
     rw[h1,bne_self_eq_false]at h;exact absurd h (by decide)
    ·rw[ZnJ];refine⟨ZnL (by omega),ih () ?_⟩;rw[bne_eq_false_iff_eq]at h;have h1:(wd y.natAbs)[i]=(wd x.natAbs)[i]:=by omega
     rw[ZH8 hi2,ZH8 hi,hP,h1]
   ·rintro rec ⟨⟩ hP;unfold ZqX ZpC;dsimp only;rw[Zn9];refine⟨fun h=>by have:=of_decide_eq_true h;omega,fun _=> ?_⟩;rw[ZnG];rw[ZH7,←hl,ZH7]at hP;exact .inr ⟨rfl,hP⟩
   ·rintro r (⟨rfl,h⟩ |⟨rfl,h⟩)
    ·exact ZnG.2 (decide_eq_false (fun e=>h (by rw[e]))).symm
    ·unfold Zru;have h1:=ZEC h;refine ZnG.2 (decide_eq_true ?_).symm
     by_cases hy0:y < 0
     ·have hx0:x < 0:=by rw[decide_eq_true hy0]at hs;exact of_decide_eq_true hs
      omega
     ·have hx0:¬x < 0:=by rw[decide_eq_false hy0]at hs;exact of_decide_eq_false hs
      omega
  ·have:(((wd x.natAbs).length:Int) != ((wd y.natAbs).length:Int))=true:=by rw[bne_iff_ne];omega
   rw[this,cond_true,ZnG];exact(decide_eq_false (fun e=>hl (by rw[e]))).symm
 ·rw[beq_eq_false_iff_ne.2 hs,Bool.not_false,cond_true,cond_true,ZnG];exact(decide_eq_false (fun e=>hs (by rw[e]))).symm
theorem Zxt (p q:Rat) (hp:Wq 256 p) (hq:Wq 256 q):ZnZ (fOf p) (fOf q)=some (decide (p=q)):=by
 have m:∀{x:Int},Wl 256 x→Wl 100000 x:=fun h=>ZIh h (by decide)
 unfold ZnZ ZqJ fOf;dsimp only;rw[Zzd _ _ (m hp.1) (m hq.1),ZIy]
 by_cases h1:p.num=q.num
 ·rw[decide_eq_true h1,cond_true,Zzd _ _ (m hp.2) (m hq.2),ZIy];congr 1
  by_cases h2:p.den=q.den
  ·rw[decide_eq_true (by omega),decide_eq_true (Rat.ext h1 h2)]
  ·rw[decide_eq_false (by omega),decide_eq_false (fun e=>h2 (by rw[e]))]
 ·rw[decide_eq_false h1,cond_false,decide_eq_false (fun e=>h1 (by rw[e]))]
end Go.Proofs
namespace Go.Proofs
open Go Eng
theorem ZyY {α:Type} {p q:Prop} [Decidable p] [Decidable q] (h:p↔q) (x y:α):(if p then x else y)=if q then x else y:=by
 by_cases hp:p
 ·rw[if_pos hp,if_pos (h.1 hp)]
 ·rw[if_neg hp,if_neg (fun hq=>hp (h.2 hq))]
def scR (l:Rl):Rat:=cR l*cR l / (uR l*vR l)
theorem ZEI {l:Rl} (hu:uR l≠0) (hv:vR l≠0) (h:cR l*cR l=uR l*vR l):scR l=1:=by unfold scR;rw[h];have:=ZBr hu hv;grind
def mv (k m:Rat) (p:Rat×Rat):Rat×Rat:=(p.1*k+m,p.2)
theorem ZyR (f:Rat×Rat→Rat) (k m:Rat) (l:Rl):sR (fun p=>f p*k+m) l=k*sR f l+(l.length:Rat)*m:=by have:=ZBi f (fun _=>m) k 1 l;rw[ZB6]at this;rw[←Rat.one_mul ((l.length:Rat)*m),←this];exact Zx2 (fun p _=>by grind)
theorem mv_u (k m:Rat) (l:Rl):uR (l.map (mv k m))=k*k*uR l:=by
 rw[ZEv,ZEv];unfold qR mv;rw[ZH0,ZAt,ZAt,ZyR (fun p=>p.1)];have e:sR (fun p=>(p.1*k+m)*(p.1*k+m)) l=(k*k)*sR (fun p=>p.1*p.1) l+1*sR (fun p=>p.1*(2*(k*m))+m*m) l:=by rw[←ZBi];exact Zx2 (fun p _=>by grind)
 rw[e,ZyR (fun p=>p.1)];grind
theorem ZB8 {a:Rat}:Zz9 (-a) 0= -Zz9 a 0:=by
 unfold Zz9;have e1:(-a < 0)↔(0 < a):=⟨fun h=>by grind,fun h=>by grind⟩;have e2:(0 < -a)↔(a < 0):=⟨fun h=>by grind,fun h=>by grind⟩;rw[ZyY e1,ZyY e2]
 by_cases h1:0 < a
 ·rw[if_pos h1,if_neg (by grind),if_pos h1]
 ·rw[if_neg h1]
  by_cases h2:a < 0
  ·rw[if_pos h2,if_pos h2];rfl
  ·rw[if_neg h2,if_neg h2,if_neg h1];rfl
theorem ZAw {k a:Rat} (h:0 < k):Zz9 (k*a) 0=Zz9 a 0:=by
 unfold Zz9;have e1:(k*a < 0)↔(a < 0):=⟨fun h1=>by
  rcases(Rat.le_total:(0:Rat)≤a∨a≤0)with h2 |h2
  ·have:=Rat.mul_nonneg (Rat.le_of_lt h) h2;grind
  ·by_cases h0:a=0
   ·rw[h0]at h1;grind
   ·grind,fun h1=>by have:=Rat.mul_pos h (show 0 < -a by grind);grind⟩
 have e2:(0 < k*a)↔(0 < a):=⟨fun h1=>by
  rcases(Rat.le_total:(0:Rat)≤a∨a≤0)with h2 |h2
  ·by_cases h0:a=0
   ·rw[h0]at h1;grind
   ·grind
  ·have:=Rat.mul_nonneg (Rat.le_of_lt h) (show 0≤ -a by grind);grind,fun h1=>Rat.mul_pos h h1⟩
 rw[ZyY e1,ZyY e2]
theorem ZBj {k a:Rat} (h:k < 0):Zz9 (k*a) 0= -Zz9 a 0:=by have:=ZAw (k:= -k) (a:=a) (by grind);rw[←this,←ZB8];congr 1;grind
end Go.Proofs
namespace Go.Proofs
open Go Eng
theorem ZCa {f g:Rat×Rat→Rat} {l:Rl} (h:∀p∈l,f p=g p):qR f l=qR g l:=by unfold qR;rw[Zx2 h,Zx2 (g:=fun p=>g p*g p) (fun p hp=>by rw[h p hp])]
def OnL (k m:Rat) (l:Rl):Prop:=∀p∈l,p.2=p.1*k+m
theorem ZEY {k m:Rat} {l:Rl} (h:OnL k m l):vR l=k*k*uR l:=by
 have e:uR (l.map (mv k m))=qR (fun p=>p.1*k+m) l:=by rw[ZEv];unfold qR mv;rw[ZH0,ZAt,ZAt]
 rw[vR_q,ZCa h,←e,mv_u]
theorem ZEZ {k m:Rat} {l:Rl} (h:OnL k m l):cR l=k*uR l:=by
 have e1:sR (fun p=>p.1*p.2) l=k*sR (fun p=>p.1*p.1) l+m*sR (fun p=>p.1) l:=by rw[←ZBi];exact Zx2 (fun p hp=>by rw[h p hp];grind)
 rw[cR_q,e1,Zx2 h,ZyR (fun p=>p.1),ZEv];unfold qR;grind
theorem ZC9 {k m:Rat} (hk:k≠0) {l:Rl} (h:OnL k m l):sqR l=if l.length < 3∨uR l=0 then (fOf 0,0,false)else (fOf 1,(if k < 0 then -1 else 1),true):=by
 have hv:=ZEY h;have hc:=ZEZ h;have hkk:=ZBr hk hk;have e:vR l=0↔uR l=0:=by rw[hv];exact⟨fun h=>(Rat.mul_eq_zero.1 h).resolve_left hkk,fun h=>by rw[h,Rat.mul_zero]⟩
 unfold sqR;rw[ZyY (q:=l.length < 3∨uR l=0) (or_congr Iff.rfl (by rw[e,or_self]))]
 by_cases h0:l.length < 3∨uR l=0
 ·rw[if_pos h0,if_pos h0]
 ·have hu:uR l≠0:=fun e=>h0 (.inr e)
  have h1:scR l=1:=ZEI hu (fun h=>hu (e.1 h)) (by rw[hc,hv];grind);unfold scR at h1;rw[if_neg h0,if_neg h0,h1];have hup:=ZEO (ZB0 l) hu;congr 2;have e1:Zz9 (uR l) 0=1:=by unfold Zz9;rw[if_neg (by grind),if_pos hup]
  by_cases hn:k < 0
  ·rw[if_pos hn,hc,ZBj hn,e1]
  ·rw[if_neg hn,hc,ZAw (by grind),e1]
theorem ZEE {l:Rl} (h:uR l=0):∀p∈l,∀q∈l,p.1=q.1:=by rw[ZEv]at h;exact ZDl _ l h
end Go.Proofs
namespace Go.Proofs
open Go Eng
theorem ZDz:ZnY 1=some (fOf 1):=Zx4 1 (by decide) (by decide)
theorem ZCt:Sz 1 1:=by unfold Sz;decide
def ln:Rl:=[(1,2),(2,4),(3,6)]
theorem ZDt:Zqu=some (ln.map fP):=by unfold Zqu;rw[Zx4 1 (by decide) (by decide),ZIy,Zx4 2 (by decide) (by decide),ZIy,ZIy,Zx4 4 (by decide) (by decide),ZIy,Zx4 3 (by decide) (by decide),ZIy,Zx4 6 (by decide) (by decide),ZIy];rfl
theorem ZBL:Zpk=some true:=by
 have hz:SzL 5 ln:=fun p hp=>by simp only[ln,ZH4,ZH6,or_false]at hp;rcases hp with rfl |rfl |rfl<;>exact⟨by unfold Sz;decide,by unfold Sz;decide⟩
 have hu:uR ln≠0:=fun h=>absurd (ZEE h (1,2) (by simp[ln]) (2,4) (by simp[ln])) (by decide)
 have hs:sqR ln=(fOf 1,1,true):=by
  rw[ZC9 (k:=2) (m:=0) (by decide) (fun p hp=>by simp only[ln,ZH4,ZH6,or_false]at hp;rcases hp with rfl |rfl |rfl<;>grind),if_neg (fun h=>h.elim (by decide) hu)]
  rfl
 unfold Zpk Zpu;rw[ZDt,ZIy,ZCn (by decide) (by decide) hz,ZIy,ZBd (by decide) (by decide) hz,hs,ZIy];dsimp only;rw[cond_true,show ((1:Int) == 1)=true from rfl,cond_true,ZDz,ZIy,Zxt _ _ (ZCt.wq (by decide)) (ZCt.wq (by decide)),ZIy];rfl
end Go.Proofs
namespace Go.Proofs
open Go Eng
section
variable {α:Type} (lt:α→α→Bool)
def ZCB (x:α):List α→List α
 | []=>[x]
 |p::r=>if lt x p then p::ZCB x r else x::p::r
def Zy9 (x:α) (A:List α):List α:=(ZCB lt x A.reverse).reverse
def Zvt (l:List α):List α:=l.foldl (fun s x=>Zy9 lt x s) []
variable {lt}
theorem ZAJ (x:α):Zy9 lt x []=[x]:=rfl
theorem ZzZ (x p:α) (A:List α):Zy9 lt x (A++[p])=if lt x p then Zy9 lt x A++[p]else A++[p,x]:=by unfold Zy9;rw[List.reverse_append,List.reverse_singleton,List.singleton_append,ZCB];split;rotate_left;simp;rw[List.reverse_cons]
theorem Zy0 (x:α):∀l:List α,(ZCB lt x l).Perm (x::l)
 | []=> .refl _
 |p::r=>by
  unfold ZCB;split
  ·exact((Zy0 x r).cons p).trans (.swap _ _ _)
  ·exact .refl _
theorem Zz0 (x:α) (A:List α):(Zy9 lt x A).Perm (A++[x]):=by unfold Zy9;refine(List.reverse_perm _).trans ((Zy0 x _).trans ?_);refine(List.Perm.cons x (List.reverse_perm A)).trans ?_;exact(List.perm_append_singleton x A).symm
theorem Zzi (l:List α) (x:α):Zvt lt (l++[x])=Zy9 lt x (Zvt lt l):=by simp[Zvt]
theorem Zxx (l:List α):(Zvt lt l).Perm l:=by
 have key:∀(l s:List α),(l.foldl (fun s x=>Zy9 lt x s) s).Perm (s++l):=by
  intro l
  induction l with
  |nil=>intro s;simp
  |cons x l ih=>
   intro s;refine(ih _).trans ?_;refine((Zz0 x s).append_right l).trans ?_;simp
 simpa[Zvt]using key l []
theorem ZsS (l:List α):(Zvt lt l).length=l.length:=(Zxx l).length_eq
theorem ZyZ (P:α→Prop) (le:α→α→Prop) (hlt:∀x p,P x→P p→lt x p=true→le x p) (hnlt:∀x p,P x→P p→lt x p=false→le p x) (htr:∀a b c,P a→P b→P c→le a b→le b c→le a c)
  (x:α) (hx:P x):∀l:List α,(∀y∈l,P y)→l.Pairwise (fun a b=>le b a)→(ZCB lt x l).Pairwise (fun a b=>le b a)
 | [],_,_=>by simp[ZCB]
 |p::r,hP,h=>by
  have hp:=hP p (by simp);have hr:=List.pairwise_cons.1 h;unfold ZCB;cases hc:lt x p with
  |true=>
   rw[if_pos rfl,List.pairwise_cons];refine⟨fun y hy=> ?_,ZyZ P le hlt hnlt htr x hx r (fun y hy=>hP y (by simp[hy])) hr.2⟩;rcases ZH4.1 ((Zy0 x r).mem_iff.1 hy)with rfl |hy
   ·exact hlt _ _ hx hp hc
   ·exact hr.1 y hy
  |false=>
   rw[if_neg (by simp),List.pairwise_cons];refine⟨fun y hy=> ?_,h⟩;have hxp:=hnlt x p hx hp hc;rcases ZH4.1 hy with rfl |hy
   ·exact hxp
   ·exact htr _ _ _ (hP y (by simp[hy])) hp hx (hr.1 y hy) hxp
theorem ZzY (P:α→Prop) (le:α→α→Prop) (hlt:∀x p,P x→P p→lt x p=true→le x p) (hnlt:∀x p,P x→P p→lt x p=false→le p x) (htr:∀a b c,P a→P b→P c→le a b→le b c→le a c)
  (l:List α) (hl:∀y∈l,P y):(Zvt lt l).Pairwise le:=by
 have key:∀(l s:List α),(∀y∈l,P y)→(∀y∈s,P y)→s.Pairwise le→(l.foldl (fun s x=>Zy9 lt x s) s).Pairwise le:=by
  intro l
  induction l with
  |nil=>intro s _ _ h;exact h
  |cons x l ih=>
   intro s hl hs h;refine ih _ (fun y hy=>hl y (by simp[hy])) (fun y hy=> ?_) ?_
   ·rcases ZH3.1 ((Zz0 x s).mem_iff.1 hy)with hy |hy
    ·exact hs y hy
    ·simp only[ZH5]at hy;subst hy;exact hl _ (by simp)
   ·unfold Zy9;rw[List.pairwise_reverse];exact ZyZ P le hlt hnlt htr x (hl x (by simp)) s.reverse (fun y hy=>hs y (List.mem_reverse.1 hy)) (by rw[List.pairwise_reverse];exact h)
 exact key l [] hl (by simp) (by simp)
end
theorem ZzK {α:Type} (A C:List α) (p x:α):((A++p::x::C).set (A.length+1) p).set A.length x=A++x::p::C:=by
 induction A with
 |nil=>rfl
 |cons a A ih=>simp only[List.cons_append,ZHZ,List.set_cons_succ,ih]
end Go.Proofs
namespace Go.Proofs
open Go Eng
def ZGV (h:Int) (c:UInt8):Int:=IntKind.wrap .u64 ((xorK .u64 h (IntKind.wrap .u64 ((c.toNat:Nat):Int)))*1099511628211)
def Zz2 (s:Str):Int:=s.foldl ZGV 14695981039346656037
theorem ZDC {s:Str} (hs:s.length≤1000000):ZvG s=some (Zz2 s):=by
 refine ZqS ?_;unfold ZvG;rw[ZnI];refine Zn6 (Zyl Zyh s (by omega) (fun i (h:Int)=>(s,h,(s.length:Int),i)) (fun k h=>h=Zz2 (s.take k)) (Q:=fun x=>x=Zz2 s) 14695981039346656037 rfl ?_ ?_) ?_
 ·rintro rec k h hk rfl ih;unfold ZvF Zud;dsimp only;rw[decide_eq_true (show (k:Int) < (s.length:Int) by omega),cond_true,Zxo hk,ZnI,ZnG,ZnJ];refine⟨ZnL (by omega),ih _ ?_⟩;rw[ZH8 hk];unfold Zz2;rw[ZHS];rfl
 ·rintro rec h rfl;unfold ZvF Zud;dsimp only;rw[decide_eq_false (show ¬(s.length:Int) < (s.length:Int) by omega),cond_false,ZnG,ZH7]
 ·rintro _ rfl;unfold Zwm;rw[ZnG]
theorem ZzA:∀a:List UInt8,Lib.compareBytes a a=0
 | []=>rfl
 |x::a=>by unfold Lib.compareBytes;rw[if_neg (UInt8.lt_irrefl x),if_neg (UInt8.lt_irrefl x),ZzA a]
theorem ZyF:∀{a b:List UInt8},Lib.compareBytes a b=0→a=b
 | [],[],_=>rfl
 | [],_::_,h=>by simp[Lib.compareBytes]at h
 |_::_,[],h=>by simp[Lib.compareBytes]at h
 |x::a,y::b,h=>by
  unfold Lib.compareBytes at h;split at h
  ·simp at h
  ·rename_i h1;split at h
   ·simp at h
   ·rename_i h2;have:x=y:=UInt8.le_antisymm (ZIz.1 h2) (ZIz.1 h1);rw[this,ZyF h]
theorem ZCE:∀a b:List UInt8,Lib.compareBytes b a= - Lib.compareBytes a b
 | [],[]=>by simp[Lib.compareBytes]
 | [],_::_=>by simp[Lib.compareBytes]
 |_::_,[]=>by simp[Lib.compareBytes]
 |x::a,y::b=>by
  unfold Lib.compareBytes
  by_cases h1:x < y
  ·rw[if_pos h1,if_neg (fun h=>UInt8.lt_asymm h1 h),if_pos h1];rfl
  ·by_cases h2:y < x
   ·rw[if_pos h2,if_neg h1,if_pos h2]
   ·rw[if_neg h1,if_neg h2,if_neg h2,if_neg h1,ZCE a b]
theorem ZAM:∀{a b c:List UInt8},Lib.compareBytes a b < 0→Lib.compareBytes b c < 0→Lib.compareBytes a c < 0
 | [],[],_,h,_=>by simp[Lib.compareBytes]at h
 | [],_::_,[],_,h=>by simp[Lib.compareBytes]at h
 | [],_::_,_::_,_,_=>by simp[Lib.compareBytes]
 |_::_,[],_,h,_=>by simp[Lib.compareBytes]at h
 |_::_,_::_,[],_,h=>by simp[Lib.compareBytes]at h
 |x::a,y::b,z::c,h1,h2=>by
  unfold Lib.compareBytes at h1 h2⊢
  by_cases hxy:x < y
  ·by_cases hyz:y < z
   ·rw[if_pos (UInt8.lt_trans hxy hyz)];decide
   ·rw[if_neg hyz]at h2
    by_cases hzy:z < y
    ·rw[if_pos hzy]at h2;simp at h2
    ·have:y=z:=UInt8.le_antisymm (ZIz.1 hzy) (ZIz.1 hyz);subst this;rw[if_pos hxy];decide
  ·rw[if_neg hxy]at h1
   by_cases hyx:y < x
   ·rw[if_pos hyx]at h1;simp at h1
   ·have:x=y:=UInt8.le_antisymm (ZIz.1 hyx) (ZIz.1 hxy);subst this;rw[if_neg (UInt8.lt_irrefl x)]at h1
    by_cases hyz:x < z
    ·rw[if_pos hyz];decide
    ·rw[if_neg hyz]at h2⊢
     by_cases hzy:z < x
     ·rw[if_pos hzy]at h2;simp at h2
     ·rw[if_neg hzy]at h2⊢
      exact ZAM h1 h2
def ZGv (a b:ZnA):Int:=if a.Hash < b.Hash then -1 else if a.Hash > b.Hash then 1 else Lib.compareBytes a.Key b.Key
theorem ZBm (a b:Int):Zwc [a,b]=some (if a≠0 then a else b):=by
 obtain⟨n,hn⟩:=ZzB 3 (by omega);have e0:idx [a,b] 0=some a:=rfl;have e1:idx [a,b] 1=some b:=rfl;have l:((([a,b]:List Int).length:Nat):Int)=2:=rfl;have s1:∀rec,Zq6 rec 0 [a,b] 2 0=if a≠0 then some (.ret a)else rec 0 [a,b] 2 1:=by
  intro rec;unfold Zq6;rw[e0,show decide ((0:Int) < 2)=true from rfl,cond_true,ZIy]
  by_cases h:a=0
  ·rw[if_neg (by simp[h]),show (a != 0)=false by simp[h],cond_false];rfl
  ·rw[if_pos h,show (a != 0)=true by simpa using h,cond_true]
 have s2:∀rec,Zq6 rec 0 [a,b] 2 1=if b≠0 then some (.ret b)else rec 0 [a,b] 2 2:=by
  intro rec;unfold Zq6;rw[e1,show decide ((1:Int) < 2)=true from rfl,cond_true,ZIy]
  by_cases h:b=0
  ·rw[if_neg (by simp[h]),show (b != 0)=false by simp[h],cond_false];rfl
  ·rw[if_pos h,show (b != 0)=true by simpa using h,cond_true]
 have s3:∀rec,Zq6 rec 0 [a,b] 2 2=some (.brk 0):=fun rec=>rfl
 have u:∀m t i,ZuI (m+1) 0 [a,b] t i=Zq6 (ZuI m) 0 [a,b] t i:=fun _ _ _=>rfl
 unfold Zwc ZwY;rw[hn,l,u (n+2),s1]
 by_cases h:a=0
 ·rw[if_neg (by simp[h]),if_neg (by simp[h]),u (n+1),s2]
  by_cases h2:b=0
  ·rw[if_neg (by simp[h2]),u n,s3,h2];rfl
  ·rw[if_pos h2];rfl
 ·rw[if_pos h,if_pos h];rfl
theorem ZCb (a b:ZnA):Zve a b=some (ZGv a b):=by
 unfold Zve Ztn ZsR ZrX ZoK ZGv;simp only[bne_self_eq_false,ZIy,cond_false]
 by_cases h1:a.Hash < b.Hash
 ·rw[decide_eq_true h1,cond_true,ZIy,ZBm,if_pos h1,if_pos (by decide)];rfl
 ·by_cases h2:a.Hash > b.Hash
  ·rw[decide_eq_false h1,cond_false,decide_eq_true h2,cond_true,ZIy,ZBm,if_neg h1,if_pos h2,if_pos (by decide)];rfl
  ·rw[decide_eq_false h1,cond_false,decide_eq_false h2,cond_false,ZIy,ZBm,if_neg h1,if_neg h2,if_neg (by decide)];rfl
def ZFx (a:ZnA):Prop:=a.Hash=Zz2 a.Key
def ltE (a b:ZnA):Bool:=decide (ZGv a b < 0)
end Go.Proofs
namespace Go.Proofs
open Go Eng
theorem Zx1 {x y:Int} (hy:y≠0) (h1:x.natAbs < 16) (h2:y.natAbs < 16):Sz 4 (Rat.divInt x y):=Zxs (k:=4) hy h1 h2
theorem ZG4:Zrr [48]=ZsN false [] [1] false false [] []:=by kernel_rfl
theorem dec0:Zrr [48]=some (fOf (Rat.divInt 0 1),true):=by
 rw[ZG4];unfold ZsN;have e0:iL (wd 0)=[]:=by kernel_rfl
 have e1:iL (wd 1)=[1]:=by kernel_rfl
 have l0:Nat.ble (wd 0).length 50000=true:=by kernel_rfl
 have l1:Nat.ble (wd 1).length 50000=true:=by kernel_rfl
 have w0:=Nat.le_of_ble_eq_true l0;have w1:=Nat.le_of_ble_eq_true l1;have h1:=ZtQ false 0 (by omega);have h2:=ZtQ false 1 (by omega);rw[e0]at h1;rw[e1]at h2;rw[h1,ZIy,h2,ZIy];have:=ZwJ 0 1 (by decide) w0 w1;simp only[Bool.false_eq_true,if_false];rw[show ((0:Nat):Int)=0 from rfl,show ((1:Nat):Int)=1 from rfl,this,ZIy]
theorem can0:Ztp 4 [48]=some ([48],true):=by
 have h:Ztp 4 [48]=(Zul [48]).bind fun(a,b)=>some (a,b):=by kernel_rfl
 rw[h];unfold Zul;rw[dec0];show _=_
 kernel_rfl
theorem valZ:Zpe (ZnF.mk false [48])=some (fOf (Rat.divInt 0 1),true):=by
 unfold Zpe Zwx;rw[can0];dsimp only;rw[cond_false,ZIy];dsimp only;rw[ZEN,cond_false,dec0];show _=_
 kernel_rfl
def ZEy:List (Str×Int):=[([45,51], -3),([45,50], -2),([45,49], -1),([49],1),([50],2),([51],3),([52],4),([53],5),([54],6),([55],7),([56],8),([49,48],10)]
def ZA0:List (Str×Int):=[([45,49,46,53], -3),([49,46,53,48],3)]
def noT:List Str:=[[97],[98],[99],[100],[120],[],[49,46,50,46,51],[107,48],[107,49],[107,50],[107,51],[107,52],[107,53],[107,54],[107,55],[107,56],[107,57],[107,49,48],[107,49,49],[107,49,50],[107,49,51]]
def fx (n:Int) (d:Int):ZnC:=⟨⟨decide (n < 0),if n=0 then []else [(n.natAbs:Int)]⟩,⟨false,[d]⟩⟩
theorem ZBp:(ZEy.all fun p=>decide (Zpe (ZnF.mk false p.1)=some (fx p.2 1,true)))=true:=by kernel_rfl
theorem ZAK:(ZA0.all fun p=>decide (Zpe (ZnF.mk false p.1)=some (fx p.2 2,true)))=true:=by kernel_rfl
theorem ZCx:(noT.all fun s=>match Zpe (ZnF.mk false s)with |some (_,false)=>true |_=>false)=true:=by kernel_rfl
theorem ZCC:(ZEy.all fun p=>decide (fx p.2 1=fOf (Rat.divInt p.2 1))&&decide (p.2.natAbs < 16))=true:=by kernel_rfl
theorem ZBF:(ZA0.all fun p=>decide (fx p.2 2=fOf (Rat.divInt p.2 2))&&decide (p.2.natAbs < 16))=true:=by kernel_rfl
def Zy8:List Str:=[48]::(ZEy.map (·.1)++ZA0.map (·.1)++noT)
def Zw9 (c:ZnF):Prop:=c=ZnF.mk true []∨∃s∈Zy8,c=ZnF.mk false s
theorem ZAp {c:ZnF} (h:Zw9 c):(∃q,Zpe c=some (fOf q,true)∧Sz 4 q)∨(∃f,Zpe c=some (f,false)):=by
 rcases h with rfl |⟨s,hs,rfl⟩
 ·refine .inr ⟨fOf 0, ?_⟩;unfold Zpe;dsimp only;rw[cond_true,Zyx];rfl
 ·rcases ZH4.1 hs with rfl |hs
  ·exact .inl ⟨_,valZ,Zx1 (by decide) (by decide) (by decide)⟩
  ·rcases ZH3.1 hs with hs |hs
   ·rcases ZH3.1 hs with hs |hs
    ·obtain⟨p,hp,rfl⟩:=List.mem_map.1 hs;have h1:=of_decide_eq_true (ZHR.1 ZBp p hp);have h2:=ZHR.1 ZCC p hp;simp only[Bool.and_eq_true,decide_eq_true_eq]at h2;rw[h2.1]at h1;exact .inl ⟨_,h1,Zx1 (by decide) h2.2 (by decide)⟩
    ·obtain⟨p,hp,rfl⟩:=List.mem_map.1 hs;have h1:=of_decide_eq_true (ZHR.1 ZAK p hp);have h2:=ZHR.1 ZBF p hp;simp only[Bool.and_eq_true,decide_eq_true_eq]at h2;rw[h2.1]at h1;exact .inl ⟨_,h1,Zx1 (by decide) h2.2 (by decide)⟩
   ·have h1:=ZHR.1 ZCx s hs;split at h1;rotate_left;simp at h1;rename_i f hf;exact .inr ⟨f,hf⟩
open Classical in
noncomputable def nv (c:ZnF):Option Rat:=if h:∃q,Zpe c=some (fOf q,true)∧Sz 4 q then some h.choose else none
theorem Zyz {c:ZnF} {q:Rat} (h:nv c=some q):Zpe c=some (fOf q,true)∧Sz 4 q:=by unfold nv at h;split at h;rotate_left;simp at h;rename_i hx;obtain rfl:=Option.some.inj h;exact hx.choose_spec
theorem ZDo {c:ZnF} (hc:Zw9 c) (h:nv c=none):∃f,Zpe c=some (f,false):=by
 unfold nv at h;split at h
 ·simp at h
 ·rename_i hx;exact(ZAp hc).resolve_left hx
theorem Zzr {d:ZnH} (hd:Zw8 d) {l:List Str} (h0:1≤l.length) (h1:l.length≤1000):wp (Zod d l) (fun r=>r.1∈l∧Zw8 r.2):=by
 unfold Zod;rw[ZnI];refine Zn6 (Zyj hd (by omega)) fun⟨q,d1⟩ ⟨hq,hd1⟩=> ?_
 dsimp only at hq hd1⊢
 rw[ZnI,ZCq];refine⟨hq.1,by omega, ?_⟩;rw[ZnG];exact⟨List.getElem_mem _,hd1⟩
theorem ZzI:([([97]:Str),([98]:Str),([99]:Str),([49]:Str),([50]:Str),([51]:Str),([49,48]:Str),([120]:Str),([45,49,46,53]:Str),([50]:Str),[100],[],([49,46,50,46,51]:Str),([49,46,53,48]:Str)]:List Str).all (fun s=>Zy8.contains s)=true:=by kernel_rfl
theorem Zzb:(((List.range 12).map fun i:Nat=>Lib.itoa ((i:Int) - 3))++(List.range 14).map fun i:Nat=>([107]:Str)++Lib.itoa (i:Int)).all (fun s=>Zy8.contains s)=true:=by kernel_rfl
theorem Zyt {s:Str} (h:Zy8.contains s=true):Zw9 (ZnF.mk false s):= .inr ⟨s,List.contains_iff_mem.1 h,rfl⟩
theorem ZDK {d:ZnH} (hd:Zw8 d):wp (Zrl d) (fun r=>Zw9 r.1∧Zw8 r.2):=by
 unfold Zrl;rw[ZnI];refine Zn6 (Zyj hd (by omega)) fun⟨q,d1⟩ ⟨hq,hd1⟩=> ?_
 dsimp only at hq hd1⊢
 rw[Zn9];refine⟨fun _=> ?_,fun _=> ?_⟩
 ·rw[ZnG];exact⟨.inl rfl,hd1⟩
 ·rw[ZnI];refine Zn6 (Zzr hd1 (by decide) (by decide)) fun⟨s,d2⟩ ⟨hs,hd2⟩=> ?_
  dsimp only at hs hd2⊢
  rw[ZnG];refine⟨Zyt (ZHR.1 ZzI s ?_),hd2⟩;simp only[ZH4,ZH6,or_false]at hs⊢
  rcases hs with h |h |h |h |h |h |h |h |h |h<;>simp[h]
theorem ZAX {n:Int} (h: -3≤n∧n≤8):Zy8.contains (Lib.itoa n)=true:=by refine ZHR.1 Zzb _ (List.mem_append_left _ (List.mem_map.2 ⟨(n+3).toNat,List.mem_range.2 (by omega), ?_⟩));rw[show (((n+3).toNat:Nat):Int) - 3=n by omega]
theorem ZDx {n:Int} (h:0≤n∧n < 14):Zy8.contains (([107]:Str)++Lib.itoa n)=true:=by refine ZHR.1 Zzb _ (List.mem_append_right _ (List.mem_map.2 ⟨n.toNat,List.mem_range.2 (by omega), ?_⟩));rw[show ((n.toNat:Nat):Int)=n by omega]
theorem ZBo {d:ZnH} (hd:Zw8 d):wp (Zqv d) (fun r=>Zw9 r.1∧Zw8 r.2):=by
 unfold Zqv;rw[ZnI];refine Zn6 (Zyj hd (by omega)) fun⟨q,d1⟩ ⟨hq,hd1⟩=> ?_
 dsimp only at hq hd1⊢
 rw[Zn9];refine⟨fun _=> ?_,fun _=> ?_⟩
 ·rw[ZnG];exact⟨.inl rfl,hd1⟩
 rw[Zn9];refine⟨fun _=> ?_,fun _=> ?_⟩
 ·rw[ZnI];refine Zn6 (Zzr hd1 (by decide) (by decide)) fun⟨s,d2⟩ ⟨hs,hd2⟩=> ?_
  dsimp only at hs hd2⊢
  rw[ZnG];refine⟨Zyt (ZHR.1 ZzI s ?_),hd2⟩;simp only[ZH4,ZH6,or_false]at hs⊢
  rcases hs with h |h |h |h<;>simp[h]
 ·rw[ZnI];refine Zn6 (Zyj hd1 (by omega)) fun⟨q,d2⟩ ⟨hq,hd2⟩=> ?_
  dsimp only at hq hd2⊢
  unfold Zt0;rw[ZnJ,ZnI,ZnG,ZnG];exact⟨ZnL (by omega),Zyt (ZAX (by omega)),hd2⟩
theorem abcd:([([97]:Str),([98]:Str),([99]:Str),([100]:Str)]:List Str).all (fun s=>Zy8.contains s)=true:=by kernel_rfl
theorem ZAY {n:Int} (h:0≤n∧n < 14):(Lib.itoa n).length≤2:=by
 have h1:((List.range 14).all fun i:Nat=>decide ((Lib.itoa (i:Int)).length≤2))=true:=by kernel_rfl
 have:=of_decide_eq_true (ZHR.1 h1 n.toNat (List.mem_range.2 (by omega)))
 rwa [show ((n.toNat:Nat):Int)=n by omega]at this
theorem Zyw {d:ZnH} (hd:Zw8 d) (rows:Nat) (hr:rows≤14):
  wp (ZoG d (rows:Int)) (fun r=>(r.1.Cells.length=rows∧∀c∈r.1.Cells,Zw9 c)∧Zw8 r.2):=by
 unfold ZoG;rw[ZnI];refine Zn6 (Zzr hd (by decide) (by decide)) fun⟨nm,d1⟩ ⟨_,hd1⟩=> ?_
 dsimp only at hd1⊢
 rw[ZnI];refine Zn6 (Zyj hd1 (by omega)) fun⟨kind,d2⟩ ⟨_,hd2⟩=> ?_
 dsimp only at hd2⊢
 rw[ZnI];refine Zn6 (ZtG Zwk rows (by omega) (fun i (t:ZnH×List ZnF)=>(kind,(rows:Int),i,t.1,([]:Str),nm,([]:List ZnF),t.2))
  (fun k t=>Zw8 t.1∧t.2.length=k∧∀c∈t.2,Zw9 c) (Q:=fun x=>Zw8 x.1∧x.2.2.2.2.length=rows∧∀c∈x.2.2.2.2,Zw9 c) (d2,[]) ⟨hd2,rfl,fun c hc=>absurd hc (by simp)⟩ ?_ ?_) ?_
 ·rintro rec k ⟨d,cs⟩ hk ⟨hd,hlen,hcs⟩ ih;dsimp only at hd hlen hcs ih;have next:∀(x:ZnF) (d':ZnH),Zw9 x→Zw8 d'→wp (Zox (fun kind t15 i d t4 c t4_1 c_1=>rec (kind,t15,i,d,t4,c,t4_1,c_1)) kind (rows:Int) (k:Int) d' [] nm x [] cs) (fun x=>Zw8 x.1∧x.2.2.2.2.length=rows∧∀c∈x.2.2.2.2,Zw9 c):=by
   intro x d' hx hd';unfold Zox;rw[ZnJ,ZnJ];refine⟨ZwZ (by rw[ZH1];omega),ZnL (by omega),ih (d',cs++[x]) ⟨hd',by dsimp only;rw[ZHY,ZH1];omega,fun c hc=> ?_⟩⟩;rcases ZH3.1 hc with hc |hc
   ·exact hcs c hc
   ·obtain rfl:=ZH5.1 hc;exact hx
  unfold ZrR Zqh;dsimp only;rw[decide_eq_true (show (k:Int) < (rows:Int) by omega),cond_true,ZnI];refine Zn6 (ZDK hd) fun⟨x,d3⟩ ⟨hx,hd3⟩=> ?_
  dsimp only at hx hd3⊢
  rw[Zn9];refine⟨fun _=> ?_,fun _=> ?_⟩
  ·rw[ZnI];exact Zn6 (ZBo hd3) fun⟨y,d4⟩ ⟨hy,hd4⟩=>next y d4 hy hd4
  rw[Zn9];refine⟨fun _=> ?_,fun _=> ?_⟩
  ·unfold Zt0;have:=ZAY (n:=(k:Int)) (by omega);rw[ZnI,ZnG,ZnJ];exact⟨decide_eq_true (by rw[ZH1];unfold Zq;omega),next _ d3 (Zyt (ZDx (by omega))) hd3⟩
  rw[Zn9];refine⟨fun _=> ?_,fun _=> ?_⟩
  ·rw[ZnI];exact Zn6 (Zzr hd3 (by decide) (by decide)) fun⟨s,d4⟩ ⟨hs,hd4⟩=>next _ d4 (Zyt (ZHR.1 abcd s hs)) hd4
  ·exact next x d3 hx hd3
 ·rintro rec ⟨d,cs⟩ ⟨hd,hlen,hcs⟩;unfold ZrR Zqh;dsimp only at hd hlen hcs⊢
  rw[decide_eq_false (show ¬(rows:Int) < (rows:Int) by omega),cond_false,ZnG];exact⟨hd,hlen,hcs⟩
 ·rintro⟨d,_,_,_,cs⟩ ⟨h1,h2,h3⟩;unfold ZsC;dsimp only at h1 h2 h3⊢
  rw[ZnG];exact⟨⟨h2,h3⟩,h1⟩
end Go.Proofs
namespace Go.Proofs
open Go Eng
noncomputable def ZxN (p:ZnF×ZnF):Option (Str×Rat):=if p.1.Null then none else (nv p.2).map fun q=>(p.1.Text,q)
noncomputable def ZtP (K V:List ZnF):List (Str×Rat):=(K.zip V).filterMap ZxN
def Zxh (ks:List Str) (r:Str×Rat):List Str:=if r.1∈ks then ks else ks++[r.1]
def Zx7 (R:List (Str×Rat)):List Str:=R.foldl Zxh []
def cnt (R:List (Str×Rat)) (k:Str):Nat:=R.countP fun r=>r.1 == k
def ZyH (k:Str) (s:Rat) (r:Str×Rat):Rat:=if r.1=k then s+r.2 else s
def sm (R:List (Str×Rat)) (k:Str):Rat:=R.foldl (ZyH k) 0
def En (R:List (Str×Rat)) (k:Str):ZnA:=⟨k,Zz2 k,(cnt R k:Int),fOf (sm R k)⟩
theorem ZyW (R:List (Str×Rat)) (r:Str×Rat):Zx7 (R++[r])=Zxh (Zx7 R) r:=by unfold Zx7;rw[ZHS];rfl
theorem ZBe (R:List (Str×Rat)) (r:Str×Rat) (k:Str):sm (R++[r]) k=ZyH k (sm R k) r:=by unfold sm;rw[ZHS];rfl
theorem ZAL (R:List (Str×Rat)) (r:Str×Rat) (k:Str):cnt (R++[r]) k=cnt R k+if r.1=k then 1 else 0:=by
 unfold cnt;rw[List.countP_append,List.countP_singleton]
 by_cases h:r.1=k
 ·rw[if_pos h,if_pos (by simpa using h)]
 ·rw[if_neg h,if_neg (by simpa using h)]
theorem Zzw {ks:List Str} (h:ks.Nodup) (r:Str×Rat):(Zxh ks r).Nodup:=by
 unfold Zxh;split
 ·exact h
 ·rename_i hn;rw[List.nodup_append];refine⟨h,by simp,fun a ha b hb=> ?_⟩;obtain rfl:=ZH5.1 hb;rintro rfl;exact hn ha
theorem Zyr:∀(R:List (Str×Rat)) (ks:List Str),ks.Nodup→(R.foldl Zxh ks).Nodup
 | [],_,h=>h
 |r::R,ks,h=>by rw[ZHT];exact Zyr R _ (Zzw h r)
theorem Zzh (R:List (Str×Rat)):(Zx7 R).Nodup:=Zyr R [] List.nodup_nil
theorem ZAR {ks:List Str} {r:Str×Rat} {k:Str}:k∈Zxh ks r↔k∈ks∨k=r.1:=by
 unfold Zxh;split;rotate_left;simp;rename_i h;constructor
 ·exact .inl
 ·rintro(h1 |rfl)
  ·exact h1
  ·exact h
theorem ZyU:∀(R:List (Str×Rat)) (ks:List Str) (k:Str),k∈R.foldl Zxh ks↔k∈ks∨∃r∈R,k=r.1
 | [],_,k=>by simp
 |r::R,ks,k=>by rw[ZHT,ZyU R _ k,ZAR];simp only[ZH4,exists_eq_or_imp,or_assoc]
theorem ZAE {R:List (Str×Rat)} {k:Str}:k∈Zx7 R↔∃r∈R,k=r.1:=by unfold Zx7;rw[ZyU];simp
theorem ZyV:∀(R:List (Str×Rat)) (ks:List Str),(R.foldl Zxh ks).length≤ks.length+R.length
 | [],_=>by simp
 |r::R,ks=>by
  rw[ZHT];refine ZIh (ZyV R _) ?_;unfold Zxh;split
  ·rw[ZHZ];omega
  ·rw[ZHZ,ZHY,ZH1];omega
theorem Zzx (R:List (Str×Rat)):(Zx7 R).length≤R.length:=by have:=ZyV R [];unfold Zx7;simpa using this
theorem ZGH {R:List (Str×Rat)} (h:∀r∈R,Sz 4 r.2) (k:Str):∀(s:Rat) (n:Nat),Sz (5*n+1) s→Sz (5*(n+R.length)+1) (R.foldl (ZyH k) s):=by
 induction R with
 |nil=>intro s n hs;exact hs
 |cons r R ih=>
  intro s n hs;rw[ZHT,ZHZ,show n+(R.length+1)=(n+1)+R.length by omega];refine ih (fun r hr=>h r (by simp[hr])) _ (n+1) ?_;unfold ZyH;split
  ·exact(hs.add (h r (by simp))).mono (by omega)
  ·exact hs.mono (by omega)
theorem ZCv {R:List (Str×Rat)} (h:∀r∈R,Sz 4 r.2) (k:Str):Sz (5*R.length+1) (sm R k):=by have:=ZGH h k 0 0 ZAc;rw[ZIx]at this;exact this
theorem ZAu {K V:List ZnF}:∀r∈ZtP K V,Sz 4 r.2:=by
 intro r hr;obtain⟨p,_,h⟩:=List.mem_filterMap.1 hr;unfold ZxN at h;split at h
 ·simp at h
 ·obtain⟨q,hq,rfl⟩:=Option.map_eq_some_iff.1 h;exact(Zyz hq).2
theorem ZFw {R:List (Str×Rat)} {k:Str} (h:k∉Zx7 R):cnt R k=0∧sm R k=0:=by
 have hn:∀r∈R,¬r.1=k:=fun r hr e=>h (ZAE.2 ⟨r,hr,e.symm⟩)
 constructor
 ·unfold cnt;rw[List.countP_eq_zero];intro r hr;simpa using hn r hr
 ·have key:∀(R:List (Str×Rat)) (s:Rat),(∀r∈R,¬r.1=k)→R.foldl (ZyH k) s=s:=by
   intro R
   induction R with
   |nil=>intro s _;rfl
   |cons r R ih=>
    intro s h;rw[ZHT,show ZyH k s r=s from if_neg (h r (by simp))];exact ih s fun x hx=>h x (by simp[hx])
  exact key R 0 hn
def mpo:Int→List Str→List (Str×Int)
 |_,[]=>[]
 |o,k::r=>(k,o)::mpo (o+1) r
theorem ZzT (k:Str) (v:Int) (m:List (Str×Int)) (s:Str):Zg3 (k:= .str) (v:=(.int .i64)) (car:=Zvy) ((k,v)::m) s=if s == k then some v else Zg3 (k:= .str) (v:=(.int .i64)) (car:=Zvy) m s:=by
 show (((k,v)::m).find? fun e=>s == e.1).map (·.2)=if s == k then some v else (m.find? fun e=>s == e.1).map (·.2)
 rw[List.find?_cons];cases s == k<;>rfl
theorem ZBu:∀(ks:List Str) (o:Int) (s:Str),s∈ks→∃j:Nat,Zg3 (k:= .str) (v:=(.int .i64)) (car:=Zvy) (mpo o ks) s=some (o+(j:Int))∧ks[j]? =some s
 | [],_,_,h=>absurd h (by simp)
 |k::r,o,s,h=>by
  unfold mpo;rw[ZzT]
  by_cases e:s=k
  ·subst e;exact⟨0,by rw[if_pos (by simp)];simp,rfl⟩
  ·obtain⟨j,h1,h2⟩:=ZBu r (o+1) s ((ZH4.1 h).resolve_left e);refine⟨j+1, ?_,h2⟩;rw[if_neg (by simpa using e),h1];congr 1;omega
theorem ZAG:∀(ks:List Str) (o:Int) (s:Str),s∉ks→Zg3 (k:= .str) (v:=(.int .i64)) (car:=Zvy) (mpo o ks) s=none
 | [],_,_,_=>rfl
 |k::r,o,s,h=>by unfold mpo;rw[ZzT,if_neg (by intro e;exact h (by simp[eq_of_beq e]))];exact ZAG r _ s fun hs=>h (by simp[hs])
theorem ZAB:∀(ks:List Str) (o:Int) (s:Str),mpo o (ks++[s])=mpo o ks++[(s,o+(ks.length:Int))]
 | [],o,s=>by simp[mpo]
 |k::r,o,s=>by rw[List.cons_append];unfold mpo;rw[ZAB r,List.cons_append,ZHZ];congr 3;congr 1;omega
theorem ZBM:∀(ks:List Str) (o:Int) (s:Str),s∉ks→(mpo o ks).any (fun e=>ZlP (car:=Zvy) .str s e.1)=false
 | [],_,_,_=>rfl
 |k::r,o,s,h=>by
  unfold mpo;rw[List.any_cons,ZBM r _ s fun hs=>h (by simp[hs])];have:ZlP (car:=Zvy) .str s k=false:=by show (s == k)=false;rw[beq_eq_false_iff_ne];rintro rfl;exact h (by simp)
  rw[this];rfl
theorem ZDf {ks:List Str} {s:Str} (h:s∉ks):setB (k:= .str) (v:=(.int .i64)) (car:=Zvy) (mpo 0 ks) s (ks.length:Int)=mpo 0 (ks++[s]):=by unfold setB;rw[ZBM _ _ _ h,ZAB];rw[Int.zero_add];rfl
theorem ZBh {β:Type} (f g:Str→β):∀{ks:List Str} {j:Nat} {k:Str},ks.Nodup→ks[j]? =some k→(∀x,x≠k→f x=g x)→(ks.map f).set j (g k)=ks.map g
 | [],_,_,_,h,_=>by simp at h
 |x::ks,0,k,hn,h,hf=>by
  obtain rfl:x=k:=by simpa using h
  rw[List.map_cons,List.set_cons_zero,List.map_cons];congr 1;refine List.map_congr_left fun y hy=>hf y ?_
  rintro rfl;exact(List.nodup_cons.1 hn).1 hy
 |x::ks,j+1,k,hn,h,hf=>by
  have h':ks[j]? =some k:=by simpa using h
  have hx:x≠k:=by rintro rfl;exact(List.nodup_cons.1 hn).1 (List.mem_of_getElem? h')
  rw[List.map_cons,List.set_cons_succ,List.map_cons,hf x hx,ZBh f g (List.nodup_cons.1 hn).2 h' hf]
end Go.Proofs
