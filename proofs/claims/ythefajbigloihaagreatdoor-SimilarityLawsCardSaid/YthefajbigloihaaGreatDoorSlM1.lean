/- Plain laws over the specs, part 1. -/
import Derived.Test.YthefajbigloihaaGreatDoorSlM0
set_option linter.unusedVariables false
set_option linter.unusedSimpArgs false
set_option linter.unusedSectionVars false
open Bool renaming not_true→ZBO
open Int renaming natAbs_mul→ZD7, natAbs_natCast→ZD8, toNat_natCast→ZEb, natAbs_neg→ZD9, natCast_add→ZEa, mul_ne_zero→ZD6
open List renaming all_eq_true→ZEc, getD_eq_getElem?_getD→ZEe, length_singleton→ZEk, take_length→ZEo, getElem?_eq_getElem→ZEf, mem_cons→ZEm, length_take→ZEl, getElem?_eq_none→ZEg, take_of_length_le→ZEp, length_append→ZEi, not_mem_nil→ZEn, take_succ_eq_append_getElem→ZEq, contains_iff_mem→ZEd, length_filter_le→ZEj, getElem_cons_drop→ZEh
open Nat renaming le_trans→ZEz, pow_succ→ZEN, gcd→ZEw, mul_add→ZEF, mul_assoc→ZEG, le_refl→ZEy, mod_lt→ZEE, pow_zero→ZEO, lt_or_ge→ZEC, lt_of_le_of_lt→ZEA, mul_comm→ZEH, pow_le_pow_right→ZEM, div_le_self→ZEv, one_mul→ZEJ, pow_add→ZEL, le_of_lt→ZEx, two_pow_pos→ZEQ, mul_left_comm→ZEI, pos_of_ne_zero→ZEK, lt_of_lt_of_le→ZEB, min_eq_left→ZED, div_add_mod→ZEt, add_mul_div_left→ZEr, div_eq_of_lt→ZEu, add_mul_mod_self_left→ZEs, two_pow_add_eq_or_of_lt→ZEP
open Option renaming bind_some→ZER
namespace Go.Proofs
open Go Eng
def Sz (k:Nat) (q:Rat):Prop:=q.num.natAbs < 2 ^ k∧q.den < 2 ^ k
theorem Sz.mono {k l:Nat} {q:Rat} (h:Sz k q) (hl:k≤l):Sz l q:=⟨ZEB h.1 (ZEM (by decide) hl),ZEB h.2 (ZEM (by decide) hl)⟩
theorem ZyM {n k:Nat} (h:n < 2 ^ k) (m:Nat) (hk:k≤32*m):(wd n).length≤m:=by refine Zt2 (ZEB h ?_);rw[show Bw=2 ^ 32 from rfl,←Nat.pow_mul];exact ZEM (by decide) hk
theorem Sz.wq {k:Nat} {q:Rat} (h:Sz k q) (hk:k≤8192):Wq 256 q:=⟨ZyM h.1 256 (by omega),ZyM (n:=(q.den:Int).natAbs) (by rw[ZD8];exact h.2) 256 (by omega)⟩
theorem Zvx {x y:Int} {k:Nat} (hy:y≠0) (h1:x.natAbs < 2 ^ k) (h2:y.natAbs < 2 ^ k):Sz k (Rat.divInt x y):=by
 unfold Sz;rw[Rat.num_divInt,Rat.den_divInt,if_neg hy];refine⟨ZEA ?_ h1,ZEA (ZEv _ _) h2⟩;have hd:((Int.gcd y x:Nat):Int)∣y.sign*x:=Int.dvd_trans (Int.gcd_dvd_right y x) (Int.dvd_mul_left _ _);rw[Int.natAbs_ediv_of_dvd hd,ZD7];refine ZEz (ZEv _ _) ?_;have:y.sign.natAbs=1:=by rw[Int.natAbs_sign_of_ne_zero hy]
 rw[this,ZEJ];exact ZEy _
theorem Zva {x y k l:Nat} (hx:x < 2 ^ k) (hy:y < 2 ^ l):x*y < 2 ^ (k+l):=by rw[ZEL];exact Nat.mul_lt_mul_of_lt_of_le hx (ZEx hy) (ZEQ _)
theorem Zw4 (a b:Rat):Rat.divInt (a.num*(b.den:Int)+b.num*(a.den:Int)) ((a.den:Int)*(b.den:Int))=a+b:=by have h1:=a.den_nz;have h2:=b.den_nz;rw[←Rat.divInt_add_divInt _ _ (by omega) (by omega),Rat.num_divInt_den,Rat.num_divInt_den]
theorem Sz.add {a b:Rat} {k l:Nat} (ha:Sz k a) (hb:Sz l b):Sz (k+l+1) (a+b):=by
 rw[←Zw4];have h1:=a.den_nz;have h2:=b.den_nz;have q1:=Zva ha.1 hb.2;have q2:=Zva ha.2 hb.1;have q3:=Zva ha.2 hb.2;have hp:=ZEQ (k+l);refine Zvx (ZD6 (by omega) (by omega)) ?_ ?_
 ·rw[ZEN];refine ZEA (Int.natAbs_add_le _ _) ?_;rw[ZD7,ZD7,ZD8,ZD8,ZEH b.num.natAbs];omega
 ·rw[ZEN,ZD7,ZD8,ZD8];omega
theorem ZAH {q:Rat} (h:Wq 256 q):decide ((if ((fOf q).Den.Words.length:Int) > ((fOf q).Num.Words.length:Int)then ((fOf q).Den.Words.length:Int)else ((fOf q).Num.Words.length:Int)) > 256)=false:=by have h1:=h.1;have h2:=h.2;unfold Wl at h1 h2;refine decide_eq_false ?_;unfold fOf;rw[ZoD,ZoD,ZnP,ZnP];split<;>omega
theorem ZvH {y:Int} (hy:y≠0):(((bg y).Words.length:Int) == 0)=false:=by have:=Zqd (n:=y.natAbs) (by omega);rw[ZoD,ZnP];exact beq_eq_false_iff_ne.2 (by omega)
theorem ZAa {a b:Rat} {k l:Nat} (ha:Sz k a) (hb:Sz l b) (hk:k+l+1≤8192):ZsA (fOf a) (fOf b)=some (fOf (a+b),0):=by
 have h1:=a.den_nz;have h2:=b.den_nz;have qa:=ha.wq (by omega);have qb:=hb.wq (by omega);have w:∀{x y:Int},Wl 256 x→Wl 256 y→Wl 512 (x*y):=fun hx hy=>by unfold Wl;rw[ZD7];exact ZwS hx hy
 have m:∀{n:Nat} {x:Int},Wl n x→n≤50000→Wl 50000 x:=fun h h'=>ZEz h h'
 have w1:=w qa.1 qb.2;have w2:=w qb.1 qa.2;have w3:=w qa.2 qb.2;have w4:Wl 513 (a.num*(b.den:Int)+b.num*(a.den:Int)):=ZEz (Zq1 (Int.natAbs_add_le _ _)) (Zya w1 w2);have hd:(a.den:Int)*(b.den:Int)≠0:=ZD6 (by omega) (by omega);unfold ZsA Zor;rw[Zvf a qa,ZER,ZBO,cond_false,Zvf b qb,ZER,ZBO];unfold Zo8 ZtM;rw[cond_false];show ((((ZnK (bg a.num) (bg (b.den:Int))).bind fun q=>(ZnK (bg b.num) (bg (a.den:Int))).bind fun q_1=>(Zr0 q q_1).bind fun num=>(ZnK (bg (a.den:Int)) (bg (b.den:Int))).bind fun den=>some (num,den)).bind _).bind _)=_;rw[ZtW _ _ (m qa.1 (by omega)) (m qb.2 (by omega)),ZER,ZtW _ _ (m qb.1 (by omega)) (m qa.2 (by omega)),ZER,Zz3 _ _ (m w1 (by omega)) (m w2 (by omega)),ZER,ZtW _ _ (m qa.2 (by omega)) (m qb.2 (by omega)),ZER,ZER];dsimp only;rw[ZvH hd,cond_false,Zu9 _ _ hd (m w4 (by omega)) (m w3 (by omega)),ZER,Zw4,ZAH ((ha.add hb).wq hk),cond_false,ZER]
end Go.Proofs
namespace Go.Proofs
open Go Eng
theorem Zwy (z:Int):Zpw (bg z)=some (bg (-z)):=by
 unfold Zpw Zrp;rw[Zue,ZoD,ZnP]
 by_cases hz:z < 0
 ·rw[decide_eq_true hz,ZBO,cond_false];unfold bg;rw[ZD9,decide_eq_false (by omega:¬ -z < 0)]
 ·rw[decide_eq_false hz,Bool.not_false,cond_true];unfold bg;rw[ZD9];congr 2
  by_cases h0:z=0
  ·subst h0;rw[show (0:Int).natAbs=0 from rfl,ZrJ];rfl
  ·have:=Zqd (n:=z.natAbs) (by omega);rw[decide_eq_true (by omega),decide_eq_true (by omega)]
theorem ZBb (q:Rat):fOf (-q)=⟨bg (-q.num),bg (q.den:Int)⟩:=rfl
theorem Sz.neg {q:Rat} {k:Nat} (h:Sz k q):Sz k (-q):=by show (-q.num).natAbs < 2 ^ k∧q.den < 2 ^ k;rw[ZD9];exact h
theorem ZBL {a b:Rat} {k l:Nat} (ha:Sz k a) (hb:Sz l b) (hk:k+l+1≤8192):Ztv (fOf a) (fOf b)=some (fOf (a - b),0):=by unfold Ztv;rw[Zvf b (hb.wq (by omega)),ZER,ZBO,cond_false];show ((Zpw (bg b.num)).bind fun q_1=>(Zor (fOf a) (ZnA.mk q_1 (bg (b.den:Int)))).bind fun x=>some (x.1,x.2))=_;have:=ZAa ha hb.neg hk;unfold ZsA at this;rw[Zwy,ZER,←ZBb,Rat.sub_eq_add_neg];exact this
theorem ZwC {a b:Rat} {k l:Nat} (ha:Sz k a) (hb:Sz l b) (hk:k+l+1≤8192):ZuG (fOf a) (fOf b)=some (fOf (a+b)):=by unfold ZuG ZsX;rw[ZAa ha hb hk];rfl
theorem ZwB {a b:Rat} {k l:Nat} (ha:Sz k a) (hb:Sz l b) (hk:k+l+1≤8192):ZuF (fOf a) (fOf b)=some (fOf (a - b)):=by unfold ZuF ZsX;rw[ZBL ha hb hk];rfl
def ZyH (a b:Rat):Int:=if a < b then -1 else if b < a then 1 else 0
theorem Zwq (a b:Rat):a < b↔a.num*(b.den:Int) < b.num*(a.den:Int):=Rat.lt_iff a b
theorem ZCp {a b:Rat} (qa:Wq 256 a) (qb:Wq 256 b):Ztx (fOf a) (fOf b)=some (ZyH a b):=by
 have w:∀{x y:Int},Wl 256 x→Wl 256 y→Wl 50000 (x*y):=fun hx hy=>by unfold Wl;rw[ZD7];exact ZEz (ZwS hx hy) (by decide)
 have m:∀{x:Int},Wl 256 x→Wl 50000 x:=fun h=>ZEz h (by decide)
 unfold Ztx;rw[Zvf a qa,ZER,ZBO,cond_false,Zvf b qb,ZER,ZBO];unfold Zti;rw[cond_false];show ((ZnK (bg a.num) (bg (b.den:Int))).bind fun q=>(ZnK (bg b.num) (bg (a.den:Int))).bind _)=_;rw[ZtW _ _ (m qa.1) (m qb.2),ZER,ZtW _ _ (m qb.1) (m qa.2),ZER,Zwy,ZER];have w2:Wl 50000 (-(b.num*(a.den:Int))):=by unfold Wl;rw[ZD9];exact w qb.1 qa.2
 rw[Zz3 _ _ (w qa.1 qb.2) w2,ZER,Zue,ZoD,ZnP];unfold ZyH;have h1:=Zwq a b;have h2:=Zwq b a;generalize a.num*(b.den:Int)=x at*
 generalize b.num*(a.den:Int)=y at*
 by_cases hl:a < b
 ·rw[if_pos hl,decide_eq_true (by have:=h1.1 hl;omega),cond_true]
 ·have hn:¬x < y:=fun h=>hl (h1.2 h)
  rw[if_neg hl,decide_eq_false (by omega),cond_false]
  by_cases hg:b < a
  ·have:=Zqd (n:=(x+ -y).natAbs) (by have:=h2.1 hg;omega);rw[if_pos hg,decide_eq_true (by omega),cond_true]
  ·have hn2:¬y < x:=fun h=>hg (h2.2 h)
   rw[if_neg hg,show x+ -y=0 by omega,show (0:Int).natAbs=0 from rfl,ZrJ];rfl
theorem ZAU (x y:Int) (hy:y≠0) (hx1:Wl 256 x) (hy1:Wl 256 y):Zs7 (bg x) (bg y)=some (fOf (Rat.divInt x y),0):=by
 have hb:=Zzk [x,y] (by simp) (fun z hz=>by
  simp only[ZEm,ZEn,or_false]at hz;rcases hz with rfl |rfl
  ·exact hx1
  ·exact hy1)
 unfold Zs7;rw[show ([bg x,bg y]:List ZnE)=[x,y].map bg from rfl,hb,ZER,ZBO,cond_false,ZvH hy,cond_false,Zu9 _ _ hy (ZEz hx1 (by decide)) (ZEz hy1 (by decide)),ZER]
theorem ZDi {z:Int} (h1: -9223372036854775808≤z) (h2:z≤9223372036854775807):Wl 256 z:=ZEz (ZAW (by omega)) (by decide)
theorem ZBT (x y:Int) (hy:y≠0) (h1: -9223372036854775808≤x) (h2:x≤9223372036854775807) (h3: -9223372036854775808≤y) (h4:y≤9223372036854775807):Zth x y=some (fOf (Rat.divInt x y),0):=by unfold Zth;rw[Zw0 x h1 h2,ZER,Zw0 y h3 h4,ZER,ZAU x y hy (ZDi h1 h2) (ZDi h3 h4),ZER]
theorem Zw6:Ztf=some (fOf 0):=by unfold Ztf;rw[ZBT 0 1 (by decide) (by decide) (by decide) (by decide) (by decide),ZER,Rat.zero_divInt]
theorem Zwp (x y:Int) (hy:y≠0) (h1: -9223372036854775808≤x) (h2:x≤9223372036854775807) (h3: -9223372036854775808≤y) (h4:y≤9223372036854775807):Zt1 x y=some (fOf (Rat.divInt x y)):=by unfold Zt1;rw[ZBT x y hy h1 h2 h3 h4,ZER];rfl
theorem ZvS:Sz 1 0:=by unfold Sz;decide
theorem ZxX {a:Rat} (qa:Wq 256 a):ZtV (fOf a)=some (ZyH a 0):=by unfold ZtV;rw[Zw6,ZER,ZCp qa (ZvS.wq (by decide)),ZER]
theorem Zw1 (a b:Rat):Rat.divInt (a.num*(b.den:Int)) ((a.den:Int)*b.num)=a / b:=by rw[←Rat.divInt_mul_divInt,Rat.num_divInt_den,Rat.div_def,Rat.inv_def]
theorem Sz.div {a b:Rat} {k l:Nat} (hb0:b≠0) (ha:Sz k a) (hb:Sz l b):Sz (k+l) (a / b):=by
 rw[←Zw1];have h1:=a.den_nz;have h2:b.num≠0:=fun e=>hb0 (Rat.num_eq_zero.1 e)
 refine Zvx (ZD6 (by omega) h2) ?_ ?_
 ·rw[ZD7,ZD8];exact Zva ha.1 hb.2
 ·rw[ZD7,ZD8];exact Zva ha.2 hb.1
theorem ZCo {a b:Rat} {k l:Nat} (hb0:b≠0) (ha:Sz k a) (hb:Sz l b) (hk:k+l≤8192):Ztw (fOf a) (fOf b)=some (fOf (a / b),0):=by
 have h1:=a.den_nz;have h2:b.num≠0:=fun e=>hb0 (Rat.num_eq_zero.1 e)
 have qa:=ha.wq (by omega);have qb:=hb.wq (by omega);have w:∀{x y:Int},Wl 256 x→Wl 256 y→Wl 50000 (x*y):=fun hx hy=>by unfold Wl;rw[ZD7];exact ZEz (ZwS hx hy) (by decide)
 have m:∀{x:Int},Wl 256 x→Wl 50000 x:=fun h=>ZEz h (by decide)
 have w1:=w qa.1 qb.2;have w3:=w qa.2 qb.1;have hd:(a.den:Int)*b.num≠0:=ZD6 (by omega) h2;unfold Ztw Zpt;rw[Zvf a qa,ZER,ZBO,cond_false,Zvf b qb,ZER,ZBO];unfold ZoR ZtN;rw[cond_false];show ((((ZnK (bg a.num) (bg (b.den:Int))).bind fun num=>(ZnK (bg (a.den:Int)) (bg b.num)).bind fun den=>some (num,den)).bind _).bind _)=_;rw[ZtW _ _ (m qa.1) (m qb.2),ZER,ZtW _ _ (m qa.2) (m qb.1),ZER,ZER];dsimp only;rw[ZvH hd,cond_false,Zu9 _ _ hd w1 w3,ZER,Zw1,ZAH ((Sz.div hb0 ha hb).wq hk),cond_false,ZER]
theorem Zy3 {a b:Rat} {k l:Nat} (hb0:b≠0) (ha:Sz k a) (hb:Sz l b) (hk:k+l≤8192):Zvy (fOf a) (fOf b)=some (fOf (a / b)):=by unfold Zvy ZsX;rw[ZCo hb0 ha hb hk];rfl
end Go.Proofs
namespace Go.Proofs
open Go Eng
theorem Zyd:∀n w,Zod n w=ZoA n w
 |0,_=>rfl
 |n+1,w=>by have:Zod n=ZoA n:=funext (Zyd n);show ZsH (Zod n) w=ZqX (ZoA n) w;rw[this];rfl
theorem Zyw (w:List Int):ZnS w=ZnU w:=by unfold ZnS ZnU;rw[Zyd];rfl
theorem ZvO {l:List Nat} (h:Dg l) (hl:l.length≤1000000):ZnS (iL l)=some (iL (wd (val l))):=by rw[Zyw,Zvg h hl]
theorem ZvJ (neg:Bool) {l:List Nat} (h:Dg l) (hl:l.length≤1000000):ZnM neg (iL l)=some (bg (if neg then -(val l:Int)else val l)):=by
 unfold ZnM Zqr;rw[ZvO h hl,ZER,ZnP];unfold bg;cases neg with
 |true=>
  rw[cond_true,if_pos rfl,ZD9,ZD8];congr 2
  by_cases h0:val l=0
  ·rw[h0,ZrJ];rfl
  ·have:=Zqd h0;rw[decide_eq_true (by omega),decide_eq_true (by omega)]
 |false=>rw[cond_false,if_neg (by decide),ZD8,decide_eq_false (by omega)]
theorem Zt0 (a:ZnE):Zn8 a=Zqj a:=rfl
end Go.Proofs
namespace Go.Proofs
open Go Eng
theorem ZwK (a b:Nat) (ha:(wd a).length≤100000) (hb:(wd b).length≤100000):Zn1 (iL (wd a)) (iL (wd b))=some (ZwY a b):=by
 refine ZqZ ?_;unfold Zn1;rw[ZnP,ZnP,ZnT];refine⟨fun h=> ?_,fun h=> ?_⟩
 ·have hne:(wd a).length≠(wd b).length:=fun e=>by rw[e]at h;simp at h
  rw[ZnT];refine⟨fun h=> ?_,fun h=> ?_⟩
  ·have h1:(wd a).length < (wd b).length:=by have:=of_decide_eq_true h;omega
   rw[ZnD,ZtY (ZwZ h1)]
  ·have h1:(wd b).length < (wd a).length:=by have:=of_decide_eq_false h;omega
   rw[ZnD,ZtP (ZwZ h1)]
 ·have hl:(wd a).length=(wd b).length:=by simp only[bne_eq_false_iff_eq]at h;omega
  rw[ZnH,ZnF];refine⟨ZnJ (by omega), ?_⟩;refine Zn7 (Zwc Zuu (wd a).length (by omega) (fun i (s:Unit)=>(iL (wd a),iL (wd b),i)) (fun k _=>(wd a).drop k=(wd b).drop k)
   (Q:=fun r=>r= .ret (ZwY a b)∨r= .brk ()∧a=b) () (by rw[List.drop_length,hl,List.drop_length]) ?_ ?_) ?_
  ·rintro rec k ⟨⟩ hk hP ih;have hk2:k < (wd b).length:=by omega
   unfold Zq9 ZpK;dsimp only;rw[ZnT];refine⟨fun _=> ?_,fun h=>by have:=of_decide_eq_false h;omega⟩;have ha:=ZuC hk;have hb:=ZuC hk2;rw[Zqk]at ha hb;have la:val ((wd a).take k) < Bw ^ k:=by have:=Ztj ((Zsu a).take k);rwa [ZEl,ZED (by omega)]at this
   have lb:val ((wd b).take k) < Bw ^ k:=by have:=Ztj ((Zsu b).take k);rwa [ZEl,ZED (by omega)]at this
   rw[ZrI hk,ZnF,ZnD,ZrI hk2,ZnF,ZnD,ZnT];refine⟨fun hc=> ?_,fun hc=> ?_⟩
   ·have h1:(wd a)[k] < (wd b)[k]:=by have:=of_decide_eq_true hc;omega
    have:a < b:=by rw[ha,hb,hP];exact Zw9 (A:=0) (B:=0) la (by omega)
    rw[ZnD];exact .inl (by rw[ZtY this])
   ·rw[ZnF,ZnD,ZnF,ZnD,ZnT];refine⟨fun hc2=> ?_,fun hc2=> ?_⟩
    ·have h1:(wd b)[k] < (wd a)[k]:=by have:=of_decide_eq_true hc2;omega
     have:b < a:=by rw[ha,hb,hP];exact Zw9 (A:=0) (B:=0) lb (by omega)
     rw[ZnD];exact .inl (by rw[ZtP this])
    ·rw[ZnH];refine⟨ZnJ (by omega),ih () ?_⟩;have h1:(wd a)[k]=(wd b)[k]:=by have q1:=of_decide_eq_false hc;have q2:=of_decide_eq_false hc2;omega
     rw[←ZEh (h:=hk),←ZEh (h:=hk2),h1,hP]
  ·rintro rec ⟨⟩ hP;unfold Zq9 ZpK;dsimp only;rw[ZnT];refine⟨fun h=>by have:=of_decide_eq_true h;omega,fun _=> ?_⟩;rw[ZnD];rw[List.drop_zero,List.drop_zero]at hP;exact .inr ⟨rfl,by rw[←Zqk a,←Zqk b,hP]⟩
  ·rintro r (rfl |⟨rfl,rfl⟩)
   ·exact ZnD.2 rfl
   ·unfold ZrT;exact ZnD.2 (Ztc a).symm
theorem ZxY {a:Nat} (k:Nat) (hk:k≤32):shlK .u32 (a:Int) (k:Int)=((a*2 ^ k % 4294967296:Nat):Int):=by
 unfold shlK;rw[ZEb,show IntKind.bits .u32=32 from rfl,ZED (by omega)];have e:(a:Int)*(2:Int) ^ k=((a*2 ^ k:Nat):Int):=by push_cast;rfl
 rw[e,Zr8]
theorem Zyc (a d:Nat) (hd:d≤1) (ha:(wd a).length≤100000):ZoO (iL (wd a)) (d:Int)=some (iL (wd (2*a+d))):=by
 refine ZqZ ?_;unfold ZoO;rw[ZnF];refine Zn7 (Zrl Zt4 (wd a).length (by omega) (fun i (s:Nat×List Nat)=>(iL (wd a),(s.1:Int),i,iL s.2)) (fun i s=>s.1≤1∧s.2.length=i∧Dg s.2∧val s.2+Bw ^ i*s.1=2*val ((wd a).take i)+d)
  (Q:=fun y=>∃(c:Nat) (o:List Nat),y=((c:Int),iL o)∧c≤1∧Dg o∧o.length=(wd a).length∧val o+Bw ^ (wd a).length*c=2*a+d) (d,[]) ⟨hd,rfl,ZvG,by simp[val]⟩ ?_ ?_) ?_
 ·rintro rec i ⟨c,o⟩ hi ⟨hc,hl,hod,hv⟩ ih;dsimp only at hc hl hod hv ih;have h1:=(Zsu a).get hi;unfold ZqJ Zpp;dsimp only;rw[ZnT,ZnP];refine⟨fun _=> ?_,fun h=>by have:=of_decide_eq_false h;omega⟩;rw[ZrI hi,ZnF,ZnD];generalize ex:(wd a)[i]=x at h1;have eor:orK .u32 (shlK .u32 (x:Int) 1) (c:Int)=((c+x*2 ^ 1 % Bw:Nat):Int):=by rw[show (1:Int)=((1:Nat):Int)from rfl,ZxY 1 (by omega),ZxG (ZEE _ (by decide)) (by omega),Nat.or_comm];congr 1;exact Zxf (by decide) (by omega) h1
  have esh:shrK .u32 (x:Int) 31=((x / 2 ^ 31:Nat):Int):=ZvT 31 (by omega);rw[eor,ZER,esh,ZnH,ZnH,ZnH,ZnH,ZnP];have hx:c+x*2 ^ 1 % Bw < Bw:=by simp only[Bw]at h1⊢;omega
  refine⟨by decide,ZuL (by simp only[ZEk];omega),by decide,ZnJ (by omega), ?_⟩;have:=ih (x / 2 ^ 31,o++[c+x*2 ^ 1 % Bw]) ⟨by simp only[Bw]at h1;dsimp only;omega,by simp[hl],hod.app (Zvc hx), ?_⟩
  ·rw[ZwF]at this;exact this
  ·dsimp only;have q:c+x*2 ^ 1 % Bw+Bw*(x / 2 ^ 31)=c+2*x:=by simp only[Bw]at h1⊢;omega
   have q2:Bw ^ i*(c+x*2 ^ 1 % Bw+Bw*(x / 2 ^ 31))=Bw ^ i*(c+2*x):=by rw[q]
   have q3:Bw ^ i*(2*x)=2*(Bw ^ i*x):=ZEI _ _ _;rw[ZEF,ZEF (Bw ^ i) c (2*x),q3]at q2;rw[ZsF,hl,ZnY hi,ex];generalize c+x*2 ^ 1 % Bw=dg at*
   generalize x / 2 ^ 31=cy at*
   rw[ZEN,ZEG];omega
 ·rintro rec ⟨c,o⟩ ⟨hc,hl,hod,hv⟩;dsimp only at hc hl hod hv;unfold ZqJ Zpp;dsimp only;rw[ZnT,ZnP];refine⟨fun h=>by have:=of_decide_eq_true h;omega,fun _=> ?_⟩;rw[ZnD];rw[ZEo,Zqk]at hv;exact⟨c,o,rfl,hc,hod,hl,hv⟩
 ·rintro y ⟨c,o,rfl,hc,hod,hl,hv⟩;dsimp only;unfold Zq2;have e:iL o++[(c:Int)]=iL (o++[c]):=by rw[ZwF];rfl
  rw[ZnH,ZnP,e,ZvO (hod.app (Zvc (by simp only[Bw];omega))) (by simp;omega),ZnF,ZnD,ZnD,ZsF,hl,hv];exact⟨ZuL (by simp only[ZEk];omega),rfl⟩
end Go.Proofs
namespace Go.Proofs
open Go Eng
theorem ZAI (t:Int):shrK .i64 t 32=t / 4294967296:=by unfold shrK;rw[show min (32:Int).toNat (IntKind.bits .i64)=32 from by decide,Int.fdiv_eq_ediv_of_nonneg _ (by decide)];rfl
theorem Zwv (a b:Nat) (hab:b≤a) (ha:(wd a).length≤100000):Zol (iL (wd a)) (iL (wd b))=some (iL (wd (a - b))):=by
 have hlb:(wd b).length≤(wd a).length:=Zq1 hab;refine ZqZ ?_;unfold Zol;rw[ZnF];refine Zn7 (Zrl Zuq (wd a).length (by omega) (fun i (s:Nat×List Nat)=>(iL (wd a),iL (wd b), -(s.1:Int),i,iL s.2)) (fun i s=>s.1≤1∧s.2.length=i∧Dg s.2∧val ((wd a).take i)+Bw ^ i*s.1=val s.2+val ((wd b).take i))
  (Q:=fun y=>∃(o:List Nat),y=iL o∧Dg o∧o.length=(wd a).length∧val o=a - b) (0,[]) ⟨by simp,rfl,ZvG,by simp[val]⟩ ?_ ?_) ?_
 ·rintro rec i ⟨c,o⟩ hi ⟨hc,hl,hd,hv⟩ ih;dsimp only at hc hl hd hv ih;have h1:=(Zsu a).get hi;have h2:=ZvX (Zsu b) i;have ey0:(wd b).getD i 0=(if i < (wd b).length then (wd b).getD i 0 else 0):=by
   by_cases h:i < (wd b).length
   ·rw[if_pos h]
   ·rw[if_neg h,ZEe,ZEg (by omega)];rfl
  have fin:∀y:Nat,(wd b).getD i 0=y→wp (Zpf (fun a b c i out=>rec (a,b,c,i,out)) (iL (wd a)) (iL (wd b)) (-(c:Int)+((wd a)[i]:Int) - (y:Int)) (i:Int) (iL o)) (fun y=>∃(o:List Nat),y=iL o∧Dg o∧o.length=(wd a).length∧val o=a - b):=fun y ey=>by
   rw[ey]at h2;generalize ex:(wd a)[i]=x at h1;have ew:IntKind.wrap .u32 (-(c:Int)+(x:Int) - (y:Int))=(((x+4294967296 - y - c) % 4294967296:Nat):Int):=by simp only[Bw]at h1 h2;rw[IntKind.wrap_u32];omega
   have es:shrK .i64 (-(c:Int)+(x:Int) - (y:Int)) 32= -(((if x < y+c then 1 else 0):Nat):Int):=by simp only[Bw]at h1 h2;rw[ZAI];split<;>omega
   unfold Zpf;rw[ew,es,ZnH,ZnH,ZnH,ZnP];refine⟨ZuL (by simp only[ZEk];omega),by decide,ZnJ (by omega), ?_⟩;have:=ih ((if x < y+c then 1 else 0),o++[(x+4294967296 - y - c) % 4294967296]) ⟨by dsimp only;split<;>omega,by simp[hl],hd.app (Zvc (ZEE _ (by decide))), ?_⟩
   ·rw[ZwF]at this;exact this
   ·dsimp only;rw[ZsF,hl,ZEN,ZnY hi,Zte,ex,ey,ZEG];have e:x+Bw*(if x < y+c then 1 else 0)=(x+4294967296 - y - c) % 4294967296+y+c:=by simp only[Bw]at h1 h2⊢;split<;>omega
    have e2:Bw ^ i*(x+Bw*(if x < y+c then 1 else 0))=Bw ^ i*((x+4294967296 - y - c) % 4294967296+y+c):=by rw[e]
    rw[ZEF,ZEF,ZEF]at e2;omega
  unfold Zq3 ZpG;dsimp only;rw[ZnT,ZnP,ZnP];refine⟨fun _=> ?_,fun h=>by have:=of_decide_eq_false h;omega⟩;have wx:IntKind.wrap .i64 ((wd a)[i]:Int)=((wd a)[i]:Int):=wrap_i64 (by simp only[Bw]at h1;omega);rw[ZrI hi,ZnF,ZnD,wx,ZnH,ZnT];refine⟨ZnJ (by simp only[Bw]at h1;omega),fun h=> ?_,fun h=> ?_⟩
  ·have hib:i < (wd b).length:=by have:=of_decide_eq_true h;omega
   have hy:=(Zsu b).get hib;have wy:IntKind.wrap .i64 ((wd b)[i]:Int)=((wd b)[i]:Int):=wrap_i64 (by simp only[Bw]at hy;omega);rw[ZrI hib,ZnF,ZnD,wy,ZnH];refine⟨ZnJ (by simp only[Bw]at h1 hy;omega),fin _ ?_⟩;rw[ZEe,ZEf hib];rfl
  ·have hib:¬i < (wd b).length:=by have:=of_decide_eq_false h;omega
   have:=fin 0 (by rw[ey0,if_neg hib]);rw[Int.natCast_zero,Int.sub_zero]at this;exact this
 ·rintro rec ⟨c,o⟩ ⟨hc,hl,hd,hv⟩;unfold Zq3 ZpG;dsimp only at hc hl hd hv⊢
  rw[ZnT,ZnP];refine⟨fun h=>by have:=of_decide_eq_true h;omega,fun _=> ?_⟩;rw[ZnD];rw[ZEo,ZEp (by omega),Zqk,Zqk]at hv;have:=Ztj hd;rw[hl]at this;have hc0:c=0:=by
   rcases Nat.eq_zero_or_pos c with h |h
   ·exact h
   ·have:c=1:=by omega
    rw[this,Nat.mul_one]at hv;omega
  rw[hc0,Nat.mul_zero]at hv;exact⟨o,rfl,hd,hl,by omega⟩
 ·rintro y ⟨o,rfl,hd,hl,hv⟩;unfold ZrK;rw[ZvO hd (by omega),ZnF,ZnD,ZnD,hv]
end Go.Proofs
namespace Go.Proofs
open Go Eng
theorem Zwr (a:Nat) (ha:(wd a).length≤100000):Zoh (iL (wd a))=some (iL (wd (a / 2))):=by
 refine ZqZ ?_;unfold Zoh;rw[List.nil_append,ZnH,ZnF,ZnP];refine⟨ZuL (by rw[List.length_nil];omega), ?_⟩;refine Zn7 (Zrl Zug (wd a).length (by omega) (fun i (o:List Nat)=>(iL (wd a),((wd a).length:Int),i,iL (o++(wd a).drop o.length))) (fun i o=>o.length=i∧Dg o∧val o*2+(wd a).getD 0 0 % 2=val ((wd a).take i)+Bw ^ i*((wd a).getD i 0 % 2))
  (Q:=fun y=>∃(o:List Nat),y=iL o∧Dg o∧o.length=(wd a).length∧val o=a / 2) [] ⟨rfl,ZvG,by simp[val]⟩ ?_ ?_) ?_
 ·rintro rec i o hi ⟨hol,hod,hov⟩ ih;have h1:=(Zsu a).get hi;have hyB:=ZvX (Zsu a) (i+1);have hlen:(o++(wd a).drop o.length).length=(wd a).length:=by simp;omega
  have gx:(iL (o++(wd a).drop o.length))[i]? =some ((wd a)[i]:Int):=by rw[ZvE (by omega)];congr 2;rw[List.getElem_append_right (by omega)];simp[hol]
  have fin:∀z:Nat,z=(wd a)[i] / 2+(wd a).getD (i+1) 0*2 ^ 31 % Bw→wp (Zo4 (fun a t9 i out=>rec (a,t9,i,out)) (iL (wd a)) ((wd a).length:Int) (i:Int) (iL ((o++(wd a).drop o.length).set i z))) (fun y=>∃(o:List Nat),y=iL o∧Dg o∧o.length=(wd a).length∧val o=a / 2):=fun z hz=>by
   unfold Zo4;have es:(o++(wd a).drop o.length).set i z=(o++[z])++(wd a).drop (o++[z]).length:=by rw[List.set_append_right _ _ (by omega),hol,Nat.sub_self,←ZEh (h:=hi),List.set_cons_zero];simp[hol]
   have eg:(wd a).getD i 0=(wd a)[i]:=by rw[ZEe,ZEf hi];rfl
   rw[eg]at hov;rw[ZnH,es];generalize ex:(wd a)[i]=x at*
   generalize ey:(wd a).getD (i+1) 0=y at*
   have hzB:z < Bw:=by simp only[Bw]at h1 hz⊢;omega
   refine⟨ZnJ (by omega),ih (o++[z]) ⟨by simp[hol],hod.app (Zvc hzB), ?_⟩⟩;have hd1:z*2+x % 2=x+Bw*(y % 2):=by simp only[Bw]at h1 hz⊢;omega
   have q1:Bw ^ i*(z*2+x % 2)=Bw ^ i*(x+Bw*(y % 2)):=by rw[hd1]
   rw[ZEF,ZEF]at q1;rw[ZsF,hol,ZnY hi,ex,ZEN,Nat.add_mul,ZEG,ZEG];omega
  unfold ZqS ZpB;dsimp only;rw[ZnT];refine⟨fun _=> ?_,fun h=>by have:=of_decide_eq_false h;omega⟩;have esh:shrK .u32 ((wd a)[i]:Int) 1=(((wd a)[i] / 2:Nat):Int):=ZvT 1 (by omega);rw[ZEb,gx,ZnH,ZnF,ZnD,ZnH,ZnH,ZnH,esh,ZuW,ZnP,ZnP,hlen,ZnT];refine⟨ZqQ ⟨by omega,by omega⟩,by decide,ZqQ ⟨by omega,by omega⟩,ZnJ (by omega),fun h=> ?_,fun h=> ?_⟩
  ·have hi2:i+1 < (wd a).length:=by have:=of_decide_eq_true h;omega
   have gz:(iL ((o++(wd a).drop o.length).set i ((wd a)[i] / 2)))[i]? =some (((wd a)[i] / 2:Nat):Int):=by rw[ZvE (by rw[List.length_set];omega),List.getElem_set_self]
   have e1:(i:Int)+1=((i+1:Nat):Int):=rfl;have eg:(wd a).getD (i+1) 0=(wd a)[i+1]:=by rw[ZEe,ZEf hi2];rfl
   have eor:orK .u32 (((wd a)[i] / 2:Nat):Int) (shlK .u32 ((wd a)[i+1]:Int) 31)=(((wd a)[i] / 2+(wd a).getD (i+1) 0*2 ^ 31 % Bw:Nat):Int):=by rw[eg,show (31:Int)=((31:Nat):Int)from rfl,ZxY 31 (by omega),ZxG (by simp only[Bw]at h1;omega) (ZEE _ (by decide))];congr 1;exact Zxf (by decide) (by simp only[Bw]at h1;omega) ((Zsu a).get hi2)
   rw[e1,ZrI hi2,gz,ZnH,ZnF,ZnD,ZnH,ZnF,ZnD,ZnH,ZnH,eor,ZnP,List.length_set,hlen,ZuW,List.set_set];exact⟨ZqQ ⟨by omega,by omega⟩,ZnJ (by omega),by decide,ZqQ ⟨by omega,by omega⟩,fin _ rfl⟩
  ·have hi2:¬i+1 < (wd a).length:=by have:=of_decide_eq_false h;omega
   refine fin _ ?_;rw[ZEe,ZEg (by omega)];simp
 ·rintro rec o ⟨hol,hod,hov⟩;unfold ZqS ZpB;dsimp only;rw[ZnT];refine⟨fun h=>by have:=of_decide_eq_true h;omega,fun _=> ?_⟩;rw[ZnD];have eg:(wd a).getD (wd a).length 0=0:=by rw[ZEe,ZEg (by omega)];rfl
  rw[eg,Nat.zero_mod,Nat.mul_zero,Nat.add_zero,ZEo,Zqk]at hov;refine⟨o,by rw[hol,List.drop_length,List.append_nil],hod,hol, ?_⟩;omega
 ·rintro y ⟨o,rfl,hd,hl,hv⟩;unfold Zrs;rw[ZvO hd (by omega),ZnF,ZnD,ZnD,hv]
end Go.Proofs
namespace Go.Proofs
open Go Eng
theorem ZxH {a:Nat} (h:a≠0):idx (iL (wd a)) 0=some ((a % Bw:Nat):Int):=by rw[Zv2 h];rfl
theorem ZwG {a:Nat}:(andK .u32 ((a % Bw:Nat):Int) 1 == 0)=decide (a % 2=0):=by
 rw[show (1:Int)=((1:Nat):Int)from rfl,Zxn (ZEE _ (by decide)) (by decide),Nat.and_one_is_mod];have e:a % Bw % 2=a % 2:=by simp only[Bw];omega
 rw[e]
 by_cases h:a % 2=0
 ·rw[h];rfl
 ·rw[decide_eq_false h];exact beq_eq_false_iff_ne.2 (by omega)
theorem Zyj (P:Nat→Prop) {f:Nat→List Int×List Int×Int→Option (List Int×List Int×Int)} (y:List Int) (k:Int)
  (hf:∀n x,x≠0→(wd x).length≤100000→f (n+1) (iL (wd x),y,k)=if x % 2=0 then f n (iL (wd (x / 2)),y,k)else some (iL (wd x),y,k))
  (hP:∀x,P (2*x)→P x):∀(n x:Nat),x≠0→(wd x).length≤100000→P x→(∀m,x < 2 ^ m→m≤n→∃z,f n (iL (wd x),y,k)=some (iL (wd z),y,k)∧z % 2=1∧z≤x∧P z)
 |0,x,hx,hl,hp,m,hm,hmn=>by
  have:m=0:=by omega
  subst this;rw[ZEO]at hm;omega
 |n+1,x,hx,hl,hp,m,hm,hmn=>by
  rw[hf n x hx hl]
  by_cases h:x % 2=0
  ·rw[if_pos h];cases m with
   |zero=>rw[ZEO]at hm;omega
   |succ m=>
    obtain⟨z,h1,h2,h3,h4⟩:=Zyj P y k hf hP n (x / 2) (by omega) (ZEz (Zq1 (ZEv x 2)) hl) (hP _ (by rwa [show 2*(x / 2)=x by omega])) m (by rw[ZEN]at hm;omega) (by omega);exact⟨z,h1,h2,by omega,h4⟩
  ·rw[if_neg h];exact⟨x,rfl,by omega,ZEy _,hp⟩
end Go.Proofs
namespace Go.Proofs
open Go Eng
theorem ZtZ (x:Nat):x < 2 ^ (x.log2+1):=Nat.lt_log2_self
theorem Zvm {x n:Nat} (h:(wd x).length≤n):x.log2≤32*n:=by
 rcases Nat.eq_zero_or_pos x with rfl |hp
 ·rw[Nat.log2_zero];omega
 ·have h1:=Nat.log2_self_le (n:=x) (by omega);have h2:=ZEB (ZsN x) (ZEM (n:=Bw) (by decide) h);rw[show Bw=2 ^ 32 from rfl,←Nat.pow_mul]at h2;exact ZEx ((Nat.pow_lt_pow_iff_right (a:=2) (by decide)).1 (ZEA h1 h2))
theorem Zzb {x b:Nat} (hb:b % 2=1):ZEw (2*x) b=ZEw x b:=by
 have hc:Nat.Coprime 2 b:=by unfold Nat.Coprime;rw[Nat.gcd_rec,hb,Nat.gcd_one_left]
 exact Nat.Coprime.gcd_mul_left_cancel x hc
theorem ZDy (y:List Int) (k:Int) {x:Nat} (b:Nat) (hb:b % 2=1) (hx:x≠0) (hl:(wd x).length≤100000):∃z,Zn4 big (iL (wd x)) y k=some (iL (wd z),y,k)∧z % 2=1∧z≤x∧ZEw z b=ZEw x b:=by
 have hm:=Zvm hl;refine Zyj (fun z=>ZEw z b=ZEw x b) (f:=fun n t=>Zn4 n t.1 t.2.1 t.2.2) y k (fun n x hx hl=> ?_) (fun z h=>by rwa [Zzb hb]at h) big x hx hl rfl (x.log2+1) (ZtZ x) (ZEx (ZwL (by omega)));show ZoT (Zn4 n) (iL (wd x)) y k=_;unfold ZoT;rw[ZxH hx,ZER,ZwG]
 by_cases h:x % 2=0
 ·rw[decide_eq_true h,cond_true,if_pos h,Zwr x hl,ZER]
 ·rw[decide_eq_false h,cond_false,if_neg h]
end Go.Proofs
namespace Go.Proofs
open Go Eng
theorem Zz8 (y:List Int) (k:Int) {x:Nat} (ho:x % 2=1):Zn4 big (iL (wd x)) y k=some (iL (wd x),y,k):=by obtain⟨n,hn⟩:=ZBg 1 (by decide);rw[hn];show ZoT (Zn4 n) (iL (wd x)) y k=_;unfold ZoT;rw[ZxH (by omega),ZER,ZwG,decide_eq_false (by omega),cond_false]
theorem ZDx (w:List Int) (k:Int) {y:Nat} (b:Nat) (hb:b % 2=1) (hy:y≠0) (hl:(wd y).length≤100000):∃z,Zn3 big w (iL (wd y)) k=some (w,iL (wd z),k)∧z % 2=1∧(z≤y∧(y % 2=0→z≤y / 2))∧ZEw z b=ZEw y b:=by
 have hm:=Zvm hl;have step:∀n x,x≠0→(wd x).length≤100000→Zn3 (n+1) w (iL (wd x)) k=if x % 2=0 then Zn3 n w (iL (wd (x / 2))) k else some (w,iL (wd x),k):=fun n x hx hl=>by
  show Zq6 (Zn3 n) w (iL (wd x)) k=_;unfold Zq6;rw[ZxH hx,ZER,ZwG]
  by_cases h:x % 2=0
  ·rw[decide_eq_true h,cond_true,if_pos h,Zwr x hl,ZER]
  ·rw[decide_eq_false h,cond_false,if_neg h]
 have key:∀(n x m:Nat),x≠0→(wd x).length≤100000→x < 2 ^ m→m≤n→∃z,Zn3 n w (iL (wd x)) k=some (w,iL (wd z),k)∧z % 2=1∧(z≤x∧(x % 2=0→z≤x / 2))∧ZEw z b=ZEw x b:=by
  intro n
  induction n with
  |zero=>
   intro x m hx hl hm hmn;have:m=0:=by omega
   subst this;rw[ZEO]at hm;omega
  |succ n ih=>
   intro x m hx hl hm hmn;rw[step n x hx hl]
   by_cases h:x % 2=0
   ·rw[if_pos h];cases m with
    |zero=>rw[ZEO]at hm;omega
    |succ m=>
     obtain⟨z,h1,h2,h3,h4⟩:=ih (x / 2) m (by omega) (ZEz (Zq1 (ZEv x 2)) hl) (by rw[ZEN]at hm;omega) (by omega);refine⟨z,h1,h2,⟨by omega,fun _=>h3.1⟩, ?_⟩;rw[h4,←Zzb hb,show 2*(x / 2)=x by omega]
   ·rw[if_neg h];exact⟨x,rfl,by omega,⟨ZEy _,fun h'=>absurd h' h⟩,rfl⟩
 exact key big y (y.log2+1) hy hl (ZtZ y) (ZEx (ZwL (by omega)))
end Go.Proofs
namespace Go.Proofs
open Go Eng
theorem ZzO (k:Int):∀(n x y p q:Nat),x % 2=1→(wd x).length≤100000→(wd y).length≤100000→x < 2 ^ p→y < 2 ^ q→p+q+y % 2 < n→ZnN n (iL (wd x)) (iL (wd y)) k=some (iL (wd (ZEw x y)),k)
 |0,x,y,p,q,_,_,_,_,_,h=>absurd h (by omega)
 |n+1,x,y,p,q,ho,hxl,hyl,hp,hq,hn=>by
  show ZoU (ZnN n) _ _ _=_;unfold ZoU;rw[ZnP]
  by_cases h0:y=0
  ·subst h0;rw[ZrJ,Nat.gcd_zero_right];rfl
  ·have hl:=Zqd h0;obtain⟨z,hz,hz1,hz2,hz3⟩:=ZDx (iL (wd x)) k x ho h0 hyl;rw[decide_eq_true (by omega),cond_true,Zz8 _ _ ho,ZER];dsimp only;unfold ZrQ;rw[hz,ZER];dsimp only;have hzl:=ZEz (Zq1 hz2.1) hyl;unfold ZrP;rw[ZwK x z hxl hzl,ZER];obtain⟨q',hq',hq2⟩:∃q',z < 2 ^ q'∧q'+1≤q+y % 2:=by
    by_cases he:y % 2=0
    ·cases q with
     |zero=>rw[ZEO]at hq;omega
     |succ q=>
      refine⟨q, ?_,by omega⟩;have:=hz2.2 he;rw[ZEN]at hq;omega
    ·exact⟨q,by omega,by omega⟩
   unfold Zqo;have eg:ZEw x y=ZEw x z:=by rw[Nat.gcd_comm x y,←hz3,Nat.gcd_comm]
   rw[eg]
   by_cases hc:z < x
   ·rw[ZtP hc,show decide ((1:Int) > 0)=true from rfl,cond_true,Zwv x z (by omega) hxl,ZER,ZzO k n z (x - z) q' p hz1 hzl (ZEz (Zq1 (Nat.sub_le x z)) hxl) hq' (by omega) (by omega),Nat.gcd_sub_self_right (by omega),Nat.gcd_comm]
   ·have hnc:decide (ZwY x z > 0)=false:=by refine decide_eq_false ?_;unfold ZwY;rw[if_neg hc];split<;>decide
    rw[hnc,cond_false,Zwv z x (by omega) hzl,ZER,ZzO k n x (z - x) p q' ho hxl (ZEz (Zq1 (Nat.sub_le z x)) hzl) hp (by omega) (by omega),Nat.gcd_sub_self_right (by omega)]
end Go.Proofs
namespace Go.Proofs
open Go Eng
theorem ZB0:∀(n x y j m:Nat),x≠0→y≠0→(wd x).length≤100000→(wd y).length≤100000→x < 2 ^ m→m≤n→j+m≤1000000000→
  ∃x' y' t:Nat,ZoF n (iL (wd x)) (iL (wd y)) (j:Int)=some (iL (wd x'),iL (wd y'),((j+t:Nat):Int))∧(x' % 2=1∨y' % 2=1)∧ZEw x y=2 ^ t*ZEw x' y'∧x'≠0∧y'≠0∧x'≤x∧y'≤y∧t≤m
 |0,x,y,j,m,hx,hy,hxl,hyl,hm,hmn,hj=>by
  have:m=0:=by omega
  subst this;rw[ZEO]at hm;omega
 |n+1,x,y,j,m,hx,hy,hxl,hyl,hm,hmn,hj=>by
  show ∃x' y' t:Nat,Zq7 (ZoF n) _ _ _=_∧_;unfold Zq7 Zqp;rw[ZxH hx,ZER,ZwG]
  by_cases h1:x % 2=0
  ·rw[decide_eq_true h1,cond_true,ZxH hy,ZER,ZwG]
   by_cases h2:y % 2=0
   ·cases m with
    |zero=>rw[ZEO]at hm;omega
    |succ m=>
     rw[decide_eq_true h2,cond_true,Zwr x hxl,ZER,Zwr y hyl,ZER,ZnJ (by omega),chk_true];obtain⟨x',y',t,q1,q2,q3,q4,q5,q6,q7,q8⟩:=ZB0 n (x / 2) (y / 2) (j+1) m (by omega) (by omega) (ZEz (Zq1 (ZEv x 2)) hxl) (ZEz (Zq1 (ZEv y 2)) hyl) (by rw[ZEN]at hm;omega) (by omega) (by omega);refine⟨x',y',t+1, ?_,q2, ?_,q4,q5,by omega,by omega,by omega⟩
     ·rw[show (j:Int)+1=((j+1:Nat):Int)from rfl,q1,show j+1+t=j+(t+1) by omega]
     ·have:=Nat.gcd_mul_left 2 (x / 2) (y / 2);rw[show 2*(x / 2)=x by omega,show 2*(y / 2)=y by omega]at this;rw[this,q3,ZEN,ZEH (2 ^ t) 2,ZEG]
   ·rw[decide_eq_false h2,cond_false];exact⟨x,y,0,rfl,.inr (by omega),by rw[ZEO,ZEJ],hx,hy,ZEy _,ZEy _,Nat.zero_le _⟩
  ·rw[decide_eq_false h1,cond_false,cond_false];exact⟨x,y,0,rfl,.inl (by omega),by rw[ZEO,ZEJ],hx,hy,ZEy _,ZEy _,Nat.zero_le _⟩
theorem ZBZ:∀(k n a:Nat),k < n→k≤1000000000→(wd (2 ^ k*a)).length≤100000→ZoE n (iL (wd a)) (k:Int)=some (iL (wd (2 ^ k*a)))
 |k,0,a,h,_,_=>absurd h (by omega)
 |0,n+1,a,_,_,_=>by show ZoS (ZoE n) _ _=_;unfold ZoS;rw[ZEO,ZEJ];rfl
 |k+1,n+1,a,h,hk,hl=>by
  show ZoS (ZoE n) _ _=_;unfold ZoS;have e:2 ^ (k+1)*a=2 ^ k*(2*a+0):=by rw[ZEN,ZEG,Nat.add_zero]
  have ha:(wd a).length≤100000:=ZEz (Zq1 (Nat.le_mul_of_pos_left a (ZEQ _))) hl;rw[e]at hl;have ht:=Zyc a 0 (by omega) ha;rw[Int.natCast_zero]at ht;rw[decide_eq_true (by omega),cond_true,ht,ZER,show ((k+1:Nat):Int) - 1=(k:Int) by omega,ZnJ (by omega),chk_true,ZBZ k n (2*a+0) (by omega) (by omega) hl,e]
theorem Zzc (a b:Nat) (ha0:a≠0) (hb0:b≠0) (ha:(wd a).length≤50000) (hb:(wd b).length≤50000):Zo9 (iL (wd a)) (iL (wd b))=some (iL (wd (ZEw a b))):=by
 have hla:=Zvm ha;have hlb:=Zvm hb;obtain⟨x,y,t,q1,q2,q3,q4,q5,q6,q7,q8⟩:=ZB0 big a b 0 (a.log2+1) ha0 hb0 (by omega) (by omega) (ZtZ a) (ZEx (ZwL (by omega))) (by omega);rw[Int.natCast_zero,Nat.zero_add]at q1;have hxl:=ZEz (Zq1 q6) ha;have hyl:=ZEz (Zq1 q7) hb;have hlx:=Zvm hxl;have hly:=Zvm hyl;have main:ZnN big (iL (wd x)) (iL (wd y)) (t:Int)=some (iL (wd (ZEw x y)),(t:Int)):=by
  by_cases hx:x % 2=1
  ·exact ZzO _ big x y _ _ hx (by omega) (by omega) (ZtZ x) (ZtZ y) (ZwL (by omega))
  ·have hy:y % 2=1:=by omega
   obtain⟨z,z1,z2,z3,z4⟩:=ZDy (iL (wd y)) (t:Int) y hy q4 (by omega);have hzl:=ZEz (Zq1 z3) hxl;have hlz:=Zvm hzl;have e:=ZzO (t:Int) big z y _ _ z2 (by omega) (by omega) (ZtZ z) (ZtZ y) (ZwL (by omega));rw[z4]at e;rw[←e];obtain⟨n,hn⟩:∃n,big=n+1:=⟨36893488147419103231,by rw[big_eq]⟩;have s1:∀u,ZnN big (iL (wd u)) (iL (wd y)) (t:Int)=ZoU (ZnN n) (iL (wd u)) (iL (wd y)) (t:Int):=fun u=>by rw[hn];rfl
   rw[s1,s1];unfold ZoU;have hl:=Zqd q5;rw[ZnP,decide_eq_true (by omega),cond_true,cond_true,z1,Zz8 _ _ z2]
 have hg:(wd (2 ^ t*ZEw x y)).length≤100000:=by rw[←q3];exact ZEz (ZyL (by omega) hb) (by omega)
 unfold Zo9;rw[q1,ZER];dsimp only;unfold ZrR ZrO ZrN;rw[main,ZER];dsimp only;rw[ZBZ t big _ (ZwL (by omega)) (by omega) hg,ZER,q3]
end Go.Proofs
namespace Go.Proofs
open Go Eng
theorem Zzj {l:List Nat} {i:Nat} (hd:Dg l) (h:i / 32 < l.length):l[i / 32] / 2 ^ (i % 32) % 2=val l / 2 ^ i % 2:=by
 have e:=ZuC h;have hlt:=Ztj (hd.take (i / 32));rw[ZEl,ZED (by omega)]at hlt;have hi:2 ^ i=Bw ^ (i / 32)*2 ^ (i % 32):=by rw[show Bw=2 ^ 32 from rfl,←Nat.pow_mul,←ZEL,ZEt]
 have hr:i % 32 < 32:=ZEE _ (by decide);have hB:Bw=2 ^ (i % 32)*(2*2 ^ (31 - i % 32)):=by rw[show 2*2 ^ (31 - i % 32)=2 ^ (31 - i % 32+1) by rw[ZEN,ZEH],←ZEL,show i % 32+(31 - i % 32+1)=32 by omega]
 have e1:val l / Bw ^ (i / 32)=l[i / 32]+Bw*val (l.drop (i / 32+1)):=by rw[e,ZEr _ _ (Nat.pow_pos (by decide)),ZEu hlt,Nat.zero_add]
 rw[hi,←Nat.div_div_eq_div_mul,e1];generalize l[i / 32]=x;generalize val (l.drop (i / 32+1))=y;have e2:(x+Bw*y) / 2 ^ (i % 32)=x / 2 ^ (i % 32)+2*(2 ^ (31 - i % 32)*y):=by rw[hB,ZEG,ZEr _ _ (ZEQ _),ZEG]
 rw[e2,ZEs]
end Go.Proofs
namespace Go.Proofs
open Go Eng
theorem Zz2 (i:Nat):Int.tdiv (i:Int) 32=((i / 32:Nat):Int):=by rw[Int.tdiv_eq_ediv_of_nonneg (by omega)];norm_cast
theorem Zz1 (i:Nat):IntKind.wrap .u64 (Int.tmod (i:Int) 32)=((i % 32:Nat):Int):=by rw[Int.tmod_eq_emod_of_nonneg (by omega),IntKind.wrap_u64];omega
theorem ZCt {l:List Nat} {i:Nat} (hd:Dg l) (h:i / 32 < l.length) (hi:i≤1000000000):Zqa (iL l) (i:Int)=some ((val l / 2 ^ i % 2:Nat):Int):=by have h1:=hd.get h;unfold Zqa;rw[Zz2,Zz1,decide_eq_true (by decide),chk_true,ZnJ (by omega),chk_true,ZrI h,ZER,chk_true,decide_eq_true (by omega),chk_true,ZvT _ (by omega),show (1:Int)=((1:Nat):Int)from rfl,Zxn (ZEA (ZEv _ _) h1) (by decide),Nat.and_one_is_mod,Zzj hd h]
end Go.Proofs
namespace Go.Proofs
open Go Eng
theorem Zz4 {x j:Nat} (h:x / 2 ^ j % 2=0):x|||2 ^ j=x+2 ^ j:=by
 have hlo:=ZEE x (ZEQ j);have e:x=2 ^ (j+1)*(x / 2 ^ j / 2)+x % 2 ^ j:=by
  have h1:=ZEt x (2 ^ j);have h2:2*(x / 2 ^ j / 2)=x / 2 ^ j:=by omega
  rw[ZEN,ZEG,h2,h1]
 have a1:=ZEP (i:=j+1) (b:=x % 2 ^ j) (by rw[ZEN];omega) (x / 2 ^ j / 2);have a2:=ZEP (i:=j) (b:=x % 2 ^ j) hlo 1;have a3:=ZEP (i:=j+1) (b:=2 ^ j*1+x % 2 ^ j) (by rw[ZEN];omega) (x / 2 ^ j / 2);rw[Nat.mul_one]at a2 a3;generalize x / 2 ^ j / 2=t at*
 generalize x % 2 ^ j=lo at*
 rw[e,a1,Nat.or_assoc,Nat.or_comm lo,←a2,←a3,←a1];omega
theorem ZAK {j:Nat} (hj:j≤31):shlK .u32 1 (j:Int)=((2 ^ j:Nat):Int):=by have:=ZxY (a:=1) j (by omega);rw[ZEJ,Nat.mod_eq_of_lt (ZEA (ZEM (by decide) hj) (by decide))]at this;exact this
theorem Zy9 {A k:Nat}:A / 2 ^ k=2*(A / 2 ^ (k+1))+A / 2 ^ k % 2:=by rw[ZEN,←Nat.div_div_eq_div_mul];omega
theorem Zzd (a b:Nat) (hb0:b≠0) (ha:(wd a).length≤50000) (hb:(wd b).length≤50000):Zpa (iL (wd a)) (iL (wd b))=some (iL (wd (a / b)),iL (wd (a % b))):=by
 have hlen:∀k,(wd (2*(a / 2 ^ (k+1) % b)+a / 2 ^ k % 2)).length≤50001:=fun k=>by
  have h1:=ZEE (a / 2 ^ (k+1)) (ZEK hb0);have h2:2*(a / 2 ^ (k+1) % b)+a / 2 ^ k % 2≤b+b:=by omega
  exact ZEz (Zq1 h2) (Zya hb hb)
 refine ZqZ ?_;unfold Zpa;rw[ZnH,ZnH,ZnH,ZnF,ZnP,ZEb,ZwE];refine⟨Zvl (by omega),ZnJ (by omega),ZnJ (by omega), ?_⟩;have e0:(32*((wd a).length:Int)) - 1=((32*(wd a).length:Nat):Int) - 1:=by omega
 rw[e0,show ([]:List Int)=iL (wd 0) by rw[ZrJ];rfl];refine Zn7 (Zwc Zut (32*(wd a).length) (by omega) (fun i (q:Nat×List Nat)=>(iL (wd a),iL (wd b),iL (wd q.1),i,iL q.2))
  (fun k q=>q.1=a / 2 ^ k % b∧Dg q.2∧q.2.length=(wd a).length∧val q.2=a / 2 ^ k / b*2 ^ k)
  (Q:=fun y=>∃o:List Nat,y=(iL (wd (a % b)),iL o)∧Dg o∧o.length=(wd a).length∧val o=a / b) (0,List.replicate (wd a).length 0) ?_ ?_ ?_) ?_
 ·have h0:a / 2 ^ (32*(wd a).length)=0:=by refine ZEu ?_;rw[Nat.pow_mul];exact ZsN a
  rw[h0,Nat.zero_mod,Nat.zero_div,Nat.zero_mul];exact⟨rfl,Zzf _,List.length_replicate,ZxU _⟩
 ·rintro rec k ⟨r,q⟩ hk ⟨hr,hd,hl,hv⟩ ih;dsimp only at hr hd hl hv;have hk32:k / 32 < (wd a).length:=by omega
  unfold Zq8 ZpJ;dsimp only;have hbit:=ZCt (i:=k) (Zsu a) hk32 (by omega);rw[Zqk]at hbit;have h2:a / 2 ^ k % 2≤1:=by omega
  have htw:=Zyc r (a / 2 ^ k % 2) h2 (by
   rw[hr];exact ZEz (Zq1 (ZEx (ZEE _ (ZEK hb0)))) (by omega))
  have hlk:=hlen k;rw[←hr]at hlk;have hx:=Zy9 (A:=a) (k:=k);have hdm:=ZEt (a / 2 ^ (k+1)) b;rw[←hr]at hdm;have hrlt:r < b:=by rw[hr];exact ZEE _ (ZEK hb0)
  rw[ZnT];refine⟨fun _=> ?_,fun h=>by have:=of_decide_eq_false h;omega⟩;rw[hbit,ZnF,ZnD,htw,ZnF,ZnD,ZwK _ _ (by omega) (by omega),ZnF,ZnD,ZnT];have nx:∀r' q',(r'=a / 2 ^ k % b∧Dg q'∧q'.length=(wd a).length∧val q'=a / 2 ^ k / b*2 ^ k)→wp (Zpj (fun a b r_ i q=>rec (a,b,r_,i,q)) (iL (wd a)) (iL (wd b)) (iL (wd r')) (k:Int) (iL q')) (fun y=>∃o:List Nat,y=(iL (wd (a % b)),iL o)∧Dg o∧o.length=(wd a).length∧val o=a / b):=fun r' q' h=>by unfold Zpj;rw[ZnH];exact⟨ZnJ (by omega),ih (r',q') h⟩
  generalize eX:a / 2 ^ (k+1)=X at*
  generalize ed:a / 2 ^ k % 2=d at*
  refine⟨fun hc=> ?_,fun hc=> ?_⟩
  ·have hge:b≤2*r+d:=by
    rcases ZEC (2*r+d) b with h |h
    ·rw[ZtY h]at hc;exact absurd (of_decide_eq_true hc) (by decide)
    ·exact h
   have hq:k / 32 < q.length:=by omega
   have hz:q[k / 32] / 2 ^ (k % 32) % 2=0:=by rw[Zzj hd hq,hv,ZEN,←ZEG,Nat.mul_right_comm,Nat.mul_div_cancel _ (ZEQ k)];omega
   have hx32:=hd.get hq;rw[Zwv _ _ hge (by omega),ZnF,ZnD,Zz2,Zz1,ZEb,ZnH,ZnH,ZnH,ZvE hq,ZnF,ZnD,ZnH,ZnH,ZnH,ZAK (by omega),ZxG hx32 (ZEA (ZEM (by decide) (show k % 32≤31 by omega)) (by decide)),Zz4 hz,ZuW,ZnP];refine⟨by decide,ZnJ (by omega),ZqQ ⟨by omega,by omega⟩,by decide,decide_eq_true (by omega),ZqQ ⟨by omega,by omega⟩, ?_⟩;have hsum:q[k / 32]+2 ^ (k % 32) < Bw:=by
    have hB:Bw=2 ^ (k % 32)*(2*2 ^ (31 - k % 32)):=by rw[show 2*2 ^ (31 - k % 32)=2 ^ (31 - k % 32+1) by rw[ZEN,ZEH],←ZEL,show k % 32+(31 - k % 32+1)=32 by omega]
    rw[←Zz4 hz];exact Nat.or_lt_two_pow (n:=32) hx32 (ZEA (ZEM (by decide) (show k % 32≤31 by omega)) (by decide))
   refine nx (2*r+d - b) (q.set (k / 32) (q[k / 32]+2 ^ (k % 32))) ⟨?_,hd.set _ hsum,by rw[List.length_set,hl], ?_⟩
   ·rw[hx,show 2*X+d=(2*r+d - b)+b*(2*(X / b)+1) by rw[ZEF,ZEI];omega,ZEs,Nat.mod_eq_of_lt (by omega)]
   ·have hvs:=Zu0 q (k / 32) (q[k / 32]+2 ^ (k % 32)) hq;have hp:Bw ^ (k / 32)*2 ^ (k % 32)=2 ^ k:=by rw[show Bw=2 ^ 32 from rfl,←Nat.pow_mul,←ZEL,ZEt]
    rw[ZEF,hp]at hvs;have e1:(2*X+d) / b=2*(X / b)+1:=by rw[show 2*X+d=(2*r+d - b)+b*(2*(X / b)+1) by rw[ZEF,ZEI];omega,ZEr _ _ (ZEK hb0),ZEu (by omega),Nat.zero_add]
    rw[hx,e1];rw[hv,ZEN]at hvs;have e2:X / b*(2 ^ k*2)=2*(X / b)*2 ^ k:=by rw[ZEH (2 ^ k) 2,←ZEG,ZEH (X / b) 2]
    rw[Nat.add_mul,ZEJ];omega
  ·have hlt:2*r+d < b:=by
    rcases ZEC (2*r+d) b with h |h
    ·exact h
    ·rcases ZEC b (2*r+d)with h' |h'
     ·rw[ZtP h']at hc;exact absurd (of_decide_eq_false hc) (by decide)
     ·rw[show 2*r+d=b by omega,Ztc]at hc;exact absurd (of_decide_eq_false hc) (by decide)
   have e0:2*X+d=(2*r+d)+b*(2*(X / b)):=by rw[ZEI];omega
   refine nx (2*r+d) q ⟨?_,hd,hl, ?_⟩
   ·rw[hx,e0,ZEs,Nat.mod_eq_of_lt hlt]
   ·rw[hx,e0,ZEr _ _ (ZEK hb0),ZEu hlt,Nat.zero_add,hv,ZEN,ZEH (2 ^ k) 2,←ZEG,ZEH (X / b) 2]
 ·rintro rec ⟨r,q⟩ ⟨hr,hd,hl,hv⟩;dsimp only at hr hd hl hv;rw[ZEO,Nat.div_one]at hr hv;unfold Zq8 ZpJ;dsimp only;rw[ZnT];refine⟨fun h=>by have:=of_decide_eq_true h;omega,fun _=> ?_⟩;rw[ZnD,hr];exact⟨q,rfl,hd,hl,by rw[hv,Nat.mul_one]⟩
 ·rintro y ⟨o,rfl,hd,hl,hv⟩;dsimp only;unfold ZrS;rw[ZvO hd (by omega),ZnF,ZnD,ZnD,hv]
end Go.Proofs
namespace Go.Proofs
open Go Eng
theorem ZyE (n:Int):Rat.divInt n 1=(n:Rat):=by have h:=Rat.num_divInt_den (n:Rat);rw[Rat.num_intCast,Rat.den_intCast]at h;exact h
end Go.Proofs
namespace Go.Proofs
open Go Eng
theorem ZvY (z:Int) (h1: -9223372036854775808≤z) (h2:z≤9223372036854775807):Zoe z=some (bg z):=by
 have key:∀(b:Bool) (n:Nat),n < 18446744073709551616→ZnM b [IntKind.wrap .u32 (n:Int),IntKind.wrap .u32 (shrK .u64 (n:Int) 32)]=some (bg (if b then -(n:Int)else n)):=fun b n h=>by
  have e:([IntKind.wrap .u32 (n:Int),IntKind.wrap .u32 (shrK .u64 (n:Int) 32)]:List Int)=iL [n % 4294967296,n / 4294967296]:=by rw[show (32:Int)=((32:Nat):Int)from rfl,Zu2 32 (by omega),Zr8,Zst (by omega)];rfl
  have hd:Dg [n % 4294967296,n / 4294967296]:=fun d hd=>by
   simp only[ZEm,List.mem_singleton,ZEn,or_false]at hd;rcases hd with rfl |rfl
   ·exact ZEE _ (by decide)
   ·simp only[Bw];omega
  have hv:val [n % 4294967296,n / 4294967296]=n:=by simp only[val,Nat.mul_zero,Nat.add_zero];exact Nat.mod_add_div n Bw
  rw[e,ZvJ b hd (by simp),hv]
 unfold Zoe Zpq;have h32:decide (0≤(32:Int))=true:=rfl
 by_cases hz:z < 0
 ·have e:IntKind.wrap .u64 (0 - IntKind.wrap .u64 z)=((z.natAbs:Nat):Int):=by rw[IntKind.wrap_u64,IntKind.wrap_u64];omega
  rw[decide_eq_true hz,cond_true,h32,chk_true,e,key true _ (by omega),ZER,if_pos rfl,show -((z.natAbs:Nat):Int)=z by omega]
 ·have e:IntKind.wrap .u64 z=((z.natAbs:Nat):Int):=by rw[IntKind.wrap_u64];omega
  rw[decide_eq_false hz,cond_false,h32,chk_true,e,key false _ (by omega),ZER,if_neg (by decide),show ((z.natAbs:Nat):Int)=z by omega]
theorem ZBh:bg 0=⟨false,[]⟩:=by unfold bg;rw[show (0:Int).natAbs=0 from rfl,ZrJ];rfl
theorem Zyz (x y:Int) (hy:y≠0) (hx1:Wl 50000 x) (hy1:Wl 50000 y):Zph (bg x) (bg y)=some (fOf (Rat.divInt x y)):=by
 unfold Zph
 by_cases hx:x=0
 ·subst hx;rw[Rat.zero_divInt,ZoD,ZnP,show (0:Int).natAbs=0 from rfl,ZrJ,ZvY 1 (by decide) (by decide)];show some (ZnA.mk ⟨false,[]⟩ (bg 1))=some (fOf 0);rw[←ZBh];rfl
 ·have hx0:0 < x.natAbs:=by omega
  have hy0:0 < y.natAbs:=by omega
  have hg0:ZEw x.natAbs y.natAbs≠0:=fun e=>by have:=Nat.gcd_pos_of_pos_right x.natAbs hy0;omega
  have hgl:=ZyL (x:=x.natAbs) hy0 hy1;have hxl:=Zx9 (ZEw x.natAbs y.natAbs) hx1;have hyl:=Zx9 (ZEw x.natAbs y.natAbs) hy1;have h:=Zu9 x y hy hx1 hy1;unfold ZoM at h;rw[ZoD,ZoD,ZwI _ _ hx1 hy1,ZER,Zwe _ _ hg0 hx1 hgl,ZER]at h;dsimp only at h;rw[Zwe _ _ hg0 hy1 hgl,ZER]at h;dsimp only at h;rw[Zsv _ _ (by omega),ZER,Zsv _ _ (by omega),ZER]at h;have hlen:=Zqd (n:=x.natAbs) (by omega);rw[←h,ZoD,ZoD,ZnP,beq_eq_false_iff_ne.2 (by omega),cond_false,Zzc _ _ (by omega) (by omega) hx1 hy1,ZER,Zzd _ _ hg0 hx1 hgl,ZER];dsimp only;rw[Zzd _ _ hg0 hy1 hgl,ZER];dsimp only;rw[ZvJ _ (Zsu _) (by omega),ZER,ZvJ _ (Zsu _) (by omega),ZER,Zqk,Zqk]
theorem ZzJ (x y:Int) (hy:y≠0) (hx1:Wl 256 x) (hy1:Wl 256 y):ZpN (bg x) (bg y)=some (fOf (Rat.divInt x y),0):=by unfold ZpN Zp5;rw[Zt0,ZuB x hx1,ZER,ZBO,cond_false,Zt0,ZuB y hy1,ZER,ZBO,cond_false,ZvH hy,cond_false,Zyz x y hy (ZEz hx1 (by decide)) (ZEz hy1 (by decide)),ZER]
theorem ZBU (x y:Int) (hy:y≠0) (h1: -9223372036854775808≤x) (h2:x≤9223372036854775807) (h3: -9223372036854775808≤y) (h4:y≤9223372036854775807):Zqw x y=some (fOf (Rat.divInt x y),0):=by unfold Zqw;rw[ZvY x h1 h2,ZER,ZvY y h3 h4,ZER,ZzJ x y hy (ZDi h1 h2) (ZDi h3 h4),ZER]
theorem Zwx (x y:Int) (hy:y≠0) (h1: -9223372036854775808≤x) (h2:x≤9223372036854775807) (h3: -9223372036854775808≤y) (h4:y≤9223372036854775807):ZnV x y=some (fOf (Rat.divInt x y)):=by unfold ZnV;rw[Zts];unfold Zsm;rw[ZBU x y hy h1 h2 h3 h4,ZER]
theorem Zyl (x:Int) (h1: -9223372036854775808≤x) (h2:x≤9223372036854775807):Zoa x=some (fOf (x:Rat)):=by unfold Zoa;rw[Zts];unfold ZsC;rw[Zwx x 1 (by decide) h1 h2 (by decide) (by decide),ZER,ZyE]
theorem ZBI {a b:Nat} (h:wd a=wd b):a=b:=by rw[←Zqk a,←Zqk b,h]
theorem ZwW (x y:Int) (hx:Wl 100000 x) (hy:Wl 100000 y):ZoB (bg x) (bg y)=some (decide (x=y)):=by
 unfold Wl at hx hy;refine ZqZ ?_;unfold ZoB Zpo;rw[Zue,Zue,ZoD,ZoD,ZnP,ZnP]
 by_cases hs:decide (x < 0)=decide (y < 0)
 ·rw[hs,beq_self_eq_true,ZBO,cond_false]
  by_cases hl:(wd x.natAbs).length=(wd y.natAbs).length
  ·rw[hl,bne_self_eq_false,cond_false,ZnF];refine Zn7 (Zrl ZtQ (wd y.natAbs).length (by omega) (fun i (_:Unit)=>(iL (wd x.natAbs),((wd y.natAbs).length:Int),i,bg y)) (fun i _=>(wd x.natAbs).take i=(wd y.natAbs).take i)
    (Q:=fun r=>r= .ret false∧wd x.natAbs≠wd y.natAbs∨r= .brk ()∧wd x.natAbs=wd y.natAbs) () (by rw[List.take_zero,List.take_zero]) ?_ ?_) ?_
   ·rintro rec i ⟨⟩ hi hP ih;have hi2:i < (wd x.natAbs).length:=by omega
    unfold Zqe ZoX;dsimp only;rw[ZnT];refine⟨fun _=> ?_,fun h=>by have:=of_decide_eq_false h;omega⟩;rw[ZoD,ZrI hi2,ZnF,ZnD,ZrI hi,ZnF,ZnD,ZnT];refine⟨fun h=> ?_,fun h=> ?_⟩
    ·rw[ZnD];refine .inl ⟨rfl,fun e=> ?_⟩;have h1:(wd y.natAbs)[i]=(wd x.natAbs)[i]:=by simp only[e]
     rw[h1,bne_self_eq_false]at h;exact absurd h (by decide)
    ·rw[ZnH];refine⟨ZnJ (by omega),ih () ?_⟩;rw[bne_eq_false_iff_eq]at h;have h1:(wd y.natAbs)[i]=(wd x.natAbs)[i]:=by omega
     rw[ZEq hi2,ZEq hi,hP,h1]
   ·rintro rec ⟨⟩ hP;unfold Zqe ZoX;dsimp only;rw[ZnT];refine⟨fun h=>by have:=of_decide_eq_true h;omega,fun _=> ?_⟩;rw[ZnD];rw[ZEo,←hl,ZEo]at hP;exact .inr ⟨rfl,hP⟩
   ·rintro r (⟨rfl,h⟩ |⟨rfl,h⟩)
    ·exact ZnD.2 (decide_eq_false (fun e=>h (by rw[e]))).symm
    ·unfold ZqI;have h1:=ZBI h;refine ZnD.2 (decide_eq_true ?_).symm
     by_cases hy0:y < 0
     ·have hx0:x < 0:=by rw[decide_eq_true hy0]at hs;exact of_decide_eq_true hs
      omega
     ·have hx0:¬x < 0:=by rw[decide_eq_false hy0]at hs;exact of_decide_eq_false hs
      omega
  ·have:(((wd x.natAbs).length:Int) != ((wd y.natAbs).length:Int))=true:=by rw[bne_iff_ne];omega
   rw[this,cond_true,ZnD];exact(decide_eq_false (fun e=>hl (by rw[e]))).symm
 ·rw[beq_eq_false_iff_ne.2 hs,Bool.not_false,cond_true,cond_true,ZnD];exact(decide_eq_false (fun e=>hs (by rw[e]))).symm
theorem Zt3 (p q:Rat) (hp:Wq 256 p) (hq:Wq 256 q):ZnQ (fOf p) (fOf q)=some (decide (p=q)):=by
 have m:∀{x:Int},Wl 256 x→Wl 100000 x:=fun h=>ZEz h (by decide)
 unfold ZnQ Zp4 fOf;dsimp only;rw[ZwW _ _ (m hp.1) (m hq.1),ZER]
 by_cases h1:p.num=q.num
 ·rw[decide_eq_true h1,cond_true,ZwW _ _ (m hp.2) (m hq.2),ZER];congr 1
  by_cases h2:p.den=q.den
  ·rw[decide_eq_true (by omega),decide_eq_true (Rat.ext h1 h2)]
  ·rw[decide_eq_false (by omega),decide_eq_false (fun e=>h2 (by rw[e]))]
 ·rw[decide_eq_false h1,cond_false,decide_eq_false (fun e=>h1 (by rw[e]))]
end Go.Proofs
namespace Go.Proofs
open Go Eng
theorem ZAS (a b:Nat) (ha:(wd a).length≤100000) (hb:(wd b).length≤100000):Zp9 (iL (wd a)) (iL (wd b))=some (iL (wd (a*b))):=by
 refine ZqZ ?_;unfold Zp9;rw[ZnP,ZnP,ZnH,ZnH,ZnF,←ZEa,ZEb,ZwE];refine⟨ZnJ (by omega),Zvl (by omega), ?_⟩;generalize hm:(wd a).length=m at ha⊢
 generalize hn:(wd b).length=n at hb⊢
 refine Zn7 (Zrl Zus m (by omega) (fun i (s:List Nat)=>(iL (wd a),iL (wd b),i,iL s)) (fun i s=>s.length=m+n∧Dg s∧val s=val ((wd a).take i)*b∧∀k,i+n≤k→k < m+n→s[k]? =some 0)
  (Q:=fun y=>∃(o:List Nat),y=iL o∧Dg o∧o.length=m+n∧val o=a*b) (List.replicate (m+n) 0) ⟨by simp,Zzf _,by rw[ZxU];simp[val],fun k _ h=>by rw[List.getElem?_replicate,if_pos h]⟩ ?_ ?_) ?_
 ·rintro rec i s hlt ⟨hl,hd,hv,hz⟩ ih;have hi:i < (wd a).length:=by omega
  have h1:=(Zsu a).get hi;unfold Zq5 ZpI;dsimp only;rw[ZnT,ZnP,hm];refine⟨fun _=> ?_,fun h=>by simp only[decide_eq_false_iff_not]at h;omega⟩;rw[ZnF];generalize ex:(wd a)[i]=x at h1;refine Zn7 (Zrl Zur n (by omega) (fun j (t:Nat×List Nat)=>(iL (wd a),iL (wd b),(i:Int),(t.1:Int),j,iL t.2)) (fun j t=>t.1 < Bw∧t.2.length=m+n∧Dg t.2∧val t.2+Bw ^ (i+j)*t.1=val s+Bw ^ i*(x*val ((wd b).take j))∧∀k,i+n≤k→k < m+n→t.2[k]? =some 0)
   (Q:=fun y=>∃(c:Nat) (o:List Nat),y=(iL (wd a),iL (wd b),(i:Int),(c:Int),iL o)∧c < Bw∧o.length=m+n∧Dg o∧val o+Bw ^ (i+n)*c=val s+Bw ^ i*(x*b)∧∀k,i+n≤k→k < m+n→o[k]? =some 0) (0,s) ⟨by simp only[Bw];omega,hl,hd,by simp[val],hz⟩ ?_ ?_) ?_
  ·rintro rec2 j ⟨c,o⟩ hj ⟨hc,hol,hod,hov,hoz⟩ ih2;dsimp only at hc hol hod hov hoz ih2;have hj2:j < (wd b).length:=by omega
   have h2:=(Zsu b).get hj2;have hij:i+j < o.length:=by omega
   have h3:=hod.get hij;unfold Zq4 ZpH;dsimp only;rw[ZnT,ZnP,hn];refine⟨fun _=> ?_,fun h=>by simp only[decide_eq_false_iff_not]at h;omega⟩;rw[ZrI hi,ex,ZnF,ZnD,ZrI hj2,ZnF,ZnD,ZnH,ZnH,←ZEa,ZEb,ZvE hij,ZnF,ZnD,ZnH,ZnH,ZnH,ZnH];generalize ey:(wd b)[j]=y at h2;generalize ee:o[i+j]=e at h3;rw[ZBX hc h1 h2 h3,Zr8,show (32:Int)=((32:Nat):Int)from rfl,Zu2 32 (by omega),ZnP,ZuW];refine⟨ZnJ (by omega),ZqQ ⟨by omega,by omega⟩,ZnJ (by omega),ZqQ ⟨by omega,by omega⟩,by decide,ZnJ (by omega), ?_⟩;refine ih2 ((c+x*y+e) / Bw,o.set (i+j) ((c+x*y+e) % Bw)) ⟨Zz7 hc h1 h2 h3,by simp[hol],hod.set _ (ZEE _ (by decide)), ?_,fun k hk hk2=> ?_⟩
   ·dsimp only;have q1:=Zu0 o (i+j) ((c+x*y+e) % Bw) hij;rw[ee]at q1;have q2:Bw ^ (i+j)*((c+x*y+e) % Bw+Bw*((c+x*y+e) / Bw))=Bw ^ (i+j)*(c+x*y+e):=by rw[Nat.mod_add_div]
    rw[ZEF,ZEF,ZEF]at q2;rw[←Nat.add_assoc,ZEN,ZEG,ZnY hj2,ey,ZEF,ZEF];have q3:Bw ^ i*(x*(Bw ^ j*y))=Bw ^ (i+j)*(x*y):=by rw[ZEL,ZEG,ZEI x]
    omega
   ·dsimp only;rw[List.getElem?_set_ne (by omega)];exact hoz k hk hk2
  ·rintro rec2 ⟨c,o⟩ ⟨hc,hol,hod,hov,hoz⟩;dsimp only at hc hol hod hov hoz;unfold Zq4 ZpH;dsimp only;rw[ZnT,ZnP,hn];refine⟨fun h=>by have:=of_decide_eq_true h;omega,fun _=> ?_⟩;rw[ZnD];rw[ZEp (by omega),Zqk]at hov;exact⟨c,o,rfl,hc,hol,hod,hov,hoz⟩
  ·rintro y ⟨c,o,rfl,hc,hol,hod,hov,hoz⟩;dsimp only;unfold ZrM;rw[ZnP,hn,ZnH,ZnH,ZnH,←ZEa,ZEb,Zst hc,ZuW,ZnP];refine⟨ZnJ (by omega),ZqQ ⟨by omega,by omega⟩,ZnJ (by omega), ?_⟩;have hp:i+n < o.length:=by omega
   have h0:o[i+n]=0:=by have:=hoz (i+n) (ZEy _) (by omega);rw[ZEf hp]at this;exact Option.some.inj this
   have q1:=Zu0 o (i+n) c hp;rw[h0,Nat.mul_zero,Nat.add_zero]at q1;refine ih (o.set (i+n) c) ⟨by simp[hol],hod.set _ hc, ?_,fun k hk hk2=> ?_⟩
   ·rw[q1,hov,hv,ZnY hi,ex,Nat.add_mul,ZEG]
   ·rw[List.getElem?_set_ne (by omega)];exact hoz k (by omega) hk2
 ·rintro rec s ⟨hl,hd,hv,hz⟩;unfold Zq5 ZpI;dsimp only;rw[ZnT,ZnP,hm];refine⟨fun h=>by have:=of_decide_eq_true h;omega,fun _=> ?_⟩;rw[ZnD];rw[ZEp (by omega),Zqk]at hv;exact⟨s,rfl,hd,hl,hv⟩
 ·rintro y ⟨o,rfl,hd,hl,hv⟩;unfold ZrL;rw[ZvO hd (by omega),ZnF,ZnD,ZnD,hv]
theorem ZBl (a b:Nat) (ha:(wd a).length≤100000) (hb:(wd b).length≤100000):∃o:List Nat,Zpb (iL (wd a)) (iL (wd b))=some (iL o)∧Dg o∧o.length≤100001∧val o=a+b:=by
 obtain⟨m,hma,hmb,hm2,hmx⟩:∃m:Nat,(wd a).length≤m∧(wd b).length≤m∧m≤100000∧∀i,i < m→i < (wd a).length∨i < (wd b).length:=by
  by_cases h:(wd a).length≤(wd b).length
  ·exact⟨(wd b).length,h,ZEy _,hb,fun i hi=> .inr hi⟩
  ·exact⟨(wd a).length,ZEy _,by omega,ha,fun i hi=> .inl hi⟩
 suffices h:wp (Zpb (iL (wd a)) (iL (wd b))) (fun x=>∃o:List Nat,x=iL o∧Dg o∧o.length≤100001∧val o=a+b) by obtain⟨x,hx,o,rfl,h⟩:=h;exact⟨o,hx,h⟩
 unfold Zpb;rw[ZnF];refine Zn7 (Zrl Zuv m (by omega) (fun i (s:Nat×List Nat)=>(iL (wd a),iL (wd b),(s.1:Int),i,iL s.2)) (fun i s=>s.1≤1∧s.2.length=i∧Dg s.2∧val s.2+Bw ^ i*s.1=val ((wd a).take i)+val ((wd b).take i))
  (Q:=fun y=>∃(c:Nat) (o:List Nat),y=((c:Int),iL o)∧c≤1∧Dg o∧o.length=m∧val o+Bw ^ m*c=a+b) (0,[]) ⟨by simp,rfl,ZvG,by simp[val]⟩ ?_ ?_) ?_
 ·rintro rec i ⟨c,o⟩ hlt ⟨hc,hl,hd,hv⟩ ih;dsimp only at hc hl hd hv ih;have h1:=ZvX (Zsu a) i;have h2:=ZvX (Zsu b) i;have j3:∀x y:Nat,(wd a).getD i 0=x→(wd b).getD i 0=y→wp (Zpk (fun a b c i out=>rec (a,b,c,i,out)) (iL (wd a)) (iL (wd b)) ((c+x+y:Nat):Int) (i:Int) (iL o)) (fun y=>∃(c:Nat) (o:List Nat),y=((c:Int),iL o)∧c≤1∧Dg o∧o.length=m∧val o+Bw ^ m*c=a+b):=fun x y ex ey=>by
   rw[ex]at h1;rw[ey]at h2;unfold Zpk;rw[ZnH,ZnH,ZnH,Zr8,show (32:Int)=((32:Nat):Int)from rfl,Zu2 32 (by omega),ZnP];refine⟨ZuL (by simp only[ZEk];omega),by decide,ZnJ (by omega), ?_⟩;have:=ih ((c+x+y) / Bw,o++[(c+x+y) % Bw]) ⟨by simp only[Bw]at h1 h2⊢;omega,by simp[hl],hd.app (Zvc (ZEE _ (by decide))), ?_⟩
   ·rw[ZwF]at this;exact this
   ·dsimp only;rw[ZsF,hl,ZEN,Zte,Zte,ex,ey,Nat.add_assoc,ZEG,←ZEF,Nat.mod_add_div,ZEF,ZEF];omega
  have j2:∀x:Nat,(wd a).getD i 0=x→wp (Zpl (fun a b c i out=>rec (a,b,c,i,out)) (iL (wd a)) (iL (wd b)) ((c+x:Nat):Int) (i:Int) (iL o)) (fun y=>∃(c:Nat) (o:List Nat),y=((c:Int),iL o)∧c≤1∧Dg o∧o.length=m∧val o+Bw ^ m*c=a+b):=fun x ex=>by
   have hx:=h1;rw[ex]at hx;unfold Zpl;rw[ZnP,ZnT];refine⟨fun h=> ?_,fun h=> ?_⟩
   ·have hib:i < (wd b).length:=by have:=of_decide_eq_true h;omega
    have ey:(wd b).getD i 0=(wd b)[i]:=by rw[ZEe,ZEf hib];rfl
    have hy:=(Zsu b).get hib;rw[ZrI hib,ZnF,ZnD,ZnX (by simp only[Bw]at hy;omega),←ZEa,ZnX (by simp only[Bw]at hx hy;omega)];exact j3 x _ ex ey
   ·have hib:¬i < (wd b).length:=by have:=of_decide_eq_false h;omega
    exact j3 x 0 ex (by rw[ZEe,ZEg (by omega)];rfl)
  have j1:wp (ZoG (fun a b c i out=>rec (a,b,c,i,out)) (iL (wd a)) (iL (wd b)) (c:Int) (i:Int) true (iL o)) (fun y=>∃(c:Nat) (o:List Nat),y=((c:Int),iL o)∧c≤1∧Dg o∧o.length=m∧val o+Bw ^ m*c=a+b):=by
   unfold ZoG;rw[cond_true,ZnP,ZnT];refine⟨fun h=> ?_,fun h=> ?_⟩
   ·have hib:i < (wd a).length:=by have:=of_decide_eq_true h;omega
    have ey:(wd a).getD i 0=(wd a)[i]:=by rw[ZEe,ZEf hib];rfl
    have hy:=(Zsu a).get hib;rw[ZrI hib,ZnF,ZnD,ZnX (by simp only[Bw]at hy;omega),←ZEa,ZnX (by simp only[Bw]at hy;omega)];exact j2 _ ey
   ·have hib:¬i < (wd a).length:=by have:=of_decide_eq_false h;omega
    exact j2 0 (by rw[ZEe,ZEg (by omega)];rfl)
  unfold Zra ZpL;dsimp only;rw[ZnP,ZnP,ZnT];refine⟨fun _=>j1,fun h=> ?_⟩;have hib:¬i < (wd a).length:=by have:=of_decide_eq_false h;omega
  rw[decide_eq_true (by rcases hmx i hlt with h |h<;>omega)];exact j1
 ·rintro rec ⟨c,o⟩ ⟨hc,hl,hd,hv⟩;dsimp only at hc hl hd hv;unfold Zra ZpL;dsimp only;rw[ZnP,ZnP,decide_eq_false (by omega),cond_false,decide_eq_false (by omega)];unfold ZoG;rw[cond_false,ZnD];rw[ZEp hma,ZEp hmb,Zqk,Zqk]at hv;exact⟨c,o,rfl,hc,hd,hl,hv⟩
 ·rintro y ⟨c,o,rfl,hc,hd,hl,hv⟩;dsimp only;unfold ZrU;have e:iL o++[(c:Int)]=iL (o++[c]):=by rw[ZwF];rfl
  rw[Zst (by omega),ZnH,ZnP,e,ZnD];exact⟨ZuL (by simp only[ZEk];omega),_,rfl,hd.app (Zvc (by unfold Bw;omega)),by simp;omega,by rw[ZsF,hl,hv]⟩
end Go.Proofs
namespace Go.Proofs
open Go Eng
theorem Zxy (x y:Int) (hx:Wl 50000 x) (hy:Wl 50000 y):Zob (bg x) (bg y)=some (bg (x*y)):=by unfold Zob;have:=ZwS hx hy;rw[ZoD,ZoD,ZAS _ _ (by omega) (by omega),ZER,ZvJ _ (Zsu _) (by omega),Zqk,ZER,Zzl]
theorem ZzG (x y:Int) (hx:Wl 50000 x) (hy:Wl 50000 y):ZpM (bg x) (bg y)=some (bg (x+y)):=by
 unfold Wl at hx hy;unfold ZpM;have h1:=Zya hx hy;rw[ZoD,ZoD,Zue,Zue];have opp:decide (x < 0)≠decide (y < 0)→Zn1 (iL (wd x.natAbs)) (iL (wd y.natAbs))=some (ZwY x.natAbs y.natAbs):=fun _=>ZwK _ _ (by omega) (by omega)
 by_cases hs:decide (x < 0)=decide (y < 0)
 ·obtain⟨o,ho,hd,hl,hv⟩:=ZBl x.natAbs y.natAbs (by omega) (by omega);rw[hs,beq_self_eq_true,cond_true,ho,ZER,ZvJ _ hd (by omega),hv,ZER];congr 2
  by_cases hy0:y < 0
  ·have hx0:x < 0:=by rw[decide_eq_true hy0]at hs;exact of_decide_eq_true hs
   rw[decide_eq_true hy0,if_pos rfl];omega
  ·have hx0:¬x < 0:=by rw[decide_eq_false hy0]at hs;exact of_decide_eq_false hs
   rw[decide_eq_false hy0,if_neg (by decide)];omega
 ·rw[beq_eq_false_iff_ne.2 hs,cond_false,opp hs,ZER];rcases ZEC x.natAbs y.natAbs with hlt |hge
  ·have:=Zq1 (Nat.sub_le y.natAbs x.natAbs);rw[ZtY hlt,decide_eq_false (by omega),cond_false,Zwv _ _ (by omega) (by omega),ZER,ZvJ _ (Zsu _) (by omega),Zqk,ZER];congr 2
   by_cases hy0:y < 0
   ·have hx0:¬x < 0:=fun h=>hs (by rw[decide_eq_true hy0,decide_eq_true h])
    rw[decide_eq_true hy0,if_pos rfl];omega
   ·have hx0:x < 0:=Decidable.byContradiction fun h=>hs (by rw[decide_eq_false hy0,decide_eq_false h])
    rw[decide_eq_false hy0,if_neg (by decide)];omega
  ·have hn:ZwY x.natAbs y.natAbs≥0:=by
    rcases ZEC y.natAbs x.natAbs with h |h
    ·rw[ZtP h];decide
    ·rw[show x.natAbs=y.natAbs by omega,Ztc];decide
   have:=Zq1 (Nat.sub_le x.natAbs y.natAbs);rw[decide_eq_true hn,cond_true,Zwv _ _ hge (by omega),ZER,ZvJ _ (Zsu _) (by omega),Zqk,ZER];congr 2
   by_cases hx0:x < 0
   ·have hy0:¬y < 0:=fun h=>hs (by rw[decide_eq_true hx0,decide_eq_true h])
    rw[decide_eq_true hx0,if_pos rfl];omega
   ·have hy0:y < 0:=Decidable.byContradiction fun h=>hs (by rw[decide_eq_false hx0,decide_eq_false h])
    rw[decide_eq_false hx0,if_neg (by decide)];omega
theorem Zy4 (z:Int) (hz:Wl 100000 z):Zpx (bg z)=some (bg (-z)):=by
 unfold Wl at hz;unfold Zpx;rw[Zue,ZoD,ZvJ _ (Zsu _) (by omega),Zqk,ZER];congr 2
 by_cases h:z < 0
 ·rw[decide_eq_true h,if_neg (by decide)];omega
 ·rw[decide_eq_false h,if_pos (by decide)];omega
theorem Zxw (q:Rat) (h:Wq 256 q):ZoP (fOf q)=some true:=by
 have hn:=h.1;have hd:=h.2;have hd0:=q.den_nz;unfold ZoP Zop fOf;dsimp only;rw[Zt0,ZuB _ h.1,ZER,ZBO,cond_false,Zt0,ZuB _ h.2,ZER,ZBO,cond_false,Zue,decide_eq_false (by omega),cond_false,ZvH (by omega),cond_false,ZoD,ZoD,ZnP];unfold Wl at hn hd;have h1:(wd 1).length≤1:=Zt2 (by decide);have hc:ZEw q.num.natAbs (q.den:Int).natAbs=1:=q.reduced
 by_cases h0:q.num=0
 ·rw[h0]at hc;have e:(q.den:Int).natAbs=1:=by rwa [show (0:Int).natAbs=0 from rfl,Nat.gcd_zero_left]at hc
  rw[h0,show (0:Int).natAbs=0 from rfl,ZrJ,e,←Zwz,ZwK 1 1 (by omega) (by omega),Ztc];rfl
 ·have hl:=Zqd (n:=q.num.natAbs) (by omega);rw[beq_eq_false_iff_ne.2 (by omega),cond_false,Zzc _ _ (by omega) (by omega) (by omega) (by omega),hc,ZER,←Zwz,ZwK 1 1 (by omega) (by omega),Ztc];rfl
theorem Zzi {a b:Rat} (qa:Wq 256 a) (qb:Wq 256 b):Zpc (fOf a) (fOf b)=some (ZyH a b):=by
 have w:∀{x y:Int},Wl 256 x→Wl 256 y→Wl 50000 (x*y):=fun hx hy=>by unfold Wl;rw[ZD7];exact ZEz (ZwS hx hy) (by decide)
 have m:∀{x:Int},Wl 256 x→Wl 50000 x:=fun h=>ZEz h (by decide)
 unfold Zpc Zqs;rw[Zxw a qa,ZER,ZBO,cond_false,Zxw b qb,ZER,ZBO,cond_false];show ((Zob (bg a.num) (bg (b.den:Int))).bind fun q=>(Zob (bg b.num) (bg (a.den:Int))).bind _)=_;rw[Zxy _ _ (m qa.1) (m qb.2),ZER,Zxy _ _ (m qb.1) (m qa.2),ZER,Zy4 _ (ZEz (w qb.1 qa.2) (by decide)),ZER];have w2:Wl 50000 (-(b.num*(a.den:Int))):=by unfold Wl;rw[ZD9];exact w qb.1 qa.2
 rw[ZzG _ _ (w qa.1 qb.2) w2,ZER,Zue,ZoD,ZnP];unfold ZyH;have h1:=Zwq a b;have h2:=Zwq b a;generalize a.num*(b.den:Int)=x at*
 generalize b.num*(a.den:Int)=y at*
 by_cases hl:a < b
 ·have hlt:=h1.1 hl;have:=Zqd (n:=(x+ -y).natAbs) (by omega);rw[if_pos hl,beq_eq_false_iff_ne.2 (by omega),cond_false,decide_eq_true (by omega),cond_true]
 ·have hn:¬x < y:=fun h=>hl (h1.2 h)
  rw[if_neg hl]
  by_cases hg:b < a
  ·have hlt:=h2.1 hg;have:=Zqd (n:=(x+ -y).natAbs) (by omega);rw[if_pos hg,beq_eq_false_iff_ne.2 (by omega),cond_false,decide_eq_false (by omega),cond_false]
  ·have hn2:¬y < x:=fun h=>hg (h2.2 h)
   rw[if_neg hg,show x+ -y=0 by omega,show (0:Int).natAbs=0 from rfl,ZrJ];rfl
theorem Zy6 {a b:Rat} (qa:Wq 256 a) (qb:Wq 256 b):ZpE (fOf a) (fOf b)=some (decide (a < b)):=by
 unfold ZpE;rw[Zzi qa qb,ZER];unfold ZyH
 by_cases h:a < b
 ·rw[if_pos h,decide_eq_true h];rfl
 ·rw[if_neg h,decide_eq_false h];split<;>rfl
theorem Zxp:ZoY=some (fOf 0):=by unfold ZoY;rw[Zyl 0 (by decide) (by decide),ZER];rfl
end Go.Proofs
namespace Go.Proofs
open Go Eng
theorem ZCs:∀x y:Str,Op.bytesLess x y=decide (x < y)
 |x,[]=>by
  have:¬x < []:=by simp
  rw[decide_eq_false this];cases x<;>rfl
 | [],b::y=>by
  have:([]:Str) < b::y:=by simp
  rw[decide_eq_true this];rfl
 |a::x,b::y=>by rw[Op.bytesLess,ZCs x y,Bool.eq_iff_iff];simp only[Bool.or_eq_true,Bool.and_eq_true,decide_eq_true_eq,beq_iff_eq];rw[List.cons_lt_cons_iff]
def Srt (l:List Str):Prop:=l.Pairwise (fun a b=>a≤b)∧l.Nodup
theorem ZyP (l:List Str):Srt (ZtU l):=⟨ZvL l,ZtT l⟩
theorem ZyQ {l:List Str} (h:Srt l) {i j:Nat} (hij:i < j) (hj:j < l.length):l[i] < l[j]:=by
 have h1:=List.pairwise_iff_getElem.1 h.1 i j (by omega) hj hij;have h2:=List.pairwise_iff_getElem.1 h.2 i j (by omega) hj hij;rcases List.le_iff_lt_or_eq.1 h1 with h3 |h3
 ·exact h3
 ·exact absurd h3 h2
theorem ZAV (x y:Str):Zsj x y=some (decide (x < y)):=by unfold Zsj ZrH ZqP;rw[show (x == x)=true by simp];rw[←ZCs];rfl
theorem ZBW {i j:Nat} (h:i+j≤4611686018427387904):IntKind.wrap .i64 (shrK .u64 (IntKind.wrap .u64 ((i:Int)+(j:Int))) 1)=(((i+j) / 2:Nat):Int):=by rw[show (i:Int)+(j:Int)=((i+j:Nat):Int) by omega,ZnX (by omega),show (1:Int)=((1:Nat):Int)from rfl,Zu2 1 (by decide),wrap_i64 (by omega)]
theorem ZyT {xs:List Str} (hs:Srt xs) (hl:xs.length≤1000000000000) (t:Str):wp (Zn9 xs t) (fun r=>r.2=xs.contains t):=by
 unfold Zn9;rw[ZnF];refine Zn7 (Zv1 ZsD (fun(s:Nat×Nat)=>(xs,t,(xs.length:Int),(s.1:Int),(s.2:Int)))
  (fun s=>(s.1≤s.2∧s.2≤xs.length)∧(∀k (h:k < xs.length),k < s.1→xs[k] < t)∧(∀k (h:k < xs.length),s.2≤k→¬xs[k] < t)) (fun s=>s.2 - s.1)
  (Q:=fun x=>∃i:Nat,x=(xs,t,(xs.length:Int),(i:Int))∧i≤xs.length∧(∀k (h:k < xs.length),k < i→xs[k] < t)∧(∀k (h:k < xs.length),i≤k→¬xs[k] < t)) (0,xs.length) ⟨⟨Nat.zero_le _,ZEy _⟩,fun k _ h=>absurd h (Nat.not_lt_zero _),fun k h h'=>absurd h (by dsimp only at h';omega)⟩ (by dsimp only;omega) ?_) ?_
 ·rintro rec ⟨i,j⟩ ⟨⟨h1,h2⟩,hlo,hhi⟩ ih;dsimp only at h1 h2 hlo hhi ih⊢
  unfold Zqm ZoN;dsimp only;rw[ZBW (by omega)];rw[ZnT];refine⟨fun h=> ?_,fun h=> ?_⟩
  ·simp only[decide_eq_true_eq]at h;have hij:i < j:=by omega
   have hm:(i+j) / 2 < xs.length:=by omega
   rw[ZnH,ZnH];refine⟨ZnJ (by omega),by decide, ?_⟩;rw[ZvD hm,ZER,ZAV,ZER,ZnT];refine⟨fun hc=> ?_,fun hc=> ?_⟩
   ·simp only[decide_eq_true_eq]at hc;rw[ZnH];refine⟨ZnJ (by omega), ?_⟩;have:=ih ((i+j) / 2+1,j) ⟨⟨by dsimp only;omega,h2⟩,fun k hk hlt=> ?_,hhi⟩ (by dsimp only;omega)
    ·dsimp only at this
     rwa [show (((i+j) / 2+1:Nat):Int)=(((i+j) / 2:Nat):Int)+1 by omega]at this
    ·dsimp only at hlt;rcases ZEC k ((i+j) / 2)with h3 |h3
     ·exact List.lt_trans (ZyQ hs h3 hm) hc
     ·obtain rfl:k=(i+j) / 2:=by omega
      exact hc
   ·simp only[decide_eq_false_iff_not]at hc;refine ih (i,(i+j) / 2) ⟨⟨by dsimp only;omega,by dsimp only;omega⟩,hlo,fun k hk hle=> ?_⟩ (by dsimp only;omega);dsimp only at hle;rcases ZEC ((i+j) / 2) k with h3 |h3
    ·exact fun h4=>hc (List.lt_trans (ZyQ hs h3 hk) h4)
    ·obtain rfl:k=(i+j) / 2:=by omega
     exact hc
  ·simp only[decide_eq_false_iff_not]at h;obtain rfl:i=j:=by omega
   rw[ZnD];exact⟨i,rfl,h2,hlo,hhi⟩
 ·rintro x ⟨i,rfl,hi,hlo,hhi⟩;dsimp only;unfold Zo1 ZnR;have key:xs.contains t=true↔∃h:i < xs.length,xs[i]=t:=by
   rw[ZEd];constructor
   ·intro hm;obtain⟨k,hk,hkt⟩:=List.getElem_of_mem hm;have h1:i≤k:=by
     rcases ZEC k i with h |h
     ·have:=hlo k hk h;rw[hkt]at this;exact absurd this (List.lt_irrefl t)
     ·exact h
    rcases ZEC i k with h |h
    ·have h2:=ZyQ hs h hk;rw[hkt]at h2;exact absurd h2 (hhi i (by omega) (ZEy _))
    ·obtain rfl:i=k:=by omega
     exact⟨hk,hkt⟩
   ·rintro⟨h,rfl⟩;exact List.getElem_mem h
  rw[ZnT];refine⟨fun h=> ?_,fun h=> ?_⟩
  ·simp only[decide_eq_true_eq]at h;have hi':i < xs.length:=by omega
   rw[ZvD hi',ZER,ZnT];refine⟨fun hc=> ?_,fun hc=> ?_⟩
   ·rw[ZnD];exact(key.2 ⟨hi',by simpa using hc⟩).symm
   ·have hn:xs.contains t=false:=by rw[Bool.eq_false_iff];intro h3;obtain⟨_,h4⟩:=key.1 h3;rw[h4]at hc;simp at hc
    rw[ZER];unfold Zqy;rw[ZER,show (xs[i] == xs[i])=true by simp,ZBO,cond_false,ZnD,hn]
  ·simp only[decide_eq_false_iff_not]at h;rw[ZnD]
   symm
   rw[Bool.eq_false_iff];intro h3;obtain⟨h4,_⟩:=key.1 h3;omega
def comm (a b:List Str):Nat:=(a.filter fun x=>b.contains x).length
theorem ZwJ (a b:List Str):comm a b≤a.length:=ZEj _ _
theorem ZyS {a b:List Str} (hb:Srt b) (hla:a.length≤1000000000000) (hlb:b.length≤1000000000000):Zrb a b=some (comm a b:Int):=by
 refine ZqZ ?_;unfold Zrb;rw[ZnF];refine Zn7 (Zrl Zu4 a.length (by omega) (fun i (n:Nat)=>(b,(n:Int),a,(a.length:Int),i)) (fun i n=>n=comm (a.take i) b)
  (Q:=fun x=>x=(comm a b:Int)) 0 (by simp[comm]) ?_ ?_) ?_
 ·rintro rec i n hi rfl ih;unfold Zsc ZqC;dsimp only;rw[decide_eq_true (show (i:Int) < (a.length:Int) by omega),cond_true,ZvD hi,ZER,ZnF];refine Zn7 (ZyT hb hlb _) fun⟨q,ok⟩ hok=> ?_
  dsimp only at hok⊢
  have hc:comm (a.take (i+1)) b=comm (a.take i) b+(if b.contains a[i]then 1 else 0):=by unfold comm;rw[ZEq hi,List.filter_append,ZEi];congr 1;cases h:b.contains a[i]<;>(simp only[List.filter_cons,h,List.filter_nil];rfl)
  have hle:=ZwJ (a.take i) b;rw[ZEl]at hle;have hk:inK .i64 ((i:Int)+1)=true:=ZnJ (by omega);unfold Zrn;rw[ZnT];refine⟨fun h=> ?_,fun h=> ?_⟩
  ·rw[ZnH,ZnH];refine⟨ZnJ (by omega),hk, ?_⟩;have:=ih (comm (a.take i) b+1) (by rw[hc,←hok,h];rfl)
   rwa [show ((comm (a.take i) b+1:Nat):Int)=(comm (a.take i) b:Int)+1 by omega]at this
  ·rw[ZnH];exact⟨hk,ih (comm (a.take i) b) (by rw[hc,←hok,h];rfl)⟩
 ·rintro rec n rfl;unfold Zsc ZqC;dsimp only;rw[decide_eq_false (show ¬(a.length:Int) < (a.length:Int) by omega),cond_false,ZnD,ZEo]
 ·rintro x rfl;unfold ZsE;rw[ZnD]
end Go.Proofs
namespace Go.Proofs
open Go Eng
theorem Zxb {x y:Int} (hy:y≠0) (h1:x.natAbs < 16) (h2:y.natAbs < 16):Sz 4 (Rat.divInt x y):=Zvx (k:=4) hy h1 h2
theorem ZDJ:ZqH [48]=ZrF false [] [1] false false [] []:=by kernel_rfl
theorem dec0:ZqH [48]=some (fOf (Rat.divInt 0 1),true):=by
 rw[ZDJ];unfold ZrF;have e0:iL (wd 0)=[]:=by kernel_rfl
 have e1:iL (wd 1)=[1]:=by kernel_rfl
 have l0:Nat.ble (wd 0).length 50000=true:=by kernel_rfl
 have l1:Nat.ble (wd 1).length 50000=true:=by kernel_rfl
 have w0:=Nat.le_of_ble_eq_true l0;have w1:=Nat.le_of_ble_eq_true l1;have h1:=Zsv false 0 (by omega);have h2:=Zsv false 1 (by omega);rw[e0]at h1;rw[e1]at h2;rw[h1,ZER,h2,ZER];have:=Zu9 0 1 (by decide) w0 w1;simp only[Bool.false_eq_true,if_false];rw[show ((0:Nat):Int)=0 from rfl,show ((1:Nat):Int)=1 from rfl,this,ZER]
theorem can0:Zr9 4 [48]=some ([48],true):=by
 have h:Zr9 4 [48]=(ZsO [48]).bind fun(a,b)=>some (a,b):=by kernel_rfl
 rw[h];unfold ZsO;rw[dec0];show _=_
 kernel_rfl
theorem valZ:ZpR (ZnC.mk false [48])=some (fOf (Rat.divInt 0 1),true):=by
 unfold ZpR Zup;rw[can0];dsimp only;rw[cond_false,ZER];dsimp only;rw[ZBO,cond_false,dec0];show _=_
 kernel_rfl
def ZDu:List (Str×Int):=[([45,51], -3),([45,50], -2),([45,49], -1),([49],1),([50],2),([51],3),([52],4),([53],5),([54],6),([55],7),([56],8),([49,48],10)]
def ZA5:List (Str×Int):=[([45,49,46,53], -3),([49,46,53,48],3)]
def noT:List Str:=[[97],[98],[99],[100],[120],[],[49,46,50,46,51],[107,48],[107,49],[107,50],[107,51],[107,52],[107,53],[107,54],[107,55],[107,56],[107,57],[107,49,48],[107,49,49],[107,49,50],[107,49,51]]
def fx (n:Int) (d:Int):ZnA:=⟨⟨decide (n < 0),if n=0 then []else [(n.natAbs:Int)]⟩,⟨false,[d]⟩⟩
theorem Zy2:(ZDu.all fun p=>decide (ZpR (ZnC.mk false p.1)=some (fx p.2 1,true)))=true:=by kernel_rfl
theorem ZzQ:(ZA5.all fun p=>decide (ZpR (ZnC.mk false p.1)=some (fx p.2 2,true)))=true:=by kernel_rfl
theorem Zz5:(noT.all fun s=>match ZpR (ZnC.mk false s)with |some (_,false)=>true |_=>false)=true:=by kernel_rfl
theorem ZB6:(ZDu.all fun p=>decide (fx p.2 1=fOf (Rat.divInt p.2 1))&&decide (p.2.natAbs < 16))=true:=by kernel_rfl
theorem ZBa:(ZA5.all fun p=>decide (fx p.2 2=fOf (Rat.divInt p.2 2))&&decide (p.2.natAbs < 16))=true:=by kernel_rfl
def texts:List Str:=[48]::(ZDu.map (·.1)++ZA5.map (·.1)++noT)
def Zwh (c:ZnC):Prop:=c=ZnC.mk true []∨∃s∈texts,c=ZnC.mk false s
theorem Zzz {c:ZnC} (h:Zwh c):(∃q,ZpR c=some (fOf q,true)∧Sz 4 q)∨(∃f,ZpR c=some (f,false)):=by
 rcases h with rfl |⟨s,hs,rfl⟩
 ·refine .inr ⟨fOf 0, ?_⟩;unfold ZpR;dsimp only;rw[cond_true,Zw6];rfl
 ·rcases ZEm.1 hs with rfl |hs
  ·exact .inl ⟨_,valZ,Zxb (by decide) (by decide) (by decide)⟩
  ·rcases List.mem_append.1 hs with hs |hs
   ·rcases List.mem_append.1 hs with hs |hs
    ·obtain⟨p,hp,rfl⟩:=List.mem_map.1 hs;have h1:=of_decide_eq_true (ZEc.1 Zy2 p hp);have h2:=ZEc.1 ZB6 p hp;simp only[Bool.and_eq_true,decide_eq_true_eq]at h2;rw[h2.1]at h1;exact .inl ⟨_,h1,Zxb (by decide) h2.2 (by decide)⟩
    ·obtain⟨p,hp,rfl⟩:=List.mem_map.1 hs;have h1:=of_decide_eq_true (ZEc.1 ZzQ p hp);have h2:=ZEc.1 ZBa p hp;simp only[Bool.and_eq_true,decide_eq_true_eq]at h2;rw[h2.1]at h1;exact .inl ⟨_,h1,Zxb (by decide) h2.2 (by decide)⟩
   ·have h1:=ZEc.1 Zz5 s hs;split at h1;rotate_left;simp at h1;rename_i f hf;exact .inr ⟨f,hf⟩
open Classical in
noncomputable def nv (c:ZnC):Option Rat:=if h:∃q,ZpR c=some (fOf q,true)∧Sz 4 q then some h.choose else none
theorem ZyZ {c:ZnC} {q:Rat} (h:nv c=some q):ZpR c=some (fOf q,true)∧Sz 4 q:=by unfold nv at h;split at h;rotate_left;simp at h;rename_i hx;obtain rfl:=Option.some.inj h;exact hx.choose_spec
theorem Zy0 {c:ZnC} (hc:Zwh c) (h:nv c=none):∃f,ZpR c=some (f,false):=by
 unfold nv at h;split at h
 ·simp at h
 ·rename_i hx;exact(Zzz hc).resolve_left hx
theorem Zw8 {d:ZnB} (hd:ZuR d) {l:List Str} (h0:1≤l.length) (h1:l.length≤1000):wp (Zn2 d l) (fun r=>r.1∈l∧ZuR r.2):=by
 unfold Zn2;rw[ZnF];refine Zn7 (ZvW hd (by omega)) fun⟨q,d1⟩ ⟨hq,hd1⟩=> ?_
 dsimp only at hq hd1⊢
 rw[ZnF,ZzZ];refine⟨hq.1,by omega, ?_⟩;rw[ZnD];exact⟨List.getElem_mem _,hd1⟩
theorem Zxz:([([97]:Str),([98]:Str),([99]:Str),([49]:Str),([50]:Str),([51]:Str),([49,48]:Str),([120]:Str),([45,49,46,53]:Str),([50]:Str),[100],[],([49,46,50,46,51]:Str),([49,46,53,48]:Str)]:List Str).all (fun s=>texts.contains s)=true:=by kernel_rfl
theorem ZwU:(((List.range 12).map fun i:Nat=>Lib.itoa ((i:Int) - 3))++(List.range 14).map fun i:Nat=>([107]:Str)++Lib.itoa (i:Int)).all (fun s=>texts.contains s)=true:=by kernel_rfl
theorem ZuV {s:Str} (h:texts.contains s=true):Zwh (ZnC.mk false s):= .inr ⟨s,ZEd.1 h,rfl⟩
theorem ZBe {d:ZnB} (hd:ZuR d):wp (Zqx d) (fun r=>Zwh r.1∧ZuR r.2):=by
 unfold Zqx;rw[ZnF];refine Zn7 (ZvW hd (by omega)) fun⟨q,d1⟩ ⟨hq,hd1⟩=> ?_
 dsimp only at hq hd1⊢
 rw[ZnT];refine⟨fun _=> ?_,fun _=> ?_⟩
 ·rw[ZnD];exact⟨.inl rfl,hd1⟩
 ·rw[ZnF];refine Zn7 (Zw8 hd1 (by decide) (by decide)) fun⟨s,d2⟩ ⟨hs,hd2⟩=> ?_
  dsimp only at hs hd2⊢
  rw[ZnD];refine⟨ZuV (ZEc.1 Zxz s ?_),hd2⟩;simp only[ZEm,ZEn,or_false]at hs⊢
  rcases hs with h |h |h |h |h |h |h |h |h |h<;>simp[h]
theorem ZyC {n:Int} (h: -3≤n∧n≤8):texts.contains (Lib.itoa n)=true:=by refine ZEc.1 ZwU _ (List.mem_append_left _ (List.mem_map.2 ⟨(n+3).toNat,List.mem_range.2 (by omega), ?_⟩));rw[show (((n+3).toNat:Nat):Int) - 3=n by omega]
theorem ZA2 {n:Int} (h:0≤n∧n < 14):texts.contains (([107]:Str)++Lib.itoa n)=true:=by refine ZEc.1 ZwU _ (List.mem_append_right _ (List.mem_map.2 ⟨n.toNat,List.mem_range.2 (by omega), ?_⟩));rw[show ((n.toNat:Nat):Int)=n by omega]
theorem Zy1 {d:ZnB} (hd:ZuR d):wp (ZpO d) (fun r=>Zwh r.1∧ZuR r.2):=by
 unfold ZpO;rw[ZnF];refine Zn7 (ZvW hd (by omega)) fun⟨q,d1⟩ ⟨hq,hd1⟩=> ?_
 dsimp only at hq hd1⊢
 rw[ZnT];refine⟨fun _=> ?_,fun _=> ?_⟩
 ·rw[ZnD];exact⟨.inl rfl,hd1⟩
 rw[ZnT];refine⟨fun _=> ?_,fun _=> ?_⟩
 ·rw[ZnF];refine Zn7 (Zw8 hd1 (by decide) (by decide)) fun⟨s,d2⟩ ⟨hs,hd2⟩=> ?_
  dsimp only at hs hd2⊢
  rw[ZnD];refine⟨ZuV (ZEc.1 Zxz s ?_),hd2⟩;simp only[ZEm,ZEn,or_false]at hs⊢
  rcases hs with h |h |h |h<;>simp[h]
 ·rw[ZnF];refine Zn7 (ZvW hd1 (by omega)) fun⟨q,d2⟩ ⟨hq,hd2⟩=> ?_
  dsimp only at hq hd2⊢
  unfold Zsz;rw[ZnH,ZnF,ZnD,ZnD];exact⟨ZnJ (by omega),ZuV (ZyC (by omega)),hd2⟩
theorem abcd:([([97]:Str),([98]:Str),([99]:Str),([100]:Str)]:List Str).all (fun s=>texts.contains s)=true:=by kernel_rfl
theorem ZyD {n:Int} (h:0≤n∧n < 14):(Lib.itoa n).length≤2:=by
 have h1:((List.range 14).all fun i:Nat=>decide ((Lib.itoa (i:Int)).length≤2))=true:=by kernel_rfl
 have:=of_decide_eq_true (ZEc.1 h1 n.toNat (List.mem_range.2 (by omega)))
 rwa [show ((n.toNat:Nat):Int)=n by omega]at this
theorem Zx2:(([([105,100]:Str),([110,97,109,101]:Str),([85,110,105,116,32,80,114,105,99,101]:Str),([99,105,116,121]:Str),([117,110,105,116]:Str),([112,114,105,99,101]:Str),([105,100,50]:Str),([]:Str)]:List Str).all fun s=>decide (s.length≤10))=true:=by kernel_rfl
theorem ZxK {d:ZnB} (hd:ZuR d) (rows:Nat) (hr:rows≤14):
  wp (Zo0 d (rows:Int)) (fun r=>(r.1.Name.length≤10∧r.1.Cells.length=rows∧∀c∈r.1.Cells,Zwh c)∧ZuR r.2):=by
 unfold Zo0;rw[ZnF];refine Zn7 (Zw8 hd (by decide) (by decide)) fun⟨nm,d1⟩ ⟨hnm0,hd1⟩=> ?_
 dsimp only at hd1 hnm0⊢
 have hnm:nm.length≤10:=of_decide_eq_true (ZEc.1 Zx2 nm hnm0);rw[ZnF];refine Zn7 (ZvW hd1 (by omega)) fun⟨kind,d2⟩ ⟨_,hd2⟩=> ?_
 dsimp only at hd2⊢
 rw[ZnF];refine Zn7 (Zrl Zuh rows (by omega) (fun i (t:ZnB×List ZnC)=>(kind,(rows:Int),i,t.1,([]:Str),nm,([]:List ZnC),t.2))
  (fun k t=>ZuR t.1∧t.2.length=k∧∀c∈t.2,Zwh c) (Q:=fun x=>x.2.2.1=nm∧ZuR x.1∧x.2.2.2.2.length=rows∧∀c∈x.2.2.2.2,Zwh c) (d2,[]) ⟨hd2,rfl,fun c hc=>absurd hc (by simp)⟩ ?_ ?_) ?_
 ·rintro rec k ⟨d,cs⟩ hk ⟨hd,hlen,hcs⟩ ih;dsimp only at hd hlen hcs ih;have next:∀(x:ZnC) (d':ZnB),Zwh x→ZuR d'→wp (Zof (fun kind t15 i d t4 c t4_1 c_1=>rec (kind,t15,i,d,t4,c,t4_1,c_1)) kind (rows:Int) (k:Int) d' [] nm x [] cs) (fun x=>x.2.2.1=nm∧ZuR x.1∧x.2.2.2.2.length=rows∧∀c∈x.2.2.2.2,Zwh c):=by
   intro x d' hx hd';unfold Zof;rw[ZnH,ZnH];refine⟨ZuL (by rw[ZEk];omega),ZnJ (by omega),ih (d',cs++[x]) ⟨hd',by dsimp only;rw[ZEi,ZEk];omega,fun c hc=> ?_⟩⟩;rcases List.mem_append.1 hc with hc |hc
   ·exact hcs c hc
   ·obtain rfl:=List.mem_singleton.1 hc;exact hx
  unfold ZqT ZpC;dsimp only;rw[decide_eq_true (show (k:Int) < (rows:Int) by omega),cond_true,ZnF];refine Zn7 (ZBe hd) fun⟨x,d3⟩ ⟨hx,hd3⟩=> ?_
  dsimp only at hx hd3⊢
  rw[ZnT];refine⟨fun _=> ?_,fun _=> ?_⟩
  ·rw[ZnF];exact Zn7 (Zy1 hd3) fun⟨y,d4⟩ ⟨hy,hd4⟩=>next y d4 hy hd4
  rw[ZnT];refine⟨fun _=> ?_,fun _=> ?_⟩
  ·unfold Zsz;have:=ZyD (n:=(k:Int)) (by omega);rw[ZnF,ZnD,ZnH];exact⟨decide_eq_true (by rw[ZEk];unfold Zq;omega),next _ d3 (ZuV (ZA2 (by omega))) hd3⟩
  rw[ZnT];refine⟨fun _=> ?_,fun _=> ?_⟩
  ·rw[ZnF];exact Zn7 (Zw8 hd3 (by decide) (by decide)) fun⟨s,d4⟩ ⟨hs,hd4⟩=>next _ d4 (ZuV (ZEc.1 abcd s hs)) hd4
  ·exact next x d3 hx hd3
 ·rintro rec ⟨d,cs⟩ ⟨hd,hlen,hcs⟩;unfold ZqT ZpC;dsimp only at hd hlen hcs⊢
  rw[decide_eq_false (show ¬(rows:Int) < (rows:Int) by omega),cond_false,ZnD];exact⟨rfl,hd,hlen,hcs⟩
 ·rintro⟨d,_,nm',_,cs⟩ ⟨h0,h1,h2,h3⟩;unfold Zrt;dsimp only at h0 h1 h2 h3⊢
  subst h0;rw[ZnD];exact⟨⟨hnm,h2,h3⟩,h1⟩
end Go.Proofs
namespace Go.Proofs
open Go Eng
def ZtS (name:Str):List Str:=ZtU (Zvq (name++[32]) [])
def ZxA (l:List ZnC):List Str:=(l.filter fun x=> !x.Null).map fun x=>x.Text
def ZqR (l:List ZnC):List Str:=ZtU (ZxA l)
theorem Zwo {name:Str} (h:name.length≤1000000):Zoz name=some (ZtS name):=by unfold Zoz;rw[Zts,decide_eq_true (by omega)];rfl
theorem Zxv {c:ZnG} (h:c.Cells.length≤1000000):ZqK c=some (ZqR c.Cells):=by unfold ZqK;rw[Zts,decide_eq_true (by omega)];rfl
theorem Zws:∀(s cur:List UInt8),(Zvq s cur).length≤s.length
 | [],cur=>by simp[Zvq]
 |b::s,cur=>by
  have h1:=Zws s [];have h3:=Zws s (cur++[xwC b]);unfold Zvq;cases xwC b == 0 with
  |true=>
   rw[cond_true];cases cur.isEmpty with
   |true=>rw[cond_true];simp;omega
   |false=>rw[cond_false];simp;omega
  |false=>rw[cond_false];simp;omega
theorem ZwQ (l:List (List UInt8)):(ZtU l).length≤l.length:=by
 have h:∀l:List (List UInt8),(ZtR l).length≤l.length:=by
  intro l
  induction l with
  |nil=>simp[ZtR]
  |cons x r ih=>
   unfold ZtR;cases r.contains x with
   |true=>rw[cond_true];simp;omega
   |false=>rw[cond_false];simp;omega
 unfold ZtU;rw[List.length_mergeSort];exact h l
theorem ZvN (name:Str):(ZtS name).length≤name.length+1:=by have h1:=ZwQ (Zvq (name++[32]) []);have h2:=Zws (name++[32]) [];simp only[ZEi,ZEk]at h2;exact ZEz h1 h2
theorem Zve (l:List ZnC):(ZqR l).length≤l.length:=by have h1:=ZwQ (ZxA l);unfold ZxA at h1;rw[List.length_map]at h1;exact ZEz h1 (ZEj _ _)
theorem ZxJ {a b:List Str} (ha:a.Nodup) (hb:b.Nodup):comm a b=comm b a:=by unfold comm;refine List.Perm.length_eq ((List.perm_ext_iff_of_nodup (ha.filter _) (hb.filter _)).2 fun x=> ?_);simp only[List.mem_filter,ZEd];exact And.comm
theorem Zzg (a:List Str):comm a a=a.length:=by unfold comm;rw[List.filter_eq_self.2];intro x hx;exact ZEd.2 hx
def Zuc (a b:List Str):Rat:=Rat.divInt (comm a b:Int) (max (a.length+b.length - comm a b) 1:Nat)
theorem Zyi {a b:List Str} (hb:Srt b) (hla:a.length≤1000000) (hlb:b.length≤1000000):ZqD a b=some (fOf (Zuc a b)):=by
 have hc:=ZwJ a b;unfold ZqD;rw[ZyS hb (by omega) (by omega),ZER,ZnJ (by omega),ZnJ (by omega),chk_true,chk_true];have e:(if (1:Int) > (((a.length:Int)+(b.length:Int)) - (comm a b:Int))then (1:Int)else (((a.length:Int)+(b.length:Int)) - (comm a b:Int)))=((max (a.length+b.length - comm a b) 1:Nat):Int):=by
  rcases ZEC (a.length+b.length - comm a b) 1 with h |h
  ·rw[if_pos (by omega),Nat.max_eq_right (by omega)];rfl
  ·rw[Nat.max_eq_left h];split<;>omega
 rw[e,Zwp _ _ (by omega) (by omega) (by omega) (by omega) (by omega),ZER];rfl
theorem Zze {a b c d:Int} (hb:0 < b) (hd:0 < d):Rat.divInt a b≤Rat.divInt c d↔a*d≤c*b:=by
 rw[Rat.divInt_eq_div,Rat.divInt_eq_div];have hB:(0:Rat) < (b:Rat):=by rw[show ((0:Rat))=(((0:Int)):Rat)from rfl];exact Rat.intCast_lt_intCast.2 hb
 have hD:(0:Rat) < (d:Rat):=by rw[show ((0:Rat))=(((0:Int)):Rat)from rfl];exact Rat.intCast_lt_intCast.2 hd
 have hBD:=Rat.mul_pos hB hD;have e1:(b:Rat)*((a:Rat) / (b:Rat))=a:=by grind
 have e2:(d:Rat)*((c:Rat) / (d:Rat))=c:=by grind
 have e3:a*d≤c*b↔(a:Rat)*(d:Rat)≤(c:Rat)*(b:Rat):=by rw[←Rat.intCast_mul,←Rat.intCast_mul,Rat.intCast_le_intCast]
 rw[e3];clear e3;generalize (a:Rat) / (b:Rat)=x at e1⊢
 generalize (c:Rat) / (d:Rat)=y at e2⊢
 generalize (a:Rat)=A at*
 generalize (b:Rat)=B at*
 generalize (c:Rat)=C at*
 generalize (d:Rat)=D at*
 subst e1 e2;have e:(y - x)*(B*D)=D*y*B - B*x*D:=by grind
 constructor
 ·intro h;have h1:0≤(y - x)*(B*D):=Rat.mul_nonneg (by grind) (by grind);rw[e]at h1;grind
 ·intro h;apply Rat.not_lt.1;intro hx;have h1:0 < (x - y)*(B*D):=Rat.mul_pos (by grind) hBD;have e':(x - y)*(B*D)=B*x*D - D*y*B:=by grind
  rw[e']at h1;grind
theorem Zwd {n d:Nat} (hd:0 < d) (h:n≤d):0≤Rat.divInt (n:Int) (d:Int)∧Rat.divInt (n:Int) (d:Int)≤1:=by
 have h1:Rat.divInt 1 1=1:=by decide+kernel
 exact⟨Rat.divInt_nonneg (by omega) (by omega),by rw[←h1];exact(Zze (by omega) (by decide)).2 (by omega)⟩
theorem Zv5 {a b:List Str} (hb:b.Nodup) (ha:a.Nodup):0≤Zuc a b∧Zuc a b≤1:=by have h1:=ZwJ a b;have h2:=ZwJ b a;rw[ZxJ hb ha]at h2;exact Zwd (by omega) (by omega)
theorem ZvV {a b:List Str} (ha:a.Nodup) (hb:b.Nodup):Zuc a b=Zuc b a:=by unfold Zuc;rw[ZxJ ha hb,Nat.add_comm]
theorem ZxC {a b:List Str} {k:Nat} (hk:a.length+b.length < 2 ^ k) (h1:1 < 2 ^ k):Sz k (Zuc a b):=by have:=ZwJ a b;exact Zvx (by omega) (by omega) (by omega)
theorem Zww {a:List Str}:Zuc a a=if a=[]then 0 else 1:=by
 unfold Zuc;rw[Zzg];cases a with
 |nil=>rw[if_pos rfl];decide+kernel
 |cons x r=>
  rw[if_neg (by simp)];have e:max ((x::r).length+(x::r).length - (x::r).length) 1=(x::r).length:=by simp
  rw[e,Rat.divInt_self' (by simp only[List.length_cons];omega)]
noncomputable def isN (c:ZnC):Bool:=(nv c).isSome
noncomputable def Zwa (l:List ZnC):Nat:=(l.filter fun x=> !x.Null).length
noncomputable def ZzI (l:List ZnC):Nat:=(l.filter fun x=> !x.Null&&isN x).length
noncomputable def ZsG (l:List ZnC):Rat:=Rat.divInt (ZzI l:Int) (max (Zwa l) 1:Nat)
theorem Zxg (l:List ZnC):ZzI l≤Zwa l:=by unfold ZzI Zwa;rw[show (fun x:ZnC=> !x.Null&&isN x)=fun x=>(isN x)&& !x.Null from funext fun x=>Bool.and_comm _ _,←List.filter_filter];exact ZEj _ _
theorem Zxj (l:List ZnC):Zwa l≤l.length:=ZEj _ _
theorem Zxd {c:ZnG} (hc:∀x∈c.Cells,Zwh x) (hl:c.Cells.length≤1000):Zo7 c=some (fOf (ZsG c.Cells)):=by
 unfold Zo7;rw[Zts];refine ZqZ ?_;unfold ZtJ;rw[ZnF];refine Zn7 (Zxk Zu7 c.Cells (by omega) (fun i (s:Nat×Nat)=>((s.1:Int),(s.2:Int),c.Cells,(c.Cells.length:Int),i,false,false,([]:List Int),([]:List Int))) (fun k s=>s.1=Zwa (c.Cells.take k)∧s.2=ZzI (c.Cells.take k))
  (Q:=fun x=>x=((Zwa c.Cells:Int),(ZzI c.Cells:Int),false,false,([]:List Int),([]:List Int))) (0,0) ⟨by simp[Zwa],by simp[ZzI]⟩ ?_ ?_) ?_
 ·rintro rec k ⟨f,n⟩ hk ⟨hf,hn⟩ ih;dsimp only at hf hn ih;unfold Zsn ZqU ZqA;dsimp only;have hs:c.Cells.take (k+1)=c.Cells.take k++[c.Cells[k]]:=ZEq hk;have b1:=Zxj (c.Cells.take k);have b2:=Zxg (c.Cells.take k);rw[ZEl]at b1;have e1:Zwa (c.Cells.take (k+1))=f+(bif c.Cells[k].Null then 0 else 1):=by rw[hs,hf];unfold Zwa;rw[List.filter_append,ZEi];cases h:c.Cells[k].Null<;>simp[List.filter_cons,h]
  have e2:ZzI (c.Cells.take (k+1))=n+(bif !c.Cells[k].Null&&isN c.Cells[k]then 1 else 0):=by rw[hs,hn];unfold ZzI;rw[List.filter_append,ZEi];cases h:(!c.Cells[k].Null&&isN c.Cells[k])<;>simp[List.filter_cons,h]
  rw[decide_eq_true (show (k:Int) < (c.Cells.length:Int) by omega),cond_true,ZvD hk,ZER];cases hnul:c.Cells[k].Null with
  |true=>
   rw[hnul]at e1 e2;rw[cond_true,ZnH];exact⟨ZnJ (by omega),ih (f,n) ⟨by rw[e1];rfl,by rw[e2];rfl⟩⟩
  |false=>
   rw[hnul]at e1 e2;rw[cond_false,ZnH];refine⟨ZnJ (by omega), ?_⟩;cases hv:nv c.Cells[k]with
   |some q=>
    have hi:isN c.Cells[k]=true:=by unfold isN;rw[hv];rfl
    rw[hi]at e2;rw[(ZyZ hv).1,ZER];dsimp only;rw[cond_true,ZnH,ZnH];refine⟨ZnJ (by omega),ZnJ (by omega), ?_⟩;have:=ih (f+1,n+1) ⟨by rw[e1];rfl,by rw[e2];rfl⟩
    rwa [show ((f+1:Nat):Int)=(f:Int)+1 by omega,show ((n+1:Nat):Int)=(n:Int)+1 by omega]at this
   |none=>
    have hi:isN c.Cells[k]=false:=by unfold isN;rw[hv];rfl
    rw[hi]at e2;obtain⟨g,hg⟩:=Zy0 (hc _ (List.getElem_mem hk)) hv;rw[hg,ZER];dsimp only;rw[cond_false,ZnH];refine⟨ZnJ (by omega), ?_⟩;have:=ih (f+1,n) ⟨by rw[e1];rfl,by rw[e2];rfl⟩
    rwa [show ((f+1:Nat):Int)=(f:Int)+1 by omega]at this
 ·rintro rec ⟨f,n⟩ ⟨hf,hn⟩;dsimp only at hf hn;unfold Zsn ZqU;dsimp only;rw[decide_eq_false (show ¬(c.Cells.length:Int) < (c.Cells.length:Int) by omega),cond_false,ZnD,hf,hn,ZEo]
 ·rintro x rfl;have b1:=Zxj c.Cells;have b2:=Zxg c.Cells;dsimp only;unfold ZsW;have e:(if (1:Int) > (Zwa c.Cells:Int)then (1:Int)else (Zwa c.Cells:Int))=((max (Zwa c.Cells) 1:Nat):Int):=by
   rcases ZEC (Zwa c.Cells) 1 with h |h
   ·rw[if_pos (by omega),Nat.max_eq_right (by omega)];rfl
   ·rw[Nat.max_eq_left h];split<;>omega
  rw[e,Zwp _ _ (by omega) (by omega) (by omega) (by omega) (by omega),ZER,ZnD];rfl
theorem Zv4 (l:List ZnC):0≤ZsG l∧ZsG l≤1:=by have:=Zxg l;exact Zwd (by omega) (by omega)
theorem Zv3 {l:List ZnC} {k:Nat} (h:l.length < 2 ^ k) (h1:1 < 2 ^ k):Sz k (ZsG l):=by have b1:=Zxj l;have b2:=Zxg l;exact Zvx (by omega) (by omega) (by omega)
end Go.Proofs
namespace Go.Proofs
open Go Eng
theorem ZxD {a:Rat}:(ZyH a 0 == 0)=decide (a=0):=by
 unfold ZyH
 by_cases h:a < 0
 ·rw[if_pos h,decide_eq_false (by grind)];rfl
 ·rw[if_neg h]
  by_cases h2:0 < a
  ·rw[if_pos h2,decide_eq_false (by grind)];rfl
  ·rw[if_neg h2,decide_eq_true (by grind)];rfl
theorem ZxE (a b:Rat):(ZyH a b < 0)↔a < b:=by
 unfold ZyH
 by_cases h:a < b
 ·rw[if_pos h];exact⟨fun _=>h,fun _=>by decide⟩
 ·rw[if_neg h];refine⟨fun h2=> ?_,fun h2=>absurd h2 h⟩;split at h2<;>exact absurd h2 (by decide)
theorem ZyW (a b:Rat):(ZyH a b > 0)↔b < a:=by
 unfold ZyH
 by_cases h:a < b
 ·rw[if_pos h];exact⟨fun h2=>absurd h2 (by decide),fun h2=>absurd h2 (by grind)⟩
 ·rw[if_neg h]
  by_cases h2:b < a
  ·rw[if_pos h2];exact⟨fun _=>h2,fun _=>by decide⟩
  ·rw[if_neg h2];exact⟨fun h3=>absurd h3 (by decide),fun h3=>absurd h3 h2⟩
def ZzX (x:Rat):Rat:=if x < 0 then 0 - x else x
def ofQ (v n s t:Rat):Rat:=if v=0∧n=0 then 0 else (v+v+n+(1 - ZzX (s - t))) / 4
noncomputable def ZyI (a b:ZnG):Rat:=ofQ (Zuc (ZqR a.Cells) (ZqR b.Cells)) (Zuc (ZtS a.Name) (ZtS b.Name)) (ZsG a.Cells) (ZsG b.Cells)
structure ZwP (a:ZnG):Prop where
 name:a.Name.length≤300
 rows:a.Cells.length≤100
 cells:∀x∈a.Cells,Zwh x
theorem ZuD (s:Str):Srt (ZtS s):=ZyP _
theorem Zu6 (l:List ZnC):Srt (ZqR l):=ZyP _
theorem ZAD {a b:ZnG} (ha:a.Cells.length≤100) (hb:b.Cells.length≤100):Zrc a b=some (fOf (Zuc (ZqR a.Cells) (ZqR b.Cells))):=by have h1:=Zve a.Cells;have h2:=Zve b.Cells;unfold Zrc;rw[Zxv (by omega),ZER,Zxv (by omega),ZER,Zyi (Zu6 _) (by omega) (by omega),ZER]
theorem Zxi {a b:Str} (ha:a.length≤300) (hb:b.length≤300):ZpQ a b=some (fOf (Zuc (ZtS a) (ZtS b))):=by have h1:=ZvN a;have h2:=ZvN b;unfold ZpQ;rw[Zwo (by omega),ZER,Zwo (by omega),ZER,Zyi (ZuD _) (by omega) (by omega),ZER]
theorem ZyN {a b:ZnG} (ha:a.Cells.length≤100) (hb:b.Cells.length≤100):Sz 10 (Zuc (ZqR a.Cells) (ZqR b.Cells)):=by have h1:=Zve a.Cells;have h2:=Zve b.Cells;exact ZxC (by omega) (by decide)
theorem Zxh {a b:Str} (ha:a.length≤300) (hb:b.length≤300):Sz 10 (Zuc (ZtS a) (ZtS b)):=by have h1:=ZvN a;have h2:=ZvN b;exact ZxC (by omega) (by decide)
theorem Zwj:Sz 1 1:=by unfold Sz;decide
theorem ZAQ:Zt1 1 1=some (fOf 1):=by
 have:=Zwp 1 1 (by decide) (by decide) (by decide) (by decide) (by decide)
 rwa [show Rat.divInt 1 1=1 by decide+kernel]at this
theorem ZAP:Zt1 4 1=some (fOf 4):=by
 have:=Zwp 4 1 (by decide) (by decide) (by decide) (by decide) (by decide)
 rwa [show Rat.divInt 4 1=4 by decide+kernel]at this
theorem ZyO:Sz 3 4:=by unfold Sz;decide
theorem Zzn {x:Rat} {k:Nat} (h:Sz k x) (hk:1≤k):Sz (k+2) (ZzX x):=by
 unfold ZzX;split
 ·have:=ZvS.add h.neg;rw[show (0:Rat) - x=0+ -x by grind];exact this.mono (by omega)
 ·exact h.mono (by omega)
theorem ZBR {v n ap:Rat} (hv:Sz 10 v) (hn:Sz 10 n) (ha:Sz 30 ap):ZrB false false (fOf v) (fOf n) (fOf ap) [] []=some (fOf ((v+v+n+(1 - ap)) / 4)):=by
 unfold ZrB;have h1:=hv.add hv;have h2:=h1.add hn;have h3:Sz 32 (1 - ap):=by rw[show (1:Rat) - ap=1+ -ap by grind];exact(Zwj.add ha.neg).mono (by decide)
 have h4:=h2.add h3;rw[ZwC hv hv (by decide),ZER,ZwC h1 hn (by decide),ZER,ZAQ,ZER,ZwB Zwj ha (by decide),ZER,ZwC h2 h3 (by decide),ZER,ZAP,ZER,
  Zy3 (by decide) h4 ZyO (by decide),ZER]
theorem ZBS {a b:ZnG} (ha:ZwP a) (hb:ZwP b) {v n:Rat} (hv:Sz 10 v) (hn:Sz 10 n):
  ZqE false a b false false (fOf v) (fOf n) [] []=some (fOf ((v+v+n+(1 - ZzX (ZsG a.Cells - ZsG b.Cells))) / 4)):=by
 unfold ZqE;have hr1:=ha.rows;have hr2:=hb.rows;have h1:Sz 10 (ZsG a.Cells):=Zv3 (by omega) (by decide);have h2:Sz 10 (ZsG b.Cells):=Zv3 (by omega) (by decide);have h3:Sz 21 (ZsG a.Cells - ZsG b.Cells):=by rw[Rat.sub_eq_add_neg];exact h1.add h2.neg
 rw[cond_false,Zxd ha.cells (by omega),ZER,Zxd hb.cells (by omega),ZER,ZwB h1 h2 (by decide),ZER,ZxX (h3.wq (by decide)),ZER];have h4:=Zzn h3 (by decide);unfold ZzX at h4⊢
 by_cases h:ZsG a.Cells - ZsG b.Cells < 0
 ·rw[decide_eq_true ((ZxE _ _).2 h),cond_true,Zw6,ZER,ZwB ZvS h3 (by decide),ZER];rw[if_pos h]at h4⊢
  exact ZBR hv hn (h4.mono (by decide))
 ·rw[decide_eq_false (fun h5=>h ((ZxE _ _).1 h5)),cond_false];rw[if_neg h]at h4⊢
  exact ZBR hv hn (h4.mono (by decide))
theorem Zyn {a b:ZnG} (ha:ZwP a) (hb:ZwP b):ZpP a b=some (fOf (ZyI a b)):=by
 unfold ZpP ZyI ofQ;have hv:=ZyN ha.rows hb.rows;have hn:=Zxh ha.name hb.name;rw[ZAD ha.rows hb.rows,ZER,Zxi ha.name hb.name,ZER,ZxX (hv.wq (by decide)),ZER,ZxD]
 by_cases h1:Zuc (ZqR a.Cells) (ZqR b.Cells)=0
 ·rw[decide_eq_true h1,cond_true,ZxX (hn.wq (by decide)),ZER,ZxD]
  by_cases h2:Zuc (ZtS a.Name) (ZtS b.Name)=0
  ·rw[decide_eq_true h2,if_pos ⟨h1,h2⟩];unfold ZqE;rw[cond_true,Zw6,ZER]
  ·rw[decide_eq_false h2,if_neg (fun h=>h2 h.2)];exact ZBS ha hb hv hn
 ·rw[decide_eq_false h1,cond_false,if_neg (fun h=>h1 h.1)];exact ZBS ha hb hv hn
theorem Zyy {v n s t:Rat} (hv:0≤v∧v≤1) (hn:0≤n∧n≤1) (hs:0≤s∧s≤1) (ht:0≤t∧t≤1):0≤ofQ v n s t∧ofQ v n s t≤1:=by
 unfold ofQ ZzX;split
 ·constructor<;>decide
 ·split<;>constructor<;>grind
theorem ZzH {v n s t:Rat}:ofQ v n s t=ofQ v n t s:=by
 unfold ofQ ZzX;split
 ·rfl
 ·congr 3;split<;>split<;>grind
theorem Zzh (a b:ZnG):ZyI a b=ZyI b a:=by unfold ZyI;rw[ZvV (Zu6 a.Cells).2 (Zu6 b.Cells).2,ZvV (ZuD a.Name).2 (ZuD b.Name).2,ZzH]
theorem Zx5 (a b:ZnG):0≤ZyI a b∧ZyI a b≤1:=
 Zyy (Zv5 (Zu6 _).2 (Zu6 _).2) (Zv5 (ZuD _).2 (ZuD _).2) (Zv4 _) (Zv4 _)
theorem ZxL (a:ZnG):ZyI a a=if ZtS a.Name=[]then (if ZqR a.Cells=[]then 0 else 3 / 4)else (if ZqR a.Cells=[]then 1 / 2 else 1):=by
 unfold ZyI;rw[Zww,Zww];unfold ofQ ZzX;have e:ZsG a.Cells - ZsG a.Cells=0:=by grind
 rw[e]
 by_cases h1:ZtS a.Name=[]<;>by_cases h2:ZqR a.Cells=[]<;>simp only[h1,h2,if_true,if_false]<;>decide+kernel
theorem ZBc {a b:ZnG} (ha:ZwP a) (hb:ZwP b):Sz 100 (ZyI a b):=by
 unfold ZyI ofQ;have hr1:=ha.rows;have hr2:=hb.rows;have hv:=ZyN ha.rows hb.rows;have hn:=Zxh ha.name hb.name;have h1:Sz 10 (ZsG a.Cells):=Zv3 (by omega) (by decide);have h2:Sz 10 (ZsG b.Cells):=Zv3 (by omega) (by decide);have h3:Sz 21 (ZsG a.Cells - ZsG b.Cells):=by rw[Rat.sub_eq_add_neg];exact h1.add h2.neg
 have h4:=Zzn h3 (by decide);split
 ·exact ZvS.mono (by decide)
 ·have h5:Sz 32 (1 - ZzX (ZsG a.Cells - ZsG b.Cells)):=by rw[Rat.sub_eq_add_neg];exact(Zwj.add h4.neg).mono (by decide)
  exact(Sz.div (by decide) (((hv.add hv).add hn).add h5) ZyO).mono (by decide)
end Go.Proofs
