/- Plain laws over the specs, part 1. -/
import Derived.Test.YthefajbigloihaaGreatDoorShM0
import Derived.Test.YthefajbigloihaaGreatDoorQ
set_option linter.unusedVariables false
set_option linter.unusedSimpArgs false
set_option linter.unusedSectionVars false
open Bool renaming not_true→ZCM
open Int renaming natAbs_natCast→ZFg, natAbs_mul→ZFf, toNat_natCast→ZFi, natAbs_neg→ZFh, mul_ne_zero→ZFe
open List renaming all_eq_true→ZFj, take_length→ZFB, mem_cons→ZFy, length_append→ZFt, not_mem_nil→ZFA, length_take→ZFw, length_singleton→ZFv, take_succ_eq_append_getElem→ZFC, mem_map→ZFz, getD_eq_getElem?_getD→ZFn, mem_append→ZFx, getElem_mem→ZFs, filter_append→ZFl, filter_cons→ZFm, length_filter_le→ZFu, getElem_cons_drop→ZFr, getElem?_eq_none→ZFq, getElem?_eq_getElem→ZFp, contains_iff_mem→ZFk, getElem?_cons_zero→ZFo
open Nat renaming le_trans→ZFL, gcd→ZFI, pow_succ→ZFY, mul_assoc→ZFS, pow_zero→ZFZ, mod_lt→ZFQ, mul_add→ZFR, lt_or_ge→ZFO, le_refl→ZFK, lt_of_le_of_lt→ZFM, mul_comm→ZFT, pow_le_pow_right→ZFX, div_le_self→ZFH, one_mul→ZFV, le_of_lt→ZFJ, two_pow_pos→ZF1, pos_of_ne_zero→ZFW, lt_of_lt_of_le→ZFN, min_eq_left→ZFP, mul_left_comm→ZFU, div_add_mod→ZFF, add_mul_div_left→ZFD, div_eq_of_lt→ZFG, add_mul_mod_self_left→ZFE, two_pow_add_eq_or_of_lt→ZF0
open Option renaming bind_some→ZF2, some.inj→ZF3
namespace Go.Proofs
open Go Eng
def Sz (k:Nat) (q:Rat):Prop:=q.num.natAbs < 2 ^ k∧q.den < 2 ^ k
theorem Sz.mono {k l:Nat} {q:Rat} (h:Sz k q) (hl:k≤l):Sz l q:=⟨ZFN h.1 (ZFX (by decide) hl),ZFN h.2 (ZFX (by decide) hl)⟩
theorem ZzD {n k:Nat} (h:n < 2 ^ k) (m:Nat) (hk:k≤32*m):(wd n).length≤m:=by refine Zvy (ZFN h ?_);rw[show Bw=2 ^ 32 from rfl,←Nat.pow_mul];exact ZFX (by decide) hk
theorem Sz.wq {k:Nat} {q:Rat} (h:Sz k q) (hk:k≤8192):Wq 256 q:=⟨ZzD h.1 256 (by omega),ZzD (n:=(q.den:Int).natAbs) (by rw[ZFg];exact h.2) 256 (by omega)⟩
theorem Zwx {x y:Int} {k:Nat} (hy:y≠0) (h1:x.natAbs < 2 ^ k) (h2:y.natAbs < 2 ^ k):Sz k (Rat.divInt x y):=by
 unfold Sz;rw[Rat.num_divInt,Rat.den_divInt,if_neg hy];refine⟨ZFM ?_ h1,ZFM (ZFH _ _) h2⟩;have hd:((Int.gcd y x:Nat):Int)∣y.sign*x:=Int.dvd_trans (Int.gcd_dvd_right y x) (Int.dvd_mul_left _ _);rw[Int.natAbs_ediv_of_dvd hd,ZFf];refine ZFL (ZFH _ _) ?_;have:y.sign.natAbs=1:=by rw[Int.natAbs_sign_of_ne_zero hy]
 rw[this,ZFV];exact ZFK _
theorem Zv8 {x y k l:Nat} (hx:x < 2 ^ k) (hy:y < 2 ^ l):x*y < 2 ^ (k+l):=by rw[Nat.pow_add];exact Nat.mul_lt_mul_of_lt_of_le hx (ZFJ hy) (ZF1 _)
theorem ZxW (a b:Rat):Rat.divInt (a.num*(b.den:Int)+b.num*(a.den:Int)) ((a.den:Int)*(b.den:Int))=a+b:=by have h1:=a.den_nz;have h2:=b.den_nz;rw[←Rat.divInt_add_divInt _ _ (by omega) (by omega),Rat.num_divInt_den,Rat.num_divInt_den]
theorem Sz.add {a b:Rat} {k l:Nat} (ha:Sz k a) (hb:Sz l b):Sz (k+l+1) (a+b):=by
 rw[←ZxW];have h1:=a.den_nz;have h2:=b.den_nz;have q1:=Zv8 ha.1 hb.2;have q2:=Zv8 ha.2 hb.1;have q3:=Zv8 ha.2 hb.2;have hp:=ZF1 (k+l);refine Zwx (ZFe (by omega) (by omega)) ?_ ?_
 ·rw[ZFY];refine ZFM (Int.natAbs_add_le _ _) ?_;rw[ZFf,ZFf,ZFg,ZFg,ZFT b.num.natAbs];omega
 ·rw[ZFY,ZFf,ZFg,ZFg];omega
theorem ZBB {q:Rat} (h:Wq 256 q):decide ((if ((fOf q).Den.Words.length:Int) > ((fOf q).Num.Words.length:Int)then ((fOf q).Den.Words.length:Int)else ((fOf q).Num.Words.length:Int)) > 256)=false:=by have h1:=h.1;have h2:=h.2;unfold Wl at h1 h2;refine decide_eq_false ?_;unfold fOf;rw[Zp8,Zp8,Zn0,Zn0];split<;>omega
theorem Zxb {y:Int} (hy:y≠0):(((bg y).Words.length:Int) == 0)=false:=by have:=ZrW (n:=y.natAbs) (by omega);rw[Zp8,Zn0];exact beq_eq_false_iff_ne.2 (by omega)
theorem ZA7 {a b:Rat} {k l:Nat} (ha:Sz k a) (hb:Sz l b) (hk:k+l+1≤8192):Ztb (fOf a) (fOf b)=some (fOf (a+b),0):=by
 have h1:=a.den_nz;have h2:=b.den_nz;have qa:=ha.wq (by omega);have qb:=hb.wq (by omega);have w:∀{x y:Int},Wl 256 x→Wl 256 y→Wl 512 (x*y):=fun hx hy=>by unfold Wl;rw[ZFf];exact Zy0 hx hy
 have m:∀{n:Nat} {x:Int},Wl n x→n≤50000→Wl 50000 x:=fun h h'=>ZFL h h'
 have w1:=w qa.1 qb.2;have w2:=w qb.1 qa.2;have w3:=w qa.2 qb.2;have w4:Wl 513 (a.num*(b.den:Int)+b.num*(a.den:Int)):=ZFL (Zr8 (Int.natAbs_add_le _ _)) (ZzE w1 w2);have hd:(a.den:Int)*(b.den:Int)≠0:=ZFe (by omega) (by omega);unfold Ztb Zoq;rw[Zwc a qa,ZF2,ZCM,cond_false,Zwc b qb,ZF2,ZCM];unfold Zo4 Zuz;rw[cond_false];show ((((ZnK (bg a.num) (bg (b.den:Int))).bind fun q=>(ZnK (bg b.num) (bg (a.den:Int))).bind fun q_1=>(Zsu q q_1).bind fun num=>(ZnK (bg (a.den:Int)) (bg (b.den:Int))).bind fun den=>some (num,den)).bind _).bind _)=_;rw[ZuL _ _ (m qa.1 (by omega)) (m qb.2 (by omega)),ZF2,ZuL _ _ (m qb.1 (by omega)) (m qa.2 (by omega)),ZF2,ZAZ _ _ (m w1 (by omega)) (m w2 (by omega)),ZF2,ZuL _ _ (m qa.2 (by omega)) (m qb.2 (by omega)),ZF2,ZF2];dsimp only;rw[Zxb hd,cond_false,Zv7 _ _ hd (m w4 (by omega)) (m w3 (by omega)),ZF2,ZxW,ZBB ((ha.add hb).wq hk),cond_false,ZF2]
end Go.Proofs
namespace Go.Proofs
open Go Eng
theorem Zxu (z:Int):Zpo (bg z)=some (bg (-z)):=by
 unfold Zpo ZrD;rw[Zwp,Zp8,Zn0]
 by_cases hz:z < 0
 ·rw[decide_eq_true hz,ZCM,cond_false];unfold bg;rw[ZFh,decide_eq_false (by omega:¬ -z < 0)]
 ·rw[decide_eq_false hz,Bool.not_false,cond_true];unfold bg;rw[ZFh];congr 2
  by_cases h0:z=0
  ·subst h0;rw[show (0:Int).natAbs=0 from rfl,ZsS];rfl
  ·have:=ZrW (n:=z.natAbs) (by omega);rw[decide_eq_true (by omega),decide_eq_true (by omega)]
theorem ZB4 (q:Rat):fOf (-q)=⟨bg (-q.num),bg (q.den:Int)⟩:=rfl
theorem Sz.neg {q:Rat} {k:Nat} (h:Sz k q):Sz k (-q):=by show (-q.num).natAbs < 2 ^ k∧q.den < 2 ^ k;rw[ZFh];exact h
theorem ZCJ {a b:Rat} {k l:Nat} (ha:Sz k a) (hb:Sz l b) (hk:k+l+1≤8192):Zuh (fOf a) (fOf b)=some (fOf (a - b),0):=by unfold Zuh;rw[Zwc b (hb.wq (by omega)),ZF2,ZCM,cond_false];show ((Zpo (bg b.num)).bind fun q_1=>(Zoq (fOf a) (ZnA.mk q_1 (bg (b.den:Int)))).bind fun x=>some (x.1,x.2))=_;have:=ZA7 ha hb.neg hk;unfold Ztb at this;rw[Zxu,ZF2,←ZB4,Rat.sub_eq_add_neg];exact this
theorem Zxy {a b:Rat} {k l:Nat} (ha:Sz k a) (hb:Sz l b) (hk:k+l+1≤8192):ZvI (fOf a) (fOf b)=some (fOf (a+b)):=by unfold ZvI ZtA;rw[ZA7 ha hb hk];rfl
theorem Zxw {a b:Rat} {k l:Nat} (ha:Sz k a) (hb:Sz l b) (hk:k+l+1≤8192):ZvH (fOf a) (fOf b)=some (fOf (a - b)):=by unfold ZvH ZtA;rw[ZCJ ha hb hk];rfl
def ZBG (a b:Rat):Int:=if a < b then -1 else if b < a then 1 else 0
theorem Zzf (a b:Rat):a < b↔a.num*(b.den:Int) < b.num*(a.den:Int):=Rat.lt_iff a b
theorem ZDn {a b:Rat} (qa:Wq 256 a) (qb:Wq 256 b):Zuj (fOf a) (fOf b)=some (ZBG a b):=by
 have w:∀{x y:Int},Wl 256 x→Wl 256 y→Wl 50000 (x*y):=fun hx hy=>by unfold Wl;rw[ZFf];exact ZFL (Zy0 hx hy) (by decide)
 have m:∀{x:Int},Wl 256 x→Wl 50000 x:=fun h=>ZFL h (by decide)
 unfold Zuj;rw[Zwc a qa,ZF2,ZCM,cond_false,Zwc b qb,ZF2,ZCM];unfold ZtU;rw[cond_false];show ((ZnK (bg a.num) (bg (b.den:Int))).bind fun q=>(ZnK (bg b.num) (bg (a.den:Int))).bind _)=_;rw[ZuL _ _ (m qa.1) (m qb.2),ZF2,ZuL _ _ (m qb.1) (m qa.2),ZF2,Zxu,ZF2];have w2:Wl 50000 (-(b.num*(a.den:Int))):=by unfold Wl;rw[ZFh];exact w qb.1 qa.2
 rw[ZAZ _ _ (w qa.1 qb.2) w2,ZF2,Zwp,Zp8,Zn0];unfold ZBG;have h1:=Zzf a b;have h2:=Zzf b a;generalize a.num*(b.den:Int)=x at*
 generalize b.num*(a.den:Int)=y at*
 by_cases hl:a < b
 ·rw[if_pos hl,decide_eq_true (by have:=h1.1 hl;omega),cond_true]
 ·have hn:¬x < y:=fun h=>hl (h1.2 h)
  rw[if_neg hl,decide_eq_false (by omega),cond_false]
  by_cases hg:b < a
  ·have:=ZrW (n:=(x+ -y).natAbs) (by have:=h2.1 hg;omega);rw[if_pos hg,decide_eq_true (by omega),cond_true]
  ·have hn2:¬y < x:=fun h=>hg (h2.2 h)
   rw[if_neg hg,show x+ -y=0 by omega,show (0:Int).natAbs=0 from rfl,ZsS];rfl
theorem ZBP (x y:Int) (hy:y≠0) (hx1:Wl 256 x) (hy1:Wl 256 y):ZtK (bg x) (bg y)=some (fOf (Rat.divInt x y),0):=by
 have hb:=ZAb [x,y] (by simp) (fun z hz=>by
  simp only[ZFy,ZFA,or_false]at hz;rcases hz with rfl |rfl
  ·exact hx1
  ·exact hy1)
 unfold ZtK;rw[show ([bg x,bg y]:List ZnC)=[x,y].map bg from rfl,hb,ZF2,ZCM,cond_false,Zxb hy,cond_false,Zv7 _ _ hy (ZFL hx1 (by decide)) (ZFL hy1 (by decide)),ZF2]
theorem ZEf {z:Int} (h1: -9223372036854775808≤z) (h2:z≤9223372036854775807):Wl 256 z:=ZFL (ZBR (by omega)) (by decide)
theorem ZCQ (x y:Int) (hy:y≠0) (h1: -9223372036854775808≤x) (h2:x≤9223372036854775807) (h3: -9223372036854775808≤y) (h4:y≤9223372036854775807):ZtT x y=some (fOf (Rat.divInt x y),0):=by unfold ZtT;rw[ZxR x h1 h2,ZF2,ZxR y h3 h4,ZF2,ZBP x y hy (ZEf h1 h2) (ZEf h3 h4),ZF2]
theorem ZxY:ZtR=some (fOf 0):=by unfold ZtR;rw[ZCQ 0 1 (by decide) (by decide) (by decide) (by decide) (by decide),ZF2,Rat.zero_divInt]
theorem Zxm (x y:Int) (hy:y≠0) (h1: -9223372036854775808≤x) (h2:x≤9223372036854775807) (h3: -9223372036854775808≤y) (h4:y≤9223372036854775807):ZuP x y=some (fOf (Rat.divInt x y)):=by unfold ZuP;rw[ZCQ x y hy h1 h2 h3 h4,ZF2];rfl
theorem Zx4:Sz 1 0:=by unfold Sz;decide
theorem ZyN {a:Rat} (qa:Wq 256 a):ZuK (fOf a)=some (ZBG a 0):=by unfold ZuK;rw[ZxY,ZF2,ZDn qa (Zx4.wq (by decide)),ZF2]
theorem ZxS (a b:Rat):Rat.divInt (a.num*(b.den:Int)) ((a.den:Int)*b.num)=a / b:=by rw[←Rat.divInt_mul_divInt,Rat.num_divInt_den,Rat.div_def,Rat.inv_def]
theorem Sz.div {a b:Rat} {k l:Nat} (hb0:b≠0) (ha:Sz k a) (hb:Sz l b):Sz (k+l) (a / b):=by
 rw[←ZxS];have h1:=a.den_nz;have h2:b.num≠0:=fun e=>hb0 (Rat.num_eq_zero.1 e)
 refine Zwx (ZFe (by omega) h2) ?_ ?_
 ·rw[ZFf,ZFg];exact Zv8 ha.1 hb.2
 ·rw[ZFf,ZFg];exact Zv8 ha.2 hb.1
theorem ZDm {a b:Rat} {k l:Nat} (hb0:b≠0) (ha:Sz k a) (hb:Sz l b) (hk:k+l≤8192):Zui (fOf a) (fOf b)=some (fOf (a / b),0):=by
 have h1:=a.den_nz;have h2:b.num≠0:=fun e=>hb0 (Rat.num_eq_zero.1 e)
 have qa:=ha.wq (by omega);have qb:=hb.wq (by omega);have w:∀{x y:Int},Wl 256 x→Wl 256 y→Wl 50000 (x*y):=fun hx hy=>by unfold Wl;rw[ZFf];exact ZFL (Zy0 hx hy) (by decide)
 have m:∀{x:Int},Wl 256 x→Wl 50000 x:=fun h=>ZFL h (by decide)
 have w1:=w qa.1 qb.2;have w3:=w qa.2 qb.1;have hd:(a.den:Int)*b.num≠0:=ZFe (by omega) h2;unfold Zui Zpk;rw[Zwc a qa,ZF2,ZCM,cond_false,Zwc b qb,ZF2,ZCM];unfold ZoN ZuA;rw[cond_false];show ((((ZnK (bg a.num) (bg (b.den:Int))).bind fun num=>(ZnK (bg (a.den:Int)) (bg b.num)).bind fun den=>some (num,den)).bind _).bind _)=_;rw[ZuL _ _ (m qa.1) (m qb.2),ZF2,ZuL _ _ (m qa.2) (m qb.1),ZF2,ZF2];dsimp only;rw[Zxb hd,cond_false,Zv7 _ _ hd w1 w3,ZF2,ZxS,ZBB ((Sz.div hb0 ha hb).wq hk),cond_false,ZF2]
theorem ZzV {a b:Rat} {k l:Nat} (hb0:b≠0) (ha:Sz k a) (hb:Sz l b) (hk:k+l≤8192):ZwA (fOf a) (fOf b)=some (fOf (a / b)):=by unfold ZwA ZtA;rw[ZDm hb0 ha hb hk];rfl
end Go.Proofs
namespace Go.Proofs
open Go Eng
theorem Zy4:∀n w,Zob n w=Zor n w
 |0,_=>rfl
 |n+1,w=>by have:Zob n=Zor n:=funext (Zy4 n);show Ztm (Zob n) w=Zrd (Zor n) w;rw[this];rfl
theorem Zzp (w:List Int):ZnR w=ZnS w:=by unfold ZnR ZnS;rw[Zy4];rfl
theorem Zw2 {l:List Nat} (h:Dg l) (hl:l.length≤1000000):ZnR (iL l)=some (iL (wd (val l))):=by rw[Zzp,Zwd h hl]
theorem ZyX (neg:Bool) {l:List Nat} (h:Dg l) (hl:l.length≤1000000):ZnO neg (iL l)=some (bg (if neg then -(val l:Int)else val l)):=by
 unfold ZnO Zqw;rw[Zw2 h hl,ZF2,Zn0];unfold bg;cases neg with
 |true=>
  rw[cond_true,if_pos rfl,ZFh,ZFg];congr 2
  by_cases h0:val l=0
  ·rw[h0,ZsS];rfl
  ·have:=ZrW h0;rw[decide_eq_true (by omega),decide_eq_true (by omega)]
 |false=>rw[cond_false,if_neg (by decide),ZFg,decide_eq_false (by omega)]
theorem ZwP (a:ZnC):ZoR a=Zql a:=rfl
end Go.Proofs
namespace Go.Proofs
open Go Eng
theorem Zz9 (a b:Nat) (ha:(wd a).length≤100000) (hb:(wd b).length≤100000):ZoA (iL (wd a)) (iL (wd b))=some (Zyf a b):=by
 refine Zr7 ?_;unfold ZoA;rw[Zn0,Zn0,ZnZ];refine⟨fun h=> ?_,fun h=> ?_⟩
 ·have hne:(wd a).length≠(wd b).length:=fun e=>by rw[e]at h;simp at h
  rw[ZnZ];refine⟨fun h=> ?_,fun h=> ?_⟩
  ·have h1:(wd a).length < (wd b).length:=by have:=of_decide_eq_true h;omega
   rw[ZnF,Zvb (ZxP h1)]
  ·have h1:(wd b).length < (wd a).length:=by have:=of_decide_eq_false h;omega
   rw[ZnF,ZuN (ZxP h1)]
 ·have hl:(wd a).length=(wd b).length:=by simp only[bne_eq_false_iff_eq]at h;omega
  rw[ZnH,ZnG];refine⟨ZnJ (by omega), ?_⟩;refine Zn7 (Zxa Zvq (wd a).length (by omega) (fun i (s:Unit)=>(iL (wd a),iL (wd b),i)) (fun k _=>(wd a).drop k=(wd b).drop k)
   (Q:=fun r=>r= .ret (Zyf a b)∨r= .brk ()∧a=b) () (by rw[List.drop_length,hl,List.drop_length]) ?_ ?_) ?_
  ·rintro rec k ⟨⟩ hk hP ih;have hk2:k < (wd b).length:=by omega
   unfold Zrm ZpD;dsimp only;rw[ZnZ];refine⟨fun _=> ?_,fun h=>by have:=of_decide_eq_false h;omega⟩;have ha:=Zvz hk;have hb:=Zvz hk2;rw[Zsv]at ha hb;have la:val ((wd a).take k) < Bw ^ k:=by have:=ZtV ((ZuD a).take k);rwa [ZFw,ZFP (by omega)]at this
   have lb:val ((wd b).take k) < Bw ^ k:=by have:=ZtV ((ZuD b).take k);rwa [ZFw,ZFP (by omega)]at this
   rw[Zs9 hk,ZnG,ZnF,Zs9 hk2,ZnG,ZnF,ZnZ];refine⟨fun hc=> ?_,fun hc=> ?_⟩
   ·have h1:(wd a)[k] < (wd b)[k]:=by have:=of_decide_eq_true hc;omega
    have:a < b:=by rw[ha,hb,hP];exact Zx2 (A:=0) (B:=0) la (by omega)
    rw[ZnF];exact .inl (by rw[Zvb this])
   ·rw[ZnG,ZnF,ZnG,ZnF,ZnZ];refine⟨fun hc2=> ?_,fun hc2=> ?_⟩
    ·have h1:(wd b)[k] < (wd a)[k]:=by have:=of_decide_eq_true hc2;omega
     have:b < a:=by rw[ha,hb,hP];exact Zx2 (A:=0) (B:=0) lb (by omega)
     rw[ZnF];exact .inl (by rw[ZuN this])
    ·rw[ZnH];refine⟨ZnJ (by omega),ih () ?_⟩;have h1:(wd a)[k]=(wd b)[k]:=by have q1:=of_decide_eq_false hc;have q2:=of_decide_eq_false hc2;omega
     rw[←ZFr (h:=hk),←ZFr (h:=hk2),h1,hP]
  ·rintro rec ⟨⟩ hP;unfold Zrm ZpD;dsimp only;rw[ZnZ];refine⟨fun h=>by have:=of_decide_eq_true h;omega,fun _=> ?_⟩;rw[ZnF];rw[List.drop_zero,List.drop_zero]at hP;exact .inr ⟨rfl,by rw[←Zsv a,←Zsv b,hP]⟩
  ·rintro r (rfl |⟨rfl,rfl⟩)
   ·exact ZnF.2 rfl
   ·unfold Zsl;exact ZnF.2 (Zu3 a).symm
theorem ZyO {a:Nat} (k:Nat) (hk:k≤32):shlK .u32 (a:Int) (k:Int)=((a*2 ^ k % 4294967296:Nat):Int):=by
 unfold shlK;rw[ZFi,show IntKind.bits .u32=32 from rfl,ZFP (by omega)];have e:(a:Int)*(2:Int) ^ k=((a*2 ^ k:Nat):Int):=by push_cast;rfl
 rw[e,ZtQ]
theorem Zy3 (a d:Nat) (hd:d≤1) (ha:(wd a).length≤100000):ZoK (iL (wd a)) (d:Int)=some (iL (wd (2*a+d))):=by
 refine Zr7 ?_;unfold ZoK;rw[ZnG];refine Zn7 (ZsT ZuU (wd a).length (by omega) (fun i (s:Nat×List Nat)=>(iL (wd a),(s.1:Int),i,iL s.2)) (fun i s=>s.1≤1∧s.2.length=i∧Dg s.2∧val s.2+Bw ^ i*s.1=2*val ((wd a).take i)+d)
  (Q:=fun y=>∃(c:Nat) (o:List Nat),y=((c:Int),iL o)∧c≤1∧Dg o∧o.length=(wd a).length∧val o+Bw ^ (wd a).length*c=2*a+d) (d,[]) ⟨hd,rfl,ZwS,by simp[val]⟩ ?_ ?_) ?_
 ·rintro rec i ⟨c,o⟩ hi ⟨hc,hl,hod,hv⟩ ih;dsimp only at hc hl hod hv ih;have h1:=(ZuD a).get hi;unfold ZqO Zpf;dsimp only;rw[ZnZ,Zn0];refine⟨fun _=> ?_,fun h=>by have:=of_decide_eq_false h;omega⟩;rw[Zs9 hi,ZnG,ZnF];generalize ex:(wd a)[i]=x at h1;have eor:orK .u32 (shlK .u32 (x:Int) 1) (c:Int)=((c+x*2 ^ 1 % Bw:Nat):Int):=by rw[show (1:Int)=((1:Nat):Int)from rfl,ZyO 1 (by omega),Zyt (ZFQ _ (by decide)) (by omega),Nat.or_comm];congr 1;exact Zx8 (by decide) (by omega) h1
  have esh:shrK .u32 (x:Int) 31=((x / 2 ^ 31:Nat):Int):=ZwU 31 (by omega);rw[eor,ZF2,esh,ZnH,ZnH,ZnH,ZnH,Zn0];have hx:c+x*2 ^ 1 % Bw < Bw:=by simp only[Bw]at h1⊢;omega
  refine⟨by decide,Zva (by simp only[ZFv];omega),by decide,ZnJ (by omega), ?_⟩;have:=ih (x / 2 ^ 31,o++[c+x*2 ^ 1 % Bw]) ⟨by simp only[Bw]at h1;dsimp only;omega,by simp[hl],hod.app (ZwG hx), ?_⟩
  ·rw[Zyx]at this;exact this
  ·dsimp only;have q:c+x*2 ^ 1 % Bw+Bw*(x / 2 ^ 31)=c+2*x:=by simp only[Bw]at h1⊢;omega
   have q2:Bw ^ i*(c+x*2 ^ 1 % Bw+Bw*(x / 2 ^ 31))=Bw ^ i*(c+2*x):=by rw[q]
   have q3:Bw ^ i*(2*x)=2*(Bw ^ i*x):=ZFU _ _ _;rw[ZFR,ZFR (Bw ^ i) c (2*x),q3]at q2;rw[Zuk,hl,Zn5 hi,ex];generalize c+x*2 ^ 1 % Bw=dg at*
   generalize x / 2 ^ 31=cy at*
   rw[ZFY,ZFS];omega
 ·rintro rec ⟨c,o⟩ ⟨hc,hl,hod,hv⟩;dsimp only at hc hl hod hv;unfold ZqO Zpf;dsimp only;rw[ZnZ,Zn0];refine⟨fun h=>by have:=of_decide_eq_true h;omega,fun _=> ?_⟩;rw[ZnF];rw[ZFB,Zsv]at hv;exact⟨c,o,rfl,hc,hod,hl,hv⟩
 ·rintro y ⟨c,o,rfl,hc,hod,hl,hv⟩;dsimp only;unfold Zrh;have e:iL o++[(c:Int)]=iL (o++[c]):=by rw[Zyx];rfl
  rw[ZnH,Zn0,e,Zw2 (hod.app (ZwG (by simp only[Bw];omega))) (by simp;omega),ZnG,ZnF,ZnF,Zuk,hl,hv];exact⟨Zva (by simp only[ZFv];omega),rfl⟩
end Go.Proofs
namespace Go.Proofs
open Go Eng
theorem ZBC (t:Int):shrK .i64 t 32=t / 4294967296:=by unfold shrK;rw[show min (32:Int).toNat (IntKind.bits .i64)=32 from by decide,Int.fdiv_eq_ediv_of_nonneg _ (by decide)];rfl
theorem ZyL (a b:Nat) (hab:b≤a) (ha:(wd a).length≤100000):Zok (iL (wd a)) (iL (wd b))=some (iL (wd (a - b))):=by
 have hlb:(wd b).length≤(wd a).length:=Zr8 hab;refine Zr7 ?_;unfold Zok;rw[ZnG];refine Zn7 (ZsT Zvo (wd a).length (by omega) (fun i (s:Nat×List Nat)=>(iL (wd a),iL (wd b), -(s.1:Int),i,iL s.2)) (fun i s=>s.1≤1∧s.2.length=i∧Dg s.2∧val ((wd a).take i)+Bw ^ i*s.1=val s.2+val ((wd b).take i))
  (Q:=fun y=>∃(o:List Nat),y=iL o∧Dg o∧o.length=(wd a).length∧val o=a - b) (0,[]) ⟨by simp,rfl,ZwS,by simp[val]⟩ ?_ ?_) ?_
 ·rintro rec i ⟨c,o⟩ hi ⟨hc,hl,hd,hv⟩ ih;dsimp only at hc hl hd hv ih;have h1:=(ZuD a).get hi;have h2:=ZxA (ZuD b) i;have ey0:(wd b).getD i 0=(if i < (wd b).length then (wd b).getD i 0 else 0):=by
   by_cases h:i < (wd b).length
   ·rw[if_pos h]
   ·rw[if_neg h,ZFn,ZFq (by omega)];rfl
  have fin:∀y:Nat,(wd b).getD i 0=y→wp (Zo9 (fun a b c i out=>rec (a,b,c,i,out)) (iL (wd a)) (iL (wd b)) (-(c:Int)+((wd a)[i]:Int) - (y:Int)) (i:Int) (iL o)) (fun y=>∃(o:List Nat),y=iL o∧Dg o∧o.length=(wd a).length∧val o=a - b):=fun y ey=>by
   rw[ey]at h2;generalize ex:(wd a)[i]=x at h1;have ew:IntKind.wrap .u32 (-(c:Int)+(x:Int) - (y:Int))=(((x+4294967296 - y - c) % 4294967296:Nat):Int):=by simp only[Bw]at h1 h2;rw[IntKind.wrap_u32];omega
   have es:shrK .i64 (-(c:Int)+(x:Int) - (y:Int)) 32= -(((if x < y+c then 1 else 0):Nat):Int):=by simp only[Bw]at h1 h2;rw[ZBC];split<;>omega
   unfold Zo9;rw[ew,es,ZnH,ZnH,ZnH,Zn0];refine⟨Zva (by simp only[ZFv];omega),by decide,ZnJ (by omega), ?_⟩;have:=ih ((if x < y+c then 1 else 0),o++[(x+4294967296 - y - c) % 4294967296]) ⟨by dsimp only;split<;>omega,by simp[hl],hd.app (ZwG (ZFQ _ (by decide))), ?_⟩
   ·rw[Zyx]at this;exact this
   ·dsimp only;rw[Zuk,hl,ZFY,Zn5 hi,Zvi,ex,ey,ZFS];have e:x+Bw*(if x < y+c then 1 else 0)=(x+4294967296 - y - c) % 4294967296+y+c:=by simp only[Bw]at h1 h2⊢;split<;>omega
    have e2:Bw ^ i*(x+Bw*(if x < y+c then 1 else 0))=Bw ^ i*((x+4294967296 - y - c) % 4294967296+y+c):=by rw[e]
    rw[ZFR,ZFR,ZFR]at e2;omega
  unfold Zri ZpB;dsimp only;rw[ZnZ,Zn0,Zn0];refine⟨fun _=> ?_,fun h=>by have:=of_decide_eq_false h;omega⟩;have wx:IntKind.wrap .i64 ((wd a)[i]:Int)=((wd a)[i]:Int):=wrap_i64 (by simp only[Bw]at h1;omega);rw[Zs9 hi,ZnG,ZnF,wx,ZnH,ZnZ];refine⟨ZnJ (by simp only[Bw]at h1;omega),fun h=> ?_,fun h=> ?_⟩
  ·have hib:i < (wd b).length:=by have:=of_decide_eq_true h;omega
   have hy:=(ZuD b).get hib;have wy:IntKind.wrap .i64 ((wd b)[i]:Int)=((wd b)[i]:Int):=wrap_i64 (by simp only[Bw]at hy;omega);rw[Zs9 hib,ZnG,ZnF,wy,ZnH];refine⟨ZnJ (by simp only[Bw]at h1 hy;omega),fin _ ?_⟩;rw[ZFn,ZFp hib];rfl
  ·have hib:¬i < (wd b).length:=by have:=of_decide_eq_false h;omega
   have:=fin 0 (by rw[ey0,if_neg hib]);rw[Int.natCast_zero,Int.sub_zero]at this;exact this
 ·rintro rec ⟨c,o⟩ ⟨hc,hl,hd,hv⟩;unfold Zri ZpB;dsimp only at hc hl hd hv⊢
  rw[ZnZ,Zn0];refine⟨fun h=>by have:=of_decide_eq_true h;omega,fun _=> ?_⟩;rw[ZnF];rw[ZFB,List.take_of_length_le (by omega),Zsv,Zsv]at hv;have:=ZtV hd;rw[hl]at this;have hc0:c=0:=by
   rcases Nat.eq_zero_or_pos c with h |h
   ·exact h
   ·have:c=1:=by omega
    rw[this,Nat.mul_one]at hv;omega
  rw[hc0,Nat.mul_zero]at hv;exact⟨o,rfl,hd,hl,by omega⟩
 ·rintro y ⟨o,rfl,hd,hl,hv⟩;unfold Zsd;rw[Zw2 hd (by omega),ZnG,ZnF,ZnF,hv]
end Go.Proofs
namespace Go.Proofs
open Go Eng
theorem Zxn (a:Nat) (ha:(wd a).length≤100000):Zoe (iL (wd a))=some (iL (wd (a / 2))):=by
 refine Zr7 ?_;unfold Zoe;rw[List.nil_append,ZnH,ZnG,Zn0];refine⟨Zva (by rw[List.length_nil];omega), ?_⟩;refine Zn7 (ZsT Zu6 (wd a).length (by omega) (fun i (o:List Nat)=>(iL (wd a),((wd a).length:Int),i,iL (o++(wd a).drop o.length))) (fun i o=>o.length=i∧Dg o∧val o*2+(wd a).getD 0 0 % 2=val ((wd a).take i)+Bw ^ i*((wd a).getD i 0 % 2))
  (Q:=fun y=>∃(o:List Nat),y=iL o∧Dg o∧o.length=(wd a).length∧val o=a / 2) [] ⟨rfl,ZwS,by simp[val]⟩ ?_ ?_) ?_
 ·rintro rec i o hi ⟨hol,hod,hov⟩ ih;have h1:=(ZuD a).get hi;have hyB:=ZxA (ZuD a) (i+1);have hlen:(o++(wd a).drop o.length).length=(wd a).length:=by simp;omega
  have gx:(iL (o++(wd a).drop o.length))[i]? =some ((wd a)[i]:Int):=by rw[ZwR (by omega)];congr 2;rw[List.getElem_append_right (by omega)];simp[hol]
  have fin:∀z:Nat,z=(wd a)[i] / 2+(wd a).getD (i+1) 0*2 ^ 31 % Bw→wp (Zo1 (fun a t9 i out=>rec (a,t9,i,out)) (iL (wd a)) ((wd a).length:Int) (i:Int) (iL ((o++(wd a).drop o.length).set i z))) (fun y=>∃(o:List Nat),y=iL o∧Dg o∧o.length=(wd a).length∧val o=a / 2):=fun z hz=>by
   unfold Zo1;have es:(o++(wd a).drop o.length).set i z=(o++[z])++(wd a).drop (o++[z]).length:=by rw[List.set_append_right _ _ (by omega),hol,Nat.sub_self,←ZFr (h:=hi),List.set_cons_zero];simp[hol]
   have eg:(wd a).getD i 0=(wd a)[i]:=by rw[ZFn,ZFp hi];rfl
   rw[eg]at hov;rw[ZnH,es];generalize ex:(wd a)[i]=x at*
   generalize ey:(wd a).getD (i+1) 0=y at*
   have hzB:z < Bw:=by simp only[Bw]at h1 hz⊢;omega
   refine⟨ZnJ (by omega),ih (o++[z]) ⟨by simp[hol],hod.app (ZwG hzB), ?_⟩⟩;have hd1:z*2+x % 2=x+Bw*(y % 2):=by simp only[Bw]at h1 hz⊢;omega
   have q1:Bw ^ i*(z*2+x % 2)=Bw ^ i*(x+Bw*(y % 2)):=by rw[hd1]
   rw[ZFR,ZFR]at q1;rw[Zuk,hol,Zn5 hi,ex,ZFY,Nat.add_mul,ZFS,ZFS];omega
  unfold Zq8 Zpw;dsimp only;rw[ZnZ];refine⟨fun _=> ?_,fun h=>by have:=of_decide_eq_false h;omega⟩;have esh:shrK .u32 ((wd a)[i]:Int) 1=(((wd a)[i] / 2:Nat):Int):=ZwU 1 (by omega);rw[ZFi,gx,ZnH,ZnG,ZnF,ZnH,ZnH,ZnH,esh,Zwn,Zn0,Zn0,hlen,ZnZ];refine⟨ZrE ⟨by omega,by omega⟩,by decide,ZrE ⟨by omega,by omega⟩,ZnJ (by omega),fun h=> ?_,fun h=> ?_⟩
  ·have hi2:i+1 < (wd a).length:=by have:=of_decide_eq_true h;omega
   have gz:(iL ((o++(wd a).drop o.length).set i ((wd a)[i] / 2)))[i]? =some (((wd a)[i] / 2:Nat):Int):=by rw[ZwR (by rw[List.length_set];omega),List.getElem_set_self]
   have e1:(i:Int)+1=((i+1:Nat):Int):=rfl;have eg:(wd a).getD (i+1) 0=(wd a)[i+1]:=by rw[ZFn,ZFp hi2];rfl
   have eor:orK .u32 (((wd a)[i] / 2:Nat):Int) (shlK .u32 ((wd a)[i+1]:Int) 31)=(((wd a)[i] / 2+(wd a).getD (i+1) 0*2 ^ 31 % Bw:Nat):Int):=by rw[eg,show (31:Int)=((31:Nat):Int)from rfl,ZyO 31 (by omega),Zyt (by simp only[Bw]at h1;omega) (ZFQ _ (by decide))];congr 1;exact Zx8 (by decide) (by simp only[Bw]at h1;omega) ((ZuD a).get hi2)
   rw[e1,Zs9 hi2,gz,ZnH,ZnG,ZnF,ZnH,ZnG,ZnF,ZnH,ZnH,eor,Zn0,List.length_set,hlen,Zwn,List.set_set];exact⟨ZrE ⟨by omega,by omega⟩,ZnJ (by omega),by decide,ZrE ⟨by omega,by omega⟩,fin _ rfl⟩
  ·have hi2:¬i+1 < (wd a).length:=by have:=of_decide_eq_false h;omega
   refine fin _ ?_;rw[ZFn,ZFq (by omega)];simp
 ·rintro rec o ⟨hol,hod,hov⟩;unfold Zq8 Zpw;dsimp only;rw[ZnZ];refine⟨fun h=>by have:=of_decide_eq_true h;omega,fun _=> ?_⟩;rw[ZnF];have eg:(wd a).getD (wd a).length 0=0:=by rw[ZFn,ZFq (by omega)];rfl
  rw[eg,Nat.zero_mod,Nat.mul_zero,Nat.add_zero,ZFB,Zsv]at hov;refine⟨o,by rw[hol,List.drop_length,List.append_nil],hod,hol, ?_⟩;omega
 ·rintro y ⟨o,rfl,hd,hl,hv⟩;unfold ZrO;rw[Zw2 hd (by omega),ZnG,ZnF,ZnF,hv]
end Go.Proofs
namespace Go.Proofs
open Go Eng
theorem Zyv {a:Nat} (h:a≠0):idx (iL (wd a)) 0=some ((a % Bw:Nat):Int):=by rw[Zw1 h];rfl
theorem ZxB {a:Nat}:(andK .u32 ((a % Bw:Nat):Int) 1 == 0)=decide (a % 2=0):=by
 rw[show (1:Int)=((1:Nat):Int)from rfl,Zyc (ZFQ _ (by decide)) (by decide),Nat.and_one_is_mod];have e:a % Bw % 2=a % 2:=by simp only[Bw];omega
 rw[e]
 by_cases h:a % 2=0
 ·rw[h];rfl
 ·rw[decide_eq_false h];exact beq_eq_false_iff_ne.2 (by omega)
theorem Zzc (P:Nat→Prop) {f:Nat→List Int×List Int×Int→Option (List Int×List Int×Int)} (y:List Int) (k:Int)
  (hf:∀n x,x≠0→(wd x).length≤100000→f (n+1) (iL (wd x),y,k)=if x % 2=0 then f n (iL (wd (x / 2)),y,k)else some (iL (wd x),y,k))
  (hP:∀x,P (2*x)→P x):∀(n x:Nat),x≠0→(wd x).length≤100000→P x→(∀m,x < 2 ^ m→m≤n→∃z,f n (iL (wd x),y,k)=some (iL (wd z),y,k)∧z % 2=1∧z≤x∧P z)
 |0,x,hx,hl,hp,m,hm,hmn=>by
  have:m=0:=by omega
  subst this;rw[ZFZ]at hm;omega
 |n+1,x,hx,hl,hp,m,hm,hmn=>by
  rw[hf n x hx hl]
  by_cases h:x % 2=0
  ·rw[if_pos h];cases m with
   |zero=>rw[ZFZ]at hm;omega
   |succ m=>
    obtain⟨z,h1,h2,h3,h4⟩:=Zzc P y k hf hP n (x / 2) (by omega) (ZFL (Zr8 (ZFH x 2)) hl) (hP _ (by rwa [show 2*(x / 2)=x by omega])) m (by rw[ZFY]at hm;omega) (by omega);exact⟨z,h1,h2,by omega,h4⟩
  ·rw[if_neg h];exact⟨x,rfl,by omega,ZFK _,hp⟩
end Go.Proofs
namespace Go.Proofs
open Go Eng
theorem ZuO (x:Nat):x < 2 ^ (x.log2+1):=Nat.lt_log2_self
theorem Zwi {x n:Nat} (h:(wd x).length≤n):x.log2≤32*n:=by
 rcases Nat.eq_zero_or_pos x with rfl |hp
 ·rw[Nat.log2_zero];omega
 ·have h1:=Nat.log2_self_le (n:=x) (by omega);have h2:=ZFN (Zts x) (ZFX (n:=Bw) (by decide) h);rw[show Bw=2 ^ 32 from rfl,←Nat.pow_mul]at h2;exact ZFJ ((Nat.pow_lt_pow_iff_right (a:=2) (by decide)).1 (ZFM h1 h2))
theorem Zz4 {x b:Nat} (hb:b % 2=1):ZFI (2*x) b=ZFI x b:=by
 have hc:Nat.Coprime 2 b:=by unfold Nat.Coprime;rw[Nat.gcd_rec,hb,Nat.gcd_one_left]
 exact Nat.Coprime.gcd_mul_left_cancel x hc
theorem ZEz (y:List Int) (k:Int) {x:Nat} (b:Nat) (hb:b % 2=1) (hx:x≠0) (hl:(wd x).length≤100000):∃z,Zn2 big (iL (wd x)) y k=some (iL (wd z),y,k)∧z % 2=1∧z≤x∧ZFI z b=ZFI x b:=by
 have hm:=Zwi hl;refine Zzc (fun z=>ZFI z b=ZFI x b) (f:=fun n t=>Zn2 n t.1 t.2.1 t.2.2) y k (fun n x hx hl=> ?_) (fun z h=>by rwa [Zz4 hb]at h) big x hx hl rfl (x.log2+1) (ZuO x) (ZFJ (ZxE (by omega)));show ZoP (Zn2 n) (iL (wd x)) y k=_;unfold ZoP;rw[Zyv hx,ZF2,ZxB]
 by_cases h:x % 2=0
 ·rw[decide_eq_true h,cond_true,if_pos h,Zxn x hl,ZF2]
 ·rw[decide_eq_false h,cond_false,if_neg h]
end Go.Proofs
namespace Go.Proofs
open Go Eng
theorem ZA5 (y:List Int) (k:Int) {x:Nat} (ho:x % 2=1):Zn2 big (iL (wd x)) y k=some (iL (wd x),y,k):=by obtain⟨n,hn⟩:=ZB9 1 (by decide);rw[hn];show ZoP (Zn2 n) (iL (wd x)) y k=_;unfold ZoP;rw[Zyv (by omega),ZF2,ZxB,decide_eq_false (by omega),cond_false]
theorem ZEy (w:List Int) (k:Int) {y:Nat} (b:Nat) (hb:b % 2=1) (hy:y≠0) (hl:(wd y).length≤100000):∃z,Zn1 big w (iL (wd y)) k=some (w,iL (wd z),k)∧z % 2=1∧(z≤y∧(y % 2=0→z≤y / 2))∧ZFI z b=ZFI y b:=by
 have hm:=Zwi hl;have step:∀n x,x≠0→(wd x).length≤100000→Zn1 (n+1) w (iL (wd x)) k=if x % 2=0 then Zn1 n w (iL (wd (x / 2))) k else some (w,iL (wd x),k):=fun n x hx hl=>by
  show Zrj (Zn1 n) w (iL (wd x)) k=_;unfold Zrj;rw[Zyv hx,ZF2,ZxB]
  by_cases h:x % 2=0
  ·rw[decide_eq_true h,cond_true,if_pos h,Zxn x hl,ZF2]
  ·rw[decide_eq_false h,cond_false,if_neg h]
 have key:∀(n x m:Nat),x≠0→(wd x).length≤100000→x < 2 ^ m→m≤n→∃z,Zn1 n w (iL (wd x)) k=some (w,iL (wd z),k)∧z % 2=1∧(z≤x∧(x % 2=0→z≤x / 2))∧ZFI z b=ZFI x b:=by
  intro n
  induction n with
  |zero=>
   intro x m hx hl hm hmn;have:m=0:=by omega
   subst this;rw[ZFZ]at hm;omega
  |succ n ih=>
   intro x m hx hl hm hmn;rw[step n x hx hl]
   by_cases h:x % 2=0
   ·rw[if_pos h];cases m with
    |zero=>rw[ZFZ]at hm;omega
    |succ m=>
     obtain⟨z,h1,h2,h3,h4⟩:=ih (x / 2) m (by omega) (ZFL (Zr8 (ZFH x 2)) hl) (by rw[ZFY]at hm;omega) (by omega);refine⟨z,h1,h2,⟨by omega,fun _=>h3.1⟩, ?_⟩;rw[h4,←Zz4 hb,show 2*(x / 2)=x by omega]
   ·rw[if_neg h];exact⟨x,rfl,by omega,⟨ZFK _,fun h'=>absurd h' h⟩,rfl⟩
 exact key big y (y.log2+1) hy hl (ZuO y) (ZFJ (ZxE (by omega)))
end Go.Proofs
namespace Go.Proofs
open Go Eng
theorem ZAM (k:Int):∀(n x y p q:Nat),x % 2=1→(wd x).length≤100000→(wd y).length≤100000→x < 2 ^ p→y < 2 ^ q→p+q+y % 2 < n→ZnP n (iL (wd x)) (iL (wd y)) k=some (iL (wd (ZFI x y)),k)
 |0,x,y,p,q,_,_,_,_,_,h=>absurd h (by omega)
 |n+1,x,y,p,q,ho,hxl,hyl,hp,hq,hn=>by
  show ZoQ (ZnP n) _ _ _=_;unfold ZoQ;rw[Zn0]
  by_cases h0:y=0
  ·subst h0;rw[ZsS,Nat.gcd_zero_right];rfl
  ·have hl:=ZrW h0;obtain⟨z,hz,hz1,hz2,hz3⟩:=ZEy (iL (wd x)) k x ho h0 hyl;rw[decide_eq_true (by omega),cond_true,ZA5 _ _ ho,ZF2];dsimp only;unfold Zsi;rw[hz,ZF2];dsimp only;have hzl:=ZFL (Zr8 hz2.1) hyl;unfold Zsh;rw[Zz9 x z hxl hzl,ZF2];obtain⟨q',hq',hq2⟩:∃q',z < 2 ^ q'∧q'+1≤q+y % 2:=by
    by_cases he:y % 2=0
    ·cases q with
     |zero=>rw[ZFZ]at hq;omega
     |succ q=>
      refine⟨q, ?_,by omega⟩;have:=hz2.2 he;rw[ZFY]at hq;omega
    ·exact⟨q,by omega,by omega⟩
   unfold Zqt;have eg:ZFI x y=ZFI x z:=by rw[Nat.gcd_comm x y,←hz3,Nat.gcd_comm]
   rw[eg]
   by_cases hc:z < x
   ·rw[ZuN hc,show decide ((1:Int) > 0)=true from rfl,cond_true,ZyL x z (by omega) hxl,ZF2,ZAM k n z (x - z) q' p hz1 hzl (ZFL (Zr8 (Nat.sub_le x z)) hxl) hq' (by omega) (by omega),Nat.gcd_sub_self_right (by omega),Nat.gcd_comm]
   ·have hnc:decide (Zyf x z > 0)=false:=by refine decide_eq_false ?_;unfold Zyf;rw[if_neg hc];split<;>decide
    rw[hnc,cond_false,ZyL z x (by omega) hzl,ZF2,ZAM k n x (z - x) p q' ho hxl (ZFL (Zr8 (Nat.sub_le z x)) hzl) hp (by omega) (by omega),Nat.gcd_sub_self_right (by omega)]
end Go.Proofs
namespace Go.Proofs
open Go Eng
theorem ZCY:∀(n x y j m:Nat),x≠0→y≠0→(wd x).length≤100000→(wd y).length≤100000→x < 2 ^ m→m≤n→j+m≤1000000000→
  ∃x' y' t:Nat,Zoy n (iL (wd x)) (iL (wd y)) (j:Int)=some (iL (wd x'),iL (wd y'),((j+t:Nat):Int))∧(x' % 2=1∨y' % 2=1)∧ZFI x y=2 ^ t*ZFI x' y'∧x'≠0∧y'≠0∧x'≤x∧y'≤y∧t≤m
 |0,x,y,j,m,hx,hy,hxl,hyl,hm,hmn,hj=>by
  have:m=0:=by omega
  subst this;rw[ZFZ]at hm;omega
 |n+1,x,y,j,m,hx,hy,hxl,hyl,hm,hmn,hj=>by
  show ∃x' y' t:Nat,Zrk (Zoy n) _ _ _=_∧_;unfold Zrk Zqu;rw[Zyv hx,ZF2,ZxB]
  by_cases h1:x % 2=0
  ·rw[decide_eq_true h1,cond_true,Zyv hy,ZF2,ZxB]
   by_cases h2:y % 2=0
   ·cases m with
    |zero=>rw[ZFZ]at hm;omega
    |succ m=>
     rw[decide_eq_true h2,cond_true,Zxn x hxl,ZF2,Zxn y hyl,ZF2,ZnJ (by omega),chk_true];obtain⟨x',y',t,q1,q2,q3,q4,q5,q6,q7,q8⟩:=ZCY n (x / 2) (y / 2) (j+1) m (by omega) (by omega) (ZFL (Zr8 (ZFH x 2)) hxl) (ZFL (Zr8 (ZFH y 2)) hyl) (by rw[ZFY]at hm;omega) (by omega) (by omega);refine⟨x',y',t+1, ?_,q2, ?_,q4,q5,by omega,by omega,by omega⟩
     ·rw[show (j:Int)+1=((j+1:Nat):Int)from rfl,q1,show j+1+t=j+(t+1) by omega]
     ·have:=Nat.gcd_mul_left 2 (x / 2) (y / 2);rw[show 2*(x / 2)=x by omega,show 2*(y / 2)=y by omega]at this;rw[this,q3,ZFY,ZFT (2 ^ t) 2,ZFS]
   ·rw[decide_eq_false h2,cond_false];exact⟨x,y,0,rfl,.inr (by omega),by rw[ZFZ,ZFV],hx,hy,ZFK _,ZFK _,Nat.zero_le _⟩
  ·rw[decide_eq_false h1,cond_false,cond_false];exact⟨x,y,0,rfl,.inl (by omega),by rw[ZFZ,ZFV],hx,hy,ZFK _,ZFK _,Nat.zero_le _⟩
theorem ZCX:∀(k n a:Nat),k < n→k≤1000000000→(wd (2 ^ k*a)).length≤100000→Zox n (iL (wd a)) (k:Int)=some (iL (wd (2 ^ k*a)))
 |k,0,a,h,_,_=>absurd h (by omega)
 |0,n+1,a,_,_,_=>by show ZoO (Zox n) _ _=_;unfold ZoO;rw[ZFZ,ZFV];rfl
 |k+1,n+1,a,h,hk,hl=>by
  show ZoO (Zox n) _ _=_;unfold ZoO;have e:2 ^ (k+1)*a=2 ^ k*(2*a+0):=by rw[ZFY,ZFS,Nat.add_zero]
  have ha:(wd a).length≤100000:=ZFL (Zr8 (Nat.le_mul_of_pos_left a (ZF1 _))) hl;rw[e]at hl;have ht:=Zy3 a 0 (by omega) ha;rw[Int.natCast_zero]at ht;rw[decide_eq_true (by omega),cond_true,ht,ZF2,show ((k+1:Nat):Int) - 1=(k:Int) by omega,ZnJ (by omega),chk_true,ZCX k n (2*a+0) (by omega) (by omega) hl,e]
theorem ZB2 (a b:Nat) (ha0:a≠0) (hb0:b≠0) (ha:(wd a).length≤50000) (hb:(wd b).length≤50000):Zp9 (iL (wd a)) (iL (wd b))=some (iL (wd (ZFI a b))):=by
 have hla:=Zwi ha;have hlb:=Zwi hb;obtain⟨x,y,t,q1,q2,q3,q4,q5,q6,q7,q8⟩:=ZCY big a b 0 (a.log2+1) ha0 hb0 (by omega) (by omega) (ZuO a) (ZFJ (ZxE (by omega))) (by omega);rw[Int.natCast_zero,Nat.zero_add]at q1;have hxl:=ZFL (Zr8 q6) ha;have hyl:=ZFL (Zr8 q7) hb;have hlx:=Zwi hxl;have hly:=Zwi hyl;have main:ZnP big (iL (wd x)) (iL (wd y)) (t:Int)=some (iL (wd (ZFI x y)),(t:Int)):=by
  by_cases hx:x % 2=1
  ·exact ZAM _ big x y _ _ hx (by omega) (by omega) (ZuO x) (ZuO y) (ZxE (by omega))
  ·have hy:y % 2=1:=by omega
   obtain⟨z,z1,z2,z3,z4⟩:=ZEz (iL (wd y)) (t:Int) y hy q4 (by omega);have hzl:=ZFL (Zr8 z3) hxl;have hlz:=Zwi hzl;have e:=ZAM (t:Int) big z y _ _ z2 (by omega) (by omega) (ZuO z) (ZuO y) (ZxE (by omega));rw[z4]at e;rw[←e];obtain⟨n,hn⟩:∃n,big=n+1:=⟨36893488147419103231,by rw[big_eq]⟩;have s1:∀u,ZnP big (iL (wd u)) (iL (wd y)) (t:Int)=ZoQ (ZnP n) (iL (wd u)) (iL (wd y)) (t:Int):=fun u=>by rw[hn];rfl
   rw[s1,s1];unfold ZoQ;have hl:=ZrW q5;rw[Zn0,decide_eq_true (by omega),cond_true,cond_true,z1,ZA5 _ _ z2]
 have hg:(wd (2 ^ t*ZFI x y)).length≤100000:=by rw[←q3];exact ZFL (ZzC (by omega) hb) (by omega)
 unfold Zp9;rw[q1,ZF2];dsimp only;unfold Zsj Zsg Zsf;rw[main,ZF2];dsimp only;rw[ZCX t big _ (ZxE (by omega)) (by omega) hg,ZF2,q3]
end Go.Proofs
namespace Go.Proofs
open Go Eng
theorem ZAa {l:List Nat} {i:Nat} (hd:Dg l) (h:i / 32 < l.length):l[i / 32] / 2 ^ (i % 32) % 2=val l / 2 ^ i % 2:=by
 have e:=Zvz h;have hlt:=ZtV (hd.take (i / 32));rw[ZFw,ZFP (by omega)]at hlt;have hi:2 ^ i=Bw ^ (i / 32)*2 ^ (i % 32):=by rw[show Bw=2 ^ 32 from rfl,←Nat.pow_mul,←Nat.pow_add,ZFF]
 have hr:i % 32 < 32:=ZFQ _ (by decide);have hB:Bw=2 ^ (i % 32)*(2*2 ^ (31 - i % 32)):=by rw[show 2*2 ^ (31 - i % 32)=2 ^ (31 - i % 32+1) by rw[ZFY,ZFT],←Nat.pow_add,show i % 32+(31 - i % 32+1)=32 by omega]
 have e1:val l / Bw ^ (i / 32)=l[i / 32]+Bw*val (l.drop (i / 32+1)):=by rw[e,ZFD _ _ (Nat.pow_pos (by decide)),ZFG hlt,Nat.zero_add]
 rw[hi,←Nat.div_div_eq_div_mul,e1];generalize l[i / 32]=x;generalize val (l.drop (i / 32+1))=y;have e2:(x+Bw*y) / 2 ^ (i % 32)=x / 2 ^ (i % 32)+2*(2 ^ (31 - i % 32)*y):=by rw[hB,ZFS,ZFD _ _ (ZF1 _),ZFS]
 rw[e2,ZFE]
end Go.Proofs
namespace Go.Proofs
open Go Eng
theorem ZAY (i:Nat):Int.tdiv (i:Int) 32=((i / 32:Nat):Int):=by rw[Int.tdiv_eq_ediv_of_nonneg (by omega)];norm_cast
theorem ZAX (i:Nat):IntKind.wrap .u64 (Int.tmod (i:Int) 32)=((i % 32:Nat):Int):=by rw[Int.tmod_eq_emod_of_nonneg (by omega),IntKind.wrap_u64];omega
theorem ZDr {l:List Nat} {i:Nat} (hd:Dg l) (h:i / 32 < l.length) (hi:i≤1000000000):Zqa (iL l) (i:Int)=some ((val l / 2 ^ i % 2:Nat):Int):=by have h1:=hd.get h;unfold Zqa;rw[ZAY,ZAX,decide_eq_true (by decide),chk_true,ZnJ (by omega),chk_true,Zs9 h,ZF2,chk_true,decide_eq_true (by omega),chk_true,ZwU _ (by omega),show (1:Int)=((1:Nat):Int)from rfl,Zyc (ZFM (ZFH _ _) h1) (by decide),Nat.and_one_is_mod,ZAa hd h]
end Go.Proofs
namespace Go.Proofs
open Go Eng
theorem ZA1 {x j:Nat} (h:x / 2 ^ j % 2=0):x|||2 ^ j=x+2 ^ j:=by
 have hlo:=ZFQ x (ZF1 j);have e:x=2 ^ (j+1)*(x / 2 ^ j / 2)+x % 2 ^ j:=by
  have h1:=ZFF x (2 ^ j);have h2:2*(x / 2 ^ j / 2)=x / 2 ^ j:=by omega
  rw[ZFY,ZFS,h2,h1]
 have a1:=ZF0 (i:=j+1) (b:=x % 2 ^ j) (by rw[ZFY];omega) (x / 2 ^ j / 2);have a2:=ZF0 (i:=j) (b:=x % 2 ^ j) hlo 1;have a3:=ZF0 (i:=j+1) (b:=2 ^ j*1+x % 2 ^ j) (by rw[ZFY];omega) (x / 2 ^ j / 2);rw[Nat.mul_one]at a2 a3;generalize x / 2 ^ j / 2=t at*
 generalize x % 2 ^ j=lo at*
 rw[e,a1,Nat.or_assoc,Nat.or_comm lo,←a2,←a3,←a1];omega
theorem ZBE {j:Nat} (hj:j≤31):shlK .u32 1 (j:Int)=((2 ^ j:Nat):Int):=by have:=ZyO (a:=1) j (by omega);rw[ZFV,Nat.mod_eq_of_lt (ZFM (ZFX (by decide) hj) (by decide))]at this;exact this
theorem Zz1 {A k:Nat}:A / 2 ^ k=2*(A / 2 ^ (k+1))+A / 2 ^ k % 2:=by rw[ZFY,←Nat.div_div_eq_div_mul];omega
theorem Zz5 (a b:Nat) (hb0:b≠0) (ha:(wd a).length≤50000) (hb:(wd b).length≤50000):Zo5 (iL (wd a)) (iL (wd b))=some (iL (wd (a / b)),iL (wd (a % b))):=by
 have hlen:∀k,(wd (2*(a / 2 ^ (k+1) % b)+a / 2 ^ k % 2)).length≤50001:=fun k=>by
  have h1:=ZFQ (a / 2 ^ (k+1)) (ZFW hb0);have h2:2*(a / 2 ^ (k+1) % b)+a / 2 ^ k % 2≤b+b:=by omega
  exact ZFL (Zr8 h2) (ZzE hb hb)
 refine Zr7 ?_;unfold Zo5;rw[ZnH,ZnH,ZnH,ZnG,Zn0,ZFi,ZxQ];refine⟨ZwM (by omega),ZnJ (by omega),ZnJ (by omega), ?_⟩;have e0:(32*((wd a).length:Int)) - 1=((32*(wd a).length:Nat):Int) - 1:=by omega
 rw[e0,show ([]:List Int)=iL (wd 0) by rw[ZsS];rfl];refine Zn7 (Zxa Zvp (32*(wd a).length) (by omega) (fun i (q:Nat×List Nat)=>(iL (wd a),iL (wd b),iL (wd q.1),i,iL q.2))
  (fun k q=>q.1=a / 2 ^ k % b∧Dg q.2∧q.2.length=(wd a).length∧val q.2=a / 2 ^ k / b*2 ^ k)
  (Q:=fun y=>∃o:List Nat,y=(iL (wd (a % b)),iL o)∧Dg o∧o.length=(wd a).length∧val o=a / b) (0,List.replicate (wd a).length 0) ?_ ?_ ?_) ?_
 ·have h0:a / 2 ^ (32*(wd a).length)=0:=by refine ZFG ?_;rw[Nat.pow_mul];exact Zts a
  rw[h0,Nat.zero_mod,Nat.zero_div,Nat.zero_mul];exact⟨rfl,ZA6 _,List.length_replicate,ZzF _⟩
 ·rintro rec k ⟨r,q⟩ hk ⟨hr,hd,hl,hv⟩ ih;dsimp only at hr hd hl hv;have hk32:k / 32 < (wd a).length:=by omega
  unfold Zrl ZpC;dsimp only;have hbit:=ZDr (i:=k) (ZuD a) hk32 (by omega);rw[Zsv]at hbit;have h2:a / 2 ^ k % 2≤1:=by omega
  have htw:=Zy3 r (a / 2 ^ k % 2) h2 (by
   rw[hr];exact ZFL (Zr8 (ZFJ (ZFQ _ (ZFW hb0)))) (by omega))
  have hlk:=hlen k;rw[←hr]at hlk;have hx:=Zz1 (A:=a) (k:=k);have hdm:=ZFF (a / 2 ^ (k+1)) b;rw[←hr]at hdm;have hrlt:r < b:=by rw[hr];exact ZFQ _ (ZFW hb0)
  rw[ZnZ];refine⟨fun _=> ?_,fun h=>by have:=of_decide_eq_false h;omega⟩;rw[hbit,ZnG,ZnF,htw,ZnG,ZnF,Zz9 _ _ (by omega) (by omega),ZnG,ZnF,ZnZ];have nx:∀r' q',(r'=a / 2 ^ k % b∧Dg q'∧q'.length=(wd a).length∧val q'=a / 2 ^ k / b*2 ^ k)→wp (Zpb (fun a b r_ i q=>rec (a,b,r_,i,q)) (iL (wd a)) (iL (wd b)) (iL (wd r')) (k:Int) (iL q')) (fun y=>∃o:List Nat,y=(iL (wd (a % b)),iL o)∧Dg o∧o.length=(wd a).length∧val o=a / b):=fun r' q' h=>by unfold Zpb;rw[ZnH];exact⟨ZnJ (by omega),ih (r',q') h⟩
  generalize eX:a / 2 ^ (k+1)=X at*
  generalize ed:a / 2 ^ k % 2=d at*
  refine⟨fun hc=> ?_,fun hc=> ?_⟩
  ·have hge:b≤2*r+d:=by
    rcases ZFO (2*r+d) b with h |h
    ·rw[Zvb h]at hc;exact absurd (of_decide_eq_true hc) (by decide)
    ·exact h
   have hq:k / 32 < q.length:=by omega
   have hz:q[k / 32] / 2 ^ (k % 32) % 2=0:=by rw[ZAa hd hq,hv,ZFY,←ZFS,Nat.mul_right_comm,Nat.mul_div_cancel _ (ZF1 k)];omega
   have hx32:=hd.get hq;rw[ZyL _ _ hge (by omega),ZnG,ZnF,ZAY,ZAX,ZFi,ZnH,ZnH,ZnH,ZwR hq,ZnG,ZnF,ZnH,ZnH,ZnH,ZBE (by omega),Zyt hx32 (ZFM (ZFX (by decide) (show k % 32≤31 by omega)) (by decide)),ZA1 hz,Zwn,Zn0];refine⟨by decide,ZnJ (by omega),ZrE ⟨by omega,by omega⟩,by decide,decide_eq_true (by omega),ZrE ⟨by omega,by omega⟩, ?_⟩;have hsum:q[k / 32]+2 ^ (k % 32) < Bw:=by
    have hB:Bw=2 ^ (k % 32)*(2*2 ^ (31 - k % 32)):=by rw[show 2*2 ^ (31 - k % 32)=2 ^ (31 - k % 32+1) by rw[ZFY,ZFT],←Nat.pow_add,show k % 32+(31 - k % 32+1)=32 by omega]
    rw[←ZA1 hz];exact Nat.or_lt_two_pow (n:=32) hx32 (ZFM (ZFX (by decide) (show k % 32≤31 by omega)) (by decide))
   refine nx (2*r+d - b) (q.set (k / 32) (q[k / 32]+2 ^ (k % 32))) ⟨?_,hd.set _ hsum,by rw[List.length_set,hl], ?_⟩
   ·rw[hx,show 2*X+d=(2*r+d - b)+b*(2*(X / b)+1) by rw[ZFR,ZFU];omega,ZFE,Nat.mod_eq_of_lt (by omega)]
   ·have hvs:=Zww q (k / 32) (q[k / 32]+2 ^ (k % 32)) hq;have hp:Bw ^ (k / 32)*2 ^ (k % 32)=2 ^ k:=by rw[show Bw=2 ^ 32 from rfl,←Nat.pow_mul,←Nat.pow_add,ZFF]
    rw[ZFR,hp]at hvs;have e1:(2*X+d) / b=2*(X / b)+1:=by rw[show 2*X+d=(2*r+d - b)+b*(2*(X / b)+1) by rw[ZFR,ZFU];omega,ZFD _ _ (ZFW hb0),ZFG (by omega),Nat.zero_add]
    rw[hx,e1];rw[hv,ZFY]at hvs;have e2:X / b*(2 ^ k*2)=2*(X / b)*2 ^ k:=by rw[ZFT (2 ^ k) 2,←ZFS,ZFT (X / b) 2]
    rw[Nat.add_mul,ZFV];omega
  ·have hlt:2*r+d < b:=by
    rcases ZFO (2*r+d) b with h |h
    ·exact h
    ·rcases ZFO b (2*r+d)with h' |h'
     ·rw[ZuN h']at hc;exact absurd (of_decide_eq_false hc) (by decide)
     ·rw[show 2*r+d=b by omega,Zu3]at hc;exact absurd (of_decide_eq_false hc) (by decide)
   have e0:2*X+d=(2*r+d)+b*(2*(X / b)):=by rw[ZFU];omega
   refine nx (2*r+d) q ⟨?_,hd,hl, ?_⟩
   ·rw[hx,e0,ZFE,Nat.mod_eq_of_lt hlt]
   ·rw[hx,e0,ZFD _ _ (ZFW hb0),ZFG hlt,Nat.zero_add,hv,ZFY,ZFT (2 ^ k) 2,←ZFS,ZFT (X / b) 2]
 ·rintro rec ⟨r,q⟩ ⟨hr,hd,hl,hv⟩;dsimp only at hr hd hl hv;rw[ZFZ,Nat.div_one]at hr hv;unfold Zrl ZpC;dsimp only;rw[ZnZ];refine⟨fun h=>by have:=of_decide_eq_true h;omega,fun _=> ?_⟩;rw[ZnF,hr];exact⟨q,rfl,hd,hl,by rw[hv,Nat.mul_one]⟩
 ·rintro y ⟨o,rfl,hd,hl,hv⟩;dsimp only;unfold Zsk;rw[Zw2 hd (by omega),ZnG,ZnF,ZnF,hv]
end Go.Proofs
namespace Go.Proofs
open Go Eng
theorem Zzx (n:Int):Rat.divInt n 1=(n:Rat):=by have h:=Rat.num_divInt_den (n:Rat);rw[Rat.num_intCast,Rat.den_intCast]at h;exact h
end Go.Proofs
namespace Go.Proofs
open Go Eng
theorem ZwX (z:Int) (h1: -9223372036854775808≤z) (h2:z≤9223372036854775807):ZnM z=some (bg z):=by
 have key:∀(b:Bool) (n:Nat),n < 18446744073709551616→ZnO b [IntKind.wrap .u32 (n:Int),IntKind.wrap .u32 (shrK .u64 (n:Int) 32)]=some (bg (if b then -(n:Int)else n)):=fun b n h=>by
  have e:([IntKind.wrap .u32 (n:Int),IntKind.wrap .u32 (shrK .u64 (n:Int) 32)]:List Int)=iL [n % 4294967296,n / 4294967296]:=by rw[show (32:Int)=((32:Nat):Int)from rfl,Zwy 32 (by omega),ZtQ,Zt8 (by omega)];rfl
  have hd:Dg [n % 4294967296,n / 4294967296]:=fun d hd=>by
   simp only[ZFy,List.mem_singleton,ZFA,or_false]at hd;rcases hd with rfl |rfl
   ·exact ZFQ _ (by decide)
   ·simp only[Bw];omega
  have hv:val [n % 4294967296,n / 4294967296]=n:=by simp only[val,Nat.mul_zero,Nat.add_zero];exact Nat.mod_add_div n Bw
  rw[e,ZyX b hd (by simp),hv]
 unfold ZnM Zpg;have h32:decide (0≤(32:Int))=true:=rfl
 by_cases hz:z < 0
 ·have e:IntKind.wrap .u64 (0 - IntKind.wrap .u64 z)=((z.natAbs:Nat):Int):=by rw[IntKind.wrap_u64,IntKind.wrap_u64];omega
  rw[decide_eq_true hz,cond_true,h32,chk_true,e,key true _ (by omega),ZF2,if_pos rfl,show -((z.natAbs:Nat):Int)=z by omega]
 ·have e:IntKind.wrap .u64 z=((z.natAbs:Nat):Int):=by rw[IntKind.wrap_u64];omega
  rw[decide_eq_false hz,cond_false,h32,chk_true,e,key false _ (by omega),ZF2,if_neg (by decide),show ((z.natAbs:Nat):Int)=z by omega]
theorem ZCa:bg 0=⟨false,[]⟩:=by unfold bg;rw[show (0:Int).natAbs=0 from rfl,ZsS];rfl
theorem Zzs (x y:Int) (hy:y≠0) (hx1:Wl 50000 x) (hy1:Wl 50000 y):Zow (bg x) (bg y)=some (fOf (Rat.divInt x y)):=by
 unfold Zow
 by_cases hx:x=0
 ·subst hx;rw[Rat.zero_divInt,Zp8,Zn0,show (0:Int).natAbs=0 from rfl,ZsS,ZwX 1 (by decide) (by decide)];show some (ZnA.mk ⟨false,[]⟩ (bg 1))=some (fOf 0);rw[←ZCa];rfl
 ·have hx0:0 < x.natAbs:=by omega
  have hy0:0 < y.natAbs:=by omega
  have hg0:ZFI x.natAbs y.natAbs≠0:=fun e=>by have:=Nat.gcd_pos_of_pos_right x.natAbs hy0;omega
  have hgl:=ZzC (x:=x.natAbs) hy0 hy1;have hxl:=Zy1 (ZFI x.natAbs y.natAbs) hx1;have hyl:=Zy1 (ZFI x.natAbs y.natAbs) hy1;have h:=Zv7 x y hy hx1 hy1;unfold ZoH at h;rw[Zp8,Zp8,ZxD _ _ hx1 hy1,ZF2,Zxc _ _ hg0 hx1 hgl,ZF2]at h;dsimp only at h;rw[Zxc _ _ hg0 hy1 hgl,ZF2]at h;dsimp only at h;rw[Zs3 _ _ (by omega),ZF2,Zs3 _ _ (by omega),ZF2]at h;have hlen:=ZrW (n:=x.natAbs) (by omega);rw[←h,Zp8,Zp8,Zn0,beq_eq_false_iff_ne.2 (by omega),cond_false,ZB2 _ _ (by omega) (by omega) hx1 hy1,ZF2,Zz5 _ _ hg0 hx1 hgl,ZF2];dsimp only;rw[Zz5 _ _ hg0 hy1 hgl,ZF2];dsimp only;rw[ZyX _ (ZuD _) (by omega),ZF2,ZyX _ (ZuD _) (by omega),ZF2,Zsv,Zsv]
theorem ZAH (x y:Int) (hy:y≠0) (hx1:Wl 256 x) (hy1:Wl 256 y):ZpJ (bg x) (bg y)=some (fOf (Rat.divInt x y),0):=by unfold ZpJ Zp4;rw[ZwP,ZwT x hx1,ZF2,ZCM,cond_false,ZwP,ZwT y hy1,ZF2,ZCM,cond_false,Zxb hy,cond_false,Zzs x y hy (ZFL hx1 (by decide)) (ZFL hy1 (by decide)),ZF2]
theorem ZCR (x y:Int) (hy:y≠0) (h1: -9223372036854775808≤x) (h2:x≤9223372036854775807) (h3: -9223372036854775808≤y) (h4:y≤9223372036854775807):Zpq x y=some (fOf (Rat.divInt x y),0):=by unfold Zpq;rw[ZwX x h1 h2,ZF2,ZwX y h3 h4,ZF2,ZAH x y hy (ZEf h1 h2) (ZEf h3 h4),ZF2]
theorem Zxt (x y:Int) (hy:y≠0) (h1: -9223372036854775808≤x) (h2:x≤9223372036854775807) (h3: -9223372036854775808≤y) (h4:y≤9223372036854775807):Zof x y=some (fOf (Rat.divInt x y)):=by unfold Zof;rw[Zt7];unfold ZsU;rw[ZCR x y hy h1 h2 h3 h4,ZF2]
theorem ZAO (x:Int) (h1: -9223372036854775808≤x) (h2:x≤9223372036854775807):Zpp x=some (fOf (x:Rat)):=by unfold Zpp;rw[Zt7];unfold Ztd;rw[Zxt x 1 (by decide) h1 h2 (by decide) (by decide),ZF2,Zzx]
theorem ZCI {a b:Nat} (h:wd a=wd b):a=b:=by rw[←Zsv a,←Zsv b,h]
theorem ZxN (x y:Int) (hx:Wl 100000 x) (hy:Wl 100000 y):Zos (bg x) (bg y)=some (decide (x=y)):=by
 unfold Wl at hx hy;refine Zr7 ?_;unfold Zos Zpe;rw[Zwp,Zwp,Zp8,Zp8,Zn0,Zn0]
 by_cases hs:decide (x < 0)=decide (y < 0)
 ·rw[hs,beq_self_eq_true,ZCM,cond_false]
  by_cases hl:(wd x.natAbs).length=(wd y.natAbs).length
  ·rw[hl,bne_self_eq_false,cond_false,ZnG];refine Zn7 (ZsT ZuE (wd y.natAbs).length (by omega) (fun i (_:Unit)=>(iL (wd x.natAbs),((wd y.natAbs).length:Int),i,bg y)) (fun i _=>(wd x.natAbs).take i=(wd y.natAbs).take i)
    (Q:=fun r=>r= .ret false∧wd x.natAbs≠wd y.natAbs∨r= .brk ()∧wd x.natAbs=wd y.natAbs) () (by rw[List.take_zero,List.take_zero]) ?_ ?_) ?_
   ·rintro rec i ⟨⟩ hi hP ih;have hi2:i < (wd x.natAbs).length:=by omega
    unfold Zqd ZoU;dsimp only;rw[ZnZ];refine⟨fun _=> ?_,fun h=>by have:=of_decide_eq_false h;omega⟩;rw[Zp8,Zs9 hi2,ZnG,ZnF,Zs9 hi,ZnG,ZnF,ZnZ];refine⟨fun h=> ?_,fun h=> ?_⟩
    ·rw[ZnF];refine .inl ⟨rfl,fun e=> ?_⟩;have h1:(wd y.natAbs)[i]=(wd x.natAbs)[i]:=by simp only[e]
     rw[h1,bne_self_eq_false]at h;exact absurd h (by decide)
    ·rw[ZnH];refine⟨ZnJ (by omega),ih () ?_⟩;rw[bne_eq_false_iff_eq]at h;have h1:(wd y.natAbs)[i]=(wd x.natAbs)[i]:=by omega
     rw[ZFC hi2,ZFC hi,hP,h1]
   ·rintro rec ⟨⟩ hP;unfold Zqd ZoU;dsimp only;rw[ZnZ];refine⟨fun h=>by have:=of_decide_eq_true h;omega,fun _=> ?_⟩;rw[ZnF];rw[ZFB,←hl,ZFB]at hP;exact .inr ⟨rfl,hP⟩
   ·rintro r (⟨rfl,h⟩ |⟨rfl,h⟩)
    ·exact ZnF.2 (decide_eq_false (fun e=>h (by rw[e]))).symm
    ·unfold ZqN;have h1:=ZCI h;refine ZnF.2 (decide_eq_true ?_).symm
     by_cases hy0:y < 0
     ·have hx0:x < 0:=by rw[decide_eq_true hy0]at hs;exact of_decide_eq_true hs
      omega
     ·have hx0:¬x < 0:=by rw[decide_eq_false hy0]at hs;exact of_decide_eq_false hs
      omega
  ·have:(((wd x.natAbs).length:Int) != ((wd y.natAbs).length:Int))=true:=by rw[bne_iff_ne];omega
   rw[this,cond_true,ZnF];exact(decide_eq_false (fun e=>hl (by rw[e]))).symm
 ·rw[beq_eq_false_iff_ne.2 hs,Bool.not_false,cond_true,cond_true,ZnF];exact(decide_eq_false (fun e=>hs (by rw[e]))).symm
theorem Zv4 (p q:Rat) (hp:Wq 256 p) (hq:Wq 256 q):ZnT (fOf p) (fOf q)=some (decide (p=q)):=by
 have m:∀{x:Int},Wl 256 x→Wl 100000 x:=fun h=>ZFL h (by decide)
 unfold ZnT ZpZ fOf;dsimp only;rw[ZxN _ _ (m hp.1) (m hq.1),ZF2]
 by_cases h1:p.num=q.num
 ·rw[decide_eq_true h1,cond_true,ZxN _ _ (m hp.2) (m hq.2),ZF2];congr 1
  by_cases h2:p.den=q.den
  ·rw[decide_eq_true (by omega),decide_eq_true (Rat.ext h1 h2)]
  ·rw[decide_eq_false (by omega),decide_eq_false (fun e=>h2 (by rw[e]))]
 ·rw[decide_eq_false h1,cond_false,decide_eq_false (fun e=>h1 (by rw[e]))]
end Go.Proofs
namespace Go.Proofs
open Go Eng
theorem ZDq:∀x y:Str,Op.bytesLess x y=decide (x < y)
 |x,[]=>by
  have:¬x < []:=by simp
  rw[decide_eq_false this];cases x<;>rfl
 | [],b::y=>by
  have:([]:Str) < b::y:=by simp
  rw[decide_eq_true this];rfl
 |a::x,b::y=>by rw[Op.bytesLess,ZDq x y,Bool.eq_iff_iff];simp only[Bool.or_eq_true,Bool.and_eq_true,decide_eq_true_eq,beq_iff_eq];rw[List.cons_lt_cons_iff]
def Srt (l:List Str):Prop:=l.Pairwise (fun a b=>a≤b)∧l.Nodup
theorem ZzJ (l:List Str):Srt (ZuH l):=⟨ZwJ l,ZuG l⟩
theorem ZzK {l:List Str} (h:Srt l) {i j:Nat} (hij:i < j) (hj:j < l.length):l[i] < l[j]:=by
 have h1:=List.pairwise_iff_getElem.1 h.1 i j (by omega) hj hij;have h2:=List.pairwise_iff_getElem.1 h.2 i j (by omega) hj hij;rcases List.le_iff_lt_or_eq.1 h1 with h3 |h3
 ·exact h3
 ·exact absurd h3 h2
theorem ZBQ (x y:Str):ZsP x y=some (decide (x < y)):=by unfold ZsP Zr6 ZqW;rw[show (x == x)=true by simp];rw[←ZDq];rfl
theorem ZCU {i j:Nat} (h:i+j≤4611686018427387904):IntKind.wrap .i64 (shrK .u64 (IntKind.wrap .u64 ((i:Int)+(j:Int))) 1)=(((i+j) / 2:Nat):Int):=by rw[show (i:Int)+(j:Int)=((i+j:Nat):Int) by omega,Zn9 (by omega),show (1:Int)=((1:Nat):Int)from rfl,Zwy 1 (by decide),wrap_i64 (by omega)]
theorem ZzO {xs:List Str} (hs:Srt xs) (hl:xs.length≤1000000000000) (t:Str):wp (Zn4 xs t) (fun r=>r.2=xs.contains t):=by
 unfold Zn4;rw[ZnG];refine Zn7 (Zw0 Zth (fun(s:Nat×Nat)=>(xs,t,(xs.length:Int),(s.1:Int),(s.2:Int)))
  (fun s=>(s.1≤s.2∧s.2≤xs.length)∧(∀k (h:k < xs.length),k < s.1→xs[k] < t)∧(∀k (h:k < xs.length),s.2≤k→¬xs[k] < t)) (fun s=>s.2 - s.1)
  (Q:=fun x=>∃i:Nat,x=(xs,t,(xs.length:Int),(i:Int))∧i≤xs.length∧(∀k (h:k < xs.length),k < i→xs[k] < t)∧(∀k (h:k < xs.length),i≤k→¬xs[k] < t)) (0,xs.length) ⟨⟨Nat.zero_le _,ZFK _⟩,fun k _ h=>absurd h (Nat.not_lt_zero _),fun k h h'=>absurd h (by dsimp only at h';omega)⟩ (by dsimp only;omega) ?_) ?_
 ·rintro rec ⟨i,j⟩ ⟨⟨h1,h2⟩,hlo,hhi⟩ ih;dsimp only at h1 h2 hlo hhi ih⊢
  unfold Zqo ZoJ;dsimp only;rw[ZCU (by omega)];rw[ZnZ];refine⟨fun h=> ?_,fun h=> ?_⟩
  ·simp only[decide_eq_true_eq]at h;have hij:i < j:=by omega
   have hm:(i+j) / 2 < xs.length:=by omega
   rw[ZnH,ZnH];refine⟨ZnJ (by omega),by decide, ?_⟩;rw[Zwj hm,ZF2,ZBQ,ZF2,ZnZ];refine⟨fun hc=> ?_,fun hc=> ?_⟩
   ·simp only[decide_eq_true_eq]at hc;rw[ZnH];refine⟨ZnJ (by omega), ?_⟩;have:=ih ((i+j) / 2+1,j) ⟨⟨by dsimp only;omega,h2⟩,fun k hk hlt=> ?_,hhi⟩ (by dsimp only;omega)
    ·dsimp only at this
     rwa [show (((i+j) / 2+1:Nat):Int)=(((i+j) / 2:Nat):Int)+1 by omega]at this
    ·dsimp only at hlt;rcases ZFO k ((i+j) / 2)with h3 |h3
     ·exact List.lt_trans (ZzK hs h3 hm) hc
     ·obtain rfl:k=(i+j) / 2:=by omega
      exact hc
   ·simp only[decide_eq_false_iff_not]at hc;refine ih (i,(i+j) / 2) ⟨⟨by dsimp only;omega,by dsimp only;omega⟩,hlo,fun k hk hle=> ?_⟩ (by dsimp only;omega);dsimp only at hle;rcases ZFO ((i+j) / 2) k with h3 |h3
    ·exact fun h4=>hc (List.lt_trans (ZzK hs h3 hk) h4)
    ·obtain rfl:k=(i+j) / 2:=by omega
     exact hc
  ·simp only[decide_eq_false_iff_not]at h;obtain rfl:i=j:=by omega
   rw[ZnF];exact⟨i,rfl,h2,hlo,hhi⟩
 ·rintro x ⟨i,rfl,hi,hlo,hhi⟩;dsimp only;unfold ZoX ZnQ;have key:xs.contains t=true↔∃h:i < xs.length,xs[i]=t:=by
   rw[ZFk];constructor
   ·intro hm;obtain⟨k,hk,hkt⟩:=List.getElem_of_mem hm;have h1:i≤k:=by
     rcases ZFO k i with h |h
     ·have:=hlo k hk h;rw[hkt]at this;exact absurd this (List.lt_irrefl t)
     ·exact h
    rcases ZFO i k with h |h
    ·have h2:=ZzK hs h hk;rw[hkt]at h2;exact absurd h2 (hhi i (by omega) (ZFK _))
    ·obtain rfl:i=k:=by omega
     exact⟨hk,hkt⟩
   ·rintro⟨h,rfl⟩;exact ZFs h
  rw[ZnZ];refine⟨fun h=> ?_,fun h=> ?_⟩
  ·simp only[decide_eq_true_eq]at h;have hi':i < xs.length:=by omega
   rw[Zwj hi',ZF2,ZnZ];refine⟨fun hc=> ?_,fun hc=> ?_⟩
   ·rw[ZnF];exact(key.2 ⟨hi',by simpa using hc⟩).symm
   ·have hn:xs.contains t=false:=by rw[Bool.eq_false_iff];intro h3;obtain⟨_,h4⟩:=key.1 h3;rw[h4]at hc;simp at hc
    rw[ZF2];unfold ZqB;rw[ZF2,show (xs[i] == xs[i])=true by simp,ZCM,cond_false,ZnF,hn]
  ·simp only[decide_eq_false_iff_not]at h;rw[ZnF]
   symm
   rw[Bool.eq_false_iff];intro h3;obtain⟨h4,_⟩:=key.1 h3;omega
def ZxU (a b:List Str):Nat:=(a.filter fun x=>b.contains x).length
theorem ZyW (a b:List Str):ZxU a b≤a.length:=ZFu _ _
theorem ZzN {a b:List Str} (hb:Srt b) (hla:a.length≤1000000000000) (hlb:b.length≤1000000000000):Zrq a b=some (ZxU a b:Int):=by
 refine Zr7 ?_;unfold Zrq;rw[ZnG];refine Zn7 (ZsT Zv2 a.length (by omega) (fun i (n:Nat)=>(b,(n:Int),a,(a.length:Int),i)) (fun i n=>n=ZxU (a.take i) b)
  (Q:=fun x=>x=(ZxU a b:Int)) 0 (by simp[ZxU]) ?_ ?_) ?_
 ·rintro rec i n hi rfl ih;unfold ZsI ZqH;dsimp only;rw[decide_eq_true (show (i:Int) < (a.length:Int) by omega),cond_true,Zwj hi,ZF2,ZnG];refine Zn7 (ZzO hb hlb _) fun⟨q,ok⟩ hok=> ?_
  dsimp only at hok⊢
  have hc:ZxU (a.take (i+1)) b=ZxU (a.take i) b+(if b.contains a[i]then 1 else 0):=by unfold ZxU;rw[ZFC hi,ZFl,ZFt];congr 1;cases h:b.contains a[i]<;>(simp only[ZFm,h,List.filter_nil];rfl)
  have hle:=ZyW (a.take i) b;rw[ZFw]at hle;have hk:inK .i64 ((i:Int)+1)=true:=ZnJ (by omega);unfold ZrB;rw[ZnZ];refine⟨fun h=> ?_,fun h=> ?_⟩
  ·rw[ZnH,ZnH];refine⟨ZnJ (by omega),hk, ?_⟩;have:=ih (ZxU (a.take i) b+1) (by rw[hc,←hok,h];rfl)
   rwa [show ((ZxU (a.take i) b+1:Nat):Int)=(ZxU (a.take i) b:Int)+1 by omega]at this
  ·rw[ZnH];exact⟨hk,ih (ZxU (a.take i) b) (by rw[hc,←hok,h];rfl)⟩
 ·rintro rec n rfl;unfold ZsI ZqH;dsimp only;rw[decide_eq_false (show ¬(a.length:Int) < (a.length:Int) by omega),cond_false,ZnF,ZFB]
 ·rintro x rfl;unfold Zti;rw[ZnF]
end Go.Proofs
namespace Go.Proofs
open Go Eng
theorem Zx5 {x y:Int} (hy:y≠0) (h1:x.natAbs < 16) (h2:y.natAbs < 16):Sz 4 (Rat.divInt x y):=Zwx (k:=4) hy h1 h2
theorem ZEK:ZqM [48]=Zr4 false [] [1] false false [] []:=by kernel_rfl
theorem dec0:ZqM [48]=some (fOf (Rat.divInt 0 1),true):=by
 rw[ZEK];unfold Zr4;have e0:iL (wd 0)=[]:=by kernel_rfl
 have e1:iL (wd 1)=[1]:=by kernel_rfl
 have l0:Nat.ble (wd 0).length 50000=true:=by kernel_rfl
 have l1:Nat.ble (wd 1).length 50000=true:=by kernel_rfl
 have w0:=Nat.le_of_ble_eq_true l0;have w1:=Nat.le_of_ble_eq_true l1;have h1:=Zs3 false 0 (by omega);have h2:=Zs3 false 1 (by omega);rw[e0]at h1;rw[e1]at h2;rw[h1,ZF2,h2,ZF2];have:=Zv7 0 1 (by decide) w0 w1;simp only[Bool.false_eq_true,if_false];rw[show ((0:Nat):Int)=0 from rfl,show ((1:Nat):Int)=1 from rfl,this,ZF2]
theorem can0:ZsD 4 [48]=some ([48],true):=by
 have h:ZsD 4 [48]=(Ztt [48]).bind fun(a,b)=>some (a,b):=by kernel_rfl
 rw[h];unfold Ztt;rw[dec0];show _=_
 kernel_rfl
theorem valZ:ZpL (ZnB.mk false [48])=some (fOf (Rat.divInt 0 1),true):=by
 unfold ZpL Zvk;rw[can0];dsimp only;rw[cond_false,ZF2];dsimp only;rw[ZCM,cond_false,dec0];show _=_
 kernel_rfl
def ZCS:List (Str×Int):=[([45,51], -3),([45,50], -2),([45,49], -1),([49],1),([50],2),([51],3),([52],4),([53],5),([54],6),([55],7),([56],8),([49,48],10)]
def Zz2:List (Str×Int):=[([45,49,46,53], -3),([49,46,53,48],3)]
def noT:List Str:=[[97],[98],[99],[100],[120],[],[49,46,50,46,51],[107,48],[107,49],[107,50],[107,51],[107,52],[107,53],[107,54],[107,55],[107,56],[107,57],[107,49,48],[107,49,49],[107,49,50],[107,49,51]]
def fx (n:Int) (d:Int):ZnA:=⟨⟨decide (n < 0),if n=0 then []else [(n.natAbs:Int)]⟩,⟨false,[d]⟩⟩
theorem ZyT:(ZCS.all fun p=>decide (ZpL (ZnB.mk false p.1)=some (fx p.2 1,true)))=true:=by kernel_rfl
theorem Zzg:(Zz2.all fun p=>decide (ZpL (ZnB.mk false p.1)=some (fx p.2 2,true)))=true:=by kernel_rfl
theorem ZzW:(noT.all fun s=>match ZpL (ZnB.mk false s)with |some (_,false)=>true |_=>false)=true:=by kernel_rfl
theorem ZC4:(ZCS.all fun p=>decide (fx p.2 1=fOf (Rat.divInt p.2 1))&&decide (p.2.natAbs < 16))=true:=by kernel_rfl
theorem ZB3:(Zz2.all fun p=>decide (fx p.2 2=fOf (Rat.divInt p.2 2))&&decide (p.2.natAbs < 16))=true:=by kernel_rfl
def texts:List Str:=[48]::(ZCS.map (·.1)++Zz2.map (·.1)++noT)
def Zxf (c:ZnB):Prop:=c=ZnB.mk true []∨∃s∈texts,c=ZnB.mk false s
theorem ZAy {c:ZnB} (h:Zxf c):(∃q,ZpL c=some (fOf q,true)∧Sz 4 q)∨(∃f,ZpL c=some (f,false)):=by
 rcases h with rfl |⟨s,hs,rfl⟩
 ·refine .inr ⟨fOf 0, ?_⟩;unfold ZpL;dsimp only;rw[cond_true,ZxY];rfl
 ·rcases ZFy.1 hs with rfl |hs
  ·exact .inl ⟨_,valZ,Zx5 (by decide) (by decide) (by decide)⟩
  ·rcases ZFx.1 hs with hs |hs
   ·rcases ZFx.1 hs with hs |hs
    ·obtain⟨p,hp,rfl⟩:=ZFz.1 hs;have h1:=of_decide_eq_true (ZFj.1 ZyT p hp);have h2:=ZFj.1 ZC4 p hp;simp only[Bool.and_eq_true,decide_eq_true_eq]at h2;rw[h2.1]at h1;exact .inl ⟨_,h1,Zx5 (by decide) h2.2 (by decide)⟩
    ·obtain⟨p,hp,rfl⟩:=ZFz.1 hs;have h1:=of_decide_eq_true (ZFj.1 Zzg p hp);have h2:=ZFj.1 ZB3 p hp;simp only[Bool.and_eq_true,decide_eq_true_eq]at h2;rw[h2.1]at h1;exact .inl ⟨_,h1,Zx5 (by decide) h2.2 (by decide)⟩
   ·have h1:=ZFj.1 ZzW s hs;split at h1;rotate_left;simp at h1;rename_i f hf;exact .inr ⟨f,hf⟩
open Classical in
noncomputable def nv (c:ZnB):Option Rat:=if h:∃q,ZpL c=some (fOf q,true)∧Sz 4 q then some h.choose else none
theorem ZyR {c:ZnB} {q:Rat} (h:nv c=some q):ZpL c=some (fOf q,true)∧Sz 4 q:=by unfold nv at h;split at h;rotate_left;simp at h;rename_i hx;obtain rfl:=ZF3 h;exact hx.choose_spec
theorem ZyS {c:ZnB} (hc:Zxf c) (h:nv c=none):∃f,ZpL c=some (f,false):=by
 unfold nv at h;split at h
 ·simp at h
 ·rename_i hx;exact(ZAy hc).resolve_left hx
theorem ZvW {s:Str} (h:texts.contains s=true):Zxf (ZnB.mk false s):= .inr ⟨s,ZFk.1 h,rfl⟩
theorem Zx1 {d:ZnD} (hd:ZvS d) {l:List Str} (h0:1≤l.length) (h1:l.length≤1000):wp (ZnY d l) (fun r=>r.1∈l∧ZvS r.2):=by
 unfold ZnY;rw[ZnG];refine Zn7 (ZwW hd (by omega)) fun⟨q,d1⟩ ⟨hq,hd1⟩=> ?_
 dsimp only at hq hd1⊢
 rw[ZnG,ZAV];refine⟨hq.1,by omega, ?_⟩;rw[ZnF];exact⟨ZFs _,hd1⟩
end Go.Proofs
namespace Go.Proofs
open Go Eng
theorem Zyn:([([97]:Str),([98]:Str),([99]:Str),([49]:Str),([50]:Str),([51]:Str),([49,48]:Str),([120]:Str),([45,49,46,53]:Str),([50]:Str),[100],[],([49,46,50,46,51]:Str),([49,46,53,48]:Str)]:List Str).all (fun s=>texts.contains s)=true:=by kernel_rfl
theorem ZxK:(((List.range 12).map fun i:Nat=>Lib.itoa ((i:Int) - 3))++(List.range 14).map fun i:Nat=>([107]:Str)++Lib.itoa (i:Int)).all (fun s=>texts.contains s)=true:=by kernel_rfl
theorem ZB7 {d:ZnD} (hd:ZvS d):wp (ZqA d) (fun r=>Zxf r.1∧ZvS r.2):=by
 unfold ZqA;rw[ZnG];refine Zn7 (ZwW hd (by omega)) fun⟨q,d1⟩ ⟨hq,hd1⟩=> ?_
 dsimp only at hq hd1⊢
 rw[ZnZ];refine⟨fun _=> ?_,fun _=> ?_⟩
 ·rw[ZnF];exact⟨.inl rfl,hd1⟩
 ·rw[ZnG];refine Zn7 (Zx1 hd1 (by decide) (by decide)) fun⟨s,d2⟩ ⟨hs,hd2⟩=> ?_
  dsimp only at hs hd2⊢
  rw[ZnF];refine⟨ZvW (ZFj.1 Zyn s ?_),hd2⟩;simp only[ZFy,ZFA,or_false]at hs⊢
  rcases hs with h |h |h |h |h |h |h |h |h |h<;>simp[h]
theorem Zzv {n:Int} (h: -3≤n∧n≤8):texts.contains (Lib.itoa n)=true:=by refine ZFj.1 ZxK _ (List.mem_append_left _ (ZFz.2 ⟨(n+3).toNat,List.mem_range.2 (by omega), ?_⟩));rw[show (((n+3).toNat:Nat):Int) - 3=n by omega]
theorem ZBU {n:Int} (h:0≤n∧n < 14):texts.contains (([107]:Str)++Lib.itoa n)=true:=by refine ZFj.1 ZxK _ (List.mem_append_right _ (ZFz.2 ⟨n.toNat,List.mem_range.2 (by omega), ?_⟩));rw[show ((n.toNat:Nat):Int)=n by omega]
theorem ZzU {d:ZnD} (hd:ZvS d):wp (ZpK d) (fun r=>Zxf r.1∧ZvS r.2):=by
 unfold ZpK;rw[ZnG];refine Zn7 (ZwW hd (by omega)) fun⟨q,d1⟩ ⟨hq,hd1⟩=> ?_
 dsimp only at hq hd1⊢
 rw[ZnZ];refine⟨fun _=> ?_,fun _=> ?_⟩
 ·rw[ZnF];exact⟨.inl rfl,hd1⟩
 rw[ZnZ];refine⟨fun _=> ?_,fun _=> ?_⟩
 ·rw[ZnG];refine Zn7 (Zx1 hd1 (by decide) (by decide)) fun⟨s,d2⟩ ⟨hs,hd2⟩=> ?_
  dsimp only at hs hd2⊢
  rw[ZnF];refine⟨ZvW (ZFj.1 Zyn s ?_),hd2⟩;simp only[ZFy,ZFA,or_false]at hs⊢
  rcases hs with h |h |h |h<;>simp[h]
 ·rw[ZnG];refine Zn7 (ZwW hd1 (by omega)) fun⟨q,d2⟩ ⟨hq,hd2⟩=> ?_
  dsimp only at hq hd2⊢
  unfold Zta;rw[ZnH,ZnG,ZnF,ZnF];exact⟨ZnJ (by omega),ZvW (Zzv (by omega)),hd2⟩
theorem abcd:([([97]:Str),([98]:Str),([99]:Str),([100]:Str)]:List Str).all (fun s=>texts.contains s)=true:=by kernel_rfl
theorem Zzw {n:Int} (h:0≤n∧n < 14):(Lib.itoa n).length≤2:=by
 have h1:((List.range 14).all fun i:Nat=>decide ((Lib.itoa (i:Int)).length≤2))=true:=by kernel_rfl
 have:=of_decide_eq_true (ZFj.1 h1 n.toNat (List.mem_range.2 (by omega)))
 rwa [show ((n.toNat:Nat):Int)=n by omega]at this
theorem ZyU:(([([105,100]:Str),([110,97,109,101]:Str),([85,110,105,116,32,80,114,105,99,101]:Str),([99,105,116,121]:Str),([117,110,105,116]:Str),([112,114,105,99,101]:Str),([105,100,50]:Str),([]:Str)]:List Str).all fun s=>decide (s.length≤10))=true:=by kernel_rfl
theorem Zyy {d:ZnD} (hd:ZvS d) (rows:Nat) (hr:rows≤14):
  wp (ZoW d (rows:Int)) (fun r=>(r.1.Name.length≤10∧r.1.Cells.length=rows∧∀c∈r.1.Cells,Zxf c)∧ZvS r.2):=by
 unfold ZoW;rw[ZnG];refine Zn7 (Zx1 hd (by decide) (by decide)) fun⟨nm,d1⟩ ⟨hnm0,hd1⟩=> ?_
 dsimp only at hd1 hnm0⊢
 have hnm:nm.length≤10:=of_decide_eq_true (ZFj.1 ZyU nm hnm0);rw[ZnG];refine Zn7 (ZwW hd1 (by omega)) fun⟨kind,d2⟩ ⟨_,hd2⟩=> ?_
 dsimp only at hd2⊢
 rw[ZnG];refine Zn7 (ZsT Zu9 rows (by omega) (fun i (t:ZnD×List ZnB)=>(kind,(rows:Int),i,t.1,([]:Str),nm,([]:List ZnB),t.2))
  (fun k t=>ZvS t.1∧t.2.length=k∧∀c∈t.2,Zxf c) (Q:=fun x=>x.2.2.1=nm∧ZvS x.1∧x.2.2.2.2.length=rows∧∀c∈x.2.2.2.2,Zxf c) (d2,[]) ⟨hd2,rfl,fun c hc=>absurd hc (by simp)⟩ ?_ ?_) ?_
 ·rintro rec k ⟨d,cs⟩ hk ⟨hd,hlen,hcs⟩ ih;dsimp only at hd hlen hcs ih;have next:∀(x:ZnB) (d':ZnD),Zxf x→ZvS d'→wp (Zoc (fun kind t15 i d t4 c t4_1 c_1=>rec (kind,t15,i,d,t4,c,t4_1,c_1)) kind (rows:Int) (k:Int) d' [] nm x [] cs) (fun x=>x.2.2.1=nm∧ZvS x.1∧x.2.2.2.2.length=rows∧∀c∈x.2.2.2.2,Zxf c):=by
   intro x d' hx hd';unfold Zoc;rw[ZnH,ZnH];refine⟨Zva (by rw[ZFv];omega),ZnJ (by omega),ih (d',cs++[x]) ⟨hd',by dsimp only;rw[ZFt,ZFv];omega,fun c hc=> ?_⟩⟩;rcases ZFx.1 hc with hc |hc
   ·exact hcs c hc
   ·obtain rfl:=List.mem_singleton.1 hc;exact hx
  unfold Zq9 Zpx;dsimp only;rw[decide_eq_true (show (k:Int) < (rows:Int) by omega),cond_true,ZnG];refine Zn7 (ZB7 hd) fun⟨x,d3⟩ ⟨hx,hd3⟩=> ?_
  dsimp only at hx hd3⊢
  rw[ZnZ];refine⟨fun _=> ?_,fun _=> ?_⟩
  ·rw[ZnG];exact Zn7 (ZzU hd3) fun⟨y,d4⟩ ⟨hy,hd4⟩=>next y d4 hy hd4
  rw[ZnZ];refine⟨fun _=> ?_,fun _=> ?_⟩
  ·unfold Zta;have:=Zzw (n:=(k:Int)) (by omega);rw[ZnG,ZnF,ZnH];exact⟨decide_eq_true (by rw[ZFv];unfold Zq;omega),next _ d3 (ZvW (ZBU (by omega))) hd3⟩
  rw[ZnZ];refine⟨fun _=> ?_,fun _=> ?_⟩
  ·rw[ZnG];exact Zn7 (Zx1 hd3 (by decide) (by decide)) fun⟨s,d4⟩ ⟨hs,hd4⟩=>next _ d4 (ZvW (ZFj.1 abcd s hs)) hd4
  ·exact next x d3 hx hd3
 ·rintro rec ⟨d,cs⟩ ⟨hd,hlen,hcs⟩;unfold Zq9 Zpx;dsimp only at hd hlen hcs⊢
  rw[decide_eq_false (show ¬(rows:Int) < (rows:Int) by omega),cond_false,ZnF];exact⟨rfl,hd,hlen,hcs⟩
 ·rintro⟨d,_,nm',_,cs⟩ ⟨h0,h1,h2,h3⟩;unfold ZrQ;dsimp only at h0 h1 h2 h3⊢
  subst h0;rw[ZnF];exact⟨⟨hnm,h2,h3⟩,h1⟩
end Go.Proofs
namespace Go.Proofs
open Go Eng
def Zvw (name:Str):List Str:=ZuH (Zwq (name++[32]) [])
def Zy6 (l:List ZnB):List Str:=(l.filter fun x=> !x.Null).map fun x=>x.Text
def ZqX (l:List ZnB):List Str:=ZuH (Zy6 l)
theorem Zx0 {name:Str} (h:name.length≤1000000):ZoF name=some (Zvw name):=by unfold ZoF;rw[Zt7,decide_eq_true (by omega)];rfl
theorem Zyl {c:ZnE} (h:c.Cells.length≤1000000):ZqS c=some (ZqX c.Cells):=by unfold ZqS;rw[Zt7,decide_eq_true (by omega)];rfl
theorem Zxo:∀(s cur:List UInt8),(Zwq s cur).length≤s.length
 | [],cur=>by simp[Zwq]
 |b::s,cur=>by
  have h1:=Zxo s [];have h3:=Zxo s (cur++[xwC b]);unfold Zwq;cases xwC b == 0 with
  |true=>
   rw[cond_true];cases cur.isEmpty with
   |true=>rw[cond_true];simp;omega
   |false=>rw[cond_false];simp;omega
  |false=>rw[cond_false];simp;omega
theorem ZxH (l:List (List UInt8)):(ZuH l).length≤l.length:=by
 have h:∀l:List (List UInt8),(ZuF l).length≤l.length:=by
  intro l
  induction l with
  |nil=>simp[ZuF]
  |cons x r ih=>
   unfold ZuF;cases r.contains x with
   |true=>rw[cond_true];simp;omega
   |false=>rw[cond_false];simp;omega
 unfold ZuH;rw[List.length_mergeSort];exact h l
theorem ZwL (name:Str):(Zvw name).length≤name.length+1:=by have h1:=ZxH (Zwq (name++[32]) []);have h2:=Zxo (name++[32]) [];simp only[ZFt,ZFv]at h2;exact ZFL h1 h2
theorem Zwb (l:List ZnB):(ZqX l).length≤l.length:=by have h1:=ZxH (Zy6 l);unfold Zy6 at h1;rw[List.length_map]at h1;exact ZFL h1 (ZFu _ _)
theorem Zz6 (a:List Str):ZxU a a=a.length:=by unfold ZxU;rw[List.filter_eq_self.2];intro x hx;exact ZFk.2 hx
def Zwm (a b:List Str):Rat:=Rat.divInt (ZxU a b:Int) (max (a.length+b.length - ZxU a b) 1:Nat)
theorem Zza {a b:List Str} (hb:Srt b) (hla:a.length≤1000000) (hlb:b.length≤1000000):ZqI a b=some (fOf (Zwm a b)):=by
 have hc:=ZyW a b;unfold ZqI;rw[ZzN hb (by omega) (by omega),ZF2,ZnJ (by omega),ZnJ (by omega),chk_true,chk_true];have e:(if (1:Int) > (((a.length:Int)+(b.length:Int)) - (ZxU a b:Int))then (1:Int)else (((a.length:Int)+(b.length:Int)) - (ZxU a b:Int)))=((max (a.length+b.length - ZxU a b) 1:Nat):Int):=by
  rcases ZFO (a.length+b.length - ZxU a b) 1 with h |h
  ·rw[if_pos (by omega),Nat.max_eq_right (by omega)];rfl
  ·rw[Nat.max_eq_left h];split<;>omega
 rw[e,Zxm _ _ (by omega) (by omega) (by omega) (by omega) (by omega),ZF2];rfl
theorem Zyq {a b:List Str} {k:Nat} (hk:a.length+b.length < 2 ^ k) (h1:1 < 2 ^ k):Sz k (Zwm a b):=by have:=ZyW a b;exact Zwx (by omega) (by omega) (by omega)
theorem Zxs {a:List Str}:Zwm a a=if a=[]then 0 else 1:=by
 unfold Zwm;rw[Zz6];cases a with
 |nil=>rw[if_pos rfl];decide+kernel
 |cons x r=>
  rw[if_neg (by simp)];have e:max ((x::r).length+(x::r).length - (x::r).length) 1=(x::r).length:=by simp
  rw[e,Rat.divInt_self' (by simp only[List.length_cons];omega)]
noncomputable def isN (c:ZnB):Bool:=(nv c).isSome
noncomputable def Zu4 (l:List ZnB):Nat:=(l.filter fun x=> !x.Null).length
noncomputable def Zyu (l:List ZnB):Nat:=(l.filter fun x=> !x.Null&&isN x).length
noncomputable def ZsC (l:List ZnB):Rat:=Rat.divInt (Zyu l:Int) (max (Zu4 l) 1:Nat)
theorem Zxx (l:List ZnB):Zyu l≤Zu4 l:=by unfold Zyu Zu4;rw[show (fun x:ZnB=> !x.Null&&isN x)=fun x=>(isN x)&& !x.Null from funext fun x=>Bool.and_comm _ _,←List.filter_filter];exact ZFu _ _
theorem Zw8 (l:List ZnB):Zu4 l≤l.length:=ZFu _ _
theorem Zw3 {c:ZnE} (hc:∀x∈c.Cells,Zxf x) (hl:c.Cells.length≤1000):Zn8 c=some (fOf (ZsC c.Cells)):=by
 unfold Zn8;rw[Zt7];refine Zr7 ?_;unfold Zuw;rw[ZnG];refine Zn7 (Zx9 Zv5 c.Cells (by omega) (fun i (s:Nat×Nat)=>((s.1:Int),(s.2:Int),c.Cells,(c.Cells.length:Int),i,false,false,([]:List Int),([]:List Int))) (fun k s=>s.1=Zu4 (c.Cells.take k)∧s.2=Zyu (c.Cells.take k))
  (Q:=fun x=>x=((Zu4 c.Cells:Int),(Zyu c.Cells:Int),false,false,([]:List Int),([]:List Int))) (0,0) ⟨by simp[Zu4],by simp[Zyu]⟩ ?_ ?_) ?_
 ·rintro rec k ⟨f,n⟩ hk ⟨hf,hn⟩ ih;dsimp only at hf hn ih;unfold ZsY Zra ZqD;dsimp only;have hs:c.Cells.take (k+1)=c.Cells.take k++[c.Cells[k]]:=ZFC hk;have b1:=Zw8 (c.Cells.take k);have b2:=Zxx (c.Cells.take k);rw[ZFw]at b1;have e1:Zu4 (c.Cells.take (k+1))=f+(bif c.Cells[k].Null then 0 else 1):=by rw[hs,hf];unfold Zu4;rw[ZFl,ZFt];cases h:c.Cells[k].Null<;>simp[ZFm,h]
  have e2:Zyu (c.Cells.take (k+1))=n+(bif !c.Cells[k].Null&&isN c.Cells[k]then 1 else 0):=by rw[hs,hn];unfold Zyu;rw[ZFl,ZFt];cases h:(!c.Cells[k].Null&&isN c.Cells[k])<;>simp[ZFm,h]
  rw[decide_eq_true (show (k:Int) < (c.Cells.length:Int) by omega),cond_true,Zwj hk,ZF2];cases hnul:c.Cells[k].Null with
  |true=>
   rw[hnul]at e1 e2;rw[cond_true,ZnH];exact⟨ZnJ (by omega),ih (f,n) ⟨by rw[e1];rfl,by rw[e2];rfl⟩⟩
  |false=>
   rw[hnul]at e1 e2;rw[cond_false,ZnH];refine⟨ZnJ (by omega), ?_⟩;cases hv:nv c.Cells[k]with
   |some q=>
    have hi:isN c.Cells[k]=true:=by unfold isN;rw[hv];rfl
    rw[hi]at e2;rw[(ZyR hv).1,ZF2];dsimp only;rw[cond_true,ZnH,ZnH];refine⟨ZnJ (by omega),ZnJ (by omega), ?_⟩;have:=ih (f+1,n+1) ⟨by rw[e1];rfl,by rw[e2];rfl⟩
    rwa [show ((f+1:Nat):Int)=(f:Int)+1 by omega,show ((n+1:Nat):Int)=(n:Int)+1 by omega]at this
   |none=>
    have hi:isN c.Cells[k]=false:=by unfold isN;rw[hv];rfl
    rw[hi]at e2;obtain⟨g,hg⟩:=ZyS (hc _ (ZFs hk)) hv;rw[hg,ZF2];dsimp only;rw[cond_false,ZnH];refine⟨ZnJ (by omega), ?_⟩;have:=ih (f+1,n) ⟨by rw[e1];rfl,by rw[e2];rfl⟩
    rwa [show ((f+1:Nat):Int)=(f:Int)+1 by omega]at this
 ·rintro rec ⟨f,n⟩ ⟨hf,hn⟩;dsimp only at hf hn;unfold ZsY Zra;dsimp only;rw[decide_eq_false (show ¬(c.Cells.length:Int) < (c.Cells.length:Int) by omega),cond_false,ZnF,hf,hn,ZFB]
 ·rintro x rfl;have b1:=Zw8 c.Cells;have b2:=Zxx c.Cells;dsimp only;unfold Ztz;have e:(if (1:Int) > (Zu4 c.Cells:Int)then (1:Int)else (Zu4 c.Cells:Int))=((max (Zu4 c.Cells) 1:Nat):Int):=by
   rcases ZFO (Zu4 c.Cells) 1 with h |h
   ·rw[if_pos (by omega),Nat.max_eq_right (by omega)];rfl
   ·rw[Nat.max_eq_left h];split<;>omega
  rw[e,Zxm _ _ (by omega) (by omega) (by omega) (by omega) (by omega),ZF2,ZnF];rfl
theorem Zwz {l:List ZnB} {k:Nat} (h:l.length < 2 ^ k) (h1:1 < 2 ^ k):Sz k (ZsC l):=by have b1:=Zw8 l;have b2:=Zxx l;exact Zwx (by omega) (by omega) (by omega)
end Go.Proofs
namespace Go.Proofs
open Go Eng
theorem Zyr {a:Rat}:(ZBG a 0 == 0)=decide (a=0):=by
 unfold ZBG
 by_cases h:a < 0
 ·rw[if_pos h,decide_eq_false (by grind)];rfl
 ·rw[if_neg h]
  by_cases h2:0 < a
  ·rw[if_pos h2,decide_eq_false (by grind)];rfl
  ·rw[if_neg h2,decide_eq_true (by grind)];rfl
theorem Zys (a b:Rat):(ZBG a b < 0)↔a < b:=by
 unfold ZBG
 by_cases h:a < b
 ·rw[if_pos h];exact⟨fun _=>h,fun _=>by decide⟩
 ·rw[if_neg h];refine⟨fun h2=> ?_,fun h2=>absurd h2 h⟩;split at h2<;>exact absurd h2 (by decide)
def ZCf (x:Rat):Rat:=if x < 0 then 0 - x else x
def ofQ (v n s t:Rat):Rat:=if v=0∧n=0 then 0 else (v+v+n+(1 - ZCf (s - t))) / 4
noncomputable def ZAv (a b:ZnE):Rat:=ofQ (Zwm (ZqX a.Cells) (ZqX b.Cells)) (Zwm (Zvw a.Name) (Zvw b.Name)) (ZsC a.Cells) (ZsC b.Cells)
structure Zxl (a:ZnE):Prop where
 name:a.Name.length≤300
 rows:a.Cells.length≤100
 cells:∀x∈a.Cells,Zxf x
theorem ZzI (s:Str):Srt (Zvw s):=ZzJ _
theorem Zzr (l:List ZnB):Srt (ZqX l):=ZzJ _
theorem ZyJ {a b:ZnE} (ha:a.Cells.length≤100) (hb:b.Cells.length≤100):Zpl a b=some (fOf (Zwm (ZqX a.Cells) (ZqX b.Cells))):=by have h1:=Zwb a.Cells;have h2:=Zwb b.Cells;unfold Zpl;rw[Zyl (by omega),ZF2,Zyl (by omega),ZF2,Zza (Zzr _) (by omega) (by omega),ZF2]
theorem ZAG {a b:Str} (ha:a.length≤300) (hb:b.length≤300):Zr0 a b=some (fOf (Zwm (Zvw a) (Zvw b))):=by have h1:=ZwL a;have h2:=ZwL b;unfold Zr0;rw[Zx0 (by omega),ZF2,Zx0 (by omega),ZF2,Zza (ZzI _) (by omega) (by omega),ZF2]
theorem ZyI {a b:ZnE} (ha:a.Cells.length≤100) (hb:b.Cells.length≤100):Sz 10 (Zwm (ZqX a.Cells) (ZqX b.Cells)):=by have h1:=Zwb a.Cells;have h2:=Zwb b.Cells;exact Zyq (by omega) (by decide)
theorem Zzd {a b:Str} (ha:a.length≤300) (hb:b.length≤300):Sz 10 (Zwm (Zvw a) (Zvw b)):=by have h1:=ZwL a;have h2:=ZwL b;exact Zyq (by omega) (by decide)
theorem Zyo:Sz 1 1:=by unfold Sz;decide
theorem ZBM:ZuP 1 1=some (fOf 1):=by
 have:=Zxm 1 1 (by decide) (by decide) (by decide) (by decide) (by decide)
 rwa [show Rat.divInt 1 1=1 by decide+kernel]at this
theorem ZBL:ZuP 4 1=some (fOf 4):=by
 have:=Zxm 4 1 (by decide) (by decide) (by decide) (by decide) (by decide)
 rwa [show Rat.divInt 4 1=4 by decide+kernel]at this
theorem ZzH:Sz 3 4:=by unfold Sz;decide
theorem ZAe {x:Rat} {k:Nat} (h:Sz k x) (hk:1≤k):Sz (k+2) (ZCf x):=by
 unfold ZCf;split
 ·have:=Zx4.add h.neg;rw[show (0:Rat) - x=0+ -x by grind];exact this.mono (by omega)
 ·exact h.mono (by omega)
theorem ZCO {v n ap:Rat} (hv:Sz 10 v) (hn:Sz 10 n) (ha:Sz 30 ap):ZrZ false false (fOf v) (fOf n) (fOf ap) [] []=some (fOf ((v+v+n+(1 - ap)) / 4)):=by
 unfold ZrZ;have h1:=hv.add hv;have h2:=h1.add hn;have h3:Sz 32 (1 - ap):=by rw[show (1:Rat) - ap=1+ -ap by grind];exact(Zyo.add ha.neg).mono (by decide)
 have h4:=h2.add h3;rw[Zxy hv hv (by decide),ZF2,Zxy h1 hn (by decide),ZF2,ZBM,ZF2,Zxw Zyo ha (by decide),ZF2,Zxy h2 h3 (by decide),ZF2,ZBL,ZF2,
  ZzV (by decide) h4 ZzH (by decide),ZF2]
theorem ZCP {a b:ZnE} (ha:Zxl a) (hb:Zxl b) {v n:Rat} (hv:Sz 10 v) (hn:Sz 10 n):
  ZqJ false a b false false (fOf v) (fOf n) [] []=some (fOf ((v+v+n+(1 - ZCf (ZsC a.Cells - ZsC b.Cells))) / 4)):=by
 unfold ZqJ;have hr1:=ha.rows;have hr2:=hb.rows;have h1:Sz 10 (ZsC a.Cells):=Zwz (by omega) (by decide);have h2:Sz 10 (ZsC b.Cells):=Zwz (by omega) (by decide);have h3:Sz 21 (ZsC a.Cells - ZsC b.Cells):=by rw[Rat.sub_eq_add_neg];exact h1.add h2.neg
 rw[cond_false,Zw3 ha.cells (by omega),ZF2,Zw3 hb.cells (by omega),ZF2,Zxw h1 h2 (by decide),ZF2,ZyN (h3.wq (by decide)),ZF2];have h4:=ZAe h3 (by decide);unfold ZCf at h4⊢
 by_cases h:ZsC a.Cells - ZsC b.Cells < 0
 ·rw[decide_eq_true ((Zys _ _).2 h),cond_true,ZxY,ZF2,Zxw Zx4 h3 (by decide),ZF2];rw[if_pos h]at h4⊢
  exact ZCO hv hn (h4.mono (by decide))
 ·rw[decide_eq_false (fun h5=>h ((Zys _ _).1 h5)),cond_false];rw[if_neg h]at h4⊢
  exact ZCO hv hn (h4.mono (by decide))
theorem Zz7 {a b:ZnE} (ha:Zxl a) (hb:Zxl b):ZqE a b=some (fOf (ZAv a b)):=by
 unfold ZqE ZAv ofQ;have hv:=ZyI ha.rows hb.rows;have hn:=Zzd ha.name hb.name;rw[ZyJ ha.rows hb.rows,ZF2,ZAG ha.name hb.name,ZF2,ZyN (hv.wq (by decide)),ZF2,Zyr]
 by_cases h1:Zwm (ZqX a.Cells) (ZqX b.Cells)=0
 ·rw[decide_eq_true h1,cond_true,ZyN (hn.wq (by decide)),ZF2,Zyr]
  by_cases h2:Zwm (Zvw a.Name) (Zvw b.Name)=0
  ·rw[decide_eq_true h2,if_pos ⟨h1,h2⟩];unfold ZqJ;rw[cond_true,ZxY,ZF2]
  ·rw[decide_eq_false h2,if_neg (fun h=>h2 h.2)];exact ZCP ha hb hv hn
 ·rw[decide_eq_false h1,cond_false,if_neg (fun h=>h1 h.1)];exact ZCP ha hb hv hn
theorem Zz8 (a:ZnE):ZAv a a=if Zvw a.Name=[]then (if ZqX a.Cells=[]then 0 else 3 / 4)else (if ZqX a.Cells=[]then 1 / 2 else 1):=by
 unfold ZAv;rw[Zxs,Zxs];unfold ofQ ZCf;have e:ZsC a.Cells - ZsC a.Cells=0:=by grind
 rw[e]
 by_cases h1:Zvw a.Name=[]<;>by_cases h2:ZqX a.Cells=[]<;>simp only[h1,h2,if_true,if_false]<;>decide+kernel
theorem ZB5 {a b:ZnE} (ha:Zxl a) (hb:Zxl b):Sz 100 (ZAv a b):=by
 unfold ZAv ofQ;have hr1:=ha.rows;have hr2:=hb.rows;have hv:=ZyI ha.rows hb.rows;have hn:=Zzd ha.name hb.name;have h1:Sz 10 (ZsC a.Cells):=Zwz (by omega) (by decide);have h2:Sz 10 (ZsC b.Cells):=Zwz (by omega) (by decide);have h3:Sz 21 (ZsC a.Cells - ZsC b.Cells):=by rw[Rat.sub_eq_add_neg];exact h1.add h2.neg
 have h4:=ZAe h3 (by decide);split
 ·exact Zx4.mono (by decide)
 ·have h5:Sz 32 (1 - ZCf (ZsC a.Cells - ZsC b.Cells)):=by rw[Rat.sub_eq_add_neg];exact(Zyo.add h4.neg).mono (by decide)
  exact(Sz.div (by decide) (((hv.add hv).add hn).add h5) ZzH).mono (by decide)
end Go.Proofs
namespace Go.Proofs
open Go Eng
theorem Zyp {a b:List Str} (ha:a.length≤1000000):ZoD a b=some (decide (a=b)):=by
 unfold ZoD
 by_cases hl:a.length=b.length
 ·rw[show ((a.length:Int) != (b.length:Int))=false by rw[hl];simp,cond_false];have key:wp (Zon big b a (a.length:Int) 0) (fun x=>x=if a=b then .brk ()else .ret false):=by
   refine Zx9 Zuq a (by omega) (fun i (_:Unit)=>(b,a,(a.length:Int),i)) (fun k _=>a.take k=b.take k) () (by simp) ?_ ?_
   ·rintro rec k _ hk he ih;unfold Zpy ZoC;dsimp only;have hkb:k < b.length:=by omega
    rw[decide_eq_true (show (k:Int) < (a.length:Int) by omega),cond_true,Zwj hk,ZF2,Zwj hkb,ZF2]
    by_cases h:b[k]=a[k]
    ·rw[show (b[k] == a[k])=true by simpa using h,ZCM,cond_false,ZnH];refine⟨ZnJ (by omega),ih () ?_⟩;rw[ZFC hk,ZFC hkb,he,h]
    ·rw[show (b[k] == a[k])=false by simpa using h,Bool.not_false,cond_true,ZnF,if_neg];intro e;subst e;exact h rfl
   ·rintro rec _ he;unfold Zpy ZoC;dsimp only;rw[decide_eq_false (show ¬(a.length:Int) < (a.length:Int) by omega),cond_false,ZnF,if_pos];have h2:=he;rw[ZFB,hl,ZFB]at h2;exact h2
  obtain⟨x,hx,rfl⟩:=key;rw[hx,ZF2]
  by_cases h:a=b
  ·rw[if_pos h,decide_eq_true h];rfl
  ·rw[if_neg h,decide_eq_false h]
 ·rw[show ((a.length:Int) != (b.length:Int))=true by simp;omega,cond_true,decide_eq_false (fun e=>hl (by rw[e]))]
theorem ZAw {l r:List Str} (h1:r.Pairwise (fun a b=>a≤b)) (h2:r.Nodup) (h:∀x,x∈l↔x∈r):ZuH l=r:=
 Zwe (ZwJ l) h1 (ZuG l) h2 fun x=>by rw[ZuQ,h]
def ZyC:Str:=[85,110,105,116,32,80,114,105,99,101,95,50]
def ZwY:ZnE:=⟨ZyC,[⟨false,[49]⟩,⟨false,[120]⟩]⟩
theorem Zzi:Zvw ZyC=[[50],[112,114,105,99,101],[117,110,105,116]]:=by
 have e:Zwq (ZyC++[32]) []=[[117,110,105,116],[112,114,105,99,101],[50]]:=by decide+kernel
 unfold Zvw;rw[e];exact ZAw (by decide+kernel) (by decide+kernel) (fun x=>by simp only[ZFy,ZFA,or_false];constructor<;>(rintro(h |h |h)<;>simp[h]))
theorem ZCd:Zxl ZwY:=⟨by decide,by decide,fun x hx=>by
 simp only[ZwY,ZFy,ZFA,or_false]at hx;rcases hx with rfl |rfl
 ·exact ZvW (by kernel_rfl)
 ·exact ZvW (by kernel_rfl)⟩
theorem ZAd:ZqX ZwY.Cells≠[]:=by
 intro h;have:([49]:Str)∈ZqX ZwY.Cells:=by unfold ZqX;rw[ZuQ];decide+kernel
 rw[h]at this;simp at this
theorem ZBW:isN ⟨false,[49]⟩=true:=by
 unfold isN;cases h:nv ⟨false,[49]⟩with
 |some q=>rfl
 |none=>
  obtain⟨f,hf⟩:=ZyS (ZvW (by kernel_rfl)) h;have h1:=of_decide_eq_true (ZFj.1 ZyT ([49],1) (by decide+kernel));rw[hf]at h1;simp at h1
theorem ZEA:isN ⟨false,[120]⟩=false:=by
 unfold isN;cases h:nv ⟨false,[120]⟩with
 |none=>rfl
 |some q=>
  have hf:=(ZyR h).1;have h1:=ZFj.1 ZzW [120] (by decide+kernel);rw[hf]at h1;simp at h1
theorem ZAT:ZsC ZwY.Cells=1 / 2:=by
 unfold ZsC Zyu Zu4;have e1:(ZwY.Cells.filter fun x=> !x.Null&&isN x)=[⟨false,[49]⟩]:=by simp[ZwY,ZBW,ZEA]
 have e2:(ZwY.Cells.filter fun x=> !x.Null)=ZwY.Cells:=by decide+kernel
 rw[e1,e2];decide+kernel
theorem ZBX:Zpp 1=some (fOf 1):=ZAO 1 (by decide) (by decide)
theorem ZzS:Zof 1 2=some (fOf (1 / 2)):=by rw[Zxt 1 2 (by decide) (by decide) (by decide) (by decide) (by decide)];congr 2;decide+kernel
theorem ZzG:Sz 2 (1 / 2):=by unfold Sz;decide+kernel
theorem ZAc:ZoL=some true:=by
 unfold ZoL ZoS;show (ZoF ZyC).bind _=_;rw[Zx0 (by decide),ZF2,Zzi,Zyp (by decide),ZF2,decide_eq_true rfl,cond_true];show (ZqE ZwY ZwY).bind _=_;have e:ZAv ZwY ZwY=1:=by rw[Zz8,if_neg (by rw[show ZwY.Name=ZyC from rfl,Zzi];simp),if_neg ZAd]
 rw[Zz7 ZCd ZCd,ZF2,e,ZBX,ZF2,Zv4 _ _ (Zyo.wq (by decide)) (Zyo.wq (by decide)),ZF2,decide_eq_true rfl,cond_true];show (Zn8 ZwY).bind _=_;rw[Zw3 ZCd.cells (by decide),ZF2,ZAT,ZzS,ZF2,Zv4 _ _ (ZzG.wq (by decide)) (ZzG.wq (by decide)),ZF2,decide_eq_true rfl]
end Go.Proofs
namespace Go.Proofs
open Go Eng
theorem ZBK:(([48]::(ZCS.map (·.1)++Zz2.map (·.1)):List Str).all fun s=>match Zov (ZnB.mk false s)with |some (_,true)=>true |_=>false)=true:=by kernel_rfl
theorem ZCT:(noT.all fun s=>match Zov (ZnB.mk false s)with |some (_,false)=>true |_=>false)=true:=by kernel_rfl
theorem ZBJ {c:ZnB} (hc:Zxf c) (hn:c.Null=false):∃f,Zov c=some (f,isN c):=by
 rcases hc with rfl |⟨s,hs,rfl⟩
 ·cases hn
 ·have hs0:=hs;rw[show texts=([48]::(ZCS.map (·.1)++Zz2.map (·.1)))++noT from rfl]at hs;rcases ZFx.1 hs with h |h
  ·have h1:=ZFj.1 ZBK s h;split at h1;rotate_left;simp at h1;rename_i f hf;refine⟨f, ?_⟩;rw[hf];have:isN (ZnB.mk false s)=true:=by
    unfold isN;cases hv:nv (ZnB.mk false s)with
    |some q=>rfl
    |none=>
     obtain⟨g,hg⟩:=ZyS (.inr ⟨s,hs0,rfl⟩) hv;rcases ZFy.1 h with rfl |h
     ·rw[valZ]at hg;simp at hg
     ·rcases ZFx.1 h with h |h
      ·obtain⟨p,hp,rfl⟩:=ZFz.1 h;rw[of_decide_eq_true (ZFj.1 ZyT p hp)]at hg;simp at hg
      ·obtain⟨p,hp,rfl⟩:=ZFz.1 h;rw[of_decide_eq_true (ZFj.1 Zzg p hp)]at hg;simp at hg
   rw[this]
  ·have h1:=ZFj.1 ZCT s h;split at h1;rotate_left;simp at h1;rename_i f hf;refine⟨f, ?_⟩;rw[hf];have:isN (ZnB.mk false s)=false:=by
    unfold isN;cases hv:nv (ZnB.mk false s)with
    |none=>rfl
    |some q=>
     have hg:=(ZyR hv).1;have h2:=ZFj.1 ZzW s h;rw[hg]at h2;simp at h2
   rw[this]
theorem ZxM {l l':List ZnB} (h:l.Perm l'):ZsC l=ZsC l':=by unfold ZsC Zyu Zu4;rw[(h.filter _).length_eq,(h.filter _).length_eq]
theorem Zxq {l l':List ZnB} (h:∀x,x∈l→x∈l') (h':∀x,x∈l'→x.Null=false→x∈l):ZqX l=ZqX l':=by
 unfold ZqX Zy6;refine ZyF fun x=> ?_
 simp only[ZFz,List.mem_filter];constructor
 ·rintro⟨c,⟨hc,hn⟩,e⟩;exact⟨c,⟨h c hc,hn⟩,e⟩
 ·rintro⟨c,⟨hc,hn⟩,e⟩;exact⟨c,⟨h' c hc (by simpa using hn),hn⟩,e⟩
theorem ZzM {a b:ZnE} (ha:Zxl a) (hb:Zxl b) {k:Nat} (hk:k < a.Cells.length) (hal:a.Cells.length≤20) (c1:List ZnB) (hp:c1.Perm a.Cells):
  Zoh (k:Int) (Zu4 a.Cells:Int) (Zyu a.Cells:Int) a b a.Name c1=some true:=by
 have hcl:=hp.length_eq;have hc:Zxl (ZnE.mk a.Name c1):=⟨ha.name,by show c1.length≤100;omega,fun x hx=>ha.cells x (hp.mem_iff.1 hx)⟩;have hr:=ha.rows;have hrb:=hb.rows;have b1:=Zw8 a.Cells;have b2:=Zxx a.Cells;have hsz:Wq 256 (ZsC a.Cells):=(Zwz (k:=10) (by omega) (by decide)).wq (by decide);have e:(if (Zu4 a.Cells:Int) > (1:Int)then (Zu4 a.Cells:Int)else (1:Int))=((max (Zu4 a.Cells) 1:Nat):Int):=by
  rcases ZFO (Zu4 a.Cells) 1 with h |h
  ·rw[if_neg (by omega),Nat.max_eq_right (by omega)];rfl
  ·rw[Nat.max_eq_left h];split<;>omega
 have hcq:ZAv (ZnE.mk a.Name c1) b=ZAv a b:=by unfold ZAv;rw[ZxM (show (ZnE.mk a.Name c1).Cells.Perm a.Cells from hp),Zxq (l:=(ZnE.mk a.Name c1).Cells) (l':=a.Cells) (fun x hx=>hp.mem_iff.1 hx) (fun x hx _=>hp.mem_iff.2 hx)]
 have hz:=(ZB5 ha hb).wq (by decide);have hv:=(ZyI (a:=a) (b:=b) ha.rows hb.rows).wq (by decide);have hmore:ZqX (c1.take ((c1.length:Int)).toNat++[a.Cells[k],ZnB.mk true []])=ZqX a.Cells:=by
  rw[ZFi,ZFB]
  symm
  refine Zxq (fun x hx=>List.mem_append_left _ (hp.mem_iff.2 hx)) fun x hx hn=> ?_
  rcases ZFx.1 hx with hx |hx
  ·exact hp.mem_iff.1 hx
  ·simp only[ZFy,ZFA,or_false]at hx;rcases hx with rfl |rfl
   ·exact ZFs hk
   ·cases hn
 unfold Zoh ZnL;rw[decide_eq_true (show 0≤(0:Int)∧(0:Int)≤(c1.length:Int)∧(c1.length:Int)≤(c1.length:Int)∧(c1.length:Int)=(c1.length:Int) by omega),chk_true,Zwj hk,ZF2];rw[show decide (List.isEmpty ([a.Cells[k],(ZnB.mk true ([]:Str))]:List ZnB)=false)=true from rfl,chk_true,Zva (by rw[ZFi,ZFB];simp only[List.length_cons,List.length_nil];omega),chk_true];rw[Zw3 ha.cells (by omega),ZF2,e,Zxt _ _ (by omega) (by omega) (by omega) (by omega) (by omega),ZF2];rw[show Rat.divInt (Zyu a.Cells:Int) ((max (Zu4 a.Cells) 1:Nat):Int)=ZsC a.Cells from rfl,Zv4 _ _ hsz hsz,ZF2,decide_eq_true rfl,cond_true];rw[Zw3 hc.cells (by show c1.length≤1000;omega),ZF2,ZxM (show (ZnE.mk a.Name c1).Cells.Perm a.Cells from hp),ZF2,Zv4 _ _ hsz hsz,ZF2,decide_eq_true rfl,cond_true];rw[Zz7 ha hb,ZF2,Zz7 hc hb,ZF2,hcq,Zv4 _ _ hz hz,ZF2,decide_eq_true rfl,cond_true];rw[ZyJ (a:=ZnE.mk a.Name (c1.take ((c1.length:Int)).toNat++[a.Cells[k],ZnB.mk true []])) (by show (c1.take ((c1.length:Int)).toNat++[a.Cells[k],ZnB.mk true []]).length≤100;rw[ZFi,ZFB,ZFt];simp only[List.length_cons,List.length_nil];omega) hb.rows,ZF2];rw[ZyJ ha.rows hb.rows,ZF2];rw[show ZqX (ZnE.mk a.Name (c1.take ((c1.length:Int)).toNat++[a.Cells[k],ZnB.mk true []])).Cells=ZqX a.Cells from hmore,Zv4 _ _ hv hv,ZF2,decide_eq_true rfl,cond_true,ZAc,ZF2]
theorem similarityShares_law (t:List Int) (turn:Int):Zot t turn=some true:=by
 refine Zr7 ?_;unfold Zot ZrA;rw[ZnG,ZnF,ZnZ];refine⟨fun _=>by rw[ZAc,ZnG,ZnF,ZnF],fun hl=> ?_⟩;simp only[Bool.not_eq_false',decide_eq_true_eq]at hl;unfold ZrY;rw[ZnG,ZnF,ZnG];refine Zn7 (ZwW (d:=⟨t,0⟩) ⟨by simp,by simp,by simp only;omega⟩ (n:=7) (by omega)) ?_;rintro⟨q2,d1⟩ ⟨hq2,hd1⟩;dsimp only at hq2 hd1⊢
 obtain⟨m,hm⟩:∃m:Nat,1+q2=(m:Int):=⟨(1+q2).toNat,by omega⟩;rw[ZnH,hm,ZnG];refine⟨ZnJ (by omega), ?_⟩;refine Zn7 (Zyy hd1 m (by omega)) ?_;rintro⟨a,d2⟩ ⟨ha0,hd2⟩;dsimp only at ha0 hd2⊢
 have ha:Zxl a:=⟨by have:=ha0.1;omega,by have:=ha0.2.1;omega,ha0.2.2⟩;have hal:a.Cells.length=m:=ha0.2.1;rw[ZnG];refine Zn7 (ZwW hd2 (n:=7) (by omega)) ?_;rintro⟨q3,d3⟩ ⟨hq3,hd3⟩;dsimp only at hq3 hd3⊢
 obtain⟨m',rfl⟩:∃m':Nat,q3=(m':Int):=⟨q3.toNat,by omega⟩;rw[ZnG];refine Zn7 (Zyy hd3 m' (by omega)) ?_;rintro⟨b,d4⟩ ⟨hb0,hd4⟩;dsimp only at hb0 hd4⊢
 have hb:Zxl b:=⟨by have:=hb0.1;omega,by have:=hb0.2.1;omega,hb0.2.2⟩;rw[ZnG];refine Zn7 (ZA4 turn (m:=(a.Cells.length:Int)) (by omega)) ?_;intro k0 hk0;obtain⟨k,rfl⟩:∃k:Nat,k0=(k:Int):=⟨k0.toNat,by omega⟩;have hk:k < a.Cells.length:=by omega
 have hl1:(a.Cells.drop k).length≤100:=by rw[List.length_drop];omega
 have hl2:(a.Cells.take k).length≤100:=by rw[ZFw];omega
 rw[ZFi,ZnH,ZnH,ZnH,ZnH,ZnG];refine⟨Zvx (by omega),Zva (by omega),Zvx (by omega),Zva (by omega), ?_⟩;have hperm:(a.Cells.drop k++a.Cells.take k).Perm a.Cells:=List.perm_append_comm.trans (by rw[List.take_append_drop]);generalize a.Cells.drop k++a.Cells.take k=c1 at hperm;refine Zn7 (Zx9 Ztg a.Cells (by omega) (fun i (s:Nat×Nat)=>((k:Int),(s.1:Int),(s.2:Int),a.Cells,(a.Cells.length:Int),i,a,b,a.Name,c1)) (fun i s=>s.1=Zu4 (a.Cells.take i)∧s.2=Zyu (a.Cells.take i))
  (Q:=fun x=>x=((k:Int),(Zu4 a.Cells:Int),(Zyu a.Cells:Int),a,b,a.Name,c1)) (0,0) ⟨by simp[Zu4],by simp[Zyu]⟩ ?_ ?_) ?_
 ·rintro rec i ⟨f,n⟩ hi ⟨hf,hn⟩ ih;dsimp only at hf hn ih;unfold ZoI Zoa ZnW;dsimp only;have hs:a.Cells.take (i+1)=a.Cells.take i++[a.Cells[i]]:=ZFC hi;have b1:=Zw8 (a.Cells.take i);have b2:=Zxx (a.Cells.take i);rw[ZFw]at b1;have e1:Zu4 (a.Cells.take (i+1))=f+(bif a.Cells[i].Null then 0 else 1):=by rw[hs,hf];unfold Zu4;rw[ZFl,ZFt];cases h:a.Cells[i].Null<;>simp[ZFm,h]
  have e2:Zyu (a.Cells.take (i+1))=n+(bif !a.Cells[i].Null&&isN a.Cells[i]then 1 else 0):=by rw[hs,hn];unfold Zyu;rw[ZFl,ZFt];cases h:(!a.Cells[i].Null&&isN a.Cells[i])<;>simp[ZFm,h]
  rw[decide_eq_true (show (i:Int) < (a.Cells.length:Int) by omega),cond_true,Zwj hi,ZF2];cases hnul:a.Cells[i].Null with
  |true=>
   rw[hnul]at e1 e2;rw[ZCM,cond_false,ZnH];exact⟨ZnJ (by omega),ih (f,n) ⟨by rw[e1];rfl,by rw[e2];rfl⟩⟩
  |false=>
   rw[hnul]at e1 e2;obtain⟨g,hg⟩:=ZBJ (ha.cells _ (ZFs hi)) hnul;rw[Bool.not_false,cond_true,ZnH,hg,ZF2];refine⟨ZnJ (by omega), ?_⟩;dsimp only;cases hv:isN a.Cells[i]with
   |true=>
    rw[hv]at e2;rw[cond_true,ZnH,ZnH];refine⟨ZnJ (by omega),ZnJ (by omega), ?_⟩;have:=ih (f+1,n+1) ⟨by rw[e1];rfl,by rw[e2];rfl⟩
    rwa [show ((f+1:Nat):Int)=(f:Int)+1 by omega,show ((n+1:Nat):Int)=(n:Int)+1 by omega]at this
   |false=>
    rw[hv]at e2;rw[cond_false,ZnH];refine⟨ZnJ (by omega), ?_⟩;have:=ih (f+1,n) ⟨by rw[e1];rfl,by rw[e2];rfl⟩
    rwa [show ((f+1:Nat):Int)=(f:Int)+1 by omega]at this
 ·rintro rec ⟨f,n⟩ ⟨hf,hn⟩;dsimp only at hf hn;unfold ZoI Zoa;dsimp only;rw[decide_eq_false (show ¬(a.Cells.length:Int) < (a.Cells.length:Int) by omega),cond_false,ZnF,hf,hn,ZFB]
 ·rintro x rfl;dsimp only;rw[ZzM ha hb hk (by omega) c1 hperm,ZnF]
end Go.Proofs
namespace Eng
open Go Go.Lib
theorem globOk_one {Pg:Program} {w:World} {n:String} {g:Nat} {t e:TypeId} {k:IntKind} {z:Int} (hn:Pg.globalNamed n=some g) (hty:(Pg.globals[g]?).map (·.type)=some t)
  (ht:Pg.underlying t=some (.slice e)) (he:Pg.underlying e=some (.int k)) (hce:Pg.cellsOf e=1) (hz:k.min≤z∧z≤k.max)
  (h:VarReads Pg w n (.slice [.lit (.int k z)] [])):Zej w (fun b=>b < w.heap.size) g [P.sl 1 [.int k z]]:=by
 obtain⟨g',t',cs,fuel,p,hg,hty',hvar,hd⟩:=h;obtain rfl:=ZF3 (hn.symm.trans hg);obtain rfl:=ZF3 (hty.symm.trans hty');rcases DataW.trod_slice ht hd with ⟨_,hx⟩ |⟨a,len,cap,elems,rest,m,_,hcs,hx,_,hl,hcap,hlen,hel,_,_⟩
 ·cases congrArg Prod.fst hx
 ·have e0:=congrArg Prod.fst hx;simp only[DataW.slice.injEq]at e0;obtain⟨e1,_⟩:=e0
  match elems,e1 with
  | [(d,q)],e1=>
   simp only[List.map_cons,List.map_nil,List.cons.injEq,and_true]at e1;subst e1;have hlen1:len=1:=by simpa using hlen.symm
   subst hlen1;obtain⟨ci,hci,htr⟩:=Option.bind_eq_some_iff.1 (hel 0 (by decide));obtain⟨z',hc,hxx,_⟩:=DataW.trod_int he htr;have hzz:z'=z:=by have:=congrArg Prod.fst hxx;simpa using this.symm
   subst hzz;subst hc;rw[hce,Nat.zero_mul]at hci;obtain⟨_,_,hc2⟩:=World.cells?_some hci;have h0:=hc2 0 (by decide);have hb:w.cell? a=some (.int k z'):=by simpa[Addr.add]using h0
   have hspot:a.spot=none:=by
    unfold World.cell? at hb;cases hs:a.spot with
    |none=>rfl
    |some s=>rw[hs]at hb;split at hb<;>simp at hb
   have ha:a=⟨a.block,a.off,none⟩:=by cases a;simp at hspot;subst hspot;rfl
   have hlt:a.block < w.heap.size:=ZjV (by rw[ha]at hb;exact hb);have hcs1:cs.size=1:=by have:=congrArg List.length hcs;simpa using this
   refine ZwF (t:=0) (fr:= #[]) (Zxp hn hvar) _ (by rw[hcs1];rfl) fun j v p hv hp=> ?_
   have hj:j=0:=by have:=(Array.getElem?_eq_some_iff.1 hv).1;omega
   subst hj;simp only[ZFo,Option.some.injEq]at hp;subst hp;rw[←Array.getElem?_toList,hcs]at hv;simp only[ZFo,Option.some.injEq]at hv;subst hv;refine⟨.sl (some a) 1 cap _ _ (fun _=> .int k z') rfl (by decide) hl (fun i hi=>rfl) (fun i hi=> ?_) (fun i x hx=> ?_),rfl⟩
   ·have hi0:i=0:=by omega
    subst hi0;refine⟨a.block,a.off,by rw[←ha],hlt,fun j v hv=> ?_⟩;have hj:=(Array.getElem?_eq_some_iff.1 hv).1;have hj0:j=0:=by have:(Value.int k z').cells.size=1:=rfl;omega
    subst hj0;have hvv:v= .int k z':=by have:(Value.int k z').cells[0]? =some (.int k z'):=rfl;exact ZF3 (hv.symm.trans this)
    subst hvv;rw[ha]at hb;simpa using hb
   ·have hi0:i=0:=by have:=(List.getElem?_eq_some_iff.1 hx).1;simp at this;omega
    subst hi0;simp only[ZFo,Option.some.injEq]at hx;subst hx;exact .int k z' hz.1 hz.2
end Eng
