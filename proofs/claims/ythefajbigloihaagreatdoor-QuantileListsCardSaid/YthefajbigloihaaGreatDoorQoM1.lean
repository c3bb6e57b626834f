/- Plain laws over the specs, part 1. -/
import Derived.Test.YthefajbigloihaaGreatDoorQoM0
import Derived.Test.YthefajbigloihaaGreatDoorE4
set_option linter.unusedVariables false
set_option linter.unusedSimpArgs false
set_option linter.unusedSectionVars false
open Bool renaming not_true→ZLj
open Int renaming natAbs_mul→ZOL, toNat_natCast→ZOQ, natAbs_natCast→ZOM, natAbs_neg→ZON, natCast_add→ZOO, natCast_mul→ZOP
open List renaming length_map→ZOZ, getD_eq_getElem?_getD→ZOS, getElem?_eq_getElem→ZOT, length_take→ZO2, take_length→ZO4, length_singleton→ZO1, getElem_mem→ZOW, all_eq_true→ZOR, mem_cons→ZO3, getElem?_eq_none→ZOU, take_of_length_le→ZO5, length_cons→ZOY, length_append→ZOX, length_set→ZO0, take_succ_eq_append_getElem→ZO6, getElem_cons_drop→ZOV
open Nat renaming le_trans→ZPf, pow_succ→ZPt, gcd→ZPc, mul_add→ZPl, mul_assoc→ZPm, le_refl→ZPe, mod_lt→ZPk, pow_zero→ZPu, mul_comm→ZPn, lt_of_le_of_lt→ZPg, pow_le_pow_right→ZPs, div_le_self→ZPb, one_mul→ZPp, pow_add→ZPr, le_of_lt→ZPd, two_pow_pos→ZPw, mul_left_comm→ZPo, pos_of_ne_zero→ZPq, lt_or_ge→ZPi, lt_of_lt_of_le→ZPh, min_eq_left→ZPj, div_add_mod→ZO9, add_mul_div_left→ZO7, div_eq_of_lt→ZPa, add_mul_mod_self_left→ZO8, two_pow_add_eq_or_of_lt→ZPv
open Option renaming bind_some→ZPx
namespace Go.Proofs
open Go Eng
def Sz (k:Nat) (q:Rat):Prop:=q.num.natAbs < 2 ^ k∧q.den < 2 ^ k
theorem Sz.mono {k l:Nat} {q:Rat} (h:Sz k q) (hl:k≤l):Sz l q:=⟨ZPh h.1 (ZPs (by decide) hl),ZPh h.2 (ZPs (by decide) hl)⟩
theorem ZGB {n k:Nat} (h:n < 2 ^ k) (m:Nat) (hk:k≤32*m):(wd n).length≤m:=by refine ZAU (ZPh h ?_);rw[show Bw=2 ^ 32 from rfl,←Nat.pow_mul];exact ZPs (by decide) hk
theorem Sz.wq {k:Nat} {q:Rat} (h:Sz k q) (hk:k≤8192):Wq 256 q:=⟨ZGB h.1 256 (by omega),ZGB (n:=(q.den:Int).natAbs) (by rw[ZOM];exact h.2) 256 (by omega)⟩
theorem ZDZ {x y:Int} {k:Nat} (hy:y≠0) (h1:x.natAbs < 2 ^ k) (h2:y.natAbs < 2 ^ k):Sz k (Rat.divInt x y):=by
 unfold Sz;rw[Rat.num_divInt,Rat.den_divInt,if_neg hy];refine⟨ZPg ?_ h1,ZPg (ZPb _ _) h2⟩;have hd:((Int.gcd y x:Nat):Int)∣y.sign*x:=Int.dvd_trans (Int.gcd_dvd_right y x) (Int.dvd_mul_left _ _);rw[Int.natAbs_ediv_of_dvd hd,ZOL];refine ZPf (ZPb _ _) ?_;have:y.sign.natAbs=1:=by rw[Int.natAbs_sign_of_ne_zero hy]
 rw[this,ZPp];exact ZPe _
theorem ZDG {x y k l:Nat} (hx:x < 2 ^ k) (hy:y < 2 ^ l):x*y < 2 ^ (k+l):=by rw[ZPr];exact Nat.mul_lt_mul_of_lt_of_le hx (ZPd hy) (ZPw _)
theorem ZDL (a b:Rat):Rat.divInt (a.num*(b.den:Int)+b.num*(a.den:Int)) ((a.den:Int)*(b.den:Int))=a+b:=by have h1:=a.den_nz;have h2:=b.den_nz;rw[←Rat.divInt_add_divInt _ _ (by omega) (by omega),Rat.num_divInt_den,Rat.num_divInt_den]
theorem Sz.add {a b:Rat} {k l:Nat} (ha:Sz k a) (hb:Sz l b):Sz (k+l+1) (a+b):=by
 rw[←ZDL];have h1:=a.den_nz;have h2:=b.den_nz;have q1:=ZDG ha.1 hb.2;have q2:=ZDG ha.2 hb.1;have q3:=ZDG ha.2 hb.2;have hp:=ZPw (k+l);refine ZDZ (Int.mul_ne_zero (by omega) (by omega)) ?_ ?_
 ·rw[ZPt];refine ZPg (Int.natAbs_add_le _ _) ?_;rw[ZOL,ZOL,ZOM,ZOM,ZPn b.num.natAbs];omega
 ·rw[ZPt,ZOL,ZOM,ZOM];omega
theorem ZLb {q:Rat} (h:Wq 256 q):decide ((if ((fOf q).Den.Words.length:Int) > ((fOf q).Num.Words.length:Int)then ((fOf q).Den.Words.length:Int)else ((fOf q).Num.Words.length:Int)) > 256)=false:=by have h1:=h.1;have h2:=h.2;unfold Wl at h1 h2;refine decide_eq_false ?_;unfold fOf;rw[ZpN,ZpN,Zn3,Zn3];split<;>omega
theorem ZDA {y:Int} (hy:y≠0):(((bg y).Words.length:Int) == 0)=false:=by have:=Zuk (n:=y.natAbs) (by omega);rw[ZpN,Zn3];exact beq_eq_false_iff_ne.2 (by omega)
theorem ZL6 {a b:Rat} {k l:Nat} (ha:Sz k a) (hb:Sz l b) (hk:k+l+1≤8192):((Zp8 (fOf a) (fOf b)).bind fun x=>some (x.1,x.2))=some (fOf (a+b),0):=by
 have h1:=a.den_nz;have h2:=b.den_nz;have qa:=ha.wq (by omega);have qb:=hb.wq (by omega);have w:∀{x y:Int},Wl 256 x→Wl 256 y→Wl 512 (x*y):=fun hx hy=>by unfold Wl;rw[ZOL];exact ZEt hx hy
 have m:∀{n:Nat} {x:Int},Wl n x→n≤50000→Wl 50000 x:=fun h h'=>ZPf h h'
 have w1:=w qa.1 qb.2;have w2:=w qb.1 qa.2;have w3:=w qa.2 qb.2;have w4:Wl 513 (a.num*(b.den:Int)+b.num*(a.den:Int)):=ZPf (ZvB (Int.natAbs_add_le _ _)) (ZE7 w1 w2);have hd:(a.den:Int)*(b.den:Int)≠0:=Int.mul_ne_zero (by omega) (by omega);unfold Zp8;rw[ZDr a qa,ZPx,ZLj,cond_false,ZDr b qb,ZPx,ZLj];unfold ZrX ZAs;rw[cond_false];show ((((Zou (bg a.num) (bg (b.den:Int))).bind fun q=>(Zou (bg b.num) (bg (a.den:Int))).bind fun q_1=>(Zxl q q_1).bind fun num=>(Zou (bg (a.den:Int)) (bg (b.den:Int))).bind fun den=>some (num,den)).bind _).bind _)=_;rw[ZCl _ _ (m qa.1 (by omega)) (m qb.2 (by omega)),ZPx,ZCl _ _ (m qb.1 (by omega)) (m qa.2 (by omega)),ZPx,ZIp _ _ (m w1 (by omega)) (m w2 (by omega)),ZPx,ZCl _ _ (m qa.2 (by omega)) (m qb.2 (by omega)),ZPx,ZPx];dsimp only;rw[ZDA hd,cond_false,ZC9 _ _ hd (m w4 (by omega)) (m w3 (by omega)),ZPx,ZDL,ZLb ((ha.add hb).wq hk),cond_false,ZPx]
end Go.Proofs
namespace Go.Proofs
open Go Eng
theorem ZD5 (z:Int):ZsP (bg z)=some (bg (-z)):=by
 unfold ZsP Zwt;rw[ZAw,ZpN,Zn3]
 by_cases hz:z < 0
 ·rw[decide_eq_true hz,ZLj,cond_false];unfold bg;rw[ZON,decide_eq_false (by omega:¬ -z < 0)]
 ·rw[decide_eq_false hz,Bool.not_false,cond_true];unfold bg;rw[ZON];congr 2
  by_cases h0:z=0
  ·subst h0;rw[show (0:Int).natAbs=0 from rfl,Zw0];rfl
  ·have:=Zuk (n:=z.natAbs) (by omega);rw[decide_eq_true (by omega),decide_eq_true (by omega)]
theorem ZJH (q:Rat):fOf (-q)=⟨bg (-q.num),bg (q.den:Int)⟩:=rfl
theorem Sz.neg {q:Rat} {k:Nat} (h:Sz k q):Sz k (-q):=by show (-q.num).natAbs < 2 ^ k∧q.den < 2 ^ k;rw[ZON];exact h
theorem ZK7 {a b:Rat} {k l:Nat} (ha:Sz k a) (hb:Sz l b) (hk:k+l+1≤8192):Zyp (fOf a) (fOf b)=some (fOf (a - b),0):=by unfold Zyp;rw[ZDr b (hb.wq (by omega)),ZPx,ZLj,cond_false];show ((ZsP (bg b.num)).bind fun q_1=>(Zp8 (fOf a) (ZnC.mk q_1 (bg (b.den:Int)))).bind fun x=>some (x.1,x.2))=_;have:=ZL6 ha hb.neg hk;rw[ZD5,ZPx,←ZJH,Rat.sub_eq_add_neg];exact this
theorem ZGR {a b:Rat} {k l:Nat} (ha:Sz k a) (hb:Sz l b) (hk:k+l+1≤8192):ZBP (fOf a) (fOf b)=some (fOf (a - b)):=by unfold ZBP ZCu;rw[ZK7 ha hb hk];rfl
def ZDN (a b:Rat):Int:=if a < b then -1 else if b < a then 1 else 0
theorem ZDU (a b:Rat):a < b↔a.num*(b.den:Int) < b.num*(a.den:Int):=Rat.lt_iff a b
theorem ZFr {a b:Rat} (qa:Wq 256 a) (qb:Wq 256 b):ZuK (fOf a) (fOf b)=some (ZDN a b):=by
 have w:∀{x y:Int},Wl 256 x→Wl 256 y→Wl 50000 (x*y):=fun hx hy=>by unfold Wl;rw[ZOL];exact ZPf (ZEt hx hy) (by decide)
 have m:∀{x:Int},Wl 256 x→Wl 50000 x:=fun h=>ZPf h (by decide)
 unfold ZuK;rw[ZDr a qa,ZPx,ZLj,cond_false,ZDr b qb,ZPx,ZLj];unfold ZzD;rw[cond_false];show ((Zou (bg a.num) (bg (b.den:Int))).bind fun q=>(Zou (bg b.num) (bg (a.den:Int))).bind _)=_;rw[ZCl _ _ (m qa.1) (m qb.2),ZPx,ZCl _ _ (m qb.1) (m qa.2),ZPx,ZD5,ZPx];have w2:Wl 50000 (-(b.num*(a.den:Int))):=by unfold Wl;rw[ZON];exact w qb.1 qa.2
 rw[ZIp _ _ (w qa.1 qb.2) w2,ZPx,ZAw,ZpN,Zn3];unfold ZDN;have h1:=ZDU a b;have h2:=ZDU b a;generalize a.num*(b.den:Int)=x at*
 generalize b.num*(a.den:Int)=y at*
 by_cases hl:a < b
 ·rw[if_pos hl,decide_eq_true (by have:=h1.1 hl;omega),cond_true]
 ·have hn:¬x < y:=fun h=>hl (h1.2 h)
  rw[if_neg hl,decide_eq_false (by omega),cond_false]
  by_cases hg:b < a
  ·have:=Zuk (n:=(x+ -y).natAbs) (by have:=h2.1 hg;omega);rw[if_pos hg,decide_eq_true (by omega),cond_true]
  ·have hn2:¬y < x:=fun h=>hg (h2.2 h)
   rw[if_neg hg,show x+ -y=0 by omega,show (0:Int).natAbs=0 from rfl,Zw0];rfl
theorem ZJs (x y:Int) (hy:y≠0) (hx1:Wl 256 x) (hy1:Wl 256 y):Zzh (bg x) (bg y)=some (fOf (Rat.divInt x y),0):=by
 have hb:=ZG9 [x,y] (by simp) (fun z hz=>by
  simp only[ZO3,List.not_mem_nil,or_false]at hz;rcases hz with rfl |rfl
  ·exact hx1
  ·exact hy1)
 unfold Zzh;rw[show ([bg x,bg y]:List ZnK)=[x,y].map bg from rfl,hb,ZPx,ZLj,cond_false,ZDA hy,cond_false,ZC9 _ _ hy (ZPf hx1 (by decide)) (ZPf hy1 (by decide)),ZPx]
theorem ZMZ {z:Int} (h1: -9223372036854775808≤z) (h2:z≤9223372036854775807):Wl 256 z:=ZPf (ZJt (by omega)) (by decide)
theorem ZLo (x y:Int) (hy:y≠0) (h1: -9223372036854775808≤x) (h2:x≤9223372036854775807) (h3: -9223372036854775808≤y) (h4:y≤9223372036854775807):ZzC x y=some (fOf (Rat.divInt x y),0):=by unfold ZzC;rw[ZEH x h1 h2,ZPx,ZEH y h3 h4,ZPx,ZJs x y hy (ZMZ h1 h2) (ZMZ h3 h4),ZPx]
theorem ZFA:ZAK=some (fOf 0):=by unfold ZAK;rw[ZLo 0 1 (by decide) (by decide) (by decide) (by decide) (by decide),ZPx,Rat.zero_divInt]
theorem ZF5 (x y:Int) (hy:y≠0) (h1: -9223372036854775808≤x) (h2:x≤9223372036854775807) (h3: -9223372036854775808≤y) (h4:y≤9223372036854775807):ZCv x y=some (fOf (Rat.divInt x y)):=by unfold ZCv;rw[ZLo x y hy h1 h2 h3 h4,ZPx];rfl
theorem ZFD:Sz 1 0:=by unfold Sz;decide
theorem ZI8 {a:Rat} (qa:Wq 256 a):ZCj (fOf a)=some (ZDN a 0):=by unfold ZCj;rw[ZFA,ZPx,ZFr qa (ZFD.wq (by decide)),ZPx]
end Go.Proofs
namespace Go.Proofs
open Go Eng
theorem ZFT:∀n w,Zpq n w=Zqe n w
 |0,_=>rfl
 |n+1,w=>by have:Zpq n=Zqe n:=funext (ZFT n);show ZyB (Zpq n) w=ZvQ (Zqe n) w;rw[this];rfl
theorem ZGb (w:List Int):Zoi w=Zot w:=by unfold Zoi Zot;rw[ZFT];rfl
theorem ZC8 {l:List Nat} (h:Dg l) (hl:l.length≤1000000):Zoi (iL l)=some (iL (wd (val l))):=by rw[ZGb,ZCr h hl]
theorem ZC7 (neg:Bool) {l:List Nat} (h:Dg l) (hl:l.length≤1000000):Zn4 neg (iL l)=some (bg (if neg then -(val l:Int)else val l)):=by
 unfold Zn4 ZuB;rw[ZC8 h hl,ZPx,Zn3];unfold bg;cases neg with
 |true=>
  rw[cond_true,if_pos rfl,ZON,ZOM];congr 2
  by_cases h0:val l=0
  ·rw[h0,Zw0];rfl
  ·have:=Zuk h0;rw[decide_eq_true (by omega),decide_eq_true (by omega)]
 |false=>rw[cond_false,if_neg (by decide),ZOM,decide_eq_false (by omega)]
theorem ZAR (a:ZnK):Zo6 a=Zus a:=rfl
end Go.Proofs
namespace Go.Proofs
open Go Eng
theorem ZEl (a b:Nat) (ha:(wd a).length≤100000) (hb:(wd b).length≤100000):ZoR (iL (wd a)) (iL (wd b))=some (ZEA a b):=by
 refine ZrY ?_;unfold ZoR;rw[Zn3,Zn3,ZnV];refine⟨fun h=> ?_,fun h=> ?_⟩
 ·have hne:(wd a).length≠(wd b).length:=fun e=>by rw[e]at h;simp at h
  rw[ZnV];refine⟨fun h=> ?_,fun h=> ?_⟩
  ·have h1:(wd a).length < (wd b).length:=by have:=of_decide_eq_true h;omega
   rw[ZnD,ZAP (ZEC h1)]
  ·have h1:(wd b).length < (wd a).length:=by have:=of_decide_eq_false h;omega
   rw[ZnD,ZAv (ZEC h1)]
 ·have hl:(wd a).length=(wd b).length:=by simp only[bne_eq_false_iff_eq]at h;omega
  rw[ZnH,ZnE];refine⟨ZnI (by omega), ?_⟩;refine ZnM (ZDz ZBB (wd a).length (by omega) (fun i (s:Unit)=>(iL (wd a),iL (wd b),i)) (fun k _=>(wd a).drop k=(wd b).drop k)
   (Q:=fun r=>r= .ret (ZEA a b)∨r= .brk ()∧a=b) () (by rw[List.drop_length,hl,List.drop_length]) ?_ ?_) ?_
  ·rintro rec k ⟨⟩ hk hP ih;have hk2:k < (wd b).length:=by omega
   unfold Zv8 Zth;dsimp only;rw[ZnV];refine⟨fun _=> ?_,fun h=>by have:=of_decide_eq_false h;omega⟩;have ha:=ZBL hk;have hb:=ZBL hk2;rw[ZtJ]at ha hb;have la:val ((wd a).take k) < Bw ^ k:=by have:=ZzF ((Zx9 a).take k);rwa [ZO2,ZPj (by omega)]at this
   have lb:val ((wd b).take k) < Bw ^ k:=by have:=ZzF ((Zx9 b).take k);rwa [ZO2,ZPj (by omega)]at this
   rw[ZwY hk,ZnE,ZnD,ZwY hk2,ZnE,ZnD,ZnV];refine⟨fun hc=> ?_,fun hc=> ?_⟩
   ·have h1:(wd a)[k] < (wd b)[k]:=by have:=of_decide_eq_true hc;omega
    have:a < b:=by rw[ha,hb,hP];exact ZEM (A:=0) (B:=0) la (by omega)
    rw[ZnD];exact .inl (by rw[ZAP this])
   ·rw[ZnE,ZnD,ZnE,ZnD,ZnV];refine⟨fun hc2=> ?_,fun hc2=> ?_⟩
    ·have h1:(wd b)[k] < (wd a)[k]:=by have:=of_decide_eq_true hc2;omega
     have:b < a:=by rw[ha,hb,hP];exact ZEM (A:=0) (B:=0) lb (by omega)
     rw[ZnD];exact .inl (by rw[ZAv this])
    ·rw[ZnH];refine⟨ZnI (by omega),ih () ?_⟩;have h1:(wd a)[k]=(wd b)[k]:=by have q1:=of_decide_eq_false hc;have q2:=of_decide_eq_false hc2;omega
     rw[←ZOV (h:=hk),←ZOV (h:=hk2),h1,hP]
  ·rintro rec ⟨⟩ hP;unfold Zv8 Zth;dsimp only;rw[ZnV];refine⟨fun h=>by have:=of_decide_eq_true h;omega,fun _=> ?_⟩;rw[ZnD];rw[List.drop_zero,List.drop_zero]at hP;exact .inr ⟨rfl,by rw[←ZtJ a,←ZtJ b,hP]⟩
  ·rintro r (rfl |⟨rfl,rfl⟩)
   ·exact ZnD.2 rfl
   ·unfold Zxc;exact ZnD.2 (Zzm a).symm
theorem ZFF {a:Nat} (k:Nat) (hk:k≤32):shlK .u32 (a:Int) (k:Int)=((a*2 ^ k % 4294967296:Nat):Int):=by
 unfold shlK;rw[ZOQ,show IntKind.bits .u32=32 from rfl,ZPj (by omega)];have e:(a:Int)*(2:Int) ^ k=((a*2 ^ k:Nat):Int):=by push_cast;rfl
 rw[e,ZxA]
theorem ZFR (a d:Nat) (hd:d≤1) (ha:(wd a).length≤100000):Zq1 (iL (wd a)) (d:Int)=some (iL (wd (2*a+d))):=by
 refine ZrY ?_;unfold Zq1;rw[ZnE];refine ZnM (Zwo ZAY (wd a).length (by omega) (fun i (s:Nat×List Nat)=>(iL (wd a),(s.1:Int),i,iL s.2)) (fun i s=>s.1≤1∧s.2.length=i∧Dg s.2∧val s.2+Bw ^ i*s.1=2*val ((wd a).take i)+d)
  (Q:=fun y=>∃(c:Nat) (o:List Nat),y=((c:Int),iL o)∧c≤1∧Dg o∧o.length=(wd a).length∧val o+Bw ^ (wd a).length*c=2*a+d) (d,[]) ⟨hd,rfl,ZC3,by simp[val]⟩ ?_ ?_) ?_
 ·rintro rec i ⟨c,o⟩ hi ⟨hc,hl,hod,hv⟩ ih;dsimp only at hc hl hod hv ih;have h1:=(Zx9 a).get hi;unfold Zvh ZsB;dsimp only;rw[ZnV,Zn3];refine⟨fun _=> ?_,fun h=>by have:=of_decide_eq_false h;omega⟩;rw[ZwY hi,ZnE,ZnD];generalize ex:(wd a)[i]=x at h1;have eor:orK .u32 (shlK .u32 (x:Int) 1) (c:Int)=((c+x*2 ^ 1 % Bw:Nat):Int):=by rw[show (1:Int)=((1:Nat):Int)from rfl,ZFF 1 (by omega),ZFg (ZPk _ (by decide)) (by omega),Nat.or_comm];congr 1;exact ZEV (by decide) (by omega) h1
  have esh:shrK .u32 (x:Int) 31=((x / 2 ^ 31:Nat):Int):=ZDh 31 (by omega);rw[eor,ZPx,esh,ZnH,ZnH,ZnH,ZnH,Zn3];have hx:c+x*2 ^ 1 % Bw < Bw:=by simp only[Bw]at h1⊢;omega
  refine⟨by decide,Zvm (by simp only[ZO1];omega),by decide,ZnI (by omega), ?_⟩;have:=ih (x / 2 ^ 31,o++[c+x*2 ^ 1 % Bw]) ⟨by simp only[Bw]at h1;dsimp only;omega,by simp[hl],hod.app (ZCn hx), ?_⟩
  ·rw[ZEe]at this;exact this
  ·dsimp only;have q:c+x*2 ^ 1 % Bw+Bw*(x / 2 ^ 31)=c+2*x:=by simp only[Bw]at h1⊢;omega
   have q2:Bw ^ i*(c+x*2 ^ 1 % Bw+Bw*(x / 2 ^ 31))=Bw ^ i*(c+2*x):=by rw[q]
   have q3:Bw ^ i*(2*x)=2*(Bw ^ i*x):=ZPo _ _ _;rw[ZPl,ZPl (Bw ^ i) c (2*x),q3]at q2;rw[Zyv,hl,ZoL hi,ex];generalize c+x*2 ^ 1 % Bw=dg at*
   generalize x / 2 ^ 31=cy at*
   rw[ZPt,ZPm];omega
 ·rintro rec ⟨c,o⟩ ⟨hc,hl,hod,hv⟩;dsimp only at hc hl hod hv;unfold Zvh ZsB;dsimp only;rw[ZnV,Zn3];refine⟨fun h=>by have:=of_decide_eq_true h;omega,fun _=> ?_⟩;rw[ZnD];rw[ZO4,ZtJ]at hv;exact⟨c,o,rfl,hc,hod,hl,hv⟩
 ·rintro y ⟨c,o,rfl,hc,hod,hl,hv⟩;dsimp only;unfold Zv1;have e:iL o++[(c:Int)]=iL (o++[c]):=by rw[ZEe];rfl
  rw[ZnH,Zn3,e,ZC8 (hod.app (ZCn (by simp only[Bw];omega))) (by simp;omega),ZnE,ZnD,ZnD,Zyv,hl,hv];exact⟨Zvm (by simp only[ZO1];omega),rfl⟩
end Go.Proofs
namespace Go.Proofs
open Go Eng
theorem ZI9 (t:Int):shrK .i64 t 32=t / 4294967296:=by unfold shrK;rw[show min (32:Int).toNat (IntKind.bits .i64)=32 from by decide,Int.fdiv_eq_ediv_of_nonneg _ (by decide)];rfl
theorem ZD0 (a b:Nat) (hab:b≤a) (ha:(wd a).length≤100000):ZpP (iL (wd a)) (iL (wd b))=some (iL (wd (a - b))):=by
 have hlb:(wd b).length≤(wd a).length:=ZvB hab;refine ZrY ?_;unfold ZpP;rw[ZnE];refine ZnM (Zwo ZBx (wd a).length (by omega) (fun i (s:Nat×List Nat)=>(iL (wd a),iL (wd b), -(s.1:Int),i,iL s.2)) (fun i s=>s.1≤1∧s.2.length=i∧Dg s.2∧val ((wd a).take i)+Bw ^ i*s.1=val s.2+val ((wd b).take i))
  (Q:=fun y=>∃(o:List Nat),y=iL o∧Dg o∧o.length=(wd a).length∧val o=a - b) (0,[]) ⟨by simp,rfl,ZC3,by simp[val]⟩ ?_ ?_) ?_
 ·rintro rec i ⟨c,o⟩ hi ⟨hc,hl,hd,hv⟩ ih;dsimp only at hc hl hd hv ih;have h1:=(Zx9 a).get hi;have h2:=ZDk (Zx9 b) i;have ey0:(wd b).getD i 0=(if i < (wd b).length then (wd b).getD i 0 else 0):=by
   by_cases h:i < (wd b).length
   ·rw[if_pos h]
   ·rw[if_neg h,ZOS,ZOU (by omega)];rfl
  have fin:∀y:Nat,(wd b).getD i 0=y→wp (Zsc (fun a b c i out=>rec (a,b,c,i,out)) (iL (wd a)) (iL (wd b)) (-(c:Int)+((wd a)[i]:Int) - (y:Int)) (i:Int) (iL o)) (fun y=>∃(o:List Nat),y=iL o∧Dg o∧o.length=(wd a).length∧val o=a - b):=fun y ey=>by
   rw[ey]at h2;generalize ex:(wd a)[i]=x at h1;have ew:IntKind.wrap .u32 (-(c:Int)+(x:Int) - (y:Int))=(((x+4294967296 - y - c) % 4294967296:Nat):Int):=by simp only[Bw]at h1 h2;rw[IntKind.wrap_u32];omega
   have es:shrK .i64 (-(c:Int)+(x:Int) - (y:Int)) 32= -(((if x < y+c then 1 else 0):Nat):Int):=by simp only[Bw]at h1 h2;rw[ZI9];split<;>omega
   unfold Zsc;rw[ew,es,ZnH,ZnH,ZnH,Zn3];refine⟨Zvm (by simp only[ZO1];omega),by decide,ZnI (by omega), ?_⟩;have:=ih ((if x < y+c then 1 else 0),o++[(x+4294967296 - y - c) % 4294967296]) ⟨by dsimp only;split<;>omega,by simp[hl],hd.app (ZCn (ZPk _ (by decide))), ?_⟩
   ·rw[ZEe]at this;exact this
   ·dsimp only;rw[Zyv,hl,ZPt,ZoL hi,Zzo,ex,ey,ZPm];have e:x+Bw*(if x < y+c then 1 else 0)=(x+4294967296 - y - c) % 4294967296+y+c:=by simp only[Bw]at h1 h2⊢;split<;>omega
    have e2:Bw ^ i*(x+Bw*(if x < y+c then 1 else 0))=Bw ^ i*((x+4294967296 - y - c) % 4294967296+y+c):=by rw[e]
    rw[ZPl,ZPl,ZPl]at e2;omega
  unfold Zv2 Ztd;dsimp only;rw[ZnV,Zn3,Zn3];refine⟨fun _=> ?_,fun h=>by have:=of_decide_eq_false h;omega⟩;have wx:IntKind.wrap .i64 ((wd a)[i]:Int)=((wd a)[i]:Int):=wrap_i64 (by simp only[Bw]at h1;omega);rw[ZwY hi,ZnE,ZnD,wx,ZnH,ZnV];refine⟨ZnI (by simp only[Bw]at h1;omega),fun h=> ?_,fun h=> ?_⟩
  ·have hib:i < (wd b).length:=by have:=of_decide_eq_true h;omega
   have hy:=(Zx9 b).get hib;have wy:IntKind.wrap .i64 ((wd b)[i]:Int)=((wd b)[i]:Int):=wrap_i64 (by simp only[Bw]at hy;omega);rw[ZwY hib,ZnE,ZnD,wy,ZnH];refine⟨ZnI (by simp only[Bw]at h1 hy;omega),fin _ ?_⟩;rw[ZOS,ZOT hib];rfl
  ·have hib:¬i < (wd b).length:=by have:=of_decide_eq_false h;omega
   have:=fin 0 (by rw[ey0,if_neg hib]);rw[Int.natCast_zero,Int.sub_zero]at this;exact this
 ·rintro rec ⟨c,o⟩ ⟨hc,hl,hd,hv⟩;unfold Zv2 Ztd;dsimp only at hc hl hd hv⊢
  rw[ZnV,Zn3];refine⟨fun h=>by have:=of_decide_eq_true h;omega,fun _=> ?_⟩;rw[ZnD];rw[ZO4,ZO5 (by omega),ZtJ,ZtJ]at hv;have:=ZzF hd;rw[hl]at this;have hc0:c=0:=by
   rcases Nat.eq_zero_or_pos c with h |h
   ·exact h
   ·have:c=1:=by omega
    rw[this,Nat.mul_one]at hv;omega
  rw[hc0,Nat.mul_zero]at hv;exact⟨o,rfl,hd,hl,by omega⟩
 ·rintro y ⟨o,rfl,hd,hl,hv⟩;unfold Zw3;rw[ZC8 hd (by omega),ZnE,ZnD,ZnD,hv]
end Go.Proofs
namespace Go.Proofs
open Go Eng
theorem ZDW (a:Nat) (ha:(wd a).length≤100000):Zpz (iL (wd a))=some (iL (wd (a / 2))):=by
 refine ZrY ?_;unfold Zpz;rw[List.nil_append,ZnH,ZnE,Zn3];refine⟨Zvm (by rw[List.length_nil];omega), ?_⟩;refine ZnM (Zwo ZBg (wd a).length (by omega) (fun i (o:List Nat)=>(iL (wd a),((wd a).length:Int),i,iL (o++(wd a).drop o.length))) (fun i o=>o.length=i∧Dg o∧val o*2+(wd a).getD 0 0 % 2=val ((wd a).take i)+Bw ^ i*((wd a).getD i 0 % 2))
  (Q:=fun y=>∃(o:List Nat),y=iL o∧Dg o∧o.length=(wd a).length∧val o=a / 2) [] ⟨rfl,ZC3,by simp[val]⟩ ?_ ?_) ?_
 ·rintro rec i o hi ⟨hol,hod,hov⟩ ih;have h1:=(Zx9 a).get hi;have hyB:=ZDk (Zx9 a) (i+1);have hlen:(o++(wd a).drop o.length).length=(wd a).length:=by simp;omega
  have gx:(iL (o++(wd a).drop o.length))[i]? =some ((wd a)[i]:Int):=by rw[ZCZ (by omega)];congr 2;rw[List.getElem_append_right (by omega)];simp[hol]
  have fin:∀z:Nat,z=(wd a)[i] / 2+(wd a).getD (i+1) 0*2 ^ 31 % Bw→wp (Zrz (fun a t9 i out=>rec (a,t9,i,out)) (iL (wd a)) ((wd a).length:Int) (i:Int) (iL ((o++(wd a).drop o.length).set i z))) (fun y=>∃(o:List Nat),y=iL o∧Dg o∧o.length=(wd a).length∧val o=a / 2):=fun z hz=>by
   unfold Zrz;have es:(o++(wd a).drop o.length).set i z=(o++[z])++(wd a).drop (o++[z]).length:=by rw[List.set_append_right _ _ (by omega),hol,Nat.sub_self,←ZOV (h:=hi),List.set_cons_zero];simp[hol]
   have eg:(wd a).getD i 0=(wd a)[i]:=by rw[ZOS,ZOT hi];rfl
   rw[eg]at hov;rw[ZnH,es];generalize ex:(wd a)[i]=x at*
   generalize ey:(wd a).getD (i+1) 0=y at*
   have hzB:z < Bw:=by simp only[Bw]at h1 hz⊢;omega
   refine⟨ZnI (by omega),ih (o++[z]) ⟨by simp[hol],hod.app (ZCn hzB), ?_⟩⟩;have hd1:z*2+x % 2=x+Bw*(y % 2):=by simp only[Bw]at h1 hz⊢;omega
   have q1:Bw ^ i*(z*2+x % 2)=Bw ^ i*(x+Bw*(y % 2)):=by rw[hd1]
   rw[ZPl,ZPl]at q1;rw[Zyv,hol,ZoL hi,ex,ZPt,Nat.add_mul,ZPm,ZPm];omega
  unfold ZvJ Zs3;dsimp only;rw[ZnV];refine⟨fun _=> ?_,fun h=>by have:=of_decide_eq_false h;omega⟩;have esh:shrK .u32 ((wd a)[i]:Int) 1=(((wd a)[i] / 2:Nat):Int):=ZDh 1 (by omega);rw[ZOQ,gx,ZnH,ZnE,ZnD,ZnH,ZnH,ZnH,esh,ZB8,Zn3,Zn3,hlen,ZnV];refine⟨Zo3 ⟨by omega,by omega⟩,by decide,Zo3 ⟨by omega,by omega⟩,ZnI (by omega),fun h=> ?_,fun h=> ?_⟩
  ·have hi2:i+1 < (wd a).length:=by have:=of_decide_eq_true h;omega
   have gz:(iL ((o++(wd a).drop o.length).set i ((wd a)[i] / 2)))[i]? =some (((wd a)[i] / 2:Nat):Int):=by rw[ZCZ (by rw[ZO0];omega),List.getElem_set_self]
   have e1:(i:Int)+1=((i+1:Nat):Int):=rfl;have eg:(wd a).getD (i+1) 0=(wd a)[i+1]:=by rw[ZOS,ZOT hi2];rfl
   have eor:orK .u32 (((wd a)[i] / 2:Nat):Int) (shlK .u32 ((wd a)[i+1]:Int) 31)=(((wd a)[i] / 2+(wd a).getD (i+1) 0*2 ^ 31 % Bw:Nat):Int):=by rw[eg,show (31:Int)=((31:Nat):Int)from rfl,ZFF 31 (by omega),ZFg (by simp only[Bw]at h1;omega) (ZPk _ (by decide))];congr 1;exact ZEV (by decide) (by simp only[Bw]at h1;omega) ((Zx9 a).get hi2)
   rw[e1,ZwY hi2,gz,ZnH,ZnE,ZnD,ZnH,ZnE,ZnD,ZnH,ZnH,eor,Zn3,ZO0,hlen,ZB8,List.set_set];exact⟨Zo3 ⟨by omega,by omega⟩,ZnI (by omega),by decide,Zo3 ⟨by omega,by omega⟩,fin _ rfl⟩
  ·have hi2:¬i+1 < (wd a).length:=by have:=of_decide_eq_false h;omega
   refine fin _ ?_;rw[ZOS,ZOU (by omega)];simp
 ·rintro rec o ⟨hol,hod,hov⟩;unfold ZvJ Zs3;dsimp only;rw[ZnV];refine⟨fun h=>by have:=of_decide_eq_true h;omega,fun _=> ?_⟩;rw[ZnD];have eg:(wd a).getD (wd a).length 0=0:=by rw[ZOS,ZOU (by omega)];rfl
  rw[eg,Nat.zero_mod,Nat.mul_zero,Nat.add_zero,ZO4,ZtJ]at hov;refine⟨o,by rw[hol,List.drop_length,List.append_nil],hod,hol, ?_⟩;omega
 ·rintro y ⟨o,rfl,hd,hl,hv⟩;unfold ZwE;rw[ZC8 hd (by omega),ZnE,ZnD,ZnD,hv]
end Go.Proofs
namespace Go.Proofs
open Go Eng
theorem ZFj {a:Nat} (h:a≠0):idx (iL (wd a)) 0=some ((a % Bw:Nat):Int):=by rw[ZDq h];rfl
theorem ZEh {a:Nat}:(andK .u32 ((a % Bw:Nat):Int) 1 == 0)=decide (a % 2=0):=by
 rw[show (1:Int)=((1:Nat):Int)from rfl,ZE3 (ZPk _ (by decide)) (by decide),Nat.and_one_is_mod];have e:a % Bw % 2=a % 2:=by simp only[Bw];omega
 rw[e]
 by_cases h:a % 2=0
 ·rw[h];rfl
 ·rw[decide_eq_false h];exact beq_eq_false_iff_ne.2 (by omega)
theorem ZF4 (P:Nat→Prop) {f:Nat→List Int×List Int×Int→Option (List Int×List Int×Int)} (y:List Int) (k:Int)
  (hf:∀n x,x≠0→(wd x).length≤100000→f (n+1) (iL (wd x),y,k)=if x % 2=0 then f n (iL (wd (x / 2)),y,k)else some (iL (wd x),y,k))
  (hP:∀x,P (2*x)→P x):∀(n x:Nat),x≠0→(wd x).length≤100000→P x→(∀m,x < 2 ^ m→m≤n→∃z,f n (iL (wd x),y,k)=some (iL (wd z),y,k)∧z % 2=1∧z≤x∧P z)
 |0,x,hx,hl,hp,m,hm,hmn=>by
  have:m=0:=by omega
  subst this;rw[ZPu]at hm;omega
 |n+1,x,hx,hl,hp,m,hm,hmn=>by
  rw[hf n x hx hl]
  by_cases h:x % 2=0
  ·rw[if_pos h];cases m with
   |zero=>rw[ZPu]at hm;omega
   |succ m=>
    obtain⟨z,h1,h2,h3,h4⟩:=ZF4 P y k hf hP n (x / 2) (by omega) (ZPf (ZvB (ZPb x 2)) hl) (hP _ (by rwa [show 2*(x / 2)=x by omega])) m (by rw[ZPt]at hm;omega) (by omega);exact⟨z,h1,h2,by omega,h4⟩
  ·rw[if_neg h];exact⟨x,rfl,by omega,ZPe _,hp⟩
end Go.Proofs
namespace Go.Proofs
open Go Eng
theorem ZAQ (x:Nat):x < 2 ^ (x.log2+1):=Nat.lt_log2_self
theorem ZCC {x n:Nat} (h:(wd x).length≤n):x.log2≤32*n:=by
 rcases Nat.eq_zero_or_pos x with rfl |hp
 ·rw[Nat.log2_zero];omega
 ·have h1:=Nat.log2_self_le (n:=x) (by omega);have h2:=ZPh (ZyO x) (ZPs (n:=Bw) (by decide) h);rw[show Bw=2 ^ 32 from rfl,←Nat.pow_mul]at h2;exact ZPd ((Nat.pow_lt_pow_iff_right (a:=2) (by decide)).1 (ZPg h1 h2))
theorem ZG1 {x b:Nat} (hb:b % 2=1):ZPc (2*x) b=ZPc x b:=by
 have hc:Nat.Coprime 2 b:=by unfold Nat.Coprime;rw[Nat.gcd_rec,hb,Nat.gcd_one_left]
 exact Nat.Coprime.gcd_mul_left_cancel x hc
theorem ZNy (y:List Int) (k:Int) {x:Nat} (b:Nat) (hb:b % 2=1) (hx:x≠0) (hl:(wd x).length≤100000):∃z,Zo1 big (iL (wd x)) y k=some (iL (wd z),y,k)∧z % 2=1∧z≤x∧ZPc z b=ZPc x b:=by
 have hm:=ZCC hl;refine ZF4 (fun z=>ZPc z b=ZPc x b) (f:=fun n t=>Zo1 n t.1 t.2.1 t.2.2) y k (fun n x hx hl=> ?_) (fun z h=>by rwa [ZG1 hb]at h) big x hx hl rfl (x.log2+1) (ZAQ x) (ZPd (ZEm (by omega)));show Zq9 (Zo1 n) (iL (wd x)) y k=_;unfold Zq9;rw[ZFj hx,ZPx,ZEh]
 by_cases h:x % 2=0
 ·rw[decide_eq_true h,cond_true,if_pos h,ZDW x hl,ZPx]
 ·rw[decide_eq_false h,cond_false,if_neg h]
end Go.Proofs
namespace Go.Proofs
open Go Eng
theorem ZIx (y:List Int) (k:Int) {x:Nat} (ho:x % 2=1):Zo1 big (iL (wd x)) y k=some (iL (wd x),y,k):=by obtain⟨n,hn⟩:=ZEn 1 (by decide);rw[hn];show Zq9 (Zo1 n) (iL (wd x)) y k=_;unfold Zq9;rw[ZFj (by omega),ZPx,ZEh,decide_eq_false (by omega),cond_false]
theorem ZNx (w:List Int) (k:Int) {y:Nat} (b:Nat) (hb:b % 2=1) (hy:y≠0) (hl:(wd y).length≤100000):∃z,Zo0 big w (iL (wd y)) k=some (w,iL (wd z),k)∧z % 2=1∧(z≤y∧(y % 2=0→z≤y / 2))∧ZPc z b=ZPc y b:=by
 have hm:=ZCC hl;have step:∀n x,x≠0→(wd x).length≤100000→Zo0 (n+1) w (iL (wd x)) k=if x % 2=0 then Zo0 n w (iL (wd (x / 2))) k else some (w,iL (wd x),k):=fun n x hx hl=>by
  show Zv5 (Zo0 n) w (iL (wd x)) k=_;unfold Zv5;rw[ZFj hx,ZPx,ZEh]
  by_cases h:x % 2=0
  ·rw[decide_eq_true h,cond_true,if_pos h,ZDW x hl,ZPx]
  ·rw[decide_eq_false h,cond_false,if_neg h]
 have key:∀(n x m:Nat),x≠0→(wd x).length≤100000→x < 2 ^ m→m≤n→∃z,Zo0 n w (iL (wd x)) k=some (w,iL (wd z),k)∧z % 2=1∧(z≤x∧(x % 2=0→z≤x / 2))∧ZPc z b=ZPc x b:=by
  intro n
  induction n with
  |zero=>
   intro x m hx hl hm hmn;have:m=0:=by omega
   subst this;rw[ZPu]at hm;omega
  |succ n ih=>
   intro x m hx hl hm hmn;rw[step n x hx hl]
   by_cases h:x % 2=0
   ·rw[if_pos h];cases m with
    |zero=>rw[ZPu]at hm;omega
    |succ m=>
     obtain⟨z,h1,h2,h3,h4⟩:=ih (x / 2) m (by omega) (ZPf (ZvB (ZPb x 2)) hl) (by rw[ZPt]at hm;omega) (by omega);refine⟨z,h1,h2,⟨by omega,fun _=>h3.1⟩, ?_⟩;rw[h4,←ZG1 hb,show 2*(x / 2)=x by omega]
   ·rw[if_neg h];exact⟨x,rfl,by omega,⟨ZPe _,fun h'=>absurd h' h⟩,rfl⟩
 exact key big y (y.log2+1) hy hl (ZAQ y) (ZPd (ZEm (by omega)))
end Go.Proofs
namespace Go.Proofs
open Go Eng
theorem ZH1 (k:Int):∀(n x y p q:Nat),x % 2=1→(wd x).length≤100000→(wd y).length≤100000→x < 2 ^ p→y < 2 ^ q→p+q+y % 2 < n→Zn7 n (iL (wd x)) (iL (wd y)) k=some (iL (wd (ZPc x y)),k)
 |0,x,y,p,q,_,_,_,_,_,h=>absurd h (by omega)
 |n+1,x,y,p,q,ho,hxl,hyl,hp,hq,hn=>by
  show Zra (Zn7 n) _ _ _=_;unfold Zra;rw[Zn3]
  by_cases h0:y=0
  ·subst h0;rw[Zw0,Nat.gcd_zero_right];rfl
  ·have hl:=Zuk h0;obtain⟨z,hz,hz1,hz2,hz3⟩:=ZNx (iL (wd x)) k x ho h0 hyl;rw[decide_eq_true (by omega),cond_true,ZIx _ _ ho,ZPx];dsimp only;unfold Zw9;rw[hz,ZPx];dsimp only;have hzl:=ZPf (ZvB hz2.1) hyl;unfold Zw8;rw[ZEl x z hxl hzl,ZPx];obtain⟨q',hq',hq2⟩:∃q',z < 2 ^ q'∧q'+1≤q+y % 2:=by
    by_cases he:y % 2=0
    ·cases q with
     |zero=>rw[ZPu]at hq;omega
     |succ q=>
      refine⟨q, ?_,by omega⟩;have:=hz2.2 he;rw[ZPt]at hq;omega
    ·exact⟨q,by omega,by omega⟩
   unfold Zuy;have eg:ZPc x y=ZPc x z:=by rw[Nat.gcd_comm x y,←hz3,Nat.gcd_comm]
   rw[eg]
   by_cases hc:z < x
   ·rw[ZAv hc,show decide ((1:Int) > 0)=true from rfl,cond_true,ZD0 x z (by omega) hxl,ZPx,ZH1 k n z (x - z) q' p hz1 hzl (ZPf (ZvB (Nat.sub_le x z)) hxl) hq' (by omega) (by omega),Nat.gcd_sub_self_right (by omega),Nat.gcd_comm]
   ·have hnc:decide (ZEA x z > 0)=false:=by refine decide_eq_false ?_;unfold ZEA;rw[if_neg hc];split<;>decide
    rw[hnc,cond_false,ZD0 z x (by omega) hzl,ZPx,ZH1 k n x (z - x) p q' ho hxl (ZPf (ZvB (Nat.sub_le z x)) hzl) hp (by omega) (by omega),Nat.gcd_sub_self_right (by omega)]
end Go.Proofs
namespace Go.Proofs
open Go Eng
theorem ZLw:∀(n x y j m:Nat),x≠0→y≠0→(wd x).length≤100000→(wd y).length≤100000→x < 2 ^ m→m≤n→j+m≤1000000000→
  ∃x' y' t:Nat,ZqG n (iL (wd x)) (iL (wd y)) (j:Int)=some (iL (wd x'),iL (wd y'),((j+t:Nat):Int))∧(x' % 2=1∨y' % 2=1)∧ZPc x y=2 ^ t*ZPc x' y'∧x'≠0∧y'≠0∧x'≤x∧y'≤y∧t≤m
 |0,x,y,j,m,hx,hy,hxl,hyl,hm,hmn,hj=>by
  have:m=0:=by omega
  subst this;rw[ZPu]at hm;omega
 |n+1,x,y,j,m,hx,hy,hxl,hyl,hm,hmn,hj=>by
  show ∃x' y' t:Nat,Zv6 (ZqG n) _ _ _=_∧_;unfold Zv6 Zuz;rw[ZFj hx,ZPx,ZEh]
  by_cases h1:x % 2=0
  ·rw[decide_eq_true h1,cond_true,ZFj hy,ZPx,ZEh]
   by_cases h2:y % 2=0
   ·cases m with
    |zero=>rw[ZPu]at hm;omega
    |succ m=>
     rw[decide_eq_true h2,cond_true,ZDW x hxl,ZPx,ZDW y hyl,ZPx,ZnI (by omega),chk_true];obtain⟨x',y',t,q1,q2,q3,q4,q5,q6,q7,q8⟩:=ZLw n (x / 2) (y / 2) (j+1) m (by omega) (by omega) (ZPf (ZvB (ZPb x 2)) hxl) (ZPf (ZvB (ZPb y 2)) hyl) (by rw[ZPt]at hm;omega) (by omega) (by omega);refine⟨x',y',t+1, ?_,q2, ?_,q4,q5,by omega,by omega,by omega⟩
     ·rw[show (j:Int)+1=((j+1:Nat):Int)from rfl,q1,show j+1+t=j+(t+1) by omega]
     ·have:=Nat.gcd_mul_left 2 (x / 2) (y / 2);rw[show 2*(x / 2)=x by omega,show 2*(y / 2)=y by omega]at this;rw[this,q3,ZPt,ZPn (2 ^ t) 2,ZPm]
   ·rw[decide_eq_false h2,cond_false];exact⟨x,y,0,rfl,.inr (by omega),by rw[ZPu,ZPp],hx,hy,ZPe _,ZPe _,Nat.zero_le _⟩
  ·rw[decide_eq_false h1,cond_false,cond_false];exact⟨x,y,0,rfl,.inl (by omega),by rw[ZPu,ZPp],hx,hy,ZPe _,ZPe _,Nat.zero_le _⟩
theorem ZLv:∀(k n a:Nat),k < n→k≤1000000000→(wd (2 ^ k*a)).length≤100000→ZqF n (iL (wd a)) (k:Int)=some (iL (wd (2 ^ k*a)))
 |k,0,a,h,_,_=>absurd h (by omega)
 |0,n+1,a,_,_,_=>by show Zq8 (ZqF n) _ _=_;unfold Zq8;rw[ZPu,ZPp];rfl
 |k+1,n+1,a,h,hk,hl=>by
  show Zq8 (ZqF n) _ _=_;unfold Zq8;have e:2 ^ (k+1)*a=2 ^ k*(2*a+0):=by rw[ZPt,ZPm,Nat.add_zero]
  have ha:(wd a).length≤100000:=ZPf (ZvB (Nat.le_mul_of_pos_left a (ZPw _))) hl;rw[e]at hl;have ht:=ZFR a 0 (by omega) ha;rw[Int.natCast_zero]at ht;rw[decide_eq_true (by omega),cond_true,ht,ZPx,show ((k+1:Nat):Int) - 1=(k:Int) by omega,ZnI (by omega),chk_true,ZLv k n (2*a+0) (by omega) (by omega) hl,e]
theorem ZG2 (a b:Nat) (ha0:a≠0) (hb0:b≠0) (ha:(wd a).length≤50000) (hb:(wd b).length≤50000):ZrZ (iL (wd a)) (iL (wd b))=some (iL (wd (ZPc a b))):=by
 have hla:=ZCC ha;have hlb:=ZCC hb;obtain⟨x,y,t,q1,q2,q3,q4,q5,q6,q7,q8⟩:=ZLw big a b 0 (a.log2+1) ha0 hb0 (by omega) (by omega) (ZAQ a) (ZPd (ZEm (by omega))) (by omega);rw[Int.natCast_zero,Nat.zero_add]at q1;have hxl:=ZPf (ZvB q6) ha;have hyl:=ZPf (ZvB q7) hb;have hlx:=ZCC hxl;have hly:=ZCC hyl;have main:Zn7 big (iL (wd x)) (iL (wd y)) (t:Int)=some (iL (wd (ZPc x y)),(t:Int)):=by
  by_cases hx:x % 2=1
  ·exact ZH1 _ big x y _ _ hx (by omega) (by omega) (ZAQ x) (ZAQ y) (ZEm (by omega))
  ·have hy:y % 2=1:=by omega
   obtain⟨z,z1,z2,z3,z4⟩:=ZNy (iL (wd y)) (t:Int) y hy q4 (by omega);have hzl:=ZPf (ZvB z3) hxl;have hlz:=ZCC hzl;have e:=ZH1 (t:Int) big z y _ _ z2 (by omega) (by omega) (ZAQ z) (ZAQ y) (ZEm (by omega));rw[z4]at e;rw[←e];obtain⟨n,hn⟩:∃n,big=n+1:=⟨36893488147419103231,by rw[big_eq]⟩;have s1:∀u,Zn7 big (iL (wd u)) (iL (wd y)) (t:Int)=Zra (Zn7 n) (iL (wd u)) (iL (wd y)) (t:Int):=fun u=>by rw[hn];rfl
   rw[s1,s1];unfold Zra;have hl:=Zuk q5;rw[Zn3,decide_eq_true (by omega),cond_true,cond_true,z1,ZIx _ _ z2]
 have hg:(wd (2 ^ t*ZPc x y)).length≤100000:=by rw[←q3];exact ZPf (ZGA (by omega) hb) (by omega)
 unfold ZrZ;rw[q1,ZPx];dsimp only;unfold Zxa Zw7 Zw6;rw[main,ZPx];dsimp only;rw[ZLv t big _ (ZEm (by omega)) (by omega) hg,ZPx,q3]
end Go.Proofs
namespace Go.Proofs
open Go Eng
theorem ZG8 {l:List Nat} {i:Nat} (hd:Dg l) (h:i / 32 < l.length):l[i / 32] / 2 ^ (i % 32) % 2=val l / 2 ^ i % 2:=by
 have e:=ZBL h;have hlt:=ZzF (hd.take (i / 32));rw[ZO2,ZPj (by omega)]at hlt;have hi:2 ^ i=Bw ^ (i / 32)*2 ^ (i % 32):=by rw[show Bw=2 ^ 32 from rfl,←Nat.pow_mul,←ZPr,ZO9]
 have hr:i % 32 < 32:=ZPk _ (by decide);have hB:Bw=2 ^ (i % 32)*(2*2 ^ (31 - i % 32)):=by rw[show 2*2 ^ (31 - i % 32)=2 ^ (31 - i % 32+1) by rw[ZPt,ZPn],←ZPr,show i % 32+(31 - i % 32+1)=32 by omega]
 have e1:val l / Bw ^ (i / 32)=l[i / 32]+Bw*val (l.drop (i / 32+1)):=by rw[e,ZO7 _ _ (Nat.pow_pos (by decide)),ZPa hlt,Nat.zero_add]
 rw[hi,←Nat.div_div_eq_div_mul,e1];generalize l[i / 32]=x;generalize val (l.drop (i / 32+1))=y;have e2:(x+Bw*y) / 2 ^ (i % 32)=x / 2 ^ (i % 32)+2*(2 ^ (31 - i % 32)*y):=by rw[hB,ZPm,ZO7 _ _ (ZPw _),ZPm]
 rw[e2,ZO8]
end Go.Proofs
namespace Go.Proofs
open Go Eng
theorem ZIo (i:Nat):Int.tdiv (i:Int) 32=((i / 32:Nat):Int):=by rw[Int.tdiv_eq_ediv_of_nonneg (by omega)];norm_cast
theorem ZIn (i:Nat):IntKind.wrap .u64 (Int.tmod (i:Int) 32)=((i % 32:Nat):Int):=by rw[Int.tmod_eq_emod_of_nonneg (by omega),IntKind.wrap_u64];omega
theorem ZL0 {l:List Nat} {i:Nat} (hd:Dg l) (h:i / 32 < l.length) (hi:i≤1000000000):Zt6 (iL l) (i:Int)=some ((val l / 2 ^ i % 2:Nat):Int):=by have h1:=hd.get h;unfold Zt6;rw[ZIo,ZIn,decide_eq_true (by decide),chk_true,ZnI (by omega),chk_true,ZwY h,ZPx,chk_true,decide_eq_true (by omega),chk_true,ZDh _ (by omega),show (1:Int)=((1:Nat):Int)from rfl,ZE3 (ZPg (ZPb _ _) h1) (by decide),Nat.and_one_is_mod,ZG8 hd h]
end Go.Proofs
namespace Go.Proofs
open Go Eng
theorem ZIt {x j:Nat} (h:x / 2 ^ j % 2=0):x|||2 ^ j=x+2 ^ j:=by
 have hlo:=ZPk x (ZPw j);have e:x=2 ^ (j+1)*(x / 2 ^ j / 2)+x % 2 ^ j:=by
  have h1:=ZO9 x (2 ^ j);have h2:2*(x / 2 ^ j / 2)=x / 2 ^ j:=by omega
  rw[ZPt,ZPm,h2,h1]
 have a1:=ZPv (i:=j+1) (b:=x % 2 ^ j) (by rw[ZPt];omega) (x / 2 ^ j / 2);have a2:=ZPv (i:=j) (b:=x % 2 ^ j) hlo 1;have a3:=ZPv (i:=j+1) (b:=2 ^ j*1+x % 2 ^ j) (by rw[ZPt];omega) (x / 2 ^ j / 2);rw[Nat.mul_one]at a2 a3;generalize x / 2 ^ j / 2=t at*
 generalize x % 2 ^ j=lo at*
 rw[e,a1,Nat.or_assoc,Nat.or_comm lo,←a2,←a3,←a1];omega
theorem ZJb {j:Nat} (hj:j≤31):shlK .u32 1 (j:Int)=((2 ^ j:Nat):Int):=by have:=ZFF (a:=1) j (by omega);rw[ZPp,Nat.mod_eq_of_lt (ZPg (ZPs (by decide) hj) (by decide))]at this;exact this
theorem ZGZ {A k:Nat}:A / 2 ^ k=2*(A / 2 ^ (k+1))+A / 2 ^ k % 2:=by rw[ZPt,←Nat.div_div_eq_div_mul];omega
theorem ZG4 (a b:Nat) (hb0:b≠0) (ha:(wd a).length≤50000) (hb:(wd b).length≤50000):Zr0 (iL (wd a)) (iL (wd b))=some (iL (wd (a / b)),iL (wd (a % b))):=by
 have hlen:∀k,(wd (2*(a / 2 ^ (k+1) % b)+a / 2 ^ k % 2)).length≤50001:=fun k=>by
  have h1:=ZPk (a / 2 ^ (k+1)) (ZPq hb0);have h2:2*(a / 2 ^ (k+1) % b)+a / 2 ^ k % 2≤b+b:=by omega
  exact ZPf (ZvB h2) (ZE7 hb hb)
 refine ZrY ?_;unfold Zr0;rw[ZnH,ZnH,ZnH,ZnE,Zn3,ZOQ,ZEd];refine⟨ZCB (by omega),ZnI (by omega),ZnI (by omega), ?_⟩;have e0:(32*((wd a).length:Int)) - 1=((32*(wd a).length:Nat):Int) - 1:=by omega
 rw[e0,show ([]:List Int)=iL (wd 0) by rw[Zw0];rfl];refine ZnM (ZDz ZBA (32*(wd a).length) (by omega) (fun i (q:Nat×List Nat)=>(iL (wd a),iL (wd b),iL (wd q.1),i,iL q.2))
  (fun k q=>q.1=a / 2 ^ k % b∧Dg q.2∧q.2.length=(wd a).length∧val q.2=a / 2 ^ k / b*2 ^ k)
  (Q:=fun y=>∃o:List Nat,y=(iL (wd (a % b)),iL o)∧Dg o∧o.length=(wd a).length∧val o=a / b) (0,List.replicate (wd a).length 0) ?_ ?_ ?_) ?_
 ·have h0:a / 2 ^ (32*(wd a).length)=0:=by refine ZPa ?_;rw[Nat.pow_mul];exact ZyO a
  rw[h0,Nat.zero_mod,Nat.zero_div,Nat.zero_mul];exact⟨rfl,ZG6 _,List.length_replicate,ZFC _⟩
 ·rintro rec k ⟨r,q⟩ hk ⟨hr,hd,hl,hv⟩ ih;dsimp only at hr hd hl hv;have hk32:k / 32 < (wd a).length:=by omega
  unfold Zv7 Ztg;dsimp only;have hbit:=ZL0 (i:=k) (Zx9 a) hk32 (by omega);rw[ZtJ]at hbit;have h2:a / 2 ^ k % 2≤1:=by omega
  have htw:=ZFR r (a / 2 ^ k % 2) h2 (by
   rw[hr];exact ZPf (ZvB (ZPd (ZPk _ (ZPq hb0)))) (by omega))
  have hlk:=hlen k;rw[←hr]at hlk;have hx:=ZGZ (A:=a) (k:=k);have hdm:=ZO9 (a / 2 ^ (k+1)) b;rw[←hr]at hdm;have hrlt:r < b:=by rw[hr];exact ZPk _ (ZPq hb0)
  rw[ZnV];refine⟨fun _=> ?_,fun h=>by have:=of_decide_eq_false h;omega⟩;rw[hbit,ZnE,ZnD,htw,ZnE,ZnD,ZEl _ _ (by omega) (by omega),ZnE,ZnD,ZnV];have nx:∀r' q',(r'=a / 2 ^ k % b∧Dg q'∧q'.length=(wd a).length∧val q'=a / 2 ^ k / b*2 ^ k)→wp (Zsg (fun a b r_ i q=>rec (a,b,r_,i,q)) (iL (wd a)) (iL (wd b)) (iL (wd r')) (k:Int) (iL q')) (fun y=>∃o:List Nat,y=(iL (wd (a % b)),iL o)∧Dg o∧o.length=(wd a).length∧val o=a / b):=fun r' q' h=>by unfold Zsg;rw[ZnH];exact⟨ZnI (by omega),ih (r',q') h⟩
  generalize eX:a / 2 ^ (k+1)=X at*
  generalize ed:a / 2 ^ k % 2=d at*
  refine⟨fun hc=> ?_,fun hc=> ?_⟩
  ·have hge:b≤2*r+d:=by
    rcases ZPi (2*r+d) b with h |h
    ·rw[ZAP h]at hc;exact absurd (of_decide_eq_true hc) (by decide)
    ·exact h
   have hq:k / 32 < q.length:=by omega
   have hz:q[k / 32] / 2 ^ (k % 32) % 2=0:=by rw[ZG8 hd hq,hv,ZPt,←ZPm,Nat.mul_right_comm,Nat.mul_div_cancel _ (ZPw k)];omega
   have hx32:=hd.get hq;rw[ZD0 _ _ hge (by omega),ZnE,ZnD,ZIo,ZIn,ZOQ,ZnH,ZnH,ZnH,ZCZ hq,ZnE,ZnD,ZnH,ZnH,ZnH,ZJb (by omega),ZFg hx32 (ZPg (ZPs (by decide) (show k % 32≤31 by omega)) (by decide)),ZIt hz,ZB8,Zn3];refine⟨by decide,ZnI (by omega),Zo3 ⟨by omega,by omega⟩,by decide,decide_eq_true (by omega),Zo3 ⟨by omega,by omega⟩, ?_⟩;have hsum:q[k / 32]+2 ^ (k % 32) < Bw:=by
    have hB:Bw=2 ^ (k % 32)*(2*2 ^ (31 - k % 32)):=by rw[show 2*2 ^ (31 - k % 32)=2 ^ (31 - k % 32+1) by rw[ZPt,ZPn],←ZPr,show k % 32+(31 - k % 32+1)=32 by omega]
    rw[←ZIt hz];exact Nat.or_lt_two_pow (n:=32) hx32 (ZPg (ZPs (by decide) (show k % 32≤31 by omega)) (by decide))
   refine nx (2*r+d - b) (q.set (k / 32) (q[k / 32]+2 ^ (k % 32))) ⟨?_,hd.set _ hsum,by rw[ZO0,hl], ?_⟩
   ·rw[hx,show 2*X+d=(2*r+d - b)+b*(2*(X / b)+1) by rw[ZPl,ZPo];omega,ZO8,Nat.mod_eq_of_lt (by omega)]
   ·have hvs:=ZCb q (k / 32) (q[k / 32]+2 ^ (k % 32)) hq;have hp:Bw ^ (k / 32)*2 ^ (k % 32)=2 ^ k:=by rw[show Bw=2 ^ 32 from rfl,←Nat.pow_mul,←ZPr,ZO9]
    rw[ZPl,hp]at hvs;have e1:(2*X+d) / b=2*(X / b)+1:=by rw[show 2*X+d=(2*r+d - b)+b*(2*(X / b)+1) by rw[ZPl,ZPo];omega,ZO7 _ _ (ZPq hb0),ZPa (by omega),Nat.zero_add]
    rw[hx,e1];rw[hv,ZPt]at hvs;have e2:X / b*(2 ^ k*2)=2*(X / b)*2 ^ k:=by rw[ZPn (2 ^ k) 2,←ZPm,ZPn (X / b) 2]
    rw[Nat.add_mul,ZPp];omega
  ·have hlt:2*r+d < b:=by
    rcases ZPi (2*r+d) b with h |h
    ·exact h
    ·rcases ZPi b (2*r+d)with h' |h'
     ·rw[ZAv h']at hc;exact absurd (of_decide_eq_false hc) (by decide)
     ·rw[show 2*r+d=b by omega,Zzm]at hc;exact absurd (of_decide_eq_false hc) (by decide)
   have e0:2*X+d=(2*r+d)+b*(2*(X / b)):=by rw[ZPo];omega
   refine nx (2*r+d) q ⟨?_,hd,hl, ?_⟩
   ·rw[hx,e0,ZO8,Nat.mod_eq_of_lt hlt]
   ·rw[hx,e0,ZO7 _ _ (ZPq hb0),ZPa hlt,Nat.zero_add,hv,ZPt,ZPn (2 ^ k) 2,←ZPm,ZPn (X / b) 2]
 ·rintro rec ⟨r,q⟩ ⟨hr,hd,hl,hv⟩;dsimp only at hr hd hl hv;rw[ZPu,Nat.div_one]at hr hv;unfold Zv7 Ztg;dsimp only;rw[ZnV];refine⟨fun h=>by have:=of_decide_eq_true h;omega,fun _=> ?_⟩;rw[ZnD,hr];exact⟨q,rfl,hd,hl,by rw[hv,Nat.mul_one]⟩
 ·rintro y ⟨o,rfl,hd,hl,hv⟩;dsimp only;unfold Zxb;rw[ZC8 hd (by omega),ZnE,ZnD,ZnD,hv]
end Go.Proofs
namespace Go.Proofs
open Go Eng
theorem ZGr (n:Int):Rat.divInt n 1=(n:Rat):=by have h:=Rat.num_divInt_den (n:Rat);rw[Rat.num_intCast,Rat.den_intCast]at h;exact h
end Go.Proofs
namespace Go.Proofs
open Go Eng
theorem ZDl (z:Int) (h1: -9223372036854775808≤z) (h2:z≤9223372036854775807):Zpr z=some (bg z):=by
 have key:∀(b:Bool) (n:Nat),n < 18446744073709551616→Zn4 b [IntKind.wrap .u32 (n:Int),IntKind.wrap .u32 (shrK .u64 (n:Int) 32)]=some (bg (if b then -(n:Int)else n)):=fun b n h=>by
  have e:([IntKind.wrap .u32 (n:Int),IntKind.wrap .u32 (shrK .u64 (n:Int) 32)]:List Int)=iL [n % 4294967296,n / 4294967296]:=by rw[show (32:Int)=((32:Nat):Int)from rfl,ZCs 32 (by omega),ZxA,Zx8 (by omega)];rfl
  have hd:Dg [n % 4294967296,n / 4294967296]:=fun d hd=>by
   simp only[ZO3,List.mem_singleton,List.not_mem_nil,or_false]at hd;rcases hd with rfl |rfl
   ·exact ZPk _ (by decide)
   ·simp only[Bw];omega
  have hv:val [n % 4294967296,n / 4294967296]=n:=by simp only[val,Nat.mul_zero,Nat.add_zero];exact Nat.mod_add_div n Bw
  rw[e,ZC7 b hd (by simp),hv]
 unfold Zpr ZsC;have h32:decide (0≤(32:Int))=true:=rfl
 by_cases hz:z < 0
 ·have e:IntKind.wrap .u64 (0 - IntKind.wrap .u64 z)=((z.natAbs:Nat):Int):=by rw[IntKind.wrap_u64,IntKind.wrap_u64];omega
  rw[decide_eq_true hz,cond_true,h32,chk_true,e,key true _ (by omega),ZPx,if_pos rfl,show -((z.natAbs:Nat):Int)=z by omega]
 ·have e:IntKind.wrap .u64 z=((z.natAbs:Nat):Int):=by rw[IntKind.wrap_u64];omega
  rw[decide_eq_false hz,cond_false,h32,chk_true,e,key false _ (by omega),ZPx,if_neg (by decide),show ((z.natAbs:Nat):Int)=z by omega]
theorem ZJN:bg 0=⟨false,[]⟩:=by unfold bg;rw[show (0:Int).natAbs=0 from rfl,Zw0];rfl
theorem ZEB (x y:Int) (hy:y≠0) (hx1:Wl 50000 x) (hy1:Wl 50000 y):ZqE (bg x) (bg y)=some (fOf (Rat.divInt x y)):=by
 unfold ZqE
 by_cases hx:x=0
 ·subst hx;rw[Rat.zero_divInt,ZpN,Zn3,show (0:Int).natAbs=0 from rfl,Zw0,ZDl 1 (by decide) (by decide)];show some (ZnC.mk ⟨false,[]⟩ (bg 1))=some (fOf 0);rw[←ZJN];rfl
 ·have hx0:0 < x.natAbs:=by omega
  have hy0:0 < y.natAbs:=by omega
  have hg0:ZPc x.natAbs y.natAbs≠0:=fun e=>by have:=Nat.gcd_pos_of_pos_right x.natAbs hy0;omega
  have hgl:=ZGA (x:=x.natAbs) hy0 hy1;have hxl:=ZFP (ZPc x.natAbs y.natAbs) hx1;have hyl:=ZFP (ZPc x.natAbs y.natAbs) hy1;have h:=ZC9 x y hy hx1 hy1;unfold ZrW at h;rw[ZpN,ZpN,ZEk _ _ hx1 hy1,ZPx,ZDE _ _ hg0 hx1 hgl,ZPx]at h;dsimp only at h;rw[ZDE _ _ hg0 hy1 hgl,ZPx]at h;dsimp only at h;rw[Zya _ _ (by omega),ZPx,Zya _ _ (by omega),ZPx]at h;have hlen:=Zuk (n:=x.natAbs) (by omega);rw[←h,ZpN,ZpN,Zn3,beq_eq_false_iff_ne.2 (by omega),cond_false,ZG2 _ _ (by omega) (by omega) hx1 hy1,ZPx,ZG4 _ _ hg0 hx1 hgl,ZPx];dsimp only;rw[ZG4 _ _ hg0 hy1 hgl,ZPx];dsimp only;rw[ZC7 _ (Zx9 _) (by omega),ZPx,ZC7 _ (Zx9 _) (by omega),ZPx,ZtJ,ZtJ]
theorem ZHU (x y:Int) (hy:y≠0) (hx1:Wl 256 x) (hy1:Wl 256 y):Ztj (bg x) (bg y)=some (fOf (Rat.divInt x y),0):=by unfold Ztj ZtW;rw[ZAR,ZBK x hx1,ZPx,ZLj,cond_false,ZAR,ZBK y hy1,ZPx,ZLj,cond_false,ZDA hy,cond_false,ZEB x y hy (ZPf hx1 (by decide)) (ZPf hy1 (by decide)),ZPx]
theorem ZLp (x y:Int) (hy:y≠0) (h1: -9223372036854775808≤x) (h2:x≤9223372036854775807) (h3: -9223372036854775808≤y) (h4:y≤9223372036854775807):ZuP x y=some (fOf (Rat.divInt x y),0):=by unfold ZuP;rw[ZDl x h1 h2,ZPx,ZDl y h3 h4,ZPx,ZHU x y hy (ZMZ h1 h2) (ZMZ h3 h4),ZPx]
theorem ZGO (x y:Int) (hy:y≠0) (h1: -9223372036854775808≤x) (h2:x≤9223372036854775807) (h3: -9223372036854775808≤y) (h4:y≤9223372036854775807):Zqk x y=some (fOf (Rat.divInt x y)):=by unfold Zqk;rw[ZLp x y hy h1 h2 h3 h4,ZPx]
theorem ZDV (x:Int) (h1: -9223372036854775808≤x) (h2:x≤9223372036854775807):ZnR x=some (fOf (x:Rat)):=by unfold ZnR;rw[ZCi];unfold Zyq;rw[ZGO x 1 (by decide) h1 h2 (by decide) (by decide),ZPx,ZGr]
theorem ZKZ {a b:Nat} (h:wd a=wd b):a=b:=by rw[←ZtJ a,←ZtJ b,h]
theorem ZEx (x y:Int) (hx:Wl 100000 x) (hy:Wl 100000 y):Zqi (bg x) (bg y)=some (decide (x=y)):=by
 unfold Wl at hx hy;refine ZrY ?_;unfold Zqi Zsx;rw[ZAw,ZAw,ZpN,ZpN,Zn3,Zn3]
 by_cases hs:decide (x < 0)=decide (y < 0)
 ·rw[hs,beq_self_eq_true,ZLj,cond_false]
  by_cases hl:(wd x.natAbs).length=(wd y.natAbs).length
  ·rw[hl,bne_self_eq_false,cond_false,ZnE];refine ZnM (Zwo ZAx (wd y.natAbs).length (by omega) (fun i (_:Unit)=>(iL (wd x.natAbs),((wd y.natAbs).length:Int),i,bg y)) (fun i _=>(wd x.natAbs).take i=(wd y.natAbs).take i)
    (Q:=fun r=>r= .ret false∧wd x.natAbs≠wd y.natAbs∨r= .brk ()∧wd x.natAbs=wd y.natAbs) () (by rw[List.take_zero,List.take_zero]) ?_ ?_) ?_
   ·rintro rec i ⟨⟩ hi hP ih;have hi2:i < (wd x.natAbs).length:=by omega
    unfold Zul Zrh;dsimp only;rw[ZnV];refine⟨fun _=> ?_,fun h=>by have:=of_decide_eq_false h;omega⟩;rw[ZpN,ZwY hi2,ZnE,ZnD,ZwY hi,ZnE,ZnD,ZnV];refine⟨fun h=> ?_,fun h=> ?_⟩
    ·rw[ZnD];refine .inl ⟨rfl,fun e=> ?_⟩;have h1:(wd y.natAbs)[i]=(wd x.natAbs)[i]:=by simp only[e]
     rw[h1,bne_self_eq_false]at h;exact absurd h (by decide)
    ·rw[ZnH];refine⟨ZnI (by omega),ih () ?_⟩;rw[bne_eq_false_iff_eq]at h;have h1:(wd y.natAbs)[i]=(wd x.natAbs)[i]:=by omega
     rw[ZO6 hi2,ZO6 hi,hP,h1]
   ·rintro rec ⟨⟩ hP;unfold Zul Zrh;dsimp only;rw[ZnV];refine⟨fun h=>by have:=of_decide_eq_true h;omega,fun _=> ?_⟩;rw[ZnD];rw[ZO4,←hl,ZO4]at hP;exact .inr ⟨rfl,hP⟩
   ·rintro r (⟨rfl,h⟩ |⟨rfl,h⟩)
    ·exact ZnD.2 (decide_eq_false (fun e=>h (by rw[e]))).symm
    ·unfold Zvd;have h1:=ZKZ h;refine ZnD.2 (decide_eq_true ?_).symm
     by_cases hy0:y < 0
     ·have hx0:x < 0:=by rw[decide_eq_true hy0]at hs;exact of_decide_eq_true hs
      omega
     ·have hx0:¬x < 0:=by rw[decide_eq_false hy0]at hs;exact of_decide_eq_false hs
      omega
  ·have:(((wd x.natAbs).length:Int) != ((wd y.natAbs).length:Int))=true:=by rw[bne_iff_ne];omega
   rw[this,cond_true,ZnD];exact(decide_eq_false (fun e=>hl (by rw[e]))).symm
 ·rw[beq_eq_false_iff_ne.2 hs,Bool.not_false,cond_true,cond_true,ZnD];exact(decide_eq_false (fun e=>hs (by rw[e]))).symm
theorem ZD1 (p q:Rat) (hp:Wq 256 p) (hq:Wq 256 q):ZoD (fOf p) (fOf q)=some (decide (p=q)):=by
 have m:∀{x:Int},Wl 256 x→Wl 100000 x:=fun h=>ZPf h (by decide)
 unfold ZoD ZtU fOf;dsimp only;rw[ZEx _ _ (m hp.1) (m hq.1),ZPx]
 by_cases h1:p.num=q.num
 ·rw[decide_eq_true h1,cond_true,ZEx _ _ (m hp.2) (m hq.2),ZPx];congr 1
  by_cases h2:p.den=q.den
  ·rw[decide_eq_true (by omega),decide_eq_true (Rat.ext h1 h2)]
  ·rw[decide_eq_false (by omega),decide_eq_false (fun e=>h2 (by rw[e]))]
 ·rw[decide_eq_false h1,cond_false,decide_eq_false (fun e=>h1 (by rw[e]))]
end Go.Proofs
namespace Go.Proofs
open Go Eng
theorem ZJq (a b:Nat) (ha:(wd a).length≤100000) (hb:(wd b).length≤100000):Zt5 (iL (wd a)) (iL (wd b))=some (iL (wd (a*b))):=by
 refine ZrY ?_;unfold Zt5;rw[Zn3,Zn3,ZnH,ZnH,ZnE,←ZOO,ZOQ,ZEd];refine⟨ZnI (by omega),ZCB (by omega), ?_⟩;generalize hm:(wd a).length=m at ha⊢
 generalize hn:(wd b).length=n at hb⊢
 refine ZnM (Zwo ZBz m (by omega) (fun i (s:List Nat)=>(iL (wd a),iL (wd b),i,iL s)) (fun i s=>s.length=m+n∧Dg s∧val s=val ((wd a).take i)*b∧∀k,i+n≤k→k < m+n→s[k]? =some 0)
  (Q:=fun y=>∃(o:List Nat),y=iL o∧Dg o∧o.length=m+n∧val o=a*b) (List.replicate (m+n) 0) ⟨by simp,ZG6 _,by rw[ZFC];simp[val],fun k _ h=>by rw[List.getElem?_replicate,if_pos h]⟩ ?_ ?_) ?_
 ·rintro rec i s hlt ⟨hl,hd,hv,hz⟩ ih;have hi:i < (wd a).length:=by omega
  have h1:=(Zx9 a).get hi;unfold Zv4 Ztf;dsimp only;rw[ZnV,Zn3,hm];refine⟨fun _=> ?_,fun h=>by simp only[decide_eq_false_iff_not]at h;omega⟩;rw[ZnE];generalize ex:(wd a)[i]=x at h1;refine ZnM (Zwo ZBy n (by omega) (fun j (t:Nat×List Nat)=>(iL (wd a),iL (wd b),(i:Int),(t.1:Int),j,iL t.2)) (fun j t=>t.1 < Bw∧t.2.length=m+n∧Dg t.2∧val t.2+Bw ^ (i+j)*t.1=val s+Bw ^ i*(x*val ((wd b).take j))∧∀k,i+n≤k→k < m+n→t.2[k]? =some 0)
   (Q:=fun y=>∃(c:Nat) (o:List Nat),y=(iL (wd a),iL (wd b),(i:Int),(c:Int),iL o)∧c < Bw∧o.length=m+n∧Dg o∧val o+Bw ^ (i+n)*c=val s+Bw ^ i*(x*b)∧∀k,i+n≤k→k < m+n→o[k]? =some 0) (0,s) ⟨by simp only[Bw];omega,hl,hd,by simp[val],hz⟩ ?_ ?_) ?_
  ·rintro rec2 j ⟨c,o⟩ hj ⟨hc,hol,hod,hov,hoz⟩ ih2;dsimp only at hc hol hod hov hoz ih2;have hj2:j < (wd b).length:=by omega
   have h2:=(Zx9 b).get hj2;have hij:i+j < o.length:=by omega
   have h3:=hod.get hij;unfold Zv3 Zte;dsimp only;rw[ZnV,Zn3,hn];refine⟨fun _=> ?_,fun h=>by simp only[decide_eq_false_iff_not]at h;omega⟩;rw[ZwY hi,ex,ZnE,ZnD,ZwY hj2,ZnE,ZnD,ZnH,ZnH,←ZOO,ZOQ,ZCZ hij,ZnE,ZnD,ZnH,ZnH,ZnH,ZnH];generalize ey:(wd b)[j]=y at h2;generalize ee:o[i+j]=e at h3;rw[ZLs hc h1 h2 h3,ZxA,show (32:Int)=((32:Nat):Int)from rfl,ZCs 32 (by omega),Zn3,ZB8];refine⟨ZnI (by omega),Zo3 ⟨by omega,by omega⟩,ZnI (by omega),Zo3 ⟨by omega,by omega⟩,by decide,ZnI (by omega), ?_⟩;refine ih2 ((c+x*y+e) / Bw,o.set (i+j) ((c+x*y+e) % Bw)) ⟨ZIw hc h1 h2 h3,by simp[hol],hod.set _ (ZPk _ (by decide)), ?_,fun k hk hk2=> ?_⟩
   ·dsimp only;have q1:=ZCb o (i+j) ((c+x*y+e) % Bw) hij;rw[ee]at q1;have q2:Bw ^ (i+j)*((c+x*y+e) % Bw+Bw*((c+x*y+e) / Bw))=Bw ^ (i+j)*(c+x*y+e):=by rw[Nat.mod_add_div]
    rw[ZPl,ZPl,ZPl]at q2;rw[←Nat.add_assoc,ZPt,ZPm,ZoL hj2,ey,ZPl,ZPl];have q3:Bw ^ i*(x*(Bw ^ j*y))=Bw ^ (i+j)*(x*y):=by rw[ZPr,ZPm,ZPo x]
    omega
   ·dsimp only;rw[List.getElem?_set_ne (by omega)];exact hoz k hk hk2
  ·rintro rec2 ⟨c,o⟩ ⟨hc,hol,hod,hov,hoz⟩;dsimp only at hc hol hod hov hoz;unfold Zv3 Zte;dsimp only;rw[ZnV,Zn3,hn];refine⟨fun h=>by have:=of_decide_eq_true h;omega,fun _=> ?_⟩;rw[ZnD];rw[ZO5 (by omega),ZtJ]at hov;exact⟨c,o,rfl,hc,hol,hod,hov,hoz⟩
  ·rintro y ⟨c,o,rfl,hc,hol,hod,hov,hoz⟩;dsimp only;unfold Zw5;rw[Zn3,hn,ZnH,ZnH,ZnH,←ZOO,ZOQ,Zx8 hc,ZB8,Zn3];refine⟨ZnI (by omega),Zo3 ⟨by omega,by omega⟩,ZnI (by omega), ?_⟩;have hp:i+n < o.length:=by omega
   have h0:o[i+n]=0:=by have:=hoz (i+n) (ZPe _) (by omega);rw[ZOT hp]at this;exact Option.some.inj this
   have q1:=ZCb o (i+n) c hp;rw[h0,Nat.mul_zero,Nat.add_zero]at q1;refine ih (o.set (i+n) c) ⟨by simp[hol],hod.set _ hc, ?_,fun k hk hk2=> ?_⟩
   ·rw[q1,hov,hv,ZoL hi,ex,Nat.add_mul,ZPm]
   ·rw[List.getElem?_set_ne (by omega)];exact hoz k (by omega) hk2
 ·rintro rec s ⟨hl,hd,hv,hz⟩;unfold Zv4 Ztf;dsimp only;rw[ZnV,Zn3,hm];refine⟨fun h=>by have:=of_decide_eq_true h;omega,fun _=> ?_⟩;rw[ZnD];rw[ZO5 (by omega),ZtJ]at hv;exact⟨s,rfl,hd,hl,hv⟩
 ·rintro y ⟨o,rfl,hd,hl,hv⟩;unfold Zw4;rw[ZC8 hd (by omega),ZnE,ZnD,ZnD,hv]
theorem ZJQ (a b:Nat) (ha:(wd a).length≤100000) (hb:(wd b).length≤100000):∃o:List Nat,Zr1 (iL (wd a)) (iL (wd b))=some (iL o)∧Dg o∧o.length≤100001∧val o=a+b:=by
 obtain⟨m,hma,hmb,hm2,hmx⟩:∃m:Nat,(wd a).length≤m∧(wd b).length≤m∧m≤100000∧∀i,i < m→i < (wd a).length∨i < (wd b).length:=by
  by_cases h:(wd a).length≤(wd b).length
  ·exact⟨(wd b).length,h,ZPe _,hb,fun i hi=> .inr hi⟩
  ·exact⟨(wd a).length,ZPe _,by omega,ha,fun i hi=> .inl hi⟩
 suffices h:wp (Zr1 (iL (wd a)) (iL (wd b))) (fun x=>∃o:List Nat,x=iL o∧Dg o∧o.length≤100001∧val o=a+b) by obtain⟨x,hx,o,rfl,h⟩:=h;exact⟨o,hx,h⟩
 unfold Zr1;rw[ZnE];refine ZnM (Zwo ZBC m (by omega) (fun i (s:Nat×List Nat)=>(iL (wd a),iL (wd b),(s.1:Int),i,iL s.2)) (fun i s=>s.1≤1∧s.2.length=i∧Dg s.2∧val s.2+Bw ^ i*s.1=val ((wd a).take i)+val ((wd b).take i))
  (Q:=fun y=>∃(c:Nat) (o:List Nat),y=((c:Int),iL o)∧c≤1∧Dg o∧o.length=m∧val o+Bw ^ m*c=a+b) (0,[]) ⟨by simp,rfl,ZC3,by simp[val]⟩ ?_ ?_) ?_
 ·rintro rec i ⟨c,o⟩ hlt ⟨hc,hl,hd,hv⟩ ih;dsimp only at hc hl hd hv ih;have h1:=ZDk (Zx9 a) i;have h2:=ZDk (Zx9 b) i;have j3:∀x y:Nat,(wd a).getD i 0=x→(wd b).getD i 0=y→wp (Zsh (fun a b c i out=>rec (a,b,c,i,out)) (iL (wd a)) (iL (wd b)) ((c+x+y:Nat):Int) (i:Int) (iL o)) (fun y=>∃(c:Nat) (o:List Nat),y=((c:Int),iL o)∧c≤1∧Dg o∧o.length=m∧val o+Bw ^ m*c=a+b):=fun x y ex ey=>by
   rw[ex]at h1;rw[ey]at h2;unfold Zsh;rw[ZnH,ZnH,ZnH,ZxA,show (32:Int)=((32:Nat):Int)from rfl,ZCs 32 (by omega),Zn3];refine⟨Zvm (by simp only[ZO1];omega),by decide,ZnI (by omega), ?_⟩;have:=ih ((c+x+y) / Bw,o++[(c+x+y) % Bw]) ⟨by simp only[Bw]at h1 h2⊢;omega,by simp[hl],hd.app (ZCn (ZPk _ (by decide))), ?_⟩
   ·rw[ZEe]at this;exact this
   ·dsimp only;rw[Zyv,hl,ZPt,Zzo,Zzo,ex,ey,Nat.add_assoc,ZPm,←ZPl,Nat.mod_add_div,ZPl,ZPl];omega
  have j2:∀x:Nat,(wd a).getD i 0=x→wp (Zsi (fun a b c i out=>rec (a,b,c,i,out)) (iL (wd a)) (iL (wd b)) ((c+x:Nat):Int) (i:Int) (iL o)) (fun y=>∃(c:Nat) (o:List Nat),y=((c:Int),iL o)∧c≤1∧Dg o∧o.length=m∧val o+Bw ^ m*c=a+b):=fun x ex=>by
   have hx:=h1;rw[ex]at hx;unfold Zsi;rw[Zn3,ZnV];refine⟨fun h=> ?_,fun h=> ?_⟩
   ·have hib:i < (wd b).length:=by have:=of_decide_eq_true h;omega
    have ey:(wd b).getD i 0=(wd b)[i]:=by rw[ZOS,ZOT hib];rfl
    have hy:=(Zx9 b).get hib;rw[ZwY hib,ZnE,ZnD,ZoU (by simp only[Bw]at hy;omega),←ZOO,ZoU (by simp only[Bw]at hx hy;omega)];exact j3 x _ ex ey
   ·have hib:¬i < (wd b).length:=by have:=of_decide_eq_false h;omega
    exact j3 x 0 ex (by rw[ZOS,ZOU (by omega)];rfl)
  have j1:wp (ZqH (fun a b c i out=>rec (a,b,c,i,out)) (iL (wd a)) (iL (wd b)) (c:Int) (i:Int) true (iL o)) (fun y=>∃(c:Nat) (o:List Nat),y=((c:Int),iL o)∧c≤1∧Dg o∧o.length=m∧val o+Bw ^ m*c=a+b):=by
   unfold ZqH;rw[cond_true,Zn3,ZnV];refine⟨fun h=> ?_,fun h=> ?_⟩
   ·have hib:i < (wd a).length:=by have:=of_decide_eq_true h;omega
    have ey:(wd a).getD i 0=(wd a)[i]:=by rw[ZOS,ZOT hib];rfl
    have hy:=(Zx9 a).get hib;rw[ZwY hib,ZnE,ZnD,ZoU (by simp only[Bw]at hy;omega),←ZOO,ZoU (by simp only[Bw]at hy;omega)];exact j2 _ ey
   ·have hib:¬i < (wd a).length:=by have:=of_decide_eq_false h;omega
    exact j2 0 (by rw[ZOS,ZOU (by omega)];rfl)
  unfold Zv9 Zti;dsimp only;rw[Zn3,Zn3,ZnV];refine⟨fun _=>j1,fun h=> ?_⟩;have hib:¬i < (wd a).length:=by have:=of_decide_eq_false h;omega
  rw[decide_eq_true (by rcases hmx i hlt with h |h<;>omega)];exact j1
 ·rintro rec ⟨c,o⟩ ⟨hc,hl,hd,hv⟩;dsimp only at hc hl hd hv;unfold Zv9 Zti;dsimp only;rw[Zn3,Zn3,decide_eq_false (by omega),cond_false,decide_eq_false (by omega)];unfold ZqH;rw[cond_false,ZnD];rw[ZO5 hma,ZO5 hmb,ZtJ,ZtJ]at hv;exact⟨c,o,rfl,hc,hd,hl,hv⟩
 ·rintro y ⟨c,o,rfl,hc,hd,hl,hv⟩;dsimp only;unfold Zxd;have e:iL o++[(c:Int)]=iL (o++[c]):=by rw[ZEe];rfl
  rw[Zx8 (by omega),ZnH,Zn3,e,ZnD];exact⟨Zvm (by simp only[ZO1];omega),_,rfl,hd.app (ZCn (by unfold Bw;omega)),by simp;omega,by rw[Zyv,hl,hv]⟩
end Go.Proofs
namespace Go.Proofs
open Go Eng
theorem ZCO (x y:Int) (hx:Wl 50000 x) (hy:Wl 50000 y):ZnX (bg x) (bg y)=some (bg (x*y)):=by unfold ZnX;have:=ZEt hx hy;rw[ZpN,ZpN,ZJq _ _ (by omega) (by omega),ZPx,ZC7 _ (Zx9 _) (by omega),ZtJ,ZPx,ZHa]
theorem ZF3 (x y:Int) (hx:Wl 50000 x) (hy:Wl 50000 y):Zql (bg x) (bg y)=some (bg (x+y)):=by
 unfold Wl at hx hy;unfold Zql;have h1:=ZE7 hx hy;rw[ZpN,ZpN,ZAw,ZAw];have opp:decide (x < 0)≠decide (y < 0)→ZoR (iL (wd x.natAbs)) (iL (wd y.natAbs))=some (ZEA x.natAbs y.natAbs):=fun _=>ZEl _ _ (by omega) (by omega)
 by_cases hs:decide (x < 0)=decide (y < 0)
 ·obtain⟨o,ho,hd,hl,hv⟩:=ZJQ x.natAbs y.natAbs (by omega) (by omega);rw[hs,beq_self_eq_true,cond_true,ho,ZPx,ZC7 _ hd (by omega),hv,ZPx];congr 2
  by_cases hy0:y < 0
  ·have hx0:x < 0:=by rw[decide_eq_true hy0]at hs;exact of_decide_eq_true hs
   rw[decide_eq_true hy0,if_pos rfl];omega
  ·have hx0:¬x < 0:=by rw[decide_eq_false hy0]at hs;exact of_decide_eq_false hs
   rw[decide_eq_false hy0,if_neg (by decide)];omega
 ·rw[beq_eq_false_iff_ne.2 hs,cond_false,opp hs,ZPx];rcases ZPi x.natAbs y.natAbs with hlt |hge
  ·have:=ZvB (Nat.sub_le y.natAbs x.natAbs);rw[ZAP hlt,decide_eq_false (by omega),cond_false,ZD0 _ _ (by omega) (by omega),ZPx,ZC7 _ (Zx9 _) (by omega),ZtJ,ZPx];congr 2
   by_cases hy0:y < 0
   ·have hx0:¬x < 0:=fun h=>hs (by rw[decide_eq_true hy0,decide_eq_true h])
    rw[decide_eq_true hy0,if_pos rfl];omega
   ·have hx0:x < 0:=Decidable.byContradiction fun h=>hs (by rw[decide_eq_false hy0,decide_eq_false h])
    rw[decide_eq_false hy0,if_neg (by decide)];omega
  ·have hn:ZEA x.natAbs y.natAbs≥0:=by
    rcases ZPi y.natAbs x.natAbs with h |h
    ·rw[ZAv h];decide
    ·rw[show x.natAbs=y.natAbs by omega,Zzm];decide
   have:=ZvB (Nat.sub_le x.natAbs y.natAbs);rw[decide_eq_true hn,cond_true,ZD0 _ _ hge (by omega),ZPx,ZC7 _ (Zx9 _) (by omega),ZtJ,ZPx];congr 2
   by_cases hx0:x < 0
   ·have hy0:¬y < 0:=fun h=>hs (by rw[decide_eq_true hx0,decide_eq_true h])
    rw[decide_eq_true hx0,if_pos rfl];omega
   ·have hy0:y < 0:=Decidable.byContradiction fun h=>hs (by rw[decide_eq_false hx0,decide_eq_false h])
    rw[decide_eq_false hx0,if_neg (by decide)];omega
theorem ZFh (z:Int) (hz:Wl 100000 z):Zp3 (bg z)=some (bg (-z)):=by
 unfold Wl at hz;unfold Zp3;rw[ZAw,ZpN,ZC7 _ (Zx9 _) (by omega),ZtJ,ZPx];congr 2
 by_cases h:z < 0
 ·rw[decide_eq_true h,if_neg (by decide)];omega
 ·rw[decide_eq_false h,if_pos (by decide)];omega
theorem ZDs (q:Rat) (h:Wq 256 q):Zpf (fOf q)=some true:=by
 have hn:=h.1;have hd:=h.2;have hd0:=q.den_nz;unfold Zpf Zp2 fOf;dsimp only;rw[ZAR,ZBK _ h.1,ZPx,ZLj,cond_false,ZAR,ZBK _ h.2,ZPx,ZLj,cond_false,ZAw,decide_eq_false (by omega),cond_false,ZDA (by omega),cond_false,ZpN,ZpN,Zn3];unfold Wl at hn hd;have h1:(wd 1).length≤1:=ZAU (by decide);have hc:ZPc q.num.natAbs (q.den:Int).natAbs=1:=q.reduced
 by_cases h0:q.num=0
 ·rw[h0]at hc;have e:(q.den:Int).natAbs=1:=by rwa [show (0:Int).natAbs=0 from rfl,Nat.gcd_zero_left]at hc
  rw[h0,show (0:Int).natAbs=0 from rfl,Zw0,e,←ZD6,ZEl 1 1 (by omega) (by omega),Zzm];rfl
 ·have hl:=Zuk (n:=q.num.natAbs) (by omega);rw[beq_eq_false_iff_ne.2 (by omega),cond_false,ZG2 _ _ (by omega) (by omega) (by omega) (by omega),hc,ZPx,←ZD6,ZEl 1 1 (by omega) (by omega),Zzm];rfl
theorem ZGf (x y:Int) (hy:y≠0) (hx1:Wl 50000 x) (hy1:Wl 50000 y) (hq:Wq 256 (Rat.divInt x y)):Zsd (bg x) (bg y)=some (fOf (Rat.divInt x y),0):=by have h1:=hq.1;have h2:=hq.2;unfold Wl at h1 h2;unfold Zsd Zs2;rw[ZEB x y hy hx1 hy1,ZPx];unfold fOf;rw[ZpN,ZpN,Zn3,Zn3,decide_eq_false (by omega),cond_false,decide_eq_false (by omega),cond_false]
theorem ZJJ {a b:Rat} (qa:Wq 256 a) (qb:Wq 256 b):Zt8 (fOf a) (fOf b)=some (ZDN a b):=by
 have w:∀{x y:Int},Wl 256 x→Wl 256 y→Wl 50000 (x*y):=fun hx hy=>by unfold Wl;rw[ZOL];exact ZPf (ZEt hx hy) (by decide)
 have m:∀{x:Int},Wl 256 x→Wl 50000 x:=fun h=>ZPf h (by decide)
 unfold Zt8 ZuD;rw[ZDs a qa,ZPx,ZLj,cond_false,ZDs b qb,ZPx,ZLj,cond_false];show ((ZnX (bg a.num) (bg (b.den:Int))).bind fun q=>(ZnX (bg b.num) (bg (a.den:Int))).bind _)=_;rw[ZCO _ _ (m qa.1) (m qb.2),ZPx,ZCO _ _ (m qb.1) (m qa.2),ZPx,ZFh _ (ZPf (w qb.1 qa.2) (by decide)),ZPx];have w2:Wl 50000 (-(b.num*(a.den:Int))):=by unfold Wl;rw[ZON];exact w qb.1 qa.2
 rw[ZF3 _ _ (w qa.1 qb.2) w2,ZPx,ZAw,ZpN,Zn3];unfold ZDN;have h1:=ZDU a b;have h2:=ZDU b a;generalize a.num*(b.den:Int)=x at*
 generalize b.num*(a.den:Int)=y at*
 by_cases hl:a < b
 ·have hlt:=h1.1 hl;have:=Zuk (n:=(x+ -y).natAbs) (by omega);rw[if_pos hl,beq_eq_false_iff_ne.2 (by omega),cond_false,decide_eq_true (by omega),cond_true]
 ·have hn:¬x < y:=fun h=>hl (h1.2 h)
  rw[if_neg hl]
  by_cases hg:b < a
  ·have hlt:=h2.1 hg;have:=Zuk (n:=(x+ -y).natAbs) (by omega);rw[if_pos hg,beq_eq_false_iff_ne.2 (by omega),cond_false,decide_eq_false (by omega),cond_false]
  ·have hn2:¬y < x:=fun h=>hg (h2.2 h)
   rw[if_neg hg,show x+ -y=0 by omega,show (0:Int).natAbs=0 from rfl,Zw0];rfl
theorem ZFk {a b:Rat} (qa:Wq 256 a) (qb:Wq 256 b):Zri (fOf a) (fOf b)=some (decide (a < b)):=by
 unfold Zri;rw[ZJJ qa qb,ZPx];unfold ZDN
 by_cases h:a < b
 ·rw[if_pos h,decide_eq_true h];rfl
 ·rw[if_neg h,decide_eq_false h];split<;>rfl
theorem ZGy:Zta=some (fOf 0):=by unfold Zta;rw[ZDV 0 (by decide) (by decide),ZPx];rfl
end Go.Proofs
namespace Go.Proofs
open Go Eng
theorem ZEv (a b:Rat):Rat.divInt (a.num*(b.den:Int)+ -(b.num*(a.den:Int))) ((a.den:Int)*(b.den:Int))=a - b:=by have:=ZDL a (-b);rw[show (-b).num= -b.num from rfl,show (-b).den=b.den from rfl,Int.neg_mul]at this;rw[this,Rat.sub_eq_add_neg]
theorem Sz.sub {a b:Rat} {k l:Nat} (ha:Sz k a) (hb:Sz l b):Sz (k+l+1) (a - b):=by rw[Rat.sub_eq_add_neg];exact ha.add hb.neg
theorem ZI6 {a b:Rat} {k l:Nat} (ha:Sz k a) (hb:Sz l b) (hk:k+l+1≤8192):Zt7 (fOf a) (fOf b)=some (fOf (a - b),0):=by
 have h1:=a.den_nz;have h2:=b.den_nz;have qa:=ha.wq (by omega);have qb:=hb.wq (by omega);have w:∀{x y:Int},Wl 256 x→Wl 256 y→Wl 512 (x*y):=fun hx hy=>by unfold Wl;rw[ZOL];exact ZEt hx hy
 have m:∀{n:Nat} {x:Int},Wl n x→n≤50000→Wl 50000 x:=fun h h'=>ZPf h h'
 have w1:=w qa.1 qb.2;have w2:=w qb.1 qa.2;have w2':Wl 512 (-(b.num*(a.den:Int))):=by unfold Wl;rw[ZON];exact w2
 have w3:=w qa.2 qb.2;have w4:Wl 513 (a.num*(b.den:Int)+ -(b.num*(a.den:Int))):=ZPf (ZvB (Int.natAbs_add_le _ _)) (ZE7 w1 w2');have hd:(a.den:Int)*(b.den:Int)≠0:=Int.mul_ne_zero (by omega) (by omega);unfold Zt7 ZuC;rw[ZDs a qa,ZPx,ZLj,cond_false,ZDs b qb,ZPx,ZLj,cond_false];show ((ZnX (bg a.num) (bg (b.den:Int))).bind fun q=>(ZnX (bg b.num) (bg (a.den:Int))).bind fun q_1=>(Zp3 q_1).bind fun q_2=>(Zql q q_2).bind fun q_3=>(ZnX (bg (a.den:Int)) (bg (b.den:Int))).bind _)=_;rw[ZCO _ _ (m qa.1 (by omega)) (m qb.2 (by omega)),ZPx,ZCO _ _ (m qb.1 (by omega)) (m qa.2 (by omega)),ZPx,ZFh _ (ZPf w2 (by decide)),ZPx,ZF3 _ _ (m w1 (by omega)) (m w2' (by omega)),ZPx,ZCO _ _ (m qa.2 (by omega)) (m qb.2 (by omega)),ZPx];have hw:Wq 256 (Rat.divInt (a.num*(b.den:Int)+ -(b.num*(a.den:Int))) ((a.den:Int)*(b.den:Int))):=by rw[ZEv];exact(ha.sub hb).wq hk
 rw[ZGf _ _ hd (m w4 (by omega)) (m w3 (by omega)) hw,ZEv,ZPx]
theorem ZFW {a b:Rat} {k l:Nat} (ha:Sz k a) (hb:Sz l b) (hk:k+l+1≤8192):Zt4 (fOf a) (fOf b)=some (fOf (a - b)):=by unfold Zt4;rw[ZI6 ha hb hk];rfl
end Go.Proofs
namespace Go.Proofs
open Go Eng
section
variable {α:Type} (lt:α→α→Bool)
def ZIy (x:α):List α→List α
 | []=>[x]
 |p::r=>if lt x p then p::ZIy x r else x::p::r
def ZEr (x:α) (A:List α):List α:=(ZIy lt x A.reverse).reverse
def ZzY (l:List α):List α:=l.foldl (fun s x=>ZEr lt x s) []
variable {lt}
theorem ZF8 (x:α):ZEr lt x []=[x]:=rfl
theorem ZFn (x p:α) (A:List α):ZEr lt x (A++[p])=if lt x p then ZEr lt x A++[p]else A++[p,x]:=by unfold ZEr;rw[List.reverse_append,List.reverse_singleton,List.singleton_append,ZIy];split;rotate_left;simp;rw[List.reverse_cons]
theorem ZEc (x:α):∀l:List α,(ZIy lt x l).Perm (x::l)
 | []=> .refl _
 |p::r=>by
  unfold ZIy;split
  ·exact((ZEc x r).cons p).trans (.swap _ _ _)
  ·exact .refl _
theorem ZFo (x:α) (A:List α):(ZEr lt x A).Perm (A++[x]):=by unfold ZEr;refine(List.reverse_perm _).trans ((ZEc x _).trans ?_);refine(List.Perm.cons x (List.reverse_perm A)).trans ?_;exact(List.perm_append_singleton x A).symm
theorem ZED (l:List α) (x:α):ZzY lt (l++[x])=ZEr lt x (ZzY lt l):=by simp[ZzY]
theorem ZCm (l:List α):(ZzY lt l).Perm l:=by
 have key:∀(l s:List α),(l.foldl (fun s x=>ZEr lt x s) s).Perm (s++l):=by
  intro l
  induction l with
  |nil=>intro s;simp
  |cons x l ih=>
   intro s;refine(ih _).trans ?_;refine((ZFo x s).append_right l).trans ?_;simp
 simpa[ZzY]using key l []
theorem ZA9 (l:List α):(ZzY lt l).length=l.length:=(ZCm l).length_eq
theorem ZEb (P:α→Prop) (le:α→α→Prop) (hlt:∀x p,P x→P p→lt x p=true→le x p) (hnlt:∀x p,P x→P p→lt x p=false→le p x) (htr:∀a b c,P a→P b→P c→le a b→le b c→le a c)
  (x:α) (hx:P x):∀l:List α,(∀y∈l,P y)→l.Pairwise (fun a b=>le b a)→(ZIy lt x l).Pairwise (fun a b=>le b a)
 | [],_,_=>by simp[ZIy]
 |p::r,hP,h=>by
  have hp:=hP p (by simp);have hr:=List.pairwise_cons.1 h;unfold ZIy;cases hc:lt x p with
  |true=>
   rw[if_pos rfl,List.pairwise_cons];refine⟨fun y hy=> ?_,ZEb P le hlt hnlt htr x hx r (fun y hy=>hP y (by simp[hy])) hr.2⟩;rcases ZO3.1 ((ZEc x r).mem_iff.1 hy)with rfl |hy
   ·exact hlt _ _ hx hp hc
   ·exact hr.1 y hy
  |false=>
   rw[if_neg (by simp),List.pairwise_cons];refine⟨fun y hy=> ?_,h⟩;have hxp:=hnlt x p hx hp hc;rcases ZO3.1 hy with rfl |hy
   ·exact hxp
   ·exact htr _ _ _ (hP y (by simp[hy])) hp hx (hr.1 y hy) hxp
theorem ZFm (P:α→Prop) (le:α→α→Prop) (hlt:∀x p,P x→P p→lt x p=true→le x p) (hnlt:∀x p,P x→P p→lt x p=false→le p x) (htr:∀a b c,P a→P b→P c→le a b→le b c→le a c)
  (l:List α) (hl:∀y∈l,P y):(ZzY lt l).Pairwise le:=by
 have key:∀(l s:List α),(∀y∈l,P y)→(∀y∈s,P y)→s.Pairwise le→(l.foldl (fun s x=>ZEr lt x s) s).Pairwise le:=by
  intro l
  induction l with
  |nil=>intro s _ _ h;exact h
  |cons x l ih=>
   intro s hl hs h;refine ih _ (fun y hy=>hl y (by simp[hy])) (fun y hy=> ?_) ?_
   ·rcases List.mem_append.1 ((ZFo x s).mem_iff.1 hy)with hy |hy
    ·exact hs y hy
    ·simp only[List.mem_singleton]at hy;subst hy;exact hl _ (by simp)
   ·unfold ZEr;rw[List.pairwise_reverse];exact ZEb P le hlt hnlt htr x (hl x (by simp)) s.reverse (fun y hy=>hs y (List.mem_reverse.1 hy)) (by rw[List.pairwise_reverse];exact h)
 exact key l [] hl (by simp) (by simp)
end
theorem ZFa {α:Type} (A C:List α) (p x:α):((A++p::x::C).set (A.length+1) p).set A.length x=A++x::p::C:=by
 induction A with
 |nil=>rfl
 |cons a A ih=>simp only[List.cons_append,ZOY,List.set_cons_succ,ih]
end Go.Proofs
namespace Go.Proofs
open Go Eng
def gR (l:List Rat) (i:Nat):Rat:=l.getD i 0
def xOf (u v:Rat):Rat:=if v < u then v else u
theorem ZIZ (u v c:Rat):xOf (u+c) (v+c)=xOf u v+c:=by unfold xOf;split<;>split<;>grind
theorem ZKV (u v:Rat):xOf u v=u∨xOf u v=v:=by
 unfold xOf;split
 ·exact .inr rfl
 ·exact .inl rfl
def Zmn (l:List Rat) (i:Nat) (x:Rat) (r:Nat):Prop:=
 i≤r∧r≤l.length∧(∀j,i≤j→j < r→gR l j≤x)∧(r < l.length→x < gR l r)
theorem Zmn.det {l:List Rat} {i:Nat} {x:Rat} {r s:Nat} (h:Zmn l i x r) (k:Zmn l i x s):r=s:=by
 obtain⟨h1,h2,h3,h4⟩:=h;obtain⟨k1,k2,k3,k4⟩:=k;rcases Nat.lt_trichotomy r s with c |c |c
 ·have a:=k3 r h1 c;have b:=h4 (by omega);grind
 ·exact c
 ·have a:=h3 s k1 c;have b:=k4 (by omega);grind
def stp (la lb i k:Nat) (m:Int):Int:=max (max m ((i:Int)*lb - (k:Int)*la)) ((k:Int)*la - (i:Int)*lb)
inductive DistR (a b:List Rat):Nat→Nat→Int→Int→Prop
 |done {i k m}:¬(i < a.length∧k < b.length)→DistR a b i k m m
 |go {i k m r i' k'}:i < a.length→k < b.length→Zmn a i (xOf (gR a i) (gR b k)) i'→Zmn b k (xOf (gR a i) (gR b k)) k'→
   DistR a b i' k' (stp a.length b.length i' k' m) r→DistR a b i k m r
theorem DistR.det {a b:List Rat} {i k:Nat} {m r s:Int} (h:DistR a b i k m r) (g:DistR a b i k m s):r=s:=by
 induction h with
 |done c=>
  cases g with
  |done _=>rfl
  |go h1 h2 _ _ _=>exact absurd ⟨h1,h2⟩ c
 |go h1 h2 u1 u2 _ ih=>
  cases g with
  |done c=>exact absurd ⟨h1,h2⟩ c
  |go _ _ v1 v2 g=>
   have e1:=u1.det v1;have e2:=u2.det v2;subst e1 e2;exact ih g
theorem DistR.self {a b:List Rat} (e:a=b) {i k:Nat} {m r:Int} (h:DistR a b i k m r) (hi:i=k) (hm:0≤m):r=m:=by
 induction h with
 |done _=>rfl
 |go h1 h2 u1 u2 _ ih=>
  subst e hi;have e1:=u1.det u2;subst e1;have:∀la x:Nat,∀m:Int,0≤m→stp la la x x m=m:=fun la x m h=>by unfold stp;omega
  rw[this _ _ _ hm]at ih;exact ih rfl hm
theorem ZK8 {la lb i k:Nat} {m:Int} (hi:i≤la) (hk:k≤lb) (hm:m≤(la*lb:Nat)):stp la lb i k m≤(la*lb:Nat):=by
 have e1:(i:Int)*lb=((i*lb:Nat):Int):=by rw[ZOP]
 have e2:(k:Int)*la=((k*la:Nat):Int):=by rw[ZOP]
 have h1:i*lb≤la*lb:=Nat.mul_le_mul_right _ hi;have h2:k*la≤la*lb:=by rw[ZPn la lb];exact Nat.mul_le_mul_right _ hk
 unfold stp;rw[e1,e2];omega
theorem ZLu {la lb i k:Nat} {m:Int}:m≤stp la lb i k m:=by unfold stp;omega
theorem DistR.bound {a b:List Rat} {i k:Nat} {m r:Int} (h:DistR a b i k m r) (hm0:0≤m) (hm:m≤(a.length*b.length:Nat)):0≤r∧r≤(a.length*b.length:Nat):=by
 induction h with
 |done _=>exact⟨hm0,hm⟩
 |go h1 h2 u1 u2 _ ih=>exact ih (Int.le_trans hm0 ZLu) (ZK8 u1.2.1 u2.2.1 hm)
theorem ZEG {l:List Rat} {c:Rat} {i:Nat} (h:i < l.length):gR (l.map (· +c)) i=gR l i+c:=by unfold gR;rw[ZOS,ZOS,List.getElem?_map,ZOT h];rfl
theorem Zmn.add {l:List Rat} {i:Nat} {x c:Rat} {r:Nat} (h:Zmn l i x r):Zmn (l.map (· +c)) i (x+c) r:=by
 obtain⟨h1,h2,h3,h4⟩:=h;refine⟨h1,by rw[ZOZ];exact h2,fun j hj1 hj2=> ?_,fun hr=> ?_⟩
 ·rw[ZEG (by omega)];have:=h3 j hj1 hj2;grind
 ·rw[ZOZ]at hr;rw[ZEG hr];have:=h4 hr;grind
theorem DistR.add {a b:List Rat} {i k:Nat} {m r:Int} (c:Rat) (h:DistR a b i k m r):DistR (a.map (· +c)) (b.map (· +c)) i k m r:=by
 induction h with
 |done g=>exact .done (by rw[ZOZ,ZOZ];exact g)
 |go h1 h2 u1 u2 _ ih=>
  have u1:=u1.add (c:=c);have u2:=u2.add (c:=c);rw[←ZIZ,←ZEG h1,←ZEG h2]at u1 u2;refine .go (by rw[ZOZ];exact h1) (by rw[ZOZ];exact h2) u1 u2 ?_;rw[ZOZ,ZOZ];exact ih
def Asc (l:List Rat):Prop:=∀i j,i≤j→j < l.length→gR l i≤gR l j
theorem ZEg {l:List Rat} {i:Nat} (h:i < l.length):gR l i=l[i]:=by unfold gR;rw[ZOS,ZOT h];rfl
theorem Asc.add {l:List Rat} (c:Rat) (h:Asc l):Asc (l.map (· +c)):=fun i j hij hj=>by rw[ZOZ]at hj;rw[ZEG hj,ZEG (by omega)];have:=h i j hij hj;grind
theorem ZL1 {l:List Rat} (h:Asc l) {r:Nat} (hr:r < l.length):r+1≤l.countP (fun y=> !decide (gR l r < y)):=by
 have e:l=l.take (r+1)++l.drop (r+1):=(List.take_append_drop _ _).symm;have h1:(l.take (r+1)).countP (fun y=> !decide (gR l r < y))=(l.take (r+1)).length:=by rw[List.countP_eq_length];intro y hy;obtain⟨i,hi,rfl⟩:=List.getElem_of_mem hy;rw[ZO2]at hi;have:=h i r (by omega) hr;rw[ZEg (i:=i) (by omega)]at this;rw[List.getElem_take];simp only[Bool.not_eq_true',decide_eq_false_iff_not];grind
 rw[ZO2]at h1;have h2:l.countP (fun y=> !decide (gR l r < y))=(l.take (r+1)).countP (fun y=> !decide (gR l r < y))+(l.drop (r+1)).countP (fun y=> !decide (gR l r < y)):=by rw[←List.countP_append,←e]
 omega
end Go.Proofs
namespace Go.Proofs
open Go Eng
theorem ZF1 (a b:Rat):ZDN a b≤0↔a≤b:=by
 unfold ZDN;split
 ·grind
 ·split
  ·grind
  ·grind
theorem ZES (a b:Rat):ZDN a b < 0↔a < b:=by
 unfold ZDN;split
 ·grind
 ·split
  ·grind
  ·grind
theorem ZGC {l:List Rat} (hl:∀q∈l,Sz 400 q) (hn:l.length≤1000) {x:Rat} (hx:Sz 400 x) {i:Nat} (hi:i≤l.length):
  wp (ZxH (l.map fOf) (i:Int) (fOf x)) (fun r=>∃k:Nat,r=(k:Int)∧Zmn l i x k):=by
 unfold ZxH;rw[ZnE];refine ZnM (ZoV ZCP (fun k:Nat=>(l.map fOf,(k:Int),fOf x)) (fun k=>i≤k∧k≤l.length∧∀j,i≤j→j < k→gR l j≤x) (fun k=>l.length - k) (Q:=fun r=>∃k:Nat,r=(k:Int)∧Zmn l i x k) i ⟨ZPe _,hi,fun j h1 h2=>by omega⟩ (by omega) ?_) ?_
 ·rintro rec k ⟨h1,h2,h3⟩ ih;unfold ZBn ZzN ZyH;dsimp only;rw[ZOZ]
  by_cases hk:k < l.length
  ·have hq:l[k]∈l:=ZOW hk;rw[decide_eq_true (show (k:Int) < (l.length:Int) by omega),cond_true,ZsQ (by simpa using hk),ZnE,ZnD,List.getElem_map,ZFr ((hl _ hq).wq (by omega)) (hx.wq (by omega)),ZnE,ZnD]
   by_cases hc:ZDN l[k] x≤0
   ·rw[decide_eq_true hc,cond_true,ZnH];refine⟨ZnI (by omega),ih (k+1) ⟨by omega,by omega,fun j h4 h5=> ?_⟩ (by omega)⟩
    by_cases hj:j=k
    ·rw[hj,ZEg hk];exact(ZF1 _ _).1 hc
    ·exact h3 j h4 (by omega)
   ·rw[decide_eq_false hc,cond_false,ZnD];refine⟨k,rfl,h1,h2,h3,fun _=> ?_⟩;rw[ZEg hk];rw[ZF1]at hc;grind
  ·rw[decide_eq_false (show ¬(k:Int) < (l.length:Int) by omega),cond_false,cond_false,ZnD];exact⟨k,rfl,h1,h2,h3,fun h=>absurd h hk⟩
 ·intro r h;unfold ZAn;rw[ZnD];exact h
theorem ZK9 (la lb i k:Nat) (m:Int):(if ((k:Int)*la - (i:Int)*lb) > (if ((i:Int)*lb - (k:Int)*la) > m then ((i:Int)*lb - (k:Int)*la)else m)then ((k:Int)*la - (i:Int)*lb)else (if ((i:Int)*lb - (k:Int)*la) > m then ((i:Int)*lb - (k:Int)*la)else m))=stp la lb i k m:=by unfold stp;split<;>split<;>omega
theorem Zmn.grows {l:List Rat} {i:Nat} {x:Rat} {r:Nat} (h:Zmn l i x r) (hi:i < l.length) (hx:gR l i≤x):i < r:=by
 obtain⟨h1,h2,h3,h4⟩:=h;rcases Nat.lt_or_eq_of_le h1 with h |h
 ·exact h
 ·have:=h4 (by omega);rw[←h]at this;grind
theorem ZG5 {a b:List Rat} (ha:∀q∈a,Sz 400 q) (hb:∀q∈b,Sz 400 q) (hna:a.length≤1000) (hnb:b.length≤1000) (ha0:a.length≠0) (hb0:b.length≠0):
  ∃r,Zpc (a.map fOf) (b.map fOf)=some (fOf (Rat.divInt r ((a.length*b.length:Nat):Int)),0)∧DistR a b 0 0 0 r:=by
 suffices h:wp (Zpc (a.map fOf) (b.map fOf)) (fun x=>∃r,x=(fOf (Rat.divInt r ((a.length*b.length:Nat):Int)),0)∧DistR a b 0 0 0 r) by obtain⟨x,hx,r,rfl,hr⟩:=h;exact⟨r,hx,hr⟩
 have hlb:∀i k:Nat,i≤a.length→k≤b.length→(0≤(i:Int)*(b.length:Int)∧(i:Int)*(b.length:Int)≤1000000)∧(0≤(k:Int)*(a.length:Int)∧(k:Int)*(a.length:Int)≤1000000):=by
  intro i k hi hk;have e1:(i:Int)*(b.length:Int)=((i*b.length:Nat):Int):=by rw[ZOP]
  have e2:(k:Int)*(a.length:Int)=((k*a.length:Nat):Int):=by rw[ZOP]
  have h1:i*b.length≤1000*1000:=Nat.mul_le_mul (by omega) hnb;have h2:k*a.length≤1000*1000:=Nat.mul_le_mul (by omega) hna;rw[e1,e2];omega
 unfold Zpc;rw[ZOZ,ZOZ,show ((a.length:Int) == 0)=false from beq_eq_false_iff_ne.2 (by omega),show ((b.length:Int) == 0)=false from beq_eq_false_iff_ne.2 (by omega),cond_false];unfold Zui;rw[cond_false,ZnE];refine ZnM (ZoV ZCf (fun s:Nat×Nat×Int=>(a.map fOf,b.map fOf,s.2.2,(s.1:Int),(s.2.1:Int),false,false,[],[]))
  (fun s=>s.1≤a.length∧s.2.1≤b.length∧∀r,DistR a b s.1 s.2.1 s.2.2 r→DistR a b 0 0 0 r) (fun s=>(a.length - s.1)+(b.length - s.2.1))
  (Q:=fun x=>∃r,x=(a.map fOf,b.map fOf,r,false,false,[],[])∧DistR a b 0 0 0 r) (0,0,0) ⟨Nat.zero_le _,Nat.zero_le _,fun r h=>h⟩ (by dsimp only;omega) ?_) ?_
 ·rintro rec ⟨i,k,m⟩ ⟨h1,h2,h3⟩ ih;dsimp only at h1 h2 h3 ih⊢
  unfold ZAc ZxJ Zwr;dsimp only;rw[ZOZ,ZOZ];have j3:∀x:Rat,Sz 400 x→i < a.length→k < b.length→x=xOf (gR a i) (gR b k)→wp (Zuh (fun a b most i k t4 t4_1 t4_2 t4_3=>rec (a,b,most,i,k,t4,t4_1,t4_2,t4_3)) (a.map fOf) (b.map fOf) m (i:Int) (k:Int) false false (fOf x) [] []) (fun x=>∃r,x=(a.map fOf,b.map fOf,r,false,false,[],[])∧DistR a b 0 0 0 r):=by
   intro x hx hi hk ex;unfold Zuh;rw[ZnE];refine ZnM (ZGC ha hna hx h1) ?_;rintro _ ⟨i',rfl,hi'⟩;rw[ZnE];refine ZnM (ZGC hb hnb hx h2) ?_;rintro _ ⟨k',rfl,hk'⟩;rw[ZOZ,ZOZ,ZK9];have hb':=hlb i' k' hi'.2.1 hk'.2.1;rw[ZnH,ZnH,ZnH,ZnH,ZnH,ZnH];refine⟨ZnI (by omega),ZnI (by omega),ZnI (by omega),ZnI (by omega),ZnI (by omega),ZnI (by omega), ?_⟩;refine ih (i',k',stp a.length b.length i' k' m) ⟨hi'.2.1,hk'.2.1,fun r hr=>h3 r ?_⟩ ?_
   ·rw[ex]at hi' hk';exact .go hi hk hi' hk' hr
   ·dsimp only;have q1:=hi'.1;have q2:=hk'.1;have q3:=hi'.2.1;have q4:=hk'.2.1;rcases ZKV (gR a i) (gR b k)with e |e
    ·have:=hi'.grows hi (by rw[ex,e];exact Rat.le_refl);omega
    ·have:=hk'.grows hk (by rw[ex,e];exact Rat.le_refl);omega
  by_cases hi:i < a.length
  ·rw[decide_eq_true (show (i:Int) < (a.length:Int) by omega),cond_true]
   by_cases hk:k < b.length
   ·have hqa:a[i]∈a:=ZOW hi;have hqb:b[k]∈b:=ZOW hk;rw[decide_eq_true (show (k:Int) < (b.length:Int) by omega),cond_true,ZsQ (by simpa using hi),ZsQ (by simpa using hk),ZnE,ZnD,ZnE,ZnD,List.getElem_map,List.getElem_map,ZFr ((hb _ hqb).wq (by omega)) ((ha _ hqa).wq (by omega)),ZnE,ZnD]
    by_cases hc:ZDN b[k] a[i] < 0
    ·rw[decide_eq_true hc,cond_true,ZnE,ZnD];exact j3 _ (hb _ hqb) hi hk (by rw[ZEg hi,ZEg hk];unfold xOf;rw[if_pos ((ZES _ _).1 hc)])
    ·rw[decide_eq_false hc,cond_false];exact j3 _ (ha _ hqa) hi hk (by rw[ZEg hi,ZEg hk];unfold xOf;rw[if_neg (fun h=>hc ((ZES _ _).2 h))])
   ·rw[decide_eq_false (show ¬(k:Int) < (b.length:Int) by omega),cond_false,ZnD];exact⟨m,rfl,h3 m (.done (fun h=>hk h.2))⟩
  ·rw[decide_eq_false (show ¬(i:Int) < (a.length:Int) by omega),cond_false,cond_false,ZnD];exact⟨m,rfl,h3 m (.done (fun h=>hi h.1))⟩
 ·rintro _ ⟨r,rfl,hr⟩;have hbd:=hr.bound (Int.le_refl 0) (by omega);have hm:a.length*b.length≤1000*1000:=Nat.mul_le_mul hna hnb;have hp:0 < a.length*b.length:=Nat.mul_pos (by omega) (by omega);unfold Zyt;dsimp only;rw[ZOZ,ZOZ,←ZOP,ZnH,ZF5 _ _ (by omega) (by omega) (by omega) (by omega) (by omega),ZnE,ZnD,ZnD];exact⟨ZnI (by omega),r,rfl,hr⟩
end Go.Proofs
namespace Go.Proofs
open Go Eng
theorem ZEQ {x y:Int} (hy:y≠0) (h1:x.natAbs < 16) (h2:y.natAbs < 16):Sz 4 (Rat.divInt x y):=ZDZ (k:=4) hy h1 h2
end Go.Proofs
namespace Go.Proofs
open Go Eng
theorem ZNJ:Zu7 [48]=ZwW false [] [1] false false [] []:=by kernel_rfl
theorem dec0:Zu7 [48]=some (fOf (Rat.divInt 0 1),true):=by
 rw[ZNJ];unfold ZwW;have e0:iL (wd 0)=[]:=by kernel_rfl
 have e1:iL (wd 1)=[1]:=by kernel_rfl
 have l0:Nat.ble (wd 0).length 50000=true:=by kernel_rfl
 have l1:Nat.ble (wd 1).length 50000=true:=by kernel_rfl
 have w0:=Nat.le_of_ble_eq_true l0;have w1:=Nat.le_of_ble_eq_true l1;have h1:=Zya false 0 (by omega);have h2:=Zya false 1 (by omega);rw[e0]at h1;rw[e1]at h2;rw[h1,ZPx,h2,ZPx];have:=ZC9 0 1 (by decide) w0 w1;simp only[Bool.false_eq_true,if_false];rw[show ((0:Nat):Int)=0 from rfl,show ((1:Nat):Int)=1 from rfl,this,ZPx]
theorem can0:ZxB 4 [48]=some ([48],true):=by
 have h:ZxB 4 [48]=(ZyP [48]).bind fun(a,b)=>some (a,b):=by kernel_rfl
 rw[h];unfold ZyP;rw[dec0];show _=_
 kernel_rfl
theorem valZ:Zqy (ZnQ.mk false [48])=some (fOf (Rat.divInt 0 1),true):=by
 unfold Zqy ZBu;rw[can0];dsimp only;rw[cond_false,ZPx];dsimp only;rw[ZLj,cond_false,dec0];show _=_
 kernel_rfl
def ZNs:List (Str×Int):=[([45,51], -3),([45,50], -2),([45,49], -1),([49],1),([50],2),([51],3),([52],4),([53],5),([54],6),([55],7),([56],8),([49,48],10)]
def ZJA:List (Str×Int):=[([45,49,46,53], -3),([49,46,53,48],3)]
def noT:List Str:=[[97],[98],[99],[100],[120],[],[49,46,50,46,51],[107,48],[107,49],[107,50],[107,51],[107,52],[107,53],[107,54],[107,55],[107,56],[107,57],[107,49,48],[107,49,49],[107,49,50],[107,49,51]]
def fx (n:Int) (d:Int):ZnC:=⟨⟨decide (n < 0),if n=0 then []else [(n.natAbs:Int)]⟩,⟨false,[d]⟩⟩
theorem ZJn:(ZNs.all fun p=>decide (Zqy (ZnQ.mk false p.1)=some (fx p.2 1,true)))=true:=by kernel_rfl
theorem ZH4:(ZJA.all fun p=>decide (Zqy (ZnQ.mk false p.1)=some (fx p.2 2,true)))=true:=by kernel_rfl
theorem ZLq:(noT.all fun s=>match Zqy (ZnQ.mk false s)with |some (_,false)=>true |_=>false)=true:=by kernel_rfl
theorem ZLE:(ZNs.all fun p=>decide (fx p.2 1=fOf (Rat.divInt p.2 1))&&decide (p.2.natAbs < 16))=true:=by kernel_rfl
theorem ZJG:(ZJA.all fun p=>decide (fx p.2 2=fOf (Rat.divInt p.2 2))&&decide (p.2.natAbs < 16))=true:=by kernel_rfl
def ZDQ:List Str:=[48]::(ZNs.map (·.1)++ZJA.map (·.1)++noT)
def ZHB (c:ZnQ):Prop:=c=ZnQ.mk true []∨∃s∈ZDQ,c=ZnQ.mk false s
theorem ZHE {c:ZnQ} (h:ZHB c):(∃q,Zqy c=some (fOf q,true)∧Sz 4 q)∨(∃f,Zqy c=some (f,false)):=by
 rcases h with rfl |⟨s,hs,rfl⟩
 ·refine .inr ⟨fOf 0, ?_⟩;unfold Zqy;dsimp only;rw[cond_true,ZFA];rfl
 ·rcases ZO3.1 hs with rfl |hs
  ·exact .inl ⟨_,valZ,ZEQ (by decide) (by decide) (by decide)⟩
  ·rcases List.mem_append.1 hs with hs |hs
   ·rcases List.mem_append.1 hs with hs |hs
    ·obtain⟨p,hp,rfl⟩:=List.mem_map.1 hs;have h1:=of_decide_eq_true (ZOR.1 ZJn p hp);have h2:=ZOR.1 ZLE p hp;simp only[Bool.and_eq_true,decide_eq_true_eq]at h2;rw[h2.1]at h1;exact .inl ⟨_,h1,ZEQ (by decide) h2.2 (by decide)⟩
    ·obtain⟨p,hp,rfl⟩:=List.mem_map.1 hs;have h1:=of_decide_eq_true (ZOR.1 ZH4 p hp);have h2:=ZOR.1 ZJG p hp;simp only[Bool.and_eq_true,decide_eq_true_eq]at h2;rw[h2.1]at h1;exact .inl ⟨_,h1,ZEQ (by decide) h2.2 (by decide)⟩
   ·have h1:=ZOR.1 ZLq s hs;split at h1;rotate_left;simp at h1;rename_i f hf;exact .inr ⟨f,hf⟩
open Classical in
noncomputable def nv (c:ZnQ):Option Rat:=if h:∃q,Zqy c=some (fOf q,true)∧Sz 4 q then some h.choose else none
theorem ZGP {c:ZnQ} {q:Rat} (h:nv c=some q):Zqy c=some (fOf q,true)∧Sz 4 q:=by unfold nv at h;split at h;rotate_left;simp at h;rename_i hx;obtain rfl:=Option.some.inj h;exact hx.choose_spec
theorem ZJm {c:ZnQ} (hc:ZHB c) (h:nv c=none):∃f,Zqy c=some (f,false):=by
 unfold nv at h;split at h
 ·simp at h
 ·rename_i hx;exact(ZHE hc).resolve_left hx
end Go.Proofs
namespace Go.Proofs
open Go Eng
def ltQ (x p:Rat):Bool:=decide (x < p)
theorem ZGp (b i0:Int) {A0 C0:List Rat} {x:Rat} (hA:∀y∈A0,Sz 400 y) (hx:Sz 400 x) (hlen:(A0++x::C0).length≤1000):
  wp (Zn1 big 0 b i0 (A0.length:Int) ((A0++x::C0).map fOf)) (fun y=>y=(0,b,i0,(ZEr ltQ x A0++C0).map fOf)):=by
 refine ZoV ZwQ (fun(s:List Rat×List Rat)=>((0:Int),b,i0,(s.1.length:Int),(s.1++x::s.2).map fOf)) (fun s=>(∀y∈s.1,Sz 400 y)∧ZEr ltQ x s.1++s.2=ZEr ltQ x A0++C0∧(s.1++x::s.2).length≤1000) (fun s=>s.1.length)
  (Q:=fun y=>y=(0,b,i0,(ZEr ltQ x A0++C0).map fOf)) (A0,C0) ⟨hA,rfl,hlen⟩ (by dsimp only;simp only[ZOX]at hlen;omega) ?_
 rintro rec ⟨A,C⟩ ⟨hA,hR,hl⟩ ih;dsimp only at hA hR hl ih⊢
 unfold Zsr ZpI ZoM;dsimp only;rcases List.eq_nil_or_concat A with rfl |⟨A,p,rfl⟩
 ·rw[ZnV];refine⟨fun h=>by simp at h,fun _=> ?_⟩;rw[cond_false,ZnD];rw[ZF8]at hR;rw[←hR];rfl
 ·rw[List.concat_eq_append]at*
  have hp:=hA p (by simp);simp only[ZOX,ZOY,List.length_nil]at hl;have e0:((A++[p])++x::C).map fOf=A.map fOf++fOf p::fOf x::C.map fOf:=by simp
  have ei:((A++[p]).length:Int)=((A.length+1:Nat):Int):=by simp
  have ej:(((A++[p]).length:Int) - 1)=(A.length:Int):=by rw[ei];omega
  have g1:(A.map fOf++fOf p::fOf x::C.map fOf)[A.length+1]? =some (fOf x):=by rw[List.getElem?_append_right (by rw[ZOZ];omega),ZOZ,show A.length+1 - A.length=1 by omega];rfl
  have g0:(A.map fOf++fOf p::fOf x::C.map fOf)[A.length]? =some (fOf p):=by rw[List.getElem?_append_right (by rw[ZOZ];omega),ZOZ,show A.length - A.length=0 by omega];rfl
  rw[ZnV];refine⟨fun _=> ?_,fun h=>by simp only[decide_eq_false_iff_not,ei]at h;omega⟩;rw[ej,ei,e0];simp only[ZOQ,g1,g0,ZPx];have ll:(A.map fOf++fOf p::fOf x::C.map fOf).length=A.length+2+C.length:=by simp only[ZOX,ZOY,ZOZ];omega
  have lx:inR ((A.length+1:Nat):Int) ((A.map fOf++fOf p::fOf x::C.map fOf).length:Int)=true:=Zo3 ⟨by omega,by omega⟩;have lp:inR (A.length:Int) ((A.map fOf++fOf p::fOf x::C.map fOf).length:Int)=true:=Zo3 ⟨by omega,by omega⟩;have lp':inR (A.length:Int) (((A.map fOf++fOf p::fOf x::C.map fOf).set (A.length+1) (fOf p)).length:Int)=true:=by rw[ZO0];exact lp
  have ki:inK .i64 (A.length:Int)=true:=ZnI (by omega);rw[lx,lp,lp',ki];simp only[chk_true];rw[ZFr (hx.wq (by omega)) (hp.wq (by omega)),ZnE,ZnD];rw[ZFn]at hR;have hlt:ltQ x p=decide (ZDN x p < 0):=by unfold ltQ;rw[Bool.eq_iff_iff,decide_eq_true_eq,decide_eq_true_eq,ZES]
  rw[ZnV];refine⟨fun hc=> ?_,fun hc=> ?_⟩
  ·rw[hlt,if_pos hc]at hR;have:=ZFa (A.map fOf) (C.map fOf) (fOf p) (fOf x);rw[ZOZ]at this;rw[this];have:=ih (A,p::C) ⟨fun y hy=>hA y (by simp[hy]),by rw[←hR];simp,by simp only[ZOX,ZOY];omega⟩ (by simp);simpa using this
  ·rw[hlt,if_neg (by rw[hc];simp)]at hR;rw[ZnD,←hR];simp
theorem ZJw {D:List Rat} (hD:∀y∈D,Sz 400 y) (hl:D.length≤1000):
  ZoT (D.map fOf) 0 (D.length:Int)=some ((ZzY ltQ D).map fOf):=by
 have key:Zo5 (D.map fOf) 0 (D.length:Int)=some ((ZzY ltQ D).map fOf):=by
  refine ZrY ?_;unfold Zo5 Zp4;rw[ZnH,ZnE];refine⟨ZnI (by omega), ?_⟩;have inv:∀(i:Nat),i≤D.length→∀y∈ZzY ltQ (D.take i),Sz 400 y:=fun i _ y hy=>hD y (List.mem_of_mem_take ((ZCm _).mem_iff.1 hy))
  have out:∀(k f:Nat),k+1≤D.length→D.length - (k+1) < f→wp (Zof f 0 (D.length:Int) ((k+1:Nat):Int) ((ZzY ltQ (D.take (k+1))++D.drop (k+1)).map fOf)) (fun y=>y=(ZzY ltQ D).map fOf):=by
   intro k f
   induction f generalizing k with
   |zero=>intro _ h;omega
   |succ f ih=>
    intro hk hf;show wp (ZpJ _ _ _ _ _) _;unfold ZpJ Zp5;rw[ZnV];refine⟨fun hc=> ?_,fun hc=> ?_⟩
    ·simp only[decide_eq_true_eq]at hc;have hk2:k+1 < D.length:=by omega
     have hlen:(ZzY ltQ (D.take (k+1))).length=k+1:=by rw[ZA9,ZO2];omega
     have e:D.drop (k+1)=D[k+1]::D.drop (k+2):=List.drop_eq_getElem_cons hk2;rw[e];have:=ZGp (D.length:Int) ((k+1:Nat):Int) (A0:=ZzY ltQ (D.take (k+1))) (C0:=D.drop (k+2)) (x:=D[k+1]) (inv _ hk) (hD _ (ZOW _)) (by simp only[ZOX,ZOY,hlen,List.length_drop];omega);rw[hlen]at this;rw[ZnE];refine ZnM this ?_;rintro y rfl;dsimp only;rw[ZnH];refine⟨ZnI (by omega), ?_⟩;have e2:ZEr ltQ D[k+1] (ZzY ltQ (D.take (k+1)))=ZzY ltQ (D.take (k+2)):=by rw[ZO6 hk2,ZED]
     rw[e2];have:=ih (k+1) (by omega) (by omega);rw[show ((k+1:Nat):Int)+1=((k+1+1:Nat):Int) by omega];exact this
    ·simp only[decide_eq_false_iff_not]at hc;have:k+1=D.length:=by omega
     rw[ZnD,this,ZO4,List.drop_of_length_le (ZPe _),List.append_nil]
  by_cases h0:D.length=0
  ·have:D=[]:=List.eq_nil_of_length_eq_zero h0;subst this;exact⟨[],rfl,ZnD.2 rfl⟩
  ·have:=out 0 big (by omega) (by rw[big_eq];omega);have e:ZzY ltQ (D.take (0+1))++D.drop (0+1)=D:=by
    cases D with
    |nil=>simp at h0
    |cons x D=>rfl
   rw[e]at this;refine ZnM this ?_;rintro y rfl;rw[ZnD]
 unfold ZoT;rw[key,ZPx,ZOZ,ZOZ,ZA9,decide_eq_true rfl];rfl
theorem ZGV:((List.range 13).all fun n:Nat=>(Zwe (IntKind.wrap .u64 (n:Int))).isSome)=true:=by kernel_rfl
theorem ZHK {D:List Rat} (hD:∀y∈D,Sz 400 y) (hl:D.length≤12):Zog (D.map fOf)=some ((ZzY ltQ D).map fOf):=by
 have h1:ZpL (D.map fOf) 0 (D.length:Int)=fun _=>some ((ZzY ltQ D).map fOf):=by funext lim;obtain⟨k,hk⟩:=ZEn 1 (by omega);unfold ZpL Zsk;rw[hk];show ((ZqL _ _ _ _ _ _ _).bind _).bind _=_;unfold ZqL;rw[ZnI (by omega),chk_true,decide_eq_true (show (D.length:Int) - 0≤12 by omega),cond_true,ZJw hD (by omega),ZPx,ZPx];dsimp only;rw[ZPx,ZOZ,ZOZ,ZA9,decide_eq_true rfl];rfl
 have h2:=ZOR.1 ZGV D.length (List.mem_range.2 (by omega));obtain⟨n,hn⟩:=Option.isSome_iff_exists.1 h2;unfold Zog Zqw;rw[ZOZ,hn,ZPx,h1,ZPx,ZPx,ZOZ,ZA9,decide_eq_true rfl];rfl
end Go.Proofs
namespace Go.Proofs
open Go Eng
noncomputable def ZDC (l:List ZnQ):List Rat:=l.filterMap nv
noncomputable def ZCz (l:List ZnQ):List Rat:=ZzY ltQ (ZDC l)
theorem ZFL (l:List ZnQ) (c:ZnQ):ZDC (l++[c])=ZDC l++(nv c).toList:=by unfold ZDC;rw[List.filterMap_append];cases h:nv c<;>simp[h]
theorem ZFt {l:List ZnQ}:∀q∈ZDC l,Sz 4 q:=by intro q hq;obtain⟨c,_,h⟩:=List.mem_filterMap.1 hq;exact(ZGP h).2
theorem ZDK (l:List ZnQ):(ZDC l).length≤l.length:=List.length_filterMap_le _ _
theorem ZDx {l:List ZnQ}:∀q∈ZCz l,Sz 400 q:=fun q hq=>(ZFt q ((ZCm _).mem_iff.1 hq)).mono (by omega)
theorem ZCV (l:List ZnQ):(ZCz l).length≤l.length:=by unfold ZCz;rw[ZA9];exact ZDK l
def ZEK (l:List ZnQ):Prop:=∀x∈l,ZHB x
theorem ZFJ {c:ZnQ} (h:ZHB c):∃f,Zqy c=some (match nv c with |some q=>(fOf q,true) |none=>(f,false)):=by
 cases hv:nv c with
 |some q=>exact⟨fOf 0,(ZGP hv).1⟩
 |none=>exact ZJm h hv
theorem ZCA {c:ZnO} (hc:ZEK c.Cells) (hl:c.Cells.length≤12):ZpC c=some ((ZCz c.Cells).map fOf):=by
 refine ZrY ?_;unfold ZpC;rw[ZnE];refine ZnM (Zxm ZAa c.Cells (by omega) (fun i (out:List ZnC)=>(c.Cells,(c.Cells.length:Int),i,out)) (fun k out=>out=(ZDC (c.Cells.take k)).map fOf) (Q:=fun x=>x=(ZDC c.Cells).map fOf) [] (by simp[ZDC]) ?_ ?_) ?_
 ·rintro rec k out hk rfl ih;unfold ZvN Ztx ZuU;dsimp only;have hs:c.Cells.take (k+1)=c.Cells.take k++[c.Cells[k]]:=ZO6 hk;have hlen:=ZDK (c.Cells.take k);rw[ZO2]at hlen;obtain⟨f,hf⟩:=ZFJ (hc _ (ZOW hk));rw[decide_eq_true (show (k:Int) < (c.Cells.length:Int) by omega),cond_true,ZsQ hk,ZPx,hf,ZPx];rw[hs,ZFL]at ih;cases hv:nv c.Cells[k]with
  |some q=>
   rw[hv]at ih;dsimp only;rw[cond_true,ZnH,ZnH];exact⟨Zvm (by rw[ZOZ,ZO1];omega),ZnI (by omega),ih _ (by simp)⟩
  |none=>
   rw[hv]at ih;dsimp only;rw[cond_false,ZnH];exact⟨ZnI (by omega),ih _ (by simp)⟩
 ·rintro rec out rfl;unfold ZvN Ztx;dsimp only;rw[decide_eq_false (show ¬(c.Cells.length:Int) < (c.Cells.length:Int) by omega),cond_false,ZnD,ZO4]
 ·rintro _ rfl;have:=ZDK c.Cells;unfold ZwS;rw[ZHK (fun q hq=>(ZFt q hq).mono (by omega)) (by omega),ZPx,ZnD];rfl
end Go.Proofs
namespace Go.Proofs
open Go Eng
theorem ZJy {a b:List Nat} (h:iL a=iL b):a=b:=by unfold iL at h;exact List.map_inj_right (fun x y h=>by omega) |>.1 h
theorem ZIz {x y:Int} (h:bg x=bg y):x=y:=by
 have h1:(bg x).Neg=(bg y).Neg:=by rw[h]
 have h2:(bg x).Words=(bg y).Words:=by rw[h]
 rw[ZAw,ZAw,decide_eq_decide]at h1;rw[ZpN,ZpN]at h2;have h3:=ZJy h2;have h4:x.natAbs=y.natAbs:=by rw[←ZtJ x.natAbs,←ZtJ y.natAbs,h3]
 omega
theorem ZH7 {p q:Rat} (h:fOf p=fOf q):p=q:=by
 unfold fOf at h;injection h with h1 h2
 have h3:=ZIz h1;have h4:=ZIz h2;exact Rat.ext h3 (by omega)
def ZKU (x y:Int):Int:=if x < y then -1 else if x > y then 1 else 0
theorem ZDB (x y:Int):Zru x y=some (ZKU x y):=by
 unfold Zru ZxQ ZKU;rw[ZPx,ZPx,bne_self_eq_false,bne_self_eq_false,cond_false,cond_false]
 by_cases h1:x < y
 ·rw[decide_eq_true h1,if_pos h1];rfl
 ·rw[decide_eq_false h1,if_neg h1,cond_false]
  by_cases h2:x > y
  ·rw[decide_eq_true h2,if_pos h2];rfl
  ·rw[decide_eq_false h2,if_neg h2];rfl
theorem ZIu (a b:Int):ZAd [a,b]=some (if a≠0 then a else b):=by
 obtain⟨n,hn⟩:=ZEn 3 (by omega);have e0:idx [a,b] 0=some a:=rfl;have e1:idx [a,b] 1=some b:=rfl;have l:((([a,b]:List Int).length:Nat):Int)=2:=rfl;have s1:∀rec,Zut rec 0 [a,b] 2 0=if a≠0 then some (.ret a)else rec 0 [a,b] 2 1:=by
  intro rec;unfold Zut;rw[e0,show decide ((0:Int) < 2)=true from rfl,cond_true,ZPx]
  by_cases h:a=0
  ·rw[if_neg (by simp[h]),show (a != 0)=false by simp[h],cond_false];rfl
  ·rw[if_pos h,show (a != 0)=true by simpa using h,cond_true]
 have s2:∀rec,Zut rec 0 [a,b] 2 1=if b≠0 then some (.ret b)else rec 0 [a,b] 2 2:=by
  intro rec;unfold Zut;rw[e1,show decide ((1:Int) < 2)=true from rfl,cond_true,ZPx]
  by_cases h:b=0
  ·rw[if_neg (by simp[h]),show (b != 0)=false by simp[h],cond_false];rfl
  ·rw[if_pos h,show (b != 0)=true by simpa using h,cond_true]
 have s3:∀rec,Zut rec 0 [a,b] 2 2=some (.brk 0):=fun rec=>rfl
 have u:∀m t i,Zzl (m+1) 0 [a,b] t i=Zut (Zzl m) 0 [a,b] t i:=fun _ _ _=>rfl
 unfold ZAd ZBU;rw[hn,l,u (n+2),s1]
 by_cases h:a=0
 ·rw[if_neg (by simp[h]),if_neg (by simp[h]),u (n+1),s2]
  by_cases h2:b=0
  ·rw[if_neg (by simp[h2]),u n,s3,h2];rfl
  ·rw[if_pos h2];rfl
 ·rw[if_pos h,if_pos h];rfl
noncomputable def qOf (f:ZnC):Rat:= @dite _ (∃q,f=fOf q) (Classical.propDecidable _) (fun h=>h.choose) (fun _=>0)
theorem ZEU (q:Rat):qOf (fOf q)=q:=by have h:∃p,fOf q=fOf p:=⟨q,rfl⟩;unfold qOf;rw[dif_pos h];exact(ZH7 h.choose_spec).symm
def ZEy (a b:ZqW):Int:=if a.Table < b.Table then -1 else if b.Table < a.Table then 1 else if a.Column < b.Column then -1 else if b.Column < a.Column then 1 else 0
theorem ZGU (a b:ZqW):Zz9 a b=some (decide (ZEy a b < 0)):=by
 unfold Zz9;rw[ZDB,ZPx,ZDB,ZPx,ZIu,ZPx];have h:((if ZKU a.Table b.Table≠0 then ZKU a.Table b.Table else ZKU a.Column b.Column) < 0)↔ZEy a b < 0:=by
  unfold ZEy ZKU
  repeat' split
  all_goals omega
 rw[decide_eq_decide.2 h]
theorem ZF0 (a b:ZqW):ZEy b a= - ZEy a b:=by
 unfold ZEy
 repeat' split
 all_goals omega
theorem ZJf (a b:ZqW):ZA0 a b=some (ZEy a b):=by
 have hn:=ZF0 a b;have hr:ZEy a b= -1∨ZEy a b=0∨ZEy a b=1:=by
  unfold ZEy
  repeat' split
  all_goals omega
 unfold ZA0;rw[ZGU,ZPx]
 by_cases h:ZEy a b < 0
 ·rw[decide_eq_true h,cond_true];congr 1;omega
 ·rw[decide_eq_false h,cond_false,ZGU,ZPx]
  by_cases h2:ZEy b a < 0
  ·rw[decide_eq_true h2,cond_true];congr 1;omega
  ·rw[decide_eq_false h2,cond_false];congr 1;omega
theorem ZLe {a b:ZqW} (h:ZEy a b=0):a=b:=by
 obtain⟨t,c⟩:=a;obtain⟨t',c'⟩:=b;unfold ZEy at h;dsimp only at h;have:t=t'∧c=c':=by
  repeat' split at h
  all_goals omega
 rw[this.1,this.2]
theorem ZGg {a b c:ZqW} (h1:ZEy a b < 0) (h2:ZEy b c < 0):ZEy a c < 0:=by
 unfold ZEy at*
 repeat' split at h1
 all_goals first |omega |skip
 all_goals (repeat' split at h2)
 all_goals first |omega |skip
 all_goals (repeat' split)
 all_goals omega
abbrev En1:=Zpm
noncomputable def ZAf (a b:En1):Int:=if ZDN (qOf b.Score) (qOf a.Score)≠0 then ZDN (qOf b.Score) (qOf a.Score)else ZEy a.Ref b.Ref
noncomputable def ltE (a b:En1):Bool:=decide (ZAf a b < 0)
class Gdm (x:En1):Prop where
 ok:∃q,x.Score=fOf q∧Sz 400 q
class Gds (d:List En1):Prop where
 all:∀e∈d,Gdm e
instance {d:List En1} [Gds d] {i:Nat} {h:i < d.length}:Gdm (d[i]'h):=Gds.all _ (ZOW h)
theorem Gds.at {d:List En1} [Gds d] {i:Nat} {p:En1} (h:d[i]? =some p):Gdm p:=Gds.all _ (List.mem_of_getElem? h)
theorem Gds.perm {D d:List En1} [Gds D] (h:d.Perm D):Gds d:=⟨fun e he=>Gds.all _ (h.mem_iff.1 he)⟩
theorem ZyM (a b:En1) [ha:Gdm a] [hb:Gdm b]:Zos a b=some (ZAf a b):=by obtain⟨p,ep,hp⟩:=ha.ok;obtain⟨q,eq,hq⟩:=hb.ok;unfold ZAf Zos ZAS;rw[ep,eq,ZFr (hq.wq (by omega)) (hp.wq (by omega)),ZPx,ZPx,ZJf,ZPx,ZIu,ZPx,ZEU,ZEU]
theorem ZER (a b:Rat):ZDN b a= - ZDN a b:=by unfold ZDN;split<;>split<;>grind
theorem ZDa (a b:En1):ZAf b a= - ZAf a b:=by have h:=ZER (qOf a.Score) (qOf b.Score);have h2:=ZF0 a.Ref b.Ref;unfold ZAf;split<;>split<;>omega
theorem ZET (a b:Rat):ZDN a b < 0↔a < b:=by
 unfold ZDN;split
 ·rename_i h;exact⟨fun _=>h,fun _=>by decide⟩
 ·split
  ·rename_i h1 h2;exact⟨fun h=>by omega,fun h=>absurd h h1⟩
  ·rename_i h1 h2;exact⟨fun h=>by omega,fun h=>absurd h h1⟩
theorem ZGL {a b:Rat} (h:ZDN a b=0):a=b:=by
 unfold ZDN at h;split at h
 ·omega
 ·split at h
  ·omega
  ·rename_i h1 h2;exact Rat.le_antisymm (Rat.not_lt.1 h2) (Rat.not_lt.1 h1)
theorem ZGl {a b c:En1} (h1:ZAf a b < 0) (h2:ZAf b c < 0):ZAf a c < 0:=by
 unfold ZAf at*
 by_cases e1:ZDN (qOf b.Score) (qOf a.Score)=0
 ·rw[if_neg (by simp[e1])]at h1;have e1':=ZGL e1
  by_cases e2:ZDN (qOf c.Score) (qOf b.Score)=0
  ·rw[if_neg (by simp[e2])]at h2;rw[←e1',if_neg (by simp[e2])];exact ZGg h1 h2
  ·rw[if_pos e2]at h2;rw[←e1',if_pos e2];exact h2
 ·rw[if_pos e1]at h1
  by_cases e2:ZDN (qOf c.Score) (qOf b.Score)=0
  ·rw[ZGL e2,if_pos e1];exact h1
  ·rw[if_pos e2]at h2;rw[ZET]at h1 h2;have h3:qOf c.Score < qOf a.Score:=by grind
   have h4:=(ZET _ _).2 h3;rw[if_pos (by omega)];exact h4
theorem ZLl {a b:En1} (h:ZAf a b=0):qOf b.Score=qOf a.Score∧a.Ref=b.Ref:=by
 unfold ZAf at h
 by_cases e1:ZDN (qOf b.Score) (qOf a.Score)=0
 ·rw[if_neg (by simp[e1])]at h;exact⟨ZGL e1,ZLe h⟩
 ·rw[if_pos e1]at h;exact absurd h e1
theorem ZIs {a b c:En1} (h:ZAf a b=0):ZAf a c=ZAf b c:=by obtain⟨h1,h2⟩:=ZLl h;unfold ZAf;rw[h1,h2]
end Go.Proofs
