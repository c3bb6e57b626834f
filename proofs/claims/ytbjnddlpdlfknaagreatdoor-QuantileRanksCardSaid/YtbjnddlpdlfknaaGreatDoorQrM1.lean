/- Plain laws over the specs, part 1. -/
import Derived.Test.YtbjnddlpdlfknaaGreatDoorQrM0
import Derived.Test.YtbjnddlpdlfknaaGreatDoorE4
import Derived.Lib.Mul64
set_option linter.unusedVariables false
set_option linter.unusedSimpArgs false
set_option linter.unusedSectionVars false
open Bool renaming not_true→ZA9
open Int renaming toNat_natCast→ZDr, natAbs_natCast→ZDn, natAbs_mul→ZDm, natAbs_neg→ZDo, natCast_add→ZDp, natCast_mul→ZDq
open List renaming length_map→ZDz, getD_eq_getElem?_getD→ZDs, length_take→ZDB, getElem?_eq_getElem→ZDt, length_singleton→ZDA, getElem_mem→ZDx, mem_cons→ZDC, take_of_length_le→ZDF, length_drop→ZDy, getElem_map→ZDw, not_mem_nil→ZDD, take_length→ZDE, getElem?_eq_none→ZDu, getElem_cons_drop→ZDv
open Nat renaming le_trans→ZDO, pow_succ→ZD4, gcd→ZDL, mul_add→ZDU, mul_assoc→ZDV, mod_lt→ZDT, le_refl→ZDN, mul_comm→ZDW, pow_zero→ZD5, mul_le_mul_right→ZDY, div_le_self→ZDK, lt_of_le_of_lt→ZDP, one_mul→ZD0, lt_or_ge→ZDR, pow_le_pow_right→ZD3, pow_add→ZD2, le_of_lt→ZDM, two_pow_pos→ZD7, mul_le_mul→ZDX, mul_left_comm→ZDZ, div_add_mod→ZDI, pos_of_ne_zero→ZD1, lt_of_lt_of_le→ZDQ, min_eq_left→ZDS, add_mul_div_left→ZDG, div_eq_of_lt→ZDJ, add_mul_mod_self_left→ZDH, two_pow_add_eq_or_of_lt→ZD6
open Option renaming bind_some→ZD8
namespace Go.Proofs
open Go Eng
def Sz (k:Nat) (q:Rat):Prop:=q.num.natAbs < 2 ^ k∧q.den < 2 ^ k
theorem Sz.mono {k l:Nat} {q:Rat} (h:Sz k q) (hl:k≤l):Sz l q:=⟨ZDQ h.1 (ZD3 (by decide) hl),ZDQ h.2 (ZD3 (by decide) hl)⟩
theorem Zxx {n k:Nat} (h:n < 2 ^ k) (m:Nat) (hk:k≤32*m):(wd n).length≤m:=by refine ZuQ (ZDQ h ?_);rw[show Bw=2 ^ 32 from rfl,←Nat.pow_mul];exact ZD3 (by decide) hk
theorem Sz.wq {k:Nat} {q:Rat} (h:Sz k q) (hk:k≤8192):Wq 256 q:=⟨Zxx h.1 256 (by omega),Zxx (n:=(q.den:Int).natAbs) (by rw[ZDn];exact h.2) 256 (by omega)⟩
theorem Zwc {x y:Int} {k:Nat} (hy:y≠0) (h1:x.natAbs < 2 ^ k) (h2:y.natAbs < 2 ^ k):Sz k (Rat.divInt x y):=by
 unfold Sz;rw[Rat.num_divInt,Rat.den_divInt,if_neg hy];refine⟨ZDP ?_ h1,ZDP (ZDK _ _) h2⟩;have hd:((Int.gcd y x:Nat):Int)∣y.sign*x:=Int.dvd_trans (Int.gcd_dvd_right y x) (Int.dvd_mul_left _ _);rw[Int.natAbs_ediv_of_dvd hd,ZDm];refine ZDO (ZDK _ _) ?_;have:y.sign.natAbs=1:=by rw[Int.natAbs_sign_of_ne_zero hy]
 rw[this,ZD0];exact ZDN _
theorem ZwL {x y k l:Nat} (hx:x < 2 ^ k) (hy:y < 2 ^ l):x*y < 2 ^ (k+l):=by rw[ZD2];exact Nat.mul_lt_mul_of_lt_of_le hx (ZDM hy) (ZD7 _)
theorem Zyr (a b:Rat):Rat.divInt (a.num*(b.den:Int)+b.num*(a.den:Int)) ((a.den:Int)*(b.den:Int))=a+b:=by have h1:=a.den_nz;have h2:=b.den_nz;rw[←Rat.divInt_add_divInt _ _ (by omega) (by omega),Rat.num_divInt_den,Rat.num_divInt_den]
theorem Sz.add {a b:Rat} {k l:Nat} (ha:Sz k a) (hb:Sz l b):Sz (k+l+1) (a+b):=by
 rw[←Zyr];have h1:=a.den_nz;have h2:=b.den_nz;have q1:=ZwL ha.1 hb.2;have q2:=ZwL ha.2 hb.1;have q3:=ZwL ha.2 hb.2;have hp:=ZD7 (k+l);refine Zwc (Int.mul_ne_zero (by omega) (by omega)) ?_ ?_
 ·rw[ZD4];refine ZDP (Int.natAbs_add_le _ _) ?_;rw[ZDm,ZDm,ZDn,ZDn,ZDW b.num.natAbs];omega
 ·rw[ZD4,ZDm,ZDn,ZDn];omega
theorem ZCU {q:Rat} (h:Wq 256 q):decide ((if ((fOf q).Den.Words.length:Int) > ((fOf q).Num.Words.length:Int)then ((fOf q).Den.Words.length:Int)else ((fOf q).Num.Words.length:Int)) > 256)=false:=by have h1:=h.1;have h2:=h.2;unfold Wl at h1 h2;refine decide_eq_false ?_;unfold fOf;rw[ZoO,ZoO,ZnN,ZnN];split<;>omega
theorem Zw8 {y:Int} (hy:y≠0):(((bg y).Words.length:Int) == 0)=false:=by have:=ZqA (n:=y.natAbs) (by omega);rw[ZoO,ZnN];exact beq_eq_false_iff_ne.2 (by omega)
end Go.Proofs
namespace Go.Proofs
open Go Eng
theorem ZxW (z:Int):ZrJ (bg z)=some (bg (-z)):=by
 unfold ZrJ ZrS;rw[Zu0,ZoO,ZnN]
 by_cases hz:z < 0
 ·rw[decide_eq_true hz,ZA9,cond_false];unfold bg;rw[ZDo,decide_eq_false (by omega:¬ -z < 0)]
 ·rw[decide_eq_false hz,Bool.not_false,cond_true];unfold bg;rw[ZDo];congr 2
  by_cases h0:z=0
  ·subst h0;rw[show (0:Int).natAbs=0 from rfl,Zsd];rfl
  ·have:=ZqA (n:=z.natAbs) (by omega);rw[decide_eq_true (by omega),decide_eq_true (by omega)]
theorem Sz.neg {q:Rat} {k:Nat} (h:Sz k q):Sz k (-q):=by show (-q.num).natAbs < 2 ^ k∧q.den < 2 ^ k;rw[ZDo];exact h
def Zxe (a b:Rat):Int:=if a < b then -1 else if b < a then 1 else 0
theorem ZwV (a b:Rat):a < b↔a.num*(b.den:Int) < b.num*(a.den:Int):=Rat.lt_iff a b
theorem Zxu {a b:Rat} (qa:Wq 256 a) (qb:Wq 256 b):ZpY (fOf a) (fOf b)=some (Zxe a b):=by
 have w:∀{x y:Int},Wl 256 x→Wl 256 y→Wl 50000 (x*y):=fun hx hy=>by unfold Wl;rw[ZDm];exact ZDO (Zx0 hx hy) (by decide)
 have m:∀{x:Int},Wl 256 x→Wl 50000 x:=fun h=>ZDO h (by decide)
 unfold ZpY;rw[Zx3 a qa,ZD8,ZA9,cond_false,Zx3 b qb,ZD8,ZA9];unfold Zt0;rw[cond_false];show ((Zpl (bg a.num) (bg (b.den:Int))).bind fun q=>(Zpl (bg b.num) (bg (a.den:Int))).bind _)=_;rw[Zxl _ _ (m qa.1) (m qb.2),ZD8,Zxl _ _ (m qb.1) (m qa.2),ZD8,ZxW,ZD8];have w2:Wl 50000 (-(b.num*(a.den:Int))):=by unfold Wl;rw[ZDo];exact w qb.1 qa.2
 rw[ZA0 _ _ (w qa.1 qb.2) w2,ZD8,Zu0,ZoO,ZnN];unfold Zxe;have h1:=ZwV a b;have h2:=ZwV b a;generalize a.num*(b.den:Int)=x at*
 generalize b.num*(a.den:Int)=y at*
 by_cases hl:a < b
 ·rw[if_pos hl,decide_eq_true (by have:=h1.1 hl;omega),cond_true]
 ·have hn:¬x < y:=fun h=>hl (h1.2 h)
  rw[if_neg hl,decide_eq_false (by omega),cond_false]
  by_cases hg:b < a
  ·have:=ZqA (n:=(x+ -y).natAbs) (by have:=h2.1 hg;omega);rw[if_pos hg,decide_eq_true (by omega),cond_true]
  ·have hn2:¬y < x:=fun h=>hg (h2.2 h)
   rw[if_neg hg,show x+ -y=0 by omega,show (0:Int).natAbs=0 from rfl,Zsd];rfl
theorem ZAr (x y:Int) (hy:y≠0) (hx1:Wl 256 x) (hy1:Wl 256 y):ZtN (bg x) (bg y)=some (fOf (Rat.divInt x y),0):=by
 have hb:=ZyY [x,y] (by simp) (fun z hz=>by
  simp only[ZDC,ZDD,or_false]at hz;rcases hz with rfl |rfl
  ·exact hx1
  ·exact hy1)
 unfold ZtN;rw[show ([bg x,bg y]:List ZnE)=[x,y].map bg from rfl,hb,ZD8,ZA9,cond_false,Zw8 hy,cond_false,Zxk _ _ hy (ZDO hx1 (by decide)) (ZDO hy1 (by decide)),ZD8]
theorem ZCL {z:Int} (h1: -9223372036854775808≤z) (h2:z≤9223372036854775807):Wl 256 z:=ZDO (ZAs (by omega)) (by decide)
theorem ZBb (x y:Int) (hy:y≠0) (h1: -9223372036854775808≤x) (h2:x≤9223372036854775807) (h3: -9223372036854775808≤y) (h4:y≤9223372036854775807):ZtZ x y=some (fOf (Rat.divInt x y),0):=by unfold ZtZ;rw[Zxr x h1 h2,ZD8,Zxr y h3 h4,ZD8,ZAr x y hy (ZCL h1 h2) (ZCL h3 h4),ZD8]
theorem Zz9:Zvn=some (fOf 0):=by unfold Zvn;rw[ZBb 0 1 (by decide) (by decide) (by decide) (by decide) (by decide),ZD8,Rat.zero_divInt]
theorem Zzj (x y:Int) (hy:y≠0) (h1: -9223372036854775808≤x) (h2:x≤9223372036854775807) (h3: -9223372036854775808≤y) (h4:y≤9223372036854775807):ZwA x y=some (fOf (Rat.divInt x y)):=by unfold ZwA;rw[ZBb x y hy h1 h2 h3 h4,ZD8];rfl
end Go.Proofs
namespace Go.Proofs
open Go Eng
theorem Zx5:∀n w,Zoo n w=ZoH n w
 |0,_=>rfl
 |n+1,w=>by have:Zoo n=ZoH n:=funext (Zx5 n);show Ztp (Zoo n) w=Zrp (ZoH n) w;rw[this];rfl
theorem Zyf (w:List Int):ZnU w=ZnV w:=by unfold ZnU ZnV;rw[Zx5];rfl
theorem Zwp {l:List Nat} (h:Dg l) (hl:l.length≤1000000):ZnU (iL l)=some (iL (wd (val l))):=by rw[Zyf,ZvR h hl]
theorem Zwo (neg:Bool) {l:List Nat} (h:Dg l) (hl:l.length≤1000000):ZnO neg (iL l)=some (bg (if neg then -(val l:Int)else val l)):=by
 unfold ZnO ZqP;rw[Zwp h hl,ZD8,ZnN];unfold bg;cases neg with
 |true=>
  rw[cond_true,if_pos rfl,ZDo,ZDn];congr 2
  by_cases h0:val l=0
  ·rw[h0,Zsd];rfl
  ·have:=ZqA h0;rw[decide_eq_true (by omega),decide_eq_true (by omega)]
 |false=>rw[cond_false,if_neg (by decide),ZDn,decide_eq_false (by omega)]
theorem ZuP (a:ZnE):Zoe a=ZqJ a:=rfl
end Go.Proofs
namespace Go.Proofs
open Go Eng
theorem Zxb (a b:Nat) (ha:(wd a).length≤100000) (hb:(wd b).length≤100000):Zn4 (iL (wd a)) (iL (wd b))=some (Zxn a b):=by
 refine Zqv ?_;unfold Zn4;rw[ZnN,ZnN,Zn5];refine⟨fun h=> ?_,fun h=> ?_⟩
 ·have hne:(wd a).length≠(wd b).length:=fun e=>by rw[e]at h;simp at h
  rw[Zn5];refine⟨fun h=> ?_,fun h=> ?_⟩
  ·have h1:(wd a).length < (wd b).length:=by have:=of_decide_eq_true h;omega
   rw[ZnC,ZuN (Zxp h1)]
  ·have h1:(wd b).length < (wd a).length:=by have:=of_decide_eq_false h;omega
   rw[ZnC,ZuA (Zxp h1)]
 ·have hl:(wd a).length=(wd b).length:=by simp only[bne_eq_false_iff_eq]at h;omega
  rw[ZnF,ZnD];refine⟨ZnG (by omega), ?_⟩;refine ZnT (ZwH Zvf (wd a).length (by omega) (fun i (s:Unit)=>(iL (wd a),iL (wd b),i)) (fun k _=>(wd a).drop k=(wd b).drop k)
   (Q:=fun r=>r= .ret (Zxn a b)∨r= .brk ()∧a=b) () (by rw[List.drop_length,hl,List.drop_length]) ?_ ?_) ?_
  ·rintro rec k ⟨⟩ hk hP ih;have hk2:k < (wd b).length:=by omega
   unfold ZrB Zp4;dsimp only;rw[Zn5];refine⟨fun _=> ?_,fun h=>by have:=of_decide_eq_false h;omega⟩;have ha:=Zvp hk;have hb:=Zvp hk2;rw[ZqK]at ha hb;have la:val ((wd a).take k) < Bw ^ k:=by have:=Zt1 ((Ztb a).take k);rwa [ZDB,ZDS (by omega)]at this
   have lb:val ((wd b).take k) < Bw ^ k:=by have:=Zt1 ((Ztb b).take k);rwa [ZDB,ZDS (by omega)]at this
   rw[Zsc hk,ZnD,ZnC,Zsc hk2,ZnD,ZnC,Zn5];refine⟨fun hc=> ?_,fun hc=> ?_⟩
   ·have h1:(wd a)[k] < (wd b)[k]:=by have:=of_decide_eq_true hc;omega
    have:a < b:=by rw[ha,hb,hP];exact Zxy (A:=0) (B:=0) la (by omega)
    rw[ZnC];exact .inl (by rw[ZuN this])
   ·rw[ZnD,ZnC,ZnD,ZnC,Zn5];refine⟨fun hc2=> ?_,fun hc2=> ?_⟩
    ·have h1:(wd b)[k] < (wd a)[k]:=by have:=of_decide_eq_true hc2;omega
     have:b < a:=by rw[ha,hb,hP];exact Zxy (A:=0) (B:=0) lb (by omega)
     rw[ZnC];exact .inl (by rw[ZuA this])
    ·rw[ZnF];refine⟨ZnG (by omega),ih () ?_⟩;have h1:(wd a)[k]=(wd b)[k]:=by have q1:=of_decide_eq_false hc;have q2:=of_decide_eq_false hc2;omega
     rw[←ZDv (h:=hk),←ZDv (h:=hk2),h1,hP]
  ·rintro rec ⟨⟩ hP;unfold ZrB Zp4;dsimp only;rw[Zn5];refine⟨fun h=>by have:=of_decide_eq_true h;omega,fun _=> ?_⟩;rw[ZnC];rw[List.drop_zero,List.drop_zero]at hP;exact .inr ⟨rfl,by rw[←ZqK a,←ZqK b,hP]⟩
  ·rintro r (rfl |⟨rfl,rfl⟩)
   ·exact ZnC.2 rfl
   ·unfold Zsn;exact ZnC.2 (ZtS a).symm
theorem ZxU {a:Nat} (k:Nat) (hk:k≤32):shlK .u32 (a:Int) (k:Int)=((a*2 ^ k % 4294967296:Nat):Int):=by
 unfold shlK;rw[ZDr,show IntKind.bits .u32=32 from rfl,ZDS (by omega)];have e:(a:Int)*(2:Int) ^ k=((a*2 ^ k:Nat):Int):=by push_cast;rfl
 rw[e,ZsH]
theorem Zx4 (a d:Nat) (hd:d≤1) (ha:(wd a).length≤100000):ZoX (iL (wd a)) (d:Int)=some (iL (wd (2*a+d))):=by
 refine Zqv ?_;unfold ZoX;rw[ZnD];refine ZnT (Zr3 ZuR (wd a).length (by omega) (fun i (s:Nat×List Nat)=>(iL (wd a),(s.1:Int),i,iL s.2)) (fun i s=>s.1≤1∧s.2.length=i∧Dg s.2∧val s.2+Bw ^ i*s.1=2*val ((wd a).take i)+d)
  (Q:=fun y=>∃(c:Nat) (o:List Nat),y=((c:Int),iL o)∧c≤1∧Dg o∧o.length=(wd a).length∧val o+Bw ^ (wd a).length*c=2*a+d) (d,[]) ⟨hd,rfl,Zwm,by simp[val]⟩ ?_ ?_) ?_
 ·rintro rec i ⟨c,o⟩ hi ⟨hc,hl,hod,hv⟩ ih;dsimp only at hc hl hod hv ih;have h1:=(Ztb a).get hi;unfold Zq5 ZpF;dsimp only;rw[Zn5,ZnN];refine⟨fun _=> ?_,fun h=>by have:=of_decide_eq_false h;omega⟩;rw[Zsc hi,ZnD,ZnC];generalize ex:(wd a)[i]=x at h1;have eor:orK .u32 (shlK .u32 (x:Int) 1) (c:Int)=((c+x*2 ^ 1 % Bw:Nat):Int):=by rw[show (1:Int)=((1:Nat):Int)from rfl,ZxU 1 (by omega),ZxL (ZDT _ (by decide)) (by omega),Nat.or_comm];congr 1;exact ZxB (by decide) (by omega) h1
  have esh:shrK .u32 (x:Int) 31=((x / 2 ^ 31:Nat):Int):=Zwt 31 (by omega);rw[eor,ZD8,esh,ZnF,ZnF,ZnF,ZnF,ZnN];have hx:c+x*2 ^ 1 % Bw < Bw:=by simp only[Bw]at h1⊢;omega
  refine⟨by decide,Ztl (by simp only[ZDA];omega),by decide,ZnG (by omega), ?_⟩;have:=ih (x / 2 ^ 31,o++[c+x*2 ^ 1 % Bw]) ⟨by simp only[Bw]at h1;dsimp only;omega,by simp[hl],hod.app (ZvP hx), ?_⟩
  ·rw[Zw5]at this;exact this
  ·dsimp only;have q:c+x*2 ^ 1 % Bw+Bw*(x / 2 ^ 31)=c+2*x:=by simp only[Bw]at h1⊢;omega
   have q2:Bw ^ i*(c+x*2 ^ 1 % Bw+Bw*(x / 2 ^ 31))=Bw ^ i*(c+2*x):=by rw[q]
   have q3:Bw ^ i*(2*x)=2*(Bw ^ i*x):=ZDZ _ _ _;rw[ZDU,ZDU (Bw ^ i) c (2*x),q3]at q2;rw[Ztm,hl,Zn0 hi,ex];generalize c+x*2 ^ 1 % Bw=dg at*
   generalize x / 2 ^ 31=cy at*
   rw[ZD4,ZDV];omega
 ·rintro rec ⟨c,o⟩ ⟨hc,hl,hod,hv⟩;dsimp only at hc hl hod hv;unfold Zq5 ZpF;dsimp only;rw[Zn5,ZnN];refine⟨fun h=>by have:=of_decide_eq_true h;omega,fun _=> ?_⟩;rw[ZnC];rw[ZDE,ZqK]at hv;exact⟨c,o,rfl,hc,hod,hl,hv⟩
 ·rintro y ⟨c,o,rfl,hc,hod,hl,hv⟩;dsimp only;unfold Zru;have e:iL o++[(c:Int)]=iL (o++[c]):=by rw[Zw5];rfl
  rw[ZnF,ZnN,e,Zwp (hod.app (ZvP (by simp only[Bw];omega))) (by simp;omega),ZnD,ZnC,ZnC,Ztm,hl,hv];exact⟨Ztl (by simp only[ZDA];omega),rfl⟩
end Go.Proofs
namespace Go.Proofs
open Go Eng
theorem ZAe (t:Int):shrK .i64 t 32=t / 4294967296:=by unfold shrK;rw[show min (32:Int).toNat (IntKind.bits .i64)=32 from by decide,Int.fdiv_eq_ediv_of_nonneg _ (by decide)];rfl
theorem Zw0 (a b:Nat) (hab:b≤a) (ha:(wd a).length≤100000):Zox (iL (wd a)) (iL (wd b))=some (iL (wd (a - b))):=by
 have hlb:(wd b).length≤(wd a).length:=ZrU hab;refine Zqv ?_;unfold Zox;rw[ZnD];refine ZnT (Zr3 Zvb (wd a).length (by omega) (fun i (s:Nat×List Nat)=>(iL (wd a),iL (wd b), -(s.1:Int),i,iL s.2)) (fun i s=>s.1≤1∧s.2.length=i∧Dg s.2∧val ((wd a).take i)+Bw ^ i*s.1=val s.2+val ((wd b).take i))
  (Q:=fun y=>∃(o:List Nat),y=iL o∧Dg o∧o.length=(wd a).length∧val o=a - b) (0,[]) ⟨by simp,rfl,Zwm,by simp[val]⟩ ?_ ?_) ?_
 ·rintro rec i ⟨c,o⟩ hi ⟨hc,hl,hd,hv⟩ ih;dsimp only at hc hl hd hv ih;have h1:=(Ztb a).get hi;have h2:=Zww (Ztb b) i;have ey0:(wd b).getD i 0=(if i < (wd b).length then (wd b).getD i 0 else 0):=by
   by_cases h:i < (wd b).length
   ·rw[if_pos h]
   ·rw[if_neg h,ZDs,ZDu (by omega)];rfl
  have fin:∀y:Nat,(wd b).getD i 0=y→wp (Zpu (fun a b c i out=>rec (a,b,c,i,out)) (iL (wd a)) (iL (wd b)) (-(c:Int)+((wd a)[i]:Int) - (y:Int)) (i:Int) (iL o)) (fun y=>∃(o:List Nat),y=iL o∧Dg o∧o.length=(wd a).length∧val o=a - b):=fun y ey=>by
   rw[ey]at h2;generalize ex:(wd a)[i]=x at h1;have ew:IntKind.wrap .u32 (-(c:Int)+(x:Int) - (y:Int))=(((x+4294967296 - y - c) % 4294967296:Nat):Int):=by simp only[Bw]at h1 h2;rw[IntKind.wrap_u32];omega
   have es:shrK .i64 (-(c:Int)+(x:Int) - (y:Int)) 32= -(((if x < y+c then 1 else 0):Nat):Int):=by simp only[Bw]at h1 h2;rw[ZAe];split<;>omega
   unfold Zpu;rw[ew,es,ZnF,ZnF,ZnF,ZnN];refine⟨Ztl (by simp only[ZDA];omega),by decide,ZnG (by omega), ?_⟩;have:=ih ((if x < y+c then 1 else 0),o++[(x+4294967296 - y - c) % 4294967296]) ⟨by dsimp only;split<;>omega,by simp[hl],hd.app (ZvP (ZDT _ (by decide))), ?_⟩
   ·rw[Zw5]at this;exact this
   ·dsimp only;rw[Ztm,hl,ZD4,Zn0 hi,ZtU,ex,ey,ZDV];have e:x+Bw*(if x < y+c then 1 else 0)=(x+4294967296 - y - c) % 4294967296+y+c:=by simp only[Bw]at h1 h2⊢;split<;>omega
    have e2:Bw ^ i*(x+Bw*(if x < y+c then 1 else 0))=Bw ^ i*((x+4294967296 - y - c) % 4294967296+y+c):=by rw[e]
    rw[ZDU,ZDU,ZDU]at e2;omega
  unfold Zrv Zp0;dsimp only;rw[Zn5,ZnN,ZnN];refine⟨fun _=> ?_,fun h=>by have:=of_decide_eq_false h;omega⟩;have wx:IntKind.wrap .i64 ((wd a)[i]:Int)=((wd a)[i]:Int):=wrap_i64 (by simp only[Bw]at h1;omega);rw[Zsc hi,ZnD,ZnC,wx,ZnF,Zn5];refine⟨ZnG (by simp only[Bw]at h1;omega),fun h=> ?_,fun h=> ?_⟩
  ·have hib:i < (wd b).length:=by have:=of_decide_eq_true h;omega
   have hy:=(Ztb b).get hib;have wy:IntKind.wrap .i64 ((wd b)[i]:Int)=((wd b)[i]:Int):=wrap_i64 (by simp only[Bw]at hy;omega);rw[Zsc hib,ZnD,ZnC,wy,ZnF];refine⟨ZnG (by simp only[Bw]at h1 hy;omega),fin _ ?_⟩;rw[ZDs,ZDt hib];rfl
  ·have hib:¬i < (wd b).length:=by have:=of_decide_eq_false h;omega
   have:=fin 0 (by rw[ey0,if_neg hib]);rw[Int.natCast_zero,Int.sub_zero]at this;exact this
 ·rintro rec ⟨c,o⟩ ⟨hc,hl,hd,hv⟩;unfold Zrv Zp0;dsimp only at hc hl hd hv⊢
  rw[Zn5,ZnN];refine⟨fun h=>by have:=of_decide_eq_true h;omega,fun _=> ?_⟩;rw[ZnC];rw[ZDE,ZDF (by omega),ZqK,ZqK]at hv;have:=Zt1 hd;rw[hl]at this;have hc0:c=0:=by
   rcases Nat.eq_zero_or_pos c with h |h
   ·exact h
   ·have:c=1:=by omega
    rw[this,Nat.mul_one]at hv;omega
  rw[hc0,Nat.mul_zero]at hv;exact⟨o,rfl,hd,hl,by omega⟩
 ·rintro y ⟨o,rfl,hd,hl,hv⟩;unfold Zse;rw[Zwp hd (by omega),ZnD,ZnC,ZnC,hv]
end Go.Proofs
namespace Go.Proofs
open Go Eng
theorem ZwW (a:Nat) (ha:(wd a).length≤100000):Zot (iL (wd a))=some (iL (wd (a / 2))):=by
 refine Zqv ?_;unfold Zot;rw[List.nil_append,ZnF,ZnD,ZnN];refine⟨Ztl (by rw[List.length_nil];omega), ?_⟩;refine ZnT (Zr3 Zu3 (wd a).length (by omega) (fun i (o:List Nat)=>(iL (wd a),((wd a).length:Int),i,iL (o++(wd a).drop o.length))) (fun i o=>o.length=i∧Dg o∧val o*2+(wd a).getD 0 0 % 2=val ((wd a).take i)+Bw ^ i*((wd a).getD i 0 % 2))
  (Q:=fun y=>∃(o:List Nat),y=iL o∧Dg o∧o.length=(wd a).length∧val o=a / 2) [] ⟨rfl,Zwm,by simp[val]⟩ ?_ ?_) ?_
 ·rintro rec i o hi ⟨hol,hod,hov⟩ ih;have h1:=(Ztb a).get hi;have hyB:=Zww (Ztb a) (i+1);have hlen:(o++(wd a).drop o.length).length=(wd a).length:=by simp;omega
  have gx:(iL (o++(wd a).drop o.length))[i]? =some ((wd a)[i]:Int):=by rw[Zwk (by omega)];congr 2;rw[List.getElem_append_right (by omega)];simp[hol]
  have fin:∀z:Nat,z=(wd a)[i] / 2+(wd a).getD (i+1) 0*2 ^ 31 % Bw→wp (Zpb (fun a t9 i out=>rec (a,t9,i,out)) (iL (wd a)) ((wd a).length:Int) (i:Int) (iL ((o++(wd a).drop o.length).set i z))) (fun y=>∃(o:List Nat),y=iL o∧Dg o∧o.length=(wd a).length∧val o=a / 2):=fun z hz=>by
   unfold Zpb;have es:(o++(wd a).drop o.length).set i z=(o++[z])++(wd a).drop (o++[z]).length:=by rw[List.set_append_right _ _ (by omega),hol,Nat.sub_self,←ZDv (h:=hi),List.set_cons_zero];simp[hol]
   have eg:(wd a).getD i 0=(wd a)[i]:=by rw[ZDs,ZDt hi];rfl
   rw[eg]at hov;rw[ZnF,es];generalize ex:(wd a)[i]=x at*
   generalize ey:(wd a).getD (i+1) 0=y at*
   have hzB:z < Bw:=by simp only[Bw]at h1 hz⊢;omega
   refine⟨ZnG (by omega),ih (o++[z]) ⟨by simp[hol],hod.app (ZvP hzB), ?_⟩⟩;have hd1:z*2+x % 2=x+Bw*(y % 2):=by simp only[Bw]at h1 hz⊢;omega
   have q1:Bw ^ i*(z*2+x % 2)=Bw ^ i*(x+Bw*(y % 2)):=by rw[hd1]
   rw[ZDU,ZDU]at q1;rw[Ztm,hol,Zn0 hi,ex,ZD4,Nat.add_mul,ZDV,ZDV];omega
  unfold Zrm ZpW;dsimp only;rw[Zn5];refine⟨fun _=> ?_,fun h=>by have:=of_decide_eq_false h;omega⟩;have esh:shrK .u32 ((wd a)[i]:Int) 1=(((wd a)[i] / 2:Nat):Int):=Zwt 1 (by omega);rw[ZDr,gx,ZnF,ZnD,ZnC,ZnF,ZnF,ZnF,esh,ZvF,ZnN,ZnN,hlen,Zn5];refine⟨ZqZ ⟨by omega,by omega⟩,by decide,ZqZ ⟨by omega,by omega⟩,ZnG (by omega),fun h=> ?_,fun h=> ?_⟩
  ·have hi2:i+1 < (wd a).length:=by have:=of_decide_eq_true h;omega
   have gz:(iL ((o++(wd a).drop o.length).set i ((wd a)[i] / 2)))[i]? =some (((wd a)[i] / 2:Nat):Int):=by rw[Zwk (by rw[List.length_set];omega),List.getElem_set_self]
   have e1:(i:Int)+1=((i+1:Nat):Int):=rfl;have eg:(wd a).getD (i+1) 0=(wd a)[i+1]:=by rw[ZDs,ZDt hi2];rfl
   have eor:orK .u32 (((wd a)[i] / 2:Nat):Int) (shlK .u32 ((wd a)[i+1]:Int) 31)=(((wd a)[i] / 2+(wd a).getD (i+1) 0*2 ^ 31 % Bw:Nat):Int):=by rw[eg,show (31:Int)=((31:Nat):Int)from rfl,ZxU 31 (by omega),ZxL (by simp only[Bw]at h1;omega) (ZDT _ (by decide))];congr 1;exact ZxB (by decide) (by simp only[Bw]at h1;omega) ((Ztb a).get hi2)
   rw[e1,Zsc hi2,gz,ZnF,ZnD,ZnC,ZnF,ZnD,ZnC,ZnF,ZnF,eor,ZnN,List.length_set,hlen,ZvF,List.set_set];exact⟨ZqZ ⟨by omega,by omega⟩,ZnG (by omega),by decide,ZqZ ⟨by omega,by omega⟩,fin _ rfl⟩
  ·have hi2:¬i+1 < (wd a).length:=by have:=of_decide_eq_false h;omega
   refine fin _ ?_;rw[ZDs,ZDu (by omega)];simp
 ·rintro rec o ⟨hol,hod,hov⟩;unfold Zrm ZpW;dsimp only;rw[Zn5];refine⟨fun h=>by have:=of_decide_eq_true h;omega,fun _=> ?_⟩;rw[ZnC];have eg:(wd a).getD (wd a).length 0=0:=by rw[ZDs,ZDu (by omega)];rfl
  rw[eg,Nat.zero_mod,Nat.mul_zero,Nat.add_zero,ZDE,ZqK]at hov;refine⟨o,by rw[hol,List.drop_length,List.append_nil],hod,hol, ?_⟩;omega
 ·rintro y ⟨o,rfl,hd,hl,hv⟩;unfold ZrW;rw[Zwp hd (by omega),ZnD,ZnC,ZnC,hv]
end Go.Proofs
namespace Go.Proofs
open Go Eng
theorem ZxM {a:Nat} (h:a≠0):idx (iL (wd a)) 0=some ((a % Bw:Nat):Int):=by rw[Zwz h];rfl
theorem Zw7 {a:Nat}:(andK .u32 ((a % Bw:Nat):Int) 1 == 0)=decide (a % 2=0):=by
 rw[show (1:Int)=((1:Nat):Int)from rfl,ZxG (ZDT _ (by decide)) (by decide),Nat.and_one_is_mod];have e:a % Bw % 2=a % 2:=by simp only[Bw];omega
 rw[e]
 by_cases h:a % 2=0
 ·rw[h];rfl
 ·rw[decide_eq_false h];exact beq_eq_false_iff_ne.2 (by omega)
theorem Zya (P:Nat→Prop) {f:Nat→List Int×List Int×Int→Option (List Int×List Int×Int)} (y:List Int) (k:Int)
  (hf:∀n x,x≠0→(wd x).length≤100000→f (n+1) (iL (wd x),y,k)=if x % 2=0 then f n (iL (wd (x / 2)),y,k)else some (iL (wd x),y,k))
  (hP:∀x,P (2*x)→P x):∀(n x:Nat),x≠0→(wd x).length≤100000→P x→(∀m,x < 2 ^ m→m≤n→∃z,f n (iL (wd x),y,k)=some (iL (wd z),y,k)∧z % 2=1∧z≤x∧P z)
 |0,x,hx,hl,hp,m,hm,hmn=>by
  have:m=0:=by omega
  subst this;rw[ZD5]at hm;omega
 |n+1,x,hx,hl,hp,m,hm,hmn=>by
  rw[hf n x hx hl]
  by_cases h:x % 2=0
  ·rw[if_pos h];cases m with
   |zero=>rw[ZD5]at hm;omega
   |succ m=>
    obtain⟨z,h1,h2,h3,h4⟩:=Zya P y k hf hP n (x / 2) (by omega) (ZDO (ZrU (ZDK x 2)) hl) (hP _ (by rwa [show 2*(x / 2)=x by omega])) m (by rw[ZD4]at hm;omega) (by omega);exact⟨z,h1,h2,by omega,h4⟩
  ·rw[if_neg h];exact⟨x,rfl,by omega,ZDN _,hp⟩
end Go.Proofs
namespace Go.Proofs
open Go Eng
theorem ZuO (x:Nat):x < 2 ^ (x.log2+1):=Nat.lt_log2_self
theorem Zv1 {x n:Nat} (h:(wd x).length≤n):x.log2≤32*n:=by
 rcases Nat.eq_zero_or_pos x with rfl |hp
 ·rw[Nat.log2_zero];omega
 ·have h1:=Nat.log2_self_le (n:=x) (by omega);have h2:=ZDQ (Ztw x) (ZD3 (n:=Bw) (by decide) h);rw[show Bw=2 ^ 32 from rfl,←Nat.pow_mul]at h2;exact ZDM ((Nat.pow_lt_pow_iff_right (a:=2) (by decide)).1 (ZDP h1 h2))
theorem ZyN {x b:Nat} (hb:b % 2=1):ZDL (2*x) b=ZDL x b:=by
 have hc:Nat.Coprime 2 b:=by unfold Nat.Coprime;rw[Nat.gcd_rec,hb,Nat.gcd_one_left]
 exact Nat.Coprime.gcd_mul_left_cancel x hc
theorem ZC1 (y:List Int) (k:Int) {x:Nat} (b:Nat) (hb:b % 2=1) (hx:x≠0) (hl:(wd x).length≤100000):∃z,Zn9 big (iL (wd x)) y k=some (iL (wd z),y,k)∧z % 2=1∧z≤x∧ZDL z b=ZDL x b:=by
 have hm:=Zv1 hl;refine Zya (fun z=>ZDL z b=ZDL x b) (f:=fun n t=>Zn9 n t.1 t.2.1 t.2.2) y k (fun n x hx hl=> ?_) (fun z h=>by rwa [ZyN hb]at h) big x hx hl rfl (x.log2+1) (ZuO x) (ZDM (Zxc (by omega)));show Zo3 (Zn9 n) (iL (wd x)) y k=_;unfold Zo3;rw[ZxM hx,ZD8,Zw7]
 by_cases h:x % 2=0
 ·rw[decide_eq_true h,cond_true,if_pos h,ZwW x hl,ZD8]
 ·rw[decide_eq_false h,cond_false,if_neg h]
end Go.Proofs
namespace Go.Proofs
open Go Eng
theorem ZzK (y:List Int) (k:Int) {x:Nat} (ho:x % 2=1):Zn9 big (iL (wd x)) y k=some (iL (wd x),y,k):=by obtain⟨n,hn⟩:=ZxF 1 (by decide);rw[hn];show Zo3 (Zn9 n) (iL (wd x)) y k=_;unfold Zo3;rw[ZxM (by omega),ZD8,Zw7,decide_eq_false (by omega),cond_false]
theorem ZC0 (w:List Int) (k:Int) {y:Nat} (b:Nat) (hb:b % 2=1) (hy:y≠0) (hl:(wd y).length≤100000):∃z,Zn8 big w (iL (wd y)) k=some (w,iL (wd z),k)∧z % 2=1∧(z≤y∧(y % 2=0→z≤y / 2))∧ZDL z b=ZDL y b:=by
 have hm:=Zv1 hl;have step:∀n x,x≠0→(wd x).length≤100000→Zn8 (n+1) w (iL (wd x)) k=if x % 2=0 then Zn8 n w (iL (wd (x / 2))) k else some (w,iL (wd x),k):=fun n x hx hl=>by
  show Zry (Zn8 n) w (iL (wd x)) k=_;unfold Zry;rw[ZxM hx,ZD8,Zw7]
  by_cases h:x % 2=0
  ·rw[decide_eq_true h,cond_true,if_pos h,ZwW x hl,ZD8]
  ·rw[decide_eq_false h,cond_false,if_neg h]
 have key:∀(n x m:Nat),x≠0→(wd x).length≤100000→x < 2 ^ m→m≤n→∃z,Zn8 n w (iL (wd x)) k=some (w,iL (wd z),k)∧z % 2=1∧(z≤x∧(x % 2=0→z≤x / 2))∧ZDL z b=ZDL x b:=by
  intro n
  induction n with
  |zero=>
   intro x m hx hl hm hmn;have:m=0:=by omega
   subst this;rw[ZD5]at hm;omega
  |succ n ih=>
   intro x m hx hl hm hmn;rw[step n x hx hl]
   by_cases h:x % 2=0
   ·rw[if_pos h];cases m with
    |zero=>rw[ZD5]at hm;omega
    |succ m=>
     obtain⟨z,h1,h2,h3,h4⟩:=ih (x / 2) m (by omega) (ZDO (ZrU (ZDK x 2)) hl) (by rw[ZD4]at hm;omega) (by omega);refine⟨z,h1,h2,⟨by omega,fun _=>h3.1⟩, ?_⟩;rw[h4,←ZyN hb,show 2*(x / 2)=x by omega]
   ·rw[if_neg h];exact⟨x,rfl,by omega,⟨ZDN _,fun h'=>absurd h' h⟩,rfl⟩
 exact key big y (y.log2+1) hy hl (ZuO y) (ZDM (Zxc (by omega)))
end Go.Proofs
namespace Go.Proofs
open Go Eng
theorem Zzr (k:Int):∀(n x y p q:Nat),x % 2=1→(wd x).length≤100000→(wd y).length≤100000→x < 2 ^ p→y < 2 ^ q→p+q+y % 2 < n→ZnP n (iL (wd x)) (iL (wd y)) k=some (iL (wd (ZDL x y)),k)
 |0,x,y,p,q,_,_,_,_,_,h=>absurd h (by omega)
 |n+1,x,y,p,q,ho,hxl,hyl,hp,hq,hn=>by
  show Zo4 (ZnP n) _ _ _=_;unfold Zo4;rw[ZnN]
  by_cases h0:y=0
  ·subst h0;rw[Zsd,Nat.gcd_zero_right];rfl
  ·have hl:=ZqA h0;obtain⟨z,hz,hz1,hz2,hz3⟩:=ZC0 (iL (wd x)) k x ho h0 hyl;rw[decide_eq_true (by omega),cond_true,ZzK _ _ ho,ZD8];dsimp only;unfold Zsk;rw[hz,ZD8];dsimp only;have hzl:=ZDO (ZrU hz2.1) hyl;unfold Zsj;rw[Zxb x z hxl hzl,ZD8];obtain⟨q',hq',hq2⟩:∃q',z < 2 ^ q'∧q'+1≤q+y % 2:=by
    by_cases he:y % 2=0
    ·cases q with
     |zero=>rw[ZD5]at hq;omega
     |succ q=>
      refine⟨q, ?_,by omega⟩;have:=hz2.2 he;rw[ZD4]at hq;omega
    ·exact⟨q,by omega,by omega⟩
   unfold ZqM;have eg:ZDL x y=ZDL x z:=by rw[Nat.gcd_comm x y,←hz3,Nat.gcd_comm]
   rw[eg]
   by_cases hc:z < x
   ·rw[ZuA hc,show decide ((1:Int) > 0)=true from rfl,cond_true,Zw0 x z (by omega) hxl,ZD8,Zzr k n z (x - z) q' p hz1 hzl (ZDO (ZrU (Nat.sub_le x z)) hxl) hq' (by omega) (by omega),Nat.gcd_sub_self_right (by omega),Nat.gcd_comm]
   ·have hnc:decide (Zxn x z > 0)=false:=by refine decide_eq_false ?_;unfold Zxn;rw[if_neg hc];split<;>decide
    rw[hnc,cond_false,Zw0 z x (by omega) hzl,ZD8,Zzr k n x (z - x) p q' ho hxl (ZDO (ZrU (Nat.sub_le z x)) hzl) hp (by omega) (by omega),Nat.gcd_sub_self_right (by omega)]
end Go.Proofs
namespace Go.Proofs
open Go Eng
theorem ZBj:∀(n x y j m:Nat),x≠0→y≠0→(wd x).length≤100000→(wd y).length≤100000→x < 2 ^ m→m≤n→j+m≤1000000000→
  ∃x' y' t:Nat,ZoQ n (iL (wd x)) (iL (wd y)) (j:Int)=some (iL (wd x'),iL (wd y'),((j+t:Nat):Int))∧(x' % 2=1∨y' % 2=1)∧ZDL x y=2 ^ t*ZDL x' y'∧x'≠0∧y'≠0∧x'≤x∧y'≤y∧t≤m
 |0,x,y,j,m,hx,hy,hxl,hyl,hm,hmn,hj=>by
  have:m=0:=by omega
  subst this;rw[ZD5]at hm;omega
 |n+1,x,y,j,m,hx,hy,hxl,hyl,hm,hmn,hj=>by
  show ∃x' y' t:Nat,Zrz (ZoQ n) _ _ _=_∧_;unfold Zrz ZqN;rw[ZxM hx,ZD8,Zw7]
  by_cases h1:x % 2=0
  ·rw[decide_eq_true h1,cond_true,ZxM hy,ZD8,Zw7]
   by_cases h2:y % 2=0
   ·cases m with
    |zero=>rw[ZD5]at hm;omega
    |succ m=>
     rw[decide_eq_true h2,cond_true,ZwW x hxl,ZD8,ZwW y hyl,ZD8,ZnG (by omega),chk_true];obtain⟨x',y',t,q1,q2,q3,q4,q5,q6,q7,q8⟩:=ZBj n (x / 2) (y / 2) (j+1) m (by omega) (by omega) (ZDO (ZrU (ZDK x 2)) hxl) (ZDO (ZrU (ZDK y 2)) hyl) (by rw[ZD4]at hm;omega) (by omega) (by omega);refine⟨x',y',t+1, ?_,q2, ?_,q4,q5,by omega,by omega,by omega⟩
     ·rw[show (j:Int)+1=((j+1:Nat):Int)from rfl,q1,show j+1+t=j+(t+1) by omega]
     ·have:=Nat.gcd_mul_left 2 (x / 2) (y / 2);rw[show 2*(x / 2)=x by omega,show 2*(y / 2)=y by omega]at this;rw[this,q3,ZD4,ZDW (2 ^ t) 2,ZDV]
   ·rw[decide_eq_false h2,cond_false];exact⟨x,y,0,rfl,.inr (by omega),by rw[ZD5,ZD0],hx,hy,ZDN _,ZDN _,Nat.zero_le _⟩
  ·rw[decide_eq_false h1,cond_false,cond_false];exact⟨x,y,0,rfl,.inl (by omega),by rw[ZD5,ZD0],hx,hy,ZDN _,ZDN _,Nat.zero_le _⟩
theorem ZBi:∀(k n a:Nat),k < n→k≤1000000000→(wd (2 ^ k*a)).length≤100000→ZoP n (iL (wd a)) (k:Int)=some (iL (wd (2 ^ k*a)))
 |k,0,a,h,_,_=>absurd h (by omega)
 |0,n+1,a,_,_,_=>by show Zo2 (ZoP n) _ _=_;unfold Zo2;rw[ZD5,ZD0];rfl
 |k+1,n+1,a,h,hk,hl=>by
  show Zo2 (ZoP n) _ _=_;unfold Zo2;have e:2 ^ (k+1)*a=2 ^ k*(2*a+0):=by rw[ZD4,ZDV,Nat.add_zero]
  have ha:(wd a).length≤100000:=ZDO (ZrU (Nat.le_mul_of_pos_left a (ZD7 _))) hl;rw[e]at hl;have ht:=Zx4 a 0 (by omega) ha;rw[Int.natCast_zero]at ht;rw[decide_eq_true (by omega),cond_true,ht,ZD8,show ((k+1:Nat):Int) - 1=(k:Int) by omega,ZnG (by omega),chk_true,ZBi k n (2*a+0) (by omega) (by omega) hl,e]
theorem ZyO (a b:Nat) (ha0:a≠0) (hb0:b≠0) (ha:(wd a).length≤50000) (hb:(wd b).length≤50000):Zpn (iL (wd a)) (iL (wd b))=some (iL (wd (ZDL a b))):=by
 have hla:=Zv1 ha;have hlb:=Zv1 hb;obtain⟨x,y,t,q1,q2,q3,q4,q5,q6,q7,q8⟩:=ZBj big a b 0 (a.log2+1) ha0 hb0 (by omega) (by omega) (ZuO a) (ZDM (Zxc (by omega))) (by omega);rw[Int.natCast_zero,Nat.zero_add]at q1;have hxl:=ZDO (ZrU q6) ha;have hyl:=ZDO (ZrU q7) hb;have hlx:=Zv1 hxl;have hly:=Zv1 hyl;have main:ZnP big (iL (wd x)) (iL (wd y)) (t:Int)=some (iL (wd (ZDL x y)),(t:Int)):=by
  by_cases hx:x % 2=1
  ·exact Zzr _ big x y _ _ hx (by omega) (by omega) (ZuO x) (ZuO y) (Zxc (by omega))
  ·have hy:y % 2=1:=by omega
   obtain⟨z,z1,z2,z3,z4⟩:=ZC1 (iL (wd y)) (t:Int) y hy q4 (by omega);have hzl:=ZDO (ZrU z3) hxl;have hlz:=Zv1 hzl;have e:=Zzr (t:Int) big z y _ _ z2 (by omega) (by omega) (ZuO z) (ZuO y) (Zxc (by omega));rw[z4]at e;rw[←e];obtain⟨n,hn⟩:∃n,big=n+1:=⟨36893488147419103231,by rw[big_eq]⟩;have s1:∀u,ZnP big (iL (wd u)) (iL (wd y)) (t:Int)=Zo4 (ZnP n) (iL (wd u)) (iL (wd y)) (t:Int):=fun u=>by rw[hn];rfl
   rw[s1,s1];unfold Zo4;have hl:=ZqA q5;rw[ZnN,decide_eq_true (by omega),cond_true,cond_true,z1,ZzK _ _ z2]
 have hg:(wd (2 ^ t*ZDL x y)).length≤100000:=by rw[←q3];exact ZDO (Zyu (by omega) hb) (by omega)
 unfold Zpn;rw[q1,ZD8];dsimp only;unfold Zsl Zsi Zsh;rw[main,ZD8];dsimp only;rw[ZBi t big _ (Zxc (by omega)) (by omega) hg,ZD8,q3]
end Go.Proofs
namespace Go.Proofs
open Go Eng
theorem ZyX {l:List Nat} {i:Nat} (hd:Dg l) (h:i / 32 < l.length):l[i / 32] / 2 ^ (i % 32) % 2=val l / 2 ^ i % 2:=by
 have e:=Zvp h;have hlt:=Zt1 (hd.take (i / 32));rw[ZDB,ZDS (by omega)]at hlt;have hi:2 ^ i=Bw ^ (i / 32)*2 ^ (i % 32):=by rw[show Bw=2 ^ 32 from rfl,←Nat.pow_mul,←ZD2,ZDI]
 have hr:i % 32 < 32:=ZDT _ (by decide);have hB:Bw=2 ^ (i % 32)*(2*2 ^ (31 - i % 32)):=by rw[show 2*2 ^ (31 - i % 32)=2 ^ (31 - i % 32+1) by rw[ZD4,ZDW],←ZD2,show i % 32+(31 - i % 32+1)=32 by omega]
 have e1:val l / Bw ^ (i / 32)=l[i / 32]+Bw*val (l.drop (i / 32+1)):=by rw[e,ZDG _ _ (Nat.pow_pos (by decide)),ZDJ hlt,Nat.zero_add]
 rw[hi,←Nat.div_div_eq_div_mul,e1];generalize l[i / 32]=x;generalize val (l.drop (i / 32+1))=y;have e2:(x+Bw*y) / 2 ^ (i % 32)=x / 2 ^ (i % 32)+2*(2 ^ (31 - i % 32)*y):=by rw[hB,ZDV,ZDG _ _ (ZD7 _),ZDV]
 rw[e2,ZDH]
end Go.Proofs
namespace Go.Proofs
open Go Eng
theorem ZzD (i:Nat):Int.tdiv (i:Int) 32=((i / 32:Nat):Int):=by rw[Int.tdiv_eq_ediv_of_nonneg (by omega)];norm_cast
theorem ZzC (i:Nat):IntKind.wrap .u64 (Int.tmod (i:Int) 32)=((i % 32:Nat):Int):=by rw[Int.tmod_eq_emod_of_nonneg (by omega),IntKind.wrap_u64];omega
theorem ZBJ {l:List Nat} {i:Nat} (hd:Dg l) (h:i / 32 < l.length) (hi:i≤1000000000):Zqx (iL l) (i:Int)=some ((val l / 2 ^ i % 2:Nat):Int):=by have h1:=hd.get h;unfold Zqx;rw[ZzD,ZzC,decide_eq_true (by decide),chk_true,ZnG (by omega),chk_true,Zsc h,ZD8,chk_true,decide_eq_true (by omega),chk_true,Zwt _ (by omega),show (1:Int)=((1:Nat):Int)from rfl,ZxG (ZDP (ZDK _ _) h1) (by decide),Nat.and_one_is_mod,ZyX hd h]
end Go.Proofs
namespace Go.Proofs
open Go Eng
theorem ZzG {x j:Nat} (h:x / 2 ^ j % 2=0):x|||2 ^ j=x+2 ^ j:=by
 have hlo:=ZDT x (ZD7 j);have e:x=2 ^ (j+1)*(x / 2 ^ j / 2)+x % 2 ^ j:=by
  have h1:=ZDI x (2 ^ j);have h2:2*(x / 2 ^ j / 2)=x / 2 ^ j:=by omega
  rw[ZD4,ZDV,h2,h1]
 have a1:=ZD6 (i:=j+1) (b:=x % 2 ^ j) (by rw[ZD4];omega) (x / 2 ^ j / 2);have a2:=ZD6 (i:=j) (b:=x % 2 ^ j) hlo 1;have a3:=ZD6 (i:=j+1) (b:=2 ^ j*1+x % 2 ^ j) (by rw[ZD4];omega) (x / 2 ^ j / 2);rw[Nat.mul_one]at a2 a3;generalize x / 2 ^ j / 2=t at*
 generalize x % 2 ^ j=lo at*
 rw[e,a1,Nat.or_assoc,Nat.or_comm lo,←a2,←a3,←a1];omega
theorem ZAg {j:Nat} (hj:j≤31):shlK .u32 1 (j:Int)=((2 ^ j:Nat):Int):=by have:=ZxU (a:=1) j (by omega);rw[ZD0,Nat.mod_eq_of_lt (ZDP (ZD3 (by decide) hj) (by decide))]at this;exact this
theorem ZyL {A k:Nat}:A / 2 ^ k=2*(A / 2 ^ (k+1))+A / 2 ^ k % 2:=by rw[ZD4,←Nat.div_div_eq_div_mul];omega
theorem ZyQ (a b:Nat) (hb0:b≠0) (ha:(wd a).length≤50000) (hb:(wd b).length≤50000):Zpo (iL (wd a)) (iL (wd b))=some (iL (wd (a / b)),iL (wd (a % b))):=by
 have hlen:∀k,(wd (2*(a / 2 ^ (k+1) % b)+a / 2 ^ k % 2)).length≤50001:=fun k=>by
  have h1:=ZDT (a / 2 ^ (k+1)) (ZD1 hb0);have h2:2*(a / 2 ^ (k+1) % b)+a / 2 ^ k % 2≤b+b:=by omega
  exact ZDO (ZrU h2) (Zyv hb hb)
 refine Zqv ?_;unfold Zpo;rw[ZnF,ZnF,ZnF,ZnD,ZnN,ZDr,Zw4];refine⟨Zv0 (by omega),ZnG (by omega),ZnG (by omega), ?_⟩;have e0:(32*((wd a).length:Int)) - 1=((32*(wd a).length:Nat):Int) - 1:=by omega
 rw[e0,show ([]:List Int)=iL (wd 0) by rw[Zsd];rfl];refine ZnT (ZwH Zve (32*(wd a).length) (by omega) (fun i (q:Nat×List Nat)=>(iL (wd a),iL (wd b),iL (wd q.1),i,iL q.2))
  (fun k q=>q.1=a / 2 ^ k % b∧Dg q.2∧q.2.length=(wd a).length∧val q.2=a / 2 ^ k / b*2 ^ k)
  (Q:=fun y=>∃o:List Nat,y=(iL (wd (a % b)),iL o)∧Dg o∧o.length=(wd a).length∧val o=a / b) (0,List.replicate (wd a).length 0) ?_ ?_ ?_) ?_
 ·have h0:a / 2 ^ (32*(wd a).length)=0:=by refine ZDJ ?_;rw[Nat.pow_mul];exact Ztw a
  rw[h0,Nat.zero_mod,Nat.zero_div,Nat.zero_mul];exact⟨rfl,ZyT _,List.length_replicate,ZxS _⟩
 ·rintro rec k ⟨r,q⟩ hk ⟨hr,hd,hl,hv⟩ ih;dsimp only at hr hd hl hv;have hk32:k / 32 < (wd a).length:=by omega
  unfold ZrA Zp3;dsimp only;have hbit:=ZBJ (i:=k) (Ztb a) hk32 (by omega);rw[ZqK]at hbit;have h2:a / 2 ^ k % 2≤1:=by omega
  have htw:=Zx4 r (a / 2 ^ k % 2) h2 (by
   rw[hr];exact ZDO (ZrU (ZDM (ZDT _ (ZD1 hb0)))) (by omega))
  have hlk:=hlen k;rw[←hr]at hlk;have hx:=ZyL (A:=a) (k:=k);have hdm:=ZDI (a / 2 ^ (k+1)) b;rw[←hr]at hdm;have hrlt:r < b:=by rw[hr];exact ZDT _ (ZD1 hb0)
  rw[Zn5];refine⟨fun _=> ?_,fun h=>by have:=of_decide_eq_false h;omega⟩;rw[hbit,ZnD,ZnC,htw,ZnD,ZnC,Zxb _ _ (by omega) (by omega),ZnD,ZnC,Zn5];have nx:∀r' q',(r'=a / 2 ^ k % b∧Dg q'∧q'.length=(wd a).length∧val q'=a / 2 ^ k / b*2 ^ k)→wp (Zpy (fun a b r_ i q=>rec (a,b,r_,i,q)) (iL (wd a)) (iL (wd b)) (iL (wd r')) (k:Int) (iL q')) (fun y=>∃o:List Nat,y=(iL (wd (a % b)),iL o)∧Dg o∧o.length=(wd a).length∧val o=a / b):=fun r' q' h=>by unfold Zpy;rw[ZnF];exact⟨ZnG (by omega),ih (r',q') h⟩
  generalize eX:a / 2 ^ (k+1)=X at*
  generalize ed:a / 2 ^ k % 2=d at*
  refine⟨fun hc=> ?_,fun hc=> ?_⟩
  ·have hge:b≤2*r+d:=by
    rcases ZDR (2*r+d) b with h |h
    ·rw[ZuN h]at hc;exact absurd (of_decide_eq_true hc) (by decide)
    ·exact h
   have hq:k / 32 < q.length:=by omega
   have hz:q[k / 32] / 2 ^ (k % 32) % 2=0:=by rw[ZyX hd hq,hv,ZD4,←ZDV,Nat.mul_right_comm,Nat.mul_div_cancel _ (ZD7 k)];omega
   have hx32:=hd.get hq;rw[Zw0 _ _ hge (by omega),ZnD,ZnC,ZzD,ZzC,ZDr,ZnF,ZnF,ZnF,Zwk hq,ZnD,ZnC,ZnF,ZnF,ZnF,ZAg (by omega),ZxL hx32 (ZDP (ZD3 (by decide) (show k % 32≤31 by omega)) (by decide)),ZzG hz,ZvF,ZnN];refine⟨by decide,ZnG (by omega),ZqZ ⟨by omega,by omega⟩,by decide,decide_eq_true (by omega),ZqZ ⟨by omega,by omega⟩, ?_⟩;have hsum:q[k / 32]+2 ^ (k % 32) < Bw:=by
    have hB:Bw=2 ^ (k % 32)*(2*2 ^ (31 - k % 32)):=by rw[show 2*2 ^ (31 - k % 32)=2 ^ (31 - k % 32+1) by rw[ZD4,ZDW],←ZD2,show k % 32+(31 - k % 32+1)=32 by omega]
    rw[←ZzG hz];exact Nat.or_lt_two_pow (n:=32) hx32 (ZDP (ZD3 (by decide) (show k % 32≤31 by omega)) (by decide))
   refine nx (2*r+d - b) (q.set (k / 32) (q[k / 32]+2 ^ (k % 32))) ⟨?_,hd.set _ hsum,by rw[List.length_set,hl], ?_⟩
   ·rw[hx,show 2*X+d=(2*r+d - b)+b*(2*(X / b)+1) by rw[ZDU,ZDZ];omega,ZDH,Nat.mod_eq_of_lt (by omega)]
   ·have hvs:=ZvI q (k / 32) (q[k / 32]+2 ^ (k % 32)) hq;have hp:Bw ^ (k / 32)*2 ^ (k % 32)=2 ^ k:=by rw[show Bw=2 ^ 32 from rfl,←Nat.pow_mul,←ZD2,ZDI]
    rw[ZDU,hp]at hvs;have e1:(2*X+d) / b=2*(X / b)+1:=by rw[show 2*X+d=(2*r+d - b)+b*(2*(X / b)+1) by rw[ZDU,ZDZ];omega,ZDG _ _ (ZD1 hb0),ZDJ (by omega),Nat.zero_add]
    rw[hx,e1];rw[hv,ZD4]at hvs;have e2:X / b*(2 ^ k*2)=2*(X / b)*2 ^ k:=by rw[ZDW (2 ^ k) 2,←ZDV,ZDW (X / b) 2]
    rw[Nat.add_mul,ZD0];omega
  ·have hlt:2*r+d < b:=by
    rcases ZDR (2*r+d) b with h |h
    ·exact h
    ·rcases ZDR b (2*r+d)with h' |h'
     ·rw[ZuA h']at hc;exact absurd (of_decide_eq_false hc) (by decide)
     ·rw[show 2*r+d=b by omega,ZtS]at hc;exact absurd (of_decide_eq_false hc) (by decide)
   have e0:2*X+d=(2*r+d)+b*(2*(X / b)):=by rw[ZDZ];omega
   refine nx (2*r+d) q ⟨?_,hd,hl, ?_⟩
   ·rw[hx,e0,ZDH,Nat.mod_eq_of_lt hlt]
   ·rw[hx,e0,ZDG _ _ (ZD1 hb0),ZDJ hlt,Nat.zero_add,hv,ZD4,ZDW (2 ^ k) 2,←ZDV,ZDW (X / b) 2]
 ·rintro rec ⟨r,q⟩ ⟨hr,hd,hl,hv⟩;dsimp only at hr hd hl hv;rw[ZD5,Nat.div_one]at hr hv;unfold ZrA Zp3;dsimp only;rw[Zn5];refine⟨fun h=>by have:=of_decide_eq_true h;omega,fun _=> ?_⟩;rw[ZnC,hr];exact⟨q,rfl,hd,hl,by rw[hv,Nat.mul_one]⟩
 ·rintro y ⟨o,rfl,hd,hl,hv⟩;dsimp only;unfold Zsm;rw[Zwp hd (by omega),ZnD,ZnC,ZnC,hv]
end Go.Proofs
namespace Go.Proofs
open Go Eng
theorem Zxs (n:Int):Rat.divInt n 1=(n:Rat):=by have h:=Rat.num_divInt_den (n:Rat);rw[Rat.num_intCast,Rat.den_intCast]at h;exact h
end Go.Proofs
namespace Go.Proofs
open Go Eng
theorem Zwx (z:Int) (h1: -9223372036854775808≤z) (h2:z≤9223372036854775807):Zop z=some (bg z):=by
 have key:∀(b:Bool) (n:Nat),n < 18446744073709551616→ZnO b [IntKind.wrap .u32 (n:Int),IntKind.wrap .u32 (shrK .u64 (n:Int) 32)]=some (bg (if b then -(n:Int)else n)):=fun b n h=>by
  have e:([IntKind.wrap .u32 (n:Int),IntKind.wrap .u32 (shrK .u64 (n:Int) 32)]:List Int)=iL [n % 4294967296,n / 4294967296]:=by rw[show (32:Int)=((32:Nat):Int)from rfl,ZuI 32 (by omega),ZsH,Zta (by omega)];rfl
  have hd:Dg [n % 4294967296,n / 4294967296]:=fun d hd=>by
   simp only[ZDC,List.mem_singleton,ZDD,or_false]at hd;rcases hd with rfl |rfl
   ·exact ZDT _ (by decide)
   ·simp only[Bw];omega
  have hv:val [n % 4294967296,n / 4294967296]=n:=by simp only[val,Nat.mul_zero,Nat.add_zero];exact Nat.mod_add_div n Bw
  rw[e,Zwo b hd (by simp),hv]
 unfold Zop ZpG;have h32:decide (0≤(32:Int))=true:=rfl
 by_cases hz:z < 0
 ·have e:IntKind.wrap .u64 (0 - IntKind.wrap .u64 z)=((z.natAbs:Nat):Int):=by rw[IntKind.wrap_u64,IntKind.wrap_u64];omega
  rw[decide_eq_true hz,cond_true,h32,chk_true,e,key true _ (by omega),ZD8,if_pos rfl,show -((z.natAbs:Nat):Int)=z by omega]
 ·have e:IntKind.wrap .u64 z=((z.natAbs:Nat):Int):=by rw[IntKind.wrap_u64];omega
  rw[decide_eq_false hz,cond_false,h32,chk_true,e,key false _ (by omega),ZD8,if_neg (by decide),show ((z.natAbs:Nat):Int)=z by omega]
theorem ZAD:bg 0=⟨false,[]⟩:=by unfold bg;rw[show (0:Int).natAbs=0 from rfl,Zsd];rfl
theorem Zym (x y:Int) (hy:y≠0) (hx1:Wl 50000 x) (hy1:Wl 50000 y):Zpw (bg x) (bg y)=some (fOf (Rat.divInt x y)):=by
 unfold Zpw
 by_cases hx:x=0
 ·subst hx;rw[Rat.zero_divInt,ZoO,ZnN,show (0:Int).natAbs=0 from rfl,Zsd,Zwx 1 (by decide) (by decide)];show some (ZnA.mk ⟨false,[]⟩ (bg 1))=some (fOf 0);rw[←ZAD];rfl
 ·have hx0:0 < x.natAbs:=by omega
  have hy0:0 < y.natAbs:=by omega
  have hg0:ZDL x.natAbs y.natAbs≠0:=fun e=>by have:=Nat.gcd_pos_of_pos_right x.natAbs hy0;omega
  have hgl:=Zyu (x:=x.natAbs) hy0 hy1;have hxl:=Zx1 (ZDL x.natAbs y.natAbs) hx1;have hyl:=Zx1 (ZDL x.natAbs y.natAbs) hy1;have h:=Zxk x y hy hx1 hy1;unfold Zqh at h;rw[ZoO,ZoO,Zxa _ _ hx1 hy1,ZD8,ZwK _ _ hg0 hx1 hgl,ZD8]at h;dsimp only at h;rw[ZwK _ _ hg0 hy1 hgl,ZD8]at h;dsimp only at h;rw[Zue _ _ (by omega),ZD8,Zue _ _ (by omega),ZD8]at h;have hlen:=ZqA (n:=x.natAbs) (by omega);rw[←h,ZoO,ZoO,ZnN,beq_eq_false_iff_ne.2 (by omega),cond_false,ZyO _ _ (by omega) (by omega) hx1 hy1,ZD8,ZyQ _ _ hg0 hx1 hgl,ZD8];dsimp only;rw[ZyQ _ _ hg0 hy1 hgl,ZD8];dsimp only;rw[Zwo _ (Ztb _) (by omega),ZD8,Zwo _ (Ztb _) (by omega),ZD8,ZqK,ZqK]
theorem Zzl (x y:Int) (hy:y≠0) (hx1:Wl 256 x) (hy1:Wl 256 y):Zp7 (bg x) (bg y)=some (fOf (Rat.divInt x y),0):=by unfold Zp7 Zqr;rw[ZuP,Zvo x hx1,ZD8,ZA9,cond_false,ZuP,Zvo y hy1,ZD8,ZA9,cond_false,Zw8 hy,cond_false,Zym x y hy (ZDO hx1 (by decide)) (ZDO hy1 (by decide)),ZD8]
theorem ZBc (x y:Int) (hy:y≠0) (h1: -9223372036854775808≤x) (h2:x≤9223372036854775807) (h3: -9223372036854775808≤y) (h4:y≤9223372036854775807):ZqX x y=some (fOf (Rat.divInt x y),0):=by unfold ZqX;rw[Zwx x h1 h2,ZD8,Zwx y h3 h4,ZD8,Zzl x y hy (ZCL h1 h2) (ZCL h3 h4),ZD8]
theorem Zwg (x y:Int) (hy:y≠0) (h1: -9223372036854775808≤x) (h2:x≤9223372036854775807) (h3: -9223372036854775808≤y) (h4:y≤9223372036854775807):ZnY x y=some (fOf (Rat.divInt x y)):=by unfold ZnY;rw[ZBc x y hy h1 h2 h3 h4,ZD8]
theorem ZwF (x:Int) (h1: -9223372036854775808≤x) (h2:x≤9223372036854775807):ZnM x=some (fOf (x:Rat)):=by unfold ZnM;rw[Zwg x 1 (by decide) h1 h2 (by decide) (by decide),ZD8,Zxs]
theorem ZAY {a b:Nat} (h:wd a=wd b):a=b:=by rw[←ZqK a,←ZqK b,h]
theorem Zxj (x y:Int) (hx:Wl 100000 x) (hy:Wl 100000 y):ZoI (bg x) (bg y)=some (decide (x=y)):=by
 unfold Wl at hx hy;refine Zqv ?_;unfold ZoI ZpE;rw[Zu0,Zu0,ZoO,ZoO,ZnN,ZnN]
 by_cases hs:decide (x < 0)=decide (y < 0)
 ·rw[hs,beq_self_eq_true,ZA9,cond_false]
  by_cases hl:(wd x.natAbs).length=(wd y.natAbs).length
  ·rw[hl,bne_self_eq_false,cond_false,ZnD];refine ZnT (Zr3 ZuB (wd y.natAbs).length (by omega) (fun i (_:Unit)=>(iL (wd x.natAbs),((wd y.natAbs).length:Int),i,bg y)) (fun i _=>(wd x.natAbs).take i=(wd y.natAbs).take i)
    (Q:=fun r=>r= .ret false∧wd x.natAbs≠wd y.natAbs∨r= .brk ()∧wd x.natAbs=wd y.natAbs) () (by rw[List.take_zero,List.take_zero]) ?_ ?_) ?_
   ·rintro rec i ⟨⟩ hi hP ih;have hi2:i < (wd x.natAbs).length:=by omega
    unfold ZqB Zo8;dsimp only;rw[Zn5];refine⟨fun _=> ?_,fun h=>by have:=of_decide_eq_false h;omega⟩;rw[ZoO,Zsc hi2,ZnD,ZnC,Zsc hi,ZnD,ZnC,Zn5];refine⟨fun h=> ?_,fun h=> ?_⟩
    ·rw[ZnC];refine .inl ⟨rfl,fun e=> ?_⟩;have h1:(wd y.natAbs)[i]=(wd x.natAbs)[i]:=by simp only[e]
     rw[h1,bne_self_eq_false]at h;exact absurd h (by decide)
    ·rw[ZnF];refine⟨ZnG (by omega),ih () ?_⟩;rw[bne_eq_false_iff_eq]at h;have h1:(wd y.natAbs)[i]=(wd x.natAbs)[i]:=by omega
     rw[List.take_succ_eq_append_getElem hi2,List.take_succ_eq_append_getElem hi,hP,h1]
   ·rintro rec ⟨⟩ hP;unfold ZqB Zo8;dsimp only;rw[Zn5];refine⟨fun h=>by have:=of_decide_eq_true h;omega,fun _=> ?_⟩;rw[ZnC];rw[ZDE,←hl,ZDE]at hP;exact .inr ⟨rfl,hP⟩
   ·rintro r (⟨rfl,h⟩ |⟨rfl,h⟩)
    ·exact ZnC.2 (decide_eq_false (fun e=>h (by rw[e]))).symm
    ·unfold Zq4;have h1:=ZAY h;refine ZnC.2 (decide_eq_true ?_).symm
     by_cases hy0:y < 0
     ·have hx0:x < 0:=by rw[decide_eq_true hy0]at hs;exact of_decide_eq_true hs
      omega
     ·have hx0:¬x < 0:=by rw[decide_eq_false hy0]at hs;exact of_decide_eq_false hs
      omega
  ·have:(((wd x.natAbs).length:Int) != ((wd y.natAbs).length:Int))=true:=by rw[bne_iff_ne];omega
   rw[this,cond_true,ZnC];exact(decide_eq_false (fun e=>hl (by rw[e]))).symm
 ·rw[beq_eq_false_iff_ne.2 hs,Bool.not_false,cond_true,cond_true,ZnC];exact(decide_eq_false (fun e=>hs (by rw[e]))).symm
theorem Zw1 (p q:Rat) (hp:Wq 256 p) (hq:Wq 256 q):Zn6 (fOf p) (fOf q)=some (decide (p=q)):=by
 have m:∀{x:Int},Wl 256 x→Wl 100000 x:=fun h=>ZDO h (by decide)
 unfold Zn6 Zqp fOf;dsimp only;rw[Zxj _ _ (m hp.1) (m hq.1),ZD8]
 by_cases h1:p.num=q.num
 ·rw[decide_eq_true h1,cond_true,Zxj _ _ (m hp.2) (m hq.2),ZD8];congr 1
  by_cases h2:p.den=q.den
  ·rw[decide_eq_true (by omega),decide_eq_true (Rat.ext h1 h2)]
  ·rw[decide_eq_false (by omega),decide_eq_false (fun e=>h2 (by rw[e]))]
 ·rw[decide_eq_false h1,cond_false,decide_eq_false (fun e=>h1 (by rw[e]))]
end Go.Proofs
namespace Go.Proofs
open Go Eng
theorem ZAp (a b:Nat) (ha:(wd a).length≤100000) (hb:(wd b).length≤100000):Zqw (iL (wd a)) (iL (wd b))=some (iL (wd (a*b))):=by
 refine Zqv ?_;unfold Zqw;rw[ZnN,ZnN,ZnF,ZnF,ZnD,←ZDp,ZDr,Zw4];refine⟨ZnG (by omega),Zv0 (by omega), ?_⟩;generalize hm:(wd a).length=m at ha⊢
 generalize hn:(wd b).length=n at hb⊢
 refine ZnT (Zr3 Zvd m (by omega) (fun i (s:List Nat)=>(iL (wd a),iL (wd b),i,iL s)) (fun i s=>s.length=m+n∧Dg s∧val s=val ((wd a).take i)*b∧∀k,i+n≤k→k < m+n→s[k]? =some 0)
  (Q:=fun y=>∃(o:List Nat),y=iL o∧Dg o∧o.length=m+n∧val o=a*b) (List.replicate (m+n) 0) ⟨by simp,ZyT _,by rw[ZxS];simp[val],fun k _ h=>by rw[List.getElem?_replicate,if_pos h]⟩ ?_ ?_) ?_
 ·rintro rec i s hlt ⟨hl,hd,hv,hz⟩ ih;have hi:i < (wd a).length:=by omega
  have h1:=(Ztb a).get hi;unfold Zrx Zp2;dsimp only;rw[Zn5,ZnN,hm];refine⟨fun _=> ?_,fun h=>by simp only[decide_eq_false_iff_not]at h;omega⟩;rw[ZnD];generalize ex:(wd a)[i]=x at h1;refine ZnT (Zr3 Zvc n (by omega) (fun j (t:Nat×List Nat)=>(iL (wd a),iL (wd b),(i:Int),(t.1:Int),j,iL t.2)) (fun j t=>t.1 < Bw∧t.2.length=m+n∧Dg t.2∧val t.2+Bw ^ (i+j)*t.1=val s+Bw ^ i*(x*val ((wd b).take j))∧∀k,i+n≤k→k < m+n→t.2[k]? =some 0)
   (Q:=fun y=>∃(c:Nat) (o:List Nat),y=(iL (wd a),iL (wd b),(i:Int),(c:Int),iL o)∧c < Bw∧o.length=m+n∧Dg o∧val o+Bw ^ (i+n)*c=val s+Bw ^ i*(x*b)∧∀k,i+n≤k→k < m+n→o[k]? =some 0) (0,s) ⟨by simp only[Bw];omega,hl,hd,by simp[val],hz⟩ ?_ ?_) ?_
  ·rintro rec2 j ⟨c,o⟩ hj ⟨hc,hol,hod,hov,hoz⟩ ih2;dsimp only at hc hol hod hov hoz ih2;have hj2:j < (wd b).length:=by omega
   have h2:=(Ztb b).get hj2;have hij:i+j < o.length:=by omega
   have h3:=hod.get hij;unfold Zrw Zp1;dsimp only;rw[Zn5,ZnN,hn];refine⟨fun _=> ?_,fun h=>by simp only[decide_eq_false_iff_not]at h;omega⟩;rw[Zsc hi,ex,ZnD,ZnC,Zsc hj2,ZnD,ZnC,ZnF,ZnF,←ZDp,ZDr,Zwk hij,ZnD,ZnC,ZnF,ZnF,ZnF,ZnF];generalize ey:(wd b)[j]=y at h2;generalize ee:o[i+j]=e at h3;rw[ZBe hc h1 h2 h3,ZsH,show (32:Int)=((32:Nat):Int)from rfl,ZuI 32 (by omega),ZnN,ZvF];refine⟨ZnG (by omega),ZqZ ⟨by omega,by omega⟩,ZnG (by omega),ZqZ ⟨by omega,by omega⟩,by decide,ZnG (by omega), ?_⟩;refine ih2 ((c+x*y+e) / Bw,o.set (i+j) ((c+x*y+e) % Bw)) ⟨ZzJ hc h1 h2 h3,by simp[hol],hod.set _ (ZDT _ (by decide)), ?_,fun k hk hk2=> ?_⟩
   ·dsimp only;have q1:=ZvI o (i+j) ((c+x*y+e) % Bw) hij;rw[ee]at q1;have q2:Bw ^ (i+j)*((c+x*y+e) % Bw+Bw*((c+x*y+e) / Bw))=Bw ^ (i+j)*(c+x*y+e):=by rw[Nat.mod_add_div]
    rw[ZDU,ZDU,ZDU]at q2;rw[←Nat.add_assoc,ZD4,ZDV,Zn0 hj2,ey,ZDU,ZDU];have q3:Bw ^ i*(x*(Bw ^ j*y))=Bw ^ (i+j)*(x*y):=by rw[ZD2,ZDV,ZDZ x]
    omega
   ·dsimp only;rw[List.getElem?_set_ne (by omega)];exact hoz k hk hk2
  ·rintro rec2 ⟨c,o⟩ ⟨hc,hol,hod,hov,hoz⟩;dsimp only at hc hol hod hov hoz;unfold Zrw Zp1;dsimp only;rw[Zn5,ZnN,hn];refine⟨fun h=>by have:=of_decide_eq_true h;omega,fun _=> ?_⟩;rw[ZnC];rw[ZDF (by omega),ZqK]at hov;exact⟨c,o,rfl,hc,hol,hod,hov,hoz⟩
  ·rintro y ⟨c,o,rfl,hc,hol,hod,hov,hoz⟩;dsimp only;unfold Zsg;rw[ZnN,hn,ZnF,ZnF,ZnF,←ZDp,ZDr,Zta hc,ZvF,ZnN];refine⟨ZnG (by omega),ZqZ ⟨by omega,by omega⟩,ZnG (by omega), ?_⟩;have hp:i+n < o.length:=by omega
   have h0:o[i+n]=0:=by have:=hoz (i+n) (ZDN _) (by omega);rw[ZDt hp]at this;exact Option.some.inj this
   have q1:=ZvI o (i+n) c hp;rw[h0,Nat.mul_zero,Nat.add_zero]at q1;refine ih (o.set (i+n) c) ⟨by simp[hol],hod.set _ hc, ?_,fun k hk hk2=> ?_⟩
   ·rw[q1,hov,hv,Zn0 hi,ex,Nat.add_mul,ZDV]
   ·rw[List.getElem?_set_ne (by omega)];exact hoz k (by omega) hk2
 ·rintro rec s ⟨hl,hd,hv,hz⟩;unfold Zrx Zp2;dsimp only;rw[Zn5,ZnN,hm];refine⟨fun h=>by have:=of_decide_eq_true h;omega,fun _=> ?_⟩;rw[ZnC];rw[ZDF (by omega),ZqK]at hv;exact⟨s,rfl,hd,hl,hv⟩
 ·rintro y ⟨o,rfl,hd,hl,hv⟩;unfold Zsf;rw[Zwp hd (by omega),ZnD,ZnC,ZnC,hv]
theorem ZAH (a b:Nat) (ha:(wd a).length≤100000) (hb:(wd b).length≤100000):∃o:List Nat,Zpp (iL (wd a)) (iL (wd b))=some (iL o)∧Dg o∧o.length≤100001∧val o=a+b:=by
 obtain⟨m,hma,hmb,hm2,hmx⟩:∃m:Nat,(wd a).length≤m∧(wd b).length≤m∧m≤100000∧∀i,i < m→i < (wd a).length∨i < (wd b).length:=by
  by_cases h:(wd a).length≤(wd b).length
  ·exact⟨(wd b).length,h,ZDN _,hb,fun i hi=> .inr hi⟩
  ·exact⟨(wd a).length,ZDN _,by omega,ha,fun i hi=> .inl hi⟩
 suffices h:wp (Zpp (iL (wd a)) (iL (wd b))) (fun x=>∃o:List Nat,x=iL o∧Dg o∧o.length≤100001∧val o=a+b) by obtain⟨x,hx,o,rfl,h⟩:=h;exact⟨o,hx,h⟩
 unfold Zpp;rw[ZnD];refine ZnT (Zr3 Zvg m (by omega) (fun i (s:Nat×List Nat)=>(iL (wd a),iL (wd b),(s.1:Int),i,iL s.2)) (fun i s=>s.1≤1∧s.2.length=i∧Dg s.2∧val s.2+Bw ^ i*s.1=val ((wd a).take i)+val ((wd b).take i))
  (Q:=fun y=>∃(c:Nat) (o:List Nat),y=((c:Int),iL o)∧c≤1∧Dg o∧o.length=m∧val o+Bw ^ m*c=a+b) (0,[]) ⟨by simp,rfl,Zwm,by simp[val]⟩ ?_ ?_) ?_
 ·rintro rec i ⟨c,o⟩ hlt ⟨hc,hl,hd,hv⟩ ih;dsimp only at hc hl hd hv ih;have h1:=Zww (Ztb a) i;have h2:=Zww (Ztb b) i;have j3:∀x y:Nat,(wd a).getD i 0=x→(wd b).getD i 0=y→wp (Zpz (fun a b c i out=>rec (a,b,c,i,out)) (iL (wd a)) (iL (wd b)) ((c+x+y:Nat):Int) (i:Int) (iL o)) (fun y=>∃(c:Nat) (o:List Nat),y=((c:Int),iL o)∧c≤1∧Dg o∧o.length=m∧val o+Bw ^ m*c=a+b):=fun x y ex ey=>by
   rw[ex]at h1;rw[ey]at h2;unfold Zpz;rw[ZnF,ZnF,ZnF,ZsH,show (32:Int)=((32:Nat):Int)from rfl,ZuI 32 (by omega),ZnN];refine⟨Ztl (by simp only[ZDA];omega),by decide,ZnG (by omega), ?_⟩;have:=ih ((c+x+y) / Bw,o++[(c+x+y) % Bw]) ⟨by simp only[Bw]at h1 h2⊢;omega,by simp[hl],hd.app (ZvP (ZDT _ (by decide))), ?_⟩
   ·rw[Zw5]at this;exact this
   ·dsimp only;rw[Ztm,hl,ZD4,ZtU,ZtU,ex,ey,Nat.add_assoc,ZDV,←ZDU,Nat.mod_add_div,ZDU,ZDU];omega
  have j2:∀x:Nat,(wd a).getD i 0=x→wp (ZpA (fun a b c i out=>rec (a,b,c,i,out)) (iL (wd a)) (iL (wd b)) ((c+x:Nat):Int) (i:Int) (iL o)) (fun y=>∃(c:Nat) (o:List Nat),y=((c:Int),iL o)∧c≤1∧Dg o∧o.length=m∧val o+Bw ^ m*c=a+b):=fun x ex=>by
   have hx:=h1;rw[ex]at hx;unfold ZpA;rw[ZnN,Zn5];refine⟨fun h=> ?_,fun h=> ?_⟩
   ·have hib:i < (wd b).length:=by have:=of_decide_eq_true h;omega
    have ey:(wd b).getD i 0=(wd b)[i]:=by rw[ZDs,ZDt hib];rfl
    have hy:=(Ztb b).get hib;rw[Zsc hib,ZnD,ZnC,ZnH (by simp only[Bw]at hy;omega),←ZDp,ZnH (by simp only[Bw]at hx hy;omega)];exact j3 x _ ex ey
   ·have hib:¬i < (wd b).length:=by have:=of_decide_eq_false h;omega
    exact j3 x 0 ex (by rw[ZDs,ZDu (by omega)];rfl)
  have j1:wp (ZoR (fun a b c i out=>rec (a,b,c,i,out)) (iL (wd a)) (iL (wd b)) (c:Int) (i:Int) true (iL o)) (fun y=>∃(c:Nat) (o:List Nat),y=((c:Int),iL o)∧c≤1∧Dg o∧o.length=m∧val o+Bw ^ m*c=a+b):=by
   unfold ZoR;rw[cond_true,ZnN,Zn5];refine⟨fun h=> ?_,fun h=> ?_⟩
   ·have hib:i < (wd a).length:=by have:=of_decide_eq_true h;omega
    have ey:(wd a).getD i 0=(wd a)[i]:=by rw[ZDs,ZDt hib];rfl
    have hy:=(Ztb a).get hib;rw[Zsc hib,ZnD,ZnC,ZnH (by simp only[Bw]at hy;omega),←ZDp,ZnH (by simp only[Bw]at hy;omega)];exact j2 _ ey
   ·have hib:¬i < (wd a).length:=by have:=of_decide_eq_false h;omega
    exact j2 0 (by rw[ZDs,ZDu (by omega)];rfl)
  unfold ZrC Zp5;dsimp only;rw[ZnN,ZnN,Zn5];refine⟨fun _=>j1,fun h=> ?_⟩;have hib:¬i < (wd a).length:=by have:=of_decide_eq_false h;omega
  rw[decide_eq_true (by rcases hmx i hlt with h |h<;>omega)];exact j1
 ·rintro rec ⟨c,o⟩ ⟨hc,hl,hd,hv⟩;dsimp only at hc hl hd hv;unfold ZrC Zp5;dsimp only;rw[ZnN,ZnN,decide_eq_false (by omega),cond_false,decide_eq_false (by omega)];unfold ZoR;rw[cond_false,ZnC];rw[ZDF hma,ZDF hmb,ZqK,ZqK]at hv;exact⟨c,o,rfl,hc,hd,hl,hv⟩
 ·rintro y ⟨c,o,rfl,hc,hd,hl,hv⟩;dsimp only;unfold Zso;have e:iL o++[(c:Int)]=iL (o++[c]):=by rw[Zw5];rfl
  rw[Zta (by omega),ZnF,ZnN,e,ZnC];exact⟨Ztl (by simp only[ZDA];omega),_,rfl,hd.app (ZvP (by unfold Bw;omega)),by simp;omega,by rw[Ztm,hl,hv]⟩
end Go.Proofs
namespace Go.Proofs
open Go Eng
theorem ZxK (x y:Int) (hx:Wl 50000 x) (hy:Wl 50000 y):Zok (bg x) (bg y)=some (bg (x*y)):=by unfold Zok;have:=Zx0 hx hy;rw[ZoO,ZoO,ZAp _ _ (by omega) (by omega),ZD8,Zwo _ (Ztb _) (by omega),ZqK,ZD8,ZyZ]
theorem Zzh (x y:Int) (hx:Wl 50000 x) (hy:Wl 50000 y):Zp6 (bg x) (bg y)=some (bg (x+y)):=by
 unfold Wl at hx hy;unfold Zp6;have h1:=Zyv hx hy;rw[ZoO,ZoO,Zu0,Zu0];have opp:decide (x < 0)≠decide (y < 0)→Zn4 (iL (wd x.natAbs)) (iL (wd y.natAbs))=some (Zxn x.natAbs y.natAbs):=fun _=>Zxb _ _ (by omega) (by omega)
 by_cases hs:decide (x < 0)=decide (y < 0)
 ·obtain⟨o,ho,hd,hl,hv⟩:=ZAH x.natAbs y.natAbs (by omega) (by omega);rw[hs,beq_self_eq_true,cond_true,ho,ZD8,Zwo _ hd (by omega),hv,ZD8];congr 2
  by_cases hy0:y < 0
  ·have hx0:x < 0:=by rw[decide_eq_true hy0]at hs;exact of_decide_eq_true hs
   rw[decide_eq_true hy0,if_pos rfl];omega
  ·have hx0:¬x < 0:=by rw[decide_eq_false hy0]at hs;exact of_decide_eq_false hs
   rw[decide_eq_false hy0,if_neg (by decide)];omega
 ·rw[beq_eq_false_iff_ne.2 hs,cond_false,opp hs,ZD8];rcases ZDR x.natAbs y.natAbs with hlt |hge
  ·have:=ZrU (Nat.sub_le y.natAbs x.natAbs);rw[ZuN hlt,decide_eq_false (by omega),cond_false,Zw0 _ _ (by omega) (by omega),ZD8,Zwo _ (Ztb _) (by omega),ZqK,ZD8];congr 2
   by_cases hy0:y < 0
   ·have hx0:¬x < 0:=fun h=>hs (by rw[decide_eq_true hy0,decide_eq_true h])
    rw[decide_eq_true hy0,if_pos rfl];omega
   ·have hx0:x < 0:=Decidable.byContradiction fun h=>hs (by rw[decide_eq_false hy0,decide_eq_false h])
    rw[decide_eq_false hy0,if_neg (by decide)];omega
  ·have hn:Zxn x.natAbs y.natAbs≥0:=by
    rcases ZDR y.natAbs x.natAbs with h |h
    ·rw[ZuA h];decide
    ·rw[show x.natAbs=y.natAbs by omega,ZtS];decide
   have:=ZrU (Nat.sub_le x.natAbs y.natAbs);rw[decide_eq_true hn,cond_true,Zw0 _ _ hge (by omega),ZD8,Zwo _ (Ztb _) (by omega),ZqK,ZD8];congr 2
   by_cases hx0:x < 0
   ·have hy0:¬y < 0:=fun h=>hs (by rw[decide_eq_true hx0,decide_eq_true h])
    rw[decide_eq_true hx0,if_pos rfl];omega
   ·have hy0:y < 0:=Decidable.byContradiction fun h=>hs (by rw[decide_eq_false hx0,decide_eq_false h])
    rw[decide_eq_false hx0,if_neg (by decide)];omega
theorem ZyH (z:Int) (hz:Wl 100000 z):ZpP (bg z)=some (bg (-z)):=by
 unfold Wl at hz;unfold ZpP;rw[Zu0,ZoO,Zwo _ (Ztb _) (by omega),ZqK,ZD8];congr 2
 by_cases h:z < 0
 ·rw[decide_eq_true h,if_neg (by decide)];omega
 ·rw[decide_eq_false h,if_pos (by decide)];omega
theorem ZxI (q:Rat) (h:Wq 256 q):ZoY (fOf q)=some true:=by
 have hn:=h.1;have hd:=h.2;have hd0:=q.den_nz;unfold ZoY ZoD fOf;dsimp only;rw[ZuP,Zvo _ h.1,ZD8,ZA9,cond_false,ZuP,Zvo _ h.2,ZD8,ZA9,cond_false,Zu0,decide_eq_false (by omega),cond_false,Zw8 (by omega),cond_false,ZoO,ZoO,ZnN];unfold Wl at hn hd;have h1:(wd 1).length≤1:=ZuQ (by decide);have hc:ZDL q.num.natAbs (q.den:Int).natAbs=1:=q.reduced
 by_cases h0:q.num=0
 ·rw[h0]at hc;have e:(q.den:Int).natAbs=1:=by rwa [show (0:Int).natAbs=0 from rfl,Nat.gcd_zero_left]at hc
  rw[h0,show (0:Int).natAbs=0 from rfl,Zsd,e,←Zw2,Zxb 1 1 (by omega) (by omega),ZtS];rfl
 ·have hl:=ZqA (n:=q.num.natAbs) (by omega);rw[beq_eq_false_iff_ne.2 (by omega),cond_false,ZyO _ _ (by omega) (by omega) (by omega) (by omega),hc,ZD8,←Zw2,Zxb 1 1 (by omega) (by omega),ZtS];rfl
theorem ZyW {a b:Rat} (qa:Wq 256 a) (qb:Wq 256 b):Zpq (fOf a) (fOf b)=some (Zxe a b):=by
 have w:∀{x y:Int},Wl 256 x→Wl 256 y→Wl 50000 (x*y):=fun hx hy=>by unfold Wl;rw[ZDm];exact ZDO (Zx0 hx hy) (by decide)
 have m:∀{x:Int},Wl 256 x→Wl 50000 x:=fun h=>ZDO h (by decide)
 unfold Zpq ZqQ;rw[ZxI a qa,ZD8,ZA9,cond_false,ZxI b qb,ZD8,ZA9,cond_false];show ((Zok (bg a.num) (bg (b.den:Int))).bind fun q=>(Zok (bg b.num) (bg (a.den:Int))).bind _)=_;rw[ZxK _ _ (m qa.1) (m qb.2),ZD8,ZxK _ _ (m qb.1) (m qa.2),ZD8,ZyH _ (ZDO (w qb.1 qa.2) (by decide)),ZD8];have w2:Wl 50000 (-(b.num*(a.den:Int))):=by unfold Wl;rw[ZDo];exact w qb.1 qa.2
 rw[Zzh _ _ (w qa.1 qb.2) w2,ZD8,Zu0,ZoO,ZnN];unfold Zxe;have h1:=ZwV a b;have h2:=ZwV b a;generalize a.num*(b.den:Int)=x at*
 generalize b.num*(a.den:Int)=y at*
 by_cases hl:a < b
 ·have hlt:=h1.1 hl;have:=ZqA (n:=(x+ -y).natAbs) (by omega);rw[if_pos hl,beq_eq_false_iff_ne.2 (by omega),cond_false,decide_eq_true (by omega),cond_true]
 ·have hn:¬x < y:=fun h=>hl (h1.2 h)
  rw[if_neg hl]
  by_cases hg:b < a
  ·have hlt:=h2.1 hg;have:=ZqA (n:=(x+ -y).natAbs) (by omega);rw[if_pos hg,beq_eq_false_iff_ne.2 (by omega),cond_false,decide_eq_false (by omega),cond_false]
  ·have hn2:¬y < x:=fun h=>hg (h2.2 h)
   rw[if_neg hg,show x+ -y=0 by omega,show (0:Int).natAbs=0 from rfl,Zsd];rfl
theorem ZwE {a b:Rat} (qa:Wq 256 a) (qb:Wq 256 b):ZoK (fOf a) (fOf b)=some (decide (a < b)):=by
 unfold ZoK;rw[ZyW qa qb,ZD8];unfold Zxe
 by_cases h:a < b
 ·rw[if_pos h,decide_eq_true h];rfl
 ·rw[if_neg h,decide_eq_false h];split<;>rfl
end Go.Proofs
namespace Go.Proofs
open Go Eng
def gR (l:List Rat) (i:Nat):Rat:=l.getD i 0
def xOf (u v:Rat):Rat:=if v < u then v else u
theorem ZAa (u v c:Rat):xOf (u+c) (v+c)=xOf u v+c:=by unfold xOf;split<;>split<;>grind
theorem ZAT (u v:Rat):xOf u v=u∨xOf u v=v:=by
 unfold xOf;split
 ·exact .inr rfl
 ·exact .inl rfl
def Zmn (l:List Rat) (i:Nat) (x:Rat) (r:Nat):Prop:=
 i≤r∧r≤l.length∧(∀j,i≤j→j < r→gR l j≤x)∧(r < l.length→x < gR l r)
theorem Zmn.det {l:List Rat} {i:Nat} {x:Rat} {r s:Nat} (h:Zmn l i x r) (k:Zmn l i x s):r=s:=by
 obtain⟨h1,h2,h3,h4⟩:=h;obtain⟨k1,k2,k3,k4⟩:=k;rcases Nat.lt_trichotomy r s with c |c |c
 ·have a:=k3 r h1 c;have b:=h4 (by omega);grind
 ·exact c
 ·have a:=h3 s k1 c;have b:=k4 (by omega);grind
def stp (la lb i k:Nat) (m:Int):Int:=max (max m ((i:Int)*lb - (k:Int)*la)) ((k:Int)*la - (i:Int)*lb)
inductive DistR (a b:List Rat):Nat→Nat→Int→Int→Prop
 |done {i k m}:¬(i < a.length∧k < b.length)→DistR a b i k m m
 |go {i k m r i' k'}:i < a.length→k < b.length→Zmn a i (xOf (gR a i) (gR b k)) i'→Zmn b k (xOf (gR a i) (gR b k)) k'→
   DistR a b i' k' (stp a.length b.length i' k' m) r→DistR a b i k m r
theorem DistR.det {a b:List Rat} {i k:Nat} {m r s:Int} (h:DistR a b i k m r) (g:DistR a b i k m s):r=s:=by
 induction h with
 |done c=>
  cases g with
  |done _=>rfl
  |go h1 h2 _ _ _=>exact absurd ⟨h1,h2⟩ c
 |go h1 h2 u1 u2 _ ih=>
  cases g with
  |done c=>exact absurd ⟨h1,h2⟩ c
  |go _ _ v1 v2 g=>
   have e1:=u1.det v1;have e2:=u2.det v2;subst e1 e2;exact ih g
theorem ZA1 {la lb i k:Nat} {m:Int} (hi:i≤la) (hk:k≤lb) (hm:m≤(la*lb:Nat)):stp la lb i k m≤(la*lb:Nat):=by
 have e1:(i:Int)*lb=((i*lb:Nat):Int):=by rw[ZDq]
 have e2:(k:Int)*la=((k*la:Nat):Int):=by rw[ZDq]
 have h1:i*lb≤la*lb:=ZDY _ hi;have h2:k*la≤la*lb:=by rw[ZDW la lb];exact ZDY _ hk
 unfold stp;rw[e1,e2];omega
theorem ZBh {la lb i k:Nat} {m:Int}:m≤stp la lb i k m:=by unfold stp;omega
theorem DistR.bound {a b:List Rat} {i k:Nat} {m r:Int} (h:DistR a b i k m r) (hm0:0≤m) (hm:m≤(a.length*b.length:Nat)):0≤r∧r≤(a.length*b.length:Nat):=by
 induction h with
 |done _=>exact⟨hm0,hm⟩
 |go h1 h2 u1 u2 _ ih=>exact ih (Int.le_trans hm0 ZBh) (ZA1 u1.2.1 u2.2.1 hm)
theorem Zxq {l:List Rat} {c:Rat} {i:Nat} (h:i < l.length):gR (l.map (· +c)) i=gR l i+c:=by unfold gR;rw[ZDs,ZDs,List.getElem?_map,ZDt h];rfl
theorem Zmn.add {l:List Rat} {i:Nat} {x c:Rat} {r:Nat} (h:Zmn l i x r):Zmn (l.map (· +c)) i (x+c) r:=by
 obtain⟨h1,h2,h3,h4⟩:=h;refine⟨h1,by rw[ZDz];exact h2,fun j hj1 hj2=> ?_,fun hr=> ?_⟩
 ·rw[Zxq (by omega)];have:=h3 j hj1 hj2;grind
 ·rw[ZDz]at hr;rw[Zxq hr];have:=h4 hr;grind
theorem DistR.add {a b:List Rat} {i k:Nat} {m r:Int} (c:Rat) (h:DistR a b i k m r):DistR (a.map (· +c)) (b.map (· +c)) i k m r:=by
 induction h with
 |done g=>exact .done (by rw[ZDz,ZDz];exact g)
 |go h1 h2 u1 u2 _ ih=>
  have u1:=u1.add (c:=c);have u2:=u2.add (c:=c);rw[←ZAa,←Zxq h1,←Zxq h2]at u1 u2;refine .go (by rw[ZDz];exact h1) (by rw[ZDz];exact h2) u1 u2 ?_;rw[ZDz,ZDz];exact ih
def rk (n p q:Nat):Nat:=max ((n*p+(q - 1)) / q) 1 - 1
theorem Zze {n p q:Nat} (hq:0 < q) (hn:0 < n) (h:p≤q):rk n p q < n:=by
 have h1:n*p≤n*q:=Nat.mul_le_mul_left _ h;have h2:(n*p+(q - 1)) / q≤n:=by apply Nat.le_of_lt_succ;rw[Nat.div_lt_iff_lt_mul hq,Nat.succ_mul];omega
 unfold rk;omega
theorem ZCW {n p q:Nat} (hq:0 < q):p*n≤(rk n p q+1)*q:=by
 have h:=ZDI (n*p+(q - 1)) q;have h1:=ZDT (n*p+(q - 1)) hq;have h2:(n*p+(q - 1)) / q≤rk n p q+1:=by unfold rk;omega
 have h3:(n*p+(q - 1)) / q*q≤(rk n p q+1)*q:=ZDY _ h2;rw[ZDW q]at h;rw[ZDW p n];omega
def Asc (l:List Rat):Prop:=∀i j,i≤j→j < l.length→gR l i≤gR l j
theorem Zs0 {l:List Rat} {i:Nat} (h:i < l.length):gR l i=l[i]:=by unfold gR;rw[ZDs,ZDt h];rfl
theorem Asc.add {l:List Rat} (c:Rat) (h:Asc l):Asc (l.map (· +c)):=fun i j hij hj=>by rw[ZDz]at hj;rw[Zxq hj,Zxq (by omega)];have:=h i j hij hj;grind
theorem ZBK {l:List Rat} (h:Asc l) {r:Nat} (hr:r < l.length):r+1≤l.countP (fun y=> !decide (gR l r < y)):=by
 have e:l=l.take (r+1)++l.drop (r+1):=(List.take_append_drop _ _).symm;have h1:(l.take (r+1)).countP (fun y=> !decide (gR l r < y))=(l.take (r+1)).length:=by rw[List.countP_eq_length];intro y hy;obtain⟨i,hi,rfl⟩:=List.getElem_of_mem hy;rw[ZDB]at hi;have:=h i r (by omega) hr;rw[Zs0 (i:=i) (by omega)]at this;rw[List.getElem_take];simp only[Bool.not_eq_true',decide_eq_false_iff_not];grind
 rw[ZDB]at h1;have h2:l.countP (fun y=> !decide (gR l r < y))=(l.take (r+1)).countP (fun y=> !decide (gR l r < y))+(l.drop (r+1)).countP (fun y=> !decide (gR l r < y)):=by rw[←List.countP_append,←e]
 omega
theorem ZAG {l:List Rat} {f:Rat} {i:Nat} (hi:i≤l.length) (h:Asc l) (h1:∀j,i≤j→j < l.length→f < gR l j) (h2:0 < i→gR l (i - 1)≤f):Asc (l.take i++f::l.drop i):=by
 have hl:(l.take i++f::l.drop i).length=l.length+1:=by rw[List.length_append,List.length_cons,ZDB,ZDy];omega
 have hg:∀j,j < l.length+1→gR (l.take i++f::l.drop i) j=if j < i then gR l j else if j=i then f else gR l (j - 1):=by
  intro j hj;have ht:(l.take i).length=i:=by rw[ZDB];omega
  unfold gR;rw[ZDs,List.getElem?_append,ht];split
  ·rename_i c;rw[List.getElem?_take,if_pos c,ZDs]
  ·rename_i c;split
   ·rename_i d;rw[d,Nat.sub_self];rfl
   ·rename_i d;rw[show j - i=(j - 1 - i)+1 from by omega,List.getElem?_cons_succ,List.getElem?_drop,ZDs,show i+(j - 1 - i)=j - 1 from by omega]
 intro j k hjk hk;rw[hl]at hk;rw[hg j (by omega),hg k hk];have hb:∀j,j < i→gR l j≤f:=fun j hj=>by have a:=h j (i - 1) (by omega) (by omega);have b:=h2 (by omega);grind
 split
 ·rename_i c;split
  ·exact h j k hjk (by omega)
  ·split
   ·exact hb j c
   ·exact h j (k - 1) (by omega) (by omega)
 ·rename_i c;rw[if_neg (show ¬k < i from by omega)];split
  ·rename_i d;split
   ·exact Rat.le_refl
   ·have:=h1 (k - 1) (by omega) (by omega);grind
  ·rename_i d;rw[if_neg (show ¬k=i from by omega)];exact h (j - 1) (k - 1) (by omega) (by omega)
end Go.Proofs
namespace Go.Proofs
open Go Eng
theorem Zxz (a b:Rat):Zxe a b≤0↔a≤b:=by
 unfold Zxe;split
 ·grind
 ·split
  ·grind
  ·grind
theorem ZvX (a b:Rat):Zxe a b < 0↔a < b:=by
 unfold Zxe;split
 ·grind
 ·split
  ·grind
  ·grind
theorem Zyw {l:List Rat} (hl:∀q∈l,Sz 40 q) (hn:l.length≤1000) {x:Rat} (hx:Sz 40 x) {i:Nat} (hi:i≤l.length):
  wp (ZsO (l.map fOf) (i:Int) (fOf x)) (fun r=>∃k:Nat,r=(k:Int)∧Zmn l i x k):=by
 unfold ZsO;rw[ZnD];refine ZnT (Zra Zwd (fun k:Nat=>(l.map fOf,(k:Int),fOf x)) (fun k=>i≤k∧k≤l.length∧∀j,i≤j→j < k→gR l j≤x) (fun k=>l.length - k) (Q:=fun r=>∃k:Nat,r=(k:Int)∧Zmn l i x k) i ⟨ZDN _,hi,fun j h1 h2=>by omega⟩ (by omega) ?_) ?_
 ·rintro rec k ⟨h1,h2,h3⟩ ih;unfold Zu6 Zt8 Ztr;dsimp only;rw[ZDz]
  by_cases hk:k < l.length
  ·have hq:l[k]∈l:=ZDx hk;rw[decide_eq_true (show (k:Int) < (l.length:Int) by omega),cond_true,ZsZ (by simpa using hk),ZnD,ZnC,ZDw,Zxu ((hl _ hq).wq (by omega)) (hx.wq (by omega)),ZnD,ZnC]
   by_cases hc:Zxe l[k] x≤0
   ·rw[decide_eq_true hc,cond_true,ZnF];refine⟨ZnG (by omega),ih (k+1) ⟨by omega,by omega,fun j h4 h5=> ?_⟩ (by omega)⟩
    by_cases hj:j=k
    ·rw[hj,Zs0 hk];exact(Zxz _ _).1 hc
    ·exact h3 j h4 (by omega)
   ·rw[decide_eq_false hc,cond_false,ZnC];refine⟨k,rfl,h1,h2,h3,fun _=> ?_⟩;rw[Zs0 hk];rw[Zxz]at hc;grind
  ·rw[decide_eq_false (show ¬(k:Int) < (l.length:Int) by omega),cond_false,cond_false,ZnC];exact⟨k,rfl,h1,h2,h3,fun h=>absurd h hk⟩
 ·intro r h;unfold Zut;rw[ZnC];exact h
theorem ZA2 (la lb i k:Nat) (m:Int):(if ((k:Int)*la - (i:Int)*lb) > (if ((i:Int)*lb - (k:Int)*la) > m then ((i:Int)*lb - (k:Int)*la)else m)then ((k:Int)*la - (i:Int)*lb)else (if ((i:Int)*lb - (k:Int)*la) > m then ((i:Int)*lb - (k:Int)*la)else m))=stp la lb i k m:=by unfold stp;split<;>split<;>omega
theorem Zmn.grows {l:List Rat} {i:Nat} {x:Rat} {r:Nat} (h:Zmn l i x r) (hi:i < l.length) (hx:gR l i≤x):i < r:=by
 obtain⟨h1,h2,h3,h4⟩:=h;rcases Nat.lt_or_eq_of_le h1 with h |h
 ·exact h
 ·have:=h4 (by omega);rw[←h]at this;grind
theorem ZAA {a b:List Rat} (ha:∀q∈a,Sz 40 q) (hb:∀q∈b,Sz 40 q) (hna:a.length≤1000) (hnb:b.length≤1000) (ha0:a.length≠0) (hb0:b.length≠0):
  ∃r,Zo6 (a.map fOf) (b.map fOf)=some (fOf (Rat.divInt r ((a.length*b.length:Nat):Int)),0)∧DistR a b 0 0 0 r:=by
 suffices h:wp (Zo6 (a.map fOf) (b.map fOf)) (fun x=>∃r,x=(fOf (Rat.divInt r ((a.length*b.length:Nat):Int)),0)∧DistR a b 0 0 0 r) by obtain⟨x,hx,r,rfl,hr⟩:=h;exact⟨r,hx,hr⟩
 have hlb:∀i k:Nat,i≤a.length→k≤b.length→(0≤(i:Int)*(b.length:Int)∧(i:Int)*(b.length:Int)≤1000000)∧(0≤(k:Int)*(a.length:Int)∧(k:Int)*(a.length:Int)≤1000000):=by
  intro i k hi hk;have e1:(i:Int)*(b.length:Int)=((i*b.length:Nat):Int):=by rw[ZDq]
  have e2:(k:Int)*(a.length:Int)=((k*a.length:Nat):Int):=by rw[ZDq]
  have h1:i*b.length≤1000*1000:=ZDX (by omega) hnb;have h2:k*a.length≤1000*1000:=ZDX (by omega) hna;rw[e1,e2];omega
 unfold Zo6;rw[ZDz,ZDz,show ((a.length:Int) == 0)=false from beq_eq_false_iff_ne.2 (by omega),show ((b.length:Int) == 0)=false from beq_eq_false_iff_ne.2 (by omega),cond_false];unfold ZrO;rw[cond_false,ZnD];refine ZnT (Zra ZvL (fun s:Nat×Nat×Int=>(a.map fOf,b.map fOf,s.2.2,(s.1:Int),(s.2.1:Int),false,false,[],[]))
  (fun s=>s.1≤a.length∧s.2.1≤b.length∧∀r,DistR a b s.1 s.2.1 s.2.2 r→DistR a b 0 0 0 r) (fun s=>(a.length - s.1)+(b.length - s.2.1))
  (Q:=fun x=>∃r,x=(a.map fOf,b.map fOf,r,false,false,[],[])∧DistR a b 0 0 0 r) (0,0,0) ⟨Nat.zero_le _,Nat.zero_le _,fun r h=>h⟩ (by dsimp only;omega) ?_) ?_
 ·rintro rec ⟨i,k,m⟩ ⟨h1,h2,h3⟩ ih;dsimp only at h1 h2 h3 ih⊢
  unfold Zuo ZsP ZrN;dsimp only;rw[ZDz,ZDz];have j3:∀x:Rat,Sz 40 x→i < a.length→k < b.length→x=xOf (gR a i) (gR b k)→wp (Zqy (fun a b most i k t4 t4_1 t4_2 t4_3=>rec (a,b,most,i,k,t4,t4_1,t4_2,t4_3)) (a.map fOf) (b.map fOf) m (i:Int) (k:Int) false false (fOf x) [] []) (fun x=>∃r,x=(a.map fOf,b.map fOf,r,false,false,[],[])∧DistR a b 0 0 0 r):=by
   intro x hx hi hk ex;unfold Zqy;rw[ZnD];refine ZnT (Zyw ha hna hx h1) ?_;rintro _ ⟨i',rfl,hi'⟩;rw[ZnD];refine ZnT (Zyw hb hnb hx h2) ?_;rintro _ ⟨k',rfl,hk'⟩;rw[ZDz,ZDz,ZA2];have hb':=hlb i' k' hi'.2.1 hk'.2.1;rw[ZnF,ZnF,ZnF,ZnF,ZnF,ZnF];refine⟨ZnG (by omega),ZnG (by omega),ZnG (by omega),ZnG (by omega),ZnG (by omega),ZnG (by omega), ?_⟩;refine ih (i',k',stp a.length b.length i' k' m) ⟨hi'.2.1,hk'.2.1,fun r hr=>h3 r ?_⟩ ?_
   ·rw[ex]at hi' hk';exact .go hi hk hi' hk' hr
   ·dsimp only;have q1:=hi'.1;have q2:=hk'.1;have q3:=hi'.2.1;have q4:=hk'.2.1;rcases ZAT (gR a i) (gR b k)with e |e
    ·have:=hi'.grows hi (by rw[ex,e];exact Rat.le_refl);omega
    ·have:=hk'.grows hk (by rw[ex,e];exact Rat.le_refl);omega
  by_cases hi:i < a.length
  ·rw[decide_eq_true (show (i:Int) < (a.length:Int) by omega),cond_true]
   by_cases hk:k < b.length
   ·have hqa:a[i]∈a:=ZDx hi;have hqb:b[k]∈b:=ZDx hk;rw[decide_eq_true (show (k:Int) < (b.length:Int) by omega),cond_true,ZsZ (by simpa using hi),ZsZ (by simpa using hk),ZnD,ZnC,ZnD,ZnC,ZDw,ZDw,Zxu ((hb _ hqb).wq (by omega)) ((ha _ hqa).wq (by omega)),ZnD,ZnC]
    by_cases hc:Zxe b[k] a[i] < 0
    ·rw[decide_eq_true hc,cond_true,ZnD,ZnC];exact j3 _ (hb _ hqb) hi hk (by rw[Zs0 hi,Zs0 hk];unfold xOf;rw[if_pos ((ZvX _ _).1 hc)])
    ·rw[decide_eq_false hc,cond_false];exact j3 _ (ha _ hqa) hi hk (by rw[Zs0 hi,Zs0 hk];unfold xOf;rw[if_neg (fun h=>hc ((ZvX _ _).2 h))])
   ·rw[decide_eq_false (show ¬(k:Int) < (b.length:Int) by omega),cond_false,ZnC];exact⟨m,rfl,h3 m (.done (fun h=>hk h.2))⟩
  ·rw[decide_eq_false (show ¬(i:Int) < (a.length:Int) by omega),cond_false,cond_false,ZnC];exact⟨m,rfl,h3 m (.done (fun h=>hi h.1))⟩
 ·rintro _ ⟨r,rfl,hr⟩;have hbd:=hr.bound (Int.le_refl 0) (by omega);have hm:a.length*b.length≤1000*1000:=ZDX hna hnb;have hp:0 < a.length*b.length:=Nat.mul_pos (by omega) (by omega);unfold Ztg;dsimp only;rw[ZDz,ZDz,←ZDq,ZnF,Zzj _ _ (by omega) (by omega) (by omega) (by omega) (by omega),ZnD,ZnC,ZnC];exact⟨ZnG (by omega),r,rfl,hr⟩
end Go.Proofs
namespace Go.Proofs
open Go Eng
theorem Zx7 {x y:Int} (hy:y≠0) (h1:x.natAbs < 16) (h2:y.natAbs < 16):Sz 4 (Rat.divInt x y):=Zwc (k:=4) hy h1 h2
theorem ZAy {d:ZnB} (hd:ZwJ d):wp (ZpB d) (fun r=>(∃q,r.1=fOf q∧Sz 4 q)∧ZwJ r.2):=by
 unfold ZpB;rw[ZnD];refine ZnT (ZxX hd (by omega)) fun⟨q,d1⟩ ⟨hq,hd1⟩=> ?_
 dsimp only at hq hd1⊢
 rw[ZnF,ZnD];refine⟨ZnG (by omega),ZnT (ZxX hd1 (by omega)) fun⟨q1,d2⟩ ⟨hq1,hd2⟩=> ?_⟩;dsimp only at hq1 hd2⊢
 rw[ZnF,Zwg _ _ (by omega) (by omega) (by omega) (by omega) (by omega),ZnD,ZnC,ZnC];exact⟨ZnG (by omega),⟨_,rfl,Zx7 (by omega) (by omega) (by omega)⟩,hd2⟩
theorem ZA8 {l:List Rat} {f:Rat} (hf:Sz 40 f) (hl:∀q∈l,Sz 40 q) (hn:l.length≤1000) (k:Int) (d:ZnB):
  wp (Zos big k (l.length:Int) d (l.map fOf) (fOf f)) (fun x=>∃i:Nat,x=(k,(i:Int),d,l.map fOf,fOf f)∧i≤l.length∧(∀j,i≤j→j < l.length→f < gR l j)∧(0 < i→gR l (i - 1)≤f)):=by
 refine Zra ZuC (fun i:Nat=>(k,(i:Int),d,l.map fOf,fOf f)) (fun i=>i≤l.length∧∀j,i≤j→j < l.length→f < gR l j) (fun i=>i)
  (Q:=fun x=>∃i:Nat,x=(k,(i:Int),d,l.map fOf,fOf f)∧i≤l.length∧(∀j,i≤j→j < l.length→f < gR l j)∧(0 < i→gR l (i - 1)≤f)) l.length ⟨ZDN _,fun j h1 h2=>by omega⟩ (by omega) ?_
 rintro rec i ⟨h1,h2⟩ ih;unfold ZsL ZqC ZpH;dsimp only
 by_cases hi:0 < i
 ·have hlt:i - 1 < l.length:=by omega
  have hq:l[i - 1]∈l:=ZDx hlt;have et:((i:Int) - 1).toNat=i - 1:=by omega
  have eg:(l.map fOf)[i - 1]? =some (fOf l[i - 1]):=by rw[List.getElem?_map,ZDt hlt];rfl
  rw[decide_eq_true (show (i:Int) > 0 by omega),cond_true,ZnF,ZnF,et,eg,ZnD,ZnC,ZwE (hf.wq (by omega)) ((hl _ hq).wq (by omega)),ZnD,ZnC];refine⟨ZnG (by omega),ZqZ ⟨by omega,by rw[ZDz];omega⟩, ?_⟩
  by_cases hc:f < l[i - 1]
  ·rw[decide_eq_true hc,cond_true,ZnF];have:=ih (i - 1) ⟨by omega,fun j h3 h4=>by
    by_cases hj:j=i - 1
    ·rw[hj,Zs0 hlt];exact hc
    ·exact h2 j (by omega) h4⟩ (by omega)
   rw[show ((i - 1:Nat):Int)=(i:Int) - 1 by omega]at this;exact⟨ZnG (by omega),this⟩
  ·rw[decide_eq_false hc,cond_false,ZnC];refine⟨i,rfl,h1,h2,fun _=> ?_⟩;rw[Zs0 hlt];grind
 ·rw[decide_eq_false (show ¬(i:Int) > 0 by omega),cond_false,cond_false,ZnC];exact⟨i,rfl,h1,h2,fun h=>absurd h hi⟩
theorem ZwP {d:ZnB} (hd:ZwJ d) (m:Nat) (hm:m≤20):
  wp (ZoJ d (m:Int)) (fun r=>(∃l:List Rat,r.1=l.map fOf∧l.length≤m∧Asc l∧∀q∈l,Sz 4 q)∧ZwJ r.2):=by
 unfold ZoJ;rw[ZnF,ZnD];refine⟨ZnG (by omega),ZnT (ZxX hd (by omega)) fun⟨k,d1⟩ ⟨hk,hd1⟩=> ?_⟩;dsimp only at hk hd1⊢
 rw[ZnD];refine ZnT (Zra ZuD (fun(s:Int×ZnB×List Rat)=>(s.1,s.2.1,s.2.2.map fOf))
  (fun s=>(0≤s.1∧s.1+s.2.2.length≤m)∧ZwJ s.2.1∧Asc s.2.2∧∀q∈s.2.2,Sz 4 q) (fun s=>s.1.toNat)
  (Q:=fun x=>(∃l:List Rat,x.2=l.map fOf∧l.length≤m∧Asc l∧∀q∈l,Sz 4 q)∧ZwJ x.1) (k,d1,[]) ⟨by simp;omega,hd1,fun i j h1 h2=>absurd h2 (by simp),fun p hp=>absurd hp (by simp)⟩ (by dsimp only;omega) ?_) ?_
 ·rintro rec ⟨k,d,l⟩ ⟨⟨h0,h1⟩,hd,ha,hl⟩ ih;dsimp only at h0 h1 hd ha hl ih;unfold ZsN ZqD;dsimp only
  by_cases hk:k > 0
  ·rw[decide_eq_true hk,cond_true,ZnD];refine ZnT (ZAy hd) ?_;rintro⟨f0,d2⟩ ⟨⟨f,hf,hs⟩,hd2⟩;dsimp only at hf hd2⊢
   subst hf;rw[ZDz,ZnD];refine ZnT (ZA8 (hs.mono (by omega)) (fun q hq=>(hl q hq).mono (by omega)) (by omega) k d2) ?_;rintro _ ⟨i,rfl,hi,h3,h4⟩;unfold Zq7;dsimp only;have e1:((i:Int)).toNat - 0=i:=by omega
   have e2:(((l.map fOf).length:Int)).toNat - ((i:Int)).toNat=l.length - i:=by rw[ZDz];omega
   have e3:((l.map fOf).drop 0).take i++[fOf f]++((l.map fOf).drop i).take (l.length - i)=(l.take i++f::l.drop i).map fOf:=by rw[List.drop_zero,←List.map_take,←List.map_drop,ZDF (l:=(l.drop i).map fOf) (by rw[ZDz,ZDy];omega),List.map_append,List.map_cons,List.append_assoc,List.singleton_append]
   rw[e1,e2,ZDr,e3];have hlen:(l.take i++f::l.drop i).length=l.length+1:=by rw[List.length_append,List.length_cons,ZDB,ZDy];omega
   have:=ih (k - 1,d2,l.take i++f::l.drop i) ⟨⟨by omega,by dsimp only;rw[hlen];omega⟩,hd2,ZAG hi ha h3 h4,fun q hq=>by
    rcases List.mem_append.1 hq with hq |hq
    ·exact hl q (List.mem_of_mem_take hq)
    ·rcases ZDC.1 hq with hq |hq
     ·rw[hq];exact hs
     ·exact hl q (List.mem_of_mem_drop hq)⟩ (by dsimp only;omega)
   rw[ZnF,ZnF,ZnF,ZnF,ZnF,ZnF];refine⟨?_, ?_, ?_, ?_, ?_,ZnG (by omega),this⟩
   ·rw[ZDz];simp[Zb9];omega
   ·refine Ztl ?_;simp only[ZDB,ZDy,ZDz];omega
   ·refine Ztl ?_;simp only[ZDB,ZDy,ZDz,ZDA];omega
   ·rw[ZDz];simp[Zb9];omega
   ·refine Ztl ?_;simp only[List.length_append,ZDB,ZDy,ZDz,ZDA];omega
  ·rw[decide_eq_false hk,cond_false,ZnC];exact⟨⟨l,rfl,by omega,ha,hl⟩,hd⟩
 ·rintro⟨d3,l3⟩ ⟨⟨l,h1,h2,h3,h4⟩,h5⟩;unfold Zq6;dsimp only at h1 h5⊢
  rw[ZnC];exact⟨⟨l,h1,h2,h3,h4⟩,h5⟩
theorem ZyF:((List.range 10).all fun a=>(List.range 21).all fun p=>decide (ZqF (a:Int) (p:Int)=some (0,((a*p:Nat):Int))))=true:=by kernel_rfl
theorem ZyG {a p:Nat} (ha:a < 10) (hp:p < 21):ZqF (a:Int) (p:Int)=some (0,((a*p:Nat):Int)):=
 of_decide_eq_true (List.all_eq_true.1 (List.all_eq_true.1 ZyF a (List.mem_range.2 ha)) p (List.mem_range.2 hp))
theorem Zvm {n:Nat} (h:n < 1000000):IntKind.wrap .u64 (n:Int)=n∧IntKind.wrap .i64 (n:Int)=n:=by refine⟨Zlj _ _ ?_ ?_,Zlj _ _ ?_ ?_⟩<;>simp[IntKind.min,IntKind.max,IntKind.signed,IntKind.bits]<;>omega
theorem ZyP {n y:Nat} (hn:n < 1000000) (hy:0 < y) (hy2:y < 1000000):ZoT 0 (n:Int) (y:Int)=some (((n / y:Nat):Int),((n % y:Nat):Int)):=by have h1:n / y≤n:=ZDK _ _;unfold ZoT;rw[show (((y:Int) == 0)=false)from beq_eq_false_iff_ne.2 (by omega),cond_false,decide_eq_false (show ¬(y:Int)≤0 by omega),cond_false,show (((0:Int) == 0)=true)from rfl,cond_true,show decide ((y:Int)≠0)=true from decide_eq_true (by omega)];rw[show Int.tdiv (n:Int) (y:Int)=((n / y:Nat):Int)from rfl,show Int.tmod (n:Int) (y:Int)=((n % y:Nat):Int)from rfl,(Zvm (n:=n / y) (by omega)).1];rfl
theorem ZwX {q:Rat} (h:Sz 40 q):(fOf q).Num.Words.length≤2∧(fOf q).Den.Words.length≤2:=by
 have h1:=Zxx (n:=q.num.natAbs) h.1 2 (by omega);have h2:=Zxx (n:=q.den) h.2 2 (by omega);constructor
 ·show (iL (wd q.num.natAbs)).length≤2;rw[ZnN];exact h1
 ·show (iL (wd ((q.den:Int)).natAbs)).length≤2;rw[ZnN,ZDn];exact h2
theorem ZAj {l:List Rat} (hl:l.length < 10) (h0:0 < l.length) (hs:∀q∈l,Sz 40 q) {p n:Nat} (hn:0 < n) (hn2:n≤20) (hp:p≤n):
  Zoj (l.map fOf) (p:Int) (n:Int)=some (fOf (gR l (rk l.length p n)),0):=by
 have hlt:=Zze hn h0 hp;have hq:l[rk l.length p n]∈l:=ZDx hlt;have hm:l.length*p≤9*20:=ZDX (by omega) (by omega);have hdv:(l.length*p+(n - 1)) / n≤l.length*p+(n - 1):=ZDK _ _;unfold Zoj;rw[decide_eq_false (show ¬(n:Int) < 1 by omega),cond_false,decide_eq_false (show ¬(p:Int) < 0 by omega),cond_false,decide_eq_false (show ¬(p:Int) > (n:Int) by omega)];unfold Zpk;rw[cond_false,ZDz,show ((l.length:Int) == 0)=false from beq_eq_false_iff_ne.2 (by omega),cond_false,(Zvm (n:=l.length) (by omega)).1,(Zvm (n:=p) (by omega)).1,ZyG hl (by omega),ZD8];dsimp only;rw[show (n:Int) - 1=((n - 1:Nat):Int) by omega,(Zvm (n:=n - 1) (by omega)).1,ZnG (by omega)];unfold chk;dsimp only;unfold ZsS;rw[show ((l.length*p:Nat):Int)+((n - 1:Nat):Int)+0=((l.length*p+(n - 1):Nat):Int) by omega,show (((l.length*p+(n - 1):Nat):Int) % 18446744073709551616)=((l.length*p+(n - 1):Nat):Int) by omega,show (((l.length*p+(n - 1):Nat):Int) / 18446744073709551616)=0 by omega];unfold chk;rw[show decide ((0:Int)≤0∧(0:Int)≤1)=true from rfl];dsimp only;rw[ZD8];dsimp only;rw[show IntKind.wrap .u64 (0+0)=0 from by decide,(Zvm (n:=n) (by omega)).1,ZyP (by omega) hn (by omega),ZD8];dsimp only;rw[(Zvm (n:=(l.length*p+(n - 1)) / n) (by omega)).2];rw[show (if (1:Int) > (((l.length*p+(n - 1)) / n:Nat):Int)then (1:Int)else (((l.length*p+(n - 1)) / n:Nat):Int)) - 1=((rk l.length p n:Nat):Int)from by unfold rk;split<;>omega]
 rw[ZnG (by omega),ZsZ (by rw[ZDz];exact hlt),ZD8,ZDw,Zs0 hlt];unfold Zwe;have hw:=ZwX (hs _ hq);rw[Ztl (by omega),Ztl (by omega)];rfl
end Go.Proofs
namespace Go.Proofs
open Go Eng
theorem ZCQ (l:List ZnA) {bs:List Rat} (hb:∀q∈bs,Sz 40 q) (hn:bs.length≤1000) (hup:∀i,1≤i→i < bs.length→gR bs (i - 1) < gR bs i) (h0:1≤bs.length):wp (Zph big l (bs.map fOf) 1) (fun x=>x= .brk (l,bs.map fOf)):=by
 refine Zra Zuw (fun i:Nat=>(l,bs.map fOf,(i:Int))) (fun i=>1≤i∧i≤bs.length) (fun i=>bs.length - i) (Q:=fun x=>x= .brk (l,bs.map fOf)) 1 ⟨by omega,h0⟩ (by omega) ?_;rintro rec i ⟨h1,h2⟩ ih;unfold Zti ZrQ;dsimp only
 by_cases hi:i < bs.length
 ·have q1:bs[i - 1]∈bs:=ZDx (by omega);have q2:bs[i]∈bs:=ZDx (by omega);have hlt:Zxe bs[i - 1] bs[i] < 0:=by rw[ZvX];have:=hup i h1 hi;rw[Zs0 hi,Zs0 (by omega)]at this;exact this
  rw[decide_eq_true (show (i:Int) < ((bs.map fOf).length:Int) by rw[ZDz];omega),cond_true,ZnF,show (i:Int) - 1=((i - 1:Nat):Int) by omega];refine⟨ZnG (by omega), ?_⟩;rw[ZsZ (by rw[ZDz];omega),ZnD,ZnC,ZsZ (by rw[ZDz];omega),ZnD,ZnC,ZDw,ZDw,
   Zxu ((hb _ q1).wq (by omega)) ((hb _ q2).wq (by omega)),ZnD,ZnC,decide_eq_false (show ¬Zxe bs[i - 1] bs[i]≥0 by omega),cond_false,ZnF]
  exact⟨ZnG (by omega),ih (i+1) ⟨by omega,by omega⟩ (by omega)⟩
 ·rw[decide_eq_false (show ¬(i:Int) < ((bs.map fOf).length:Int) by rw[ZDz];omega),cond_false,ZnC]
end Go.Proofs
namespace Go.Proofs
open Go Eng
def Zyg:ZnA:=⟨⟨false,[3]⟩,⟨false,[1]⟩⟩
def nil0:ZnA:=⟨⟨false,[]⟩,⟨false,[]⟩⟩
def Zxv:List ZnS:=[ZnS.mk false ([51]:Str),ZnS.mk true ([]:Str),ZnS.mk false ([120]:Str)]
theorem val0:Zul (ZnS.mk false ([51]:Str))=some (Zyg,true):=by kernel_rfl
theorem val1:Zul (ZnS.mk true ([]:Str))=some (fOf 0,false):=by unfold Zul;dsimp only;rw[cond_true,Zz9];rfl
theorem val2:Zul (ZnS.mk false ([120]:Str))=some (nil0,false):=by kernel_rfl
theorem ZCT:ZoF [Zyg]=some [Zyg]:=by kernel_rfl
theorem Zzi:Zr7 (Zq0.mk ([]:Str) Zxv)=some [Zyg]:=by
 refine Zqv ?_;unfold Zr7;rw[ZnD];refine ZnT (Zra ZvN (fun k:Nat=>(Zxv,(3:Int),(k:Int),if k=0 then []else [Zyg])) (fun k=>k≤3) (fun k=>3 - k) (Q:=fun x=>x=[Zyg]) 0 (by omega) (by omega) ?_) ?_
 ·intro rec k hk ih;unfold Zuv Zs5 Zr6;dsimp only;have h:k=0∨k=1∨k=2∨k=3:=by omega
  rcases h with rfl |rfl |rfl |rfl
  ·rw[show decide (((0:Nat):Int) < 3)=true from rfl,cond_true,show idx Zxv ((0:Nat):Int)=some (ZnS.mk false ([51]:Str))from rfl,ZnD,ZnC,val0,ZnD,ZnC];dsimp only;rw[cond_true,ZnF,ZnF];exact⟨rfl,rfl,ih 1 (by omega) (by omega)⟩
  ·rw[show decide (((1:Nat):Int) < 3)=true from rfl,cond_true,show idx Zxv ((1:Nat):Int)=some (ZnS.mk true ([]:Str))from rfl,ZnD,ZnC,val1,ZnD,ZnC];dsimp only;rw[cond_false,ZnF];exact⟨rfl,ih 2 (by omega) (by omega)⟩
  ·rw[show decide (((2:Nat):Int) < 3)=true from rfl,cond_true,show idx Zxv ((2:Nat):Int)=some (ZnS.mk false ([120]:Str))from rfl,ZnD,ZnC,val2,ZnD,ZnC];dsimp only;rw[cond_false,ZnF];exact⟨rfl,ih 3 (by omega) (by omega)⟩
  ·rw[show decide (((3:Nat):Int) < 3)=false from rfl,cond_false,ZnC];rfl
 ·rintro x rfl;unfold ZtD;rw[ZCT,ZnD,ZnC,ZnC]
def l4:List Rat:=[1,2,3,4]
theorem Zzq:∀q∈l4,Sz 40 q:=by intro q hq;simp only[l4,ZDC,ZDD,or_false]at hq;rcases hq with rfl |rfl |rfl |rfl<;>(unfold Sz;decide)
theorem ZCX:Zoj (l4.map fOf) 1 2=some (fOf 2,0):=ZAj (l:=l4) (p:=1) (n:=2) (by decide) (by decide) Zzq (by decide) (by decide) (by decide)
def hlf:Rat:=Rat.divInt 1 2
theorem ZDb:Zo6 (([1,2]:List Rat).map fOf) (([2,3]:List Rat).map fOf)=some (fOf hlf,0):=by
 have h12:∀q∈([1,2]:List Rat),Sz 40 q:=fun q hq=>Zzq q (by
  simp only[ZDC,ZDD,or_false]at hq;rcases hq with rfl |rfl<;>simp[l4])
 have h23:∀q∈([2,3]:List Rat),Sz 40 q:=fun q hq=>Zzq q (by
  simp only[ZDC,ZDD,or_false]at hq;rcases hq with rfl |rfl<;>simp[l4])
 obtain⟨r,e,hr⟩:=ZAA h12 h23 (by decide) (by decide) (by decide) (by decide);have z0:∀{l:List Rat} {x:Rat},gR l 0≤x→∀j,0≤j→j < 1→gR l j≤x:=fun h j _ h2=>by
  have:j=0:=by omega
  rw[this];exact h
 have z1:∀{l:List Rat} {x:Rat},gR l 1≤x→∀j,1≤j→j < 2→gR l j≤x:=fun h j _ h2=>by
  have:j=1:=by omega
  rw[this];exact h
 have u1:Zmn [1,2] 0 (xOf (gR [1,2] 0) (gR [2,3] 0)) 1:=⟨by decide,by decide,z0 (by decide),fun _=>by decide⟩;have u2:Zmn [2,3] 0 (xOf (gR [1,2] 0) (gR [2,3] 0)) 0:=⟨by decide,by decide,fun j _ h2=>absurd h2 (Nat.not_lt_zero j),fun _=>by decide⟩;have u3:Zmn [1,2] 1 (xOf (gR [1,2] 1) (gR [2,3] 0)) 2:=⟨by decide,by decide,z1 (by decide),fun h=>absurd h (by decide)⟩;have u4:Zmn [2,3] 0 (xOf (gR [1,2] 1) (gR [2,3] 0)) 1:=⟨by decide,by decide,z0 (by decide),fun _=>by decide⟩;have d:DistR [1,2] [2,3] 0 0 0 2:= .go (by decide) (by decide) u1 u2 (.go (by decide) (by decide) u3 u4 (.done (by decide)));have:=hr.det d;subst this;rw[e];exact congrArg (fun q=>some (fOf q,(0:Int))) (show Rat.divInt 2 4=hlf by unfold hlf;decide)
theorem Zy0:ZoZ=some true:=by have sz2:Sz 40 2:=Zzq 2 (by simp[l4]);have szh:Sz 40 hlf:=(Zx7 (x:=1) (y:=2) (by decide) (by decide) (by decide)).mono (by omega);have i1:ZnM 1=some (fOf 1):=ZwF 1 (by decide) (by decide);have i2:ZnM 2=some (fOf 2):=ZwF 2 (by decide) (by decide);have i3:ZnM 3=some (fOf 3):=ZwF 3 (by decide) (by decide);have i4:ZnM 4=some (fOf 4):=ZwF 4 (by decide) (by decide);have ih:ZnY 1 2=some (fOf hlf):=Zwg 1 2 (by decide) (by decide) (by decide) (by decide) (by decide);have r4:Zoj [fOf 1,fOf 2,fOf 3,fOf 4] 1 2=some (fOf 2,0):=ZCX;have d4:Zo6 (([fOf 1,fOf 2,fOf 3,fOf 4].drop 0).take (((2:Int)).toNat - 0)) (([fOf 1,fOf 2,fOf 3,fOf 4].drop (((1:Int)).toNat)).take (((3:Int)).toNat - ((1:Int)).toNat))=some (fOf hlf,0):=ZDb;have n3:=Zzi;unfold Zxv at n3;unfold ZoZ Zof;rw[i1,ZD8,i2,ZD8,i3,ZD8,i4,ZD8,r4,ZD8];dsimp only;rw[d4,ZD8,ZD8];dsimp only;rw[show ((0:Int) == 0)=true from rfl,cond_true,cond_true,Zw1 _ _ (sz2.wq (by omega)) (sz2.wq (by omega)),ZD8,decide_eq_true rfl,cond_true,ih,ZD8,Zw1 _ _ (szh.wq (by omega)) (szh.wq (by omega)),ZD8,decide_eq_true rfl,cond_true,n3,ZD8];rfl
end Go.Proofs
namespace Go.Proofs
open Go Eng
theorem ZwI {a:Nat} (ha:a < 18446744073709551616):andK .u64 (a:Int) 4294967295=((a % 4294967296:Nat):Int):=by unfold andK;rw[show IntKind.bits .u64=64 from rfl,BitVec.toNat_and,Zui 64 a ha,show ((4294967295:Int))=((4294967295:Nat):Int)from rfl,Zui 64 4294967295 (by decide),IntKind.wrap_u64];have e:a&&& 4294967295=a % 4294967296:=Nat.and_two_pow_sub_one_eq_mod a 32;rw[e];omega
theorem Zzb {a:Nat}:shrK .u64 (a:Int) 32=((a / 4294967296:Nat):Int):=ZuI 32 (by omega)
theorem ZwD (a b:Nat):(a:Int)*(b:Int)=((a*b:Nat):Int):=(ZDq a b).symm
theorem Zv2 (a b:Nat):(a:Int)+(b:Int)=((a+b:Nat):Int):=(ZDp a b).symm
theorem Zzk {x y:Nat} (hx:x < 18446744073709551616) (hy:y < 18446744073709551616):
  ZqF (x:Int) (y:Int)=some (((x*y / 18446744073709551616:Nat):Int),((x*y % 18446744073709551616:Nat):Int)):=by
 obtain⟨bd,bt,bw,hhi⟩:=Lib.mul64_hi x y hx hy;have ba:=Lib.half_mul_le (a:=x / 4294967296) (b:=y / 4294967296) (by omega) (by omega);have bb:=Lib.half_mul_le (a:=x / 4294967296) (b:=y % 4294967296) (by omega) (by omega);have bc:=Lib.half_mul_le (a:=x % 4294967296) (b:=y / 4294967296) (by omega) (by omega);have ba':x / 4294967296*(y / 4294967296) < 18446744073709551616:=by omega
 have bb':x / 4294967296*(y % 4294967296) < 18446744073709551616:=by omega
 have bc':x % 4294967296*(y / 4294967296) < 18446744073709551616:=by omega
 have bh1:x / 4294967296*(y / 4294967296)+(x / 4294967296*(y % 4294967296)+x % 4294967296*(y % 4294967296) / 4294967296) / 4294967296 < 18446744073709551616:=by omega
 have bh:x / 4294967296*(y / 4294967296)+(x / 4294967296*(y % 4294967296)+x % 4294967296*(y % 4294967296) / 4294967296) / 4294967296+((x / 4294967296*(y % 4294967296)+x % 4294967296*(y % 4294967296) / 4294967296) % 4294967296+x % 4294967296*(y / 4294967296)) / 4294967296 < 18446744073709551616:=by omega
 unfold ZqF;rw[show decide (0≤(32:Int))=true from rfl];simp only[chk_true,ZwI hx,ZwI hy,Zzb,ZwD,Zv2,ZnH bd,ZnH bb',ZnH bt,ZwI bt,ZnH bc',ZnH bw,ZnH ba',ZnH bh1,ZnH bh,Zye (x*y)];rw[hhi]
theorem ZyI:Zrg=fun x n=>(idx (ZAR.map fun n=>UInt8.ofNat n.toNat) (IntKind.wrap .u8 x)).bind fun c=>
 chk (inK .i64 (n+(IntKind.wrap .i64 ((c.toNat:Nat):Int)))) <|
 some (n+(IntKind.wrap .i64 ((c.toNat:Nat):Int))):=by kernel_rfl
theorem Zzo {v:Nat} (h:v < 256) (n:Nat) (hn:n≤100):∃k:Nat,Zrg (v:Int) (n:Int)=some (((n+k:Nat):Int))∧v < 2 ^ k∧(v≠0→2 ^ k≤2*v)∧k≤8:=by
 obtain⟨c,hc,h1,h2,h3⟩:=Zyc h;refine⟨c.toNat, ?_,h1,h2,h3⟩;have e:idx (ZAR.map fun n=>UInt8.ofNat n.toNat) (IntKind.wrap .u8 (v:Int))=some c:=by rw[IntKind.wrap_u8,show (v:Int) % 256=(v:Int) by omega];unfold idx;rw[if_pos (by omega),ZDr,hc]
 rw[ZyI];dsimp only;rw[e,ZD8,wrap_i64 (by omega),ZnG (by omega),chk_true]
 norm_cast
theorem ZBf {y:Nat} (h0:1152921504606846976≤y) (h1:y < 9223372036854775808):∃s:Nat,s≤8∧Zpc (y:Int)=some (s:Int)∧9223372036854775808≤y*2 ^ s∧y*2 ^ s < 18446744073709551616:=by
 obtain⟨k,hk,hk1,hk2,hk3⟩:=Zzo (v:=y / 4294967296 / 65536 / 256) (by omega) 56 (by omega);have d32:shrK .u64 (y:Int) 32=((y / 4294967296:Nat):Int):=Zzb;have d16:shrK .u64 ((y / 4294967296:Nat):Int) 16=((y / 4294967296 / 65536:Nat):Int):=ZuI 16 (by omega);have d8:shrK .u64 ((y / 4294967296 / 65536:Nat):Int) 8=((y / 4294967296 / 65536 / 256:Nat):Int):=ZuI 8 (by omega);have hl:Zrs (y:Int)=some ((56+k:Nat):Int):=by
  unfold Zrs Zsx Zsw;rw[d32,d16,d8,decide_eq_true (show (y:Int)≥4294967296 by omega),cond_true,decide_eq_true (show ((y / 4294967296:Nat):Int)≥65536 by omega),cond_true,decide_eq_true (show ((y / 4294967296 / 65536:Nat):Int)≥256 by omega),cond_true,
   show decide (0≤(32:Int))=true from rfl,show decide (0≤(16:Int))=true from rfl,show decide (0≤(8:Int))=true from rfl,show ((32:Int)+16)=48 from rfl,show ((48:Int)+8)=((56:Nat):Int)from rfl,hk]
  rfl
 have hp:2 ^ k*2 ^ (8 - k)=256:=by rw[←ZD2,show k+(8 - k)=8 by omega]
 have hpos:0 < 2 ^ (8 - k):=Nat.pow_pos (by decide);refine⟨8 - k,by omega, ?_, ?_, ?_⟩
 ·unfold Zpc;rw[hl,ZD8,ZnG (by omega),chk_true];congr 1;omega
 ·have h2:=hk2 (by omega);have h3:2 ^ k*2 ^ (8 - k)≤2*(y / 4294967296 / 65536 / 256)*2 ^ (8 - k):=ZDY _ h2;have h4:y / 4294967296 / 65536 / 256*72057594037927936≤y:=by omega
  have h5:y / 4294967296 / 65536 / 256*72057594037927936*2 ^ (8 - k)≤y*2 ^ (8 - k):=ZDY _ h4;rw[hp]at h3;rw[Nat.mul_right_comm]at h5;rw[ZDV]at h3;omega
 ·have h4:y+1≤(y / 4294967296 / 65536 / 256+1)*72057594037927936:=by omega
  have h5:(y+1)*2 ^ (8 - k)≤(y / 4294967296 / 65536 / 256+1)*72057594037927936*2 ^ (8 - k):=ZDY _ h4;have h6:(y / 4294967296 / 65536 / 256+1)*2 ^ (8 - k)≤2 ^ k*2 ^ (8 - k):=ZDY _ hk1;rw[hp]at h6;rw[Nat.mul_right_comm,Nat.add_mul,ZD0]at h5;omega
theorem ZAv {y' s yn1 yn0 un0 q1 U q rhat:Nat} {T:Nat} (h1:2147483648≤yn1) (h2:yn1 < 4294967296) (h3:yn0 < 4294967296) (h4:un0 < 4294967296) (hy:y'=yn1*4294967296+yn0)
  (hT:T*y'≤U*4294967296+un0) (hT2:U*4294967296+un0 < (T+1)*y') (hq:q≤40) (hr:q*yn1+rhat=U) (hrh:rhat < 4294967296) (hle:T≤q):
  wp (Zqk big (y':Int) (s:Int) (yn1:Int) (yn0:Int) (un0:Int) (q1:Int) (rhat:Int) (U:Int) (q:Int)) (fun x=>x=((y':Int),(s:Int),(un0:Int),(q1:Int),(U:Int),(T:Int))):=by
 refine Zra ZvU (fun t:Nat×Nat=>((y':Int),(s:Int),(yn1:Int),(yn0:Int),(un0:Int),(q1:Int),(t.2:Int),(U:Int),(t.1:Int)))
  (fun t=>t.1≤40∧t.1*yn1+t.2=U∧t.2 < 4294967296∧T≤t.1) (fun t=>t.1) (Q:=fun x=>x=((y':Int),(s:Int),(un0:Int),(q1:Int),(U:Int),(T:Int))) (q,rhat) ⟨hq,hr,hrh,hle⟩ (by dsimp only;omega) ?_
 rintro rec ⟨q,rhat⟩ ⟨hq,hr,hrh,hle⟩ ih;dsimp only at hq hr hrh hle ih;unfold ZuH Ztj ZsA;dsimp only;have hqy:q*yn0≤40*4294967296:=ZDX hq (by omega);have e1:IntKind.wrap .u64 ((q:Int)*(yn0:Int))=((q*yn0:Nat):Int):=by rw[ZwD,ZnH (by omega)]
 have e2:IntKind.wrap .u64 (4294967296*(rhat:Int))=((4294967296*rhat:Nat):Int):=by rw[show (4294967296*(rhat:Int))=((4294967296*rhat:Nat):Int) by omega,ZnH (by omega)]
 have e3:IntKind.wrap .u64 (((4294967296*rhat:Nat):Int)+(un0:Int))=((4294967296*rhat+un0:Nat):Int):=by rw[Zv2,ZnH (by omega)]
 have e4:IntKind.wrap .u64 ((rhat:Int)+(yn1:Int))=((rhat+yn1:Nat):Int):=by rw[Zv2,ZnH (by omega)]
 have hmul:q*y'=q*yn1*4294967296+q*yn0:=by rw[hy,ZDU,ZDV]
 rw[decide_eq_false (show ¬(q:Int)≥4294967296 by omega),cond_false,e1,e2,e3,e4]
 by_cases hc:q*yn0 > 4294967296*rhat+un0
 ·
  have hgt:T < q:=by
   rcases ZDR T q with h |h
   ·exact h
   ·have h5:q*y'≤T*y':=ZDY _ h;omega
  have e5:IntKind.wrap .u64 ((q:Int) - 1)=((q - 1:Nat):Int):=by rw[show (q:Int) - 1=((q - 1:Nat):Int) by omega,ZnH (by omega)]
  have hr2:(q - 1)*yn1+(rhat+yn1)=U:=by
   have:q*yn1=(q - 1)*yn1+yn1:=by obtain⟨m,rfl⟩:∃m,q=m+1:=⟨q - 1,by omega⟩;rw[Nat.add_mul,ZD0,Nat.add_sub_cancel]
   omega
  rw[decide_eq_true (show ((q*yn0:Nat):Int) > ((4294967296*rhat+un0:Nat):Int) by omega),cond_true,e5]
  by_cases hb:rhat+yn1≥4294967296
  ·rw[decide_eq_true (show ((rhat+yn1:Nat):Int)≥4294967296 by omega),cond_true,ZnC];have hmul2:(q - 1)*y'=(q - 1)*yn1*4294967296+(q - 1)*yn0:=by rw[hy,ZDU,ZDV]
   have hqy2:(q - 1)*yn0≤39*4294967296:=ZDX (by omega) (by omega);have:q - 1≤T:=by
    rcases ZDR T (q - 1)with h |h
    ·have h5:(T+1)*y'≤(q - 1)*y':=ZDY _ h;omega
    ·exact h
   rw[show q - 1=T by omega]
  ·rw[decide_eq_false (show ¬((rhat+yn1:Nat):Int)≥4294967296 by omega),cond_false];exact ih (q - 1,rhat+yn1) ⟨by dsimp only;omega,hr2,by dsimp only;omega,by dsimp only;omega⟩ (by dsimp only;omega)
 ·rw[decide_eq_false (show ¬((q*yn0:Nat):Int) > ((4294967296*rhat+un0:Nat):Int) by omega),cond_false,ZnC];have:q≤T:=by
   rcases ZDR T q with h |h
   ·have h5:(T+1)*y'≤q*y':=ZDY _ h;omega
   ·exact h
  rw[show q=T by omega]
end Go.Proofs
