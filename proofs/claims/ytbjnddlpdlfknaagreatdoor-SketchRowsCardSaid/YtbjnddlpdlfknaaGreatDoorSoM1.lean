/- Plain laws over the specs, part 1. -/
import Derived.Test.YtbjnddlpdlfknaaGreatDoorSoM0
set_option linter.unusedVariables false
set_option linter.unusedSimpArgs false
set_option linter.unusedSectionVars false
open Bool renaming not_true→ZBz
open Int renaming natAbs_natCast→ZDW, natAbs_mul→ZDV, toNat_natCast→ZDX, mul_ne_zero→ZDU
open List renaming all_eq_true→ZDY, mem_cons→ZEc, take_length→ZEg, length_singleton→ZD9, length_cons→ZD6, length_append→ZD5, length_take→ZEa, getD_eq_getElem?_getD→ZD0, length_set→ZD8, take_succ_eq_append_getElem→ZEh, pairwise_cons→ZEf, foldl_cons→ZDZ, not_mem_nil→ZEe, mem_singleton→ZEd, mem_append→ZEb, getElem_mem→ZD4, length_map→ZD7, getElem_cons_drop→ZD3, getElem?_eq_none→ZD2, getElem?_eq_getElem→ZD1
open Nat renaming le_trans→ZEq, gcd→ZEn, pow_succ→ZEC, mul_assoc→ZEw, pow_zero→ZED, mod_lt→ZEu, mul_add→ZEv, lt_of_le_of_lt→ZEr, le_refl→ZEp, mul_comm→ZEx, pow_le_pow_right→ZEB, div_le_self→ZEm, one_mul→ZEz, le_of_lt→ZEo, two_pow_pos→ZEF, zero_add→ZEG, pos_of_ne_zero→ZEA, lt_of_lt_of_le→ZEs, min_eq_left→ZEt, mul_left_comm→ZEy, div_add_mod→ZEk, add_mul_div_left→ZEi, div_eq_of_lt→ZEl, add_mul_mod_self_left→ZEj, two_pow_add_eq_or_of_lt→ZEE
open Option renaming bind_some→ZEH
open UInt8 renaming not_lt→ZEI
namespace Go.Proofs
open Go Eng
def Sz (k:Nat) (q:Rat):Prop:=q.num.natAbs < 2 ^ k∧q.den < 2 ^ k
theorem Sz.mono {k l:Nat} {q:Rat} (h:Sz k q) (hl:k≤l):Sz l q:=⟨ZEs h.1 (ZEB (by decide) hl),ZEs h.2 (ZEB (by decide) hl)⟩
theorem ZyB {n k:Nat} (h:n < 2 ^ k) (m:Nat) (hk:k≤32*m):(wd n).length≤m:=by refine ZuN (ZEs h ?_);rw[show Bw=2 ^ 32 from rfl,←Nat.pow_mul];exact ZEB (by decide) hk
theorem Sz.wq {k:Nat} {q:Rat} (h:Sz k q) (hk:k≤8192):Wq 256 q:=⟨ZyB h.1 256 (by omega),ZyB (n:=(q.den:Int).natAbs) (by rw[ZDW];exact h.2) 256 (by omega)⟩
theorem ZvI {x y:Int} {k:Nat} (hy:y≠0) (h1:x.natAbs < 2 ^ k) (h2:y.natAbs < 2 ^ k):Sz k (Rat.divInt x y):=by
 unfold Sz;rw[Rat.num_divInt,Rat.den_divInt,if_neg hy];refine⟨ZEr ?_ h1,ZEr (ZEm _ _) h2⟩;have hd:((Int.gcd y x:Nat):Int)∣y.sign*x:=Int.dvd_trans (Int.gcd_dvd_right y x) (Int.dvd_mul_left _ _);rw[Int.natAbs_ediv_of_dvd hd,ZDV];refine ZEq (ZEm _ _) ?_;have:y.sign.natAbs=1:=by rw[Int.natAbs_sign_of_ne_zero hy]
 rw[this,ZEz];exact ZEp _
theorem Zvl {x y k l:Nat} (hx:x < 2 ^ k) (hy:y < 2 ^ l):x*y < 2 ^ (k+l):=by rw[Nat.pow_add];exact Nat.mul_lt_mul_of_lt_of_le hx (ZEo hy) (ZEF _)
theorem Zxf (a b:Rat):Rat.divInt (a.num*(b.den:Int)+b.num*(a.den:Int)) ((a.den:Int)*(b.den:Int))=a+b:=by have h1:=a.den_nz;have h2:=b.den_nz;rw[←Rat.divInt_add_divInt _ _ (by omega) (by omega),Rat.num_divInt_den,Rat.num_divInt_den]
theorem Sz.add {a b:Rat} {k l:Nat} (ha:Sz k a) (hb:Sz l b):Sz (k+l+1) (a+b):=by
 rw[←Zxf];have h1:=a.den_nz;have h2:=b.den_nz;have q1:=Zvl ha.1 hb.2;have q2:=Zvl ha.2 hb.1;have q3:=Zvl ha.2 hb.2;have hp:=ZEF (k+l);refine ZvI (ZDU (by omega) (by omega)) ?_ ?_
 ·rw[ZEC];refine ZEr (Int.natAbs_add_le _ _) ?_;rw[ZDV,ZDV,ZDW,ZDW,ZEx b.num.natAbs];omega
 ·rw[ZEC,ZDV,ZDW,ZDW];omega
theorem ZBv {q:Rat} (h:Wq 256 q):decide ((if ((fOf q).Den.Words.length:Int) > ((fOf q).Num.Words.length:Int)then ((fOf q).Den.Words.length:Int)else ((fOf q).Num.Words.length:Int)) > 256)=false:=by have h1:=h.1;have h2:=h.2;unfold Wl at h1 h2;refine decide_eq_false ?_;unfold fOf;rw[ZqL,ZqL,Zol,Zol];split<;>omega
theorem Zwu {y:Int} (hy:y≠0):(((bg y).Words.length:Int) == 0)=false:=by have:=Zsu (n:=y.natAbs) (by omega);rw[ZqL,Zol];exact beq_eq_false_iff_ne.2 (by omega)
theorem ZB9 {a b:Rat} {k l:Nat} (ha:Sz k a) (hb:Sz l b) (hk:k+l+1≤8192):Ztx (fOf a) (fOf b)=some (fOf (a+b),0):=by
 have h1:=a.den_nz;have h2:=b.den_nz;have qa:=ha.wq (by omega);have qb:=hb.wq (by omega);have w:∀{x y:Int},Wl 256 x→Wl 256 y→Wl 512 (x*y):=fun hx hy=>by unfold Wl;rw[ZDV];exact Zyz hx hy
 have m:∀{n:Nat} {x:Int},Wl n x→n≤50000→Wl 50000 x:=fun h h'=>ZEq h h'
 have w1:=w qa.1 qb.2;have w2:=w qb.1 qa.2;have w3:=w qa.2 qb.2;have w4:Wl 513 (a.num*(b.den:Int)+b.num*(a.den:Int)):=ZEq (ZrG (Int.natAbs_add_le _ _)) (ZyC w1 w2);have hd:(a.den:Int)*(b.den:Int)≠0:=ZDU (by omega) (by omega);unfold Ztx Zp4;rw[Zwg a qa,ZEH,ZBz,cond_false,Zwg b qb,ZEH,ZBz];unfold Zpl ZtU;rw[cond_false];show ((((Zn6 (bg a.num) (bg (b.den:Int))).bind fun q=>(Zn6 (bg b.num) (bg (a.den:Int))).bind fun q_1=>(Zsy q q_1).bind fun num=>(Zn6 (bg (a.den:Int)) (bg (b.den:Int))).bind fun den=>some (num,den)).bind _).bind _)=_;rw[Zvk _ _ (m qa.1 (by omega)) (m qb.2 (by omega)),ZEH,Zvk _ _ (m qb.1 (by omega)) (m qa.2 (by omega)),ZEH,ZBt _ _ (m w1 (by omega)) (m w2 (by omega)),ZEH,Zvk _ _ (m qa.2 (by omega)) (m qb.2 (by omega)),ZEH,ZEH];dsimp only;rw[Zwu hd,cond_false,Zvj _ _ hd (m w4 (by omega)) (m w3 (by omega)),ZEH,Zxf,ZBv ((ha.add hb).wq hk),cond_false,ZEH]
end Go.Proofs
namespace Go.Proofs
open Go Eng
theorem Sz.neg {q:Rat} {k:Nat} (h:Sz k q):Sz k (-q):=by show (-q.num).natAbs < 2 ^ k∧q.den < 2 ^ k;rw[Int.natAbs_neg];exact h
theorem ZyT {a b:Rat} {k l:Nat} (ha:Sz k a) (hb:Sz l b) (hk:k+l+1≤8192):ZvL (fOf a) (fOf b)=some (fOf (a+b)):=by unfold ZvL Zt3;rw[ZB9 ha hb hk];rfl
theorem ZAF (x y:Int) (hy:y≠0) (hx1:Wl 256 x) (hy1:Wl 256 y):ZsZ (bg x) (bg y)=some (fOf (Rat.divInt x y),0):=by
 have hb:=Zza [x,y] (by simp) (fun z hz=>by
  simp only[ZEc,ZEe,or_false]at hz;rcases hz with rfl |rfl
  ·exact hx1
  ·exact hy1)
 unfold ZsZ;rw[show ([bg x,bg y]:List ZnI)=[x,y].map bg from rfl,hb,ZEH,ZBz,cond_false,Zwu hy,cond_false,Zvj _ _ hy (ZEq hx1 (by decide)) (ZEq hy1 (by decide)),ZEH]
theorem ZC5 {z:Int} (h1: -9223372036854775808≤z) (h2:z≤9223372036854775807):Wl 256 z:=ZEq (ZAH (by omega)) (by decide)
theorem ZBB (x y:Int) (hy:y≠0) (h1: -9223372036854775808≤x) (h2:x≤9223372036854775807) (h3: -9223372036854775808≤y) (h4:y≤9223372036854775807):Ztf x y=some (fOf (Rat.divInt x y),0):=by unfold Ztf;rw[Zxb x h1 h2,ZEH,Zxb y h3 h4,ZEH,ZAF x y hy (ZC5 h1 h2) (ZC5 h3 h4),ZEH]
theorem Zyy:Zt4=some (fOf 0):=by unfold Zt4;rw[ZBB 0 1 (by decide) (by decide) (by decide) (by decide) (by decide),ZEH,Rat.zero_divInt]
theorem Zzv (x y:Int) (hy:y≠0) (h1: -9223372036854775808≤x) (h2:x≤9223372036854775807) (h3: -9223372036854775808≤y) (h4:y≤9223372036854775807):Zwi x y=some (fOf (Rat.divInt x y)):=by unfold Zwi;rw[ZBB x y hy h1 h2 h3 h4,ZEH];rfl
theorem ZAq:Sz 1 0:=by unfold Sz;decide
theorem Zxc (a b:Rat):Rat.divInt (a.num*(b.den:Int)) ((a.den:Int)*b.num)=a / b:=by rw[←Rat.divInt_mul_divInt,Rat.num_divInt_den,Rat.div_def,Rat.inv_def]
theorem Sz.div {a b:Rat} {k l:Nat} (hb0:b≠0) (ha:Sz k a) (hb:Sz l b):Sz (k+l) (a / b):=by
 rw[←Zxc];have h1:=a.den_nz;have h2:b.num≠0:=fun e=>hb0 (Rat.num_eq_zero.1 e)
 refine ZvI (ZDU (by omega) h2) ?_ ?_
 ·rw[ZDV,ZDW];exact Zvl ha.1 hb.2
 ·rw[ZDV,ZDW];exact Zvl ha.2 hb.1
theorem ZB5 {a b:Rat} {k l:Nat} (hb0:b≠0) (ha:Sz k a) (hb:Sz l b) (hk:k+l≤8192):Ztw (fOf a) (fOf b)=some (fOf (a / b),0):=by
 have h1:=a.den_nz;have h2:b.num≠0:=fun e=>hb0 (Rat.num_eq_zero.1 e)
 have qa:=ha.wq (by omega);have qb:=hb.wq (by omega);have w:∀{x y:Int},Wl 256 x→Wl 256 y→Wl 50000 (x*y):=fun hx hy=>by unfold Wl;rw[ZDV];exact ZEq (Zyz hx hy) (by decide)
 have m:∀{x:Int},Wl 256 x→Wl 50000 x:=fun h=>ZEq h (by decide)
 have w1:=w qa.1 qb.2;have w3:=w qa.2 qb.1;have hd:(a.den:Int)*b.num≠0:=ZDU (by omega) h2;unfold Ztw ZpE;rw[Zwg a qa,ZEH,ZBz,cond_false,Zwg b qb,ZEH,ZBz];unfold Zo0 ZtV;rw[cond_false];show ((((Zn6 (bg a.num) (bg (b.den:Int))).bind fun num=>(Zn6 (bg (a.den:Int)) (bg b.num)).bind fun den=>some (num,den)).bind _).bind _)=_;rw[Zvk _ _ (m qa.1) (m qb.2),ZEH,Zvk _ _ (m qa.2) (m qb.1),ZEH,ZEH];dsimp only;rw[Zwu hd,cond_false,Zvj _ _ hd w1 w3,ZEH,Zxc,ZBv ((Sz.div hb0 ha hb).wq hk),cond_false,ZEH]
theorem ZyS {a b:Rat} {k l:Nat} (hb0:b≠0) (ha:Sz k a) (hb:Sz l b) (hk:k+l≤8192):ZvK (fOf a) (fOf b)=some (fOf (a / b)):=by unfold ZvK Zt3;rw[ZB5 hb0 ha hb hk];rfl
end Go.Proofs
namespace Go.Proofs
open Go Eng
theorem Zx1:∀n w,Zor n w=ZoH n w
 |0,_=>rfl
 |n+1,w=>by have:Zor n=ZoH n:=funext (Zx1 n);show ZsB (Zor n) w=ZqY (ZoH n) w;rw[this];rfl
theorem Zyi (w:List Int):Zn8 w=Zn5 w:=by unfold Zn8 Zn5;rw[Zx1];rfl
theorem Zwh {l:List Nat} (h:Dg l) (hl:l.length≤1000000):Zn8 (iL l)=some (iL (wd (val l))):=by rw[Zyi,Zvs h hl]
theorem ZxW (neg:Bool) {l:List Nat} (h:Dg l) (hl:l.length≤1000000):ZoA neg (iL l)=some (bg (if neg then -(val l:Int)else val l)):=by
 unfold ZoA Zqx;rw[Zwh h hl,ZEH,Zol];unfold bg;cases neg with
 |true=>
  rw[cond_true,if_pos rfl,Int.natAbs_neg,ZDW];congr 2
  by_cases h0:val l=0
  ·rw[h0,ZsK];rfl
  ·have:=Zsu h0;rw[decide_eq_true (by omega),decide_eq_true (by omega)]
 |false=>rw[cond_false,if_neg (by decide),ZDW,decide_eq_false (by omega)]
theorem Zv2 (a:ZnI):Zo4 a=Zqs a:=rfl
end Go.Proofs
namespace Go.Proofs
open Go Eng
theorem Zy7 (a b:Nat) (ha:(wd a).length≤100000) (hb:(wd b).length≤100000):Zpo (iL (wd a)) (iL (wd b))=some (Zxr a b):=by
 refine Zqg ?_;unfold Zpo;rw[Zol,Zol,Zob];refine⟨fun h=> ?_,fun h=> ?_⟩
 ·have hne:(wd a).length≠(wd b).length:=fun e=>by rw[e]at h;simp at h
  rw[Zob];refine⟨fun h=> ?_,fun h=> ?_⟩
  ·have h1:(wd a).length < (wd b).length:=by have:=of_decide_eq_true h;omega
   rw[ZnC,Zuu (Zw8 h1)]
  ·have h1:(wd b).length < (wd a).length:=by have:=of_decide_eq_false h;omega
   rw[ZnC,Zt8 (Zw8 h1)]
 ·have hl:(wd a).length=(wd b).length:=by simp only[bne_eq_false_iff_eq]at h;omega
  rw[ZnJ,ZnH];refine⟨ZnP (by omega), ?_⟩;refine Zn7 (Zwt ZuG (wd a).length (by omega) (fun i (s:Unit)=>(iL (wd a),iL (wd b),i)) (fun k _=>(wd a).drop k=(wd b).drop k)
   (Q:=fun r=>r= .ret (Zxr a b)∨r= .brk ()∧a=b) () (by rw[List.drop_length,hl,List.drop_length]) ?_ ?_) ?_
  ·rintro rec k ⟨⟩ hk hP ih;have hk2:k < (wd b).length:=by omega
   unfold Zq8 ZpT;dsimp only;rw[Zob];refine⟨fun _=> ?_,fun h=>by have:=of_decide_eq_false h;omega⟩;have ha:=ZuO hk;have hb:=ZuO hk2;rw[ZrV]at ha hb;have la:val ((wd a).take k) < Bw ^ k:=by have:=Ztg ((ZtZ a).take k);rwa [ZEa,ZEt (by omega)]at this
   have lb:val ((wd b).take k) < Bw ^ k:=by have:=Ztg ((ZtZ b).take k);rwa [ZEa,ZEt (by omega)]at this
   rw[Zst hk,ZnH,ZnC,Zst hk2,ZnH,ZnC,Zob];refine⟨fun hc=> ?_,fun hc=> ?_⟩
   ·have h1:(wd a)[k] < (wd b)[k]:=by have:=of_decide_eq_true hc;omega
    have:a < b:=by rw[ha,hb,hP];exact Zxh (A:=0) (B:=0) la (by omega)
    rw[ZnC];exact .inl (by rw[Zuu this])
   ·rw[ZnH,ZnC,ZnH,ZnC,Zob];refine⟨fun hc2=> ?_,fun hc2=> ?_⟩
    ·have h1:(wd b)[k] < (wd a)[k]:=by have:=of_decide_eq_true hc2;omega
     have:b < a:=by rw[ha,hb,hP];exact Zxh (A:=0) (B:=0) lb (by omega)
     rw[ZnC];exact .inl (by rw[Zt8 this])
    ·rw[ZnJ];refine⟨ZnP (by omega),ih () ?_⟩;have h1:(wd a)[k]=(wd b)[k]:=by have q1:=of_decide_eq_false hc;have q2:=of_decide_eq_false hc2;omega
     rw[←ZD3 (h:=hk),←ZD3 (h:=hk2),h1,hP]
  ·rintro rec ⟨⟩ hP;unfold Zq8 ZpT;dsimp only;rw[Zob];refine⟨fun h=>by have:=of_decide_eq_true h;omega,fun _=> ?_⟩;rw[ZnC];rw[List.drop_zero,List.drop_zero]at hP;exact .inr ⟨rfl,by rw[←ZrV a,←ZrV b,hP]⟩
  ·rintro r (rfl |⟨rfl,rfl⟩)
   ·exact ZnC.2 rfl
   ·unfold ZrO;exact ZnC.2 (Zun a).symm
theorem ZxO {a:Nat} (k:Nat) (hk:k≤32):shlK .u32 (a:Int) (k:Int)=((a*2 ^ k % 4294967296:Nat):Int):=by
 unfold shlK;rw[ZDX,show IntKind.bits .u32=32 from rfl,ZEt (by omega)];have e:(a:Int)*(2:Int) ^ k=((a*2 ^ k:Nat):Int):=by push_cast;rfl
 rw[e,Zs8]
theorem Zx0 (a d:Nat) (hd:d≤1) (ha:(wd a).length≤100000):ZoV (iL (wd a)) (d:Int)=some (iL (wd (2*a+d))):=by
 refine Zqg ?_;unfold ZoV;rw[ZnH];refine Zn7 (Zsz Zuc (wd a).length (by omega) (fun i (s:Nat×List Nat)=>(iL (wd a),(s.1:Int),i,iL s.2)) (fun i s=>s.1≤1∧s.2.length=i∧Dg s.2∧val s.2+Bw ^ i*s.1=2*val ((wd a).take i)+d)
  (Q:=fun y=>∃(c:Nat) (o:List Nat),y=((c:Int),iL o)∧c≤1∧Dg o∧o.length=(wd a).length∧val o+Bw ^ (wd a).length*c=2*a+d) (d,[]) ⟨hd,rfl,Zv5,by simp[val]⟩ ?_ ?_) ?_
 ·rintro rec i ⟨c,o⟩ hi ⟨hc,hl,hod,hv⟩ ih;dsimp only at hc hl hod hv ih;have h1:=(ZtZ a).get hi;unfold ZqN Zpy;dsimp only;rw[Zob,Zol];refine⟨fun _=> ?_,fun h=>by have:=of_decide_eq_false h;omega⟩;rw[Zst hi,ZnH,ZnC];generalize ex:(wd a)[i]=x at h1;have eor:orK .u32 (shlK .u32 (x:Int) 1) (c:Int)=((c+x*2 ^ 1 % Bw:Nat):Int):=by rw[show (1:Int)=((1:Nat):Int)from rfl,ZxO 1 (by omega),Zxw (ZEu _ (by decide)) (by omega),Nat.or_comm];congr 1;exact Zxj (by decide) (by omega) h1
  have esh:shrK .u32 (x:Int) 31=((x / 2 ^ 31:Nat):Int):=Zv9 31 (by omega);rw[eor,ZEH,esh,ZnJ,ZnJ,ZnJ,ZnJ,Zol];have hx:c+x*2 ^ 1 % Bw < Bw:=by simp only[Bw]at h1⊢;omega
  refine⟨by decide,ZtI (by simp only[ZD9];omega),by decide,ZnP (by omega), ?_⟩;have:=ih (x / 2 ^ 31,o++[c+x*2 ^ 1 % Bw]) ⟨by simp only[Bw]at h1;dsimp only;omega,by simp[hl],hod.app (ZvS hx), ?_⟩
  ·rw[ZxE]at this;exact this
  ·dsimp only;have q:c+x*2 ^ 1 % Bw+Bw*(x / 2 ^ 31)=c+2*x:=by simp only[Bw]at h1⊢;omega
   have q2:Bw ^ i*(c+x*2 ^ 1 % Bw+Bw*(x / 2 ^ 31))=Bw ^ i*(c+2*x):=by rw[q]
   have q3:Bw ^ i*(2*x)=2*(Bw ^ i*x):=ZEy _ _ _;rw[ZEv,ZEv (Bw ^ i) c (2*x),q3]at q2;rw[Zty,hl,Zom hi,ex];generalize c+x*2 ^ 1 % Bw=dg at*
   generalize x / 2 ^ 31=cy at*
   rw[ZEC,ZEw];omega
 ·rintro rec ⟨c,o⟩ ⟨hc,hl,hod,hv⟩;dsimp only at hc hl hod hv;unfold ZqN Zpy;dsimp only;rw[Zob,Zol];refine⟨fun h=>by have:=of_decide_eq_true h;omega,fun _=> ?_⟩;rw[ZnC];rw[ZEg,ZrV]at hv;exact⟨c,o,rfl,hc,hod,hl,hv⟩
 ·rintro y ⟨c,o,rfl,hc,hod,hl,hv⟩;dsimp only;unfold Zq3;have e:iL o++[(c:Int)]=iL (o++[c]):=by rw[ZxE];rfl
  rw[ZnJ,Zol,e,Zwh (hod.app (ZvS (by simp only[Bw];omega))) (by simp;omega),ZnH,ZnC,ZnC,Zty,hl,hv];exact⟨ZtI (by simp only[ZD9];omega),rfl⟩
end Go.Proofs
namespace Go.Proofs
open Go Eng
theorem ZAt (t:Int):shrK .i64 t 32=t / 4294967296:=by unfold shrK;rw[show min (32:Int).toNat (IntKind.bits .i64)=32 from by decide,Int.fdiv_eq_ediv_of_nonneg _ (by decide)];rfl
theorem ZxM (a b:Nat) (hab:b≤a) (ha:(wd a).length≤100000):Zpm (iL (wd a)) (iL (wd b))=some (iL (wd (a - b))):=by
 have hlb:(wd b).length≤(wd a).length:=ZrG hab;refine Zqg ?_;unfold Zpm;rw[ZnH];refine Zn7 (Zsz ZuE (wd a).length (by omega) (fun i (s:Nat×List Nat)=>(iL (wd a),iL (wd b), -(s.1:Int),i,iL s.2)) (fun i s=>s.1≤1∧s.2.length=i∧Dg s.2∧val ((wd a).take i)+Bw ^ i*s.1=val s.2+val ((wd b).take i))
  (Q:=fun y=>∃(o:List Nat),y=iL o∧Dg o∧o.length=(wd a).length∧val o=a - b) (0,[]) ⟨by simp,rfl,Zv5,by simp[val]⟩ ?_ ?_) ?_
 ·rintro rec i ⟨c,o⟩ hi ⟨hc,hl,hd,hv⟩ ih;dsimp only at hc hl hd hv ih;have h1:=(ZtZ a).get hi;have h2:=ZwW (ZtZ b) i;have ey0:(wd b).getD i 0=(if i < (wd b).length then (wd b).getD i 0 else 0):=by
   by_cases h:i < (wd b).length
   ·rw[if_pos h]
   ·rw[if_neg h,ZD0,ZD2 (by omega)];rfl
  have fin:∀y:Nat,(wd b).getD i 0=y→wp (Zpr (fun a b c i out=>rec (a,b,c,i,out)) (iL (wd a)) (iL (wd b)) (-(c:Int)+((wd a)[i]:Int) - (y:Int)) (i:Int) (iL o)) (fun y=>∃(o:List Nat),y=iL o∧Dg o∧o.length=(wd a).length∧val o=a - b):=fun y ey=>by
   rw[ey]at h2;generalize ex:(wd a)[i]=x at h1;have ew:IntKind.wrap .u32 (-(c:Int)+(x:Int) - (y:Int))=(((x+4294967296 - y - c) % 4294967296:Nat):Int):=by simp only[Bw]at h1 h2;rw[IntKind.wrap_u32];omega
   have es:shrK .i64 (-(c:Int)+(x:Int) - (y:Int)) 32= -(((if x < y+c then 1 else 0):Nat):Int):=by simp only[Bw]at h1 h2;rw[ZAt];split<;>omega
   unfold Zpr;rw[ew,es,ZnJ,ZnJ,ZnJ,Zol];refine⟨ZtI (by simp only[ZD9];omega),by decide,ZnP (by omega), ?_⟩;have:=ih ((if x < y+c then 1 else 0),o++[(x+4294967296 - y - c) % 4294967296]) ⟨by dsimp only;split<;>omega,by simp[hl],hd.app (ZvS (ZEu _ (by decide))), ?_⟩
   ·rw[ZxE]at this;exact this
   ·dsimp only;rw[Zty,hl,ZEC,Zom hi,ZuB,ex,ey,ZEw];have e:x+Bw*(if x < y+c then 1 else 0)=(x+4294967296 - y - c) % 4294967296+y+c:=by simp only[Bw]at h1 h2⊢;split<;>omega
    have e2:Bw ^ i*(x+Bw*(if x < y+c then 1 else 0))=Bw ^ i*((x+4294967296 - y - c) % 4294967296+y+c):=by rw[e]
    rw[ZEv,ZEv,ZEv]at e2;omega
  unfold Zq4 ZpR;dsimp only;rw[Zob,Zol,Zol];refine⟨fun _=> ?_,fun h=>by have:=of_decide_eq_false h;omega⟩;have wx:IntKind.wrap .i64 ((wd a)[i]:Int)=((wd a)[i]:Int):=wrap_i64 (by simp only[Bw]at h1;omega);rw[Zst hi,ZnH,ZnC,wx,ZnJ,Zob];refine⟨ZnP (by simp only[Bw]at h1;omega),fun h=> ?_,fun h=> ?_⟩
  ·have hib:i < (wd b).length:=by have:=of_decide_eq_true h;omega
   have hy:=(ZtZ b).get hib;have wy:IntKind.wrap .i64 ((wd b)[i]:Int)=((wd b)[i]:Int):=wrap_i64 (by simp only[Bw]at hy;omega);rw[Zst hib,ZnH,ZnC,wy,ZnJ];refine⟨ZnP (by simp only[Bw]at h1 hy;omega),fin _ ?_⟩;rw[ZD0,ZD1 hib];rfl
  ·have hib:¬i < (wd b).length:=by have:=of_decide_eq_false h;omega
   have:=fin 0 (by rw[ey0,if_neg hib]);rw[Int.natCast_zero,Int.sub_zero]at this;exact this
 ·rintro rec ⟨c,o⟩ ⟨hc,hl,hd,hv⟩;unfold Zq4 ZpR;dsimp only at hc hl hd hv⊢
  rw[Zob,Zol];refine⟨fun h=>by have:=of_decide_eq_true h;omega,fun _=> ?_⟩;rw[ZnC];rw[ZEg,List.take_of_length_le (by omega),ZrV,ZrV]at hv;have:=Ztg hd;rw[hl]at this;have hc0:c=0:=by
   rcases Nat.eq_zero_or_pos c with h |h
   ·exact h
   ·have:c=1:=by omega
    rw[this,Nat.mul_one]at hv;omega
  rw[hc0,Nat.mul_zero]at hv;exact⟨o,rfl,hd,hl,by omega⟩
 ·rintro y ⟨o,rfl,hd,hl,hv⟩;unfold ZrH;rw[Zwh hd (by omega),ZnH,ZnC,ZnC,hv]
end Go.Proofs
namespace Go.Proofs
open Go Eng
theorem ZwL (a:Nat) (ha:(wd a).length≤100000):Zox (iL (wd a))=some (iL (wd (a / 2))):=by
 refine Zqg ?_;unfold Zox;rw[List.nil_append,ZnJ,ZnH,Zol];refine⟨ZtI (by rw[List.length_nil];omega), ?_⟩;refine Zn7 (Zsz Zuq (wd a).length (by omega) (fun i (o:List Nat)=>(iL (wd a),((wd a).length:Int),i,iL (o++(wd a).drop o.length))) (fun i o=>o.length=i∧Dg o∧val o*2+(wd a).getD 0 0 % 2=val ((wd a).take i)+Bw ^ i*((wd a).getD i 0 % 2))
  (Q:=fun y=>∃(o:List Nat),y=iL o∧Dg o∧o.length=(wd a).length∧val o=a / 2) [] ⟨rfl,Zv5,by simp[val]⟩ ?_ ?_) ?_
 ·rintro rec i o hi ⟨hol,hod,hov⟩ ih;have h1:=(ZtZ a).get hi;have hyB:=ZwW (ZtZ a) (i+1);have hlen:(o++(wd a).drop o.length).length=(wd a).length:=by simp;omega
  have gx:(iL (o++(wd a).drop o.length))[i]? =some ((wd a)[i]:Int):=by rw[Zv3 (by omega)];congr 2;rw[List.getElem_append_right (by omega)];simp[hol]
  have fin:∀z:Nat,z=(wd a)[i] / 2+(wd a).getD (i+1) 0*2 ^ 31 % Bw→wp (Zpg (fun a t9 i out=>rec (a,t9,i,out)) (iL (wd a)) ((wd a).length:Int) (i:Int) (iL ((o++(wd a).drop o.length).set i z))) (fun y=>∃(o:List Nat),y=iL o∧Dg o∧o.length=(wd a).length∧val o=a / 2):=fun z hz=>by
   unfold Zpg;have es:(o++(wd a).drop o.length).set i z=(o++[z])++(wd a).drop (o++[z]).length:=by rw[List.set_append_right _ _ (by omega),hol,Nat.sub_self,←ZD3 (h:=hi),List.set_cons_zero];simp[hol]
   have eg:(wd a).getD i 0=(wd a)[i]:=by rw[ZD0,ZD1 hi];rfl
   rw[eg]at hov;rw[ZnJ,es];generalize ex:(wd a)[i]=x at*
   generalize ey:(wd a).getD (i+1) 0=y at*
   have hzB:z < Bw:=by simp only[Bw]at h1 hz⊢;omega
   refine⟨ZnP (by omega),ih (o++[z]) ⟨by simp[hol],hod.app (ZvS hzB), ?_⟩⟩;have hd1:z*2+x % 2=x+Bw*(y % 2):=by simp only[Bw]at h1 hz⊢;omega
   have q1:Bw ^ i*(z*2+x % 2)=Bw ^ i*(x+Bw*(y % 2)):=by rw[hd1]
   rw[ZEv,ZEv]at q1;rw[Zty,hol,Zom hi,ex,ZEC,Nat.add_mul,ZEw,ZEw];omega
  unfold ZqU ZpM;dsimp only;rw[Zob];refine⟨fun _=> ?_,fun h=>by have:=of_decide_eq_false h;omega⟩;have esh:shrK .u32 ((wd a)[i]:Int) 1=(((wd a)[i] / 2:Nat):Int):=Zv9 1 (by omega);rw[ZDX,gx,ZnJ,ZnH,ZnC,ZnJ,ZnJ,ZnJ,esh,ZvB,Zol,Zol,hlen,Zob];refine⟨ZqE ⟨by omega,by omega⟩,by decide,ZqE ⟨by omega,by omega⟩,ZnP (by omega),fun h=> ?_,fun h=> ?_⟩
  ·have hi2:i+1 < (wd a).length:=by have:=of_decide_eq_true h;omega
   have gz:(iL ((o++(wd a).drop o.length).set i ((wd a)[i] / 2)))[i]? =some (((wd a)[i] / 2:Nat):Int):=by rw[Zv3 (by rw[ZD8];omega),List.getElem_set_self]
   have e1:(i:Int)+1=((i+1:Nat):Int):=rfl;have eg:(wd a).getD (i+1) 0=(wd a)[i+1]:=by rw[ZD0,ZD1 hi2];rfl
   have eor:orK .u32 (((wd a)[i] / 2:Nat):Int) (shlK .u32 ((wd a)[i+1]:Int) 31)=(((wd a)[i] / 2+(wd a).getD (i+1) 0*2 ^ 31 % Bw:Nat):Int):=by rw[eg,show (31:Int)=((31:Nat):Int)from rfl,ZxO 31 (by omega),Zxw (by simp only[Bw]at h1;omega) (ZEu _ (by decide))];congr 1;exact Zxj (by decide) (by simp only[Bw]at h1;omega) ((ZtZ a).get hi2)
   rw[e1,Zst hi2,gz,ZnJ,ZnH,ZnC,ZnJ,ZnH,ZnC,ZnJ,ZnJ,eor,Zol,ZD8,hlen,ZvB,List.set_set];exact⟨ZqE ⟨by omega,by omega⟩,ZnP (by omega),by decide,ZqE ⟨by omega,by omega⟩,fin _ rfl⟩
  ·have hi2:¬i+1 < (wd a).length:=by have:=of_decide_eq_false h;omega
   refine fin _ ?_;rw[ZD0,ZD2 (by omega)];simp
 ·rintro rec o ⟨hol,hod,hov⟩;unfold ZqU ZpM;dsimp only;rw[Zob];refine⟨fun h=>by have:=of_decide_eq_true h;omega,fun _=> ?_⟩;rw[ZnC];have eg:(wd a).getD (wd a).length 0=0:=by rw[ZD0,ZD2 (by omega)];rfl
  rw[eg,Nat.zero_mod,Nat.mul_zero,Nat.add_zero,ZEg,ZrV]at hov;refine⟨o,by rw[hol,List.drop_length,List.append_nil],hod,hol, ?_⟩;omega
 ·rintro y ⟨o,rfl,hd,hl,hv⟩;unfold Zrq;rw[Zwh hd (by omega),ZnH,ZnC,ZnC,hv]
end Go.Proofs
namespace Go.Proofs
open Go Eng
theorem Zxx {a:Nat} (h:a≠0):idx (iL (wd a)) 0=some ((a % Bw:Nat):Int):=by rw[Zwf h];rfl
theorem ZwX {a:Nat}:(andK .u32 ((a % Bw:Nat):Int) 1 == 0)=decide (a % 2=0):=by
 rw[show (1:Int)=((1:Nat):Int)from rfl,Zxq (ZEu _ (by decide)) (by decide),Nat.and_one_is_mod];have e:a % Bw % 2=a % 2:=by simp only[Bw];omega
 rw[e]
 by_cases h:a % 2=0
 ·rw[h];rfl
 ·rw[decide_eq_false h];exact beq_eq_false_iff_ne.2 (by omega)
theorem Zx8 (P:Nat→Prop) {f:Nat→List Int×List Int×Int→Option (List Int×List Int×Int)} (y:List Int) (k:Int)
  (hf:∀n x,x≠0→(wd x).length≤100000→f (n+1) (iL (wd x),y,k)=if x % 2=0 then f n (iL (wd (x / 2)),y,k)else some (iL (wd x),y,k))
  (hP:∀x,P (2*x)→P x):∀(n x:Nat),x≠0→(wd x).length≤100000→P x→(∀m,x < 2 ^ m→m≤n→∃z,f n (iL (wd x),y,k)=some (iL (wd z),y,k)∧z % 2=1∧z≤x∧P z)
 |0,x,hx,hl,hp,m,hm,hmn=>by
  have:m=0:=by omega
  subst this;rw[ZED]at hm;omega
 |n+1,x,hx,hl,hp,m,hm,hmn=>by
  rw[hf n x hx hl]
  by_cases h:x % 2=0
  ·rw[if_pos h];cases m with
   |zero=>rw[ZED]at hm;omega
   |succ m=>
    obtain⟨z,h1,h2,h3,h4⟩:=Zx8 P y k hf hP n (x / 2) (by omega) (ZEq (ZrG (ZEm x 2)) hl) (hP _ (by rwa [show 2*(x / 2)=x by omega])) m (by rw[ZEC]at hm;omega) (by omega);exact⟨z,h1,h2,by omega,h4⟩
  ·rw[if_neg h];exact⟨x,rfl,by omega,ZEp _,hp⟩
end Go.Proofs
namespace Go.Proofs
open Go Eng
theorem Zt9 (x:Nat):x < 2 ^ (x.log2+1):=Nat.lt_log2_self
theorem Zvx {x n:Nat} (h:(wd x).length≤n):x.log2≤32*n:=by
 rcases Nat.eq_zero_or_pos x with rfl |hp
 ·rw[Nat.log2_zero];omega
 ·have h1:=Nat.log2_self_le (n:=x) (by omega);have h2:=ZEs (ZsL x) (ZEB (n:=Bw) (by decide) h);rw[show Bw=2 ^ 32 from rfl,←Nat.pow_mul]at h2;exact ZEo ((Nat.pow_lt_pow_iff_right (a:=2) (by decide)).1 (ZEr h1 h2))
theorem Zy5 {x b:Nat} (hb:b % 2=1):ZEn (2*x) b=ZEn x b:=by
 have hc:Nat.Coprime 2 b:=by unfold Nat.Coprime;rw[Nat.gcd_rec,hb,Nat.gcd_one_left]
 exact Nat.Coprime.gcd_mul_left_cancel x hc
theorem ZDl (y:List Int) (k:Int) {x:Nat} (b:Nat) (hb:b % 2=1) (hx:x≠0) (hl:(wd x).length≤100000):∃z,Zoj big (iL (wd x)) y k=some (iL (wd z),y,k)∧z % 2=1∧z≤x∧ZEn z b=ZEn x b:=by
 have hm:=Zvx hl;refine Zx8 (fun z=>ZEn z b=ZEn x b) (f:=fun n t=>Zoj n t.1 t.2.1 t.2.2) y k (fun n x hx hl=> ?_) (fun z h=>by rwa [Zy5 hb]at h) big x hx hl rfl (x.log2+1) (Zt9 x) (ZEo (Zw0 (by omega)));show Zo2 (Zoj n) (iL (wd x)) y k=_;unfold Zo2;rw[Zxx hx,ZEH,ZwX]
 by_cases h:x % 2=0
 ·rw[decide_eq_true h,cond_true,if_pos h,ZwL x hl,ZEH]
 ·rw[decide_eq_false h,cond_false,if_neg h]
end Go.Proofs
namespace Go.Proofs
open Go Eng
theorem ZzW (y:List Int) (k:Int) {x:Nat} (ho:x % 2=1):Zoj big (iL (wd x)) y k=some (iL (wd x),y,k):=by obtain⟨n,hn⟩:=ZxV 1 (by decide);rw[hn];show Zo2 (Zoj n) (iL (wd x)) y k=_;unfold Zo2;rw[Zxx (by omega),ZEH,ZwX,decide_eq_false (by omega),cond_false]
theorem ZDk (w:List Int) (k:Int) {y:Nat} (b:Nat) (hb:b % 2=1) (hy:y≠0) (hl:(wd y).length≤100000):∃z,Zoi big w (iL (wd y)) k=some (w,iL (wd z),k)∧z % 2=1∧(z≤y∧(y % 2=0→z≤y / 2))∧ZEn z b=ZEn y b:=by
 have hm:=Zvx hl;have step:∀n x,x≠0→(wd x).length≤100000→Zoi (n+1) w (iL (wd x)) k=if x % 2=0 then Zoi n w (iL (wd (x / 2))) k else some (w,iL (wd x),k):=fun n x hx hl=>by
  show Zq5 (Zoi n) w (iL (wd x)) k=_;unfold Zq5;rw[Zxx hx,ZEH,ZwX]
  by_cases h:x % 2=0
  ·rw[decide_eq_true h,cond_true,if_pos h,ZwL x hl,ZEH]
  ·rw[decide_eq_false h,cond_false,if_neg h]
 have key:∀(n x m:Nat),x≠0→(wd x).length≤100000→x < 2 ^ m→m≤n→∃z,Zoi n w (iL (wd x)) k=some (w,iL (wd z),k)∧z % 2=1∧(z≤x∧(x % 2=0→z≤x / 2))∧ZEn z b=ZEn x b:=by
  intro n
  induction n with
  |zero=>
   intro x m hx hl hm hmn;have:m=0:=by omega
   subst this;rw[ZED]at hm;omega
  |succ n ih=>
   intro x m hx hl hm hmn;rw[step n x hx hl]
   by_cases h:x % 2=0
   ·rw[if_pos h];cases m with
    |zero=>rw[ZED]at hm;omega
    |succ m=>
     obtain⟨z,h1,h2,h3,h4⟩:=ih (x / 2) m (by omega) (ZEq (ZrG (ZEm x 2)) hl) (by rw[ZEC]at hm;omega) (by omega);refine⟨z,h1,h2,⟨by omega,fun _=>h3.1⟩, ?_⟩;rw[h4,←Zy5 hb,show 2*(x / 2)=x by omega]
   ·rw[if_neg h];exact⟨x,rfl,by omega,⟨ZEp _,fun h'=>absurd h' h⟩,rfl⟩
 exact key big y (y.log2+1) hy hl (Zt9 y) (ZEo (Zw0 (by omega)))
end Go.Proofs
namespace Go.Proofs
open Go Eng
theorem ZzB (k:Int):∀(n x y p q:Nat),x % 2=1→(wd x).length≤100000→(wd y).length≤100000→x < 2 ^ p→y < 2 ^ q→p+q+y % 2 < n→ZnV n (iL (wd x)) (iL (wd y)) k=some (iL (wd (ZEn x y)),k)
 |0,x,y,p,q,_,_,_,_,_,h=>absurd h (by omega)
 |n+1,x,y,p,q,ho,hxl,hyl,hp,hq,hn=>by
  show Zo3 (ZnV n) _ _ _=_;unfold Zo3;rw[Zol]
  by_cases h0:y=0
  ·subst h0;rw[ZsK,Nat.gcd_zero_right];rfl
  ·have hl:=Zsu h0;obtain⟨z,hz,hz1,hz2,hz3⟩:=ZDk (iL (wd x)) k x ho h0 hyl;rw[decide_eq_true (by omega),cond_true,ZzW _ _ ho,ZEH];dsimp only;unfold ZrL;rw[hz,ZEH];dsimp only;have hzl:=ZEq (ZrG hz2.1) hyl;unfold ZrK;rw[Zy7 x z hxl hzl,ZEH];obtain⟨q',hq',hq2⟩:∃q',z < 2 ^ q'∧q'+1≤q+y % 2:=by
    by_cases he:y % 2=0
    ·cases q with
     |zero=>rw[ZED]at hq;omega
     |succ q=>
      refine⟨q, ?_,by omega⟩;have:=hz2.2 he;rw[ZEC]at hq;omega
    ·exact⟨q,by omega,by omega⟩
   unfold Zqu;have eg:ZEn x y=ZEn x z:=by rw[Nat.gcd_comm x y,←hz3,Nat.gcd_comm]
   rw[eg]
   by_cases hc:z < x
   ·rw[Zt8 hc,show decide ((1:Int) > 0)=true from rfl,cond_true,ZxM x z (by omega) hxl,ZEH,ZzB k n z (x - z) q' p hz1 hzl (ZEq (ZrG (Nat.sub_le x z)) hxl) hq' (by omega) (by omega),Nat.gcd_sub_self_right (by omega),Nat.gcd_comm]
   ·have hnc:decide (Zxr x z > 0)=false:=by refine decide_eq_false ?_;unfold Zxr;rw[if_neg hc];split<;>decide
    rw[hnc,cond_false,ZxM z x (by omega) hzl,ZEH,ZzB k n x (z - x) p q' ho hxl (ZEq (ZrG (Nat.sub_le z x)) hzl) hp (by omega) (by omega),Nat.gcd_sub_self_right (by omega)]
end Go.Proofs
namespace Go.Proofs
open Go Eng
theorem ZBI:∀(n x y j m:Nat),x≠0→y≠0→(wd x).length≤100000→(wd y).length≤100000→x < 2 ^ m→m≤n→j+m≤1000000000→
  ∃x' y' t:Nat,ZoQ n (iL (wd x)) (iL (wd y)) (j:Int)=some (iL (wd x'),iL (wd y'),((j+t:Nat):Int))∧(x' % 2=1∨y' % 2=1)∧ZEn x y=2 ^ t*ZEn x' y'∧x'≠0∧y'≠0∧x'≤x∧y'≤y∧t≤m
 |0,x,y,j,m,hx,hy,hxl,hyl,hm,hmn,hj=>by
  have:m=0:=by omega
  subst this;rw[ZED]at hm;omega
 |n+1,x,y,j,m,hx,hy,hxl,hyl,hm,hmn,hj=>by
  show ∃x' y' t:Nat,Zq6 (ZoQ n) _ _ _=_∧_;unfold Zq6 Zqv;rw[Zxx hx,ZEH,ZwX]
  by_cases h1:x % 2=0
  ·rw[decide_eq_true h1,cond_true,Zxx hy,ZEH,ZwX]
   by_cases h2:y % 2=0
   ·cases m with
    |zero=>rw[ZED]at hm;omega
    |succ m=>
     rw[decide_eq_true h2,cond_true,ZwL x hxl,ZEH,ZwL y hyl,ZEH,ZnP (by omega),chk_true];obtain⟨x',y',t,q1,q2,q3,q4,q5,q6,q7,q8⟩:=ZBI n (x / 2) (y / 2) (j+1) m (by omega) (by omega) (ZEq (ZrG (ZEm x 2)) hxl) (ZEq (ZrG (ZEm y 2)) hyl) (by rw[ZEC]at hm;omega) (by omega) (by omega);refine⟨x',y',t+1, ?_,q2, ?_,q4,q5,by omega,by omega,by omega⟩
     ·rw[show (j:Int)+1=((j+1:Nat):Int)from rfl,q1,show j+1+t=j+(t+1) by omega]
     ·have:=Nat.gcd_mul_left 2 (x / 2) (y / 2);rw[show 2*(x / 2)=x by omega,show 2*(y / 2)=y by omega]at this;rw[this,q3,ZEC,ZEx (2 ^ t) 2,ZEw]
   ·rw[decide_eq_false h2,cond_false];exact⟨x,y,0,rfl,.inr (by omega),by rw[ZED,ZEz],hx,hy,ZEp _,ZEp _,Nat.zero_le _⟩
  ·rw[decide_eq_false h1,cond_false,cond_false];exact⟨x,y,0,rfl,.inl (by omega),by rw[ZED,ZEz],hx,hy,ZEp _,ZEp _,Nat.zero_le _⟩
theorem ZBH:∀(k n a:Nat),k < n→k≤1000000000→(wd (2 ^ k*a)).length≤100000→ZoP n (iL (wd a)) (k:Int)=some (iL (wd (2 ^ k*a)))
 |k,0,a,h,_,_=>absurd h (by omega)
 |0,n+1,a,_,_,_=>by show Zo1 (ZoP n) _ _=_;unfold Zo1;rw[ZED,ZEz];rfl
 |k+1,n+1,a,h,hk,hl=>by
  show Zo1 (ZoP n) _ _=_;unfold Zo1;have e:2 ^ (k+1)*a=2 ^ k*(2*a+0):=by rw[ZEC,ZEw,Nat.add_zero]
  have ha:(wd a).length≤100000:=ZEq (ZrG (Nat.le_mul_of_pos_left a (ZEF _))) hl;rw[e]at hl;have ht:=Zx0 a 0 (by omega) ha;rw[Int.natCast_zero]at ht;rw[decide_eq_true (by omega),cond_true,ht,ZEH,show ((k+1:Nat):Int) - 1=(k:Int) by omega,ZnP (by omega),chk_true,ZBH k n (2*a+0) (by omega) (by omega) hl,e]
theorem ZAS (a b:Nat) (ha0:a≠0) (hb0:b≠0) (ha:(wd a).length≤50000) (hb:(wd b).length≤50000):Zqi (iL (wd a)) (iL (wd b))=some (iL (wd (ZEn a b))):=by
 have hla:=Zvx ha;have hlb:=Zvx hb;obtain⟨x,y,t,q1,q2,q3,q4,q5,q6,q7,q8⟩:=ZBI big a b 0 (a.log2+1) ha0 hb0 (by omega) (by omega) (Zt9 a) (ZEo (Zw0 (by omega))) (by omega);rw[Int.natCast_zero,ZEG]at q1;have hxl:=ZEq (ZrG q6) ha;have hyl:=ZEq (ZrG q7) hb;have hlx:=Zvx hxl;have hly:=Zvx hyl;have main:ZnV big (iL (wd x)) (iL (wd y)) (t:Int)=some (iL (wd (ZEn x y)),(t:Int)):=by
  by_cases hx:x % 2=1
  ·exact ZzB _ big x y _ _ hx (by omega) (by omega) (Zt9 x) (Zt9 y) (Zw0 (by omega))
  ·have hy:y % 2=1:=by omega
   obtain⟨z,z1,z2,z3,z4⟩:=ZDl (iL (wd y)) (t:Int) y hy q4 (by omega);have hzl:=ZEq (ZrG z3) hxl;have hlz:=Zvx hzl;have e:=ZzB (t:Int) big z y _ _ z2 (by omega) (by omega) (Zt9 z) (Zt9 y) (Zw0 (by omega));rw[z4]at e;rw[←e];obtain⟨n,hn⟩:∃n,big=n+1:=⟨36893488147419103231,by rw[big_eq]⟩;have s1:∀u,ZnV big (iL (wd u)) (iL (wd y)) (t:Int)=Zo3 (ZnV n) (iL (wd u)) (iL (wd y)) (t:Int):=fun u=>by rw[hn];rfl
   rw[s1,s1];unfold Zo3;have hl:=Zsu q5;rw[Zol,decide_eq_true (by omega),cond_true,cond_true,z1,ZzW _ _ z2]
 have hg:(wd (2 ^ t*ZEn x y)).length≤100000:=by rw[←q3];exact ZEq (ZyA (by omega) hb) (by omega)
 unfold Zqi;rw[q1,ZEH];dsimp only;unfold ZrM ZrJ ZrI;rw[main,ZEH];dsimp only;rw[ZBH t big _ (Zw0 (by omega)) (by omega) hg,ZEH,q3]
end Go.Proofs
namespace Go.Proofs
open Go Eng
theorem Zy9 {l:List Nat} {i:Nat} (hd:Dg l) (h:i / 32 < l.length):l[i / 32] / 2 ^ (i % 32) % 2=val l / 2 ^ i % 2:=by
 have e:=ZuO h;have hlt:=Ztg (hd.take (i / 32));rw[ZEa,ZEt (by omega)]at hlt;have hi:2 ^ i=Bw ^ (i / 32)*2 ^ (i % 32):=by rw[show Bw=2 ^ 32 from rfl,←Nat.pow_mul,←Nat.pow_add,ZEk]
 have hr:i % 32 < 32:=ZEu _ (by decide);have hB:Bw=2 ^ (i % 32)*(2*2 ^ (31 - i % 32)):=by rw[show 2*2 ^ (31 - i % 32)=2 ^ (31 - i % 32+1) by rw[ZEC,ZEx],←Nat.pow_add,show i % 32+(31 - i % 32+1)=32 by omega]
 have e1:val l / Bw ^ (i / 32)=l[i / 32]+Bw*val (l.drop (i / 32+1)):=by rw[e,ZEi _ _ (Nat.pow_pos (by decide)),ZEl hlt,ZEG]
 rw[hi,←Nat.div_div_eq_div_mul,e1];generalize l[i / 32]=x;generalize val (l.drop (i / 32+1))=y;have e2:(x+Bw*y) / 2 ^ (i % 32)=x / 2 ^ (i % 32)+2*(2 ^ (31 - i % 32)*y):=by rw[hB,ZEw,ZEi _ _ (ZEF _),ZEw]
 rw[e2,ZEj]
end Go.Proofs
namespace Go.Proofs
open Go Eng
theorem ZzP (i:Nat):Int.tdiv (i:Int) 32=((i / 32:Nat):Int):=by rw[Int.tdiv_eq_ediv_of_nonneg (by omega)];norm_cast
theorem ZzO (i:Nat):IntKind.wrap .u64 (Int.tmod (i:Int) 32)=((i % 32:Nat):Int):=by rw[Int.tmod_eq_emod_of_nonneg (by omega),IntKind.wrap_u64];omega
theorem ZB8 {l:List Nat} {i:Nat} (hd:Dg l) (h:i / 32 < l.length) (hi:i≤1000000000):Zqj (iL l) (i:Int)=some ((val l / 2 ^ i % 2:Nat):Int):=by have h1:=hd.get h;unfold Zqj;rw[ZzP,ZzO,decide_eq_true (by decide),chk_true,ZnP (by omega),chk_true,Zst h,ZEH,chk_true,decide_eq_true (by omega),chk_true,Zv9 _ (by omega),show (1:Int)=((1:Nat):Int)from rfl,Zxq (ZEr (ZEm _ _) h1) (by decide),Nat.and_one_is_mod,Zy9 hd h]
end Go.Proofs
namespace Go.Proofs
open Go Eng
theorem ZzT {x j:Nat} (h:x / 2 ^ j % 2=0):x|||2 ^ j=x+2 ^ j:=by
 have hlo:=ZEu x (ZEF j);have e:x=2 ^ (j+1)*(x / 2 ^ j / 2)+x % 2 ^ j:=by
  have h1:=ZEk x (2 ^ j);have h2:2*(x / 2 ^ j / 2)=x / 2 ^ j:=by omega
  rw[ZEC,ZEw,h2,h1]
 have a1:=ZEE (i:=j+1) (b:=x % 2 ^ j) (by rw[ZEC];omega) (x / 2 ^ j / 2);have a2:=ZEE (i:=j) (b:=x % 2 ^ j) hlo 1;have a3:=ZEE (i:=j+1) (b:=2 ^ j*1+x % 2 ^ j) (by rw[ZEC];omega) (x / 2 ^ j / 2);rw[Nat.mul_one]at a2 a3;generalize x / 2 ^ j / 2=t at*
 generalize x % 2 ^ j=lo at*
 rw[e,a1,Nat.or_assoc,Nat.or_comm lo,←a2,←a3,←a1];omega
theorem ZAv {j:Nat} (hj:j≤31):shlK .u32 1 (j:Int)=((2 ^ j:Nat):Int):=by have:=ZxO (a:=1) j (by omega);rw[ZEz,Nat.mod_eq_of_lt (ZEr (ZEB (by decide) hj) (by decide))]at this;exact this
theorem Zy3 {A k:Nat}:A / 2 ^ k=2*(A / 2 ^ (k+1))+A / 2 ^ k % 2:=by rw[ZEC,←Nat.div_div_eq_div_mul];omega
theorem Zy6 (a b:Nat) (hb0:b≠0) (ha:(wd a).length≤50000) (hb:(wd b).length≤50000):Zpn (iL (wd a)) (iL (wd b))=some (iL (wd (a / b)),iL (wd (a % b))):=by
 have hlen:∀k,(wd (2*(a / 2 ^ (k+1) % b)+a / 2 ^ k % 2)).length≤50001:=fun k=>by
  have h1:=ZEu (a / 2 ^ (k+1)) (ZEA hb0);have h2:2*(a / 2 ^ (k+1) % b)+a / 2 ^ k % 2≤b+b:=by omega
  exact ZEq (ZrG h2) (ZyC hb hb)
 refine Zqg ?_;unfold Zpn;rw[ZnJ,ZnJ,ZnJ,ZnH,Zol,ZDX,Zxa];refine⟨ZvU (by omega),ZnP (by omega),ZnP (by omega), ?_⟩;have e0:(32*((wd a).length:Int)) - 1=((32*(wd a).length:Nat):Int) - 1:=by omega
 rw[e0,show ([]:List Int)=iL (wd 0) by rw[ZsK];rfl];refine Zn7 (Zwt ZuF (32*(wd a).length) (by omega) (fun i (q:Nat×List Nat)=>(iL (wd a),iL (wd b),iL (wd q.1),i,iL q.2))
  (fun k q=>q.1=a / 2 ^ k % b∧Dg q.2∧q.2.length=(wd a).length∧val q.2=a / 2 ^ k / b*2 ^ k)
  (Q:=fun y=>∃o:List Nat,y=(iL (wd (a % b)),iL o)∧Dg o∧o.length=(wd a).length∧val o=a / b) (0,List.replicate (wd a).length 0) ?_ ?_ ?_) ?_
 ·have h0:a / 2 ^ (32*(wd a).length)=0:=by refine ZEl ?_;rw[Nat.pow_mul];exact ZsL a
  rw[h0,Nat.zero_mod,Nat.zero_div,Nat.zero_mul];exact⟨rfl,ZzZ _,List.length_replicate,ZyE _⟩
 ·rintro rec k ⟨r,q⟩ hk ⟨hr,hd,hl,hv⟩ ih;dsimp only at hr hd hl hv;have hk32:k / 32 < (wd a).length:=by omega
  unfold Zq7 ZpS;dsimp only;have hbit:=ZB8 (i:=k) (ZtZ a) hk32 (by omega);rw[ZrV]at hbit;have h2:a / 2 ^ k % 2≤1:=by omega
  have htw:=Zx0 r (a / 2 ^ k % 2) h2 (by
   rw[hr];exact ZEq (ZrG (ZEo (ZEu _ (ZEA hb0)))) (by omega))
  have hlk:=hlen k;rw[←hr]at hlk;have hx:=Zy3 (A:=a) (k:=k);have hdm:=ZEk (a / 2 ^ (k+1)) b;rw[←hr]at hdm;have hrlt:r < b:=by rw[hr];exact ZEu _ (ZEA hb0)
  rw[Zob];refine⟨fun _=> ?_,fun h=>by have:=of_decide_eq_false h;omega⟩;rw[hbit,ZnH,ZnC,htw,ZnH,ZnC,Zy7 _ _ (by omega) (by omega),ZnH,ZnC,Zob];have nx:∀r' q',(r'=a / 2 ^ k % b∧Dg q'∧q'.length=(wd a).length∧val q'=a / 2 ^ k / b*2 ^ k)→wp (Zpu (fun a b r_ i q=>rec (a,b,r_,i,q)) (iL (wd a)) (iL (wd b)) (iL (wd r')) (k:Int) (iL q')) (fun y=>∃o:List Nat,y=(iL (wd (a % b)),iL o)∧Dg o∧o.length=(wd a).length∧val o=a / b):=fun r' q' h=>by unfold Zpu;rw[ZnJ];exact⟨ZnP (by omega),ih (r',q') h⟩
  generalize eX:a / 2 ^ (k+1)=X at*
  generalize ed:a / 2 ^ k % 2=d at*
  refine⟨fun hc=> ?_,fun hc=> ?_⟩
  ·have hge:b≤2*r+d:=by
    rcases Nat.lt_or_ge (2*r+d) b with h |h
    ·rw[Zuu h]at hc;exact absurd (of_decide_eq_true hc) (by decide)
    ·exact h
   have hq:k / 32 < q.length:=by omega
   have hz:q[k / 32] / 2 ^ (k % 32) % 2=0:=by rw[Zy9 hd hq,hv,ZEC,←ZEw,Nat.mul_right_comm,Nat.mul_div_cancel _ (ZEF k)];omega
   have hx32:=hd.get hq;rw[ZxM _ _ hge (by omega),ZnH,ZnC,ZzP,ZzO,ZDX,ZnJ,ZnJ,ZnJ,Zv3 hq,ZnH,ZnC,ZnJ,ZnJ,ZnJ,ZAv (by omega),Zxw hx32 (ZEr (ZEB (by decide) (show k % 32≤31 by omega)) (by decide)),ZzT hz,ZvB,Zol];refine⟨by decide,ZnP (by omega),ZqE ⟨by omega,by omega⟩,by decide,decide_eq_true (by omega),ZqE ⟨by omega,by omega⟩, ?_⟩;have hsum:q[k / 32]+2 ^ (k % 32) < Bw:=by
    have hB:Bw=2 ^ (k % 32)*(2*2 ^ (31 - k % 32)):=by rw[show 2*2 ^ (31 - k % 32)=2 ^ (31 - k % 32+1) by rw[ZEC,ZEx],←Nat.pow_add,show k % 32+(31 - k % 32+1)=32 by omega]
    rw[←ZzT hz];exact Nat.or_lt_two_pow (n:=32) hx32 (ZEr (ZEB (by decide) (show k % 32≤31 by omega)) (by decide))
   refine nx (2*r+d - b) (q.set (k / 32) (q[k / 32]+2 ^ (k % 32))) ⟨?_,hd.set _ hsum,by rw[ZD8,hl], ?_⟩
   ·rw[hx,show 2*X+d=(2*r+d - b)+b*(2*(X / b)+1) by rw[ZEv,ZEy];omega,ZEj,Nat.mod_eq_of_lt (by omega)]
   ·have hvs:=ZvH q (k / 32) (q[k / 32]+2 ^ (k % 32)) hq;have hp:Bw ^ (k / 32)*2 ^ (k % 32)=2 ^ k:=by rw[show Bw=2 ^ 32 from rfl,←Nat.pow_mul,←Nat.pow_add,ZEk]
    rw[ZEv,hp]at hvs;have e1:(2*X+d) / b=2*(X / b)+1:=by rw[show 2*X+d=(2*r+d - b)+b*(2*(X / b)+1) by rw[ZEv,ZEy];omega,ZEi _ _ (ZEA hb0),ZEl (by omega),ZEG]
    rw[hx,e1];rw[hv,ZEC]at hvs;have e2:X / b*(2 ^ k*2)=2*(X / b)*2 ^ k:=by rw[ZEx (2 ^ k) 2,←ZEw,ZEx (X / b) 2]
    rw[Nat.add_mul,ZEz];omega
  ·have hlt:2*r+d < b:=by
    rcases Nat.lt_or_ge (2*r+d) b with h |h
    ·exact h
    ·rcases Nat.lt_or_ge b (2*r+d)with h' |h'
     ·rw[Zt8 h']at hc;exact absurd (of_decide_eq_false hc) (by decide)
     ·rw[show 2*r+d=b by omega,Zun]at hc;exact absurd (of_decide_eq_false hc) (by decide)
   have e0:2*X+d=(2*r+d)+b*(2*(X / b)):=by rw[ZEy];omega
   refine nx (2*r+d) q ⟨?_,hd,hl, ?_⟩
   ·rw[hx,e0,ZEj,Nat.mod_eq_of_lt hlt]
   ·rw[hx,e0,ZEi _ _ (ZEA hb0),ZEl hlt,ZEG,hv,ZEC,ZEx (2 ^ k) 2,←ZEw,ZEx (X / b) 2]
 ·rintro rec ⟨r,q⟩ ⟨hr,hd,hl,hv⟩;dsimp only at hr hd hl hv;rw[ZED,Nat.div_one]at hr hv;unfold Zq7 ZpS;dsimp only;rw[Zob];refine⟨fun h=>by have:=of_decide_eq_true h;omega,fun _=> ?_⟩;rw[ZnC,hr];exact⟨q,rfl,hd,hl,by rw[hv,Nat.mul_one]⟩
 ·rintro y ⟨o,rfl,hd,hl,hv⟩;dsimp only;unfold ZrN;rw[Zwh hd (by omega),ZnH,ZnC,ZnC,hv]
end Go.Proofs
namespace Go.Proofs
open Go Eng
theorem ZvW (n:Int):Rat.divInt n 1=(n:Rat):=by have h:=Rat.num_divInt_den (n:Rat);rw[Rat.num_intCast,Rat.den_intCast]at h;exact h
end Go.Proofs
namespace Go.Proofs
open Go Eng
theorem Zwd (z:Int) (h1: -9223372036854775808≤z) (h2:z≤9223372036854775807):Zos z=some (bg z):=by
 have key:∀(b:Bool) (n:Nat),n < 18446744073709551616→ZoA b [IntKind.wrap .u32 (n:Int),IntKind.wrap .u32 (shrK .u64 (n:Int) 32)]=some (bg (if b then -(n:Int)else n)):=fun b n h=>by
  have e:([IntKind.wrap .u32 (n:Int),IntKind.wrap .u32 (shrK .u64 (n:Int) 32)]:List Int)=iL [n % 4294967296,n / 4294967296]:=by rw[show (32:Int)=((32:Nat):Int)from rfl,Zv8 32 (by omega),Zs8,Ztt (by omega)];rfl
  have hd:Dg [n % 4294967296,n / 4294967296]:=fun d hd=>by
   simp only[ZEc,ZEd,ZEe,or_false]at hd;rcases hd with rfl |rfl
   ·exact ZEu _ (by decide)
   ·simp only[Bw];omega
  have hv:val [n % 4294967296,n / 4294967296]=n:=by simp only[val,Nat.mul_zero,Nat.add_zero];exact Nat.mod_add_div n Bw
  rw[e,ZxW b hd (by simp),hv]
 unfold Zos Zpz;have h32:decide (0≤(32:Int))=true:=rfl
 by_cases hz:z < 0
 ·have e:IntKind.wrap .u64 (0 - IntKind.wrap .u64 z)=((z.natAbs:Nat):Int):=by rw[IntKind.wrap_u64,IntKind.wrap_u64];omega
  rw[decide_eq_true hz,cond_true,h32,chk_true,e,key true _ (by omega),ZEH,if_pos rfl,show -((z.natAbs:Nat):Int)=z by omega]
 ·have e:IntKind.wrap .u64 z=((z.natAbs:Nat):Int):=by rw[IntKind.wrap_u64];omega
  rw[decide_eq_false hz,cond_false,h32,chk_true,e,key false _ (by omega),ZEH,if_neg (by decide),show ((z.natAbs:Nat):Int)=z by omega]
theorem ZAY:bg 0=⟨false,[]⟩:=by unfold bg;rw[show (0:Int).natAbs=0 from rfl,ZsK];rfl
theorem Zyn (x y:Int) (hy:y≠0) (hx1:Wl 50000 x) (hy1:Wl 50000 y):Zps (bg x) (bg y)=some (fOf (Rat.divInt x y)):=by
 unfold Zps
 by_cases hx:x=0
 ·subst hx;rw[Rat.zero_divInt,ZqL,Zol,show (0:Int).natAbs=0 from rfl,ZsK,Zwd 1 (by decide) (by decide)];show some (ZnB.mk ⟨false,[]⟩ (bg 1))=some (fOf 0);rw[←ZAY];rfl
 ·have hx0:0 < x.natAbs:=by omega
  have hy0:0 < y.natAbs:=by omega
  have hg0:ZEn x.natAbs y.natAbs≠0:=fun e=>by have:=Nat.gcd_pos_of_pos_right x.natAbs hy0;omega
  have hgl:=ZyA (x:=x.natAbs) hy0 hy1;have hxl:=ZxX (ZEn x.natAbs y.natAbs) hx1;have hyl:=ZxX (ZEn x.natAbs y.natAbs) hy1;have h:=Zvj x y hy hx1 hy1;unfold ZoU at h;rw[ZqL,ZqL,ZwZ _ _ hx1 hy1,ZEH,Zwx _ _ hg0 hx1 hgl,ZEH]at h;dsimp only at h;rw[Zwx _ _ hg0 hy1 hgl,ZEH]at h;dsimp only at h;rw[Zsm _ _ (by omega),ZEH,Zsm _ _ (by omega),ZEH]at h;have hlen:=Zsu (n:=x.natAbs) (by omega);rw[←h,ZqL,ZqL,Zol,beq_eq_false_iff_ne.2 (by omega),cond_false,ZAS _ _ (by omega) (by omega) hx1 hy1,ZEH,Zy6 _ _ hg0 hx1 hgl,ZEH];dsimp only;rw[Zy6 _ _ hg0 hy1 hgl,ZEH];dsimp only;rw[ZxW _ (ZtZ _) (by omega),ZEH,ZxW _ (ZtZ _) (by omega),ZEH,ZrV,ZrV]
theorem Zzw (x y:Int) (hy:y≠0) (hx1:Wl 256 x) (hy1:Wl 256 y):ZpU (bg x) (bg y)=some (fOf (Rat.divInt x y),0):=by unfold ZpU Zqc;rw[Zv2,Zv7 x hx1,ZEH,ZBz,cond_false,Zv2,Zv7 y hy1,ZEH,ZBz,cond_false,Zwu hy,cond_false,Zyn x y hy (ZEq hx1 (by decide)) (ZEq hy1 (by decide)),ZEH]
theorem ZBC (x y:Int) (hy:y≠0) (h1: -9223372036854775808≤x) (h2:x≤9223372036854775807) (h3: -9223372036854775808≤y) (h4:y≤9223372036854775807):ZqC x y=some (fOf (Rat.divInt x y),0):=by unfold ZqC;rw[Zwd x h1 h2,ZEH,Zwd y h3 h4,ZEH,Zzw x y hy (ZC5 h1 h2) (ZC5 h3 h4),ZEH]
theorem ZyK (x y:Int) (hy:y≠0) (h1: -9223372036854775808≤x) (h2:x≤9223372036854775807) (h3: -9223372036854775808≤y) (h4:y≤9223372036854775807):ZpP x y=some (fOf (Rat.divInt x y)):=by unfold ZpP;rw[ZBC x y hy h1 h2 h3 h4,ZEH]
theorem ZzD (x:Int) (h1: -9223372036854775808≤x) (h2:x≤9223372036854775807):Zqh x=some (fOf (x:Rat)):=by unfold Zqh;rw[ZyK x 1 (by decide) h1 h2 (by decide) (by decide),ZEH,ZvW]
theorem ZBs {a b:Nat} (h:wd a=wd b):a=b:=by rw[←ZrV a,←ZrV b,h]
theorem Zw5 (x y:Int) (hx:Wl 100000 x) (hy:Wl 100000 y):ZoK (bg x) (bg y)=some (decide (x=y)):=by
 unfold Wl at hx hy;refine Zqg ?_;unfold ZoK Zpx;rw[Zv6,Zv6,ZqL,ZqL,Zol,Zol]
 by_cases hs:decide (x < 0)=decide (y < 0)
 ·rw[hs,beq_self_eq_true,ZBz,cond_false]
  by_cases hl:(wd x.natAbs).length=(wd y.natAbs).length
  ·rw[hl,bne_self_eq_false,cond_false,ZnH];refine Zn7 (Zsz Zt0 (wd y.natAbs).length (by omega) (fun i (_:Unit)=>(iL (wd x.natAbs),((wd y.natAbs).length:Int),i,bg y)) (fun i _=>(wd x.natAbs).take i=(wd y.natAbs).take i)
    (Q:=fun r=>r= .ret false∧wd x.natAbs≠wd y.natAbs∨r= .brk ()∧wd x.natAbs=wd y.natAbs) () (by rw[List.take_zero,List.take_zero]) ?_ ?_) ?_
   ·rintro rec i ⟨⟩ hi hP ih;have hi2:i < (wd x.natAbs).length:=by omega
    unfold Zql Zpb;dsimp only;rw[Zob];refine⟨fun _=> ?_,fun h=>by have:=of_decide_eq_false h;omega⟩;rw[ZqL,Zst hi2,ZnH,ZnC,Zst hi,ZnH,ZnC,Zob];refine⟨fun h=> ?_,fun h=> ?_⟩
    ·rw[ZnC];refine .inl ⟨rfl,fun e=> ?_⟩;have h1:(wd y.natAbs)[i]=(wd x.natAbs)[i]:=by simp only[e]
     rw[h1,bne_self_eq_false]at h;exact absurd h (by decide)
    ·rw[ZnJ];refine⟨ZnP (by omega),ih () ?_⟩;rw[bne_eq_false_iff_eq]at h;have h1:(wd y.natAbs)[i]=(wd x.natAbs)[i]:=by omega
     rw[ZEh hi2,ZEh hi,hP,h1]
   ·rintro rec ⟨⟩ hP;unfold Zql Zpb;dsimp only;rw[Zob];refine⟨fun h=>by have:=of_decide_eq_true h;omega,fun _=> ?_⟩;rw[ZnC];rw[ZEg,←hl,ZEg]at hP;exact .inr ⟨rfl,hP⟩
   ·rintro r (⟨rfl,h⟩ |⟨rfl,h⟩)
    ·exact ZnC.2 (decide_eq_false (fun e=>h (by rw[e]))).symm
    ·unfold ZqM;have h1:=ZBs h;refine ZnC.2 (decide_eq_true ?_).symm
     by_cases hy0:y < 0
     ·have hx0:x < 0:=by rw[decide_eq_true hy0]at hs;exact of_decide_eq_true hs
      omega
     ·have hx0:¬x < 0:=by rw[decide_eq_false hy0]at hs;exact of_decide_eq_false hs
      omega
  ·have:(((wd x.natAbs).length:Int) != ((wd y.natAbs).length:Int))=true:=by rw[bne_iff_ne];omega
   rw[this,cond_true,ZnC];exact(decide_eq_false (fun e=>hl (by rw[e]))).symm
 ·rw[beq_eq_false_iff_ne.2 hs,Bool.not_false,cond_true,cond_true,ZnC];exact(decide_eq_false (fun e=>hs (by rw[e]))).symm
theorem ZvJ (p q:Rat) (hp:Wq 256 p) (hq:Wq 256 q):ZoL (fOf p) (fOf q)=some (decide (p=q)):=by
 have m:∀{x:Int},Wl 256 x→Wl 100000 x:=fun h=>ZEq h (by decide)
 unfold ZoL Zqb fOf;dsimp only;rw[Zw5 _ _ (m hp.1) (m hq.1),ZEH]
 by_cases h1:p.num=q.num
 ·rw[decide_eq_true h1,cond_true,Zw5 _ _ (m hp.2) (m hq.2),ZEH];congr 1
  by_cases h2:p.den=q.den
  ·rw[decide_eq_true (by omega),decide_eq_true (Rat.ext h1 h2)]
  ·rw[decide_eq_false (by omega),decide_eq_false (fun e=>h2 (by rw[e]))]
 ·rw[decide_eq_false h1,cond_false,decide_eq_false (fun e=>h1 (by rw[e]))]
end Go.Proofs
namespace Go.Proofs
open Go Eng
section
variable {α:Type} (lt:α→α→Bool)
def ZzX (x:α):List α→List α
 | []=>[x]
 |p::r=>if lt x p then p::ZzX x r else x::p::r
def ZxJ (x:α) (A:List α):List α:=(ZzX lt x A.reverse).reverse
def Zvp (l:List α):List α:=l.foldl (fun s x=>ZxJ lt x s) []
variable {lt}
theorem ZzE (x:α):ZxJ lt x []=[x]:=rfl
theorem Zy1 (x p:α) (A:List α):ZxJ lt x (A++[p])=if lt x p then ZxJ lt x A++[p]else A++[p,x]:=by unfold ZxJ;rw[List.reverse_append,List.reverse_singleton,List.singleton_append,ZzX];split;rotate_left;simp;rw[List.reverse_cons]
theorem ZwV (x:α):∀l:List α,(ZzX lt x l).Perm (x::l)
 | []=> .refl _
 |p::r=>by
  unfold ZzX;split
  ·exact((ZwV x r).cons p).trans (.swap _ _ _)
  ·exact .refl _
theorem ZxD (x:α) (A:List α):(ZxJ lt x A).Perm (A++[x]):=by unfold ZxJ;refine(List.reverse_perm _).trans ((ZwV x _).trans ?_);refine(List.Perm.cons x (List.reverse_perm A)).trans ?_;exact(List.perm_append_singleton x A).symm
theorem Zyt (l:List α) (x:α):Zvp lt (l++[x])=ZxJ lt x (Zvp lt l):=by simp[Zvp]
theorem Zvn (l:List α):(Zvp lt l).Perm l:=by
 have key:∀(l s:List α),(l.foldl (fun s x=>ZxJ lt x s) s).Perm (s++l):=by
  intro l
  induction l with
  |nil=>intro s;simp
  |cons x l ih=>
   intro s;refine(ih _).trans ?_;refine((ZxD x s).append_right l).trans ?_;simp
 simpa[Zvp]using key l []
theorem Zvo (l:List α):(Zvp lt l).length=l.length:=(Zvn l).length_eq
theorem ZwU (P:α→Prop) (le:α→α→Prop) (hlt:∀x p,P x→P p→lt x p=true→le x p) (hnlt:∀x p,P x→P p→lt x p=false→le p x) (htr:∀a b c,P a→P b→P c→le a b→le b c→le a c)
  (x:α) (hx:P x):∀l:List α,(∀y∈l,P y)→l.Pairwise (fun a b=>le b a)→(ZzX lt x l).Pairwise (fun a b=>le b a)
 | [],_,_=>by simp[ZzX]
 |p::r,hP,h=>by
  have hp:=hP p (by simp);have hr:=ZEf.1 h;unfold ZzX;cases hc:lt x p with
  |true=>
   rw[if_pos rfl,ZEf];refine⟨fun y hy=> ?_,ZwU P le hlt hnlt htr x hx r (fun y hy=>hP y (by simp[hy])) hr.2⟩;rcases ZEc.1 ((ZwV x r).mem_iff.1 hy)with rfl |hy
   ·exact hlt _ _ hx hp hc
   ·exact hr.1 y hy
  |false=>
   rw[if_neg (by simp),ZEf];refine⟨fun y hy=> ?_,h⟩;have hxp:=hnlt x p hx hp hc;rcases ZEc.1 hy with rfl |hy
   ·exact hxp
   ·exact htr _ _ _ (hP y (by simp[hy])) hp hx (hr.1 y hy) hxp
theorem ZxC (P:α→Prop) (le:α→α→Prop) (hlt:∀x p,P x→P p→lt x p=true→le x p) (hnlt:∀x p,P x→P p→lt x p=false→le p x) (htr:∀a b c,P a→P b→P c→le a b→le b c→le a c)
  (l:List α) (hl:∀y∈l,P y):(Zvp lt l).Pairwise le:=by
 have key:∀(l s:List α),(∀y∈l,P y)→(∀y∈s,P y)→s.Pairwise le→(l.foldl (fun s x=>ZxJ lt x s) s).Pairwise le:=by
  intro l
  induction l with
  |nil=>intro s _ _ h;exact h
  |cons x l ih=>
   intro s hl hs h;refine ih _ (fun y hy=>hl y (by simp[hy])) (fun y hy=> ?_) ?_
   ·rcases ZEb.1 ((ZxD x s).mem_iff.1 hy)with hy |hy
    ·exact hs y hy
    ·simp only[ZEd]at hy;subst hy;exact hl _ (by simp)
   ·unfold ZxJ;rw[List.pairwise_reverse];exact ZwU P le hlt hnlt htr x (hl x (by simp)) s.reverse (fun y hy=>hs y (List.mem_reverse.1 hy)) (by rw[List.pairwise_reverse];exact h)
 exact key l [] hl (by simp) (by simp)
theorem Zxv (P:α→Prop) (le:α→α→Prop) (hanti:∀a b,P a→P b→le a b→le b a→a=b):∀{l l':List α},(∀y∈l,P y)→l.Perm l'→l.Pairwise le→l'.Pairwise le→l=l'
 | [],l',_,hp,_,_=>(List.nil_perm.1 hp).symm
 |x::l,[],_,hp,_,_=>by have:=hp.length_eq;simp at this
 |x::l,y::l',hP,hp,h,h'=>by
  have hx:=ZEf.1 h;have hy:=ZEf.1 h';have hPy:P y:=hP y (hp.mem_iff.2 (by simp));have e:x=y:=by
   rcases ZEc.1 (hp.mem_iff.1 (List.mem_cons_self (a:=x) (l:=l)))with e |hxm
   ·exact e
   ·rcases ZEc.1 (hp.mem_iff.2 (List.mem_cons_self (a:=y) (l:=l')))with e |hym
    ·exact e.symm
    ·exact hanti x y (hP x (by simp)) hPy (hx.1 y hym) (hy.1 x hxm)
  subst e;rw[Zxv P le hanti (fun z hz=>hP z (by simp[hz])) hp.cons_inv hx.2 hy.2]
end
theorem ZyH {α:Type} (A C:List α) (p x:α):((A++p::x::C).set (A.length+1) p).set A.length x=A++x::p::C:=by
 induction A with
 |nil=>rfl
 |cons a A ih=>simp only[List.cons_append,ZD6,List.set_cons_succ,ih]
end Go.Proofs
namespace Go.Proofs
open Go Eng
def ZDn (h:Int) (c:UInt8):Int:=IntKind.wrap .u64 ((xorK .u64 h (IntKind.wrap .u64 ((c.toNat:Nat):Int)))*1099511628211)
def Zxo (s:Str):Int:=s.foldl ZDn 14695981039346656037
theorem ZxT {s:Str} (hs:s.length≤1000000):Zsh s=some (Zxo s):=by
 refine Zqg ?_;unfold Zsh;rw[ZnH];refine Zn7 (Zvy Zwc s (by omega) (fun i (h:Int)=>(s,h,(s.length:Int),i)) (fun k h=>h=Zxo (s.take k)) (Q:=fun x=>x=Zxo s) 14695981039346656037 rfl ?_ ?_) ?_
 ·rintro rec k h hk rfl ih;unfold ZtQ ZsF;dsimp only;rw[decide_eq_true (show (k:Int) < (s.length:Int) by omega),cond_true,Zua hk,ZnH,ZnC,ZnJ];refine⟨ZnP (by omega),ih _ ?_⟩;rw[ZEh hk];unfold Zxo;rw[List.foldl_append];rfl
 ·rintro rec h rfl;unfold ZtQ ZsF;dsimp only;rw[decide_eq_false (show ¬(s.length:Int) < (s.length:Int) by omega),cond_false,ZnC,ZEg]
 ·rintro _ rfl;unfold Zut;rw[ZnC]
theorem Zy8:∀a:List UInt8,Lib.compareBytes a a=0
 | []=>rfl
 |x::a=>by unfold Lib.compareBytes;rw[if_neg (UInt8.lt_irrefl x),if_neg (UInt8.lt_irrefl x),Zy8 a]
theorem ZxU:∀{a b:List UInt8},Lib.compareBytes a b=0→a=b
 | [],[],_=>rfl
 | [],_::_,h=>by simp[Lib.compareBytes]at h
 |_::_,[],h=>by simp[Lib.compareBytes]at h
 |x::a,y::b,h=>by
  unfold Lib.compareBytes at h;split at h
  ·simp at h
  ·rename_i h1;split at h
   ·simp at h
   ·rename_i h2;have:x=y:=UInt8.le_antisymm (ZEI.1 h2) (ZEI.1 h1);rw[this,ZxU h]
theorem Zz0:∀a b:List UInt8,Lib.compareBytes b a= - Lib.compareBytes a b
 | [],[]=>by simp[Lib.compareBytes]
 | [],_::_=>by simp[Lib.compareBytes]
 |_::_,[]=>by simp[Lib.compareBytes]
 |x::a,y::b=>by
  unfold Lib.compareBytes
  by_cases h1:x < y
  ·rw[if_pos h1,if_neg (fun h=>UInt8.lt_asymm h1 h),if_pos h1];rfl
  ·by_cases h2:y < x
   ·rw[if_pos h2,if_neg h1,if_pos h2]
   ·rw[if_neg h1,if_neg h2,if_neg h2,if_neg h1,Zz0 a b]
theorem Zyf:∀{a b c:List UInt8},Lib.compareBytes a b < 0→Lib.compareBytes b c < 0→Lib.compareBytes a c < 0
 | [],[],_,h,_=>by simp[Lib.compareBytes]at h
 | [],_::_,[],_,h=>by simp[Lib.compareBytes]at h
 | [],_::_,_::_,_,_=>by simp[Lib.compareBytes]
 |_::_,[],_,h,_=>by simp[Lib.compareBytes]at h
 |_::_,_::_,[],_,h=>by simp[Lib.compareBytes]at h
 |x::a,y::b,z::c,h1,h2=>by
  unfold Lib.compareBytes at h1 h2⊢
  by_cases hxy:x < y
  ·by_cases hyz:y < z
   ·rw[if_pos (UInt8.lt_trans hxy hyz)];decide
   ·rw[if_neg hyz]at h2
    by_cases hzy:z < y
    ·rw[if_pos hzy]at h2;simp at h2
    ·have:y=z:=UInt8.le_antisymm (ZEI.1 hzy) (ZEI.1 hyz);subst this;rw[if_pos hxy];decide
  ·rw[if_neg hxy]at h1
   by_cases hyx:y < x
   ·rw[if_pos hyx]at h1;simp at h1
   ·have:x=y:=UInt8.le_antisymm (ZEI.1 hyx) (ZEI.1 hxy);subst this;rw[if_neg (UInt8.lt_irrefl x)]at h1
    by_cases hyz:x < z
    ·rw[if_pos hyz];decide
    ·rw[if_neg hyz]at h2⊢
     by_cases hzy:z < x
     ·rw[if_pos hzy]at h2;simp at h2
     ·rw[if_neg hzy]at h2⊢
      exact Zyf h1 h2
def ZvN (a b:ZnA):Int:=if a.Hash < b.Hash then -1 else if a.Hash > b.Hash then 1 else Lib.compareBytes a.Key b.Key
theorem ZyM (a b:Int):Zul [a,b]=some (if a≠0 then a else b):=by
 obtain⟨n,hn⟩:=ZxV 3 (by omega);have e0:idx [a,b] 0=some a:=rfl;have e1:idx [a,b] 1=some b:=rfl;have l:((([a,b]:List Int).length:Nat):Int)=2:=rfl;have s1:∀rec,Zqt rec 0 [a,b] 2 0=if a≠0 then some (.ret a)else rec 0 [a,b] 2 1:=by
  intro rec;unfold Zqt;rw[e0,show decide ((0:Int) < 2)=true from rfl,cond_true,ZEH]
  by_cases h:a=0
  ·rw[if_neg (by simp[h]),show (a != 0)=false by simp[h],cond_false];rfl
  ·rw[if_pos h,show (a != 0)=true by simpa using h,cond_true]
 have s2:∀rec,Zqt rec 0 [a,b] 2 1=if b≠0 then some (.ret b)else rec 0 [a,b] 2 2:=by
  intro rec;unfold Zqt;rw[e1,show decide ((1:Int) < 2)=true from rfl,cond_true,ZEH]
  by_cases h:b=0
  ·rw[if_neg (by simp[h]),show (b != 0)=false by simp[h],cond_false];rfl
  ·rw[if_pos h,show (b != 0)=true by simpa using h,cond_true]
 have s3:∀rec,Zqt rec 0 [a,b] 2 2=some (.brk 0):=fun rec=>rfl
 have u:∀m t i,Zs4 (m+1) 0 [a,b] t i=Zqt (Zs4 m) 0 [a,b] t i:=fun _ _ _=>rfl
 unfold Zul ZuW;rw[hn,l,u (n+2),s1]
 by_cases h:a=0
 ·rw[if_neg (by simp[h]),if_neg (by simp[h]),u (n+1),s2]
  by_cases h2:b=0
  ·rw[if_neg (by simp[h2]),u n,s3,h2];rfl
  ·rw[if_pos h2];rfl
 ·rw[if_pos h,if_pos h];rfl
theorem ZwJ (a b:ZnA):Zqy a b=some (ZvN a b):=by
 unfold Zqy Zr2 ZrF Zs9 ZoZ ZvN;simp only[bne_self_eq_false,ZEH,cond_false]
 by_cases h1:a.Hash < b.Hash
 ·rw[decide_eq_true h1,cond_true,ZEH,ZyM,if_pos h1,if_pos (by decide)];rfl
 ·by_cases h2:a.Hash > b.Hash
  ·rw[decide_eq_false h1,cond_false,decide_eq_true h2,cond_true,ZEH,ZyM,if_neg h1,if_pos h2,if_pos (by decide)];rfl
  ·rw[decide_eq_false h1,cond_false,decide_eq_false h2,cond_false,ZEH,ZyM,if_neg h1,if_neg h2,if_neg (by decide)];rfl
def Zvr (a:ZnA):Prop:=a.Hash=Zxo a.Key
def ltE (a b:ZnA):Bool:=decide (ZvN a b < 0)
theorem Zwk (a b:ZnA):ZvN b a= - ZvN a b:=by
 unfold ZvN
 by_cases h1:a.Hash < b.Hash
 ·rw[if_pos h1,if_neg (by omega),if_pos (by omega)];rfl
 ·by_cases h2:a.Hash > b.Hash
  ·rw[if_pos (show b.Hash < a.Hash from h2),if_neg h1,if_pos h2]
  ·rw[if_neg h1,if_neg h2,if_neg (by omega),if_neg (by omega),Zz0]
theorem Zyl {a b c:ZnA} (h1:ZvN a b < 0) (h2:ZvN b c < 0):ZvN a c < 0:=by
 unfold ZvN at*
 by_cases e1:a.Hash < b.Hash
 ·by_cases e2:b.Hash < c.Hash
  ·rw[if_pos (by omega)];decide
  ·rw[if_neg e2]at h2
   by_cases e3:b.Hash > c.Hash
   ·rw[if_pos e3]at h2;simp at h2
   ·rw[if_pos (by omega)];decide
 ·rw[if_neg e1]at h1
  by_cases e4:a.Hash > b.Hash
  ·rw[if_pos e4]at h1;simp at h1
  ·rw[if_neg e4]at h1
   by_cases e2:b.Hash < c.Hash
   ·rw[if_pos (by omega)];decide
   ·rw[if_neg e2]at h2
    by_cases e3:b.Hash > c.Hash
    ·rw[if_pos e3]at h2;simp at h2
    ·rw[if_neg e3]at h2;rw[if_neg (by omega),if_neg (by omega)];exact Zyf h1 h2
theorem Zwj {a b:ZnA} (h:ZvN a b=0):a.Key=b.Key:=by
 unfold ZvN at h;split at h
 ·simp at h
 ·split at h
  ·simp at h
  ·exact ZxU h
theorem ZyL {a b:ZnA} (h:a.Key=b.Key) (ha:Zvr a) (hb:Zvr b):ZvN a b=0:=by
 have e:a.Hash=b.Hash:=by rw[ha,hb,h]
 unfold ZvN;rw[if_neg (by omega),if_neg (by omega),h,Zy8]
end Go.Proofs
namespace Go.Proofs
open Go Eng
theorem ZwI {x y:Int} (hy:y≠0) (h1:x.natAbs < 16) (h2:y.natAbs < 16):Sz 4 (Rat.divInt x y):=ZvI (k:=4) hy h1 h2
theorem ZDw:ZqK [48]=ZrD false [] [1] false false [] []:=by kernel_rfl
theorem dec0:ZqK [48]=some (fOf (Rat.divInt 0 1),true):=by
 rw[ZDw];unfold ZrD;have e0:iL (wd 0)=[]:=by kernel_rfl
 have e1:iL (wd 1)=[1]:=by kernel_rfl
 have l0:Nat.ble (wd 0).length 50000=true:=by kernel_rfl
 have l1:Nat.ble (wd 1).length 50000=true:=by kernel_rfl
 have w0:=Nat.le_of_ble_eq_true l0;have w1:=Nat.le_of_ble_eq_true l1;have h1:=Zsm false 0 (by omega);have h2:=Zsm false 1 (by omega);rw[e0]at h1;rw[e1]at h2;rw[h1,ZEH,h2,ZEH];have:=Zvj 0 1 (by decide) w0 w1;simp only[Bool.false_eq_true,if_false];rw[show ((0:Nat):Int)=0 from rfl,show ((1:Nat):Int)=1 from rfl,this,ZEH]
theorem can0:Zr4 4 [48]=some ([48],true):=by
 have h:Zr4 4 [48]=(ZsM [48]).bind fun(a,b)=>some (a,b):=by kernel_rfl
 rw[h];unfold ZsM;rw[dec0];show _=_
 kernel_rfl
theorem valZ:Zpk (ZnE.mk false [48])=some (fOf (Rat.divInt 0 1),true):=by
 unfold Zpk ZuD;rw[can0];dsimp only;rw[cond_false,ZEH];dsimp only;rw[ZBz,cond_false,dec0];show _=_
 kernel_rfl
def ZzU:List (Str×Int):=[([45,51], -3),([45,50], -2),([45,49], -1),([49],1),([50],2),([51],3),([52],4),([53],5),([54],6),([55],7),([56],8),([49,48],10)]
def ZAO:List (Str×Int):=[([45,49,46,53], -3),([49,46,53,48],3)]
def noT:List Str:=[[97],[98],[99],[100],[120],[],[49,46,50,46,51],[107,48],[107,49],[107,50],[107,51],[107,52],[107,53],[107,54],[107,55],[107,56],[107,57],[107,49,48],[107,49,49],[107,49,50],[107,49,51]]
def fx (n:Int) (d:Int):ZnB:=⟨⟨decide (n < 0),if n=0 then []else [(n.natAbs:Int)]⟩,⟨false,[d]⟩⟩
theorem ZyR:(ZzU.all fun p=>decide (Zpk (ZnE.mk false p.1)=some (fx p.2 1,true)))=true:=by kernel_rfl
theorem ZzF:(ZAO.all fun p=>decide (Zpk (ZnE.mk false p.1)=some (fx p.2 2,true)))=true:=by kernel_rfl
theorem ZBE:(noT.all fun s=>match Zpk (ZnE.mk false s)with |some (_,false)=>true |_=>false)=true:=by kernel_rfl
theorem ZzY:(ZzU.all fun p=>decide (fx p.2 1=fOf (Rat.divInt p.2 1))&&decide (p.2.natAbs < 16))=true:=by kernel_rfl
theorem ZAT:(ZAO.all fun p=>decide (fx p.2 2=fOf (Rat.divInt p.2 2))&&decide (p.2.natAbs < 16))=true:=by kernel_rfl
def Zww:List Str:=[48]::(ZzU.map (·.1)++ZAO.map (·.1)++noT)
def Zu5 (c:ZnE):Prop:=c=ZnE.mk true []∨∃s∈Zww,c=ZnE.mk false s
theorem ZxZ {c:ZnE} (h:Zu5 c):(∃q,Zpk c=some (fOf q,true)∧Sz 4 q)∨(∃f,Zpk c=some (f,false)):=by
 rcases h with rfl |⟨s,hs,rfl⟩
 ·refine .inr ⟨fOf 0, ?_⟩;unfold Zpk;dsimp only;rw[cond_true,Zyy];rfl
 ·rcases ZEc.1 hs with rfl |hs
  ·exact .inl ⟨_,valZ,ZwI (by decide) (by decide) (by decide)⟩
  ·rcases ZEb.1 hs with hs |hs
   ·rcases ZEb.1 hs with hs |hs
    ·obtain⟨p,hp,rfl⟩:=List.mem_map.1 hs;have h1:=of_decide_eq_true (ZDY.1 ZyR p hp);have h2:=ZDY.1 ZzY p hp;simp only[Bool.and_eq_true,decide_eq_true_eq]at h2;rw[h2.1]at h1;exact .inl ⟨_,h1,ZwI (by decide) h2.2 (by decide)⟩
    ·obtain⟨p,hp,rfl⟩:=List.mem_map.1 hs;have h1:=of_decide_eq_true (ZDY.1 ZzF p hp);have h2:=ZDY.1 ZAT p hp;simp only[Bool.and_eq_true,decide_eq_true_eq]at h2;rw[h2.1]at h1;exact .inl ⟨_,h1,ZwI (by decide) h2.2 (by decide)⟩
   ·have h1:=ZDY.1 ZBE s hs;split at h1;rotate_left;simp at h1;rename_i f hf;exact .inr ⟨f,hf⟩
open Classical in
noncomputable def nv (c:ZnE):Option Rat:=if h:∃q,Zpk c=some (fOf q,true)∧Sz 4 q then some h.choose else none
theorem Zxk {c:ZnE} {q:Rat} (h:nv c=some q):Zpk c=some (fOf q,true)∧Sz 4 q:=by unfold nv at h;split at h;rotate_left;simp at h;rename_i hx;obtain rfl:=Option.some.inj h;exact hx.choose_spec
theorem ZAB {c:ZnE} (hc:Zu5 c) (h:nv c=none):∃f,Zpk c=some (f,false):=by
 unfold nv at h;split at h
 ·simp at h
 ·rename_i hx;exact(ZxZ hc).resolve_left hx
theorem Zxg {d:ZnD} (hd:Zu4 d) {l:List Str} (h0:1≤l.length) (h1:l.length≤1000):wp (Zof d l) (fun r=>r.1∈l∧Zu4 r.2):=by
 unfold Zof;rw[ZnH];refine Zn7 (Zwy hd (by omega)) fun⟨q,d1⟩ ⟨hq,hd1⟩=> ?_
 dsimp only at hq hd1⊢
 rw[ZnH,ZzN];refine⟨hq.1,by omega, ?_⟩;rw[ZnC];exact⟨ZD4 _,hd1⟩
theorem Zxu:([([97]:Str),([98]:Str),([99]:Str),([49]:Str),([50]:Str),([51]:Str),([49,48]:Str),([120]:Str),([45,49,46,53]:Str),([50]:Str),[100],[],([49,46,50,46,51]:Str),([49,46,53,48]:Str)]:List Str).all (fun s=>Zww.contains s)=true:=by kernel_rfl
theorem Zw3:(((List.range 12).map fun i:Nat=>Lib.itoa ((i:Int) - 3))++(List.range 14).map fun i:Nat=>([107]:Str)++Lib.itoa (i:Int)).all (fun s=>Zww.contains s)=true:=by kernel_rfl
theorem Zwq {s:Str} (h:Zww.contains s=true):Zu5 (ZnE.mk false s):= .inr ⟨s,List.contains_iff_mem.1 h,rfl⟩
theorem ZAW {d:ZnD} (hd:Zu4 d):wp (ZqD d) (fun r=>Zu5 r.1∧Zu4 r.2):=by
 unfold ZqD;rw[ZnH];refine Zn7 (Zwy hd (by omega)) fun⟨q,d1⟩ ⟨hq,hd1⟩=> ?_
 dsimp only at hq hd1⊢
 rw[Zob];refine⟨fun _=> ?_,fun _=> ?_⟩
 ·rw[ZnC];exact⟨.inl rfl,hd1⟩
 ·rw[ZnH];refine Zn7 (Zxg hd1 (by decide) (by decide)) fun⟨s,d2⟩ ⟨hs,hd2⟩=> ?_
  dsimp only at hs hd2⊢
  rw[ZnC];refine⟨Zwq (ZDY.1 Zxu s ?_),hd2⟩;simp only[ZEc,ZEe,or_false]at hs⊢
  rcases hs with h |h |h |h |h |h |h |h |h |h<;>simp[h]
theorem Zyr {n:Int} (h: -3≤n∧n≤8):Zww.contains (Lib.itoa n)=true:=by refine ZDY.1 Zw3 _ (List.mem_append_left _ (List.mem_map.2 ⟨(n+3).toNat,List.mem_range.2 (by omega), ?_⟩));rw[show (((n+3).toNat:Nat):Int) - 3=n by omega]
theorem ZAK {n:Int} (h:0≤n∧n < 14):Zww.contains (([107]:Str)++Lib.itoa n)=true:=by refine ZDY.1 Zw3 _ (List.mem_append_right _ (List.mem_map.2 ⟨n.toNat,List.mem_range.2 (by omega), ?_⟩));rw[show ((n.toNat:Nat):Int)=n by omega]
theorem ZyP {d:ZnD} (hd:Zu4 d):wp (ZpV d) (fun r=>Zu5 r.1∧Zu4 r.2):=by
 unfold ZpV;rw[ZnH];refine Zn7 (Zwy hd (by omega)) fun⟨q,d1⟩ ⟨hq,hd1⟩=> ?_
 dsimp only at hq hd1⊢
 rw[Zob];refine⟨fun _=> ?_,fun _=> ?_⟩
 ·rw[ZnC];exact⟨.inl rfl,hd1⟩
 rw[Zob];refine⟨fun _=> ?_,fun _=> ?_⟩
 ·rw[ZnH];refine Zn7 (Zxg hd1 (by decide) (by decide)) fun⟨s,d2⟩ ⟨hs,hd2⟩=> ?_
  dsimp only at hs hd2⊢
  rw[ZnC];refine⟨Zwq (ZDY.1 Zxu s ?_),hd2⟩;simp only[ZEc,ZEe,or_false]at hs⊢
  rcases hs with h |h |h |h<;>simp[h]
 ·rw[ZnH];refine Zn7 (Zwy hd1 (by omega)) fun⟨q,d2⟩ ⟨hq,hd2⟩=> ?_
  dsimp only at hq hd2⊢
  unfold Zsv;rw[ZnJ,ZnH,ZnC,ZnC];exact⟨ZnP (by omega),Zwq (Zyr (by omega)),hd2⟩
theorem abcd:([([97]:Str),([98]:Str),([99]:Str),([100]:Str)]:List Str).all (fun s=>Zww.contains s)=true:=by kernel_rfl
theorem Zys {n:Int} (h:0≤n∧n < 14):(Lib.itoa n).length≤2:=by
 have h1:((List.range 14).all fun i:Nat=>decide ((Lib.itoa (i:Int)).length≤2))=true:=by kernel_rfl
 have:=of_decide_eq_true (ZDY.1 h1 n.toNat (List.mem_range.2 (by omega)))
 rwa [show ((n.toNat:Nat):Int)=n by omega]at this
theorem ZxF {d:ZnD} (hd:Zu4 d) (rows:Nat) (hr:rows≤14):
  wp (Zpc d (rows:Int)) (fun r=>(r.1.Cells.length=rows∧∀c∈r.1.Cells,Zu5 c)∧Zu4 r.2):=by
 unfold Zpc;rw[ZnH];refine Zn7 (Zxg hd (by decide) (by decide)) fun⟨nm,d1⟩ ⟨_,hd1⟩=> ?_
 dsimp only at hd1⊢
 rw[ZnH];refine Zn7 (Zwy hd1 (by omega)) fun⟨kind,d2⟩ ⟨_,hd2⟩=> ?_
 dsimp only at hd2⊢
 rw[ZnH];refine Zn7 (Zsz Zur rows (by omega) (fun i (t:ZnD×List ZnE)=>(kind,(rows:Int),i,t.1,([]:Str),nm,([]:List ZnE),t.2))
  (fun k t=>Zu4 t.1∧t.2.length=k∧∀c∈t.2,Zu5 c) (Q:=fun x=>Zu4 x.1∧x.2.2.2.2.length=rows∧∀c∈x.2.2.2.2,Zu5 c) (d2,[]) ⟨hd2,rfl,fun c hc=>absurd hc (by simp)⟩ ?_ ?_) ?_
 ·rintro rec k ⟨d,cs⟩ hk ⟨hd,hlen,hcs⟩ ih;dsimp only at hd hlen hcs ih;have next:∀(x:ZnE) (d':ZnD),Zu5 x→Zu4 d'→wp (Zot (fun kind t15 i d t4 c t4_1 c_1=>rec (kind,t15,i,d,t4,c,t4_1,c_1)) kind (rows:Int) (k:Int) d' [] nm x [] cs) (fun x=>Zu4 x.1∧x.2.2.2.2.length=rows∧∀c∈x.2.2.2.2,Zu5 c):=by
   intro x d' hx hd';unfold Zot;rw[ZnJ,ZnJ];refine⟨ZtI (by rw[ZD9];omega),ZnP (by omega),ih (d',cs++[x]) ⟨hd',by dsimp only;rw[ZD5,ZD9];omega,fun c hc=> ?_⟩⟩;rcases ZEb.1 hc with hc |hc
   ·exact hcs c hc
   ·obtain rfl:=ZEd.1 hc;exact hx
  unfold ZqV ZpN;dsimp only;rw[decide_eq_true (show (k:Int) < (rows:Int) by omega),cond_true,ZnH];refine Zn7 (ZAW hd) fun⟨x,d3⟩ ⟨hx,hd3⟩=> ?_
  dsimp only at hx hd3⊢
  rw[Zob];refine⟨fun _=> ?_,fun _=> ?_⟩
  ·rw[ZnH];exact Zn7 (ZyP hd3) fun⟨y,d4⟩ ⟨hy,hd4⟩=>next y d4 hy hd4
  rw[Zob];refine⟨fun _=> ?_,fun _=> ?_⟩
  ·unfold Zsv;have:=Zys (n:=(k:Int)) (by omega);rw[ZnH,ZnC,ZnJ];exact⟨decide_eq_true (by rw[ZD9];unfold Zq;omega),next _ d3 (Zwq (ZAK (by omega))) hd3⟩
  rw[Zob];refine⟨fun _=> ?_,fun _=> ?_⟩
  ·rw[ZnH];exact Zn7 (Zxg hd3 (by decide) (by decide)) fun⟨s,d4⟩ ⟨hs,hd4⟩=>next _ d4 (Zwq (ZDY.1 abcd s hs)) hd4
  ·exact next x d3 hx hd3
 ·rintro rec ⟨d,cs⟩ ⟨hd,hlen,hcs⟩;unfold ZqV ZpN;dsimp only at hd hlen hcs⊢
  rw[decide_eq_false (show ¬(rows:Int) < (rows:Int) by omega),cond_false,ZnC];exact⟨hd,hlen,hcs⟩
 ·rintro⟨d,_,_,_,cs⟩ ⟨h1,h2,h3⟩;unfold Zrr;dsimp only at h1 h2 h3⊢
  rw[ZnC];exact⟨⟨h2,h3⟩,h1⟩
end Go.Proofs
namespace Go.Proofs
open Go Eng
noncomputable def ZwO (p:ZnE×ZnE):Option (Str×Rat):=if p.1.Null then none else (nv p.2).map fun q=>(p.1.Text,q)
noncomputable def ZrW (K V:List ZnE):List (Str×Rat):=(K.zip V).filterMap ZwO
def Zvm (ks:List Str) (r:Str×Rat):List Str:=if r.1∈ks then ks else ks++[r.1]
def Zwp (R:List (Str×Rat)):List Str:=R.foldl Zvm []
def cnt (R:List (Str×Rat)) (k:Str):Nat:=R.countP fun r=>r.1 == k
def ZvA (k:Str) (s:Rat) (r:Str×Rat):Rat:=if r.1=k then s+r.2 else s
def sm (R:List (Str×Rat)) (k:Str):Rat:=R.foldl (ZvA k) 0
def En (R:List (Str×Rat)) (k:Str):ZnA:=⟨k,Zxo k,(cnt R k:Int),fOf (sm R k)⟩
theorem ZxA (R:List (Str×Rat)) (r:Str×Rat):Zwp (R++[r])=Zvm (Zwp R) r:=by unfold Zwp;rw[List.foldl_append];rfl
theorem ZyF (R:List (Str×Rat)) (r:Str×Rat) (k:Str):sm (R++[r]) k=ZvA k (sm R k) r:=by unfold sm;rw[List.foldl_append];rfl
theorem Zye (R:List (Str×Rat)) (r:Str×Rat) (k:Str):cnt (R++[r]) k=cnt R k+if r.1=k then 1 else 0:=by
 unfold cnt;rw[List.countP_append,List.countP_singleton]
 by_cases h:r.1=k
 ·rw[if_pos h,if_pos (by simpa using h)]
 ·rw[if_neg h,if_neg (by simpa using h)]
theorem Zxm {ks:List Str} (h:ks.Nodup) (r:Str×Rat):(Zvm ks r).Nodup:=by
 unfold Zvm;split
 ·exact h
 ·rename_i hn;rw[List.nodup_append];refine⟨h,by simp,fun a ha b hb=> ?_⟩;obtain rfl:=ZEd.1 hb;rintro rfl;exact hn ha
theorem Zwo:∀(R:List (Str×Rat)) (ks:List Str),ks.Nodup→(R.foldl Zvm ks).Nodup
 | [],_,h=>h
 |r::R,ks,h=>by rw[ZDZ];exact Zwo R _ (Zxm h r)
theorem ZvV (R:List (Str×Rat)):(Zwp R).Nodup:=Zwo R [] List.nodup_nil
theorem Zym {ks:List Str} {r:Str×Rat} {k:Str}:k∈Zvm ks r↔k∈ks∨k=r.1:=by
 unfold Zvm;split;rotate_left;simp;rename_i h;constructor
 ·exact .inl
 ·rintro(h1 |rfl)
  ·exact h1
  ·exact h
theorem ZwR:∀(R:List (Str×Rat)) (ks:List Str) (k:Str),k∈R.foldl Zvm ks↔k∈ks∨∃r∈R,k=r.1
 | [],_,k=>by simp
 |r::R,ks,k=>by rw[ZDZ,ZwR R _ k,Zym];simp only[ZEc,exists_eq_or_imp,or_assoc]
theorem ZwK {R:List (Str×Rat)} {k:Str}:k∈Zwp R↔∃r∈R,k=r.1:=by unfold Zwp;rw[ZwR];simp
theorem ZwS:∀(R:List (Str×Rat)) (ks:List Str),(R.foldl Zvm ks).length≤ks.length+R.length
 | [],_=>by simp
 |r::R,ks=>by
  rw[ZDZ];refine ZEq (ZwS R _) ?_;unfold Zvm;split
  ·rw[ZD6];omega
  ·rw[ZD6,ZD5,ZD9];omega
theorem Zxn (R:List (Str×Rat)):(Zwp R).length≤R.length:=by have:=ZwS R [];unfold Zwp;simpa using this
theorem ZDe {R:List (Str×Rat)} (h:∀r∈R,Sz 4 r.2) (k:Str):∀(s:Rat) (n:Nat),Sz (5*n+1) s→Sz (5*(n+R.length)+1) (R.foldl (ZvA k) s):=by
 induction R with
 |nil=>intro s n hs;exact hs
 |cons r R ih=>
  intro s n hs;rw[ZDZ,ZD6,show n+(R.length+1)=(n+1)+R.length by omega];refine ih (fun r hr=>h r (by simp[hr])) _ (n+1) ?_;unfold ZvA;split
  ·exact(hs.add (h r (by simp))).mono (by omega)
  ·exact hs.mono (by omega)
theorem ZzQ {R:List (Str×Rat)} (h:∀r∈R,Sz 4 r.2) (k:Str):Sz (5*R.length+1) (sm R k):=by have:=ZDe h k 0 0 ZAq;rw[ZEG]at this;exact this
theorem Zx4 {K V:List ZnE}:∀r∈ZrW K V,Sz 4 r.2:=by
 intro r hr;obtain⟨p,_,h⟩:=List.mem_filterMap.1 hr;unfold ZwO at h;split at h
 ·simp at h
 ·obtain⟨q,hq,rfl⟩:=Option.map_eq_some_iff.1 h;exact(Zxk hq).2
theorem ZCb {R:List (Str×Rat)} {k:Str} (h:k∉Zwp R):cnt R k=0∧sm R k=0:=by
 have hn:∀r∈R,¬r.1=k:=fun r hr e=>h (ZwK.2 ⟨r,hr,e.symm⟩)
 constructor
 ·unfold cnt;rw[List.countP_eq_zero];intro r hr;simpa using hn r hr
 ·have key:∀(R:List (Str×Rat)) (s:Rat),(∀r∈R,¬r.1=k)→R.foldl (ZvA k) s=s:=by
   intro R
   induction R with
   |nil=>intro s _;rfl
   |cons r R ih=>
    intro s h;rw[ZDZ,show ZvA k s r=s from if_neg (h r (by simp))];exact ih s fun x hx=>h x (by simp[hx])
  exact key R 0 hn
def mpo:Int→List Str→List (Str×Int)
 |_,[]=>[]
 |o,k::r=>(k,o)::mpo (o+1) r
theorem Zxy (k:Str) (v:Int) (m:List (Str×Int)) (s:Str):Zg3 (k:= .str) (v:=(.int .i64)) (car:=ZtY) ((k,v)::m) s=if s == k then some v else Zg3 (k:= .str) (v:=(.int .i64)) (car:=ZtY) m s:=by
 show (((k,v)::m).find? fun e=>s == e.1).map (·.2)=if s == k then some v else (m.find? fun e=>s == e.1).map (·.2)
 rw[List.find?_cons];cases s == k<;>rfl
theorem ZyV:∀(ks:List Str) (o:Int) (s:Str),s∈ks→∃j:Nat,Zg3 (k:= .str) (v:=(.int .i64)) (car:=ZtY) (mpo o ks) s=some (o+(j:Int))∧ks[j]? =some s
 | [],_,_,h=>absurd h (by simp)
 |k::r,o,s,h=>by
  unfold mpo;rw[Zxy]
  by_cases e:s=k
  ·subst e;exact⟨0,by rw[if_pos (by simp)];simp,rfl⟩
  ·obtain⟨j,h1,h2⟩:=ZyV r (o+1) s ((ZEc.1 h).resolve_left e);refine⟨j+1, ?_,h2⟩;rw[if_neg (by simpa using e),h1];congr 1;omega
theorem Zyb:∀(ks:List Str) (o:Int) (s:Str),s∉ks→Zg3 (k:= .str) (v:=(.int .i64)) (car:=ZtY) (mpo o ks) s=none
 | [],_,_,_=>rfl
 |k::r,o,s,h=>by unfold mpo;rw[Zxy,if_neg (by intro e;exact h (by simp[eq_of_beq e]))];exact Zyb r _ s fun hs=>h (by simp[hs])
theorem Zx9:∀(ks:List Str) (o:Int) (s:Str),mpo o (ks++[s])=mpo o ks++[(s,o+(ks.length:Int))]
 | [],o,s=>by simp[mpo]
 |k::r,o,s=>by rw[List.cons_append];unfold mpo;rw[Zx9 r,List.cons_append,ZD6];congr 3;congr 1;omega
theorem Zzc:∀(ks:List Str) (o:Int) (s:Str),s∉ks→(mpo o ks).any (fun e=>ZlP (car:=ZtY) .str s e.1)=false
 | [],_,_,_=>rfl
 |k::r,o,s,h=>by
  unfold mpo;rw[List.any_cons,Zzc r _ s fun hs=>h (by simp[hs])];have:ZlP (car:=ZtY) .str s k=false:=by show (s == k)=false;rw[beq_eq_false_iff_ne];rintro rfl;exact h (by simp)
  rw[this];rfl
theorem ZAx {ks:List Str} {s:Str} (h:s∉ks):setB (k:= .str) (v:=(.int .i64)) (car:=ZtY) (mpo 0 ks) s (ks.length:Int)=mpo 0 (ks++[s]):=by unfold setB;rw[Zzc _ _ _ h,Zx9];rw[Int.zero_add];rfl
theorem ZyI {β:Type} (f g:Str→β):∀{ks:List Str} {j:Nat} {k:Str},ks.Nodup→ks[j]? =some k→(∀x,x≠k→f x=g x)→(ks.map f).set j (g k)=ks.map g
 | [],_,_,_,h,_=>by simp at h
 |x::ks,0,k,hn,h,hf=>by
  obtain rfl:x=k:=by simpa using h
  rw[List.map_cons,List.set_cons_zero,List.map_cons];congr 1;refine List.map_congr_left fun y hy=>hf y ?_
  rintro rfl;exact(List.nodup_cons.1 hn).1 hy
 |x::ks,j+1,k,hn,h,hf=>by
  have h':ks[j]? =some k:=by simpa using h
  have hx:x≠k:=by rintro rfl;exact(List.nodup_cons.1 hn).1 (List.mem_of_getElem? h')
  rw[List.map_cons,List.set_cons_succ,List.map_cons,hf x hx,ZyI f g (List.nodup_cons.1 hn).2 h' hf]
end Go.Proofs
namespace Go.Proofs
open Go Eng
def Zmg (R:List (Str×Rat)):List ZnA:=(Zwp R).map (En R)
theorem ZxL:(Zww.all fun s=>decide (s.length≤100))=true:=by kernel_rfl
theorem Zxe {c:ZnE} (h:Zu5 c):c.Text.length≤1000000:=by
 rcases h with rfl |⟨s,hs,rfl⟩
 ·simp
 ·have:=of_decide_eq_true (ZDY.1 ZxL s hs);dsimp only;omega
theorem ZyX {K V:List ZnE} (hK:∀c∈K,Zu5 c) (hV:∀c∈V,Zu5 c) (hn:K.length≤20) (hl:K.length=V.length) (nm:Str):
  wp (Zp7 big K (K.length:Int) 0 (ZnL.mk nm V) [] []) (fun x=>x=Zmg (ZrW K V)):=by
 refine Zvy Zwb K (by omega) (fun i (t:List (Str×Int)×List ZnA)=>(K,(K.length:Int),i,ZnL.mk nm V,t.1,t.2))
  (fun k t=>t.1=mpo 0 (Zwp (ZrW (K.take k) (V.take k)))∧t.2=Zmg (ZrW (K.take k) (V.take k))) (Q:=fun x=>x=Zmg (ZrW K V)) ([],[]) ⟨rfl,rfl⟩ ?_ ?_
 ·rintro rec k ⟨at_,out⟩ hk ⟨ha,ho⟩ ih;dsimp only at ha ho ih;subst ha ho;have hkv:k < V.length:=by omega
  have hrl:(ZrW (K.take k) (V.take k)).length≤k:=by unfold ZrW;refine ZEq (List.length_filterMap_le _ _) ?_;rw[List.length_zip,ZEa];omega
  have hsz:∀r∈ZrW (K.take k) (V.take k),Sz 4 r.2:=Zx4;have hstep:ZrW (K.take (k+1)) (V.take (k+1))=ZrW (K.take k) (V.take k)++(ZwO (K[k],V[k])).toList:=by unfold ZrW;rw[ZEh hk,ZEh hkv,List.zip_append (by rw[ZEa,ZEa];omega),List.filterMap_append];congr 1
  unfold ZtO ZsE;dsimp only;rw[decide_eq_true (show (k:Int) < (K.length:Int) by omega),cond_true,Zua hk,ZnH,ZnC,Zua hkv,ZnH,ZnC,ZnH];generalize hR:ZrW (K.take k) (V.take k)=R at*
  have skip:∀(v:ZnB),ZwO (K[k],V[k])=none→wp (ZqP (fun t15 t16 i value at_ out=>rec (t15,t16,i,value,at_,out)) K (K.length:Int) (k:Int) true (ZnL.mk nm V) (mpo 0 (Zwp R)) (Zmg R) K[k] v) (fun x=>x=Zmg (ZrW K V)):=by intro v hr;unfold ZqP Zsp;rw[cond_true,ZnJ];refine⟨ZnP (by omega),ih (mpo 0 (Zwp R),Zmg R) ?_⟩;rw[hstep,hr];simp
  have take1:∀(q:Rat),Sz 4 q→ZwO (K[k],V[k])=some (K[k].Text,q)→wp (ZqP (fun t15 t16 i value at_ out=>rec (t15,t16,i,value,at_,out)) K (K.length:Int) (k:Int) false (ZnL.mk nm V) (mpo 0 (Zwp R)) (Zmg R) K[k] (fOf q)) (fun x=>x=Zmg (ZrW K V)):=by
   intro q hq hr;have hnew:ZrW (K.take (k+1)) (V.take (k+1))=R++[(K[k].Text,q)]:=by rw[hstep,hr];rfl
   have hkl:=Zxn R;have hkl':=Zxn (R++[(K[k].Text,q)]);rw[ZD5,ZD9]at hkl';have upd:∀(j:Nat) (ks:List Str),ks=Zwp (R++[(K[k].Text,q)])→ks[j]? =some K[k].Text→
     wp (Zsq (fun t15 t16 i value at_ out=>rec (t15,t16,i,value,at_,out)) (j:Int) K (K.length:Int) (k:Int) (ZnL.mk nm V) (mpo 0 ks) (ks.map (En R)) (fOf q)) (fun x=>x=Zmg (ZrW K V)):=by
    intro j ks hks hj;have hjl:j < ks.length:=(List.getElem?_eq_some_iff.1 hj).1;have hjm:j < (ks.map (En R)).length:=by rw[ZD7];exact hjl
    have hkj:ks[j]=K[k].Text:=(List.getElem?_eq_some_iff.1 hj).2;have hg:(ks.map (En R))[j]? =some (En R K[k].Text):=by rw[List.getElem?_map,hj];rfl
    have hc:cnt R K[k].Text≤R.length:=List.countP_le_length;have hs:=ZzQ hsz K[k].Text;unfold Zsq Zsp;rw[ZnJ,ZDX,hg,ZnH,ZnC,ZnJ,ZnJ,ZnH,ZnC,ZnJ,List.getElem?_set_self hjm,ZnH,ZnC];dsimp only[En];rw[ZyT hs hq (by omega),ZnH,ZnC,ZnJ,ZnH,ZnC,ZnJ];dsimp only;refine⟨ZxR hjm,ZnP (by omega),ZxR hjm,ZqE ⟨by omega,by rw[ZD8];omega⟩,ZqE ⟨by omega,by rw[ZD8];omega⟩,ZnP (by omega), ?_⟩;rw[List.set_set];refine ih (_,_) ⟨?_, ?_⟩
    ·dsimp only;rw[hnew,hks]
    ·dsimp only;rw[hnew];unfold Zmg;rw[←hks];have he:ZnA.mk K[k].Text (Zxo K[k].Text) ((cnt R K[k].Text:Int)+1) (fOf (sm R K[k].Text+q))=En (R++[(K[k].Text,q)]) K[k].Text:=by unfold En;rw[Zye,ZyF,if_pos rfl];unfold ZvA;rw[if_pos rfl];congr 1
     rw[he];refine ZyI (En R) (En (R++[(K[k].Text,q)])) (by rw[hks];exact ZvV _) hj fun x hx=> ?_
     unfold En;rw[Zye,ZyF,if_neg (fun e=>hx e.symm)];unfold ZvA;rw[if_neg (fun e=>hx e.symm),Nat.add_zero]
   unfold ZqP;rw[cond_false]
   by_cases hin:K[k].Text∈Zwp R
   ·obtain⟨j,h1,h2⟩:=ZyV (Zwp R) 0 K[k].Text hin;rw[Int.zero_add]at h1;rw[h1,show (some (j:Int)).isSome=true from rfl,ZBz,cond_false,show ((some (j:Int)).getD (0:Int))=(j:Int)from rfl];have hks:Zwp R=Zwp (R++[(K[k].Text,q)]):=by rw[ZxA];unfold Zvm;rw[if_pos hin]
    exact upd j _ hks h2
   ·rw[Zyb _ _ _ hin,show (none:Option Int).isSome=false from rfl,Bool.not_false,cond_true,ZxT (Zxe (hK _ (ZD4 hk))),ZnH,ZnC,Zyy,ZnH,ZnC,ZnJ];refine⟨ZtI (by unfold Zmg;rw[ZD7,ZD9];omega), ?_⟩;have hks:Zwp R++[K[k].Text]=Zwp (R++[(K[k].Text,q)]):=by rw[ZxA];unfold Zvm;rw[if_neg hin]
    have hl1:((Zmg R).length:Int)=((Zwp R).length:Int):=by unfold Zmg;rw[ZD7]
    have ho1:Zmg R++[ZnA.mk K[k].Text (Zxo K[k].Text) 0 (fOf 0)]=(Zwp R++[K[k].Text]).map (En R):=by unfold Zmg;rw[List.map_append];congr 1;have:=ZCb hin;show [_]=[En R K[k].Text];unfold En;rw[this.1,this.2];rfl
    rw[hl1,ZAx hin,ho1];exact upd (Zwp R).length _ hks (by simp)
  rcases ZxZ (hV _ (ZD4 hkv))with ⟨q,hv,hq⟩ |⟨f,hv⟩
  ·rw[hv,ZnC];dsimp only;cases hnull:K[k].Null with
   |true=>
    rw[cond_true];exact skip _ (by unfold ZwO;rw[if_pos hnull])
   |false=>
    rw[cond_false,ZBz];cases hnv:nv V[k]with
    |none=>
     obtain⟨f,hf⟩:=ZAB (hV _ (ZD4 hkv)) hnv;rw[hv]at hf;simp at hf
    |some q'=>
     have:=(Zxk hnv).1;rw[hv]at this;have he:fOf q=fOf q':=(Prod.mk.inj (Option.some.inj this)).1;rw[he];exact take1 q' (Zxk hnv).2 (by unfold ZwO;rw[if_neg (by simp[hnull])];dsimp only;rw[hnv];rfl)
  ·rw[hv,ZnC];dsimp only;have hnv:nv V[k]=none:=by
    cases hnv:nv V[k]with
    |none=>rfl
    |some q=>
     have:=(Zxk hnv).1;rw[hv]at this;simp at this
   have hrow:ZwO (K[k],V[k])=none:=by unfold ZwO;dsimp only;rw[hnv];split<;>rfl
   cases hnull:K[k].Null with
   |true=>rw[cond_true];exact skip _ hrow
   |false=>rw[cond_false,Bool.not_false];exact skip _ hrow
 ·rintro rec ⟨at_,out⟩ ⟨ha,ho⟩;dsimp only at ha ho;subst ha ho;unfold ZtO ZsE;dsimp only;rw[decide_eq_false (show ¬(K.length:Int) < (K.length:Int) by omega),cond_false,ZnC,ZEg,hl,ZEg]
theorem Zy0 (b i0:Int) {A0 C0:List ZnA} {x:ZnA} (hlen:(A0++x::C0).length≤1000):
  wp (ZnQ big 0 b i0 (A0.length:Int) (A0++x::C0)) (fun y=>y=(0,b,i0,ZxJ ltE x A0++C0)):=by
 refine ZvG Zra (fun(s:List ZnA×List ZnA)=>((0:Int),b,i0,(s.1.length:Int),s.1++x::s.2)) (fun s=>ZxJ ltE x s.1++s.2=ZxJ ltE x A0++C0∧(s.1++x::s.2).length≤1000) (fun s=>s.1.length)
  (Q:=fun y=>y=(0,b,i0,ZxJ ltE x A0++C0)) (A0,C0) ⟨rfl,hlen⟩ (by dsimp only;simp only[ZD5]at hlen;omega) ?_
 rintro rec ⟨A,C⟩ ⟨hR,hl⟩ ih;dsimp only at hR hl ih⊢
 unfold Zo9 Zop Zn2;dsimp only;rcases List.eq_nil_or_concat A with rfl |⟨A,p,rfl⟩
 ·rw[Zob];refine⟨fun h=>by simp at h,fun _=> ?_⟩;rw[cond_false,ZnC];rw[ZzE]at hR;rw[←hR];rfl
 ·rw[List.concat_eq_append]at*
  simp only[ZD5,ZD6,List.length_nil]at hl;have e0:(A++[p])++x::C=A++p::x::C:=by simp
  have ei:((A++[p]).length:Int)=((A.length+1:Nat):Int):=by simp
  have ej:(((A++[p]).length:Int) - 1)=(A.length:Int):=by rw[ei];omega
  have g1:(A++p::x::C)[A.length+1]? =some x:=by simp
  have g0:(A++p::x::C)[A.length]? =some p:=by simp
  rw[Zob];refine⟨fun _=> ?_,fun h=>by simp only[decide_eq_false_iff_not,ei]at h;omega⟩;rw[ej,ei,e0];simp only[ZDX,g1,g0,ZEH];have ll:(A++p::x::C).length=A.length+2+C.length:=by simp only[ZD5,ZD6];omega
  have lx:inR ((A.length+1:Nat):Int) ((A++p::x::C).length:Int)=true:=ZqE ⟨by omega,by omega⟩;have lp:inR (A.length:Int) ((A++p::x::C).length:Int)=true:=ZqE ⟨by omega,by omega⟩;have lp':inR (A.length:Int) (((A++p::x::C).set (A.length+1) p).length:Int)=true:=by rw[ZD8];exact lp
  have ki:inK .i64 (A.length:Int)=true:=ZnP (by omega);rw[lx,lp,lp',ki];simp only[chk_true];rw[ZwJ,ZnH,ZnC];rw[Zy1]at hR;have hlt:ltE x p=decide (ZvN x p < 0):=rfl;rw[Zob];refine⟨fun hc=> ?_,fun hc=> ?_⟩
  ·rw[hlt,if_pos hc]at hR;rw[ZyH];exact ih (A,p::C) ⟨by rw[←hR];simp,by simp only[ZD5,ZD6];omega⟩ (by simp)
  ·rw[hlt,if_neg (by rw[hc];simp)]at hR;rw[ZnC,←hR];simp
theorem ZAM {D:List ZnA} (hl:D.length≤1000):
  Zn9 D 0 (D.length:Int)=some (Zvp ltE D):=by
 have key:Zoc D 0 (D.length:Int)=some (Zvp ltE D):=by
  refine Zqg ?_;unfold Zoc Zoy;rw[ZnJ,ZnH];refine⟨ZnP (by omega), ?_⟩;have out:∀(k f:Nat),k+1≤D.length→D.length - (k+1) < f→wp (ZnU f 0 (D.length:Int) ((k+1:Nat):Int) (Zvp ltE (D.take (k+1))++D.drop (k+1))) (fun y=>y=Zvp ltE D):=by
   intro k f
   induction f generalizing k with
   |zero=>intro _ h;omega
   |succ f ih=>
    intro hk hf;show wp (Zoq _ _ _ _ _) _;unfold Zoq Zoz;rw[Zob];refine⟨fun hc=> ?_,fun hc=> ?_⟩
    ·simp only[decide_eq_true_eq]at hc;have hk2:k+1 < D.length:=by omega
     have hlen:(Zvp ltE (D.take (k+1))).length=k+1:=by rw[Zvo,ZEa];omega
     have e:D.drop (k+1)=D[k+1]::D.drop (k+2):=List.drop_eq_getElem_cons hk2;rw[e];have:=Zy0 (D.length:Int) ((k+1:Nat):Int) (A0:=Zvp ltE (D.take (k+1))) (C0:=D.drop (k+2)) (x:=D[k+1]) (by simp only[ZD5,ZD6,hlen,List.length_drop];omega);rw[hlen]at this;rw[ZnH];refine Zn7 this ?_;rintro y rfl;dsimp only;rw[ZnJ];refine⟨ZnP (by omega), ?_⟩;have e2:ZxJ ltE D[k+1] (Zvp ltE (D.take (k+1)))=Zvp ltE (D.take (k+2)):=by rw[ZEh hk2,Zyt]
     rw[e2];have:=ih (k+1) (by omega) (by omega);rw[show ((k+1:Nat):Int)+1=((k+1+1:Nat):Int) by omega];exact this
    ·simp only[decide_eq_false_iff_not]at hc;have:k+1=D.length:=by omega
     rw[ZnC,this,ZEg,List.drop_of_length_le (ZEp _),List.append_nil]
  by_cases h0:D.length=0
  ·have:D=[]:=List.eq_nil_of_length_eq_zero h0;subst this;exact⟨[],rfl,ZnC.2 rfl⟩
  ·have:=out 0 big (by omega) (by rw[big_eq];omega);have e:Zvp ltE (D.take (0+1))++D.drop (0+1)=D:=by
    cases D with
    |nil=>simp at h0
    |cons x D=>rfl
   rw[e]at this;refine Zn7 this ?_;rintro y rfl;rw[ZnC]
 unfold Zn9;rw[key,ZEH,Zvo,decide_eq_true rfl];rfl
theorem ZyW:((List.range 13).all fun n:Nat=>(ZtR (IntKind.wrap .u64 (n:Int))).isSome)=true:=by kernel_rfl
theorem Zzp {D:List ZnA} (hl:D.length≤12):Zn0 D=some (Zvp ltE D):=by
 have h1:Zon D 0 (D.length:Int)=fun _=>some (Zvp ltE D):=by funext lim;obtain⟨k,hk⟩:=ZxV 1 (by omega);unfold Zon Zo6;rw[hk];show ((ZoG _ _ _ _ _ _ _).bind _).bind _=_;unfold ZoG;rw[ZnP (by omega),chk_true,decide_eq_true (show (D.length:Int) - 0≤12 by omega),cond_true,ZAM (by omega),ZEH,ZEH];dsimp only;rw[ZEH,Zvo,decide_eq_true rfl];rfl
 have h2:=ZDY.1 ZyW D.length (List.mem_range.2 (by omega));obtain⟨n,hn⟩:=Option.isSome_iff_exists.1 h2;unfold Zn0 Zou;rw[hn,ZEH,h1,ZEH,ZEH,Zvo,decide_eq_true rfl];rfl
noncomputable def ZqG (K V:List ZnE):List ZnA:=Zvp ltE (Zmg (ZrW K V))
theorem Zx7 {K V:List ZnE}:(Zmg (ZrW K V)).length≤K.length:=by unfold Zmg;rw[ZD7];refine ZEq (Zxn _) (ZEq (List.length_filterMap_le _ _) ?_);rw[List.length_zip];omega
theorem ZAJ {key value:ZnL} (hK:∀c∈key.Cells,Zu5 c) (hV:∀c∈value.Cells,Zu5 c) (hn:key.Cells.length≤12) (hl:key.Cells.length=value.Cells.length):
  ZtP key value=some (ZqG key.Cells value.Cells):=by
 refine Zqg ?_;unfold ZtP;rw[ZnH];refine Zn7 (ZyX hK hV (by omega) hl value.Name) ?_;rintro _ rfl;unfold Zus;rw[Zzp (ZEq Zx7 hn),ZnH,ZnC,ZnC];rfl
theorem ZyY {K V:List ZnE}:(ZqG K V).length≤K.length:=by unfold ZqG;rw[Zvo];exact Zx7
noncomputable def mkS (K V:List ZnE) (m:Nat):ZnF:=⟨(m:Int),decide ((ZqG K V).length≤m),(ZqG K V).take m⟩
theorem Zxl {key value:ZnL} (hK:∀c∈key.Cells,Zu5 c) (hV:∀c∈value.Cells,Zu5 c) (hn:key.Cells.length≤12) (hl:key.Cells.length=value.Cells.length) {m:Nat} (h1:1≤m) (h2:m≤256):
  Zrz key value (m:Int)=some (mkS key.Cells value.Cells m,0):=by
 unfold Zrz ZtA Ztz;rw[decide_eq_false (show ¬(m:Int) < 1 by omega),cond_false,decide_eq_false (show ¬(m:Int) > 256 by omega),cond_false,hl,show ((value.Cells.length:Int) != (value.Cells.length:Int))=false by simp,cond_false,decide_eq_false (show ¬(value.Cells.length:Int) > 4096 by omega),cond_false,
  ZAJ hK hV hn hl,ZEH]
 have e:(((ZqG key.Cells value.Cells).drop 0).take (((if ((ZqG key.Cells value.Cells).length:Int) < (m:Int)then ((ZqG key.Cells value.Cells).length:Int)else (m:Int))).toNat - 0))=(ZqG key.Cells value.Cells).take m:=by
  rw[List.drop_zero,Nat.sub_zero];split
  ·rename_i h;rw[ZDX,ZEg,List.take_of_length_le (by omega)]
  ·rw[ZDX]
 rw[e,ZsJ (by split<;>omega),chk_true];unfold mkS;congr 3
 by_cases h:(ZqG key.Cells value.Cells).length≤m
 ·rw[decide_eq_true h,decide_eq_true (by omega)]
 ·rw[decide_eq_false h,decide_eq_false (by omega)]
end Go.Proofs
