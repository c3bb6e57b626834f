/- Plain laws over the specs, part 1. -/
import Derived.Test.YtbjnddlpdlfknaaGreatDoorSsM0
set_option linter.unusedVariables false
set_option linter.unusedSimpArgs false
set_option linter.unusedSectionVars false
open Bool renaming not_true→ZCA
open Int renaming toNat_natCast→ZE9, natAbs_natCast→ZE8, natAbs_mul→ZE7
open List renaming all_eq_true→ZFa, mem_cons→ZFp, take_length→ZFt, length_singleton→ZFm, length_cons→ZFi, length_append→ZFh, length_take→ZFn, not_mem_nil→ZFs, getD_eq_getElem?_getD→ZFc, length_set→ZFl, take_succ_eq_append_getElem→ZFv, mem_map→ZFq, getElem_mem→ZFg, foldl_cons→ZFb, length_map→ZFk, mem_singleton→ZFr, mem_append→ZFo, getElem_cons_drop→ZFf, getElem?_eq_none→ZFe, getElem?_eq_getElem→ZFd, take_of_length_le→ZFu, length_filterMap_le→ZFj
open Nat renaming le_trans→ZFE, gcd→ZFB, pow_succ→ZFQ, mul_assoc→ZFK, pow_zero→ZFR, mod_lt→ZFI, mul_add→ZFJ, lt_of_le_of_lt→ZFF, le_refl→ZFD, mul_comm→ZFL, pow_le_pow_right→ZFP, div_le_self→ZFA, one_mul→ZFN, le_of_lt→ZFC, two_pow_pos→ZFT, zero_add→ZFU, pos_of_ne_zero→ZFO, lt_of_lt_of_le→ZFG, min_eq_left→ZFH, mul_left_comm→ZFM, div_add_mod→ZFy, add_mul_div_left→ZFw, div_eq_of_lt→ZFz, add_mul_mod_self_left→ZFx, two_pow_add_eq_or_of_lt→ZFS
open Option renaming bind_some→ZFV, some.inj→ZFW
open UInt8 renaming not_lt→ZFX
namespace Go.Proofs
open Go Eng
def Sz (k:Nat) (q:Rat):Prop:=q.num.natAbs < 2 ^ k∧q.den < 2 ^ k
theorem Sz.mono {k l:Nat} {q:Rat} (h:Sz k q) (hl:k≤l):Sz l q:=⟨ZFG h.1 (ZFP (by decide) hl),ZFG h.2 (ZFP (by decide) hl)⟩
theorem ZzG {n k:Nat} (h:n < 2 ^ k) (m:Nat) (hk:k≤32*m):(wd n).length≤m:=by refine ZvN (ZFG h ?_);rw[show Bw=2 ^ 32 from rfl,←Nat.pow_mul];exact ZFP (by decide) hk
theorem Sz.wq {k:Nat} {q:Rat} (h:Sz k q) (hk:k≤8192):Wq 256 q:=⟨ZzG h.1 256 (by omega),ZzG (n:=(q.den:Int).natAbs) (by rw[ZE8];exact h.2) 256 (by omega)⟩
theorem ZxK {x y:Int} {k:Nat} (hy:y≠0) (h1:x.natAbs < 2 ^ k) (h2:y.natAbs < 2 ^ k):Sz k (Rat.divInt x y):=by
 unfold Sz;rw[Rat.num_divInt,Rat.den_divInt,if_neg hy];refine⟨ZFF ?_ h1,ZFF (ZFA _ _) h2⟩;have hd:((Int.gcd y x:Nat):Int)∣y.sign*x:=Int.dvd_trans (Int.gcd_dvd_right y x) (Int.dvd_mul_left _ _);rw[Int.natAbs_ediv_of_dvd hd,ZE7];refine ZFE (ZFA _ _) ?_;have:y.sign.natAbs=1:=by rw[Int.natAbs_sign_of_ne_zero hy]
 rw[this,ZFN];exact ZFD _
theorem Zxw {x y k l:Nat} (hx:x < 2 ^ k) (hy:y < 2 ^ l):x*y < 2 ^ (k+l):=by rw[Nat.pow_add];exact Nat.mul_lt_mul_of_lt_of_le hx (ZFC hy) (ZFT _)
theorem Zye (a b:Rat):Rat.divInt (a.num*(b.den:Int)+b.num*(a.den:Int)) ((a.den:Int)*(b.den:Int))=a+b:=by have h1:=a.den_nz;have h2:=b.den_nz;rw[←Rat.divInt_add_divInt _ _ (by omega) (by omega),Rat.num_divInt_den,Rat.num_divInt_den]
theorem Sz.add {a b:Rat} {k l:Nat} (ha:Sz k a) (hb:Sz l b):Sz (k+l+1) (a+b):=by
 rw[←Zye];have h1:=a.den_nz;have h2:=b.den_nz;have q1:=Zxw ha.1 hb.2;have q2:=Zxw ha.2 hb.1;have q3:=Zxw ha.2 hb.2;have hp:=ZFT (k+l);refine ZxK (Int.mul_ne_zero (by omega) (by omega)) ?_ ?_
 ·rw[ZFQ];refine ZFF (Int.natAbs_add_le _ _) ?_;rw[ZE7,ZE7,ZE8,ZE8,ZFL b.num.natAbs];omega
 ·rw[ZFQ,ZE7,ZE8,ZE8];omega
theorem ZEk {q:Rat} (h:Wq 256 q):decide ((if ((fOf q).Den.Words.length:Int) > ((fOf q).Num.Words.length:Int)then ((fOf q).Den.Words.length:Int)else ((fOf q).Num.Words.length:Int)) > 256)=false:=by have h1:=h.1;have h2:=h.2;unfold Wl at h1 h2;refine decide_eq_false ?_;unfold fOf;rw[Zq0,Zq0,Zoa,Zoa];split<;>omega
theorem ZxX {y:Int} (hy:y≠0):(((bg y).Words.length:Int) == 0)=false:=by have:=Ztj (n:=y.natAbs) (by omega);rw[Zq0,Zoa];exact beq_eq_false_iff_ne.2 (by omega)
theorem ZDb {a b:Rat} {k l:Nat} (ha:Sz k a) (hb:Sz l b) (hk:k+l+1≤8192):Zuw (fOf a) (fOf b)=some (fOf (a+b),0):=by
 have h1:=a.den_nz;have h2:=b.den_nz;have qa:=ha.wq (by omega);have qb:=hb.wq (by omega);have w:∀{x y:Int},Wl 256 x→Wl 256 y→Wl 512 (x*y):=fun hx hy=>by unfold Wl;rw[ZE7];exact ZAV hx hy
 have m:∀{n:Nat} {x:Int},Wl n x→n≤50000→Wl 50000 x:=fun h h'=>ZFE h h'
 have w1:=w qa.1 qb.2;have w2:=w qb.1 qa.2;have w3:=w qa.2 qb.2;have w4:Wl 513 (a.num*(b.den:Int)+b.num*(a.den:Int)):=ZFE (Zsl (Int.natAbs_add_le _ _)) (ZzH w1 w2);have hd:(a.den:Int)*(b.den:Int)≠0:=Int.mul_ne_zero (by omega) (by omega);unfold Zuw Zqc;rw[Zyh a qa,ZFV,ZCA,cond_false,Zyh b qb,ZFV,ZCA];unfold Zpi ZuQ;rw[cond_false];show ((((Zoz (bg a.num) (bg (b.den:Int))).bind fun q=>(Zoz (bg b.num) (bg (a.den:Int))).bind fun q_1=>(Ztn q q_1).bind fun num=>(Zoz (bg (a.den:Int)) (bg (b.den:Int))).bind fun den=>some (num,den)).bind _).bind _)=_;rw[Zxs _ _ (m qa.1 (by omega)) (m qb.2 (by omega)),ZFV,Zxs _ _ (m qb.1 (by omega)) (m qa.2 (by omega)),ZFV,ZCt _ _ (m w1 (by omega)) (m w2 (by omega)),ZFV,Zxs _ _ (m qa.2 (by omega)) (m qb.2 (by omega)),ZFV,ZFV];dsimp only;rw[ZxX hd,cond_false,ZwT _ _ hd (m w4 (by omega)) (m w3 (by omega)),ZFV,Zye,ZEk ((ha.add hb).wq hk),cond_false,ZFV]
end Go.Proofs
namespace Go.Proofs
open Go Eng
theorem Sz.neg {q:Rat} {k:Nat} (h:Sz k q):Sz k (-q):=by show (-q.num).natAbs < 2 ^ k∧q.den < 2 ^ k;rw[Int.natAbs_neg];exact h
theorem Zz0 {a b:Rat} {k l:Nat} (ha:Sz k a) (hb:Sz l b) (hk:k+l+1≤8192):ZwK (fOf a) (fOf b)=some (fOf (a+b)):=by unfold ZwK Zwu;rw[ZDb ha hb hk];rfl
theorem ZBJ (x y:Int) (hy:y≠0) (hx1:Wl 256 x) (hy1:Wl 256 y):ZtT (bg x) (bg y)=some (fOf (Rat.divInt x y),0):=by
 have hb:=ZAk [x,y] (by simp) (fun z hz=>by
  simp only[ZFp,ZFs,or_false]at hz;rcases hz with rfl |rfl
  ·exact hx1
  ·exact hy1)
 unfold ZtT;rw[show ([bg x,bg y]:List ZnC)=[x,y].map bg from rfl,hb,ZFV,ZCA,cond_false,ZxX hy,cond_false,ZwT _ _ hy (ZFE hx1 (by decide)) (ZFE hy1 (by decide)),ZFV]
theorem ZD9 {z:Int} (h1: -9223372036854775808≤z) (h2:z≤9223372036854775807):Wl 256 z:=ZFE (ZBK (by omega)) (by decide)
theorem ZEq (x y:Int) (hy:y≠0) (h1: -9223372036854775808≤x) (h2:x≤9223372036854775807) (h3: -9223372036854775808≤y) (h4:y≤9223372036854775807):ZuR x y=some (fOf (Rat.divInt x y),0):=by unfold ZuR;rw[Zyb x h1 h2,ZFV,Zyb y h3 h4,ZFV,ZBJ x y hy (ZD9 h1 h2) (ZD9 h3 h4),ZFV]
theorem ZyN:ZvM=some (fOf 0):=by unfold ZvM;rw[ZEq 0 1 (by decide) (by decide) (by decide) (by decide) (by decide),ZFV,Rat.zero_divInt]
theorem ZBw:Sz 1 0:=by unfold Sz;decide
end Go.Proofs
namespace Go.Proofs
open Go Eng
theorem Zy4:∀n w,Zog n w=ZoB n w
 |0,_=>rfl
 |n+1,w=>by have:Zog n=ZoB n:=funext (Zy4 n);show Ztu (Zog n) w=Zrr (ZoB n) w;rw[this];rfl
theorem Zzo (w:List Int):ZnT w=ZnX w:=by unfold ZnT ZnX;rw[Zy4];rfl
theorem Zxf {l:List Nat} (h:Dg l) (hl:l.length≤1000000):ZnT (iL l)=some (iL (wd (val l))):=by rw[Zzo,Zws h hl]
theorem ZyY (neg:Bool) {l:List Nat} (h:Dg l) (hl:l.length≤1000000):ZnQ neg (iL l)=some (bg (if neg then -(val l:Int)else val l)):=by
 unfold ZnQ ZqP;rw[Zxf h hl,ZFV,Zoa];unfold bg;cases neg with
 |true=>
  rw[cond_true,if_pos rfl,Int.natAbs_neg,ZE8];congr 2
  by_cases h0:val l=0
  ·rw[h0,ZtC];rfl
  ·have:=Ztj h0;rw[decide_eq_true (by omega),decide_eq_true (by omega)]
 |false=>rw[cond_false,if_neg (by decide),ZE8,decide_eq_false (by omega)]
theorem ZwZ (a:ZnC):Zo0 a=ZqG a:=rfl
end Go.Proofs
namespace Go.Proofs
open Go Eng
theorem ZAi (a b:Nat) (ha:(wd a).length≤100000) (hb:(wd b).length≤100000):ZoM (iL (wd a)) (iL (wd b))=some (Zyu a b):=by
 refine Zrt ?_;unfold ZoM;rw[Zoa,Zoa,Zn0];refine⟨fun h=> ?_,fun h=> ?_⟩
 ·have hne:(wd a).length≠(wd b).length:=fun e=>by rw[e]at h;simp at h
  rw[Zn0];refine⟨fun h=> ?_,fun h=> ?_⟩
  ·have h1:(wd a).length < (wd b).length:=by have:=of_decide_eq_true h;omega
   rw[ZnF,Zvs (Zx8 h1)]
  ·have h1:(wd b).length < (wd a).length:=by have:=of_decide_eq_false h;omega
   rw[ZnF,Zu2 (Zx8 h1)]
 ·have hl:(wd a).length=(wd b).length:=by simp only[bne_eq_false_iff_eq]at h;omega
  rw[ZnJ,ZnH];refine⟨ZnM (by omega), ?_⟩;refine Zn6 (Zxp ZvG (wd a).length (by omega) (fun i (s:Unit)=>(iL (wd a),iL (wd b),i)) (fun k _=>(wd a).drop k=(wd b).drop k)
   (Q:=fun r=>r= .ret (Zyu a b)∨r= .brk ()∧a=b) () (by rw[List.drop_length,hl,List.drop_length]) ?_ ?_) ?_
  ·rintro rec k ⟨⟩ hk hP ih;have hk2:k < (wd b).length:=by omega
   unfold ZrC ZpT;dsimp only;rw[Zn0];refine⟨fun _=> ?_,fun h=>by have:=of_decide_eq_false h;omega⟩;have ha:=ZvO hk;have hb:=ZvO hk2;rw[ZsH]at ha hb;have la:val ((wd a).take k) < Bw ^ k:=by have:=Zt4 ((ZuV a).take k);rwa [ZFn,ZFH (by omega)]at this
   have lb:val ((wd b).take k) < Bw ^ k:=by have:=Zt4 ((ZuV b).take k);rwa [ZFn,ZFH (by omega)]at this
   rw[Zti hk,ZnH,ZnF,Zti hk2,ZnH,ZnF,Zn0];refine⟨fun hc=> ?_,fun hc=> ?_⟩
   ·have h1:(wd a)[k] < (wd b)[k]:=by have:=of_decide_eq_true hc;omega
    have:a < b:=by rw[ha,hb,hP];exact Zyi (A:=0) (B:=0) la (by omega)
    rw[ZnF];exact .inl (by rw[Zvs this])
   ·rw[ZnH,ZnF,ZnH,ZnF,Zn0];refine⟨fun hc2=> ?_,fun hc2=> ?_⟩
    ·have h1:(wd b)[k] < (wd a)[k]:=by have:=of_decide_eq_true hc2;omega
     have:b < a:=by rw[ha,hb,hP];exact Zyi (A:=0) (B:=0) lb (by omega)
     rw[ZnF];exact .inl (by rw[Zu2 this])
    ·rw[ZnJ];refine⟨ZnM (by omega),ih () ?_⟩;have h1:(wd a)[k]=(wd b)[k]:=by have q1:=of_decide_eq_false hc;have q2:=of_decide_eq_false hc2;omega
     rw[←ZFf (h:=hk),←ZFf (h:=hk2),h1,hP]
  ·rintro rec ⟨⟩ hP;unfold ZrC ZpT;dsimp only;rw[Zn0];refine⟨fun h=>by have:=of_decide_eq_true h;omega,fun _=> ?_⟩;rw[ZnF];rw[List.drop_zero,List.drop_zero]at hP;exact .inr ⟨rfl,by rw[←ZsH a,←ZsH b,hP]⟩
  ·rintro r (rfl |⟨rfl,rfl⟩)
   ·exact ZnF.2 rfl
   ·unfold Zsy;exact ZnF.2 (Zvj a).symm
theorem ZyS {a:Nat} (k:Nat) (hk:k≤32):shlK .u32 (a:Int) (k:Int)=((a*2 ^ k % 4294967296:Nat):Int):=by
 unfold shlK;rw[ZE9,show IntKind.bits .u32=32 from rfl,ZFH (by omega)];have e:(a:Int)*(2:Int) ^ k=((a*2 ^ k:Nat):Int):=by push_cast;rfl
 rw[e,Zt0]
theorem Zy3 (a d:Nat) (hd:d≤1) (ha:(wd a).length≤100000):ZoU (iL (wd a)) (d:Int)=some (iL (wd (2*a+d))):=by
 refine Zrt ?_;unfold ZoU;rw[ZnH];refine Zn6 (Ztq Zu8 (wd a).length (by omega) (fun i (s:Nat×List Nat)=>(iL (wd a),(s.1:Int),i,iL s.2)) (fun i s=>s.1≤1∧s.2.length=i∧Dg s.2∧val s.2+Bw ^ i*s.1=2*val ((wd a).take i)+d)
  (Q:=fun y=>∃(c:Nat) (o:List Nat),y=((c:Int),iL o)∧c≤1∧Dg o∧o.length=(wd a).length∧val o+Bw ^ (wd a).length*c=2*a+d) (d,[]) ⟨hd,rfl,Zw2,by simp[val]⟩ ?_ ?_) ?_
 ·rintro rec i ⟨c,o⟩ hi ⟨hc,hl,hod,hv⟩ ih;dsimp only at hc hl hod hv ih;have h1:=(ZuV a).get hi;unfold Zq2 Zpt;dsimp only;rw[Zn0,Zoa];refine⟨fun _=> ?_,fun h=>by have:=of_decide_eq_false h;omega⟩;rw[Zti hi,ZnH,ZnF];generalize ex:(wd a)[i]=x at h1;have eor:orK .u32 (shlK .u32 (x:Int) 1) (c:Int)=((c+x*2 ^ 1 % Bw:Nat):Int):=by rw[show (1:Int)=((1:Nat):Int)from rfl,ZyS 1 (by omega),Zyz (ZFI _ (by decide)) (by omega),Nat.or_comm];congr 1;exact Zyl (by decide) (by omega) h1
  have esh:shrK .u32 (x:Int) 31=((x / 2 ^ 31:Nat):Int):=Zw7 31 (by omega);rw[eor,ZFV,esh,ZnJ,ZnJ,ZnJ,ZnJ,Zoa];have hx:c+x*2 ^ 1 % Bw < Bw:=by simp only[Bw]at h1⊢;omega
  refine⟨by decide,Zwn (by simp only[ZFm];omega),by decide,ZnM (by omega), ?_⟩;have:=ih (x / 2 ^ 31,o++[c+x*2 ^ 1 % Bw]) ⟨by simp only[Bw]at h1;dsimp only;omega,by simp[hl],hod.app (ZwR hx), ?_⟩
  ·rw[ZyG]at this;exact this
  ·dsimp only;have q:c+x*2 ^ 1 % Bw+Bw*(x / 2 ^ 31)=c+2*x:=by simp only[Bw]at h1⊢;omega
   have q2:Bw ^ i*(c+x*2 ^ 1 % Bw+Bw*(x / 2 ^ 31))=Bw ^ i*(c+2*x):=by rw[q]
   have q3:Bw ^ i*(2*x)=2*(Bw ^ i*x):=ZFM _ _ _;rw[ZFJ,ZFJ (Bw ^ i) c (2*x),q3]at q2;rw[Zux,hl,Zob hi,ex];generalize c+x*2 ^ 1 % Bw=dg at*
   generalize x / 2 ^ 31=cy at*
   rw[ZFQ,ZFK];omega
 ·rintro rec ⟨c,o⟩ ⟨hc,hl,hod,hv⟩;dsimp only at hc hl hod hv;unfold Zq2 Zpt;dsimp only;rw[Zn0,Zoa];refine⟨fun h=>by have:=of_decide_eq_true h;omega,fun _=> ?_⟩;rw[ZnF];rw[ZFt,ZsH]at hv;exact⟨c,o,rfl,hc,hod,hl,hv⟩
 ·rintro y ⟨c,o,rfl,hc,hod,hl,hv⟩;dsimp only;unfold Zrx;have e:iL o++[(c:Int)]=iL (o++[c]):=by rw[ZyG];rfl
  rw[ZnJ,Zoa,e,Zxf (hod.app (ZwR (by simp only[Bw];omega))) (by simp;omega),ZnH,ZnF,ZnF,Zux,hl,hv];exact⟨Zwn (by simp only[ZFm];omega),rfl⟩
end Go.Proofs
namespace Go.Proofs
open Go Eng
theorem ZBy (t:Int):shrK .i64 t 32=t / 4294967296:=by unfold shrK;rw[show min (32:Int).toNat (IntKind.bits .i64)=32 from by decide,Int.fdiv_eq_ediv_of_nonneg _ (by decide)];rfl
theorem ZyQ (a b:Nat) (hab:b≤a) (ha:(wd a).length≤100000):Zor (iL (wd a)) (iL (wd b))=some (iL (wd (a - b))):=by
 have hlb:(wd b).length≤(wd a).length:=Zsl hab;refine Zrt ?_;unfold Zor;rw[ZnH];refine Zn6 (Ztq ZvE (wd a).length (by omega) (fun i (s:Nat×List Nat)=>(iL (wd a),iL (wd b), -(s.1:Int),i,iL s.2)) (fun i s=>s.1≤1∧s.2.length=i∧Dg s.2∧val ((wd a).take i)+Bw ^ i*s.1=val s.2+val ((wd b).take i))
  (Q:=fun y=>∃(o:List Nat),y=iL o∧Dg o∧o.length=(wd a).length∧val o=a - b) (0,[]) ⟨by simp,rfl,Zw2,by simp[val]⟩ ?_ ?_) ?_
 ·rintro rec i ⟨c,o⟩ hi ⟨hc,hl,hd,hv⟩ ih;dsimp only at hc hl hd hv ih;have h1:=(ZuV a).get hi;have h2:=ZxV (ZuV b) i;have ey0:(wd b).getD i 0=(if i < (wd b).length then (wd b).getD i 0 else 0):=by
   by_cases h:i < (wd b).length
   ·rw[if_pos h]
   ·rw[if_neg h,ZFc,ZFe (by omega)];rfl
  have fin:∀y:Nat,(wd b).getD i 0=y→wp (Zpn (fun a b c i out=>rec (a,b,c,i,out)) (iL (wd a)) (iL (wd b)) (-(c:Int)+((wd a)[i]:Int) - (y:Int)) (i:Int) (iL o)) (fun y=>∃(o:List Nat),y=iL o∧Dg o∧o.length=(wd a).length∧val o=a - b):=fun y ey=>by
   rw[ey]at h2;generalize ex:(wd a)[i]=x at h1;have ew:IntKind.wrap .u32 (-(c:Int)+(x:Int) - (y:Int))=(((x+4294967296 - y - c) % 4294967296:Nat):Int):=by simp only[Bw]at h1 h2;rw[IntKind.wrap_u32];omega
   have es:shrK .i64 (-(c:Int)+(x:Int) - (y:Int)) 32= -(((if x < y+c then 1 else 0):Nat):Int):=by simp only[Bw]at h1 h2;rw[ZBy];split<;>omega
   unfold Zpn;rw[ew,es,ZnJ,ZnJ,ZnJ,Zoa];refine⟨Zwn (by simp only[ZFm];omega),by decide,ZnM (by omega), ?_⟩;have:=ih ((if x < y+c then 1 else 0),o++[(x+4294967296 - y - c) % 4294967296]) ⟨by dsimp only;split<;>omega,by simp[hl],hd.app (ZwR (ZFI _ (by decide))), ?_⟩
   ·rw[ZyG]at this;exact this
   ·dsimp only;rw[Zux,hl,ZFQ,Zob hi,Zvy,ex,ey,ZFK];have e:x+Bw*(if x < y+c then 1 else 0)=(x+4294967296 - y - c) % 4294967296+y+c:=by simp only[Bw]at h1 h2⊢;split<;>omega
    have e2:Bw ^ i*(x+Bw*(if x < y+c then 1 else 0))=Bw ^ i*((x+4294967296 - y - c) % 4294967296+y+c):=by rw[e]
    rw[ZFJ,ZFJ,ZFJ]at e2;omega
  unfold Zry ZpR;dsimp only;rw[Zn0,Zoa,Zoa];refine⟨fun _=> ?_,fun h=>by have:=of_decide_eq_false h;omega⟩;have wx:IntKind.wrap .i64 ((wd a)[i]:Int)=((wd a)[i]:Int):=wrap_i64 (by simp only[Bw]at h1;omega);rw[Zti hi,ZnH,ZnF,wx,ZnJ,Zn0];refine⟨ZnM (by simp only[Bw]at h1;omega),fun h=> ?_,fun h=> ?_⟩
  ·have hib:i < (wd b).length:=by have:=of_decide_eq_true h;omega
   have hy:=(ZuV b).get hib;have wy:IntKind.wrap .i64 ((wd b)[i]:Int)=((wd b)[i]:Int):=wrap_i64 (by simp only[Bw]at hy;omega);rw[Zti hib,ZnH,ZnF,wy,ZnJ];refine⟨ZnM (by simp only[Bw]at h1 hy;omega),fin _ ?_⟩;rw[ZFc,ZFd hib];rfl
  ·have hib:¬i < (wd b).length:=by have:=of_decide_eq_false h;omega
   have:=fin 0 (by rw[ey0,if_neg hib]);rw[Int.natCast_zero,Int.sub_zero]at this;exact this
 ·rintro rec ⟨c,o⟩ ⟨hc,hl,hd,hv⟩;unfold Zry ZpR;dsimp only at hc hl hd hv⊢
  rw[Zn0,Zoa];refine⟨fun h=>by have:=of_decide_eq_true h;omega,fun _=> ?_⟩;rw[ZnF];rw[ZFt,ZFu (by omega),ZsH,ZsH]at hv;have:=Zt4 hd;rw[hl]at this;have hc0:c=0:=by
   rcases Nat.eq_zero_or_pos c with h |h
   ·exact h
   ·have:c=1:=by omega
    rw[this,Nat.mul_one]at hv;omega
  rw[hc0,Nat.mul_zero]at hv;exact⟨o,rfl,hd,hl,by omega⟩
 ·rintro y ⟨o,rfl,hd,hl,hv⟩;unfold Zsq;rw[Zxf hd (by omega),ZnH,ZnF,ZnF,hv]
end Go.Proofs
namespace Go.Proofs
open Go Eng
theorem ZxH (a:Nat) (ha:(wd a).length≤100000):Zol (iL (wd a))=some (iL (wd (a / 2))):=by
 refine Zrt ?_;unfold Zol;rw[List.nil_append,ZnJ,ZnH,Zoa];refine⟨Zwn (by rw[List.length_nil];omega), ?_⟩;refine Zn6 (Ztq Zvm (wd a).length (by omega) (fun i (o:List Nat)=>(iL (wd a),((wd a).length:Int),i,iL (o++(wd a).drop o.length))) (fun i o=>o.length=i∧Dg o∧val o*2+(wd a).getD 0 0 % 2=val ((wd a).take i)+Bw ^ i*((wd a).getD i 0 % 2))
  (Q:=fun y=>∃(o:List Nat),y=iL o∧Dg o∧o.length=(wd a).length∧val o=a / 2) [] ⟨rfl,Zw2,by simp[val]⟩ ?_ ?_) ?_
 ·rintro rec i o hi ⟨hol,hod,hov⟩ ih;have h1:=(ZuV a).get hi;have hyB:=ZxV (ZuV a) (i+1);have hlen:(o++(wd a).drop o.length).length=(wd a).length:=by simp;omega
  have gx:(iL (o++(wd a).drop o.length))[i]? =some ((wd a)[i]:Int):=by rw[Zw0 (by omega)];congr 2;rw[List.getElem_append_right (by omega)];simp[hol]
  have fin:∀z:Nat,z=(wd a)[i] / 2+(wd a).getD (i+1) 0*2 ^ 31 % Bw→wp (Zpd (fun a t9 i out=>rec (a,t9,i,out)) (iL (wd a)) ((wd a).length:Int) (i:Int) (iL ((o++(wd a).drop o.length).set i z))) (fun y=>∃(o:List Nat),y=iL o∧Dg o∧o.length=(wd a).length∧val o=a / 2):=fun z hz=>by
   unfold Zpd;have es:(o++(wd a).drop o.length).set i z=(o++[z])++(wd a).drop (o++[z]).length:=by rw[List.set_append_right _ _ (by omega),hol,Nat.sub_self,←ZFf (h:=hi),List.set_cons_zero];simp[hol]
   have eg:(wd a).getD i 0=(wd a)[i]:=by rw[ZFc,ZFd hi];rfl
   rw[eg]at hov;rw[ZnJ,es];generalize ex:(wd a)[i]=x at*
   generalize ey:(wd a).getD (i+1) 0=y at*
   have hzB:z < Bw:=by simp only[Bw]at h1 hz⊢;omega
   refine⟨ZnM (by omega),ih (o++[z]) ⟨by simp[hol],hod.app (ZwR hzB), ?_⟩⟩;have hd1:z*2+x % 2=x+Bw*(y % 2):=by simp only[Bw]at h1 hz⊢;omega
   have q1:Bw ^ i*(z*2+x % 2)=Bw ^ i*(x+Bw*(y % 2)):=by rw[hd1]
   rw[ZFJ,ZFJ]at q1;rw[Zux,hol,Zob hi,ex,ZFQ,Nat.add_mul,ZFK,ZFK];omega
  unfold Zrn ZpL;dsimp only;rw[Zn0];refine⟨fun _=> ?_,fun h=>by have:=of_decide_eq_false h;omega⟩;have esh:shrK .u32 ((wd a)[i]:Int) 1=(((wd a)[i] / 2:Nat):Int):=Zw7 1 (by omega);rw[ZE9,gx,ZnJ,ZnH,ZnF,ZnJ,ZnJ,ZnJ,esh,ZwE,Zoa,Zoa,hlen,Zn0];refine⟨ZqU ⟨by omega,by omega⟩,by decide,ZqU ⟨by omega,by omega⟩,ZnM (by omega),fun h=> ?_,fun h=> ?_⟩
  ·have hi2:i+1 < (wd a).length:=by have:=of_decide_eq_true h;omega
   have gz:(iL ((o++(wd a).drop o.length).set i ((wd a)[i] / 2)))[i]? =some (((wd a)[i] / 2:Nat):Int):=by rw[Zw0 (by rw[ZFl];omega),List.getElem_set_self]
   have e1:(i:Int)+1=((i+1:Nat):Int):=rfl;have eg:(wd a).getD (i+1) 0=(wd a)[i+1]:=by rw[ZFc,ZFd hi2];rfl
   have eor:orK .u32 (((wd a)[i] / 2:Nat):Int) (shlK .u32 ((wd a)[i+1]:Int) 31)=(((wd a)[i] / 2+(wd a).getD (i+1) 0*2 ^ 31 % Bw:Nat):Int):=by rw[eg,show (31:Int)=((31:Nat):Int)from rfl,ZyS 31 (by omega),Zyz (by simp only[Bw]at h1;omega) (ZFI _ (by decide))];congr 1;exact Zyl (by decide) (by simp only[Bw]at h1;omega) ((ZuV a).get hi2)
   rw[e1,Zti hi2,gz,ZnJ,ZnH,ZnF,ZnJ,ZnH,ZnF,ZnJ,ZnJ,eor,Zoa,ZFl,hlen,ZwE,List.set_set];exact⟨ZqU ⟨by omega,by omega⟩,ZnM (by omega),by decide,ZqU ⟨by omega,by omega⟩,fin _ rfl⟩
  ·have hi2:¬i+1 < (wd a).length:=by have:=of_decide_eq_false h;omega
   refine fin _ ?_;rw[ZFc,ZFe (by omega)];simp
 ·rintro rec o ⟨hol,hod,hov⟩;unfold Zrn ZpL;dsimp only;rw[Zn0];refine⟨fun h=>by have:=of_decide_eq_true h;omega,fun _=> ?_⟩;rw[ZnF];have eg:(wd a).getD (wd a).length 0=0:=by rw[ZFc,ZFe (by omega)];rfl
  rw[eg,Nat.zero_mod,Nat.mul_zero,Nat.add_zero,ZFt,ZsH]at hov;refine⟨o,by rw[hol,List.drop_length,List.append_nil],hod,hol, ?_⟩;omega
 ·rintro y ⟨o,rfl,hd,hl,hv⟩;unfold Zr6;rw[Zxf hd (by omega),ZnH,ZnF,ZnF,hv]
end Go.Proofs
namespace Go.Proofs
open Go Eng
theorem ZyA {a:Nat} (h:a≠0):idx (iL (wd a)) 0=some ((a % Bw:Nat):Int):=by rw[Zxe h];rfl
theorem ZxW {a:Nat}:(andK .u32 ((a % Bw:Nat):Int) 1 == 0)=decide (a % 2=0):=by
 rw[show (1:Int)=((1:Nat):Int)from rfl,Zyr (ZFI _ (by decide)) (by decide),Nat.and_one_is_mod];have e:a % Bw % 2=a % 2:=by simp only[Bw];omega
 rw[e]
 by_cases h:a % 2=0
 ·rw[h];rfl
 ·rw[decide_eq_false h];exact beq_eq_false_iff_ne.2 (by omega)
theorem Zzd (P:Nat→Prop) {f:Nat→List Int×List Int×Int→Option (List Int×List Int×Int)} (y:List Int) (k:Int)
  (hf:∀n x,x≠0→(wd x).length≤100000→f (n+1) (iL (wd x),y,k)=if x % 2=0 then f n (iL (wd (x / 2)),y,k)else some (iL (wd x),y,k))
  (hP:∀x,P (2*x)→P x):∀(n x:Nat),x≠0→(wd x).length≤100000→P x→(∀m,x < 2 ^ m→m≤n→∃z,f n (iL (wd x),y,k)=some (iL (wd z),y,k)∧z % 2=1∧z≤x∧P z)
 |0,x,hx,hl,hp,m,hm,hmn=>by
  have:m=0:=by omega
  subst this;rw[ZFR]at hm;omega
 |n+1,x,hx,hl,hp,m,hm,hmn=>by
  rw[hf n x hx hl]
  by_cases h:x % 2=0
  ·rw[if_pos h];cases m with
   |zero=>rw[ZFR]at hm;omega
   |succ m=>
    obtain⟨z,h1,h2,h3,h4⟩:=Zzd P y k hf hP n (x / 2) (by omega) (ZFE (Zsl (ZFA x 2)) hl) (hP _ (by rwa [show 2*(x / 2)=x by omega])) m (by rw[ZFQ]at hm;omega) (by omega);exact⟨z,h1,h2,by omega,h4⟩
  ·rw[if_neg h];exact⟨x,rfl,by omega,ZFD _,hp⟩
end Go.Proofs
namespace Go.Proofs
open Go Eng
theorem Zu3 (x:Nat):x < 2 ^ (x.log2+1):=Nat.lt_log2_self
theorem ZwA {x n:Nat} (h:(wd x).length≤n):x.log2≤32*n:=by
 rcases Nat.eq_zero_or_pos x with rfl |hp
 ·rw[Nat.log2_zero];omega
 ·have h1:=Nat.log2_self_le (n:=x) (by omega);have h2:=ZFG (ZtD x) (ZFP (n:=Bw) (by decide) h);rw[show Bw=2 ^ 32 from rfl,←Nat.pow_mul]at h2;exact ZFC ((Nat.pow_lt_pow_iff_right (a:=2) (by decide)).1 (ZFF h1 h2))
theorem ZAe {x b:Nat} (hb:b % 2=1):ZFB (2*x) b=ZFB x b:=by
 have hc:Nat.Coprime 2 b:=by unfold Nat.Coprime;rw[Nat.gcd_rec,hb,Nat.gcd_one_left]
 exact Nat.Coprime.gcd_mul_left_cancel x hc
theorem ZEx (y:List Int) (k:Int) {x:Nat} (b:Nat) (hb:b % 2=1) (hx:x≠0) (hl:(wd x).length≤100000):∃z,Zn8 big (iL (wd x)) y k=some (iL (wd z),y,k)∧z % 2=1∧z≤x∧ZFB z b=ZFB x b:=by
 have hm:=ZwA hl;refine Zzd (fun z=>ZFB z b=ZFB x b) (f:=fun n t=>Zn8 n t.1 t.2.1 t.2.2) y k (fun n x hx hl=> ?_) (fun z h=>by rwa [ZAe hb]at h) big x hx hl rfl (x.log2+1) (Zu3 x) (ZFC (Zx0 (by omega)));show ZoY (Zn8 n) (iL (wd x)) y k=_;unfold ZoY;rw[ZyA hx,ZFV,ZxW]
 by_cases h:x % 2=0
 ·rw[decide_eq_true h,cond_true,if_pos h,ZxH x hl,ZFV]
 ·rw[decide_eq_false h,cond_false,if_neg h]
end Go.Proofs
namespace Go.Proofs
open Go Eng
theorem ZA5 (y:List Int) (k:Int) {x:Nat} (ho:x % 2=1):Zn8 big (iL (wd x)) y k=some (iL (wd x),y,k):=by obtain⟨n,hn⟩:=ZyX 1 (by decide);rw[hn];show ZoY (Zn8 n) (iL (wd x)) y k=_;unfold ZoY;rw[ZyA (by omega),ZFV,ZxW,decide_eq_false (by omega),cond_false]
theorem ZEw (w:List Int) (k:Int) {y:Nat} (b:Nat) (hb:b % 2=1) (hy:y≠0) (hl:(wd y).length≤100000):∃z,Zn7 big w (iL (wd y)) k=some (w,iL (wd z),k)∧z % 2=1∧(z≤y∧(y % 2=0→z≤y / 2))∧ZFB z b=ZFB y b:=by
 have hm:=ZwA hl;have step:∀n x,x≠0→(wd x).length≤100000→Zn7 (n+1) w (iL (wd x)) k=if x % 2=0 then Zn7 n w (iL (wd (x / 2))) k else some (w,iL (wd x),k):=fun n x hx hl=>by
  show Zrz (Zn7 n) w (iL (wd x)) k=_;unfold Zrz;rw[ZyA hx,ZFV,ZxW]
  by_cases h:x % 2=0
  ·rw[decide_eq_true h,cond_true,if_pos h,ZxH x hl,ZFV]
  ·rw[decide_eq_false h,cond_false,if_neg h]
 have key:∀(n x m:Nat),x≠0→(wd x).length≤100000→x < 2 ^ m→m≤n→∃z,Zn7 n w (iL (wd x)) k=some (w,iL (wd z),k)∧z % 2=1∧(z≤x∧(x % 2=0→z≤x / 2))∧ZFB z b=ZFB x b:=by
  intro n
  induction n with
  |zero=>
   intro x m hx hl hm hmn;have:m=0:=by omega
   subst this;rw[ZFR]at hm;omega
  |succ n ih=>
   intro x m hx hl hm hmn;rw[step n x hx hl]
   by_cases h:x % 2=0
   ·rw[if_pos h];cases m with
    |zero=>rw[ZFR]at hm;omega
    |succ m=>
     obtain⟨z,h1,h2,h3,h4⟩:=ih (x / 2) m (by omega) (ZFE (Zsl (ZFA x 2)) hl) (by rw[ZFQ]at hm;omega) (by omega);refine⟨z,h1,h2,⟨by omega,fun _=>h3.1⟩, ?_⟩;rw[h4,←ZAe hb,show 2*(x / 2)=x by omega]
   ·rw[if_neg h];exact⟨x,rfl,by omega,⟨ZFD _,fun h'=>absurd h' h⟩,rfl⟩
 exact key big y (y.log2+1) hy hl (Zu3 y) (ZFC (Zx0 (by omega)))
end Go.Proofs
namespace Go.Proofs
open Go Eng
theorem ZAL (k:Int):∀(n x y p q:Nat),x % 2=1→(wd x).length≤100000→(wd y).length≤100000→x < 2 ^ p→y < 2 ^ q→p+q+y % 2 < n→ZnR n (iL (wd x)) (iL (wd y)) k=some (iL (wd (ZFB x y)),k)
 |0,x,y,p,q,_,_,_,_,_,h=>absurd h (by omega)
 |n+1,x,y,p,q,ho,hxl,hyl,hp,hq,hn=>by
  show ZoZ (ZnR n) _ _ _=_;unfold ZoZ;rw[Zoa]
  by_cases h0:y=0
  ·subst h0;rw[ZtC,Nat.gcd_zero_right];rfl
  ·have hl:=Ztj h0;obtain⟨z,hz,hz1,hz2,hz3⟩:=ZEw (iL (wd x)) k x ho h0 hyl;rw[decide_eq_true (by omega),cond_true,ZA5 _ _ ho,ZFV];dsimp only;unfold Zsv;rw[hz,ZFV];dsimp only;have hzl:=ZFE (Zsl hz2.1) hyl;unfold Zsu;rw[ZAi x z hxl hzl,ZFV];obtain⟨q',hq',hq2⟩:∃q',z < 2 ^ q'∧q'+1≤q+y % 2:=by
    by_cases he:y % 2=0
    ·cases q with
     |zero=>rw[ZFR]at hq;omega
     |succ q=>
      refine⟨q, ?_,by omega⟩;have:=hz2.2 he;rw[ZFQ]at hq;omega
    ·exact⟨q,by omega,by omega⟩
   unfold ZqM;have eg:ZFB x y=ZFB x z:=by rw[Nat.gcd_comm x y,←hz3,Nat.gcd_comm]
   rw[eg]
   by_cases hc:z < x
   ·rw[Zu2 hc,show decide ((1:Int) > 0)=true from rfl,cond_true,ZyQ x z (by omega) hxl,ZFV,ZAL k n z (x - z) q' p hz1 hzl (ZFE (Zsl (Nat.sub_le x z)) hxl) hq' (by omega) (by omega),Nat.gcd_sub_self_right (by omega),Nat.gcd_comm]
   ·have hnc:decide (Zyu x z > 0)=false:=by refine decide_eq_false ?_;unfold Zyu;rw[if_neg hc];split<;>decide
    rw[hnc,cond_false,ZyQ z x (by omega) hzl,ZFV,ZAL k n x (z - x) p q' ho hxl (ZFE (Zsl (Nat.sub_le z x)) hzl) hp (by omega) (by omega),Nat.gcd_sub_self_right (by omega)]
end Go.Proofs
namespace Go.Proofs
open Go Eng
theorem ZCL:∀(n x y j m:Nat),x≠0→y≠0→(wd x).length≤100000→(wd y).length≤100000→x < 2 ^ m→m≤n→j+m≤1000000000→
  ∃x' y' t:Nat,ZoK n (iL (wd x)) (iL (wd y)) (j:Int)=some (iL (wd x'),iL (wd y'),((j+t:Nat):Int))∧(x' % 2=1∨y' % 2=1)∧ZFB x y=2 ^ t*ZFB x' y'∧x'≠0∧y'≠0∧x'≤x∧y'≤y∧t≤m
 |0,x,y,j,m,hx,hy,hxl,hyl,hm,hmn,hj=>by
  have:m=0:=by omega
  subst this;rw[ZFR]at hm;omega
 |n+1,x,y,j,m,hx,hy,hxl,hyl,hm,hmn,hj=>by
  show ∃x' y' t:Nat,ZrA (ZoK n) _ _ _=_∧_;unfold ZrA ZqN;rw[ZyA hx,ZFV,ZxW]
  by_cases h1:x % 2=0
  ·rw[decide_eq_true h1,cond_true,ZyA hy,ZFV,ZxW]
   by_cases h2:y % 2=0
   ·cases m with
    |zero=>rw[ZFR]at hm;omega
    |succ m=>
     rw[decide_eq_true h2,cond_true,ZxH x hxl,ZFV,ZxH y hyl,ZFV,ZnM (by omega),chk_true];obtain⟨x',y',t,q1,q2,q3,q4,q5,q6,q7,q8⟩:=ZCL n (x / 2) (y / 2) (j+1) m (by omega) (by omega) (ZFE (Zsl (ZFA x 2)) hxl) (ZFE (Zsl (ZFA y 2)) hyl) (by rw[ZFQ]at hm;omega) (by omega) (by omega);refine⟨x',y',t+1, ?_,q2, ?_,q4,q5,by omega,by omega,by omega⟩
     ·rw[show (j:Int)+1=((j+1:Nat):Int)from rfl,q1,show j+1+t=j+(t+1) by omega]
     ·have:=Nat.gcd_mul_left 2 (x / 2) (y / 2);rw[show 2*(x / 2)=x by omega,show 2*(y / 2)=y by omega]at this;rw[this,q3,ZFQ,ZFL (2 ^ t) 2,ZFK]
   ·rw[decide_eq_false h2,cond_false];exact⟨x,y,0,rfl,.inr (by omega),by rw[ZFR,ZFN],hx,hy,ZFD _,ZFD _,Nat.zero_le _⟩
  ·rw[decide_eq_false h1,cond_false,cond_false];exact⟨x,y,0,rfl,.inl (by omega),by rw[ZFR,ZFN],hx,hy,ZFD _,ZFD _,Nat.zero_le _⟩
theorem ZCH:∀(k n a:Nat),k < n→k≤1000000000→(wd (2 ^ k*a)).length≤100000→ZoJ n (iL (wd a)) (k:Int)=some (iL (wd (2 ^ k*a)))
 |k,0,a,h,_,_=>absurd h (by omega)
 |0,n+1,a,_,_,_=>by show ZoX (ZoJ n) _ _=_;unfold ZoX;rw[ZFR,ZFN];rfl
 |k+1,n+1,a,h,hk,hl=>by
  show ZoX (ZoJ n) _ _=_;unfold ZoX;have e:2 ^ (k+1)*a=2 ^ k*(2*a+0):=by rw[ZFQ,ZFK,Nat.add_zero]
  have ha:(wd a).length≤100000:=ZFE (Zsl (Nat.le_mul_of_pos_left a (ZFT _))) hl;rw[e]at hl;have ht:=Zy3 a 0 (by omega) ha;rw[Int.natCast_zero]at ht;rw[decide_eq_true (by omega),cond_true,ht,ZFV,show ((k+1:Nat):Int) - 1=(k:Int) by omega,ZnM (by omega),chk_true,ZCH k n (2*a+0) (by omega) (by omega) hl,e]
theorem ZBS (a b:Nat) (ha0:a≠0) (hb0:b≠0) (ha:(wd a).length≤50000) (hb:(wd b).length≤50000):Zqt (iL (wd a)) (iL (wd b))=some (iL (wd (ZFB a b))):=by
 have hla:=ZwA ha;have hlb:=ZwA hb;obtain⟨x,y,t,q1,q2,q3,q4,q5,q6,q7,q8⟩:=ZCL big a b 0 (a.log2+1) ha0 hb0 (by omega) (by omega) (Zu3 a) (ZFC (Zx0 (by omega))) (by omega);rw[Int.natCast_zero,ZFU]at q1;have hxl:=ZFE (Zsl q6) ha;have hyl:=ZFE (Zsl q7) hb;have hlx:=ZwA hxl;have hly:=ZwA hyl;have main:ZnR big (iL (wd x)) (iL (wd y)) (t:Int)=some (iL (wd (ZFB x y)),(t:Int)):=by
  by_cases hx:x % 2=1
  ·exact ZAL _ big x y _ _ hx (by omega) (by omega) (Zu3 x) (Zu3 y) (Zx0 (by omega))
  ·have hy:y % 2=1:=by omega
   obtain⟨z,z1,z2,z3,z4⟩:=ZEx (iL (wd y)) (t:Int) y hy q4 (by omega);have hzl:=ZFE (Zsl z3) hxl;have hlz:=ZwA hzl;have e:=ZAL (t:Int) big z y _ _ z2 (by omega) (by omega) (Zu3 z) (Zu3 y) (Zx0 (by omega));rw[z4]at e;rw[←e];obtain⟨n,hn⟩:∃n,big=n+1:=⟨36893488147419103231,by rw[big_eq]⟩;have s1:∀u,ZnR big (iL (wd u)) (iL (wd y)) (t:Int)=ZoZ (ZnR n) (iL (wd u)) (iL (wd y)) (t:Int):=fun u=>by rw[hn];rfl
   rw[s1,s1];unfold ZoZ;have hl:=Ztj q5;rw[Zoa,decide_eq_true (by omega),cond_true,cond_true,z1,ZA5 _ _ z2]
 have hg:(wd (2 ^ t*ZFB x y)).length≤100000:=by rw[←q3];exact ZFE (ZzF (by omega) hb) (by omega)
 unfold Zqt;rw[q1,ZFV];dsimp only;unfold Zsw Zst Zss;rw[main,ZFV];dsimp only;rw[ZCH t big _ (Zx0 (by omega)) (by omega) hg,ZFV,q3]
end Go.Proofs
namespace Go.Proofs
open Go Eng
theorem ZAj {l:List Nat} {i:Nat} (hd:Dg l) (h:i / 32 < l.length):l[i / 32] / 2 ^ (i % 32) % 2=val l / 2 ^ i % 2:=by
 have e:=ZvO h;have hlt:=Zt4 (hd.take (i / 32));rw[ZFn,ZFH (by omega)]at hlt;have hi:2 ^ i=Bw ^ (i / 32)*2 ^ (i % 32):=by rw[show Bw=2 ^ 32 from rfl,←Nat.pow_mul,←Nat.pow_add,ZFy]
 have hr:i % 32 < 32:=ZFI _ (by decide);have hB:Bw=2 ^ (i % 32)*(2*2 ^ (31 - i % 32)):=by rw[show 2*2 ^ (31 - i % 32)=2 ^ (31 - i % 32+1) by rw[ZFQ,ZFL],←Nat.pow_add,show i % 32+(31 - i % 32+1)=32 by omega]
 have e1:val l / Bw ^ (i / 32)=l[i / 32]+Bw*val (l.drop (i / 32+1)):=by rw[e,ZFw _ _ (Nat.pow_pos (by decide)),ZFz hlt,ZFU]
 rw[hi,←Nat.div_div_eq_div_mul,e1];generalize l[i / 32]=x;generalize val (l.drop (i / 32+1))=y;have e2:(x+Bw*y) / 2 ^ (i % 32)=x / 2 ^ (i % 32)+2*(2 ^ (31 - i % 32)*y):=by rw[hB,ZFK,ZFw _ _ (ZFT _),ZFK]
 rw[e2,ZFx]
end Go.Proofs
namespace Go.Proofs
open Go Eng
theorem ZAX (i:Nat):Int.tdiv (i:Int) 32=((i / 32:Nat):Int):=by rw[Int.tdiv_eq_ediv_of_nonneg (by omega)];norm_cast
theorem ZAW (i:Nat):IntKind.wrap .u64 (Int.tmod (i:Int) 32)=((i % 32:Nat):Int):=by rw[Int.tmod_eq_emod_of_nonneg (by omega),IntKind.wrap_u64];omega
theorem ZDa {l:List Nat} {i:Nat} (hd:Dg l) (h:i / 32 < l.length) (hi:i≤1000000000):Zqu (iL l) (i:Int)=some ((val l / 2 ^ i % 2:Nat):Int):=by have h1:=hd.get h;unfold Zqu;rw[ZAX,ZAW,decide_eq_true (by decide),chk_true,ZnM (by omega),chk_true,Zti h,ZFV,chk_true,decide_eq_true (by omega),chk_true,Zw7 _ (by omega),show (1:Int)=((1:Nat):Int)from rfl,Zyr (ZFF (ZFA _ _) h1) (by decide),Nat.and_one_is_mod,ZAj hd h]
end Go.Proofs
namespace Go.Proofs
open Go Eng
theorem ZAZ {x j:Nat} (h:x / 2 ^ j % 2=0):x|||2 ^ j=x+2 ^ j:=by
 have hlo:=ZFI x (ZFT j);have e:x=2 ^ (j+1)*(x / 2 ^ j / 2)+x % 2 ^ j:=by
  have h1:=ZFy x (2 ^ j);have h2:2*(x / 2 ^ j / 2)=x / 2 ^ j:=by omega
  rw[ZFQ,ZFK,h2,h1]
 have a1:=ZFS (i:=j+1) (b:=x % 2 ^ j) (by rw[ZFQ];omega) (x / 2 ^ j / 2);have a2:=ZFS (i:=j) (b:=x % 2 ^ j) hlo 1;have a3:=ZFS (i:=j+1) (b:=2 ^ j*1+x % 2 ^ j) (by rw[ZFQ];omega) (x / 2 ^ j / 2);rw[Nat.mul_one]at a2 a3;generalize x / 2 ^ j / 2=t at*
 generalize x % 2 ^ j=lo at*
 rw[e,a1,Nat.or_assoc,Nat.or_comm lo,←a2,←a3,←a1];omega
theorem ZBA {j:Nat} (hj:j≤31):shlK .u32 1 (j:Int)=((2 ^ j:Nat):Int):=by have:=ZyS (a:=1) j (by omega);rw[ZFN,Nat.mod_eq_of_lt (ZFF (ZFP (by decide) hj) (by decide))]at this;exact this
theorem ZAc {A k:Nat}:A / 2 ^ k=2*(A / 2 ^ (k+1))+A / 2 ^ k % 2:=by rw[ZFQ,←Nat.div_div_eq_div_mul];omega
theorem ZAh (a b:Nat) (hb0:b≠0) (ha:(wd a).length≤50000) (hb:(wd b).length≤50000):Zpj (iL (wd a)) (iL (wd b))=some (iL (wd (a / b)),iL (wd (a % b))):=by
 have hlen:∀k,(wd (2*(a / 2 ^ (k+1) % b)+a / 2 ^ k % 2)).length≤50001:=fun k=>by
  have h1:=ZFI (a / 2 ^ (k+1)) (ZFO hb0);have h2:2*(a / 2 ^ (k+1) % b)+a / 2 ^ k % 2≤b+b:=by omega
  exact ZFE (Zsl h2) (ZzH hb hb)
 refine Zrt ?_;unfold Zpj;rw[ZnJ,ZnJ,ZnJ,ZnH,Zoa,ZE9,Zya];refine⟨ZwU (by omega),ZnM (by omega),ZnM (by omega), ?_⟩;have e0:(32*((wd a).length:Int)) - 1=((32*(wd a).length:Nat):Int) - 1:=by omega
 rw[e0,show ([]:List Int)=iL (wd 0) by rw[ZtC];rfl];refine Zn6 (Zxp ZvF (32*(wd a).length) (by omega) (fun i (q:Nat×List Nat)=>(iL (wd a),iL (wd b),iL (wd q.1),i,iL q.2))
  (fun k q=>q.1=a / 2 ^ k % b∧Dg q.2∧q.2.length=(wd a).length∧val q.2=a / 2 ^ k / b*2 ^ k)
  (Q:=fun y=>∃o:List Nat,y=(iL (wd (a % b)),iL o)∧Dg o∧o.length=(wd a).length∧val o=a / b) (0,List.replicate (wd a).length 0) ?_ ?_ ?_) ?_
 ·have h0:a / 2 ^ (32*(wd a).length)=0:=by refine ZFz ?_;rw[Nat.pow_mul];exact ZtD a
  rw[h0,Nat.zero_mod,Nat.zero_div,Nat.zero_mul];exact⟨rfl,ZA7 _,List.length_replicate,ZzJ _⟩
 ·rintro rec k ⟨r,q⟩ hk ⟨hr,hd,hl,hv⟩ ih;dsimp only at hr hd hl hv;have hk32:k / 32 < (wd a).length:=by omega
  unfold ZrB ZpS;dsimp only;have hbit:=ZDa (i:=k) (ZuV a) hk32 (by omega);rw[ZsH]at hbit;have h2:a / 2 ^ k % 2≤1:=by omega
  have htw:=Zy3 r (a / 2 ^ k % 2) h2 (by
   rw[hr];exact ZFE (Zsl (ZFC (ZFI _ (ZFO hb0)))) (by omega))
  have hlk:=hlen k;rw[←hr]at hlk;have hx:=ZAc (A:=a) (k:=k);have hdm:=ZFy (a / 2 ^ (k+1)) b;rw[←hr]at hdm;have hrlt:r < b:=by rw[hr];exact ZFI _ (ZFO hb0)
  rw[Zn0];refine⟨fun _=> ?_,fun h=>by have:=of_decide_eq_false h;omega⟩;rw[hbit,ZnH,ZnF,htw,ZnH,ZnF,ZAi _ _ (by omega) (by omega),ZnH,ZnF,Zn0];have nx:∀r' q',(r'=a / 2 ^ k % b∧Dg q'∧q'.length=(wd a).length∧val q'=a / 2 ^ k / b*2 ^ k)→wp (Zpp (fun a b r_ i q=>rec (a,b,r_,i,q)) (iL (wd a)) (iL (wd b)) (iL (wd r')) (k:Int) (iL q')) (fun y=>∃o:List Nat,y=(iL (wd (a % b)),iL o)∧Dg o∧o.length=(wd a).length∧val o=a / b):=fun r' q' h=>by unfold Zpp;rw[ZnJ];exact⟨ZnM (by omega),ih (r',q') h⟩
  generalize eX:a / 2 ^ (k+1)=X at*
  generalize ed:a / 2 ^ k % 2=d at*
  refine⟨fun hc=> ?_,fun hc=> ?_⟩
  ·have hge:b≤2*r+d:=by
    rcases Nat.lt_or_ge (2*r+d) b with h |h
    ·rw[Zvs h]at hc;exact absurd (of_decide_eq_true hc) (by decide)
    ·exact h
   have hq:k / 32 < q.length:=by omega
   have hz:q[k / 32] / 2 ^ (k % 32) % 2=0:=by rw[ZAj hd hq,hv,ZFQ,←ZFK,Nat.mul_right_comm,Nat.mul_div_cancel _ (ZFT k)];omega
   have hx32:=hd.get hq;rw[ZyQ _ _ hge (by omega),ZnH,ZnF,ZAX,ZAW,ZE9,ZnJ,ZnJ,ZnJ,Zw0 hq,ZnH,ZnF,ZnJ,ZnJ,ZnJ,ZBA (by omega),Zyz hx32 (ZFF (ZFP (by decide) (show k % 32≤31 by omega)) (by decide)),ZAZ hz,ZwE,Zoa];refine⟨by decide,ZnM (by omega),ZqU ⟨by omega,by omega⟩,by decide,decide_eq_true (by omega),ZqU ⟨by omega,by omega⟩, ?_⟩;have hsum:q[k / 32]+2 ^ (k % 32) < Bw:=by
    have hB:Bw=2 ^ (k % 32)*(2*2 ^ (31 - k % 32)):=by rw[show 2*2 ^ (31 - k % 32)=2 ^ (31 - k % 32+1) by rw[ZFQ,ZFL],←Nat.pow_add,show k % 32+(31 - k % 32+1)=32 by omega]
    rw[←ZAZ hz];exact Nat.or_lt_two_pow (n:=32) hx32 (ZFF (ZFP (by decide) (show k % 32≤31 by omega)) (by decide))
   refine nx (2*r+d - b) (q.set (k / 32) (q[k / 32]+2 ^ (k % 32))) ⟨?_,hd.set _ hsum,by rw[ZFl,hl], ?_⟩
   ·rw[hx,show 2*X+d=(2*r+d - b)+b*(2*(X / b)+1) by rw[ZFJ,ZFM];omega,ZFx,Nat.mod_eq_of_lt (by omega)]
   ·have hvs:=ZwJ q (k / 32) (q[k / 32]+2 ^ (k % 32)) hq;have hp:Bw ^ (k / 32)*2 ^ (k % 32)=2 ^ k:=by rw[show Bw=2 ^ 32 from rfl,←Nat.pow_mul,←Nat.pow_add,ZFy]
    rw[ZFJ,hp]at hvs;have e1:(2*X+d) / b=2*(X / b)+1:=by rw[show 2*X+d=(2*r+d - b)+b*(2*(X / b)+1) by rw[ZFJ,ZFM];omega,ZFw _ _ (ZFO hb0),ZFz (by omega),ZFU]
    rw[hx,e1];rw[hv,ZFQ]at hvs;have e2:X / b*(2 ^ k*2)=2*(X / b)*2 ^ k:=by rw[ZFL (2 ^ k) 2,←ZFK,ZFL (X / b) 2]
    rw[Nat.add_mul,ZFN];omega
  ·have hlt:2*r+d < b:=by
    rcases Nat.lt_or_ge (2*r+d) b with h |h
    ·exact h
    ·rcases Nat.lt_or_ge b (2*r+d)with h' |h'
     ·rw[Zu2 h']at hc;exact absurd (of_decide_eq_false hc) (by decide)
     ·rw[show 2*r+d=b by omega,Zvj]at hc;exact absurd (of_decide_eq_false hc) (by decide)
   have e0:2*X+d=(2*r+d)+b*(2*(X / b)):=by rw[ZFM];omega
   refine nx (2*r+d) q ⟨?_,hd,hl, ?_⟩
   ·rw[hx,e0,ZFx,Nat.mod_eq_of_lt hlt]
   ·rw[hx,e0,ZFw _ _ (ZFO hb0),ZFz hlt,ZFU,hv,ZFQ,ZFL (2 ^ k) 2,←ZFK,ZFL (X / b) 2]
 ·rintro rec ⟨r,q⟩ ⟨hr,hd,hl,hv⟩;dsimp only at hr hd hl hv;rw[ZFR,Nat.div_one]at hr hv;unfold ZrB ZpS;dsimp only;rw[Zn0];refine⟨fun h=>by have:=of_decide_eq_true h;omega,fun _=> ?_⟩;rw[ZnF,hr];exact⟨q,rfl,hd,hl,by rw[hv,Nat.mul_one]⟩
 ·rintro y ⟨o,rfl,hd,hl,hv⟩;dsimp only;unfold Zsx;rw[Zxf hd (by omega),ZnH,ZnF,ZnF,hv]
end Go.Proofs
namespace Go.Proofs
open Go Eng
theorem Zxz (n:Int):Rat.divInt n 1=(n:Rat):=by have h:=Rat.num_divInt_den (n:Rat);rw[Rat.num_intCast,Rat.den_intCast]at h;exact h
end Go.Proofs
namespace Go.Proofs
open Go Eng
theorem Zxb (z:Int) (h1: -9223372036854775808≤z) (h2:z≤9223372036854775807):ZnO z=some (bg z):=by
 have key:∀(b:Bool) (n:Nat),n < 18446744073709551616→ZnQ b [IntKind.wrap .u32 (n:Int),IntKind.wrap .u32 (shrK .u64 (n:Int) 32)]=some (bg (if b then -(n:Int)else n)):=fun b n h=>by
  have e:([IntKind.wrap .u32 (n:Int),IntKind.wrap .u32 (shrK .u64 (n:Int) 32)]:List Int)=iL [n % 4294967296,n / 4294967296]:=by rw[show (32:Int)=((32:Nat):Int)from rfl,Zw6 32 (by omega),Zt0,Zuk (by omega)];rfl
  have hd:Dg [n % 4294967296,n / 4294967296]:=fun d hd=>by
   simp only[ZFp,ZFr,ZFs,or_false]at hd;rcases hd with rfl |rfl
   ·exact ZFI _ (by decide)
   ·simp only[Bw];omega
  have hv:val [n % 4294967296,n / 4294967296]=n:=by simp only[val,Nat.mul_zero,Nat.add_zero];exact Nat.mod_add_div n Bw
  rw[e,ZyY b hd (by simp),hv]
 unfold ZnO Zpu;have h32:decide (0≤(32:Int))=true:=rfl
 by_cases hz:z < 0
 ·have e:IntKind.wrap .u64 (0 - IntKind.wrap .u64 z)=((z.natAbs:Nat):Int):=by rw[IntKind.wrap_u64,IntKind.wrap_u64];omega
  rw[decide_eq_true hz,cond_true,h32,chk_true,e,key true _ (by omega),ZFV,if_pos rfl,show -((z.natAbs:Nat):Int)=z by omega]
 ·have e:IntKind.wrap .u64 z=((z.natAbs:Nat):Int):=by rw[IntKind.wrap_u64];omega
  rw[decide_eq_false hz,cond_false,h32,chk_true,e,key false _ (by omega),ZFV,if_neg (by decide),show ((z.natAbs:Nat):Int)=z by omega]
theorem ZBX:bg 0=⟨false,[]⟩:=by unfold bg;rw[show (0:Int).natAbs=0 from rfl,ZtC];rfl
theorem Zzu (x y:Int) (hy:y≠0) (hx1:Wl 50000 x) (hy1:Wl 50000 y):ZoI (bg x) (bg y)=some (fOf (Rat.divInt x y)):=by
 unfold ZoI
 by_cases hx:x=0
 ·subst hx;rw[Rat.zero_divInt,Zq0,Zoa,show (0:Int).natAbs=0 from rfl,ZtC,Zxb 1 (by decide) (by decide)];show some (ZnD.mk ⟨false,[]⟩ (bg 1))=some (fOf 0);rw[←ZBX];rfl
 ·have hx0:0 < x.natAbs:=by omega
  have hy0:0 < y.natAbs:=by omega
  have hg0:ZFB x.natAbs y.natAbs≠0:=fun e=>by have:=Nat.gcd_pos_of_pos_right x.natAbs hy0;omega
  have hgl:=ZzF (x:=x.natAbs) hy0 hy1;have hxl:=Zy0 (ZFB x.natAbs y.natAbs) hx1;have hyl:=Zy0 (ZFB x.natAbs y.natAbs) hy1;have h:=ZwT x y hy hx1 hy1;unfold Zph at h;rw[Zq0,Zq0,ZxZ _ _ hx1 hy1,ZFV,Zxt _ _ hg0 hx1 hgl,ZFV]at h;dsimp only at h;rw[Zxt _ _ hg0 hy1 hgl,ZFV]at h;dsimp only at h;rw[Zs9 _ _ (by omega),ZFV,Zs9 _ _ (by omega),ZFV]at h;have hlen:=Ztj (n:=x.natAbs) (by omega);rw[←h,Zq0,Zq0,Zoa,beq_eq_false_iff_ne.2 (by omega),cond_false,ZBS _ _ (by omega) (by omega) hx1 hy1,ZFV,ZAh _ _ hg0 hx1 hgl,ZFV];dsimp only;rw[ZAh _ _ hg0 hy1 hgl,ZFV];dsimp only;rw[ZyY _ (ZuV _) (by omega),ZFV,ZyY _ (ZuV _) (by omega),ZFV,ZsH,ZsH]
theorem ZAG (x y:Int) (hy:y≠0) (hx1:Wl 256 x) (hy1:Wl 256 y):ZpZ (bg x) (bg y)=some (fOf (Rat.divInt x y),0):=by unfold ZpZ Zqo;rw[ZwZ,Zw5 x hx1,ZFV,ZCA,cond_false,ZwZ,Zw5 y hy1,ZFV,ZCA,cond_false,ZxX hy,cond_false,Zzu x y hy (ZFE hx1 (by decide)) (ZFE hy1 (by decide)),ZFV]
theorem ZCD (x y:Int) (hy:y≠0) (h1: -9223372036854775808≤x) (h2:x≤9223372036854775807) (h3: -9223372036854775808≤y) (h4:y≤9223372036854775807):ZpF x y=some (fOf (Rat.divInt x y),0):=by unfold ZpF;rw[Zxb x h1 h2,ZFV,Zxb y h3 h4,ZFV,ZAG x y hy (ZD9 h1 h2) (ZD9 h3 h4),ZFV]
theorem ZzT (x y:Int) (hy:y≠0) (h1: -9223372036854775808≤x) (h2:x≤9223372036854775807) (h3: -9223372036854775808≤y) (h4:y≤9223372036854775807):ZpO x y=some (fOf (Rat.divInt x y)):=by unfold ZpO;rw[ZCD x y hy h1 h2 h3 h4,ZFV]
theorem ZAO (x:Int) (h1: -9223372036854775808≤x) (h2:x≤9223372036854775807):Zqs x=some (fOf (x:Rat)):=by unfold Zqs;rw[ZzT x 1 (by decide) h1 h2 (by decide) (by decide),ZFV,Zxz]
theorem ZCr {a b:Nat} (h:wd a=wd b):a=b:=by rw[←ZsH a,←ZsH b,h]
theorem Zx5 (x y:Int) (hx:Wl 100000 x) (hy:Wl 100000 y):ZoC (bg x) (bg y)=some (decide (x=y)):=by
 unfold Wl at hx hy;refine Zrt ?_;unfold ZoC Zps;rw[Zw3,Zw3,Zq0,Zq0,Zoa,Zoa]
 by_cases hs:decide (x < 0)=decide (y < 0)
 ·rw[hs,beq_self_eq_true,ZCA,cond_false]
  by_cases hl:(wd x.natAbs).length=(wd y.natAbs).length
  ·rw[hl,bne_self_eq_false,cond_false,ZnH];refine Zn6 (Ztq ZuW (wd y.natAbs).length (by omega) (fun i (_:Unit)=>(iL (wd x.natAbs),((wd y.natAbs).length:Int),i,bg y)) (fun i _=>(wd x.natAbs).take i=(wd y.natAbs).take i)
    (Q:=fun r=>r= .ret false∧wd x.natAbs≠wd y.natAbs∨r= .brk ()∧wd x.natAbs=wd y.natAbs) () (by rw[List.take_zero,List.take_zero]) ?_ ?_) ?_
   ·rintro rec i ⟨⟩ hi hP ih;have hi2:i < (wd x.natAbs).length:=by omega
    unfold Zqw Zo6;dsimp only;rw[Zn0];refine⟨fun _=> ?_,fun h=>by have:=of_decide_eq_false h;omega⟩;rw[Zq0,Zti hi2,ZnH,ZnF,Zti hi,ZnH,ZnF,Zn0];refine⟨fun h=> ?_,fun h=> ?_⟩
    ·rw[ZnF];refine .inl ⟨rfl,fun e=> ?_⟩;have h1:(wd y.natAbs)[i]=(wd x.natAbs)[i]:=by simp only[e]
     rw[h1,bne_self_eq_false]at h;exact absurd h (by decide)
    ·rw[ZnJ];refine⟨ZnM (by omega),ih () ?_⟩;rw[bne_eq_false_iff_eq]at h;have h1:(wd y.natAbs)[i]=(wd x.natAbs)[i]:=by omega
     rw[ZFv hi2,ZFv hi,hP,h1]
   ·rintro rec ⟨⟩ hP;unfold Zqw Zo6;dsimp only;rw[Zn0];refine⟨fun h=>by have:=of_decide_eq_true h;omega,fun _=> ?_⟩;rw[ZnF];rw[ZFt,←hl,ZFt]at hP;exact .inr ⟨rfl,hP⟩
   ·rintro r (⟨rfl,h⟩ |⟨rfl,h⟩)
    ·exact ZnF.2 (decide_eq_false (fun e=>h (by rw[e]))).symm
    ·unfold Zq1;have h1:=ZCr h;refine ZnF.2 (decide_eq_true ?_).symm
     by_cases hy0:y < 0
     ·have hx0:x < 0:=by rw[decide_eq_true hy0]at hs;exact of_decide_eq_true hs
      omega
     ·have hx0:¬x < 0:=by rw[decide_eq_false hy0]at hs;exact of_decide_eq_false hs
      omega
  ·have:(((wd x.natAbs).length:Int) != ((wd y.natAbs).length:Int))=true:=by rw[bne_iff_ne];omega
   rw[this,cond_true,ZnF];exact(decide_eq_false (fun e=>hl (by rw[e]))).symm
 ·rw[beq_eq_false_iff_ne.2 hs,Bool.not_false,cond_true,cond_true,ZnF];exact(decide_eq_false (fun e=>hs (by rw[e]))).symm
theorem ZxM (p q:Rat) (hp:Wq 256 p) (hq:Wq 256 q):ZpN (fOf p) (fOf q)=some (decide (p=q)):=by
 have m:∀{x:Int},Wl 256 x→Wl 100000 x:=fun h=>ZFE h (by decide)
 unfold ZpN Zqj fOf;dsimp only;rw[Zx5 _ _ (m hp.1) (m hq.1),ZFV]
 by_cases h1:p.num=q.num
 ·rw[decide_eq_true h1,cond_true,Zx5 _ _ (m hp.2) (m hq.2),ZFV];congr 1
  by_cases h2:p.den=q.den
  ·rw[decide_eq_true (by omega),decide_eq_true (Rat.ext h1 h2)]
  ·rw[decide_eq_false (by omega),decide_eq_false (fun e=>h2 (by rw[e]))]
 ·rw[decide_eq_false h1,cond_false,decide_eq_false (fun e=>h1 (by rw[e]))]
end Go.Proofs
namespace Go.Proofs
open Go Eng
section
variable {α:Type} (lt:α→α→Bool)
def ZA6 (x:α):List α→List α
 | []=>[x]
 |p::r=>if lt x p then p::ZA6 x r else x::p::r
def ZyM (x:α) (A:List α):List α:=(ZA6 lt x A.reverse).reverse
def Zwq (l:List α):List α:=l.foldl (fun s x=>ZyM lt x s) []
variable {lt}
theorem ZAP (x:α):ZyM lt x []=[x]:=rfl
theorem Zz9 (x p:α) (A:List α):ZyM lt x (A++[p])=if lt x p then ZyM lt x A++[p]else A++[p,x]:=by unfold ZyM;rw[List.reverse_append,List.reverse_singleton,List.singleton_append,ZA6];split;rotate_left;simp;rw[List.reverse_cons]
theorem ZxU (x:α):∀l:List α,(ZA6 lt x l).Perm (x::l)
 | []=> .refl _
 |p::r=>by
  unfold ZA6;split
  ·exact((ZxU x r).cons p).trans (.swap _ _ _)
  ·exact .refl _
theorem ZyF (x:α) (A:List α):(ZyM lt x A).Perm (A++[x]):=by unfold ZyM;refine(List.reverse_perm _).trans ((ZxU x _).trans ?_);refine(List.Perm.cons x (List.reverse_perm A)).trans ?_;exact(List.perm_append_singleton x A).symm
theorem Zzz (l:List α) (x:α):Zwq lt (l++[x])=ZyM lt x (Zwq lt l):=by simp[Zwq]
theorem ZwV (l:List α):(Zwq lt l).Perm l:=by
 have key:∀(l s:List α),(l.foldl (fun s x=>ZyM lt x s) s).Perm (s++l):=by
  intro l
  induction l with
  |nil=>intro s;simp
  |cons x l ih=>
   intro s;refine(ih _).trans ?_;refine((ZyF x s).append_right l).trans ?_;simp
 simpa[Zwq]using key l []
theorem Zv7 (l:List α):(Zwq lt l).length=l.length:=(ZwV l).length_eq
theorem ZxT (P:α→Prop) (le:α→α→Prop) (hlt:∀x p,P x→P p→lt x p=true→le x p) (hnlt:∀x p,P x→P p→lt x p=false→le p x) (htr:∀a b c,P a→P b→P c→le a b→le b c→le a c)
  (x:α) (hx:P x):∀l:List α,(∀y∈l,P y)→l.Pairwise (fun a b=>le b a)→(ZA6 lt x l).Pairwise (fun a b=>le b a)
 | [],_,_=>by simp[ZA6]
 |p::r,hP,h=>by
  have hp:=hP p (by simp);have hr:=List.pairwise_cons.1 h;unfold ZA6;cases hc:lt x p with
  |true=>
   rw[if_pos rfl,List.pairwise_cons];refine⟨fun y hy=> ?_,ZxT P le hlt hnlt htr x hx r (fun y hy=>hP y (by simp[hy])) hr.2⟩;rcases ZFp.1 ((ZxU x r).mem_iff.1 hy)with rfl |hy
   ·exact hlt _ _ hx hp hc
   ·exact hr.1 y hy
  |false=>
   rw[if_neg (by simp),List.pairwise_cons];refine⟨fun y hy=> ?_,h⟩;have hxp:=hnlt x p hx hp hc;rcases ZFp.1 hy with rfl |hy
   ·exact hxp
   ·exact htr _ _ _ (hP y (by simp[hy])) hp hx (hr.1 y hy) hxp
theorem ZyE (P:α→Prop) (le:α→α→Prop) (hlt:∀x p,P x→P p→lt x p=true→le x p) (hnlt:∀x p,P x→P p→lt x p=false→le p x) (htr:∀a b c,P a→P b→P c→le a b→le b c→le a c)
  (l:List α) (hl:∀y∈l,P y):(Zwq lt l).Pairwise le:=by
 have key:∀(l s:List α),(∀y∈l,P y)→(∀y∈s,P y)→s.Pairwise le→(l.foldl (fun s x=>ZyM lt x s) s).Pairwise le:=by
  intro l
  induction l with
  |nil=>intro s _ _ h;exact h
  |cons x l ih=>
   intro s hl hs h;refine ih _ (fun y hy=>hl y (by simp[hy])) (fun y hy=> ?_) ?_
   ·rcases ZFo.1 ((ZyF x s).mem_iff.1 hy)with hy |hy
    ·exact hs y hy
    ·simp only[ZFr]at hy;subst hy;exact hl _ (by simp)
   ·unfold ZyM;rw[List.pairwise_reverse];exact ZxT P le hlt hnlt htr x (hl x (by simp)) s.reverse (fun y hy=>hs y (List.mem_reverse.1 hy)) (by rw[List.pairwise_reverse];exact h)
 exact key l [] hl (by simp) (by simp)
end
theorem ZzP {α:Type} (A C:List α) (p x:α):((A++p::x::C).set (A.length+1) p).set A.length x=A++x::p::C:=by
 induction A with
 |nil=>rfl
 |cons a A ih=>simp only[List.cons_append,ZFi,List.set_cons_succ,ih]
end Go.Proofs
namespace Go.Proofs
open Go Eng
def ZEz (h:Int) (c:UInt8):Int:=IntKind.wrap .u64 ((xorK .u64 h (IntKind.wrap .u64 ((c.toNat:Nat):Int)))*1099511628211)
def Zxn (s:Str):Int:=s.foldl ZEz 14695981039346656037
theorem ZwC {s:Str} (hs:s.length≤1000000):Zo9 s=some (Zxn s):=by
 refine Zrt ?_;unfold Zo9;rw[ZnH];refine Zn6 (ZwQ Zxa s (by omega) (fun i (h:Int)=>(s,h,(s.length:Int),i)) (fun k h=>h=Zxn (s.take k)) (Q:=fun x=>x=Zxn s) 14695981039346656037 rfl ?_ ?_) ?_
 ·rintro rec k h hk rfl ih;unfold ZuM Zty;dsimp only;rw[decide_eq_true (show (k:Int) < (s.length:Int) by omega),cond_true,Zv8 hk,ZnH,ZnF,ZnJ];refine⟨ZnM (by omega),ih _ ?_⟩;rw[ZFv hk];unfold Zxn;rw[List.foldl_append];rfl
 ·rintro rec h rfl;unfold ZuM Zty;dsimp only;rw[decide_eq_false (show ¬(s.length:Int) < (s.length:Int) by omega),cond_false,ZnF,ZFt]
 ·rintro _ rfl;unfold Zvr;rw[ZnF]
theorem ZyW:∀{a b:List UInt8},Lib.compareBytes a b=0→a=b
 | [],[],_=>rfl
 | [],_::_,h=>by simp[Lib.compareBytes]at h
 |_::_,[],h=>by simp[Lib.compareBytes]at h
 |x::a,y::b,h=>by
  unfold Lib.compareBytes at h;split at h
  ·simp at h
  ·rename_i h1;split at h
   ·simp at h
   ·rename_i h2;have:x=y:=UInt8.le_antisymm (ZFX.1 h2) (ZFX.1 h1);rw[this,ZyW h]
theorem ZA8:∀a b:List UInt8,Lib.compareBytes b a= - Lib.compareBytes a b
 | [],[]=>by simp[Lib.compareBytes]
 | [],_::_=>by simp[Lib.compareBytes]
 |_::_,[]=>by simp[Lib.compareBytes]
 |x::a,y::b=>by
  unfold Lib.compareBytes
  by_cases h1:x < y
  ·rw[if_pos h1,if_neg (fun h=>UInt8.lt_asymm h1 h),if_pos h1];rfl
  ·by_cases h2:y < x
   ·rw[if_pos h2,if_neg h1,if_pos h2]
   ·rw[if_neg h1,if_neg h2,if_neg h2,if_neg h1,ZA8 a b]
theorem Zzm:∀{a b c:List UInt8},Lib.compareBytes a b < 0→Lib.compareBytes b c < 0→Lib.compareBytes a c < 0
 | [],[],_,h,_=>by simp[Lib.compareBytes]at h
 | [],_::_,[],_,h=>by simp[Lib.compareBytes]at h
 | [],_::_,_::_,_,_=>by simp[Lib.compareBytes]
 |_::_,[],_,h,_=>by simp[Lib.compareBytes]at h
 |_::_,_::_,[],_,h=>by simp[Lib.compareBytes]at h
 |x::a,y::b,z::c,h1,h2=>by
  unfold Lib.compareBytes at h1 h2⊢
  by_cases hxy:x < y
  ·by_cases hyz:y < z
   ·rw[if_pos (UInt8.lt_trans hxy hyz)];decide
   ·rw[if_neg hyz]at h2
    by_cases hzy:z < y
    ·rw[if_pos hzy]at h2;simp at h2
    ·have:y=z:=UInt8.le_antisymm (ZFX.1 hzy) (ZFX.1 hyz);subst this;rw[if_pos hxy];decide
  ·rw[if_neg hxy]at h1
   by_cases hyx:y < x
   ·rw[if_pos hyx]at h1;simp at h1
   ·have:x=y:=UInt8.le_antisymm (ZFX.1 hyx) (ZFX.1 hxy);subst this;rw[if_neg (UInt8.lt_irrefl x)]at h1
    by_cases hyz:x < z
    ·rw[if_pos hyz];decide
    ·rw[if_neg hyz]at h2⊢
     by_cases hzy:z < x
     ·rw[if_pos hzy]at h2;simp at h2
     ·rw[if_neg hzy]at h2⊢
      exact Zzm h1 h2
def Zxh (a b:ZnA):Int:=if a.Hash < b.Hash then -1 else if a.Hash > b.Hash then 1 else Lib.compareBytes a.Key b.Key
theorem ZzV (a b:Int):Zvh [a,b]=some (if a≠0 then a else b):=by
 obtain⟨n,hn⟩:=ZyX 3 (by omega);have e0:idx [a,b] 0=some a:=rfl;have e1:idx [a,b] 1=some b:=rfl;have l:((([a,b]:List Int).length:Nat):Int)=2:=rfl;have s1:∀rec,ZqH rec 0 [a,b] 2 0=if a≠0 then some (.ret a)else rec 0 [a,b] 2 1:=by
  intro rec;unfold ZqH;rw[e0,show decide ((0:Int) < 2)=true from rfl,cond_true,ZFV]
  by_cases h:a=0
  ·rw[if_neg (by simp[h]),show (a != 0)=false by simp[h],cond_false];rfl
  ·rw[if_pos h,show (a != 0)=true by simpa using h,cond_true]
 have s2:∀rec,ZqH rec 0 [a,b] 2 1=if b≠0 then some (.ret b)else rec 0 [a,b] 2 2:=by
  intro rec;unfold ZqH;rw[e1,show decide ((1:Int) < 2)=true from rfl,cond_true,ZFV]
  by_cases h:b=0
  ·rw[if_neg (by simp[h]),show (b != 0)=false by simp[h],cond_false];rfl
  ·rw[if_pos h,show (b != 0)=true by simpa using h,cond_true]
 have s3:∀rec,ZqH rec 0 [a,b] 2 2=some (.brk 0):=fun rec=>rfl
 have u:∀m t i,ZtY (m+1) 0 [a,b] t i=ZqH (ZtY m) 0 [a,b] t i:=fun _ _ _=>rfl
 unfold Zvh Zv1;rw[hn,l,u (n+2),s1]
 by_cases h:a=0
 ·rw[if_neg (by simp[h]),if_neg (by simp[h]),u (n+1),s2]
  by_cases h2:b=0
  ·rw[if_neg (by simp[h2]),u n,s3,h2];rfl
  ·rw[if_pos h2];rfl
 ·rw[if_pos h,if_pos h];rfl
theorem Zzc (a b:ZnA):Ztl a b=some (Zxh a b):=by
 unfold Ztl ZsN Zsk Zt1 ZoW Zxh;simp only[bne_self_eq_false,ZFV,cond_false]
 by_cases h1:a.Hash < b.Hash
 ·rw[decide_eq_true h1,cond_true,ZFV,ZzV,if_pos h1,if_pos (by decide)];rfl
 ·by_cases h2:a.Hash > b.Hash
  ·rw[decide_eq_false h1,cond_false,decide_eq_true h2,cond_true,ZFV,ZzV,if_neg h1,if_pos h2,if_pos (by decide)];rfl
  ·rw[decide_eq_false h1,cond_false,decide_eq_false h2,cond_false,ZFV,ZzV,if_neg h1,if_neg h2,if_neg (by decide)];rfl
def Zw4 (a:ZnA):Prop:=a.Hash=Zxn a.Key
def ltE (a b:ZnA):Bool:=decide (Zxh a b < 0)
theorem Zyk (a b:ZnA):Zxh b a= - Zxh a b:=by
 unfold Zxh
 by_cases h1:a.Hash < b.Hash
 ·rw[if_pos h1,if_neg (by omega),if_pos (by omega)];rfl
 ·by_cases h2:a.Hash > b.Hash
  ·rw[if_pos (show b.Hash < a.Hash from h2),if_neg h1,if_pos h2]
  ·rw[if_neg h1,if_neg h2,if_neg (by omega),if_neg (by omega),ZA8]
theorem Zzs {a b c:ZnA} (h1:Zxh a b < 0) (h2:Zxh b c < 0):Zxh a c < 0:=by
 unfold Zxh at*
 by_cases e1:a.Hash < b.Hash
 ·by_cases e2:b.Hash < c.Hash
  ·rw[if_pos (by omega)];decide
  ·rw[if_neg e2]at h2
   by_cases e3:b.Hash > c.Hash
   ·rw[if_pos e3]at h2;simp at h2
   ·rw[if_pos (by omega)];decide
 ·rw[if_neg e1]at h1
  by_cases e4:a.Hash > b.Hash
  ·rw[if_pos e4]at h1;simp at h1
  ·rw[if_neg e4]at h1
   by_cases e2:b.Hash < c.Hash
   ·rw[if_pos (by omega)];decide
   ·rw[if_neg e2]at h2
    by_cases e3:b.Hash > c.Hash
    ·rw[if_pos e3]at h2;simp at h2
    ·rw[if_neg e3]at h2;rw[if_neg (by omega),if_neg (by omega)];exact Zzm h1 h2
theorem ZxN {a b:ZnA} (h:Zxh a b=0):a.Key=b.Key:=by
 unfold Zxh at h;split at h
 ·simp at h
 ·split at h
  ·simp at h
  ·exact ZyW h
end Go.Proofs
namespace Go.Proofs
open Go Eng
theorem Zwt {x y:Int} (hy:y≠0) (h1:x.natAbs < 16) (h2:y.natAbs < 16):Sz 4 (Rat.divInt x y):=ZxK (k:=4) hy h1 h2
theorem ZEI:ZqZ [48]=Zsi false [] [1] false false [] []:=by kernel_rfl
theorem dec0:ZqZ [48]=some (fOf (Rat.divInt 0 1),true):=by
 rw[ZEI];unfold Zsi;have e0:iL (wd 0)=[]:=by kernel_rfl
 have e1:iL (wd 1)=[1]:=by kernel_rfl
 have l0:Nat.ble (wd 0).length 50000=true:=by kernel_rfl
 have l1:Nat.ble (wd 1).length 50000=true:=by kernel_rfl
 have w0:=Nat.le_of_ble_eq_true l0;have w1:=Nat.le_of_ble_eq_true l1;have h1:=Zs9 false 0 (by omega);have h2:=Zs9 false 1 (by omega);rw[e0]at h1;rw[e1]at h2;rw[h1,ZFV,h2,ZFV];have:=ZwT 0 1 (by decide) w0 w1;simp only[Bool.false_eq_true,if_false];rw[show ((0:Nat):Int)=0 from rfl,show ((1:Nat):Int)=1 from rfl,this,ZFV]
theorem can0:ZsP 4 [48]=some ([48],true):=by
 have h:ZsP 4 [48]=(ZtE [48]).bind fun(a,b)=>some (a,b):=by kernel_rfl
 rw[h];unfold ZtE;rw[dec0];show _=_
 kernel_rfl
theorem valZ:ZoN (ZnB.mk false [48])=some (fOf (Rat.divInt 0 1),true):=by
 unfold ZoN ZvA;rw[can0];dsimp only;rw[cond_false,ZFV];dsimp only;rw[ZCA,cond_false,dec0];show _=_
 kernel_rfl
def ZzZ:List (Str×Int):=[([45,51], -3),([45,50], -2),([45,49], -1),([49],1),([50],2),([51],3),([52],4),([53],5),([54],6),([55],7),([56],8),([49,48],10)]
def ZzB:List (Str×Int):=[([45,49,46,53], -3),([49,46,53,48],3)]
def noT:List Str:=[[97],[98],[99],[100],[120],[],[49,46,50,46,51],[107,48],[107,49],[107,50],[107,51],[107,52],[107,53],[107,54],[107,55],[107,56],[107,57],[107,49,48],[107,49,49],[107,49,50],[107,49,51]]
def fx (n:Int) (d:Int):ZnD:=⟨⟨decide (n < 0),if n=0 then []else [(n.natAbs:Int)]⟩,⟨false,[d]⟩⟩
theorem ZyT:(ZzZ.all fun p=>decide (ZoN (ZnB.mk false p.1)=some (fx p.2 1,true)))=true:=by kernel_rfl
theorem Zzk:(ZzB.all fun p=>decide (ZoN (ZnB.mk false p.1)=some (fx p.2 2,true)))=true:=by kernel_rfl
theorem ZA2:(noT.all fun s=>match ZoN (ZnB.mk false s)with |some (_,false)=>true |_=>false)=true:=by kernel_rfl
theorem ZAf:(ZzZ.all fun p=>decide (fx p.2 1=fOf (Rat.divInt p.2 1))&&decide (p.2.natAbs < 16))=true:=by kernel_rfl
theorem ZAg:(ZzB.all fun p=>decide (fx p.2 2=fOf (Rat.divInt p.2 2))&&decide (p.2.natAbs < 16))=true:=by kernel_rfl
def Zxr:List Str:=[48]::(ZzZ.map (·.1)++ZzB.map (·.1)++noT)
def Zwc (c:ZnB):Prop:=c=ZnB.mk true []∨∃s∈Zxr,c=ZnB.mk false s
theorem Zy2 {c:ZnB} (h:Zwc c):(∃q,ZoN c=some (fOf q,true)∧Sz 4 q)∨(∃f,ZoN c=some (f,false)):=by
 rcases h with rfl |⟨s,hs,rfl⟩
 ·refine .inr ⟨fOf 0, ?_⟩;unfold ZoN;dsimp only;rw[cond_true,ZyN];rfl
 ·rcases ZFp.1 hs with rfl |hs
  ·exact .inl ⟨_,valZ,Zwt (by decide) (by decide) (by decide)⟩
  ·rcases ZFo.1 hs with hs |hs
   ·rcases ZFo.1 hs with hs |hs
    ·obtain⟨p,hp,rfl⟩:=ZFq.1 hs;have h1:=of_decide_eq_true (ZFa.1 ZyT p hp);have h2:=ZFa.1 ZAf p hp;simp only[Bool.and_eq_true,decide_eq_true_eq]at h2;rw[h2.1]at h1;exact .inl ⟨_,h1,Zwt (by decide) h2.2 (by decide)⟩
    ·obtain⟨p,hp,rfl⟩:=ZFq.1 hs;have h1:=of_decide_eq_true (ZFa.1 Zzk p hp);have h2:=ZFa.1 ZAg p hp;simp only[Bool.and_eq_true,decide_eq_true_eq]at h2;rw[h2.1]at h1;exact .inl ⟨_,h1,Zwt (by decide) h2.2 (by decide)⟩
   ·have h1:=ZFa.1 ZA2 s hs;split at h1;rotate_left;simp at h1;rename_i f hf;exact .inr ⟨f,hf⟩
open Classical in
noncomputable def nv (c:ZnB):Option Rat:=if h:∃q,ZoN c=some (fOf q,true)∧Sz 4 q then some h.choose else none
theorem Zxu {c:ZnB} {q:Rat} (h:nv c=some q):ZoN c=some (fOf q,true)∧Sz 4 q:=by unfold nv at h;split at h;rotate_left;simp at h;rename_i hx;obtain rfl:=ZFW h;exact hx.choose_spec
theorem ZBG {c:ZnB} (hc:Zwc c) (h:nv c=none):∃f,ZoN c=some (f,false):=by
 unfold nv at h;split at h
 ·simp at h
 ·rename_i hx;exact(Zy2 hc).resolve_left hx
theorem Zyg {d:ZnE} (hd:Zwb d) {l:List Str} (h0:1≤l.length) (h1:l.length≤1000):wp (Zn5 d l) (fun r=>r.1∈l∧Zwb r.2):=by
 unfold Zn5;rw[ZnH];refine Zn6 (Zxv hd (by omega)) fun⟨q,d1⟩ ⟨hq,hd1⟩=> ?_
 dsimp only at hq hd1⊢
 rw[ZnH,ZAU];refine⟨hq.1,by omega, ?_⟩;rw[ZnF];exact⟨ZFg _,hd1⟩
theorem Zyx:([([97]:Str),([98]:Str),([99]:Str),([49]:Str),([50]:Str),([51]:Str),([49,48]:Str),([120]:Str),([45,49,46,53]:Str),([50]:Str),[100],[],([49,46,50,46,51]:Str),([49,46,53,48]:Str)]:List Str).all (fun s=>Zxr.contains s)=true:=by kernel_rfl
theorem Zx3:(((List.range 12).map fun i:Nat=>Lib.itoa ((i:Int) - 3))++(List.range 14).map fun i:Nat=>([107]:Str)++Lib.itoa (i:Int)).all (fun s=>Zxr.contains s)=true:=by kernel_rfl
theorem Zxm {s:Str} (h:Zxr.contains s=true):Zwc (ZnB.mk false s):= .inr ⟨s,List.contains_iff_mem.1 h,rfl⟩
theorem ZBV {d:ZnE} (hd:Zwb d):wp (ZqT d) (fun r=>Zwc r.1∧Zwb r.2):=by
 unfold ZqT;rw[ZnH];refine Zn6 (Zxv hd (by omega)) fun⟨q,d1⟩ ⟨hq,hd1⟩=> ?_
 dsimp only at hq hd1⊢
 rw[Zn0];refine⟨fun _=> ?_,fun _=> ?_⟩
 ·rw[ZnF];exact⟨.inl rfl,hd1⟩
 ·rw[ZnH];refine Zn6 (Zyg hd1 (by decide) (by decide)) fun⟨s,d2⟩ ⟨hs,hd2⟩=> ?_
  dsimp only at hs hd2⊢
  rw[ZnF];refine⟨Zxm (ZFa.1 Zyx s ?_),hd2⟩;simp only[ZFp,ZFs,or_false]at hs⊢
  rcases hs with h |h |h |h |h |h |h |h |h |h<;>simp[h]
theorem Zzx {n:Int} (h: -3≤n∧n≤8):Zxr.contains (Lib.itoa n)=true:=by refine ZFa.1 Zx3 _ (List.mem_append_left _ (ZFq.2 ⟨(n+3).toNat,List.mem_range.2 (by omega), ?_⟩));rw[show (((n+3).toNat:Nat):Int) - 3=n by omega]
theorem ZBM {n:Int} (h:0≤n∧n < 14):Zxr.contains (([107]:Str)++Lib.itoa n)=true:=by refine ZFa.1 Zx3 _ (List.mem_append_right _ (ZFq.2 ⟨n.toNat,List.mem_range.2 (by omega), ?_⟩));rw[show ((n.toNat:Nat):Int)=n by omega]
theorem ZzX {d:ZnE} (hd:Zwb d):wp (Zp3 d) (fun r=>Zwc r.1∧Zwb r.2):=by
 unfold Zp3;rw[ZnH];refine Zn6 (Zxv hd (by omega)) fun⟨q,d1⟩ ⟨hq,hd1⟩=> ?_
 dsimp only at hq hd1⊢
 rw[Zn0];refine⟨fun _=> ?_,fun _=> ?_⟩
 ·rw[ZnF];exact⟨.inl rfl,hd1⟩
 rw[Zn0];refine⟨fun _=> ?_,fun _=> ?_⟩
 ·rw[ZnH];refine Zn6 (Zyg hd1 (by decide) (by decide)) fun⟨s,d2⟩ ⟨hs,hd2⟩=> ?_
  dsimp only at hs hd2⊢
  rw[ZnF];refine⟨Zxm (ZFa.1 Zyx s ?_),hd2⟩;simp only[ZFp,ZFs,or_false]at hs⊢
  rcases hs with h |h |h |h<;>simp[h]
 ·rw[ZnH];refine Zn6 (Zxv hd1 (by omega)) fun⟨q,d2⟩ ⟨hq,hd2⟩=> ?_
  dsimp only at hq hd2⊢
  unfold Ztk;rw[ZnJ,ZnH,ZnF,ZnF];exact⟨ZnM (by omega),Zxm (Zzx (by omega)),hd2⟩
theorem abcd:([([97]:Str),([98]:Str),([99]:Str),([100]:Str)]:List Str).all (fun s=>Zxr.contains s)=true:=by kernel_rfl
theorem Zzy {n:Int} (h:0≤n∧n < 14):(Lib.itoa n).length≤2:=by
 have h1:((List.range 14).all fun i:Nat=>decide ((Lib.itoa (i:Int)).length≤2))=true:=by kernel_rfl
 have:=of_decide_eq_true (ZFa.1 h1 n.toNat (List.mem_range.2 (by omega)))
 rwa [show ((n.toNat:Nat):Int)=n by omega]at this
theorem ZyH {d:ZnE} (hd:Zwb d) (rows:Nat) (hr:rows≤14):
  wp (Zo8 d (rows:Int)) (fun r=>(r.1.Cells.length=rows∧∀c∈r.1.Cells,Zwc c)∧Zwb r.2):=by
 unfold Zo8;rw[ZnH];refine Zn6 (Zyg hd (by decide) (by decide)) fun⟨nm,d1⟩ ⟨_,hd1⟩=> ?_
 dsimp only at hd1⊢
 rw[ZnH];refine Zn6 (Zxv hd1 (by omega)) fun⟨kind,d2⟩ ⟨_,hd2⟩=> ?_
 dsimp only at hd2⊢
 rw[ZnH];refine Zn6 (Ztq Zvp rows (by omega) (fun i (t:ZnE×List ZnB)=>(kind,(rows:Int),i,t.1,([]:Str),nm,([]:List ZnB),t.2))
  (fun k t=>Zwb t.1∧t.2.length=k∧∀c∈t.2,Zwc c) (Q:=fun x=>Zwb x.1∧x.2.2.2.2.length=rows∧∀c∈x.2.2.2.2,Zwc c) (d2,[]) ⟨hd2,rfl,fun c hc=>absurd hc (by simp)⟩ ?_ ?_) ?_
 ·rintro rec k ⟨d,cs⟩ hk ⟨hd,hlen,hcs⟩ ih;dsimp only at hd hlen hcs ih;have next:∀(x:ZnB) (d':ZnE),Zwc x→Zwb d'→wp (Zoh (fun kind t15 i d t4 c t4_1 c_1=>rec (kind,t15,i,d,t4,c,t4_1,c_1)) kind (rows:Int) (k:Int) d' [] nm x [] cs) (fun x=>Zwb x.1∧x.2.2.2.2.length=rows∧∀c∈x.2.2.2.2,Zwc c):=by
   intro x d' hx hd';unfold Zoh;rw[ZnJ,ZnJ];refine⟨Zwn (by rw[ZFm];omega),ZnM (by omega),ih (d',cs++[x]) ⟨hd',by dsimp only;rw[ZFh,ZFm];omega,fun c hc=> ?_⟩⟩;rcases ZFo.1 hc with hc |hc
   ·exact hcs c hc
   ·obtain rfl:=ZFr.1 hc;exact hx
  unfold Zro ZpM;dsimp only;rw[decide_eq_true (show (k:Int) < (rows:Int) by omega),cond_true,ZnH];refine Zn6 (ZBV hd) fun⟨x,d3⟩ ⟨hx,hd3⟩=> ?_
  dsimp only at hx hd3⊢
  rw[Zn0];refine⟨fun _=> ?_,fun _=> ?_⟩
  ·rw[ZnH];exact Zn6 (ZzX hd3) fun⟨y,d4⟩ ⟨hy,hd4⟩=>next y d4 hy hd4
  rw[Zn0];refine⟨fun _=> ?_,fun _=> ?_⟩
  ·unfold Ztk;have:=Zzy (n:=(k:Int)) (by omega);rw[ZnH,ZnF,ZnJ];exact⟨decide_eq_true (by rw[ZFm];unfold Zq;omega),next _ d3 (Zxm (ZBM (by omega))) hd3⟩
  rw[Zn0];refine⟨fun _=> ?_,fun _=> ?_⟩
  ·rw[ZnH];exact Zn6 (Zyg hd3 (by decide) (by decide)) fun⟨s,d4⟩ ⟨hs,hd4⟩=>next _ d4 (Zxm (ZFa.1 abcd s hs)) hd4
  ·exact next x d3 hx hd3
 ·rintro rec ⟨d,cs⟩ ⟨hd,hlen,hcs⟩;unfold Zro ZpM;dsimp only at hd hlen hcs⊢
  rw[decide_eq_false (show ¬(rows:Int) < (rows:Int) by omega),cond_false,ZnF];exact⟨hd,hlen,hcs⟩
 ·rintro⟨d,_,_,_,cs⟩ ⟨h1,h2,h3⟩;unfold Zr8;dsimp only at h1 h2 h3⊢
  rw[ZnF];exact⟨⟨h2,h3⟩,h1⟩
end Go.Proofs
namespace Go.Proofs
open Go Eng
noncomputable def Zwx (p:ZnB×ZnB):Option (Str×Rat):=if p.1.Null then none else (nv p.2).map fun q=>(p.1.Text,q)
noncomputable def ZpE (K V:List ZnB):List (Str×Rat):=(K.zip V).filterMap Zwx
def Zv6 (ks:List Str) (r:Str×Rat):List Str:=if r.1∈ks then ks else ks++[r.1]
def ZwB (R:List (Str×Rat)):List Str:=R.foldl Zv6 []
def cnt (R:List (Str×Rat)) (k:Str):Nat:=R.countP fun r=>r.1 == k
def Zxg (k:Str) (s:Rat) (r:Str×Rat):Rat:=if r.1=k then s+r.2 else s
def sm (R:List (Str×Rat)) (k:Str):Rat:=R.foldl (Zxg k) 0
def En (R:List (Str×Rat)) (k:Str):ZnA:=⟨k,Zxn k,(cnt R k:Int),fOf (sm R k)⟩
theorem ZxR (R:List (Str×Rat)) (r:Str×Rat):ZwB (R++[r])=Zv6 (ZwB R) r:=by unfold ZwB;rw[List.foldl_append];rfl
theorem ZzM (R:List (Str×Rat)) (r:Str×Rat) (k:Str):sm (R++[r]) k=Zxg k (sm R k) r:=by unfold sm;rw[List.foldl_append];rfl
theorem Zzl (R:List (Str×Rat)) (r:Str×Rat) (k:Str):cnt (R++[r]) k=cnt R k+if r.1=k then 1 else 0:=by
 unfold cnt;rw[List.countP_append,List.countP_singleton]
 by_cases h:r.1=k
 ·rw[if_pos h,if_pos (by simpa using h)]
 ·rw[if_neg h,if_neg (by simpa using h)]
theorem Zyo {ks:List Str} (h:ks.Nodup) (r:Str×Rat):(Zv6 ks r).Nodup:=by
 unfold Zv6;split
 ·exact h
 ·rename_i hn;rw[List.nodup_append];refine⟨h,by simp,fun a ha b hb=> ?_⟩;obtain rfl:=ZFr.1 hb;rintro rfl;exact hn ha
theorem Zxl:∀(R:List (Str×Rat)) (ks:List Str),ks.Nodup→(R.foldl Zv6 ks).Nodup
 | [],_,h=>h
 |r::R,ks,h=>by rw[ZFb];exact Zxl R _ (Zyo h r)
theorem Zxx (R:List (Str×Rat)):(ZwB R).Nodup:=Zxl R [] List.nodup_nil
theorem Zzt {ks:List Str} {r:Str×Rat} {k:Str}:k∈Zv6 ks r↔k∈ks∨k=r.1:=by
 unfold Zv6;split;rotate_left;simp;rename_i h;constructor
 ·exact .inl
 ·rintro(h1 |rfl)
  ·exact h1
  ·exact h
theorem ZxP:∀(R:List (Str×Rat)) (ks:List Str) (k:Str),k∈R.foldl Zv6 ks↔k∈ks∨∃r∈R,k=r.1
 | [],_,k=>by simp
 |r::R,ks,k=>by rw[ZFb,ZxP R _ k,Zzt];simp only[ZFp,exists_eq_or_imp,or_assoc]
theorem Zyn {R:List (Str×Rat)} {k:Str}:k∈ZwB R↔∃r∈R,k=r.1:=by unfold ZwB;rw[ZxP];simp
theorem ZxQ:∀(R:List (Str×Rat)) (ks:List Str),(R.foldl Zv6 ks).length≤ks.length+R.length
 | [],_=>by simp
 |r::R,ks=>by
  rw[ZFb];refine ZFE (ZxQ R _) ?_;unfold Zv6;split
  ·rw[ZFi];omega
  ·rw[ZFi,ZFh,ZFm];omega
theorem Zyp (R:List (Str×Rat)):(ZwB R).length≤R.length:=by have:=ZxQ R [];unfold ZwB;simpa using this
theorem ZEl {R:List (Str×Rat)} (h:∀r∈R,Sz 4 r.2) (k:Str):∀(s:Rat) (n:Nat),Sz (5*n+1) s→Sz (5*(n+R.length)+1) (R.foldl (Zxg k) s):=by
 induction R with
 |nil=>intro s n hs;exact hs
 |cons r R ih=>
  intro s n hs;rw[ZFb,ZFi,show n+(R.length+1)=(n+1)+R.length by omega];refine ih (fun r hr=>h r (by simp[hr])) _ (n+1) ?_;unfold Zxg;split
  ·exact(hs.add (h r (by simp))).mono (by omega)
  ·exact hs.mono (by omega)
theorem ZAY {R:List (Str×Rat)} (h:∀r∈R,Sz 4 r.2) (k:Str):Sz (5*R.length+1) (sm R k):=by have:=ZEl h k 0 0 ZBw;rw[ZFU]at this;exact this
theorem Zy8 {K V:List ZnB}:∀r∈ZpE K V,Sz 4 r.2:=by
 intro r hr;obtain⟨p,_,h⟩:=List.mem_filterMap.1 hr;unfold Zwx at h;split at h
 ·simp at h
 ·obtain⟨q,hq,rfl⟩:=Option.map_eq_some_iff.1 h;exact(Zxu hq).2
theorem ZDd {R:List (Str×Rat)} {k:Str} (h:k∉ZwB R):cnt R k=0∧sm R k=0:=by
 have hn:∀r∈R,¬r.1=k:=fun r hr e=>h (Zyn.2 ⟨r,hr,e.symm⟩)
 constructor
 ·unfold cnt;rw[List.countP_eq_zero];intro r hr;simpa using hn r hr
 ·have key:∀(R:List (Str×Rat)) (s:Rat),(∀r∈R,¬r.1=k)→R.foldl (Zxg k) s=s:=by
   intro R
   induction R with
   |nil=>intro s _;rfl
   |cons r R ih=>
    intro s h;rw[ZFb,show Zxg k s r=s from if_neg (h r (by simp))];exact ih s fun x hx=>h x (by simp[hx])
  exact key R 0 hn
def mpo:Int→List Str→List (Str×Int)
 |_,[]=>[]
 |o,k::r=>(k,o)::mpo (o+1) r
theorem ZyB (k:Str) (v:Int) (m:List (Str×Int)) (s:Str):Zg3 (k:= .str) (v:=(.int .i64)) (car:=ZuU) ((k,v)::m) s=if s == k then some v else Zg3 (k:= .str) (v:=(.int .i64)) (car:=ZuU) m s:=by
 show (((k,v)::m).find? fun e=>s == e.1).map (·.2)=if s == k then some v else (m.find? fun e=>s == e.1).map (·.2)
 rw[List.find?_cons];cases s == k<;>rfl
theorem Zz3:∀(ks:List Str) (o:Int) (s:Str),s∈ks→∃j:Nat,Zg3 (k:= .str) (v:=(.int .i64)) (car:=ZuU) (mpo o ks) s=some (o+(j:Int))∧ks[j]? =some s
 | [],_,_,h=>absurd h (by simp)
 |k::r,o,s,h=>by
  unfold mpo;rw[ZyB]
  by_cases e:s=k
  ·subst e;exact⟨0,by rw[if_pos (by simp)];simp,rfl⟩
  ·obtain⟨j,h1,h2⟩:=Zz3 r (o+1) s ((ZFp.1 h).resolve_left e);refine⟨j+1, ?_,h2⟩;rw[if_neg (by simpa using e),h1];congr 1;omega
theorem Zzi:∀(ks:List Str) (o:Int) (s:Str),s∉ks→Zg3 (k:= .str) (v:=(.int .i64)) (car:=ZuU) (mpo o ks) s=none
 | [],_,_,_=>rfl
 |k::r,o,s,h=>by unfold mpo;rw[ZyB,if_neg (by intro e;exact h (by simp[eq_of_beq e]))];exact Zzi r _ s fun hs=>h (by simp[hs])
theorem Zze:∀(ks:List Str) (o:Int) (s:Str),mpo o (ks++[s])=mpo o ks++[(s,o+(ks.length:Int))]
 | [],o,s=>by simp[mpo]
 |k::r,o,s=>by rw[List.cons_append];unfold mpo;rw[Zze r,List.cons_append,ZFi];congr 3;congr 1;omega
theorem ZAl:∀(ks:List Str) (o:Int) (s:Str),s∉ks→(mpo o ks).any (fun e=>ZlP (car:=ZuU) .str s e.1)=false
 | [],_,_,_=>rfl
 |k::r,o,s,h=>by
  unfold mpo;rw[List.any_cons,ZAl r _ s fun hs=>h (by simp[hs])];have:ZlP (car:=ZuU) .str s k=false:=by show (s == k)=false;rw[beq_eq_false_iff_ne];rintro rfl;exact h (by simp)
  rw[this];rfl
theorem ZBC {ks:List Str} {s:Str} (h:s∉ks):setB (k:= .str) (v:=(.int .i64)) (car:=ZuU) (mpo 0 ks) s (ks.length:Int)=mpo 0 (ks++[s]):=by unfold setB;rw[ZAl _ _ _ h,Zze];rw[Int.zero_add];rfl
theorem ZzQ {β:Type} (f g:Str→β):∀{ks:List Str} {j:Nat} {k:Str},ks.Nodup→ks[j]? =some k→(∀x,x≠k→f x=g x)→(ks.map f).set j (g k)=ks.map g
 | [],_,_,_,h,_=>by simp at h
 |x::ks,0,k,hn,h,hf=>by
  obtain rfl:x=k:=by simpa using h
  rw[List.map_cons,List.set_cons_zero,List.map_cons];congr 1;refine List.map_congr_left fun y hy=>hf y ?_
  rintro rfl;exact(List.nodup_cons.1 hn).1 hy
 |x::ks,j+1,k,hn,h,hf=>by
  have h':ks[j]? =some k:=by simpa using h
  have hx:x≠k:=by rintro rfl;exact(List.nodup_cons.1 hn).1 (List.mem_of_getElem? h')
  rw[List.map_cons,List.set_cons_succ,List.map_cons,hf x hx,ZzQ f g (List.nodup_cons.1 hn).2 h' hf]
end Go.Proofs
namespace Go.Proofs
open Go Eng
def Zmg (R:List (Str×Rat)):List ZnA:=(ZwB R).map (En R)
theorem ZyP:(Zxr.all fun s=>decide (s.length≤100))=true:=by kernel_rfl
theorem Zyd {c:ZnB} (h:Zwc c):c.Text.length≤1000000:=by
 rcases h with rfl |⟨s,hs,rfl⟩
 ·simp
 ·have:=of_decide_eq_true (ZFa.1 ZyP s hs);dsimp only;omega
theorem Zz5 {K V:List ZnB} (hK:∀c∈K,Zwc c) (hV:∀c∈V,Zwc c) (hn:K.length≤20) (hl:K.length=V.length) (nm:Str):
  wp (Zqg big K (K.length:Int) 0 (ZnI.mk nm V) [] []) (fun x=>x=Zmg (ZpE K V)):=by
 refine ZwQ Zw9 K (by omega) (fun i (t:List (Str×Int)×List ZnA)=>(K,(K.length:Int),i,ZnI.mk nm V,t.1,t.2))
  (fun k t=>t.1=mpo 0 (ZwB (ZpE (K.take k) (V.take k)))∧t.2=Zmg (ZpE (K.take k) (V.take k))) (Q:=fun x=>x=Zmg (ZpE K V)) ([],[]) ⟨rfl,rfl⟩ ?_ ?_
 ·rintro rec k ⟨at_,out⟩ hk ⟨ha,ho⟩ ih;dsimp only at ha ho ih;subst ha ho;have hkv:k < V.length:=by omega
  have hrl:(ZpE (K.take k) (V.take k)).length≤k:=by unfold ZpE;refine ZFE (ZFj _ _) ?_;rw[List.length_zip,ZFn];omega
  have hsz:∀r∈ZpE (K.take k) (V.take k),Sz 4 r.2:=Zy8;have hstep:ZpE (K.take (k+1)) (V.take (k+1))=ZpE (K.take k) (V.take k)++(Zwx (K[k],V[k])).toList:=by unfold ZpE;rw[ZFv hk,ZFv hkv,List.zip_append (by rw[ZFn,ZFn];omega),List.filterMap_append];congr 1
  unfold ZuK Ztx;dsimp only;rw[decide_eq_true (show (k:Int) < (K.length:Int) by omega),cond_true,Zv8 hk,ZnH,ZnF,Zv8 hkv,ZnH,ZnF,ZnH];generalize hR:ZpE (K.take k) (V.take k)=R at*
  have skip:∀(v:ZnD),Zwx (K[k],V[k])=none→wp (Zq7 (fun t15 t16 i value at_ out=>rec (t15,t16,i,value,at_,out)) K (K.length:Int) (k:Int) true (ZnI.mk nm V) (mpo 0 (ZwB R)) (Zmg R) K[k] v) (fun x=>x=Zmg (ZpE K V)):=by intro v hr;unfold Zq7 Zte;rw[cond_true,ZnJ];refine⟨ZnM (by omega),ih (mpo 0 (ZwB R),Zmg R) ?_⟩;rw[hstep,hr];simp
  have take1:∀(q:Rat),Sz 4 q→Zwx (K[k],V[k])=some (K[k].Text,q)→wp (Zq7 (fun t15 t16 i value at_ out=>rec (t15,t16,i,value,at_,out)) K (K.length:Int) (k:Int) false (ZnI.mk nm V) (mpo 0 (ZwB R)) (Zmg R) K[k] (fOf q)) (fun x=>x=Zmg (ZpE K V)):=by
   intro q hq hr;have hnew:ZpE (K.take (k+1)) (V.take (k+1))=R++[(K[k].Text,q)]:=by rw[hstep,hr];rfl
   have hkl:=Zyp R;have hkl':=Zyp (R++[(K[k].Text,q)]);rw[ZFh,ZFm]at hkl';have upd:∀(j:Nat) (ks:List Str),ks=ZwB (R++[(K[k].Text,q)])→ks[j]? =some K[k].Text→
     wp (Ztf (fun t15 t16 i value at_ out=>rec (t15,t16,i,value,at_,out)) (j:Int) K (K.length:Int) (k:Int) (ZnI.mk nm V) (mpo 0 ks) (ks.map (En R)) (fOf q)) (fun x=>x=Zmg (ZpE K V)):=by
    intro j ks hks hj;have hjl:j < ks.length:=(List.getElem?_eq_some_iff.1 hj).1;have hjm:j < (ks.map (En R)).length:=by rw[ZFk];exact hjl
    have hkj:ks[j]=K[k].Text:=(List.getElem?_eq_some_iff.1 hj).2;have hg:(ks.map (En R))[j]? =some (En R K[k].Text):=by rw[List.getElem?_map,hj];rfl
    have hc:cnt R K[k].Text≤R.length:=List.countP_le_length;have hs:=ZAY hsz K[k].Text;unfold Ztf Zte;rw[ZnJ,ZE9,hg,ZnH,ZnF,ZnJ,ZnJ,ZnH,ZnF,ZnJ,List.getElem?_set_self hjm,ZnH,ZnF];dsimp only[En];rw[Zz0 hs hq (by omega),ZnH,ZnF,ZnJ,ZnH,ZnF,ZnJ];dsimp only;refine⟨ZAb hjm,ZnM (by omega),ZAb hjm,ZqU ⟨by omega,by rw[ZFl];omega⟩,ZqU ⟨by omega,by rw[ZFl];omega⟩,ZnM (by omega), ?_⟩;rw[List.set_set];refine ih (_,_) ⟨?_, ?_⟩
    ·dsimp only;rw[hnew,hks]
    ·dsimp only;rw[hnew];unfold Zmg;rw[←hks];have he:ZnA.mk K[k].Text (Zxn K[k].Text) ((cnt R K[k].Text:Int)+1) (fOf (sm R K[k].Text+q))=En (R++[(K[k].Text,q)]) K[k].Text:=by unfold En;rw[Zzl,ZzM,if_pos rfl];unfold Zxg;rw[if_pos rfl];congr 1
     rw[he];refine ZzQ (En R) (En (R++[(K[k].Text,q)])) (by rw[hks];exact Zxx _) hj fun x hx=> ?_
     unfold En;rw[Zzl,ZzM,if_neg (fun e=>hx e.symm)];unfold Zxg;rw[if_neg (fun e=>hx e.symm),Nat.add_zero]
   unfold Zq7;rw[cond_false]
   by_cases hin:K[k].Text∈ZwB R
   ·obtain⟨j,h1,h2⟩:=Zz3 (ZwB R) 0 K[k].Text hin;rw[Int.zero_add]at h1;rw[h1,show (some (j:Int)).isSome=true from rfl,ZCA,cond_false,show ((some (j:Int)).getD (0:Int))=(j:Int)from rfl];have hks:ZwB R=ZwB (R++[(K[k].Text,q)]):=by rw[ZxR];unfold Zv6;rw[if_pos hin]
    exact upd j _ hks h2
   ·rw[Zzi _ _ _ hin,show (none:Option Int).isSome=false from rfl,Bool.not_false,cond_true,ZwC (Zyd (hK _ (ZFg hk))),ZnH,ZnF,ZyN,ZnH,ZnF,ZnJ];refine⟨Zwn (by unfold Zmg;rw[ZFk,ZFm];omega), ?_⟩;have hks:ZwB R++[K[k].Text]=ZwB (R++[(K[k].Text,q)]):=by rw[ZxR];unfold Zv6;rw[if_neg hin]
    have hl1:((Zmg R).length:Int)=((ZwB R).length:Int):=by unfold Zmg;rw[ZFk]
    have ho1:Zmg R++[ZnA.mk K[k].Text (Zxn K[k].Text) 0 (fOf 0)]=(ZwB R++[K[k].Text]).map (En R):=by unfold Zmg;rw[List.map_append];congr 1;have:=ZDd hin;show [_]=[En R K[k].Text];unfold En;rw[this.1,this.2];rfl
    rw[hl1,ZBC hin,ho1];exact upd (ZwB R).length _ hks (by simp)
  rcases Zy2 (hV _ (ZFg hkv))with ⟨q,hv,hq⟩ |⟨f,hv⟩
  ·rw[hv,ZnF];dsimp only;cases hnull:K[k].Null with
   |true=>
    rw[cond_true];exact skip _ (by unfold Zwx;rw[if_pos hnull])
   |false=>
    rw[cond_false,ZCA];cases hnv:nv V[k]with
    |none=>
     obtain⟨f,hf⟩:=ZBG (hV _ (ZFg hkv)) hnv;rw[hv]at hf;simp at hf
    |some q'=>
     have:=(Zxu hnv).1;rw[hv]at this;have he:fOf q=fOf q':=(Prod.mk.inj (ZFW this)).1;rw[he];exact take1 q' (Zxu hnv).2 (by unfold Zwx;rw[if_neg (by simp[hnull])];dsimp only;rw[hnv];rfl)
  ·rw[hv,ZnF];dsimp only;have hnv:nv V[k]=none:=by
    cases hnv:nv V[k]with
    |none=>rfl
    |some q=>
     have:=(Zxu hnv).1;rw[hv]at this;simp at this
   have hrow:Zwx (K[k],V[k])=none:=by unfold Zwx;dsimp only;rw[hnv];split<;>rfl
   cases hnull:K[k].Null with
   |true=>rw[cond_true];exact skip _ hrow
   |false=>rw[cond_false,Bool.not_false];exact skip _ hrow
 ·rintro rec ⟨at_,out⟩ ⟨ha,ho⟩;dsimp only at ha ho;subst ha ho;unfold ZuK Ztx;dsimp only;rw[decide_eq_false (show ¬(K.length:Int) < (K.length:Int) by omega),cond_false,ZnF,ZFt,hl,ZFt]
theorem Zz8 (b i0:Int) {A0 C0:List ZnA} {x:ZnA} (hlen:(A0++x::C0).length≤1000):
  wp (ZnN big 0 b i0 (A0.length:Int) (A0++x::C0)) (fun y=>y=(0,b,i0,ZyM ltE x A0++C0)):=by
 refine Zxd ZrK (fun(s:List ZnA×List ZnA)=>((0:Int),b,i0,(s.1.length:Int),s.1++x::s.2)) (fun s=>ZyM ltE x s.1++s.2=ZyM ltE x A0++C0∧(s.1++x::s.2).length≤1000) (fun s=>s.1.length)
  (Q:=fun y=>y=(0,b,i0,ZyM ltE x A0++C0)) (A0,C0) ⟨rfl,hlen⟩ (by dsimp only;simp only[ZFh]at hlen;omega) ?_
 rintro rec ⟨A,C⟩ ⟨hR,hl⟩ ih;dsimp only at hR hl ih⊢
 unfold Zo5 Zoe ZnW;dsimp only;rcases List.eq_nil_or_concat A with rfl |⟨A,p,rfl⟩
 ·rw[Zn0];refine⟨fun h=>by simp at h,fun _=> ?_⟩;rw[cond_false,ZnF];rw[ZAP]at hR;rw[←hR];rfl
 ·rw[List.concat_eq_append]at*
  simp only[ZFh,ZFi,List.length_nil]at hl;have e0:(A++[p])++x::C=A++p::x::C:=by simp
  have ei:((A++[p]).length:Int)=((A.length+1:Nat):Int):=by simp
  have ej:(((A++[p]).length:Int) - 1)=(A.length:Int):=by rw[ei];omega
  have g1:(A++p::x::C)[A.length+1]? =some x:=by simp
  have g0:(A++p::x::C)[A.length]? =some p:=by simp
  rw[Zn0];refine⟨fun _=> ?_,fun h=>by simp only[decide_eq_false_iff_not,ei]at h;omega⟩;rw[ej,ei,e0];simp only[ZE9,g1,g0,ZFV];have ll:(A++p::x::C).length=A.length+2+C.length:=by simp only[ZFh,ZFi];omega
  have lx:inR ((A.length+1:Nat):Int) ((A++p::x::C).length:Int)=true:=ZqU ⟨by omega,by omega⟩;have lp:inR (A.length:Int) ((A++p::x::C).length:Int)=true:=ZqU ⟨by omega,by omega⟩;have lp':inR (A.length:Int) (((A++p::x::C).set (A.length+1) p).length:Int)=true:=by rw[ZFl];exact lp
  have ki:inK .i64 (A.length:Int)=true:=ZnM (by omega);rw[lx,lp,lp',ki];simp only[chk_true];rw[Zzc,ZnH,ZnF];rw[Zz9]at hR;have hlt:ltE x p=decide (Zxh x p < 0):=rfl;rw[Zn0];refine⟨fun hc=> ?_,fun hc=> ?_⟩
  ·rw[hlt,if_pos hc]at hR;rw[ZzP];exact ih (A,p::C) ⟨by rw[←hR];simp,by simp only[ZFh,ZFi];omega⟩ (by simp)
  ·rw[hlt,if_neg (by rw[hc];simp)]at hR;rw[ZnF,←hR];simp
theorem ZBO {D:List ZnA} (hl:D.length≤1000):
  ZnY D 0 (D.length:Int)=some (Zwq ltE D):=by
 have key:Zn3 D 0 (D.length:Int)=some (Zwq ltE D):=by
  refine Zrt ?_;unfold Zn3 Zon;rw[ZnJ,ZnH];refine⟨ZnM (by omega), ?_⟩;have out:∀(k f:Nat),k+1≤D.length→D.length - (k+1) < f→wp (ZnP f 0 (D.length:Int) ((k+1:Nat):Int) (Zwq ltE (D.take (k+1))++D.drop (k+1))) (fun y=>y=Zwq ltE D):=by
   intro k f
   induction f generalizing k with
   |zero=>intro _ h;omega
   |succ f ih=>
    intro hk hf;show wp (Zof _ _ _ _ _) _;unfold Zof Zoo;rw[Zn0];refine⟨fun hc=> ?_,fun hc=> ?_⟩
    ·simp only[decide_eq_true_eq]at hc;have hk2:k+1 < D.length:=by omega
     have hlen:(Zwq ltE (D.take (k+1))).length=k+1:=by rw[Zv7,ZFn];omega
     have e:D.drop (k+1)=D[k+1]::D.drop (k+2):=List.drop_eq_getElem_cons hk2;rw[e];have:=Zz8 (D.length:Int) ((k+1:Nat):Int) (A0:=Zwq ltE (D.take (k+1))) (C0:=D.drop (k+2)) (x:=D[k+1]) (by simp only[ZFh,ZFi,hlen,List.length_drop];omega);rw[hlen]at this;rw[ZnH];refine Zn6 this ?_;rintro y rfl;dsimp only;rw[ZnJ];refine⟨ZnM (by omega), ?_⟩;have e2:ZyM ltE D[k+1] (Zwq ltE (D.take (k+1)))=Zwq ltE (D.take (k+2)):=by rw[ZFv hk2,Zzz]
     rw[e2];have:=ih (k+1) (by omega) (by omega);rw[show ((k+1:Nat):Int)+1=((k+1+1:Nat):Int) by omega];exact this
    ·simp only[decide_eq_false_iff_not]at hc;have:k+1=D.length:=by omega
     rw[ZnF,this,ZFt,List.drop_of_length_le (ZFD _),List.append_nil]
  by_cases h0:D.length=0
  ·have:D=[]:=List.eq_nil_of_length_eq_zero h0;subst this;exact⟨[],rfl,ZnF.2 rfl⟩
  ·have:=out 0 big (by omega) (by rw[big_eq];omega);have e:Zwq ltE (D.take (0+1))++D.drop (0+1)=D:=by
    cases D with
    |nil=>simp at h0
    |cons x D=>rfl
   rw[e]at this;refine Zn6 this ?_;rintro y rfl;rw[ZnF]
 unfold ZnY;rw[key,ZFV,Zv7,decide_eq_true rfl];rfl
theorem Zz4:((List.range 13).all fun n:Nat=>(ZuN (IntKind.wrap .u64 (n:Int))).isSome)=true:=by kernel_rfl
theorem ZAC {D:List ZnA} (hl:D.length≤12):ZnV D=some (Zwq ltE D):=by
 have h1:Zoc D 0 (D.length:Int)=fun _=>some (Zwq ltE D):=by funext lim;obtain⟨k,hk⟩:=ZyX 1 (by omega);unfold Zoc Zo2;rw[hk];show ((ZoA _ _ _ _ _ _ _).bind _).bind _=_;unfold ZoA;rw[ZnM (by omega),chk_true,decide_eq_true (show (D.length:Int) - 0≤12 by omega),cond_true,ZBO (by omega),ZFV,ZFV];dsimp only;rw[ZFV,Zv7,decide_eq_true rfl];rfl
 have h2:=ZFa.1 Zz4 D.length (List.mem_range.2 (by omega));obtain⟨n,hn⟩:=Option.isSome_iff_exists.1 h2;unfold ZnV Zoi;rw[hn,ZFV,h1,ZFV,ZFV,Zv7,decide_eq_true rfl];rfl
noncomputable def Zrb (K V:List ZnB):List ZnA:=Zwq ltE (Zmg (ZpE K V))
theorem Zzb {K V:List ZnB}:(Zmg (ZpE K V)).length≤K.length:=by unfold Zmg;rw[ZFk];refine ZFE (Zyp _) (ZFE (ZFj _ _) ?_);rw[List.length_zip];omega
theorem ZBL {key value:ZnI} (hK:∀c∈key.Cells,Zwc c) (hV:∀c∈value.Cells,Zwc c) (hn:key.Cells.length≤12) (hl:key.Cells.length=value.Cells.length):
  ZuL key value=some (Zrb key.Cells value.Cells):=by
 refine Zrt ?_;unfold ZuL;rw[ZnH];refine Zn6 (Zz5 hK hV (by omega) hl value.Name) ?_;rintro _ rfl;unfold Zvq;rw[ZAC (ZFE Zzb hn),ZnH,ZnF,ZnF];rfl
theorem Zz6 {K V:List ZnB}:(Zrb K V).length≤K.length:=by unfold Zrb;rw[Zv7];exact Zzb
noncomputable def mkS (K V:List ZnB) (m:Nat):ZnG:=⟨(m:Int),decide ((Zrb K V).length≤m),(Zrb K V).take m⟩
theorem Zz2 {key value:ZnI} (hK:∀c∈key.Cells,Zwc c) (hV:∀c∈value.Cells,Zwc c) (hn:key.Cells.length≤12) (hl:key.Cells.length=value.Cells.length) {m:Nat} (h1:1≤m) (h2:m≤256):
  Zt2 key value (m:Int)=some (mkS key.Cells value.Cells m,0):=by
 unfold Zt2 Zuz Zuy;rw[decide_eq_false (show ¬(m:Int) < 1 by omega),cond_false,decide_eq_false (show ¬(m:Int) > 256 by omega),cond_false,hl,show ((value.Cells.length:Int) != (value.Cells.length:Int))=false by simp,cond_false,decide_eq_false (show ¬(value.Cells.length:Int) > 4096 by omega),cond_false,
  ZBL hK hV hn hl,ZFV]
 have e:(((Zrb key.Cells value.Cells).drop 0).take (((if ((Zrb key.Cells value.Cells).length:Int) < (m:Int)then ((Zrb key.Cells value.Cells).length:Int)else (m:Int))).toNat - 0))=(Zrb key.Cells value.Cells).take m:=by
  rw[List.drop_zero,Nat.sub_zero];split
  ·rename_i h;rw[ZE9,ZFt,ZFu (by omega)]
  ·rw[ZE9]
 rw[e,Zu4 (by split<;>omega),chk_true];unfold mkS;congr 3
 by_cases h:(Zrb key.Cells value.Cells).length≤m
 ·rw[decide_eq_true h,decide_eq_true (by omega)]
 ·rw[decide_eq_false h,decide_eq_false (by omega)]
end Go.Proofs
namespace Go.Proofs
open Go Eng
theorem Zx6 {a b c:ZnA} (h:a.Key=b.Key) (ha:Zw4 a) (hb:Zw4 b):Zxh a c=Zxh b c:=by
 have e:a.Hash=b.Hash:=by rw[ha,hb,h]
 unfold Zxh;rw[e,h]
theorem ZyC {a b c:ZnA} (ha:Zw4 a) (hb:Zw4 b) (h1:Zxh a b≤0) (h2:Zxh b c≤0):Zxh a c≤0:=by
 by_cases e:Zxh a b=0
 ·rw[Zx6 (ZxN e) ha hb];exact h2
 ·have h1':Zxh a b < 0:=by omega
  by_cases e2:Zxh b c=0
  ·by_cases hc:Zw4 c
   ·have:=Zx6 (a:=c) (b:=b) (c:=a) (ZxN e2).symm hc hb;have n1:=Zyk a c;have n2:=Zyk a b;omega
   ·exfalso;unfold Zxh at e2;split at e2
    ·simp at e2
    ·split at e2
     ·simp at e2
     ·have hk:=ZyW e2;apply hc;unfold Zw4 at hb⊢
      rw[←hk,←hb];omega
  ·have:=Zzs h1' (show Zxh b c < 0 by omega);omega
def Lt (a b:ZnA):Prop:=Zxh a b < 0
theorem ZzA {l:List ZnA} (h:∀e∈l,Zw4 e):(Zwq ltE l).Pairwise fun a b=>Zxh a b≤0:=by
 refine ZyE Zw4 (fun a b=>Zxh a b≤0) (fun x p _ _ h=> ?_) (fun x p _ _ h=> ?_) (fun a b c ha hb _ h1 h2=>ZyC ha hb h1 h2) l h
 ·have:=of_decide_eq_true h;omega
 ·have:=of_decide_eq_false h;have:=Zyk x p;omega
theorem ZzU {R:List (Str×Rat)}:∀e∈Zmg R,Zw4 e:=by intro e he;obtain⟨k,_,rfl⟩:=ZFq.1 he;rfl
theorem ZxS {K V:List ZnB} {e:ZnA}:e∈Zrb K V↔∃k∈ZwB (ZpE K V),En (ZpE K V) k=e:=by unfold Zrb;rw[(ZwV _).mem_iff];unfold Zmg;rw[ZFq]
theorem ZAM (K V:List ZnB):(Zrb K V).Pairwise Lt:=by
 have h1:=ZzA (l:=Zmg (ZpE K V)) ZzU;have h2:((Zrb K V).map (·.Key)).Nodup:=by have hp:((Zrb K V).map (·.Key)).Perm ((Zmg (ZpE K V)).map (·.Key)):=(ZwV _).map _;rw[hp.nodup_iff];unfold Zmg;rw[List.map_map];have:((fun e:ZnA=>e.Key)∘En (ZpE K V))=id:=rfl;rw[this,List.map_id];exact Zxx _
 rw[List.Nodup,List.pairwise_map]at h2;refine(h1.and h2).imp ?_;rintro a b ⟨h3,h4⟩;unfold Lt;rcases Int.lt_or_eq_of_le h3 with h |h
 ·exact h
 ·exact absurd (ZxN h) h4
def ZCn (e:ZnA):Prop:=Zw4 e∧(1≤e.Count∧e.Count≤20)∧e.Key.length≤1000000∧∃q,e.Sum=fOf q∧Sz 110 q
theorem Zx9 {K V:List ZnB} (hK:∀c∈K,Zwc c) (hn:K.length≤20):∀e∈Zrb K V,ZCn e:=by
 intro e he;obtain⟨k,hk,rfl⟩:=ZxS.1 he;have hR:(ZpE K V).length≤20:=by refine ZFE (ZFj _ _) ?_;rw[List.length_zip];omega
 obtain⟨r,hr,e1⟩:=Zyn.1 hk;have hc:cnt (ZpE K V) k≤(ZpE K V).length:=List.countP_le_length;have hp:0 < cnt (ZpE K V) k:=List.countP_pos_iff.2 ⟨r,hr,by simp[e1]⟩;refine⟨rfl,⟨?_, ?_⟩, ?_,⟨_,rfl,(ZAY Zy8 k).mono (by omega)⟩⟩
 ·show (1:Int)≤(cnt (ZpE K V) k:Int);omega
 ·show (cnt (ZpE K V) k:Int)≤20;omega
 ·obtain⟨p,hp2,hp3⟩:=List.mem_filterMap.1 hr;unfold Zwx at hp3;split at hp3
  ·simp at hp3
  ·obtain⟨q,_,rfl⟩:=Option.map_eq_some_iff.1 hp3;show k.length≤1000000;rw[e1];exact Zyd (hK _ (List.of_mem_zip hp2).1)
theorem ZEt {l:List ZnA} (h:l.Pairwise Lt) {i j:Nat} (hij:i < j) (hj:j < l.length):Zxh l[i] l[j] < 0:=List.pairwise_iff_getElem.1 h i j (by omega) hj hij
end Go.Proofs
namespace Go.Proofs
open Go Eng
theorem ZzI {s:ZnG} (h:s.Entries.Pairwise Lt) (hg:∀e∈s.Entries,ZCn e) (hn:s.Entries.length≤100):
  wp (Zru big s.Entries (s.Entries.length:Int) 0 s) (fun x=>x= .brk ()):=by
 refine ZwQ ZwW s.Entries (by omega) (fun i (_:Unit)=>(s.Entries,(s.Entries.length:Int),i,s)) (fun _ _=>True) (Q:=fun x=>x= .brk ()) () trivial ?_ ?_
 ·rintro rec k _ hk _ ih;obtain⟨h1,⟨h2,_⟩,h3,q,hq,hs⟩:=hg _ (ZFg hk);unfold ZuD Zs4 ZqA;dsimp only;rw[decide_eq_true (show (k:Int) < (s.Entries.length:Int) by omega),cond_true,Zv8 hk,ZnH,ZnF,ZwC h3,ZnH,ZnF,←h1,show (s.Entries[k].Hash != s.Entries[k].Hash)=false by simp,cond_false,decide_eq_false (show ¬s.Entries[k].Count < 1 by omega),cond_false,hq,Zyh q (hs.wq (by omega)),ZnH,ZnF,ZCA,cond_false,Zn0];refine⟨fun h0=> ?_,fun _=> ?_⟩
  ·have h0':0 < k:=by have:=of_decide_eq_true h0;omega
   have hl:=ZEt h (show k - 1 < k by omega) hk;rw[ZnJ,show (k:Int) - 1=((k - 1:Nat):Int) by omega,Zv8 (show k - 1 < s.Entries.length by omega),ZnH,ZnF,Zzc,ZnH,ZnF,decide_eq_false (show ¬Zxh s.Entries[k - 1] s.Entries[k]≥0 by omega),cond_false,ZnJ];exact⟨ZnM (by omega),ZnM (by omega),ih () trivial⟩
  ·rw[cond_false,ZnJ];exact⟨ZnM (by omega),ih () trivial⟩
 ·rintro rec _ _;unfold ZuD Zs4;dsimp only;rw[decide_eq_false (show ¬(s.Entries.length:Int) < (s.Entries.length:Int) by omega),cond_false,ZnF]
theorem ZBT {p q:Rat} (hp:Sz 110 p) (hq:Sz 110 q) (h:fOf p=fOf q):p=q:=by have h1:=ZxM p q (hp.wq (by omega)) (hq.wq (by omega));have h2:=ZxM p p (hp.wq (by omega)) (hp.wq (by omega));rw[h]at h1 h2;rw[h1]at h2;have:=ZFW h2;rw[decide_eq_true rfl]at this;exact of_decide_eq_true this
theorem ZA1 {c:ZnB} {q:Rat} (h:ZoN c=some (fOf q,true)) (hq:Sz 4 q):nv c=some q:=by have hx:∃q,ZoN c=some (fOf q,true)∧Sz 4 q:=⟨q,h,hq⟩;unfold nv;rw[dif_pos hx];have h2:=hx.choose_spec.2;have he:=(Prod.mk.inj (ZFW (h.symm.trans hx.choose_spec.1))).1;rw[ZBT (hq.mono (by omega)) (h2.mono (by omega)) he]
theorem ZzY {s:Str} {z:Int} (h:(s,z)∈ZzZ):nv (ZnB.mk false s)=some (z:Rat):=by
 have h1:=of_decide_eq_true (ZFa.1 ZyT _ h);have h2:=ZFa.1 ZAf _ h;simp only[Bool.and_eq_true,decide_eq_true_eq]at h2;rw[h2.1]at h1;have:=ZA1 h1 (Zwt (by decide) h2.2 (by decide))
 rwa [Zxz]at this
def ZxC:List ZnB:=[(ZnB.mk false ([97]:Str)),(ZnB.mk false ([97]:Str)),(ZnB.mk false ([98]:Str))]
def Zxq:List ZnB:=[(ZnB.mk false ([49]:Str)),(ZnB.mk false ([50]:Str)),(ZnB.mk false ([53]:Str))]
theorem ZCw:ZpE ZxC Zxq=[([97],((1:Int):Rat)),([97],((2:Int):Rat)),([98],((5:Int):Rat))]:=by have n1:=ZzY (s:=[49]) (z:=1) (by simp[ZzZ]);have n2:=ZzY (s:=[50]) (z:=2) (by simp[ZzZ]);have n5:=ZzY (s:=[53]) (z:=5) (by simp[ZzZ]);unfold ZpE ZxC Zxq;simp[Zwx,n1,n2,n5]
theorem Zzj {s:Str} (h:s∈Zxr):Zwc (ZnB.mk false s):= .inr ⟨s,h,rfl⟩
theorem Zz7:∀c∈ZxC,Zwc c:=by intro c hc;simp only[ZxC,ZFp,ZFs,or_false]at hc;rcases hc with rfl |rfl |rfl<;>exact Zzj (by simp[Zxr,noT])
theorem ZBu:∀c∈Zxq,Zwc c:=by intro c hc;simp only[Zxq,ZFp,ZFs,or_false]at hc;rcases hc with rfl |rfl |rfl<;>exact Zzj (by simp[Zxr,ZzZ])
theorem ksA:ZwB (ZpE ZxC Zxq)=[[97],[98]]:=by rw[ZCw];simp[ZwB,Zv6]
theorem lenA:(Zrb ZxC Zxq).length=2:=by unfold Zrb;rw[Zv7];unfold Zmg;rw[ZFk,ksA];rfl
theorem EnA:En (ZpE ZxC Zxq) [97]=⟨[97],Zxn [97],2,fOf ((3:Int):Rat)⟩:=by
 unfold En;rw[ZCw];have h1:cnt [([97],((1:Int):Rat)),([97],((2:Int):Rat)),([98],((5:Int):Rat))] [97]=2:=by simp[cnt]
 have h2:sm [([97],((1:Int):Rat)),([97],((2:Int):Rat)),([98],((5:Int):Rat))] [97]=((3:Int):Rat):=by simp only[sm,Zxg,ZFb,List.foldl_nil];rw[if_neg (by decide),if_pos trivial,if_pos trivial,Rat.zero_add,←Rat.intCast_add];rfl
 rw[h1,h2];rfl
theorem ZyZ:Zox=some true:=by
 have hlen:=lenA;have hg:=Zx9 (V:=Zxq) Zz7 (by decide);have ht:(Zrb ZxC Zxq).take 10=Zrb ZxC Zxq:=ZFu (by omega);have hm:=Zz2 (key:=ZnI.mk [] ZxC) (value:=ZnI.mk [] Zxq) Zz7 ZBu (by decide) (by decide) (m:=10) (by decide) (by decide);have hS:mkS ZxC Zxq 10=⟨10,true,Zrb ZxC Zxq⟩:=by unfold mkS;rw[ht,decide_eq_true (show (Zrb ZxC Zxq).length≤10 by omega)];rfl
 dsimp only at hm;rw[hS,show ((10:Nat):Int)=10 from rfl]at hm;unfold ZxC Zxq at hm;refine Zrt ?_;unfold Zox;rw[hm,ZnH,ZnF];dsimp only;rw[show ((0:Int) != 0)=false from rfl,cond_false,ZCA,cond_false];show wp (bif ((Zrb ZxC Zxq).length:Int) != 2 then _ else _) _;rw[hlen,show (((2:Nat):Int) != 2)=false from rfl,cond_false,ZnH];show wp (Ztm ⟨10,true,Zrb ZxC Zxq⟩) _;have hv:wp (Ztm ⟨10,true,Zrb ZxC Zxq⟩) (fun x=>x=true):=by unfold Ztm ZqB;dsimp only;rw[hlen,show decide ((10:Int) < 1)=false from rfl,cond_false,show decide ((10:Int) > 256)=false from rfl,cond_false,show decide (((2:Nat):Int) > 10)=false from rfl,cond_false,ZCA,cond_false,cond_false,ZnH];have:=ZzI (s:=⟨10,true,Zrb ZxC Zxq⟩) (ZAM _ _) hg (by dsimp only;omega);dsimp only at this;rw[hlen]at this;refine Zn6 this ?_;rintro _ rfl;unfold ZuZ;rw[ZnF]
 refine Zn6 hv ?_;rintro _ rfl;unfold Zow;rw[ZCA,cond_false,ZnH];show wp (Zov big (Zrb ZxC Zxq) ((Zrb ZxC Zxq).length:Int) 0) _;refine Zn6 (ZwQ Zu9 (Zrb ZxC Zxq) (by omega) (fun i (_:Unit)=>(Zrb ZxC Zxq,((Zrb ZxC Zxq).length:Int),i)) (fun _ _=>True) (Q:=fun x=>x= .brk ()) () trivial ?_ ?_) ?_
 ·rintro rec k _ hk _ ih;unfold Zq6 Zpw Zo1;dsimp only;obtain⟨k',_,he⟩:=ZxS.1 (ZFg hk);rw[decide_eq_true (show (k:Int) < ((Zrb ZxC Zxq).length:Int) by omega),cond_true,Zv8 hk,ZnH,ZnF,Zn0];refine⟨fun hc=> ?_,fun _=> ?_⟩
  ·have hk':k'=[97]:=by rw[←he]at hc;exact eq_of_beq hc
   rw[hk',EnA]at he;rw[←he];dsimp only;have hz:Sz 5 ((3:Int):Rat):=by rw[←Zxz];exact ZxK (k:=5) (by decide) (by decide) (by decide)
   rw[show ((2:Int) != 2)=false from rfl,cond_false,ZAO 3 (by decide) (by decide),ZnH,ZnF,ZxM _ _ (hz.wq (by omega)) (hz.wq (by omega)),ZnH,ZnF,decide_eq_true rfl,ZCA,cond_false,ZnJ];exact⟨ZnM (by omega),ih () trivial⟩
  ·rw[cond_false,ZnJ];exact⟨ZnM (by omega),ih () trivial⟩
 ·rintro rec _ _;unfold Zq6 Zpw;dsimp only;rw[decide_eq_false (show ¬((Zrb ZxC Zxq).length:Int) < ((Zrb ZxC Zxq).length:Int) by omega),cond_false,ZnF]
 ·rintro _ rfl;unfold ZrG;dsimp only;rw[ZwC (by decide),ZnH,ZnF,ZnF];rfl
end Go.Proofs
namespace Go.Proofs
open Go Eng
theorem ZAE:(([48]::(ZzZ.map (·.1)++ZzB.map (·.1))).all fun s=>match ZoH (ZnB.mk false s)with |some (_,true)=>true |_=>false)=true:=by kernel_rfl
theorem ZBD:(noT.all fun s=>match ZoH (ZnB.mk false s)with |some (_,false)=>true |_=>false)=true:=by kernel_rfl
end Go.Proofs
