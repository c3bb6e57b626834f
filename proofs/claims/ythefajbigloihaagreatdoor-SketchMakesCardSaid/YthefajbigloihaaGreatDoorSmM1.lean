/- Plain laws over the specs, part 1. -/
import Derived.Test.YthefajbigloihaaGreatDoorSmM0
set_option linter.unusedVariables false
set_option linter.unusedSimpArgs false
set_option linter.unusedSectionVars false
open Bool renaming not_true→ZLP, and_eq_true→ZIO, true_and→ZLQ, false_and→ZLN, not_false→ZLO
open Int renaming toNat_natCast→ZLU, natAbs_natCast→ZLS, natAbs_mul→ZLR, natCast_add→ZLT
open List renaming length_cons→ZL6, all_eq_true→ZLW, getD_eq_getElem?_getD→ZL0, length_nil→ZL8, take_length→ZMe, getElem?_eq_getElem→ZL1, length_take→ZMa, mem_cons→ZMb, takeWhile_append_dropWhile→ZMd, length_map→ZL7, length_singleton→ZL9, getElem?_eq_none→ZL2, take_of_length_le→ZMf, take_succ_eq_append_getElem→ZMg, pairwise_cons→ZMc, all_cons→ZLV, cons.injEq→ZLX, dropWhile_cons→ZLY, length_append→ZL5, getElem_mem→ZL4, getElem_cons_drop→ZL3, drop_eq_getElem_cons→ZLZ
open Nat renaming le_trans→ZMp, pow_succ→ZMD, gcd→ZMm, mul_add→ZMv, mul_assoc→ZMw, mod_lt→ZMu, pow_zero→ZME, le_refl→ZMo, mul_comm→ZMx, lt_of_le_of_lt→ZMq, pow_le_pow_right→ZMC, div_le_self→ZMl, one_mul→ZMz, pow_add→ZMB, le_of_lt→ZMn, two_pow_pos→ZMG, lt_or_ge→ZMs, mul_left_comm→ZMy, zero_add→ZMH, pos_of_ne_zero→ZMA, lt_of_lt_of_le→ZMr, min_eq_left→ZMt, div_add_mod→ZMj, add_mul_div_left→ZMh, div_eq_of_lt→ZMk, add_mul_mod_self_left→ZMi, two_pow_add_eq_or_of_lt→ZMF
open Option renaming bind_some→ZMI
namespace Go.Proofs
open Go Eng
def Sz (k:Nat) (q:Rat):Prop:=q.num.natAbs < 2 ^ k∧q.den < 2 ^ k
theorem Sz.mono {k l:Nat} {q:Rat} (h:Sz k q) (hl:k≤l):Sz l q:=⟨ZMr h.1 (ZMC (by decide) hl),ZMr h.2 (ZMC (by decide) hl)⟩
theorem ZB1 {n k:Nat} (h:n < 2 ^ k) (m:Nat) (hk:k≤32*m):(wd n).length≤m:=by refine Zy6 (ZMr h ?_);rw[show Bw=2 ^ 32 from rfl,←Nat.pow_mul];exact ZMC (by decide) hk
theorem Sz.wq {k:Nat} {q:Rat} (h:Sz k q) (hk:k≤8192):Wq 256 q:=⟨ZB1 h.1 256 (by omega),ZB1 (n:=(q.den:Int).natAbs) (by rw[ZLS];exact h.2) 256 (by omega)⟩
theorem ZB5 {x y:Int} {k:Nat} (hy:y≠0) (h1:x.natAbs < 2 ^ k) (h2:y.natAbs < 2 ^ k):Sz k (Rat.divInt x y):=by
 unfold Sz;rw[Rat.num_divInt,Rat.den_divInt,if_neg hy];refine⟨ZMq ?_ h1,ZMq (ZMl _ _) h2⟩;have hd:((Int.gcd y x:Nat):Int)∣y.sign*x:=Int.dvd_trans (Int.gcd_dvd_right y x) (Int.dvd_mul_left _ _);rw[Int.natAbs_ediv_of_dvd hd,ZLR];refine ZMp (ZMl _ _) ?_;have:y.sign.natAbs=1:=by rw[Int.natAbs_sign_of_ne_zero hy]
 rw[this,ZMz];exact ZMo _
theorem ZBG {x y k l:Nat} (hx:x < 2 ^ k) (hy:y < 2 ^ l):x*y < 2 ^ (k+l):=by rw[ZMB];exact Nat.mul_lt_mul_of_lt_of_le hx (ZMn hy) (ZMG _)
theorem ZBd (a b:Rat):Rat.divInt (a.num*(b.den:Int)+b.num*(a.den:Int)) ((a.den:Int)*(b.den:Int))=a+b:=by have h1:=a.den_nz;have h2:=b.den_nz;rw[←Rat.divInt_add_divInt _ _ (by omega) (by omega),Rat.num_divInt_den,Rat.num_divInt_den]
theorem Sz.add {a b:Rat} {k l:Nat} (ha:Sz k a) (hb:Sz l b):Sz (k+l+1) (a+b):=by
 rw[←ZBd];have h1:=a.den_nz;have h2:=b.den_nz;have q1:=ZBG ha.1 hb.2;have q2:=ZBG ha.2 hb.1;have q3:=ZBG ha.2 hb.2;have hp:=ZMG (k+l);refine ZB5 (Int.mul_ne_zero (by omega) (by omega)) ?_ ?_
 ·rw[ZMD];refine ZMq (Int.natAbs_add_le _ _) ?_;rw[ZLR,ZLR,ZLS,ZLS,ZMx b.num.natAbs];omega
 ·rw[ZMD,ZLR,ZLS,ZLS];omega
theorem ZII {q:Rat} (h:Wq 256 q):decide ((if ((fOf q).Den.Words.length:Int) > ((fOf q).Num.Words.length:Int)then ((fOf q).Den.Words.length:Int)else ((fOf q).Num.Words.length:Int)) > 256)=false:=by have h1:=h.1;have h2:=h.2;unfold Wl at h1 h2;refine decide_eq_false ?_;unfold fOf;rw[ZqR,ZqR,Zol,Zol];split<;>omega
theorem ZBy {y:Int} (hy:y≠0):(((bg y).Words.length:Int) == 0)=false:=by have:=Zws (n:=y.natAbs) (by omega);rw[ZqR,Zol];exact beq_eq_false_iff_ne.2 (by omega)
theorem ZJs {a b:Rat} {k l:Nat} (ha:Sz k a) (hb:Sz l b) (hk:k+l+1≤8192):Zyw (fOf a) (fOf b)=some (fOf (a+b),0):=by
 have h1:=a.den_nz;have h2:=b.den_nz;have qa:=ha.wq (by omega);have qb:=hb.wq (by omega);have w:∀{x y:Int},Wl 256 x→Wl 256 y→Wl 512 (x*y):=fun hx hy=>by unfold Wl;rw[ZLR];exact ZDQ hx hy
 have m:∀{n:Nat} {x:Int},Wl n x→n≤50000→Wl 50000 x:=fun h h'=>ZMp h h'
 have w1:=w qa.1 qb.2;have w2:=w qb.1 qa.2;have w3:=w qa.2 qb.2;have w4:Wl 513 (a.num*(b.den:Int)+b.num*(a.den:Int)):=ZMp (Zux (Int.natAbs_add_le _ _)) (ZC8 w1 w2);have hd:(a.den:Int)*(b.den:Int)≠0:=Int.mul_ne_zero (by omega) (by omega);unfold Zyw Zth;rw[ZCK a qa,ZMI,ZLP,cond_false,ZCK b qb,ZMI,ZLP];unfold ZrG ZyM;rw[cond_false];show ((((Zp7 (bg a.num) (bg (b.den:Int))).bind fun q=>(Zp7 (bg b.num) (bg (a.den:Int))).bind fun q_1=>(Zxe q q_1).bind fun num=>(Zp7 (bg (a.den:Int)) (bg (b.den:Int))).bind fun den=>some (num,den)).bind _).bind _)=_;rw[ZBA _ _ (m qa.1 (by omega)) (m qb.2 (by omega)),ZMI,ZBA _ _ (m qb.1 (by omega)) (m qa.2 (by omega)),ZMI,ZIG _ _ (m w1 (by omega)) (m w2 (by omega)),ZMI,ZBA _ _ (m qa.2 (by omega)) (m qb.2 (by omega)),ZMI,ZMI];dsimp only;rw[ZBy hd,cond_false,ZBa _ _ hd (m w4 (by omega)) (m w3 (by omega)),ZMI,ZBd,ZII ((ha.add hb).wq hk),cond_false,ZMI]
end Go.Proofs
namespace Go.Proofs
open Go Eng
theorem Sz.neg {q:Rat} {k:Nat} (h:Sz k q):Sz k (-q):=by show (-q.num).natAbs < 2 ^ k∧q.den < 2 ^ k;rw[Int.natAbs_neg];exact h
theorem ZEY {a b:Rat} {k l:Nat} (ha:Sz k a) (hb:Sz l b) (hk:k+l+1≤8192):ZAU (fOf a) (fOf b)=some (fOf (a+b)):=by unfold ZAU ZAE;rw[ZJs ha hb hk];rfl
theorem ZHy (x y:Int) (hy:y≠0) (hx1:Wl 256 x) (hy1:Wl 256 y):ZxW (bg x) (bg y)=some (fOf (Rat.divInt x y),0):=by
 have hb:=ZFm [x,y] (by simp) (fun z hz=>by
  simp only[ZMb,List.not_mem_nil,or_false]at hz;rcases hz with rfl |rfl
  ·exact hx1
  ·exact hy1)
 unfold ZxW;rw[show ([bg x,bg y]:List ZnD)=[x,y].map bg from rfl,hb,ZMI,ZLP,cond_false,ZBy hy,cond_false,ZBa _ _ hy (ZMp hx1 (by decide)) (ZMp hy1 (by decide)),ZMI]
theorem ZKs {z:Int} (h1: -9223372036854775808≤z) (h2:z≤9223372036854775807):Wl 256 z:=ZMp (ZHz (by omega)) (by decide)
theorem ZKW (x y:Int) (hy:y≠0) (h1: -9223372036854775808≤x) (h2:x≤9223372036854775807) (h3: -9223372036854775808≤y) (h4:y≤9223372036854775807):ZyN x y=some (fOf (Rat.divInt x y),0):=by unfold ZyN;rw[ZCD x h1 h2,ZMI,ZCD y h3 h4,ZMI,ZHy x y hy (ZKs h1 h2) (ZKs h3 h4),ZMI]
theorem ZED:ZzT=some (fOf 0):=by unfold ZzT;rw[ZKW 0 1 (by decide) (by decide) (by decide) (by decide) (by decide),ZMI,Rat.zero_divInt]
theorem ZG8:Sz 1 0:=by unfold Sz;decide
end Go.Proofs
namespace Go.Proofs
open Go Eng
theorem ZDU:∀n w,Zpw n w=Zqm n w
 |0,_=>rfl
 |n+1,w=>by have:Zpw n=Zqm n:=funext (ZDU n);show Zxu (Zpw n) w=ZuM (Zqm n) w;rw[this];rfl
theorem ZEi (w:List Int):Zor w=ZoD w:=by unfold Zor ZoD;rw[ZDU];rfl
theorem ZA9 {l:List Nat} (h:Dg l) (hl:l.length≤1000000):Zor (iL l)=some (iL (wd (val l))):=by rw[ZEi,ZAC h hl]
theorem ZA8 (neg:Bool) {l:List Nat} (h:Dg l) (hl:l.length≤1000000):Zod neg (iL l)=some (bg (if neg then -(val l:Int)else val l)):=by
 unfold Zod Zt3;rw[ZA9 h hl,ZMI,Zol];unfold bg;cases neg with
 |true=>
  rw[cond_true,if_pos rfl,Int.natAbs_neg,ZLS];congr 2
  by_cases h0:val l=0
  ·rw[h0,Zxg];rfl
  ·have:=Zws h0;rw[decide_eq_true (by omega),decide_eq_true (by omega)]
 |false=>rw[cond_false,if_neg (by decide),ZLS,decide_eq_false (by omega)]
theorem Zy5 (a:ZnD):Zpl a=ZtS a:=rfl
end Go.Proofs
namespace Go.Proofs
open Go Eng
theorem ZCn (a b:Nat) (ha:(wd a).length≤100000) (hb:(wd b).length≤100000):ZoX (iL (wd a)) (iL (wd b))=some (ZCA a b):=by
 refine Zqz ?_;unfold ZoX;rw[Zol,Zol,Zog];refine⟨fun h=> ?_,fun h=> ?_⟩
 ·have hne:(wd a).length≠(wd b).length:=fun e=>by rw[e]at h;simp at h
  rw[Zog];refine⟨fun h=> ?_,fun h=> ?_⟩
  ·have h1:(wd a).length < (wd b).length:=by have:=of_decide_eq_true h;omega
   rw[ZnB,Zy3 (ZCB h1)]
  ·have h1:(wd b).length < (wd a).length:=by have:=of_decide_eq_false h;omega
   rw[ZnB,ZyQ (ZCB h1)]
 ·have hl:(wd a).length=(wd b).length:=by simp only[bne_eq_false_iff_eq]at h;omega
  rw[ZnF,ZnC];refine⟨ZnJ (by omega), ?_⟩;refine ZnK (ZBx ZzN (wd a).length (by omega) (fun i (s:Unit)=>(iL (wd a),iL (wd b),i)) (fun k _=>(wd a).drop k=(wd b).drop k)
   (Q:=fun r=>r= .ret (ZCA a b)∨r= .brk ()∧a=b) () (by rw[List.drop_length,hl,List.drop_length]) ?_ ?_) ?_
  ·rintro rec k ⟨⟩ hk hP ih;have hk2:k < (wd b).length:=by omega
   unfold Zu5 Zs1;dsimp only;rw[Zog];refine⟨fun _=> ?_,fun h=>by have:=of_decide_eq_false h;omega⟩;have ha:=ZzV hk;have hb:=ZzV hk2;rw[ZtU]at ha hb;have la:val ((wd a).take k) < Bw ^ k:=by have:=Zx9 ((ZwX a).take k);rwa [ZMa,ZMt (by omega)]at this
   have lb:val ((wd b).take k) < Bw ^ k:=by have:=Zx9 ((ZwX b).take k);rwa [ZMa,ZMt (by omega)]at this
   rw[ZvT hk,ZnC,ZnB,ZvT hk2,ZnC,ZnB,Zog];refine⟨fun hc=> ?_,fun hc=> ?_⟩
   ·have h1:(wd a)[k] < (wd b)[k]:=by have:=of_decide_eq_true hc;omega
    have:a < b:=by rw[ha,hb,hP];exact ZCL (A:=0) (B:=0) la (by omega)
    rw[ZnB];exact .inl (by rw[Zy3 this])
   ·rw[ZnC,ZnB,ZnC,ZnB,Zog];refine⟨fun hc2=> ?_,fun hc2=> ?_⟩
    ·have h1:(wd b)[k] < (wd a)[k]:=by have:=of_decide_eq_true hc2;omega
     have:b < a:=by rw[ha,hb,hP];exact ZCL (A:=0) (B:=0) lb (by omega)
     rw[ZnB];exact .inl (by rw[ZyQ this])
    ·rw[ZnF];refine⟨ZnJ (by omega),ih () ?_⟩;have h1:(wd a)[k]=(wd b)[k]:=by have q1:=of_decide_eq_false hc;have q2:=of_decide_eq_false hc2;omega
     rw[←ZL3 (h:=hk),←ZL3 (h:=hk2),h1,hP]
  ·rintro rec ⟨⟩ hP;unfold Zu5 Zs1;dsimp only;rw[Zog];refine⟨fun h=>by have:=of_decide_eq_true h;omega,fun _=> ?_⟩;rw[ZnB];rw[List.drop_zero,List.drop_zero]at hP;exact .inr ⟨rfl,by rw[←ZtU a,←ZtU b,hP]⟩
  ·rintro r (rfl |⟨rfl,rfl⟩)
   ·exact ZnB.2 rfl
   ·unfold Zv6;exact ZnB.2 (Zx2 a).symm
theorem ZDF {a:Nat} (k:Nat) (hk:k≤32):shlK .u32 (a:Int) (k:Int)=((a*2 ^ k % 4294967296:Nat):Int):=by
 unfold shlK;rw[ZLU,show IntKind.bits .u32=32 from rfl,ZMt (by omega)];have e:(a:Int)*(2:Int) ^ k=((a*2 ^ k:Nat):Int):=by push_cast;rfl
 rw[e,Zwr]
theorem ZDT (a d:Nat) (hd:d≤1) (ha:(wd a).length≤100000):ZqS (iL (wd a)) (d:Int)=some (iL (wd (2*a+d))):=by
 refine Zqz ?_;unfold ZqS;rw[ZnC];refine ZnK (Zug Zy8 (wd a).length (by omega) (fun i (s:Nat×List Nat)=>(iL (wd a),(s.1:Int),i,iL s.2)) (fun i s=>s.1≤1∧s.2.length=i∧Dg s.2∧val s.2+Bw ^ i*s.1=2*val ((wd a).take i)+d)
  (Q:=fun y=>∃(c:Nat) (o:List Nat),y=((c:Int),iL o)∧c≤1∧Dg o∧o.length=(wd a).length∧val o+Bw ^ (wd a).length*c=2*a+d) (d,[]) ⟨hd,rfl,ZA6,by simp[val]⟩ ?_ ?_) ?_
 ·rintro rec i ⟨c,o⟩ hi ⟨hc,hl,hod,hv⟩ ih;dsimp only at hc hl hod hv ih;have h1:=(ZwX a).get hi;unfold Zuk Zr2;dsimp only;rw[Zog,Zol];refine⟨fun _=> ?_,fun h=>by have:=of_decide_eq_false h;omega⟩;rw[ZvT hi,ZnC,ZnB];generalize ex:(wd a)[i]=x at h1;have eor:orK .u32 (shlK .u32 (x:Int) 1) (c:Int)=((c+x*2 ^ 1 % Bw:Nat):Int):=by rw[show (1:Int)=((1:Nat):Int)from rfl,ZDF 1 (by omega),ZDk (ZMu _ (by decide)) (by omega),Nat.or_comm];congr 1;exact ZCX (by decide) (by omega) h1
  have esh:shrK .u32 (x:Int) 31=((x / 2 ^ 31:Nat):Int):=ZBh 31 (by omega);rw[eor,ZMI,esh,ZnF,ZnF,ZnF,ZnF,Zol];have hx:c+x*2 ^ 1 % Bw < Bw:=by simp only[Bw]at h1⊢;omega
  refine⟨by decide,Zyk (by simp only[ZL9];omega),by decide,ZnJ (by omega), ?_⟩;have:=ih (x / 2 ^ 31,o++[c+x*2 ^ 1 % Bw]) ⟨by simp only[Bw]at h1;dsimp only;omega,by simp[hl],hod.app (ZAA hx), ?_⟩
  ·rw[ZCj]at this;exact this
  ·dsimp only;have q:c+x*2 ^ 1 % Bw+Bw*(x / 2 ^ 31)=c+2*x:=by simp only[Bw]at h1⊢;omega
   have q2:Bw ^ i*(c+x*2 ^ 1 % Bw+Bw*(x / 2 ^ 31))=Bw ^ i*(c+2*x):=by rw[q]
   have q3:Bw ^ i*(2*x)=2*(Bw ^ i*x):=ZMy _ _ _;rw[ZMv,ZMv (Bw ^ i) c (2*x),q3]at q2;rw[Zxi,hl,ZoQ hi,ex];generalize c+x*2 ^ 1 % Bw=dg at*
   generalize x / 2 ^ 31=cy at*
   rw[ZMD,ZMw];omega
 ·rintro rec ⟨c,o⟩ ⟨hc,hl,hod,hv⟩;dsimp only at hc hl hod hv;unfold Zuk Zr2;dsimp only;rw[Zog,Zol];refine⟨fun h=>by have:=of_decide_eq_true h;omega,fun _=> ?_⟩;rw[ZnB];rw[ZMe,ZtU]at hv;exact⟨c,o,rfl,hc,hod,hl,hv⟩
 ·rintro y ⟨c,o,rfl,hc,hod,hl,hv⟩;dsimp only;unfold ZuY;have e:iL o++[(c:Int)]=iL (o++[c]):=by rw[ZCj];rfl
  rw[ZnF,Zol,e,ZA9 (hod.app (ZAA (by simp only[Bw];omega))) (by simp;omega),ZnC,ZnB,ZnB,Zxi,hl,hv];exact⟨Zyk (by simp only[ZL9];omega),rfl⟩
end Go.Proofs
namespace Go.Proofs
open Go Eng
theorem ZHb (t:Int):shrK .i64 t 32=t / 4294967296:=by unfold shrK;rw[show min (32:Int).toNat (IntKind.bits .i64)=32 from by decide,Int.fdiv_eq_ediv_of_nonneg _ (by decide)];rfl
theorem ZB6 (a b:Nat) (hab:b≤a) (ha:(wd a).length≤100000):ZpU (iL (wd a)) (iL (wd b))=some (iL (wd (a - b))):=by
 have hlb:(wd b).length≤(wd a).length:=Zux hab;refine Zqz ?_;unfold ZpU;rw[ZnC];refine ZnK (Zug ZzJ (wd a).length (by omega) (fun i (s:Nat×List Nat)=>(iL (wd a),iL (wd b), -(s.1:Int),i,iL s.2)) (fun i s=>s.1≤1∧s.2.length=i∧Dg s.2∧val ((wd a).take i)+Bw ^ i*s.1=val s.2+val ((wd b).take i))
  (Q:=fun y=>∃(o:List Nat),y=iL o∧Dg o∧o.length=(wd a).length∧val o=a - b) (0,[]) ⟨by simp,rfl,ZA6,by simp[val]⟩ ?_ ?_) ?_
 ·rintro rec i ⟨c,o⟩ hi ⟨hc,hl,hd,hv⟩ ih;dsimp only at hc hl hd hv ih;have h1:=(ZwX a).get hi;have h2:=ZBk (ZwX b) i;have ey0:(wd b).getD i 0=(if i < (wd b).length then (wd b).getD i 0 else 0):=by
   by_cases h:i < (wd b).length
   ·rw[if_pos h]
   ·rw[if_neg h,ZL0,ZL2 (by omega)];rfl
  have fin:∀y:Nat,(wd b).getD i 0=y→wp (ZrS (fun a b c i out=>rec (a,b,c,i,out)) (iL (wd a)) (iL (wd b)) (-(c:Int)+((wd a)[i]:Int) - (y:Int)) (i:Int) (iL o)) (fun y=>∃(o:List Nat),y=iL o∧Dg o∧o.length=(wd a).length∧val o=a - b):=fun y ey=>by
   rw[ey]at h2;generalize ex:(wd a)[i]=x at h1;have ew:IntKind.wrap .u32 (-(c:Int)+(x:Int) - (y:Int))=(((x+4294967296 - y - c) % 4294967296:Nat):Int):=by simp only[Bw]at h1 h2;rw[IntKind.wrap_u32];omega
   have es:shrK .i64 (-(c:Int)+(x:Int) - (y:Int)) 32= -(((if x < y+c then 1 else 0):Nat):Int):=by simp only[Bw]at h1 h2;rw[ZHb];split<;>omega
   unfold ZrS;rw[ew,es,ZnF,ZnF,ZnF,Zol];refine⟨Zyk (by simp only[ZL9];omega),by decide,ZnJ (by omega), ?_⟩;have:=ih ((if x < y+c then 1 else 0),o++[(x+4294967296 - y - c) % 4294967296]) ⟨by dsimp only;split<;>omega,by simp[hl],hd.app (ZAA (ZMu _ (by decide))), ?_⟩
   ·rw[ZCj]at this;exact this
   ·dsimp only;rw[Zxi,hl,ZMD,ZoQ hi,Zx4,ex,ey,ZMw];have e:x+Bw*(if x < y+c then 1 else 0)=(x+4294967296 - y - c) % 4294967296+y+c:=by simp only[Bw]at h1 h2⊢;split<;>omega
    have e2:Bw ^ i*(x+Bw*(if x < y+c then 1 else 0))=Bw ^ i*((x+4294967296 - y - c) % 4294967296+y+c):=by rw[e]
    rw[ZMv,ZMv,ZMv]at e2;omega
  unfold ZuZ ZsX;dsimp only;rw[Zog,Zol,Zol];refine⟨fun _=> ?_,fun h=>by have:=of_decide_eq_false h;omega⟩;have wx:IntKind.wrap .i64 ((wd a)[i]:Int)=((wd a)[i]:Int):=wrap_i64 (by simp only[Bw]at h1;omega);rw[ZvT hi,ZnC,ZnB,wx,ZnF,Zog];refine⟨ZnJ (by simp only[Bw]at h1;omega),fun h=> ?_,fun h=> ?_⟩
  ·have hib:i < (wd b).length:=by have:=of_decide_eq_true h;omega
   have hy:=(ZwX b).get hib;have wy:IntKind.wrap .i64 ((wd b)[i]:Int)=((wd b)[i]:Int):=wrap_i64 (by simp only[Bw]at hy;omega);rw[ZvT hib,ZnC,ZnB,wy,ZnF];refine⟨ZnJ (by simp only[Bw]at h1 hy;omega),fin _ ?_⟩;rw[ZL0,ZL1 hib];rfl
  ·have hib:¬i < (wd b).length:=by have:=of_decide_eq_false h;omega
   have:=fin 0 (by rw[ey0,if_neg hib]);rw[Int.natCast_zero,Int.sub_zero]at this;exact this
 ·rintro rec ⟨c,o⟩ ⟨hc,hl,hd,hv⟩;unfold ZuZ ZsX;dsimp only at hc hl hd hv⊢
  rw[Zog,Zol];refine⟨fun h=>by have:=of_decide_eq_true h;omega,fun _=> ?_⟩;rw[ZnB];rw[ZMe,ZMf (by omega),ZtU,ZtU]at hv;have:=Zx9 hd;rw[hl]at this;have hc0:c=0:=by
   rcases Nat.eq_zero_or_pos c with h |h
   ·exact h
   ·have:c=1:=by omega
    rw[this,Nat.mul_one]at hv;omega
  rw[hc0,Nat.mul_zero]at hv;exact⟨o,rfl,hd,hl,by omega⟩
 ·rintro y ⟨o,rfl,hd,hl,hv⟩;unfold ZvX;rw[ZA9 hd (by omega),ZnC,ZnB,ZnB,hv]
end Go.Proofs
namespace Go.Proofs
open Go Eng
theorem ZBZ (a:Nat) (ha:(wd a).length≤100000):ZpE (iL (wd a))=some (iL (wd (a / 2))):=by
 refine Zqz ?_;unfold ZpE;rw[List.nil_append,ZnF,ZnC,Zol];refine⟨Zyk (by rw[ZL8];omega), ?_⟩;refine ZnK (Zug Zzu (wd a).length (by omega) (fun i (o:List Nat)=>(iL (wd a),((wd a).length:Int),i,iL (o++(wd a).drop o.length))) (fun i o=>o.length=i∧Dg o∧val o*2+(wd a).getD 0 0 % 2=val ((wd a).take i)+Bw ^ i*((wd a).getD i 0 % 2))
  (Q:=fun y=>∃(o:List Nat),y=iL o∧Dg o∧o.length=(wd a).length∧val o=a / 2) [] ⟨rfl,ZA6,by simp[val]⟩ ?_ ?_) ?_
 ·rintro rec i o hi ⟨hol,hod,hov⟩ ih;have h1:=(ZwX a).get hi;have hyB:=ZBk (ZwX a) (i+1);have hlen:(o++(wd a).drop o.length).length=(wd a).length:=by simp;omega
  have gx:(iL (o++(wd a).drop o.length))[i]? =some ((wd a)[i]:Int):=by rw[ZA4 (by omega)];congr 2;rw[List.getElem_append_right (by omega)];simp[hol]
  have fin:∀z:Nat,z=(wd a)[i] / 2+(wd a).getD (i+1) 0*2 ^ 31 % Bw→wp (Zrx (fun a t9 i out=>rec (a,t9,i,out)) (iL (wd a)) ((wd a).length:Int) (i:Int) (iL ((o++(wd a).drop o.length).set i z))) (fun y=>∃(o:List Nat),y=iL o∧Dg o∧o.length=(wd a).length∧val o=a / 2):=fun z hz=>by
   unfold Zrx;have es:(o++(wd a).drop o.length).set i z=(o++[z])++(wd a).drop (o++[z]).length:=by rw[List.set_append_right _ _ (by omega),hol,Nat.sub_self,←ZL3 (h:=hi),List.set_cons_zero];simp[hol]
   have eg:(wd a).getD i 0=(wd a)[i]:=by rw[ZL0,ZL1 hi];rfl
   rw[eg]at hov;rw[ZnF,es];generalize ex:(wd a)[i]=x at*
   generalize ey:(wd a).getD (i+1) 0=y at*
   have hzB:z < Bw:=by simp only[Bw]at h1 hz⊢;omega
   refine⟨ZnJ (by omega),ih (o++[z]) ⟨by simp[hol],hod.app (ZAA hzB), ?_⟩⟩;have hd1:z*2+x % 2=x+Bw*(y % 2):=by simp only[Bw]at h1 hz⊢;omega
   have q1:Bw ^ i*(z*2+x % 2)=Bw ^ i*(x+Bw*(y % 2)):=by rw[hd1]
   rw[ZMv,ZMv]at q1;rw[Zxi,hol,ZoQ hi,ex,ZMD,Nat.add_mul,ZMw,ZMw];omega
  unfold ZuJ ZsK;dsimp only;rw[Zog];refine⟨fun _=> ?_,fun h=>by have:=of_decide_eq_false h;omega⟩;have esh:shrK .u32 ((wd a)[i]:Int) 1=(((wd a)[i] / 2:Nat):Int):=ZBh 1 (by omega);rw[ZLU,gx,ZnF,ZnC,ZnB,ZnF,ZnF,ZnF,esh,ZAl,Zol,Zol,hlen,Zog];refine⟨Zpk ⟨by omega,by omega⟩,by decide,Zpk ⟨by omega,by omega⟩,ZnJ (by omega),fun h=> ?_,fun h=> ?_⟩
  ·have hi2:i+1 < (wd a).length:=by have:=of_decide_eq_true h;omega
   have gz:(iL ((o++(wd a).drop o.length).set i ((wd a)[i] / 2)))[i]? =some (((wd a)[i] / 2:Nat):Int):=by rw[ZA4 (by rw[List.length_set];omega),List.getElem_set_self]
   have e1:(i:Int)+1=((i+1:Nat):Int):=rfl;have eg:(wd a).getD (i+1) 0=(wd a)[i+1]:=by rw[ZL0,ZL1 hi2];rfl
   have eor:orK .u32 (((wd a)[i] / 2:Nat):Int) (shlK .u32 ((wd a)[i+1]:Int) 31)=(((wd a)[i] / 2+(wd a).getD (i+1) 0*2 ^ 31 % Bw:Nat):Int):=by rw[eg,show (31:Int)=((31:Nat):Int)from rfl,ZDF 31 (by omega),ZDk (by simp only[Bw]at h1;omega) (ZMu _ (by decide))];congr 1;exact ZCX (by decide) (by simp only[Bw]at h1;omega) ((ZwX a).get hi2)
   rw[e1,ZvT hi2,gz,ZnF,ZnC,ZnB,ZnF,ZnC,ZnB,ZnF,ZnF,eor,Zol,List.length_set,hlen,ZAl,List.set_set];exact⟨Zpk ⟨by omega,by omega⟩,ZnJ (by omega),by decide,Zpk ⟨by omega,by omega⟩,fin _ rfl⟩
  ·have hi2:¬i+1 < (wd a).length:=by have:=of_decide_eq_false h;omega
   refine fin _ ?_;rw[ZL0,ZL2 (by omega)];simp
 ·rintro rec o ⟨hol,hod,hov⟩;unfold ZuJ ZsK;dsimp only;rw[Zog];refine⟨fun h=>by have:=of_decide_eq_true h;omega,fun _=> ?_⟩;rw[ZnB];have eg:(wd a).getD (wd a).length 0=0:=by rw[ZL0,ZL2 (by omega)];rfl
  rw[eg,Nat.zero_mod,Nat.mul_zero,Nat.add_zero,ZMe,ZtU]at hov;refine⟨o,by rw[hol,List.drop_length,List.append_nil],hod,hol, ?_⟩;omega
 ·rintro y ⟨o,rfl,hd,hl,hv⟩;unfold ZvD;rw[ZA9 hd (by omega),ZnC,ZnB,ZnB,hv]
end Go.Proofs
namespace Go.Proofs
open Go Eng
theorem ZDn {a:Nat} (h:a≠0):idx (iL (wd a)) 0=some ((a % Bw:Nat):Int):=by rw[ZBm h];rfl
theorem ZCk {a:Nat}:(andK .u32 ((a % Bw:Nat):Int) 1 == 0)=decide (a % 2=0):=by
 rw[show (1:Int)=((1:Nat):Int)from rfl,ZC5 (ZMu _ (by decide)) (by decide),Nat.and_one_is_mod];have e:a % Bw % 2=a % 2:=by simp only[Bw];omega
 rw[e]
 by_cases h:a % 2=0
 ·rw[h];rfl
 ·rw[decide_eq_false h];exact beq_eq_false_iff_ne.2 (by omega)
theorem ZD9 (P:Nat→Prop) {f:Nat→List Int×List Int×Int→Option (List Int×List Int×Int)} (y:List Int) (k:Int)
  (hf:∀n x,x≠0→(wd x).length≤100000→f (n+1) (iL (wd x),y,k)=if x % 2=0 then f n (iL (wd (x / 2)),y,k)else some (iL (wd x),y,k))
  (hP:∀x,P (2*x)→P x):∀(n x:Nat),x≠0→(wd x).length≤100000→P x→(∀m,x < 2 ^ m→m≤n→∃z,f n (iL (wd x),y,k)=some (iL (wd z),y,k)∧z % 2=1∧z≤x∧P z)
 |0,x,hx,hl,hp,m,hm,hmn=>by
  have:m=0:=by omega
  subst this;rw[ZME]at hm;omega
 |n+1,x,hx,hl,hp,m,hm,hmn=>by
  rw[hf n x hx hl]
  by_cases h:x % 2=0
  ·rw[if_pos h];cases m with
   |zero=>rw[ZME]at hm;omega
   |succ m=>
    obtain⟨z,h1,h2,h3,h4⟩:=ZD9 P y k hf hP n (x / 2) (by omega) (ZMp (Zux (ZMl x 2)) hl) (hP _ (by rwa [show 2*(x / 2)=x by omega])) m (by rw[ZMD]at hm;omega) (by omega);exact⟨z,h1,h2,by omega,h4⟩
  ·rw[if_neg h];exact⟨x,rfl,by omega,ZMo _,hp⟩
end Go.Proofs
namespace Go.Proofs
open Go Eng
theorem Zy4 (x:Nat):x < 2 ^ (x.log2+1):=Nat.lt_log2_self
theorem ZAI {x n:Nat} (h:(wd x).length≤n):x.log2≤32*n:=by
 rcases Nat.eq_zero_or_pos x with rfl |hp
 ·rw[Nat.log2_zero];omega
 ·have h1:=Nat.log2_self_le (n:=x) (by omega);have h2:=ZMr (ZxD x) (ZMC (n:=Bw) (by decide) h);rw[show Bw=2 ^ 32 from rfl,←Nat.pow_mul]at h2;exact ZMn ((Nat.pow_lt_pow_iff_right (a:=2) (by decide)).1 (ZMq h1 h2))
theorem ZFe {x b:Nat} (hb:b % 2=1):ZMm (2*x) b=ZMm x b:=by
 have hc:Nat.Coprime 2 b:=by unfold Nat.Coprime;rw[Nat.gcd_rec,hb,Nat.gcd_one_left]
 exact Nat.Coprime.gcd_mul_left_cancel x hc
theorem ZK0 (y:List Int) (k:Int) {x:Nat} (b:Nat) (hb:b % 2=1) (hx:x≠0) (hl:(wd x).length≤100000):∃z,Zph big (iL (wd x)) y k=some (iL (wd z),y,k)∧z % 2=1∧z≤x∧ZMm z b=ZMm x b:=by
 have hm:=ZAI hl;refine ZD9 (fun z=>ZMm z b=ZMm x b) (f:=fun n t=>Zph n t.1 t.2.1 t.2.2) y k (fun n x hx hl=> ?_) (fun z h=>by rwa [ZFe hb]at h) big x hx hl rfl (x.log2+1) (Zy4 x) (ZMn (ZCo (by omega)));show Zq1 (Zph n) (iL (wd x)) y k=_;unfold Zq1;rw[ZDn hx,ZMI,ZCk]
 by_cases h:x % 2=0
 ·rw[decide_eq_true h,cond_true,if_pos h,ZBZ x hl,ZMI]
 ·rw[decide_eq_false h,cond_false,if_neg h]
end Go.Proofs
namespace Go.Proofs
open Go Eng
theorem ZGD (y:List Int) (k:Int) {x:Nat} (ho:x % 2=1):Zph big (iL (wd x)) y k=some (iL (wd x),y,k):=by obtain⟨n,hn⟩:=ZC4 1 (by decide);rw[hn];show Zq1 (Zph n) (iL (wd x)) y k=_;unfold Zq1;rw[ZDn (by omega),ZMI,ZCk,decide_eq_false (by omega),cond_false]
theorem ZKZ (w:List Int) (k:Int) {y:Nat} (b:Nat) (hb:b % 2=1) (hy:y≠0) (hl:(wd y).length≤100000):∃z,Zpg big w (iL (wd y)) k=some (w,iL (wd z),k)∧z % 2=1∧(z≤y∧(y % 2=0→z≤y / 2))∧ZMm z b=ZMm y b:=by
 have hm:=ZAI hl;have step:∀n x,x≠0→(wd x).length≤100000→Zpg (n+1) w (iL (wd x)) k=if x % 2=0 then Zpg n w (iL (wd (x / 2))) k else some (w,iL (wd x),k):=fun n x hx hl=>by
  show Zu2 (Zpg n) w (iL (wd x)) k=_;unfold Zu2;rw[ZDn hx,ZMI,ZCk]
  by_cases h:x % 2=0
  ·rw[decide_eq_true h,cond_true,if_pos h,ZBZ x hl,ZMI]
  ·rw[decide_eq_false h,cond_false,if_neg h]
 have key:∀(n x m:Nat),x≠0→(wd x).length≤100000→x < 2 ^ m→m≤n→∃z,Zpg n w (iL (wd x)) k=some (w,iL (wd z),k)∧z % 2=1∧(z≤x∧(x % 2=0→z≤x / 2))∧ZMm z b=ZMm x b:=by
  intro n
  induction n with
  |zero=>
   intro x m hx hl hm hmn;have:m=0:=by omega
   subst this;rw[ZME]at hm;omega
  |succ n ih=>
   intro x m hx hl hm hmn;rw[step n x hx hl]
   by_cases h:x % 2=0
   ·rw[if_pos h];cases m with
    |zero=>rw[ZME]at hm;omega
    |succ m=>
     obtain⟨z,h1,h2,h3,h4⟩:=ih (x / 2) m (by omega) (ZMp (Zux (ZMl x 2)) hl) (by rw[ZMD]at hm;omega) (by omega);refine⟨z,h1,h2,⟨by omega,fun _=>h3.1⟩, ?_⟩;rw[h4,←ZFe hb,show 2*(x / 2)=x by omega]
   ·rw[if_neg h];exact⟨x,rfl,by omega,⟨ZMo _,fun h'=>absurd h' h⟩,rfl⟩
 exact key big y (y.log2+1) hy hl (Zy4 y) (ZMn (ZCo (by omega)))
end Go.Proofs
namespace Go.Proofs
open Go Eng
theorem ZF7 (k:Int):∀(n x y p q:Nat),x % 2=1→(wd x).length≤100000→(wd y).length≤100000→x < 2 ^ p→y < 2 ^ q→p+q+y % 2 < n→Zoe n (iL (wd x)) (iL (wd y)) k=some (iL (wd (ZMm x y)),k)
 |0,x,y,p,q,_,_,_,_,_,h=>absurd h (by omega)
 |n+1,x,y,p,q,ho,hxl,hyl,hp,hq,hn=>by
  show Zq2 (Zoe n) _ _ _=_;unfold Zq2;rw[Zol]
  by_cases h0:y=0
  ·subst h0;rw[Zxg,Nat.gcd_zero_right];rfl
  ·have hl:=Zws h0;obtain⟨z,hz,hz1,hz2,hz3⟩:=ZKZ (iL (wd x)) k x ho h0 hyl;rw[decide_eq_true (by omega),cond_true,ZGD _ _ ho,ZMI];dsimp only;unfold Zv3;rw[hz,ZMI];dsimp only;have hzl:=ZMp (Zux hz2.1) hyl;unfold Zv2;rw[ZCn x z hxl hzl,ZMI];obtain⟨q',hq',hq2⟩:∃q',z < 2 ^ q'∧q'+1≤q+y % 2:=by
    by_cases he:y % 2=0
    ·cases q with
     |zero=>rw[ZME]at hq;omega
     |succ q=>
      refine⟨q, ?_,by omega⟩;have:=hz2.2 he;rw[ZMD]at hq;omega
    ·exact⟨q,by omega,by omega⟩
   unfold Zt0;have eg:ZMm x y=ZMm x z:=by rw[Nat.gcd_comm x y,←hz3,Nat.gcd_comm]
   rw[eg]
   by_cases hc:z < x
   ·rw[ZyQ hc,show decide ((1:Int) > 0)=true from rfl,cond_true,ZB6 x z (by omega) hxl,ZMI,ZF7 k n z (x - z) q' p hz1 hzl (ZMp (Zux (Nat.sub_le x z)) hxl) hq' (by omega) (by omega),Nat.gcd_sub_self_right (by omega),Nat.gcd_comm]
   ·have hnc:decide (ZCA x z > 0)=false:=by refine decide_eq_false ?_;unfold ZCA;rw[if_neg hc];split<;>decide
    rw[hnc,cond_false,ZB6 z x (by omega) hzl,ZMI,ZF7 k n x (z - x) p q' ho hxl (ZMp (Zux (Nat.sub_le z x)) hzl) hp (by omega) (by omega),Nat.gcd_sub_self_right (by omega)]
end Go.Proofs
namespace Go.Proofs
open Go Eng
theorem ZIY:∀(n x y j m:Nat),x≠0→y≠0→(wd x).length≤100000→(wd y).length≤100000→x < 2 ^ m→m≤n→j+m≤1000000000→
  ∃x' y' t:Nat,ZqE n (iL (wd x)) (iL (wd y)) (j:Int)=some (iL (wd x'),iL (wd y'),((j+t:Nat):Int))∧(x' % 2=1∨y' % 2=1)∧ZMm x y=2 ^ t*ZMm x' y'∧x'≠0∧y'≠0∧x'≤x∧y'≤y∧t≤m
 |0,x,y,j,m,hx,hy,hxl,hyl,hm,hmn,hj=>by
  have:m=0:=by omega
  subst this;rw[ZME]at hm;omega
 |n+1,x,y,j,m,hx,hy,hxl,hyl,hm,hmn,hj=>by
  show ∃x' y' t:Nat,Zu3 (ZqE n) _ _ _=_∧_;unfold Zu3 Zt1;rw[ZDn hx,ZMI,ZCk]
  by_cases h1:x % 2=0
  ·rw[decide_eq_true h1,cond_true,ZDn hy,ZMI,ZCk]
   by_cases h2:y % 2=0
   ·cases m with
    |zero=>rw[ZME]at hm;omega
    |succ m=>
     rw[decide_eq_true h2,cond_true,ZBZ x hxl,ZMI,ZBZ y hyl,ZMI,ZnJ (by omega),chk_true];obtain⟨x',y',t,q1,q2,q3,q4,q5,q6,q7,q8⟩:=ZIY n (x / 2) (y / 2) (j+1) m (by omega) (by omega) (ZMp (Zux (ZMl x 2)) hxl) (ZMp (Zux (ZMl y 2)) hyl) (by rw[ZMD]at hm;omega) (by omega) (by omega);refine⟨x',y',t+1, ?_,q2, ?_,q4,q5,by omega,by omega,by omega⟩
     ·rw[show (j:Int)+1=((j+1:Nat):Int)from rfl,q1,show j+1+t=j+(t+1) by omega]
     ·have:=Nat.gcd_mul_left 2 (x / 2) (y / 2);rw[show 2*(x / 2)=x by omega,show 2*(y / 2)=y by omega]at this;rw[this,q3,ZMD,ZMx (2 ^ t) 2,ZMw]
   ·rw[decide_eq_false h2,cond_false];exact⟨x,y,0,rfl,.inr (by omega),by rw[ZME,ZMz],hx,hy,ZMo _,ZMo _,Nat.zero_le _⟩
  ·rw[decide_eq_false h1,cond_false,cond_false];exact⟨x,y,0,rfl,.inl (by omega),by rw[ZME,ZMz],hx,hy,ZMo _,ZMo _,Nat.zero_le _⟩
theorem ZIX:∀(k n a:Nat),k < n→k≤1000000000→(wd (2 ^ k*a)).length≤100000→ZqD n (iL (wd a)) (k:Int)=some (iL (wd (2 ^ k*a)))
 |k,0,a,h,_,_=>absurd h (by omega)
 |0,n+1,a,_,_,_=>by show Zq0 (ZqD n) _ _=_;unfold Zq0;rw[ZME,ZMz];rfl
 |k+1,n+1,a,h,hk,hl=>by
  show Zq0 (ZqD n) _ _=_;unfold Zq0;have e:2 ^ (k+1)*a=2 ^ k*(2*a+0):=by rw[ZMD,ZMw,Nat.add_zero]
  have ha:(wd a).length≤100000:=ZMp (Zux (Nat.le_mul_of_pos_left a (ZMG _))) hl;rw[e]at hl;have ht:=ZDT a 0 (by omega) ha;rw[Int.natCast_zero]at ht;rw[decide_eq_true (by omega),cond_true,ht,ZMI,show ((k+1:Nat):Int) - 1=(k:Int) by omega,ZnJ (by omega),chk_true,ZIX k n (2*a+0) (by omega) (by omega) hl,e]
theorem ZFf (a b:Nat) (ha0:a≠0) (hb0:b≠0) (ha:(wd a).length≤50000) (hb:(wd b).length≤50000):ZrH (iL (wd a)) (iL (wd b))=some (iL (wd (ZMm a b))):=by
 have hla:=ZAI ha;have hlb:=ZAI hb;obtain⟨x,y,t,q1,q2,q3,q4,q5,q6,q7,q8⟩:=ZIY big a b 0 (a.log2+1) ha0 hb0 (by omega) (by omega) (Zy4 a) (ZMn (ZCo (by omega))) (by omega);rw[Int.natCast_zero,ZMH]at q1;have hxl:=ZMp (Zux q6) ha;have hyl:=ZMp (Zux q7) hb;have hlx:=ZAI hxl;have hly:=ZAI hyl;have main:Zoe big (iL (wd x)) (iL (wd y)) (t:Int)=some (iL (wd (ZMm x y)),(t:Int)):=by
  by_cases hx:x % 2=1
  ·exact ZF7 _ big x y _ _ hx (by omega) (by omega) (Zy4 x) (Zy4 y) (ZCo (by omega))
  ·have hy:y % 2=1:=by omega
   obtain⟨z,z1,z2,z3,z4⟩:=ZK0 (iL (wd y)) (t:Int) y hy q4 (by omega);have hzl:=ZMp (Zux z3) hxl;have hlz:=ZAI hzl;have e:=ZF7 (t:Int) big z y _ _ z2 (by omega) (by omega) (Zy4 z) (Zy4 y) (ZCo (by omega));rw[z4]at e;rw[←e];obtain⟨n,hn⟩:∃n,big=n+1:=⟨36893488147419103231,by rw[big_eq]⟩;have s1:∀u,Zoe big (iL (wd u)) (iL (wd y)) (t:Int)=Zq2 (Zoe n) (iL (wd u)) (iL (wd y)) (t:Int):=fun u=>by rw[hn];rfl
   rw[s1,s1];unfold Zq2;have hl:=Zws q5;rw[Zol,decide_eq_true (by omega),cond_true,cond_true,z1,ZGD _ _ z2]
 have hg:(wd (2 ^ t*ZMm x y)).length≤100000:=by rw[←q3];exact ZMp (ZEE (by omega) hb) (by omega)
 unfold ZrH;rw[q1,ZMI];dsimp only;unfold Zv4 Zv1 Zv0;rw[main,ZMI];dsimp only;rw[ZIX t big _ (ZCo (by omega)) (by omega) hg,ZMI,q3]
end Go.Proofs
namespace Go.Proofs
open Go Eng
theorem ZFl {l:List Nat} {i:Nat} (hd:Dg l) (h:i / 32 < l.length):l[i / 32] / 2 ^ (i % 32) % 2=val l / 2 ^ i % 2:=by
 have e:=ZzV h;have hlt:=Zx9 (hd.take (i / 32));rw[ZMa,ZMt (by omega)]at hlt;have hi:2 ^ i=Bw ^ (i / 32)*2 ^ (i % 32):=by rw[show Bw=2 ^ 32 from rfl,←Nat.pow_mul,←ZMB,ZMj]
 have hr:i % 32 < 32:=ZMu _ (by decide);have hB:Bw=2 ^ (i % 32)*(2*2 ^ (31 - i % 32)):=by rw[show 2*2 ^ (31 - i % 32)=2 ^ (31 - i % 32+1) by rw[ZMD,ZMx],←ZMB,show i % 32+(31 - i % 32+1)=32 by omega]
 have e1:val l / Bw ^ (i / 32)=l[i / 32]+Bw*val (l.drop (i / 32+1)):=by rw[e,ZMh _ _ (Nat.pow_pos (by decide)),ZMk hlt,ZMH]
 rw[hi,←Nat.div_div_eq_div_mul,e1];generalize l[i / 32]=x;generalize val (l.drop (i / 32+1))=y;have e2:(x+Bw*y) / 2 ^ (i % 32)=x / 2 ^ (i % 32)+2*(2 ^ (31 - i % 32)*y):=by rw[hB,ZMw,ZMh _ _ (ZMG _),ZMw]
 rw[e2,ZMi]
end Go.Proofs
namespace Go.Proofs
open Go Eng
theorem ZGv (i:Nat):Int.tdiv (i:Int) 32=((i / 32:Nat):Int):=by rw[Int.tdiv_eq_ediv_of_nonneg (by omega)];norm_cast
theorem ZGu (i:Nat):IntKind.wrap .u64 (Int.tmod (i:Int) 32)=((i % 32:Nat):Int):=by rw[Int.tmod_eq_emod_of_nonneg (by omega),IntKind.wrap_u64];omega
theorem ZJq {l:List Nat} {i:Nat} (hd:Dg l) (h:i / 32 < l.length) (hi:i≤1000000000):ZtE (iL l) (i:Int)=some ((val l / 2 ^ i % 2:Nat):Int):=by have h1:=hd.get h;unfold ZtE;rw[ZGv,ZGu,decide_eq_true (by decide),chk_true,ZnJ (by omega),chk_true,ZvT h,ZMI,chk_true,decide_eq_true (by omega),chk_true,ZBh _ (by omega),show (1:Int)=((1:Nat):Int)from rfl,ZC5 (ZMq (ZMl _ _) h1) (by decide),Nat.and_one_is_mod,ZFl hd h]
end Go.Proofs
namespace Go.Proofs
open Go Eng
theorem ZGz {x j:Nat} (h:x / 2 ^ j % 2=0):x|||2 ^ j=x+2 ^ j:=by
 have hlo:=ZMu x (ZMG j);have e:x=2 ^ (j+1)*(x / 2 ^ j / 2)+x % 2 ^ j:=by
  have h1:=ZMj x (2 ^ j);have h2:2*(x / 2 ^ j / 2)=x / 2 ^ j:=by omega
  rw[ZMD,ZMw,h2,h1]
 have a1:=ZMF (i:=j+1) (b:=x % 2 ^ j) (by rw[ZMD];omega) (x / 2 ^ j / 2);have a2:=ZMF (i:=j) (b:=x % 2 ^ j) hlo 1;have a3:=ZMF (i:=j+1) (b:=2 ^ j*1+x % 2 ^ j) (by rw[ZMD];omega) (x / 2 ^ j / 2);rw[Nat.mul_one]at a2 a3;generalize x / 2 ^ j / 2=t at*
 generalize x % 2 ^ j=lo at*
 rw[e,a1,Nat.or_assoc,Nat.or_comm lo,←a2,←a3,←a1];omega
theorem ZHd {j:Nat} (hj:j≤31):shlK .u32 1 (j:Int)=((2 ^ j:Nat):Int):=by have:=ZDF (a:=1) j (by omega);rw[ZMz,Nat.mod_eq_of_lt (ZMq (ZMC (by decide) hj) (by decide))]at this;exact this
theorem ZFc {A k:Nat}:A / 2 ^ k=2*(A / 2 ^ (k+1))+A / 2 ^ k % 2:=by rw[ZMD,←Nat.div_div_eq_div_mul];omega
theorem ZFh (a b:Nat) (hb0:b≠0) (ha:(wd a).length≤50000) (hb:(wd b).length≤50000):ZrI (iL (wd a)) (iL (wd b))=some (iL (wd (a / b)),iL (wd (a % b))):=by
 have hlen:∀k,(wd (2*(a / 2 ^ (k+1) % b)+a / 2 ^ k % 2)).length≤50001:=fun k=>by
  have h1:=ZMu (a / 2 ^ (k+1)) (ZMA hb0);have h2:2*(a / 2 ^ (k+1) % b)+a / 2 ^ k % 2≤b+b:=by omega
  exact ZMp (Zux h2) (ZC8 hb hb)
 refine Zqz ?_;unfold ZrI;rw[ZnF,ZnF,ZnF,ZnC,Zol,ZLU,ZCi];refine⟨ZAH (by omega),ZnJ (by omega),ZnJ (by omega), ?_⟩;have e0:(32*((wd a).length:Int)) - 1=((32*(wd a).length:Nat):Int) - 1:=by omega
 rw[e0,show ([]:List Int)=iL (wd 0) by rw[Zxg];rfl];refine ZnK (ZBx ZzM (32*(wd a).length) (by omega) (fun i (q:Nat×List Nat)=>(iL (wd a),iL (wd b),iL (wd q.1),i,iL q.2))
  (fun k q=>q.1=a / 2 ^ k % b∧Dg q.2∧q.2.length=(wd a).length∧val q.2=a / 2 ^ k / b*2 ^ k)
  (Q:=fun y=>∃o:List Nat,y=(iL (wd (a % b)),iL o)∧Dg o∧o.length=(wd a).length∧val o=a / b) (0,List.replicate (wd a).length 0) ?_ ?_ ?_) ?_
 ·have h0:a / 2 ^ (32*(wd a).length)=0:=by refine ZMk ?_;rw[Nat.pow_mul];exact ZxD a
  rw[h0,Nat.zero_mod,Nat.zero_div,Nat.zero_mul];exact⟨rfl,ZFi _,List.length_replicate,ZDB _⟩
 ·rintro rec k ⟨r,q⟩ hk ⟨hr,hd,hl,hv⟩ ih;dsimp only at hr hd hl hv;have hk32:k / 32 < (wd a).length:=by omega
  unfold Zu4 Zs0;dsimp only;have hbit:=ZJq (i:=k) (ZwX a) hk32 (by omega);rw[ZtU]at hbit;have h2:a / 2 ^ k % 2≤1:=by omega
  have htw:=ZDT r (a / 2 ^ k % 2) h2 (by
   rw[hr];exact ZMp (Zux (ZMn (ZMu _ (ZMA hb0)))) (by omega))
  have hlk:=hlen k;rw[←hr]at hlk;have hx:=ZFc (A:=a) (k:=k);have hdm:=ZMj (a / 2 ^ (k+1)) b;rw[←hr]at hdm;have hrlt:r < b:=by rw[hr];exact ZMu _ (ZMA hb0)
  rw[Zog];refine⟨fun _=> ?_,fun h=>by have:=of_decide_eq_false h;omega⟩;rw[hbit,ZnC,ZnB,htw,ZnC,ZnB,ZCn _ _ (by omega) (by omega),ZnC,ZnB,Zog];have nx:∀r' q',(r'=a / 2 ^ k % b∧Dg q'∧q'.length=(wd a).length∧val q'=a / 2 ^ k / b*2 ^ k)→wp (ZrW (fun a b r_ i q=>rec (a,b,r_,i,q)) (iL (wd a)) (iL (wd b)) (iL (wd r')) (k:Int) (iL q')) (fun y=>∃o:List Nat,y=(iL (wd (a % b)),iL o)∧Dg o∧o.length=(wd a).length∧val o=a / b):=fun r' q' h=>by unfold ZrW;rw[ZnF];exact⟨ZnJ (by omega),ih (r',q') h⟩
  generalize eX:a / 2 ^ (k+1)=X at*
  generalize ed:a / 2 ^ k % 2=d at*
  refine⟨fun hc=> ?_,fun hc=> ?_⟩
  ·have hge:b≤2*r+d:=by
    rcases ZMs (2*r+d) b with h |h
    ·rw[Zy3 h]at hc;exact absurd (of_decide_eq_true hc) (by decide)
    ·exact h
   have hq:k / 32 < q.length:=by omega
   have hz:q[k / 32] / 2 ^ (k % 32) % 2=0:=by rw[ZFl hd hq,hv,ZMD,←ZMw,Nat.mul_right_comm,Nat.mul_div_cancel _ (ZMG k)];omega
   have hx32:=hd.get hq;rw[ZB6 _ _ hge (by omega),ZnC,ZnB,ZGv,ZGu,ZLU,ZnF,ZnF,ZnF,ZA4 hq,ZnC,ZnB,ZnF,ZnF,ZnF,ZHd (by omega),ZDk hx32 (ZMq (ZMC (by decide) (show k % 32≤31 by omega)) (by decide)),ZGz hz,ZAl,Zol];refine⟨by decide,ZnJ (by omega),Zpk ⟨by omega,by omega⟩,by decide,decide_eq_true (by omega),Zpk ⟨by omega,by omega⟩, ?_⟩;have hsum:q[k / 32]+2 ^ (k % 32) < Bw:=by
    have hB:Bw=2 ^ (k % 32)*(2*2 ^ (31 - k % 32)):=by rw[show 2*2 ^ (31 - k % 32)=2 ^ (31 - k % 32+1) by rw[ZMD,ZMx],←ZMB,show k % 32+(31 - k % 32+1)=32 by omega]
    rw[←ZGz hz];exact Nat.or_lt_two_pow (n:=32) hx32 (ZMq (ZMC (by decide) (show k % 32≤31 by omega)) (by decide))
   refine nx (2*r+d - b) (q.set (k / 32) (q[k / 32]+2 ^ (k % 32))) ⟨?_,hd.set _ hsum,by rw[List.length_set,hl], ?_⟩
   ·rw[hx,show 2*X+d=(2*r+d - b)+b*(2*(X / b)+1) by rw[ZMv,ZMy];omega,ZMi,Nat.mod_eq_of_lt (by omega)]
   ·have hvs:=ZAq q (k / 32) (q[k / 32]+2 ^ (k % 32)) hq;have hp:Bw ^ (k / 32)*2 ^ (k % 32)=2 ^ k:=by rw[show Bw=2 ^ 32 from rfl,←Nat.pow_mul,←ZMB,ZMj]
    rw[ZMv,hp]at hvs;have e1:(2*X+d) / b=2*(X / b)+1:=by rw[show 2*X+d=(2*r+d - b)+b*(2*(X / b)+1) by rw[ZMv,ZMy];omega,ZMh _ _ (ZMA hb0),ZMk (by omega),ZMH]
    rw[hx,e1];rw[hv,ZMD]at hvs;have e2:X / b*(2 ^ k*2)=2*(X / b)*2 ^ k:=by rw[ZMx (2 ^ k) 2,←ZMw,ZMx (X / b) 2]
    rw[Nat.add_mul,ZMz];omega
  ·have hlt:2*r+d < b:=by
    rcases ZMs (2*r+d) b with h |h
    ·exact h
    ·rcases ZMs b (2*r+d)with h' |h'
     ·rw[ZyQ h']at hc;exact absurd (of_decide_eq_false hc) (by decide)
     ·rw[show 2*r+d=b by omega,Zx2]at hc;exact absurd (of_decide_eq_false hc) (by decide)
   have e0:2*X+d=(2*r+d)+b*(2*(X / b)):=by rw[ZMy];omega
   refine nx (2*r+d) q ⟨?_,hd,hl, ?_⟩
   ·rw[hx,e0,ZMi,Nat.mod_eq_of_lt hlt]
   ·rw[hx,e0,ZMh _ _ (ZMA hb0),ZMk hlt,ZMH,hv,ZMD,ZMx (2 ^ k) 2,←ZMw,ZMx (X / b) 2]
 ·rintro rec ⟨r,q⟩ ⟨hr,hd,hl,hv⟩;dsimp only at hr hd hl hv;rw[ZME,Nat.div_one]at hr hv;unfold Zu4 Zs0;dsimp only;rw[Zog];refine⟨fun h=>by have:=of_decide_eq_true h;omega,fun _=> ?_⟩;rw[ZnB,hr];exact⟨q,rfl,hd,hl,by rw[hv,Nat.mul_one]⟩
 ·rintro y ⟨o,rfl,hd,hl,hv⟩;dsimp only;unfold Zv5;rw[ZA9 hd (by omega),ZnC,ZnB,ZnB,hv]
end Go.Proofs
namespace Go.Proofs
open Go Eng
theorem ZCE (n:Int):Rat.divInt n 1=(n:Rat):=by have h:=Rat.num_divInt_den (n:Rat);rw[Rat.num_intCast,Rat.den_intCast]at h;exact h
end Go.Proofs
namespace Go.Proofs
open Go Eng
theorem ZyE (z:Int) (h1: -9223372036854775808≤z) (h2:z≤9223372036854775807):Zn6 z=some (bg z):=by
 have key:∀(b:Bool) (n:Nat),n < 18446744073709551616→Zod b [IntKind.wrap .u32 (n:Int),IntKind.wrap .u32 (shrK .u64 (n:Int) 32)]=some (bg (if b then -(n:Int)else n)):=fun b n h=>by
  have e:([IntKind.wrap .u32 (n:Int),IntKind.wrap .u32 (shrK .u64 (n:Int) 32)]:List Int)=iL [n % 4294967296,n / 4294967296]:=by rw[show (32:Int)=((32:Nat):Int)from rfl,ZAD 32 (by omega),Zwr,ZwW (by omega)];rfl
  have hd:Dg [n % 4294967296,n / 4294967296]:=fun d hd=>by
   simp only[ZMb,List.mem_singleton,List.not_mem_nil,or_false]at hd;rcases hd with rfl |rfl
   ·exact ZMu _ (by decide)
   ·simp only[Bw];omega
  have hv:val [n % 4294967296,n / 4294967296]=n:=by simp only[val,Nat.mul_zero,Nat.add_zero];exact Nat.mod_add_div n Bw
  rw[e,ZA8 b hd (by simp),hv]
 unfold Zn6 Zr4;have h32:decide (0≤(32:Int))=true:=rfl
 by_cases hz:z < 0
 ·have e:IntKind.wrap .u64 (0 - IntKind.wrap .u64 z)=((z.natAbs:Nat):Int):=by rw[IntKind.wrap_u64,IntKind.wrap_u64];omega
  rw[decide_eq_true hz,cond_true,h32,chk_true,e,key true _ (by omega),ZMI,if_pos rfl,show -((z.natAbs:Nat):Int)=z by omega]
 ·have e:IntKind.wrap .u64 z=((z.natAbs:Nat):Int):=by rw[IntKind.wrap_u64];omega
  rw[decide_eq_false hz,cond_false,h32,chk_true,e,key false _ (by omega),ZMI,if_neg (by decide),show ((z.natAbs:Nat):Int)=z by omega]
theorem ZHQ:bg 0=⟨false,[]⟩:=by unfold bg;rw[show (0:Int).natAbs=0 from rfl,Zxg];rfl
theorem ZBc (x y:Int) (hy:y≠0) (hx1:Wl 50000 x) (hy1:Wl 50000 y):ZpJ (bg x) (bg y)=some (fOf (Rat.divInt x y)):=by
 unfold ZpJ
 by_cases hx:x=0
 ·subst hx;rw[Rat.zero_divInt,ZqR,Zol,show (0:Int).natAbs=0 from rfl,Zxg,ZyE 1 (by decide) (by decide)];show some (ZnE.mk ⟨false,[]⟩ (bg 1))=some (fOf 0);rw[←ZHQ];rfl
 ·have hx0:0 < x.natAbs:=by omega
  have hy0:0 < y.natAbs:=by omega
  have hg0:ZMm x.natAbs y.natAbs≠0:=fun e=>by have:=Nat.gcd_pos_of_pos_right x.natAbs hy0;omega
  have hgl:=ZEE (x:=x.natAbs) hy0 hy1;have hxl:=ZDR (ZMm x.natAbs y.natAbs) hx1;have hyl:=ZDR (ZMm x.natAbs y.natAbs) hy1;have h:=ZBa x y hy hx1 hy1;unfold ZrF at h;rw[ZqR,ZqR,ZCm _ _ hx1 hy1,ZMI,ZBB _ _ hg0 hx1 hgl,ZMI]at h;dsimp only at h;rw[ZBB _ _ hg0 hy1 hgl,ZMI]at h;dsimp only at h;rw[ZwY _ _ (by omega),ZMI,ZwY _ _ (by omega),ZMI]at h;have hlen:=Zws (n:=x.natAbs) (by omega);rw[←h,ZqR,ZqR,Zol,beq_eq_false_iff_ne.2 (by omega),cond_false,ZFf _ _ (by omega) (by omega) hx1 hy1,ZMI,ZFh _ _ hg0 hx1 hgl,ZMI];dsimp only;rw[ZFh _ _ hg0 hy1 hgl,ZMI];dsimp only;rw[ZA8 _ (ZwX _) (by omega),ZMI,ZA8 _ (ZwX _) (by omega),ZMI,ZtU,ZtU]
theorem ZF1 (x y:Int) (hy:y≠0) (hx1:Wl 256 x) (hy1:Wl 256 y):Zs5 (bg x) (bg y)=some (fOf (Rat.divInt x y),0):=by unfold Zs5 Ztw;rw[Zy5,ZzU x hx1,ZMI,ZLP,cond_false,Zy5,ZzU y hy1,ZMI,ZLP,cond_false,ZBy hy,cond_false,ZBc x y hy (ZMp hx1 (by decide)) (ZMp hy1 (by decide)),ZMI]
theorem ZIU (x y:Int) (hy:y≠0) (h1: -9223372036854775808≤x) (h2:x≤9223372036854775807) (h3: -9223372036854775808≤y) (h4:y≤9223372036854775807):Zsp x y=some (fOf (Rat.divInt x y),0):=by unfold Zsp;rw[ZyE x h1 h2,ZMI,ZyE y h3 h4,ZMI,ZF1 x y hy (ZKs h1 h2) (ZKs h3 h4),ZMI]
theorem ZES (x y:Int) (hy:y≠0) (h1: -9223372036854775808≤x) (h2:x≤9223372036854775807) (h3: -9223372036854775808≤y) (h4:y≤9223372036854775807):ZsS x y=some (fOf (Rat.divInt x y)):=by unfold ZsS;rw[ZIU x y hy h1 h2 h3 h4,ZMI]
theorem ZGa (x:Int) (h1: -9223372036854775808≤x) (h2:x≤9223372036854775807):ZtB x=some (fOf (x:Rat)):=by unfold ZtB;rw[ZES x 1 (by decide) h1 h2 (by decide) (by decide),ZMI,ZCE]
theorem ZIA {a b:Nat} (h:wd a=wd b):a=b:=by rw[←ZtU a,←ZtU b,h]
theorem ZCy (x y:Int) (hx:Wl 100000 x) (hy:Wl 100000 y):Zqq (bg x) (bg y)=some (decide (x=y)):=by
 unfold Wl at hx hy;refine Zqz ?_;unfold Zqq Zr1;rw[ZAp,ZAp,ZqR,ZqR,Zol,Zol]
 by_cases hs:decide (x < 0)=decide (y < 0)
 ·rw[hs,beq_self_eq_true,ZLP,cond_false]
  by_cases hl:(wd x.natAbs).length=(wd y.natAbs).length
  ·rw[hl,bne_self_eq_false,cond_false,ZnC];refine ZnK (Zug ZyS (wd y.natAbs).length (by omega) (fun i (_:Unit)=>(iL (wd x.natAbs),((wd y.natAbs).length:Int),i,bg y)) (fun i _=>(wd x.natAbs).take i=(wd y.natAbs).take i)
    (Q:=fun r=>r= .ret false∧wd x.natAbs≠wd y.natAbs∨r= .brk ()∧wd x.natAbs=wd y.natAbs) () (by rw[List.take_zero,List.take_zero]) ?_ ?_) ?_
   ·rintro rec i ⟨⟩ hi hP ih;have hi2:i < (wd x.natAbs).length:=by omega
    unfold ZtI Zrj;dsimp only;rw[Zog];refine⟨fun _=> ?_,fun h=>by have:=of_decide_eq_false h;omega⟩;rw[ZqR,ZvT hi2,ZnC,ZnB,ZvT hi,ZnC,ZnB,Zog];refine⟨fun h=> ?_,fun h=> ?_⟩
    ·rw[ZnB];refine .inl ⟨rfl,fun e=> ?_⟩;have h1:(wd y.natAbs)[i]=(wd x.natAbs)[i]:=by simp only[e]
     rw[h1,bne_self_eq_false]at h;exact absurd h (by decide)
    ·rw[ZnF];refine⟨ZnJ (by omega),ih () ?_⟩;rw[bne_eq_false_iff_eq]at h;have h1:(wd y.natAbs)[i]=(wd x.natAbs)[i]:=by omega
     rw[ZMg hi2,ZMg hi,hP,h1]
   ·rintro rec ⟨⟩ hP;unfold ZtI Zrj;dsimp only;rw[Zog];refine⟨fun h=>by have:=of_decide_eq_true h;omega,fun _=> ?_⟩;rw[ZnB];rw[ZMe,←hl,ZMe]at hP;exact .inr ⟨rfl,hP⟩
   ·rintro r (⟨rfl,h⟩ |⟨rfl,h⟩)
    ·exact ZnB.2 (decide_eq_false (fun e=>h (by rw[e]))).symm
    ·unfold Zuj;have h1:=ZIA h;refine ZnB.2 (decide_eq_true ?_).symm
     by_cases hy0:y < 0
     ·have hx0:x < 0:=by rw[decide_eq_true hy0]at hs;exact of_decide_eq_true hs
      omega
     ·have hx0:¬x < 0:=by rw[decide_eq_false hy0]at hs;exact of_decide_eq_false hs
      omega
  ·have:(((wd x.natAbs).length:Int) != ((wd y.natAbs).length:Int))=true:=by rw[bne_iff_ne];omega
   rw[this,cond_true,ZnB];exact(decide_eq_false (fun e=>hl (by rw[e]))).symm
 ·rw[beq_eq_false_iff_ne.2 hs,ZLO,cond_true,cond_true,ZnB];exact(decide_eq_false (fun e=>hs (by rw[e]))).symm
theorem ZDf (p q:Rat) (hp:Wq 256 p) (hq:Wq 256 q):Zrk (fOf p) (fOf q)=some (decide (p=q)):=by
 have m:∀{x:Int},Wl 256 x→Wl 100000 x:=fun h=>ZMp h (by decide)
 unfold Zrk Ztr fOf;dsimp only;rw[ZCy _ _ (m hp.1) (m hq.1),ZMI]
 by_cases h1:p.num=q.num
 ·rw[decide_eq_true h1,cond_true,ZCy _ _ (m hp.2) (m hq.2),ZMI];congr 1
  by_cases h2:p.den=q.den
  ·rw[decide_eq_true (by omega),decide_eq_true (Rat.ext h1 h2)]
  ·rw[decide_eq_false (by omega),decide_eq_false (fun e=>h2 (by rw[e]))]
 ·rw[decide_eq_false h1,cond_false,decide_eq_false (fun e=>h1 (by rw[e]))]
end Go.Proofs
namespace Go.Proofs
open Go Eng
theorem ZHv (a b:Nat) (ha:(wd a).length≤100000) (hb:(wd b).length≤100000):ZtD (iL (wd a)) (iL (wd b))=some (iL (wd (a*b))):=by
 refine Zqz ?_;unfold ZtD;rw[Zol,Zol,ZnF,ZnF,ZnC,←ZLT,ZLU,ZCi];refine⟨ZnJ (by omega),ZAH (by omega), ?_⟩;generalize hm:(wd a).length=m at ha⊢
 generalize hn:(wd b).length=n at hb⊢
 refine ZnK (Zug ZzL m (by omega) (fun i (s:List Nat)=>(iL (wd a),iL (wd b),i,iL s)) (fun i s=>s.length=m+n∧Dg s∧val s=val ((wd a).take i)*b∧∀k,i+n≤k→k < m+n→s[k]? =some 0)
  (Q:=fun y=>∃(o:List Nat),y=iL o∧Dg o∧o.length=m+n∧val o=a*b) (List.replicate (m+n) 0) ⟨by simp,ZFi _,by rw[ZDB];simp[val],fun k _ h=>by rw[List.getElem?_replicate,if_pos h]⟩ ?_ ?_) ?_
 ·rintro rec i s hlt ⟨hl,hd,hv,hz⟩ ih;have hi:i < (wd a).length:=by omega
  have h1:=(ZwX a).get hi;unfold Zu1 ZsZ;dsimp only;rw[Zog,Zol,hm];refine⟨fun _=> ?_,fun h=>by simp only[decide_eq_false_iff_not]at h;omega⟩;rw[ZnC];generalize ex:(wd a)[i]=x at h1;refine ZnK (Zug ZzK n (by omega) (fun j (t:Nat×List Nat)=>(iL (wd a),iL (wd b),(i:Int),(t.1:Int),j,iL t.2)) (fun j t=>t.1 < Bw∧t.2.length=m+n∧Dg t.2∧val t.2+Bw ^ (i+j)*t.1=val s+Bw ^ i*(x*val ((wd b).take j))∧∀k,i+n≤k→k < m+n→t.2[k]? =some 0)
   (Q:=fun y=>∃(c:Nat) (o:List Nat),y=(iL (wd a),iL (wd b),(i:Int),(c:Int),iL o)∧c < Bw∧o.length=m+n∧Dg o∧val o+Bw ^ (i+n)*c=val s+Bw ^ i*(x*b)∧∀k,i+n≤k→k < m+n→o[k]? =some 0) (0,s) ⟨by simp only[Bw];omega,hl,hd,by simp[val],hz⟩ ?_ ?_) ?_
  ·rintro rec2 j ⟨c,o⟩ hj ⟨hc,hol,hod,hov,hoz⟩ ih2;dsimp only at hc hol hod hov hoz ih2;have hj2:j < (wd b).length:=by omega
   have h2:=(ZwX b).get hj2;have hij:i+j < o.length:=by omega
   have h3:=hod.get hij;unfold Zu0 ZsY;dsimp only;rw[Zog,Zol,hn];refine⟨fun _=> ?_,fun h=>by simp only[decide_eq_false_iff_not]at h;omega⟩;rw[ZvT hi,ex,ZnC,ZnB,ZvT hj2,ZnC,ZnB,ZnF,ZnF,←ZLT,ZLU,ZA4 hij,ZnC,ZnB,ZnF,ZnF,ZnF,ZnF];generalize ey:(wd b)[j]=y at h2;generalize ee:o[i+j]=e at h3;rw[ZIV hc h1 h2 h3,Zwr,show (32:Int)=((32:Nat):Int)from rfl,ZAD 32 (by omega),Zol,ZAl];refine⟨ZnJ (by omega),Zpk ⟨by omega,by omega⟩,ZnJ (by omega),Zpk ⟨by omega,by omega⟩,by decide,ZnJ (by omega), ?_⟩;refine ih2 ((c+x*y+e) / Bw,o.set (i+j) ((c+x*y+e) % Bw)) ⟨ZGC hc h1 h2 h3,by simp[hol],hod.set _ (ZMu _ (by decide)), ?_,fun k hk hk2=> ?_⟩
   ·dsimp only;have q1:=ZAq o (i+j) ((c+x*y+e) % Bw) hij;rw[ee]at q1;have q2:Bw ^ (i+j)*((c+x*y+e) % Bw+Bw*((c+x*y+e) / Bw))=Bw ^ (i+j)*(c+x*y+e):=by rw[Nat.mod_add_div]
    rw[ZMv,ZMv,ZMv]at q2;rw[←Nat.add_assoc,ZMD,ZMw,ZoQ hj2,ey,ZMv,ZMv];have q3:Bw ^ i*(x*(Bw ^ j*y))=Bw ^ (i+j)*(x*y):=by rw[ZMB,ZMw,ZMy x]
    omega
   ·dsimp only;rw[List.getElem?_set_ne (by omega)];exact hoz k hk hk2
  ·rintro rec2 ⟨c,o⟩ ⟨hc,hol,hod,hov,hoz⟩;dsimp only at hc hol hod hov hoz;unfold Zu0 ZsY;dsimp only;rw[Zog,Zol,hn];refine⟨fun h=>by have:=of_decide_eq_true h;omega,fun _=> ?_⟩;rw[ZnB];rw[ZMf (by omega),ZtU]at hov;exact⟨c,o,rfl,hc,hol,hod,hov,hoz⟩
  ·rintro y ⟨c,o,rfl,hc,hol,hod,hov,hoz⟩;dsimp only;unfold ZvZ;rw[Zol,hn,ZnF,ZnF,ZnF,←ZLT,ZLU,ZwW hc,ZAl,Zol];refine⟨ZnJ (by omega),Zpk ⟨by omega,by omega⟩,ZnJ (by omega), ?_⟩;have hp:i+n < o.length:=by omega
   have h0:o[i+n]=0:=by have:=hoz (i+n) (ZMo _) (by omega);rw[ZL1 hp]at this;exact Option.some.inj this
   have q1:=ZAq o (i+n) c hp;rw[h0,Nat.mul_zero,Nat.add_zero]at q1;refine ih (o.set (i+n) c) ⟨by simp[hol],hod.set _ hc, ?_,fun k hk hk2=> ?_⟩
   ·rw[q1,hov,hv,ZoQ hi,ex,Nat.add_mul,ZMw]
   ·rw[List.getElem?_set_ne (by omega)];exact hoz k (by omega) hk2
 ·rintro rec s ⟨hl,hd,hv,hz⟩;unfold Zu1 ZsZ;dsimp only;rw[Zog,Zol,hm];refine⟨fun h=>by have:=of_decide_eq_true h;omega,fun _=> ?_⟩;rw[ZnB];rw[ZMf (by omega),ZtU]at hv;exact⟨s,rfl,hd,hl,hv⟩
 ·rintro y ⟨o,rfl,hd,hl,hv⟩;unfold ZvY;rw[ZA9 hd (by omega),ZnC,ZnB,ZnB,hv]
theorem ZHU (a b:Nat) (ha:(wd a).length≤100000) (hb:(wd b).length≤100000):∃o:List Nat,ZrJ (iL (wd a)) (iL (wd b))=some (iL o)∧Dg o∧o.length≤100001∧val o=a+b:=by
 obtain⟨m,hma,hmb,hm2,hmx⟩:∃m:Nat,(wd a).length≤m∧(wd b).length≤m∧m≤100000∧∀i,i < m→i < (wd a).length∨i < (wd b).length:=by
  by_cases h:(wd a).length≤(wd b).length
  ·exact⟨(wd b).length,h,ZMo _,hb,fun i hi=> .inr hi⟩
  ·exact⟨(wd a).length,ZMo _,by omega,ha,fun i hi=> .inl hi⟩
 suffices h:wp (ZrJ (iL (wd a)) (iL (wd b))) (fun x=>∃o:List Nat,x=iL o∧Dg o∧o.length≤100001∧val o=a+b) by obtain⟨x,hx,o,rfl,h⟩:=h;exact⟨o,hx,h⟩
 unfold ZrJ;rw[ZnC];refine ZnK (Zug ZzO m (by omega) (fun i (s:Nat×List Nat)=>(iL (wd a),iL (wd b),(s.1:Int),i,iL s.2)) (fun i s=>s.1≤1∧s.2.length=i∧Dg s.2∧val s.2+Bw ^ i*s.1=val ((wd a).take i)+val ((wd b).take i))
  (Q:=fun y=>∃(c:Nat) (o:List Nat),y=((c:Int),iL o)∧c≤1∧Dg o∧o.length=m∧val o+Bw ^ m*c=a+b) (0,[]) ⟨by simp,rfl,ZA6,by simp[val]⟩ ?_ ?_) ?_
 ·rintro rec i ⟨c,o⟩ hlt ⟨hc,hl,hd,hv⟩ ih;dsimp only at hc hl hd hv ih;have h1:=ZBk (ZwX a) i;have h2:=ZBk (ZwX b) i;have j3:∀x y:Nat,(wd a).getD i 0=x→(wd b).getD i 0=y→wp (ZrX (fun a b c i out=>rec (a,b,c,i,out)) (iL (wd a)) (iL (wd b)) ((c+x+y:Nat):Int) (i:Int) (iL o)) (fun y=>∃(c:Nat) (o:List Nat),y=((c:Int),iL o)∧c≤1∧Dg o∧o.length=m∧val o+Bw ^ m*c=a+b):=fun x y ex ey=>by
   rw[ex]at h1;rw[ey]at h2;unfold ZrX;rw[ZnF,ZnF,ZnF,Zwr,show (32:Int)=((32:Nat):Int)from rfl,ZAD 32 (by omega),Zol];refine⟨Zyk (by simp only[ZL9];omega),by decide,ZnJ (by omega), ?_⟩;have:=ih ((c+x+y) / Bw,o++[(c+x+y) % Bw]) ⟨by simp only[Bw]at h1 h2⊢;omega,by simp[hl],hd.app (ZAA (ZMu _ (by decide))), ?_⟩
   ·rw[ZCj]at this;exact this
   ·dsimp only;rw[Zxi,hl,ZMD,Zx4,Zx4,ex,ey,Nat.add_assoc,ZMw,←ZMv,Nat.mod_add_div,ZMv,ZMv];omega
  have j2:∀x:Nat,(wd a).getD i 0=x→wp (ZrY (fun a b c i out=>rec (a,b,c,i,out)) (iL (wd a)) (iL (wd b)) ((c+x:Nat):Int) (i:Int) (iL o)) (fun y=>∃(c:Nat) (o:List Nat),y=((c:Int),iL o)∧c≤1∧Dg o∧o.length=m∧val o+Bw ^ m*c=a+b):=fun x ex=>by
   have hx:=h1;rw[ex]at hx;unfold ZrY;rw[Zol,Zog];refine⟨fun h=> ?_,fun h=> ?_⟩
   ·have hib:i < (wd b).length:=by have:=of_decide_eq_true h;omega
    have ey:(wd b).getD i 0=(wd b)[i]:=by rw[ZL0,ZL1 hib];rfl
    have hy:=(ZwX b).get hib;rw[ZvT hib,ZnC,ZnB,Zo8 (by simp only[Bw]at hy;omega),←ZLT,Zo8 (by simp only[Bw]at hx hy;omega)];exact j3 x _ ex ey
   ·have hib:¬i < (wd b).length:=by have:=of_decide_eq_false h;omega
    exact j3 x 0 ex (by rw[ZL0,ZL2 (by omega)];rfl)
  have j1:wp (ZqF (fun a b c i out=>rec (a,b,c,i,out)) (iL (wd a)) (iL (wd b)) (c:Int) (i:Int) true (iL o)) (fun y=>∃(c:Nat) (o:List Nat),y=((c:Int),iL o)∧c≤1∧Dg o∧o.length=m∧val o+Bw ^ m*c=a+b):=by
   unfold ZqF;rw[cond_true,Zol,Zog];refine⟨fun h=> ?_,fun h=> ?_⟩
   ·have hib:i < (wd a).length:=by have:=of_decide_eq_true h;omega
    have ey:(wd a).getD i 0=(wd a)[i]:=by rw[ZL0,ZL1 hib];rfl
    have hy:=(ZwX a).get hib;rw[ZvT hib,ZnC,ZnB,Zo8 (by simp only[Bw]at hy;omega),←ZLT,Zo8 (by simp only[Bw]at hy;omega)];exact j2 _ ey
   ·have hib:¬i < (wd a).length:=by have:=of_decide_eq_false h;omega
    exact j2 0 (by rw[ZL0,ZL2 (by omega)];rfl)
  unfold Zu6 Zs2;dsimp only;rw[Zol,Zol,Zog];refine⟨fun _=>j1,fun h=> ?_⟩;have hib:¬i < (wd a).length:=by have:=of_decide_eq_false h;omega
  rw[decide_eq_true (by rcases hmx i hlt with h |h<;>omega)];exact j1
 ·rintro rec ⟨c,o⟩ ⟨hc,hl,hd,hv⟩;dsimp only at hc hl hd hv;unfold Zu6 Zs2;dsimp only;rw[Zol,Zol,decide_eq_false (by omega),cond_false,decide_eq_false (by omega)];unfold ZqF;rw[cond_false,ZnB];rw[ZMf hma,ZMf hmb,ZtU,ZtU]at hv;exact⟨c,o,rfl,hc,hd,hl,hv⟩
 ·rintro y ⟨c,o,rfl,hc,hd,hl,hv⟩;dsimp only;unfold Zv7;have e:iL o++[(c:Int)]=iL (o++[c]):=by rw[ZCj];rfl
  rw[ZwW (by omega),ZnF,Zol,e,ZnB];exact⟨Zyk (by simp only[ZL9];omega),_,rfl,hd.app (ZAA (by unfold Bw;omega)),by simp;omega,by rw[Zxi,hl,hv]⟩
end Go.Proofs
namespace Go.Proofs
open Go Eng
theorem ZAS (x y:Int) (hx:Wl 50000 x) (hy:Wl 50000 y):Zn7 (bg x) (bg y)=some (bg (x*y)):=by unfold Zn7;have:=ZDQ hx hy;rw[ZqR,ZqR,ZHv _ _ (by omega) (by omega),ZMI,ZA8 _ (ZwX _) (by omega),ZtU,ZMI,ZFn]
theorem ZD5 (x y:Int) (hx:Wl 50000 x) (hy:Wl 50000 y):Zqs (bg x) (bg y)=some (bg (x+y)):=by
 unfold Wl at hx hy;unfold Zqs;have h1:=ZC8 hx hy;rw[ZqR,ZqR,ZAp,ZAp];have opp:decide (x < 0)≠decide (y < 0)→ZoX (iL (wd x.natAbs)) (iL (wd y.natAbs))=some (ZCA x.natAbs y.natAbs):=fun _=>ZCn _ _ (by omega) (by omega)
 by_cases hs:decide (x < 0)=decide (y < 0)
 ·obtain⟨o,ho,hd,hl,hv⟩:=ZHU x.natAbs y.natAbs (by omega) (by omega);rw[hs,beq_self_eq_true,cond_true,ho,ZMI,ZA8 _ hd (by omega),hv,ZMI];congr 2
  by_cases hy0:y < 0
  ·have hx0:x < 0:=by rw[decide_eq_true hy0]at hs;exact of_decide_eq_true hs
   rw[decide_eq_true hy0,if_pos rfl];omega
  ·have hx0:¬x < 0:=by rw[decide_eq_false hy0]at hs;exact of_decide_eq_false hs
   rw[decide_eq_false hy0,if_neg (by decide)];omega
 ·rw[beq_eq_false_iff_ne.2 hs,cond_false,opp hs,ZMI];rcases ZMs x.natAbs y.natAbs with hlt |hge
  ·have:=Zux (Nat.sub_le y.natAbs x.natAbs);rw[Zy3 hlt,decide_eq_false (by omega),cond_false,ZB6 _ _ (by omega) (by omega),ZMI,ZA8 _ (ZwX _) (by omega),ZtU,ZMI];congr 2
   by_cases hy0:y < 0
   ·have hx0:¬x < 0:=fun h=>hs (by rw[decide_eq_true hy0,decide_eq_true h])
    rw[decide_eq_true hy0,if_pos rfl];omega
   ·have hx0:x < 0:=Decidable.byContradiction fun h=>hs (by rw[decide_eq_false hy0,decide_eq_false h])
    rw[decide_eq_false hy0,if_neg (by decide)];omega
  ·have hn:ZCA x.natAbs y.natAbs≥0:=by
    rcases ZMs y.natAbs x.natAbs with h |h
    ·rw[ZyQ h];decide
    ·rw[show x.natAbs=y.natAbs by omega,Zx2];decide
   have:=Zux (Nat.sub_le x.natAbs y.natAbs);rw[decide_eq_true hn,cond_true,ZB6 _ _ hge (by omega),ZMI,ZA8 _ (ZwX _) (by omega),ZtU,ZMI];congr 2
   by_cases hx0:x < 0
   ·have hy0:¬y < 0:=fun h=>hs (by rw[decide_eq_true hx0,decide_eq_true h])
    rw[decide_eq_true hx0,if_pos rfl];omega
   ·have hy0:y < 0:=Decidable.byContradiction fun h=>hs (by rw[decide_eq_false hx0,decide_eq_false h])
    rw[decide_eq_false hx0,if_neg (by decide)];omega
theorem ZE0 (z:Int) (hz:Wl 100000 z):Zsq (bg z)=some (bg (-z)):=by
 unfold Wl at hz;unfold Zsq;rw[ZAp,ZqR,ZA8 _ (ZwX _) (by omega),ZtU,ZMI];congr 2
 by_cases h:z < 0
 ·rw[decide_eq_true h,if_neg (by decide)];omega
 ·rw[decide_eq_false h,if_pos (by decide)];omega
theorem ZDa (q:Rat) (h:Wq 256 q):ZqT (fOf q)=some true:=by
 have hn:=h.1;have hd:=h.2;have hd0:=q.den_nz;unfold ZqT Zp0 fOf;dsimp only;rw[Zy5,ZzU _ h.1,ZMI,ZLP,cond_false,Zy5,ZzU _ h.2,ZMI,ZLP,cond_false,ZAp,decide_eq_false (by omega),cond_false,ZBy (by omega),cond_false,ZqR,ZqR,Zol];unfold Wl at hn hd;have h1:(wd 1).length≤1:=Zy6 (by decide);have hc:ZMm q.num.natAbs (q.den:Int).natAbs=1:=q.reduced
 by_cases h0:q.num=0
 ·rw[h0]at hc;have e:(q.den:Int).natAbs=1:=by rwa [show (0:Int).natAbs=0 from rfl,Nat.gcd_zero_left]at hc
  rw[h0,show (0:Int).natAbs=0 from rfl,Zxg,e,←ZCa,ZCn 1 1 (by omega) (by omega),Zx2];rfl
 ·have hl:=Zws (n:=q.num.natAbs) (by omega);rw[beq_eq_false_iff_ne.2 (by omega),cond_false,ZFf _ _ (by omega) (by omega) (by omega) (by omega),hc,ZMI,←ZCa,ZCn 1 1 (by omega) (by omega),Zx2];rfl
theorem ZEl (x y:Int) (hy:y≠0) (hx1:Wl 50000 x) (hy1:Wl 50000 y) (hq:Wq 256 (Rat.divInt x y)):ZrT (bg x) (bg y)=some (fOf (Rat.divInt x y),0):=by have h1:=hq.1;have h2:=hq.2;unfold Wl at h1 h2;unfold ZrT ZsJ;rw[ZBc x y hy hx1 hy1,ZMI];unfold fOf;rw[ZqR,ZqR,Zol,Zol,decide_eq_false (by omega),cond_false,decide_eq_false (by omega),cond_false]
theorem ZHV {a b:Rat} {k l:Nat} (ha:Sz k a) (hb:Sz l b) (hk:k+l+1≤8192):ZtF (fOf a) (fOf b)=some (fOf (a+b),0):=by
 have h1:=a.den_nz;have h2:=b.den_nz;have qa:=ha.wq (by omega);have qb:=hb.wq (by omega);have w:∀{x y:Int},Wl 256 x→Wl 256 y→Wl 512 (x*y):=fun hx hy=>by unfold Wl;rw[ZLR];exact ZDQ hx hy
 have m:∀{n:Nat} {x:Int},Wl n x→n≤50000→Wl 50000 x:=fun h h'=>ZMp h h'
 have w1:=w qa.1 qb.2;have w2:=w qb.1 qa.2;have w3:=w qa.2 qb.2;have w4:Wl 513 (a.num*(b.den:Int)+b.num*(a.den:Int)):=ZMp (Zux (Int.natAbs_add_le _ _)) (ZC8 w1 w2);have hd:(a.den:Int)*(b.den:Int)≠0:=Int.mul_ne_zero (by omega) (by omega);unfold ZtF Zt4;rw[ZDa a qa,ZMI,ZLP,cond_false,ZDa b qb,ZMI,ZLP,cond_false];show ((Zn7 (bg a.num) (bg (b.den:Int))).bind fun q=>(Zn7 (bg b.num) (bg (a.den:Int))).bind fun q_1=>(Zqs q q_1).bind fun q_2=>(Zn7 (bg (a.den:Int)) (bg (b.den:Int))).bind _)=_;rw[ZAS _ _ (m qa.1 (by omega)) (m qb.2 (by omega)),ZMI,ZAS _ _ (m qb.1 (by omega)) (m qa.2 (by omega)),ZMI,ZD5 _ _ (m w1 (by omega)) (m w2 (by omega)),ZMI,ZAS _ _ (m qa.2 (by omega)) (m qb.2 (by omega)),ZMI];have hw:Wq 256 (Rat.divInt (a.num*(b.den:Int)+b.num*(a.den:Int)) ((a.den:Int)*(b.den:Int))):=by rw[ZBd];exact(ha.add hb).wq hk
 rw[ZEl _ _ hd (m w4 (by omega)) (m w3 (by omega)) hw,ZBd,ZMI]
theorem ZGm {a b:Rat} {k l:Nat} (ha:Sz k a) (hb:Sz l b) (hk:k+l+1≤8192):ZtC (fOf a) (fOf b)=some (fOf (a+b)):=by unfold ZtC;rw[ZHV ha hb hk];rfl
end Go.Proofs
namespace Go.Proofs
open Go Eng
section
variable {α:Type} (lt:α→α→Bool)
def ZGF (x:α):List α→List α
 | []=>[x]
 |p::r=>if lt x p then p::ZGF x r else x::p::r
def ZDz (x:α) (A:List α):List α:=(ZGF lt x A.reverse).reverse
def ZAb (l:List α):List α:=l.foldl (fun s x=>ZDz lt x s) []
variable {lt}
theorem ZGb (x:α):ZDz lt x []=[x]:=rfl
theorem ZE9 (x p:α) (A:List α):ZDz lt x (A++[p])=if lt x p then ZDz lt x A++[p]else A++[p,x]:=by unfold ZDz;rw[List.reverse_append,List.reverse_singleton,List.singleton_append,ZGF];split;rotate_left;simp;rw[List.reverse_cons]
theorem ZCh (x:α):∀l:List α,(ZGF lt x l).Perm (x::l)
 | []=> .refl _
 |p::r=>by
  unfold ZGF;split
  ·exact((ZCh x r).cons p).trans (.swap _ _ _)
  ·exact .refl _
theorem ZDt (x:α) (A:List α):(ZDz lt x A).Perm (A++[x]):=by unfold ZDz;refine(List.reverse_perm _).trans ((ZCh x _).trans ?_);refine(List.Perm.cons x (List.reverse_perm A)).trans ?_;exact(List.perm_append_singleton x A).symm
theorem ZEv (l:List α) (x:α):ZAb lt (l++[x])=ZDz lt x (ZAb lt l):=by simp[ZAb]
theorem Zxf (l:List α):(ZAb lt l).Perm l:=by
 have key:∀(l s:List α),(l.foldl (fun s x=>ZDz lt x s) s).Perm (s++l):=by
  intro l
  induction l with
  |nil=>intro s;simp
  |cons x l ih=>
   intro s;refine(ih _).trans ?_;refine((ZDt x s).append_right l).trans ?_;simp
 simpa[ZAb]using key l []
theorem ZAz (l:List α):(ZAb lt l).length=l.length:=(Zxf l).length_eq
theorem ZCg (P:α→Prop) (le:α→α→Prop) (hlt:∀x p,P x→P p→lt x p=true→le x p) (hnlt:∀x p,P x→P p→lt x p=false→le p x) (htr:∀a b c,P a→P b→P c→le a b→le b c→le a c)
  (x:α) (hx:P x):∀l:List α,(∀y∈l,P y)→l.Pairwise (fun a b=>le b a)→(ZGF lt x l).Pairwise (fun a b=>le b a)
 | [],_,_=>by simp[ZGF]
 |p::r,hP,h=>by
  have hp:=hP p (by simp);have hr:=ZMc.1 h;unfold ZGF;cases hc:lt x p with
  |true=>
   rw[if_pos rfl,ZMc];refine⟨fun y hy=> ?_,ZCg P le hlt hnlt htr x hx r (fun y hy=>hP y (by simp[hy])) hr.2⟩;rcases ZMb.1 ((ZCh x r).mem_iff.1 hy)with rfl |hy
   ·exact hlt _ _ hx hp hc
   ·exact hr.1 y hy
  |false=>
   rw[if_neg (by simp),ZMc];refine⟨fun y hy=> ?_,h⟩;have hxp:=hnlt x p hx hp hc;rcases ZMb.1 hy with rfl |hy
   ·exact hxp
   ·exact htr _ _ _ (hP y (by simp[hy])) hp hx (hr.1 y hy) hxp
theorem ZBO (P:α→Prop) (le:α→α→Prop) (hlt:∀x p,P x→P p→lt x p=true→le x p) (hnlt:∀x p,P x→P p→lt x p=false→le p x) (htr:∀a b c,P a→P b→P c→le a b→le b c→le a c)
  (l:List α) (hl:∀y∈l,P y):(ZAb lt l).Pairwise le:=by
 have key:∀(l s:List α),(∀y∈l,P y)→(∀y∈s,P y)→s.Pairwise le→(l.foldl (fun s x=>ZDz lt x s) s).Pairwise le:=by
  intro l
  induction l with
  |nil=>intro s _ _ h;exact h
  |cons x l ih=>
   intro s hl hs h;refine ih _ (fun y hy=>hl y (by simp[hy])) (fun y hy=> ?_) ?_
   ·rcases List.mem_append.1 ((ZDt x s).mem_iff.1 hy)with hy |hy
    ·exact hs y hy
    ·simp only[List.mem_singleton]at hy;subst hy;exact hl _ (by simp)
   ·unfold ZDz;rw[List.pairwise_reverse];exact ZCg P le hlt hnlt htr x (hl x (by simp)) s.reverse (fun y hy=>hs y (List.mem_reverse.1 hy)) (by rw[List.pairwise_reverse];exact h)
 exact key l [] hl (by simp) (by simp)
theorem ZB7 (P:α→Prop) (le:α→α→Prop) (hanti:∀a b,P a→P b→le a b→le b a→a=b):∀{l l':List α},(∀y∈l,P y)→l.Perm l'→l.Pairwise le→l'.Pairwise le→l=l'
 | [],l',_,hp,_,_=>(List.nil_perm.1 hp).symm
 |x::l,[],_,hp,_,_=>by have:=hp.length_eq;simp at this
 |x::l,y::l',hP,hp,h,h'=>by
  have hx:=ZMc.1 h;have hy:=ZMc.1 h';have hPy:P y:=hP y (hp.mem_iff.2 (by simp));have e:x=y:=by
   rcases ZMb.1 (hp.mem_iff.1 (List.mem_cons_self (a:=x) (l:=l)))with e |hxm
   ·exact e
   ·rcases ZMb.1 (hp.mem_iff.2 (List.mem_cons_self (a:=y) (l:=l')))with e |hym
    ·exact e.symm
    ·exact hanti x y (hP x (by simp)) hPy (hx.1 y hym) (hy.1 x hxm)
  subst e;rw[ZB7 P le hanti (fun z hz=>hP z (by simp[hz])) hp.cons_inv hx.2 hy.2]
end
theorem ZEN {α:Type} (A C:List α) (p x:α):((A++p::x::C).set (A.length+1) p).set A.length x=A++x::p::C:=by
 induction A with
 |nil=>rfl
 |cons a A ih=>simp only[List.cons_append,ZL6,List.set_cons_succ,ih]
end Go.Proofs
namespace Go.Proofs
open Go Eng
theorem ZB2 {σ τ X:Type} {f:Nat→σ→Option X} {body:(σ→Option X)→σ→Option X} (hf:∀n s,f (n+1) s=body (f n) s)
  (st:τ→σ) (P:τ→Prop) (m:τ→Nat) {Q:X→Prop} (t0:τ) (h0:P t0) (hm:m t0≤9223372036854775808)
  (step:∀(rec:σ→Option X) t,P t→(∀t',P t'→m t' < m t→wp (rec (st t')) Q)→wp (body rec (st t)) Q):wp (f big (st t0)) Q:=by
 have key:∀(n:Nat) t,P t→m t < n→wp (f n (st t)) Q:=by
  intro n
  induction n with
  |zero=>intro t _ h;omega
  |succ n ih=>
   intro t hP hm;rw[hf];exact step _ t hP fun t' h' hlt=>ih t' h' (by omega)
 exact key big t0 h0 (by rw[big_eq];omega)
def isD (b:UInt8):Bool:=decide (48≤b.toNat)&&decide (b.toNat≤57)
def ZCS:Str→Bool×Str
 | []=>(false,[])
 |b::r=>bif b == 45 then (true,r)else bif b == 43 then (false,r)else (false,b::r)
def okD (s:Str) (m:Nat):Bool:=decide (1≤s.length)&&decide (s.length≤m)&&s.all isD
def ZAk (body:Str):Option (Str×Str):=
 bif decide (1≤(body.takeWhile isD).length)&&decide ((body.takeWhile isD).length≤15)then
  (match body.dropWhile isD with
  | []=>some (body.takeWhile isD,[])
  |c::p=>bif c == 46&&okD p 9 then some (body.takeWhile isD,p)else none)
 else none
def ZAx (t:Str):Option (Bool×Str×Str):=(ZAk (ZCS t).2).map fun x=>((ZCS t).1,x.1,x.2)
def n46 (b:UInt8):Bool:=b != 46
theorem ZBW {p:UInt8→Bool}:∀(F R:Str),F.all p=true→(∀b r,R=b::r→p b=false)→(F++R).takeWhile p=F∧(F++R).dropWhile p=R
 | [],[],_,_=>⟨rfl,rfl⟩
 | [],b::r,_,h=>by have:=h b r rfl;simp[List.takeWhile,List.dropWhile,this]
 |x::F,R,h,hR=>by rw[ZLV,ZIO]at h;obtain⟨h1,h2⟩:=ZBW F R h.2 hR;rw[List.cons_append,List.takeWhile_cons,ZLY,h.1,if_pos rfl,if_pos rfl,h1,h2];exact⟨rfl,rfl⟩
theorem ZGt (p:UInt8→Bool):∀l:Str,(l.takeWhile p).all p=true
 | []=>rfl
 |x::l=>by
  rw[List.takeWhile_cons];cases h:p x with
  |true=>simp only[if_true,ZLV,h,ZLQ];exact ZGt p l
  |false=>rfl
theorem ZC1 (p:UInt8→Bool):∀(l:Str) b r,l.dropWhile p=b::r→p b=false
 | [],b,r,h=>by simp at h
 |x::l,b,r,h=>by
  rw[ZLY]at h;cases hx:p x with
  |true=>rw[hx,if_pos rfl]at h;exact ZC1 p l b r h
  |false=>rw[hx,if_neg (by simp)]at h;simp only[ZLX]at h;rw[←h.1];exact hx
theorem ZHC {b:UInt8} (h:isD b=true):n46 b=true:=by unfold n46;rw[bne_iff_ne];rintro rfl;exact absurd h (by decide)
theorem ZHT {l:Str} (h:l.all isD=true):l.all n46=true:=ZLW.2 fun b hb=>ZHC (ZLW.1 h b hb)
theorem ZCc {b:UInt8} (h:n46 b=false):b=46:=by unfold n46 at h;simpa using h
theorem ZBq (body:Str):ZAk body=bif okD (body.takeWhile n46) 15&&((body.dropWhile n46).isEmpty||okD (body.dropWhile n46).tail 9)then some (body.takeWhile n46,(body.dropWhile n46).tail)else none:=by
 have hsp:body.takeWhile n46++body.dropWhile n46=body:=ZMd;cases hall:(body.takeWhile n46).all isD with
 |true=>
  have hs:=ZBW (p:=isD) (body.takeWhile n46) (body.dropWhile n46) hall (fun b r e=>by rw[ZCc (ZC1 n46 body b r e)];decide)
  rw[hsp]at hs;unfold ZAk;rw[hs.1,hs.2];have e:okD (body.takeWhile n46) 15=(decide (1≤(body.takeWhile n46).length)&&decide ((body.takeWhile n46).length≤15)):=by unfold okD;rw[hall,Bool.and_true]
  rw[e];cases (decide (1≤(body.takeWhile n46).length)&&decide ((body.takeWhile n46).length≤15))with
  |false=>rfl
  |true=>
   rw[cond_true,ZLQ];cases hR:body.dropWhile n46 with
   |nil=>rfl
   |cons c p=>
    rw[ZCc (ZC1 n46 body c p hR)];rfl
 |false=>
  have e:okD (body.takeWhile n46) 15=false:=by unfold okD;rw[hall,Bool.and_false]
  rw[e,ZLN,cond_false];have hsp2:body.takeWhile isD++body.dropWhile isD=body:=ZMd;have hD:=ZGt isD body;unfold ZAk;cases (decide (1≤(body.takeWhile isD).length)&&decide ((body.takeWhile isD).length≤15))with
  |false=>rfl
  |true=>
   rw[cond_true];have key:(∀b r,body.dropWhile isD=b::r→b=46)→False:=fun h46=>by have hs:=ZBW (p:=n46) (body.takeWhile isD) (body.dropWhile isD) (ZHT hD) (fun b r e=>by rw[h46 b r e];decide);rw[hsp2]at hs;rw[hs.1,hD]at hall;cases hall
   cases hR:body.dropWhile isD with
   |nil=>exact(key fun b r e=>by rw[hR]at e;cases e).elim
   |cons c p=>
    dsimp only;cases hc:c == 46 with
    |false=>rfl
    |true=>exact(key fun b r e=>by rw[hR]at e;simp only[ZLX]at e;rw[←e.1];exact eq_of_beq hc).elim
def ZAR (l:Str):Nat:=l.foldl (fun n b=>10*n+(b.toNat - 48)) 0
theorem ZDl (l:Str) (b:UInt8):ZAR (l++[b])=10*ZAR l+(b.toNat - 48):=by unfold ZAR;rw[List.foldl_append];rfl
theorem ZHr {l:Str} (h:l.all isD=true):ZAR l < 10 ^ l.length:=by
 have key:∀(l:Str) (n k:Nat),l.all isD=true→n < 10 ^ k→l.foldl (fun n b=>10*n+(b.toNat - 48)) n < 10 ^ (k+l.length):=by
  intro l
  induction l with
  |nil=>intro n k _ h;exact h
  |cons b l ih=>
   intro n k hb hn;rw[ZLV,ZIO]at hb;have hd:=hb.1;unfold isD at hd;simp only[ZIO,decide_eq_true_eq]at hd;have:=ih (10*n+(b.toNat - 48)) (k+1) hb.2 (by rw[ZMD];omega);rw[List.foldl_cons,ZL6]
   rwa [show k+1+l.length=k+(l.length+1) by omega]at this
 have:=key l 0 0 h (by decide)
 rwa [ZMH]at this
def ZHL (x:Bool×Str×Str):Rat:=Rat.divInt (if x.1 then -((ZAR (x.2.1++x.2.2):Nat):Int)else ((ZAR (x.2.1++x.2.2):Nat):Int)) ((10 ^ x.2.2.length:Nat):Int)
structure ZCr (D P:Str):Prop where
 d1:1≤D.length
 d2:D.length≤15
 p:P.length≤9
 dd:D.all isD=true
 pp:P.all isD=true
theorem Zzj {body D P:Str} (h:ZAk body=some (D,P)):ZCr D P:=by
 rw[ZBq]at h;cases hc:(okD (body.takeWhile n46) 15&&((body.dropWhile n46).isEmpty||okD (body.dropWhile n46).tail 9))with
 |false=>rw[hc,cond_false]at h;cases h
 |true=>
  rw[hc,cond_true]at h;simp only[Option.some.injEq,Prod.mk.injEq]at h;obtain⟨rfl,rfl⟩:=h;rw[ZIO]at hc;obtain⟨h1,h2⟩:=hc;unfold okD at h1;simp only[ZIO,decide_eq_true_eq]at h1;cases hR:body.dropWhile n46 with
  |nil=>exact⟨h1.1.1,h1.1.2,by simp,h1.2,by simp⟩
  |cons c p=>
   rw[hR]at h2;simp only[List.isEmpty_cons,Bool.false_or,List.tail_cons]at h2⊢
   unfold okD at h2;simp only[ZIO,decide_eq_true_eq]at h2;exact⟨h1.1.1,h1.1.2,h2.1.2,h1.2,h2.2⟩
theorem ZBb {k:Nat} (h:k≤24):10 ^ k < 2 ^ 80:=ZMq (ZMC (by decide) h) (by decide)
theorem ZA0 {l:Str} (h:l.all isD=true) (hl:l.length≤24):ZAR l < 2 ^ 80:=Nat.lt_trans (ZHr h) (ZBb hl)
theorem ZGq {n:Nat} (h:n < 2 ^ 80):(wd n).length≤3:=ZB1 h 3 (by decide)
end Go.Proofs
namespace Go.Proofs
open Go Eng
theorem ZBP (s:Str) (c:UInt8):Zo9 s [c]=some (match s with |b::_=>b == c | []=>false):=by
 unfold Zo9 Zqy;cases s with
 |nil=>rfl
 |cons b r=>
  rw[decide_eq_true (show ((b::r).length:Int)≥(([c]:Str).length:Int) by simp only[ZL6,ZL8];omega),cond_true,ZsO (by simp only[ZL6,ZL8];omega),chk_true];simp
theorem ZDv (s:Str) (c:UInt8):Zvb s [c]=some (match s with |b::r=>bif b == c then (r,true)else (b::r,false) | []=>([],false)):=by
 unfold Zvb ZqX;rw[ZBP];cases s with
 |nil=>rfl
 |cons b r=>
  rw[ZMI];dsimp only;cases hb:b == c with
  |false=>rfl
  |true=>
   rw[ZLP,cond_false,ZsO (by simp only[ZL6,ZL8];omega),chk_true];rfl
theorem ZBn (s:Str) (c:UInt8):Zuu s [c]=some (match s with |b::r=>bif b == c then r else b::r | []=>[]):=by
 unfold Zuu ZqO;rw[ZBP];cases s with
 |nil=>rfl
 |cons b r=>
  rw[ZMI];dsimp only;cases hb:b == c with
  |false=>rfl
  |true=>
   rw[cond_true,ZsO (by simp only[ZL6,ZL8];omega),chk_true];rfl
theorem ZFb:∀s:Str,Lib.indexByte s 46=if s.dropWhile n46=[]then -1 else ((s.takeWhile n46).length:Int)
 | []=>rfl
 |b::s=>by
  rw[Lib.indexByte,ZFb s,ZLY,List.takeWhile_cons];cases h:n46 b with
  |false=>
   rw[ZCc h];simp
  |true=>
   have hb:(b == 46)=false:=by unfold n46 at h;simpa using h
   simp only[hb,Bool.false_eq_true,if_false,if_true]
   by_cases hd:s.dropWhile n46=[]
   ·simp[hd]
   ·simp only[hd,if_false];rw[if_neg (by simp),ZL6];omega
theorem ZjU {s:Str} (hl:s.length≤9223372036854775807):Zx5 s [46]=some (s.takeWhile n46,(s.dropWhile n46).tail, !(s.dropWhile n46).isEmpty):=by
 have hsp:s.takeWhile n46++s.dropWhile n46=s:=ZMd;have hidx:ZqP s [46]=some (Lib.indexByte s 46):=by
  unfold ZqP Zrq ZqW;rw[show ((([46]:Str).length:Int) == 0)=false from rfl,cond_false]
  by_cases h:([46]:Str)=s
  ·subst h;rfl
  ·rw[show (([46]:Str) == s)=false by simpa using h,cond_false];rfl
 unfold Zx5 Ztx;rw[hidx,ZMI,ZFb];cases hR:s.dropWhile n46 with
 |nil=>
  rw[hR,List.append_nil]at hsp;rw[if_pos rfl,show decide ((-1:Int)≥0)=false from rfl,cond_false,ZMI,hsp];rfl
 |cons c p=>
  have hlen:(s.takeWhile n46).length+(p.length+1)=s.length:=by have:=congrArg List.length hsp;rw[ZL5,hR,ZL6]at this;exact this
  rw[if_neg (by simp),decide_eq_true (show ((s.takeWhile n46).length:Int)≥0 by omega),cond_true,ZsO (by omega),ZnJ (by simp only[ZL6,ZL8];omega),ZsO (by simp only[ZL6,ZL8];omega)];simp only[chk_true,ZMI];have e1:s.take ((((s.takeWhile n46).length:Nat):Int)).toNat=s.takeWhile n46:=by
   rw[ZLU]
   conv=>lhs;rw[←hsp]
   rw[List.take_left' (by rw[hsp])]
  have e2:s.drop ((((s.takeWhile n46).length:Nat):Int)+(([46]:Str).length:Int)).toNat=p:=by
   rw[show ((((s.takeWhile n46).length:Nat):Int)+(([46]:Str).length:Int)).toNat=(s.takeWhile n46).length+1 by simp only[ZL6,ZL8];omega]
   conv=>lhs;rw[←hsp,hR]
   rw[show (s.takeWhile n46++c::p).takeWhile n46=s.takeWhile n46 by rw[←hR,hsp]];rw[←List.drop_drop,List.drop_left' rfl];rfl
  rw[e1,e2];rfl
theorem dset:((List.range 256).all fun n=>([48,49,50,51,52,53,54,55,56,57]:Str).contains n.toUInt8 == isD n.toUInt8)=true:=by decide+kernel
theorem ZHI (b:UInt8):([48,49,50,51,52,53,54,55,56,57]:Str).contains b=isD b:=by have:=ZLW.1 dset b.toNat (List.mem_range.2 b.toNat_lt);rw[show b.toNat.toUInt8=b from UInt8.ofNat_toNat]at this;exact eq_of_beq this
theorem Zx8 {p:UInt8→Bool}:∀l:Str,l.dropWhile p=[]↔l.all p=true
 | []=>by simp
 |b::l=>by
  rw[ZLY,ZLV];cases h:p b with
  |true=>rw[if_pos rfl,ZLQ];exact Zx8 l
  |false=>simp
theorem ZFH (s cs:Str):(Lib.trimS s cs == [])=s.all (cs.contains ·):=by
 rw[Bool.eq_iff_iff,beq_iff_eq];unfold Lib.trimS Lib.trimLeftS Lib.trimRightS;rw[Zx8];constructor
 ·intro h;have h1:(s.reverse.dropWhile (cs.contains ·)).all (cs.contains ·)=true:=by rw[←List.all_reverse];exact h
  have h2:s.reverse.dropWhile (cs.contains ·)=[]:=by
   cases he:s.reverse.dropWhile (cs.contains ·)with
   |nil=>rfl
   |cons b r=>
    have h3:=ZC1 (cs.contains ·) _ b r he;rw[he,ZLV,h3]at h1;cases h1
  rw[Zx8,List.all_reverse]at h2;exact h2
 ·intro h;have h2:s.reverse.dropWhile (cs.contains ·)=[]:=by rw[Zx8,List.all_reverse];exact h
  rw[h2];rfl
theorem ZDu (s:Str) (m:Nat):ZuX s (m:Int)=some (okD s m):=by
 unfold ZuX Zuw okD Zyt
 by_cases h1:1≤s.length
 ·rw[decide_eq_true (show (s.length:Int)≥1 by omega),cond_true,decide_eq_true h1]
  by_cases h2:s.length≤m
  ·rw[decide_eq_true (show (s.length:Int)≤(m:Int) by omega),cond_true,decide_eq_true h2];rw[show (([48,49,50,51,52,53,54,55,56,57]:Str).all fun b=>decide (b.toNat < 128))=true from by decide,chk_true,show decide (([48,49,50,51,52,53,54,55,56,57]:Str).length < 4294967281)=true from by decide,chk_true,ZMI,ZFH];rw[show (fun b:UInt8=>([48,49,50,51,52,53,54,55,56,57]:Str).contains b)=isD from funext ZHI];rfl
  ·rw[decide_eq_false (show ¬(s.length:Int)≤(m:Int) by omega),cond_false,decide_eq_false h2];rfl
 ·rw[decide_eq_false (show ¬(s.length:Int)≥1 by omega),cond_false,decide_eq_false h1];rfl
def zf:ZnE:=ZnE.mk (ZnD.mk false []) (ZnD.mk false [])
theorem ZIF:([10]:List Int)=iL (wd 10):=by kernel_rfl
theorem ZHq:([1]:List Int)=iL (wd 1):=by kernel_rfl
theorem ZHs:([]:List Int)=iL (wd 0):=by kernel_rfl
theorem ZEx {b:UInt8} (h:isD b=true):IntKind.wrap .u64 (IntKind.wrap .u8 (((b.toNat:Nat):Int) - 48))=((b.toNat - 48:Nat):Int):=by unfold isD at h;simp only[ZIO,decide_eq_true_eq]at h;rw[wrap_u8 (by omega),wrap_u64 (by omega)];omega
theorem ZGG {neg:Bool} {D P:Str} (h:ZCr D P):ZsA neg D P false false false [] []=some (fOf (ZHL (neg,D,P)),true):=by
 have hd1:=h.d2;have hp1:=h.p;have hall:(D++P).all isD=true:=by rw[List.all_append,h.dd,h.pp];rfl
 have hlen:(D++P).length≤24:=by rw[ZL5];omega
 refine Zqz ?_;unfold ZsA;rw[cond_false,ZHq,ZEe _ (by have:=ZGq (n:=1) (by decide);omega),ZMI,ZnF,ZnF,ZnC,ZIF,ZHs];refine⟨decide_eq_true (by unfold Zq;omega),decide_eq_true (by omega), ?_⟩;refine ZnK (Zug ZAw (D++P).length (by omega) (fun i (n:Nat)=>(neg,P,iL (wd n),iL (wd 10),(((D++P).map fun b:UInt8=>((b.toNat:Nat):Int)).length:Int),i,false,false,iL (wd 1),(D++P).map (fun b:UInt8=>((b.toNat:Nat):Int)),iL (wd 0),iL (wd 0))) (fun i n=>n=ZAR ((D++P).take i))
  (Q:=fun x=>x=(neg,P,iL (wd (ZAR (D++P))),iL (wd 10),false,false,iL (wd 1),iL (wd 0),iL (wd 0))) 0 (by rfl) ?_ ?_) ?_
 ·rintro rec i n hi rfl ih;unfold ZwT ZuP;dsimp only;have hb:isD (D++P)[i]=true:=ZLW.1 hall _ (ZL4 hi);have hn:ZAR ((D++P).take i) < 2 ^ 80:=ZA0 (ZLW.2 fun b hb=>ZLW.1 hall b (List.mem_of_mem_take hb)) (by rw[ZMa];omega);have hn2:ZAR ((D++P).take (i+1))=ZAR ((D++P).take i)*10+((D++P)[i].toNat - 48):=by rw[ZMg hi,ZDl,ZMx]
  have hlm:i < ((D++P).map fun b:UInt8=>((b.toNat:Nat):Int)).length:=by rw[ZL7];exact hi
  have hb':=hb;unfold isD at hb';simp only[ZIO,decide_eq_true_eq]at hb';have w1:=ZGq hn;have w10:=ZGq (n:=10) (by decide);have w2:(wd (ZAR ((D++P).take i)*10)).length≤100:=ZB1 (k:=84) (by omega) 100 (by decide);have w3:=ZGq (n:=(D++P)[i].toNat - 48) (by omega);rw[decide_eq_true (show (i:Int) < (((D++P).map fun b:UInt8=>((b.toNat:Nat):Int)).length:Int) by rw[ZL7];omega),cond_true,Zop hlm,chk_true,ZLU,ZL1 hlm,ZMI,List.getElem_map,ZCN _ _ (by omega) (by omega),ZMI,ZEx hb,ZBF _ (by omega),ZMI,
   ZEQ _ _ (by omega) (by omega),ZMI,ZnF]
  refine⟨ZnJ (by omega), ?_⟩;have:=ih (ZAR ((D++P).take i)*10+((D++P)[i].toNat - 48)) hn2.symm;exact this
 ·rintro rec n rfl;unfold ZwT ZuP;dsimp only;rw[decide_eq_false (by rw[ZL7];omega),cond_false,ZnB,ZMe]
 ·rintro x rfl;dsimp only;unfold ZxY;rw[ZnC];refine ZnK (Zug ZAv P.length (by omega) (fun i (k:Nat)=>(neg,iL (wd (ZAR (D++P))),iL (wd 10),iL (wd (10 ^ k)),(P.length:Int),i,false,false,iL (wd 0),iL (wd 0))) (fun i k=>k=i)
   (Q:=fun x=>x=(neg,iL (wd (ZAR (D++P))),iL (wd (10 ^ P.length)),false,false,iL (wd 0),iL (wd 0))) 0 (by rfl) ?_ ?_) ?_
  ·rintro rec i k hi rfl ih;unfold ZwS ZuO;dsimp only;have w1:=ZGq (ZBb (show k≤24 by omega));have w10:=ZGq (n:=10) (by decide);rw[decide_eq_true (show (k:Int) < (P.length:Int) by omega),cond_true,ZCN _ _ (by omega) (by omega),ZMI,ZnF,←ZMD];exact⟨ZnJ (by omega),ih (k+1) rfl⟩
  ·rintro rec k rfl;unfold ZwS ZuO;dsimp only;rw[decide_eq_false (by omega),cond_false,ZnB]
  ·rintro x rfl;dsimp only;unfold ZxX;have hnum:=ZA0 hall hlen;have hpw:=ZBb (show P.length≤24 by omega);have w1:=ZGq hnum;have w2:=ZGq hpw;rw[ZwY _ _ (by omega),ZMI,ZwY _ _ (by omega),ZMI];have hne:((10 ^ P.length:Nat):Int)≠0:=by have:=Nat.pow_pos (n:=P.length) (show 0 < 10 by decide);omega
   have:=ZBa (if neg=true then -((ZAR (D++P):Nat):Int)else ((ZAR (D++P):Nat):Int)) ((10 ^ P.length:Nat):Int) hne (by
    show (wd _).length≤50000;have e:(if neg=true then -((ZAR (D++P):Nat):Int)else ((ZAR (D++P):Nat):Int)).natAbs=ZAR (D++P):=by split<;>omega
    rw[e];omega) (by show (wd _).length≤50000;rw[ZLS];omega)
   simp only[Bool.false_eq_true,if_false];rw[this,ZMI,ZnB];rfl
theorem ZCF {t:Str} (hl:t.length≤9223372036854775807):Ztj t=some (match ZAx t with |some x=>(fOf (ZHL x),true) |none=>(zf,false)):=by
 have key:∀(body:Str) (neg:Bool),body.length≤9223372036854775807→Zuf body neg false false [] []=some (match (ZAk body).map fun x=>(neg,x.1,x.2)with |some x=>(fOf (ZHL x),true) |none=>(zf,false)):=by
  intro body neg hb;unfold Zuf;rw[ZjU hb,ZMI];dsimp only;rw[show (15:Int)=((15:Nat):Int)from rfl,ZDu,ZMI,show (9:Int)=((9:Nat):Int)from rfl];have hpc:=ZBq body;cases h1:okD (body.takeWhile n46) 15 with
  |false=>
   rw[h1,ZLN,cond_false]at hpc;rw[hpc,ZLO,cond_true];rfl
  |true=>
   rw[h1,ZLQ]at hpc;rw[ZLP,cond_false];cases h2:(body.dropWhile n46).isEmpty with
   |true=>
    rw[h2,Bool.true_or,cond_true]at hpc;rw[ZLP,cond_false,ZGG (Zzj hpc),hpc];rfl
   |false=>
    rw[h2,Bool.false_or]at hpc;rw[ZLO,cond_true,ZDu,ZMI];cases h3:okD (body.dropWhile n46).tail 9 with
    |false=>
     rw[h3,cond_false]at hpc;rw[hpc];rfl
    |true=>
     rw[h3,cond_true]at hpc;rw[ZLP,ZGG (Zzj hpc),hpc];rfl
 unfold Ztj ZAx ZCS;rw[ZDv,ZMI];cases t with
 |nil=>
  dsimp only;rw[ZLO,cond_true,ZBn,ZMI];dsimp only;rw[key [] false hl]
 |cons b r=>
  dsimp only;simp only[ZL6]at hl;cases h1:b == 45 with
  |true=>
   rw[cond_true,cond_true];dsimp only;rw[ZLP,cond_false,key r true (by omega)]
  |false=>
   rw[cond_false,cond_false];dsimp only;rw[ZLO,cond_true,ZBn,ZMI];dsimp only;cases h2:b == 43 with
   |true=>rw[cond_true,cond_true];dsimp only;rw[key r false (by omega)]
   |false=>rw[cond_false,cond_false];dsimp only;rw[key (b::r) false (by simp only[ZL6];omega)]
end Go.Proofs
namespace Go.Proofs
open Go Eng
theorem ZBN (b:UInt8) (k:UInt8):(((b.toNat:Nat):Int) == ((k.toNat:Nat):Int))=(b == k):=by
 rw[Bool.eq_iff_iff,beq_iff_eq,beq_iff_eq];constructor
 ·intro h;exact UInt8.toNat_inj.1 (by omega)
 ·rintro rfl;rfl
theorem ZGE (b:UInt8):(decide (((b.toNat:Nat):Int)≥48)&&decide (((b.toNat:Nat):Int)≤57))=isD b:=by
 unfold isD;congr 1
 ·rw[decide_eq_decide];omega
 ·rw[decide_eq_decide];omega
theorem ZG6 (p:UInt8→Bool) (l:Str):l.take (l.takeWhile p).length=l.takeWhile p:=by
 conv=>lhs;arg 2;rw[←ZMd (p:=p) (l:=l)]
 rw[List.take_left' rfl]
theorem ZEH (p:UInt8→Bool) (l:Str):l.drop (l.takeWhile p).length=l.dropWhile p:=by
 conv=>lhs;arg 2;rw[←ZMd (p:=p) (l:=l)]
 rw[List.drop_left' rfl]
theorem ZIE {p:UInt8→Bool} {l:Str} {k:Nat} (h:∀j (hj:j < l.length),j < k→p l[j]=true) (hk:k≤l.length) (h2:∀hk:k < l.length,p l[k]=false):(l.takeWhile p).length=k:=by
 have hs:=ZBW (p:=p) (l.take k) (l.drop k) (ZLW.2 fun b hb=>by
  obtain⟨j,hj,rfl⟩:=List.getElem_of_mem hb;rw[ZMa]at hj;rw[List.getElem_take];exact h j (by omega) (by omega)) (fun b r e=>by
  have hlt:k < l.length:=by have:=congrArg List.length e;rw[List.length_drop,ZL6]at this;omega
  rw[ZLZ hlt]at e;simp only[ZLX]at e;rw[←e.1];exact h2 hlt)
 rw[List.take_append_drop]at hs;rw[hs.1,ZMa];omega
theorem ZFV {neg:Bool} {D p:Str} (hl:p.length≤9):Zos neg D p false=some (bif p.all isD then (neg,D,p,true)else (false,[],[],false)):=by
 unfold Zos;rw[cond_false];have key:wp (Zp1 big neg D p 0) (fun x=>x=bif p.all isD then .brk (neg,D,p)else .ret (false,[],[],false)):=by
  refine Zzy Zy9 p (by omega) (fun i (_:Unit)=>(neg,D,p,i)) (fun k _=>(p.take k).all isD=true) () (by simp) ?_ ?_
  ·rintro rec k _ hk ha ih;unfold Zul Zr3 Zs3;dsimp only;rw[decide_eq_true (show (k:Int) < (p.length:Int) by omega),cond_true,ZwV hk,ZMI];have hs:(p.take (k+1)).all isD=isD p[k]:=by rw[ZMg hk,List.all_append,ha];simp
   have hno:isD p[k]=false→p.all isD=false:=fun h=>by rw[Bool.eq_false_iff];intro h2;rw[ZLW.1 h2 _ (ZL4 hk)]at h;cases h
   have hd:=ZGE p[k]
   by_cases h1:((p[k].toNat:Nat):Int) < 48
   ·rw[decide_eq_true h1,cond_true,cond_true,ZnB,hno (by rw[←hd,decide_eq_false (by omega)];rfl),cond_false]
   ·rw[decide_eq_false h1,cond_false,ZMI]
    by_cases h2:((p[k].toNat:Nat):Int) > 57
    ·rw[decide_eq_true h2,cond_true,ZnB,hno (by rw[←hd,decide_eq_true (by omega),decide_eq_false (by omega)];rfl),cond_false]
    ·rw[decide_eq_false h2,cond_false,ZnF];exact⟨ZnJ (by omega),ih () (by rw[hs,←hd,decide_eq_true (by omega),decide_eq_true (by omega)];rfl)⟩
  ·rintro rec _ ha;unfold Zul Zr3;dsimp only;rw[ZMe]at ha;rw[decide_eq_false (show ¬(p.length:Int) < (p.length:Int) by omega),cond_false,ZnB,ha,cond_true]
 obtain⟨x,hx,rfl⟩:=key;rw[hx,ZMI];cases p.all isD<;>rfl
theorem ZFW {s:Str} (neg:Bool) (hl:s.length≤9223372036854775807):ZoJ s neg=some (match ZAk s with |some x=>(neg,x.1,x.2,true) |none=>(false,[],[],false)):=by
 refine Zqz ?_;unfold ZoJ;rw[ZnC];refine ZnK (ZB2 Zza (fun(k:Nat)=>(s,neg,(k:Int))) (fun k=>k≤s.length∧∀j (hj:j < s.length),j < k→isD s[j]=true) (fun k=>s.length - k)
  (Q:=fun x=>x=(s,neg,(((s.takeWhile isD).length:Nat):Int))) 0 ⟨Nat.zero_le _,fun j _ h=>absurd h (Nat.not_lt_zero _)⟩ (by omega) ?_) ?_
 ·rintro rec k ⟨hk,ha⟩ ih;unfold Zw2 Zum Zq4;dsimp only;have stop:(∀h:k < s.length,isD s[k]=false)→wp (some (s,neg,(k:Int))) (fun x=>x=(s,neg,(((s.takeWhile isD).length:Nat):Int))):=fun h=>by rw[ZnB,ZIE ha hk h]
  rw[Zog];refine⟨fun h=> ?_,fun h=> ?_⟩
  ·simp only[decide_eq_true_eq]at h;have hk':k < s.length:=by omega
   have hd:=ZGE s[k];rw[ZwV hk',ZMI];have go:isD s[k]=true→wp (chk (inK .i64 ((k:Int)+1)) <| rec (s,neg,(k:Int)+1)) (fun x=>x=(s,neg,(((s.takeWhile isD).length:Nat):Int))):=fun hdk=>by
    rw[ZnF];refine⟨ZnJ (by omega),ih (k+1) ⟨by omega,fun j hj hjk=> ?_⟩ (by omega)⟩;rcases ZMs j k with h1 |h1
    ·exact ha j hj h1
    ·obtain rfl:j=k:=by omega
     exact hdk
   cases h1:decide (((s[k].toNat:Nat):Int)≥48)with
   |false=>
    rw[cond_false,cond_false];exact stop fun _=>by rw[←hd,h1];rfl
   |true=>
    rw[cond_true,ZMI];cases h2:decide (((s[k].toNat:Nat):Int)≤57)with
    |false=>
     rw[cond_false];exact stop fun _=>by rw[←hd,h1,h2];rfl
    |true=>
     rw[cond_true];exact go (by rw[←hd,h1,h2];rfl)
  ·simp only[decide_eq_false_iff_not]at h;rw[cond_false];exact stop fun h'=>absurd h' (by omega)
 ·rintro x rfl;dsimp only;unfold Zu7 Zs4;have hle:(s.takeWhile isD).length≤s.length:=(List.takeWhile_sublist _).length_le;have hdl:(s.takeWhile isD).length+(s.dropWhile isD).length=s.length:=by rw[←ZL5,ZMd]
  rw[ZnF,ZLU,ZG6];refine⟨ZsO (by omega), ?_⟩;unfold ZAk
  by_cases h1:1≤(s.takeWhile isD).length
  ·rw[decide_eq_false (show ¬(((s.takeWhile isD).length:Nat):Int) < 1 by omega),cond_false,decide_eq_true h1,ZLQ]
   by_cases h2:(s.takeWhile isD).length≤15
   ·rw[decide_eq_false (show ¬(((s.takeWhile isD).length:Nat):Int) > 15 by omega),cond_false,decide_eq_true h2,cond_true];cases hR:s.dropWhile isD with
    |nil=>
     rw[hR]at hdl;simp only[ZL8]at hdl;rw[show ((((s.takeWhile isD).length:Nat):Int) == (s.length:Int))=true by rw[beq_iff_eq];omega,cond_true,ZnB]
    |cons c p=>
     rw[hR]at hdl;simp only[ZL6]at hdl;have hk':(s.takeWhile isD).length < s.length:=by omega
     have hgc:s[(s.takeWhile isD).length]=c:=by have h3:=ZEH isD s;rw[ZLZ hk',hR]at h3;simp only[ZLX]at h3;exact h3.1
     have hdp:s.drop ((((s.takeWhile isD).length:Nat):Int)+1).toNat=p:=by rw[show ((((s.takeWhile isD).length:Nat):Int)+1).toNat=(s.takeWhile isD).length+1 by omega];have h3:=ZEH isD s;rw[ZLZ hk',hR]at h3;simp only[ZLX]at h3;exact h3.2
     rw[show ((((s.takeWhile isD).length:Nat):Int) == (s.length:Int))=false by rw[beq_eq_false_iff_ne];omega,cond_false,ZnF,ZnF,ZwV hk',ZMI,hgc,hdp];refine⟨ZnJ (by omega),ZsO (by omega), ?_⟩;dsimp only;have e46:(((c.toNat:Nat):Int) != 46)= !(c == 46):=by rw[←ZBN c 46];rfl
     rw[e46];cases hc:c == 46 with
     |false=>
      rw[ZLO,cond_true,ZLN,cond_false];unfold Zos;rw[cond_true,ZnB]
     |true=>
      rw[ZLP,cond_false,ZLQ];unfold okD
      by_cases h3:1≤p.length
      ·rw[decide_eq_false (show ¬(p.length:Int) < 1 by omega),cond_false,decide_eq_true h3,ZLQ]
       by_cases h4:p.length≤9
       ·rw[decide_eq_false (show ¬(p.length:Int) > 9 by omega),decide_eq_true h4,ZLQ,ZFV h4,ZnB];cases p.all isD<;>rfl
       ·rw[decide_eq_true (show (p.length:Int) > 9 by omega),decide_eq_false h4,ZLN,cond_false];unfold Zos;rw[cond_true,ZnB]
      ·rw[decide_eq_true (show (p.length:Int) < 1 by omega),cond_true,decide_eq_false h3,ZLN,ZLN,cond_false];unfold Zos;rw[cond_true,ZnB]
   ·rw[decide_eq_true (show (((s.takeWhile isD).length:Nat):Int) > 15 by omega),cond_true,ZnB,decide_eq_false h2,cond_false]
  ·rw[decide_eq_true (show (((s.takeWhile isD).length:Nat):Int) < 1 by omega),cond_true,cond_true,ZnB,decide_eq_false h1,ZLN,cond_false]
theorem ZD6 {t:Str} (hl:t.length≤9223372036854775807):ZqU t=some (match ZAx t with |some x=>(x.1,x.2.1,x.2.2,true) |none=>(false,[],[],false)):=by
 have fin:∀(s:Str) (neg:Bool),s.length≤9223372036854775807→ZoJ s neg=some (match (ZAk s).map fun x=>(neg,x.1,x.2)with |some x=>(x.1,x.2.1,x.2.2,true) |none=>(false,[],[],false)):=fun s neg h=>by rw[ZFW neg h];cases ZAk s<;>rfl
 unfold ZqU Zq5 ZAx ZCS;cases t with
 |nil=>
  rw[show decide ((([]:Str).length:Int) > 0)=false from rfl,cond_false,cond_false,fin [] false hl]
 |cons b r=>
  simp only[ZL6]at hl;rw[decide_eq_true (show (((b::r).length:Nat):Int) > 0 by simp only[ZL6];omega),cond_true];have h0:idx (b::r) 0=some b:=rfl;have e43:(((b.toNat:Nat):Int) == 43)=(b == 43):=ZBN b 43;have e45:(((b.toNat:Nat):Int) == 45)=(b == 45):=ZBN b 45;rw[h0,ZMI,e43];dsimp only;have hw:Zb9 1 ((b::r).length:Int) ((b::r).length:Int)=true:=ZsO (by simp only[ZL6];omega);cases h1:b == 43 with
  |true=>
   have hb:b=43:=eq_of_beq h1;subst hb;rw[cond_true,cond_true,ZMI,hw,chk_true,e45];show ZoJ r false=_;rw[fin r false (by omega)];rfl
  |false=>
   rw[cond_false,ZMI,e45];cases h2:b == 45 with
   |true=>
    rw[cond_true,ZMI,hw,chk_true,e45,h2];show ZoJ r true=_;rw[fin r true (by omega)];rfl
   |false=>
    rw[cond_false];rw[fin (b::r) false (by simp only[ZL6];omega)];rfl
end Go.Proofs
namespace Go.Proofs
open Go Eng
theorem ZDM {b:UInt8} (h:isD b=true):IntKind.wrap .i64 (IntKind.wrap .u8 (((b.toNat:Nat):Int) - 48))=((b.toNat - 48:Nat):Int):=by unfold isD at h;simp only[ZIO,decide_eq_true_eq]at h;rw[wrap_u8 (by omega),wrap_i64 (by omega)];omega
theorem wlN {n:Nat} (h:n < 2 ^ 90):Wl 50000 (n:Int):=by unfold Wl;rw[ZLS];exact ZMp (ZB1 h 3 (by decide)) (by decide)
theorem wl10:Wl 50000 10:=wlN (n:=10) (by decide)
theorem ZHP:ZnD.mk false ([]:List Int)=bg ((0:Nat):Int):=by kernel_rfl
theorem ZHJ {P:Str} (hp:P.all isD=true) {i:Nat} (hi:i < P.length):(Utf8.decode ⟨P.toArray⟩ i).2=1:=by
 have hs:i < (⟨P.toArray⟩:ByteArray).size:=by show i < P.toArray.size;simpa using hi
 have hb:=ZLW.1 hp _ (ZL4 hi);unfold isD at hb;simp only[ZIO,decide_eq_true_eq]at hb;rw[decode_ascii ⟨P.toArray⟩ i hs (by show (P.toArray[i]).toNat < 128;rw[List.getElem_toArray];omega)]
theorem ZCV {t:Str} (hl:t.length≤9223372036854775807):Zry t=some (match ZAx t with |some x=>(fOf (ZHL x),true) |none=>(zf,false)):=by
 unfold Zry;rw[ZD6 hl,ZMI];cases hp:ZAx t with
 |none=>rfl
 |some x=>
  obtain⟨neg,D,P⟩:=x;dsimp only;have h:ZCr D P:=by
   unfold ZAx at hp;cases hb:ZAk (ZCS t).2 with
   |none=>rw[hb]at hp;cases hp
   |some y=>
    rw[hb]at hp;simp only[Option.map_some,Option.some.injEq,Prod.mk.injEq]at hp;obtain⟨_,h1,h2⟩:=hp;subst h1;subst h2;exact Zzj hb
  have hd1:=h.d2;have hp1:=h.p;have hall:(D++P).all isD=true:=by rw[List.all_append,h.dd,h.pp];rfl
  have hlen:(D++P).length≤24:=by rw[ZL5];omega
  refine Zqz ?_;rw[ZLP,cond_false,ZyE 1 (by decide) (by decide),ZMI,ZnF,ZnF,ZnC,ZHP];refine⟨decide_eq_true (by unfold Zq;omega),decide_eq_true (by omega), ?_⟩;refine ZnK (Zug ZyU (D++P).length (by omega) (fun i (n:Nat)=>(neg,P,(((D++P).map fun b:UInt8=>((b.toNat:Nat):Int)).length:Int),i,false,false,bg (n:Int),bg 1,(D++P).map (fun b:UInt8=>((b.toNat:Nat):Int)),([]:List Int),([]:List Int))) (fun i n=>n=ZAR ((D++P).take i))
   (Q:=fun x=>x=(neg,P,false,false,bg (ZAR (D++P):Int),bg 1,([]:List Int),([]:List Int))) 0 (by rfl) ?_ ?_) ?_
  ·rintro rec i n hi rfl ih;unfold ZtM Zrm;dsimp only;have hb:isD (D++P)[i]=true:=ZLW.1 hall _ (ZL4 hi);have hn:ZAR ((D++P).take i) < 2 ^ 80:=ZA0 (ZLW.2 fun b hb=>ZLW.1 hall b (List.mem_of_mem_take hb)) (by rw[ZMa];omega);have hn2:ZAR ((D++P).take (i+1))=ZAR ((D++P).take i)*10+((D++P)[i].toNat - 48):=by rw[ZMg hi,ZDl,ZMx]
   have hlm:i < ((D++P).map fun b:UInt8=>((b.toNat:Nat):Int)).length:=by rw[ZL7];exact hi
   have hb':=hb;unfold isD at hb';simp only[ZIO,decide_eq_true_eq]at hb';rw[decide_eq_true (show (i:Int) < (((D++P).map fun b:UInt8=>((b.toNat:Nat):Int)).length:Int) by rw[ZL7];omega),cond_true,Zop hlm,chk_true,ZLU,ZL1 hlm,ZMI,List.getElem_map,
    ZyE 10 (by decide) (by decide),ZMI,ZAS ((ZAR ((D++P).take i):Nat):Int) 10 (wlN (by omega)) wl10,ZMI,ZDM hb,ZyE _ (by omega) (by omega),ZMI]
   have e1:((ZAR ((D++P).take i):Nat):Int)*10=((ZAR ((D++P).take i)*10:Nat):Int):=by omega
   rw[e1,ZD5 _ _ (wlN (by omega)) (wlN (by omega)),ZMI,ZnF];refine⟨ZnJ (by omega), ?_⟩;have:=ih (ZAR ((D++P).take i)*10+((D++P)[i].toNat - 48)) hn2.symm;have e2:((ZAR ((D++P).take i)*10:Nat):Int)+(((D++P)[i].toNat - 48:Nat):Int)=((ZAR ((D++P).take i)*10+((D++P)[i].toNat - 48):Nat):Int):=by omega
   rw[e2];exact this
  ·rintro rec n rfl;unfold ZtM Zrm;dsimp only;rw[decide_eq_false (by rw[ZL7];omega),cond_false,ZnB,ZMe]
  ·rintro x rfl;dsimp only;unfold Zuo;rw[ZnC];refine ZnK (ZqA ZyT (fun(k:Nat)=>(neg,false,false,bg (ZAR (D++P):Int),bg ((10 ^ k:Nat):Int),P,k,([]:List Int),([]:List Int))) (fun k=>k≤P.length) (fun k=>P.length - k)
    (Q:=fun x=>x=(neg,false,false,bg (ZAR (D++P):Int),bg ((10 ^ P.length:Nat):Int),([]:List Int),([]:List Int))) 0 (Nat.zero_le _) (by omega) ?_) ?_
   ·rintro rec k hk ih;unfold Zww ZtL Zr7;dsimp only
    by_cases hlt:k < P.length
    ·have hpw:=ZBb (show k≤24 by omega);rw[decide_eq_true hlt,cond_true,cond_true,ZyE 10 (by decide) (by decide),ZMI,ZAS ((10 ^ k:Nat):Int) 10 (wlN (by omega)) wl10,ZMI,ZHJ h.pp hlt];have:=ih (k+1) (by omega) (by omega);rw[ZMD]at this;have e1:((10 ^ k:Nat):Int)*10=((10 ^ k*10:Nat):Int):=by omega
     rw[e1];exact this
    ·obtain rfl:k=P.length:=by omega
     rw[decide_eq_false hlt,cond_false,cond_false,ZnB]
   ·rintro x rfl;dsimp only;unfold Zun Zr6;have hnum:=ZA0 hall hlen;have hpw:=ZBb (show P.length≤24 by omega);have hne:((10 ^ P.length:Nat):Int)≠0:=by have:=Nat.pow_pos (n:=P.length) (show 0 < 10 by decide);omega
    have hw1:Wl 50000 ((10 ^ P.length:Nat):Int):=wlN (by omega);have hw2:Wl 50000 (ZAR (D++P):Int):=wlN (by omega);cases neg with
    |false=>
     rw[cond_false,ZBc _ _ hne hw2 hw1,ZMI,ZnB];rfl
    |true=>
     rw[cond_true,ZE0 _ (ZMp hw2 (by decide)),ZMI,ZBc _ _ hne (by unfold Wl at hw2⊢;rw[Int.natAbs_neg];exact hw2) hw1,ZMI,ZnB];rfl
end Go.Proofs
