/- Plain laws over the specs, part 1. -/
import Derived.Test.YthefajbigloihaaGreatDoorQnM0
set_option linter.unusedVariables false
set_option linter.unusedSimpArgs false
set_option linter.unusedSectionVars false
open Bool renaming not_true→ZII
open Int renaming toNat_natCast→ZLM, natAbs_natCast→ZLJ, natAbs_mul→ZLI, natAbs_neg→ZLK, natCast_add→ZLL
open List renaming getElem?_eq_getElem→ZLO, length_set→ZLS, getD_eq_getElem?_getD→ZLN, getElem?_eq_none→ZLP, mem_cons→ZLU, length_singleton→ZLT, take_length→ZLW, take_of_length_le→ZLX, pairwise_cons→ZLV, getElem?_eq_some_iff→ZLQ, getElem_cons_drop→ZLR
open Nat renaming le_trans→ZL6, pow_succ→ZMk, gcd→ZL3, le_refl→ZL5, mul_add→ZMc, mul_assoc→ZMd, mod_lt→ZMb, pow_zero→ZMl, lt_of_le_of_lt→ZL7, mul_comm→ZMe, pow_le_pow_right→ZMj, div_le_self→ZL2, one_mul→ZMg, pow_add→ZMi, le_of_lt→ZL4, two_pow_pos→ZMn, mul_left_comm→ZMf, pos_of_ne_zero→ZMh, lt_or_ge→ZL9, lt_of_lt_of_le→ZL8, min_eq_left→ZMa, div_add_mod→ZL0, add_mul_div_left→ZLY, div_eq_of_lt→ZL1, add_mul_mod_self_left→ZLZ, two_pow_add_eq_or_of_lt→ZMm
open Option renaming bind_some→ZMo, some.inj→ZMp
namespace Go.Proofs
open Go Eng
def Sz (k:Nat) (q:Rat):Prop:=q.num.natAbs < 2 ^ k∧q.den < 2 ^ k
theorem Sz.mono {k l:Nat} {q:Rat} (h:Sz k q) (hl:k≤l):Sz l q:=⟨ZL8 h.1 (ZMj (by decide) hl),ZL8 h.2 (ZMj (by decide) hl)⟩
theorem ZBt {n k:Nat} (h:n < 2 ^ k) (m:Nat) (hk:k≤32*m):(wd n).length≤m:=by refine Zzm (ZL8 h ?_);rw[show Bw=2 ^ 32 from rfl,←Nat.pow_mul];exact ZMj (by decide) hk
theorem Sz.wq {k:Nat} {q:Rat} (h:Sz k q) (hk:k≤8192):Wq 256 q:=⟨ZBt h.1 256 (by omega),ZBt (n:=(q.den:Int).natAbs) (by rw[ZLJ];exact h.2) 256 (by omega)⟩
theorem Zz7 {x y:Int} {k:Nat} (hy:y≠0) (h1:x.natAbs < 2 ^ k) (h2:y.natAbs < 2 ^ k):Sz k (Rat.divInt x y):=by
 unfold Sz;rw[Rat.num_divInt,Rat.den_divInt,if_neg hy];refine⟨ZL7 ?_ h1,ZL7 (ZL2 _ _) h2⟩;have hd:((Int.gcd y x:Nat):Int)∣y.sign*x:=Int.dvd_trans (Int.gcd_dvd_right y x) (Int.dvd_mul_left _ _);rw[Int.natAbs_ediv_of_dvd hd,ZLI];refine ZL6 (ZL2 _ _) ?_;have:y.sign.natAbs=1:=by rw[Int.natAbs_sign_of_ne_zero hy]
 rw[this,ZMg];exact ZL5 _
theorem ZBV {x y k l:Nat} (hx:x < 2 ^ k) (hy:y < 2 ^ l):x*y < 2 ^ (k+l):=by rw[ZMi];exact Nat.mul_lt_mul_of_lt_of_le hx (ZL4 hy) (ZMn _)
theorem ZCS (a b:Rat):Rat.divInt (a.num*(b.den:Int)+b.num*(a.den:Int)) ((a.den:Int)*(b.den:Int))=a+b:=by have h1:=a.den_nz;have h2:=b.den_nz;rw[←Rat.divInt_add_divInt _ _ (by omega) (by omega),Rat.num_divInt_den,Rat.num_divInt_den]
theorem Sz.add {a b:Rat} {k l:Nat} (ha:Sz k a) (hb:Sz l b):Sz (k+l+1) (a+b):=by
 rw[←ZCS];have h1:=a.den_nz;have h2:=b.den_nz;have q1:=ZBV ha.1 hb.2;have q2:=ZBV ha.2 hb.1;have q3:=ZBV ha.2 hb.2;have hp:=ZMn (k+l);refine Zz7 (Int.mul_ne_zero (by omega) (by omega)) ?_ ?_
 ·rw[ZMk];refine ZL7 (Int.natAbs_add_le _ _) ?_;rw[ZLI,ZLI,ZLJ,ZLJ,ZMe b.num.natAbs];omega
 ·rw[ZMk,ZLI,ZLJ,ZLJ];omega
theorem ZKL {q:Rat} (h:Wq 256 q):decide ((if ((fOf q).Den.Words.length:Int) > ((fOf q).Num.Words.length:Int)then ((fOf q).Den.Words.length:Int)else ((fOf q).Num.Words.length:Int)) > 256)=false:=by have h1:=h.1;have h2:=h.2;unfold Wl at h1 h2;refine decide_eq_false ?_;unfold fOf;rw[ZpR,ZpR,Zn0,Zn0];split<;>omega
theorem ZCt {y:Int} (hy:y≠0):(((bg y).Words.length:Int) == 0)=false:=by have:=ZtI (n:=y.natAbs) (by omega);rw[ZpR,Zn0];exact beq_eq_false_iff_ne.2 (by omega)
end Go.Proofs
namespace Go.Proofs
open Go Eng
theorem ZDQ (z:Int):Zvj (bg z)=some (bg (-z)):=by
 unfold Zvj Zvr;rw[Zy5,ZpR,Zn0]
 by_cases hz:z < 0
 ·rw[decide_eq_true hz,ZII,cond_false];unfold bg;rw[ZLK,decide_eq_false (by omega:¬ -z < 0)]
 ·rw[decide_eq_false hz,Bool.not_false,cond_true];unfold bg;rw[ZLK];congr 2
  by_cases h0:z=0
  ·subst h0;rw[show (0:Int).natAbs=0 from rfl,ZvZ];rfl
  ·have:=ZtI (n:=z.natAbs) (by omega);rw[decide_eq_true (by omega),decide_eq_true (by omega)]
theorem Sz.neg {q:Rat} {k:Nat} (h:Sz k q):Sz k (-q):=by show (-q.num).natAbs < 2 ^ k∧q.den < 2 ^ k;rw[ZLK];exact h
def ZB5 (a b:Rat):Int:=if a < b then -1 else if b < a then 1 else 0
theorem ZB9 (a b:Rat):a < b↔a.num*(b.den:Int) < b.num*(a.den:Int):=Rat.lt_iff a b
theorem ZDy {a b:Rat} (qa:Wq 256 a) (qb:Wq 256 b):Zob (fOf a) (fOf b)=some (ZB5 a b):=by
 have w:∀{x y:Int},Wl 256 x→Wl 256 y→Wl 50000 (x*y):=fun hx hy=>by unfold Wl;rw[ZLI];exact ZL6 (ZDg hx hy) (by decide)
 have m:∀{x:Int},Wl 256 x→Wl 50000 x:=fun h=>ZL6 h (by decide)
 unfold Zob;rw[ZD7 a qa,ZMo,ZII,cond_false,ZD7 b qb,ZMo,ZII];unfold Zyk;rw[cond_false];show ((ZrG (bg a.num) (bg (b.den:Int))).bind fun q=>(ZrG (bg b.num) (bg (a.den:Int))).bind _)=_;rw[ZCK _ _ (m qa.1) (m qb.2),ZMo,ZCK _ _ (m qb.1) (m qa.2),ZMo,ZDQ,ZMo];have w2:Wl 50000 (-(b.num*(a.den:Int))):=by unfold Wl;rw[ZLK];exact w qb.1 qa.2
 rw[ZIC _ _ (w qa.1 qb.2) w2,ZMo,Zy5,ZpR,Zn0];unfold ZB5;have h1:=ZB9 a b;have h2:=ZB9 b a;generalize a.num*(b.den:Int)=x at*
 generalize b.num*(a.den:Int)=y at*
 by_cases hl:a < b
 ·rw[if_pos hl,decide_eq_true (by have:=h1.1 hl;omega),cond_true]
 ·have hn:¬x < y:=fun h=>hl (h1.2 h)
  rw[if_neg hl,decide_eq_false (by omega),cond_false]
  by_cases hg:b < a
  ·have:=ZtI (n:=(x+ -y).natAbs) (by have:=h2.1 hg;omega);rw[if_pos hg,decide_eq_true (by omega),cond_true]
  ·have hn2:¬y < x:=fun h=>hg (h2.2 h)
   rw[if_neg hg,show x+ -y=0 by omega,show (0:Int).natAbs=0 from rfl,ZvZ];rfl
theorem ZHo (x y:Int) (hy:y≠0) (hx1:Wl 256 x) (hy1:Wl 256 y):Zx7 (bg x) (bg y)=some (fOf (Rat.divInt x y),0):=by
 have hb:=ZFj [x,y] (by simp) (fun z hz=>by
  simp only[ZLU,List.not_mem_nil,or_false]at hz;rcases hz with rfl |rfl
  ·exact hx1
  ·exact hy1)
 unfold Zx7;rw[show ([bg x,bg y]:List ZnD)=[x,y].map bg from rfl,hb,ZMo,ZII,cond_false,ZCt hy,cond_false,ZBP _ _ hy (ZL6 hx1 (by decide)) (ZL6 hy1 (by decide)),ZMo]
theorem ZKt {z:Int} (h1: -9223372036854775808≤z) (h2:z≤9223372036854775807):Wl 256 z:=ZL6 (ZHp (by omega)) (by decide)
theorem ZIO (x y:Int) (hy:y≠0) (h1: -9223372036854775808≤x) (h2:x≤9223372036854775807) (h3: -9223372036854775808≤y) (h4:y≤9223372036854775807):Zyj x y=some (fOf (Rat.divInt x y),0):=by unfold Zyj;rw[ZCP x h1 h2,ZMo,ZCP y h3 h4,ZMo,ZHo x y hy (ZKt h1 h2) (ZKt h3 h4),ZMo]
theorem ZDF:Zzh=some (fOf 0):=by unfold Zzh;rw[ZIO 0 1 (by decide) (by decide) (by decide) (by decide) (by decide),ZMo,Rat.zero_divInt]
theorem ZEj (x y:Int) (hy:y≠0) (h1: -9223372036854775808≤x) (h2:x≤9223372036854775807) (h3: -9223372036854775808≤y) (h4:y≤9223372036854775807):ZBm x y=some (fOf (Rat.divInt x y)):=by unfold ZBm;rw[ZIO x y hy h1 h2 h3 h4,ZMo];rfl
theorem ZCY:Sz 1 0:=by unfold Sz;decide
end Go.Proofs
namespace Go.Proofs
open Go Eng
theorem ZD9:∀n w,Zpw n w=Zqf n w
 |0,_=>rfl
 |n+1,w=>by have:Zpw n=Zqf n:=funext (ZD9 n);show ZxD (Zpw n) w=ZuT (Zqf n) w;rw[this];rfl
theorem ZEo (w:List Int):Zoo w=Zoz w:=by unfold Zoo Zoz;rw[ZD9];rfl
theorem ZBl {l:List Nat} (h:Dg l) (hl:l.length≤1000000):Zoo (iL l)=some (iL (wd (val l))):=by rw[ZEo,ZAN h hl]
theorem ZBk (neg:Bool) {l:List Nat} (h:Dg l) (hl:l.length≤1000000):Zn4 neg (iL l)=some (bg (if neg then -(val l:Int)else val l)):=by
 unfold Zn4 Zt2;rw[ZBl h hl,ZMo,Zn0];unfold bg;cases neg with
 |true=>
  rw[cond_true,if_pos rfl,ZLK,ZLJ];congr 2
  by_cases h0:val l=0
  ·rw[h0,ZvZ];rfl
  ·have:=ZtI h0;rw[decide_eq_true (by omega),decide_eq_true (by omega)]
 |false=>rw[cond_false,if_neg (by decide),ZLJ,decide_eq_false (by omega)]
theorem Zzl (a:ZnD):Zpd a=ZtU a:=rfl
end Go.Proofs
namespace Go.Proofs
open Go Eng
theorem ZCx (a b:Nat) (ha:(wd a).length≤100000) (hb:(wd b).length≤100000):ZoO (iL (wd a)) (iL (wd b))=some (ZCL a b):=by
 refine Zq6 ?_;unfold ZoO;rw[Zn0,Zn0,Zn3];refine⟨fun h=> ?_,fun h=> ?_⟩
 ·have hne:(wd a).length≠(wd b).length:=fun e=>by rw[e]at h;simp at h
  rw[Zn3];refine⟨fun h=> ?_,fun h=> ?_⟩
  ·have h1:(wd a).length < (wd b).length:=by have:=of_decide_eq_true h;omega
   rw[ZnB,Zzj (ZCM h1)]
  ·have h1:(wd b).length < (wd a).length:=by have:=of_decide_eq_false h;omega
   rw[ZnB,Zy4 (ZCM h1)]
 ·have hl:(wd a).length=(wd b).length:=by simp only[bne_eq_false_iff_eq]at h;omega
  rw[ZnE,ZnC];refine⟨ZnH (by omega), ?_⟩;refine ZnI (ZBO ZzX (wd a).length (by omega) (fun i (s:Unit)=>(iL (wd a),iL (wd b),i)) (fun k _=>(wd a).drop k=(wd b).drop k)
   (Q:=fun r=>r= .ret (ZCL a b)∨r= .brk ()∧a=b) () (by rw[List.drop_length,hl,List.drop_length]) ?_ ?_) ?_
  ·rintro rec k ⟨⟩ hk hP ih;have hk2:k < (wd b).length:=by omega
   unfold Zu8 ZsJ;dsimp only;rw[Zn3];refine⟨fun _=> ?_,fun h=>by have:=of_decide_eq_false h;omega⟩;have ha:=Zz5 hk;have hb:=Zz5 hk2;rw[Ztc]at ha hb;have la:val ((wd a).take k) < Bw ^ k:=by have:=Zym ((Zxh a).take k);rwa [List.length_take,ZMa (by omega)]at this
   have lb:val ((wd b).take k) < Bw ^ k:=by have:=Zym ((Zxh b).take k);rwa [List.length_take,ZMa (by omega)]at this
   rw[ZvY hk,ZnC,ZnB,ZvY hk2,ZnC,ZnB,Zn3];refine⟨fun hc=> ?_,fun hc=> ?_⟩
   ·have h1:(wd a)[k] < (wd b)[k]:=by have:=of_decide_eq_true hc;omega
    have:a < b:=by rw[ha,hb,hP];exact ZCV (A:=0) (B:=0) la (by omega)
    rw[ZnB];exact .inl (by rw[Zzj this])
   ·rw[ZnC,ZnB,ZnC,ZnB,Zn3];refine⟨fun hc2=> ?_,fun hc2=> ?_⟩
    ·have h1:(wd b)[k] < (wd a)[k]:=by have:=of_decide_eq_true hc2;omega
     have:b < a:=by rw[ha,hb,hP];exact ZCV (A:=0) (B:=0) lb (by omega)
     rw[ZnB];exact .inl (by rw[Zy4 this])
    ·rw[ZnE];refine⟨ZnH (by omega),ih () ?_⟩;have h1:(wd a)[k]=(wd b)[k]:=by have q1:=of_decide_eq_false hc;have q2:=of_decide_eq_false hc2;omega
     rw[←ZLR (h:=hk),←ZLR (h:=hk2),h1,hP]
  ·rintro rec ⟨⟩ hP;unfold Zu8 ZsJ;dsimp only;rw[Zn3];refine⟨fun h=>by have:=of_decide_eq_true h;omega,fun _=> ?_⟩;rw[ZnB];rw[List.drop_zero,List.drop_zero]at hP;exact .inr ⟨rfl,by rw[←Ztc a,←Ztc b,hP]⟩
  ·rintro r (rfl |⟨rfl,rfl⟩)
   ·exact ZnB.2 rfl
   ·unfold Zwc;exact ZnB.2 (Zyd a).symm
theorem ZDL {a:Nat} (k:Nat) (hk:k≤32):shlK .u32 (a:Int) (k:Int)=((a*2 ^ k % 4294967296:Nat):Int):=by
 unfold shlK;rw[ZLM,show IntKind.bits .u32=32 from rfl,ZMa (by omega)];have e:(a:Int)*(2:Int) ^ k=((a*2 ^ k:Nat):Int):=by push_cast;rfl
 rw[e,ZwA]
theorem ZD8 (a d:Nat) (hd:d≤1) (ha:(wd a).length≤100000):Zq0 (iL (wd a)) (d:Int)=some (iL (wd (2*a+d))):=by
 refine Zq6 ?_;unfold Zq0;rw[ZnC];refine ZnI (Zuj Zzo (wd a).length (by omega) (fun i (s:Nat×List Nat)=>(iL (wd a),(s.1:Int),i,iL s.2)) (fun i s=>s.1≤1∧s.2.length=i∧Dg s.2∧val s.2+Bw ^ i*s.1=2*val ((wd a).take i)+d)
  (Q:=fun y=>∃(c:Nat) (o:List Nat),y=((c:Int),iL o)∧c≤1∧Dg o∧o.length=(wd a).length∧val o+Bw ^ (wd a).length*c=2*a+d) (d,[]) ⟨hd,rfl,ZBi,by simp[val]⟩ ?_ ?_) ?_
 ·rintro rec i ⟨c,o⟩ hi ⟨hc,hl,hod,hv⟩ ih;dsimp only at hc hl hod hv ih;have h1:=(Zxh a).get hi;unfold Zup Zr6;dsimp only;rw[Zn3,Zn0];refine⟨fun _=> ?_,fun h=>by have:=of_decide_eq_false h;omega⟩;rw[ZvY hi,ZnC,ZnB];generalize ex:(wd a)[i]=x at h1;have eor:orK .u32 (shlK .u32 (x:Int) 1) (c:Int)=((c+x*2 ^ 1 % Bw:Nat):Int):=by rw[show (1:Int)=((1:Nat):Int)from rfl,ZDL 1 (by omega),ZDq (ZMb _ (by decide)) (by omega),Nat.or_comm];congr 1;exact ZC6 (by decide) (by omega) h1
  have esh:shrK .u32 (x:Int) 31=((x / 2 ^ 31:Nat):Int):=ZBu 31 (by omega);rw[eor,ZMo,esh,ZnE,ZnE,ZnE,ZnE,Zn0];have hx:c+x*2 ^ 1 % Bw < Bw:=by simp only[Bw]at h1⊢;omega
  refine⟨by decide,Zyc (by simp only[ZLT];omega),by decide,ZnH (by omega), ?_⟩;have:=ih (x / 2 ^ 31,o++[c+x*2 ^ 1 % Bw]) ⟨by simp only[Bw]at h1;dsimp only;omega,by simp[hl],hod.app (ZAK hx), ?_⟩
  ·rw[ZCq]at this;exact this
  ·dsimp only;have q:c+x*2 ^ 1 % Bw+Bw*(x / 2 ^ 31)=c+2*x:=by simp only[Bw]at h1⊢;omega
   have q2:Bw ^ i*(c+x*2 ^ 1 % Bw+Bw*(x / 2 ^ 31))=Bw ^ i*(c+2*x):=by rw[q]
   have q3:Bw ^ i*(2*x)=2*(Bw ^ i*x):=ZMf _ _ _;rw[ZMc,ZMc (Bw ^ i) c (2*x),q3]at q2;rw[Zxv,hl,ZoK hi,ex];generalize c+x*2 ^ 1 % Bw=dg at*
   generalize x / 2 ^ 31=cy at*
   rw[ZMk,ZMd];omega
 ·rintro rec ⟨c,o⟩ ⟨hc,hl,hod,hv⟩;dsimp only at hc hl hod hv;unfold Zup Zr6;dsimp only;rw[Zn3,Zn0];refine⟨fun h=>by have:=of_decide_eq_true h;omega,fun _=> ?_⟩;rw[ZnB];rw[ZLW,Ztc]at hv;exact⟨c,o,rfl,hc,hod,hl,hv⟩
 ·rintro y ⟨c,o,rfl,hc,hod,hl,hv⟩;dsimp only;unfold Zu1;have e:iL o++[(c:Int)]=iL (o++[c]):=by rw[ZCq];rfl
  rw[ZnE,Zn0,e,ZBl (hod.app (ZAK (by simp only[Bw];omega))) (by simp;omega),ZnC,ZnB,ZnB,Zxv,hl,hv];exact⟨Zyc (by simp only[ZLT];omega),rfl⟩
end Go.Proofs
namespace Go.Proofs
open Go Eng
theorem ZG5 (t:Int):shrK .i64 t 32=t / 4294967296:=by unfold shrK;rw[show min (32:Int).toNat (IntKind.bits .i64)=32 from by decide,Int.fdiv_eq_ediv_of_nonneg _ (by decide)];rfl
theorem ZCe (a b:Nat) (hab:b≤a) (ha:(wd a).length≤100000):ZpX (iL (wd a)) (iL (wd b))=some (iL (wd (a - b))):=by
 have hlb:(wd b).length≤(wd a).length:=Zu0 hab;refine Zq6 ?_;unfold ZpX;rw[ZnC];refine ZnI (Zuj ZzT (wd a).length (by omega) (fun i (s:Nat×List Nat)=>(iL (wd a),iL (wd b), -(s.1:Int),i,iL s.2)) (fun i s=>s.1≤1∧s.2.length=i∧Dg s.2∧val ((wd a).take i)+Bw ^ i*s.1=val s.2+val ((wd b).take i))
  (Q:=fun y=>∃(o:List Nat),y=iL o∧Dg o∧o.length=(wd a).length∧val o=a - b) (0,[]) ⟨by simp,rfl,ZBi,by simp[val]⟩ ?_ ?_) ?_
 ·rintro rec i ⟨c,o⟩ hi ⟨hc,hl,hd,hv⟩ ih;dsimp only at hc hl hd hv ih;have h1:=(Zxh a).get hi;have h2:=ZBw (Zxh b) i;have ey0:(wd b).getD i 0=(if i < (wd b).length then (wd b).getD i 0 else 0):=by
   by_cases h:i < (wd b).length
   ·rw[if_pos h]
   ·rw[if_neg h,ZLN,ZLP (by omega)];rfl
  have fin:∀y:Nat,(wd b).getD i 0=y→wp (ZrR (fun a b c i out=>rec (a,b,c,i,out)) (iL (wd a)) (iL (wd b)) (-(c:Int)+((wd a)[i]:Int) - (y:Int)) (i:Int) (iL o)) (fun y=>∃(o:List Nat),y=iL o∧Dg o∧o.length=(wd a).length∧val o=a - b):=fun y ey=>by
   rw[ey]at h2;generalize ex:(wd a)[i]=x at h1;have ew:IntKind.wrap .u32 (-(c:Int)+(x:Int) - (y:Int))=(((x+4294967296 - y - c) % 4294967296:Nat):Int):=by simp only[Bw]at h1 h2;rw[IntKind.wrap_u32];omega
   have es:shrK .i64 (-(c:Int)+(x:Int) - (y:Int)) 32= -(((if x < y+c then 1 else 0):Nat):Int):=by simp only[Bw]at h1 h2;rw[ZG5];split<;>omega
   unfold ZrR;rw[ew,es,ZnE,ZnE,ZnE,Zn0];refine⟨Zyc (by simp only[ZLT];omega),by decide,ZnH (by omega), ?_⟩;have:=ih ((if x < y+c then 1 else 0),o++[(x+4294967296 - y - c) % 4294967296]) ⟨by dsimp only;split<;>omega,by simp[hl],hd.app (ZAK (ZMb _ (by decide))), ?_⟩
   ·rw[ZCq]at this;exact this
   ·dsimp only;rw[Zxv,hl,ZMk,ZoK hi,Zyf,ex,ey,ZMd];have e:x+Bw*(if x < y+c then 1 else 0)=(x+4294967296 - y - c) % 4294967296+y+c:=by simp only[Bw]at h1 h2⊢;split<;>omega
    have e2:Bw ^ i*(x+Bw*(if x < y+c then 1 else 0))=Bw ^ i*((x+4294967296 - y - c) % 4294967296+y+c):=by rw[e]
    rw[ZMc,ZMc,ZMc]at e2;omega
  unfold Zu2 ZsF;dsimp only;rw[Zn3,Zn0,Zn0];refine⟨fun _=> ?_,fun h=>by have:=of_decide_eq_false h;omega⟩;have wx:IntKind.wrap .i64 ((wd a)[i]:Int)=((wd a)[i]:Int):=wrap_i64 (by simp only[Bw]at h1;omega);rw[ZvY hi,ZnC,ZnB,wx,ZnE,Zn3];refine⟨ZnH (by simp only[Bw]at h1;omega),fun h=> ?_,fun h=> ?_⟩
  ·have hib:i < (wd b).length:=by have:=of_decide_eq_true h;omega
   have hy:=(Zxh b).get hib;have wy:IntKind.wrap .i64 ((wd b)[i]:Int)=((wd b)[i]:Int):=wrap_i64 (by simp only[Bw]at hy;omega);rw[ZvY hib,ZnC,ZnB,wy,ZnE];refine⟨ZnH (by simp only[Bw]at h1 hy;omega),fin _ ?_⟩;rw[ZLN,ZLO hib];rfl
  ·have hib:¬i < (wd b).length:=by have:=of_decide_eq_false h;omega
   have:=fin 0 (by rw[ey0,if_neg hib]);rw[Int.natCast_zero,Int.sub_zero]at this;exact this
 ·rintro rec ⟨c,o⟩ ⟨hc,hl,hd,hv⟩;unfold Zu2 ZsF;dsimp only at hc hl hd hv⊢
  rw[Zn3,Zn0];refine⟨fun h=>by have:=of_decide_eq_true h;omega,fun _=> ?_⟩;rw[ZnB];rw[ZLW,ZLX (by omega),Ztc,Ztc]at hv;have:=Zym hd;rw[hl]at this;have hc0:c=0:=by
   rcases Nat.eq_zero_or_pos c with h |h
   ·exact h
   ·have:c=1:=by omega
    rw[this,Nat.mul_one]at hv;omega
  rw[hc0,Nat.mul_zero]at hv;exact⟨o,rfl,hd,hl,by omega⟩
 ·rintro y ⟨o,rfl,hd,hl,hv⟩;unfold Zv3;rw[ZBl hd (by omega),ZnC,ZnB,ZnB,hv]
end Go.Proofs
namespace Go.Proofs
open Go Eng
theorem ZCa (a:Nat) (ha:(wd a).length≤100000):ZpB (iL (wd a))=some (iL (wd (a / 2))):=by
 refine Zq6 ?_;unfold ZpB;rw[List.nil_append,ZnE,ZnC,Zn0];refine⟨Zyc (by rw[List.length_nil];omega), ?_⟩;refine ZnI (Zuj ZzD (wd a).length (by omega) (fun i (o:List Nat)=>(iL (wd a),((wd a).length:Int),i,iL (o++(wd a).drop o.length))) (fun i o=>o.length=i∧Dg o∧val o*2+(wd a).getD 0 0 % 2=val ((wd a).take i)+Bw ^ i*((wd a).getD i 0 % 2))
  (Q:=fun y=>∃(o:List Nat),y=iL o∧Dg o∧o.length=(wd a).length∧val o=a / 2) [] ⟨rfl,ZBi,by simp[val]⟩ ?_ ?_) ?_
 ·rintro rec i o hi ⟨hol,hod,hov⟩ ih;have h1:=(Zxh a).get hi;have hyB:=ZBw (Zxh a) (i+1);have hlen:(o++(wd a).drop o.length).length=(wd a).length:=by simp;omega
  have gx:(iL (o++(wd a).drop o.length))[i]? =some ((wd a)[i]:Int):=by rw[ZBg (by omega)];congr 2;rw[List.getElem_append_right (by omega)];simp[hol]
  have fin:∀z:Nat,z=(wd a)[i] / 2+(wd a).getD (i+1) 0*2 ^ 31 % Bw→wp (Zrp (fun a t9 i out=>rec (a,t9,i,out)) (iL (wd a)) ((wd a).length:Int) (i:Int) (iL ((o++(wd a).drop o.length).set i z))) (fun y=>∃(o:List Nat),y=iL o∧Dg o∧o.length=(wd a).length∧val o=a / 2):=fun z hz=>by
   unfold Zrp;have es:(o++(wd a).drop o.length).set i z=(o++[z])++(wd a).drop (o++[z]).length:=by rw[List.set_append_right _ _ (by omega),hol,Nat.sub_self,←ZLR (h:=hi),List.set_cons_zero];simp[hol]
   have eg:(wd a).getD i 0=(wd a)[i]:=by rw[ZLN,ZLO hi];rfl
   rw[eg]at hov;rw[ZnE,es];generalize ex:(wd a)[i]=x at*
   generalize ey:(wd a).getD (i+1) 0=y at*
   have hzB:z < Bw:=by simp only[Bw]at h1 hz⊢;omega
   refine⟨ZnH (by omega),ih (o++[z]) ⟨by simp[hol],hod.app (ZAK hzB), ?_⟩⟩;have hd1:z*2+x % 2=x+Bw*(y % 2):=by simp only[Bw]at h1 hz⊢;omega
   have q1:Bw ^ i*(z*2+x % 2)=Bw ^ i*(x+Bw*(y % 2)):=by rw[hd1]
   rw[ZMc,ZMc]at q1;rw[Zxv,hol,ZoK hi,ex,ZMk,Nat.add_mul,ZMd,ZMd];omega
  unfold ZuP Zsx;dsimp only;rw[Zn3];refine⟨fun _=> ?_,fun h=>by have:=of_decide_eq_false h;omega⟩;have esh:shrK .u32 ((wd a)[i]:Int) 1=(((wd a)[i] / 2:Nat):Int):=ZBu 1 (by omega);rw[ZLM,gx,ZnE,ZnC,ZnB,ZnE,ZnE,ZnE,esh,ZAt,Zn0,Zn0,hlen,Zn3];refine⟨Zpg ⟨by omega,by omega⟩,by decide,Zpg ⟨by omega,by omega⟩,ZnH (by omega),fun h=> ?_,fun h=> ?_⟩
  ·have hi2:i+1 < (wd a).length:=by have:=of_decide_eq_true h;omega
   have gz:(iL ((o++(wd a).drop o.length).set i ((wd a)[i] / 2)))[i]? =some (((wd a)[i] / 2:Nat):Int):=by rw[ZBg (by rw[ZLS];omega),List.getElem_set_self]
   have e1:(i:Int)+1=((i+1:Nat):Int):=rfl;have eg:(wd a).getD (i+1) 0=(wd a)[i+1]:=by rw[ZLN,ZLO hi2];rfl
   have eor:orK .u32 (((wd a)[i] / 2:Nat):Int) (shlK .u32 ((wd a)[i+1]:Int) 31)=(((wd a)[i] / 2+(wd a).getD (i+1) 0*2 ^ 31 % Bw:Nat):Int):=by rw[eg,show (31:Int)=((31:Nat):Int)from rfl,ZDL 31 (by omega),ZDq (by simp only[Bw]at h1;omega) (ZMb _ (by decide))];congr 1;exact ZC6 (by decide) (by simp only[Bw]at h1;omega) ((Zxh a).get hi2)
   rw[e1,ZvY hi2,gz,ZnE,ZnC,ZnB,ZnE,ZnC,ZnB,ZnE,ZnE,eor,Zn0,ZLS,hlen,ZAt,List.set_set];exact⟨Zpg ⟨by omega,by omega⟩,ZnH (by omega),by decide,Zpg ⟨by omega,by omega⟩,fin _ rfl⟩
  ·have hi2:¬i+1 < (wd a).length:=by have:=of_decide_eq_false h;omega
   refine fin _ ?_;rw[ZLN,ZLP (by omega)];simp
 ·rintro rec o ⟨hol,hod,hov⟩;unfold ZuP Zsx;dsimp only;rw[Zn3];refine⟨fun h=>by have:=of_decide_eq_true h;omega,fun _=> ?_⟩;rw[ZnB];have eg:(wd a).getD (wd a).length 0=0:=by rw[ZLN,ZLP (by omega)];rfl
  rw[eg,Nat.zero_mod,Nat.mul_zero,Nat.add_zero,ZLW,Ztc]at hov;refine⟨o,by rw[hol,List.drop_length,List.append_nil],hod,hol, ?_⟩;omega
 ·rintro y ⟨o,rfl,hd,hl,hv⟩;unfold ZvB;rw[ZBl hd (by omega),ZnC,ZnB,ZnB,hv]
end Go.Proofs
namespace Go.Proofs
open Go Eng
theorem ZDt {a:Nat} (h:a≠0):idx (iL (wd a)) 0=some ((a % Bw:Nat):Int):=by rw[ZBA h];rfl
theorem ZCr {a:Nat}:(andK .u32 ((a % Bw:Nat):Int) 1 == 0)=decide (a % 2=0):=by
 rw[show (1:Int)=((1:Nat):Int)from rfl,ZDb (ZMb _ (by decide)) (by decide),Nat.and_one_is_mod];have e:a % Bw % 2=a % 2:=by simp only[Bw];omega
 rw[e]
 by_cases h:a % 2=0
 ·rw[h];rfl
 ·rw[decide_eq_false h];exact beq_eq_false_iff_ne.2 (by omega)
theorem ZEi (P:Nat→Prop) {f:Nat→List Int×List Int×Int→Option (List Int×List Int×Int)} (y:List Int) (k:Int)
  (hf:∀n x,x≠0→(wd x).length≤100000→f (n+1) (iL (wd x),y,k)=if x % 2=0 then f n (iL (wd (x / 2)),y,k)else some (iL (wd x),y,k))
  (hP:∀x,P (2*x)→P x):∀(n x:Nat),x≠0→(wd x).length≤100000→P x→(∀m,x < 2 ^ m→m≤n→∃z,f n (iL (wd x),y,k)=some (iL (wd z),y,k)∧z % 2=1∧z≤x∧P z)
 |0,x,hx,hl,hp,m,hm,hmn=>by
  have:m=0:=by omega
  subst this;rw[ZMl]at hm;omega
 |n+1,x,hx,hl,hp,m,hm,hmn=>by
  rw[hf n x hx hl]
  by_cases h:x % 2=0
  ·rw[if_pos h];cases m with
   |zero=>rw[ZMl]at hm;omega
   |succ m=>
    obtain⟨z,h1,h2,h3,h4⟩:=ZEi P y k hf hP n (x / 2) (by omega) (ZL6 (Zu0 (ZL2 x 2)) hl) (hP _ (by rwa [show 2*(x / 2)=x by omega])) m (by rw[ZMk]at hm;omega) (by omega);exact⟨z,h1,h2,by omega,h4⟩
  ·rw[if_neg h];exact⟨x,rfl,by omega,ZL5 _,hp⟩
end Go.Proofs
namespace Go.Proofs
open Go Eng
theorem Zzk (x:Nat):x < 2 ^ (x.log2+1):=Nat.lt_log2_self
theorem ZAU {x n:Nat} (h:(wd x).length≤n):x.log2≤32*n:=by
 rcases Nat.eq_zero_or_pos x with rfl |hp
 ·rw[Nat.log2_zero];omega
 ·have h1:=Nat.log2_self_le (n:=x) (by omega);have h2:=ZL8 (ZxO x) (ZMj (n:=Bw) (by decide) h);rw[show Bw=2 ^ 32 from rfl,←Nat.pow_mul]at h2;exact ZL4 ((Nat.pow_lt_pow_iff_right (a:=2) (by decide)).1 (ZL7 h1 h2))
theorem ZFa {x b:Nat} (hb:b % 2=1):ZL3 (2*x) b=ZL3 x b:=by
 have hc:Nat.Coprime 2 b:=by unfold Nat.Coprime;rw[Nat.gcd_rec,hb,Nat.gcd_one_left]
 exact Nat.Coprime.gcd_mul_left_cancel x hc
theorem ZKZ (y:List Int) (k:Int) {x:Nat} (b:Nat) (hb:b % 2=1) (hx:x≠0) (hl:(wd x).length≤100000):∃z,Zo2 big (iL (wd x)) y k=some (iL (wd z),y,k)∧z % 2=1∧z≤x∧ZL3 z b=ZL3 x b:=by
 have hm:=ZAU hl;refine ZEi (fun z=>ZL3 z b=ZL3 x b) (f:=fun n t=>Zo2 n t.1 t.2.1 t.2.2) y k (fun n x hx hl=> ?_) (fun z h=>by rwa [ZFa hb]at h) big x hx hl rfl (x.log2+1) (Zzk x) (ZL4 (ZCy (by omega)));show Zq8 (Zo2 n) (iL (wd x)) y k=_;unfold Zq8;rw[ZDt hx,ZMo,ZCr]
 by_cases h:x % 2=0
 ·rw[decide_eq_true h,cond_true,if_pos h,ZCa x hl,ZMo]
 ·rw[decide_eq_false h,cond_false,if_neg h]
end Go.Proofs
namespace Go.Proofs
open Go Eng
theorem ZGv (y:List Int) (k:Int) {x:Nat} (ho:x % 2=1):Zo2 big (iL (wd x)) y k=some (iL (wd x),y,k):=by obtain⟨n,hn⟩:=ZDY 1 (by decide);rw[hn];show Zq8 (Zo2 n) (iL (wd x)) y k=_;unfold Zq8;rw[ZDt (by omega),ZMo,ZCr,decide_eq_false (by omega),cond_false]
theorem ZKY (w:List Int) (k:Int) {y:Nat} (b:Nat) (hb:b % 2=1) (hy:y≠0) (hl:(wd y).length≤100000):∃z,Zo1 big w (iL (wd y)) k=some (w,iL (wd z),k)∧z % 2=1∧(z≤y∧(y % 2=0→z≤y / 2))∧ZL3 z b=ZL3 y b:=by
 have hm:=ZAU hl;have step:∀n x,x≠0→(wd x).length≤100000→Zo1 (n+1) w (iL (wd x)) k=if x % 2=0 then Zo1 n w (iL (wd (x / 2))) k else some (w,iL (wd x),k):=fun n x hx hl=>by
  show Zu5 (Zo1 n) w (iL (wd x)) k=_;unfold Zu5;rw[ZDt hx,ZMo,ZCr]
  by_cases h:x % 2=0
  ·rw[decide_eq_true h,cond_true,if_pos h,ZCa x hl,ZMo]
  ·rw[decide_eq_false h,cond_false,if_neg h]
 have key:∀(n x m:Nat),x≠0→(wd x).length≤100000→x < 2 ^ m→m≤n→∃z,Zo1 n w (iL (wd x)) k=some (w,iL (wd z),k)∧z % 2=1∧(z≤x∧(x % 2=0→z≤x / 2))∧ZL3 z b=ZL3 x b:=by
  intro n
  induction n with
  |zero=>
   intro x m hx hl hm hmn;have:m=0:=by omega
   subst this;rw[ZMl]at hm;omega
  |succ n ih=>
   intro x m hx hl hm hmn;rw[step n x hx hl]
   by_cases h:x % 2=0
   ·rw[if_pos h];cases m with
    |zero=>rw[ZMl]at hm;omega
    |succ m=>
     obtain⟨z,h1,h2,h3,h4⟩:=ih (x / 2) m (by omega) (ZL6 (Zu0 (ZL2 x 2)) hl) (by rw[ZMk]at hm;omega) (by omega);refine⟨z,h1,h2,⟨by omega,fun _=>h3.1⟩, ?_⟩;rw[h4,←ZFa hb,show 2*(x / 2)=x by omega]
   ·rw[if_neg h];exact⟨x,rfl,by omega,⟨ZL5 _,fun h'=>absurd h' h⟩,rfl⟩
 exact key big y (y.log2+1) hy hl (Zzk y) (ZL4 (ZCy (by omega)))
end Go.Proofs
namespace Go.Proofs
open Go Eng
theorem ZFZ (k:Int):∀(n x y p q:Nat),x % 2=1→(wd x).length≤100000→(wd y).length≤100000→x < 2 ^ p→y < 2 ^ q→p+q+y % 2 < n→Zn9 n (iL (wd x)) (iL (wd y)) k=some (iL (wd (ZL3 x y)),k)
 |0,x,y,p,q,_,_,_,_,_,h=>absurd h (by omega)
 |n+1,x,y,p,q,ho,hxl,hyl,hp,hq,hn=>by
  show Zq9 (Zn9 n) _ _ _=_;unfold Zq9;rw[Zn0]
  by_cases h0:y=0
  ·subst h0;rw[ZvZ,Nat.gcd_zero_right];rfl
  ·have hl:=ZtI h0;obtain⟨z,hz,hz1,hz2,hz3⟩:=ZKY (iL (wd x)) k x ho h0 hyl;rw[decide_eq_true (by omega),cond_true,ZGv _ _ ho,ZMo];dsimp only;unfold Zv9;rw[hz,ZMo];dsimp only;have hzl:=ZL6 (Zu0 hz2.1) hyl;unfold Zv8;rw[ZCx x z hxl hzl,ZMo];obtain⟨q',hq',hq2⟩:∃q',z < 2 ^ q'∧q'+1≤q+y % 2:=by
    by_cases he:y % 2=0
    ·cases q with
     |zero=>rw[ZMl]at hq;omega
     |succ q=>
      refine⟨q, ?_,by omega⟩;have:=hz2.2 he;rw[ZMk]at hq;omega
    ·exact⟨q,by omega,by omega⟩
   unfold ZtZ;have eg:ZL3 x y=ZL3 x z:=by rw[Nat.gcd_comm x y,←hz3,Nat.gcd_comm]
   rw[eg]
   by_cases hc:z < x
   ·rw[Zy4 hc,show decide ((1:Int) > 0)=true from rfl,cond_true,ZCe x z (by omega) hxl,ZMo,ZFZ k n z (x - z) q' p hz1 hzl (ZL6 (Zu0 (Nat.sub_le x z)) hxl) hq' (by omega) (by omega),Nat.gcd_sub_self_right (by omega),Nat.gcd_comm]
   ·have hnc:decide (ZCL x z > 0)=false:=by refine decide_eq_false ?_;unfold ZCL;rw[if_neg hc];split<;>decide
    rw[hnc,cond_false,ZCe z x (by omega) hzl,ZMo,ZFZ k n x (z - x) p q' ho hxl (ZL6 (Zu0 (Nat.sub_le z x)) hzl) hp (by omega) (by omega),Nat.gcd_sub_self_right (by omega)]
end Go.Proofs
namespace Go.Proofs
open Go Eng
theorem ZIW:∀(n x y j m:Nat),x≠0→y≠0→(wd x).length≤100000→(wd y).length≤100000→x < 2 ^ m→m≤n→j+m≤1000000000→
  ∃x' y' t:Nat,Zqy n (iL (wd x)) (iL (wd y)) (j:Int)=some (iL (wd x'),iL (wd y'),((j+t:Nat):Int))∧(x' % 2=1∨y' % 2=1)∧ZL3 x y=2 ^ t*ZL3 x' y'∧x'≠0∧y'≠0∧x'≤x∧y'≤y∧t≤m
 |0,x,y,j,m,hx,hy,hxl,hyl,hm,hmn,hj=>by
  have:m=0:=by omega
  subst this;rw[ZMl]at hm;omega
 |n+1,x,y,j,m,hx,hy,hxl,hyl,hm,hmn,hj=>by
  show ∃x' y' t:Nat,Zu6 (Zqy n) _ _ _=_∧_;unfold Zu6 Zt0;rw[ZDt hx,ZMo,ZCr]
  by_cases h1:x % 2=0
  ·rw[decide_eq_true h1,cond_true,ZDt hy,ZMo,ZCr]
   by_cases h2:y % 2=0
   ·cases m with
    |zero=>rw[ZMl]at hm;omega
    |succ m=>
     rw[decide_eq_true h2,cond_true,ZCa x hxl,ZMo,ZCa y hyl,ZMo,ZnH (by omega),chk_true];obtain⟨x',y',t,q1,q2,q3,q4,q5,q6,q7,q8⟩:=ZIW n (x / 2) (y / 2) (j+1) m (by omega) (by omega) (ZL6 (Zu0 (ZL2 x 2)) hxl) (ZL6 (Zu0 (ZL2 y 2)) hyl) (by rw[ZMk]at hm;omega) (by omega) (by omega);refine⟨x',y',t+1, ?_,q2, ?_,q4,q5,by omega,by omega,by omega⟩
     ·rw[show (j:Int)+1=((j+1:Nat):Int)from rfl,q1,show j+1+t=j+(t+1) by omega]
     ·have:=Nat.gcd_mul_left 2 (x / 2) (y / 2);rw[show 2*(x / 2)=x by omega,show 2*(y / 2)=y by omega]at this;rw[this,q3,ZMk,ZMe (2 ^ t) 2,ZMd]
   ·rw[decide_eq_false h2,cond_false];exact⟨x,y,0,rfl,.inr (by omega),by rw[ZMl,ZMg],hx,hy,ZL5 _,ZL5 _,Nat.zero_le _⟩
  ·rw[decide_eq_false h1,cond_false,cond_false];exact⟨x,y,0,rfl,.inl (by omega),by rw[ZMl,ZMg],hx,hy,ZL5 _,ZL5 _,Nat.zero_le _⟩
theorem ZIV:∀(k n a:Nat),k < n→k≤1000000000→(wd (2 ^ k*a)).length≤100000→Zqx n (iL (wd a)) (k:Int)=some (iL (wd (2 ^ k*a)))
 |k,0,a,h,_,_=>absurd h (by omega)
 |0,n+1,a,_,_,_=>by show Zq7 (Zqx n) _ _=_;unfold Zq7;rw[ZMl,ZMg];rfl
 |k+1,n+1,a,h,hk,hl=>by
  show Zq7 (Zqx n) _ _=_;unfold Zq7;have e:2 ^ (k+1)*a=2 ^ k*(2*a+0):=by rw[ZMk,ZMd,Nat.add_zero]
  have ha:(wd a).length≤100000:=ZL6 (Zu0 (Nat.le_mul_of_pos_left a (ZMn _))) hl;rw[e]at hl;have ht:=ZD8 a 0 (by omega) ha;rw[Int.natCast_zero]at ht;rw[decide_eq_true (by omega),cond_true,ht,ZMo,show ((k+1:Nat):Int) - 1=(k:Int) by omega,ZnH (by omega),chk_true,ZIV k n (2*a+0) (by omega) (by omega) hl,e]
theorem ZFb (a b:Nat) (ha0:a≠0) (hb0:b≠0) (ha:(wd a).length≤50000) (hb:(wd b).length≤50000):ZrI (iL (wd a)) (iL (wd b))=some (iL (wd (ZL3 a b))):=by
 have hla:=ZAU ha;have hlb:=ZAU hb;obtain⟨x,y,t,q1,q2,q3,q4,q5,q6,q7,q8⟩:=ZIW big a b 0 (a.log2+1) ha0 hb0 (by omega) (by omega) (Zzk a) (ZL4 (ZCy (by omega))) (by omega);rw[Int.natCast_zero,Nat.zero_add]at q1;have hxl:=ZL6 (Zu0 q6) ha;have hyl:=ZL6 (Zu0 q7) hb;have hlx:=ZAU hxl;have hly:=ZAU hyl;have main:Zn9 big (iL (wd x)) (iL (wd y)) (t:Int)=some (iL (wd (ZL3 x y)),(t:Int)):=by
  by_cases hx:x % 2=1
  ·exact ZFZ _ big x y _ _ hx (by omega) (by omega) (Zzk x) (Zzk y) (ZCy (by omega))
  ·have hy:y % 2=1:=by omega
   obtain⟨z,z1,z2,z3,z4⟩:=ZKZ (iL (wd y)) (t:Int) y hy q4 (by omega);have hzl:=ZL6 (Zu0 z3) hxl;have hlz:=ZAU hzl;have e:=ZFZ (t:Int) big z y _ _ z2 (by omega) (by omega) (Zzk z) (Zzk y) (ZCy (by omega));rw[z4]at e;rw[←e];obtain⟨n,hn⟩:∃n,big=n+1:=⟨36893488147419103231,by rw[big_eq]⟩;have s1:∀u,Zn9 big (iL (wd u)) (iL (wd y)) (t:Int)=Zq9 (Zn9 n) (iL (wd u)) (iL (wd y)) (t:Int):=fun u=>by rw[hn];rfl
   rw[s1,s1];unfold Zq9;have hl:=ZtI q5;rw[Zn0,decide_eq_true (by omega),cond_true,cond_true,z1,ZGv _ _ z2]
 have hg:(wd (2 ^ t*ZL3 x y)).length≤100000:=by rw[←q3];exact ZL6 (ZEI (by omega) hb) (by omega)
 unfold ZrI;rw[q1,ZMo];dsimp only;unfold Zwa Zv7 Zv6;rw[main,ZMo];dsimp only;rw[ZIV t big _ (ZCy (by omega)) (by omega) hg,ZMo,q3]
end Go.Proofs
namespace Go.Proofs
open Go Eng
theorem ZFi {l:List Nat} {i:Nat} (hd:Dg l) (h:i / 32 < l.length):l[i / 32] / 2 ^ (i % 32) % 2=val l / 2 ^ i % 2:=by
 have e:=Zz5 h;have hlt:=Zym (hd.take (i / 32));rw[List.length_take,ZMa (by omega)]at hlt;have hi:2 ^ i=Bw ^ (i / 32)*2 ^ (i % 32):=by rw[show Bw=2 ^ 32 from rfl,←Nat.pow_mul,←ZMi,ZL0]
 have hr:i % 32 < 32:=ZMb _ (by decide);have hB:Bw=2 ^ (i % 32)*(2*2 ^ (31 - i % 32)):=by rw[show 2*2 ^ (31 - i % 32)=2 ^ (31 - i % 32+1) by rw[ZMk,ZMe],←ZMi,show i % 32+(31 - i % 32+1)=32 by omega]
 have e1:val l / Bw ^ (i / 32)=l[i / 32]+Bw*val (l.drop (i / 32+1)):=by rw[e,ZLY _ _ (Nat.pow_pos (by decide)),ZL1 hlt,Nat.zero_add]
 rw[hi,←Nat.div_div_eq_div_mul,e1];generalize l[i / 32]=x;generalize val (l.drop (i / 32+1))=y;have e2:(x+Bw*y) / 2 ^ (i % 32)=x / 2 ^ (i % 32)+2*(2 ^ (31 - i % 32)*y):=by rw[hB,ZMd,ZLY _ _ (ZMn _),ZMd]
 rw[e2,ZLZ]
end Go.Proofs
namespace Go.Proofs
open Go Eng
theorem ZGn (i:Nat):Int.tdiv (i:Int) 32=((i / 32:Nat):Int):=by rw[Int.tdiv_eq_ediv_of_nonneg (by omega)];norm_cast
theorem ZGm (i:Nat):IntKind.wrap .u64 (Int.tmod (i:Int) 32)=((i % 32:Nat):Int):=by rw[Int.tmod_eq_emod_of_nonneg (by omega),IntKind.wrap_u64];omega
theorem ZJp {l:List Nat} {i:Nat} (hd:Dg l) (h:i / 32 < l.length) (hi:i≤1000000000):Ztz (iL l) (i:Int)=some ((val l / 2 ^ i % 2:Nat):Int):=by have h1:=hd.get h;unfold Ztz;rw[ZGn,ZGm,decide_eq_true (by decide),chk_true,ZnH (by omega),chk_true,ZvY h,ZMo,chk_true,decide_eq_true (by omega),chk_true,ZBu _ (by omega),show (1:Int)=((1:Nat):Int)from rfl,ZDb (ZL7 (ZL2 _ _) h1) (by decide),Nat.and_one_is_mod,ZFi hd h]
end Go.Proofs
namespace Go.Proofs
open Go Eng
theorem ZGr {x j:Nat} (h:x / 2 ^ j % 2=0):x|||2 ^ j=x+2 ^ j:=by
 have hlo:=ZMb x (ZMn j);have e:x=2 ^ (j+1)*(x / 2 ^ j / 2)+x % 2 ^ j:=by
  have h1:=ZL0 x (2 ^ j);have h2:2*(x / 2 ^ j / 2)=x / 2 ^ j:=by omega
  rw[ZMk,ZMd,h2,h1]
 have a1:=ZMm (i:=j+1) (b:=x % 2 ^ j) (by rw[ZMk];omega) (x / 2 ^ j / 2);have a2:=ZMm (i:=j) (b:=x % 2 ^ j) hlo 1;have a3:=ZMm (i:=j+1) (b:=2 ^ j*1+x % 2 ^ j) (by rw[ZMk];omega) (x / 2 ^ j / 2);rw[Nat.mul_one]at a2 a3;generalize x / 2 ^ j / 2=t at*
 generalize x % 2 ^ j=lo at*
 rw[e,a1,Nat.or_assoc,Nat.or_comm lo,←a2,←a3,←a1];omega
theorem ZG7 {j:Nat} (hj:j≤31):shlK .u32 1 (j:Int)=((2 ^ j:Nat):Int):=by have:=ZDL (a:=1) j (by omega);rw[ZMg,Nat.mod_eq_of_lt (ZL7 (ZMj (by decide) hj) (by decide))]at this;exact this
theorem ZE8 {A k:Nat}:A / 2 ^ k=2*(A / 2 ^ (k+1))+A / 2 ^ k % 2:=by rw[ZMk,←Nat.div_div_eq_div_mul];omega
theorem ZFd (a b:Nat) (hb0:b≠0) (ha:(wd a).length≤50000) (hb:(wd b).length≤50000):ZrJ (iL (wd a)) (iL (wd b))=some (iL (wd (a / b)),iL (wd (a % b))):=by
 have hlen:∀k,(wd (2*(a / 2 ^ (k+1) % b)+a / 2 ^ k % 2)).length≤50001:=fun k=>by
  have h1:=ZMb (a / 2 ^ (k+1)) (ZMh hb0);have h2:2*(a / 2 ^ (k+1) % b)+a / 2 ^ k % 2≤b+b:=by omega
  exact ZL6 (Zu0 h2) (ZD5 hb hb)
 refine Zq6 ?_;unfold ZrJ;rw[ZnE,ZnE,ZnE,ZnC,Zn0,ZLM,ZCp];refine⟨ZAT (by omega),ZnH (by omega),ZnH (by omega), ?_⟩;have e0:(32*((wd a).length:Int)) - 1=((32*(wd a).length:Nat):Int) - 1:=by omega
 rw[e0,show ([]:List Int)=iL (wd 0) by rw[ZvZ];rfl];refine ZnI (ZBO ZzW (32*(wd a).length) (by omega) (fun i (q:Nat×List Nat)=>(iL (wd a),iL (wd b),iL (wd q.1),i,iL q.2))
  (fun k q=>q.1=a / 2 ^ k % b∧Dg q.2∧q.2.length=(wd a).length∧val q.2=a / 2 ^ k / b*2 ^ k)
  (Q:=fun y=>∃o:List Nat,y=(iL (wd (a % b)),iL o)∧Dg o∧o.length=(wd a).length∧val o=a / b) (0,List.replicate (wd a).length 0) ?_ ?_ ?_) ?_
 ·have h0:a / 2 ^ (32*(wd a).length)=0:=by refine ZL1 ?_;rw[Nat.pow_mul];exact ZxO a
  rw[h0,Nat.zero_mod,Nat.zero_div,Nat.zero_mul];exact⟨rfl,ZFg _,List.length_replicate,ZDI _⟩
 ·rintro rec k ⟨r,q⟩ hk ⟨hr,hd,hl,hv⟩ ih;dsimp only at hr hd hl hv;have hk32:k / 32 < (wd a).length:=by omega
  unfold Zu7 ZsI;dsimp only;have hbit:=ZJp (i:=k) (Zxh a) hk32 (by omega);rw[Ztc]at hbit;have h2:a / 2 ^ k % 2≤1:=by omega
  have htw:=ZD8 r (a / 2 ^ k % 2) h2 (by
   rw[hr];exact ZL6 (Zu0 (ZL4 (ZMb _ (ZMh hb0)))) (by omega))
  have hlk:=hlen k;rw[←hr]at hlk;have hx:=ZE8 (A:=a) (k:=k);have hdm:=ZL0 (a / 2 ^ (k+1)) b;rw[←hr]at hdm;have hrlt:r < b:=by rw[hr];exact ZMb _ (ZMh hb0)
  rw[Zn3];refine⟨fun _=> ?_,fun h=>by have:=of_decide_eq_false h;omega⟩;rw[hbit,ZnC,ZnB,htw,ZnC,ZnB,ZCx _ _ (by omega) (by omega),ZnC,ZnB,Zn3];have nx:∀r' q',(r'=a / 2 ^ k % b∧Dg q'∧q'.length=(wd a).length∧val q'=a / 2 ^ k / b*2 ^ k)→wp (ZrV (fun a b r_ i q=>rec (a,b,r_,i,q)) (iL (wd a)) (iL (wd b)) (iL (wd r')) (k:Int) (iL q')) (fun y=>∃o:List Nat,y=(iL (wd (a % b)),iL o)∧Dg o∧o.length=(wd a).length∧val o=a / b):=fun r' q' h=>by unfold ZrV;rw[ZnE];exact⟨ZnH (by omega),ih (r',q') h⟩
  generalize eX:a / 2 ^ (k+1)=X at*
  generalize ed:a / 2 ^ k % 2=d at*
  refine⟨fun hc=> ?_,fun hc=> ?_⟩
  ·have hge:b≤2*r+d:=by
    rcases ZL9 (2*r+d) b with h |h
    ·rw[Zzj h]at hc;exact absurd (of_decide_eq_true hc) (by decide)
    ·exact h
   have hq:k / 32 < q.length:=by omega
   have hz:q[k / 32] / 2 ^ (k % 32) % 2=0:=by rw[ZFi hd hq,hv,ZMk,←ZMd,Nat.mul_right_comm,Nat.mul_div_cancel _ (ZMn k)];omega
   have hx32:=hd.get hq;rw[ZCe _ _ hge (by omega),ZnC,ZnB,ZGn,ZGm,ZLM,ZnE,ZnE,ZnE,ZBg hq,ZnC,ZnB,ZnE,ZnE,ZnE,ZG7 (by omega),ZDq hx32 (ZL7 (ZMj (by decide) (show k % 32≤31 by omega)) (by decide)),ZGr hz,ZAt,Zn0];refine⟨by decide,ZnH (by omega),Zpg ⟨by omega,by omega⟩,by decide,decide_eq_true (by omega),Zpg ⟨by omega,by omega⟩, ?_⟩;have hsum:q[k / 32]+2 ^ (k % 32) < Bw:=by
    have hB:Bw=2 ^ (k % 32)*(2*2 ^ (31 - k % 32)):=by rw[show 2*2 ^ (31 - k % 32)=2 ^ (31 - k % 32+1) by rw[ZMk,ZMe],←ZMi,show k % 32+(31 - k % 32+1)=32 by omega]
    rw[←ZGr hz];exact Nat.or_lt_two_pow (n:=32) hx32 (ZL7 (ZMj (by decide) (show k % 32≤31 by omega)) (by decide))
   refine nx (2*r+d - b) (q.set (k / 32) (q[k / 32]+2 ^ (k % 32))) ⟨?_,hd.set _ hsum,by rw[ZLS,hl], ?_⟩
   ·rw[hx,show 2*X+d=(2*r+d - b)+b*(2*(X / b)+1) by rw[ZMc,ZMf];omega,ZLZ,Nat.mod_eq_of_lt (by omega)]
   ·have hvs:=ZAw q (k / 32) (q[k / 32]+2 ^ (k % 32)) hq;have hp:Bw ^ (k / 32)*2 ^ (k % 32)=2 ^ k:=by rw[show Bw=2 ^ 32 from rfl,←Nat.pow_mul,←ZMi,ZL0]
    rw[ZMc,hp]at hvs;have e1:(2*X+d) / b=2*(X / b)+1:=by rw[show 2*X+d=(2*r+d - b)+b*(2*(X / b)+1) by rw[ZMc,ZMf];omega,ZLY _ _ (ZMh hb0),ZL1 (by omega),Nat.zero_add]
    rw[hx,e1];rw[hv,ZMk]at hvs;have e2:X / b*(2 ^ k*2)=2*(X / b)*2 ^ k:=by rw[ZMe (2 ^ k) 2,←ZMd,ZMe (X / b) 2]
    rw[Nat.add_mul,ZMg];omega
  ·have hlt:2*r+d < b:=by
    rcases ZL9 (2*r+d) b with h |h
    ·exact h
    ·rcases ZL9 b (2*r+d)with h' |h'
     ·rw[Zy4 h']at hc;exact absurd (of_decide_eq_false hc) (by decide)
     ·rw[show 2*r+d=b by omega,Zyd]at hc;exact absurd (of_decide_eq_false hc) (by decide)
   have e0:2*X+d=(2*r+d)+b*(2*(X / b)):=by rw[ZMf];omega
   refine nx (2*r+d) q ⟨?_,hd,hl, ?_⟩
   ·rw[hx,e0,ZLZ,Nat.mod_eq_of_lt hlt]
   ·rw[hx,e0,ZLY _ _ (ZMh hb0),ZL1 hlt,Nat.zero_add,hv,ZMk,ZMe (2 ^ k) 2,←ZMd,ZMe (X / b) 2]
 ·rintro rec ⟨r,q⟩ ⟨hr,hd,hl,hv⟩;dsimp only at hr hd hl hv;rw[ZMl,Nat.div_one]at hr hv;unfold Zu7 ZsI;dsimp only;rw[Zn3];refine⟨fun h=>by have:=of_decide_eq_true h;omega,fun _=> ?_⟩;rw[ZnB,hr];exact⟨q,rfl,hd,hl,by rw[hv,Nat.mul_one]⟩
 ·rintro y ⟨o,rfl,hd,hl,hv⟩;dsimp only;unfold Zwb;rw[ZBl hd (by omega),ZnC,ZnB,ZnB,hv]
end Go.Proofs
namespace Go.Proofs
open Go Eng
theorem ZEC (n:Int):Rat.divInt n 1=(n:Rat):=by have h:=Rat.num_divInt_den (n:Rat);rw[Rat.num_intCast,Rat.den_intCast]at h;exact h
end Go.Proofs
namespace Go.Proofs
open Go Eng
theorem ZyO (z:Int) (h1: -9223372036854775808≤z) (h2:z≤9223372036854775807):ZnZ z=some (bg z):=by
 have key:∀(b:Bool) (n:Nat),n < 18446744073709551616→Zn4 b [IntKind.wrap .u32 (n:Int),IntKind.wrap .u32 (shrK .u64 (n:Int) 32)]=some (bg (if b then -(n:Int)else n)):=fun b n h=>by
  have e:([IntKind.wrap .u32 (n:Int),IntKind.wrap .u32 (shrK .u64 (n:Int) 32)]:List Int)=iL [n % 4294967296,n / 4294967296]:=by rw[show (32:Int)=((32:Nat):Int)from rfl,ZAO 32 (by omega),ZwA,Zxg (by omega)];rfl
  have hd:Dg [n % 4294967296,n / 4294967296]:=fun d hd=>by
   simp only[ZLU,List.mem_singleton,List.not_mem_nil,or_false]at hd;rcases hd with rfl |rfl
   ·exact ZMb _ (by decide)
   ·simp only[Bw];omega
  have hv:val [n % 4294967296,n / 4294967296]=n:=by simp only[val,Nat.mul_zero,Nat.add_zero];exact Nat.mod_add_div n Bw
  rw[e,ZBk b hd (by simp),hv]
 unfold ZnZ Zr8;have h32:decide (0≤(32:Int))=true:=rfl
 by_cases hz:z < 0
 ·have e:IntKind.wrap .u64 (0 - IntKind.wrap .u64 z)=((z.natAbs:Nat):Int):=by rw[IntKind.wrap_u64,IntKind.wrap_u64];omega
  rw[decide_eq_true hz,cond_true,h32,chk_true,e,key true _ (by omega),ZMo,if_pos rfl,show -((z.natAbs:Nat):Int)=z by omega]
 ·have e:IntKind.wrap .u64 z=((z.natAbs:Nat):Int):=by rw[IntKind.wrap_u64];omega
  rw[decide_eq_false hz,cond_false,h32,chk_true,e,key false _ (by omega),ZMo,if_neg (by decide),show ((z.natAbs:Nat):Int)=z by omega]
theorem ZHK:bg 0=⟨false,[]⟩:=by unfold bg;rw[show (0:Int).natAbs=0 from rfl,ZvZ];rfl
theorem ZBo (x y:Int) (hy:y≠0) (hx1:Wl 50000 x) (hy1:Wl 50000 y):ZpK (bg x) (bg y)=some (fOf (Rat.divInt x y)):=by
 unfold ZpK
 by_cases hx:x=0
 ·subst hx;rw[Rat.zero_divInt,ZpR,Zn0,show (0:Int).natAbs=0 from rfl,ZvZ,ZyO 1 (by decide) (by decide)];show some (ZnA.mk ⟨false,[]⟩ (bg 1))=some (fOf 0);rw[←ZHK];rfl
 ·have hx0:0 < x.natAbs:=by omega
  have hy0:0 < y.natAbs:=by omega
  have hg0:ZL3 x.natAbs y.natAbs≠0:=fun e=>by have:=Nat.gcd_pos_of_pos_right x.natAbs hy0;omega
  have hgl:=ZEI (x:=x.natAbs) hy0 hy1;have hxl:=ZD4 (ZL3 x.natAbs y.natAbs) hx1;have hyl:=ZD4 (ZL3 x.natAbs y.natAbs) hy1;have h:=ZBP x y hy hx1 hy1;unfold Zs7 at h;rw[ZpR,ZpR,ZCv _ _ hx1 hy1,ZMo,ZBR _ _ hg0 hx1 hgl,ZMo]at h;dsimp only at h;rw[ZBR _ _ hg0 hy1 hgl,ZMo]at h;dsimp only at h;rw[Zxi _ _ (by omega),ZMo,Zxi _ _ (by omega),ZMo]at h;have hlen:=ZtI (n:=x.natAbs) (by omega);rw[←h,ZpR,ZpR,Zn0,beq_eq_false_iff_ne.2 (by omega),cond_false,ZFb _ _ (by omega) (by omega) hx1 hy1,ZMo,ZFd _ _ hg0 hx1 hgl,ZMo];dsimp only;rw[ZFd _ _ hg0 hy1 hgl,ZMo];dsimp only;rw[ZBk _ (Zxh _) (by omega),ZMo,ZBk _ (Zxh _) (by omega),ZMo,Ztc,Ztc]
theorem ZFT (x y:Int) (hy:y≠0) (hx1:Wl 256 x) (hy1:Wl 256 y):ZsN (bg x) (bg y)=some (fOf (Rat.divInt x y),0):=by unfold ZsN Zts;rw[Zzl,Zz4 x hx1,ZMo,ZII,cond_false,Zzl,Zz4 y hy1,ZMo,ZII,cond_false,ZCt hy,cond_false,ZBo x y hy (ZL6 hx1 (by decide)) (ZL6 hy1 (by decide)),ZMo]
theorem ZIP (x y:Int) (hy:y≠0) (h1: -9223372036854775808≤x) (h2:x≤9223372036854775807) (h3: -9223372036854775808≤y) (h4:y≤9223372036854775807):Zsk x y=some (fOf (Rat.divInt x y),0):=by unfold Zsk;rw[ZyO x h1 h2,ZMo,ZyO y h3 h4,ZMo,ZFT x y hy (ZKt h1 h2) (ZKt h3 h4),ZMo]
theorem ZA9 (x y:Int) (hy:y≠0) (h1: -9223372036854775808≤x) (h2:x≤9223372036854775807) (h3: -9223372036854775808≤y) (h4:y≤9223372036854775807):ZoB x y=some (fOf (Rat.divInt x y)):=by unfold ZoB;rw[ZIP x y hy h1 h2 h3 h4,ZMo]
theorem ZBM (x:Int) (h1: -9223372036854775808≤x) (h2:x≤9223372036854775807):ZnY x=some (fOf (x:Rat)):=by unfold ZnY;rw[ZA9 x 1 (by decide) h1 h2 (by decide) (by decide),ZMo,ZEC]
theorem ZIv {a b:Nat} (h:wd a=wd b):a=b:=by rw[←Ztc a,←Ztc b,h]
theorem ZCI (x y:Int) (hx:Wl 100000 x) (hy:Wl 100000 y):Zqg (bg x) (bg y)=some (decide (x=y)):=by
 unfold Wl at hx hy;refine Zq6 ?_;unfold Zqg Zr4;rw[Zy5,Zy5,ZpR,ZpR,Zn0,Zn0]
 by_cases hs:decide (x < 0)=decide (y < 0)
 ·rw[hs,beq_self_eq_true,ZII,cond_false]
  by_cases hl:(wd x.natAbs).length=(wd y.natAbs).length
  ·rw[hl,bne_self_eq_false,cond_false,ZnC];refine ZnI (Zuj Zy6 (wd y.natAbs).length (by omega) (fun i (_:Unit)=>(iL (wd x.natAbs),((wd y.natAbs).length:Int),i,bg y)) (fun i _=>(wd x.natAbs).take i=(wd y.natAbs).take i)
    (Q:=fun r=>r= .ret false∧wd x.natAbs≠wd y.natAbs∨r= .brk ()∧wd x.natAbs=wd y.natAbs) () (by rw[List.take_zero,List.take_zero]) ?_ ?_) ?_
   ·rintro rec i ⟨⟩ hi hP ih;have hi2:i < (wd x.natAbs).length:=by omega
    unfold ZtJ Zrf;dsimp only;rw[Zn3];refine⟨fun _=> ?_,fun h=>by have:=of_decide_eq_false h;omega⟩;rw[ZpR,ZvY hi2,ZnC,ZnB,ZvY hi,ZnC,ZnB,Zn3];refine⟨fun h=> ?_,fun h=> ?_⟩
    ·rw[ZnB];refine .inl ⟨rfl,fun e=> ?_⟩;have h1:(wd y.natAbs)[i]=(wd x.natAbs)[i]:=by simp only[e]
     rw[h1,bne_self_eq_false]at h;exact absurd h (by decide)
    ·rw[ZnE];refine⟨ZnH (by omega),ih () ?_⟩;rw[bne_eq_false_iff_eq]at h;have h1:(wd y.natAbs)[i]=(wd x.natAbs)[i]:=by omega
     rw[List.take_succ_eq_append_getElem hi2,List.take_succ_eq_append_getElem hi,hP,h1]
   ·rintro rec ⟨⟩ hP;unfold ZtJ Zrf;dsimp only;rw[Zn3];refine⟨fun h=>by have:=of_decide_eq_true h;omega,fun _=> ?_⟩;rw[ZnB];rw[ZLW,←hl,ZLW]at hP;exact .inr ⟨rfl,hP⟩
   ·rintro r (⟨rfl,h⟩ |⟨rfl,h⟩)
    ·exact ZnB.2 (decide_eq_false (fun e=>h (by rw[e]))).symm
    ·unfold Zum;have h1:=ZIv h;refine ZnB.2 (decide_eq_true ?_).symm
     by_cases hy0:y < 0
     ·have hx0:x < 0:=by rw[decide_eq_true hy0]at hs;exact of_decide_eq_true hs
      omega
     ·have hx0:¬x < 0:=by rw[decide_eq_false hy0]at hs;exact of_decide_eq_false hs
      omega
  ·have:(((wd x.natAbs).length:Int) != ((wd y.natAbs).length:Int))=true:=by rw[bne_iff_ne];omega
   rw[this,cond_true,ZnB];exact(decide_eq_false (fun e=>hl (by rw[e]))).symm
 ·rw[beq_eq_false_iff_ne.2 hs,Bool.not_false,cond_true,cond_true,ZnB];exact(decide_eq_false (fun e=>hs (by rw[e]))).symm
theorem ZAC (p q:Rat) (hp:Wq 256 p) (hq:Wq 256 q):Zoc (fOf p) (fOf q)=some (decide (p=q)):=by
 have m:∀{x:Int},Wl 256 x→Wl 100000 x:=fun h=>ZL6 h (by decide)
 unfold Zoc Ztn fOf;dsimp only;rw[ZCI _ _ (m hp.1) (m hq.1),ZMo]
 by_cases h1:p.num=q.num
 ·rw[decide_eq_true h1,cond_true,ZCI _ _ (m hp.2) (m hq.2),ZMo];congr 1
  by_cases h2:p.den=q.den
  ·rw[decide_eq_true (by omega),decide_eq_true (Rat.ext h1 h2)]
  ·rw[decide_eq_false (by omega),decide_eq_false (fun e=>h2 (by rw[e]))]
 ·rw[decide_eq_false h1,cond_false,decide_eq_false (fun e=>h1 (by rw[e]))]
end Go.Proofs
namespace Go.Proofs
open Go Eng
theorem ZHm (a b:Nat) (ha:(wd a).length≤100000) (hb:(wd b).length≤100000):Zty (iL (wd a)) (iL (wd b))=some (iL (wd (a*b))):=by
 refine Zq6 ?_;unfold Zty;rw[Zn0,Zn0,ZnE,ZnE,ZnC,←ZLL,ZLM,ZCp];refine⟨ZnH (by omega),ZAT (by omega), ?_⟩;generalize hm:(wd a).length=m at ha⊢
 generalize hn:(wd b).length=n at hb⊢
 refine ZnI (Zuj ZzV m (by omega) (fun i (s:List Nat)=>(iL (wd a),iL (wd b),i,iL s)) (fun i s=>s.length=m+n∧Dg s∧val s=val ((wd a).take i)*b∧∀k,i+n≤k→k < m+n→s[k]? =some 0)
  (Q:=fun y=>∃(o:List Nat),y=iL o∧Dg o∧o.length=m+n∧val o=a*b) (List.replicate (m+n) 0) ⟨by simp,ZFg _,by rw[ZDI];simp[val],fun k _ h=>by rw[List.getElem?_replicate,if_pos h]⟩ ?_ ?_) ?_
 ·rintro rec i s hlt ⟨hl,hd,hv,hz⟩ ih;have hi:i < (wd a).length:=by omega
  have h1:=(Zxh a).get hi;unfold Zu4 ZsH;dsimp only;rw[Zn3,Zn0,hm];refine⟨fun _=> ?_,fun h=>by simp only[decide_eq_false_iff_not]at h;omega⟩;rw[ZnC];generalize ex:(wd a)[i]=x at h1;refine ZnI (Zuj ZzU n (by omega) (fun j (t:Nat×List Nat)=>(iL (wd a),iL (wd b),(i:Int),(t.1:Int),j,iL t.2)) (fun j t=>t.1 < Bw∧t.2.length=m+n∧Dg t.2∧val t.2+Bw ^ (i+j)*t.1=val s+Bw ^ i*(x*val ((wd b).take j))∧∀k,i+n≤k→k < m+n→t.2[k]? =some 0)
   (Q:=fun y=>∃(c:Nat) (o:List Nat),y=(iL (wd a),iL (wd b),(i:Int),(c:Int),iL o)∧c < Bw∧o.length=m+n∧Dg o∧val o+Bw ^ (i+n)*c=val s+Bw ^ i*(x*b)∧∀k,i+n≤k→k < m+n→o[k]? =some 0) (0,s) ⟨by simp only[Bw];omega,hl,hd,by simp[val],hz⟩ ?_ ?_) ?_
  ·rintro rec2 j ⟨c,o⟩ hj ⟨hc,hol,hod,hov,hoz⟩ ih2;dsimp only at hc hol hod hov hoz ih2;have hj2:j < (wd b).length:=by omega
   have h2:=(Zxh b).get hj2;have hij:i+j < o.length:=by omega
   have h3:=hod.get hij;unfold Zu3 ZsG;dsimp only;rw[Zn3,Zn0,hn];refine⟨fun _=> ?_,fun h=>by simp only[decide_eq_false_iff_not]at h;omega⟩;rw[ZvY hi,ex,ZnC,ZnB,ZvY hj2,ZnC,ZnB,ZnE,ZnE,←ZLL,ZLM,ZBg hij,ZnC,ZnB,ZnE,ZnE,ZnE,ZnE];generalize ey:(wd b)[j]=y at h2;generalize ee:o[i+j]=e at h3;rw[ZIR hc h1 h2 h3,ZwA,show (32:Int)=((32:Nat):Int)from rfl,ZAO 32 (by omega),Zn0,ZAt];refine⟨ZnH (by omega),Zpg ⟨by omega,by omega⟩,ZnH (by omega),Zpg ⟨by omega,by omega⟩,by decide,ZnH (by omega), ?_⟩;refine ih2 ((c+x*y+e) / Bw,o.set (i+j) ((c+x*y+e) % Bw)) ⟨ZGu hc h1 h2 h3,by simp[hol],hod.set _ (ZMb _ (by decide)), ?_,fun k hk hk2=> ?_⟩
   ·dsimp only;have q1:=ZAw o (i+j) ((c+x*y+e) % Bw) hij;rw[ee]at q1;have q2:Bw ^ (i+j)*((c+x*y+e) % Bw+Bw*((c+x*y+e) / Bw))=Bw ^ (i+j)*(c+x*y+e):=by rw[Nat.mod_add_div]
    rw[ZMc,ZMc,ZMc]at q2;rw[←Nat.add_assoc,ZMk,ZMd,ZoK hj2,ey,ZMc,ZMc];have q3:Bw ^ i*(x*(Bw ^ j*y))=Bw ^ (i+j)*(x*y):=by rw[ZMi,ZMd,ZMf x]
    omega
   ·dsimp only;rw[List.getElem?_set_ne (by omega)];exact hoz k hk hk2
  ·rintro rec2 ⟨c,o⟩ ⟨hc,hol,hod,hov,hoz⟩;dsimp only at hc hol hod hov hoz;unfold Zu3 ZsG;dsimp only;rw[Zn3,Zn0,hn];refine⟨fun h=>by have:=of_decide_eq_true h;omega,fun _=> ?_⟩;rw[ZnB];rw[ZLX (by omega),Ztc]at hov;exact⟨c,o,rfl,hc,hol,hod,hov,hoz⟩
  ·rintro y ⟨c,o,rfl,hc,hol,hod,hov,hoz⟩;dsimp only;unfold Zv5;rw[Zn0,hn,ZnE,ZnE,ZnE,←ZLL,ZLM,Zxg hc,ZAt,Zn0];refine⟨ZnH (by omega),Zpg ⟨by omega,by omega⟩,ZnH (by omega), ?_⟩;have hp:i+n < o.length:=by omega
   have h0:o[i+n]=0:=by have:=hoz (i+n) (ZL5 _) (by omega);rw[ZLO hp]at this;exact ZMp this
   have q1:=ZAw o (i+n) c hp;rw[h0,Nat.mul_zero,Nat.add_zero]at q1;refine ih (o.set (i+n) c) ⟨by simp[hol],hod.set _ hc, ?_,fun k hk hk2=> ?_⟩
   ·rw[q1,hov,hv,ZoK hi,ex,Nat.add_mul,ZMd]
   ·rw[List.getElem?_set_ne (by omega)];exact hoz k (by omega) hk2
 ·rintro rec s ⟨hl,hd,hv,hz⟩;unfold Zu4 ZsH;dsimp only;rw[Zn3,Zn0,hm];refine⟨fun h=>by have:=of_decide_eq_true h;omega,fun _=> ?_⟩;rw[ZnB];rw[ZLX (by omega),Ztc]at hv;exact⟨s,rfl,hd,hl,hv⟩
 ·rintro y ⟨o,rfl,hd,hl,hv⟩;unfold Zv4;rw[ZBl hd (by omega),ZnC,ZnB,ZnB,hv]
theorem ZHO (a b:Nat) (ha:(wd a).length≤100000) (hb:(wd b).length≤100000):∃o:List Nat,ZrK (iL (wd a)) (iL (wd b))=some (iL o)∧Dg o∧o.length≤100001∧val o=a+b:=by
 obtain⟨m,hma,hmb,hm2,hmx⟩:∃m:Nat,(wd a).length≤m∧(wd b).length≤m∧m≤100000∧∀i,i < m→i < (wd a).length∨i < (wd b).length:=by
  by_cases h:(wd a).length≤(wd b).length
  ·exact⟨(wd b).length,h,ZL5 _,hb,fun i hi=> .inr hi⟩
  ·exact⟨(wd a).length,ZL5 _,by omega,ha,fun i hi=> .inl hi⟩
 suffices h:wp (ZrK (iL (wd a)) (iL (wd b))) (fun x=>∃o:List Nat,x=iL o∧Dg o∧o.length≤100001∧val o=a+b) by obtain⟨x,hx,o,rfl,h⟩:=h;exact⟨o,hx,h⟩
 unfold ZrK;rw[ZnC];refine ZnI (Zuj ZzY m (by omega) (fun i (s:Nat×List Nat)=>(iL (wd a),iL (wd b),(s.1:Int),i,iL s.2)) (fun i s=>s.1≤1∧s.2.length=i∧Dg s.2∧val s.2+Bw ^ i*s.1=val ((wd a).take i)+val ((wd b).take i))
  (Q:=fun y=>∃(c:Nat) (o:List Nat),y=((c:Int),iL o)∧c≤1∧Dg o∧o.length=m∧val o+Bw ^ m*c=a+b) (0,[]) ⟨by simp,rfl,ZBi,by simp[val]⟩ ?_ ?_) ?_
 ·rintro rec i ⟨c,o⟩ hlt ⟨hc,hl,hd,hv⟩ ih;dsimp only at hc hl hd hv ih;have h1:=ZBw (Zxh a) i;have h2:=ZBw (Zxh b) i;have j3:∀x y:Nat,(wd a).getD i 0=x→(wd b).getD i 0=y→wp (ZrW (fun a b c i out=>rec (a,b,c,i,out)) (iL (wd a)) (iL (wd b)) ((c+x+y:Nat):Int) (i:Int) (iL o)) (fun y=>∃(c:Nat) (o:List Nat),y=((c:Int),iL o)∧c≤1∧Dg o∧o.length=m∧val o+Bw ^ m*c=a+b):=fun x y ex ey=>by
   rw[ex]at h1;rw[ey]at h2;unfold ZrW;rw[ZnE,ZnE,ZnE,ZwA,show (32:Int)=((32:Nat):Int)from rfl,ZAO 32 (by omega),Zn0];refine⟨Zyc (by simp only[ZLT];omega),by decide,ZnH (by omega), ?_⟩;have:=ih ((c+x+y) / Bw,o++[(c+x+y) % Bw]) ⟨by simp only[Bw]at h1 h2⊢;omega,by simp[hl],hd.app (ZAK (ZMb _ (by decide))), ?_⟩
   ·rw[ZCq]at this;exact this
   ·dsimp only;rw[Zxv,hl,ZMk,Zyf,Zyf,ex,ey,Nat.add_assoc,ZMd,←ZMc,Nat.mod_add_div,ZMc,ZMc];omega
  have j2:∀x:Nat,(wd a).getD i 0=x→wp (ZrX (fun a b c i out=>rec (a,b,c,i,out)) (iL (wd a)) (iL (wd b)) ((c+x:Nat):Int) (i:Int) (iL o)) (fun y=>∃(c:Nat) (o:List Nat),y=((c:Int),iL o)∧c≤1∧Dg o∧o.length=m∧val o+Bw ^ m*c=a+b):=fun x ex=>by
   have hx:=h1;rw[ex]at hx;unfold ZrX;rw[Zn0,Zn3];refine⟨fun h=> ?_,fun h=> ?_⟩
   ·have hib:i < (wd b).length:=by have:=of_decide_eq_true h;omega
    have ey:(wd b).getD i 0=(wd b)[i]:=by rw[ZLN,ZLO hib];rfl
    have hy:=(Zxh b).get hib;rw[ZvY hib,ZnC,ZnB,ZoS (by simp only[Bw]at hy;omega),←ZLL,ZoS (by simp only[Bw]at hx hy;omega)];exact j3 x _ ex ey
   ·have hib:¬i < (wd b).length:=by have:=of_decide_eq_false h;omega
    exact j3 x 0 ex (by rw[ZLN,ZLP (by omega)];rfl)
  have j1:wp (Zqz (fun a b c i out=>rec (a,b,c,i,out)) (iL (wd a)) (iL (wd b)) (c:Int) (i:Int) true (iL o)) (fun y=>∃(c:Nat) (o:List Nat),y=((c:Int),iL o)∧c≤1∧Dg o∧o.length=m∧val o+Bw ^ m*c=a+b):=by
   unfold Zqz;rw[cond_true,Zn0,Zn3];refine⟨fun h=> ?_,fun h=> ?_⟩
   ·have hib:i < (wd a).length:=by have:=of_decide_eq_true h;omega
    have ey:(wd a).getD i 0=(wd a)[i]:=by rw[ZLN,ZLO hib];rfl
    have hy:=(Zxh a).get hib;rw[ZvY hib,ZnC,ZnB,ZoS (by simp only[Bw]at hy;omega),←ZLL,ZoS (by simp only[Bw]at hy;omega)];exact j2 _ ey
   ·have hib:¬i < (wd a).length:=by have:=of_decide_eq_false h;omega
    exact j2 0 (by rw[ZLN,ZLP (by omega)];rfl)
  unfold Zu9 ZsK;dsimp only;rw[Zn0,Zn0,Zn3];refine⟨fun _=>j1,fun h=> ?_⟩;have hib:¬i < (wd a).length:=by have:=of_decide_eq_false h;omega
  rw[decide_eq_true (by rcases hmx i hlt with h |h<;>omega)];exact j1
 ·rintro rec ⟨c,o⟩ ⟨hc,hl,hd,hv⟩;dsimp only at hc hl hd hv;unfold Zu9 ZsK;dsimp only;rw[Zn0,Zn0,decide_eq_false (by omega),cond_false,decide_eq_false (by omega)];unfold Zqz;rw[cond_false,ZnB];rw[ZLX hma,ZLX hmb,Ztc,Ztc]at hv;exact⟨c,o,rfl,hc,hd,hl,hv⟩
 ·rintro y ⟨c,o,rfl,hc,hd,hl,hv⟩;dsimp only;unfold Zwd;have e:iL o++[(c:Int)]=iL (o++[c]):=by rw[ZCq];rfl
  rw[Zxg (by omega),ZnE,Zn0,e,ZnB];exact⟨Zyc (by simp only[ZLT];omega),_,rfl,hd.app (ZAK (by unfold Bw;omega)),by simp;omega,by rw[Zxv,hl,hv]⟩
end Go.Proofs
namespace Go.Proofs
open Go Eng
theorem Zz6 (x y:Int) (hx:Wl 50000 x) (hy:Wl 50000 y):ZnN (bg x) (bg y)=some (bg (x*y)):=by unfold ZnN;have:=ZDg hx hy;rw[ZpR,ZpR,ZHm _ _ (by omega) (by omega),ZMo,ZBk _ (Zxh _) (by omega),Ztc,ZMo,ZFk]
theorem ZC4 (x y:Int) (hx:Wl 50000 x) (hy:Wl 50000 y):ZpC (bg x) (bg y)=some (bg (x+y)):=by
 unfold Wl at hx hy;unfold ZpC;have h1:=ZD5 hx hy;rw[ZpR,ZpR,Zy5,Zy5];have opp:decide (x < 0)≠decide (y < 0)→ZoO (iL (wd x.natAbs)) (iL (wd y.natAbs))=some (ZCL x.natAbs y.natAbs):=fun _=>ZCx _ _ (by omega) (by omega)
 by_cases hs:decide (x < 0)=decide (y < 0)
 ·obtain⟨o,ho,hd,hl,hv⟩:=ZHO x.natAbs y.natAbs (by omega) (by omega);rw[hs,beq_self_eq_true,cond_true,ho,ZMo,ZBk _ hd (by omega),hv,ZMo];congr 2
  by_cases hy0:y < 0
  ·have hx0:x < 0:=by rw[decide_eq_true hy0]at hs;exact of_decide_eq_true hs
   rw[decide_eq_true hy0,if_pos rfl];omega
  ·have hx0:¬x < 0:=by rw[decide_eq_false hy0]at hs;exact of_decide_eq_false hs
   rw[decide_eq_false hy0,if_neg (by decide)];omega
 ·rw[beq_eq_false_iff_ne.2 hs,cond_false,opp hs,ZMo];rcases ZL9 x.natAbs y.natAbs with hlt |hge
  ·have:=Zu0 (Nat.sub_le y.natAbs x.natAbs);rw[Zzj hlt,decide_eq_false (by omega),cond_false,ZCe _ _ (by omega) (by omega),ZMo,ZBk _ (Zxh _) (by omega),Ztc,ZMo];congr 2
   by_cases hy0:y < 0
   ·have hx0:¬x < 0:=fun h=>hs (by rw[decide_eq_true hy0,decide_eq_true h])
    rw[decide_eq_true hy0,if_pos rfl];omega
   ·have hx0:x < 0:=Decidable.byContradiction fun h=>hs (by rw[decide_eq_false hy0,decide_eq_false h])
    rw[decide_eq_false hy0,if_neg (by decide)];omega
  ·have hn:ZCL x.natAbs y.natAbs≥0:=by
    rcases ZL9 y.natAbs x.natAbs with h |h
    ·rw[Zy4 h];decide
    ·rw[show x.natAbs=y.natAbs by omega,Zyd];decide
   have:=Zu0 (Nat.sub_le x.natAbs y.natAbs);rw[decide_eq_true hn,cond_true,ZCe _ _ hge (by omega),ZMo,ZBk _ (Zxh _) (by omega),Ztc,ZMo];congr 2
   by_cases hx0:x < 0
   ·have hy0:¬y < 0:=fun h=>hs (by rw[decide_eq_true hx0,decide_eq_true h])
    rw[decide_eq_true hx0,if_pos rfl];omega
   ·have hy0:y < 0:=Decidable.byContradiction fun h=>hs (by rw[decide_eq_false hx0,decide_eq_false h])
    rw[decide_eq_false hx0,if_neg (by decide)];omega
theorem ZCl (z:Int) (hz:Wl 100000 z):Zpp (bg z)=some (bg (-z)):=by
 unfold Wl at hz;unfold Zpp;rw[Zy5,ZpR,ZBk _ (Zxh _) (by omega),Ztc,ZMo];congr 2
 by_cases h:z < 0
 ·rw[decide_eq_true h,if_neg (by decide)];omega
 ·rw[decide_eq_false h,if_pos (by decide)];omega
theorem ZBB (q:Rat) (h:Wq 256 q):Zpo (fOf q)=some true:=by
 have hn:=h.1;have hd:=h.2;have hd0:=q.den_nz;unfold Zpo Zp5 fOf;dsimp only;rw[Zzl,Zz4 _ h.1,ZMo,ZII,cond_false,Zzl,Zz4 _ h.2,ZMo,ZII,cond_false,Zy5,decide_eq_false (by omega),cond_false,ZCt (by omega),cond_false,ZpR,ZpR,Zn0];unfold Wl at hn hd;have h1:(wd 1).length≤1:=Zzm (by decide);have hc:ZL3 q.num.natAbs (q.den:Int).natAbs=1:=q.reduced
 by_cases h0:q.num=0
 ·rw[h0]at hc;have e:(q.den:Int).natAbs=1:=by rwa [show (0:Int).natAbs=0 from rfl,Nat.gcd_zero_left]at hc
  rw[h0,show (0:Int).natAbs=0 from rfl,ZvZ,e,←ZCh,ZCx 1 1 (by omega) (by omega),Zyd];rfl
 ·have hl:=ZtI (n:=q.num.natAbs) (by omega);rw[beq_eq_false_iff_ne.2 (by omega),cond_false,ZFb _ _ (by omega) (by omega) (by omega) (by omega),hc,ZMo,←ZCh,ZCx 1 1 (by omega) (by omega),Zyd];rfl
theorem ZEr (x y:Int) (hy:y≠0) (hx1:Wl 50000 x) (hy1:Wl 50000 y) (hq:Wq 256 (Rat.divInt x y)):ZrS (bg x) (bg y)=some (fOf (Rat.divInt x y),0):=by have h1:=hq.1;have h2:=hq.2;unfold Wl at h1 h2;unfold ZrS Zsw;rw[ZBo x y hy hx1 hy1,ZMo];unfold fOf;rw[ZpR,ZpR,Zn0,Zn0,decide_eq_false (by omega),cond_false,decide_eq_false (by omega),cond_false]
theorem ZHG {a b:Rat} (qa:Wq 256 a) (qb:Wq 256 b):ZtB (fOf a) (fOf b)=some (ZB5 a b):=by
 have w:∀{x y:Int},Wl 256 x→Wl 256 y→Wl 50000 (x*y):=fun hx hy=>by unfold Wl;rw[ZLI];exact ZL6 (ZDg hx hy) (by decide)
 have m:∀{x:Int},Wl 256 x→Wl 50000 x:=fun h=>ZL6 h (by decide)
 unfold ZtB Zt4;rw[ZBB a qa,ZMo,ZII,cond_false,ZBB b qb,ZMo,ZII,cond_false];show ((ZnN (bg a.num) (bg (b.den:Int))).bind fun q=>(ZnN (bg b.num) (bg (a.den:Int))).bind _)=_;rw[Zz6 _ _ (m qa.1) (m qb.2),ZMo,Zz6 _ _ (m qb.1) (m qa.2),ZMo,ZCl _ (ZL6 (w qb.1 qa.2) (by decide)),ZMo];have w2:Wl 50000 (-(b.num*(a.den:Int))):=by unfold Wl;rw[ZLK];exact w qb.1 qa.2
 rw[ZC4 _ _ (w qa.1 qb.2) w2,ZMo,Zy5,ZpR,Zn0];unfold ZB5;have h1:=ZB9 a b;have h2:=ZB9 b a;generalize a.num*(b.den:Int)=x at*
 generalize b.num*(a.den:Int)=y at*
 by_cases hl:a < b
 ·have hlt:=h1.1 hl;have:=ZtI (n:=(x+ -y).natAbs) (by omega);rw[if_pos hl,beq_eq_false_iff_ne.2 (by omega),cond_false,decide_eq_true (by omega),cond_true]
 ·have hn:¬x < y:=fun h=>hl (h1.2 h)
  rw[if_neg hl]
  by_cases hg:b < a
  ·have hlt:=h2.1 hg;have:=ZtI (n:=(x+ -y).natAbs) (by omega);rw[if_pos hg,beq_eq_false_iff_ne.2 (by omega),cond_false,decide_eq_false (by omega),cond_false]
  ·have hn2:¬y < x:=fun h=>hg (h2.2 h)
   rw[if_neg hg,show x+ -y=0 by omega,show (0:Int).natAbs=0 from rfl,ZvZ];rfl
theorem Zzz {a b:Rat} (qa:Wq 256 a) (qb:Wq 256 b):Zod (fOf a) (fOf b)=some (decide (a < b)):=by
 unfold Zod;rw[ZHG qa qb,ZMo];unfold ZB5
 by_cases h:a < b
 ·rw[if_pos h,decide_eq_true h];rfl
 ·rw[if_neg h,decide_eq_false h];split<;>rfl
theorem ZBz:ZpA=some (fOf 0):=by unfold ZpA;rw[ZBM 0 (by decide) (by decide),ZMo];rfl
end Go.Proofs
namespace Go.Proofs
open Go Eng
theorem ZCG (a b:Rat):Rat.divInt (a.num*(b.den:Int)+ -(b.num*(a.den:Int))) ((a.den:Int)*(b.den:Int))=a - b:=by have:=ZCS a (-b);rw[show (-b).num= -b.num from rfl,show (-b).den=b.den from rfl,Int.neg_mul]at this;rw[this,Rat.sub_eq_add_neg]
theorem Sz.sub {a b:Rat} {k l:Nat} (ha:Sz k a) (hb:Sz l b):Sz (k+l+1) (a - b):=by rw[Rat.sub_eq_add_neg];exact ha.add hb.neg
theorem ZG3 {a b:Rat} {k l:Nat} (ha:Sz k a) (hb:Sz l b) (hk:k+l+1≤8192):ZtA (fOf a) (fOf b)=some (fOf (a - b),0):=by
 have h1:=a.den_nz;have h2:=b.den_nz;have qa:=ha.wq (by omega);have qb:=hb.wq (by omega);have w:∀{x y:Int},Wl 256 x→Wl 256 y→Wl 512 (x*y):=fun hx hy=>by unfold Wl;rw[ZLI];exact ZDg hx hy
 have m:∀{n:Nat} {x:Int},Wl n x→n≤50000→Wl 50000 x:=fun h h'=>ZL6 h h'
 have w1:=w qa.1 qb.2;have w2:=w qb.1 qa.2;have w2':Wl 512 (-(b.num*(a.den:Int))):=by unfold Wl;rw[ZLK];exact w2
 have w3:=w qa.2 qb.2;have w4:Wl 513 (a.num*(b.den:Int)+ -(b.num*(a.den:Int))):=ZL6 (Zu0 (Int.natAbs_add_le _ _)) (ZD5 w1 w2');have hd:(a.den:Int)*(b.den:Int)≠0:=Int.mul_ne_zero (by omega) (by omega);unfold ZtA Zt3;rw[ZBB a qa,ZMo,ZII,cond_false,ZBB b qb,ZMo,ZII,cond_false];show ((ZnN (bg a.num) (bg (b.den:Int))).bind fun q=>(ZnN (bg b.num) (bg (a.den:Int))).bind fun q_1=>(Zpp q_1).bind fun q_2=>(ZpC q q_2).bind fun q_3=>(ZnN (bg (a.den:Int)) (bg (b.den:Int))).bind _)=_;rw[Zz6 _ _ (m qa.1 (by omega)) (m qb.2 (by omega)),ZMo,Zz6 _ _ (m qb.1 (by omega)) (m qa.2 (by omega)),ZMo,ZCl _ (ZL6 w2 (by decide)),ZMo,ZC4 _ _ (m w1 (by omega)) (m w2' (by omega)),ZMo,Zz6 _ _ (m qa.2 (by omega)) (m qb.2 (by omega)),ZMo];have hw:Wq 256 (Rat.divInt (a.num*(b.den:Int)+ -(b.num*(a.den:Int))) ((a.den:Int)*(b.den:Int))):=by rw[ZCG];exact(ha.sub hb).wq hk
 rw[ZEr _ _ hd (m w4 (by omega)) (m w3 (by omega)) hw,ZCG,ZMo]
theorem ZEc {a b:Rat} {k l:Nat} (ha:Sz k a) (hb:Sz l b) (hk:k+l+1≤8192):ZrH (fOf a) (fOf b)=some (fOf (a - b)):=by unfold ZrH;rw[ZG3 ha hb hk];rfl
def ZKA (x:Rat):Rat:=if x < 0 then 0 - x else x
theorem ZGd {a:Rat} {k:Nat} (ha:Sz k a) (hk:k+2≤8192):Ztx (fOf a)=some (fOf (ZKA a)):=by
 unfold Ztx ZKA;rw[ZBz,ZMo,Zzz (ha.wq (by omega)) (ZCY.wq (by omega)),ZMo]
 by_cases h:a < 0
 ·rw[decide_eq_true h,cond_true,if_pos h,ZMo,ZEc ZCY ha (by omega),ZMo]
 ·rw[decide_eq_false h,cond_false,if_neg h]
end Go.Proofs
namespace Go.Proofs
open Go Eng
section
variable {α:Type} (lt:α→α→Bool)
def ZGx (x:α):List α→List α
 | []=>[x]
 |p::r=>if lt x p then p::ZGx x r else x::p::r
def ZDf (x:α) (A:List α):List α:=(ZGx lt x A.reverse).reverse
def ZAj (l:List α):List α:=l.foldl (fun s x=>ZDf lt x s) []
variable {lt}
theorem ZF1 (x:α):ZDf lt x []=[x]:=rfl
theorem ZCo (x p:α) (A:List α):ZDf lt x (A++[p])=if lt x p then ZDf lt x A++[p]else A++[p,x]:=by unfold ZDf;rw[List.reverse_append,List.reverse_singleton,List.singleton_append,ZGx];split;rotate_left;simp;rw[List.reverse_cons]
theorem ZCn (x:α):∀l:List α,(ZGx lt x l).Perm (x::l)
 | []=> .refl _
 |p::r=>by
  unfold ZGx;split
  ·exact((ZCn x r).cons p).trans (.swap _ _ _)
  ·exact .refl _
theorem ZDv (x:α) (A:List α):(ZDf lt x A).Perm (A++[x]):=by unfold ZDf;refine(List.reverse_perm _).trans ((ZCn x _).trans ?_);refine(List.Perm.cons x (List.reverse_perm A)).trans ?_;exact(List.perm_append_singleton x A).symm
theorem ZCN (l:List α) (x:α):ZAj lt (l++[x])=ZDf lt x (ZAj lt l):=by simp[ZAj]
theorem ZAJ (l:List α):(ZAj lt l).Perm l:=by
 have key:∀(l s:List α),(l.foldl (fun s x=>ZDf lt x s) s).Perm (s++l):=by
  intro l
  induction l with
  |nil=>intro s;simp
  |cons x l ih=>
   intro s;refine(ih _).trans ?_;refine((ZDv x s).append_right l).trans ?_;simp
 simpa[ZAj]using key l []
theorem ZBL (l:List α):(ZAj lt l).length=l.length:=(ZAJ l).length_eq
theorem ZCm (P:α→Prop) (le:α→α→Prop) (hlt:∀x p,P x→P p→lt x p=true→le x p) (hnlt:∀x p,P x→P p→lt x p=false→le p x) (htr:∀a b c,P a→P b→P c→le a b→le b c→le a c)
  (x:α) (hx:P x):∀l:List α,(∀y∈l,P y)→l.Pairwise (fun a b=>le b a)→(ZGx lt x l).Pairwise (fun a b=>le b a)
 | [],_,_=>by simp[ZGx]
 |p::r,hP,h=>by
  have hp:=hP p (by simp);have hr:=ZLV.1 h;unfold ZGx;cases hc:lt x p with
  |true=>
   rw[if_pos rfl,ZLV];refine⟨fun y hy=> ?_,ZCm P le hlt hnlt htr x hx r (fun y hy=>hP y (by simp[hy])) hr.2⟩;rcases ZLU.1 ((ZCn x r).mem_iff.1 hy)with rfl |hy
   ·exact hlt _ _ hx hp hc
   ·exact hr.1 y hy
  |false=>
   rw[if_neg (by simp),ZLV];refine⟨fun y hy=> ?_,h⟩;have hxp:=hnlt x p hx hp hc;rcases ZLU.1 hy with rfl |hy
   ·exact hxp
   ·exact htr _ _ _ (hP y (by simp[hy])) hp hx (hr.1 y hy) hxp
theorem ZB3 (P:α→Prop) (le:α→α→Prop) (hlt:∀x p,P x→P p→lt x p=true→le x p) (hnlt:∀x p,P x→P p→lt x p=false→le p x) (htr:∀a b c,P a→P b→P c→le a b→le b c→le a c)
  (l:List α) (hl:∀y∈l,P y):(ZAj lt l).Pairwise le:=by
 have key:∀(l s:List α),(∀y∈l,P y)→(∀y∈s,P y)→s.Pairwise le→(l.foldl (fun s x=>ZDf lt x s) s).Pairwise le:=by
  intro l
  induction l with
  |nil=>intro s _ _ h;exact h
  |cons x l ih=>
   intro s hl hs h;refine ih _ (fun y hy=>hl y (by simp[hy])) (fun y hy=> ?_) ?_
   ·rcases List.mem_append.1 ((ZDv x s).mem_iff.1 hy)with hy |hy
    ·exact hs y hy
    ·simp only[List.mem_singleton]at hy;subst hy;exact hl _ (by simp)
   ·unfold ZDf;rw[List.pairwise_reverse];exact ZCm P le hlt hnlt htr x (hl x (by simp)) s.reverse (fun y hy=>hs y (List.mem_reverse.1 hy)) (by rw[List.pairwise_reverse];exact h)
 exact key l [] hl (by simp) (by simp)
theorem ZDm (P:α→Prop) (le:α→α→Prop) (hanti:∀a b,P a→P b→le a b→le b a→a=b):∀{l l':List α},(∀y∈l,P y)→l.Perm l'→l.Pairwise le→l'.Pairwise le→l=l'
 | [],l',_,hp,_,_=>(List.nil_perm.1 hp).symm
 |x::l,[],_,hp,_,_=>by have:=hp.length_eq;simp at this
 |x::l,y::l',hP,hp,h,h'=>by
  have hx:=ZLV.1 h;have hy:=ZLV.1 h';have hPy:P y:=hP y (hp.mem_iff.2 (by simp));have e:x=y:=by
   rcases ZLU.1 (hp.mem_iff.1 (List.mem_cons_self (a:=x) (l:=l)))with e |hxm
   ·exact e
   ·rcases ZLU.1 (hp.mem_iff.2 (List.mem_cons_self (a:=y) (l:=l')))with e |hym
    ·exact e.symm
    ·exact hanti x y (hP x (by simp)) hPy (hx.1 y hym) (hy.1 x hxm)
  subst e;rw[ZDm P le hanti (fun z hz=>hP z (by simp[hz])) hp.cons_inv hx.2 hy.2]
end
theorem ZES {α:Type} (A C:List α) (p x:α):((A++p::x::C).set (A.length+1) p).set A.length x=A++x::p::C:=by
 induction A with
 |nil=>rfl
 |cons a A ih=>simp only[List.cons_append,List.length_cons,List.set_cons_succ,ih]
end Go.Proofs
namespace Go.Proofs
open Go Eng
theorem ZHv {a b:List Nat} (h:iL a=iL b):a=b:=by unfold iL at h;exact List.map_inj_right (fun x y h=>by omega) |>.1 h
theorem ZGA {x y:Int} (h:bg x=bg y):x=y:=by
 have h1:(bg x).Neg=(bg y).Neg:=by rw[h]
 have h2:(bg x).Words=(bg y).Words:=by rw[h]
 rw[Zy5,Zy5,decide_eq_decide]at h1;rw[ZpR,ZpR]at h2;have h3:=ZHv h2;have h4:x.natAbs=y.natAbs:=by rw[←Ztc x.natAbs,←Ztc y.natAbs,h3]
 omega
theorem ZF4 {p q:Rat} (h:fOf p=fOf q):p=q:=by
 unfold fOf at h;injection h with h1 h2
 have h3:=ZGA h1;have h4:=ZGA h2;exact Rat.ext h3 (by omega)
abbrev En1:=ZnA
noncomputable def qOf (f:ZnA):Rat:= @dite _ (∃q,f=fOf q) (Classical.propDecidable _) (fun h=>h.choose) (fun _=>0)
theorem ZBQ (q:Rat):qOf (fOf q)=q:=by have h:∃p,fOf q=fOf p:=⟨q,rfl⟩;unfold qOf;rw[dif_pos h];exact(ZF4 h.choose_spec).symm
noncomputable def ZyS (a b:En1):Int:=ZB5 (qOf a) (qOf b)
noncomputable def ltE (a b:En1):Bool:=decide (ZyS a b < 0)
class Gdm (x:En1):Prop where
 ok:∃q,x=fOf q∧Sz 400 q
class Gds (d:List En1):Prop where
 all:∀e∈d,Gdm e
instance {d:List En1} [Gds d] {i:Nat} {h:i < d.length}:Gdm (d[i]'h):=Gds.all _ (List.getElem_mem h)
theorem Gds.at {d:List En1} [Gds d] {i:Nat} {p:En1} (h:d[i]? =some p):Gdm p:=Gds.all _ (List.mem_of_getElem? h)
theorem Gds.perm {D d:List En1} [Gds D] (h:d.Perm D):Gds d:=⟨fun e he=>Gds.all _ (h.mem_iff.1 he)⟩
theorem ZxL (a b:En1) [ha:Gdm a] [hb:Gdm b]:Zob a b=some (ZyS a b):=by obtain⟨p,rfl,hp⟩:=ha.ok;obtain⟨q,rfl,hq⟩:=hb.ok;unfold ZyS;rw[ZDy (hp.wq (by omega)) (hq.wq (by omega)),ZBQ,ZBQ]
theorem ZFK (a b:Rat):ZB5 b a= - ZB5 a b:=by unfold ZB5;split<;>split<;>grind
theorem ZAQ (a b:En1):ZyS b a= - ZyS a b:=ZFK _ _
theorem ZHa (a b:Rat):ZB5 a b < 0↔a < b:=by
 unfold ZB5;split
 ·rename_i h;exact⟨fun _=>h,fun _=>by decide⟩
 ·split
  ·rename_i h1 h2;exact⟨fun h=>by omega,fun h=>absurd h h1⟩
  ·rename_i h1 h2;exact⟨fun h=>by omega,fun h=>absurd h h1⟩
theorem ZGo {a b:Rat} (h:ZB5 a b=0):a=b:=by
 unfold ZB5 at h;split at h
 ·omega
 ·split at h
  ·omega
  ·rename_i h1 h2;exact Rat.le_antisymm (Rat.not_lt.1 h2) (Rat.not_lt.1 h1)
theorem ZEw {a b c:En1} (h1:ZyS a b < 0) (h2:ZyS b c < 0):ZyS a c < 0:=by
 unfold ZyS at*
 rw[ZHa]at*
 grind
theorem ZGq {a b c:En1} (h:ZyS a b=0):ZyS a c=ZyS b c:=by
 unfold ZyS at*
 rw[ZGo h]
theorem ZHd {a b:En1} [ha:Gdm a] [hb:Gdm b] (h:ZyS a b=0):a=b:=by obtain⟨p,rfl,hp⟩:=ha.ok;obtain⟨q,rfl,hq⟩:=hb.ok;unfold ZyS at h;rw[ZBQ,ZBQ]at h;rw[ZGo h]
end Go.Proofs
namespace Go.Proofs
open Go Eng
def sw (d:List En1) (i j:Nat) (hi:i < d.length) (hj:j < d.length):List En1:=(d.set i d[j]).set j d[i]
theorem ZEO {d:List En1} {i j:Nat} (hi:i < d.length) (hj:j < d.length):(sw d i j hi hj).Perm d:=List.set_set_perm hi hj
theorem ZBE {d:List En1} {i j:Nat} (hi:i < d.length) (hj:j < d.length):(sw d i j hi hj).length=d.length:=by unfold sw;rw[ZLS,ZLS]
theorem Zzb {d:List En1} {i j:Nat} (hi:i < d.length) (hj:j < d.length) (k:Nat) (hk:k < d.length):(sw d i j hi hj)[k]? =if k=j then some d[i]else if k=i then some d[j]else d[k]? :=by
 unfold sw;rw[List.getElem?_set,List.getElem?_set,ZLS]
 by_cases h1:j=k
 ·rw[if_pos h1,if_pos (by omega),if_pos h1.symm]
 ·rw[if_neg h1]
  by_cases h2:i=k
  ·rw[if_pos h2,if_pos (by omega),if_neg (show ¬k=j by omega),if_pos h2.symm]
  ·rw[if_neg h2,if_neg (show ¬k=j by omega),if_neg (show ¬k=i by omega)]
def Rg (a b:Nat) (D d:List En1):Prop:=d.Perm D∧∀k,k < a∨b≤k→d[k]? =D[k]?
theorem Rg.refl (a b:Nat) (D:List En1):Rg a b D D:=⟨.refl _,fun _ _=>rfl⟩
theorem Rg.trans {a b:Nat} {D d e:List En1} (h1:Rg a b D d) (h2:Rg a b d e):Rg a b D e:=⟨h2.1.trans h1.1,fun k hk=>(h2.2 k hk).trans (h1.2 k hk)⟩
theorem Rg.mono {a b a' b':Nat} {D d:List En1} (h:Rg a b D d) (ha:a'≤a) (hb:b≤b'):Rg a' b' D d:=⟨h.1,fun k hk=>h.2 k (by omega)⟩
theorem Rg.len {a b:Nat} {D d:List En1} (h:Rg a b D d):d.length=D.length:=h.1.length_eq
theorem ZBD {d:List En1} {i j a b:Nat} (hi:i < d.length) (hj:j < d.length) (ai:a≤i) (ib:i < b) (aj:a≤j) (jb:j < b):Rg a b d (sw d i j hi hj):=by
 refine⟨ZEO hi hj,fun k hk=> ?_⟩
 by_cases h:k < d.length
 ·rw[Zzb hi hj k h,if_neg (by omega),if_neg (by omega)]
 ·rw[ZLP (by rw[ZBE];omega),ZLP (by omega)]
instance {d:List En1} [Gds d] {i j:Nat} {hi:i < d.length} {hj:j < d.length}:Gds (sw d i j hi hj):=Gds.perm (ZEO hi hj)
theorem Rg.gds {a b:Nat} {D d:List En1} [Gds D] (h:Rg a b D d):Gds d:=Gds.perm h.1
theorem ZEq {D:List En1} [Gds D] {a b:Nat} (hn:D.length≤1000000) (hab:a≤b) (hb:b≤D.length):
  wp (ZoZ D (a:Int) (b:Int)) (fun d=>Rg a b D d):=by
 have Zd:wp (Zph D (a:Int) (b:Int)) (fun d=>Rg a b D d):=by
  unfold Zph;rw[ZnE,ZnC];refine⟨ZnH (by omega),ZnI (Zpb Zwe (fun s:Nat×Int×List En1=>((s.1:Int),s.2.1,s.2.2)) (fun s=>a≤s.1∧s.2.1 < (b:Int)∧ -1≤s.2.1∧Rg a b D s.2.2) (fun s=>(s.2.1+1 - s.1).toNat)
   (Q:=fun d=>Rg a b D d) (a,(b:Int) - 1,D) ⟨ZL5 _,by dsimp only;omega,by dsimp only;omega,.refl _ _ _⟩ (by dsimp only;omega) ?_) ?_⟩
  ·rintro rec ⟨i,j,d⟩ ⟨h1,h2,h3,h4⟩ ih;dsimp only at h1 h2 h3 h4 ih;have hl:=h4.len;haveI:=h4.gds;unfold Zsf ZpS;dsimp only
   by_cases hc:(i:Int) < j
   ·obtain⟨j,rfl⟩:=Int.eq_ofNat_of_zero_le (show 0≤j by omega);have hi:i < d.length:=by omega
    have hj:j < d.length:=by omega
    rw[decide_eq_true hc,cond_true,ZnE,ZLM,ZLM,ZLO hj,ZnC,ZnB,ZnE,ZLO hi,ZnC,ZnB,ZnE,ZnE,ZnE,ZnE];refine⟨Zot hj,Zot hi,Zot hi,Zpg ⟨by omega,by rw[ZLS];omega⟩,ZnH (by omega),ZnH (by omega), ?_⟩;have:=ih (i+1,(j:Int) - 1,sw d i j hi hj) ⟨by dsimp only;omega,by dsimp only;omega,by dsimp only;omega,h4.trans (ZBD hi hj (by omega) (by omega) (by omega) (by omega))⟩ (by dsimp only;omega);exact this
   ·rw[decide_eq_false hc,cond_false,ZnB];exact h4
  ·intro d hd;unfold Zqb;rw[ZnB];exact hd
 unfold ZoZ;rw[ZnC];refine ZnI Zd fun d hd=> ?_
 rw[ZnE,ZnB];exact⟨by rw[hd.len];simp,hd⟩
end Go.Proofs
namespace Go.Proofs
open Go Eng
def Lo (a:Nat) (d:List En1) (p:En1) (i:Nat):Prop:=∀k x,a+1≤k→k < i→d[k]? =some x→ZyS x p < 0
def Hi (b:Nat) (d:List En1) (p:En1) (j:Nat):Prop:=∀k x,j < k→k < b→d[k]? =some x→¬ZyS x p < 0
theorem ZIy {d:List En1} [Gds d] {p:En1} {a b:Nat} (h0:d[a]? =some p) (hn:d.length≤1000) {i j:Nat} (hi:a+1≤i) (hij:i≤j+1) (hjb:j < b) (hj:b≤d.length) (hA:Lo a d p i):
  wp (Zn8 big (a:Int) (i:Int) (j:Int) d) (fun x=>∃i':Nat,x=((a:Int),(i':Int),(j:Int),d)∧i≤i'∧i'≤j+1∧Lo a d p i'∧∀h:i'≤j,¬ZyS (d[i']'(by omega)) p < 0):=by
 haveI:Gdm p:=Gds.at h0;have hp:d[a]'(by omega)=p:=(ZLQ.1 h0).2;refine Zpb ZwZ (fun i:Nat=>((a:Int),(i:Int),(j:Int),d)) (fun i'=>i≤i'∧i'≤j+1∧Lo a d p i') (fun i'=>j+1 - i')
  (Q:=fun x=>∃i':Nat,x=((a:Int),(i':Int),(j:Int),d)∧i≤i'∧i'≤j+1∧Lo a d p i'∧∀h:i'≤j,¬ZyS (d[i']'(by omega)) p < 0) i ⟨ZL5 _,hij,hA⟩ (by omega) ?_
 rintro rec i' ⟨h1,h2,h3⟩ ih;unfold ZsY Zqn Zpl;dsimp only
 by_cases hc:i'≤j
 ·have hi':i' < d.length:=by omega
  rw[decide_eq_true (show (i':Int)≤(j:Int) by omega),cond_true,ZnE,ZLM,ZLO hi',ZnC,ZnB,ZnE,ZLM,h0,ZnC,ZnB,ZxL,ZnC,ZnB];refine⟨Zot hi',Zpg ⟨by omega,by omega⟩, ?_⟩
  by_cases ho:ZyS d[i'] p < 0
  ·rw[decide_eq_true ho,cond_true,ZnE];refine⟨ZnH (by omega),ih (i'+1) ⟨by omega,by omega,fun k x hk1 hk2 hx=> ?_⟩ (by omega)⟩
   by_cases e:k=i'
   ·subst e;rw[ZLO hi']at hx;rw[←ZMp hx];exact ho
   ·exact h3 k x hk1 (by omega) hx
  ·rw[decide_eq_false ho,cond_false,ZnB];exact⟨i',rfl,h1,h2,h3,fun _=>ho⟩
 ·rw[decide_eq_false (show ¬(i':Int)≤(j:Int) by omega),cond_false,cond_false,ZnB];exact⟨i',rfl,h1,h2,h3,fun h=>absurd h hc⟩
theorem ZIx {d:List En1} [Gds d] {p:En1} {a b:Nat} (h0:d[a]? =some p) (hn:d.length≤1000) {i j:Nat} (hi:a+1≤i) (hij:i≤j+1) (hjb:j < b) (hj:b≤d.length) (hA:Lo a d p i):
  wp (Zn6 big (a:Int) (i:Int) (j:Int) d) (fun x=>∃i':Nat,x=((a:Int),(i':Int),(j:Int),d)∧i≤i'∧i'≤j+1∧Lo a d p i'∧∀h:i'≤j,¬ZyS (d[i']'(by omega)) p < 0):=by
 haveI:Gdm p:=Gds.at h0;have hp:d[a]'(by omega)=p:=(ZLQ.1 h0).2;refine Zpb ZwW (fun i:Nat=>((a:Int),(i:Int),(j:Int),d)) (fun i'=>i≤i'∧i'≤j+1∧Lo a d p i') (fun i'=>j+1 - i')
  (Q:=fun x=>∃i':Nat,x=((a:Int),(i':Int),(j:Int),d)∧i≤i'∧i'≤j+1∧Lo a d p i'∧∀h:i'≤j,¬ZyS (d[i']'(by omega)) p < 0) i ⟨ZL5 _,hij,hA⟩ (by omega) ?_
 rintro rec i' ⟨h1,h2,h3⟩ ih;unfold ZsS Zqk Zpj;dsimp only
 by_cases hc:i'≤j
 ·have hi':i' < d.length:=by omega
  rw[decide_eq_true (show (i':Int)≤(j:Int) by omega),cond_true,ZnE,ZLM,ZLO hi',ZnC,ZnB,ZnE,ZLM,h0,ZnC,ZnB,ZxL,ZnC,ZnB];refine⟨Zot hi',Zpg ⟨by omega,by omega⟩, ?_⟩
  by_cases ho:ZyS d[i'] p < 0
  ·rw[decide_eq_true ho,cond_true,ZnE];refine⟨ZnH (by omega),ih (i'+1) ⟨by omega,by omega,fun k x hk1 hk2 hx=> ?_⟩ (by omega)⟩
   by_cases e:k=i'
   ·subst e;rw[ZLO hi']at hx;rw[←ZMp hx];exact ho
   ·exact h3 k x hk1 (by omega) hx
  ·rw[decide_eq_false ho,cond_false,ZnB];exact⟨i',rfl,h1,h2,h3,fun _=>ho⟩
 ·rw[decide_eq_false (show ¬(i':Int)≤(j:Int) by omega),cond_false,cond_false,ZnB];exact⟨i',rfl,h1,h2,h3,fun h=>absurd h hc⟩
theorem ZF7 {d:List En1} [Gds d] {p:En1} {a b:Nat} (h0:d[a]? =some p) (hn:d.length≤1000) {i j:Nat} (hi:a+1≤i) (hij:i≤j+1) (hjb:j < b) (hj:b≤d.length) (hB:Hi b d p j):
  wp (Zn7 big (a:Int) (i:Int) (j:Int) d) (fun x=>∃j':Nat,x=((a:Int),(i:Int),(j':Int),d)∧j'≤j∧i≤j'+1∧Hi b d p j'∧∀h:i≤j',∀hl:j' < d.length,ZyS d[j'] p < 0):=by
 haveI:Gdm p:=Gds.at h0;refine Zpb ZwY (fun j:Nat=>((a:Int),(i:Int),(j:Int),d)) (fun j'=>j'≤j∧i≤j'+1∧Hi b d p j') (fun j'=>j')
  (Q:=fun x=>∃j':Nat,x=((a:Int),(i:Int),(j':Int),d)∧j'≤j∧i≤j'+1∧Hi b d p j'∧∀h:i≤j',∀hl:j' < d.length,ZyS d[j'] p < 0) j ⟨ZL5 _,hij,hB⟩ (by omega) ?_
 rintro rec j' ⟨h1,h2,h3⟩ ih;unfold ZsW Zqm Zpk;dsimp only
 by_cases hc:i≤j'
 ·have hj':j' < d.length:=by omega
  rw[decide_eq_true (show (i:Int)≤(j':Int) by omega),cond_true,ZnE,ZLM,ZLO hj',ZnC,ZnB,ZnE,ZLM,h0,ZnC,ZnB,ZxL,ZnC,ZnB];refine⟨Zot hj',Zpg ⟨by omega,by omega⟩, ?_⟩
  by_cases ho:ZyS d[j'] p < 0
  ·rw[decide_eq_true ho,ZII,cond_false,ZnB];exact⟨j',rfl,h1,h2,h3,fun _ _=>ho⟩
  ·rw[decide_eq_false ho,Bool.not_false,cond_true,ZnE,show (j':Int) - 1=((j' - 1:Nat):Int) by omega];refine⟨ZnH (by omega),ih (j' - 1) ⟨by omega,by omega,fun k x hk hkb hx=> ?_⟩ (by omega)⟩
   by_cases e:k=j'
   ·subst e;rw[ZLO hj']at hx;rw[←ZMp hx];exact ho
   ·exact h3 k x (by omega) hkb hx
 ·rw[decide_eq_false (show ¬(i:Int)≤(j':Int) by omega),cond_false,cond_false,ZnB];exact⟨j',rfl,h1,h2,h3,fun h=>absurd h hc⟩
theorem ZF6 {d:List En1} [Gds d] {p:En1} {a b:Nat} (h0:d[a]? =some p) (hn:d.length≤1000) {i j:Nat} (hi:a+1≤i) (hij:i≤j+1) (hjb:j < b) (hj:b≤d.length) (hB:Hi b d p j):
  wp (Zn5 big (a:Int) (i:Int) (j:Int) d) (fun x=>∃j':Nat,x=((a:Int),(i:Int),(j':Int),d)∧j'≤j∧i≤j'+1∧Hi b d p j'∧∀h:i≤j',∀hl:j' < d.length,ZyS d[j'] p < 0):=by
 haveI:Gdm p:=Gds.at h0;refine Zpb ZwV (fun j:Nat=>((a:Int),(i:Int),(j:Int),d)) (fun j'=>j'≤j∧i≤j'+1∧Hi b d p j') (fun j'=>j')
  (Q:=fun x=>∃j':Nat,x=((a:Int),(i:Int),(j':Int),d)∧j'≤j∧i≤j'+1∧Hi b d p j'∧∀h:i≤j',∀hl:j' < d.length,ZyS d[j'] p < 0) j ⟨ZL5 _,hij,hB⟩ (by omega) ?_
 rintro rec j' ⟨h1,h2,h3⟩ ih;unfold ZsQ Zqj Zpi;dsimp only
 by_cases hc:i≤j'
 ·have hj':j' < d.length:=by omega
  rw[decide_eq_true (show (i:Int)≤(j':Int) by omega),cond_true,ZnE,ZLM,ZLO hj',ZnC,ZnB,ZnE,ZLM,h0,ZnC,ZnB,ZxL,ZnC,ZnB];refine⟨Zot hj',Zpg ⟨by omega,by omega⟩, ?_⟩
  by_cases ho:ZyS d[j'] p < 0
  ·rw[decide_eq_true ho,ZII,cond_false,ZnB];exact⟨j',rfl,h1,h2,h3,fun _ _=>ho⟩
  ·rw[decide_eq_false ho,Bool.not_false,cond_true,ZnE,show (j':Int) - 1=((j' - 1:Nat):Int) by omega];refine⟨ZnH (by omega),ih (j' - 1) ⟨by omega,by omega,fun k x hk hkb hx=> ?_⟩ (by omega)⟩
   by_cases e:k=j'
   ·subst e;rw[ZLO hj']at hx;rw[←ZMp hx];exact ho
   ·exact h3 k x (by omega) hkb hx
 ·rw[decide_eq_false (show ¬(i:Int)≤(j':Int) by omega),cond_false,cond_false,ZnB];exact⟨j',rfl,h1,h2,h3,fun h=>absurd h hc⟩
theorem ZEb {d:List En1} {p:En1} {a b i j:Nat} (h0:d[a]? =some p) (hi:a+1≤i) (hij:i < j) (hj:j < d.length) (hA:Lo a d p i) (hB:Hi b d p j) (h1:¬ZyS (d[i]'(by omega)) p < 0) (h2:ZyS d[j] p < 0):
  (sw d i j (by omega) hj)[a]? =some p∧Lo a (sw d i j (by omega) hj) p (i+1)∧Hi b (sw d i j (by omega) hj) p (j - 1):=by
 have hi':i < d.length:=by omega
 refine⟨?_,fun k x hk1 hk2 hx=> ?_,fun k x hk hkb hx=> ?_⟩
 ·rw[Zzb hi' hj a (by omega),if_neg (by omega),if_neg (by omega),h0]
 ·rw[Zzb hi' hj k (by omega),if_neg (by omega)]at hx
  by_cases e:k=i
  ·rw[if_pos e]at hx;rw[←ZMp hx];exact h2
  ·rw[if_neg e]at hx;exact hA k x hk1 (by omega) hx
 ·have hkl:k < d.length:=by
   have:=(ZLQ.1 hx).1
   rwa [ZBE]at this
  rw[Zzb hi' hj k hkl]at hx
  by_cases e:k=j
  ·rw[if_pos e]at hx;rw[←ZMp hx];exact h1
  ·rw[if_neg e,if_neg (by omega)]at hx;exact hB k x (by omega) hkb hx
end Go.Proofs
namespace Go.Proofs
open Go Eng
def Pt2 (a b:Nat) (D:List En1) (x:Int×Bool×List En1):Prop:=∃m:Nat,x.1=(m:Int)∧a≤m∧m < b∧Rg a b D x.2.2∧∃p,x.2.2[m]? =some p∧(∀k y,a≤k→k < m→x.2.2[k]? =some y→ZyS y p < 0)∧(∀k y,m < k→k < b→x.2.2[k]? =some y→¬ZyS y p < 0)
theorem ZGp {D d:List En1} {p:En1} {a b j:Nat} (h0:d[a]? =some p) (haj:a≤j) (hjb:j < b) (hb:b≤d.length) (hA:Lo a d p (j+1)) (hB:Hi b d p j) (hp:Rg a b D d) (f:Bool):Pt2 a b D ((j:Int),f,sw d j a (by omega) (by omega)):=by
 have hj:j < d.length:=by omega
 have ha:a < d.length:=by omega
 have hp0:d[a]=p:=(ZLQ.1 h0).2;refine⟨j,rfl,haj,hjb,hp.trans (ZBD hj ha haj hjb (ZL5 _) (by omega)),p, ?_,fun k y h1 h2 hy=> ?_,fun k y h1 h2 hy=> ?_⟩
 ·dsimp only;rw[Zzb hj ha j hj]
  by_cases e:j=a
  ·subst e;rw[if_pos rfl,hp0]
  ·rw[if_neg e,if_pos rfl,hp0]
 ·dsimp only at hy;rw[Zzb hj ha k (by omega)]at hy
  by_cases e:k=a
  ·rw[if_pos e]at hy;exact hA j y (by omega) (by omega) (by rw[ZLO hj];exact hy)
  ·rw[if_neg e,if_neg (by omega)]at hy;exact hA k y (by omega) (by omega) hy
 ·dsimp only at hy;rw[Zzb hj ha k (by omega),if_neg (by omega),if_neg (by omega)]at hy;exact hB k y h1 h2 hy
theorem ZEV {D:List En1} [Gds D] (hn:D.length≤1000) {a b:Nat} {d0:List En1} [Gds d0] {p:En1} {i0 j0:Nat} (h0:d0[a]? =some p) (hi:a+1≤i0) (hij:i0≤j0+1) (hj:j0 < b) (hb:b≤D.length) (hA:Lo a d0 p i0) (hB:Hi b d0 p j0) (hp:Rg a b D d0):
  wp (ZnQ big (a:Int) (i0:Int) (j0:Int) d0) (fun x=>∃(j:Nat) (d:List En1),x=((a:Int),(j:Int),d)∧d[a]? =some p∧a≤j∧j < b∧Lo a d p (j+1)∧Hi b d p j∧Rg a b D d):=by
 refine Zpb ZwX (fun s:Nat×Nat×List En1=>((a:Int),(s.1:Int),(s.2.1:Int),s.2.2)) (fun s=>s.2.2[a]? =some p∧a+1≤s.1∧s.1≤s.2.1+1∧s.2.1 < b∧Lo a s.2.2 p s.1∧Hi b s.2.2 p s.2.1∧Rg a b D s.2.2) (fun s=>s.2.1)
  (Q:=fun x=>∃(j:Nat) (d:List En1),x=((a:Int),(j:Int),d)∧d[a]? =some p∧a≤j∧j < b∧Lo a d p (j+1)∧Hi b d p j∧Rg a b D d) (i0,j0,d0) ⟨h0,hi,hij,hj,hA,hB,hp⟩ (by dsimp only;omega) ?_
 rintro rec ⟨i,j,d⟩ ⟨h0,hi,hij,hj,hA,hB,hp⟩ ih;dsimp only at h0 hi hij hj hA hB hp ih;have hl:=hp.len;haveI:=hp.gds;have hdn:d.length≤1000:=by omega
 have hbd:b≤d.length:=by omega
 unfold ZsU Zql ZqL ZqK;dsimp only;rw[ZnC];refine ZnI (ZIx h0 hdn hi hij hj hbd hA) ?_;rintro _ ⟨i',rfl,h1,h2,h3,h4⟩;dsimp only;rw[ZnC];refine ZnI (ZF6 h0 hdn (by omega) h2 hj hbd hB) ?_;rintro _ ⟨j',rfl,h5,h6,h7,h8⟩;dsimp only
 by_cases hc:i'≤j'
 ·have hi':i' < d.length:=by omega
  have hj':j' < d.length:=by omega
  have g1:=h4 (by omega);have g2:=h8 hc hj';have hlt:i' < j':=by
   rcases Nat.lt_or_eq_of_le hc with h |h
   ·exact h
   ·subst h;exact absurd g2 g1
  obtain⟨s0,sA,sB⟩:=ZEb h0 (by omega) hlt hj' h3 h7 g1 g2;rw[decide_eq_false (show ¬(i':Int) > (j':Int) by omega),cond_false,ZnE,ZLM,ZLM,ZLO hj',ZnC,ZnB,ZnE,ZLO hi',ZnC,ZnB,ZnE,ZnE,ZnE,ZnE];refine⟨Zot hj',Zot hi',Zot hi',Zpg ⟨by omega,by rw[ZLS];omega⟩,ZnH (by omega),ZnH (by omega), ?_⟩;have:=ih (i'+1,j' - 1,sw d i' j' hi' hj') ⟨s0,by dsimp only;omega,by dsimp only;omega,by dsimp only;omega,sA,sB,hp.trans (ZBD hi' hj' (by omega) (by omega) (by omega) (by omega))⟩ (by dsimp only;omega);rw[show (((i'+1:Nat)):Int)=(i':Int)+1 by omega,show ((j' - 1:Nat):Int)=(j':Int) - 1 by omega]at this;exact this
 ·rw[decide_eq_true (show (i':Int) > (j':Int) by omega),cond_true,ZnB];exact⟨j',d,rfl,h0,by omega,by omega,by rw[show j'+1=i' by omega];exact h3,h7,hp⟩
theorem ZDp {D:List En1} [Gds D] (hn:D.length≤1000) {a b pv:Nat} (hb:b≤D.length) (h1:a≤pv) (h2:pv < b):
  wp (Zps D (a:Int) (b:Int) (pv:Int)) (Pt2 a b D):=by
 have hpv:pv < D.length:=by omega
 have h00:a < D.length:=by omega
 have Zd:wp (ZpQ D (a:Int) (b:Int) (pv:Int)) (Pt2 a b D):=by
  unfold ZpQ;simp only[ZnE,ZLM];rw[ZLO hpv,ZLO h00];simp only[ZnC,ZnB,ZnE];have hd0:(D.set a D[pv]).set pv D[a]=sw D a pv h00 hpv:=rfl;rw[hd0];have hlen:=ZBE (d:=D) h00 hpv;have hg0:∃p,(sw D a pv h00 hpv)[a]? =some p:=⟨_,ZLO (by omega)⟩;obtain⟨p,hg0⟩:=hg0;have hperm:=ZBD (d:=D) h00 hpv (ZL5 a) (show a < b by omega) h1 h2;generalize sw D a pv h00 hpv=d at hlen hg0 hperm;haveI:Gds d:=hperm.gds;refine⟨Zpg ⟨by omega,by omega⟩,Zpg ⟨by omega,by omega⟩,Zpg ⟨by omega,by omega⟩,Zpg ⟨by omega,by rw[ZLS];omega⟩,ZnH (by omega),ZnH (by omega), ?_⟩;have hdn:d.length≤1000:=by omega
  have hbd:b≤d.length:=by omega
  have hA:Lo a d p (a+1):=fun k x h1 h2=>by omega
  have hB:Hi b d p (b - 1):=fun k x hk hkb hx=>by omega
  have:=ZIy hg0 hdn (i:=a+1) (j:=b - 1) (by omega) (by omega) (by omega) hbd hA;rw[show ((b - 1:Nat):Int)=(b:Int) - 1 by omega,show ((a+1:Nat):Int)=(a:Int)+1 by omega]at this;refine ZnI this ?_;rintro _ ⟨i',rfl,q1,q2,q3,q4⟩;dsimp only;unfold ZqN;rw[ZnC];have:=ZF7 hg0 hdn (i:=i') (j:=b - 1) (by omega) (by omega) (by omega) hbd hB;rw[show ((b - 1:Nat):Int)=(b:Int) - 1 by omega]at this;refine ZnI this ?_;rintro _ ⟨j',rfl,q5,q6,q7,q8⟩;dsimp only;unfold ZqM
  by_cases hc:i'≤j'
  ·have hi':i' < d.length:=by omega
   have hj':j' < d.length:=by omega
   have g1:=q4 (by omega);have g2:=q8 hc hj';have hlt:i' < j':=by
    rcases Nat.lt_or_eq_of_le hc with h |h
    ·exact h
    ·subst h;exact absurd g2 g1
   obtain⟨s0,sA,sB⟩:=ZEb hg0 (by omega) hlt hj' q3 q7 g1 g2;rw[decide_eq_false (show ¬(i':Int) > (j':Int) by omega),cond_false,ZnE,ZLM,ZLM,ZLO hj',ZnC,ZnB,ZnE,ZLO hi',ZnC,ZnB,ZnE,ZnE,ZnE,ZnE,ZnC];refine⟨Zot hj',Zot hi',Zot hi',Zpg ⟨by omega,by rw[ZLS];omega⟩,ZnH (by omega),ZnH (by omega), ?_⟩;have:=ZEV (D:=D) hn (d0:=sw d i' j' hi' hj') (i0:=i'+1) (j0:=j' - 1) s0 (by omega) (by omega) (by omega) hb sA sB (hperm.trans (ZBD hi' hj' (by omega) (by omega) (by omega) (by omega)));rw[show (((i'+1:Nat)):Int)=(i':Int)+1 by omega,show ((j' - 1:Nat):Int)=(j':Int) - 1 by omega]at this;refine ZnI this ?_;rintro _ ⟨j,d2,rfl,r0,r1,r2,r3,r4,r5⟩;unfold ZqJ;dsimp only;have hl2:=r5.len;haveI:=r5.gds;have r00:a < d2.length:=by omega
   have rj:j < d2.length:=by omega
   rw[ZnE,ZLM,ZLO r00,ZnC,ZnB,ZnE,ZLM,ZLO rj,ZnC,ZnB,ZnE,ZnE,ZnB];exact⟨Zot r00,Zot rj,Zot rj,Zpg ⟨by omega,by rw[ZLS];omega⟩,ZGp r0 r1 r2 (by omega) r3 r4 r5 false⟩
  ·have hj':j' < d.length:=by omega
   have h0d:a < d.length:=by omega
   rw[decide_eq_true (show (i':Int) > (j':Int) by omega),cond_true,ZnE,ZLM,ZLO h0d,ZnC,ZnB,ZnE,ZLM,ZLO hj',ZnC,ZnB,ZnE,ZnE,ZnB];exact⟨Zot h0d,Zot hj',Zot hj',Zpg ⟨by omega,by rw[ZLS];omega⟩,ZGp hg0 (by omega) (by omega) hbd (by rw[show j'+1=i' by omega];exact q3) q7 hperm true⟩
 unfold Zps;rw[ZnC];refine ZnI Zd fun x hx=> ?_
 obtain⟨m,e,h3,h4,h5,h6⟩:=hx;rw[ZnE,ZnB];exact⟨by rw[h5.len];simp,m,e,h3,h4,h5,h6⟩
end Go.Proofs
namespace Go.Proofs
open Go Eng
theorem ZCg {d:List En1} [Gds d] (P:Nat→Prop) (hP:∀k,P k→k < d.length) {a b:Nat} (ha:P a) (hb:P b) (s:Nat) (hs:s≤100):
  wp (Zow d (a:Int) (b:Int) (s:Int)) (fun x=>∃a' b' s':Nat,x=((a':Int),(b':Int),d,(s':Int))∧P a'∧P b'∧s'≤s+1):=by
 unfold Zow Zsg;have hal:=hP a ha;have hbl:=hP b hb;rw[ZnC,ZnE,ZLM,ZLO hbl,ZnC,ZnB,ZnE,ZLM,ZLO hal,ZnC,ZnB,ZxL,ZnC,ZnB,Zn3];refine⟨Zot hbl,Zot hal,fun _=> ?_,fun _=> ?_⟩
 ·rw[ZnE,ZnB,ZnE,ZnB];exact⟨ZnH (by omega),by simp,b,a,s+1,rfl,hb,ha,ZL5 _⟩
 ·rw[ZnB,ZnE,ZnB];exact⟨by simp,a,b,s,rfl,ha,hb,by omega⟩
theorem ZDs {d:List En1} [Gds d] (P:Nat→Prop) (hP:∀k,P k→k < d.length) {a b c:Nat} (ha:P a) (hb:P b) (hc:P c) (s:Nat) (hs:s≤50):
  wp (ZoX d (a:Int) (b:Int) (c:Int) (s:Int)) (fun x=>∃m s':Nat,x=((m:Int),d,(s':Int))∧P m∧s'≤s+3):=by
 unfold ZoX Zsh;rw[ZnC,ZnC];refine ZnI (ZCg P hP ha hb s (by omega)) ?_;rintro _ ⟨a1,b1,s1,rfl,q1,q2,q3⟩;dsimp only;rw[ZnC];refine ZnI (ZCg P hP q2 hc s1 (by omega)) ?_;rintro _ ⟨b2,c1,s2,rfl,q4,q5,q6⟩;dsimp only;rw[ZnC];refine ZnI (ZCg P hP q1 q4 s2 (by omega)) ?_;rintro _ ⟨a2,b3,s3,rfl,q7,q8,q9⟩;dsimp only;rw[ZnB,ZnE,ZnB];exact⟨by simp,b3,s3,rfl,q8,by omega⟩
theorem ZBe {d:List En1} [Gds d] (P:Nat→Prop) (hP:∀k,P k→k < d.length) (hd:d.length≤1000000) {a:Nat} (h0:1≤a) (ha:P (a - 1)) (hb:P a) (hc:P (a+1)) (s:Nat) (hs:s≤50):
  wp (ZnW d (a:Int) (s:Int)) (fun x=>∃m s':Nat,x=((m:Int),d,(s':Int))∧P m∧s'≤s+3):=by
 have:=hP _ hc;unfold ZnW Zqo;rw[ZnC,ZnE,ZnE,ZnC,show (a:Int) - 1=((a - 1:Nat):Int) by omega,show (a:Int)+1=((a+1:Nat):Int) by omega];refine⟨ZnH (by omega),ZnH (by omega),ZnI (ZDs P hP ha hb hc s hs) ?_⟩;rintro _ ⟨m,s',rfl,h1,h2⟩;dsimp only;rw[ZnB,ZnE,ZnB];exact⟨by simp,m,s',rfl,h1,h2⟩
theorem ZFN {d:List En1} [Gds d] (hd:d.length≤1000000) {a b:Nat} (hb:b≤d.length) (hab:a+13≤b):
  wp (Zo9 d (a:Int) (b:Int)) (fun x=>∃(pv:Nat) (h:Int),x=((pv:Int),h,d)∧a≤pv∧pv < b):=by
 have Zd:wp (Zpv d (a:Int) (b:Int)) (fun x=>∃(pv:Nat) (h:Int),x=((pv:Int),h,d)∧a≤pv∧pv < b):=by
  have hPl:∀k,(a≤k∧k < b)→k < d.length:=fun k hk=>by omega
  unfold Zpv;have eq:Int.tdiv ((b:Int) - (a:Int)) 4=(((b - a) / 4:Nat):Int):=by rw[show (b:Int) - (a:Int)=((b - a:Nat):Int) by omega];rfl
  rw[eq];generalize hq:(b - a) / 4=q;have j2:∀(m s:Nat),a≤m→m < b→wp (Zor (m:Int) d (s:Int)) (fun x=>∃(pv:Nat) (h:Int),x=((pv:Int),h,d)∧a≤pv∧pv < b):=by intro m s h1 h2;unfold Zor;rw[Zn3];refine⟨fun _=>by rw[ZnB];exact⟨m,1,rfl,h1,h2⟩,fun _=> ?_⟩;rw[Zn3];exact⟨fun _=>by rw[ZnB];exact⟨m,2,rfl,h1,h2⟩,fun _=>by rw[ZnB];exact⟨m,0,rfl,h1,h2⟩⟩
  have j1:∀(i j k s:Nat),s≤50→(a≤i∧i < b)→(a≤j∧j < b)→(a≤k∧k < b)→wp (Zos (i:Int) (j:Int) (k:Int) d (s:Int)) (fun x=>∃(pv:Nat) (h:Int),x=((pv:Int),h,d)∧a≤pv∧pv < b):=by intro i j k s hs h1 h2 h3;unfold Zos;rw[ZnC];refine ZnI (ZDs (fun k=>a≤k∧k < b) hPl h1 h2 h3 s hs) ?_;rintro _ ⟨m,s',rfl,h4,_⟩;exact j2 m s' h4.1 h4.2
  rw[show (q:Int)*1=((q:Nat):Int) by omega,show (q:Int)*2=((q*2:Nat):Int) by omega,show (q:Int)*3=((q*3:Nat):Int) by omega,
   show (a:Int)+((q:Nat):Int)=((a+q:Nat):Int) by omega,show (a:Int)+((q*2:Nat):Int)=((a+q*2:Nat):Int) by omega,show (a:Int)+((q*3:Nat):Int)=((a+q*3:Nat):Int) by omega]
  simp only[ZnE];refine⟨ZnH (by omega),rfl,ZnH (by omega),ZnH (by omega),ZnH (by omega),rfl,ZnH (by omega),ZnH (by omega),ZnH (by omega),rfl,ZnH (by omega),ZnH (by omega),ZnH (by omega), ?_⟩;rw[decide_eq_true (show (b:Int) - (a:Int)≥8 by omega),cond_true,Zn3];refine⟨fun h50=> ?_,fun _=>j1 _ _ _ 0 (by omega) (by omega) (by omega) (by omega)⟩;have h50':(b:Int) - (a:Int)≥50:=of_decide_eq_true h50;rw[ZnC];refine ZnI (ZBe (fun k=>a≤k∧k < b) hPl hd (a:=a+q) (by omega) (by omega) (by omega) (by omega) 0 (by omega)) ?_;rintro _ ⟨i,s1,rfl,p1,t1⟩;dsimp only;rw[ZnC];refine ZnI (ZBe (fun k=>a≤k∧k < b) hPl hd (a:=a+q*2) (by omega) (by omega) (by omega) (by omega) s1 (by omega)) ?_;rintro _ ⟨j,s2,rfl,p2,t2⟩;dsimp only;rw[ZnC];refine ZnI (ZBe (fun k=>a≤k∧k < b) hPl hd (a:=a+q*3) (by omega) (by omega) (by omega) (by omega) s2 (by omega)) ?_;rintro _ ⟨k,s3,rfl,p3,t3⟩;dsimp only;exact j1 i j k s3 (by omega) p1 p2 p3
 unfold Zo9;rw[ZnC];refine ZnI Zd ?_;rintro _ ⟨pv,h,rfl,h1,h2⟩;rw[ZnE,ZnB];exact⟨by simp,pv,h,rfl,h1,h2⟩
end Go.Proofs
namespace Go.Proofs
open Go Eng
theorem ZJr (x:Int) {y:Nat} (hy:y < 1000000):∃z:Nat,andK .u64 x (y:Int)=(z:Int)∧z≤y:=by
 unfold andK;have h1:(BitVec.ofInt (IntKind.u64).bits x&&& BitVec.ofInt (IntKind.u64).bits (y:Int)).toNat≤y:=by rw[BitVec.toNat_and];refine ZL6 Nat.and_le_right ?_;rw[BitVec.ofInt_natCast,BitVec.toNat_ofNat];exact Nat.mod_le _ _
 refine⟨_,wrap_u64 ⟨by omega,by omega⟩,h1⟩
theorem ZEu:((List.range 201).all fun n:Nat=>match ZsZ (n:Int)with |some m=>decide (n=0∨(1≤m∧m≤2*(n:Int))) |none=>false)=true:=by kernel_rfl
theorem ZHc {n:Nat} (h1:1≤n) (h2:n≤200):∃m:Nat,ZsZ (n:Int)=some (m:Int)∧1≤m∧m≤2*n:=by have h:=List.all_eq_true.1 ZEu n (List.mem_range.2 (by omega));split at h;rotate_left;simp at h;rename_i m hm;have h3:=(of_decide_eq_true h).resolve_left (by omega);refine⟨m.toNat, ?_,by omega,by omega⟩;rw[hm,Int.toNat_of_nonneg (by omega)]
theorem ZHk (r:Int):∃q r',ZtC r=some (q,r'):=by unfold ZtC;rw[show decide (0≤(13:Int))=true from rfl,show decide (0≤(7:Int))=true from rfl,show decide (0≤(17:Int))=true from rfl,chk_true,chk_true,chk_true];exact⟨_,_,rfl⟩
theorem ZGc {D:List En1} [Gds D] (hn:D.length≤200) {a b:Nat} (hab:a+8≤b) (hb:b≤D.length):
  wp (ZoR D (a:Int) (b:Int)) (fun d=>Rg a b D d):=by
 have Zd:wp (Zpa D (a:Int) (b:Int)) (fun d=>Rg a b D d):=by
  unfold Zpa;obtain⟨L,hL⟩:∃L:Nat,L=b - a:=⟨_,rfl⟩;rw[show (b:Int) - (a:Int)=(L:Int) by omega];have eq:Int.tdiv (L:Int) 4=((L / 4:Nat):Int):=rfl;obtain⟨md,hm,hm1,hm2⟩:=ZHc (n:=L) (by omega) (by omega);rw[ZnE,decide_eq_true (show (L:Int)≥8 by omega),cond_true,hm,ZnC,ZnB,eq,ZnE,ZnE,ZnE,ZnE,ZnE,ZnC];refine⟨ZnH (by omega),rfl,ZnH (by omega),ZnH (by omega),ZnH (by omega),ZnH (by omega), ?_⟩;refine ZnI (Zpb ZvO (fun s:Nat×List En1×Int=>((a:Int),(L:Int),(md:Int),(s.1:Int),s.2.1,s.2.2)) (fun s=>a≤s.1∧Rg a b D s.2.1) (fun s=>a+L+5 - s.1)
   (Q:=fun d=>Rg a b D d) (a+L / 4*2 - 1,D,IntKind.wrap .u64 (L:Int)) ⟨by dsimp only;omega,.refl _ _ _⟩ (by dsimp only;omega) ?_ |> fun h=>by
    have e:((a+L / 4*2 - 1:Nat):Int)=(a:Int)+((L / 4:Nat):Int)*2 - 1:=by omega
    dsimp only at h;rw[e]at h;exact h) ?_
  ·rintro rec ⟨i,d,r⟩ ⟨h1,h2⟩ ih;dsimp only at h1 h2 ih;have hl:=h2.len;haveI:=h2.gds;unfold Zr1 ZpN;dsimp only;rw[eq];simp only[ZnE];refine⟨rfl,ZnH (by omega),ZnH (by omega),ZnH (by omega),ZnH (by omega), ?_⟩
   by_cases hc:(i:Int)≤(a:Int)+((L / 4:Nat):Int)*2+1
   ·obtain⟨q,r',hr⟩:=ZHk r;obtain⟨z,hz,hz2⟩:=ZJr q (y:=md - 1) (by omega);have hw:IntKind.wrap .u64 ((md:Int) - 1)=((md - 1:Nat):Int):=by rw[wrap_u64 ⟨by omega,by omega⟩];omega
    rw[decide_eq_true hc,cond_true,hr,ZnC,ZnB];dsimp only;rw[hw,hz,wrap_i64 ⟨by omega,by omega⟩];have fin:∀o:Nat,o < L→wp (Zok (fun a1 l1 m1 i1 d1 r1=>rec (a1,l1,m1,i1,d1,r1)) (a:Int) (L:Int) (md:Int) (i:Int) (o:Int) d r') (fun d=>Rg a b D d):=by
     intro o ho;have ho':a+o < d.length:=by omega
     have hi':i < d.length:=by omega
     unfold Zok;rw[show (a:Int)+(o:Int)=((a+o:Nat):Int) by omega,ZnE,ZnE,ZnE,ZLM,ZLM,ZLO ho',ZnC,ZnB,ZnE,ZLO hi',ZnC,ZnB,ZnE,ZnE,ZnE];refine⟨ZnH (by omega),ZnH (by omega),Zot ho',Zot hi',Zot hi',Zpg ⟨by omega,by rw[ZLS];omega⟩,ZnH (by omega), ?_⟩;have:=ih (i+1,sw d i (a+o) hi' ho',r') ⟨by dsimp only;omega,h2.trans (ZBD hi' ho' (by omega) (by omega) (by omega) (by omega))⟩ (by dsimp only;omega);exact this
    by_cases hge:(z:Int)≥(L:Int)
    ·rw[decide_eq_true hge,cond_true,ZnE,show (z:Int) - (L:Int)=((z - L:Nat):Int) by omega];exact⟨ZnH (by omega),fin (z - L) (by omega)⟩
    ·rw[decide_eq_false hge,cond_false];exact fin z (by omega)
   ·rw[decide_eq_false hc,cond_false,ZnB];exact h2
  ·intro d hd;unfold Zp9;rw[ZnB];exact hd
 unfold ZoR;rw[ZnC];refine ZnI Zd fun d hd=> ?_
 rw[ZnE,ZnB];exact⟨by rw[hd.len];simp,hd⟩
end Go.Proofs
