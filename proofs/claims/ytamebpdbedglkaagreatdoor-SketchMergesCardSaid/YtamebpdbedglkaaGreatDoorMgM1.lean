/- Plain laws over the specs, part 1. -/
import Derived.Test.YtamebpdbedglkaaGreatDoorMgM0
set_option linter.unusedVariables false
set_option linter.unusedSimpArgs false
set_option linter.unusedSectionVars false
open Bool renaming not_true→ZDq
open Int renaming toNat_natCast→ZFS, natAbs_natCast→ZFR, natAbs_mul→ZFQ
open List renaming getElem?_eq_getElem→ZFW, length_append→ZF0, length_set→ZF3, nil_append→ZF7, append_nil→ZFU, length_cons→ZF1, length_singleton→ZF4, length_nil→ZF2, mem_cons→ZF6, take_length→ZGa, getD_eq_getElem?_getD→ZFV, append_assoc→ZFT, pairwise_cons→ZF8, getElem?_eq_some_iff→ZFY, length_take→ZF5, singleton_append→ZF9, take_succ_eq_append_getElem→ZGb, getElem_cons_drop→ZFZ, getElem?_eq_none→ZFX
open Nat renaming le_trans→ZGk, gcd→ZGh, pow_succ→ZGw, le_refl→ZGj, mul_assoc→ZGq, pow_zero→ZGx, mod_lt→ZGo, mul_add→ZGp, lt_of_le_of_lt→ZGl, mul_comm→ZGr, pow_le_pow_right→ZGv, div_le_self→ZGg, zero_add→ZGA, one_mul→ZGt, le_of_lt→ZGi, two_pow_pos→ZGz, pos_of_ne_zero→ZGu, lt_of_lt_of_le→ZGm, min_eq_left→ZGn, mul_left_comm→ZGs, div_add_mod→ZGe, add_mul_div_left→ZGc, div_eq_of_lt→ZGf, add_mul_mod_self_left→ZGd, two_pow_add_eq_or_of_lt→ZGy
open Option renaming bind_some→ZGB, some.inj→ZGC
open UInt8 renaming not_lt→ZGD
namespace Go.Proofs
open Go Eng
def Sz (k:Nat) (q:Rat):Prop:=q.num.natAbs < 2 ^ k∧q.den < 2 ^ k
theorem Sz.mono {k l:Nat} {q:Rat} (h:Sz k q) (hl:k≤l):Sz l q:=⟨ZGm h.1 (ZGv (by decide) hl),ZGm h.2 (ZGv (by decide) hl)⟩
theorem ZxB {n k:Nat} (h:n < 2 ^ k) (m:Nat) (hk:k≤32*m):(wd n).length≤m:=by refine ZvX (ZGm h ?_);rw[show Bw=2 ^ 32 from rfl,←Nat.pow_mul];exact ZGv (by decide) hk
theorem Sz.wq {k:Nat} {q:Rat} (h:Sz k q) (hk:k≤8192):Wq 256 q:=⟨ZxB h.1 256 (by omega),ZxB (n:=(q.den:Int).natAbs) (by rw[ZFR];exact h.2) 256 (by omega)⟩
theorem Zx4 {x y:Int} {k:Nat} (hy:y≠0) (h1:x.natAbs < 2 ^ k) (h2:y.natAbs < 2 ^ k):Sz k (Rat.divInt x y):=by
 unfold Sz;rw[Rat.num_divInt,Rat.den_divInt,if_neg hy];refine⟨ZGl ?_ h1,ZGl (ZGg _ _) h2⟩;have hd:((Int.gcd y x:Nat):Int)∣y.sign*x:=Int.dvd_trans (Int.gcd_dvd_right y x) (Int.dvd_mul_left _ _);rw[Int.natAbs_ediv_of_dvd hd,ZFQ];refine ZGk (ZGg _ _) ?_;have:y.sign.natAbs=1:=by rw[Int.natAbs_sign_of_ne_zero hy]
 rw[this,ZGt];exact ZGj _
theorem ZxJ {x y k l:Nat} (hx:x < 2 ^ k) (hy:y < 2 ^ l):x*y < 2 ^ (k+l):=by rw[Nat.pow_add];exact Nat.mul_lt_mul_of_lt_of_le hx (ZGi hy) (ZGz _)
theorem ZyD (a b:Rat):Rat.divInt (a.num*(b.den:Int)+b.num*(a.den:Int)) ((a.den:Int)*(b.den:Int))=a+b:=by have h1:=a.den_nz;have h2:=b.den_nz;rw[←Rat.divInt_add_divInt _ _ (by omega) (by omega),Rat.num_divInt_den,Rat.num_divInt_den]
theorem Sz.add {a b:Rat} {k l:Nat} (ha:Sz k a) (hb:Sz l b):Sz (k+l+1) (a+b):=by
 rw[←ZyD];have h1:=a.den_nz;have h2:=b.den_nz;have q1:=ZxJ ha.1 hb.2;have q2:=ZxJ ha.2 hb.1;have q3:=ZxJ ha.2 hb.2;have hp:=ZGz (k+l);refine Zx4 (Int.mul_ne_zero (by omega) (by omega)) ?_ ?_
 ·rw[ZGw];refine ZGl (Int.natAbs_add_le _ _) ?_;rw[ZFQ,ZFQ,ZFR,ZFR,ZGr b.num.natAbs];omega
 ·rw[ZGw,ZFQ,ZFR,ZFR];omega
theorem ZDm {q:Rat} (h:Wq 256 q):decide ((if ((fOf q).Den.Words.length:Int) > ((fOf q).Num.Words.length:Int)then ((fOf q).Den.Words.length:Int)else ((fOf q).Num.Words.length:Int)) > 256)=false:=by have h1:=h.1;have h2:=h.2;unfold Wl at h1 h2;refine decide_eq_false ?_;unfold fOf;rw[ZrG,ZrG,Zoz,Zoz];split<;>omega
theorem Zyj {y:Int} (hy:y≠0):(((bg y).Words.length:Int) == 0)=false:=by have:=Zty (n:=y.natAbs) (by omega);rw[ZrG,Zoz];exact beq_eq_false_iff_ne.2 (by omega)
theorem ZD3 {a b:Rat} {k l:Nat} (ha:Sz k a) (hb:Sz l b) (hk:k+l+1≤8192):ZuD (fOf a) (fOf b)=some (fOf (a+b),0):=by
 have h1:=a.den_nz;have h2:=b.den_nz;have qa:=ha.wq (by omega);have qb:=hb.wq (by omega);have w:∀{x y:Int},Wl 256 x→Wl 256 y→Wl 512 (x*y):=fun hx hy=>by unfold Wl;rw[ZFQ];exact ZBv hx hy
 have m:∀{n:Nat} {x:Int},Wl n x→n≤50000→Wl 50000 x:=fun h h'=>ZGk h h'
 have w1:=w qa.1 qb.2;have w2:=w qb.1 qa.2;have w3:=w qa.2 qb.2;have w4:Wl 513 (a.num*(b.den:Int)+b.num*(a.den:Int)):=ZGk (ZsA (Int.natAbs_add_le _ _)) (ZAf w1 w2);have hd:(a.den:Int)*(b.den:Int)≠0:=Int.mul_ne_zero (by omega) (by omega);unfold ZuD ZqZ;rw[ZyF a qa,ZGB,ZDq,cond_false,ZyF b qb,ZGB,ZDq];unfold Zp8 ZuZ;rw[cond_false];show ((((Zpg (bg a.num) (bg (b.den:Int))).bind fun q=>(Zpg (bg b.num) (bg (a.den:Int))).bind fun q_1=>(ZtB q q_1).bind fun num=>(Zpg (bg (a.den:Int)) (bg (b.den:Int))).bind fun den=>some (num,den)).bind _).bind _)=_;rw[ZxF _ _ (m qa.1 (by omega)) (m qb.2 (by omega)),ZGB,ZxF _ _ (m qb.1 (by omega)) (m qa.2 (by omega)),ZGB,ZDk _ _ (m w1 (by omega)) (m w2 (by omega)),ZGB,ZxF _ _ (m qa.2 (by omega)) (m qb.2 (by omega)),ZGB,ZGB];dsimp only;rw[Zyj hd,cond_false,ZwW _ _ hd (m w4 (by omega)) (m w3 (by omega)),ZGB,ZyD,ZDm ((ha.add hb).wq hk),cond_false,ZGB]
end Go.Proofs
namespace Go.Proofs
open Go Eng
theorem Sz.neg {q:Rat} {k:Nat} (h:Sz k q):Sz k (-q):=by show (-q.num).natAbs < 2 ^ k∧q.den < 2 ^ k;rw[Int.natAbs_neg];exact h
theorem Zy8 {a b:Rat} {k l:Nat} (ha:Sz k a) (hb:Sz l b) (hk:k+l+1≤8192):Zwr (fOf a) (fOf b)=some (fOf (a+b)):=by unfold Zwr Zww;rw[ZD3 ha hb hk];rfl
theorem ZCw (x y:Int) (hy:y≠0) (hx1:Wl 256 x) (hy1:Wl 256 y):Zt4 (bg x) (bg y)=some (fOf (Rat.divInt x y),0):=by
 have hb:=ZAQ [x,y] (by simp) (fun z hz=>by
  simp only[ZF6,List.not_mem_nil,or_false]at hz;rcases hz with rfl |rfl
  ·exact hx1
  ·exact hy1)
 unfold Zt4;rw[show ([bg x,bg y]:List ZnI)=[x,y].map bg from rfl,hb,ZGB,ZDq,cond_false,Zyj hy,cond_false,ZwW _ _ hy (ZGk hx1 (by decide)) (ZGk hy1 (by decide)),ZGB]
theorem ZEY {z:Int} (h1: -9223372036854775808≤z) (h2:z≤9223372036854775807):Wl 256 z:=ZGk (ZCx (by omega)) (by decide)
theorem ZFg (x y:Int) (hy:y≠0) (h1: -9223372036854775808≤x) (h2:x≤9223372036854775807) (h3: -9223372036854775808≤y) (h4:y≤9223372036854775807):Zu0 x y=some (fOf (Rat.divInt x y),0):=by unfold Zu0;rw[ZyA x h1 h2,ZGB,ZyA y h3 h4,ZGB,ZCw x y hy (ZEY h1 h2) (ZEY h3 h4),ZGB]
theorem ZAd:ZvW=some (fOf 0):=by unfold ZvW;rw[ZFg 0 1 (by decide) (by decide) (by decide) (by decide) (by decide),ZGB,Rat.zero_divInt]
theorem ZCi:Sz 1 0:=by unfold Sz;decide
end Go.Proofs
namespace Go.Proofs
open Go Eng
theorem ZzF:∀n w,ZoT n w=Zpq n w
 |0,_=>rfl
 |n+1,w=>by have:ZoT n=Zpq n:=funext (ZzF n);show ZtE (ZoT n) w=ZrU (Zpq n) w;rw[this];rfl
theorem ZzY (w:List Int):Zoq w=Zoo w:=by unfold Zoq Zoo;rw[ZzF];rfl
theorem Zxl {l:List Nat} (h:Dg l) (hl:l.length≤1000000):Zoq (iL l)=some (iL (wd (val l))):=by rw[ZzY,Zwv h hl]
theorem Zzx (neg:Bool) {l:List Nat} (h:Dg l) (hl:l.length≤1000000):Zo9 neg (iL l)=some (bg (if neg then -(val l:Int)else val l)):=by
 unfold Zo9 Zrs;rw[Zxl h hl,ZGB,Zoz];unfold bg;cases neg with
 |true=>
  rw[cond_true,if_pos rfl,Int.natAbs_neg,ZFR];congr 2
  by_cases h0:val l=0
  ·rw[h0,ZtP];rfl
  ·have:=Zty h0;rw[decide_eq_true (by omega),decide_eq_true (by omega)]
 |false=>rw[cond_false,if_neg (by decide),ZFR,decide_eq_false (by omega)]
theorem Zw6 (a:ZnI):ZpN a=Zrn a:=rfl
end Go.Proofs
namespace Go.Proofs
open Go Eng
theorem ZAM (a b:Nat) (ha:(wd a).length≤100000) (hb:(wd b).length≤100000):Zqb (iL (wd a)) (iL (wd b))=some (ZyW a b):=by
 refine Zrx ?_;unfold Zqb;rw[Zoz,Zoz,Zop];refine⟨fun h=> ?_,fun h=> ?_⟩
 ·have hne:(wd a).length≠(wd b).length:=fun e=>by rw[e]at h;simp at h
  rw[Zop];refine⟨fun h=> ?_,fun h=> ?_⟩
  ·have h1:(wd a).length < (wd b).length:=by have:=of_decide_eq_true h;omega
   rw[ZnB,ZvC (Zyy h1)]
  ·have h1:(wd b).length < (wd a).length:=by have:=of_decide_eq_false h;omega
   rw[ZnB,Zvg (Zyy h1)]
 ·have hl:(wd a).length=(wd b).length:=by simp only[bne_eq_false_iff_eq]at h;omega
  rw[ZnH,ZnD];refine⟨ZnK (by omega), ?_⟩;refine ZnX (Zxy ZvP (wd a).length (by omega) (fun i (s:Unit)=>(iL (wd a),iL (wd b),i)) (fun k _=>(wd a).drop k=(wd b).drop k)
   (Q:=fun r=>r= .ret (ZyW a b)∨r= .brk ()∧a=b) () (by rw[List.drop_length,hl,List.drop_length]) ?_ ?_) ?_
  ·rintro rec k ⟨⟩ hk hP ih;have hk2:k < (wd b).length:=by omega
   unfold Zr4 ZqO;dsimp only;rw[Zop];refine⟨fun _=> ?_,fun h=>by have:=of_decide_eq_false h;omega⟩;have ha:=ZvY hk;have hb:=ZvY hk2;rw[ZsV]at ha hb;have la:val ((wd a).take k) < Bw ^ k:=by have:=Zun ((Zu6 a).take k);rwa [ZF5,ZGn (by omega)]at this
   have lb:val ((wd b).take k) < Bw ^ k:=by have:=Zun ((Zu6 b).take k);rwa [ZF5,ZGn (by omega)]at this
   rw[Ztx hk,ZnD,ZnB,Ztx hk2,ZnD,ZnB,Zop];refine⟨fun hc=> ?_,fun hc=> ?_⟩
   ·have h1:(wd a)[k] < (wd b)[k]:=by have:=of_decide_eq_true hc;omega
    have:a < b:=by rw[ha,hb,hP];exact ZyG (A:=0) (B:=0) la (by omega)
    rw[ZnB];exact .inl (by rw[ZvC this])
   ·rw[ZnD,ZnB,ZnD,ZnB,Zop];refine⟨fun hc2=> ?_,fun hc2=> ?_⟩
    ·have h1:(wd b)[k] < (wd a)[k]:=by have:=of_decide_eq_true hc2;omega
     have:b < a:=by rw[ha,hb,hP];exact ZyG (A:=0) (B:=0) lb (by omega)
     rw[ZnB];exact .inl (by rw[Zvg this])
    ·rw[ZnH];refine⟨ZnK (by omega),ih () ?_⟩;have h1:(wd a)[k]=(wd b)[k]:=by have q1:=of_decide_eq_false hc;have q2:=of_decide_eq_false hc2;omega
     rw[←ZFZ (h:=hk),←ZFZ (h:=hk2),h1,hP]
  ·rintro rec ⟨⟩ hP;unfold Zr4 ZqO;dsimp only;rw[Zop];refine⟨fun h=>by have:=of_decide_eq_true h;omega,fun _=> ?_⟩;rw[ZnB];rw[List.drop_zero,List.drop_zero]at hP;exact .inr ⟨rfl,by rw[←ZsV a,←ZsV b,hP]⟩
  ·rintro r (rfl |⟨rfl,rfl⟩)
   ·exact ZnB.2 rfl
   ·unfold ZsI;exact ZnB.2 (Zvv a).symm
theorem Zzt {a:Nat} (k:Nat) (hk:k≤32):shlK .u32 (a:Int) (k:Int)=((a*2 ^ k % 4294967296:Nat):Int):=by
 unfold shlK;rw[ZFS,show IntKind.bits .u32=32 from rfl,ZGn (by omega)];have e:(a:Int)*(2:Int) ^ k=((a*2 ^ k:Nat):Int):=by push_cast;rfl
 rw[e,Zud]
theorem ZzE (a d:Nat) (hd:d≤1) (ha:(wd a).length≤100000):ZpG (iL (wd a)) (d:Int)=some (iL (wd (2*a+d))):=by
 refine Zrx ?_;unfold ZpG;rw[ZnD];refine ZnX (ZtC Zvj (wd a).length (by omega) (fun i (s:Nat×List Nat)=>(iL (wd a),(s.1:Int),i,iL s.2)) (fun i s=>s.1≤1∧s.2.length=i∧Dg s.2∧val s.2+Bw ^ i*s.1=2*val ((wd a).take i)+d)
  (Q:=fun y=>∃(c:Nat) (o:List Nat),y=((c:Int),iL o)∧c≤1∧Dg o∧o.length=(wd a).length∧val o+Bw ^ (wd a).length*c=2*a+d) (d,[]) ⟨hd,rfl,Zw9,by simp[val]⟩ ?_ ?_) ?_
 ·rintro rec i ⟨c,o⟩ hi ⟨hc,hl,hod,hv⟩ ih;dsimp only at hc hl hod hv ih;have h1:=(Zu6 a).get hi;unfold ZrI Zql;dsimp only;rw[Zop,Zoz];refine⟨fun _=> ?_,fun h=>by have:=of_decide_eq_false h;omega⟩;rw[Ztx hi,ZnD,ZnB];generalize ex:(wd a)[i]=x at h1;have eor:orK .u32 (shlK .u32 (x:Int) 1) (c:Int)=((c+x*2 ^ 1 % Bw:Nat):Int):=by rw[show (1:Int)=((1:Nat):Int)from rfl,Zzt 1 (by omega),Zy7 (ZGo _ (by decide)) (by omega),Nat.or_comm];congr 1;exact ZyL (by decide) (by omega) h1
  have esh:shrK .u32 (x:Int) 31=((x / 2 ^ 31:Nat):Int):=Zxd 31 (by omega);rw[eor,ZGB,esh,ZnH,ZnH,ZnH,ZnH,Zoz];have hx:c+x*2 ^ 1 % Bw < Bw:=by simp only[Bw]at h1⊢;omega
  refine⟨by decide,Zua (by simp only[ZF4];omega),by decide,ZnK (by omega), ?_⟩;have:=ih (x / 2 ^ 31,o++[c+x*2 ^ 1 % Bw]) ⟨by simp only[Bw]at h1;dsimp only;omega,by simp[hl],hod.app (ZwU hx), ?_⟩
  ·rw[Zzh]at this;exact this
  ·dsimp only;have q:c+x*2 ^ 1 % Bw+Bw*(x / 2 ^ 31)=c+2*x:=by simp only[Bw]at h1⊢;omega
   have q2:Bw ^ i*(c+x*2 ^ 1 % Bw+Bw*(x / 2 ^ 31))=Bw ^ i*(c+2*x):=by rw[q]
   have q3:Bw ^ i*(2*x)=2*(Bw ^ i*x):=ZGs _ _ _;rw[ZGp,ZGp (Bw ^ i) c (2*x),q3]at q2;rw[ZuE,hl,ZoO hi,ex];generalize c+x*2 ^ 1 % Bw=dg at*
   generalize x / 2 ^ 31=cy at*
   rw[ZGw,ZGq];omega
 ·rintro rec ⟨c,o⟩ ⟨hc,hl,hod,hv⟩;dsimp only at hc hl hod hv;unfold ZrI Zql;dsimp only;rw[Zop,Zoz];refine⟨fun h=>by have:=of_decide_eq_true h;omega,fun _=> ?_⟩;rw[ZnB];rw[ZGa,ZsV]at hv;exact⟨c,o,rfl,hc,hod,hl,hv⟩
 ·rintro y ⟨c,o,rfl,hc,hod,hl,hv⟩;dsimp only;unfold ZrZ;have e:iL o++[(c:Int)]=iL (o++[c]):=by rw[Zzh];rfl
  rw[ZnH,Zoz,e,Zxl (hod.app (ZwU (by simp only[Bw];omega))) (by simp;omega),ZnD,ZnB,ZnB,ZuE,hl,hv];exact⟨Zua (by simp only[ZF4];omega),rfl⟩
end Go.Proofs
namespace Go.Proofs
open Go Eng
theorem ZCl (t:Int):shrK .i64 t 32=t / 4294967296:=by unfold shrK;rw[show min (32:Int).toNat (IntKind.bits .i64)=32 from by decide,Int.fdiv_eq_ediv_of_nonneg _ (by decide)];rfl
theorem Zzq (a b:Nat) (hab:b≤a) (ha:(wd a).length≤100000):Zp9 (iL (wd a)) (iL (wd b))=some (iL (wd (a - b))):=by
 have hlb:(wd b).length≤(wd a).length:=ZsA hab;refine Zrx ?_;unfold Zp9;rw[ZnD];refine ZnX (ZtC ZvN (wd a).length (by omega) (fun i (s:Nat×List Nat)=>(iL (wd a),iL (wd b), -(s.1:Int),i,iL s.2)) (fun i s=>s.1≤1∧s.2.length=i∧Dg s.2∧val ((wd a).take i)+Bw ^ i*s.1=val s.2+val ((wd b).take i))
  (Q:=fun y=>∃(o:List Nat),y=iL o∧Dg o∧o.length=(wd a).length∧val o=a - b) (0,[]) ⟨by simp,rfl,Zw9,by simp[val]⟩ ?_ ?_) ?_
 ·rintro rec i ⟨c,o⟩ hi ⟨hc,hl,hd,hv⟩ ih;dsimp only at hc hl hd hv ih;have h1:=(Zu6 a).get hi;have h2:=Zyh (Zu6 b) i;have ey0:(wd b).getD i 0=(if i < (wd b).length then (wd b).getD i 0 else 0):=by
   by_cases h:i < (wd b).length
   ·rw[if_pos h]
   ·rw[if_neg h,ZFV,ZFX (by omega)];rfl
  have fin:∀y:Nat,(wd b).getD i 0=y→wp (Zqe (fun a b c i out=>rec (a,b,c,i,out)) (iL (wd a)) (iL (wd b)) (-(c:Int)+((wd a)[i]:Int) - (y:Int)) (i:Int) (iL o)) (fun y=>∃(o:List Nat),y=iL o∧Dg o∧o.length=(wd a).length∧val o=a - b):=fun y ey=>by
   rw[ey]at h2;generalize ex:(wd a)[i]=x at h1;have ew:IntKind.wrap .u32 (-(c:Int)+(x:Int) - (y:Int))=(((x+4294967296 - y - c) % 4294967296:Nat):Int):=by simp only[Bw]at h1 h2;rw[IntKind.wrap_u32];omega
   have es:shrK .i64 (-(c:Int)+(x:Int) - (y:Int)) 32= -(((if x < y+c then 1 else 0):Nat):Int):=by simp only[Bw]at h1 h2;rw[ZCl];split<;>omega
   unfold Zqe;rw[ew,es,ZnH,ZnH,ZnH,Zoz];refine⟨Zua (by simp only[ZF4];omega),by decide,ZnK (by omega), ?_⟩;have:=ih ((if x < y+c then 1 else 0),o++[(x+4294967296 - y - c) % 4294967296]) ⟨by dsimp only;split<;>omega,by simp[hl],hd.app (ZwU (ZGo _ (by decide))), ?_⟩
   ·rw[Zzh]at this;exact this
   ·dsimp only;rw[ZuE,hl,ZGw,ZoO hi,ZvK,ex,ey,ZGq];have e:x+Bw*(if x < y+c then 1 else 0)=(x+4294967296 - y - c) % 4294967296+y+c:=by simp only[Bw]at h1 h2⊢;split<;>omega
    have e2:Bw ^ i*(x+Bw*(if x < y+c then 1 else 0))=Bw ^ i*((x+4294967296 - y - c) % 4294967296+y+c):=by rw[e]
    rw[ZGp,ZGp,ZGp]at e2;omega
  unfold Zr0 ZqM;dsimp only;rw[Zop,Zoz,Zoz];refine⟨fun _=> ?_,fun h=>by have:=of_decide_eq_false h;omega⟩;have wx:IntKind.wrap .i64 ((wd a)[i]:Int)=((wd a)[i]:Int):=wrap_i64 (by simp only[Bw]at h1;omega);rw[Ztx hi,ZnD,ZnB,wx,ZnH,Zop];refine⟨ZnK (by simp only[Bw]at h1;omega),fun h=> ?_,fun h=> ?_⟩
  ·have hib:i < (wd b).length:=by have:=of_decide_eq_true h;omega
   have hy:=(Zu6 b).get hib;have wy:IntKind.wrap .i64 ((wd b)[i]:Int)=((wd b)[i]:Int):=wrap_i64 (by simp only[Bw]at hy;omega);rw[Ztx hib,ZnD,ZnB,wy,ZnH];refine⟨ZnK (by simp only[Bw]at h1 hy;omega),fin _ ?_⟩;rw[ZFV,ZFW hib];rfl
  ·have hib:¬i < (wd b).length:=by have:=of_decide_eq_false h;omega
   have:=fin 0 (by rw[ey0,if_neg hib]);rw[Int.natCast_zero,Int.sub_zero]at this;exact this
 ·rintro rec ⟨c,o⟩ ⟨hc,hl,hd,hv⟩;unfold Zr0 ZqM;dsimp only at hc hl hd hv⊢
  rw[Zop,Zoz];refine⟨fun h=>by have:=of_decide_eq_true h;omega,fun _=> ?_⟩;rw[ZnB];rw[ZGa,List.take_of_length_le (by omega),ZsV,ZsV]at hv;have:=Zun hd;rw[hl]at this;have hc0:c=0:=by
   rcases Nat.eq_zero_or_pos c with h |h
   ·exact h
   ·have:c=1:=by omega
    rw[this,Nat.mul_one]at hv;omega
  rw[hc0,Nat.mul_zero]at hv;exact⟨o,rfl,hd,hl,by omega⟩
 ·rintro y ⟨o,rfl,hd,hl,hv⟩;unfold ZsB;rw[Zxl hd (by omega),ZnD,ZnB,ZnB,hv]
end Go.Proofs
namespace Go.Proofs
open Go Eng
theorem Zx1 (a:Nat) (ha:(wd a).length≤100000):ZoZ (iL (wd a))=some (iL (wd (a / 2))):=by
 refine Zrx ?_;unfold ZoZ;rw[ZF7,ZnH,ZnD,Zoz];refine⟨Zua (by rw[ZF2];omega), ?_⟩;refine ZnX (ZtC Zvy (wd a).length (by omega) (fun i (o:List Nat)=>(iL (wd a),((wd a).length:Int),i,iL (o++(wd a).drop o.length))) (fun i o=>o.length=i∧Dg o∧val o*2+(wd a).getD 0 0 % 2=val ((wd a).take i)+Bw ^ i*((wd a).getD i 0 % 2))
  (Q:=fun y=>∃(o:List Nat),y=iL o∧Dg o∧o.length=(wd a).length∧val o=a / 2) [] ⟨rfl,Zw9,by simp[val]⟩ ?_ ?_) ?_
 ·rintro rec i o hi ⟨hol,hod,hov⟩ ih;have h1:=(Zu6 a).get hi;have hyB:=Zyh (Zu6 a) (i+1);have hlen:(o++(wd a).drop o.length).length=(wd a).length:=by simp;omega
  have gx:(iL (o++(wd a).drop o.length))[i]? =some ((wd a)[i]:Int):=by rw[Zw7 (by omega)];congr 2;rw[List.getElem_append_right (by omega)];simp[hol]
  have fin:∀z:Nat,z=(wd a)[i] / 2+(wd a).getD (i+1) 0*2 ^ 31 % Bw→wp (Zp2 (fun a t9 i out=>rec (a,t9,i,out)) (iL (wd a)) ((wd a).length:Int) (i:Int) (iL ((o++(wd a).drop o.length).set i z))) (fun y=>∃(o:List Nat),y=iL o∧Dg o∧o.length=(wd a).length∧val o=a / 2):=fun z hz=>by
   unfold Zp2;have es:(o++(wd a).drop o.length).set i z=(o++[z])++(wd a).drop (o++[z]).length:=by rw[List.set_append_right _ _ (by omega),hol,Nat.sub_self,←ZFZ (h:=hi),List.set_cons_zero];simp[hol]
   have eg:(wd a).getD i 0=(wd a)[i]:=by rw[ZFV,ZFW hi];rfl
   rw[eg]at hov;rw[ZnH,es];generalize ex:(wd a)[i]=x at*
   generalize ey:(wd a).getD (i+1) 0=y at*
   have hzB:z < Bw:=by simp only[Bw]at h1 hz⊢;omega
   refine⟨ZnK (by omega),ih (o++[z]) ⟨by simp[hol],hod.app (ZwU hzB), ?_⟩⟩;have hd1:z*2+x % 2=x+Bw*(y % 2):=by simp only[Bw]at h1 hz⊢;omega
   have q1:Bw ^ i*(z*2+x % 2)=Bw ^ i*(x+Bw*(y % 2)):=by rw[hd1]
   rw[ZGp,ZGp]at q1;rw[ZuE,hol,ZoO hi,ex,ZGw,Nat.add_mul,ZGq,ZGq];omega
  unfold ZrQ ZqH;dsimp only;rw[Zop];refine⟨fun _=> ?_,fun h=>by have:=of_decide_eq_false h;omega⟩;have esh:shrK .u32 ((wd a)[i]:Int) 1=(((wd a)[i] / 2:Nat):Int):=Zxd 1 (by omega);rw[ZFS,gx,ZnH,ZnD,ZnB,ZnH,ZnH,ZnH,esh,ZwE,Zoz,Zoz,hlen,Zop];refine⟨ZpF ⟨by omega,by omega⟩,by decide,ZpF ⟨by omega,by omega⟩,ZnK (by omega),fun h=> ?_,fun h=> ?_⟩
  ·have hi2:i+1 < (wd a).length:=by have:=of_decide_eq_true h;omega
   have gz:(iL ((o++(wd a).drop o.length).set i ((wd a)[i] / 2)))[i]? =some (((wd a)[i] / 2:Nat):Int):=by rw[Zw7 (by rw[ZF3];omega),List.getElem_set_self]
   have e1:(i:Int)+1=((i+1:Nat):Int):=rfl;have eg:(wd a).getD (i+1) 0=(wd a)[i+1]:=by rw[ZFV,ZFW hi2];rfl
   have eor:orK .u32 (((wd a)[i] / 2:Nat):Int) (shlK .u32 ((wd a)[i+1]:Int) 31)=(((wd a)[i] / 2+(wd a).getD (i+1) 0*2 ^ 31 % Bw:Nat):Int):=by rw[eg,show (31:Int)=((31:Nat):Int)from rfl,Zzt 31 (by omega),Zy7 (by simp only[Bw]at h1;omega) (ZGo _ (by decide))];congr 1;exact ZyL (by decide) (by simp only[Bw]at h1;omega) ((Zu6 a).get hi2)
   rw[e1,Ztx hi2,gz,ZnH,ZnD,ZnB,ZnH,ZnD,ZnB,ZnH,ZnH,eor,Zoz,ZF3,hlen,ZwE,List.set_set];exact⟨ZpF ⟨by omega,by omega⟩,ZnK (by omega),by decide,ZpF ⟨by omega,by omega⟩,fin _ rfl⟩
  ·have hi2:¬i+1 < (wd a).length:=by have:=of_decide_eq_false h;omega
   refine fin _ ?_;rw[ZFV,ZFX (by omega)];simp
 ·rintro rec o ⟨hol,hod,hov⟩;unfold ZrQ ZqH;dsimp only;rw[Zop];refine⟨fun h=>by have:=of_decide_eq_true h;omega,fun _=> ?_⟩;rw[ZnB];have eg:(wd a).getD (wd a).length 0=0:=by rw[ZFV,ZFX (by omega)];rfl
  rw[eg,Nat.zero_mod,Nat.mul_zero,Nat.add_zero,ZGa,ZsV]at hov;refine⟨o,by rw[hol,List.drop_length,ZFU],hod,hol, ?_⟩;omega
 ·rintro y ⟨o,rfl,hd,hl,hv⟩;unfold Zsl;rw[Zxl hd (by omega),ZnD,ZnB,ZnB,hv]
end Go.Proofs
namespace Go.Proofs
open Go Eng
theorem Zza {a:Nat} (h:a≠0):idx (iL (wd a)) 0=some ((a % Bw:Nat):Int):=by rw[Zxk h];rfl
theorem Zyi {a:Nat}:(andK .u32 ((a % Bw:Nat):Int) 1 == 0)=decide (a % 2=0):=by
 rw[show (1:Int)=((1:Nat):Int)from rfl,ZyS (ZGo _ (by decide)) (by decide),Nat.and_one_is_mod];have e:a % Bw % 2=a % 2:=by simp only[Bw];omega
 rw[e]
 by_cases h:a % 2=0
 ·rw[h];rfl
 ·rw[decide_eq_false h];exact beq_eq_false_iff_ne.2 (by omega)
theorem ZzN (P:Nat→Prop) {f:Nat→List Int×List Int×Int→Option (List Int×List Int×Int)} (y:List Int) (k:Int)
  (hf:∀n x,x≠0→(wd x).length≤100000→f (n+1) (iL (wd x),y,k)=if x % 2=0 then f n (iL (wd (x / 2)),y,k)else some (iL (wd x),y,k))
  (hP:∀x,P (2*x)→P x):∀(n x:Nat),x≠0→(wd x).length≤100000→P x→(∀m,x < 2 ^ m→m≤n→∃z,f n (iL (wd x),y,k)=some (iL (wd z),y,k)∧z % 2=1∧z≤x∧P z)
 |0,x,hx,hl,hp,m,hm,hmn=>by
  have:m=0:=by omega
  subst this;rw[ZGx]at hm;omega
 |n+1,x,hx,hl,hp,m,hm,hmn=>by
  rw[hf n x hx hl]
  by_cases h:x % 2=0
  ·rw[if_pos h];cases m with
   |zero=>rw[ZGx]at hm;omega
   |succ m=>
    obtain⟨z,h1,h2,h3,h4⟩:=ZzN P y k hf hP n (x / 2) (by omega) (ZGk (ZsA (ZGg x 2)) hl) (hP _ (by rwa [show 2*(x / 2)=x by omega])) m (by rw[ZGw]at hm;omega) (by omega);exact⟨z,h1,h2,by omega,h4⟩
  ·rw[if_neg h];exact⟨x,rfl,by omega,ZGj _,hp⟩
end Go.Proofs
namespace Go.Proofs
open Go Eng
theorem Zvh (x:Nat):x < 2 ^ (x.log2+1):=Nat.lt_log2_self
theorem ZwC {x n:Nat} (h:(wd x).length≤n):x.log2≤32*n:=by
 rcases Nat.eq_zero_or_pos x with rfl |hp
 ·rw[Nat.log2_zero];omega
 ·have h1:=Nat.log2_self_le (n:=x) (by omega);have h2:=ZGm (ZtQ x) (ZGv (n:=Bw) (by decide) h);rw[show Bw=2 ^ 32 from rfl,←Nat.pow_mul]at h2;exact ZGi ((Nat.pow_lt_pow_iff_right (a:=2) (by decide)).1 (ZGl h1 h2))
theorem ZAI {x b:Nat} (hb:b % 2=1):ZGh (2*x) b=ZGh x b:=by
 have hc:Nat.Coprime 2 b:=by unfold Nat.Coprime;rw[Nat.gcd_rec,hb,Nat.gcd_one_left]
 exact Nat.Coprime.gcd_mul_left_cancel x hc
theorem ZFm (y:List Int) (k:Int) {x:Nat} (b:Nat) (hb:b % 2=1) (hx:x≠0) (hl:(wd x).length≤100000):∃z,ZoM big (iL (wd x)) y k=some (iL (wd z),y,k)∧z % 2=1∧z≤x∧ZGh z b=ZGh x b:=by
 have hm:=ZwC hl;refine ZzN (fun z=>ZGh z b=ZGh x b) (f:=fun n t=>ZoM n t.1 t.2.1 t.2.2) y k (fun n x hx hl=> ?_) (fun z h=>by rwa [ZAI hb]at h) big x hx hl rfl (x.log2+1) (Zvh x) (ZGi (Zym (by omega)));show ZpL (ZoM n) (iL (wd x)) y k=_;unfold ZpL;rw[Zza hx,ZGB,Zyi]
 by_cases h:x % 2=0
 ·rw[decide_eq_true h,cond_true,if_pos h,Zx1 x hl,ZGB]
 ·rw[decide_eq_false h,cond_false,if_neg h]
end Go.Proofs
namespace Go.Proofs
open Go Eng
theorem ZBF (y:List Int) (k:Int) {x:Nat} (ho:x % 2=1):ZoM big (iL (wd x)) y k=some (iL (wd x),y,k):=by obtain⟨n,hn⟩:=Zxi 1 (by decide);rw[hn];show ZpL (ZoM n) (iL (wd x)) y k=_;unfold ZpL;rw[Zza (by omega),ZGB,Zyi,decide_eq_false (by omega),cond_false]
theorem ZFl (w:List Int) (k:Int) {y:Nat} (b:Nat) (hb:b % 2=1) (hy:y≠0) (hl:(wd y).length≤100000):∃z,ZoL big w (iL (wd y)) k=some (w,iL (wd z),k)∧z % 2=1∧(z≤y∧(y % 2=0→z≤y / 2))∧ZGh z b=ZGh y b:=by
 have hm:=ZwC hl;have step:∀n x,x≠0→(wd x).length≤100000→ZoL (n+1) w (iL (wd x)) k=if x % 2=0 then ZoL n w (iL (wd (x / 2))) k else some (w,iL (wd x),k):=fun n x hx hl=>by
  show Zr1 (ZoL n) w (iL (wd x)) k=_;unfold Zr1;rw[Zza hx,ZGB,Zyi]
  by_cases h:x % 2=0
  ·rw[decide_eq_true h,cond_true,if_pos h,Zx1 x hl,ZGB]
  ·rw[decide_eq_false h,cond_false,if_neg h]
 have key:∀(n x m:Nat),x≠0→(wd x).length≤100000→x < 2 ^ m→m≤n→∃z,ZoL n w (iL (wd x)) k=some (w,iL (wd z),k)∧z % 2=1∧(z≤x∧(x % 2=0→z≤x / 2))∧ZGh z b=ZGh x b:=by
  intro n
  induction n with
  |zero=>
   intro x m hx hl hm hmn;have:m=0:=by omega
   subst this;rw[ZGx]at hm;omega
  |succ n ih=>
   intro x m hx hl hm hmn;rw[step n x hx hl]
   by_cases h:x % 2=0
   ·rw[if_pos h];cases m with
    |zero=>rw[ZGx]at hm;omega
    |succ m=>
     obtain⟨z,h1,h2,h3,h4⟩:=ih (x / 2) m (by omega) (ZGk (ZsA (ZGg x 2)) hl) (by rw[ZGw]at hm;omega) (by omega);refine⟨z,h1,h2,⟨by omega,fun _=>h3.1⟩, ?_⟩;rw[h4,←ZAI hb,show 2*(x / 2)=x by omega]
   ·rw[if_neg h];exact⟨x,rfl,by omega,⟨ZGj _,fun h'=>absurd h' h⟩,rfl⟩
 exact key big y (y.log2+1) hy hl (Zvh y) (ZGi (Zym (by omega)))
end Go.Proofs
namespace Go.Proofs
open Go Eng
theorem ZBh (k:Int):∀(n x y p q:Nat),x % 2=1→(wd x).length≤100000→(wd y).length≤100000→x < 2 ^ p→y < 2 ^ q→p+q+y % 2 < n→Zn9 n (iL (wd x)) (iL (wd y)) k=some (iL (wd (ZGh x y)),k)
 |0,x,y,p,q,_,_,_,_,_,h=>absurd h (by omega)
 |n+1,x,y,p,q,ho,hxl,hyl,hp,hq,hn=>by
  show ZpM (Zn9 n) _ _ _=_;unfold ZpM;rw[Zoz]
  by_cases h0:y=0
  ·subst h0;rw[ZtP,Nat.gcd_zero_right];rfl
  ·have hl:=Zty h0;obtain⟨z,hz,hz1,hz2,hz3⟩:=ZFl (iL (wd x)) k x ho h0 hyl;rw[decide_eq_true (by omega),cond_true,ZBF _ _ ho,ZGB];dsimp only;unfold ZsF;rw[hz,ZGB];dsimp only;have hzl:=ZGk (ZsA hz2.1) hyl;unfold ZsE;rw[ZAM x z hxl hzl,ZGB];obtain⟨q',hq',hq2⟩:∃q',z < 2 ^ q'∧q'+1≤q+y % 2:=by
    by_cases he:y % 2=0
    ·cases q with
     |zero=>rw[ZGx]at hq;omega
     |succ q=>
      refine⟨q, ?_,by omega⟩;have:=hz2.2 he;rw[ZGw]at hq;omega
    ·exact⟨q,by omega,by omega⟩
   unfold Zrp;have eg:ZGh x y=ZGh x z:=by rw[Nat.gcd_comm x y,←hz3,Nat.gcd_comm]
   rw[eg]
   by_cases hc:z < x
   ·rw[Zvg hc,show decide ((1:Int) > 0)=true from rfl,cond_true,Zzq x z (by omega) hxl,ZGB,ZBh k n z (x - z) q' p hz1 hzl (ZGk (ZsA (Nat.sub_le x z)) hxl) hq' (by omega) (by omega),Nat.gcd_sub_self_right (by omega),Nat.gcd_comm]
   ·have hnc:decide (ZyW x z > 0)=false:=by refine decide_eq_false ?_;unfold ZyW;rw[if_neg hc];split<;>decide
    rw[hnc,cond_false,Zzq z x (by omega) hzl,ZGB,ZBh k n x (z - x) p q' ho hxl (ZGk (ZsA (Nat.sub_le z x)) hzl) hp (by omega) (by omega),Nat.gcd_sub_self_right (by omega)]
end Go.Proofs
namespace Go.Proofs
open Go Eng
theorem ZDD:∀(n x y j m:Nat),x≠0→y≠0→(wd x).length≤100000→(wd y).length≤100000→x < 2 ^ m→m≤n→j+m≤1000000000→
  ∃x' y' t:Nat,ZpA n (iL (wd x)) (iL (wd y)) (j:Int)=some (iL (wd x'),iL (wd y'),((j+t:Nat):Int))∧(x' % 2=1∨y' % 2=1)∧ZGh x y=2 ^ t*ZGh x' y'∧x'≠0∧y'≠0∧x'≤x∧y'≤y∧t≤m
 |0,x,y,j,m,hx,hy,hxl,hyl,hm,hmn,hj=>by
  have:m=0:=by omega
  subst this;rw[ZGx]at hm;omega
 |n+1,x,y,j,m,hx,hy,hxl,hyl,hm,hmn,hj=>by
  show ∃x' y' t:Nat,Zr2 (ZpA n) _ _ _=_∧_;unfold Zr2 Zrq;rw[Zza hx,ZGB,Zyi]
  by_cases h1:x % 2=0
  ·rw[decide_eq_true h1,cond_true,Zza hy,ZGB,Zyi]
   by_cases h2:y % 2=0
   ·cases m with
    |zero=>rw[ZGx]at hm;omega
    |succ m=>
     rw[decide_eq_true h2,cond_true,Zx1 x hxl,ZGB,Zx1 y hyl,ZGB,ZnK (by omega),chk_true];obtain⟨x',y',t,q1,q2,q3,q4,q5,q6,q7,q8⟩:=ZDD n (x / 2) (y / 2) (j+1) m (by omega) (by omega) (ZGk (ZsA (ZGg x 2)) hxl) (ZGk (ZsA (ZGg y 2)) hyl) (by rw[ZGw]at hm;omega) (by omega) (by omega);refine⟨x',y',t+1, ?_,q2, ?_,q4,q5,by omega,by omega,by omega⟩
     ·rw[show (j:Int)+1=((j+1:Nat):Int)from rfl,q1,show j+1+t=j+(t+1) by omega]
     ·have:=Nat.gcd_mul_left 2 (x / 2) (y / 2);rw[show 2*(x / 2)=x by omega,show 2*(y / 2)=y by omega]at this;rw[this,q3,ZGw,ZGr (2 ^ t) 2,ZGq]
   ·rw[decide_eq_false h2,cond_false];exact⟨x,y,0,rfl,.inr (by omega),by rw[ZGx,ZGt],hx,hy,ZGj _,ZGj _,Nat.zero_le _⟩
  ·rw[decide_eq_false h1,cond_false,cond_false];exact⟨x,y,0,rfl,.inl (by omega),by rw[ZGx,ZGt],hx,hy,ZGj _,ZGj _,Nat.zero_le _⟩
theorem ZDC:∀(k n a:Nat),k < n→k≤1000000000→(wd (2 ^ k*a)).length≤100000→Zpz n (iL (wd a)) (k:Int)=some (iL (wd (2 ^ k*a)))
 |k,0,a,h,_,_=>absurd h (by omega)
 |0,n+1,a,_,_,_=>by show ZpK (Zpz n) _ _=_;unfold ZpK;rw[ZGx,ZGt];rfl
 |k+1,n+1,a,h,hk,hl=>by
  show ZpK (Zpz n) _ _=_;unfold ZpK;have e:2 ^ (k+1)*a=2 ^ k*(2*a+0):=by rw[ZGw,ZGq,Nat.add_zero]
  have ha:(wd a).length≤100000:=ZGk (ZsA (Nat.le_mul_of_pos_left a (ZGz _))) hl;rw[e]at hl;have ht:=ZzE a 0 (by omega) ha;rw[Int.natCast_zero]at ht;rw[decide_eq_true (by omega),cond_true,ht,ZGB,show ((k+1:Nat):Int) - 1=(k:Int) by omega,ZnK (by omega),chk_true,ZDC k n (2*a+0) (by omega) (by omega) hl,e]
theorem ZCI (a b:Nat) (ha0:a≠0) (hb0:b≠0) (ha:(wd a).length≤50000) (hb:(wd b).length≤50000):Zrc (iL (wd a)) (iL (wd b))=some (iL (wd (ZGh a b))):=by
 have hla:=ZwC ha;have hlb:=ZwC hb;obtain⟨x,y,t,q1,q2,q3,q4,q5,q6,q7,q8⟩:=ZDD big a b 0 (a.log2+1) ha0 hb0 (by omega) (by omega) (Zvh a) (ZGi (Zym (by omega))) (by omega);rw[Int.natCast_zero,ZGA]at q1;have hxl:=ZGk (ZsA q6) ha;have hyl:=ZGk (ZsA q7) hb;have hlx:=ZwC hxl;have hly:=ZwC hyl;have main:Zn9 big (iL (wd x)) (iL (wd y)) (t:Int)=some (iL (wd (ZGh x y)),(t:Int)):=by
  by_cases hx:x % 2=1
  ·exact ZBh _ big x y _ _ hx (by omega) (by omega) (Zvh x) (Zvh y) (Zym (by omega))
  ·have hy:y % 2=1:=by omega
   obtain⟨z,z1,z2,z3,z4⟩:=ZFm (iL (wd y)) (t:Int) y hy q4 (by omega);have hzl:=ZGk (ZsA z3) hxl;have hlz:=ZwC hzl;have e:=ZBh (t:Int) big z y _ _ z2 (by omega) (by omega) (Zvh z) (Zvh y) (Zym (by omega));rw[z4]at e;rw[←e];obtain⟨n,hn⟩:∃n,big=n+1:=⟨36893488147419103231,by rw[big_eq]⟩;have s1:∀u,Zn9 big (iL (wd u)) (iL (wd y)) (t:Int)=ZpM (Zn9 n) (iL (wd u)) (iL (wd y)) (t:Int):=fun u=>by rw[hn];rfl
   rw[s1,s1];unfold ZpM;have hl:=Zty q5;rw[Zoz,decide_eq_true (by omega),cond_true,cond_true,z1,ZBF _ _ z2]
 have hg:(wd (2 ^ t*ZGh x y)).length≤100000:=by rw[←q3];exact ZGk (ZAe (by omega) hb) (by omega)
 unfold Zrc;rw[q1,ZGB];dsimp only;unfold ZsG ZsD ZsC;rw[main,ZGB];dsimp only;rw[ZDC t big _ (Zym (by omega)) (by omega) hg,ZGB,q3]
end Go.Proofs
namespace Go.Proofs
open Go Eng
theorem ZAP {l:List Nat} {i:Nat} (hd:Dg l) (h:i / 32 < l.length):l[i / 32] / 2 ^ (i % 32) % 2=val l / 2 ^ i % 2:=by
 have e:=ZvY h;have hlt:=Zun (hd.take (i / 32));rw[ZF5,ZGn (by omega)]at hlt;have hi:2 ^ i=Bw ^ (i / 32)*2 ^ (i % 32):=by rw[show Bw=2 ^ 32 from rfl,←Nat.pow_mul,←Nat.pow_add,ZGe]
 have hr:i % 32 < 32:=ZGo _ (by decide);have hB:Bw=2 ^ (i % 32)*(2*2 ^ (31 - i % 32)):=by rw[show 2*2 ^ (31 - i % 32)=2 ^ (31 - i % 32+1) by rw[ZGw,ZGr],←Nat.pow_add,show i % 32+(31 - i % 32+1)=32 by omega]
 have e1:val l / Bw ^ (i / 32)=l[i / 32]+Bw*val (l.drop (i / 32+1)):=by rw[e,ZGc _ _ (Nat.pow_pos (by decide)),ZGf hlt,ZGA]
 rw[hi,←Nat.div_div_eq_div_mul,e1];generalize l[i / 32]=x;generalize val (l.drop (i / 32+1))=y;have e2:(x+Bw*y) / 2 ^ (i % 32)=x / 2 ^ (i % 32)+2*(2 ^ (31 - i % 32)*y):=by rw[hB,ZGq,ZGc _ _ (ZGz _),ZGq]
 rw[e2,ZGd]
end Go.Proofs
namespace Go.Proofs
open Go Eng
theorem ZBx (i:Nat):Int.tdiv (i:Int) 32=((i / 32:Nat):Int):=by rw[Int.tdiv_eq_ediv_of_nonneg (by omega)];norm_cast
theorem ZBw (i:Nat):IntKind.wrap .u64 (Int.tmod (i:Int) 32)=((i % 32:Nat):Int):=by rw[Int.tmod_eq_emod_of_nonneg (by omega),IntKind.wrap_u64];omega
theorem ZD2 {l:List Nat} {i:Nat} (hd:Dg l) (h:i / 32 < l.length) (hi:i≤1000000000):Zrd (iL l) (i:Int)=some ((val l / 2 ^ i % 2:Nat):Int):=by have h1:=hd.get h;unfold Zrd;rw[ZBx,ZBw,decide_eq_true (by decide),chk_true,ZnK (by omega),chk_true,Ztx h,ZGB,chk_true,decide_eq_true (by omega),chk_true,Zxd _ (by omega),show (1:Int)=((1:Nat):Int)from rfl,ZyS (ZGl (ZGg _ _) h1) (by decide),Nat.and_one_is_mod,ZAP hd h]
end Go.Proofs
namespace Go.Proofs
open Go Eng
theorem ZBC {x j:Nat} (h:x / 2 ^ j % 2=0):x|||2 ^ j=x+2 ^ j:=by
 have hlo:=ZGo x (ZGz j);have e:x=2 ^ (j+1)*(x / 2 ^ j / 2)+x % 2 ^ j:=by
  have h1:=ZGe x (2 ^ j);have h2:2*(x / 2 ^ j / 2)=x / 2 ^ j:=by omega
  rw[ZGw,ZGq,h2,h1]
 have a1:=ZGy (i:=j+1) (b:=x % 2 ^ j) (by rw[ZGw];omega) (x / 2 ^ j / 2);have a2:=ZGy (i:=j) (b:=x % 2 ^ j) hlo 1;have a3:=ZGy (i:=j+1) (b:=2 ^ j*1+x % 2 ^ j) (by rw[ZGw];omega) (x / 2 ^ j / 2);rw[Nat.mul_one]at a2 a3;generalize x / 2 ^ j / 2=t at*
 generalize x % 2 ^ j=lo at*
 rw[e,a1,Nat.or_assoc,Nat.or_comm lo,←a2,←a3,←a1];omega
theorem ZCn {j:Nat} (hj:j≤31):shlK .u32 1 (j:Int)=((2 ^ j:Nat):Int):=by have:=Zzt (a:=1) j (by omega);rw[ZGt,Nat.mod_eq_of_lt (ZGl (ZGv (by decide) hj) (by decide))]at this;exact this
theorem ZAG {A k:Nat}:A / 2 ^ k=2*(A / 2 ^ (k+1))+A / 2 ^ k % 2:=by rw[ZGw,←Nat.div_div_eq_div_mul];omega
theorem ZAL (a b:Nat) (hb0:b≠0) (ha:(wd a).length≤50000) (hb:(wd b).length≤50000):Zqa (iL (wd a)) (iL (wd b))=some (iL (wd (a / b)),iL (wd (a % b))):=by
 have hlen:∀k,(wd (2*(a / 2 ^ (k+1) % b)+a / 2 ^ k % 2)).length≤50001:=fun k=>by
  have h1:=ZGo (a / 2 ^ (k+1)) (ZGu hb0);have h2:2*(a / 2 ^ (k+1) % b)+a / 2 ^ k % 2≤b+b:=by omega
  exact ZGk (ZsA h2) (ZAf hb hb)
 refine Zrx ?_;unfold Zqa;rw[ZnH,ZnH,ZnH,ZnD,Zoz,ZFS,Zyz];refine⟨ZwY (by omega),ZnK (by omega),ZnK (by omega), ?_⟩;have e0:(32*((wd a).length:Int)) - 1=((32*(wd a).length:Nat):Int) - 1:=by omega
 rw[e0,show ([]:List Int)=iL (wd 0) by rw[ZtP];rfl];refine ZnX (Zxy ZvO (32*(wd a).length) (by omega) (fun i (q:Nat×List Nat)=>(iL (wd a),iL (wd b),iL (wd q.1),i,iL q.2))
  (fun k q=>q.1=a / 2 ^ k % b∧Dg q.2∧q.2.length=(wd a).length∧val q.2=a / 2 ^ k / b*2 ^ k)
  (Q:=fun y=>∃o:List Nat,y=(iL (wd (a % b)),iL o)∧Dg o∧o.length=(wd a).length∧val o=a / b) (0,List.replicate (wd a).length 0) ?_ ?_ ?_) ?_
 ·have h0:a / 2 ^ (32*(wd a).length)=0:=by refine ZGf ?_;rw[Nat.pow_mul];exact ZtQ a
  rw[h0,Nat.zero_mod,Nat.zero_div,Nat.zero_mul];exact⟨rfl,ZBI _,List.length_replicate,ZAg _⟩
 ·rintro rec k ⟨r,q⟩ hk ⟨hr,hd,hl,hv⟩ ih;dsimp only at hr hd hl hv;have hk32:k / 32 < (wd a).length:=by omega
  unfold Zr3 ZqN;dsimp only;have hbit:=ZD2 (i:=k) (Zu6 a) hk32 (by omega);rw[ZsV]at hbit;have h2:a / 2 ^ k % 2≤1:=by omega
  have htw:=ZzE r (a / 2 ^ k % 2) h2 (by
   rw[hr];exact ZGk (ZsA (ZGi (ZGo _ (ZGu hb0)))) (by omega))
  have hlk:=hlen k;rw[←hr]at hlk;have hx:=ZAG (A:=a) (k:=k);have hdm:=ZGe (a / 2 ^ (k+1)) b;rw[←hr]at hdm;have hrlt:r < b:=by rw[hr];exact ZGo _ (ZGu hb0)
  rw[Zop];refine⟨fun _=> ?_,fun h=>by have:=of_decide_eq_false h;omega⟩;rw[hbit,ZnD,ZnB,htw,ZnD,ZnB,ZAM _ _ (by omega) (by omega),ZnD,ZnB,Zop];have nx:∀r' q',(r'=a / 2 ^ k % b∧Dg q'∧q'.length=(wd a).length∧val q'=a / 2 ^ k / b*2 ^ k)→wp (Zqh (fun a b r_ i q=>rec (a,b,r_,i,q)) (iL (wd a)) (iL (wd b)) (iL (wd r')) (k:Int) (iL q')) (fun y=>∃o:List Nat,y=(iL (wd (a % b)),iL o)∧Dg o∧o.length=(wd a).length∧val o=a / b):=fun r' q' h=>by unfold Zqh;rw[ZnH];exact⟨ZnK (by omega),ih (r',q') h⟩
  generalize eX:a / 2 ^ (k+1)=X at*
  generalize ed:a / 2 ^ k % 2=d at*
  refine⟨fun hc=> ?_,fun hc=> ?_⟩
  ·have hge:b≤2*r+d:=by
    rcases Nat.lt_or_ge (2*r+d) b with h |h
    ·rw[ZvC h]at hc;exact absurd (of_decide_eq_true hc) (by decide)
    ·exact h
   have hq:k / 32 < q.length:=by omega
   have hz:q[k / 32] / 2 ^ (k % 32) % 2=0:=by rw[ZAP hd hq,hv,ZGw,←ZGq,Nat.mul_right_comm,Nat.mul_div_cancel _ (ZGz k)];omega
   have hx32:=hd.get hq;rw[Zzq _ _ hge (by omega),ZnD,ZnB,ZBx,ZBw,ZFS,ZnH,ZnH,ZnH,Zw7 hq,ZnD,ZnB,ZnH,ZnH,ZnH,ZCn (by omega),Zy7 hx32 (ZGl (ZGv (by decide) (show k % 32≤31 by omega)) (by decide)),ZBC hz,ZwE,Zoz];refine⟨by decide,ZnK (by omega),ZpF ⟨by omega,by omega⟩,by decide,decide_eq_true (by omega),ZpF ⟨by omega,by omega⟩, ?_⟩;have hsum:q[k / 32]+2 ^ (k % 32) < Bw:=by
    have hB:Bw=2 ^ (k % 32)*(2*2 ^ (31 - k % 32)):=by rw[show 2*2 ^ (31 - k % 32)=2 ^ (31 - k % 32+1) by rw[ZGw,ZGr],←Nat.pow_add,show k % 32+(31 - k % 32+1)=32 by omega]
    rw[←ZBC hz];exact Nat.or_lt_two_pow (n:=32) hx32 (ZGl (ZGv (by decide) (show k % 32≤31 by omega)) (by decide))
   refine nx (2*r+d - b) (q.set (k / 32) (q[k / 32]+2 ^ (k % 32))) ⟨?_,hd.set _ hsum,by rw[ZF3,hl], ?_⟩
   ·rw[hx,show 2*X+d=(2*r+d - b)+b*(2*(X / b)+1) by rw[ZGp,ZGs];omega,ZGd,Nat.mod_eq_of_lt (by omega)]
   ·have hvs:=ZwM q (k / 32) (q[k / 32]+2 ^ (k % 32)) hq;have hp:Bw ^ (k / 32)*2 ^ (k % 32)=2 ^ k:=by rw[show Bw=2 ^ 32 from rfl,←Nat.pow_mul,←Nat.pow_add,ZGe]
    rw[ZGp,hp]at hvs;have e1:(2*X+d) / b=2*(X / b)+1:=by rw[show 2*X+d=(2*r+d - b)+b*(2*(X / b)+1) by rw[ZGp,ZGs];omega,ZGc _ _ (ZGu hb0),ZGf (by omega),ZGA]
    rw[hx,e1];rw[hv,ZGw]at hvs;have e2:X / b*(2 ^ k*2)=2*(X / b)*2 ^ k:=by rw[ZGr (2 ^ k) 2,←ZGq,ZGr (X / b) 2]
    rw[Nat.add_mul,ZGt];omega
  ·have hlt:2*r+d < b:=by
    rcases Nat.lt_or_ge (2*r+d) b with h |h
    ·exact h
    ·rcases Nat.lt_or_ge b (2*r+d)with h' |h'
     ·rw[Zvg h']at hc;exact absurd (of_decide_eq_false hc) (by decide)
     ·rw[show 2*r+d=b by omega,Zvv]at hc;exact absurd (of_decide_eq_false hc) (by decide)
   have e0:2*X+d=(2*r+d)+b*(2*(X / b)):=by rw[ZGs];omega
   refine nx (2*r+d) q ⟨?_,hd,hl, ?_⟩
   ·rw[hx,e0,ZGd,Nat.mod_eq_of_lt hlt]
   ·rw[hx,e0,ZGc _ _ (ZGu hb0),ZGf hlt,ZGA,hv,ZGw,ZGr (2 ^ k) 2,←ZGq,ZGr (X / b) 2]
 ·rintro rec ⟨r,q⟩ ⟨hr,hd,hl,hv⟩;dsimp only at hr hd hl hv;rw[ZGx,Nat.div_one]at hr hv;unfold Zr3 ZqN;dsimp only;rw[Zop];refine⟨fun h=>by have:=of_decide_eq_true h;omega,fun _=> ?_⟩;rw[ZnB,hr];exact⟨q,rfl,hd,hl,by rw[hv,Nat.mul_one]⟩
 ·rintro y ⟨o,rfl,hd,hl,hv⟩;dsimp only;unfold ZsH;rw[Zxl hd (by omega),ZnD,ZnB,ZnB,hv]
end Go.Proofs
namespace Go.Proofs
open Go Eng
theorem ZxN (n:Int):Rat.divInt n 1=(n:Rat):=by have h:=Rat.num_divInt_den (n:Rat);rw[Rat.num_intCast,Rat.den_intCast]at h;exact h
end Go.Proofs
namespace Go.Proofs
open Go Eng
theorem Zxh (z:Int) (h1: -9223372036854775808≤z) (h2:z≤9223372036854775807):ZoU z=some (bg z):=by
 have key:∀(b:Bool) (n:Nat),n < 18446744073709551616→Zo9 b [IntKind.wrap .u32 (n:Int),IntKind.wrap .u32 (shrK .u64 (n:Int) 32)]=some (bg (if b then -(n:Int)else n)):=fun b n h=>by
  have e:([IntKind.wrap .u32 (n:Int),IntKind.wrap .u32 (shrK .u64 (n:Int) 32)]:List Int)=iL [n % 4294967296,n / 4294967296]:=by rw[show (32:Int)=((32:Nat):Int)from rfl,Zxc 32 (by omega),Zud,ZuA (by omega)];rfl
  have hd:Dg [n % 4294967296,n / 4294967296]:=fun d hd=>by
   simp only[ZF6,List.mem_singleton,List.not_mem_nil,or_false]at hd;rcases hd with rfl |rfl
   ·exact ZGo _ (by decide)
   ·simp only[Bw];omega
  have hv:val [n % 4294967296,n / 4294967296]=n:=by simp only[val,Nat.mul_zero,Nat.add_zero];exact Nat.mod_add_div n Bw
  rw[e,Zzx b hd (by simp),hv]
 unfold ZoU Zqm;have h32:decide (0≤(32:Int))=true:=rfl
 by_cases hz:z < 0
 ·have e:IntKind.wrap .u64 (0 - IntKind.wrap .u64 z)=((z.natAbs:Nat):Int):=by rw[IntKind.wrap_u64,IntKind.wrap_u64];omega
  rw[decide_eq_true hz,cond_true,h32,chk_true,e,key true _ (by omega),ZGB,if_pos rfl,show -((z.natAbs:Nat):Int)=z by omega]
 ·have e:IntKind.wrap .u64 z=((z.natAbs:Nat):Int):=by rw[IntKind.wrap_u64];omega
  rw[decide_eq_false hz,cond_false,h32,chk_true,e,key false _ (by omega),ZGB,if_neg (by decide),show ((z.natAbs:Nat):Int)=z by omega]
theorem ZCP:bg 0=⟨false,[]⟩:=by unfold bg;rw[show (0:Int).natAbs=0 from rfl,ZtP];rfl
theorem Zz2 (x y:Int) (hy:y≠0) (hx1:Wl 50000 x) (hy1:Wl 50000 y):Zqf (bg x) (bg y)=some (fOf (Rat.divInt x y)):=by
 unfold Zqf
 by_cases hx:x=0
 ·subst hx;rw[Rat.zero_divInt,ZrG,Zoz,show (0:Int).natAbs=0 from rfl,ZtP,Zxh 1 (by decide) (by decide)];show some (ZnG.mk ⟨false,[]⟩ (bg 1))=some (fOf 0);rw[←ZCP];rfl
 ·have hx0:0 < x.natAbs:=by omega
  have hy0:0 < y.natAbs:=by omega
  have hg0:ZGh x.natAbs y.natAbs≠0:=fun e=>by have:=Nat.gcd_pos_of_pos_right x.natAbs hy0;omega
  have hgl:=ZAe (x:=x.natAbs) hy0 hy1;have hxl:=ZzA (ZGh x.natAbs y.natAbs) hx1;have hyl:=ZzA (ZGh x.natAbs y.natAbs) hy1;have h:=ZwW x y hy hx1 hy1;unfold Zp7 at h;rw[ZrG,ZrG,Zyl _ _ hx1 hy1,ZGB,ZxG _ _ hg0 hx1 hgl,ZGB]at h;dsimp only at h;rw[ZxG _ _ hg0 hy1 hgl,ZGB]at h;dsimp only at h;rw[Ztq _ _ (by omega),ZGB,Ztq _ _ (by omega),ZGB]at h;have hlen:=Zty (n:=x.natAbs) (by omega);rw[←h,ZrG,ZrG,Zoz,beq_eq_false_iff_ne.2 (by omega),cond_false,ZCI _ _ (by omega) (by omega) hx1 hy1,ZGB,ZAL _ _ hg0 hx1 hgl,ZGB];dsimp only;rw[ZAL _ _ hg0 hy1 hgl,ZGB];dsimp only;rw[Zzx _ (Zu6 _) (by omega),ZGB,Zzx _ (Zu6 _) (by omega),ZGB,ZsV,ZsV]
theorem ZBc (x y:Int) (hy:y≠0) (hx1:Wl 256 x) (hy1:Wl 256 y):ZqP (bg x) (bg y)=some (fOf (Rat.divInt x y),0):=by unfold ZqP Zq7;rw[Zw6,Zxb x hx1,ZGB,ZDq,cond_false,Zw6,Zxb y hy1,ZGB,ZDq,cond_false,Zyj hy,cond_false,Zz2 x y hy (ZGk hx1 (by decide)) (ZGk hy1 (by decide)),ZGB]
theorem ZDt (x y:Int) (hy:y≠0) (h1: -9223372036854775808≤x) (h2:x≤9223372036854775807) (h3: -9223372036854775808≤y) (h4:y≤9223372036854775807):Zry x y=some (fOf (Rat.divInt x y),0):=by unfold Zry;rw[Zxh x h1 h2,ZGB,Zxh y h3 h4,ZGB,ZBc x y hy (ZEY h1 h2) (ZEY h3 h4),ZGB]
theorem ZAq (x y:Int) (hy:y≠0) (h1: -9223372036854775808≤x) (h2:x≤9223372036854775807) (h3: -9223372036854775808≤y) (h4:y≤9223372036854775807):ZqK x y=some (fOf (Rat.divInt x y)):=by unfold ZqK;rw[ZDt x y hy h1 h2 h3 h4,ZGB]
theorem ZBj (x:Int) (h1: -9223372036854775808≤x) (h2:x≤9223372036854775807):Zrb x=some (fOf (x:Rat)):=by unfold Zrb;rw[ZAq x 1 (by decide) h1 h2 (by decide) (by decide),ZGB,ZxN]
theorem ZDg {a b:Nat} (h:wd a=wd b):a=b:=by rw[←ZsV a,←ZsV b,h]
theorem Zyu (x y:Int) (hx:Wl 100000 x) (hy:Wl 100000 y):Zpt (bg x) (bg y)=some (decide (x=y)):=by
 unfold Wl at hx hy;refine Zrx ?_;unfold Zpt Zqk;rw[Zxa,Zxa,ZrG,ZrG,Zoz,Zoz]
 by_cases hs:decide (x < 0)=decide (y < 0)
 ·rw[hs,beq_self_eq_true,ZDq,cond_false]
  by_cases hl:(wd x.natAbs).length=(wd y.natAbs).length
  ·rw[hl,bne_self_eq_false,cond_false,ZnD];refine ZnX (ZtC Zu7 (wd y.natAbs).length (by omega) (fun i (_:Unit)=>(iL (wd x.natAbs),((wd y.natAbs).length:Int),i,bg y)) (fun i _=>(wd x.natAbs).take i=(wd y.natAbs).take i)
    (Q:=fun r=>r= .ret false∧wd x.natAbs≠wd y.natAbs∨r= .brk ()∧wd x.natAbs=wd y.natAbs) () (by rw[List.take_zero,List.take_zero]) ?_ ?_) ?_
   ·rintro rec i ⟨⟩ hi hP ih;have hi2:i < (wd x.natAbs).length:=by omega
    unfold Zrf ZpT;dsimp only;rw[Zop];refine⟨fun _=> ?_,fun h=>by have:=of_decide_eq_false h;omega⟩;rw[ZrG,Ztx hi2,ZnD,ZnB,Ztx hi,ZnD,ZnB,Zop];refine⟨fun h=> ?_,fun h=> ?_⟩
    ·rw[ZnB];refine .inl ⟨rfl,fun e=> ?_⟩;have h1:(wd y.natAbs)[i]=(wd x.natAbs)[i]:=by simp only[e]
     rw[h1,bne_self_eq_false]at h;exact absurd h (by decide)
    ·rw[ZnH];refine⟨ZnK (by omega),ih () ?_⟩;rw[bne_eq_false_iff_eq]at h;have h1:(wd y.natAbs)[i]=(wd x.natAbs)[i]:=by omega
     rw[ZGb hi2,ZGb hi,hP,h1]
   ·rintro rec ⟨⟩ hP;unfold Zrf ZpT;dsimp only;rw[Zop];refine⟨fun h=>by have:=of_decide_eq_true h;omega,fun _=> ?_⟩;rw[ZnB];rw[ZGa,←hl,ZGa]at hP;exact .inr ⟨rfl,hP⟩
   ·rintro r (⟨rfl,h⟩ |⟨rfl,h⟩)
    ·exact ZnB.2 (decide_eq_false (fun e=>h (by rw[e]))).symm
    ·unfold ZrH;have h1:=ZDg h;refine ZnB.2 (decide_eq_true ?_).symm
     by_cases hy0:y < 0
     ·have hx0:x < 0:=by rw[decide_eq_true hy0]at hs;exact of_decide_eq_true hs
      omega
     ·have hx0:¬x < 0:=by rw[decide_eq_false hy0]at hs;exact of_decide_eq_false hs
      omega
  ·have:(((wd x.natAbs).length:Int) != ((wd y.natAbs).length:Int))=true:=by rw[bne_iff_ne];omega
   rw[this,cond_true,ZnB];exact(decide_eq_false (fun e=>hl (by rw[e]))).symm
 ·rw[beq_eq_false_iff_ne.2 hs,Bool.not_false,cond_true,cond_true,ZnB];exact(decide_eq_false (fun e=>hs (by rw[e]))).symm
theorem Zxo (p q:Rat) (hp:Wq 256 p) (hq:Wq 256 q):ZpU (fOf p) (fOf q)=some (decide (p=q)):=by
 have m:∀{x:Int},Wl 256 x→Wl 100000 x:=fun h=>ZGk h (by decide)
 unfold ZpU Zq6 fOf;dsimp only;rw[Zyu _ _ (m hp.1) (m hq.1),ZGB]
 by_cases h1:p.num=q.num
 ·rw[decide_eq_true h1,cond_true,Zyu _ _ (m hp.2) (m hq.2),ZGB];congr 1
  by_cases h2:p.den=q.den
  ·rw[decide_eq_true (by omega),decide_eq_true (Rat.ext h1 h2)]
  ·rw[decide_eq_false (by omega),decide_eq_false (fun e=>h2 (by rw[e]))]
 ·rw[decide_eq_false h1,cond_false,decide_eq_false (fun e=>h1 (by rw[e]))]
end Go.Proofs
namespace Go.Proofs
open Go Eng
section
variable {α:Type} (lt:α→α→Bool)
def ZBG (x:α):List α→List α
 | []=>[x]
 |p::r=>if lt x p then p::ZBG x r else x::p::r
def Zzn (x:α) (A:List α):List α:=(ZBG lt x A.reverse).reverse
def ZsT (l:List α):List α:=l.foldl (fun s x=>Zzn lt x s) []
variable {lt}
theorem ZBk (x:α):Zzn lt x []=[x]:=rfl
theorem ZAD (x p:α) (A:List α):Zzn lt x (A++[p])=if lt x p then Zzn lt x A++[p]else A++[p,x]:=by unfold Zzn;rw[List.reverse_append,List.reverse_singleton,ZF9,ZBG];split;rotate_left;simp;rw[List.reverse_cons]
theorem Zyg (x:α):∀l:List α,(ZBG lt x l).Perm (x::l)
 | []=> .refl _
 |p::r=>by
  unfold ZBG;split
  ·exact((Zyg x r).cons p).trans (.swap _ _ _)
  ·exact .refl _
theorem Zzg (x:α) (A:List α):(Zzn lt x A).Perm (A++[x]):=by unfold Zzn;refine(List.reverse_perm _).trans ((Zyg x _).trans ?_);refine(List.Perm.cons x (List.reverse_perm A)).trans ?_;exact(List.perm_append_singleton x A).symm
theorem Zz7 (l:List α) (x:α):ZsT lt (l++[x])=Zzn lt x (ZsT lt l):=by simp[ZsT]
theorem ZrY (l:List α):(ZsT lt l).Perm l:=by
 have key:∀(l s:List α),(l.foldl (fun s x=>Zzn lt x s) s).Perm (s++l):=by
  intro l
  induction l with
  |nil=>intro s;simp
  |cons x l ih=>
   intro s;refine(ih _).trans ?_;refine((Zzg x s).append_right l).trans ?_;simp
 simpa[ZsT]using key l []
theorem Zu3 (l:List α):(ZsT lt l).length=l.length:=(ZrY l).length_eq
theorem Zyf (P:α→Prop) (le:α→α→Prop) (hlt:∀x p,P x→P p→lt x p=true→le x p) (hnlt:∀x p,P x→P p→lt x p=false→le p x) (htr:∀a b c,P a→P b→P c→le a b→le b c→le a c)
  (x:α) (hx:P x):∀l:List α,(∀y∈l,P y)→l.Pairwise (fun a b=>le b a)→(ZBG lt x l).Pairwise (fun a b=>le b a)
 | [],_,_=>by simp[ZBG]
 |p::r,hP,h=>by
  have hp:=hP p (by simp);have hr:=ZF8.1 h;unfold ZBG;cases hc:lt x p with
  |true=>
   rw[if_pos rfl,ZF8];refine⟨fun y hy=> ?_,Zyf P le hlt hnlt htr x hx r (fun y hy=>hP y (by simp[hy])) hr.2⟩;rcases ZF6.1 ((Zyg x r).mem_iff.1 hy)with rfl |hy
   ·exact hlt _ _ hx hp hc
   ·exact hr.1 y hy
  |false=>
   rw[if_neg (by simp),ZF8];refine⟨fun y hy=> ?_,h⟩;have hxp:=hnlt x p hx hp hc;rcases ZF6.1 hy with rfl |hy
   ·exact hxp
   ·exact htr _ _ _ (hP y (by simp[hy])) hp hx (hr.1 y hy) hxp
theorem ZxT (P:α→Prop) (le:α→α→Prop) (hlt:∀x p,P x→P p→lt x p=true→le x p) (hnlt:∀x p,P x→P p→lt x p=false→le p x) (htr:∀a b c,P a→P b→P c→le a b→le b c→le a c)
  (l:List α) (hl:∀y∈l,P y):(ZsT lt l).Pairwise le:=by
 have key:∀(l s:List α),(∀y∈l,P y)→(∀y∈s,P y)→s.Pairwise le→(l.foldl (fun s x=>Zzn lt x s) s).Pairwise le:=by
  intro l
  induction l with
  |nil=>intro s _ _ h;exact h
  |cons x l ih=>
   intro s hl hs h;refine ih _ (fun y hy=>hl y (by simp[hy])) (fun y hy=> ?_) ?_
   ·rcases List.mem_append.1 ((Zzg x s).mem_iff.1 hy)with hy |hy
    ·exact hs y hy
    ·simp only[List.mem_singleton]at hy;subst hy;exact hl _ (by simp)
   ·unfold Zzn;rw[List.pairwise_reverse];exact Zyf P le hlt hnlt htr x (hl x (by simp)) s.reverse (fun y hy=>hs y (List.mem_reverse.1 hy)) (by rw[List.pairwise_reverse];exact h)
 exact key l [] hl (by simp) (by simp)
theorem Zx5 (P:α→Prop) (le:α→α→Prop) (hanti:∀a b,P a→P b→le a b→le b a→a=b):∀{l l':List α},(∀y∈l,P y)→l.Perm l'→l.Pairwise le→l'.Pairwise le→l=l'
 | [],l',_,hp,_,_=>(List.nil_perm.1 hp).symm
 |x::l,[],_,hp,_,_=>by have:=hp.length_eq;simp at this
 |x::l,y::l',hP,hp,h,h'=>by
  have hx:=ZF8.1 h;have hy:=ZF8.1 h';have hPy:P y:=hP y (hp.mem_iff.2 (by simp));have e:x=y:=by
   rcases ZF6.1 (hp.mem_iff.1 (List.mem_cons_self (a:=x) (l:=l)))with e |hxm
   ·exact e
   ·rcases ZF6.1 (hp.mem_iff.2 (List.mem_cons_self (a:=y) (l:=l')))with e |hym
    ·exact e.symm
    ·exact hanti x y (hP x (by simp)) hPy (hx.1 y hym) (hy.1 x hxm)
  subst e;rw[Zx5 P le hanti (fun z hz=>hP z (by simp[hz])) hp.cons_inv hx.2 hy.2]
end
theorem ZAm {α:Type} (A C:List α) (p x:α):((A++p::x::C).set (A.length+1) p).set A.length x=A++x::p::C:=by
 induction A with
 |nil=>rfl
 |cons a A ih=>simp only[List.cons_append,ZF1,List.set_cons_succ,ih]
end Go.Proofs
namespace Go.Proofs
open Go Eng
def ZFo (h:Int) (c:UInt8):Int:=IntKind.wrap .u64 ((xorK .u64 h (IntKind.wrap .u64 ((c.toNat:Nat):Int)))*1099511628211)
def ZxV (s:Str):Int:=s.foldl ZFo 14695981039346656037
theorem Zzw {s:Str} (hs:s.length≤1000000):Ztk s=some (ZxV s):=by
 refine Zrx ?_;unfold Ztk;rw[ZnD];refine ZnX (ZwT Zxg s (by omega) (fun i (h:Int)=>(s,h,(s.length:Int),i)) (fun k h=>h=ZxV (s.take k)) (Q:=fun x=>x=ZxV s) 14695981039346656037 rfl ?_ ?_) ?_
 ·rintro rec k h hk rfl ih;unfold ZuV ZtI;dsimp only;rw[decide_eq_true (show (k:Int) < (s.length:Int) by omega),cond_true,Zu4 hk,ZnD,ZnB,ZnH];refine⟨ZnK (by omega),ih _ ?_⟩;rw[ZGb hk];unfold ZxV;rw[List.foldl_append];rfl
 ·rintro rec h rfl;unfold ZuV ZtI;dsimp only;rw[decide_eq_false (show ¬(s.length:Int) < (s.length:Int) by omega),cond_false,ZnB,ZGa]
 ·rintro _ rfl;unfold ZvB;rw[ZnB]
theorem ZAN:∀a:List UInt8,Lib.compareBytes a a=0
 | []=>rfl
 |x::a=>by unfold Lib.compareBytes;rw[if_neg (UInt8.lt_irrefl x),if_neg (UInt8.lt_irrefl x),ZAN a]
theorem ZyR:∀{a b:List UInt8},Lib.compareBytes a b=0→a=b
 | [],[],_=>rfl
 | [],_::_,h=>by simp[Lib.compareBytes]at h
 |_::_,[],h=>by simp[Lib.compareBytes]at h
 |x::a,y::b,h=>by
  unfold Lib.compareBytes at h;split at h
  ·simp at h
  ·rename_i h1;split at h
   ·simp at h
   ·rename_i h2;have:x=y:=UInt8.le_antisymm (ZGD.1 h2) (ZGD.1 h1);rw[this,ZyR h]
theorem ZBK:∀a b:List UInt8,Lib.compareBytes b a= - Lib.compareBytes a b
 | [],[]=>by simp[Lib.compareBytes]
 | [],_::_=>by simp[Lib.compareBytes]
 |_::_,[]=>by simp[Lib.compareBytes]
 |x::a,y::b=>by
  unfold Lib.compareBytes
  by_cases h1:x < y
  ·rw[if_pos h1,if_neg (fun h=>UInt8.lt_asymm h1 h),if_pos h1];rfl
  ·by_cases h2:y < x
   ·rw[if_pos h2,if_neg h1,if_pos h2]
   ·rw[if_neg h1,if_neg h2,if_neg h2,if_neg h1,ZBK a b]
theorem ZzX:∀{a b c:List UInt8},Lib.compareBytes a b < 0→Lib.compareBytes b c < 0→Lib.compareBytes a c < 0
 | [],[],_,h,_=>by simp[Lib.compareBytes]at h
 | [],_::_,[],_,h=>by simp[Lib.compareBytes]at h
 | [],_::_,_::_,_,_=>by simp[Lib.compareBytes]
 |_::_,[],_,h,_=>by simp[Lib.compareBytes]at h
 |_::_,_::_,[],_,h=>by simp[Lib.compareBytes]at h
 |x::a,y::b,z::c,h1,h2=>by
  unfold Lib.compareBytes at h1 h2⊢
  by_cases hxy:x < y
  ·by_cases hyz:y < z
   ·rw[if_pos (UInt8.lt_trans hxy hyz)];decide
   ·rw[if_neg hyz]at h2
    by_cases hzy:z < y
    ·rw[if_pos hzy]at h2;simp at h2
    ·have:y=z:=UInt8.le_antisymm (ZGD.1 hzy) (ZGD.1 hyz);subst this;rw[if_pos hxy];decide
  ·rw[if_neg hxy]at h1
   by_cases hyx:y < x
   ·rw[if_pos hyx]at h1;simp at h1
   ·have:x=y:=UInt8.le_antisymm (ZGD.1 hyx) (ZGD.1 hxy);subst this;rw[if_neg (UInt8.lt_irrefl x)]at h1
    by_cases hyz:x < z
    ·rw[if_pos hyz];decide
    ·rw[if_neg hyz]at h2⊢
     by_cases hzy:z < x
     ·rw[if_pos hzy]at h2;simp at h2
     ·rw[if_neg hzy]at h2⊢
      exact ZzX h1 h2
def Ztf (a b:ZnA):Int:=if a.Hash < b.Hash then -1 else if a.Hash > b.Hash then 1 else Lib.compareBytes a.Key b.Key
theorem ZAs (a b:Int):Zvt [a,b]=some (if a≠0 then a else b):=by
 obtain⟨n,hn⟩:=Zxi 3 (by omega);have e0:idx [a,b] 0=some a:=rfl;have e1:idx [a,b] 1=some b:=rfl;have l:((([a,b]:List Int).length:Nat):Int)=2:=rfl;have s1:∀rec,Zro rec 0 [a,b] 2 0=if a≠0 then some (.ret a)else rec 0 [a,b] 2 1:=by
  intro rec;unfold Zro;rw[e0,show decide ((0:Int) < 2)=true from rfl,cond_true,ZGB]
  by_cases h:a=0
  ·rw[if_neg (by simp[h]),show (a != 0)=false by simp[h],cond_false];rfl
  ·rw[if_pos h,show (a != 0)=true by simpa using h,cond_true]
 have s2:∀rec,Zro rec 0 [a,b] 2 1=if b≠0 then some (.ret b)else rec 0 [a,b] 2 2:=by
  intro rec;unfold Zro;rw[e1,show decide ((1:Int) < 2)=true from rfl,cond_true,ZGB]
  by_cases h:b=0
  ·rw[if_neg (by simp[h]),show (b != 0)=false by simp[h],cond_false];rfl
  ·rw[if_pos h,show (b != 0)=true by simpa using h,cond_true]
 have s3:∀rec,Zro rec 0 [a,b] 2 2=some (.brk 0):=fun rec=>rfl
 have u:∀m t i,Zt9 (m+1) 0 [a,b] t i=Zro (Zt9 m) 0 [a,b] t i:=fun _ _ _=>rfl
 unfold Zvt Zv7;rw[hn,l,u (n+2),s1]
 by_cases h:a=0
 ·rw[if_neg (by simp[h]),if_neg (by simp[h]),u (n+1),s2]
  by_cases h2:b=0
  ·rw[if_neg (by simp[h2]),u n,s3,h2];rfl
  ·rw[if_pos h2];rfl
 ·rw[if_pos h,if_pos h];rfl
theorem Zu2 (a b:ZnA):Zor a b=some (Ztf a b):=by
 unfold Zor Zs1 Zsz Zue ZpJ Ztf;simp only[bne_self_eq_false,ZGB,cond_false]
 by_cases h1:a.Hash < b.Hash
 ·rw[decide_eq_true h1,cond_true,ZGB,ZAs,if_pos h1,if_pos (by decide)];rfl
 ·by_cases h2:a.Hash > b.Hash
  ·rw[decide_eq_false h1,cond_false,decide_eq_true h2,cond_true,ZGB,ZAs,if_neg h1,if_pos h2,if_pos (by decide)];rfl
  ·rw[decide_eq_false h1,cond_false,decide_eq_false h2,cond_false,ZGB,ZAs,if_neg h1,if_neg h2,if_neg (by decide)];rfl
def Zva (a:ZnA):Prop:=a.Hash=ZxV a.Key
def ltE (a b:ZnA):Bool:=decide (Ztf a b < 0)
theorem ZtM (a b:ZnA):Ztf b a= - Ztf a b:=by
 unfold Ztf
 by_cases h1:a.Hash < b.Hash
 ·rw[if_pos h1,if_neg (by omega),if_pos (by omega)];rfl
 ·by_cases h2:a.Hash > b.Hash
  ·rw[if_pos (show b.Hash < a.Hash from h2),if_neg h1,if_pos h2]
  ·rw[if_neg h1,if_neg h2,if_neg (by omega),if_neg (by omega),ZBK]
theorem ZwX {a b c:ZnA} (h1:Ztf a b < 0) (h2:Ztf b c < 0):Ztf a c < 0:=by
 unfold Ztf at*
 by_cases e1:a.Hash < b.Hash
 ·by_cases e2:b.Hash < c.Hash
  ·rw[if_pos (by omega)];decide
  ·rw[if_neg e2]at h2
   by_cases e3:b.Hash > c.Hash
   ·rw[if_pos e3]at h2;simp at h2
   ·rw[if_pos (by omega)];decide
 ·rw[if_neg e1]at h1
  by_cases e4:a.Hash > b.Hash
  ·rw[if_pos e4]at h1;simp at h1
  ·rw[if_neg e4]at h1
   by_cases e2:b.Hash < c.Hash
   ·rw[if_pos (by omega)];decide
   ·rw[if_neg e2]at h2
    by_cases e3:b.Hash > c.Hash
    ·rw[if_pos e3]at h2;simp at h2
    ·rw[if_neg e3]at h2;rw[if_neg (by omega),if_neg (by omega)];exact ZzX h1 h2
theorem Zv8 {a b:ZnA} (h:Ztf a b=0):a.Key=b.Key:=by
 unfold Ztf at h;split at h
 ·simp at h
 ·split at h
  ·simp at h
  ·exact ZyR h
theorem ZAr {a b:ZnA} (h:a.Key=b.Key) (ha:Zva a) (hb:Zva b):Ztf a b=0:=by
 have e:a.Hash=b.Hash:=by rw[ha,hb,h]
 unfold Ztf;rw[if_neg (by omega),if_neg (by omega),h,ZAN]
end Go.Proofs
namespace Go.Proofs
open Go Eng
abbrev En1:=ZnA
def Lo (d:List En1) (p:En1) (i:Nat):Prop:=∀k x,1≤k→k < i→d[k]? =some x→Ztf x p < 0
def Hi (d:List En1) (p:En1) (j:Nat):Prop:=∀k x,j < k→d[k]? =some x→¬Ztf x p < 0
def sw (d:List En1) (i j:Nat) (hi:i < d.length) (hj:j < d.length):List En1:=(d.set i d[j]).set j d[i]
theorem ZyI {d:List En1} {i j:Nat} (hi:i < d.length) (hj:j < d.length):(sw d i j hi hj).Perm d:=List.set_set_perm hi hj
theorem Zy2 {d:List En1} {i j:Nat} (hi:i < d.length) (hj:j < d.length):(sw d i j hi hj).length=d.length:=by unfold sw;rw[ZF3,ZF3]
theorem Zyr {d:List En1} {i j:Nat} (hi:i < d.length) (hj:j < d.length) (k:Nat) (hk:k < d.length):(sw d i j hi hj)[k]? =if k=j then some d[i]else if k=i then some d[j]else d[k]? :=by
 unfold sw;rw[List.getElem?_set,List.getElem?_set,ZF3]
 by_cases h1:j=k
 ·rw[if_pos h1,if_pos (by omega),if_pos h1.symm]
 ·rw[if_neg h1]
  by_cases h2:i=k
  ·rw[if_pos h2,if_pos (by omega),if_neg (show ¬k=j by omega),if_pos h2.symm]
  ·rw[if_neg h2,if_neg (show ¬k=j by omega),if_neg (show ¬k=i by omega)]
theorem ZDi {d:List En1} {p:En1} (h0:d[0]? =some p) (hn:d.length≤1000) {i j:Nat} (hi:1≤i) (hij:i≤j+1) (hj:j < d.length) (hA:Lo d p i):
  wp (Zn5 big 0 (i:Int) (j:Int) d) (fun x=>∃i':Nat,x=(0,(i':Int),(j:Int),d)∧i≤i'∧i'≤j+1∧Lo d p i'∧∀h:i'≤j,¬Ztf (d[i']'(by omega)) p < 0):=by
 have hp:d[0]'(by omega)=p:=(ZFY.1 h0).2;refine ZtO ZsN (fun i:Nat=>((0:Int),(i:Int),(j:Int),d)) (fun i'=>i≤i'∧i'≤j+1∧Lo d p i') (fun i'=>j+1 - i')
  (Q:=fun x=>∃i':Nat,x=(0,(i':Int),(j:Int),d)∧i≤i'∧i'≤j+1∧Lo d p i'∧∀h:i'≤j,¬Ztf (d[i']'(by omega)) p < 0) i ⟨ZGj _,hij,hA⟩ (by omega) ?_
 rintro rec i' ⟨h1,h2,h3⟩ ih;unfold Zqz Zo8 ZoJ;dsimp only
 by_cases hc:i'≤j
 ·have hi':i' < d.length:=by omega
  rw[decide_eq_true (show (i':Int)≤(j:Int) by omega),cond_true,ZnH,ZFS,ZFW hi',ZnD,ZnB,ZnH,show ((0:Int)).toNat=0 from rfl,h0,ZnD,ZnB,Zu2,ZnD,ZnB];refine⟨Zte hi',ZpF ⟨by omega,by omega⟩, ?_⟩
  by_cases ho:Ztf d[i'] p < 0
  ·rw[decide_eq_true ho,cond_true,ZnH];refine⟨ZnK (by omega),ih (i'+1) ⟨by omega,by omega,fun k x hk1 hk2 hx=> ?_⟩ (by omega)⟩
   by_cases e:k=i'
   ·subst e;rw[ZFW hi']at hx;rw[←ZGC hx];exact ho
   ·exact h3 k x hk1 (by omega) hx
  ·rw[decide_eq_false ho,cond_false,ZnB];exact⟨i',rfl,h1,h2,h3,fun _=>ho⟩
 ·rw[decide_eq_false (show ¬(i':Int)≤(j:Int) by omega),cond_false,cond_false,ZnB];exact⟨i',rfl,h1,h2,h3,fun h=>absurd h hc⟩
theorem ZDh {d:List En1} {p:En1} (h0:d[0]? =some p) (hn:d.length≤1000) {i j:Nat} (hi:1≤i) (hij:i≤j+1) (hj:j < d.length) (hA:Lo d p i):
  wp (Zn3 big 0 (i:Int) (j:Int) d) (fun x=>∃i':Nat,x=(0,(i':Int),(j:Int),d)∧i≤i'∧i'≤j+1∧Lo d p i'∧∀h:i'≤j,¬Ztf (d[i']'(by omega)) p < 0):=by
 have hp:d[0]'(by omega)=p:=(ZFY.1 h0).2;refine ZtO ZsK (fun i:Nat=>((0:Int),(i:Int),(j:Int),d)) (fun i'=>i≤i'∧i'≤j+1∧Lo d p i') (fun i'=>j+1 - i')
  (Q:=fun x=>∃i':Nat,x=(0,(i':Int),(j:Int),d)∧i≤i'∧i'≤j+1∧Lo d p i'∧∀h:i'≤j,¬Ztf (d[i']'(by omega)) p < 0) i ⟨ZGj _,hij,hA⟩ (by omega) ?_
 rintro rec i' ⟨h1,h2,h3⟩ ih;unfold Zqt Zo5 ZoH;dsimp only
 by_cases hc:i'≤j
 ·have hi':i' < d.length:=by omega
  rw[decide_eq_true (show (i':Int)≤(j:Int) by omega),cond_true,ZnH,ZFS,ZFW hi',ZnD,ZnB,ZnH,show ((0:Int)).toNat=0 from rfl,h0,ZnD,ZnB,Zu2,ZnD,ZnB];refine⟨Zte hi',ZpF ⟨by omega,by omega⟩, ?_⟩
  by_cases ho:Ztf d[i'] p < 0
  ·rw[decide_eq_true ho,cond_true,ZnH];refine⟨ZnK (by omega),ih (i'+1) ⟨by omega,by omega,fun k x hk1 hk2 hx=> ?_⟩ (by omega)⟩
   by_cases e:k=i'
   ·subst e;rw[ZFW hi']at hx;rw[←ZGC hx];exact ho
   ·exact h3 k x hk1 (by omega) hx
  ·rw[decide_eq_false ho,cond_false,ZnB];exact⟨i',rfl,h1,h2,h3,fun _=>ho⟩
 ·rw[decide_eq_false (show ¬(i':Int)≤(j:Int) by omega),cond_false,cond_false,ZnB];exact⟨i',rfl,h1,h2,h3,fun h=>absurd h hc⟩
theorem ZBo {d:List En1} {p:En1} (h0:d[0]? =some p) (hn:d.length≤1000) {i j:Nat} (hi:1≤i) (hij:i≤j+1) (hj:j < d.length) (hB:Hi d p j):
  wp (Zn4 big 0 (i:Int) (j:Int) d) (fun x=>∃j':Nat,x=(0,(i:Int),(j':Int),d)∧j'≤j∧i≤j'+1∧Hi d p j'∧∀h:i≤j',∀hl:j' < d.length,Ztf d[j'] p < 0):=by
 refine ZtO ZsM (fun j:Nat=>((0:Int),(i:Int),(j:Int),d)) (fun j'=>j'≤j∧i≤j'+1∧Hi d p j') (fun j'=>j')
  (Q:=fun x=>∃j':Nat,x=(0,(i:Int),(j':Int),d)∧j'≤j∧i≤j'+1∧Hi d p j'∧∀h:i≤j',∀hl:j' < d.length,Ztf d[j'] p < 0) j ⟨ZGj _,hij,hB⟩ (by omega) ?_
 rintro rec j' ⟨h1,h2,h3⟩ ih;unfold Zqx Zo7 ZoI;dsimp only
 by_cases hc:i≤j'
 ·have hj':j' < d.length:=by omega
  rw[decide_eq_true (show (i:Int)≤(j':Int) by omega),cond_true,ZnH,ZFS,ZFW hj',ZnD,ZnB,ZnH,show ((0:Int)).toNat=0 from rfl,h0,ZnD,ZnB,Zu2,ZnD,ZnB];refine⟨Zte hj',ZpF ⟨by omega,by omega⟩, ?_⟩
  by_cases ho:Ztf d[j'] p < 0
  ·rw[decide_eq_true ho,ZDq,cond_false,ZnB];exact⟨j',rfl,h1,h2,h3,fun _ _=>ho⟩
  ·rw[decide_eq_false ho,Bool.not_false,cond_true,ZnH,show (j':Int) - 1=((j' - 1:Nat):Int) by omega];refine⟨ZnK (by omega),ih (j' - 1) ⟨by omega,by omega,fun k x hk hx=> ?_⟩ (by omega)⟩
   by_cases e:k=j'
   ·subst e;rw[ZFW hj']at hx;rw[←ZGC hx];exact ho
   ·exact h3 k x (by omega) hx
 ·rw[decide_eq_false (show ¬(i:Int)≤(j':Int) by omega),cond_false,cond_false,ZnB];exact⟨j',rfl,h1,h2,h3,fun h=>absurd h hc⟩
theorem ZBn {d:List En1} {p:En1} (h0:d[0]? =some p) (hn:d.length≤1000) {i j:Nat} (hi:1≤i) (hij:i≤j+1) (hj:j < d.length) (hB:Hi d p j):
  wp (Zn2 big 0 (i:Int) (j:Int) d) (fun x=>∃j':Nat,x=(0,(i:Int),(j':Int),d)∧j'≤j∧i≤j'+1∧Hi d p j'∧∀h:i≤j',∀hl:j' < d.length,Ztf d[j'] p < 0):=by
 refine ZtO ZsJ (fun j:Nat=>((0:Int),(i:Int),(j:Int),d)) (fun j'=>j'≤j∧i≤j'+1∧Hi d p j') (fun j'=>j')
  (Q:=fun x=>∃j':Nat,x=(0,(i:Int),(j':Int),d)∧j'≤j∧i≤j'+1∧Hi d p j'∧∀h:i≤j',∀hl:j' < d.length,Ztf d[j'] p < 0) j ⟨ZGj _,hij,hB⟩ (by omega) ?_
 rintro rec j' ⟨h1,h2,h3⟩ ih;unfold Zqr Zo4 ZoG;dsimp only
 by_cases hc:i≤j'
 ·have hj':j' < d.length:=by omega
  rw[decide_eq_true (show (i:Int)≤(j':Int) by omega),cond_true,ZnH,ZFS,ZFW hj',ZnD,ZnB,ZnH,show ((0:Int)).toNat=0 from rfl,h0,ZnD,ZnB,Zu2,ZnD,ZnB];refine⟨Zte hj',ZpF ⟨by omega,by omega⟩, ?_⟩
  by_cases ho:Ztf d[j'] p < 0
  ·rw[decide_eq_true ho,ZDq,cond_false,ZnB];exact⟨j',rfl,h1,h2,h3,fun _ _=>ho⟩
  ·rw[decide_eq_false ho,Bool.not_false,cond_true,ZnH,show (j':Int) - 1=((j' - 1:Nat):Int) by omega];refine⟨ZnK (by omega),ih (j' - 1) ⟨by omega,by omega,fun k x hk hx=> ?_⟩ (by omega)⟩
   by_cases e:k=j'
   ·subst e;rw[ZFW hj']at hx;rw[←ZGC hx];exact ho
   ·exact h3 k x (by omega) hx
 ·rw[decide_eq_false (show ¬(i:Int)≤(j':Int) by omega),cond_false,cond_false,ZnB];exact⟨j',rfl,h1,h2,h3,fun h=>absurd h hc⟩
theorem ZzH {d:List En1} {p:En1} {i j:Nat} (h0:d[0]? =some p) (hi:1≤i) (hij:i < j) (hj:j < d.length) (hA:Lo d p i) (hB:Hi d p j) (h1:¬Ztf (d[i]'(by omega)) p < 0) (h2:Ztf d[j] p < 0):
  (sw d i j (by omega) hj)[0]? =some p∧Lo (sw d i j (by omega) hj) p (i+1)∧Hi (sw d i j (by omega) hj) p (j - 1):=by
 have hi':i < d.length:=by omega
 refine⟨?_,fun k x hk1 hk2 hx=> ?_,fun k x hk hx=> ?_⟩
 ·rw[Zyr hi' hj 0 (by omega),if_neg (by omega),if_neg (by omega),h0]
 ·rw[Zyr hi' hj k (by omega),if_neg (by omega)]at hx
  by_cases e:k=i
  ·rw[if_pos e]at hx;rw[←ZGC hx];exact h2
  ·rw[if_neg e]at hx;exact hA k x hk1 (by omega) hx
 ·have hkl:k < d.length:=by
   have:=(ZFY.1 hx).1
   rwa [Zy2]at this
  rw[Zyr hi' hj k hkl]at hx
  by_cases e:k=j
  ·rw[if_pos e]at hx;rw[←ZGC hx];exact h1
  ·rw[if_neg e,if_neg (by omega)]at hx;exact hB k x (by omega) hx
def ZBL (D:List En1) (x:Int×Bool×List En1):Prop:=∃L p R,x.2.2=L++p::R∧x.1=(L.length:Int)∧(∀y∈L,Ztf y p < 0)∧(∀y∈R,¬Ztf y p < 0)∧(L++p::R).Perm D
theorem Zy6 {D d:List En1} {p:En1} {j:Nat} (h0:d[0]? =some p) (hj:j < d.length) (hA:Lo d p (j+1)) (hB:Hi d p j) (hp:d.Perm D) (b:Bool):ZBL D ((j:Int),b,sw d j 0 hj (by omega)):=by
 have h00:0 < d.length:=by omega
 have hp0:d[0]=p:=(ZFY.1 h0).2;have hl:=Zy2 (d:=d) hj h00;have hgj:(sw d j 0 hj h00)[j]? =some p:=by
  rw[Zyr hj h00 j hj]
  by_cases e:j=0
  ·subst e;rw[if_pos rfl,hp0]
  ·rw[if_neg e,if_pos rfl,hp0]
 have hjl:j < (sw d j 0 hj h00).length:=by omega
 have hgj':(sw d j 0 hj h00)[j]=p:=(ZFY.1 hgj).2;have hsplit:sw d j 0 hj h00=(sw d j 0 hj h00).take j++p::(sw d j 0 hj h00).drop (j+1):=by
  conv=>lhs;rw[←List.take_append_drop j (sw d j 0 hj h00)]
  rw[List.drop_eq_getElem_cons hjl,hgj']
 refine⟨(sw d j 0 hj h00).take j,p,(sw d j 0 hj h00).drop (j+1),hsplit, ?_,fun y hy=> ?_,fun y hy=> ?_, ?_⟩
 ·rw[ZF5];show (j:Int)=_;omega
 ·obtain⟨k,hk,rfl⟩:=List.mem_take_iff_getElem.1 hy;have hk1:k < j:=by omega
  have hx:(sw d j 0 hj h00)[k]? =some (sw d j 0 hj h00)[k]:=ZFW (by omega);generalize (sw d j 0 hj h00)[k]=y at hx;rw[Zyr hj h00 k (by omega)]at hx
  by_cases e:k=0
  ·rw[if_pos e]at hx;exact hA j y (by omega) (by omega) (by rw[ZFW hj];exact hx)
  ·rw[if_neg e,if_neg (by omega)]at hx;exact hA k y (by omega) (by omega) hx
 ·obtain⟨k,hk,rfl⟩:=List.mem_drop_iff_getElem.1 hy;have hx:(sw d j 0 hj h00)[j+1+k]? =some (sw d j 0 hj h00)[j+1+k]:=ZFW (by omega);generalize (sw d j 0 hj h00)[j+1+k]=y at hx;rw[Zyr hj h00 _ (by omega),if_neg (by omega),if_neg (by omega)]at hx;exact hB _ y (by omega) hx
 ·rw[←hsplit];exact(ZyI hj h00).trans hp
theorem ZAp {D:List En1} (hn:D.length≤1000) {d0:List En1} {p:En1} {i0 j0:Nat} (h0:d0[0]? =some p) (hi:1≤i0) (hij:i0≤j0+1) (hj:j0 < d0.length) (hA:Lo d0 p i0) (hB:Hi d0 p j0) (hp:d0.Perm D):
  wp (ZnU big 0 (i0:Int) (j0:Int) d0) (fun x=>∃(j:Nat) (d:List En1),x=(0,(j:Int),d)∧d[0]? =some p∧j < d.length∧Lo d p (j+1)∧Hi d p j∧d.Perm D):=by
 refine ZtO ZsL (fun s:Nat×Nat×List En1=>((0:Int),(s.1:Int),(s.2.1:Int),s.2.2)) (fun s=>s.2.2[0]? =some p∧1≤s.1∧s.1≤s.2.1+1∧s.2.1 < s.2.2.length∧Lo s.2.2 p s.1∧Hi s.2.2 p s.2.1∧s.2.2.Perm D) (fun s=>s.2.1)
  (Q:=fun x=>∃(j:Nat) (d:List En1),x=(0,(j:Int),d)∧d[0]? =some p∧j < d.length∧Lo d p (j+1)∧Hi d p j∧d.Perm D) (i0,j0,d0) ⟨h0,hi,hij,hj,hA,hB,hp⟩ (by dsimp only;have:=hp.length_eq;omega) ?_
 rintro rec ⟨i,j,d⟩ ⟨h0,hi,hij,hj,hA,hB,hp⟩ ih;dsimp only at h0 hi hij hj hA hB hp ih;have hdn:d.length≤1000:=by rw[hp.length_eq];exact hn
 unfold Zqv Zo6 Zpl Zpk;dsimp only;rw[ZnD];refine ZnX (ZDh h0 hdn hi hij hj hA) ?_;rintro _ ⟨i',rfl,h1,h2,h3,h4⟩;dsimp only;rw[ZnD];refine ZnX (ZBn h0 hdn (by omega) h2 hj hB) ?_;rintro _ ⟨j',rfl,h5,h6,h7,h8⟩;dsimp only
 by_cases hc:i'≤j'
 ·have hi':i' < d.length:=by omega
  have hj':j' < d.length:=by omega
  have g1:=h4 (by omega);have g2:=h8 hc hj';have hlt:i' < j':=by
   rcases Nat.lt_or_eq_of_le hc with h |h
   ·exact h
   ·subst h;exact absurd g2 g1
  obtain⟨s0,sA,sB⟩:=ZzH h0 (by omega) hlt hj' h3 h7 g1 g2;rw[decide_eq_false (show ¬(i':Int) > (j':Int) by omega),cond_false,ZnH,ZFS,ZFS,ZFW hj',ZnD,ZnB,ZnH,ZFW hi',ZnD,ZnB,ZnH,ZnH,ZnH,ZnH];refine⟨Zte hj',Zte hi',Zte hi',ZpF ⟨by omega,by rw[ZF3];omega⟩,ZnK (by omega),ZnK (by omega), ?_⟩;have:=ih (i'+1,j' - 1,sw d i' j' hi' hj') ⟨s0,by dsimp only;omega,by dsimp only;omega,by dsimp only;rw[Zy2];omega,sA,sB,(ZyI hi' hj').trans hp⟩ (by dsimp only;omega);rw[show (((i'+1:Nat)):Int)=(i':Int)+1 by omega,show ((j' - 1:Nat):Int)=(j':Int) - 1 by omega]at this;exact this
 ·rw[decide_eq_true (show (i':Int) > (j':Int) by omega),cond_true,ZnB];exact⟨j',d,rfl,h0,by omega,by rw[show j'+1=i' by omega];exact h3,h7,hp⟩
theorem Zy5 {D:List En1} (hn:D.length≤1000) (h1:1≤D.length) {pv:Nat} (hpv:pv < D.length):
  wp (ZoP D 0 (D.length:Int) (pv:Int)) (ZBL D):=by
 have h00:0 < D.length:=by omega
 have e0:∀d:List En1,d.length=D.length→∀k,k < D.length→d[k]? =some (d.getD k default):=fun d hd k hk=>by rw[ZFV,ZFW (by omega)];rfl
 unfold ZoP;simp only[ZnH,show ((0:Int)).toNat=0 from rfl,ZFS];rw[ZFW hpv,ZFW h00];simp only[ZnD,ZnB,ZnH];have hd0:(D.set 0 D[pv]).set pv D[0]=sw D 0 pv h00 hpv:=rfl;rw[hd0];have hlen:=Zy2 (d:=D) h00 hpv;have hg0:∃p,(sw D 0 pv h00 hpv)[0]? =some p:=⟨_,ZFW (by omega)⟩;obtain⟨p,hg0⟩:=hg0;have hperm:=ZyI (d:=D) h00 hpv;generalize sw D 0 pv h00 hpv=d at hlen hg0 hperm;refine⟨ZpF ⟨by omega,by omega⟩,ZpF ⟨by omega,by omega⟩,ZpF ⟨by omega,by omega⟩,ZpF ⟨by omega,by rw[ZF3];omega⟩,ZnK (by omega),ZnK (by omega), ?_⟩;have hdn:d.length≤1000:=by omega
 have hA:Lo d p 1:=fun k x h1 h2=>by omega
 have hB:Hi d p (D.length - 1):=fun k x hk hx=>by have:=(ZFY.1 hx).1;omega
 have:=ZDi hg0 hdn (i:=1) (j:=D.length - 1) (by omega) (by omega) (by omega) hA;rw[show ((D.length - 1:Nat):Int)=(D.length:Int) - 1 by omega]at this;refine ZnX this ?_;rintro _ ⟨i',rfl,q1,q2,q3,q4⟩;dsimp only;unfold Zpn;rw[ZnD];have:=ZBo hg0 hdn (i:=i') (j:=D.length - 1) (by omega) (by omega) (by omega) hB;rw[show ((D.length - 1:Nat):Int)=(D.length:Int) - 1 by omega]at this;refine ZnX this ?_;rintro _ ⟨j',rfl,q5,q6,q7,q8⟩;dsimp only;unfold Zpm
 by_cases hc:i'≤j'
 ·have hi':i' < d.length:=by omega
  have hj':j' < d.length:=by omega
  have g1:=q4 (by omega);have g2:=q8 hc hj';have hlt:i' < j':=by
   rcases Nat.lt_or_eq_of_le hc with h |h
   ·exact h
   ·subst h;exact absurd g2 g1
  obtain⟨s0,sA,sB⟩:=ZzH hg0 (by omega) hlt hj' q3 q7 g1 g2;rw[decide_eq_false (show ¬(i':Int) > (j':Int) by omega),cond_false,ZnH,ZFS,ZFS,ZFW hj',ZnD,ZnB,ZnH,ZFW hi',ZnD,ZnB,ZnH,ZnH,ZnH,ZnH,ZnD];refine⟨Zte hj',Zte hi',Zte hi',ZpF ⟨by omega,by rw[ZF3];omega⟩,ZnK (by omega),ZnK (by omega), ?_⟩;have:=ZAp (D:=D) hn (d0:=sw d i' j' hi' hj') (i0:=i'+1) (j0:=j' - 1) s0 (by omega) (by omega) (by rw[Zy2];omega) sA sB ((ZyI hi' hj').trans hperm);rw[show (((i'+1:Nat)):Int)=(i':Int)+1 by omega,show ((j' - 1:Nat):Int)=(j':Int) - 1 by omega]at this;refine ZnX this ?_;rintro _ ⟨j,d2,rfl,r0,r1,r2,r3,r4⟩;unfold Zpj;dsimp only;have r00:0 < d2.length:=by omega
  rw[ZnH,show ((0:Int)).toNat=0 from rfl,ZFW r00,ZnD,ZnB,ZnH,ZFS,ZFW r1,ZnD,ZnB,ZnH,ZnH,ZnB];exact⟨ZpF ⟨by omega,by omega⟩,Zte r1,Zte r1,ZpF ⟨by omega,by rw[ZF3];omega⟩,Zy6 r0 r1 r2 r3 r4 false⟩
 ·have hj':j' < d.length:=by omega
  have h0d:0 < d.length:=by omega
  rw[decide_eq_true (show (i':Int) > (j':Int) by omega),cond_true,ZnH,show ((0:Int)).toNat=0 from rfl,ZFW h0d,ZnD,ZnB,ZnH,ZFS,ZFW hj',ZnD,ZnB,ZnH,ZnH,ZnB];exact⟨ZpF ⟨by omega,by omega⟩,Zte hj',Zte hj',ZpF ⟨by omega,by rw[ZF3];omega⟩,Zy6 hg0 hj' (by rw[show j'+1=i' by omega];exact q3) q7 hperm true⟩
end Go.Proofs
namespace Go.Proofs
open Go Eng
theorem Zz8 (Pre:List En1) (b i0:Int) {A0 C0:List En1} {x:En1} (hlen:(Pre++(A0++x::C0)).length≤1000):
  wp (ZnV big (Pre.length:Int) b i0 ((Pre.length+A0.length:Nat):Int) (Pre++(A0++x::C0))) (fun y=>y=((Pre.length:Int),b,i0,Pre++(Zzn ltE x A0++C0))):=by
 refine ZtO Zr6 (fun(s:List En1×List En1)=>((Pre.length:Int),b,i0,((Pre.length+s.1.length:Nat):Int),Pre++(s.1++x::s.2))) (fun s=>Zzn ltE x s.1++s.2=Zzn ltE x A0++C0∧(Pre++(s.1++x::s.2)).length≤1000) (fun s=>s.1.length)
  (Q:=fun y=>y=((Pre.length:Int),b,i0,Pre++(Zzn ltE x A0++C0))) (A0,C0) ⟨rfl,hlen⟩ (by dsimp only;simp only[ZF0]at hlen;omega) ?_
 rintro rec ⟨A,C⟩ ⟨hR,hl⟩ ih;dsimp only at hR hl ih⊢
 unfold ZpS ZoR Zol;dsimp only;rcases List.eq_nil_or_concat A with rfl |⟨A,p,rfl⟩
 ·rw[Zop];refine⟨fun h=>by simp at h,fun _=> ?_⟩;rw[cond_false,ZnB];rw[ZBk]at hR;rw[←hR];rfl
 ·rw[List.concat_eq_append]at*
  simp only[ZF0,ZF1,ZF2]at hl;have e0:Pre++((A++[p])++x::C)=(Pre++A)++p::x::C:=by simp
  have hla:(Pre++A).length=Pre.length+A.length:=ZF0;have ei:((Pre.length+(A++[p]).length:Nat):Int)=(((Pre++A).length+1:Nat):Int):=by rw[hla,ZF0,ZF4];omega
  have ej:((Pre.length+(A++[p]).length:Nat):Int) - 1=((Pre++A).length:Int):=by rw[ei];omega
  have g1:((Pre++A)++p::x::C)[(Pre++A).length+1]? =some x:=by rw[List.getElem?_append_right (by omega),show (Pre++A).length+1 - (Pre++A).length=1 by omega];rfl
  have g0:((Pre++A)++p::x::C)[(Pre++A).length]? =some p:=by rw[List.getElem?_append_right (by omega),Nat.sub_self];rfl
  rw[Zop];refine⟨fun _=> ?_,fun h=>by simp only[decide_eq_false_iff_not]at h;rw[ei,hla]at h;omega⟩;rw[ej,ei,e0];simp only[ZFS,g1,g0,ZGB];have ll:((Pre++A)++p::x::C).length=(Pre++A).length+2+C.length:=by rw[ZF0 (bs:=p::x::C)];simp only[ZF1];omega
  have lx:inR (((Pre++A).length+1:Nat):Int) (((Pre++A)++p::x::C).length:Int)=true:=ZpF ⟨by omega,by omega⟩;have lp:inR ((Pre++A).length:Int) (((Pre++A)++p::x::C).length:Int)=true:=ZpF ⟨by omega,by omega⟩;have lp':inR ((Pre++A).length:Int) ((((Pre++A)++p::x::C).set ((Pre++A).length+1) p).length:Int)=true:=by rw[ZF3];exact lp
  have ki:inK .i64 ((Pre++A).length:Int)=true:=ZnK (by omega);rw[lx,lp,lp',ki];simp only[chk_true];rw[Zu2,ZnD,ZnB];rw[ZAD]at hR;have hlt:ltE x p=decide (Ztf x p < 0):=rfl;rw[Zop];refine⟨fun hc=> ?_,fun hc=> ?_⟩
  ·rw[hlt,if_pos hc]at hR;rw[ZAm];have:=ih (A,p::C) ⟨by rw[←hR];simp,by simp only[ZF0,ZF1];omega⟩ (by simp);dsimp only at this;rw[←hla,←ZFT]at this;exact this
  ·rw[hlt,if_neg (by rw[hc];simp)]at hR;rw[ZnB,←hR];simp
theorem ZAE (Pre M Suf:List En1) (hl:(Pre++(M++Suf)).length≤1000):
  Zoa (Pre++(M++Suf)) (Pre.length:Int) ((Pre.length+M.length:Nat):Int)=some (Pre++(ZsT ltE M++Suf)):=by
 have hlen:Pre.length+M.length+Suf.length≤1000:=by simp only[ZF0]at hl;omega
 have key:Zox (Pre++(M++Suf)) (Pre.length:Int) ((Pre.length+M.length:Nat):Int)=some (Pre++(ZsT ltE M++Suf)):=by
  refine Zrx ?_;unfold Zox Zo1;rw[ZnH,ZnD];refine⟨ZnK (by omega), ?_⟩;have out:∀(k f:Nat),k+1≤M.length→M.length - (k+1) < f→wp (Zn7 f (Pre.length:Int) ((Pre.length+M.length:Nat):Int) ((Pre.length+(k+1):Nat):Int) (Pre++((ZsT ltE (M.take (k+1))++M.drop (k+1))++Suf))) (fun y=>y=Pre++(ZsT ltE M++Suf)):=by
   intro k f
   induction f generalizing k with
   |zero=>intro _ h;omega
   |succ f ih=>
    intro hk hf;show wp (Zn6 _ _ _ _ _) _;unfold Zn6 Zo2;rw[Zop];refine⟨fun hc=> ?_,fun hc=> ?_⟩
    ·simp only[decide_eq_true_eq]at hc;have hk2:k+1 < M.length:=by omega
     have hlen2:(ZsT ltE (M.take (k+1))).length=k+1:=by rw[Zu3,ZF5];omega
     have e:M.drop (k+1)=M[k+1]::M.drop (k+2):=List.drop_eq_getElem_cons hk2;rw[e];have:=Zz8 Pre ((Pre.length+M.length:Nat):Int) ((Pre.length+(k+1):Nat):Int) (A0:=ZsT ltE (M.take (k+1))) (C0:=M.drop (k+2)++Suf) (x:=M[k+1]) (by simp only[ZF0,ZF1,hlen2,List.length_drop];omega);rw[hlen2]at this;rw[ZnD,ZFT,List.cons_append];refine ZnX this ?_;rintro y rfl;dsimp only;rw[ZnH];refine⟨ZnK (by omega), ?_⟩;have e2:Zzn ltE M[k+1] (ZsT ltE (M.take (k+1)))=ZsT ltE (M.take (k+2)):=by rw[ZGb hk2,Zz7]
     rw[e2];have:=ih (k+1) (by omega) (by omega);rw[show ((Pre.length+(k+1):Nat):Int)+1=((Pre.length+(k+1+1):Nat):Int) by omega];rw[ZFT]at this;exact this
    ·simp only[decide_eq_false_iff_not]at hc;have:k+1=M.length:=by omega
     rw[ZnB,this,ZGa,List.drop_of_length_le (ZGj _),ZFU]
  by_cases h0:M.length=0
  ·have:M=[]:=List.eq_nil_of_length_eq_zero h0;subst this;obtain⟨n,hn⟩:=Zxi 1 (by omega);rw[hn];show wp (Zn6 _ _ _ _ _) _;unfold Zn6;rw[ZF2,decide_eq_false (by omega),cond_false,ZnB,ZnB];rfl
  ·have:=out 0 big (by omega) (by rw[big_eq];omega);have e:ZsT ltE (M.take (0+1))++M.drop (0+1)=M:=by
    cases M with
    |nil=>simp at h0
    |cons x M=>rfl
   rw[e]at this;rw[show ((Pre.length:Int))+1=((Pre.length+(0+1):Nat):Int) by omega];refine ZnX this ?_;rintro y rfl;rw[ZnB]
 unfold Zoa;rw[key,ZGB];have:(Pre++(ZsT ltE M++Suf)).length=(Pre++(M++Suf)).length:=by simp only[ZF0,Zu3]
 rw[this,decide_eq_true rfl];rfl
def Le (a b:En1):Prop:=Ztf a b≤0
theorem ZDr {a b:En1} (h:Ztf a b=0):a.Hash=b.Hash∧a.Key=b.Key:=by
 unfold Ztf at h;split at h
 ·simp at h
 ·split at h
  ·simp at h
  ·exact⟨by omega,ZyR h⟩
theorem ZBB {a b c:En1} (h:Ztf a b=0):Ztf a c=Ztf b c:=by obtain⟨h1,h2⟩:=ZDr h;unfold Ztf;rw[h1,h2]
theorem Le.trans {a b c:En1} (h1:Le a b) (h2:Le b c):Le a c:=by
 unfold Le at*
 by_cases e:Ztf a b=0
 ·rw[ZBB e];exact h2
 ·by_cases e2:Ztf b c=0
  ·have h3:=ZBB (a:=b) (b:=c) (c:=a) e2;have n1:=ZtM a c;have n2:=ZtM a b;omega
  ·have:=ZwX (show Ztf a b < 0 by omega) (show Ztf b c < 0 by omega);omega
theorem Zyc {a b:En1} (h:¬Ztf a b < 0):Le b a:=by have:=ZtM a b;unfold Le;omega
theorem Zxu (l:List En1):(ZsT ltE l).Pairwise Le:=
 ZxT (fun _=>True) Le (fun x p _ _ h=>by have:=of_decide_eq_true h;unfold Le;omega) (fun x p _ _ h=>Zyc (of_decide_eq_false h)) (fun a b c _ _ _ h1 h2=>h1.trans h2) l fun _ _=>trivial
def ZyT (d:List En1) (i:Nat):Prop:=∀k x y,k+1 < i→d[k]? =some x→d[k+1]? =some y→Le x y
theorem ZzZ {d:List En1} (h:ZyT d d.length):d.Pairwise Le:=by
 have key:∀(j i:Nat) (hij:i < j) (hj:j < d.length),Le (d[i]'(by omega)) d[j]:=by
  intro j
  induction j with
  |zero=>intro i h;omega
  |succ j ih=>
   intro i hij hj;have hs:=h j d[j] d[j+1] (by omega) (ZFW (by omega)) (ZFW hj);rcases Nat.lt_or_eq_of_le (Nat.le_of_lt_succ hij)with h1 |h1
   ·exact(ih i h1 (by omega)).trans hs
   ·subst h1;exact hs
 exact List.pairwise_iff_getElem.2 fun i j hi hj hij=>key j i hij hj
theorem Zz0 {d:List En1} (h1:1≤d.length) (hn:d.length < 50):
  wp (ZnY d 0 (d.length:Int)) (fun x=>x.2=d∧(x.1=true→d.Pairwise Le)):=by
 have key:wp (Zof d 0 (d.length:Int)) (fun x=>x.2=d∧(x.1=true→d.Pairwise Le)):=by
  unfold Zof;rw[ZnH,ZnD];refine⟨ZnK (by omega), ?_⟩;obtain⟨n,hbig⟩:=Zxi 1 (by omega);rw[hbig];show wp (Zou _ 0 (d.length:Int) 1 0 d) _;unfold Zou;rw[show decide ((0:Int) < 5)=true from rfl,cond_true,ZnD];refine ZnX (ZtO Zrt (fun i:Nat=>((0:Int),(d.length:Int),(i:Int),(0:Int),d)) (fun i=>1≤i∧i≤d.length∧ZyT d i) (fun i=>d.length - i)
   (Q:=fun x=>∃i:Nat,x=(0,(d.length:Int),(i:Int),0,d)∧i≤d.length∧ZyT d i) 1 ⟨by omega,h1,fun k x y hk=>by omega⟩ (by omega) ?_) ?_
  ·rintro rec i ⟨h2,h3,h4⟩ ih;unfold Zpp Zot Zob;dsimp only
   by_cases hc:i < d.length
   ·have hi1:i - 1 < d.length:=by omega
    rw[decide_eq_true (show (i:Int) < (d.length:Int) by omega),cond_true,ZnH,ZFS,ZFW hc,ZnD,ZnB,ZnH,show (i:Int) - 1=((i - 1:Nat):Int) by omega,ZnH,ZFS,ZFW hi1,ZnD,ZnB,Zu2,ZnD,ZnB];refine⟨Zte hc,ZnK (by omega),Zte hi1, ?_⟩
    by_cases ho:Ztf d[i] d[i - 1] < 0
    ·rw[decide_eq_true ho,ZDq,cond_false,ZnB];exact⟨i,rfl,h3,h4⟩
    ·rw[decide_eq_false ho,Bool.not_false,cond_true,ZnH];refine⟨ZnK (by omega),ih (i+1) ⟨by omega,by omega,fun k x y hk hx hy=> ?_⟩ (by omega)⟩
     by_cases e:k+1=i
     ·have ek:k=i - 1:=by omega
      subst ek;rw[ZFW hi1]at hx;rw[show i - 1+1=i by omega,ZFW hc]at hy;rw[←ZGC hx,←ZGC hy];exact Zyc ho
     ·exact h4 k x y (by omega) hx hy
   ·rw[decide_eq_false (show ¬(i:Int) < (d.length:Int) by omega),cond_false,cond_false,ZnB];exact⟨i,rfl,h3,h4⟩
  ·rintro _ ⟨i,rfl,h2,h3⟩;unfold ZoC;dsimp only
   by_cases e:i=d.length
   ·rw[show ((i:Int) == (d.length:Int))=true by rw[e];simp,cond_true,ZnB];dsimp only;rw[ZnB];exact⟨rfl,fun _=>ZzZ (e▸h3)⟩
   ·rw[show ((i:Int) == (d.length:Int))=false by rw[beq_eq_false_iff_ne];omega,cond_false,ZnH,decide_eq_true (show (d.length:Int) - 0 < 50 by omega),cond_true,ZnB];dsimp only;rw[ZnB];exact⟨ZnK (by omega),rfl,fun h=>by cases h⟩
 unfold ZnY;rw[ZnD];refine ZnX key ?_;rintro⟨b,x⟩ ⟨rfl,hx⟩;rw[ZnH,ZnB];exact⟨by simp,rfl,hx⟩
theorem Zya {d:List En1} {a b:Nat} (ha:a < d.length) (hb:b < d.length) (s:Nat) (hs:s≤100):
  wp (Zoc d (a:Int) (b:Int) (s:Int)) (fun x=>∃a' b' s':Nat,x=((a':Int),(b':Int),d,(s':Int))∧a' < d.length∧b' < d.length∧s'≤s+1):=by
 unfold Zoc ZpX;rw[ZnD,ZnH,ZFS,ZFW hb,ZnD,ZnB,ZnH,ZFS,ZFW ha,ZnD,ZnB,Zu2,ZnD,ZnB,Zop];refine⟨Zte hb,Zte ha,fun _=> ?_,fun _=> ?_⟩
 ·rw[ZnH,ZnB,ZnH,ZnB];exact⟨ZnK (by omega),by simp,b,a,s+1,rfl,hb,ha,ZGj _⟩
 ·rw[ZnB,ZnH,ZnB];exact⟨by simp,a,b,s,rfl,ha,hb,by omega⟩
theorem ZA9 {d:List En1} (h1:13=d.length):
  wp (Zoe d 0 (d.length:Int)) (fun x=>∃(pv:Nat) (h:Int),x=((pv:Int),h,d)∧pv < d.length∧h≠2):=by
 unfold Zoe Zpv Zow Zov ZoS ZpY;rw[←h1,ZnD];rw[show ((13:Nat):Int) - 0=13 from rfl,show Int.tdiv 13 4=3 from rfl,show decide ((13:Int)≥8)=true from rfl,show decide ((13:Int)≥50)=false from rfl,cond_true,cond_false,show (0:Int)+3*1=((3:Nat):Int)from rfl,show (0:Int)+3*2=((6:Nat):Int)from rfl,show (0:Int)+3*3=((9:Nat):Int)from rfl];simp only[ZnH];refine⟨rfl,rfl,rfl,rfl,rfl,rfl,rfl,rfl,rfl,rfl,rfl,rfl,rfl, ?_⟩;rw[ZnD,ZnD,ZnD];refine ZnX (Zya (d:=d) (a:=3) (b:=6) (by omega) (by omega) 0 (by omega)) ?_;rintro _ ⟨a1,b1,s1,rfl,q1,q2,q3⟩;dsimp only;rw[ZnD];refine ZnX (Zya (d:=d) (a:=b1) (b:=9) q2 (by omega) s1 (by omega)) ?_;rintro _ ⟨b2,c1,s2,rfl,q4,q5,q6⟩;dsimp only;rw[ZnD];refine ZnX (Zya (d:=d) (a:=a1) (b:=b2) q1 q4 s2 (by omega)) ?_;rintro _ ⟨a2,b3,s3,rfl,q7,q8,q9⟩;dsimp only;rw[ZnB];dsimp only;rw[ZnH,ZnB];dsimp only;refine⟨by simp[h1.symm], ?_⟩;rw[Zop];refine⟨fun _=> ?_,fun _=> ?_⟩
 ·rw[ZnB];dsimp only;refine⟨by simp[h1.symm], ?_⟩;rw[ZnB];exact⟨b3,1,rfl,h1▸q8,by decide⟩
 ·rw[show ((s3:Int) == 12)=false by rw[beq_eq_false_iff_ne];omega,cond_false,ZnB];dsimp only;refine⟨by simp[h1.symm], ?_⟩;rw[ZnB];exact⟨b3,0,rfl,h1▸q8,by decide⟩
def Zzy (D r:List En1):Prop:=r.Perm D∧r.Pairwise Le
theorem Zyv (Pre M Suf:List En1) (hl:(Pre++(M++Suf)).length≤1000) (hm:M.length≤12) (lim:Int):
  Zog (Pre++(M++Suf)) (Pre.length:Int) ((Pre.length+M.length:Nat):Int) lim=some (Pre++(ZsT ltE M++Suf)):=by
 have hlen:Pre.length+M.length+Suf.length≤1000:=by simp only[ZF0]at hl;omega
 obtain⟨k,hk⟩:=Zxi 1 (by omega);unfold Zog ZpB;rw[hk];show ((Zo3 _ _ _ _ _ _ _).bind _).bind _=_;unfold Zo3;rw[ZnK (by omega),chk_true,decide_eq_true (show ((Pre.length+M.length:Nat):Int) - (Pre.length:Int)≤12 by omega),cond_true,ZAE Pre M Suf hl,ZGB,ZGB];dsimp only;have:(Pre++(ZsT ltE M++Suf)).length=(Pre++(M++Suf)).length:=by simp only[ZF0,Zu3]
 rw[ZGB,this,decide_eq_true rfl];rfl
theorem Zx8 (rec_:Int→Int→Int→Bool→Bool→List En1→Option (Out Unit (List En1))) (Pre M Suf:List En1) (hl:(Pre++(M++Suf)).length≤1000) (hm:M.length≤12) (lim:Int) (x y:Bool):
  ZnN rec_ (Pre.length:Int) ((Pre.length+M.length:Nat):Int) lim x y (Pre++(M++Suf))=some (.ret (Pre++(ZsT ltE M++Suf))):=by
 have hlen:Pre.length+M.length+Suf.length≤1000:=by simp only[ZF0]at hl;omega
 unfold ZnN;rw[ZnK (by omega),chk_true,decide_eq_true (show ((Pre.length+M.length:Nat):Int) - (Pre.length:Int)≤12 by omega),cond_true,ZAE Pre M Suf hl,ZGB]
theorem Zy3 {D L R:List En1} {p:En1} (hL:∀y∈L,Ztf y p < 0) (hR:∀y∈R,¬Ztf y p < 0) (hp:(L++p::R).Perm D):Zzy D (ZsT ltE L++p::ZsT ltE R):=by
 have hl':∀y∈ZsT ltE L,Ztf y p < 0:=fun y hy=>hL y ((ZrY _).mem_iff.1 hy)
 have hr':∀y∈ZsT ltE R,Le p y:=fun y hy=>Zyc (hR y ((ZrY _).mem_iff.1 hy))
 refine⟨((ZrY L).append ((ZrY R).cons p)).trans hp, ?_⟩;rw[List.pairwise_append,ZF8];refine⟨Zxu L,⟨hr',Zxu R⟩,fun a ha b hb=> ?_⟩;have h1:Le a p:=Int.le_of_lt (hl' a ha);rcases ZF6.1 hb with rfl |hb
 ·exact h1
 ·exact h1.trans (hr' b hb)
theorem ZCg {D:List En1} (h13:D.length=13) (n:Nat) (lim:Int) (wb wq:Bool) {pv:Nat} (hpv:pv < D.length):
  wp (Zoh (ZnJ (n+1)) 0 13 lim wb wq 13 (pv:Int) false D) (fun x=>∃r,x= .ret r∧Zzy D r):=by
 unfold Zoh ZoK;have hpart:=Zy5 (D:=D) (by omega) (by omega) hpv;rw[h13,show ((13:Nat):Int)=13 from rfl]at hpart;rw[cond_false,ZnD,ZnD];refine ZnX hpart ?_;rintro⟨mid,ap,out⟩ ⟨L,p,R,ho,hm,hL,hR,hp⟩;dsimp only at ho hm⊢
 subst ho hm;have hlen:=hp.length_eq;rw[h13]at hlen;simp only[ZF0,ZF1]at hlen;have hs:=Zy3 hL hR hp;rw[ZnH,ZnB];refine⟨by simp only[ZF0,ZF1,h13];rw[Bool.and_true];exact decide_eq_true (by omega), ?_⟩;dsimp only;rw[ZnH,ZnH,ZnH,ZnH,Zop];refine⟨ZnK (by omega),ZnK (by omega),rfl,rfl,fun hc=> ?_,fun hc=> ?_⟩
 ·have e1:=Zyv [] L (p::R) (by simp only[ZF7,ZF0,ZF1];omega) (by have:=of_decide_eq_true hc;omega) lim;rw[ZF7,ZF2,ZGA,ZF7,show ((0:Nat):Int)=0 from rfl]at e1;have e2:=Zx8 (ZnJ n) (ZsT ltE L++[p]) R [] (by simp only[ZF0,Zu3,ZF4,ZF2];omega) (by omega) lim (decide ((L.length:Int) - 0≥Int.tdiv 13 8)) ap;have el:(ZsT ltE L++[p]).length=L.length+1:=by rw[ZF0,Zu3,ZF4]
  rw[el,ZFU,ZFU,ZFT,ZFT,ZF9,ZF9,show ((L.length+1+R.length:Nat):Int)=13 by omega,show ((L.length+1:Nat):Int)=(L.length:Int)+1 by omega]at e2;rw[e1,ZnD,ZnB,ZnH];refine⟨ZnK (by omega), ?_⟩;show wp (ZnN _ _ _ _ _ _ _) _;rw[e2,ZnB];exact⟨_,rfl,hs⟩
 ·have hc':=of_decide_eq_false hc;have e1:=Zyv (L++[p]) R [] (by simp only[ZF0,ZF4,ZF2];omega) (by omega) lim;have el:(L++[p]).length=L.length+1:=by rw[ZF0,ZF4]
  rw[el,ZFU,ZFU,ZFT,ZFT,ZF9,ZF9,show ((L.length+1+R.length:Nat):Int)=13 by omega,show ((L.length+1:Nat):Int)=(L.length:Int)+1 by omega]at e1;have e2:=Zx8 (ZnJ n) [] L (p::ZsT ltE R) (by simp only[ZF7,ZF0,ZF1,Zu3];omega) (by omega) lim (decide ((13:Int) - (L.length:Int)≥Int.tdiv 13 8)) ap;rw[ZF7,ZF2,ZGA,ZF7,show ((0:Nat):Int)=0 from rfl]at e2;rw[ZnH,e1,ZnD,ZnB];refine⟨ZnK (by omega), ?_⟩;show wp (ZnN _ _ _ _ _ _ _) _;rw[e2,ZnB];exact⟨_,rfl,hs⟩
theorem ZBa {D:List En1} (h13:D.length=13) {lim:Int} (hlim:lim≠0):wp (Zn8 D 0 (D.length:Int) lim) (Zzy D):=by
 obtain⟨k,hk⟩:=Zxi 2 (by omega);unfold Zn8 Zo0;rw[hk,ZnD,ZnD];show wp (ZnN (ZnJ (k+1)) _ _ _ _ _ _) _;have j2:∀{pv:Nat},pv < D.length→wp (Zoi (ZnJ (k+1)) 0 13 lim true true 13 (pv:Int) D) (fun x=>∃r,x= .ret r∧Zzy D r):=by intro pv hpv;unfold Zoi;rw[show decide ((0:Int) > 0)=false from rfl,cond_false];exact ZCg h13 k lim true true hpv
 have main:wp (ZnN (ZnJ (k+1)) 0 (D.length:Int) lim true true D) (fun x=>∃r,x= .ret r∧Zzy D r):=by
  unfold ZnN;have hpiv:=ZA9 (d:=D) h13.symm;rw[h13,show ((13:Nat):Int)=13 from rfl]at hpiv⊢
  rw[ZnH,show (13:Int) - 0=13 from rfl,show decide ((13:Int)≤12)=false from rfl,cond_false,show (lim == 0)=false by simpa using hlim,cond_false,ZDq,cond_false,ZnD];refine⟨rfl,ZnX hpiv ?_⟩;rintro _ ⟨pv,h,rfl,hpv,hh⟩;dsimp only;rw[show (h == 2)=false by simpa using hh,cond_false,cond_true,cond_true];unfold Zoj;rw[Zop];refine⟨fun _=> ?_,fun _=>j2 (by omega)⟩;have hpart:=Zz0 (d:=D) (by omega) (by omega);rw[h13,show ((13:Nat):Int)=13 from rfl]at hpart;rw[ZnD];refine ZnX hpart ?_;rintro⟨b,x⟩ ⟨hx,hb⟩;dsimp only at hx hb⊢
  subst hx;rw[Zop];refine⟨fun h=> ?_,fun _=>j2 (by omega)⟩;rw[ZnB];exact⟨_,rfl,.refl _,hb h⟩
 refine ZnX main ?_;rintro _ ⟨r,rfl,hr⟩;dsimp only;rw[ZnB,ZnH,ZnB];exact⟨by rw[hr.1.length_eq];simp,hr⟩
theorem ZFi:((List.range 14).all fun n:Nat=>match ZuW (IntKind.wrap .u64 (n:Int))with |some m=>decide (n≤12∨m≠0) |none=>false)=true:=by kernel_rfl
theorem ZAi {D:List En1} (hl:D.length≤13):wp (ZnT D) (Zzy D):=by
 have h2:=List.all_eq_true.1 ZFi D.length (List.mem_range.2 (by omega));split at h2;rotate_left;simp at h2;rename_i m hm;have h3:=of_decide_eq_true h2;have key:wp (Zn8 D 0 (D.length:Int) m) (Zzy D):=by
  by_cases h12:D.length≤12
  ·obtain⟨k,hk⟩:=Zxi 1 (by omega);unfold Zn8 Zo0;rw[hk];have e:=Zx8 (ZnJ k) [] D [] (by simp only[ZF7,ZFU];omega) h12 m true true;rw[ZF7,ZF2,ZGA,ZF7,ZFU,ZFU,show ((0:Nat):Int)=0 from rfl]at e;show wp (((ZnN (ZnJ k) 0 (D.length:Int) m true true D).bind _).bind _) _;rw[e,ZGB];dsimp only;rw[ZGB,Zu3,decide_eq_true rfl];exact⟨_,rfl,ZrY _,Zxu _⟩
  ·exact ZBa (by omega) (h3.resolve_left h12)
 unfold ZnT ZoW;rw[hm,ZGB,ZnD,ZnD];refine ZnX key fun r hr=> ?_
 rw[ZnB,ZnH,ZnB];exact⟨by rw[hr.1.length_eq];simp,hr⟩
end Go.Proofs
