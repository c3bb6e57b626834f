/- Plain laws over the specs, part 1. -/
import Derived.Test.YtamebpdbedglkaaGreatDoorSxM0
set_option linter.unusedVariables false
set_option linter.unusedSimpArgs false
set_option linter.unusedSectionVars false
open Bool renaming not_true→ZEU
open Int renaming toNat_natCast→ZHG, natAbs_natCast→ZHE, natAbs_mul→ZHD, natCast_add→ZHF
open List renaming getElem?_eq_getElem→ZHI, getD_eq_getElem?_getD→ZHH, length_set→ZHM, mem_cons→ZHP, take_length→ZHR, getElem?_eq_some_iff→ZHK, length_singleton→ZHN, getElem?_eq_none→ZHJ, take_of_length_le→ZHS, pairwise_cons→ZHQ, length_take→ZHO, getElem_cons_drop→ZHL, take_succ_eq_append_getElem→ZHT
open Nat renaming le_trans→ZH2, pow_succ→ZIg, gcd→ZHZ, mul_add→ZH8, mul_assoc→ZH9, le_refl→ZH1, mod_lt→ZH7, pow_zero→ZIh, lt_of_le_of_lt→ZH3, mul_comm→ZIa, pow_le_pow_right→ZIf, div_le_self→ZHY, one_mul→ZIc, pow_add→ZIe, le_of_lt→ZH0, two_pow_pos→ZIj, mul_left_comm→ZIb, pos_of_ne_zero→ZId, lt_or_ge→ZH5, lt_of_lt_of_le→ZH4, min_eq_left→ZH6, div_add_mod→ZHW, add_mul_div_left→ZHU, div_eq_of_lt→ZHX, add_mul_mod_self_left→ZHV, two_pow_add_eq_or_of_lt→ZIi
open Option renaming bind_some→ZIk, some.inj→ZIl
open UInt8 renaming not_lt→ZIm
namespace Go.Proofs
open Go Eng
def Sz (k:Nat) (q:Rat):Prop:=q.num.natAbs < 2 ^ k∧q.den < 2 ^ k
theorem Sz.mono {k l:Nat} {q:Rat} (h:Sz k q) (hl:k≤l):Sz l q:=⟨ZH4 h.1 (ZIf (by decide) hl),ZH4 h.2 (ZIf (by decide) hl)⟩
theorem ZBI {n k:Nat} (h:n < 2 ^ k) (m:Nat) (hk:k≤32*m):(wd n).length≤m:=by refine ZwL (ZH4 h ?_);rw[show Bw=2 ^ 32 from rfl,←Nat.pow_mul];exact ZIf (by decide) hk
theorem Sz.wq {k:Nat} {q:Rat} (h:Sz k q) (hk:k≤8192):Wq 256 q:=⟨ZBI h.1 256 (by omega),ZBI (n:=(q.den:Int).natAbs) (by rw[ZHE];exact h.2) 256 (by omega)⟩
theorem Zzx {x y:Int} {k:Nat} (hy:y≠0) (h1:x.natAbs < 2 ^ k) (h2:y.natAbs < 2 ^ k):Sz k (Rat.divInt x y):=by
 unfold Sz;rw[Rat.num_divInt,Rat.den_divInt,if_neg hy];refine⟨ZH3 ?_ h1,ZH3 (ZHY _ _) h2⟩;have hd:((Int.gcd y x:Nat):Int)∣y.sign*x:=Int.dvd_trans (Int.gcd_dvd_right y x) (Int.dvd_mul_left _ _);rw[Int.natAbs_ediv_of_dvd hd,ZHD];refine ZH2 (ZHY _ _) ?_;have:y.sign.natAbs=1:=by rw[Int.natAbs_sign_of_ne_zero hy]
 rw[this,ZIc];exact ZH1 _
theorem Zzd {x y k l:Nat} (hx:x < 2 ^ k) (hy:y < 2 ^ l):x*y < 2 ^ (k+l):=by rw[ZIe];exact Nat.mul_lt_mul_of_lt_of_le hx (ZH0 hy) (ZIj _)
theorem ZyF (a b:Rat):Rat.divInt (a.num*(b.den:Int)+b.num*(a.den:Int)) ((a.den:Int)*(b.den:Int))=a+b:=by have h1:=a.den_nz;have h2:=b.den_nz;rw[←Rat.divInt_add_divInt _ _ (by omega) (by omega),Rat.num_divInt_den,Rat.num_divInt_den]
theorem Sz.add {a b:Rat} {k l:Nat} (ha:Sz k a) (hb:Sz l b):Sz (k+l+1) (a+b):=by
 rw[←ZyF];have h1:=a.den_nz;have h2:=b.den_nz;have q1:=Zzd ha.1 hb.2;have q2:=Zzd ha.2 hb.1;have q3:=Zzd ha.2 hb.2;have hp:=ZIj (k+l);refine Zzx (Int.mul_ne_zero (by omega) (by omega)) ?_ ?_
 ·rw[ZIg];refine ZH3 (Int.natAbs_add_le _ _) ?_;rw[ZHD,ZHD,ZHE,ZHE,ZIa b.num.natAbs];omega
 ·rw[ZIg,ZHD,ZHE,ZHE];omega
theorem ZEM {q:Rat} (h:Wq 256 q):decide ((if ((fOf q).Den.Words.length:Int) > ((fOf q).Num.Words.length:Int)then ((fOf q).Den.Words.length:Int)else ((fOf q).Num.Words.length:Int)) > 256)=false:=by have h1:=h.1;have h2:=h.2;unfold Wl at h1 h2;refine decide_eq_false ?_;unfold fOf;rw[Zp2,Zp2,Zoc,Zoc];split<;>omega
theorem Zy6 {y:Int} (hy:y≠0):(((bg y).Words.length:Int) == 0)=false:=by have:=Zuu (n:=y.natAbs) (by omega);rw[Zp2,Zoc];exact beq_eq_false_iff_ne.2 (by omega)
theorem ZFw {a b:Rat} {k l:Nat} (ha:Sz k a) (hb:Sz l b) (hk:k+l+1≤8192):Zwc (fOf a) (fOf b)=some (fOf (a+b),0):=by
 have h1:=a.den_nz;have h2:=b.den_nz;have qa:=ha.wq (by omega);have qb:=hb.wq (by omega);have w:∀{x y:Int},Wl 256 x→Wl 256 y→Wl 512 (x*y):=fun hx hy=>by unfold Wl;rw[ZHD];exact ZA2 hx hy
 have m:∀{n:Nat} {x:Int},Wl n x→n≤50000→Wl 50000 x:=fun h h'=>ZH2 h h'
 have w1:=w qa.1 qb.2;have w2:=w qb.1 qa.2;have w3:=w qa.2 qb.2;have w4:Wl 513 (a.num*(b.den:Int)+b.num*(a.den:Int)):=ZH2 (ZsI (Int.natAbs_add_le _ _)) (ZAt w1 w2);have hd:(a.den:Int)*(b.den:Int)≠0:=Int.mul_ne_zero (by omega) (by omega);unfold Zwc ZrE;rw[ZAc a qa,ZIk,ZEU,cond_false,ZAc b qb,ZIk,ZEU];unfold Zqo Zww;rw[cond_false];show ((((Zpq (bg a.num) (bg (b.den:Int))).bind fun q=>(Zpq (bg b.num) (bg (a.den:Int))).bind fun q_1=>(Zu0 q q_1).bind fun num=>(Zpq (bg (a.den:Int)) (bg (b.den:Int))).bind fun den=>some (num,den)).bind _).bind _)=_;rw[Zza _ _ (m qa.1 (by omega)) (m qb.2 (by omega)),ZIk,Zza _ _ (m qb.1 (by omega)) (m qa.2 (by omega)),ZIk,ZEK _ _ (m w1 (by omega)) (m w2 (by omega)),ZIk,Zza _ _ (m qa.2 (by omega)) (m qb.2 (by omega)),ZIk,ZIk];dsimp only;rw[Zy6 hd,cond_false,ZyE _ _ hd (m w4 (by omega)) (m w3 (by omega)),ZIk,ZyF,ZEM ((ha.add hb).wq hk),cond_false,ZIk]
end Go.Proofs
namespace Go.Proofs
open Go Eng
theorem Sz.neg {q:Rat} {k:Nat} (h:Sz k q):Sz k (-q):=by show (-q.num).natAbs < 2 ^ k∧q.den < 2 ^ k;rw[Int.natAbs_neg];exact h
theorem ZBW {a b:Rat} {k l:Nat} (ha:Sz k a) (hb:Sz l b) (hk:k+l+1≤8192):Zyt (fOf a) (fOf b)=some (fOf (a+b)):=by unfold Zyt Zye;rw[ZFw ha hb hk];rfl
theorem ZDW (x y:Int) (hy:y≠0) (hx1:Wl 256 x) (hy1:Wl 256 y):Zvy (bg x) (bg y)=some (fOf (Rat.divInt x y),0):=by
 have hb:=ZCf [x,y] (by simp) (fun z hz=>by
  simp only[ZHP,List.not_mem_nil,or_false]at hz;rcases hz with rfl |rfl
  ·exact hx1
  ·exact hy1)
 unfold Zvy;rw[show ([bg x,bg y]:List ZnF)=[x,y].map bg from rfl,hb,ZIk,ZEU,cond_false,Zy6 hy,cond_false,ZyE _ _ hy (ZH2 hx1 (by decide)) (ZH2 hy1 (by decide)),ZIk]
theorem ZGp {z:Int} (h1: -9223372036854775808≤z) (h2:z≤9223372036854775807):Wl 256 z:=ZH2 (ZDX (by omega)) (by decide)
theorem ZGQ (x y:Int) (hy:y≠0) (h1: -9223372036854775808≤x) (h2:x≤9223372036854775807) (h3: -9223372036854775808≤y) (h4:y≤9223372036854775807):Zwx x y=some (fOf (Rat.divInt x y),0):=by unfold Zwx;rw[Zz8 x h1 h2,ZIk,Zz8 y h3 h4,ZIk,ZDW x y hy (ZGp h1 h2) (ZGp h3 h4),ZIk]
theorem ZAQ:Zxw=some (fOf 0):=by unfold Zxw;rw[ZGQ 0 1 (by decide) (by decide) (by decide) (by decide) (by decide),ZIk,Rat.zero_divInt]
theorem ZDH:Sz 1 0:=by unfold Sz;decide
end Go.Proofs
namespace Go.Proofs
open Go Eng
theorem ZA7:∀n w,ZoY n w=ZpA n w
 |0,_=>rfl
 |n+1,w=>by have:ZoY n=ZpA n:=funext (ZA7 n);show Zu7 (ZoY n) w=ZsY (ZpA n) w;rw[this];rfl
theorem ZBp (w:List Int):Zoi w=Zor w:=by unfold Zoi Zor;rw[ZA7];rfl
theorem ZyD {l:List Nat} (h:Dg l) (hl:l.length≤1000000):Zoi (iL l)=some (iL (wd (val l))):=by rw[ZBp,Zyb h hl]
theorem ZyS (neg:Bool) {l:List Nat} (h:Dg l) (hl:l.length≤1000000):Zn6 neg (iL l)=some (bg (if neg then -(val l:Int)else val l)):=by
 unfold Zn6 Zsh;rw[ZyD h hl,ZIk,Zoc];unfold bg;cases neg with
 |true=>
  rw[cond_true,if_pos rfl,Int.natAbs_neg,ZHE];congr 2
  by_cases h0:val l=0
  ·rw[h0,Zu1];rfl
  ·have:=Zuu h0;rw[decide_eq_true (by omega),decide_eq_true (by omega)]
 |false=>rw[cond_false,if_neg (by decide),ZHE,decide_eq_false (by omega)]
theorem ZwK (a:ZnF):ZoR a=Zr8 a:=rfl
end Go.Proofs
namespace Go.Proofs
open Go Eng
theorem ZzO (a b:Nat) (ha:(wd a).length≤100000) (hb:(wd b).length≤100000):ZoB (iL (wd a)) (iL (wd b))=some (Zz3 a b):=by
 refine Zso ?_;unfold ZoB;rw[Zoc,Zoc,Zoh];refine⟨fun h=> ?_,fun h=> ?_⟩
 ·have hne:(wd a).length≠(wd b).length:=fun e=>by rw[e]at h;simp at h
  rw[Zoh];refine⟨fun h=> ?_,fun h=> ?_⟩
  ·have h1:(wd a).length < (wd b).length:=by have:=of_decide_eq_true h;omega
   rw[ZnE,ZwH (Zz5 h1)]
  ·have h1:(wd b).length < (wd a).length:=by have:=of_decide_eq_false h;omega
   rw[ZnE,Zwz (Zz5 h1)]
 ·have hl:(wd a).length=(wd b).length:=by simp only[bne_eq_false_iff_eq]at h;omega
  rw[ZnJ,ZnG];refine⟨ZnL (by omega), ?_⟩;refine ZnV (Zy5 Zxp (wd a).length (by omega) (fun i (s:Unit)=>(iL (wd a),iL (wd b),i)) (fun k _=>(wd a).drop k=(wd b).drop k)
   (Q:=fun r=>r= .ret (Zz3 a b)∨r= .brk ()∧a=b) () (by rw[List.drop_length,hl,List.drop_length]) ?_ ?_) ?_
  ·rintro rec k ⟨⟩ hk hP ih;have hk2:k < (wd b).length:=by omega
   unfold Ztb Zrl;dsimp only;rw[Zoh];refine⟨fun _=> ?_,fun h=>by have:=of_decide_eq_false h;omega⟩;have ha:=Zxy hk;have hb:=Zxy hk2;rw[Zsp]at ha hb;have la:val ((wd a).take k) < Bw ^ k:=by have:=ZvM ((Zu2 a).take k);rwa [ZHO,ZH6 (by omega)]at this
   have lb:val ((wd b).take k) < Bw ^ k:=by have:=ZvM ((Zu2 b).take k);rwa [ZHO,ZH6 (by omega)]at this
   rw[ZtW hk,ZnG,ZnE,ZtW hk2,ZnG,ZnE,Zoh];refine⟨fun hc=> ?_,fun hc=> ?_⟩
   ·have h1:(wd a)[k] < (wd b)[k]:=by have:=of_decide_eq_true hc;omega
    have:a < b:=by rw[ha,hb,hP];exact ZAd (A:=0) (B:=0) la (by omega)
    rw[ZnE];exact .inl (by rw[ZwH this])
   ·rw[ZnG,ZnE,ZnG,ZnE,Zoh];refine⟨fun hc2=> ?_,fun hc2=> ?_⟩
    ·have h1:(wd b)[k] < (wd a)[k]:=by have:=of_decide_eq_true hc2;omega
     have:b < a:=by rw[ha,hb,hP];exact ZAd (A:=0) (B:=0) lb (by omega)
     rw[ZnE];exact .inl (by rw[Zwz this])
    ·rw[ZnJ];refine⟨ZnL (by omega),ih () ?_⟩;have h1:(wd a)[k]=(wd b)[k]:=by have q1:=of_decide_eq_false hc;have q2:=of_decide_eq_false hc2;omega
     rw[←ZHL (h:=hk),←ZHL (h:=hk2),h1,hP]
  ·rintro rec ⟨⟩ hP;unfold Ztb Zrl;dsimp only;rw[Zoh];refine⟨fun h=>by have:=of_decide_eq_true h;omega,fun _=> ?_⟩;rw[ZnE];rw[List.drop_zero,List.drop_zero]at hP;exact .inr ⟨rfl,by rw[←Zsp a,←Zsp b,hP]⟩
  ·rintro r (rfl |⟨rfl,rfl⟩)
   ·exact ZnE.2 rfl
   ·unfold Zua;exact ZnE.2 (ZvE a).symm
theorem ZAV {a:Nat} (k:Nat) (hk:k≤32):shlK .u32 (a:Int) (k:Int)=((a*2 ^ k % 4294967296:Nat):Int):=by
 unfold shlK;rw[ZHG,show IntKind.bits .u32=32 from rfl,ZH6 (by omega)];have e:(a:Int)*(2:Int) ^ k=((a*2 ^ k:Nat):Int):=by push_cast;rfl
 rw[e,Zut]
theorem ZA6 (a d:Nat) (hd:d≤1) (ha:(wd a).length≤100000):ZpY (iL (wd a)) (d:Int)=some (iL (wd (2*a+d))):=by
 refine Zso ?_;unfold ZpY;rw[ZnG];refine ZnV (ZtO ZwP (wd a).length (by omega) (fun i (s:Nat×List Nat)=>(iL (wd a),(s.1:Int),i,iL s.2)) (fun i s=>s.1≤1∧s.2.length=i∧Dg s.2∧val s.2+Bw ^ i*s.1=2*val ((wd a).take i)+d)
  (Q:=fun y=>∃(c:Nat) (o:List Nat),y=((c:Int),iL o)∧c≤1∧Dg o∧o.length=(wd a).length∧val o+Bw ^ (wd a).length*c=2*a+d) (d,[]) ⟨hd,rfl,ZyB,by simp[val]⟩ ?_ ?_) ?_
 ·rintro rec i ⟨c,o⟩ hi ⟨hc,hl,hod,hv⟩ ih;dsimp only at hc hl hod hv ih;have h1:=(Zu2 a).get hi;unfold Zsy ZqG;dsimp only;rw[Zoh,Zoc];refine⟨fun _=> ?_,fun h=>by have:=of_decide_eq_false h;omega⟩;rw[ZtW hi,ZnG,ZnE];generalize ex:(wd a)[i]=x at h1;have eor:orK .u32 (shlK .u32 (x:Int) 1) (c:Int)=((c+x*2 ^ 1 % Bw:Nat):Int):=by rw[show (1:Int)=((1:Nat):Int)from rfl,ZAV 1 (by omega),ZAE (ZH7 _ (by decide)) (by omega),Nat.or_comm];congr 1;exact ZAh (by decide) (by omega) h1
  have esh:shrK .u32 (x:Int) 31=((x / 2 ^ 31:Nat):Int):=ZyL 31 (by omega);rw[eor,ZIk,esh,ZnJ,ZnJ,ZnJ,ZnJ,Zoc];have hx:c+x*2 ^ 1 % Bw < Bw:=by simp only[Bw]at h1⊢;omega
  refine⟨by decide,Zw9 (by simp only[ZHN];omega),by decide,ZnL (by omega), ?_⟩;have:=ih (x / 2 ^ 31,o++[c+x*2 ^ 1 % Bw]) ⟨by simp only[Bw]at h1;dsimp only;omega,by simp[hl],hod.app (Zx8 hx), ?_⟩
  ·rw[ZzJ]at this;exact this
  ·dsimp only;have q:c+x*2 ^ 1 % Bw+Bw*(x / 2 ^ 31)=c+2*x:=by simp only[Bw]at h1⊢;omega
   have q2:Bw ^ i*(c+x*2 ^ 1 % Bw+Bw*(x / 2 ^ 31))=Bw ^ i*(c+2*x):=by rw[q]
   have q3:Bw ^ i*(2*x)=2*(Bw ^ i*x):=ZIb _ _ _;rw[ZH8,ZH8 (Bw ^ i) c (2*x),q3]at q2;rw[Zu3,hl,Zoy hi,ex];generalize c+x*2 ^ 1 % Bw=dg at*
   generalize x / 2 ^ 31=cy at*
   rw[ZIg,ZH9];omega
 ·rintro rec ⟨c,o⟩ ⟨hc,hl,hod,hv⟩;dsimp only at hc hl hod hv;unfold Zsy ZqG;dsimp only;rw[Zoh,Zoc];refine⟨fun h=>by have:=of_decide_eq_true h;omega,fun _=> ?_⟩;rw[ZnE];rw[ZHR,Zsp]at hv;exact⟨c,o,rfl,hc,hod,hl,hv⟩
 ·rintro y ⟨c,o,rfl,hc,hod,hl,hv⟩;dsimp only;unfold Zs4;have e:iL o++[(c:Int)]=iL (o++[c]):=by rw[ZzJ];rfl
  rw[ZnJ,Zoc,e,ZyD (hod.app (Zx8 (by simp only[Bw];omega))) (by simp;omega),ZnG,ZnE,ZnE,Zu3,hl,hv];exact⟨Zw9 (by simp only[ZHN];omega),rfl⟩
end Go.Proofs
namespace Go.Proofs
open Go Eng
theorem ZDJ (t:Int):shrK .i64 t 32=t / 4294967296:=by unfold shrK;rw[show min (32:Int).toNat (IntKind.bits .i64)=32 from by decide,Int.fdiv_eq_ediv_of_nonneg _ (by decide)];rfl
theorem Zzy (a b:Nat) (hab:b≤a) (ha:(wd a).length≤100000):Zph (iL (wd a)) (iL (wd b))=some (iL (wd (a - b))):=by
 have hlb:(wd b).length≤(wd a).length:=ZsI hab;refine Zso ?_;unfold Zph;rw[ZnG];refine ZnV (ZtO Zxl (wd a).length (by omega) (fun i (s:Nat×List Nat)=>(iL (wd a),iL (wd b), -(s.1:Int),i,iL s.2)) (fun i s=>s.1≤1∧s.2.length=i∧Dg s.2∧val ((wd a).take i)+Bw ^ i*s.1=val s.2+val ((wd b).take i))
  (Q:=fun y=>∃(o:List Nat),y=iL o∧Dg o∧o.length=(wd a).length∧val o=a - b) (0,[]) ⟨by simp,rfl,ZyB,by simp[val]⟩ ?_ ?_) ?_
 ·rintro rec i ⟨c,o⟩ hi ⟨hc,hl,hd,hv⟩ ih;dsimp only at hc hl hd hv ih;have h1:=(Zu2 a).get hi;have h2:=ZyP (Zu2 b) i;have ey0:(wd b).getD i 0=(if i < (wd b).length then (wd b).getD i 0 else 0):=by
   by_cases h:i < (wd b).length
   ·rw[if_pos h]
   ·rw[if_neg h,ZHH,ZHJ (by omega)];rfl
  have fin:∀y:Nat,(wd b).getD i 0=y→wp (Zqw (fun a b c i out=>rec (a,b,c,i,out)) (iL (wd a)) (iL (wd b)) (-(c:Int)+((wd a)[i]:Int) - (y:Int)) (i:Int) (iL o)) (fun y=>∃(o:List Nat),y=iL o∧Dg o∧o.length=(wd a).length∧val o=a - b):=fun y ey=>by
   rw[ey]at h2;generalize ex:(wd a)[i]=x at h1;have ew:IntKind.wrap .u32 (-(c:Int)+(x:Int) - (y:Int))=(((x+4294967296 - y - c) % 4294967296:Nat):Int):=by simp only[Bw]at h1 h2;rw[IntKind.wrap_u32];omega
   have es:shrK .i64 (-(c:Int)+(x:Int) - (y:Int)) 32= -(((if x < y+c then 1 else 0):Nat):Int):=by simp only[Bw]at h1 h2;rw[ZDJ];split<;>omega
   unfold Zqw;rw[ew,es,ZnJ,ZnJ,ZnJ,Zoc];refine⟨Zw9 (by simp only[ZHN];omega),by decide,ZnL (by omega), ?_⟩;have:=ih ((if x < y+c then 1 else 0),o++[(x+4294967296 - y - c) % 4294967296]) ⟨by dsimp only;split<;>omega,by simp[hl],hd.app (Zx8 (ZH7 _ (by decide))), ?_⟩
   ·rw[ZzJ]at this;exact this
   ·dsimp only;rw[Zu3,hl,ZIg,Zoy hi,ZvG,ex,ey,ZH9];have e:x+Bw*(if x < y+c then 1 else 0)=(x+4294967296 - y - c) % 4294967296+y+c:=by simp only[Bw]at h1 h2⊢;split<;>omega
    have e2:Bw ^ i*(x+Bw*(if x < y+c then 1 else 0))=Bw ^ i*((x+4294967296 - y - c) % 4294967296+y+c):=by rw[e]
    rw[ZH8,ZH8,ZH8]at e2;omega
  unfold Zs5 Zrh;dsimp only;rw[Zoh,Zoc,Zoc];refine⟨fun _=> ?_,fun h=>by have:=of_decide_eq_false h;omega⟩;have wx:IntKind.wrap .i64 ((wd a)[i]:Int)=((wd a)[i]:Int):=wrap_i64 (by simp only[Bw]at h1;omega);rw[ZtW hi,ZnG,ZnE,wx,ZnJ,Zoh];refine⟨ZnL (by simp only[Bw]at h1;omega),fun h=> ?_,fun h=> ?_⟩
  ·have hib:i < (wd b).length:=by have:=of_decide_eq_true h;omega
   have hy:=(Zu2 b).get hib;have wy:IntKind.wrap .i64 ((wd b)[i]:Int)=((wd b)[i]:Int):=wrap_i64 (by simp only[Bw]at hy;omega);rw[ZtW hib,ZnG,ZnE,wy,ZnJ];refine⟨ZnL (by simp only[Bw]at h1 hy;omega),fin _ ?_⟩;rw[ZHH,ZHI hib];rfl
  ·have hib:¬i < (wd b).length:=by have:=of_decide_eq_false h;omega
   have:=fin 0 (by rw[ey0,if_neg hib]);rw[Int.natCast_zero,Int.sub_zero]at this;exact this
 ·rintro rec ⟨c,o⟩ ⟨hc,hl,hd,hv⟩;unfold Zs5 Zrh;dsimp only at hc hl hd hv⊢
  rw[Zoh,Zoc];refine⟨fun h=>by have:=of_decide_eq_true h;omega,fun _=> ?_⟩;rw[ZnE];rw[ZHR,ZHS (by omega),Zsp,Zsp]at hv;have:=ZvM hd;rw[hl]at this;have hc0:c=0:=by
   rcases Nat.eq_zero_or_pos c with h |h
   ·exact h
   ·have:c=1:=by omega
    rw[this,Nat.mul_one]at hv;omega
  rw[hc0,Nat.mul_zero]at hv;exact⟨o,rfl,hd,hl,by omega⟩
 ·rintro y ⟨o,rfl,hd,hl,hv⟩;unfold Zt1;rw[ZyD hd (by omega),ZnG,ZnE,ZnE,hv]
end Go.Proofs
namespace Go.Proofs
open Go Eng
theorem Zzr (a:Nat) (ha:(wd a).length≤100000):Zo2 (iL (wd a))=some (iL (wd (a / 2))):=by
 refine Zso ?_;unfold Zo2;rw[List.nil_append,ZnJ,ZnG,Zoc];refine⟨Zw9 (by rw[List.length_nil];omega), ?_⟩;refine ZnV (ZtO Zw3 (wd a).length (by omega) (fun i (o:List Nat)=>(iL (wd a),((wd a).length:Int),i,iL (o++(wd a).drop o.length))) (fun i o=>o.length=i∧Dg o∧val o*2+(wd a).getD 0 0 % 2=val ((wd a).take i)+Bw ^ i*((wd a).getD i 0 % 2))
  (Q:=fun y=>∃(o:List Nat),y=iL o∧Dg o∧o.length=(wd a).length∧val o=a / 2) [] ⟨rfl,ZyB,by simp[val]⟩ ?_ ?_) ?_
 ·rintro rec i o hi ⟨hol,hod,hov⟩ ih;have h1:=(Zu2 a).get hi;have hyB:=ZyP (Zu2 a) (i+1);have hlen:(o++(wd a).drop o.length).length=(wd a).length:=by simp;omega
  have gx:(iL (o++(wd a).drop o.length))[i]? =some ((wd a)[i]:Int):=by rw[Zyy (by omega)];congr 2;rw[List.getElem_append_right (by omega)];simp[hol]
  have fin:∀z:Nat,z=(wd a)[i] / 2+(wd a).getD (i+1) 0*2 ^ 31 % Bw→wp (Zqj (fun a t9 i out=>rec (a,t9,i,out)) (iL (wd a)) ((wd a).length:Int) (i:Int) (iL ((o++(wd a).drop o.length).set i z))) (fun y=>∃(o:List Nat),y=iL o∧Dg o∧o.length=(wd a).length∧val o=a / 2):=fun z hz=>by
   unfold Zqj;have es:(o++(wd a).drop o.length).set i z=(o++[z])++(wd a).drop (o++[z]).length:=by rw[List.set_append_right _ _ (by omega),hol,Nat.sub_self,←ZHL (h:=hi),List.set_cons_zero];simp[hol]
   have eg:(wd a).getD i 0=(wd a)[i]:=by rw[ZHH,ZHI hi];rfl
   rw[eg]at hov;rw[ZnJ,es];generalize ex:(wd a)[i]=x at*
   generalize ey:(wd a).getD (i+1) 0=y at*
   have hzB:z < Bw:=by simp only[Bw]at h1 hz⊢;omega
   refine⟨ZnL (by omega),ih (o++[z]) ⟨by simp[hol],hod.app (Zx8 hzB), ?_⟩⟩;have hd1:z*2+x % 2=x+Bw*(y % 2):=by simp only[Bw]at h1 hz⊢;omega
   have q1:Bw ^ i*(z*2+x % 2)=Bw ^ i*(x+Bw*(y % 2)):=by rw[hd1]
   rw[ZH8,ZH8]at q1;rw[Zu3,hol,Zoy hi,ex,ZIg,Nat.add_mul,ZH9,ZH9];omega
  unfold ZsT Zq9;dsimp only;rw[Zoh];refine⟨fun _=> ?_,fun h=>by have:=of_decide_eq_false h;omega⟩;have esh:shrK .u32 ((wd a)[i]:Int) 1=(((wd a)[i] / 2:Nat):Int):=ZyL 1 (by omega);rw[ZHG,gx,ZnJ,ZnG,ZnE,ZnJ,ZnJ,ZnJ,esh,ZxW,Zoc,Zoc,hlen,Zoh];refine⟨ZpI ⟨by omega,by omega⟩,by decide,ZpI ⟨by omega,by omega⟩,ZnL (by omega),fun h=> ?_,fun h=> ?_⟩
  ·have hi2:i+1 < (wd a).length:=by have:=of_decide_eq_true h;omega
   have gz:(iL ((o++(wd a).drop o.length).set i ((wd a)[i] / 2)))[i]? =some (((wd a)[i] / 2:Nat):Int):=by rw[Zyy (by rw[ZHM];omega),List.getElem_set_self]
   have e1:(i:Int)+1=((i+1:Nat):Int):=rfl;have eg:(wd a).getD (i+1) 0=(wd a)[i+1]:=by rw[ZHH,ZHI hi2];rfl
   have eor:orK .u32 (((wd a)[i] / 2:Nat):Int) (shlK .u32 ((wd a)[i+1]:Int) 31)=(((wd a)[i] / 2+(wd a).getD (i+1) 0*2 ^ 31 % Bw:Nat):Int):=by rw[eg,show (31:Int)=((31:Nat):Int)from rfl,ZAV 31 (by omega),ZAE (by simp only[Bw]at h1;omega) (ZH7 _ (by decide))];congr 1;exact ZAh (by decide) (by simp only[Bw]at h1;omega) ((Zu2 a).get hi2)
   rw[e1,ZtW hi2,gz,ZnJ,ZnG,ZnE,ZnJ,ZnG,ZnE,ZnJ,ZnJ,eor,Zoc,ZHM,hlen,ZxW,List.set_set];exact⟨ZpI ⟨by omega,by omega⟩,ZnL (by omega),by decide,ZpI ⟨by omega,by omega⟩,fin _ rfl⟩
  ·have hi2:¬i+1 < (wd a).length:=by have:=of_decide_eq_false h;omega
   refine fin _ ?_;rw[ZHH,ZHJ (by omega)];simp
 ·rintro rec o ⟨hol,hod,hov⟩;unfold ZsT Zq9;dsimp only;rw[Zoh];refine⟨fun h=>by have:=of_decide_eq_true h;omega,fun _=> ?_⟩;rw[ZnE];have eg:(wd a).getD (wd a).length 0=0:=by rw[ZHH,ZHJ (by omega)];rfl
  rw[eg,Nat.zero_mod,Nat.mul_zero,Nat.add_zero,ZHR,Zsp]at hov;refine⟨o,by rw[hol,List.drop_length,List.append_nil],hod,hol, ?_⟩;omega
 ·rintro y ⟨o,rfl,hd,hl,hv⟩;unfold ZtG;rw[ZyD hd (by omega),ZnG,ZnE,ZnE,hv]
end Go.Proofs
namespace Go.Proofs
open Go Eng
theorem ZAF {a:Nat} (h:a≠0):idx (iL (wd a)) 0=some ((a % Bw:Nat):Int):=by rw[ZyU h];rfl
theorem ZzL {a:Nat}:(andK .u32 ((a % Bw:Nat):Int) 1 == 0)=decide (a % 2=0):=by
 rw[show (1:Int)=((1:Nat):Int)from rfl,ZAp (ZH7 _ (by decide)) (by decide),Nat.and_one_is_mod];have e:a % Bw % 2=a % 2:=by simp only[Bw];omega
 rw[e]
 by_cases h:a % 2=0
 ·rw[h];rfl
 ·rw[decide_eq_false h];exact beq_eq_false_iff_ne.2 (by omega)
theorem ZBf (P:Nat→Prop) {f:Nat→List Int×List Int×Int→Option (List Int×List Int×Int)} (y:List Int) (k:Int)
  (hf:∀n x,x≠0→(wd x).length≤100000→f (n+1) (iL (wd x),y,k)=if x % 2=0 then f n (iL (wd (x / 2)),y,k)else some (iL (wd x),y,k))
  (hP:∀x,P (2*x)→P x):∀(n x:Nat),x≠0→(wd x).length≤100000→P x→(∀m,x < 2 ^ m→m≤n→∃z,f n (iL (wd x),y,k)=some (iL (wd z),y,k)∧z % 2=1∧z≤x∧P z)
 |0,x,hx,hl,hp,m,hm,hmn=>by
  have:m=0:=by omega
  subst this;rw[ZIh]at hm;omega
 |n+1,x,hx,hl,hp,m,hm,hmn=>by
  rw[hf n x hx hl]
  by_cases h:x % 2=0
  ·rw[if_pos h];cases m with
   |zero=>rw[ZIh]at hm;omega
   |succ m=>
    obtain⟨z,h1,h2,h3,h4⟩:=ZBf P y k hf hP n (x / 2) (by omega) (ZH2 (ZsI (ZHY x 2)) hl) (hP _ (by rwa [show 2*(x / 2)=x by omega])) m (by rw[ZIg]at hm;omega) (by omega);exact⟨z,h1,h2,by omega,h4⟩
  ·rw[if_neg h];exact⟨x,rfl,by omega,ZH1 _,hp⟩
end Go.Proofs
namespace Go.Proofs
open Go Eng
theorem ZwI (x:Nat):x < 2 ^ (x.log2+1):=Nat.lt_log2_self
theorem Zym {x n:Nat} (h:(wd x).length≤n):x.log2≤32*n:=by
 rcases Nat.eq_zero_or_pos x with rfl |hp
 ·rw[Nat.log2_zero];omega
 ·have h1:=Nat.log2_self_le (n:=x) (by omega);have h2:=ZH4 (Zvf x) (ZIf (n:=Bw) (by decide) h);rw[show Bw=2 ^ 32 from rfl,←Nat.pow_mul]at h2;exact ZH0 ((Nat.pow_lt_pow_iff_right (a:=2) (by decide)).1 (ZH3 h1 h2))
theorem ZB8 {x b:Nat} (hb:b % 2=1):ZHZ (2*x) b=ZHZ x b:=by
 have hc:Nat.Coprime 2 b:=by unfold Nat.Coprime;rw[Nat.gcd_rec,hb,Nat.gcd_one_left]
 exact Nat.Coprime.gcd_mul_left_cancel x hc
theorem ZGX (y:List Int) (k:Int) {x:Nat} (b:Nat) (hb:b % 2=1) (hx:x≠0) (hl:(wd x).length≤100000):∃z,ZoP big (iL (wd x)) y k=some (iL (wd z),y,k)∧z % 2=1∧z≤x∧ZHZ z b=ZHZ x b:=by
 have hm:=Zym hl;refine ZBf (fun z=>ZHZ z b=ZHZ x b) (f:=fun n t=>ZoP n t.1 t.2.1 t.2.2) y k (fun n x hx hl=> ?_) (fun z h=>by rwa [ZB8 hb]at h) big x hx hl rfl (x.log2+1) (ZwI x) (ZH0 (ZzP (by omega)));show Zp4 (ZoP n) (iL (wd x)) y k=_;unfold Zp4;rw[ZAF hx,ZIk,ZzL]
 by_cases h:x % 2=0
 ·rw[decide_eq_true h,cond_true,if_pos h,Zzr x hl,ZIk]
 ·rw[decide_eq_false h,cond_false,if_neg h]
end Go.Proofs
namespace Go.Proofs
open Go Eng
theorem ZC8 (y:List Int) (k:Int) {x:Nat} (ho:x % 2=1):ZoP big (iL (wd x)) y k=some (iL (wd x),y,k):=by obtain⟨n,hn⟩:=ZyR 1 (by decide);rw[hn];show Zp4 (ZoP n) (iL (wd x)) y k=_;unfold Zp4;rw[ZAF (by omega),ZIk,ZzL,decide_eq_false (by omega),cond_false]
theorem ZGW (w:List Int) (k:Int) {y:Nat} (b:Nat) (hb:b % 2=1) (hy:y≠0) (hl:(wd y).length≤100000):∃z,ZoO big w (iL (wd y)) k=some (w,iL (wd z),k)∧z % 2=1∧(z≤y∧(y % 2=0→z≤y / 2))∧ZHZ z b=ZHZ y b:=by
 have hm:=Zym hl;have step:∀n x,x≠0→(wd x).length≤100000→ZoO (n+1) w (iL (wd x)) k=if x % 2=0 then ZoO n w (iL (wd (x / 2))) k else some (w,iL (wd x),k):=fun n x hx hl=>by
  show Zs8 (ZoO n) w (iL (wd x)) k=_;unfold Zs8;rw[ZAF hx,ZIk,ZzL]
  by_cases h:x % 2=0
  ·rw[decide_eq_true h,cond_true,if_pos h,Zzr x hl,ZIk]
  ·rw[decide_eq_false h,cond_false,if_neg h]
 have key:∀(n x m:Nat),x≠0→(wd x).length≤100000→x < 2 ^ m→m≤n→∃z,ZoO n w (iL (wd x)) k=some (w,iL (wd z),k)∧z % 2=1∧(z≤x∧(x % 2=0→z≤x / 2))∧ZHZ z b=ZHZ x b:=by
  intro n
  induction n with
  |zero=>
   intro x m hx hl hm hmn;have:m=0:=by omega
   subst this;rw[ZIh]at hm;omega
  |succ n ih=>
   intro x m hx hl hm hmn;rw[step n x hx hl]
   by_cases h:x % 2=0
   ·rw[if_pos h];cases m with
    |zero=>rw[ZIh]at hm;omega
    |succ m=>
     obtain⟨z,h1,h2,h3,h4⟩:=ih (x / 2) m (by omega) (ZH2 (ZsI (ZHY x 2)) hl) (by rw[ZIg]at hm;omega) (by omega);refine⟨z,h1,h2,⟨by omega,fun _=>h3.1⟩, ?_⟩;rw[h4,←ZB8 hb,show 2*(x / 2)=x by omega]
   ·rw[if_neg h];exact⟨x,rfl,by omega,⟨ZH1 _,fun h'=>absurd h' h⟩,rfl⟩
 exact key big y (y.log2+1) hy hl (ZwI y) (ZH0 (ZzP (by omega)))
end Go.Proofs
namespace Go.Proofs
open Go Eng
theorem ZCN (k:Int):∀(n x y p q:Nat),x % 2=1→(wd x).length≤100000→(wd y).length≤100000→x < 2 ^ p→y < 2 ^ q→p+q+y % 2 < n→Zn8 n (iL (wd x)) (iL (wd y)) k=some (iL (wd (ZHZ x y)),k)
 |0,x,y,p,q,_,_,_,_,_,h=>absurd h (by omega)
 |n+1,x,y,p,q,ho,hxl,hyl,hp,hq,hn=>by
  show Zp5 (Zn8 n) _ _ _=_;unfold Zp5;rw[Zoc]
  by_cases h0:y=0
  ·subst h0;rw[Zu1,Nat.gcd_zero_right];rfl
  ·have hl:=Zuu h0;obtain⟨z,hz,hz1,hz2,hz3⟩:=ZGW (iL (wd x)) k x ho h0 hyl;rw[decide_eq_true (by omega),cond_true,ZC8 _ _ ho,ZIk];dsimp only;unfold Zt7;rw[hz,ZIk];dsimp only;have hzl:=ZH2 (ZsI hz2.1) hyl;unfold Zt6;rw[ZzO x z hxl hzl,ZIk];obtain⟨q',hq',hq2⟩:∃q',z < 2 ^ q'∧q'+1≤q+y % 2:=by
    by_cases he:y % 2=0
    ·cases q with
     |zero=>rw[ZIh]at hq;omega
     |succ q=>
      refine⟨q, ?_,by omega⟩;have:=hz2.2 he;rw[ZIg]at hq;omega
    ·exact⟨q,by omega,by omega⟩
   unfold Zse;have eg:ZHZ x y=ZHZ x z:=by rw[Nat.gcd_comm x y,←hz3,Nat.gcd_comm]
   rw[eg]
   by_cases hc:z < x
   ·rw[Zwz hc,show decide ((1:Int) > 0)=true from rfl,cond_true,Zzy x z (by omega) hxl,ZIk,ZCN k n z (x - z) q' p hz1 hzl (ZH2 (ZsI (Nat.sub_le x z)) hxl) hq' (by omega) (by omega),Nat.gcd_sub_self_right (by omega),Nat.gcd_comm]
   ·have hnc:decide (Zz3 x z > 0)=false:=by refine decide_eq_false ?_;unfold Zz3;rw[if_neg hc];split<;>decide
    rw[hnc,cond_false,Zzy z x (by omega) hzl,ZIk,ZCN k n x (z - x) p q' ho hxl (ZH2 (ZsI (Nat.sub_le z x)) hzl) hp (by omega) (by omega),Nat.gcd_sub_self_right (by omega)]
end Go.Proofs
namespace Go.Proofs
open Go Eng
theorem ZE5:∀(n x y j m:Nat),x≠0→y≠0→(wd x).length≤100000→(wd y).length≤100000→x < 2 ^ m→m≤n→j+m≤1000000000→
  ∃x' y' t:Nat,ZpN n (iL (wd x)) (iL (wd y)) (j:Int)=some (iL (wd x'),iL (wd y'),((j+t:Nat):Int))∧(x' % 2=1∨y' % 2=1)∧ZHZ x y=2 ^ t*ZHZ x' y'∧x'≠0∧y'≠0∧x'≤x∧y'≤y∧t≤m
 |0,x,y,j,m,hx,hy,hxl,hyl,hm,hmn,hj=>by
  have:m=0:=by omega
  subst this;rw[ZIh]at hm;omega
 |n+1,x,y,j,m,hx,hy,hxl,hyl,hm,hmn,hj=>by
  show ∃x' y' t:Nat,Zs9 (ZpN n) _ _ _=_∧_;unfold Zs9 Zsf;rw[ZAF hx,ZIk,ZzL]
  by_cases h1:x % 2=0
  ·rw[decide_eq_true h1,cond_true,ZAF hy,ZIk,ZzL]
   by_cases h2:y % 2=0
   ·cases m with
    |zero=>rw[ZIh]at hm;omega
    |succ m=>
     rw[decide_eq_true h2,cond_true,Zzr x hxl,ZIk,Zzr y hyl,ZIk,ZnL (by omega),chk_true];obtain⟨x',y',t,q1,q2,q3,q4,q5,q6,q7,q8⟩:=ZE5 n (x / 2) (y / 2) (j+1) m (by omega) (by omega) (ZH2 (ZsI (ZHY x 2)) hxl) (ZH2 (ZsI (ZHY y 2)) hyl) (by rw[ZIg]at hm;omega) (by omega) (by omega);refine⟨x',y',t+1, ?_,q2, ?_,q4,q5,by omega,by omega,by omega⟩
     ·rw[show (j:Int)+1=((j+1:Nat):Int)from rfl,q1,show j+1+t=j+(t+1) by omega]
     ·have:=Nat.gcd_mul_left 2 (x / 2) (y / 2);rw[show 2*(x / 2)=x by omega,show 2*(y / 2)=y by omega]at this;rw[this,q3,ZIg,ZIa (2 ^ t) 2,ZH9]
   ·rw[decide_eq_false h2,cond_false];exact⟨x,y,0,rfl,.inr (by omega),by rw[ZIh,ZIc],hx,hy,ZH1 _,ZH1 _,Nat.zero_le _⟩
  ·rw[decide_eq_false h1,cond_false,cond_false];exact⟨x,y,0,rfl,.inl (by omega),by rw[ZIh,ZIc],hx,hy,ZH1 _,ZH1 _,Nat.zero_le _⟩
theorem ZE1:∀(k n a:Nat),k < n→k≤1000000000→(wd (2 ^ k*a)).length≤100000→ZpM n (iL (wd a)) (k:Int)=some (iL (wd (2 ^ k*a)))
 |k,0,a,h,_,_=>absurd h (by omega)
 |0,n+1,a,_,_,_=>by show Zp3 (ZpM n) _ _=_;unfold Zp3;rw[ZIh,ZIc];rfl
 |k+1,n+1,a,h,hk,hl=>by
  show Zp3 (ZpM n) _ _=_;unfold Zp3;have e:2 ^ (k+1)*a=2 ^ k*(2*a+0):=by rw[ZIg,ZH9,Nat.add_zero]
  have ha:(wd a).length≤100000:=ZH2 (ZsI (Nat.le_mul_of_pos_left a (ZIj _))) hl;rw[e]at hl;have ht:=ZA6 a 0 (by omega) ha;rw[Int.natCast_zero]at ht;rw[decide_eq_true (by omega),cond_true,ht,ZIk,show ((k+1:Nat):Int) - 1=(k:Int) by omega,ZnL (by omega),chk_true,ZE1 k n (2*a+0) (by omega) (by omega) hl,e]
theorem ZB9 (a b:Nat) (ha0:a≠0) (hb0:b≠0) (ha:(wd a).length≤50000) (hb:(wd b).length≤50000):Zqq (iL (wd a)) (iL (wd b))=some (iL (wd (ZHZ a b))):=by
 have hla:=Zym ha;have hlb:=Zym hb;obtain⟨x,y,t,q1,q2,q3,q4,q5,q6,q7,q8⟩:=ZE5 big a b 0 (a.log2+1) ha0 hb0 (by omega) (by omega) (ZwI a) (ZH0 (ZzP (by omega))) (by omega);rw[Int.natCast_zero,Nat.zero_add]at q1;have hxl:=ZH2 (ZsI q6) ha;have hyl:=ZH2 (ZsI q7) hb;have hlx:=Zym hxl;have hly:=Zym hyl;have main:Zn8 big (iL (wd x)) (iL (wd y)) (t:Int)=some (iL (wd (ZHZ x y)),(t:Int)):=by
  by_cases hx:x % 2=1
  ·exact ZCN _ big x y _ _ hx (by omega) (by omega) (ZwI x) (ZwI y) (ZzP (by omega))
  ·have hy:y % 2=1:=by omega
   obtain⟨z,z1,z2,z3,z4⟩:=ZGX (iL (wd y)) (t:Int) y hy q4 (by omega);have hzl:=ZH2 (ZsI z3) hxl;have hlz:=Zym hzl;have e:=ZCN (t:Int) big z y _ _ z2 (by omega) (by omega) (ZwI z) (ZwI y) (ZzP (by omega));rw[z4]at e;rw[←e];obtain⟨n,hn⟩:∃n,big=n+1:=⟨36893488147419103231,by rw[big_eq]⟩;have s1:∀u,Zn8 big (iL (wd u)) (iL (wd y)) (t:Int)=Zp5 (Zn8 n) (iL (wd u)) (iL (wd y)) (t:Int):=fun u=>by rw[hn];rfl
   rw[s1,s1];unfold Zp5;have hl:=Zuu q5;rw[Zoc,decide_eq_true (by omega),cond_true,cond_true,z1,ZC8 _ _ z2]
 have hg:(wd (2 ^ t*ZHZ x y)).length≤100000:=by rw[←q3];exact ZH2 (ZBH (by omega) hb) (by omega)
 unfold Zqq;rw[q1,ZIk];dsimp only;unfold Zt8 Zt5 Zt4;rw[main,ZIk];dsimp only;rw[ZE1 t big _ (ZzP (by omega)) (by omega) hg,ZIk,q3]
end Go.Proofs
namespace Go.Proofs
open Go Eng
theorem ZCe {l:List Nat} {i:Nat} (hd:Dg l) (h:i / 32 < l.length):l[i / 32] / 2 ^ (i % 32) % 2=val l / 2 ^ i % 2:=by
 have e:=Zxy h;have hlt:=ZvM (hd.take (i / 32));rw[ZHO,ZH6 (by omega)]at hlt;have hi:2 ^ i=Bw ^ (i / 32)*2 ^ (i % 32):=by rw[show Bw=2 ^ 32 from rfl,←Nat.pow_mul,←ZIe,ZHW]
 have hr:i % 32 < 32:=ZH7 _ (by decide);have hB:Bw=2 ^ (i % 32)*(2*2 ^ (31 - i % 32)):=by rw[show 2*2 ^ (31 - i % 32)=2 ^ (31 - i % 32+1) by rw[ZIg,ZIa],←ZIe,show i % 32+(31 - i % 32+1)=32 by omega]
 have e1:val l / Bw ^ (i / 32)=l[i / 32]+Bw*val (l.drop (i / 32+1)):=by rw[e,ZHU _ _ (Nat.pow_pos (by decide)),ZHX hlt,Nat.zero_add]
 rw[hi,←Nat.div_div_eq_div_mul,e1];generalize l[i / 32]=x;generalize val (l.drop (i / 32+1))=y;have e2:(x+Bw*y) / 2 ^ (i % 32)=x / 2 ^ (i % 32)+2*(2 ^ (31 - i % 32)*y):=by rw[hB,ZH9,ZHU _ _ (ZIj _),ZH9]
 rw[e2,ZHV]
end Go.Proofs
namespace Go.Proofs
open Go Eng
theorem ZCZ (i:Nat):Int.tdiv (i:Int) 32=((i / 32:Nat):Int):=by rw[Int.tdiv_eq_ediv_of_nonneg (by omega)];norm_cast
theorem ZCY (i:Nat):IntKind.wrap .u64 (Int.tmod (i:Int) 32)=((i % 32:Nat):Int):=by rw[Int.tmod_eq_emod_of_nonneg (by omega),IntKind.wrap_u64];omega
theorem ZFv {l:List Nat} {i:Nat} (hd:Dg l) (h:i / 32 < l.length) (hi:i≤1000000000):ZrW (iL l) (i:Int)=some ((val l / 2 ^ i % 2:Nat):Int):=by have h1:=hd.get h;unfold ZrW;rw[ZCZ,ZCY,decide_eq_true (by decide),chk_true,ZnL (by omega),chk_true,ZtW h,ZIk,chk_true,decide_eq_true (by omega),chk_true,ZyL _ (by omega),show (1:Int)=((1:Nat):Int)from rfl,ZAp (ZH3 (ZHY _ _) h1) (by decide),Nat.and_one_is_mod,ZCe hd h]
end Go.Proofs
namespace Go.Proofs
open Go Eng
theorem ZC2 {x j:Nat} (h:x / 2 ^ j % 2=0):x|||2 ^ j=x+2 ^ j:=by
 have hlo:=ZH7 x (ZIj j);have e:x=2 ^ (j+1)*(x / 2 ^ j / 2)+x % 2 ^ j:=by
  have h1:=ZHW x (2 ^ j);have h2:2*(x / 2 ^ j / 2)=x / 2 ^ j:=by omega
  rw[ZIg,ZH9,h2,h1]
 have a1:=ZIi (i:=j+1) (b:=x % 2 ^ j) (by rw[ZIg];omega) (x / 2 ^ j / 2);have a2:=ZIi (i:=j) (b:=x % 2 ^ j) hlo 1;have a3:=ZIi (i:=j+1) (b:=2 ^ j*1+x % 2 ^ j) (by rw[ZIg];omega) (x / 2 ^ j / 2);rw[Nat.mul_one]at a2 a3;generalize x / 2 ^ j / 2=t at*
 generalize x % 2 ^ j=lo at*
 rw[e,a1,Nat.or_assoc,Nat.or_comm lo,←a2,←a3,←a1];omega
theorem ZDL {j:Nat} (hj:j≤31):shlK .u32 1 (j:Int)=((2 ^ j:Nat):Int):=by have:=ZAV (a:=1) j (by omega);rw[ZIc,Nat.mod_eq_of_lt (ZH3 (ZIf (by decide) hj) (by decide))]at this;exact this
theorem ZB5 {A k:Nat}:A / 2 ^ k=2*(A / 2 ^ (k+1))+A / 2 ^ k % 2:=by rw[ZIg,←Nat.div_div_eq_div_mul];omega
theorem ZCc (a b:Nat) (hb0:b≠0) (ha:(wd a).length≤50000) (hb:(wd b).length≤50000):Zqr (iL (wd a)) (iL (wd b))=some (iL (wd (a / b)),iL (wd (a % b))):=by
 have hlen:∀k,(wd (2*(a / 2 ^ (k+1) % b)+a / 2 ^ k % 2)).length≤50001:=fun k=>by
  have h1:=ZH7 (a / 2 ^ (k+1)) (ZId hb0);have h2:2*(a / 2 ^ (k+1) % b)+a / 2 ^ k % 2≤b+b:=by omega
  exact ZH2 (ZsI h2) (ZAt hb hb)
 refine Zso ?_;unfold Zqr;rw[ZnJ,ZnJ,ZnJ,ZnG,Zoc,ZHG,ZzI];refine⟨Zyl (by omega),ZnL (by omega),ZnL (by omega), ?_⟩;have e0:(32*((wd a).length:Int)) - 1=((32*(wd a).length:Nat):Int) - 1:=by omega
 rw[e0,show ([]:List Int)=iL (wd 0) by rw[Zu1];rfl];refine ZnV (Zy5 Zxo (32*(wd a).length) (by omega) (fun i (q:Nat×List Nat)=>(iL (wd a),iL (wd b),iL (wd q.1),i,iL q.2))
  (fun k q=>q.1=a / 2 ^ k % b∧Dg q.2∧q.2.length=(wd a).length∧val q.2=a / 2 ^ k / b*2 ^ k)
  (Q:=fun y=>∃o:List Nat,y=(iL (wd (a % b)),iL o)∧Dg o∧o.length=(wd a).length∧val o=a / b) (0,List.replicate (wd a).length 0) ?_ ?_ ?_) ?_
 ·have h0:a / 2 ^ (32*(wd a).length)=0:=by refine ZHX ?_;rw[Nat.pow_mul];exact Zvf a
  rw[h0,Nat.zero_mod,Nat.zero_div,Nat.zero_mul];exact⟨rfl,ZCd _,List.length_replicate,ZAS _⟩
 ·rintro rec k ⟨r,q⟩ hk ⟨hr,hd,hl,hv⟩ ih;dsimp only at hr hd hl hv;have hk32:k / 32 < (wd a).length:=by omega
  unfold Zta Zrk;dsimp only;have hbit:=ZFv (i:=k) (Zu2 a) hk32 (by omega);rw[Zsp]at hbit;have h2:a / 2 ^ k % 2≤1:=by omega
  have htw:=ZA6 r (a / 2 ^ k % 2) h2 (by
   rw[hr];exact ZH2 (ZsI (ZH0 (ZH7 _ (ZId hb0)))) (by omega))
  have hlk:=hlen k;rw[←hr]at hlk;have hx:=ZB5 (A:=a) (k:=k);have hdm:=ZHW (a / 2 ^ (k+1)) b;rw[←hr]at hdm;have hrlt:r < b:=by rw[hr];exact ZH7 _ (ZId hb0)
  rw[Zoh];refine⟨fun _=> ?_,fun h=>by have:=of_decide_eq_false h;omega⟩;rw[hbit,ZnG,ZnE,htw,ZnG,ZnE,ZzO _ _ (by omega) (by omega),ZnG,ZnE,Zoh];have nx:∀r' q',(r'=a / 2 ^ k % b∧Dg q'∧q'.length=(wd a).length∧val q'=a / 2 ^ k / b*2 ^ k)→wp (ZqA (fun a b r_ i q=>rec (a,b,r_,i,q)) (iL (wd a)) (iL (wd b)) (iL (wd r')) (k:Int) (iL q')) (fun y=>∃o:List Nat,y=(iL (wd (a % b)),iL o)∧Dg o∧o.length=(wd a).length∧val o=a / b):=fun r' q' h=>by unfold ZqA;rw[ZnJ];exact⟨ZnL (by omega),ih (r',q') h⟩
  generalize eX:a / 2 ^ (k+1)=X at*
  generalize ed:a / 2 ^ k % 2=d at*
  refine⟨fun hc=> ?_,fun hc=> ?_⟩
  ·have hge:b≤2*r+d:=by
    rcases ZH5 (2*r+d) b with h |h
    ·rw[ZwH h]at hc;exact absurd (of_decide_eq_true hc) (by decide)
    ·exact h
   have hq:k / 32 < q.length:=by omega
   have hz:q[k / 32] / 2 ^ (k % 32) % 2=0:=by rw[ZCe hd hq,hv,ZIg,←ZH9,Nat.mul_right_comm,Nat.mul_div_cancel _ (ZIj k)];omega
   have hx32:=hd.get hq;rw[Zzy _ _ hge (by omega),ZnG,ZnE,ZCZ,ZCY,ZHG,ZnJ,ZnJ,ZnJ,Zyy hq,ZnG,ZnE,ZnJ,ZnJ,ZnJ,ZDL (by omega),ZAE hx32 (ZH3 (ZIf (by decide) (show k % 32≤31 by omega)) (by decide)),ZC2 hz,ZxW,Zoc];refine⟨by decide,ZnL (by omega),ZpI ⟨by omega,by omega⟩,by decide,decide_eq_true (by omega),ZpI ⟨by omega,by omega⟩, ?_⟩;have hsum:q[k / 32]+2 ^ (k % 32) < Bw:=by
    have hB:Bw=2 ^ (k % 32)*(2*2 ^ (31 - k % 32)):=by rw[show 2*2 ^ (31 - k % 32)=2 ^ (31 - k % 32+1) by rw[ZIg,ZIa],←ZIe,show k % 32+(31 - k % 32+1)=32 by omega]
    rw[←ZC2 hz];exact Nat.or_lt_two_pow (n:=32) hx32 (ZH3 (ZIf (by decide) (show k % 32≤31 by omega)) (by decide))
   refine nx (2*r+d - b) (q.set (k / 32) (q[k / 32]+2 ^ (k % 32))) ⟨?_,hd.set _ hsum,by rw[ZHM,hl], ?_⟩
   ·rw[hx,show 2*X+d=(2*r+d - b)+b*(2*(X / b)+1) by rw[ZH8,ZIb];omega,ZHV,Nat.mod_eq_of_lt (by omega)]
   ·have hvs:=Zx0 q (k / 32) (q[k / 32]+2 ^ (k % 32)) hq;have hp:Bw ^ (k / 32)*2 ^ (k % 32)=2 ^ k:=by rw[show Bw=2 ^ 32 from rfl,←Nat.pow_mul,←ZIe,ZHW]
    rw[ZH8,hp]at hvs;have e1:(2*X+d) / b=2*(X / b)+1:=by rw[show 2*X+d=(2*r+d - b)+b*(2*(X / b)+1) by rw[ZH8,ZIb];omega,ZHU _ _ (ZId hb0),ZHX (by omega),Nat.zero_add]
    rw[hx,e1];rw[hv,ZIg]at hvs;have e2:X / b*(2 ^ k*2)=2*(X / b)*2 ^ k:=by rw[ZIa (2 ^ k) 2,←ZH9,ZIa (X / b) 2]
    rw[Nat.add_mul,ZIc];omega
  ·have hlt:2*r+d < b:=by
    rcases ZH5 (2*r+d) b with h |h
    ·exact h
    ·rcases ZH5 b (2*r+d)with h' |h'
     ·rw[Zwz h']at hc;exact absurd (of_decide_eq_false hc) (by decide)
     ·rw[show 2*r+d=b by omega,ZvE]at hc;exact absurd (of_decide_eq_false hc) (by decide)
   have e0:2*X+d=(2*r+d)+b*(2*(X / b)):=by rw[ZIb];omega
   refine nx (2*r+d) q ⟨?_,hd,hl, ?_⟩
   ·rw[hx,e0,ZHV,Nat.mod_eq_of_lt hlt]
   ·rw[hx,e0,ZHU _ _ (ZId hb0),ZHX hlt,Nat.zero_add,hv,ZIg,ZIa (2 ^ k) 2,←ZH9,ZIa (X / b) 2]
 ·rintro rec ⟨r,q⟩ ⟨hr,hd,hl,hv⟩;dsimp only at hr hd hl hv;rw[ZIh,Nat.div_one]at hr hv;unfold Zta Zrk;dsimp only;rw[Zoh];refine⟨fun h=>by have:=of_decide_eq_true h;omega,fun _=> ?_⟩;rw[ZnE,hr];exact⟨q,rfl,hd,hl,by rw[hv,Nat.mul_one]⟩
 ·rintro y ⟨o,rfl,hd,hl,hv⟩;dsimp only;unfold Zt9;rw[ZyD hd (by omega),ZnG,ZnE,ZnE,hv]
end Go.Proofs
namespace Go.Proofs
open Go Eng
theorem Zzf (n:Int):Rat.divInt n 1=(n:Rat):=by have h:=Rat.num_divInt_den (n:Rat);rw[Rat.num_intCast,Rat.den_intCast]at h;exact h
end Go.Proofs
namespace Go.Proofs
open Go Eng
theorem ZyQ (z:Int) (h1: -9223372036854775808≤z) (h2:z≤9223372036854775807):Zn3 z=some (bg z):=by
 have key:∀(b:Bool) (n:Nat),n < 18446744073709551616→Zn6 b [IntKind.wrap .u32 (n:Int),IntKind.wrap .u32 (shrK .u64 (n:Int) 32)]=some (bg (if b then -(n:Int)else n)):=fun b n h=>by
  have e:([IntKind.wrap .u32 (n:Int),IntKind.wrap .u32 (shrK .u64 (n:Int) 32)]:List Int)=iL [n % 4294967296,n / 4294967296]:=by rw[show (32:Int)=((32:Nat):Int)from rfl,Zyd 32 (by omega),Zut,ZuP (by omega)];rfl
  have hd:Dg [n % 4294967296,n / 4294967296]:=fun d hd=>by
   simp only[ZHP,List.mem_singleton,List.not_mem_nil,or_false]at hd;rcases hd with rfl |rfl
   ·exact ZH7 _ (by decide)
   ·simp only[Bw];omega
  have hv:val [n % 4294967296,n / 4294967296]=n:=by simp only[val,Nat.mul_zero,Nat.add_zero];exact Nat.mod_add_div n Bw
  rw[e,ZyS b hd (by simp),hv]
 unfold Zn3 ZqH;have h32:decide (0≤(32:Int))=true:=rfl
 by_cases hz:z < 0
 ·have e:IntKind.wrap .u64 (0 - IntKind.wrap .u64 z)=((z.natAbs:Nat):Int):=by rw[IntKind.wrap_u64,IntKind.wrap_u64];omega
  rw[decide_eq_true hz,cond_true,h32,chk_true,e,key true _ (by omega),ZIk,if_pos rfl,show -((z.natAbs:Nat):Int)=z by omega]
 ·have e:IntKind.wrap .u64 z=((z.natAbs:Nat):Int):=by rw[IntKind.wrap_u64];omega
  rw[decide_eq_false hz,cond_false,h32,chk_true,e,key false _ (by omega),ZIk,if_neg (by decide),show ((z.natAbs:Nat):Int)=z by omega]
theorem ZD8:bg 0=⟨false,[]⟩:=by unfold bg;rw[show (0:Int).natAbs=0 from rfl,Zu1];rfl
theorem Zz4 (x y:Int) (hy:y≠0) (hx1:Wl 50000 x) (hy1:Wl 50000 y):Zo8 (bg x) (bg y)=some (fOf (Rat.divInt x y)):=by
 unfold Zo8
 by_cases hx:x=0
 ·subst hx;rw[Rat.zero_divInt,Zp2,Zoc,show (0:Int).natAbs=0 from rfl,Zu1,ZyQ 1 (by decide) (by decide)];show some (ZnB.mk ⟨false,[]⟩ (bg 1))=some (fOf 0);rw[←ZD8];rfl
 ·have hx0:0 < x.natAbs:=by omega
  have hy0:0 < y.natAbs:=by omega
  have hg0:ZHZ x.natAbs y.natAbs≠0:=fun e=>by have:=Nat.gcd_pos_of_pos_right x.natAbs hy0;omega
  have hgl:=ZBH (x:=x.natAbs) hy0 hy1;have hxl:=ZA3 (ZHZ x.natAbs y.natAbs) hx1;have hyl:=ZA3 (ZHZ x.natAbs y.natAbs) hy1;have h:=ZyE x y hy hx1 hy1;unfold Zqn at h;rw[Zp2,Zp2,ZzN _ _ hx1 hy1,ZIk,Zzb _ _ hg0 hx1 hgl,ZIk]at h;dsimp only at h;rw[Zzb _ _ hg0 hy1 hgl,ZIk]at h;dsimp only at h;rw[ZuQ _ _ (by omega),ZIk,ZuQ _ _ (by omega),ZIk]at h;have hlen:=Zuu (n:=x.natAbs) (by omega);rw[←h,Zp2,Zp2,Zoc,beq_eq_false_iff_ne.2 (by omega),cond_false,ZB9 _ _ (by omega) (by omega) hx1 hy1,ZIk,ZCc _ _ hg0 hx1 hgl,ZIk];dsimp only;rw[ZCc _ _ hg0 hy1 hgl,ZIk];dsimp only;rw[ZyS _ (Zu2 _) (by omega),ZIk,ZyS _ (Zu2 _) (by omega),ZIk,Zsp,Zsp]
theorem ZCI (x y:Int) (hy:y≠0) (hx1:Wl 256 x) (hy1:Wl 256 y):Zrs (bg x) (bg y)=some (fOf (Rat.divInt x y),0):=by unfold Zrs ZrQ;rw[ZwK,Zxx x hx1,ZIk,ZEU,cond_false,ZwK,Zxx y hy1,ZIk,ZEU,cond_false,Zy6 hy,cond_false,Zz4 x y hy (ZH2 hx1 (by decide)) (ZH2 hy1 (by decide)),ZIk]
theorem ZEX (x y:Int) (hy:y≠0) (h1: -9223372036854775808≤x) (h2:x≤9223372036854775807) (h3: -9223372036854775808≤y) (h4:y≤9223372036854775807):Zq2 x y=some (fOf (Rat.divInt x y),0):=by unfold Zq2;rw[ZyQ x h1 h2,ZIk,ZyQ y h3 h4,ZIk,ZCI x y hy (ZGp h1 h2) (ZGp h3 h4),ZIk]
theorem ZBQ (x y:Int) (hy:y≠0) (h1: -9223372036854775808≤x) (h2:x≤9223372036854775807) (h3: -9223372036854775808≤y) (h4:y≤9223372036854775807):Zre x y=some (fOf (Rat.divInt x y)):=by unfold Zre;rw[ZEX x y hy h1 h2 h3 h4,ZIk]
theorem ZBj (x:Int) (h1: -9223372036854775808≤x) (h2:x≤9223372036854775807):Zqp x=some (fOf (x:Rat)):=by unfold Zqp;rw[ZBQ x 1 (by decide) h1 h2 (by decide) (by decide),ZIk,Zzf]
theorem ZEH {a b:Nat} (h:wd a=wd b):a=b:=by rw[←Zsp a,←Zsp b,h]
theorem ZzY (x y:Int) (hx:Wl 100000 x) (hy:Wl 100000 y):ZpB (bg x) (bg y)=some (decide (x=y)):=by
 unfold Wl at hx hy;refine Zso ?_;unfold ZpB ZqF;rw[Zx9,Zx9,Zp2,Zp2,Zoc,Zoc]
 by_cases hs:decide (x < 0)=decide (y < 0)
 ·rw[hs,beq_self_eq_true,ZEU,cond_false]
  by_cases hl:(wd x.natAbs).length=(wd y.natAbs).length
  ·rw[hl,bne_self_eq_false,cond_false,ZnG];refine ZnV (ZtO ZwC (wd y.natAbs).length (by omega) (fun i (_:Unit)=>(iL (wd x.natAbs),((wd y.natAbs).length:Int),i,bg y)) (fun i _=>(wd x.natAbs).take i=(wd y.natAbs).take i)
    (Q:=fun r=>r= .ret false∧wd x.natAbs≠wd y.natAbs∨r= .brk ()∧wd x.natAbs=wd y.natAbs) () (by rw[List.take_zero,List.take_zero]) ?_ ?_) ?_
   ·rintro rec i ⟨⟩ hi hP ih;have hi2:i < (wd x.natAbs).length:=by omega
    unfold ZrZ Zqa;dsimp only;rw[Zoh];refine⟨fun _=> ?_,fun h=>by have:=of_decide_eq_false h;omega⟩;rw[Zp2,ZtW hi2,ZnG,ZnE,ZtW hi,ZnG,ZnE,Zoh];refine⟨fun h=> ?_,fun h=> ?_⟩
    ·rw[ZnE];refine .inl ⟨rfl,fun e=> ?_⟩;have h1:(wd y.natAbs)[i]=(wd x.natAbs)[i]:=by simp only[e]
     rw[h1,bne_self_eq_false]at h;exact absurd h (by decide)
    ·rw[ZnJ];refine⟨ZnL (by omega),ih () ?_⟩;rw[bne_eq_false_iff_eq]at h;have h1:(wd y.natAbs)[i]=(wd x.natAbs)[i]:=by omega
     rw[ZHT hi2,ZHT hi,hP,h1]
   ·rintro rec ⟨⟩ hP;unfold ZrZ Zqa;dsimp only;rw[Zoh];refine⟨fun h=>by have:=of_decide_eq_true h;omega,fun _=> ?_⟩;rw[ZnE];rw[ZHR,←hl,ZHR]at hP;exact .inr ⟨rfl,hP⟩
   ·rintro r (⟨rfl,h⟩ |⟨rfl,h⟩)
    ·exact ZnE.2 (decide_eq_false (fun e=>h (by rw[e]))).symm
    ·unfold Zsx;have h1:=ZEH h;refine ZnE.2 (decide_eq_true ?_).symm
     by_cases hy0:y < 0
     ·have hx0:x < 0:=by rw[decide_eq_true hy0]at hs;exact of_decide_eq_true hs
      omega
     ·have hx0:¬x < 0:=by rw[decide_eq_false hy0]at hs;exact of_decide_eq_false hs
      omega
  ·have:(((wd x.natAbs).length:Int) != ((wd y.natAbs).length:Int))=true:=by rw[bne_iff_ne];omega
   rw[this,cond_true,ZnE];exact(decide_eq_false (fun e=>hl (by rw[e]))).symm
 ·rw[beq_eq_false_iff_ne.2 hs,Bool.not_false,cond_true,cond_true,ZnE];exact(decide_eq_false (fun e=>hs (by rw[e]))).symm
theorem ZyV (p q:Rat) (hp:Wq 256 p) (hq:Wq 256 q):Zqb (fOf p) (fOf q)=some (decide (p=q)):=by
 have m:∀{x:Int},Wl 256 x→Wl 100000 x:=fun h=>ZH2 h (by decide)
 unfold Zqb ZrL fOf;dsimp only;rw[ZzY _ _ (m hp.1) (m hq.1),ZIk]
 by_cases h1:p.num=q.num
 ·rw[decide_eq_true h1,cond_true,ZzY _ _ (m hp.2) (m hq.2),ZIk];congr 1
  by_cases h2:p.den=q.den
  ·rw[decide_eq_true (by omega),decide_eq_true (Rat.ext h1 h2)]
  ·rw[decide_eq_false (by omega),decide_eq_false (fun e=>h2 (by rw[e]))]
 ·rw[decide_eq_false h1,cond_false,decide_eq_false (fun e=>h1 (by rw[e]))]
end Go.Proofs
namespace Go.Proofs
open Go Eng
theorem ZDU (a b:Nat) (ha:(wd a).length≤100000) (hb:(wd b).length≤100000):ZrV (iL (wd a)) (iL (wd b))=some (iL (wd (a*b))):=by
 refine Zso ?_;unfold ZrV;rw[Zoc,Zoc,ZnJ,ZnJ,ZnG,←ZHF,ZHG,ZzI];refine⟨ZnL (by omega),Zyl (by omega), ?_⟩;generalize hm:(wd a).length=m at ha⊢
 generalize hn:(wd b).length=n at hb⊢
 refine ZnV (ZtO Zxn m (by omega) (fun i (s:List Nat)=>(iL (wd a),iL (wd b),i,iL s)) (fun i s=>s.length=m+n∧Dg s∧val s=val ((wd a).take i)*b∧∀k,i+n≤k→k < m+n→s[k]? =some 0)
  (Q:=fun y=>∃(o:List Nat),y=iL o∧Dg o∧o.length=m+n∧val o=a*b) (List.replicate (m+n) 0) ⟨by simp,ZCd _,by rw[ZAS];simp[val],fun k _ h=>by rw[List.getElem?_replicate,if_pos h]⟩ ?_ ?_) ?_
 ·rintro rec i s hlt ⟨hl,hd,hv,hz⟩ ih;have hi:i < (wd a).length:=by omega
  have h1:=(Zu2 a).get hi;unfold Zs7 Zrj;dsimp only;rw[Zoh,Zoc,hm];refine⟨fun _=> ?_,fun h=>by simp only[decide_eq_false_iff_not]at h;omega⟩;rw[ZnG];generalize ex:(wd a)[i]=x at h1;refine ZnV (ZtO Zxm n (by omega) (fun j (t:Nat×List Nat)=>(iL (wd a),iL (wd b),(i:Int),(t.1:Int),j,iL t.2)) (fun j t=>t.1 < Bw∧t.2.length=m+n∧Dg t.2∧val t.2+Bw ^ (i+j)*t.1=val s+Bw ^ i*(x*val ((wd b).take j))∧∀k,i+n≤k→k < m+n→t.2[k]? =some 0)
   (Q:=fun y=>∃(c:Nat) (o:List Nat),y=(iL (wd a),iL (wd b),(i:Int),(c:Int),iL o)∧c < Bw∧o.length=m+n∧Dg o∧val o+Bw ^ (i+n)*c=val s+Bw ^ i*(x*b)∧∀k,i+n≤k→k < m+n→o[k]? =some 0) (0,s) ⟨by simp only[Bw];omega,hl,hd,by simp[val],hz⟩ ?_ ?_) ?_
  ·rintro rec2 j ⟨c,o⟩ hj ⟨hc,hol,hod,hov,hoz⟩ ih2;dsimp only at hc hol hod hov hoz ih2;have hj2:j < (wd b).length:=by omega
   have h2:=(Zu2 b).get hj2;have hij:i+j < o.length:=by omega
   have h3:=hod.get hij;unfold Zs6 Zri;dsimp only;rw[Zoh,Zoc,hn];refine⟨fun _=> ?_,fun h=>by simp only[decide_eq_false_iff_not]at h;omega⟩;rw[ZtW hi,ex,ZnG,ZnE,ZtW hj2,ZnG,ZnE,ZnJ,ZnJ,←ZHF,ZHG,Zyy hij,ZnG,ZnE,ZnJ,ZnJ,ZnJ,ZnJ];generalize ey:(wd b)[j]=y at h2;generalize ee:o[i+j]=e at h3;rw[ZEZ hc h1 h2 h3,Zut,show (32:Int)=((32:Nat):Int)from rfl,Zyd 32 (by omega),Zoc,ZxW];refine⟨ZnL (by omega),ZpI ⟨by omega,by omega⟩,ZnL (by omega),ZpI ⟨by omega,by omega⟩,by decide,ZnL (by omega), ?_⟩;refine ih2 ((c+x*y+e) / Bw,o.set (i+j) ((c+x*y+e) % Bw)) ⟨ZC7 hc h1 h2 h3,by simp[hol],hod.set _ (ZH7 _ (by decide)), ?_,fun k hk hk2=> ?_⟩
   ·dsimp only;have q1:=Zx0 o (i+j) ((c+x*y+e) % Bw) hij;rw[ee]at q1;have q2:Bw ^ (i+j)*((c+x*y+e) % Bw+Bw*((c+x*y+e) / Bw))=Bw ^ (i+j)*(c+x*y+e):=by rw[Nat.mod_add_div]
    rw[ZH8,ZH8,ZH8]at q2;rw[←Nat.add_assoc,ZIg,ZH9,Zoy hj2,ey,ZH8,ZH8];have q3:Bw ^ i*(x*(Bw ^ j*y))=Bw ^ (i+j)*(x*y):=by rw[ZIe,ZH9,ZIb x]
    omega
   ·dsimp only;rw[List.getElem?_set_ne (by omega)];exact hoz k hk hk2
  ·rintro rec2 ⟨c,o⟩ ⟨hc,hol,hod,hov,hoz⟩;dsimp only at hc hol hod hov hoz;unfold Zs6 Zri;dsimp only;rw[Zoh,Zoc,hn];refine⟨fun h=>by have:=of_decide_eq_true h;omega,fun _=> ?_⟩;rw[ZnE];rw[ZHS (by omega),Zsp]at hov;exact⟨c,o,rfl,hc,hol,hod,hov,hoz⟩
  ·rintro y ⟨c,o,rfl,hc,hol,hod,hov,hoz⟩;dsimp only;unfold Zt3;rw[Zoc,hn,ZnJ,ZnJ,ZnJ,←ZHF,ZHG,ZuP hc,ZxW,Zoc];refine⟨ZnL (by omega),ZpI ⟨by omega,by omega⟩,ZnL (by omega), ?_⟩;have hp:i+n < o.length:=by omega
   have h0:o[i+n]=0:=by have:=hoz (i+n) (ZH1 _) (by omega);rw[ZHI hp]at this;exact ZIl this
   have q1:=Zx0 o (i+n) c hp;rw[h0,Nat.mul_zero,Nat.add_zero]at q1;refine ih (o.set (i+n) c) ⟨by simp[hol],hod.set _ hc, ?_,fun k hk hk2=> ?_⟩
   ·rw[q1,hov,hv,Zoy hi,ex,Nat.add_mul,ZH9]
   ·rw[List.getElem?_set_ne (by omega)];exact hoz k (by omega) hk2
 ·rintro rec s ⟨hl,hd,hv,hz⟩;unfold Zs7 Zrj;dsimp only;rw[Zoh,Zoc,hm];refine⟨fun h=>by have:=of_decide_eq_true h;omega,fun _=> ?_⟩;rw[ZnE];rw[ZHS (by omega),Zsp]at hv;exact⟨s,rfl,hd,hl,hv⟩
 ·rintro y ⟨o,rfl,hd,hl,hv⟩;unfold Zt2;rw[ZyD hd (by omega),ZnG,ZnE,ZnE,hv]
theorem ZEb (a b:Nat) (ha:(wd a).length≤100000) (hb:(wd b).length≤100000):∃o:List Nat,Zqs (iL (wd a)) (iL (wd b))=some (iL o)∧Dg o∧o.length≤100001∧val o=a+b:=by
 obtain⟨m,hma,hmb,hm2,hmx⟩:∃m:Nat,(wd a).length≤m∧(wd b).length≤m∧m≤100000∧∀i,i < m→i < (wd a).length∨i < (wd b).length:=by
  by_cases h:(wd a).length≤(wd b).length
  ·exact⟨(wd b).length,h,ZH1 _,hb,fun i hi=> .inr hi⟩
  ·exact⟨(wd a).length,ZH1 _,by omega,ha,fun i hi=> .inl hi⟩
 suffices h:wp (Zqs (iL (wd a)) (iL (wd b))) (fun x=>∃o:List Nat,x=iL o∧Dg o∧o.length≤100001∧val o=a+b) by obtain⟨x,hx,o,rfl,h⟩:=h;exact⟨o,hx,h⟩
 unfold Zqs;rw[ZnG];refine ZnV (ZtO Zxq m (by omega) (fun i (s:Nat×List Nat)=>(iL (wd a),iL (wd b),(s.1:Int),i,iL s.2)) (fun i s=>s.1≤1∧s.2.length=i∧Dg s.2∧val s.2+Bw ^ i*s.1=val ((wd a).take i)+val ((wd b).take i))
  (Q:=fun y=>∃(c:Nat) (o:List Nat),y=((c:Int),iL o)∧c≤1∧Dg o∧o.length=m∧val o+Bw ^ m*c=a+b) (0,[]) ⟨by simp,rfl,ZyB,by simp[val]⟩ ?_ ?_) ?_
 ·rintro rec i ⟨c,o⟩ hlt ⟨hc,hl,hd,hv⟩ ih;dsimp only at hc hl hd hv ih;have h1:=ZyP (Zu2 a) i;have h2:=ZyP (Zu2 b) i;have j3:∀x y:Nat,(wd a).getD i 0=x→(wd b).getD i 0=y→wp (ZqB (fun a b c i out=>rec (a,b,c,i,out)) (iL (wd a)) (iL (wd b)) ((c+x+y:Nat):Int) (i:Int) (iL o)) (fun y=>∃(c:Nat) (o:List Nat),y=((c:Int),iL o)∧c≤1∧Dg o∧o.length=m∧val o+Bw ^ m*c=a+b):=fun x y ex ey=>by
   rw[ex]at h1;rw[ey]at h2;unfold ZqB;rw[ZnJ,ZnJ,ZnJ,Zut,show (32:Int)=((32:Nat):Int)from rfl,Zyd 32 (by omega),Zoc];refine⟨Zw9 (by simp only[ZHN];omega),by decide,ZnL (by omega), ?_⟩;have:=ih ((c+x+y) / Bw,o++[(c+x+y) % Bw]) ⟨by simp only[Bw]at h1 h2⊢;omega,by simp[hl],hd.app (Zx8 (ZH7 _ (by decide))), ?_⟩
   ·rw[ZzJ]at this;exact this
   ·dsimp only;rw[Zu3,hl,ZIg,ZvG,ZvG,ex,ey,Nat.add_assoc,ZH9,←ZH8,Nat.mod_add_div,ZH8,ZH8];omega
  have j2:∀x:Nat,(wd a).getD i 0=x→wp (ZqC (fun a b c i out=>rec (a,b,c,i,out)) (iL (wd a)) (iL (wd b)) ((c+x:Nat):Int) (i:Int) (iL o)) (fun y=>∃(c:Nat) (o:List Nat),y=((c:Int),iL o)∧c≤1∧Dg o∧o.length=m∧val o+Bw ^ m*c=a+b):=fun x ex=>by
   have hx:=h1;rw[ex]at hx;unfold ZqC;rw[Zoc,Zoh];refine⟨fun h=> ?_,fun h=> ?_⟩
   ·have hib:i < (wd b).length:=by have:=of_decide_eq_true h;omega
    have ey:(wd b).getD i 0=(wd b)[i]:=by rw[ZHH,ZHI hib];rfl
    have hy:=(Zu2 b).get hib;rw[ZtW hib,ZnG,ZnE,ZoM (by simp only[Bw]at hy;omega),←ZHF,ZoM (by simp only[Bw]at hx hy;omega)];exact j3 x _ ex ey
   ·have hib:¬i < (wd b).length:=by have:=of_decide_eq_false h;omega
    exact j3 x 0 ex (by rw[ZHH,ZHJ (by omega)];rfl)
  have j1:wp (ZpO (fun a b c i out=>rec (a,b,c,i,out)) (iL (wd a)) (iL (wd b)) (c:Int) (i:Int) true (iL o)) (fun y=>∃(c:Nat) (o:List Nat),y=((c:Int),iL o)∧c≤1∧Dg o∧o.length=m∧val o+Bw ^ m*c=a+b):=by
   unfold ZpO;rw[cond_true,Zoc,Zoh];refine⟨fun h=> ?_,fun h=> ?_⟩
   ·have hib:i < (wd a).length:=by have:=of_decide_eq_true h;omega
    have ey:(wd a).getD i 0=(wd a)[i]:=by rw[ZHH,ZHI hib];rfl
    have hy:=(Zu2 a).get hib;rw[ZtW hib,ZnG,ZnE,ZoM (by simp only[Bw]at hy;omega),←ZHF,ZoM (by simp only[Bw]at hy;omega)];exact j2 _ ey
   ·have hib:¬i < (wd a).length:=by have:=of_decide_eq_false h;omega
    exact j2 0 (by rw[ZHH,ZHJ (by omega)];rfl)
  unfold Ztc Zrm;dsimp only;rw[Zoc,Zoc,Zoh];refine⟨fun _=>j1,fun h=> ?_⟩;have hib:¬i < (wd a).length:=by have:=of_decide_eq_false h;omega
  rw[decide_eq_true (by rcases hmx i hlt with h |h<;>omega)];exact j1
 ·rintro rec ⟨c,o⟩ ⟨hc,hl,hd,hv⟩;dsimp only at hc hl hd hv;unfold Ztc Zrm;dsimp only;rw[Zoc,Zoc,decide_eq_false (by omega),cond_false,decide_eq_false (by omega)];unfold ZpO;rw[cond_false,ZnE];rw[ZHS hma,ZHS hmb,Zsp,Zsp]at hv;exact⟨c,o,rfl,hc,hd,hl,hv⟩
 ·rintro y ⟨c,o,rfl,hc,hd,hl,hv⟩;dsimp only;unfold Zub;have e:iL o++[(c:Int)]=iL (o++[c]):=by rw[ZzJ];rfl
  rw[ZuP (by omega),ZnJ,Zoc,e,ZnE];exact⟨Zw9 (by simp only[ZHN];omega),_,rfl,hd.app (Zx8 (by unfold Bw;omega)),by simp;omega,by rw[Zu3,hl,hv]⟩
end Go.Proofs
namespace Go.Proofs
open Go Eng
theorem Zzw (x y:Int) (hx:Wl 50000 x) (hy:Wl 50000 y):Zn4 (bg x) (bg y)=some (bg (x*y)):=by unfold Zn4;have:=ZA2 hx hy;rw[Zp2,Zp2,ZDU _ _ (by omega) (by omega),ZIk,ZyS _ (Zu2 _) (by omega),Zsp,ZIk,ZCg]
theorem ZCF (x y:Int) (hx:Wl 50000 x) (hy:Wl 50000 y):ZpC (bg x) (bg y)=some (bg (x+y)):=by
 unfold Wl at hx hy;unfold ZpC;have h1:=ZAt hx hy;rw[Zp2,Zp2,Zx9,Zx9];have opp:decide (x < 0)≠decide (y < 0)→ZoB (iL (wd x.natAbs)) (iL (wd y.natAbs))=some (Zz3 x.natAbs y.natAbs):=fun _=>ZzO _ _ (by omega) (by omega)
 by_cases hs:decide (x < 0)=decide (y < 0)
 ·obtain⟨o,ho,hd,hl,hv⟩:=ZEb x.natAbs y.natAbs (by omega) (by omega);rw[hs,beq_self_eq_true,cond_true,ho,ZIk,ZyS _ hd (by omega),hv,ZIk];congr 2
  by_cases hy0:y < 0
  ·have hx0:x < 0:=by rw[decide_eq_true hy0]at hs;exact of_decide_eq_true hs
   rw[decide_eq_true hy0,if_pos rfl];omega
  ·have hx0:¬x < 0:=by rw[decide_eq_false hy0]at hs;exact of_decide_eq_false hs
   rw[decide_eq_false hy0,if_neg (by decide)];omega
 ·rw[beq_eq_false_iff_ne.2 hs,cond_false,opp hs,ZIk];rcases ZH5 x.natAbs y.natAbs with hlt |hge
  ·have:=ZsI (Nat.sub_le y.natAbs x.natAbs);rw[ZwH hlt,decide_eq_false (by omega),cond_false,Zzy _ _ (by omega) (by omega),ZIk,ZyS _ (Zu2 _) (by omega),Zsp,ZIk];congr 2
   by_cases hy0:y < 0
   ·have hx0:¬x < 0:=fun h=>hs (by rw[decide_eq_true hy0,decide_eq_true h])
    rw[decide_eq_true hy0,if_pos rfl];omega
   ·have hx0:x < 0:=Decidable.byContradiction fun h=>hs (by rw[decide_eq_false hy0,decide_eq_false h])
    rw[decide_eq_false hy0,if_neg (by decide)];omega
  ·have hn:Zz3 x.natAbs y.natAbs≥0:=by
    rcases ZH5 y.natAbs x.natAbs with h |h
    ·rw[Zwz h];decide
    ·rw[show x.natAbs=y.natAbs by omega,ZvE];decide
   have:=ZsI (Nat.sub_le x.natAbs y.natAbs);rw[decide_eq_true hn,cond_true,Zzy _ _ hge (by omega),ZIk,ZyS _ (Zu2 _) (by omega),Zsp,ZIk];congr 2
   by_cases hx0:x < 0
   ·have hy0:¬y < 0:=fun h=>hs (by rw[decide_eq_true hx0,decide_eq_true h])
    rw[decide_eq_true hx0,if_pos rfl];omega
   ·have hy0:y < 0:=Decidable.byContradiction fun h=>hs (by rw[decide_eq_false hx0,decide_eq_false h])
    rw[decide_eq_false hx0,if_neg (by decide)];omega
theorem Zzu (q:Rat) (h:Wq 256 q):Zoe (fOf q)=some true:=by
 have hn:=h.1;have hd:=h.2;have hd0:=q.den_nz;unfold Zoe Zpl fOf;dsimp only;rw[ZwK,Zxx _ h.1,ZIk,ZEU,cond_false,ZwK,Zxx _ h.2,ZIk,ZEU,cond_false,Zx9,decide_eq_false (by omega),cond_false,Zy6 (by omega),cond_false,Zp2,Zp2,Zoc];unfold Wl at hn hd;have h1:(wd 1).length≤1:=ZwL (by decide);have hc:ZHZ q.num.natAbs (q.den:Int).natAbs=1:=q.reduced
 by_cases h0:q.num=0
 ·rw[h0]at hc;have e:(q.den:Int).natAbs=1:=by rwa [show (0:Int).natAbs=0 from rfl,Nat.gcd_zero_left]at hc
  rw[h0,show (0:Int).natAbs=0 from rfl,Zu1,e,←ZzB,ZzO 1 1 (by omega) (by omega),ZvE];rfl
 ·have hl:=Zuu (n:=q.num.natAbs) (by omega);rw[beq_eq_false_iff_ne.2 (by omega),cond_false,ZB9 _ _ (by omega) (by omega) (by omega) (by omega),hc,ZIk,←ZzB,ZzO 1 1 (by omega) (by omega),ZvE];rfl
theorem ZBs (x y:Int) (hy:y≠0) (hx1:Wl 50000 x) (hy1:Wl 50000 y) (hq:Wq 256 (Rat.divInt x y)):Zqx (bg x) (bg y)=some (fOf (Rat.divInt x y),0):=by have h1:=hq.1;have h2:=hq.2;unfold Wl at h1 h2;unfold Zqx Zq8;rw[Zz4 x y hy hx1 hy1,ZIk];unfold fOf;rw[Zp2,Zp2,Zoc,Zoc,decide_eq_false (by omega),cond_false,decide_eq_false (by omega),cond_false]
theorem ZEc {a b:Rat} {k l:Nat} (ha:Sz k a) (hb:Sz l b) (hk:k+l+1≤8192):ZrX (fOf a) (fOf b)=some (fOf (a+b),0):=by
 have h1:=a.den_nz;have h2:=b.den_nz;have qa:=ha.wq (by omega);have qb:=hb.wq (by omega);have w:∀{x y:Int},Wl 256 x→Wl 256 y→Wl 512 (x*y):=fun hx hy=>by unfold Wl;rw[ZHD];exact ZA2 hx hy
 have m:∀{n:Nat} {x:Int},Wl n x→n≤50000→Wl 50000 x:=fun h h'=>ZH2 h h'
 have w1:=w qa.1 qb.2;have w2:=w qb.1 qa.2;have w3:=w qa.2 qb.2;have w4:Wl 513 (a.num*(b.den:Int)+b.num*(a.den:Int)):=ZH2 (ZsI (Int.natAbs_add_le _ _)) (ZAt w1 w2);have hd:(a.den:Int)*(b.den:Int)≠0:=Int.mul_ne_zero (by omega) (by omega);unfold ZrX Zsi;rw[Zzu a qa,ZIk,ZEU,cond_false,Zzu b qb,ZIk,ZEU,cond_false];show ((Zn4 (bg a.num) (bg (b.den:Int))).bind fun q=>(Zn4 (bg b.num) (bg (a.den:Int))).bind fun q_1=>(ZpC q q_1).bind fun q_2=>(Zn4 (bg (a.den:Int)) (bg (b.den:Int))).bind _)=_;rw[Zzw _ _ (m qa.1 (by omega)) (m qb.2 (by omega)),ZIk,Zzw _ _ (m qb.1 (by omega)) (m qa.2 (by omega)),ZIk,ZCF _ _ (m w1 (by omega)) (m w2 (by omega)),ZIk,Zzw _ _ (m qa.2 (by omega)) (m qb.2 (by omega)),ZIk];have hw:Wq 256 (Rat.divInt (a.num*(b.den:Int)+b.num*(a.den:Int)) ((a.den:Int)*(b.den:Int))):=by rw[ZyF];exact(ha.add hb).wq hk
 rw[ZBs _ _ hd (m w4 (by omega)) (m w3 (by omega)) hw,ZyF,ZIk]
theorem ZCV {a b:Rat} {k l:Nat} (ha:Sz k a) (hb:Sz l b) (hk:k+l+1≤8192):ZrU (fOf a) (fOf b)=some (fOf (a+b)):=by unfold ZrU;rw[ZEc ha hb hk];rfl
theorem ZBG:Zrd=some (fOf 0):=by unfold Zrd;rw[ZBj 0 (by decide) (by decide),ZIk];rfl
end Go.Proofs
namespace Go.Proofs
open Go Eng
section
variable {α:Type} (lt:α→α→Bool)
def ZC9 (x:α):List α→List α
 | []=>[x]
 |p::r=>if lt x p then p::ZC9 x r else x::p::r
def ZAP (x:α) (A:List α):List α:=(ZC9 lt x A.reverse).reverse
def Zwk (l:List α):List α:=l.foldl (fun s x=>ZAP lt x s) []
variable {lt}
theorem ZCP (x:α):ZAP lt x []=[x]:=rfl
theorem ZB2 (x p:α) (A:List α):ZAP lt x (A++[p])=if lt x p then ZAP lt x A++[p]else A++[p,x]:=by unfold ZAP;rw[List.reverse_append,List.reverse_singleton,List.singleton_append,ZC9];split;rotate_left;simp;rw[List.reverse_cons]
theorem ZzH (x:α):∀l:List α,(ZC9 lt x l).Perm (x::l)
 | []=> .refl _
 |p::r=>by
  unfold ZC9;split
  ·exact((ZzH x r).cons p).trans (.swap _ _ _)
  ·exact .refl _
theorem ZAL (x:α) (A:List α):(ZAP lt x A).Perm (A++[x]):=by unfold ZAP;refine(List.reverse_perm _).trans ((ZzH x _).trans ?_);refine(List.Perm.cons x (List.reverse_perm A)).trans ?_;exact(List.perm_append_singleton x A).symm
theorem ZBA (l:List α) (x:α):Zwk lt (l++[x])=ZAP lt x (Zwk lt l):=by simp[Zwk]
theorem ZvL (l:List α):(Zwk lt l).Perm l:=by
 have key:∀(l s:List α),(l.foldl (fun s x=>ZAP lt x s) s).Perm (s++l):=by
  intro l
  induction l with
  |nil=>intro s;simp
  |cons x l ih=>
   intro s;refine(ih _).trans ?_;refine((ZAL x s).append_right l).trans ?_;simp
 simpa[Zwk]using key l []
theorem ZwA (l:List α):(Zwk lt l).length=l.length:=(ZvL l).length_eq
theorem ZzG (P:α→Prop) (le:α→α→Prop) (hlt:∀x p,P x→P p→lt x p=true→le x p) (hnlt:∀x p,P x→P p→lt x p=false→le p x) (htr:∀a b c,P a→P b→P c→le a b→le b c→le a c)
  (x:α) (hx:P x):∀l:List α,(∀y∈l,P y)→l.Pairwise (fun a b=>le b a)→(ZC9 lt x l).Pairwise (fun a b=>le b a)
 | [],_,_=>by simp[ZC9]
 |p::r,hP,h=>by
  have hp:=hP p (by simp);have hr:=ZHQ.1 h;unfold ZC9;cases hc:lt x p with
  |true=>
   rw[if_pos rfl,ZHQ];refine⟨fun y hy=> ?_,ZzG P le hlt hnlt htr x hx r (fun y hy=>hP y (by simp[hy])) hr.2⟩;rcases ZHP.1 ((ZzH x r).mem_iff.1 hy)with rfl |hy
   ·exact hlt _ _ hx hp hc
   ·exact hr.1 y hy
  |false=>
   rw[if_neg (by simp),ZHQ];refine⟨fun y hy=> ?_,h⟩;have hxp:=hnlt x p hx hp hc;rcases ZHP.1 hy with rfl |hy
   ·exact hxp
   ·exact htr _ _ _ (hP y (by simp[hy])) hp hx (hr.1 y hy) hxp
theorem Zzk (P:α→Prop) (le:α→α→Prop) (hlt:∀x p,P x→P p→lt x p=true→le x p) (hnlt:∀x p,P x→P p→lt x p=false→le p x) (htr:∀a b c,P a→P b→P c→le a b→le b c→le a c)
  (l:List α) (hl:∀y∈l,P y):(Zwk lt l).Pairwise le:=by
 have key:∀(l s:List α),(∀y∈l,P y)→(∀y∈s,P y)→s.Pairwise le→(l.foldl (fun s x=>ZAP lt x s) s).Pairwise le:=by
  intro l
  induction l with
  |nil=>intro s _ _ h;exact h
  |cons x l ih=>
   intro s hl hs h;refine ih _ (fun y hy=>hl y (by simp[hy])) (fun y hy=> ?_) ?_
   ·rcases List.mem_append.1 ((ZAL x s).mem_iff.1 hy)with hy |hy
    ·exact hs y hy
    ·simp only[List.mem_singleton]at hy;subst hy;exact hl _ (by simp)
   ·unfold ZAP;rw[List.pairwise_reverse];exact ZzG P le hlt hnlt htr x (hl x (by simp)) s.reverse (fun y hy=>hs y (List.mem_reverse.1 hy)) (by rw[List.pairwise_reverse];exact h)
 exact key l [] hl (by simp) (by simp)
theorem ZAA (P:α→Prop) (le:α→α→Prop) (hanti:∀a b,P a→P b→le a b→le b a→a=b):∀{l l':List α},(∀y∈l,P y)→l.Perm l'→l.Pairwise le→l'.Pairwise le→l=l'
 | [],l',_,hp,_,_=>(List.nil_perm.1 hp).symm
 |x::l,[],_,hp,_,_=>by have:=hp.length_eq;simp at this
 |x::l,y::l',hP,hp,h,h'=>by
  have hx:=ZHQ.1 h;have hy:=ZHQ.1 h';have hPy:P y:=hP y (hp.mem_iff.2 (by simp));have e:x=y:=by
   rcases ZHP.1 (hp.mem_iff.1 (List.mem_cons_self (a:=x) (l:=l)))with e |hxm
   ·exact e
   ·rcases ZHP.1 (hp.mem_iff.2 (List.mem_cons_self (a:=y) (l:=l')))with e |hym
    ·exact e.symm
    ·exact hanti x y (hP x (by simp)) hPy (hx.1 y hym) (hy.1 x hxm)
  subst e;rw[ZAA P le hanti (fun z hz=>hP z (by simp[hz])) hp.cons_inv hx.2 hy.2]
end
theorem ZBM {α:Type} (A C:List α) (p x:α):((A++p::x::C).set (A.length+1) p).set A.length x=A++x::p::C:=by
 induction A with
 |nil=>rfl
 |cons a A ih=>simp only[List.cons_append,List.length_cons,List.set_cons_succ,ih]
end Go.Proofs
namespace Go.Proofs
open Go Eng
def ZGZ (h:Int) (c:UInt8):Int:=IntKind.wrap .u64 ((xorK .u64 h (IntKind.wrap .u64 ((c.toNat:Nat):Int)))*1099511628211)
def ZzK (s:Str):Int:=s.foldl ZGZ 14695981039346656037
theorem ZAm {s:Str} (hs:s.length≤1000000):ZsV s=some (ZzK s):=by
 refine Zso ?_;unfold ZsV;rw[ZnG];refine ZnV (ZyA ZyO s (by omega) (fun i (h:Int)=>(s,h,(s.length:Int),i)) (fun k h=>h=ZzK (s.take k)) (Q:=fun x=>x=ZzK s) 14695981039346656037 rfl ?_ ?_) ?_
 ·rintro rec k h hk rfl ih;unfold Zws Zvb;dsimp only;rw[decide_eq_true (show (k:Int) < (s.length:Int) by omega),cond_true,ZwJ hk,ZnG,ZnE,ZnJ];refine⟨ZnL (by omega),ih _ ?_⟩;rw[ZHT hk];unfold ZzK;rw[List.foldl_append];rfl
 ·rintro rec h rfl;unfold Zws Zvb;dsimp only;rw[decide_eq_false (show ¬(s.length:Int) < (s.length:Int) by omega),cond_false,ZnE,ZHR]
 ·rintro _ rfl;unfold Zw8;rw[ZnE]
theorem ZAo:∀{a b:List UInt8},Lib.compareBytes a b=0→a=b
 | [],[],_=>rfl
 | [],_::_,h=>by simp[Lib.compareBytes]at h
 |_::_,[],h=>by simp[Lib.compareBytes]at h
 |x::a,y::b,h=>by
  unfold Lib.compareBytes at h;split at h
  ·simp at h
  ·rename_i h1;split at h
   ·simp at h
   ·rename_i h2;have:x=y:=UInt8.le_antisymm (ZIm.1 h2) (ZIm.1 h1);rw[this,ZAo h]
theorem ZDa:∀a b:List UInt8,Lib.compareBytes b a= - Lib.compareBytes a b
 | [],[]=>by simp[Lib.compareBytes]
 | [],_::_=>by simp[Lib.compareBytes]
 |_::_,[]=>by simp[Lib.compareBytes]
 |x::a,y::b=>by
  unfold Lib.compareBytes
  by_cases h1:x < y
  ·rw[if_pos h1,if_neg (fun h=>UInt8.lt_asymm h1 h),if_pos h1];rfl
  ·by_cases h2:y < x
   ·rw[if_pos h2,if_neg h1,if_pos h2]
   ·rw[if_neg h1,if_neg h2,if_neg h2,if_neg h1,ZDa a b]
theorem ZBm:∀{a b c:List UInt8},Lib.compareBytes a b < 0→Lib.compareBytes b c < 0→Lib.compareBytes a c < 0
 | [],[],_,h,_=>by simp[Lib.compareBytes]at h
 | [],_::_,[],_,h=>by simp[Lib.compareBytes]at h
 | [],_::_,_::_,_,_=>by simp[Lib.compareBytes]
 |_::_,[],_,h,_=>by simp[Lib.compareBytes]at h
 |_::_,_::_,[],_,h=>by simp[Lib.compareBytes]at h
 |x::a,y::b,z::c,h1,h2=>by
  unfold Lib.compareBytes at h1 h2⊢
  by_cases hxy:x < y
  ·by_cases hyz:y < z
   ·rw[if_pos (UInt8.lt_trans hxy hyz)];decide
   ·rw[if_neg hyz]at h2
    by_cases hzy:z < y
    ·rw[if_pos hzy]at h2;simp at h2
    ·have:y=z:=UInt8.le_antisymm (ZIm.1 hzy) (ZIm.1 hyz);subst this;rw[if_pos hxy];decide
  ·rw[if_neg hxy]at h1
   by_cases hyx:y < x
   ·rw[if_pos hyx]at h1;simp at h1
   ·have:x=y:=UInt8.le_antisymm (ZIm.1 hyx) (ZIm.1 hxy);subst this;rw[if_neg (UInt8.lt_irrefl x)]at h1
    by_cases hyz:x < z
    ·rw[if_pos hyz];decide
    ·rw[if_neg hyz]at h2⊢
     by_cases hzy:z < x
     ·rw[if_pos hzy]at h2;simp at h2
     ·rw[if_neg hzy]at h2⊢
      exact ZBm h1 h2
def Zv2 (a b:ZnA):Int:=if a.Hash < b.Hash then -1 else if a.Hash > b.Hash then 1 else Lib.compareBytes a.Key b.Key
theorem ZBS (a b:Int):ZwY [a,b]=some (if a≠0 then a else b):=by
 obtain⟨n,hn⟩:=ZyR 3 (by omega);have e0:idx [a,b] 0=some a:=rfl;have e1:idx [a,b] 1=some b:=rfl;have l:((([a,b]:List Int).length:Nat):Int)=2:=rfl;have s1:∀rec,Zr9 rec 0 [a,b] 2 0=if a≠0 then some (.ret a)else rec 0 [a,b] 2 1:=by
  intro rec;unfold Zr9;rw[e0,show decide ((0:Int) < 2)=true from rfl,cond_true,ZIk]
  by_cases h:a=0
  ·rw[if_neg (by simp[h]),show (a != 0)=false by simp[h],cond_false];rfl
  ·rw[if_pos h,show (a != 0)=true by simpa using h,cond_true]
 have s2:∀rec,Zr9 rec 0 [a,b] 2 1=if b≠0 then some (.ret b)else rec 0 [a,b] 2 2:=by
  intro rec;unfold Zr9;rw[e1,show decide ((1:Int) < 2)=true from rfl,cond_true,ZIk]
  by_cases h:b=0
  ·rw[if_neg (by simp[h]),show (b != 0)=false by simp[h],cond_false];rfl
  ·rw[if_pos h,show (b != 0)=true by simpa using h,cond_true]
 have s3:∀rec,Zr9 rec 0 [a,b] 2 2=some (.brk 0):=fun rec=>rfl
 have u:∀m t i,ZvD (m+1) 0 [a,b] t i=Zr9 (ZvD m) 0 [a,b] t i:=fun _ _ _=>rfl
 unfold ZwY ZxI;rw[hn,l,u (n+2),s1]
 by_cases h:a=0
 ·rw[if_neg (by simp[h]),if_neg (by simp[h]),u (n+1),s2]
  by_cases h2:b=0
  ·rw[if_neg (by simp[h2]),u n,s3,h2];rfl
  ·rw[if_pos h2];rfl
 ·rw[if_pos h,if_pos h];rfl
theorem ZxV (a b:ZnA):ZoV a b=some (Zv2 a b):=by
 unfold ZoV Zur ZtV ZvH Zp1 Zv2;simp only[bne_self_eq_false,ZIk,cond_false]
 by_cases h1:a.Hash < b.Hash
 ·rw[decide_eq_true h1,cond_true,ZIk,ZBS,if_pos h1,if_pos (by decide)];rfl
 ·by_cases h2:a.Hash > b.Hash
  ·rw[decide_eq_false h1,cond_false,decide_eq_true h2,cond_true,ZIk,ZBS,if_neg h1,if_pos h2,if_pos (by decide)];rfl
  ·rw[decide_eq_false h1,cond_false,decide_eq_false h2,cond_false,ZIk,ZBS,if_neg h1,if_neg h2,if_neg (by decide)];rfl
def ZyK (a:ZnA):Prop:=a.Hash=ZzK a.Key
def ltE (a b:ZnA):Bool:=decide (Zv2 a b < 0)
theorem Zyh (a b:ZnA):Zv2 b a= - Zv2 a b:=by
 unfold Zv2
 by_cases h1:a.Hash < b.Hash
 ·rw[if_pos h1,if_neg (by omega),if_pos (by omega)];rfl
 ·by_cases h2:a.Hash > b.Hash
  ·rw[if_pos (show b.Hash < a.Hash from h2),if_neg h1,if_pos h2]
  ·rw[if_neg h1,if_neg h2,if_neg (by omega),if_neg (by omega),ZDa]
theorem Zz0 {a b c:ZnA} (h1:Zv2 a b < 0) (h2:Zv2 b c < 0):Zv2 a c < 0:=by
 unfold Zv2 at*
 by_cases e1:a.Hash < b.Hash
 ·by_cases e2:b.Hash < c.Hash
  ·rw[if_pos (by omega)];decide
  ·rw[if_neg e2]at h2
   by_cases e3:b.Hash > c.Hash
   ·rw[if_pos e3]at h2;simp at h2
   ·rw[if_pos (by omega)];decide
 ·rw[if_neg e1]at h1
  by_cases e4:a.Hash > b.Hash
  ·rw[if_pos e4]at h1;simp at h1
  ·rw[if_neg e4]at h1
   by_cases e2:b.Hash < c.Hash
   ·rw[if_pos (by omega)];decide
   ·rw[if_neg e2]at h2
    by_cases e3:b.Hash > c.Hash
    ·rw[if_pos e3]at h2;simp at h2
    ·rw[if_neg e3]at h2;rw[if_neg (by omega),if_neg (by omega)];exact ZBm h1 h2
theorem ZyW {a b:ZnA} (h:Zv2 a b=0):a.Key=b.Key:=by
 unfold Zv2 at h;split at h
 ·simp at h
 ·split at h
  ·simp at h
  ·exact ZAo h
end Go.Proofs
namespace Go.Proofs
open Go Eng
abbrev En1:=ZnA
def Lo (d:List En1) (p:En1) (i:Nat):Prop:=∀k x,1≤k→k < i→d[k]? =some x→Zv2 x p < 0
def Hi (d:List En1) (p:En1) (j:Nat):Prop:=∀k x,j < k→d[k]? =some x→¬Zv2 x p < 0
def sw (d:List En1) (i j:Nat) (hi:i < d.length) (hj:j < d.length):List En1:=(d.set i d[j]).set j d[i]
theorem ZAf {d:List En1} {i j:Nat} (hi:i < d.length) (hj:j < d.length):(sw d i j hi hj).Perm d:=List.set_set_perm hi hj
theorem ZAy {d:List En1} {i j:Nat} (hi:i < d.length) (hj:j < d.length):(sw d i j hi hj).length=d.length:=by unfold sw;rw[ZHM,ZHM]
theorem ZzW {d:List En1} {i j:Nat} (hi:i < d.length) (hj:j < d.length) (k:Nat) (hk:k < d.length):(sw d i j hi hj)[k]? =if k=j then some d[i]else if k=i then some d[j]else d[k]? :=by
 unfold sw;rw[List.getElem?_set,List.getElem?_set,ZHM]
 by_cases h1:j=k
 ·rw[if_pos h1,if_pos (by omega),if_pos h1.symm]
 ·rw[if_neg h1]
  by_cases h2:i=k
  ·rw[if_pos h2,if_pos (by omega),if_neg (show ¬k=j by omega),if_pos h2.symm]
  ·rw[if_neg h2,if_neg (show ¬k=j by omega),if_neg (show ¬k=i by omega)]
theorem ZEJ {d:List En1} {p:En1} (h0:d[0]? =some p) (hn:d.length≤1000) {i j:Nat} (hi:1≤i) (hij:i≤j+1) (hj:j < d.length) (hA:Lo d p i):
  wp (Zn1 big 0 (i:Int) (j:Int) d) (fun x=>∃i':Nat,x=(0,(i':Int),(j:Int),d)∧i≤i'∧i'≤j+1∧Lo d p i'∧∀h:i'≤j,¬Zv2 (d[i']'(by omega)) p < 0):=by
 have hp:d[0]'(by omega)=p:=(ZHK.1 h0).2;refine Zv3 Zug (fun i:Nat=>((0:Int),(i:Int),(j:Int),d)) (fun i'=>i≤i'∧i'≤j+1∧Lo d p i') (fun i'=>j+1 - i')
  (Q:=fun x=>∃i':Nat,x=(0,(i':Int),(j:Int),d)∧i≤i'∧i'≤j+1∧Lo d p i'∧∀h:i'≤j,¬Zv2 (d[i']'(by omega)) p < 0) i ⟨ZH1 _,hij,hA⟩ (by omega) ?_
 rintro rec i' ⟨h1,h2,h3⟩ ih;unfold ZqV Zpf ZoL;dsimp only
 by_cases hc:i'≤j
 ·have hi':i' < d.length:=by omega
  rw[decide_eq_true (show (i':Int)≤(j:Int) by omega),cond_true,ZnJ,ZHG,ZHI hi',ZnG,ZnE,ZnJ,show ((0:Int)).toNat=0 from rfl,h0,ZnG,ZnE,ZxV,ZnG,ZnE];refine⟨ZuH hi',ZpI ⟨by omega,by omega⟩, ?_⟩
  by_cases ho:Zv2 d[i'] p < 0
  ·rw[decide_eq_true ho,cond_true,ZnJ];refine⟨ZnL (by omega),ih (i'+1) ⟨by omega,by omega,fun k x hk1 hk2 hx=> ?_⟩ (by omega)⟩
   by_cases e:k=i'
   ·subst e;rw[ZHI hi']at hx;rw[←ZIl hx];exact ho
   ·exact h3 k x hk1 (by omega) hx
  ·rw[decide_eq_false ho,cond_false,ZnE];exact⟨i',rfl,h1,h2,h3,fun _=>ho⟩
 ·rw[decide_eq_false (show ¬(i':Int)≤(j:Int) by omega),cond_false,cond_false,ZnE];exact⟨i',rfl,h1,h2,h3,fun h=>absurd h hc⟩
theorem ZEI {d:List En1} {p:En1} (h0:d[0]? =some p) (hn:d.length≤1000) {i j:Nat} (hi:1≤i) (hij:i≤j+1) (hj:j < d.length) (hA:Lo d p i):
  wp (ZnZ big 0 (i:Int) (j:Int) d) (fun x=>∃i':Nat,x=(0,(i':Int),(j:Int),d)∧i≤i'∧i'≤j+1∧Lo d p i'∧∀h:i'≤j,¬Zv2 (d[i']'(by omega)) p < 0):=by
 have hp:d[0]'(by omega)=p:=(ZHK.1 h0).2;refine Zv3 Zud (fun i:Nat=>((0:Int),(i:Int),(j:Int),d)) (fun i'=>i≤i'∧i'≤j+1∧Lo d p i') (fun i'=>j+1 - i')
  (Q:=fun x=>∃i':Nat,x=(0,(i':Int),(j:Int),d)∧i≤i'∧i'≤j+1∧Lo d p i'∧∀h:i'≤j,¬Zv2 (d[i']'(by omega)) p < 0) i ⟨ZH1 _,hij,hA⟩ (by omega) ?_
 rintro rec i' ⟨h1,h2,h3⟩ ih;unfold ZqP Zpc ZoJ;dsimp only
 by_cases hc:i'≤j
 ·have hi':i' < d.length:=by omega
  rw[decide_eq_true (show (i':Int)≤(j:Int) by omega),cond_true,ZnJ,ZHG,ZHI hi',ZnG,ZnE,ZnJ,show ((0:Int)).toNat=0 from rfl,h0,ZnG,ZnE,ZxV,ZnG,ZnE];refine⟨ZuH hi',ZpI ⟨by omega,by omega⟩, ?_⟩
  by_cases ho:Zv2 d[i'] p < 0
  ·rw[decide_eq_true ho,cond_true,ZnJ];refine⟨ZnL (by omega),ih (i'+1) ⟨by omega,by omega,fun k x hk1 hk2 hx=> ?_⟩ (by omega)⟩
   by_cases e:k=i'
   ·subst e;rw[ZHI hi']at hx;rw[←ZIl hx];exact ho
   ·exact h3 k x hk1 (by omega) hx
  ·rw[decide_eq_false ho,cond_false,ZnE];exact⟨i',rfl,h1,h2,h3,fun _=>ho⟩
 ·rw[decide_eq_false (show ¬(i':Int)≤(j:Int) by omega),cond_false,cond_false,ZnE];exact⟨i',rfl,h1,h2,h3,fun h=>absurd h hc⟩
theorem ZCS {d:List En1} {p:En1} (h0:d[0]? =some p) (hn:d.length≤1000) {i j:Nat} (hi:1≤i) (hij:i≤j+1) (hj:j < d.length) (hB:Hi d p j):
  wp (Zn0 big 0 (i:Int) (j:Int) d) (fun x=>∃j':Nat,x=(0,(i:Int),(j':Int),d)∧j'≤j∧i≤j'+1∧Hi d p j'∧∀h:i≤j',∀hl:j' < d.length,Zv2 d[j'] p < 0):=by
 refine Zv3 Zuf (fun j:Nat=>((0:Int),(i:Int),(j:Int),d)) (fun j'=>j'≤j∧i≤j'+1∧Hi d p j') (fun j'=>j')
  (Q:=fun x=>∃j':Nat,x=(0,(i:Int),(j':Int),d)∧j'≤j∧i≤j'+1∧Hi d p j'∧∀h:i≤j',∀hl:j' < d.length,Zv2 d[j'] p < 0) j ⟨ZH1 _,hij,hB⟩ (by omega) ?_
 rintro rec j' ⟨h1,h2,h3⟩ ih;unfold ZqT Zpe ZoK;dsimp only
 by_cases hc:i≤j'
 ·have hj':j' < d.length:=by omega
  rw[decide_eq_true (show (i:Int)≤(j':Int) by omega),cond_true,ZnJ,ZHG,ZHI hj',ZnG,ZnE,ZnJ,show ((0:Int)).toNat=0 from rfl,h0,ZnG,ZnE,ZxV,ZnG,ZnE];refine⟨ZuH hj',ZpI ⟨by omega,by omega⟩, ?_⟩
  by_cases ho:Zv2 d[j'] p < 0
  ·rw[decide_eq_true ho,ZEU,cond_false,ZnE];exact⟨j',rfl,h1,h2,h3,fun _ _=>ho⟩
  ·rw[decide_eq_false ho,Bool.not_false,cond_true,ZnJ,show (j':Int) - 1=((j' - 1:Nat):Int) by omega];refine⟨ZnL (by omega),ih (j' - 1) ⟨by omega,by omega,fun k x hk hx=> ?_⟩ (by omega)⟩
   by_cases e:k=j'
   ·subst e;rw[ZHI hj']at hx;rw[←ZIl hx];exact ho
   ·exact h3 k x (by omega) hx
 ·rw[decide_eq_false (show ¬(i:Int)≤(j':Int) by omega),cond_false,cond_false,ZnE];exact⟨j',rfl,h1,h2,h3,fun h=>absurd h hc⟩
theorem ZCR {d:List En1} {p:En1} (h0:d[0]? =some p) (hn:d.length≤1000) {i j:Nat} (hi:1≤i) (hij:i≤j+1) (hj:j < d.length) (hB:Hi d p j):
  wp (ZnY big 0 (i:Int) (j:Int) d) (fun x=>∃j':Nat,x=(0,(i:Int),(j':Int),d)∧j'≤j∧i≤j'+1∧Hi d p j'∧∀h:i≤j',∀hl:j' < d.length,Zv2 d[j'] p < 0):=by
 refine Zv3 Zuc (fun j:Nat=>((0:Int),(i:Int),(j:Int),d)) (fun j'=>j'≤j∧i≤j'+1∧Hi d p j') (fun j'=>j')
  (Q:=fun x=>∃j':Nat,x=(0,(i:Int),(j':Int),d)∧j'≤j∧i≤j'+1∧Hi d p j'∧∀h:i≤j',∀hl:j' < d.length,Zv2 d[j'] p < 0) j ⟨ZH1 _,hij,hB⟩ (by omega) ?_
 rintro rec j' ⟨h1,h2,h3⟩ ih;unfold ZqN Zpb ZoI;dsimp only
 by_cases hc:i≤j'
 ·have hj':j' < d.length:=by omega
  rw[decide_eq_true (show (i:Int)≤(j':Int) by omega),cond_true,ZnJ,ZHG,ZHI hj',ZnG,ZnE,ZnJ,show ((0:Int)).toNat=0 from rfl,h0,ZnG,ZnE,ZxV,ZnG,ZnE];refine⟨ZuH hj',ZpI ⟨by omega,by omega⟩, ?_⟩
  by_cases ho:Zv2 d[j'] p < 0
  ·rw[decide_eq_true ho,ZEU,cond_false,ZnE];exact⟨j',rfl,h1,h2,h3,fun _ _=>ho⟩
  ·rw[decide_eq_false ho,Bool.not_false,cond_true,ZnJ,show (j':Int) - 1=((j' - 1:Nat):Int) by omega];refine⟨ZnL (by omega),ih (j' - 1) ⟨by omega,by omega,fun k x hk hx=> ?_⟩ (by omega)⟩
   by_cases e:k=j'
   ·subst e;rw[ZHI hj']at hx;rw[←ZIl hx];exact ho
   ·exact h3 k x (by omega) hx
 ·rw[decide_eq_false (show ¬(i:Int)≤(j':Int) by omega),cond_false,cond_false,ZnE];exact⟨j',rfl,h1,h2,h3,fun h=>absurd h hc⟩
theorem ZA9 {d:List En1} {p:En1} {i j:Nat} (h0:d[0]? =some p) (hi:1≤i) (hij:i < j) (hj:j < d.length) (hA:Lo d p i) (hB:Hi d p j) (h1:¬Zv2 (d[i]'(by omega)) p < 0) (h2:Zv2 d[j] p < 0):
  (sw d i j (by omega) hj)[0]? =some p∧Lo (sw d i j (by omega) hj) p (i+1)∧Hi (sw d i j (by omega) hj) p (j - 1):=by
 have hi':i < d.length:=by omega
 refine⟨?_,fun k x hk1 hk2 hx=> ?_,fun k x hk hx=> ?_⟩
 ·rw[ZzW hi' hj 0 (by omega),if_neg (by omega),if_neg (by omega),h0]
 ·rw[ZzW hi' hj k (by omega),if_neg (by omega)]at hx
  by_cases e:k=i
  ·rw[if_pos e]at hx;rw[←ZIl hx];exact h2
  ·rw[if_neg e]at hx;exact hA k x hk1 (by omega) hx
 ·have hkl:k < d.length:=by
   have:=(ZHK.1 hx).1
   rwa [ZAy]at this
  rw[ZzW hi' hj k hkl]at hx
  by_cases e:k=j
  ·rw[if_pos e]at hx;rw[←ZIl hx];exact h1
  ·rw[if_neg e,if_neg (by omega)]at hx;exact hB k x (by omega) hx
def ZDb (D:List En1) (x:Int×Bool×List En1):Prop:=∃L p R,x.2.2=L++p::R∧x.1=(L.length:Int)∧(∀y∈L,Zv2 y p < 0)∧(∀y∈R,¬Zv2 y p < 0)∧(L++p::R).Perm D
theorem ZAD {D d:List En1} {p:En1} {j:Nat} (h0:d[0]? =some p) (hj:j < d.length) (hA:Lo d p (j+1)) (hB:Hi d p j) (hp:d.Perm D) (b:Bool):ZDb D ((j:Int),b,sw d j 0 hj (by omega)):=by
 have h00:0 < d.length:=by omega
 have hp0:d[0]=p:=(ZHK.1 h0).2;have hl:=ZAy (d:=d) hj h00;have hgj:(sw d j 0 hj h00)[j]? =some p:=by
  rw[ZzW hj h00 j hj]
  by_cases e:j=0
  ·subst e;rw[if_pos rfl,hp0]
  ·rw[if_neg e,if_pos rfl,hp0]
 have hjl:j < (sw d j 0 hj h00).length:=by omega
 have hgj':(sw d j 0 hj h00)[j]=p:=(ZHK.1 hgj).2;have hsplit:sw d j 0 hj h00=(sw d j 0 hj h00).take j++p::(sw d j 0 hj h00).drop (j+1):=by
  conv=>lhs;rw[←List.take_append_drop j (sw d j 0 hj h00)]
  rw[List.drop_eq_getElem_cons hjl,hgj']
 refine⟨(sw d j 0 hj h00).take j,p,(sw d j 0 hj h00).drop (j+1),hsplit, ?_,fun y hy=> ?_,fun y hy=> ?_, ?_⟩
 ·rw[ZHO];show (j:Int)=_;omega
 ·obtain⟨k,hk,rfl⟩:=List.mem_take_iff_getElem.1 hy;have hk1:k < j:=by omega
  have hx:(sw d j 0 hj h00)[k]? =some (sw d j 0 hj h00)[k]:=ZHI (by omega);generalize (sw d j 0 hj h00)[k]=y at hx;rw[ZzW hj h00 k (by omega)]at hx
  by_cases e:k=0
  ·rw[if_pos e]at hx;exact hA j y (by omega) (by omega) (by rw[ZHI hj];exact hx)
  ·rw[if_neg e,if_neg (by omega)]at hx;exact hA k y (by omega) (by omega) hx
 ·obtain⟨k,hk,rfl⟩:=List.mem_drop_iff_getElem.1 hy;have hx:(sw d j 0 hj h00)[j+1+k]? =some (sw d j 0 hj h00)[j+1+k]:=ZHI (by omega);generalize (sw d j 0 hj h00)[j+1+k]=y at hx;rw[ZzW hj h00 _ (by omega),if_neg (by omega),if_neg (by omega)]at hx;exact hB _ y (by omega) hx
 ·rw[←hsplit];exact(ZAf hj h00).trans hp
theorem ZBP {D:List En1} (hn:D.length≤1000) {d0:List En1} {p:En1} {i0 j0:Nat} (h0:d0[0]? =some p) (hi:1≤i0) (hij:i0≤j0+1) (hj:j0 < d0.length) (hA:Lo d0 p i0) (hB:Hi d0 p j0) (hp:d0.Perm D):
  wp (ZnR big 0 (i0:Int) (j0:Int) d0) (fun x=>∃(j:Nat) (d:List En1),x=(0,(j:Int),d)∧d[0]? =some p∧j < d.length∧Lo d p (j+1)∧Hi d p j∧d.Perm D):=by
 refine Zv3 Zue (fun s:Nat×Nat×List En1=>((0:Int),(s.1:Int),(s.2.1:Int),s.2.2)) (fun s=>s.2.2[0]? =some p∧1≤s.1∧s.1≤s.2.1+1∧s.2.1 < s.2.2.length∧Lo s.2.2 p s.1∧Hi s.2.2 p s.2.1∧s.2.2.Perm D) (fun s=>s.2.1)
  (Q:=fun x=>∃(j:Nat) (d:List En1),x=(0,(j:Int),d)∧d[0]? =some p∧j < d.length∧Lo d p (j+1)∧Hi d p j∧d.Perm D) (i0,j0,d0) ⟨h0,hi,hij,hj,hA,hB,hp⟩ (by dsimp only;have:=hp.length_eq;omega) ?_
 rintro rec ⟨i,j,d⟩ ⟨h0,hi,hij,hj,hA,hB,hp⟩ ih;dsimp only at h0 hi hij hj hA hB hp ih;have hdn:d.length≤1000:=by rw[hp.length_eq];exact hn
 unfold ZqR Zpd Zpv Zpu;dsimp only;rw[ZnG];refine ZnV (ZEI h0 hdn hi hij hj hA) ?_;rintro _ ⟨i',rfl,h1,h2,h3,h4⟩;dsimp only;rw[ZnG];refine ZnV (ZCR h0 hdn (by omega) h2 hj hB) ?_;rintro _ ⟨j',rfl,h5,h6,h7,h8⟩;dsimp only
 by_cases hc:i'≤j'
 ·have hi':i' < d.length:=by omega
  have hj':j' < d.length:=by omega
  have g1:=h4 (by omega);have g2:=h8 hc hj';have hlt:i' < j':=by
   rcases Nat.lt_or_eq_of_le hc with h |h
   ·exact h
   ·subst h;exact absurd g2 g1
  obtain⟨s0,sA,sB⟩:=ZA9 h0 (by omega) hlt hj' h3 h7 g1 g2;rw[decide_eq_false (show ¬(i':Int) > (j':Int) by omega),cond_false,ZnJ,ZHG,ZHG,ZHI hj',ZnG,ZnE,ZnJ,ZHI hi',ZnG,ZnE,ZnJ,ZnJ,ZnJ,ZnJ];refine⟨ZuH hj',ZuH hi',ZuH hi',ZpI ⟨by omega,by rw[ZHM];omega⟩,ZnL (by omega),ZnL (by omega), ?_⟩;have:=ih (i'+1,j' - 1,sw d i' j' hi' hj') ⟨s0,by dsimp only;omega,by dsimp only;omega,by dsimp only;rw[ZAy];omega,sA,sB,(ZAf hi' hj').trans hp⟩ (by dsimp only;omega);rw[show (((i'+1:Nat)):Int)=(i':Int)+1 by omega,show ((j' - 1:Nat):Int)=(j':Int) - 1 by omega]at this;exact this
 ·rw[decide_eq_true (show (i':Int) > (j':Int) by omega),cond_true,ZnE];exact⟨j',d,rfl,h0,by omega,by rw[show j'+1=i' by omega];exact h3,h7,hp⟩
theorem ZAC {D:List En1} (hn:D.length≤1000) (h1:1≤D.length) {pv:Nat} (hpv:pv < D.length):
  wp (ZoS D 0 (D.length:Int) (pv:Int)) (ZDb D):=by
 have h00:0 < D.length:=by omega
 have e0:∀d:List En1,d.length=D.length→∀k,k < D.length→d[k]? =some (d.getD k default):=fun d hd k hk=>by rw[ZHH,ZHI (by omega)];rfl
 unfold ZoS;simp only[ZnJ,show ((0:Int)).toNat=0 from rfl,ZHG];rw[ZHI hpv,ZHI h00];simp only[ZnG,ZnE,ZnJ];have hd0:(D.set 0 D[pv]).set pv D[0]=sw D 0 pv h00 hpv:=rfl;rw[hd0];have hlen:=ZAy (d:=D) h00 hpv;have hg0:∃p,(sw D 0 pv h00 hpv)[0]? =some p:=⟨_,ZHI (by omega)⟩;obtain⟨p,hg0⟩:=hg0;have hperm:=ZAf (d:=D) h00 hpv;generalize sw D 0 pv h00 hpv=d at hlen hg0 hperm;refine⟨ZpI ⟨by omega,by omega⟩,ZpI ⟨by omega,by omega⟩,ZpI ⟨by omega,by omega⟩,ZpI ⟨by omega,by rw[ZHM];omega⟩,ZnL (by omega),ZnL (by omega), ?_⟩;have hdn:d.length≤1000:=by omega
 have hA:Lo d p 1:=fun k x h1 h2=>by omega
 have hB:Hi d p (D.length - 1):=fun k x hk hx=>by have:=(ZHK.1 hx).1;omega
 have:=ZEJ hg0 hdn (i:=1) (j:=D.length - 1) (by omega) (by omega) (by omega) hA;rw[show ((D.length - 1:Nat):Int)=(D.length:Int) - 1 by omega]at this;refine ZnV this ?_;rintro _ ⟨i',rfl,q1,q2,q3,q4⟩;dsimp only;unfold Zpx;rw[ZnG];have:=ZCS hg0 hdn (i:=i') (j:=D.length - 1) (by omega) (by omega) (by omega) hB;rw[show ((D.length - 1:Nat):Int)=(D.length:Int) - 1 by omega]at this;refine ZnV this ?_;rintro _ ⟨j',rfl,q5,q6,q7,q8⟩;dsimp only;unfold Zpw
 by_cases hc:i'≤j'
 ·have hi':i' < d.length:=by omega
  have hj':j' < d.length:=by omega
  have g1:=q4 (by omega);have g2:=q8 hc hj';have hlt:i' < j':=by
   rcases Nat.lt_or_eq_of_le hc with h |h
   ·exact h
   ·subst h;exact absurd g2 g1
  obtain⟨s0,sA,sB⟩:=ZA9 hg0 (by omega) hlt hj' q3 q7 g1 g2;rw[decide_eq_false (show ¬(i':Int) > (j':Int) by omega),cond_false,ZnJ,ZHG,ZHG,ZHI hj',ZnG,ZnE,ZnJ,ZHI hi',ZnG,ZnE,ZnJ,ZnJ,ZnJ,ZnJ,ZnG];refine⟨ZuH hj',ZuH hi',ZuH hi',ZpI ⟨by omega,by rw[ZHM];omega⟩,ZnL (by omega),ZnL (by omega), ?_⟩;have:=ZBP (D:=D) hn (d0:=sw d i' j' hi' hj') (i0:=i'+1) (j0:=j' - 1) s0 (by omega) (by omega) (by rw[ZAy];omega) sA sB ((ZAf hi' hj').trans hperm);rw[show (((i'+1:Nat)):Int)=(i':Int)+1 by omega,show ((j' - 1:Nat):Int)=(j':Int) - 1 by omega]at this;refine ZnV this ?_;rintro _ ⟨j,d2,rfl,r0,r1,r2,r3,r4⟩;unfold Zpt;dsimp only;have r00:0 < d2.length:=by omega
  rw[ZnJ,show ((0:Int)).toNat=0 from rfl,ZHI r00,ZnG,ZnE,ZnJ,ZHG,ZHI r1,ZnG,ZnE,ZnJ,ZnJ,ZnE];exact⟨ZpI ⟨by omega,by omega⟩,ZuH r1,ZuH r1,ZpI ⟨by omega,by rw[ZHM];omega⟩,ZAD r0 r1 r2 r3 r4 false⟩
 ·have hj':j' < d.length:=by omega
  have h0d:0 < d.length:=by omega
  rw[decide_eq_true (show (i':Int) > (j':Int) by omega),cond_true,ZnJ,show ((0:Int)).toNat=0 from rfl,ZHI h0d,ZnG,ZnE,ZnJ,ZHG,ZHI hj',ZnG,ZnE,ZnJ,ZnJ,ZnE];exact⟨ZpI ⟨by omega,by omega⟩,ZuH hj',ZuH hj',ZpI ⟨by omega,by rw[ZHM];omega⟩,ZAD hg0 hj' (by rw[show j'+1=i' by omega];exact q3) q7 hperm true⟩
end Go.Proofs
