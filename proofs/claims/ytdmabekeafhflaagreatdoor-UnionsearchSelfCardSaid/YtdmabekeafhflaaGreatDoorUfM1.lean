/- Plain laws over the specs, part 1. -/
import Derived.Test.YtdmabekeafhflaaGreatDoorUfM0
set_option linter.unusedVariables false
set_option linter.unusedSimpArgs false
set_option linter.unusedSectionVars false
open Bool renaming not_true→ZNG, and_eq_true→ZKg, not_false→ZNF
open Int renaming natAbs_natCast→ZNJ, toNat_natCast→ZNM, natAbs_mul→ZNI, natAbs_neg→ZNK, natCast_mul→ZNL, mul_ne_zero→ZNH
open List renaming length_cons→ZNW, length_take→ZN0, length_nil→ZNY, take_length→ZN3, getD_eq_getElem?_getD→ZNR, all_eq_true→ZNO, take_of_length_le→ZN4, length_map→ZNX, all_cons→ZNN, not_mem_nil→ZN1, getElem?_eq_getElem→ZNS, take_succ_eq_append_getElem→ZN5, length_append→ZNV, dropWhile_cons→ZNP, getElem_cons_drop→ZNU, length_singleton→ZNZ, getElem?_eq_none→ZNT, takeWhile_append_dropWhile→ZN2, dropWhile_sublist→ZNQ
open Nat renaming le_trans→ZOg, gcd→ZOc, pow_succ→ZOz, mul_assoc→ZOo, mod_lt→ZOm, pow_zero→ZOA, lt_or_ge→ZOj, mul_add→ZOn, pow_le_pow_right→ZOx, lt_of_le_of_lt→ZOh, mul_comm→ZOp, le_refl→ZOf, two_pow_pos→ZOC, mul_zero→ZOt, add_zero→ZN8, min_eq_left→ZOk, pow_add→ZOw, le_of_lt→ZOe, div_le_self→ZOb, mod_eq_of_lt→ZOl, one_mul→ZOu, lt_of_lt_of_le→ZOi, div_eq_of_lt→ZOa, zero_add→ZOD, gcd_comm→ZOd, pow_mul→ZOy, mul_le_mul_left→ZOq, div_add_mod→ZN9, mul_left_comm→ZOr, pos_of_ne_zero→ZOv, add_mul_div_left→ZN6, mul_lt_mul_of_lt_of_le→ZOs, add_mul_mod_self_left→ZN7, two_pow_add_eq_or_of_lt→ZOB
open Option renaming bind_some→ZOE
namespace Go.Proofs
open Go Eng
theorem ZAS (a b:Nat) (hb0:b≠0) (ha:(wd a).length≤50000) (hb:(wd b).length≤50000):Zqe (iL (wd a)) (iL (wd b))=some (iL (wd (a / b)),iL (wd (a % b))):=by
 refine Zqy ?_;unfold Zqe;rw[ZAY a b (by omega) (by omega),ZoN,ZoK,Zo6];refine⟨fun h=> ?_,fun h=> ?_⟩
 ·have hab:a < b:=by
   have:=of_decide_eq_true h;rcases Nat.lt_trichotomy a b with h1 |h1 |h1
   ·exact h1
   ·rw[h1,ZxY]at this;omega
   ·rw[ZxJ h1]at this;omega
  rw[ZEb _ (by omega),ZoN,ZoK,ZoK,ZOa hab,ZOl hab,ZuU,ZKy]
 ·have hab:b≤a:=by
   have:=of_decide_eq_false h;rcases Nat.lt_trichotomy a b with h1 |h1 |h1
   ·rw[Zx7 h1]at this;omega
   ·omega
   ·omega
  have hlb:=ZtP hb0;rw[Zpb,Zpb,Zo6];refine⟨fun h=> ?_,fun h=> ?_⟩
  ·have h1:(wd b).length=1:=by have:=eq_of_beq h;omega
   have hbB:b < Bw:=by have:=ZvO b;rwa [h1,Nat.pow_one]at this
   have eb:idx (iL (wd b)) 0=some (b:Int):=by rw[ZAq hb0,ZOl hbB];rfl
   rw[eb,ZoN,ZoK,ZGv a b hb0 hbB (by omega),ZoN,ZoK];dsimp only;have hr:a % b < Bw:=Nat.lt_trans (ZOm _ (by omega)) hbB;rw[show ([((a % b:Nat):Int)]:List Int)=iL [a % b]from rfl,Zzm (ZzZ hr) (by simp),ZoN,ZoK,ZoK];simp only[val,ZOt,ZN8]
  ·obtain⟨m,hm⟩:∃m,(wd b).length=m+2:=⟨(wd b).length - 2,by
    have:(wd b).length≠1:=fun e=>by rw[e]at h;exact absurd h (by decide)
    omega⟩
   have hla:m+2≤(wd a).length:=by
    rcases ZOj (wd a).length (wd b).length with h1 |h1
    ·have:=ZB0 h1;omega
    ·omega
   have hi:m+1 < (wd b).length:=by omega
   have htop:(wd b)[m+1]≠0:=fun e=>by have h1:=Zpl hi;rw[e,ZOt,ZN8,ZN4 (by omega),Zup]at h1;have h2:=Zwr ((Zxy b).take (m+1));rw[ZN0,ZOk (by omega)]at h2;have h3:=ZCK hi;omega
   obtain⟨s,hs,hse,hs1,hs2⟩:=ZKq htop ((Zxy b).get hi);have e1:((m+2:Nat):Int) - 1=((m+1:Nat):Int):=by omega
   rw[hm,e1,Zvf hi,ZoO,ZoN,ZoK,hse,ZoN,ZoK];refine⟨ZoS (by omega), ?_⟩;obtain⟨u,hu,hud,hul,huv⟩:=ZBX (wd a) s hs (by omega) (Zxy a);obtain⟨v,hv,hvd,hvl,hvv⟩:=ZBX (wd b) s hs (by omega) (Zxy b);rw[hu,ZoN,ZoK,hv,ZoN,ZoK,ZoO,ZoO,ZoO,ZoO,ZoO];rw[Zup]at huv hvv;have hvlt:val v < Bw ^ (m+2):=by
    have h1:=Zpl hi;rw[ZN4 (by omega),Zup]at h1;have h2:=Zwr ((Zxy b).take (m+1));rw[ZN0,ZOk (by omega)]at h2;have h3:b+1≤Bw ^ (m+1)*((wd b)[m+1]+1):=by rw[ZOn,Nat.mul_one];omega
    have h4:=Nat.mul_le_mul_right (2 ^ s) h3;have h5:=ZOq (Bw ^ (m+1)) (ZEC hs hs2);rw[ZOo]at h4;have h6:=ZOC s;rw[Nat.add_mul,ZOu]at h4;rw[hvv,ZOz];show _ < Bw ^ (m+1)*4294967296;omega
   obtain⟨K,hK⟩:∃K,(wd a).length=K+m+1:=⟨(wd a).length - m - 1,by omega⟩;have eK:((wd a).length:Int) - ((m+2:Nat):Int)+1=(K:Int):=by omega
   have ed:((iL v).drop 0).take (((m+2:Nat):Int).toNat - 0)=iL (v.take (m+2)):=by rw[List.drop_zero,ZNM,Nat.sub_zero,ZDt]
   have hdv:val (v.take (m+2))=b*2 ^ s:=by rw[ZA0 hvlt,hvv]
   have hdl:(v.take (m+2)).length=m+2:=by rw[ZN0];omega
   have hdd:=hvd.take (m+2);rw[eK,ed,ZNM,ZB1,Zpb v,Zpb (List.replicate K 0),List.length_replicate];refine⟨ZpZ ⟨by omega,by omega,by omega⟩,ZoS (by omega),ZoS (by omega),Zz7 (by omega),ZoS (by omega), ?_⟩;generalize v.take (m+2)=d at*
   have hp:=ZOC s;have h1:1≤d[m+1]:=by
    rcases Nat.eq_zero_or_pos d[m+1]with hz |hz
    ·exfalso;have h1:=Zpl (l:=d) (k:=m+1) (by omega);rw[hz,ZOt,ZN8,ZN4 (by omega)]at h1;have h2:=Zwr (hdd.take (m+1));rw[ZN0,ZOk (by omega)]at h2;rw[hdv]at h1;have h3:=ZCK hi;have:=Nat.le_mul_of_pos_right b hp;omega
    ·exact hz
   have hUlt:a*2 ^ s < Bw ^ K*val d:=by have h2:=ZvO a;have h3:=ZOq (Bw ^ K) (ZCK hi);rw[←ZOw,←Nat.add_assoc,←hK]at h3;rw[hdv,←ZOo];exact Nat.mul_lt_mul_of_pos_right (by omega) hp
   rw[ZoN];refine Zo4 (ZGs (s:=s) hdl hdd h1 (by omega) hud huv hUlt (by omega) (by omega)) ?_;rintro y ⟨u',qs,rfl,hu'l,hu'd,hql,hqd,hv',hlt'⟩;dsimp only;have hDpos:0 < val d:=by omega
   have eq1:val qs=a / b:=by rw[←Nat.mul_div_mul_right a b hp,←hdv,←hv',Nat.add_mul_div_right _ _ hDpos,ZOa hlt',ZOD]
   have eq2:val u'=a % b*2 ^ s:=by rw[←Nat.mul_mod_mul_right,←hdv,←hv',Nat.add_mul_mod_self_right,ZOl hlt']
   have hDlt:=Zwr hdd;rw[hdl]at hDlt;have hut:val (u'.take (m+2))=val u':=ZA0 (by omega);obtain⟨k',hk',hkv,hke⟩:=ZMu u' (m+2) (by omega) (by omega);unfold ZuM;rw[ZNM,Nat.sub_zero,hke,ZoO,ZoN,ZoK,Zpb];refine⟨ZpZ ⟨by omega,by omega,by omega⟩, ?_⟩;dsimp only;rw[ZoN];refine Zo4 (ZJ8 (R:=a % b) (iL qs) hs hu'd (by omega) (by omega) (by rw[hkv,hut,eq2])) ?_;rintro y ⟨o,rfl,hol,hod,hov⟩;dsimp only;unfold ZuL;have eo:((iL (o++u'.drop k')).drop 0).take k'=iL o:=by rw[List.drop_zero,ZDt,List.take_left' hol]
   rw[eo,Zzm hqd (by omega),ZoN,ZoK,Zzm hod (by omega),ZoN,ZoK,ZoK,eq1,hov]
theorem Zt7 {a b:Nat} (h:a≤b):(wd a).length≤(wd b).length:=Zyr (ZOh h (ZvO b))
theorem ZBE:∀(n a b:Nat),b≤a→a*b < 2 ^ n→(wd a).length≤50000→∀f,n < f→Zpp f (iL (wd a)) (iL (wd b))=some (iL (wd (ZOc a b)))
 |n,a,b,hba,hn,ha,0,hf=>absurd hf (by omega)
 |n,a,b,hba,hn,ha,f+1,hf=>by
  show Zp0 (Zpp f) _ _=_;unfold Zp0;rw[Zpb]
  by_cases h0:b=0
  ·subst h0;rw[ZuU,Nat.gcd_zero_right];rfl
  ·have hl:=ZtP h0;rw[decide_eq_true (by omega),cond_true,ZAS a b h0 ha (ZOg (Zt7 hba) ha),ZOE];dsimp only;have hlt:=ZOm a (show 0 < b by omega);cases n with
   |zero=>
    have:1*1≤a*b:=Nat.mul_le_mul (by omega) (by omega);rw[ZOA]at hn;omega
   |succ n=>
    have hdm:=ZN9 a b;have hq:1≤a / b:=(Nat.le_div_iff_mul_le (by omega)).2 (by omega);have h1:=ZOq b hq;have h2:b*(2*(a % b))≤b*a:=ZOq b (by omega);rw[ZOr,ZOp b a]at h2;rw[ZBE n b (a % b) (by omega) (by rw[ZOz]at hn;omega) (ZOg (Zt7 hba) ha) f (by omega),ZOd a b,Nat.gcd_rec b a,ZOd]
theorem ZBF (a b:Nat) (ha:(wd a).length≤50000) (hb:(wd b).length≤50000):Zrj (iL (wd a)) (iL (wd b))=some (iL (wd (ZOc a b))):=by
 have bnd:∀x y:Nat,x*y < 2 ^ (32*(wd x).length+32*(wd y).length):=fun x y=>by
  have e:∀z,z < 2 ^ (32*(wd z).length):=fun z=>by
   have:=ZvO z
   rwa [show Bw=2 ^ 32 from rfl,←ZOy]at this
  have h1:=ZOs (e x) (ZOe (e y)) (ZOC _)
  rwa [←ZOw]at h1
 have key:Zpp big (iL (wd a)) (iL (wd b))=some (iL (wd (ZOc a b))):=by
  obtain⟨k,hk,hk2⟩:∃k,big=k+1∧3200004 < k:=⟨36893488147419103231,by rw[big_eq],by omega⟩;rw[hk];rcases ZOj a b with h |h
  ·show Zp0 (Zpp k) _ _=_;unfold Zp0;have h0:b≠0:=by omega
   have hl:=ZtP h0;rw[Zpb,decide_eq_true (by omega),cond_true,ZAS a b h0 ha hb,ZOE];dsimp only;rw[ZOl h,ZBE _ b a (by omega) (bnd b a) hb k (by omega),ZOd]
  ·exact ZBE _ a b h (bnd a b) ha (k+1) (by omega)
 unfold Zrj ZtN;rw[key,ZOE]
end Go.Proofs
namespace Go.Proofs
open Go Eng
def bg (z:Int):ZoL:=⟨decide (z < 0),iL (wd z.natAbs)⟩
theorem ZzC (z:Int):(bg z).Neg=decide (z < 0):=rfl
theorem ZrA (z:Int):(bg z).Words=iL (wd z.natAbs):=rfl
abbrev Wl (n:Nat) (z:Int):Prop:=(wd z.natAbs).length≤n
theorem Zva (neg:Bool) (n:Nat) (h:(wd n).length≤1000000):Zph neg (iL (wd n))=some (bg (if neg then -(n:Int)else n)):=by
 unfold Zph Zuz bg;have hr:ZjC (iL (wd n)).length 4=true:=Zuo (by rw[Zpb];omega);cases neg with
 |true=>
  rw[cond_true,hr,chk_true,Zpb,if_pos rfl,ZNK,ZNJ];congr 2
  by_cases h0:n=0
  ·subst h0;rw[ZuU];rfl
  ·have:=ZtP h0;rw[decide_eq_true (by omega),decide_eq_true (by omega)]
 |false=>
  rw[cond_false,hr,chk_true,if_neg (by decide),ZNJ,decide_eq_false (by omega)]
theorem ZAV (n:Nat) (h:n < 18446744073709551616):Zst (n:Int)=some (iL (wd n)):=by
 unfold Zst;have e:([IntKind.wrap .u32 (n:Int),IntKind.wrap .u32 (shrK .u64 (n:Int) 32)]:List Int)=iL [n % 4294967296,n / 4294967296]:=by rw[show (32:Int)=((32:Nat):Int)from rfl,ZzK 32 (by omega),Zwe,ZwK (by omega)];rfl
 have hd:Dg [n % 4294967296,n / 4294967296]:=fun d hd=>by
  simp only[List.mem_cons,List.mem_singleton,ZN1,or_false]at hd;rcases hd with rfl |rfl
  ·exact ZOm _ (by decide)
  ·simp only[Bw];omega
 rw[e,Zzm hd (by simp)];have hv:val [n % 4294967296,n / 4294967296]=n:=by simp only[val,ZOt,ZN8];exact Nat.mod_add_div n Bw
 rw[hv];rfl
theorem ZIC {n:Nat} (h:n < 18446744073709551616):(wd n).length≤2:=Zyr (by simp only[Bw];omega)
theorem ZB2 (z:Int) (h1: -9223372036854775808≤z) (h2:z≤9223372036854775807):ZtZ z=some (bg z):=by
 unfold ZtZ
 by_cases hz:z < 0
 ·have e:IntKind.wrap .u64 (0 - IntKind.wrap .u64 z)=((z.natAbs:Nat):Int):=by rw[IntKind.wrap_u64,IntKind.wrap_u64];omega
  rw[decide_eq_true hz,cond_true,e,ZAV _ (by omega),ZOE,Zva _ _ (ZOg (ZIC (by omega)) (by decide)),ZOE,if_pos rfl,show -((z.natAbs:Nat):Int)=z by omega]
 ·have e:IntKind.wrap .u64 z=((z.natAbs:Nat):Int):=by rw[IntKind.wrap_u64];omega
  rw[decide_eq_false hz,cond_false,e,ZAV _ (by omega),ZOE,Zva _ _ (ZOg (ZIC (by omega)) (by decide)),ZOE,if_neg (by decide),show ((z.natAbs:Nat):Int)=z by omega]
theorem ZAh (z:Int) (h:Wl 256 z):Ztm (bg z)=some true:=by
 unfold Wl at h;have top:∀hp:0 < (wd z.natAbs).length,∃x:Nat,idx (iL (wd z.natAbs)) (((wd z.natAbs).length:Int) - 1)=some (x:Int)∧x≠0:=fun hp=>by
  refine⟨(wd z.natAbs)[(wd z.natAbs).length - 1], ?_,fun e=> ?_⟩
  ·rw[show ((wd z.natAbs).length:Int) - 1=(((wd z.natAbs).length - 1:Nat):Int) by omega,Zvf (by omega)]
  ·have hi:(wd z.natAbs).length - 1 < (wd z.natAbs).length:=by omega
   have h1:=Zpl hi;rw[e,ZOt,ZN8,ZN4 (by omega),Zup]at h1;have h2:=Zwr ((Zxy z.natAbs).take ((wd z.natAbs).length - 1));rw[ZN0,ZOk (by omega)]at h2;have h3:=ZCK hi;omega
 unfold Ztm Zpx;rw[ZrA,ZzC,Zpb,decide_eq_true (by omega),cond_true]
 by_cases h0:(wd z.natAbs).length=0
 ·have:z=0:=by have:=ZJZ.1 (List.eq_nil_of_length_eq_zero h0);omega
  subst this;rw[h0];rfl
 ·obtain⟨x,hx,hx0⟩:=top (by omega);have e0:(((wd z.natAbs).length:Int) == 0)=false:=beq_eq_false_iff_ne.2 (by omega);have e1:((x:Int) != 0)=true:=by simp only[bne_iff_ne];omega
  rw[e0,cond_false,decide_eq_true (by omega),cond_true,ZoS (by omega),chk_true,hx,ZOE,e1]
theorem ZIV (x y:Int):(if (!((bg x).Neg == (bg y).Neg))=true then -((x.natAbs*y.natAbs:Nat):Int)else ((x.natAbs*y.natAbs:Nat):Int))=x*y:=by
 rw[ZzC,ZzC]
 by_cases hx:x < 0<;>by_cases hy:y < 0
 ·rw[decide_eq_true hx,decide_eq_true hy,if_neg (by decide),ZNL,show ((x.natAbs:Nat):Int)= -x by omega,show ((y.natAbs:Nat):Int)= -y by omega,Int.neg_mul_neg]
 ·rw[decide_eq_true hx,decide_eq_false hy,if_pos (by decide),ZNL,show ((x.natAbs:Nat):Int)= -x by omega,show ((y.natAbs:Nat):Int)=y by omega,Int.neg_mul,Int.neg_neg]
 ·rw[decide_eq_false hx,decide_eq_true hy,if_pos (by decide),ZNL,show ((x.natAbs:Nat):Int)=x by omega,show ((y.natAbs:Nat):Int)= -y by omega,Int.mul_neg,Int.neg_neg]
 ·rw[decide_eq_false hx,decide_eq_false hy,if_neg (by decide),ZNL,show ((x.natAbs:Nat):Int)=x by omega,show ((y.natAbs:Nat):Int)=y by omega]
theorem ZDN {x y:Nat} {n m:Nat} (hx:(wd x).length≤n) (hy:(wd y).length≤m):(wd (x*y)).length≤n+m:=by refine Zyr ?_;have h1:=ZOs (ZvO x) (ZOe (ZvO y)) (Nat.pow_pos (by decide));rw[←ZOw]at h1;exact ZOi h1 (ZOx (by decide) (by omega))
theorem ZxH (x y:Int) (hx:Wl 50000 x) (hy:Wl 50000 y):ZoY (bg x) (bg y)=some (bg (x*y)):=by unfold ZoY;have:=ZDN hx hy;rw[ZrA,ZrA,ZCk _ _ (by omega) (by omega),ZOE,Zva _ _ (by omega),ZOE,ZIV]
theorem ZEZ {x y n:Nat} (hx:(wd x).length≤n) (hy:(wd y).length≤n):(wd (x+y)).length≤n+1:=by refine Zyr ?_;have h1:=ZOi (ZvO x) (ZOx (n:=Bw) (by decide) hx);have h2:=ZOi (ZvO y) (ZOx (n:=Bw) (by decide) hy);rw[ZOz];have:=ZOq (Bw ^ n) (show 2≤Bw by decide);omega
theorem ZHc (x y:Int) (hx:Wl 50000 x) (hy:Wl 50000 y):Zvi (bg x) (bg y)=some (bg (x+y)):=by
 unfold Wl at hx hy;unfold Zvi;have h1:=ZEZ hx hy;rw[ZrA,ZrA,ZzC,ZzC];have opp:decide (x < 0)≠decide (y < 0)→ZpF (iL (wd x.natAbs)) (iL (wd y.natAbs))=some (ZCE x.natAbs y.natAbs):=fun _=>ZAY _ _ (by omega) (by omega)
 by_cases hs:decide (x < 0)=decide (y < 0)
 ·rw[hs,beq_self_eq_true,cond_true,ZFp _ _ (by omega) (by omega),ZOE,Zva _ _ (by omega),ZOE];congr 2
  by_cases hy0:y < 0
  ·have hx0:x < 0:=by rw[decide_eq_true hy0]at hs;exact of_decide_eq_true hs
   rw[decide_eq_true hy0,if_pos rfl];omega
  ·have hx0:¬x < 0:=by rw[decide_eq_false hy0]at hs;exact of_decide_eq_false hs
   rw[decide_eq_false hy0,if_neg (by decide)];omega
 ·rw[beq_eq_false_iff_ne.2 hs,cond_false,opp hs,ZOE];rcases ZOj x.natAbs y.natAbs with hlt |hge
  ·have:=Zt7 (Nat.sub_le y.natAbs x.natAbs);rw[Zx7 hlt,decide_eq_false (by omega),cond_false,ZD6 _ _ (by omega) (by omega),ZOE,Zva _ _ (by omega),ZOE];congr 2
   by_cases hy0:y < 0
   ·have hx0:¬x < 0:=fun h=>hs (by rw[decide_eq_true hy0,decide_eq_true h])
    rw[decide_eq_true hy0,if_pos rfl];omega
   ·have hx0:x < 0:=Decidable.byContradiction fun h=>hs (by rw[decide_eq_false hy0,decide_eq_false h])
    rw[decide_eq_false hy0,if_neg (by decide)];omega
  ·have hn:ZCE x.natAbs y.natAbs≥0:=by
    rcases ZOj y.natAbs x.natAbs with h |h
    ·rw[ZxJ h];decide
    ·rw[show x.natAbs=y.natAbs by omega,ZxY];decide
   have:=Zt7 (Nat.sub_le x.natAbs y.natAbs);rw[decide_eq_true hn,cond_true,ZD6 _ _ hge (by omega),ZOE,Zva _ _ (by omega),ZOE];congr 2
   by_cases hx0:x < 0
   ·have hy0:¬y < 0:=fun h=>hs (by rw[decide_eq_true hx0,decide_eq_true h])
    rw[decide_eq_true hx0,if_pos rfl];omega
   ·have hy0:y < 0:=Decidable.byContradiction fun h=>hs (by rw[decide_eq_false hx0,decide_eq_false h])
    rw[decide_eq_false hx0,if_neg (by decide)];omega
end Go.Proofs
namespace Go.Proofs
open Go Eng
def fOf (q:Rat):ZoF:=⟨bg q.num,bg (q.den:Int)⟩
theorem ZDO {x n:Nat} (g:Nat) (h:(wd x).length≤n):(wd (x / g)).length≤n:=ZOg (Zt7 (ZOb x g)) h
theorem ZEY {x y n:Nat} (hy:0 < y) (h:(wd y).length≤n):(wd (ZOc x y)).length≤n:=ZOg (Zt7 (Nat.gcd_le_right x hy)) h
theorem Zzc (x y:Int) (hy:y≠0) (hx1:Wl 50000 x) (hy1:Wl 50000 y):Zqw (bg x) (bg y)=some (fOf (Rat.divInt x y)):=by
 have hy0:0 < y.natAbs:=by omega
 have hg0:ZOc x.natAbs y.natAbs≠0:=fun e=>by have:=Nat.gcd_pos_of_pos_right x.natAbs hy0;omega
 have hgl:=ZEY (x:=x.natAbs) hy0 hy1;have hxl:=ZDO (ZOc x.natAbs y.natAbs) hx1;have hyl:=ZDO (ZOc x.natAbs y.natAbs) hy1;unfold Zqw;rw[ZrA,ZrA,ZBF _ _ hx1 hy1,ZOE,ZAS _ _ hg0 hx1 hgl,ZOE];dsimp only;rw[ZAS _ _ hg0 hy1 hgl,ZOE];dsimp only;rw[Zva _ _ (by omega),ZOE,Zva _ _ (by omega),ZOE,ZzC,ZzC];unfold fOf;rw[Rat.num_divInt,Rat.den_divInt,if_neg hy];have eg:Int.gcd y x=ZOc x.natAbs y.natAbs:=by rw[Int.gcd_comm];rfl
 rw[eg];have key:(if (!(decide (x < 0) == decide (y < 0)))=true then -((x.natAbs / ZOc x.natAbs y.natAbs:Nat):Int)else ((x.natAbs / ZOc x.natAbs y.natAbs:Nat):Int))=y.sign*x / (ZOc x.natAbs y.natAbs:Int):=by
  obtain⟨k,hk⟩:=Nat.gcd_dvd_left x.natAbs y.natAbs;generalize ZOc x.natAbs y.natAbs=g at*
  have hgp:0 < g:=by omega
  have e1:x.natAbs / g=k:=by rw[hk,Nat.mul_div_cancel_left _ hgp]
  have e2:((g:Int)*(k:Int)) / (g:Int)=k:=Int.mul_ediv_cancel_left _ (by omega);have e3:(-((g:Int)*(k:Int))) / (g:Int)= -k:=by rw[←Int.mul_neg,Int.mul_ediv_cancel_left _ (by omega)]
  have hk':((x.natAbs:Nat):Int)=(g:Int)*(k:Int):=by rw[hk];norm_cast
  rw[e1]
  by_cases hx0:x < 0<;>by_cases hy0:y < 0
  ·rw[decide_eq_true hx0,decide_eq_true hy0,if_neg (by decide),Int.sign_eq_neg_one_of_neg hy0,show -1*x=(g:Int)*k by omega,e2]
  ·rw[decide_eq_true hx0,decide_eq_false hy0,if_pos (by decide),Int.sign_eq_one_of_pos (by omega),show 1*x= -((g:Int)*k) by omega,e3]
  ·rw[decide_eq_false hx0,decide_eq_true hy0,if_pos (by decide),Int.sign_eq_neg_one_of_neg hy0,show -1*x= -((g:Int)*k) by omega,e3]
  ·rw[decide_eq_false hx0,decide_eq_false hy0,if_neg (by decide),Int.sign_eq_one_of_pos (by omega),show 1*x=(g:Int)*k by omega,e2]
 rw[key,if_neg Bool.false_ne_true]
theorem ZFQ:∀l:List Int,l.length≤1000→(∀z∈l,Wl 256 z)→Zv6 (l.map bg)=some true:=fun l hl h=>by
 refine Zqy ?_;unfold Zv6;rw[ZoN,ZNX];refine Zo4 (Ztq ZzP l.length (by omega) (fun i (_:Unit)=>(l.map bg,(l.length:Int),i)) (fun _ _=>True) (Q:=fun r=>r= .brk ()) () trivial ?_ ?_) ?_
 ·rintro rec i ⟨⟩ hi _ ih;unfold ZwC ZuA;dsimp only;rw[Zo6];refine⟨fun _=> ?_,fun h=>by have:=of_decide_eq_false h;omega⟩;rw[Zto (by rw[ZNX];exact hi),ZoN,ZoK,List.getElem_map,ZAh _ (h _ (List.getElem_mem hi)),ZoN,ZoK];rw[ZNG,cond_false,ZoO];exact⟨ZoS (by omega),ih () trivial⟩
 ·rintro rec ⟨⟩ _;unfold ZwC ZuA;dsimp only;rw[Zo6];refine⟨fun h=>by have:=of_decide_eq_true h;omega,fun _=>ZoK.2 rfl⟩
 ·rintro r rfl;exact ZoK.2 rfl
abbrev Wq (n:Nat) (q:Rat):Prop:=Wl n q.num∧Wl n (q.den:Int)
theorem ZCY:iL (wd 1)=[1]:=by rw[ZAq (by decide),show 1 / Bw=0 from rfl,ZuU];rfl
theorem Zzk (q:Rat) (h:Wq 256 q):Zqk (fOf q)=some true:=by
 unfold Zqk ZrV fOf;have hb:=ZFQ [q.num,(q.den:Int)] (by simp) (fun z hz=>by
  simp only[List.mem_cons,ZN1,or_false]at hz;rcases hz with rfl |rfl
  ·exact h.1
  ·exact h.2)
 have hd:=q.den_nz;have hl:=ZtP (n:=(q.den:Int).natAbs) (by omega);have hn:=h.1;have hdl:=h.2;unfold Wl at hn hdl;dsimp only;rw[show ([bg q.num,bg (q.den:Int)]:List ZoL)=[q.num,(q.den:Int)].map bg from rfl,hb,ZOE,cond_true,ZrA,ZrA,Zpb,decide_eq_true (by omega),cond_true,ZzC,decide_eq_false (by omega),ZNF,cond_true,ZBF _ _ (by omega) (by omega),ZOE];have hc:ZOc q.num.natAbs (q.den:Int).natAbs=1:=q.reduced;have h1:(wd 1).length≤1:=Zyr (by decide);rw[hc,←ZCY,ZAY 1 1 (by omega) (by omega),ZOE,ZxY];rfl
end Go.Proofs
namespace Go.Proofs
open Go Eng
def Sz (k:Nat) (q:Rat):Prop:=q.num.natAbs < 2 ^ k∧q.den < 2 ^ k
theorem Sz.mono {k l:Nat} {q:Rat} (h:Sz k q) (hl:k≤l):Sz l q:=⟨ZOi h.1 (ZOx (by decide) hl),ZOi h.2 (ZOx (by decide) hl)⟩
theorem ZCg {n k:Nat} (h:n < 2 ^ k) (m:Nat) (hk:k≤32*m):(wd n).length≤m:=by refine Zyr (ZOi h ?_);rw[show Bw=2 ^ 32 from rfl,←ZOy];exact ZOx (by decide) hk
theorem Sz.wq {k:Nat} {q:Rat} (h:Sz k q) (hk:k≤8192):Wq 256 q:=⟨ZCg h.1 256 (by omega),ZCg (n:=(q.den:Int).natAbs) (by rw[ZNJ];exact h.2) 256 (by omega)⟩
theorem ZAu {x y:Int} {k:Nat} (hy:y≠0) (h1:x.natAbs < 2 ^ k) (h2:y.natAbs < 2 ^ k):Sz k (Rat.divInt x y):=by
 unfold Sz;rw[Rat.num_divInt,Rat.den_divInt,if_neg hy];refine⟨ZOh ?_ h1,ZOh (ZOb _ _) h2⟩;have hd:((Int.gcd y x:Nat):Int)∣y.sign*x:=Int.dvd_trans (Int.gcd_dvd_right y x) (Int.dvd_mul_left _ _);rw[Int.natAbs_ediv_of_dvd hd,ZNI];refine ZOg (ZOb _ _) ?_;have:y.sign.natAbs=1:=by rw[Int.natAbs_sign_of_ne_zero hy]
 rw[this,ZOu];exact ZOf _
theorem Zzd {x y k l:Nat} (hx:x < 2 ^ k) (hy:y < 2 ^ l):x*y < 2 ^ (k+l):=by rw[ZOw];exact ZOs hx (ZOe hy) (ZOC _)
theorem ZCa (a b:Rat):Rat.divInt (a.num*(b.den:Int)+b.num*(a.den:Int)) ((a.den:Int)*(b.den:Int))=a+b:=by have h1:=a.den_nz;have h2:=b.den_nz;rw[←Rat.divInt_add_divInt _ _ (by omega) (by omega),Rat.num_divInt_den,Rat.num_divInt_den]
theorem Sz.add {a b:Rat} {k l:Nat} (ha:Sz k a) (hb:Sz l b):Sz (k+l+1) (a+b):=by
 rw[←ZCa];have h1:=a.den_nz;have h2:=b.den_nz;have q1:=Zzd ha.1 hb.2;have q2:=Zzd ha.2 hb.1;have q3:=Zzd ha.2 hb.2;have hp:=ZOC (k+l);refine ZAu (ZNH (by omega) (by omega)) ?_ ?_
 ·rw[ZOz];refine ZOh (Int.natAbs_add_le _ _) ?_;rw[ZNI,ZNI,ZNJ,ZNJ,ZOp b.num.natAbs];omega
 ·rw[ZOz,ZNI,ZNJ,ZNJ];omega
theorem ZIe {q:Rat} (h:Wq 256 q):decide ((if ((fOf q).Den.Words.length:Int) > ((fOf q).Num.Words.length:Int)then ((fOf q).Den.Words.length:Int)else ((fOf q).Num.Words.length:Int)) > 256)=false:=by have h1:=h.1;have h2:=h.2;unfold Wl at h1 h2;refine decide_eq_false ?_;unfold fOf;rw[ZrA,ZrA,Zpb,Zpb];split<;>omega
theorem ZAM {y:Int} (hy:y≠0):(((bg y).Words.length:Int) == 0)=false:=by have:=ZtP (n:=y.natAbs) (by omega);rw[ZrA,Zpb];exact beq_eq_false_iff_ne.2 (by omega)
theorem ZHv {a b:Rat} {k l:Nat} (ha:Sz k a) (hb:Sz l b) (hk:k+l+1≤8192):ZwP (fOf a) (fOf b)=some (fOf (a+b),0):=by
 have h1:=a.den_nz;have h2:=b.den_nz;have qa:=ha.wq (by omega);have qb:=hb.wq (by omega);have w:∀{x y:Int},Wl 256 x→Wl 256 y→Wl 512 (x*y):=fun hx hy=>by unfold Wl;rw[ZNI];exact ZDN hx hy
 have m:∀{n:Nat} {x:Int},Wl n x→n≤50000→Wl 50000 x:=fun h h'=>ZOg h h'
 have w1:=w qa.1 qb.2;have w2:=w qb.1 qa.2;have w3:=w qa.2 qb.2;have w4:Wl 513 (a.num*(b.den:Int)+b.num*(a.den:Int)):=ZOg (Zt7 (Int.natAbs_add_le _ _)) (ZEZ w1 w2);have hd:(a.den:Int)*(b.den:Int)≠0:=ZNH (by omega) (by omega);unfold ZwP Zqf;rw[Zzk a qa,ZOE,ZNG,cond_false,Zzk b qb,ZOE,ZNG];unfold Zqx Zyz;rw[cond_false];show ((((ZoY (bg a.num) (bg (b.den:Int))).bind fun q=>(ZoY (bg b.num) (bg (a.den:Int))).bind fun q_1=>(Zvi q q_1).bind fun num=>(ZoY (bg (a.den:Int)) (bg (b.den:Int))).bind fun den=>some (num,den)).bind _).bind _)=_;rw[ZxH _ _ (m qa.1 (by omega)) (m qb.2 (by omega)),ZOE,ZxH _ _ (m qb.1 (by omega)) (m qa.2 (by omega)),ZOE,ZHc _ _ (m w1 (by omega)) (m w2 (by omega)),ZOE,ZxH _ _ (m qa.2 (by omega)) (m qb.2 (by omega)),ZOE,ZOE];dsimp only;rw[ZAM hd,cond_false,Zzc _ _ hd (m w4 (by omega)) (m w3 (by omega)),ZOE,ZCa,ZIe ((ha.add hb).wq hk),cond_false,ZOE]
end Go.Proofs
namespace Go.Proofs
open Go Eng
theorem ZBu (z:Int):ZrT (bg z)=some (bg (-z)):=by
 unfold ZrT ZtE;rw[ZzC,ZrA,Zpb]
 by_cases hz:z < 0
 ·rw[decide_eq_true hz,ZNG,cond_false];unfold bg;rw[ZNK,decide_eq_false (by omega:¬ -z < 0)]
 ·rw[decide_eq_false hz,ZNF,cond_true];unfold bg;rw[ZNK];congr 2
  by_cases h0:z=0
  ·subst h0;rw[show (0:Int).natAbs=0 from rfl,ZuU];rfl
  ·have:=ZtP (n:=z.natAbs) (by omega);rw[decide_eq_true (by omega),decide_eq_true (by omega)]
theorem ZIO (q:Rat):fOf (-q)=⟨bg (-q.num),bg (q.den:Int)⟩:=rfl
theorem Sz.neg {q:Rat} {k:Nat} (h:Sz k q):Sz k (-q):=by show (-q.num).natAbs < 2 ^ k∧q.den < 2 ^ k;rw[ZNK];exact h
theorem ZJ4 {a b:Rat} {k l:Nat} (ha:Sz k a) (hb:Sz l b) (hk:k+l+1≤8192):ZxN (fOf a) (fOf b)=some (fOf (a - b),0):=by unfold ZxN;rw[Zzk b (hb.wq (by omega)),ZOE,ZNG,cond_false];show ((ZrT (bg b.num)).bind fun q_1=>(Zqf (fOf a) (ZoF.mk q_1 (bg (b.den:Int)))).bind fun x=>some (x.1,x.2))=_;have:=ZHv ha hb.neg hk;unfold ZwP at this;rw[ZBu,ZOE,←ZIO,Rat.sub_eq_add_neg];exact this
theorem ZAG {a b:Rat} {k l:Nat} (ha:Sz k a) (hb:Sz l b) (hk:k+l+1≤8192):Zyu (fOf a) (fOf b)=some (fOf (a+b)):=by unfold Zyu ZwW;rw[ZHv ha hb hk];rfl
theorem ZBx {a b:Rat} {k l:Nat} (ha:Sz k a) (hb:Sz l b) (hk:k+l+1≤8192):Zy2 (fOf a) (fOf b)=some (fOf (a - b)):=by unfold Zy2 ZwW;rw[ZJ4 ha hb hk];rfl
def ZDp (a b:Rat):Int:=if a < b then -1 else if b < a then 1 else 0
theorem ZD8 (a b:Rat):a < b↔a.num*(b.den:Int) < b.num*(a.den:Int):=Rat.lt_iff a b
theorem ZFK {a b:Rat} (qa:Wq 256 a) (qb:Wq 256 b):Zun (fOf a) (fOf b)=some (ZDp a b):=by
 have w:∀{x y:Int},Wl 256 x→Wl 256 y→Wl 50000 (x*y):=fun hx hy=>by unfold Wl;rw[ZNI];exact ZOg (ZDN hx hy) (by decide)
 have m:∀{x:Int},Wl 256 x→Wl 50000 x:=fun h=>ZOg h (by decide)
 unfold Zun;rw[Zzk a qa,ZOE,ZNG,cond_false,Zzk b qb,ZOE,ZNG];unfold Zwm;rw[cond_false];show ((ZoY (bg a.num) (bg (b.den:Int))).bind fun q=>(ZoY (bg b.num) (bg (a.den:Int))).bind _)=_;rw[ZxH _ _ (m qa.1) (m qb.2),ZOE,ZxH _ _ (m qb.1) (m qa.2),ZOE,ZBu,ZOE];have w2:Wl 50000 (-(b.num*(a.den:Int))):=by unfold Wl;rw[ZNK];exact w qb.1 qa.2
 rw[ZHc _ _ (w qa.1 qb.2) w2,ZOE,ZzC,ZrA,Zpb];unfold ZDp;have h1:=ZD8 a b;have h2:=ZD8 b a;generalize a.num*(b.den:Int)=x at*
 generalize b.num*(a.den:Int)=y at*
 by_cases hl:a < b
 ·rw[if_pos hl,decide_eq_true (by have:=h1.1 hl;omega),cond_true]
 ·have hn:¬x < y:=fun h=>hl (h1.2 h)
  rw[if_neg hl,decide_eq_false (by omega),cond_false]
  by_cases hg:b < a
  ·have:=ZtP (n:=(x+ -y).natAbs) (by have:=h2.1 hg;omega);rw[if_pos hg,decide_eq_true (by omega),cond_true]
  ·have hn2:¬y < x:=fun h=>hg (h2.2 h)
   rw[if_neg hg,show x+ -y=0 by omega,show (0:Int).natAbs=0 from rfl,ZuU];rfl
theorem ZIz (x y:Int) (hy:y≠0) (hx1:Wl 256 x) (hy1:Wl 256 y):Zxj (bg x) (bg y)=some (fOf (Rat.divInt x y),0):=by
 have hb:=ZFQ [x,y] (by simp) (fun z hz=>by
  simp only[List.mem_cons,ZN1,or_false]at hz;rcases hz with rfl |rfl
  ·exact hx1
  ·exact hy1)
 unfold Zxj;rw[show ([bg x,bg y]:List ZoL)=[x,y].map bg from rfl,hb,ZOE,ZNG,cond_false,ZAM hy,cond_false,Zzc _ _ hy (ZOg hx1 (by decide)) (ZOg hy1 (by decide)),ZOE]
theorem ZL4 {z:Int} (h1: -9223372036854775808≤z) (h2:z≤9223372036854775807):Wl 256 z:=ZOg (ZIC (by omega)) (by decide)
theorem ZKm (x y:Int) (hy:y≠0) (h1: -9223372036854775808≤x) (h2:x≤9223372036854775807) (h3: -9223372036854775808≤y) (h4:y≤9223372036854775807):Zxi x y=some (fOf (Rat.divInt x y),0):=by unfold Zxi;rw[ZB2 x h1 h2,ZOE,ZB2 y h3 h4,ZOE,ZIz x y hy (ZL4 h1 h2) (ZL4 h3 h4),ZOE]
theorem ZAN:Zvh=some (fOf 0):=by unfold Zvh;rw[ZKm 0 1 (by decide) (by decide) (by decide) (by decide) (by decide),ZOE,Rat.zero_divInt]
theorem ZAF (x y:Int) (hy:y≠0) (h1: -9223372036854775808≤x) (h2:x≤9223372036854775807) (h3: -9223372036854775808≤y) (h4:y≤9223372036854775807):Zxe x y=some (fOf (Rat.divInt x y)):=by unfold Zxe;rw[ZKm x y hy h1 h2 h3 h4,ZOE];rfl
theorem ZBo:Sz 1 0:=by unfold Sz;decide
theorem ZAO {a:Rat} (qa:Wq 256 a):Zwj (fOf a)=some (ZDp a 0):=by unfold Zwj;rw[ZAN,ZOE,ZFK qa (ZBo.wq (by decide)),ZOE]
theorem ZB3 (a b:Rat):Rat.divInt (a.num*(b.den:Int)) ((a.den:Int)*b.num)=a / b:=by rw[←Rat.divInt_mul_divInt,Rat.num_divInt_den,Rat.div_def,Rat.inv_def]
theorem Sz.div {a b:Rat} {k l:Nat} (hb0:b≠0) (ha:Sz k a) (hb:Sz l b):Sz (k+l) (a / b):=by
 rw[←ZB3];have h1:=a.den_nz;have h2:b.num≠0:=fun e=>hb0 (Rat.num_eq_zero.1 e)
 refine ZAu (ZNH (by omega) h2) ?_ ?_
 ·rw[ZNI,ZNJ];exact Zzd ha.1 hb.2
 ·rw[ZNI,ZNJ];exact Zzd ha.2 hb.1
theorem ZKQ {a b:Rat} {k l:Nat} (hb0:b≠0) (ha:Sz k a) (hb:Sz l b) (hk:k+l≤8192):ZxO (fOf a) (fOf b)=some (fOf (a / b),0):=by
 have h1:=a.den_nz;have h2:b.num≠0:=fun e=>hb0 (Rat.num_eq_zero.1 e)
 have qa:=ha.wq (by omega);have qb:=hb.wq (by omega);have w:∀{x y:Int},Wl 256 x→Wl 256 y→Wl 50000 (x*y):=fun hx hy=>by unfold Wl;rw[ZNI];exact ZOg (ZDN hx hy) (by decide)
 have m:∀{x:Int},Wl 256 x→Wl 50000 x:=fun h=>ZOg h (by decide)
 have w1:=w qa.1 qb.2;have w3:=w qa.2 qb.1;have hd:(a.den:Int)*b.num≠0:=ZNH (by omega) h2;unfold ZxO ZsD;rw[Zzk a qa,ZOE,ZNG,cond_false,Zzk b qb,ZOE,ZNG];unfold Zp8 ZyA;rw[cond_false];show ((((ZoY (bg a.num) (bg (b.den:Int))).bind fun num=>(ZoY (bg (a.den:Int)) (bg b.num)).bind fun den=>some (num,den)).bind _).bind _)=_;rw[ZxH _ _ (m qa.1) (m qb.2),ZOE,ZxH _ _ (m qa.2) (m qb.1),ZOE,ZOE];dsimp only;rw[ZAM hd,cond_false,Zzc _ _ hd w1 w3,ZOE,ZB3,ZIe ((Sz.div hb0 ha hb).wq hk),cond_false,ZOE]
theorem ZC0 {a b:Rat} {k l:Nat} (hb0:b≠0) (ha:Sz k a) (hb:Sz l b) (hk:k+l≤8192):ZzM (fOf a) (fOf b)=some (fOf (a / b)):=by unfold ZzM ZwW;rw[ZKQ hb0 ha hb hk];rfl
end Go.Proofs
namespace Go.Proofs
open Go Eng
theorem ZDT:∀n w,Zpn n w=ZpJ n w
 |0,_=>rfl
 |n+1,w=>by have:Zpn n=ZpJ n:=funext (ZDT n);show ZvC (Zpn n) w=ZsS (ZpJ n) w;rw[this];rfl
theorem ZEp (w:List Int):Zpc w=Zo9 w:=by unfold Zpc Zo9;rw[ZDT];rfl
theorem ZAs {l:List Nat} (h:Dg l) (hl:l.length≤1000000):Zpc (iL l)=some (iL (wd (val l))):=by rw[ZEp,Zzm h hl]
theorem ZDA (neg:Bool) {l:List Nat} (h:Dg l) (hl:l.length≤1000000):ZpY neg (iL l)=some (bg (if neg then -(val l:Int)else val l)):=by
 unfold ZpY Zr4;rw[ZAs h hl,ZOE,Zpb];unfold bg;cases neg with
 |true=>
  rw[cond_true,if_pos rfl,ZNK,ZNJ];congr 2
  by_cases h0:val l=0
  ·rw[h0,ZuU];rfl
  ·have:=ZtP h0;rw[decide_eq_true (by omega),decide_eq_true (by omega)]
 |false=>rw[cond_false,if_neg (by decide),ZNJ,decide_eq_false (by omega)]
theorem ZAa (a:ZoL):Zq8 a=Ztm a:=rfl
end Go.Proofs
namespace Go.Proofs
open Go Eng
theorem ZFL (a b:Nat) (ha:(wd a).length≤100000) (hb:(wd b).length≤100000):ZrJ (iL (wd a)) (iL (wd b))=some (ZCE a b):=by
 refine Zqy ?_;unfold ZrJ;rw[Zpb,Zpb,Zo6];refine⟨fun h=> ?_,fun h=> ?_⟩
 ·have hne:(wd a).length≠(wd b).length:=fun e=>by rw[e]at h;simp at h
  rw[Zo6];refine⟨fun h=> ?_,fun h=> ?_⟩
  ·have h1:(wd a).length < (wd b).length:=by have:=of_decide_eq_true h;omega
   rw[ZoK,Zx7 (ZB0 h1)]
  ·have h1:(wd b).length < (wd a).length:=by have:=of_decide_eq_false h;omega
   rw[ZoK,ZxJ (ZB0 h1)]
 ·have hl:(wd a).length=(wd b).length:=by simp only[bne_eq_false_iff_eq]at h;omega
  rw[ZoO,ZoN];refine⟨ZoS (by omega), ?_⟩;refine Zo4 (ZAK Zyk (wd a).length (by omega) (fun i (s:Unit)=>(iL (wd a),iL (wd b),i)) (fun k _=>(wd a).drop k=(wd b).drop k)
   (Q:=fun r=>r= .ret (ZCE a b)∨r= .brk ()∧a=b) () (by rw[List.drop_length,hl,List.drop_length]) ?_ ?_) ?_
  ·rintro rec k ⟨⟩ hk hP ih;have hk2:k < (wd b).length:=by omega
   unfold Ztb Zq7;dsimp only;rw[Zo6];refine⟨fun _=> ?_,fun h=>by have:=of_decide_eq_false h;omega⟩;have ha:=Zys hk;have hb:=Zys hk2;rw[Zup]at ha hb;have la:val ((wd a).take k) < Bw ^ k:=by have:=Zwr ((Zxy a).take k);rwa [ZN0,ZOk (by omega)]at this
   have lb:val ((wd b).take k) < Bw ^ k:=by have:=Zwr ((Zxy b).take k);rwa [ZN0,ZOk (by omega)]at this
   rw[Zvf hk,ZoN,ZoK,Zvf hk2,ZoN,ZoK,Zo6];refine⟨fun hc=> ?_,fun hc=> ?_⟩
   ·have h1:(wd a)[k] < (wd b)[k]:=by have:=of_decide_eq_true hc;omega
    have:a < b:=by rw[ha,hb,hP];exact ZCh (A:=0) (B:=0) la (by omega)
    rw[ZoK];exact .inl (by rw[Zx7 this])
   ·rw[ZoN,ZoK,ZoN,ZoK,Zo6];refine⟨fun hc2=> ?_,fun hc2=> ?_⟩
    ·have h1:(wd b)[k] < (wd a)[k]:=by have:=of_decide_eq_true hc2;omega
     have:b < a:=by rw[ha,hb,hP];exact ZCh (A:=0) (B:=0) lb (by omega)
     rw[ZoK];exact .inl (by rw[ZxJ this])
    ·rw[ZoO];refine⟨ZoS (by omega),ih () ?_⟩;have h1:(wd a)[k]=(wd b)[k]:=by have q1:=of_decide_eq_false hc;have q2:=of_decide_eq_false hc2;omega
     rw[←ZNU (h:=hk),←ZNU (h:=hk2),h1,hP]
  ·rintro rec ⟨⟩ hP;unfold Ztb Zq7;dsimp only;rw[Zo6];refine⟨fun h=>by have:=of_decide_eq_true h;omega,fun _=> ?_⟩;rw[ZoK];rw[List.drop_zero,List.drop_zero]at hP;exact .inr ⟨rfl,by rw[←Zup a,←Zup b,hP]⟩
  ·rintro r (rfl |⟨rfl,rfl⟩)
   ·exact ZoK.2 rfl
   ·unfold Zuf;exact ZoK.2 (ZxY a).symm
theorem ZDn {a:Nat} (k:Nat) (hk:k≤32):shlK .u32 (a:Int) (k:Int)=((a*2 ^ k % 4294967296:Nat):Int):=by
 unfold shlK;rw[ZNM,show IntKind.bits .u32=32 from rfl,ZOk (by omega)];have e:(a:Int)*(2:Int) ^ k=((a*2 ^ k:Nat):Int):=by push_cast;rfl
 rw[e,Zwe]
theorem ZDQ (a d:Nat) (hd:d≤1) (ha:(wd a).length≤100000):ZqS (iL (wd a)) (d:Int)=some (iL (wd (2*a+d))):=by
 refine Zqy ?_;unfold ZqS;rw[ZoN];refine Zo4 (Ztq ZxQ (wd a).length (by omega) (fun i (s:Nat×List Nat)=>(iL (wd a),(s.1:Int),i,iL s.2)) (fun i s=>s.1≤1∧s.2.length=i∧Dg s.2∧val s.2+Bw ^ i*s.1=2*val ((wd a).take i)+d)
  (Q:=fun y=>∃(c:Nat) (o:List Nat),y=((c:Int),iL o)∧c≤1∧Dg o∧o.length=(wd a).length∧val o+Bw ^ (wd a).length*c=2*a+d) (d,[]) ⟨hd,rfl,ZAg,by simp[val]⟩ ?_ ?_) ?_
 ·rintro rec i ⟨c,o⟩ hi ⟨hc,hl,hod,hv⟩ ih;dsimp only at hc hl hod hv ih;have h1:=(Zxy a).get hi;unfold Zsy ZqM;dsimp only;rw[Zo6,Zpb];refine⟨fun _=> ?_,fun h=>by have:=of_decide_eq_false h;omega⟩;rw[Zvf hi,ZoN,ZoK];generalize ex:(wd a)[i]=x at h1;have eor:orK .u32 (shlK .u32 (x:Int) 1) (c:Int)=((c+x*2 ^ 1 % Bw:Nat):Int):=by rw[show (1:Int)=((1:Nat):Int)from rfl,ZDn 1 (by omega),ZCX (ZOm _ (by decide)) (by omega),Nat.or_comm];congr 1;exact ZCq (by decide) (by omega) h1
  have esh:shrK .u32 (x:Int) 31=((x / 2 ^ 31:Nat):Int):=ZAi 31 (by omega);rw[eor,ZOE,esh,ZoO,ZoO,ZoO,ZoO,Zpb];have hx:c+x*2 ^ 1 % Bw < Bw:=by simp only[Bw]at h1⊢;omega
  refine⟨by decide,Zuo (by simp only[ZNZ];omega),by decide,ZoS (by omega), ?_⟩;have:=ih (x / 2 ^ 31,o++[c+x*2 ^ 1 % Bw]) ⟨by simp only[Bw]at h1;dsimp only;omega,by simp[hl],hod.app (ZzZ hx), ?_⟩
  ·rw[ZC3]at this;exact this
  ·dsimp only;have q:c+x*2 ^ 1 % Bw+Bw*(x / 2 ^ 31)=c+2*x:=by simp only[Bw]at h1⊢;omega
   have q2:Bw ^ i*(c+x*2 ^ 1 % Bw+Bw*(x / 2 ^ 31))=Bw ^ i*(c+2*x):=by rw[q]
   have q3:Bw ^ i*(2*x)=2*(Bw ^ i*x):=ZOr _ _ _;rw[ZOn,ZOn (Bw ^ i) c (2*x),q3]at q2;rw[ZwR,hl,Zpl hi,ex];generalize c+x*2 ^ 1 % Bw=dg at*
   generalize x / 2 ^ 31=cy at*
   rw[ZOz,ZOo];omega
 ·rintro rec ⟨c,o⟩ ⟨hc,hl,hod,hv⟩;dsimp only at hc hl hod hv;unfold Zsy ZqM;dsimp only;rw[Zo6,Zpb];refine⟨fun h=>by have:=of_decide_eq_true h;omega,fun _=> ?_⟩;rw[ZoK];rw[ZN3,Zup]at hv;exact⟨c,o,rfl,hc,hod,hl,hv⟩
 ·rintro y ⟨c,o,rfl,hc,hod,hl,hv⟩;dsimp only;unfold Zs6;have e:iL o++[(c:Int)]=iL (o++[c]):=by rw[ZC3];rfl
  rw[ZoO,Zpb,e,ZAs (hod.app (ZzZ (by simp only[Bw];omega))) (by simp;omega),ZoN,ZoK,ZoK,ZwR,hl,hv];exact⟨Zuo (by simp only[ZNZ];omega),rfl⟩
end Go.Proofs
namespace Go.Proofs
open Go Eng
theorem ZIf (t:Int):shrK .i64 t 32=t / 4294967296:=by unfold shrK;rw[show min (32:Int).toNat (IntKind.bits .i64)=32 from by decide,Int.fdiv_eq_ediv_of_nonneg _ (by decide)];rfl
theorem ZDl (a b:Nat) (hab:b≤a) (ha:(wd a).length≤100000):ZrH (iL (wd a)) (iL (wd b))=some (iL (wd (a - b))):=by
 have hlb:(wd b).length≤(wd a).length:=Zt7 hab;refine Zqy ?_;unfold ZrH;rw[ZoN];refine Zo4 (Ztq Zyi (wd a).length (by omega) (fun i (s:Nat×List Nat)=>(iL (wd a),iL (wd b), -(s.1:Int),i,iL s.2)) (fun i s=>s.1≤1∧s.2.length=i∧Dg s.2∧val ((wd a).take i)+Bw ^ i*s.1=val s.2+val ((wd b).take i))
  (Q:=fun y=>∃(o:List Nat),y=iL o∧Dg o∧o.length=(wd a).length∧val o=a - b) (0,[]) ⟨by simp,rfl,ZAg,by simp[val]⟩ ?_ ?_) ?_
 ·rintro rec i ⟨c,o⟩ hi ⟨hc,hl,hd,hv⟩ ih;dsimp only at hc hl hd hv ih;have h1:=(Zxy a).get hi;have h2:=ZBA (Zxy b) i;have ey0:(wd b).getD i 0=(if i < (wd b).length then (wd b).getD i 0 else 0):=by
   by_cases h:i < (wd b).length
   ·rw[if_pos h]
   ·rw[if_neg h,ZNR,ZNT (by omega)];rfl
  have fin:∀y:Nat,(wd b).getD i 0=y→wp (ZqB (fun a b c i out=>rec (a,b,c,i,out)) (iL (wd a)) (iL (wd b)) (-(c:Int)+((wd a)[i]:Int) - (y:Int)) (i:Int) (iL o)) (fun y=>∃(o:List Nat),y=iL o∧Dg o∧o.length=(wd a).length∧val o=a - b):=fun y ey=>by
   rw[ey]at h2;generalize ex:(wd a)[i]=x at h1;have ew:IntKind.wrap .u32 (-(c:Int)+(x:Int) - (y:Int))=(((x+4294967296 - y - c) % 4294967296:Nat):Int):=by simp only[Bw]at h1 h2;rw[IntKind.wrap_u32];omega
   have es:shrK .i64 (-(c:Int)+(x:Int) - (y:Int)) 32= -(((if x < y+c then 1 else 0):Nat):Int):=by simp only[Bw]at h1 h2;rw[ZIf];split<;>omega
   unfold ZqB;rw[ew,es,ZoO,ZoO,ZoO,Zpb];refine⟨Zuo (by simp only[ZNZ];omega),by decide,ZoS (by omega), ?_⟩;have:=ih ((if x < y+c then 1 else 0),o++[(x+4294967296 - y - c) % 4294967296]) ⟨by dsimp only;split<;>omega,by simp[hl],hd.app (ZzZ (ZOm _ (by decide))), ?_⟩
   ·rw[ZC3]at this;exact this
   ·dsimp only;rw[ZwR,hl,ZOz,Zpl hi,Zyh,ex,ey,ZOo];have e:x+Bw*(if x < y+c then 1 else 0)=(x+4294967296 - y - c) % 4294967296+y+c:=by simp only[Bw]at h1 h2⊢;split<;>omega
    have e2:Bw ^ i*(x+Bw*(if x < y+c then 1 else 0))=Bw ^ i*((x+4294967296 - y - c) % 4294967296+y+c):=by rw[e]
    rw[ZOn,ZOn,ZOn]at e2;omega
  unfold Zs7 Zq5;dsimp only;rw[Zo6,Zpb,Zpb];refine⟨fun _=> ?_,fun h=>by have:=of_decide_eq_false h;omega⟩;have wx:IntKind.wrap .i64 ((wd a)[i]:Int)=((wd a)[i]:Int):=wrap_i64 (by simp only[Bw]at h1;omega);rw[Zvf hi,ZoN,ZoK,wx,ZoO,Zo6];refine⟨ZoS (by simp only[Bw]at h1;omega),fun h=> ?_,fun h=> ?_⟩
  ·have hib:i < (wd b).length:=by have:=of_decide_eq_true h;omega
   have hy:=(Zxy b).get hib;have wy:IntKind.wrap .i64 ((wd b)[i]:Int)=((wd b)[i]:Int):=wrap_i64 (by simp only[Bw]at hy;omega);rw[Zvf hib,ZoN,ZoK,wy,ZoO];refine⟨ZoS (by simp only[Bw]at h1 hy;omega),fin _ ?_⟩;rw[ZNR,ZNS hib];rfl
  ·have hib:¬i < (wd b).length:=by have:=of_decide_eq_false h;omega
   have:=fin 0 (by rw[ey0,if_neg hib]);rw[Int.natCast_zero,Int.sub_zero]at this;exact this
 ·rintro rec ⟨c,o⟩ ⟨hc,hl,hd,hv⟩;unfold Zs7 Zq5;dsimp only at hc hl hd hv⊢
  rw[Zo6,Zpb];refine⟨fun h=>by have:=of_decide_eq_true h;omega,fun _=> ?_⟩;rw[ZoK];rw[ZN3,ZN4 (by omega),Zup,Zup]at hv;have:=Zwr hd;rw[hl]at this;have hc0:c=0:=by
   rcases Nat.eq_zero_or_pos c with h |h
   ·exact h
   ·have:c=1:=by omega
    rw[this,Nat.mul_one]at hv;omega
  rw[hc0,ZOt]at hv;exact⟨o,rfl,hd,hl,by omega⟩
 ·rintro y ⟨o,rfl,hd,hl,hv⟩;unfold Zt8;rw[ZAs hd (by omega),ZoN,ZoK,ZoK,hv]
end Go.Proofs
namespace Go.Proofs
open Go Eng
theorem ZBi (a:Nat) (ha:(wd a).length≤100000):ZpN (iL (wd a))=some (iL (wd (a / 2))):=by
 refine Zqy ?_;unfold ZpN;rw[List.nil_append,ZoO,ZoN,Zpb];refine⟨Zuo (by rw[ZNY];omega), ?_⟩;refine Zo4 (Ztq Zx2 (wd a).length (by omega) (fun i (o:List Nat)=>(iL (wd a),((wd a).length:Int),i,iL (o++(wd a).drop o.length))) (fun i o=>o.length=i∧Dg o∧val o*2+(wd a).getD 0 0 % 2=val ((wd a).take i)+Bw ^ i*((wd a).getD i 0 % 2))
  (Q:=fun y=>∃(o:List Nat),y=iL o∧Dg o∧o.length=(wd a).length∧val o=a / 2) [] ⟨rfl,ZAg,by simp[val]⟩ ?_ ?_) ?_
 ·rintro rec i o hi ⟨hol,hod,hov⟩ ih;have h1:=(Zxy a).get hi;have hyB:=ZBA (Zxy a) (i+1);have hlen:(o++(wd a).drop o.length).length=(wd a).length:=by simp;omega
  have gx:(iL (o++(wd a).drop o.length))[i]? =some ((wd a)[i]:Int):=by rw[ZAe (by omega)];congr 2;rw[List.getElem_append_right (by omega)];simp[hol]
  have fin:∀z:Nat,z=(wd a)[i] / 2+(wd a).getD (i+1) 0*2 ^ 31 % Bw→wp (Zqq (fun a t9 i out=>rec (a,t9,i,out)) (iL (wd a)) ((wd a).length:Int) (i:Int) (iL ((o++(wd a).drop o.length).set i z))) (fun y=>∃(o:List Nat),y=iL o∧Dg o∧o.length=(wd a).length∧val o=a / 2):=fun z hz=>by
   unfold Zqq;have es:(o++(wd a).drop o.length).set i z=(o++[z])++(wd a).drop (o++[z]).length:=by rw[List.set_append_right _ _ (by omega),hol,Nat.sub_self,←ZNU (h:=hi),List.set_cons_zero];simp[hol]
   have eg:(wd a).getD i 0=(wd a)[i]:=by rw[ZNR,ZNS hi];rfl
   rw[eg]at hov;rw[ZoO,es];generalize ex:(wd a)[i]=x at*
   generalize ey:(wd a).getD (i+1) 0=y at*
   have hzB:z < Bw:=by simp only[Bw]at h1 hz⊢;omega
   refine⟨ZoS (by omega),ih (o++[z]) ⟨by simp[hol],hod.app (ZzZ hzB), ?_⟩⟩;have hd1:z*2+x % 2=x+Bw*(y % 2):=by simp only[Bw]at h1 hz⊢;omega
   have q1:Bw ^ i*(z*2+x % 2)=Bw ^ i*(x+Bw*(y % 2)):=by rw[hd1]
   rw[ZOn,ZOn]at q1;rw[ZwR,hol,Zpl hi,ex,ZOz,Nat.add_mul,ZOo,ZOo];omega
  unfold ZsM ZqX;dsimp only;rw[Zo6];refine⟨fun _=> ?_,fun h=>by have:=of_decide_eq_false h;omega⟩;have esh:shrK .u32 ((wd a)[i]:Int) 1=(((wd a)[i] / 2:Nat):Int):=ZAi 1 (by omega);rw[ZNM,gx,ZoO,ZoN,ZoK,ZoO,ZoO,ZoO,esh,Zzz,Zpb,Zpb,hlen,Zo6];refine⟨ZrN ⟨by omega,by omega⟩,by decide,ZrN ⟨by omega,by omega⟩,ZoS (by omega),fun h=> ?_,fun h=> ?_⟩
  ·have hi2:i+1 < (wd a).length:=by have:=of_decide_eq_true h;omega
   have gz:(iL ((o++(wd a).drop o.length).set i ((wd a)[i] / 2)))[i]? =some (((wd a)[i] / 2:Nat):Int):=by rw[ZAe (by rw[List.length_set];omega),List.getElem_set_self]
   have e1:(i:Int)+1=((i+1:Nat):Int):=rfl;have eg:(wd a).getD (i+1) 0=(wd a)[i+1]:=by rw[ZNR,ZNS hi2];rfl
   have eor:orK .u32 (((wd a)[i] / 2:Nat):Int) (shlK .u32 ((wd a)[i+1]:Int) 31)=(((wd a)[i] / 2+(wd a).getD (i+1) 0*2 ^ 31 % Bw:Nat):Int):=by rw[eg,show (31:Int)=((31:Nat):Int)from rfl,ZDn 31 (by omega),ZCX (by simp only[Bw]at h1;omega) (ZOm _ (by decide))];congr 1;exact ZCq (by decide) (by simp only[Bw]at h1;omega) ((Zxy a).get hi2)
   rw[e1,Zvf hi2,gz,ZoO,ZoN,ZoK,ZoO,ZoN,ZoK,ZoO,ZoO,eor,Zpb,List.length_set,hlen,Zzz,List.set_set];exact⟨ZrN ⟨by omega,by omega⟩,ZoS (by omega),by decide,ZrN ⟨by omega,by omega⟩,fin _ rfl⟩
  ·have hi2:¬i+1 < (wd a).length:=by have:=of_decide_eq_false h;omega
   refine fin _ ?_;rw[ZNR,ZNT (by omega)];simp
 ·rintro rec o ⟨hol,hod,hov⟩;unfold ZsM ZqX;dsimp only;rw[Zo6];refine⟨fun h=>by have:=of_decide_eq_true h;omega,fun _=> ?_⟩;rw[ZoK];have eg:(wd a).getD (wd a).length 0=0:=by rw[ZNR,ZNT (by omega)];rfl
  rw[eg,Nat.zero_mod,ZOt,ZN8,ZN3,Zup]at hov;refine⟨o,by rw[hol,List.drop_length,List.append_nil],hod,hol, ?_⟩;omega
 ·rintro y ⟨o,rfl,hd,hl,hv⟩;unfold ZtH;rw[ZAs hd (by omega),ZoN,ZoK,ZoK,hv]
end Go.Proofs
namespace Go.Proofs
open Go Eng
theorem ZC1 {a:Nat} (h:a≠0):idx (iL (wd a)) 0=some ((a % Bw:Nat):Int):=by rw[ZAq h];rfl
theorem ZBB {a:Nat}:(andK .u32 ((a % Bw:Nat):Int) 1 == 0)=decide (a % 2=0):=by
 rw[show (1:Int)=((1:Nat):Int)from rfl,ZCz (ZOm _ (by decide)) (by decide),Nat.and_one_is_mod];have e:a % Bw % 2=a % 2:=by simp only[Bw];omega
 rw[e]
 by_cases h:a % 2=0
 ·rw[h];rfl
 ·rw[decide_eq_false h];exact beq_eq_false_iff_ne.2 (by omega)
theorem ZD4 (P:Nat→Prop) {f:Nat→List Int×List Int×Int→Option (List Int×List Int×Int)} (y:List Int) (k:Int)
  (hf:∀n x,x≠0→(wd x).length≤100000→f (n+1) (iL (wd x),y,k)=if x % 2=0 then f n (iL (wd (x / 2)),y,k)else some (iL (wd x),y,k))
  (hP:∀x,P (2*x)→P x):∀(n x:Nat),x≠0→(wd x).length≤100000→P x→(∀m,x < 2 ^ m→m≤n→∃z,f n (iL (wd x),y,k)=some (iL (wd z),y,k)∧z % 2=1∧z≤x∧P z)
 |0,x,hx,hl,hp,m,hm,hmn=>by
  have:m=0:=by omega
  subst this;rw[ZOA]at hm;omega
 |n+1,x,hx,hl,hp,m,hm,hmn=>by
  rw[hf n x hx hl]
  by_cases h:x % 2=0
  ·rw[if_pos h];cases m with
   |zero=>rw[ZOA]at hm;omega
   |succ m=>
    obtain⟨z,h1,h2,h3,h4⟩:=ZD4 P y k hf hP n (x / 2) (by omega) (ZOg (Zt7 (ZOb x 2)) hl) (hP _ (by rwa [show 2*(x / 2)=x by omega])) m (by rw[ZOz]at hm;omega) (by omega);exact⟨z,h1,h2,by omega,h4⟩
  ·rw[if_neg h];exact⟨x,rfl,by omega,ZOf _,hp⟩
end Go.Proofs
namespace Go.Proofs
open Go Eng
theorem ZxK (x:Nat):x < 2 ^ (x.log2+1):=Nat.lt_log2_self
theorem Zzt {x n:Nat} (h:(wd x).length≤n):x.log2≤32*n:=by
 rcases Nat.eq_zero_or_pos x with rfl |hp
 ·rw[Nat.log2_zero];omega
 ·have h1:=Nat.log2_self_le (n:=x) (by omega);have h2:=ZOi (ZvO x) (ZOx (n:=Bw) (by decide) h);rw[show Bw=2 ^ 32 from rfl,←ZOy]at h2;exact ZOe ((Nat.pow_lt_pow_iff_right (a:=2) (by decide)).1 (ZOh h1 h2))
theorem ZFE {x b:Nat} (hb:b % 2=1):ZOc (2*x) b=ZOc x b:=by
 have hc:Nat.Coprime 2 b:=by unfold Nat.Coprime;rw[Nat.gcd_rec,hb,Nat.gcd_one_left]
 exact Nat.Coprime.gcd_mul_left_cancel x hc
theorem ZMF (y:List Int) (k:Int) {x:Nat} (b:Nat) (hb:b % 2=1) (hx:x≠0) (hl:(wd x).length≤100000):∃z,Zpg big (iL (wd x)) y k=some (iL (wd z),y,k)∧z % 2=1∧z≤x∧ZOc z b=ZOc x b:=by
 have hm:=Zzt hl;refine ZD4 (fun z=>ZOc z b=ZOc x b) (f:=fun n t=>Zpg n t.1 t.2.1 t.2.2) y k (fun n x hx hl=> ?_) (fun z h=>by rwa [ZFE hb]at h) big x hx hl rfl (x.log2+1) (ZxK x) (ZOe (Zz1 (by omega)));show Zqa (Zpg n) (iL (wd x)) y k=_;unfold Zqa;rw[ZC1 hx,ZOE,ZBB]
 by_cases h:x % 2=0
 ·rw[decide_eq_true h,cond_true,if_pos h,ZBi x hl,ZOE]
 ·rw[decide_eq_false h,cond_false,if_neg h]
end Go.Proofs
namespace Go.Proofs
open Go Eng
theorem ZHl (y:List Int) (k:Int) {x:Nat} (ho:x % 2=1):Zpg big (iL (wd x)) y k=some (iL (wd x),y,k):=by obtain⟨n,hn⟩:=ZFR 1 (by decide);rw[hn];show Zqa (Zpg n) (iL (wd x)) y k=_;unfold Zqa;rw[ZC1 (by omega),ZOE,ZBB,decide_eq_false (by omega),cond_false]
theorem ZME (w:List Int) (k:Int) {y:Nat} (b:Nat) (hb:b % 2=1) (hy:y≠0) (hl:(wd y).length≤100000):∃z,Zpf big w (iL (wd y)) k=some (w,iL (wd z),k)∧z % 2=1∧(z≤y∧(y % 2=0→z≤y / 2))∧ZOc z b=ZOc y b:=by
 have hm:=Zzt hl;have step:∀n x,x≠0→(wd x).length≤100000→Zpf (n+1) w (iL (wd x)) k=if x % 2=0 then Zpf n w (iL (wd (x / 2))) k else some (w,iL (wd x),k):=fun n x hx hl=>by
  show Zs8 (Zpf n) w (iL (wd x)) k=_;unfold Zs8;rw[ZC1 hx,ZOE,ZBB]
  by_cases h:x % 2=0
  ·rw[decide_eq_true h,cond_true,if_pos h,ZBi x hl,ZOE]
  ·rw[decide_eq_false h,cond_false,if_neg h]
 have key:∀(n x m:Nat),x≠0→(wd x).length≤100000→x < 2 ^ m→m≤n→∃z,Zpf n w (iL (wd x)) k=some (w,iL (wd z),k)∧z % 2=1∧(z≤x∧(x % 2=0→z≤x / 2))∧ZOc z b=ZOc x b:=by
  intro n
  induction n with
  |zero=>
   intro x m hx hl hm hmn;have:m=0:=by omega
   subst this;rw[ZOA]at hm;omega
  |succ n ih=>
   intro x m hx hl hm hmn;rw[step n x hx hl]
   by_cases h:x % 2=0
   ·rw[if_pos h];cases m with
    |zero=>rw[ZOA]at hm;omega
    |succ m=>
     obtain⟨z,h1,h2,h3,h4⟩:=ih (x / 2) m (by omega) (ZOg (Zt7 (ZOb x 2)) hl) (by rw[ZOz]at hm;omega) (by omega);refine⟨z,h1,h2,⟨by omega,fun _=>h3.1⟩, ?_⟩;rw[h4,←ZFE hb,show 2*(x / 2)=x by omega]
   ·rw[if_neg h];exact⟨x,rfl,by omega,⟨ZOf _,fun h'=>absurd h' h⟩,rfl⟩
 exact key big y (y.log2+1) hy hl (ZxK y) (ZOe (Zz1 (by omega)))
end Go.Proofs
namespace Go.Proofs
open Go Eng
theorem ZGK (k:Int):∀(n x y p q:Nat),x % 2=1→(wd x).length≤100000→(wd y).length≤100000→x < 2 ^ p→y < 2 ^ q→p+q+y % 2 < n→ZoZ n (iL (wd x)) (iL (wd y)) k=some (iL (wd (ZOc x y)),k)
 |0,x,y,p,q,_,_,_,_,_,h=>absurd h (by omega)
 |n+1,x,y,p,q,ho,hxl,hyl,hp,hq,hn=>by
  show Zqb (ZoZ n) _ _ _=_;unfold Zqb;rw[Zpb]
  by_cases h0:y=0
  ·subst h0;rw[ZuU,Nat.gcd_zero_right];rfl
  ·have hl:=ZtP h0;obtain⟨z,hz,hz1,hz2,hz3⟩:=ZME (iL (wd x)) k x ho h0 hyl;rw[decide_eq_true (by omega),cond_true,ZHl _ _ ho,ZOE];dsimp only;unfold Zuc;rw[hz,ZOE];dsimp only;have hzl:=ZOg (Zt7 hz2.1) hyl;unfold Zub;rw[ZFL x z hxl hzl,ZOE];obtain⟨q',hq',hq2⟩:∃q',z < 2 ^ q'∧q'+1≤q+y % 2:=by
    by_cases he:y % 2=0
    ·cases q with
     |zero=>rw[ZOA]at hq;omega
     |succ q=>
      refine⟨q, ?_,by omega⟩;have:=hz2.2 he;rw[ZOz]at hq;omega
    ·exact⟨q,by omega,by omega⟩
   unfold Zr1;have eg:ZOc x y=ZOc x z:=by rw[ZOd x y,←hz3,ZOd]
   rw[eg]
   by_cases hc:z < x
   ·rw[ZxJ hc,show decide ((1:Int) > 0)=true from rfl,cond_true,ZDl x z (by omega) hxl,ZOE,ZGK k n z (x - z) q' p hz1 hzl (ZOg (Zt7 (Nat.sub_le x z)) hxl) hq' (by omega) (by omega),Nat.gcd_sub_self_right (by omega),ZOd]
   ·have hnc:decide (ZCE x z > 0)=false:=by refine decide_eq_false ?_;unfold ZCE;rw[if_neg hc];split<;>decide
    rw[hnc,cond_false,ZDl z x (by omega) hzl,ZOE,ZGK k n x (z - x) p q' ho hxl (ZOg (Zt7 (Nat.sub_le z x)) hzl) hp (by omega) (by omega),Nat.gcd_sub_self_right (by omega)]
end Go.Proofs
namespace Go.Proofs
open Go Eng
theorem ZKs:∀(n x y j m:Nat),x≠0→y≠0→(wd x).length≤100000→(wd y).length≤100000→x < 2 ^ m→m≤n→j+m≤1000000000→
  ∃x' y' t:Nat,ZpW n (iL (wd x)) (iL (wd y)) (j:Int)=some (iL (wd x'),iL (wd y'),((j+t:Nat):Int))∧(x' % 2=1∨y' % 2=1)∧ZOc x y=2 ^ t*ZOc x' y'∧x'≠0∧y'≠0∧x'≤x∧y'≤y∧t≤m
 |0,x,y,j,m,hx,hy,hxl,hyl,hm,hmn,hj=>by
  have:m=0:=by omega
  subst this;rw[ZOA]at hm;omega
 |n+1,x,y,j,m,hx,hy,hxl,hyl,hm,hmn,hj=>by
  show ∃x' y' t:Nat,Zs9 (ZpW n) _ _ _=_∧_;unfold Zs9 Zr2;rw[ZC1 hx,ZOE,ZBB]
  by_cases h1:x % 2=0
  ·rw[decide_eq_true h1,cond_true,ZC1 hy,ZOE,ZBB]
   by_cases h2:y % 2=0
   ·cases m with
    |zero=>rw[ZOA]at hm;omega
    |succ m=>
     rw[decide_eq_true h2,cond_true,ZBi x hxl,ZOE,ZBi y hyl,ZOE,ZoS (by omega),chk_true];obtain⟨x',y',t,q1,q2,q3,q4,q5,q6,q7,q8⟩:=ZKs n (x / 2) (y / 2) (j+1) m (by omega) (by omega) (ZOg (Zt7 (ZOb x 2)) hxl) (ZOg (Zt7 (ZOb y 2)) hyl) (by rw[ZOz]at hm;omega) (by omega) (by omega);refine⟨x',y',t+1, ?_,q2, ?_,q4,q5,by omega,by omega,by omega⟩
     ·rw[show (j:Int)+1=((j+1:Nat):Int)from rfl,q1,show j+1+t=j+(t+1) by omega]
     ·have:=Nat.gcd_mul_left 2 (x / 2) (y / 2);rw[show 2*(x / 2)=x by omega,show 2*(y / 2)=y by omega]at this;rw[this,q3,ZOz,ZOp (2 ^ t) 2,ZOo]
   ·rw[decide_eq_false h2,cond_false];exact⟨x,y,0,rfl,.inr (by omega),by rw[ZOA,ZOu],hx,hy,ZOf _,ZOf _,Nat.zero_le _⟩
  ·rw[decide_eq_false h1,cond_false,cond_false];exact⟨x,y,0,rfl,.inl (by omega),by rw[ZOA,ZOu],hx,hy,ZOf _,ZOf _,Nat.zero_le _⟩
theorem ZKr:∀(k n a:Nat),k < n→k≤1000000000→(wd (2 ^ k*a)).length≤100000→ZpV n (iL (wd a)) (k:Int)=some (iL (wd (2 ^ k*a)))
 |k,0,a,h,_,_=>absurd h (by omega)
 |0,n+1,a,_,_,_=>by show Zp9 (ZpV n) _ _=_;unfold Zp9;rw[ZOA,ZOu];rfl
 |k+1,n+1,a,h,hk,hl=>by
  show Zp9 (ZpV n) _ _=_;unfold Zp9;have e:2 ^ (k+1)*a=2 ^ k*(2*a+0):=by rw[ZOz,ZOo,ZN8]
  have ha:(wd a).length≤100000:=ZOg (Zt7 (Nat.le_mul_of_pos_left a (ZOC _))) hl;rw[e]at hl;have ht:=ZDQ a 0 (by omega) ha;rw[Int.natCast_zero]at ht;rw[decide_eq_true (by omega),cond_true,ht,ZOE,show ((k+1:Nat):Int) - 1=(k:Int) by omega,ZoS (by omega),chk_true,ZKr k n (2*a+0) (by omega) (by omega) hl,e]
theorem ZIM (a b:Nat) (ha0:a≠0) (hb0:b≠0) (ha:(wd a).length≤50000) (hb:(wd b).length≤50000):Ztx (iL (wd a)) (iL (wd b))=some (iL (wd (ZOc a b))):=by
 have hla:=Zzt ha;have hlb:=Zzt hb;obtain⟨x,y,t,q1,q2,q3,q4,q5,q6,q7,q8⟩:=ZKs big a b 0 (a.log2+1) ha0 hb0 (by omega) (by omega) (ZxK a) (ZOe (Zz1 (by omega))) (by omega);rw[Int.natCast_zero,ZOD]at q1;have hxl:=ZOg (Zt7 q6) ha;have hyl:=ZOg (Zt7 q7) hb;have hlx:=Zzt hxl;have hly:=Zzt hyl;have main:ZoZ big (iL (wd x)) (iL (wd y)) (t:Int)=some (iL (wd (ZOc x y)),(t:Int)):=by
  by_cases hx:x % 2=1
  ·exact ZGK _ big x y _ _ hx (by omega) (by omega) (ZxK x) (ZxK y) (Zz1 (by omega))
  ·have hy:y % 2=1:=by omega
   obtain⟨z,z1,z2,z3,z4⟩:=ZMF (iL (wd y)) (t:Int) y hy q4 (by omega);have hzl:=ZOg (Zt7 z3) hxl;have hlz:=Zzt hzl;have e:=ZGK (t:Int) big z y _ _ z2 (by omega) (by omega) (ZxK z) (ZxK y) (Zz1 (by omega));rw[z4]at e;rw[←e];obtain⟨n,hn⟩:∃n,big=n+1:=⟨36893488147419103231,by rw[big_eq]⟩;have s1:∀u,ZoZ big (iL (wd u)) (iL (wd y)) (t:Int)=Zqb (ZoZ n) (iL (wd u)) (iL (wd y)) (t:Int):=fun u=>by rw[hn];rfl
   rw[s1,s1];unfold Zqb;have hl:=ZtP q5;rw[Zpb,decide_eq_true (by omega),cond_true,cond_true,z1,ZHl _ _ z2]
 have hg:(wd (2 ^ t*ZOc x y)).length≤100000:=by rw[←q3];exact ZOg (ZEY (by omega) hb) (by omega)
 unfold Ztx;rw[q1,ZOE];dsimp only;unfold Zud Zua Zt9;rw[main,ZOE];dsimp only;rw[ZKr t big _ (Zz1 (by omega)) (by omega) hg,ZOE,q3]
end Go.Proofs
namespace Go.Proofs
open Go Eng
theorem ZFP {l:List Nat} {i:Nat} (hd:Dg l) (h:i / 32 < l.length):l[i / 32] / 2 ^ (i % 32) % 2=val l / 2 ^ i % 2:=by
 have e:=Zys h;have hlt:=Zwr (hd.take (i / 32));rw[ZN0,ZOk (by omega)]at hlt;have hi:2 ^ i=Bw ^ (i / 32)*2 ^ (i % 32):=by rw[show Bw=2 ^ 32 from rfl,←ZOy,←ZOw,ZN9]
 have hr:i % 32 < 32:=ZOm _ (by decide);have hB:Bw=2 ^ (i % 32)*(2*2 ^ (31 - i % 32)):=by rw[show 2*2 ^ (31 - i % 32)=2 ^ (31 - i % 32+1) by rw[ZOz,ZOp],←ZOw,show i % 32+(31 - i % 32+1)=32 by omega]
 have e1:val l / Bw ^ (i / 32)=l[i / 32]+Bw*val (l.drop (i / 32+1)):=by rw[e,ZN6 _ _ (Nat.pow_pos (by decide)),ZOa hlt,ZOD]
 rw[hi,←Nat.div_div_eq_div_mul,e1];generalize l[i / 32]=x;generalize val (l.drop (i / 32+1))=y;have e2:(x+Bw*y) / 2 ^ (i % 32)=x / 2 ^ (i % 32)+2*(2 ^ (31 - i % 32)*y):=by rw[hB,ZOo,ZN6 _ _ (ZOC _),ZOo]
 rw[e2,ZN7]
end Go.Proofs
namespace Go.Proofs
open Go Eng
theorem ZHb (i:Nat):Int.tdiv (i:Int) 32=((i / 32:Nat):Int):=by rw[Int.tdiv_eq_ediv_of_nonneg (by omega)];norm_cast
theorem ZHa (i:Nat):IntKind.wrap .u64 (Int.tmod (i:Int) 32)=((i % 32:Nat):Int):=by rw[Int.tmod_eq_emod_of_nonneg (by omega),IntKind.wrap_u64];omega
theorem ZKV {l:List Nat} {i:Nat} (hd:Dg l) (h:i / 32 < l.length) (hi:i≤1000000000):Zty (iL l) (i:Int)=some ((val l / 2 ^ i % 2:Nat):Int):=by have h1:=hd.get h;unfold Zty;rw[ZHb,ZHa,decide_eq_true (by decide),chk_true,ZoS (by omega),chk_true,Zvf h,ZOE,chk_true,decide_eq_true (by omega),chk_true,ZAi _ (by omega),show (1:Int)=((1:Nat):Int)from rfl,ZCz (ZOh (ZOb _ _) h1) (by decide),Nat.and_one_is_mod,ZFP hd h]
end Go.Proofs
namespace Go.Proofs
open Go Eng
theorem ZHe {x j:Nat} (h:x / 2 ^ j % 2=0):x|||2 ^ j=x+2 ^ j:=by
 have hlo:=ZOm x (ZOC j);have e:x=2 ^ (j+1)*(x / 2 ^ j / 2)+x % 2 ^ j:=by
  have h1:=ZN9 x (2 ^ j);have h2:2*(x / 2 ^ j / 2)=x / 2 ^ j:=by omega
  rw[ZOz,ZOo,h2,h1]
 have a1:=ZOB (i:=j+1) (b:=x % 2 ^ j) (by rw[ZOz];omega) (x / 2 ^ j / 2);have a2:=ZOB (i:=j) (b:=x % 2 ^ j) hlo 1;have a3:=ZOB (i:=j+1) (b:=2 ^ j*1+x % 2 ^ j) (by rw[ZOz];omega) (x / 2 ^ j / 2);rw[Nat.mul_one]at a2 a3;generalize x / 2 ^ j / 2=t at*
 generalize x % 2 ^ j=lo at*
 rw[e,a1,Nat.or_assoc,Nat.or_comm lo,←a2,←a3,←a1];omega
theorem ZIh {j:Nat} (hj:j≤31):shlK .u32 1 (j:Int)=((2 ^ j:Nat):Int):=by have:=ZDn (a:=1) j (by omega);rw[ZOu,ZOl (ZOh (ZOx (by decide) hj) (by decide))]at this;exact this
theorem ZFB {A k:Nat}:A / 2 ^ k=2*(A / 2 ^ (k+1))+A / 2 ^ k % 2:=by rw[ZOz,←Nat.div_div_eq_div_mul];omega
theorem ZFG (a b:Nat) (hb0:b≠0) (ha:(wd a).length≤50000) (hb:(wd b).length≤50000):ZrI (iL (wd a)) (iL (wd b))=some (iL (wd (a / b)),iL (wd (a % b))):=by
 have hlen:∀k,(wd (2*(a / 2 ^ (k+1) % b)+a / 2 ^ k % 2)).length≤50001:=fun k=>by
  have h1:=ZOm (a / 2 ^ (k+1)) (ZOv hb0);have h2:2*(a / 2 ^ (k+1) % b)+a / 2 ^ k % 2≤b+b:=by omega
  exact ZOg (Zt7 h2) (ZEZ hb hb)
 refine Zqy ?_;unfold ZrI;rw[ZoO,ZoO,ZoO,ZoN,Zpb,ZNM,ZB1];refine⟨Zz7 (by omega),ZoS (by omega),ZoS (by omega), ?_⟩;have e0:(32*((wd a).length:Int)) - 1=((32*(wd a).length:Nat):Int) - 1:=by omega
 rw[e0,show ([]:List Int)=iL (wd 0) by rw[ZuU];rfl];refine Zo4 (ZAK Zyj (32*(wd a).length) (by omega) (fun i (q:Nat×List Nat)=>(iL (wd a),iL (wd b),iL (wd q.1),i,iL q.2))
  (fun k q=>q.1=a / 2 ^ k % b∧Dg q.2∧q.2.length=(wd a).length∧val q.2=a / 2 ^ k / b*2 ^ k)
  (Q:=fun y=>∃o:List Nat,y=(iL (wd (a % b)),iL o)∧Dg o∧o.length=(wd a).length∧val o=a / b) (0,List.replicate (wd a).length 0) ?_ ?_ ?_) ?_
 ·have h0:a / 2 ^ (32*(wd a).length)=0:=by refine ZOa ?_;rw[ZOy];exact ZvO a
  rw[h0,Nat.zero_mod,Nat.zero_div,Nat.zero_mul];exact⟨rfl,ZHn _,List.length_replicate,ZE4 _⟩
 ·rintro rec k ⟨r,q⟩ hk ⟨hr,hd,hl,hv⟩ ih;dsimp only at hr hd hl hv;have hk32:k / 32 < (wd a).length:=by omega
  unfold Zta Zq6;dsimp only;have hbit:=ZKV (i:=k) (Zxy a) hk32 (by omega);rw[Zup]at hbit;have h2:a / 2 ^ k % 2≤1:=by omega
  have htw:=ZDQ r (a / 2 ^ k % 2) h2 (by
   rw[hr];exact ZOg (Zt7 (ZOe (ZOm _ (ZOv hb0)))) (by omega))
  have hlk:=hlen k;rw[←hr]at hlk;have hx:=ZFB (A:=a) (k:=k);have hdm:=ZN9 (a / 2 ^ (k+1)) b;rw[←hr]at hdm;have hrlt:r < b:=by rw[hr];exact ZOm _ (ZOv hb0)
  rw[Zo6];refine⟨fun _=> ?_,fun h=>by have:=of_decide_eq_false h;omega⟩;rw[hbit,ZoN,ZoK,htw,ZoN,ZoK,ZFL _ _ (by omega) (by omega),ZoN,ZoK,Zo6];have nx:∀r' q',(r'=a / 2 ^ k % b∧Dg q'∧q'.length=(wd a).length∧val q'=a / 2 ^ k / b*2 ^ k)→wp (ZqD (fun a b r_ i q=>rec (a,b,r_,i,q)) (iL (wd a)) (iL (wd b)) (iL (wd r')) (k:Int) (iL q')) (fun y=>∃o:List Nat,y=(iL (wd (a % b)),iL o)∧Dg o∧o.length=(wd a).length∧val o=a / b):=fun r' q' h=>by unfold ZqD;rw[ZoO];exact⟨ZoS (by omega),ih (r',q') h⟩
  generalize eX:a / 2 ^ (k+1)=X at*
  generalize ed:a / 2 ^ k % 2=d at*
  refine⟨fun hc=> ?_,fun hc=> ?_⟩
  ·have hge:b≤2*r+d:=by
    rcases ZOj (2*r+d) b with h |h
    ·rw[Zx7 h]at hc;exact absurd (of_decide_eq_true hc) (by decide)
    ·exact h
   have hq:k / 32 < q.length:=by omega
   have hz:q[k / 32] / 2 ^ (k % 32) % 2=0:=by rw[ZFP hd hq,hv,ZOz,←ZOo,Nat.mul_right_comm,Nat.mul_div_cancel _ (ZOC k)];omega
   have hx32:=hd.get hq;rw[ZDl _ _ hge (by omega),ZoN,ZoK,ZHb,ZHa,ZNM,ZoO,ZoO,ZoO,ZAe hq,ZoN,ZoK,ZoO,ZoO,ZoO,ZIh (by omega),ZCX hx32 (ZOh (ZOx (by decide) (show k % 32≤31 by omega)) (by decide)),ZHe hz,Zzz,Zpb];refine⟨by decide,ZoS (by omega),ZrN ⟨by omega,by omega⟩,by decide,decide_eq_true (by omega),ZrN ⟨by omega,by omega⟩, ?_⟩;have hsum:q[k / 32]+2 ^ (k % 32) < Bw:=by
    have hB:Bw=2 ^ (k % 32)*(2*2 ^ (31 - k % 32)):=by rw[show 2*2 ^ (31 - k % 32)=2 ^ (31 - k % 32+1) by rw[ZOz,ZOp],←ZOw,show k % 32+(31 - k % 32+1)=32 by omega]
    rw[←ZHe hz];exact Nat.or_lt_two_pow (n:=32) hx32 (ZOh (ZOx (by decide) (show k % 32≤31 by omega)) (by decide))
   refine nx (2*r+d - b) (q.set (k / 32) (q[k / 32]+2 ^ (k % 32))) ⟨?_,hd.set _ hsum,by rw[List.length_set,hl], ?_⟩
   ·rw[hx,show 2*X+d=(2*r+d - b)+b*(2*(X / b)+1) by rw[ZOn,ZOr];omega,ZN7,ZOl (by omega)]
   ·have hvs:=ZzI q (k / 32) (q[k / 32]+2 ^ (k % 32)) hq;have hp:Bw ^ (k / 32)*2 ^ (k % 32)=2 ^ k:=by rw[show Bw=2 ^ 32 from rfl,←ZOy,←ZOw,ZN9]
    rw[ZOn,hp]at hvs;have e1:(2*X+d) / b=2*(X / b)+1:=by rw[show 2*X+d=(2*r+d - b)+b*(2*(X / b)+1) by rw[ZOn,ZOr];omega,ZN6 _ _ (ZOv hb0),ZOa (by omega),ZOD]
    rw[hx,e1];rw[hv,ZOz]at hvs;have e2:X / b*(2 ^ k*2)=2*(X / b)*2 ^ k:=by rw[ZOp (2 ^ k) 2,←ZOo,ZOp (X / b) 2]
    rw[Nat.add_mul,ZOu];omega
  ·have hlt:2*r+d < b:=by
    rcases ZOj (2*r+d) b with h |h
    ·exact h
    ·rcases ZOj b (2*r+d)with h' |h'
     ·rw[ZxJ h']at hc;exact absurd (of_decide_eq_false hc) (by decide)
     ·rw[show 2*r+d=b by omega,ZxY]at hc;exact absurd (of_decide_eq_false hc) (by decide)
   have e0:2*X+d=(2*r+d)+b*(2*(X / b)):=by rw[ZOr];omega
   refine nx (2*r+d) q ⟨?_,hd,hl, ?_⟩
   ·rw[hx,e0,ZN7,ZOl hlt]
   ·rw[hx,e0,ZN6 _ _ (ZOv hb0),ZOa hlt,ZOD,hv,ZOz,ZOp (2 ^ k) 2,←ZOo,ZOp (X / b) 2]
 ·rintro rec ⟨r,q⟩ ⟨hr,hd,hl,hv⟩;dsimp only at hr hd hl hv;rw[ZOA,Nat.div_one]at hr hv;unfold Zta Zq6;dsimp only;rw[Zo6];refine⟨fun h=>by have:=of_decide_eq_true h;omega,fun _=> ?_⟩;rw[ZoK,hr];exact⟨q,rfl,hd,hl,by rw[hv,Nat.mul_one]⟩
 ·rintro y ⟨o,rfl,hd,hl,hv⟩;dsimp only;unfold Zue;rw[ZAs hd (by omega),ZoN,ZoK,ZoK,hv]
end Go.Proofs
namespace Go.Proofs
open Go Eng
theorem ZB4 (n:Int):Rat.divInt n 1=(n:Rat):=by have h:=Rat.num_divInt_den (n:Rat);rw[Rat.num_intCast,Rat.den_intCast]at h;exact h
end Go.Proofs
namespace Go.Proofs
open Go Eng
theorem ZAk (z:Int) (h1: -9223372036854775808≤z) (h2:z≤9223372036854775807):ZpL z=some (bg z):=by
 have key:∀(b:Bool) (n:Nat),n < 18446744073709551616→ZpY b [IntKind.wrap .u32 (n:Int),IntKind.wrap .u32 (shrK .u64 (n:Int) 32)]=some (bg (if b then -(n:Int)else n)):=fun b n h=>by
  have e:([IntKind.wrap .u32 (n:Int),IntKind.wrap .u32 (shrK .u64 (n:Int) 32)]:List Int)=iL [n % 4294967296,n / 4294967296]:=by rw[show (32:Int)=((32:Nat):Int)from rfl,ZzK 32 (by omega),Zwe,ZwK (by omega)];rfl
  have hd:Dg [n % 4294967296,n / 4294967296]:=fun d hd=>by
   simp only[List.mem_cons,List.mem_singleton,ZN1,or_false]at hd;rcases hd with rfl |rfl
   ·exact ZOm _ (by decide)
   ·simp only[Bw];omega
  have hv:val [n % 4294967296,n / 4294967296]=n:=by simp only[val,ZOt,ZN8];exact Nat.mod_add_div n Bw
  rw[e,ZDA b hd (by simp),hv]
 unfold ZpL ZqN;have h32:decide (0≤(32:Int))=true:=rfl
 by_cases hz:z < 0
 ·have e:IntKind.wrap .u64 (0 - IntKind.wrap .u64 z)=((z.natAbs:Nat):Int):=by rw[IntKind.wrap_u64,IntKind.wrap_u64];omega
  rw[decide_eq_true hz,cond_true,h32,chk_true,e,key true _ (by omega),ZOE,if_pos rfl,show -((z.natAbs:Nat):Int)=z by omega]
 ·have e:IntKind.wrap .u64 z=((z.natAbs:Nat):Int):=by rw[IntKind.wrap_u64];omega
  rw[decide_eq_false hz,cond_false,h32,chk_true,e,key false _ (by omega),ZOE,if_neg (by decide),show ((z.natAbs:Nat):Int)=z by omega]
theorem ZIU:bg 0=⟨false,[]⟩:=by unfold bg;rw[show (0:Int).natAbs=0 from rfl,ZuU];rfl
theorem ZEB (x y:Int) (hy:y≠0) (hx1:Wl 50000 x) (hy1:Wl 50000 y):Zr0 (bg x) (bg y)=some (fOf (Rat.divInt x y)):=by
 unfold Zr0
 by_cases hx:x=0
 ·subst hx;rw[Rat.zero_divInt,ZrA,Zpb,show (0:Int).natAbs=0 from rfl,ZuU,ZAk 1 (by decide) (by decide)];show some (ZoF.mk ⟨false,[]⟩ (bg 1))=some (fOf 0);rw[←ZIU];rfl
 ·have hx0:0 < x.natAbs:=by omega
  have hy0:0 < y.natAbs:=by omega
  have hg0:ZOc x.natAbs y.natAbs≠0:=fun e=>by have:=Nat.gcd_pos_of_pos_right x.natAbs hy0;omega
  have hgl:=ZEY (x:=x.natAbs) hy0 hy1;have hxl:=ZDO (ZOc x.natAbs y.natAbs) hx1;have hyl:=ZDO (ZOc x.natAbs y.natAbs) hy1;have h:=Zzc x y hy hx1 hy1;unfold Zqw at h;rw[ZrA,ZrA,ZBF _ _ hx1 hy1,ZOE,ZAS _ _ hg0 hx1 hgl,ZOE]at h;dsimp only at h;rw[ZAS _ _ hg0 hy1 hgl,ZOE]at h;dsimp only at h;rw[Zva _ _ (by omega),ZOE,Zva _ _ (by omega),ZOE]at h;have hlen:=ZtP (n:=x.natAbs) (by omega);rw[←h,ZrA,ZrA,Zpb,beq_eq_false_iff_ne.2 (by omega),cond_false,ZIM _ _ (by omega) (by omega) hx1 hy1,ZOE,ZFG _ _ hg0 hx1 hgl,ZOE];dsimp only;rw[ZFG _ _ hg0 hy1 hgl,ZOE];dsimp only;rw[ZDA _ (Zxy _) (by omega),ZOE,ZDA _ (Zxy _) (by omega),ZOE,Zup,Zup]
theorem ZGE (x y:Int) (hy:y≠0) (hx1:Wl 256 x) (hy1:Wl 256 y):ZsN (bg x) (bg y)=some (fOf (Rat.divInt x y),0):=by unfold ZsN Zrt;rw[ZAa,ZAh x hx1,ZOE,ZNG,cond_false,ZAa,ZAh y hy1,ZOE,ZNG,cond_false,ZAM hy,cond_false,ZEB x y hy (ZOg hx1 (by decide)) (ZOg hy1 (by decide)),ZOE]
theorem ZKn (x y:Int) (hy:y≠0) (h1: -9223372036854775808≤x) (h2:x≤9223372036854775807) (h3: -9223372036854775808≤y) (h4:y≤9223372036854775807):ZtQ x y=some (fOf (Rat.divInt x y),0):=by unfold ZtQ;rw[ZAk x h1 h2,ZOE,ZAk y h3 h4,ZOE,ZGE x y hy (ZL4 h1 h2) (ZL4 h3 h4),ZOE]
theorem ZFq (x y:Int) (hy:y≠0) (h1: -9223372036854775808≤x) (h2:x≤9223372036854775807) (h3: -9223372036854775808≤y) (h4:y≤9223372036854775807):ZrZ x y=some (fOf (Rat.divInt x y)):=by unfold ZrZ;rw[ZwJ];unfold ZuV;rw[ZKn x y hy h1 h2 h3 h4,ZOE]
theorem ZGM (x:Int) (h1: -9223372036854775808≤x) (h2:x≤9223372036854775807):Zp3 x=some (fOf (x:Rat)):=by unfold Zp3;rw[ZwJ];unfold Zvq;rw[ZFq x 1 (by decide) h1 h2 (by decide) (by decide),ZOE,ZB4]
theorem ZJ0 {a b:Nat} (h:wd a=wd b):a=b:=by rw[←Zup a,←Zup b,h]
theorem ZBY (x y:Int) (hx:Wl 100000 x) (hy:Wl 100000 y):Zqo (bg x) (bg y)=some (decide (x=y)):=by
 unfold Wl at hx hy;refine Zqy ?_;unfold Zqo ZqL;rw[ZzC,ZzC,ZrA,ZrA,Zpb,Zpb]
 by_cases hs:decide (x < 0)=decide (y < 0)
 ·rw[hs,beq_self_eq_true,ZNG,cond_false]
  by_cases hl:(wd x.natAbs).length=(wd y.natAbs).length
  ·rw[hl,bne_self_eq_false,cond_false,ZoN];refine Zo4 (Ztq ZxA (wd y.natAbs).length (by omega) (fun i (_:Unit)=>(iL (wd x.natAbs),((wd y.natAbs).length:Int),i,bg y)) (fun i _=>(wd x.natAbs).take i=(wd y.natAbs).take i)
    (Q:=fun r=>r= .ret false∧wd x.natAbs≠wd y.natAbs∨r= .brk ()∧wd x.natAbs=wd y.natAbs) () (by rw[List.take_zero,List.take_zero]) ?_ ?_) ?_
   ·rintro rec i ⟨⟩ hi hP ih;have hi2:i < (wd x.natAbs).length:=by omega
    unfold ZrR Zql;dsimp only;rw[Zo6];refine⟨fun _=> ?_,fun h=>by have:=of_decide_eq_false h;omega⟩;rw[ZrA,Zvf hi2,ZoN,ZoK,Zvf hi,ZoN,ZoK,Zo6];refine⟨fun h=> ?_,fun h=> ?_⟩
    ·rw[ZoK];refine .inl ⟨rfl,fun e=> ?_⟩;have h1:(wd y.natAbs)[i]=(wd x.natAbs)[i]:=by simp only[e]
     rw[h1,bne_self_eq_false]at h;exact absurd h (by decide)
    ·rw[ZoO];refine⟨ZoS (by omega),ih () ?_⟩;rw[bne_eq_false_iff_eq]at h;have h1:(wd y.natAbs)[i]=(wd x.natAbs)[i]:=by omega
     rw[ZN5 hi2,ZN5 hi,hP,h1]
   ·rintro rec ⟨⟩ hP;unfold ZrR Zql;dsimp only;rw[Zo6];refine⟨fun h=>by have:=of_decide_eq_true h;omega,fun _=> ?_⟩;rw[ZoK];rw[ZN3,←hl,ZN3]at hP;exact .inr ⟨rfl,hP⟩
   ·rintro r (⟨rfl,h⟩ |⟨rfl,h⟩)
    ·exact ZoK.2 (decide_eq_false (fun e=>h (by rw[e]))).symm
    ·unfold Zsx;have h1:=ZJ0 h;refine ZoK.2 (decide_eq_true ?_).symm
     by_cases hy0:y < 0
     ·have hx0:x < 0:=by rw[decide_eq_true hy0]at hs;exact of_decide_eq_true hs
      omega
     ·have hx0:¬x < 0:=by rw[decide_eq_false hy0]at hs;exact of_decide_eq_false hs
      omega
  ·have:(((wd x.natAbs).length:Int) != ((wd y.natAbs).length:Int))=true:=by rw[bne_iff_ne];omega
   rw[this,cond_true,ZoK];exact(decide_eq_false (fun e=>hl (by rw[e]))).symm
 ·rw[beq_eq_false_iff_ne.2 hs,ZNF,cond_true,cond_true,ZoK];exact(decide_eq_false (fun e=>hs (by rw[e]))).symm
theorem ZCQ (p q:Rat) (hp:Wq 256 p) (hq:Wq 256 q):Zq3 (fOf p) (fOf q)=some (decide (p=q)):=by
 have m:∀{x:Int},Wl 256 x→Wl 100000 x:=fun h=>ZOg h (by decide)
 unfold Zq3 Zrs fOf;dsimp only;rw[ZBY _ _ (m hp.1) (m hq.1),ZOE]
 by_cases h1:p.num=q.num
 ·rw[decide_eq_true h1,cond_true,ZBY _ _ (m hp.2) (m hq.2),ZOE];congr 1
  by_cases h2:p.den=q.den
  ·rw[decide_eq_true (by omega),decide_eq_true (Rat.ext h1 h2)]
  ·rw[decide_eq_false (by omega),decide_eq_false (fun e=>h2 (by rw[e]))]
 ·rw[decide_eq_false h1,cond_false,decide_eq_false (fun e=>h1 (by rw[e]))]
end Go.Proofs
namespace Go.Proofs
open Go Eng
end Go.Proofs
namespace Go.Proofs
open Go Eng
end Go.Proofs
namespace Go.Proofs
open Go Eng
def ZG0 (x:Rat):Rat:=if x < 0 then 0 - x else x
end Go.Proofs
namespace Go.Proofs
open Go Eng
theorem ZKU:∀x y:Str,Op.bytesLess x y=decide (x < y)
 |x,[]=>by
  have:¬x < []:=by simp
  rw[decide_eq_false this];cases x<;>rfl
 | [],b::y=>by
  have:([]:Str) < b::y:=by simp
  rw[decide_eq_true this];rfl
 |a::x,b::y=>by rw[Op.bytesLess,ZKU x y,Bool.eq_iff_iff];simp only[Bool.or_eq_true,ZKg,decide_eq_true_eq,beq_iff_eq];rw[List.cons_lt_cons_iff]
def Srt (l:List Str):Prop:=l.Pairwise (fun a b=>a≤b)∧l.Nodup
theorem ZFb (l:List Str):Srt (Zxx l):=⟨Zz3 l,ZxF l⟩
theorem ZFc {l:List Str} (h:Srt l) {i j:Nat} (hij:i < j) (hj:j < l.length):l[i] < l[j]:=by
 have h1:=List.pairwise_iff_getElem.1 h.1 i j (by omega) hj hij;have h2:=List.pairwise_iff_getElem.1 h.2 i j (by omega) hj hij;rcases List.le_iff_lt_or_eq.1 h1 with h3 |h3
 ·exact h3
 ·exact absurd h3 h2
theorem ZIB (x y:Str):Zwn x y=some (decide (x < y)):=by unfold Zwn ZvJ ZsK;rw[show (x == x)=true by simp];rw[←ZKU];rfl
theorem ZKo {i j:Nat} (h:i+j≤4611686018427387904):IntKind.wrap .i64 (shrK .u64 (IntKind.wrap .u64 ((i:Int)+(j:Int))) 1)=(((i+j) / 2:Nat):Int):=by rw[show (i:Int)+(j:Int)=((i+j:Nat):Int) by omega,Zpm (by omega),show (1:Int)=((1:Nat):Int)from rfl,ZzK 1 (by decide),wrap_i64 (by omega)]
theorem ZFi {xs:List Str} (hs:Srt xs) (hl:xs.length≤1000000000000) (t:Str):wp (ZpP xs t) (fun r=>r.2=xs.contains t):=by
 unfold ZpP;rw[ZoN];refine Zo4 (ZAp Zvt (fun(s:Nat×Nat)=>(xs,t,(xs.length:Int),(s.1:Int),(s.2:Int)))
  (fun s=>(s.1≤s.2∧s.2≤xs.length)∧(∀k (h:k < xs.length),k < s.1→xs[k] < t)∧(∀k (h:k < xs.length),s.2≤k→¬xs[k] < t)) (fun s=>s.2 - s.1)
  (Q:=fun x=>∃i:Nat,x=(xs,t,(xs.length:Int),(i:Int))∧i≤xs.length∧(∀k (h:k < xs.length),k < i→xs[k] < t)∧(∀k (h:k < xs.length),i≤k→¬xs[k] < t)) (0,xs.length) ⟨⟨Nat.zero_le _,ZOf _⟩,fun k _ h=>absurd h (Nat.not_lt_zero _),fun k h h'=>absurd h (by dsimp only at h';omega)⟩ (by dsimp only;omega) ?_) ?_
 ·rintro rec ⟨i,j⟩ ⟨⟨h1,h2⟩,hlo,hhi⟩ ih;dsimp only at h1 h2 hlo hhi ih⊢
  unfold ZrX Zp2;dsimp only;rw[ZKo (by omega)];rw[Zo6];refine⟨fun h=> ?_,fun h=> ?_⟩
  ·simp only[decide_eq_true_eq]at h;have hij:i < j:=by omega
   have hm:(i+j) / 2 < xs.length:=by omega
   rw[ZoO,ZoO];refine⟨ZoS (by omega),by decide, ?_⟩;rw[Zto hm,ZOE,ZIB,ZOE,Zo6];refine⟨fun hc=> ?_,fun hc=> ?_⟩
   ·simp only[decide_eq_true_eq]at hc;rw[ZoO];refine⟨ZoS (by omega), ?_⟩;have:=ih ((i+j) / 2+1,j) ⟨⟨by dsimp only;omega,h2⟩,fun k hk hlt=> ?_,hhi⟩ (by dsimp only;omega)
    ·dsimp only at this
     rwa [show (((i+j) / 2+1:Nat):Int)=(((i+j) / 2:Nat):Int)+1 by omega]at this
    ·dsimp only at hlt;rcases ZOj k ((i+j) / 2)with h3 |h3
     ·exact List.lt_trans (ZFc hs h3 hm) hc
     ·obtain rfl:k=(i+j) / 2:=by omega
      exact hc
   ·simp only[decide_eq_false_iff_not]at hc;refine ih (i,(i+j) / 2) ⟨⟨by dsimp only;omega,by dsimp only;omega⟩,hlo,fun k hk hle=> ?_⟩ (by dsimp only;omega);dsimp only at hle;rcases ZOj ((i+j) / 2) k with h3 |h3
    ·exact fun h4=>hc (List.lt_trans (ZFc hs h3 hk) h4)
    ·obtain rfl:k=(i+j) / 2:=by omega
     exact hc
  ·simp only[decide_eq_false_iff_not]at h;obtain rfl:i=j:=by omega
   rw[ZoK];exact⟨i,rfl,h2,hlo,hhi⟩
 ·rintro x ⟨i,rfl,hi,hlo,hhi⟩;dsimp only;unfold Zqm Zo3;have key:xs.contains t=true↔∃h:i < xs.length,xs[i]=t:=by
   rw[List.contains_iff_mem];constructor
   ·intro hm;obtain⟨k,hk,hkt⟩:=List.getElem_of_mem hm;have h1:i≤k:=by
     rcases ZOj k i with h |h
     ·have:=hlo k hk h;rw[hkt]at this;exact absurd this (List.lt_irrefl t)
     ·exact h
    rcases ZOj i k with h |h
    ·have h2:=ZFc hs h hk;rw[hkt]at h2;exact absurd h2 (hhi i (by omega) (ZOf _))
    ·obtain rfl:i=k:=by omega
     exact⟨hk,hkt⟩
   ·rintro⟨h,rfl⟩;exact List.getElem_mem h
  rw[Zo6];refine⟨fun h=> ?_,fun h=> ?_⟩
  ·simp only[decide_eq_true_eq]at h;have hi':i < xs.length:=by omega
   rw[Zto hi',ZOE,Zo6];refine⟨fun hc=> ?_,fun hc=> ?_⟩
   ·rw[ZoK];exact(key.2 ⟨hi',by simpa using hc⟩).symm
   ·have hn:xs.contains t=false:=by rw[Bool.eq_false_iff];intro h3;obtain⟨_,h4⟩:=key.1 h3;rw[h4]at hc;simp at hc
    rw[ZOE];unfold ZtT;rw[ZOE,show (xs[i] == xs[i])=true by simp,ZNG,cond_false,ZoK,hn]
  ·simp only[decide_eq_false_iff_not]at h;rw[ZoK]
   symm
   rw[Bool.eq_false_iff];intro h3;obtain⟨h4,_⟩:=key.1 h3;omega
def comm (a b:List Str):Nat:=(a.filter fun x=>b.contains x).length
theorem ZBG (a b:List Str):comm a b≤a.length:=List.length_filter_le _ _
theorem ZFe {a b:List Str} (hb:Srt b) (hla:a.length≤1000000000000) (hlb:b.length≤1000000000000):ZuX a b=some (comm a b:Int):=by
 refine Zqy ?_;unfold ZuX;rw[ZoN];refine Zo4 (Ztq ZyS a.length (by omega) (fun i (n:Nat)=>(b,(n:Int),a,(a.length:Int),i)) (fun i n=>n=comm (a.take i) b)
  (Q:=fun x=>x=(comm a b:Int)) 0 (by simp[comm]) ?_ ?_) ?_
 ·rintro rec i n hi rfl ih;unfold ZuI Zsq;dsimp only;rw[decide_eq_true (show (i:Int) < (a.length:Int) by omega),cond_true,Zto hi,ZOE,ZoN];refine Zo4 (ZFi hb hlb _) fun⟨q,ok⟩ hok=> ?_
  dsimp only at hok⊢
  have hc:comm (a.take (i+1)) b=comm (a.take i) b+(if b.contains a[i]then 1 else 0):=by unfold comm;rw[ZN5 hi,List.filter_append,ZNV];congr 1;cases h:b.contains a[i]<;>(simp only[List.filter_cons,h,List.filter_nil];rfl)
  have hle:=ZBG (a.take i) b;rw[ZN0]at hle;have hk:inK .i64 ((i:Int)+1)=true:=ZoS (by omega);unfold ZtB;rw[Zo6];refine⟨fun h=> ?_,fun h=> ?_⟩
  ·rw[ZoO,ZoO];refine⟨ZoS (by omega),hk, ?_⟩;have:=ih (comm (a.take i) b+1) (by rw[hc,←hok,h];rfl)
   rwa [show ((comm (a.take i) b+1:Nat):Int)=(comm (a.take i) b:Int)+1 by omega]at this
  ·rw[ZoO];exact⟨hk,ih (comm (a.take i) b) (by rw[hc,←hok,h];rfl)⟩
 ·rintro rec n rfl;unfold ZuI Zsq;dsimp only;rw[decide_eq_false (show ¬(a.length:Int) < (a.length:Int) by omega),cond_false,ZoK,ZN3]
 ·rintro x rfl;unfold Zvu;rw[ZoK]
end Go.Proofs
namespace Go.Proofs
open Go Eng
def isD (b:UInt8):Bool:=decide (48≤b.toNat)&&decide (b.toNat≤57)
def ZCP:Str→Bool×Str
 | []=>(false,[])
 |b::r=>bif b == 45 then (true,r)else bif b == 43 then (false,r)else (false,b::r)
def okD (s:Str) (m:Nat):Bool:=decide (1≤s.length)&&decide (s.length≤m)&&s.all isD
def ZAC (body:Str):Option (Str×Str):=
 bif decide (1≤(body.takeWhile isD).length)&&decide ((body.takeWhile isD).length≤15)then
  (match body.dropWhile isD with
  | []=>some (body.takeWhile isD,[])
  |c::p=>bif c == 46&&okD p 9 then some (body.takeWhile isD,p)else none)
 else none
def ZBb (t:Str):Option (Bool×Str×Str):=(ZAC (ZCP t).2).map fun x=>((ZCP t).1,x.1,x.2)
def n46 (b:UInt8):Bool:=b != 46
theorem ZCj {p:UInt8→Bool}:∀(F R:Str),F.all p=true→(∀b r,R=b::r→p b=false)→(F++R).takeWhile p=F∧(F++R).dropWhile p=R
 | [],[],_,_=>⟨rfl,rfl⟩
 | [],b::r,_,h=>by have:=h b r rfl;simp[List.takeWhile,List.dropWhile,this]
 |x::F,R,h,hR=>by rw[ZNN,ZKg]at h;obtain⟨h1,h2⟩:=ZCj F R h.2 hR;rw[List.cons_append,List.takeWhile_cons,ZNP,h.1,if_pos rfl,if_pos rfl,h1,h2];exact⟨rfl,rfl⟩
theorem ZG9 (p:UInt8→Bool):∀l:Str,(l.takeWhile p).all p=true
 | []=>rfl
 |x::l=>by
  rw[List.takeWhile_cons];cases h:p x with
  |true=>simp only[if_true,ZNN,h,Bool.true_and];exact ZG9 p l
  |false=>rfl
theorem ZCv (p:UInt8→Bool):∀(l:Str) b r,l.dropWhile p=b::r→p b=false
 | [],b,r,h=>by simp at h
 |x::l,b,r,h=>by
  rw[ZNP]at h;cases hx:p x with
  |true=>rw[hx,if_pos rfl]at h;exact ZCv p l b r h
  |false=>rw[hx,if_neg (by simp)]at h;simp only[List.cons.injEq]at h;rw[←h.1];exact hx
theorem ZIG {b:UInt8} (h:isD b=true):n46 b=true:=by unfold n46;rw[bne_iff_ne];rintro rfl;exact absurd h (by decide)
theorem ZIZ {l:Str} (h:l.all isD=true):l.all n46=true:=ZNO.2 fun b hb=>ZIG (ZNO.1 h b hb)
theorem ZBy {b:UInt8} (h:n46 b=false):b=46:=by unfold n46 at h;simpa using h
theorem ZAB (body:Str):ZAC body=bif okD (body.takeWhile n46) 15&&((body.dropWhile n46).isEmpty||okD (body.dropWhile n46).tail 9)then some (body.takeWhile n46,(body.dropWhile n46).tail)else none:=by
 have hsp:body.takeWhile n46++body.dropWhile n46=body:=ZN2;cases hall:(body.takeWhile n46).all isD with
 |true=>
  have hs:=ZCj (p:=isD) (body.takeWhile n46) (body.dropWhile n46) hall (fun b r e=>by rw[ZBy (ZCv n46 body b r e)];decide)
  rw[hsp]at hs;unfold ZAC;rw[hs.1,hs.2];have e:okD (body.takeWhile n46) 15=(decide (1≤(body.takeWhile n46).length)&&decide ((body.takeWhile n46).length≤15)):=by unfold okD;rw[hall,Bool.and_true]
  rw[e];cases (decide (1≤(body.takeWhile n46).length)&&decide ((body.takeWhile n46).length≤15))with
  |false=>rfl
  |true=>
   rw[cond_true,Bool.true_and];cases hR:body.dropWhile n46 with
   |nil=>rfl
   |cons c p=>
    rw[ZBy (ZCv n46 body c p hR)];rfl
 |false=>
  have e:okD (body.takeWhile n46) 15=false:=by unfold okD;rw[hall,Bool.and_false]
  rw[e,Bool.false_and,cond_false];have hsp2:body.takeWhile isD++body.dropWhile isD=body:=ZN2;have hD:=ZG9 isD body;unfold ZAC;cases (decide (1≤(body.takeWhile isD).length)&&decide ((body.takeWhile isD).length≤15))with
  |false=>rfl
  |true=>
   rw[cond_true];have key:(∀b r,body.dropWhile isD=b::r→b=46)→False:=fun h46=>by have hs:=ZCj (p:=n46) (body.takeWhile isD) (body.dropWhile isD) (ZIZ hD) (fun b r e=>by rw[h46 b r e];decide);rw[hsp2]at hs;rw[hs.1,hD]at hall;cases hall
   cases hR:body.dropWhile isD with
   |nil=>exact(key fun b r e=>by rw[hR]at e;cases e).elim
   |cons c p=>
    dsimp only;cases hc:c == 46 with
    |false=>rfl
    |true=>exact(key fun b r e=>by rw[hR]at e;simp only[List.cons.injEq]at e;rw[←e.1];exact eq_of_beq hc).elim
def ZBN (l:Str):Nat:=l.foldl (fun n b=>10*n+(b.toNat - 48)) 0
theorem ZFr (l:Str) (b:UInt8):ZBN (l++[b])=10*ZBN l+(b.toNat - 48):=by unfold ZBN;rw[List.foldl_append];rfl
theorem ZIt {l:Str} (h:l.all isD=true):ZBN l < 10 ^ l.length:=by
 have key:∀(l:Str) (n k:Nat),l.all isD=true→n < 10 ^ k→l.foldl (fun n b=>10*n+(b.toNat - 48)) n < 10 ^ (k+l.length):=by
  intro l
  induction l with
  |nil=>intro n k _ h;exact h
  |cons b l ih=>
   intro n k hb hn;rw[ZNN,ZKg]at hb;have hd:=hb.1;unfold isD at hd;simp only[ZKg,decide_eq_true_eq]at hd;have:=ih (10*n+(b.toNat - 48)) (k+1) hb.2 (by rw[ZOz];omega);rw[List.foldl_cons,ZNW]
   rwa [show k+1+l.length=k+(l.length+1) by omega]at this
 have:=key l 0 0 h (by decide)
 rwa [ZOD]at this
def ZMd (x:Bool×Str×Str):Rat:=Rat.divInt (if x.1 then -((ZBN (x.2.1++x.2.2):Nat):Int)else ((ZBN (x.2.1++x.2.2):Nat):Int)) ((10 ^ x.2.2.length:Nat):Int)
structure ZDI (D P:Str):Prop where
 d1:1≤D.length
 d2:D.length≤15
 p:P.length≤9
 dd:D.all isD=true
 pp:P.all isD=true
theorem ZzS {body D P:Str} (h:ZAC body=some (D,P)):ZDI D P:=by
 rw[ZAB]at h;cases hc:(okD (body.takeWhile n46) 15&&((body.dropWhile n46).isEmpty||okD (body.dropWhile n46).tail 9))with
 |false=>rw[hc,cond_false]at h;cases h
 |true=>
  rw[hc,cond_true]at h;simp only[Option.some.injEq,Prod.mk.injEq]at h;obtain⟨rfl,rfl⟩:=h;rw[ZKg]at hc;obtain⟨h1,h2⟩:=hc;unfold okD at h1;simp only[ZKg,decide_eq_true_eq]at h1;cases hR:body.dropWhile n46 with
  |nil=>exact⟨h1.1.1,h1.1.2,by simp,h1.2,by simp⟩
  |cons c p=>
   rw[hR]at h2;simp only[List.isEmpty_cons,Bool.false_or,List.tail_cons]at h2⊢
   unfold okD at h2;simp only[ZKg,decide_eq_true_eq]at h2;exact⟨h1.1.1,h1.1.2,h2.1.2,h1.2,h2.2⟩
theorem ZCp {k:Nat} (h:k≤24):10 ^ k < 2 ^ 80:=ZOh (ZOx (by decide) h) (by decide)
theorem ZCZ {l:Str} (h:l.all isD=true) (hl:l.length≤24):ZBN l < 2 ^ 80:=Nat.lt_trans (ZIt h) (ZCp hl)
theorem ZG7 {n:Nat} (h:n < 2 ^ 80):(wd n).length≤3:=ZCg h 3 (by decide)
end Go.Proofs
namespace Go.Proofs
open Go Eng
theorem ZA5 (s:Str) (c:UInt8):Zpw s [c]=some (match s with |b::_=>b == c | []=>false):=by
 unfold Zpw ZpQ;cases s with
 |nil=>rfl
 |cons b r=>
  rw[decide_eq_true (show ((b::r).length:Int)≥(([c]:Str).length:Int) by simp only[ZNW,ZNY];omega),cond_true,ZpZ (by simp only[ZNW,ZNY];omega),chk_true];simp
theorem ZC5 (s:Str) (c:UInt8):ZuW s [c]=some (match s with |b::r=>bif b == c then (r,true)else (b::r,false) | []=>([],false)):=by
 unfold ZuW Zrr;rw[ZA5];cases s with
 |nil=>rfl
 |cons b r=>
  rw[ZOE];dsimp only;cases hb:b == c with
  |false=>rfl
  |true=>
   rw[ZNG,cond_false,ZpZ (by simp only[ZNW,ZNY];omega),chk_true];rfl
theorem ZAt (s:Str) (c:UInt8):Zuw s [c]=some (match s with |b::r=>bif b == c then r else b::r | []=>[]):=by
 unfold Zuw Zrc;rw[ZA5];cases s with
 |nil=>rfl
 |cons b r=>
  rw[ZOE];dsimp only;cases hb:b == c with
  |false=>rfl
  |true=>
   rw[cond_true,ZpZ (by simp only[ZNW,ZNY];omega),chk_true];rfl
theorem ZFz:∀s:Str,Lib.indexByte s 46=if s.dropWhile n46=[]then -1 else ((s.takeWhile n46).length:Int)
 | []=>rfl
 |b::s=>by
  rw[Lib.indexByte,ZFz s,ZNP,List.takeWhile_cons];cases h:n46 b with
  |false=>
   rw[ZBy h];simp
  |true=>
   have hb:(b == 46)=false:=by unfold n46 at h;simpa using h
   simp only[hb,Bool.false_eq_true,if_false,if_true]
   by_cases hd:s.dropWhile n46=[]
   ·simp[hd]
   ·simp only[hd,if_false];rw[if_neg (by simp),ZNW];omega
theorem ZkE {s:Str} (hl:s.length≤9223372036854775807):Zxa s [46]=some (s.takeWhile n46,(s.dropWhile n46).tail, !(s.dropWhile n46).isEmpty):=by
 have hsp:s.takeWhile n46++s.dropWhile n46=s:=ZN2;have hidx:ZqZ s [46]=some (Lib.indexByte s 46):=by
  unfold ZqZ Zqn Zp7;rw[show ((([46]:Str).length:Int) == 0)=false from rfl,cond_false]
  by_cases h:([46]:Str)=s
  ·subst h;rfl
  ·rw[show (([46]:Str) == s)=false by simpa using h,cond_false];rfl
 unfold Zxa ZtJ;rw[hidx,ZOE,ZFz];cases hR:s.dropWhile n46 with
 |nil=>
  rw[hR,List.append_nil]at hsp;rw[if_pos rfl,show decide ((-1:Int)≥0)=false from rfl,cond_false,ZOE,hsp];rfl
 |cons c p=>
  have hlen:(s.takeWhile n46).length+(p.length+1)=s.length:=by have:=congrArg List.length hsp;rw[ZNV,hR,ZNW]at this;exact this
  rw[if_neg (by simp),decide_eq_true (show ((s.takeWhile n46).length:Int)≥0 by omega),cond_true,ZpZ (by omega),ZoS (by simp only[ZNW,ZNY];omega),ZpZ (by simp only[ZNW,ZNY];omega)];simp only[chk_true,ZOE];have e1:s.take ((((s.takeWhile n46).length:Nat):Int)).toNat=s.takeWhile n46:=by
   rw[ZNM]
   conv=>lhs;rw[←hsp]
   rw[List.take_left' (by rw[hsp])]
  have e2:s.drop ((((s.takeWhile n46).length:Nat):Int)+(([46]:Str).length:Int)).toNat=p:=by
   rw[show ((((s.takeWhile n46).length:Nat):Int)+(([46]:Str).length:Int)).toNat=(s.takeWhile n46).length+1 by simp only[ZNW,ZNY];omega]
   conv=>lhs;rw[←hsp,hR]
   rw[show (s.takeWhile n46++c::p).takeWhile n46=s.takeWhile n46 by rw[←hR,hsp]];rw[←List.drop_drop,List.drop_left' rfl];rfl
  rw[e1,e2];rfl
theorem dset:((List.range 256).all fun n=>([48,49,50,51,52,53,54,55,56,57]:Str).contains n.toUInt8 == isD n.toUInt8)=true:=by decide+kernel
theorem ZIP (b:UInt8):([48,49,50,51,52,53,54,55,56,57]:Str).contains b=isD b:=by have:=ZNO.1 dset b.toNat (List.mem_range.2 b.toNat_lt);rw[show b.toNat.toUInt8=b from UInt8.ofNat_toNat]at this;exact eq_of_beq this
theorem Zwq {p:UInt8→Bool}:∀l:Str,l.dropWhile p=[]↔l.all p=true
 | []=>by simp
 |b::l=>by
  rw[ZNP,ZNN];cases h:p b with
  |true=>rw[if_pos rfl,Bool.true_and];exact Zwq l
  |false=>simp
theorem ZGm (s cs:Str):(Lib.trimS s cs == [])=s.all (cs.contains ·):=by
 rw[Bool.eq_iff_iff,beq_iff_eq];unfold Lib.trimS Lib.trimLeftS Lib.trimRightS;rw[Zwq];constructor
 ·intro h;have h1:(s.reverse.dropWhile (cs.contains ·)).all (cs.contains ·)=true:=by rw[←List.all_reverse];exact h
  have h2:s.reverse.dropWhile (cs.contains ·)=[]:=by
   cases he:s.reverse.dropWhile (cs.contains ·)with
   |nil=>rfl
   |cons b r=>
    have h3:=ZCv (cs.contains ·) _ b r he;rw[he,ZNN,h3]at h1;cases h1
  rw[Zwq,List.all_reverse]at h2;exact h2
 ·intro h;have h2:s.reverse.dropWhile (cs.contains ·)=[]:=by rw[Zwq,List.all_reverse];exact h
  rw[h2];rfl
theorem ZC4 (s:Str) (m:Nat):ZuN s (m:Int)=some (okD s m):=by
 unfold ZuN ZsJ okD ZwL
 by_cases h1:1≤s.length
 ·rw[decide_eq_true (show (s.length:Int)≥1 by omega),cond_true,decide_eq_true h1]
  by_cases h2:s.length≤m
  ·rw[decide_eq_true (show (s.length:Int)≤(m:Int) by omega),cond_true,decide_eq_true h2];rw[show (([48,49,50,51,52,53,54,55,56,57]:Str).all fun b=>decide (b.toNat < 128))=true from by decide,chk_true,show decide (([48,49,50,51,52,53,54,55,56,57]:Str).length < 4294967281)=true from by decide,chk_true,ZOE,ZGm];rw[show (fun b:UInt8=>([48,49,50,51,52,53,54,55,56,57]:Str).contains b)=isD from funext ZIP];rfl
  ·rw[decide_eq_false (show ¬(s.length:Int)≤(m:Int) by omega),cond_false,decide_eq_false h2];rfl
 ·rw[decide_eq_false (show ¬(s.length:Int)≥1 by omega),cond_false,decide_eq_false h1];rfl
def zf:ZoF:=ZoF.mk (ZoL.mk false []) (ZoL.mk false [])
theorem ZJ3:([10]:List Int)=iL (wd 10):=by kernel_rfl
theorem ZIr:([1]:List Int)=iL (wd 1):=by kernel_rfl
theorem ZIw:([]:List Int)=iL (wd 0):=by kernel_rfl
theorem ZEF {b:UInt8} (h:isD b=true):IntKind.wrap .u64 (IntKind.wrap .u8 (((b.toNat:Nat):Int) - 48))=((b.toNat - 48:Nat):Int):=by unfold isD at h;simp only[ZKg,decide_eq_true_eq]at h;rw[wrap_u8 (by omega),wrap_u64 (by omega)];omega
theorem ZHo {neg:Bool} {D P:Str} (h:ZDI D P):ZqW neg D P false false false [] []=some (fOf (ZMd (neg,D,P)),true):=by
 have hd1:=h.d2;have hp1:=h.p;have hall:(D++P).all isD=true:=by rw[List.all_append,h.dd,h.pp];rfl
 have hlen:(D++P).length≤24:=by rw[ZNV];omega
 refine Zqy ?_;unfold ZqW;rw[cond_false,ZIr,ZEb _ (by have:=ZG7 (n:=1) (by decide);omega),ZOE,ZoO,ZoO,ZoN,ZJ3,ZIw];refine⟨decide_eq_true (by unfold Zr;omega),decide_eq_true (by omega), ?_⟩;refine Zo4 (Ztq Zy7 (D++P).length (by omega) (fun i (n:Nat)=>(neg,P,iL (wd n),iL (wd 10),(((D++P).map fun b:UInt8=>((b.toNat:Nat):Int)).length:Int),i,false,false,iL (wd 1),(D++P).map (fun b:UInt8=>((b.toNat:Nat):Int)),iL (wd 0),iL (wd 0))) (fun i n=>n=ZBN ((D++P).take i))
  (Q:=fun x=>x=(neg,P,iL (wd (ZBN (D++P))),iL (wd 10),false,false,iL (wd 1),iL (wd 0),iL (wd 0))) 0 (by rfl) ?_ ?_) ?_
 ·rintro rec i n hi rfl ih;unfold Zu5 ZsV;dsimp only;have hb:isD (D++P)[i]=true:=ZNO.1 hall _ (List.getElem_mem hi);have hn:ZBN ((D++P).take i) < 2 ^ 80:=ZCZ (ZNO.2 fun b hb=>ZNO.1 hall b (List.mem_of_mem_take hb)) (by rw[ZN0];omega);have hn2:ZBN ((D++P).take (i+1))=ZBN ((D++P).take i)*10+((D++P)[i].toNat - 48):=by rw[ZN5 hi,ZFr,ZOp]
  have hlm:i < ((D++P).map fun b:UInt8=>((b.toNat:Nat):Int)).length:=by rw[ZNX];exact hi
  have hb':=hb;unfold isD at hb';simp only[ZKg,decide_eq_true_eq]at hb';have w1:=ZG7 hn;have w10:=ZG7 (n:=10) (by decide);have w2:(wd (ZBN ((D++P).take i)*10)).length≤100:=ZCg (k:=84) (by omega) 100 (by decide);have w3:=ZG7 (n:=(D++P)[i].toNat - 48) (by omega);rw[decide_eq_true (show (i:Int) < (((D++P).map fun b:UInt8=>((b.toNat:Nat):Int)).length:Int) by rw[ZNX];omega),cond_true,ZDs hlm,chk_true,ZNM,ZNS hlm,ZOE,List.getElem_map,ZCk _ _ (by omega) (by omega),ZOE,ZEF hb,ZAV _ (by omega),ZOE,
   ZFp _ _ (by omega) (by omega),ZOE,ZoO]
  refine⟨ZoS (by omega), ?_⟩;have:=ih (ZBN ((D++P).take i)*10+((D++P)[i].toNat - 48)) hn2.symm;exact this
 ·rintro rec n rfl;unfold Zu5 ZsV;dsimp only;rw[decide_eq_false (by rw[ZNX];omega),cond_false,ZoK,ZN3]
 ·rintro x rfl;dsimp only;unfold Zv8;rw[ZoN];refine Zo4 (Ztq Zy6 P.length (by omega) (fun i (k:Nat)=>(neg,iL (wd (ZBN (D++P))),iL (wd 10),iL (wd (10 ^ k)),(P.length:Int),i,false,false,iL (wd 0),iL (wd 0))) (fun i k=>k=i)
   (Q:=fun x=>x=(neg,iL (wd (ZBN (D++P))),iL (wd (10 ^ P.length)),false,false,iL (wd 0),iL (wd 0))) 0 (by rfl) ?_ ?_) ?_
  ·rintro rec i k hi rfl ih;unfold Zu4 ZsU;dsimp only;have w1:=ZG7 (ZCp (show k≤24 by omega));have w10:=ZG7 (n:=10) (by decide);rw[decide_eq_true (show (k:Int) < (P.length:Int) by omega),cond_true,ZCk _ _ (by omega) (by omega),ZOE,ZoO,←ZOz];exact⟨ZoS (by omega),ih (k+1) rfl⟩
  ·rintro rec k rfl;unfold Zu4 ZsU;dsimp only;rw[decide_eq_false (by omega),cond_false,ZoK]
  ·rintro x rfl;dsimp only;unfold Zv7;have hnum:=ZCZ hall hlen;have hpw:=ZCp (show P.length≤24 by omega);have w1:=ZG7 hnum;have w2:=ZG7 hpw;rw[Zva _ _ (by omega),ZOE,Zva _ _ (by omega),ZOE];have hne:((10 ^ P.length:Nat):Int)≠0:=by have:=Nat.pow_pos (n:=P.length) (show 0 < 10 by decide);omega
   have:=Zzc (if neg=true then -((ZBN (D++P):Nat):Int)else ((ZBN (D++P):Nat):Int)) ((10 ^ P.length:Nat):Int) hne (by
    show (wd _).length≤50000;have e:(if neg=true then -((ZBN (D++P):Nat):Int)else ((ZBN (D++P):Nat):Int)).natAbs=ZBN (D++P):=by split<;>omega
    rw[e];omega) (by show (wd _).length≤50000;rw[ZNJ];omega)
   simp only[Bool.false_eq_true,if_false];rw[this,ZOE,ZoK];rfl
theorem ZB5 {t:Str} (hl:t.length≤9223372036854775807):Zsu t=some (match ZBb t with |some x=>(fOf (ZMd x),true) |none=>(zf,false)):=by
 have key:∀(body:Str) (neg:Bool),body.length≤9223372036854775807→Zsj body neg false false [] []=some (match (ZAC body).map fun x=>(neg,x.1,x.2)with |some x=>(fOf (ZMd x),true) |none=>(zf,false)):=by
  intro body neg hb;unfold Zsj;rw[ZkE hb,ZOE];dsimp only;rw[show (15:Int)=((15:Nat):Int)from rfl,ZC4,ZOE,show (9:Int)=((9:Nat):Int)from rfl];have hpc:=ZAB body;cases h1:okD (body.takeWhile n46) 15 with
  |false=>
   rw[h1,Bool.false_and,cond_false]at hpc;rw[hpc,ZNF,cond_true];rfl
  |true=>
   rw[h1,Bool.true_and]at hpc;rw[ZNG,cond_false];cases h2:(body.dropWhile n46).isEmpty with
   |true=>
    rw[h2,Bool.true_or,cond_true]at hpc;rw[ZNG,cond_false,ZHo (ZzS hpc),hpc];rfl
   |false=>
    rw[h2,Bool.false_or]at hpc;rw[ZNF,cond_true,ZC4,ZOE];cases h3:okD (body.dropWhile n46).tail 9 with
    |false=>
     rw[h3,cond_false]at hpc;rw[hpc];rfl
    |true=>
     rw[h3,cond_true]at hpc;rw[ZNG,ZHo (ZzS hpc),hpc];rfl
 unfold Zsu ZBb ZCP;rw[ZC5,ZOE];cases t with
 |nil=>
  dsimp only;rw[ZNF,cond_true,ZAt,ZOE];dsimp only;rw[key [] false hl]
 |cons b r=>
  dsimp only;simp only[ZNW]at hl;cases h1:b == 45 with
  |true=>
   rw[cond_true,cond_true];dsimp only;rw[ZNG,cond_false,key r true (by omega)]
  |false=>
   rw[cond_false,cond_false];dsimp only;rw[ZNF,cond_true,ZAt,ZOE];dsimp only;cases h2:b == 43 with
   |true=>rw[cond_true,cond_true];dsimp only;rw[key r false (by omega)]
   |false=>rw[cond_false,cond_false];dsimp only;rw[key (b::r) false (by simp only[ZNW];omega)]
end Go.Proofs
namespace Go.Proofs
open Go Eng
theorem ZJ2 (b:UInt8) (k:UInt8):(((b.toNat:Nat):Int) == ((k.toNat:Nat):Int))=(b == k):=by
 rw[Bool.eq_iff_iff,beq_iff_eq,beq_iff_eq];constructor
 ·intro h;exact UInt8.toNat_inj.1 (by omega)
 ·rintro rfl;rfl
end Go.Proofs
namespace Go.Proofs
open Go Eng
end Go.Proofs
namespace Go.Proofs
open Go Eng
def is0 (b:UInt8):Bool:=b == 48
def sp (b:UInt8):Bool:=b == 32
def rtr (p:UInt8→Bool) (l:Str):Str:=(l.reverse.dropWhile p).reverse
def lz (D:Str):Str:=bif (D.dropWhile is0).isEmpty then [48]else D.dropWhile is0
def rz (P:Str):Str:=rtr is0 P
def ZGi (D P:Str):Str:=lz D++(bif (rz P).isEmpty then []else 46::rz P)
def ZJS (x:Bool×Str×Str):Str:=bif x.1&& !(ZGi x.2.1 x.2.2 == [48])then 45::ZGi x.2.1 x.2.2 else ZGi x.2.1 x.2.2
theorem ZDo (p:UInt8→Bool) (P:Str):(rtr p P).length≤P.length:=by unfold rtr;rw[List.length_reverse];exact ZOg (ZNQ _).length_le (by rw[List.length_reverse];exact ZOf _)
theorem ZHk {D:Str} (h:1≤D.length):(lz D).length≤D.length:=by
 unfold lz;cases hd:(D.dropWhile is0).isEmpty with
 |true=>rw[cond_true];exact h
 |false=>rw[cond_false];exact(ZNQ _).length_le
theorem ZD3 {D P:Str} (h:1≤D.length) (h2:D.length≤15) (h3:P.length≤9):(ZGi D P).length≤25:=by
 have h1:=ZHk h;have h4:=ZDo is0 P;unfold ZGi rz;rw[ZNV];cases (rtr is0 P).isEmpty with
 |true=>rw[cond_true];simp only[ZNY];omega
 |false=>rw[cond_false];simp only[ZNW];omega
theorem ZzT (c:UInt8):(fun b:UInt8=>([c]:Str).contains b)=fun b=>b == c:=by funext b;rw[List.contains_cons];simp
def ZDi (s:Str):Str:=(rtr sp s).dropWhile sp
theorem ZGo (s:Str):Lib.trimS s [32]=ZDi s:=by unfold Lib.trimS Lib.trimLeftS Lib.trimRightS ZDi rtr;rw[ZzT];rfl
theorem ZDj (s:Str):Zyt s=some (ZDi s):=by unfold Zyt ZwL;rw[show (([32]:Str).all fun b=>decide (b.toNat < 128))=true from by decide,chk_true,show decide (([32]:Str).length < 4294967281)=true from by decide,chk_true,ZOE,ZGo]
theorem ZE6 (s:Str):(ZDi s).length≤s.length:=ZOg (ZNQ _).length_le (ZDo sp s)
end Go.Proofs
