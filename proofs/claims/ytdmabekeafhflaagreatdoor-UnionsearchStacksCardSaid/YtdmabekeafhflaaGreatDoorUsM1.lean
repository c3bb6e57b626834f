/- Plain laws over the specs, part 1. -/
import Derived.Test.YtdmabekeafhflaaGreatDoorUsM0
set_option linter.unusedVariables false
set_option linter.unusedSimpArgs false
set_option linter.unusedSectionVars false
open Bool renaming not_true→ZNN, and_eq_true→ZKj
open Int renaming natAbs_natCast→ZNQ, toNat_natCast→ZNU, natAbs_mul→ZNP, natAbs_neg→ZNR, natCast_add→ZNS, natCast_mul→ZNT, mul_ne_zero→ZNO
open List renaming getD_eq_getElem?_getD→ZNV, take_of_length_le→ZN3, length_take→ZN0, take_length→ZN2, getElem?_eq_getElem→ZNW, length_singleton→ZNZ, getElem?_eq_none→ZNX, not_mem_nil→ZN1, getElem_cons_drop→ZNY, take_succ_eq_append_getElem→ZN4
open Nat renaming le_trans→ZOf, gcd→ZOb, pow_succ→ZOz, mul_add→ZOn, mul_assoc→ZOo, mod_lt→ZOm, lt_or_ge→ZOi, pow_zero→ZOA, le_refl→ZOe, pow_le_pow_right→ZOx, lt_of_le_of_lt→ZOg, mul_zero→ZOt, add_zero→ZN7, two_pow_pos→ZOC, pow_add→ZOw, mul_comm→ZOp, min_eq_left→ZOj, le_of_lt→ZOd, div_le_self→ZOa, mod_eq_of_lt→ZOl, one_mul→ZOu, lt_of_lt_of_le→ZOh, div_eq_of_lt→ZN9, zero_add→ZOD, mul_left_comm→ZOr, gcd_comm→ZOc, pow_mul→ZOy, mul_le_mul_left→ZOq, div_add_mod→ZN8, pos_of_ne_zero→ZOv, mod_add_div→ZOk, add_mul_div_left→ZN5, mul_lt_mul_of_lt_of_le→ZOs, add_mul_mod_self_left→ZN6, two_pow_add_eq_or_of_lt→ZOB
open Option renaming bind_some→ZOE
namespace Go.Proofs
open Go Eng
theorem ZA0 (a b:Nat) (hb0:b≠0) (ha:(wd a).length≤50000) (hb:(wd b).length≤50000):Zqk (iL (wd a)) (iL (wd b))=some (iL (wd (a / b)),iL (wd (a % b))):=by
 refine Zq0 ?_;unfold Zqk;rw[ZA5 a b (by omega) (by omega),ZoN,ZoK,Zo1];refine⟨fun h=> ?_,fun h=> ?_⟩
 ·have hab:a < b:=by
   have:=of_decide_eq_true h;rcases Nat.lt_trichotomy a b with h1 |h1 |h1
   ·exact h1
   ·rw[h1,Zww]at this;omega
   ·rw[ZxI h1]at this;omega
  rw[ZEr _ (by omega),ZoN,ZoK,ZoK,ZN9 hab,ZOl hab,Zum,ZKE]
 ·have hab:b≤a:=by
   have:=of_decide_eq_false h;rcases Nat.lt_trichotomy a b with h1 |h1 |h1
   ·rw[ZxU h1]at this;omega
   ·omega
   ·omega
  have hlb:=ZrZ hb0;rw[Zo4,Zo4,Zo1];refine⟨fun h=> ?_,fun h=> ?_⟩
  ·have h1:(wd b).length=1:=by have:=eq_of_beq h;omega
   have hbB:b < Bw:=by have:=Zv3 b;rwa [h1,Nat.pow_one]at this
   have eb:idx (iL (wd b)) 0=some (b:Int):=by rw[ZAA hb0,ZOl hbB];rfl
   rw[eb,ZoN,ZoK,ZGH a b hb0 hbB (by omega),ZoN,ZoK];dsimp only;have hr:a % b < Bw:=Nat.lt_trans (ZOm _ (by omega)) hbB;rw[show ([((a % b:Nat):Int)]:List Int)=iL [a % b]from rfl,Zzy (Zzr hr) (by simp),ZoN,ZoK,ZoK];simp only[val,ZOt,ZN7]
  ·obtain⟨m,hm⟩:∃m,(wd b).length=m+2:=⟨(wd b).length - 2,by
    have:(wd b).length≠1:=fun e=>by rw[e]at h;exact absurd h (by decide)
    omega⟩
   have hla:m+2≤(wd a).length:=by
    rcases ZOi (wd a).length (wd b).length with h1 |h1
    ·have:=ZCb h1;omega
    ·omega
   have hi:m+1 < (wd b).length:=by omega
   have htop:(wd b)[m+1]≠0:=fun e=>by have h1:=Zpi hi;rw[e,ZOt,ZN7,ZN3 (by omega),Zr8]at h1;have h2:=ZwK ((Zvm b).take (m+1));rw[ZN0,ZOj (by omega)]at h2;have h3:=ZC1 hi;omega
   obtain⟨s,hs,hse,hs1,hs2⟩:=ZKv htop ((Zvm b).get hi);have e1:((m+2:Nat):Int) - 1=((m+1:Nat):Int):=by omega
   rw[hm,e1,Zuk hi,ZoO,ZoN,ZoK,hse,ZoN,ZoK];refine⟨ZoS (by omega), ?_⟩;obtain⟨u,hu,hud,hul,huv⟩:=ZB6 (wd a) s hs (by omega) (Zvm a);obtain⟨v,hv,hvd,hvl,hvv⟩:=ZB6 (wd b) s hs (by omega) (Zvm b);rw[hu,ZoN,ZoK,hv,ZoN,ZoK,ZoO,ZoO,ZoO,ZoO,ZoO];rw[Zr8]at huv hvv;have hvlt:val v < Bw ^ (m+2):=by
    have h1:=Zpi hi;rw[ZN3 (by omega),Zr8]at h1;have h2:=ZwK ((Zvm b).take (m+1));rw[ZN0,ZOj (by omega)]at h2;have h3:b+1≤Bw ^ (m+1)*((wd b)[m+1]+1):=by rw[ZOn,Nat.mul_one];omega
    have h4:=Nat.mul_le_mul_right (2 ^ s) h3;have h5:=ZOq (Bw ^ (m+1)) (ZEN hs hs2);rw[ZOo]at h4;have h6:=ZOC s;rw[Nat.add_mul,ZOu]at h4;rw[hvv,ZOz];show _ < Bw ^ (m+1)*4294967296;omega
   obtain⟨K,hK⟩:∃K,(wd a).length=K+m+1:=⟨(wd a).length - m - 1,by omega⟩;have eK:((wd a).length:Int) - ((m+2:Nat):Int)+1=(K:Int):=by omega
   have ed:((iL v).drop 0).take (((m+2:Nat):Int).toNat - 0)=iL (v.take (m+2)):=by rw[List.drop_zero,ZNU,Nat.sub_zero,ZDM]
   have hdv:val (v.take (m+2))=b*2 ^ s:=by rw[ZA9 hvlt,hvv]
   have hdl:(v.take (m+2)).length=m+2:=by rw[ZN0];omega
   have hdd:=hvd.take (m+2);rw[eK,ed,ZNU,ZBF,Zo4 v,Zo4 (List.replicate K 0),List.length_replicate];refine⟨Zqv ⟨by omega,by omega,by omega⟩,ZoS (by omega),ZoS (by omega),ZzE (by omega),ZoS (by omega), ?_⟩;generalize v.take (m+2)=d at*
   have hp:=ZOC s;have h1:1≤d[m+1]:=by
    rcases Nat.eq_zero_or_pos d[m+1]with hz |hz
    ·exfalso;have h1:=Zpi (l:=d) (k:=m+1) (by omega);rw[hz,ZOt,ZN7,ZN3 (by omega)]at h1;have h2:=ZwK (hdd.take (m+1));rw[ZN0,ZOj (by omega)]at h2;rw[hdv]at h1;have h3:=ZC1 hi;have:=Nat.le_mul_of_pos_right b hp;omega
    ·exact hz
   have hUlt:a*2 ^ s < Bw ^ K*val d:=by have h2:=Zv3 a;have h3:=ZOq (Bw ^ K) (ZC1 hi);rw[←ZOw,←Nat.add_assoc,←hK]at h3;rw[hdv,←ZOo];exact Nat.mul_lt_mul_of_pos_right (by omega) hp
   rw[ZoN];refine ZoW (ZGF (s:=s) hdl hdd h1 (by omega) hud huv hUlt (by omega) (by omega)) ?_;rintro y ⟨u',qs,rfl,hu'l,hu'd,hql,hqd,hv',hlt'⟩;dsimp only;have hDpos:0 < val d:=by omega
   have eq1:val qs=a / b:=by rw[←Nat.mul_div_mul_right a b hp,←hdv,←hv',Nat.add_mul_div_right _ _ hDpos,ZN9 hlt',ZOD]
   have eq2:val u'=a % b*2 ^ s:=by rw[←Nat.mul_mod_mul_right,←hdv,←hv',Nat.add_mul_mod_self_right,ZOl hlt']
   have hDlt:=ZwK hdd;rw[hdl]at hDlt;have hut:val (u'.take (m+2))=val u':=ZA9 (by omega);obtain⟨k',hk',hkv,hke⟩:=ZMF u' (m+2) (by omega) (by omega);unfold Zu0;rw[ZNU,Nat.sub_zero,hke,ZoO,ZoN,ZoK,Zo4];refine⟨Zqv ⟨by omega,by omega,by omega⟩, ?_⟩;dsimp only;rw[ZoN];refine ZoW (ZKe (R:=a % b) (iL qs) hs hu'd (by omega) (by omega) (by rw[hkv,hut,eq2])) ?_;rintro y ⟨o,rfl,hol,hod,hov⟩;dsimp only;unfold ZuZ;have eo:((iL (o++u'.drop k')).drop 0).take k'=iL o:=by rw[List.drop_zero,ZDM,List.take_left' hol]
   rw[eo,Zzy hqd (by omega),ZoN,ZoK,Zzy hod (by omega),ZoN,ZoK,ZoK,eq1,hov]
theorem Ztl {a b:Nat} (h:a≤b):(wd a).length≤(wd b).length:=Zx0 (ZOg h (Zv3 b))
theorem ZBJ:∀(n a b:Nat),b≤a→a*b < 2 ^ n→(wd a).length≤50000→∀f,n < f→Zpv f (iL (wd a)) (iL (wd b))=some (iL (wd (ZOb a b)))
 |n,a,b,hba,hn,ha,0,hf=>absurd hf (by omega)
 |n,a,b,hba,hn,ha,f+1,hf=>by
  show Zp7 (Zpv f) _ _=_;unfold Zp7;rw[Zo4]
  by_cases h0:b=0
  ·subst h0;rw[Zum,Nat.gcd_zero_right];rfl
  ·have hl:=ZrZ h0;rw[decide_eq_true (by omega),cond_true,ZA0 a b h0 ha (ZOf (Ztl hba) ha),ZOE];dsimp only;have hlt:=ZOm a (show 0 < b by omega);cases n with
   |zero=>
    have:1*1≤a*b:=Nat.mul_le_mul (by omega) (by omega);rw[ZOA]at hn;omega
   |succ n=>
    have hdm:=ZN8 a b;have hq:1≤a / b:=(Nat.le_div_iff_mul_le (by omega)).2 (by omega);have h1:=ZOq b hq;have h2:b*(2*(a % b))≤b*a:=ZOq b (by omega);rw[ZOr,ZOp b a]at h2;rw[ZBJ n b (a % b) (by omega) (by rw[ZOz]at hn;omega) (ZOf (Ztl hba) ha) f (by omega),ZOc a b,Nat.gcd_rec b a,ZOc]
theorem ZBK (a b:Nat) (ha:(wd a).length≤50000) (hb:(wd b).length≤50000):Zrx (iL (wd a)) (iL (wd b))=some (iL (wd (ZOb a b))):=by
 have bnd:∀x y:Nat,x*y < 2 ^ (32*(wd x).length+32*(wd y).length):=fun x y=>by
  have e:∀z,z < 2 ^ (32*(wd z).length):=fun z=>by
   have:=Zv3 z
   rwa [show Bw=2 ^ 32 from rfl,←ZOy]at this
  have h1:=ZOs (e x) (ZOd (e y)) (ZOC _)
  rwa [←ZOw]at h1
 have key:Zpv big (iL (wd a)) (iL (wd b))=some (iL (wd (ZOb a b))):=by
  obtain⟨k,hk,hk2⟩:∃k,big=k+1∧3200004 < k:=⟨36893488147419103231,by rw[big_eq],by omega⟩;rw[hk];rcases ZOi a b with h |h
  ·show Zp7 (Zpv k) _ _=_;unfold Zp7;have h0:b≠0:=by omega
   have hl:=ZrZ h0;rw[Zo4,decide_eq_true (by omega),cond_true,ZA0 a b h0 ha hb,ZOE];dsimp only;rw[ZOl h,ZBJ _ b a (by omega) (bnd b a) hb k (by omega),ZOc]
  ·exact ZBJ _ a b h (bnd a b) ha (k+1) (by omega)
 unfold Zrx Zt3;rw[key,ZOE]
end Go.Proofs
namespace Go.Proofs
open Go Eng
def bg (z:Int):ZoM:=⟨decide (z < 0),iL (wd z.natAbs)⟩
theorem Zya (z:Int):(bg z).Neg=decide (z < 0):=rfl
theorem ZpZ (z:Int):(bg z).Words=iL (wd z.natAbs):=rfl
abbrev Wl (n:Nat) (z:Int):Prop:=(wd z.natAbs).length≤n
theorem Zvn (neg:Bool) (n:Nat) (h:(wd n).length≤1000000):Zpo neg (iL (wd n))=some (bg (if neg then -(n:Int)else n)):=by
 unfold Zpo ZuM bg;have hr:ZjC (iL (wd n)).length 4=true:=Zu2 (by rw[Zo4];omega);cases neg with
 |true=>
  rw[cond_true,hr,chk_true,Zo4,if_pos rfl,ZNR,ZNQ];congr 2
  by_cases h0:n=0
  ·subst h0;rw[Zum];rfl
  ·have:=ZrZ h0;rw[decide_eq_true (by omega),decide_eq_true (by omega)]
 |false=>
  rw[cond_false,hr,chk_true,if_neg (by decide),ZNQ,decide_eq_false (by omega)]
theorem ZA2 (n:Nat) (h:n < 18446744073709551616):ZsJ (n:Int)=some (iL (wd n)):=by
 unfold ZsJ;have e:([IntKind.wrap .u32 (n:Int),IntKind.wrap .u32 (shrK .u64 (n:Int) 32)]:List Int)=iL [n % 4294967296,n / 4294967296]:=by rw[show (32:Int)=((32:Nat):Int)from rfl,Zy1 32 (by omega),ZuO,Zvl (by omega)];rfl
 have hd:Dg [n % 4294967296,n / 4294967296]:=fun d hd=>by
  simp only[List.mem_cons,List.mem_singleton,ZN1,or_false]at hd;rcases hd with rfl |rfl
  ·exact ZOm _ (by decide)
  ·simp only[Bw];omega
 rw[e,Zzy hd (by simp)];have hv:val [n % 4294967296,n / 4294967296]=n:=by simp only[val,ZOt,ZN7];exact ZOk n Bw
 rw[hv];rfl
theorem ZIL {n:Nat} (h:n < 18446744073709551616):(wd n).length≤2:=Zx0 (by simp only[Bw];omega)
theorem ZCc (z:Int) (h1: -9223372036854775808≤z) (h2:z≤9223372036854775807):Zud z=some (bg z):=by
 unfold Zud
 by_cases hz:z < 0
 ·have e:IntKind.wrap .u64 (0 - IntKind.wrap .u64 z)=((z.natAbs:Nat):Int):=by rw[IntKind.wrap_u64,IntKind.wrap_u64];omega
  rw[decide_eq_true hz,cond_true,e,ZA2 _ (by omega),ZOE,Zvn _ _ (ZOf (ZIL (by omega)) (by decide)),ZOE,if_pos rfl,show -((z.natAbs:Nat):Int)=z by omega]
 ·have e:IntKind.wrap .u64 z=((z.natAbs:Nat):Int):=by rw[IntKind.wrap_u64];omega
  rw[decide_eq_false hz,cond_false,e,ZA2 _ (by omega),ZOE,Zvn _ _ (ZOf (ZIL (by omega)) (by decide)),ZOE,if_neg (by decide),show ((z.natAbs:Nat):Int)=z by omega]
theorem ZyB (z:Int) (h:Wl 256 z):ZtG (bg z)=some true:=by
 unfold Wl at h;have top:∀hp:0 < (wd z.natAbs).length,∃x:Nat,idx (iL (wd z.natAbs)) (((wd z.natAbs).length:Int) - 1)=some (x:Int)∧x≠0:=fun hp=>by
  refine⟨(wd z.natAbs)[(wd z.natAbs).length - 1], ?_,fun e=> ?_⟩
  ·rw[show ((wd z.natAbs).length:Int) - 1=(((wd z.natAbs).length - 1:Nat):Int) by omega,Zuk (by omega)]
  ·have hi:(wd z.natAbs).length - 1 < (wd z.natAbs).length:=by omega
   have h1:=Zpi hi;rw[e,ZOt,ZN7,ZN3 (by omega),Zr8]at h1;have h2:=ZwK ((Zvm z.natAbs).take ((wd z.natAbs).length - 1));rw[ZN0,ZOj (by omega)]at h2;have h3:=ZC1 hi;omega
 unfold ZtG ZpD;rw[ZpZ,Zya,Zo4,decide_eq_true (by omega),cond_true]
 by_cases h0:(wd z.natAbs).length=0
 ·have:z=0:=by have:=ZJ7.1 (List.eq_nil_of_length_eq_zero h0);omega
  subst this;rw[h0];rfl
 ·obtain⟨x,hx,hx0⟩:=top (by omega);have e0:(((wd z.natAbs).length:Int) == 0)=false:=beq_eq_false_iff_ne.2 (by omega);have e1:((x:Int) != 0)=true:=by simp only[bne_iff_ne];omega
  rw[e0,cond_false,decide_eq_true (by omega),cond_true,ZoS (by omega),chk_true,hx,ZOE,e1]
theorem ZF6 (x y:Int):(if (!((bg x).Neg == (bg y).Neg))=true then -((x.natAbs*y.natAbs:Nat):Int)else ((x.natAbs*y.natAbs:Nat):Int))=x*y:=by
 rw[Zya,Zya]
 by_cases hx:x < 0<;>by_cases hy:y < 0
 ·rw[decide_eq_true hx,decide_eq_true hy,if_neg (by decide),ZNT,show ((x.natAbs:Nat):Int)= -x by omega,show ((y.natAbs:Nat):Int)= -y by omega,Int.neg_mul_neg]
 ·rw[decide_eq_true hx,decide_eq_false hy,if_pos (by decide),ZNT,show ((x.natAbs:Nat):Int)= -x by omega,show ((y.natAbs:Nat):Int)=y by omega,Int.neg_mul,Int.neg_neg]
 ·rw[decide_eq_false hx,decide_eq_true hy,if_pos (by decide),ZNT,show ((x.natAbs:Nat):Int)=x by omega,show ((y.natAbs:Nat):Int)= -y by omega,Int.mul_neg,Int.neg_neg]
 ·rw[decide_eq_false hx,decide_eq_false hy,if_neg (by decide),ZNT,show ((x.natAbs:Nat):Int)=x by omega,show ((y.natAbs:Nat):Int)=y by omega]
theorem ZB2 {x y:Nat} {n m:Nat} (hx:(wd x).length≤n) (hy:(wd y).length≤m):(wd (x*y)).length≤n+m:=by refine Zx0 ?_;have h1:=ZOs (Zv3 x) (ZOd (Zv3 y)) (Nat.pow_pos (by decide));rw[←ZOw]at h1;exact ZOh h1 (ZOx (by decide) (by omega))
theorem ZxS (x y:Int) (hx:Wl 50000 x) (hy:Wl 50000 y):Zo2 (bg x) (bg y)=some (bg (x*y)):=by unfold Zo2;have:=ZB2 hx hy;rw[ZpZ,ZpZ,ZCt _ _ (by omega) (by omega),ZOE,Zvn _ _ (by omega),ZOE,ZF6]
theorem ZD5 {x y n:Nat} (hx:(wd x).length≤n) (hy:(wd y).length≤n):(wd (x+y)).length≤n+1:=by refine Zx0 ?_;have h1:=ZOh (Zv3 x) (ZOx (n:=Bw) (by decide) hx);have h2:=ZOh (Zv3 y) (ZOx (n:=Bw) (by decide) hy);rw[ZOz];have:=ZOq (Bw ^ n) (show 2≤Bw by decide);omega
theorem ZHl (x y:Int) (hx:Wl 50000 x) (hy:Wl 50000 y):Zvw (bg x) (bg y)=some (bg (x+y)):=by
 unfold Wl at hx hy;unfold Zvw;have h1:=ZD5 hx hy;rw[ZpZ,ZpZ,Zya,Zya];have opp:decide (x < 0)≠decide (y < 0)→ZpL (iL (wd x.natAbs)) (iL (wd y.natAbs))=some (ZCa x.natAbs y.natAbs):=fun _=>ZA5 _ _ (by omega) (by omega)
 by_cases hs:decide (x < 0)=decide (y < 0)
 ·rw[hs,beq_self_eq_true,cond_true,ZFB _ _ (by omega) (by omega),ZOE,Zvn _ _ (by omega),ZOE];congr 2
  by_cases hy0:y < 0
  ·have hx0:x < 0:=by rw[decide_eq_true hy0]at hs;exact of_decide_eq_true hs
   rw[decide_eq_true hy0,if_pos rfl];omega
  ·have hx0:¬x < 0:=by rw[decide_eq_false hy0]at hs;exact of_decide_eq_false hs
   rw[decide_eq_false hy0,if_neg (by decide)];omega
 ·rw[beq_eq_false_iff_ne.2 hs,cond_false,opp hs,ZOE];rcases ZOi x.natAbs y.natAbs with hlt |hge
  ·have:=Ztl (Nat.sub_le y.natAbs x.natAbs);rw[ZxU hlt,decide_eq_false (by omega),cond_false,ZEm _ _ (by omega) (by omega),ZOE,Zvn _ _ (by omega),ZOE];congr 2
   by_cases hy0:y < 0
   ·have hx0:¬x < 0:=fun h=>hs (by rw[decide_eq_true hy0,decide_eq_true h])
    rw[decide_eq_true hy0,if_pos rfl];omega
   ·have hx0:x < 0:=Decidable.byContradiction fun h=>hs (by rw[decide_eq_false hy0,decide_eq_false h])
    rw[decide_eq_false hy0,if_neg (by decide)];omega
  ·have hn:ZCa x.natAbs y.natAbs≥0:=by
    rcases ZOi y.natAbs x.natAbs with h |h
    ·rw[ZxI h];decide
    ·rw[show x.natAbs=y.natAbs by omega,Zww];decide
   have:=Ztl (Nat.sub_le x.natAbs y.natAbs);rw[decide_eq_true hn,cond_true,ZEm _ _ hge (by omega),ZOE,Zvn _ _ (by omega),ZOE];congr 2
   by_cases hx0:x < 0
   ·have hy0:¬y < 0:=fun h=>hs (by rw[decide_eq_true hx0,decide_eq_true h])
    rw[decide_eq_true hx0,if_pos rfl];omega
   ·have hy0:y < 0:=Decidable.byContradiction fun h=>hs (by rw[decide_eq_false hx0,decide_eq_false h])
    rw[decide_eq_false hx0,if_neg (by decide)];omega
end Go.Proofs
namespace Go.Proofs
open Go Eng
def fOf (q:Rat):ZoF:=⟨bg q.num,bg (q.den:Int)⟩
theorem ZD4 {x n:Nat} (g:Nat) (h:(wd x).length≤n):(wd (x / g)).length≤n:=ZOf (Ztl (ZOa x g)) h
theorem ZFb {x y n:Nat} (hy:0 < y) (h:(wd y).length≤n):(wd (ZOb x y)).length≤n:=ZOf (Ztl (Nat.gcd_le_right x hy)) h
theorem Zzo (x y:Int) (hy:y≠0) (hx1:Wl 50000 x) (hy1:Wl 50000 y):ZqC (bg x) (bg y)=some (fOf (Rat.divInt x y)):=by
 have hy0:0 < y.natAbs:=by omega
 have hg0:ZOb x.natAbs y.natAbs≠0:=fun e=>by have:=Nat.gcd_pos_of_pos_right x.natAbs hy0;omega
 have hgl:=ZFb (x:=x.natAbs) hy0 hy1;have hxl:=ZD4 (ZOb x.natAbs y.natAbs) hx1;have hyl:=ZD4 (ZOb x.natAbs y.natAbs) hy1;unfold ZqC;rw[ZpZ,ZpZ,ZBK _ _ hx1 hy1,ZOE,ZA0 _ _ hg0 hx1 hgl,ZOE];dsimp only;rw[ZA0 _ _ hg0 hy1 hgl,ZOE];dsimp only;rw[Zvn _ _ (by omega),ZOE,Zvn _ _ (by omega),ZOE,Zya,Zya];unfold fOf;rw[Rat.num_divInt,Rat.den_divInt,if_neg hy];have eg:Int.gcd y x=ZOb x.natAbs y.natAbs:=by rw[Int.gcd_comm];rfl
 rw[eg];have key:(if (!(decide (x < 0) == decide (y < 0)))=true then -((x.natAbs / ZOb x.natAbs y.natAbs:Nat):Int)else ((x.natAbs / ZOb x.natAbs y.natAbs:Nat):Int))=y.sign*x / (ZOb x.natAbs y.natAbs:Int):=by
  obtain⟨k,hk⟩:=Nat.gcd_dvd_left x.natAbs y.natAbs;generalize ZOb x.natAbs y.natAbs=g at*
  have hgp:0 < g:=by omega
  have e1:x.natAbs / g=k:=by rw[hk,Nat.mul_div_cancel_left _ hgp]
  have e2:((g:Int)*(k:Int)) / (g:Int)=k:=Int.mul_ediv_cancel_left _ (by omega);have e3:(-((g:Int)*(k:Int))) / (g:Int)= -k:=by rw[←Int.mul_neg,Int.mul_ediv_cancel_left _ (by omega)]
  have hk':((x.natAbs:Nat):Int)=(g:Int)*(k:Int):=by rw[hk];norm_cast
  rw[e1]
  by_cases hx0:x < 0<;>by_cases hy0:y < 0
  ·rw[decide_eq_true hx0,decide_eq_true hy0,if_neg (by decide),Int.sign_eq_neg_one_of_neg hy0,show -1*x=(g:Int)*k by omega,e2]
  ·rw[decide_eq_true hx0,decide_eq_false hy0,if_pos (by decide),Int.sign_eq_one_of_pos (by omega),show 1*x= -((g:Int)*k) by omega,e3]
  ·rw[decide_eq_false hx0,decide_eq_true hy0,if_pos (by decide),Int.sign_eq_neg_one_of_neg hy0,show -1*x= -((g:Int)*k) by omega,e3]
  ·rw[decide_eq_false hx0,decide_eq_false hy0,if_neg (by decide),Int.sign_eq_one_of_pos (by omega),show 1*x=(g:Int)*k by omega,e2]
 rw[key,if_neg Bool.false_ne_true]
theorem ZF5:∀l:List Int,l.length≤1000→(∀z∈l,Wl 256 z)→Zwp (l.map bg)=some true:=fun l hl h=>by
 refine Zq0 ?_;unfold Zwp;rw[ZoN,List.length_map];refine ZoW (Zsz Zz1 l.length (by omega) (fun i (_:Unit)=>(l.map bg,(l.length:Int),i)) (fun _ _=>True) (Q:=fun r=>r= .brk ()) () trivial ?_ ?_) ?_
 ·rintro rec i ⟨⟩ hi _ ih;unfold ZwQ ZuN;dsimp only;rw[Zo1];refine⟨fun _=> ?_,fun h=>by have:=of_decide_eq_false h;omega⟩;rw[ZsV (by rw[List.length_map];exact hi),ZoN,ZoK,List.getElem_map,ZyB _ (h _ (List.getElem_mem hi)),ZoN,ZoK];rw[ZNN,cond_false,ZoO];exact⟨ZoS (by omega),ih () trivial⟩
 ·rintro rec ⟨⟩ _;unfold ZwQ ZuN;dsimp only;rw[Zo1];refine⟨fun h=>by have:=of_decide_eq_true h;omega,fun _=>ZoK.2 rfl⟩
 ·rintro r rfl;exact ZoK.2 rfl
abbrev Wq (n:Nat) (q:Rat):Prop:=Wl n q.num∧Wl n (q.den:Int)
theorem ZBz:iL (wd 1)=[1]:=by rw[ZAA (by decide),show 1 / Bw=0 from rfl,Zum];rfl
theorem Zzw (q:Rat) (h:Wq 256 q):Zqq (fOf q)=some true:=by
 unfold Zqq Zr7 fOf;have hb:=ZF5 [q.num,(q.den:Int)] (by simp) (fun z hz=>by
  simp only[List.mem_cons,ZN1,or_false]at hz;rcases hz with rfl |rfl
  ·exact h.1
  ·exact h.2)
 have hd:=q.den_nz;have hl:=ZrZ (n:=(q.den:Int).natAbs) (by omega);have hn:=h.1;have hdl:=h.2;unfold Wl at hn hdl;dsimp only;rw[show ([bg q.num,bg (q.den:Int)]:List ZoM)=[q.num,(q.den:Int)].map bg from rfl,hb,ZOE,cond_true,ZpZ,ZpZ,Zo4,decide_eq_true (by omega),cond_true,Zya,decide_eq_false (by omega),Bool.not_false,cond_true,ZBK _ _ (by omega) (by omega),ZOE];have hc:ZOb q.num.natAbs (q.den:Int).natAbs=1:=q.reduced;have h1:(wd 1).length≤1:=Zx0 (by decide);rw[hc,←ZBz,ZA5 1 1 (by omega) (by omega),ZOE,Zww];rfl
end Go.Proofs
namespace Go.Proofs
open Go Eng
def Sz (k:Nat) (q:Rat):Prop:=q.num.natAbs < 2 ^ k∧q.den < 2 ^ k
theorem Sz.mono {k l:Nat} {q:Rat} (h:Sz k q) (hl:k≤l):Sz l q:=⟨ZOh h.1 (ZOx (by decide) hl),ZOh h.2 (ZOx (by decide) hl)⟩
theorem ZCp {n k:Nat} (h:n < 2 ^ k) (m:Nat) (hk:k≤32*m):(wd n).length≤m:=by refine Zx0 (ZOh h ?_);rw[show Bw=2 ^ 32 from rfl,←ZOy];exact ZOx (by decide) hk
theorem Sz.wq {k:Nat} {q:Rat} (h:Sz k q) (hk:k≤8192):Wq 256 q:=⟨ZCp h.1 256 (by omega),ZCp (n:=(q.den:Int).natAbs) (by rw[ZNQ];exact h.2) 256 (by omega)⟩
theorem ZAE {x y:Int} {k:Nat} (hy:y≠0) (h1:x.natAbs < 2 ^ k) (h2:y.natAbs < 2 ^ k):Sz k (Rat.divInt x y):=by
 unfold Sz;rw[Rat.num_divInt,Rat.den_divInt,if_neg hy];refine⟨ZOg ?_ h1,ZOg (ZOa _ _) h2⟩;have hd:((Int.gcd y x:Nat):Int)∣y.sign*x:=Int.dvd_trans (Int.gcd_dvd_right y x) (Int.dvd_mul_left _ _);rw[Int.natAbs_ediv_of_dvd hd,ZNP];refine ZOf (ZOa _ _) ?_;have:y.sign.natAbs=1:=by rw[Int.natAbs_sign_of_ne_zero hy]
 rw[this,ZOu];exact ZOe _
theorem Zzp {x y k l:Nat} (hx:x < 2 ^ k) (hy:y < 2 ^ l):x*y < 2 ^ (k+l):=by rw[ZOw];exact ZOs hx (ZOd hy) (ZOC _)
theorem ZCk (a b:Rat):Rat.divInt (a.num*(b.den:Int)+b.num*(a.den:Int)) ((a.den:Int)*(b.den:Int))=a+b:=by have h1:=a.den_nz;have h2:=b.den_nz;rw[←Rat.divInt_add_divInt _ _ (by omega) (by omega),Rat.num_divInt_den,Rat.num_divInt_den]
theorem Sz.add {a b:Rat} {k l:Nat} (ha:Sz k a) (hb:Sz l b):Sz (k+l+1) (a+b):=by
 rw[←ZCk];have h1:=a.den_nz;have h2:=b.den_nz;have q1:=Zzp ha.1 hb.2;have q2:=Zzp ha.2 hb.1;have q3:=Zzp ha.2 hb.2;have hp:=ZOC (k+l);refine ZAE (ZNO (by omega) (by omega)) ?_ ?_
 ·rw[ZOz];refine ZOg (Int.natAbs_add_le _ _) ?_;rw[ZNP,ZNP,ZNQ,ZNQ,ZOp b.num.natAbs];omega
 ·rw[ZOz,ZNP,ZNQ,ZNQ];omega
theorem ZIn {q:Rat} (h:Wq 256 q):decide ((if ((fOf q).Den.Words.length:Int) > ((fOf q).Num.Words.length:Int)then ((fOf q).Den.Words.length:Int)else ((fOf q).Num.Words.length:Int)) > 256)=false:=by have h1:=h.1;have h2:=h.2;unfold Wl at h1 h2;refine decide_eq_false ?_;unfold fOf;rw[ZpZ,ZpZ,Zo4,Zo4];split<;>omega
theorem ZAd {y:Int} (hy:y≠0):(((bg y).Words.length:Int) == 0)=false:=by have:=ZrZ (n:=y.natAbs) (by omega);rw[ZpZ,Zo4];exact beq_eq_false_iff_ne.2 (by omega)
theorem ZHJ {a b:Rat} {k l:Nat} (ha:Sz k a) (hb:Sz l b) (hk:k+l+1≤8192):Zw1 (fOf a) (fOf b)=some (fOf (a+b),0):=by
 have h1:=a.den_nz;have h2:=b.den_nz;have qa:=ha.wq (by omega);have qb:=hb.wq (by omega);have w:∀{x y:Int},Wl 256 x→Wl 256 y→Wl 512 (x*y):=fun hx hy=>by unfold Wl;rw[ZNP];exact ZB2 hx hy
 have m:∀{n:Nat} {x:Int},Wl n x→n≤50000→Wl 50000 x:=fun h h'=>ZOf h h'
 have w1:=w qa.1 qb.2;have w2:=w qb.1 qa.2;have w3:=w qa.2 qb.2;have w4:Wl 513 (a.num*(b.den:Int)+b.num*(a.den:Int)):=ZOf (Ztl (Int.natAbs_add_le _ _)) (ZD5 w1 w2);have hd:(a.den:Int)*(b.den:Int)≠0:=ZNO (by omega) (by omega);unfold Zw1 Zql;rw[Zzw a qa,ZOE,ZNN,cond_false,Zzw b qb,ZOE,ZNN];unfold ZqD ZyJ;rw[cond_false];show ((((Zo2 (bg a.num) (bg (b.den:Int))).bind fun q=>(Zo2 (bg b.num) (bg (a.den:Int))).bind fun q_1=>(Zvw q q_1).bind fun num=>(Zo2 (bg (a.den:Int)) (bg (b.den:Int))).bind fun den=>some (num,den)).bind _).bind _)=_;rw[ZxS _ _ (m qa.1 (by omega)) (m qb.2 (by omega)),ZOE,ZxS _ _ (m qb.1 (by omega)) (m qa.2 (by omega)),ZOE,ZHl _ _ (m w1 (by omega)) (m w2 (by omega)),ZOE,ZxS _ _ (m qa.2 (by omega)) (m qb.2 (by omega)),ZOE,ZOE];dsimp only;rw[ZAd hd,cond_false,Zzo _ _ hd (m w4 (by omega)) (m w3 (by omega)),ZOE,ZCk,ZIn ((ha.add hb).wq hk),cond_false,ZOE]
end Go.Proofs
namespace Go.Proofs
open Go Eng
theorem ZBy (z:Int):Zr5 (bg z)=some (bg (-z)):=by
 unfold Zr5 ZtU;rw[Zya,ZpZ,Zo4]
 by_cases hz:z < 0
 ·rw[decide_eq_true hz,ZNN,cond_false];unfold bg;rw[ZNR,decide_eq_false (by omega:¬ -z < 0)]
 ·rw[decide_eq_false hz,Bool.not_false,cond_true];unfold bg;rw[ZNR];congr 2
  by_cases h0:z=0
  ·subst h0;rw[show (0:Int).natAbs=0 from rfl,Zum];rfl
  ·have:=ZrZ (n:=z.natAbs) (by omega);rw[decide_eq_true (by omega),decide_eq_true (by omega)]
theorem ZIW (q:Rat):fOf (-q)=⟨bg (-q.num),bg (q.den:Int)⟩:=rfl
theorem Sz.neg {q:Rat} {k:Nat} (h:Sz k q):Sz k (-q):=by show (-q.num).natAbs < 2 ^ k∧q.den < 2 ^ k;rw[ZNR];exact h
theorem ZKc {a b:Rat} {k l:Nat} (ha:Sz k a) (hb:Sz l b) (hk:k+l+1≤8192):ZxY (fOf a) (fOf b)=some (fOf (a - b),0):=by unfold ZxY;rw[Zzw b (hb.wq (by omega)),ZOE,ZNN,cond_false];show ((Zr5 (bg b.num)).bind fun q_1=>(Zql (fOf a) (ZoF.mk q_1 (bg (b.den:Int)))).bind fun x=>some (x.1,x.2))=_;have:=ZHJ ha hb.neg hk;unfold Zw1 at this;rw[ZBy,ZOE,←ZIW,Rat.sub_eq_add_neg];exact this
theorem ZAQ {a b:Rat} {k l:Nat} (ha:Sz k a) (hb:Sz l b) (hk:k+l+1≤8192):ZyE (fOf a) (fOf b)=some (fOf (a+b)):=by unfold ZyE Zw7;rw[ZHJ ha hb hk];rfl
theorem ZBC {a b:Rat} {k l:Nat} (ha:Sz k a) (hb:Sz l b) (hk:k+l+1≤8192):Zzf (fOf a) (fOf b)=some (fOf (a - b)):=by unfold Zzf Zw7;rw[ZKc ha hb hk];rfl
def ZCy (a b:Rat):Int:=if a < b then -1 else if b < a then 1 else 0
theorem ZBk (a b:Rat):a < b↔a.num*(b.den:Int) < b.num*(a.den:Int):=Rat.lt_iff a b
theorem ZFZ {a b:Rat} (qa:Wq 256 a) (qb:Wq 256 b):Zvx (fOf a) (fOf b)=some (ZCy a b):=by
 have w:∀{x y:Int},Wl 256 x→Wl 256 y→Wl 50000 (x*y):=fun hx hy=>by unfold Wl;rw[ZNP];exact ZOf (ZB2 hx hy) (by decide)
 have m:∀{x:Int},Wl 256 x→Wl 50000 x:=fun h=>ZOf h (by decide)
 unfold Zvx;rw[Zzw a qa,ZOE,ZNN,cond_false,Zzw b qb,ZOE,ZNN];unfold ZwD;rw[cond_false];show ((Zo2 (bg a.num) (bg (b.den:Int))).bind fun q=>(Zo2 (bg b.num) (bg (a.den:Int))).bind _)=_;rw[ZxS _ _ (m qa.1) (m qb.2),ZOE,ZxS _ _ (m qb.1) (m qa.2),ZOE,ZBy,ZOE];have w2:Wl 50000 (-(b.num*(a.den:Int))):=by unfold Wl;rw[ZNR];exact w qb.1 qa.2
 rw[ZHl _ _ (w qa.1 qb.2) w2,ZOE,Zya,ZpZ,Zo4];unfold ZCy;have h1:=ZBk a b;have h2:=ZBk b a;generalize a.num*(b.den:Int)=x at*
 generalize b.num*(a.den:Int)=y at*
 by_cases hl:a < b
 ·rw[if_pos hl,decide_eq_true (by have:=h1.1 hl;omega),cond_true]
 ·have hn:¬x < y:=fun h=>hl (h1.2 h)
  rw[if_neg hl,decide_eq_false (by omega),cond_false]
  by_cases hg:b < a
  ·have:=ZrZ (n:=(x+ -y).natAbs) (by have:=h2.1 hg;omega);rw[if_pos hg,decide_eq_true (by omega),cond_true]
  ·have hn2:¬y < x:=fun h=>hg (h2.2 h)
   rw[if_neg hg,show x+ -y=0 by omega,show (0:Int).natAbs=0 from rfl,Zum];rfl
theorem ZIH (x y:Int) (hy:y≠0) (hx1:Wl 256 x) (hy1:Wl 256 y):Zxw (bg x) (bg y)=some (fOf (Rat.divInt x y),0):=by
 have hb:=ZF5 [x,y] (by simp) (fun z hz=>by
  simp only[List.mem_cons,ZN1,or_false]at hz;rcases hz with rfl |rfl
  ·exact hx1
  ·exact hy1)
 unfold Zxw;rw[show ([bg x,bg y]:List ZoM)=[x,y].map bg from rfl,hb,ZOE,ZNN,cond_false,ZAd hy,cond_false,Zzo _ _ hy (ZOf hx1 (by decide)) (ZOf hy1 (by decide)),ZOE]
theorem ZMd {z:Int} (h1: -9223372036854775808≤z) (h2:z≤9223372036854775807):Wl 256 z:=ZOf (ZIL (by omega)) (by decide)
theorem ZKq (x y:Int) (hy:y≠0) (h1: -9223372036854775808≤x) (h2:x≤9223372036854775807) (h3: -9223372036854775808≤y) (h4:y≤9223372036854775807):Zxv x y=some (fOf (Rat.divInt x y),0):=by unfold Zxv;rw[ZCc x h1 h2,ZOE,ZCc y h3 h4,ZOE,ZIH x y hy (ZMd h1 h2) (ZMd h3 h4),ZOE]
theorem ZAX:Zvv=some (fOf 0):=by unfold Zvv;rw[ZKq 0 1 (by decide) (by decide) (by decide) (by decide) (by decide),ZOE,Rat.zero_divInt]
theorem ZAP (x y:Int) (hy:y≠0) (h1: -9223372036854775808≤x) (h2:x≤9223372036854775807) (h3: -9223372036854775808≤y) (h4:y≤9223372036854775807):Zxs x y=some (fOf (Rat.divInt x y)):=by unfold Zxs;rw[ZKq x y hy h1 h2 h3 h4,ZOE];rfl
theorem ZAY:Sz 1 0:=by unfold Sz;decide
theorem ZBu {a:Rat} (qa:Wq 256 a):Zxh (fOf a)=some (ZCy a 0):=by unfold Zxh;rw[ZAX,ZOE,ZFZ qa (ZAY.wq (by decide)),ZOE]
theorem ZCd (a b:Rat):Rat.divInt (a.num*(b.den:Int)) ((a.den:Int)*b.num)=a / b:=by rw[←Rat.divInt_mul_divInt,Rat.num_divInt_den,Rat.div_def,Rat.inv_def]
theorem Sz.div {a b:Rat} {k l:Nat} (hb0:b≠0) (ha:Sz k a) (hb:Sz l b):Sz (k+l) (a / b):=by
 rw[←ZCd];have h1:=a.den_nz;have h2:b.num≠0:=fun e=>hb0 (Rat.num_eq_zero.1 e)
 refine ZAE (ZNO (by omega) h2) ?_ ?_
 ·rw[ZNP,ZNQ];exact Zzp ha.1 hb.2
 ·rw[ZNP,ZNQ];exact Zzp ha.2 hb.1
theorem ZKW {a b:Rat} {k l:Nat} (hb0:b≠0) (ha:Sz k a) (hb:Sz l b) (hk:k+l≤8192):ZxZ (fOf a) (fOf b)=some (fOf (a / b),0):=by
 have h1:=a.den_nz;have h2:b.num≠0:=fun e=>hb0 (Rat.num_eq_zero.1 e)
 have qa:=ha.wq (by omega);have qb:=hb.wq (by omega);have w:∀{x y:Int},Wl 256 x→Wl 256 y→Wl 50000 (x*y):=fun hx hy=>by unfold Wl;rw[ZNP];exact ZOf (ZB2 hx hy) (by decide)
 have m:∀{x:Int},Wl 256 x→Wl 50000 x:=fun h=>ZOf h (by decide)
 have w1:=w qa.1 qb.2;have w3:=w qa.2 qb.1;have hd:(a.den:Int)*b.num≠0:=ZNO (by omega) h2;unfold ZxZ ZsT;rw[Zzw a qa,ZOE,ZNN,cond_false,Zzw b qb,ZOE,ZNN];unfold Zqe ZyK;rw[cond_false];show ((((Zo2 (bg a.num) (bg (b.den:Int))).bind fun num=>(Zo2 (bg (a.den:Int)) (bg b.num)).bind fun den=>some (num,den)).bind _).bind _)=_;rw[ZxS _ _ (m qa.1) (m qb.2),ZOE,ZxS _ _ (m qa.2) (m qb.1),ZOE,ZOE];dsimp only;rw[ZAd hd,cond_false,Zzo _ _ hd w1 w3,ZOE,ZCd,ZIn ((Sz.div hb0 ha hb).wq hk),cond_false,ZOE]
theorem ZDh {a b:Rat} {k l:Nat} (hb0:b≠0) (ha:Sz k a) (hb:Sz l b) (hk:k+l≤8192):ZzZ (fOf a) (fOf b)=some (fOf (a / b)):=by unfold ZzZ Zw7;rw[ZKW hb0 ha hb hk];rfl
end Go.Proofs
namespace Go.Proofs
open Go Eng
theorem ZD8:∀n w,Zpt n w=ZpP n w
 |0,_=>rfl
 |n+1,w=>by have:Zpt n=ZpP n:=funext (ZD8 n);show ZvR (Zpt n) w=Zta (ZpP n) w;rw[this];rfl
theorem ZEC (w:List Int):Zpe w=Zpj w:=by unfold Zpe Zpj;rw[ZD8];rfl
theorem ZAm {l:List Nat} (h:Dg l) (hl:l.length≤1000000):Zpe (iL l)=some (iL (wd (val l))):=by rw[ZEC,Zzy h hl]
theorem ZAg (neg:Bool) {l:List Nat} (h:Dg l) (hl:l.length≤1000000):Zo9 neg (iL l)=some (bg (if neg then -(val l:Int)else val l)):=by
 unfold Zo9 Zsi;rw[ZAm h hl,ZOE,Zo4];unfold bg;cases neg with
 |true=>
  rw[cond_true,if_pos rfl,ZNR,ZNQ];congr 2
  by_cases h0:val l=0
  ·rw[h0,Zum];rfl
  ·have:=ZrZ h0;rw[decide_eq_true (by omega),decide_eq_true (by omega)]
 |false=>rw[cond_false,if_neg (by decide),ZNQ,decide_eq_false (by omega)]
theorem ZxW (a:ZoM):ZpI a=ZtG a:=rfl
end Go.Proofs
namespace Go.Proofs
open Go Eng
theorem ZBN (a b:Nat) (ha:(wd a).length≤100000) (hb:(wd b).length≤100000):Zpq (iL (wd a)) (iL (wd b))=some (ZCa a b):=by
 refine Zq0 ?_;unfold Zpq;rw[Zo4,Zo4,Zo1];refine⟨fun h=> ?_,fun h=> ?_⟩
 ·have hne:(wd a).length≠(wd b).length:=fun e=>by rw[e]at h;simp at h
  rw[Zo1];refine⟨fun h=> ?_,fun h=> ?_⟩
  ·have h1:(wd a).length < (wd b).length:=by have:=of_decide_eq_true h;omega
   rw[ZoK,ZxU (ZCb h1)]
  ·have h1:(wd b).length < (wd a).length:=by have:=of_decide_eq_false h;omega
   rw[ZoK,ZxI (ZCb h1)]
 ·have hl:(wd a).length=(wd b).length:=by simp only[bne_eq_false_iff_eq]at h;omega
  rw[ZoO,ZoN];refine⟨ZoS (by omega), ?_⟩;refine ZoW (ZAU Zys (wd a).length (by omega) (fun i (s:Unit)=>(iL (wd a),iL (wd b),i)) (fun k _=>(wd a).drop k=(wd b).drop k)
   (Q:=fun r=>r= .ret (ZCa a b)∨r= .brk ()∧a=b) () (by rw[List.drop_length,hl,List.drop_length]) ?_ ?_) ?_
  ·rintro rec k ⟨⟩ hk hP ih;have hk2:k < (wd b).length:=by omega
   unfold Ztu Zrj;dsimp only;rw[Zo1];refine⟨fun _=> ?_,fun h=>by have:=of_decide_eq_false h;omega⟩;have ha:=ZyC hk;have hb:=ZyC hk2;rw[Zr8]at ha hb;have la:val ((wd a).take k) < Bw ^ k:=by have:=ZwK ((Zvm a).take k);rwa [ZN0,ZOj (by omega)]at this
   have lb:val ((wd b).take k) < Bw ^ k:=by have:=ZwK ((Zvm b).take k);rwa [ZN0,ZOj (by omega)]at this
   rw[Zuk hk,ZoN,ZoK,Zuk hk2,ZoN,ZoK,Zo1];refine⟨fun hc=> ?_,fun hc=> ?_⟩
   ·have h1:(wd a)[k] < (wd b)[k]:=by have:=of_decide_eq_true hc;omega
    have:a < b:=by rw[ha,hb,hP];exact ZCq (A:=0) (B:=0) la (by omega)
    rw[ZoK];exact .inl (by rw[ZxU this])
   ·rw[ZoN,ZoK,ZoN,ZoK,Zo1];refine⟨fun hc2=> ?_,fun hc2=> ?_⟩
    ·have h1:(wd b)[k] < (wd a)[k]:=by have:=of_decide_eq_true hc2;omega
     have:b < a:=by rw[ha,hb,hP];exact ZCq (A:=0) (B:=0) lb (by omega)
     rw[ZoK];exact .inl (by rw[ZxI this])
    ·rw[ZoO];refine⟨ZoS (by omega),ih () ?_⟩;have h1:(wd a)[k]=(wd b)[k]:=by have q1:=of_decide_eq_false hc;have q2:=of_decide_eq_false hc2;omega
     rw[←ZNY (h:=hk),←ZNY (h:=hk2),h1,hP]
  ·rintro rec ⟨⟩ hP;unfold Ztu Zrj;dsimp only;rw[Zo1];refine⟨fun h=>by have:=of_decide_eq_true h;omega,fun _=> ?_⟩;rw[ZoK];rw[List.drop_zero,List.drop_zero]at hP;exact .inr ⟨rfl,by rw[←Zr8 a,←Zr8 b,hP]⟩
  ·rintro r (rfl |⟨rfl,rfl⟩)
   ·exact ZoK.2 rfl
   ·unfold Zuw;exact ZoK.2 (Zww a).symm
theorem ZDF {a:Nat} (k:Nat) (hk:k≤32):shlK .u32 (a:Int) (k:Int)=((a*2 ^ k % 4294967296:Nat):Int):=by
 unfold shlK;rw[ZNU,show IntKind.bits .u32=32 from rfl,ZOj (by omega)];have e:(a:Int)*(2:Int) ^ k=((a*2 ^ k:Nat):Int):=by push_cast;rfl
 rw[e,ZuO]
theorem ZD7 (a d:Nat) (hd:d≤1) (ha:(wd a).length≤100000):Zq2 (iL (wd a)) (d:Int)=some (iL (wd (2*a+d))):=by
 refine Zq0 ?_;unfold Zq2;rw[ZoN];refine ZoW (Zsz Zx1 (wd a).length (by omega) (fun i (s:Nat×List Nat)=>(iL (wd a),(s.1:Int),i,iL s.2)) (fun i s=>s.1≤1∧s.2.length=i∧Dg s.2∧val s.2+Bw ^ i*s.1=2*val ((wd a).take i)+d)
  (Q:=fun y=>∃(c:Nat) (o:List Nat),y=((c:Int),iL o)∧c≤1∧Dg o∧o.length=(wd a).length∧val o+Bw ^ (wd a).length*c=2*a+d) (d,[]) ⟨hd,rfl,ZAc,by simp[val]⟩ ?_ ?_) ?_
 ·rintro rec i ⟨c,o⟩ hi ⟨hc,hl,hod,hv⟩ ih;dsimp only at hc hl hod hv ih;have h1:=(Zvm a).get hi;unfold ZsO ZqV;dsimp only;rw[Zo1,Zo4];refine⟨fun _=> ?_,fun h=>by have:=of_decide_eq_false h;omega⟩;rw[Zuk hi,ZoN,ZoK];generalize ex:(wd a)[i]=x at h1;have eor:orK .u32 (shlK .u32 (x:Int) 1) (c:Int)=((c+x*2 ^ 1 % Bw:Nat):Int):=by rw[show (1:Int)=((1:Nat):Int)from rfl,ZDF 1 (by omega),ZDf (ZOm _ (by decide)) (by omega),Nat.or_comm];congr 1;exact ZCC (by decide) (by omega) h1
  have esh:shrK .u32 (x:Int) 31=((x / 2 ^ 31:Nat):Int):=ZAs 31 (by omega);rw[eor,ZOE,esh,ZoO,ZoO,ZoO,ZoO,Zo4];have hx:c+x*2 ^ 1 % Bw < Bw:=by simp only[Bw]at h1⊢;omega
  refine⟨by decide,Zu2 (by simp only[ZNZ];omega),by decide,ZoS (by omega), ?_⟩;have:=ih (x / 2 ^ 31,o++[c+x*2 ^ 1 % Bw]) ⟨by simp only[Bw]at h1;dsimp only;omega,by simp[hl],hod.app (Zzr hx), ?_⟩
  ·rw[ZBG]at this;exact this
  ·dsimp only;have q:c+x*2 ^ 1 % Bw+Bw*(x / 2 ^ 31)=c+2*x:=by simp only[Bw]at h1⊢;omega
   have q2:Bw ^ i*(c+x*2 ^ 1 % Bw+Bw*(x / 2 ^ 31))=Bw ^ i*(c+2*x):=by rw[q]
   have q3:Bw ^ i*(2*x)=2*(Bw ^ i*x):=ZOr _ _ _;rw[ZOn,ZOn (Bw ^ i) c (2*x),q3]at q2;rw[ZvN,hl,Zpi hi,ex];generalize c+x*2 ^ 1 % Bw=dg at*
   generalize x / 2 ^ 31=cy at*
   rw[ZOz,ZOo];omega
 ·rintro rec ⟨c,o⟩ ⟨hc,hl,hod,hv⟩;dsimp only at hc hl hod hv;unfold ZsO ZqV;dsimp only;rw[Zo1,Zo4];refine⟨fun h=>by have:=of_decide_eq_true h;omega,fun _=> ?_⟩;rw[ZoK];rw[ZN2,Zr8]at hv;exact⟨c,o,rfl,hc,hod,hl,hv⟩
 ·rintro y ⟨c,o,rfl,hc,hod,hl,hv⟩;dsimp only;unfold Ztn;have e:iL o++[(c:Int)]=iL (o++[c]):=by rw[ZBG];rfl
  rw[ZoO,Zo4,e,ZAm (hod.app (Zzr (by simp only[Bw];omega))) (by simp;omega),ZoN,ZoK,ZoK,ZvN,hl,hv];exact⟨Zu2 (by simp only[ZNZ];omega),rfl⟩
end Go.Proofs
namespace Go.Proofs
open Go Eng
theorem ZIo (t:Int):shrK .i64 t 32=t / 4294967296:=by unfold shrK;rw[show min (32:Int).toNat (IntKind.bits .i64)=32 from by decide,Int.fdiv_eq_ediv_of_nonneg _ (by decide)];rfl
theorem ZBt (a b:Nat) (hab:b≤a) (ha:(wd a).length≤100000):Zp4 (iL (wd a)) (iL (wd b))=some (iL (wd (a - b))):=by
 have hlb:(wd b).length≤(wd a).length:=Ztl hab;refine Zq0 ?_;unfold Zp4;rw[ZoN];refine ZoW (Zsz Zyo (wd a).length (by omega) (fun i (s:Nat×List Nat)=>(iL (wd a),iL (wd b), -(s.1:Int),i,iL s.2)) (fun i s=>s.1≤1∧s.2.length=i∧Dg s.2∧val ((wd a).take i)+Bw ^ i*s.1=val s.2+val ((wd b).take i))
  (Q:=fun y=>∃(o:List Nat),y=iL o∧Dg o∧o.length=(wd a).length∧val o=a - b) (0,[]) ⟨by simp,rfl,ZAc,by simp[val]⟩ ?_ ?_) ?_
 ·rintro rec i ⟨c,o⟩ hi ⟨hc,hl,hd,hv⟩ ih;dsimp only at hc hl hd hv ih;have h1:=(Zvm a).get hi;have h2:=ZAu (Zvm b) i;have ey0:(wd b).getD i 0=(if i < (wd b).length then (wd b).getD i 0 else 0):=by
   by_cases h:i < (wd b).length
   ·rw[if_pos h]
   ·rw[if_neg h,ZNV,ZNX (by omega)];rfl
  have fin:∀y:Nat,(wd b).getD i 0=y→wp (ZqH (fun a b c i out=>rec (a,b,c,i,out)) (iL (wd a)) (iL (wd b)) (-(c:Int)+((wd a)[i]:Int) - (y:Int)) (i:Int) (iL o)) (fun y=>∃(o:List Nat),y=iL o∧Dg o∧o.length=(wd a).length∧val o=a - b):=fun y ey=>by
   rw[ey]at h2;generalize ex:(wd a)[i]=x at h1;have ew:IntKind.wrap .u32 (-(c:Int)+(x:Int) - (y:Int))=(((x+4294967296 - y - c) % 4294967296:Nat):Int):=by simp only[Bw]at h1 h2;rw[IntKind.wrap_u32];omega
   have es:shrK .i64 (-(c:Int)+(x:Int) - (y:Int)) 32= -(((if x < y+c then 1 else 0):Nat):Int):=by simp only[Bw]at h1 h2;rw[ZIo];split<;>omega
   unfold ZqH;rw[ew,es,ZoO,ZoO,ZoO,Zo4];refine⟨Zu2 (by simp only[ZNZ];omega),by decide,ZoS (by omega), ?_⟩;have:=ih ((if x < y+c then 1 else 0),o++[(x+4294967296 - y - c) % 4294967296]) ⟨by dsimp only;split<;>omega,by simp[hl],hd.app (Zzr (ZOm _ (by decide))), ?_⟩
   ·rw[ZBG]at this;exact this
   ·dsimp only;rw[ZvN,hl,ZOz,Zpi hi,Zwy,ex,ey,ZOo];have e:x+Bw*(if x < y+c then 1 else 0)=(x+4294967296 - y - c) % 4294967296+y+c:=by simp only[Bw]at h1 h2⊢;split<;>omega
    have e2:Bw ^ i*(x+Bw*(if x < y+c then 1 else 0))=Bw ^ i*((x+4294967296 - y - c) % 4294967296+y+c):=by rw[e]
    rw[ZOn,ZOn,ZOn]at e2;omega
  unfold Zto Zrf;dsimp only;rw[Zo1,Zo4,Zo4];refine⟨fun _=> ?_,fun h=>by have:=of_decide_eq_false h;omega⟩;have wx:IntKind.wrap .i64 ((wd a)[i]:Int)=((wd a)[i]:Int):=wrap_i64 (by simp only[Bw]at h1;omega);rw[Zuk hi,ZoN,ZoK,wx,ZoO,Zo1];refine⟨ZoS (by simp only[Bw]at h1;omega),fun h=> ?_,fun h=> ?_⟩
  ·have hib:i < (wd b).length:=by have:=of_decide_eq_true h;omega
   have hy:=(Zvm b).get hib;have wy:IntKind.wrap .i64 ((wd b)[i]:Int)=((wd b)[i]:Int):=wrap_i64 (by simp only[Bw]at hy;omega);rw[Zuk hib,ZoN,ZoK,wy,ZoO];refine⟨ZoS (by simp only[Bw]at h1 hy;omega),fin _ ?_⟩;rw[ZNV,ZNW hib];rfl
  ·have hib:¬i < (wd b).length:=by have:=of_decide_eq_false h;omega
   have:=fin 0 (by rw[ey0,if_neg hib]);rw[Int.natCast_zero,Int.sub_zero]at this;exact this
 ·rintro rec ⟨c,o⟩ ⟨hc,hl,hd,hv⟩;unfold Zto Zrf;dsimp only at hc hl hd hv⊢
  rw[Zo1,Zo4];refine⟨fun h=>by have:=of_decide_eq_true h;omega,fun _=> ?_⟩;rw[ZoK];rw[ZN2,ZN3 (by omega),Zr8,Zr8]at hv;have:=ZwK hd;rw[hl]at this;have hc0:c=0:=by
   rcases Nat.eq_zero_or_pos c with h |h
   ·exact h
   ·have:c=1:=by omega
    rw[this,Nat.mul_one]at hv;omega
  rw[hc0,ZOt]at hv;exact⟨o,rfl,hd,hl,by omega⟩
 ·rintro y ⟨o,rfl,hd,hl,hv⟩;unfold Zun;rw[ZAm hd (by omega),ZoN,ZoK,ZoK,hv]
end Go.Proofs
namespace Go.Proofs
open Go Eng
theorem ZBl (a:Nat) (ha:(wd a).length≤100000):ZpS (iL (wd a))=some (iL (wd (a / 2))):=by
 refine Zq0 ?_;unfold ZpS;rw[List.nil_append,ZoO,ZoN,Zo4];refine⟨Zu2 (by rw[List.length_nil];omega), ?_⟩;refine ZoW (Zsz Zyc (wd a).length (by omega) (fun i (o:List Nat)=>(iL (wd a),((wd a).length:Int),i,iL (o++(wd a).drop o.length))) (fun i o=>o.length=i∧Dg o∧val o*2+(wd a).getD 0 0 % 2=val ((wd a).take i)+Bw ^ i*((wd a).getD i 0 % 2))
  (Q:=fun y=>∃(o:List Nat),y=iL o∧Dg o∧o.length=(wd a).length∧val o=a / 2) [] ⟨rfl,ZAc,by simp[val]⟩ ?_ ?_) ?_
 ·rintro rec i o hi ⟨hol,hod,hov⟩ ih;have h1:=(Zvm a).get hi;have hyB:=ZAu (Zvm a) (i+1);have hlen:(o++(wd a).drop o.length).length=(wd a).length:=by simp;omega
  have gx:(iL (o++(wd a).drop o.length))[i]? =some ((wd a)[i]:Int):=by rw[ZAa (by omega)];congr 2;rw[List.getElem_append_right (by omega)];simp[hol]
  have fin:∀z:Nat,z=(wd a)[i] / 2+(wd a).getD (i+1) 0*2 ^ 31 % Bw→wp (Zqy (fun a t9 i out=>rec (a,t9,i,out)) (iL (wd a)) ((wd a).length:Int) (i:Int) (iL ((o++(wd a).drop o.length).set i z))) (fun y=>∃(o:List Nat),y=iL o∧Dg o∧o.length=(wd a).length∧val o=a / 2):=fun z hz=>by
   unfold Zqy;have es:(o++(wd a).drop o.length).set i z=(o++[z])++(wd a).drop (o++[z]).length:=by rw[List.set_append_right _ _ (by omega),hol,Nat.sub_self,←ZNY (h:=hi),List.set_cons_zero];simp[hol]
   have eg:(wd a).getD i 0=(wd a)[i]:=by rw[ZNV,ZNW hi];rfl
   rw[eg]at hov;rw[ZoO,es];generalize ex:(wd a)[i]=x at*
   generalize ey:(wd a).getD (i+1) 0=y at*
   have hzB:z < Bw:=by simp only[Bw]at h1 hz⊢;omega
   refine⟨ZoS (by omega),ih (o++[z]) ⟨by simp[hol],hod.app (Zzr hzB), ?_⟩⟩;have hd1:z*2+x % 2=x+Bw*(y % 2):=by simp only[Bw]at h1 hz⊢;omega
   have q1:Bw ^ i*(z*2+x % 2)=Bw ^ i*(x+Bw*(y % 2)):=by rw[hd1]
   rw[ZOn,ZOn]at q1;rw[ZvN,hol,Zpi hi,ex,ZOz,Nat.add_mul,ZOo,ZOo];omega
  unfold Zs4 Zq8;dsimp only;rw[Zo1];refine⟨fun _=> ?_,fun h=>by have:=of_decide_eq_false h;omega⟩;have esh:shrK .u32 ((wd a)[i]:Int) 1=(((wd a)[i] / 2:Nat):Int):=ZAs 1 (by omega);rw[ZNU,gx,ZoO,ZoN,ZoK,ZoO,ZoO,ZoO,esh,ZyU,Zo4,Zo4,hlen,Zo1];refine⟨ZrC ⟨by omega,by omega⟩,by decide,ZrC ⟨by omega,by omega⟩,ZoS (by omega),fun h=> ?_,fun h=> ?_⟩
  ·have hi2:i+1 < (wd a).length:=by have:=of_decide_eq_true h;omega
   have gz:(iL ((o++(wd a).drop o.length).set i ((wd a)[i] / 2)))[i]? =some (((wd a)[i] / 2:Nat):Int):=by rw[ZAa (by rw[List.length_set];omega),List.getElem_set_self]
   have e1:(i:Int)+1=((i+1:Nat):Int):=rfl;have eg:(wd a).getD (i+1) 0=(wd a)[i+1]:=by rw[ZNV,ZNW hi2];rfl
   have eor:orK .u32 (((wd a)[i] / 2:Nat):Int) (shlK .u32 ((wd a)[i+1]:Int) 31)=(((wd a)[i] / 2+(wd a).getD (i+1) 0*2 ^ 31 % Bw:Nat):Int):=by rw[eg,show (31:Int)=((31:Nat):Int)from rfl,ZDF 31 (by omega),ZDf (by simp only[Bw]at h1;omega) (ZOm _ (by decide))];congr 1;exact ZCC (by decide) (by simp only[Bw]at h1;omega) ((Zvm a).get hi2)
   rw[e1,Zuk hi2,gz,ZoO,ZoN,ZoK,ZoO,ZoN,ZoK,ZoO,ZoO,eor,Zo4,List.length_set,hlen,ZyU,List.set_set];exact⟨ZrC ⟨by omega,by omega⟩,ZoS (by omega),by decide,ZrC ⟨by omega,by omega⟩,fin _ rfl⟩
  ·have hi2:¬i+1 < (wd a).length:=by have:=of_decide_eq_false h;omega
   refine fin _ ?_;rw[ZNV,ZNX (by omega)];simp
 ·rintro rec o ⟨hol,hod,hov⟩;unfold Zs4 Zq8;dsimp only;rw[Zo1];refine⟨fun h=>by have:=of_decide_eq_true h;omega,fun _=> ?_⟩;rw[ZoK];have eg:(wd a).getD (wd a).length 0=0:=by rw[ZNV,ZNX (by omega)];rfl
  rw[eg,Nat.zero_mod,ZOt,ZN7,ZN2,Zr8]at hov;refine⟨o,by rw[hol,List.drop_length,List.append_nil],hod,hol, ?_⟩;omega
 ·rintro y ⟨o,rfl,hd,hl,hv⟩;unfold ZtX;rw[ZAm hd (by omega),ZoN,ZoK,ZoK,hv]
end Go.Proofs
namespace Go.Proofs
open Go Eng
theorem ZDi {a:Nat} (h:a≠0):idx (iL (wd a)) 0=some ((a % Bw:Nat):Int):=by rw[ZAA h];rfl
theorem ZBH {a:Nat}:(andK .u32 ((a % Bw:Nat):Int) 1 == 0)=decide (a % 2=0):=by
 rw[show (1:Int)=((1:Nat):Int)from rfl,ZCO (ZOm _ (by decide)) (by decide),Nat.and_one_is_mod];have e:a % Bw % 2=a % 2:=by simp only[Bw];omega
 rw[e]
 by_cases h:a % 2=0
 ·rw[h];rfl
 ·rw[decide_eq_false h];exact beq_eq_false_iff_ne.2 (by omega)
theorem ZEk (P:Nat→Prop) {f:Nat→List Int×List Int×Int→Option (List Int×List Int×Int)} (y:List Int) (k:Int)
  (hf:∀n x,x≠0→(wd x).length≤100000→f (n+1) (iL (wd x),y,k)=if x % 2=0 then f n (iL (wd (x / 2)),y,k)else some (iL (wd x),y,k))
  (hP:∀x,P (2*x)→P x):∀(n x:Nat),x≠0→(wd x).length≤100000→P x→(∀m,x < 2 ^ m→m≤n→∃z,f n (iL (wd x),y,k)=some (iL (wd z),y,k)∧z % 2=1∧z≤x∧P z)
 |0,x,hx,hl,hp,m,hm,hmn=>by
  have:m=0:=by omega
  subst this;rw[ZOA]at hm;omega
 |n+1,x,hx,hl,hp,m,hm,hmn=>by
  rw[hf n x hx hl]
  by_cases h:x % 2=0
  ·rw[if_pos h];cases m with
   |zero=>rw[ZOA]at hm;omega
   |succ m=>
    obtain⟨z,h1,h2,h3,h4⟩:=ZEk P y k hf hP n (x / 2) (by omega) (ZOf (Ztl (ZOa x 2)) hl) (hP _ (by rwa [show 2*(x / 2)=x by omega])) m (by rw[ZOz]at hm;omega) (by omega);exact⟨z,h1,h2,by omega,h4⟩
  ·rw[if_neg h];exact⟨x,rfl,by omega,ZOe _,hp⟩
end Go.Proofs
namespace Go.Proofs
open Go Eng
theorem ZxV (x:Nat):x < 2 ^ (x.log2+1):=Nat.lt_log2_self
theorem ZzF {x n:Nat} (h:(wd x).length≤n):x.log2≤32*n:=by
 rcases Nat.eq_zero_or_pos x with rfl |hp
 ·rw[Nat.log2_zero];omega
 ·have h1:=Nat.log2_self_le (n:=x) (by omega);have h2:=ZOh (Zv3 x) (ZOx (n:=Bw) (by decide) h);rw[show Bw=2 ^ 32 from rfl,←ZOy]at h2;exact ZOd ((Nat.pow_lt_pow_iff_right (a:=2) (by decide)).1 (ZOg h1 h2))
theorem ZFP {x b:Nat} (hb:b % 2=1):ZOb (2*x) b=ZOb x b:=by
 have hc:Nat.Coprime 2 b:=by unfold Nat.Coprime;rw[Nat.gcd_rec,hb,Nat.gcd_one_left]
 exact Nat.Coprime.gcd_mul_left_cancel x hc
theorem ZMR (y:List Int) (k:Int) {x:Nat} (b:Nat) (hb:b % 2=1) (hx:x≠0) (hl:(wd x).length≤100000):∃z,Zpn big (iL (wd x)) y k=some (iL (wd z),y,k)∧z % 2=1∧z≤x∧ZOb z b=ZOb x b:=by
 have hm:=ZzF hl;refine ZEk (fun z=>ZOb z b=ZOb x b) (f:=fun n t=>Zpn n t.1 t.2.1 t.2.2) y k (fun n x hx hl=> ?_) (fun z h=>by rwa [ZFP hb]at h) big x hx hl rfl (x.log2+1) (ZxV x) (ZOd (ZAf (by omega)));show Zqg (Zpn n) (iL (wd x)) y k=_;unfold Zqg;rw[ZDi hx,ZOE,ZBH]
 by_cases h:x % 2=0
 ·rw[decide_eq_true h,cond_true,if_pos h,ZBl x hl,ZOE]
 ·rw[decide_eq_false h,cond_false,if_neg h]
end Go.Proofs
namespace Go.Proofs
open Go Eng
theorem ZHx (y:List Int) (k:Int) {x:Nat} (ho:x % 2=1):Zpn big (iL (wd x)) y k=some (iL (wd x),y,k):=by obtain⟨n,hn⟩:=ZI4 1 (by decide);rw[hn];show Zqg (Zpn n) (iL (wd x)) y k=_;unfold Zqg;rw[ZDi (by omega),ZOE,ZBH,decide_eq_false (by omega),cond_false]
theorem ZMQ (w:List Int) (k:Int) {y:Nat} (b:Nat) (hb:b % 2=1) (hy:y≠0) (hl:(wd y).length≤100000):∃z,Zpm big w (iL (wd y)) k=some (w,iL (wd z),k)∧z % 2=1∧(z≤y∧(y % 2=0→z≤y / 2))∧ZOb z b=ZOb y b:=by
 have hm:=ZzF hl;have step:∀n x,x≠0→(wd x).length≤100000→Zpm (n+1) w (iL (wd x)) k=if x % 2=0 then Zpm n w (iL (wd (x / 2))) k else some (w,iL (wd x),k):=fun n x hx hl=>by
  show Ztr (Zpm n) w (iL (wd x)) k=_;unfold Ztr;rw[ZDi hx,ZOE,ZBH]
  by_cases h:x % 2=0
  ·rw[decide_eq_true h,cond_true,if_pos h,ZBl x hl,ZOE]
  ·rw[decide_eq_false h,cond_false,if_neg h]
 have key:∀(n x m:Nat),x≠0→(wd x).length≤100000→x < 2 ^ m→m≤n→∃z,Zpm n w (iL (wd x)) k=some (w,iL (wd z),k)∧z % 2=1∧(z≤x∧(x % 2=0→z≤x / 2))∧ZOb z b=ZOb x b:=by
  intro n
  induction n with
  |zero=>
   intro x m hx hl hm hmn;have:m=0:=by omega
   subst this;rw[ZOA]at hm;omega
  |succ n ih=>
   intro x m hx hl hm hmn;rw[step n x hx hl]
   by_cases h:x % 2=0
   ·rw[if_pos h];cases m with
    |zero=>rw[ZOA]at hm;omega
    |succ m=>
     obtain⟨z,h1,h2,h3,h4⟩:=ih (x / 2) m (by omega) (ZOf (Ztl (ZOa x 2)) hl) (by rw[ZOz]at hm;omega) (by omega);refine⟨z,h1,h2,⟨by omega,fun _=>h3.1⟩, ?_⟩;rw[h4,←ZFP hb,show 2*(x / 2)=x by omega]
   ·rw[if_neg h];exact⟨x,rfl,by omega,⟨ZOe _,fun h'=>absurd h' h⟩,rfl⟩
 exact key big y (y.log2+1) hy hl (ZxV y) (ZOd (ZAf (by omega)))
end Go.Proofs
namespace Go.Proofs
open Go Eng
theorem ZGT (k:Int):∀(n x y p q:Nat),x % 2=1→(wd x).length≤100000→(wd y).length≤100000→x < 2 ^ p→y < 2 ^ q→p+q+y % 2 < n→Zo3 n (iL (wd x)) (iL (wd y)) k=some (iL (wd (ZOb x y)),k)
 |0,x,y,p,q,_,_,_,_,_,h=>absurd h (by omega)
 |n+1,x,y,p,q,ho,hxl,hyl,hp,hq,hn=>by
  show Zqh (Zo3 n) _ _ _=_;unfold Zqh;rw[Zo4]
  by_cases h0:y=0
  ·subst h0;rw[Zum,Nat.gcd_zero_right];rfl
  ·have hl:=ZrZ h0;obtain⟨z,hz,hz1,hz2,hz3⟩:=ZMQ (iL (wd x)) k x ho h0 hyl;rw[decide_eq_true (by omega),cond_true,ZHx _ _ ho,ZOE];dsimp only;unfold Zut;rw[hz,ZOE];dsimp only;have hzl:=ZOf (Ztl hz2.1) hyl;unfold Zus;rw[ZBN x z hxl hzl,ZOE];obtain⟨q',hq',hq2⟩:∃q',z < 2 ^ q'∧q'+1≤q+y % 2:=by
    by_cases he:y % 2=0
    ·cases q with
     |zero=>rw[ZOA]at hq;omega
     |succ q=>
      refine⟨q, ?_,by omega⟩;have:=hz2.2 he;rw[ZOz]at hq;omega
    ·exact⟨q,by omega,by omega⟩
   unfold Zsf;have eg:ZOb x y=ZOb x z:=by rw[ZOc x y,←hz3,ZOc]
   rw[eg]
   by_cases hc:z < x
   ·rw[ZxI hc,show decide ((1:Int) > 0)=true from rfl,cond_true,ZBt x z (by omega) hxl,ZOE,ZGT k n z (x - z) q' p hz1 hzl (ZOf (Ztl (Nat.sub_le x z)) hxl) hq' (by omega) (by omega),Nat.gcd_sub_self_right (by omega),ZOc]
   ·have hnc:decide (ZCa x z > 0)=false:=by refine decide_eq_false ?_;unfold ZCa;rw[if_neg hc];split<;>decide
    rw[hnc,cond_false,ZBt z x (by omega) hzl,ZOE,ZGT k n x (z - x) p q' ho hxl (ZOf (Ztl (Nat.sub_le z x)) hzl) hp (by omega) (by omega),Nat.gcd_sub_self_right (by omega)]
end Go.Proofs
namespace Go.Proofs
open Go Eng
theorem ZKx:∀(n x y j m:Nat),x≠0→y≠0→(wd x).length≤100000→(wd y).length≤100000→x < 2 ^ m→m≤n→j+m≤1000000000→
  ∃x' y' t:Nat,Zp1 n (iL (wd x)) (iL (wd y)) (j:Int)=some (iL (wd x'),iL (wd y'),((j+t:Nat):Int))∧(x' % 2=1∨y' % 2=1)∧ZOb x y=2 ^ t*ZOb x' y'∧x'≠0∧y'≠0∧x'≤x∧y'≤y∧t≤m
 |0,x,y,j,m,hx,hy,hxl,hyl,hm,hmn,hj=>by
  have:m=0:=by omega
  subst this;rw[ZOA]at hm;omega
 |n+1,x,y,j,m,hx,hy,hxl,hyl,hm,hmn,hj=>by
  show ∃x' y' t:Nat,Zts (Zp1 n) _ _ _=_∧_;unfold Zts Zsg;rw[ZDi hx,ZOE,ZBH]
  by_cases h1:x % 2=0
  ·rw[decide_eq_true h1,cond_true,ZDi hy,ZOE,ZBH]
   by_cases h2:y % 2=0
   ·cases m with
    |zero=>rw[ZOA]at hm;omega
    |succ m=>
     rw[decide_eq_true h2,cond_true,ZBl x hxl,ZOE,ZBl y hyl,ZOE,ZoS (by omega),chk_true];obtain⟨x',y',t,q1,q2,q3,q4,q5,q6,q7,q8⟩:=ZKx n (x / 2) (y / 2) (j+1) m (by omega) (by omega) (ZOf (Ztl (ZOa x 2)) hxl) (ZOf (Ztl (ZOa y 2)) hyl) (by rw[ZOz]at hm;omega) (by omega) (by omega);refine⟨x',y',t+1, ?_,q2, ?_,q4,q5,by omega,by omega,by omega⟩
     ·rw[show (j:Int)+1=((j+1:Nat):Int)from rfl,q1,show j+1+t=j+(t+1) by omega]
     ·have:=Nat.gcd_mul_left 2 (x / 2) (y / 2);rw[show 2*(x / 2)=x by omega,show 2*(y / 2)=y by omega]at this;rw[this,q3,ZOz,ZOp (2 ^ t) 2,ZOo]
   ·rw[decide_eq_false h2,cond_false];exact⟨x,y,0,rfl,.inr (by omega),by rw[ZOA,ZOu],hx,hy,ZOe _,ZOe _,Nat.zero_le _⟩
  ·rw[decide_eq_false h1,cond_false,cond_false];exact⟨x,y,0,rfl,.inl (by omega),by rw[ZOA,ZOu],hx,hy,ZOe _,ZOe _,Nat.zero_le _⟩
theorem ZKw:∀(k n a:Nat),k < n→k≤1000000000→(wd (2 ^ k*a)).length≤100000→Zp0 n (iL (wd a)) (k:Int)=some (iL (wd (2 ^ k*a)))
 |k,0,a,h,_,_=>absurd h (by omega)
 |0,n+1,a,_,_,_=>by show Zqf (Zp0 n) _ _=_;unfold Zqf;rw[ZOA,ZOu];rfl
 |k+1,n+1,a,h,hk,hl=>by
  show Zqf (Zp0 n) _ _=_;unfold Zqf;have e:2 ^ (k+1)*a=2 ^ k*(2*a+0):=by rw[ZOz,ZOo,ZN7]
  have ha:(wd a).length≤100000:=ZOf (Ztl (Nat.le_mul_of_pos_left a (ZOC _))) hl;rw[e]at hl;have ht:=ZD7 a 0 (by omega) ha;rw[Int.natCast_zero]at ht;rw[decide_eq_true (by omega),cond_true,ht,ZOE,show ((k+1:Nat):Int) - 1=(k:Int) by omega,ZoS (by omega),chk_true,ZKw k n (2*a+0) (by omega) (by omega) hl,e]
theorem ZFQ (a b:Nat) (ha0:a≠0) (hb0:b≠0) (ha:(wd a).length≤50000) (hb:(wd b).length≤50000):ZrQ (iL (wd a)) (iL (wd b))=some (iL (wd (ZOb a b))):=by
 have hla:=ZzF ha;have hlb:=ZzF hb;obtain⟨x,y,t,q1,q2,q3,q4,q5,q6,q7,q8⟩:=ZKx big a b 0 (a.log2+1) ha0 hb0 (by omega) (by omega) (ZxV a) (ZOd (ZAf (by omega))) (by omega);rw[Int.natCast_zero,ZOD]at q1;have hxl:=ZOf (Ztl q6) ha;have hyl:=ZOf (Ztl q7) hb;have hlx:=ZzF hxl;have hly:=ZzF hyl;have main:Zo3 big (iL (wd x)) (iL (wd y)) (t:Int)=some (iL (wd (ZOb x y)),(t:Int)):=by
  by_cases hx:x % 2=1
  ·exact ZGT _ big x y _ _ hx (by omega) (by omega) (ZxV x) (ZxV y) (ZAf (by omega))
  ·have hy:y % 2=1:=by omega
   obtain⟨z,z1,z2,z3,z4⟩:=ZMR (iL (wd y)) (t:Int) y hy q4 (by omega);have hzl:=ZOf (Ztl z3) hxl;have hlz:=ZzF hzl;have e:=ZGT (t:Int) big z y _ _ z2 (by omega) (by omega) (ZxV z) (ZxV y) (ZAf (by omega));rw[z4]at e;rw[←e];obtain⟨n,hn⟩:∃n,big=n+1:=⟨36893488147419103231,by rw[big_eq]⟩;have s1:∀u,Zo3 big (iL (wd u)) (iL (wd y)) (t:Int)=Zqh (Zo3 n) (iL (wd u)) (iL (wd y)) (t:Int):=fun u=>by rw[hn];rfl
   rw[s1,s1];unfold Zqh;have hl:=ZrZ q5;rw[Zo4,decide_eq_true (by omega),cond_true,cond_true,z1,ZHx _ _ z2]
 have hg:(wd (2 ^ t*ZOb x y)).length≤100000:=by rw[←q3];exact ZOf (ZFb (by omega) hb) (by omega)
 unfold ZrQ;rw[q1,ZOE];dsimp only;unfold Zuu Zur Zuq;rw[main,ZOE];dsimp only;rw[ZKw t big _ (ZAf (by omega)) (by omega) hg,ZOE,q3]
end Go.Proofs
namespace Go.Proofs
open Go Eng
theorem ZF4 {l:List Nat} {i:Nat} (hd:Dg l) (h:i / 32 < l.length):l[i / 32] / 2 ^ (i % 32) % 2=val l / 2 ^ i % 2:=by
 have e:=ZyC h;have hlt:=ZwK (hd.take (i / 32));rw[ZN0,ZOj (by omega)]at hlt;have hi:2 ^ i=Bw ^ (i / 32)*2 ^ (i % 32):=by rw[show Bw=2 ^ 32 from rfl,←ZOy,←ZOw,ZN8]
 have hr:i % 32 < 32:=ZOm _ (by decide);have hB:Bw=2 ^ (i % 32)*(2*2 ^ (31 - i % 32)):=by rw[show 2*2 ^ (31 - i % 32)=2 ^ (31 - i % 32+1) by rw[ZOz,ZOp],←ZOw,show i % 32+(31 - i % 32+1)=32 by omega]
 have e1:val l / Bw ^ (i / 32)=l[i / 32]+Bw*val (l.drop (i / 32+1)):=by rw[e,ZN5 _ _ (Nat.pow_pos (by decide)),ZN9 hlt,ZOD]
 rw[hi,←Nat.div_div_eq_div_mul,e1];generalize l[i / 32]=x;generalize val (l.drop (i / 32+1))=y;have e2:(x+Bw*y) / 2 ^ (i % 32)=x / 2 ^ (i % 32)+2*(2 ^ (31 - i % 32)*y):=by rw[hB,ZOo,ZN5 _ _ (ZOC _),ZOo]
 rw[e2,ZN6]
end Go.Proofs
namespace Go.Proofs
open Go Eng
theorem ZHj (i:Nat):Int.tdiv (i:Int) 32=((i / 32:Nat):Int):=by rw[Int.tdiv_eq_ediv_of_nonneg (by omega)];norm_cast
theorem ZHi (i:Nat):IntKind.wrap .u64 (Int.tmod (i:Int) 32)=((i % 32:Nat):Int):=by rw[Int.tmod_eq_emod_of_nonneg (by omega),IntKind.wrap_u64];omega
theorem ZK1 {l:List Nat} {i:Nat} (hd:Dg l) (h:i / 32 < l.length) (hi:i≤1000000000):ZtP (iL l) (i:Int)=some ((val l / 2 ^ i % 2:Nat):Int):=by have h1:=hd.get h;unfold ZtP;rw[ZHj,ZHi,decide_eq_true (by decide),chk_true,ZoS (by omega),chk_true,Zuk h,ZOE,chk_true,decide_eq_true (by omega),chk_true,ZAs _ (by omega),show (1:Int)=((1:Nat):Int)from rfl,ZCO (ZOg (ZOa _ _) h1) (by decide),Nat.and_one_is_mod,ZF4 hd h]
end Go.Proofs
namespace Go.Proofs
open Go Eng
theorem ZHs {x j:Nat} (h:x / 2 ^ j % 2=0):x|||2 ^ j=x+2 ^ j:=by
 have hlo:=ZOm x (ZOC j);have e:x=2 ^ (j+1)*(x / 2 ^ j / 2)+x % 2 ^ j:=by
  have h1:=ZN8 x (2 ^ j);have h2:2*(x / 2 ^ j / 2)=x / 2 ^ j:=by omega
  rw[ZOz,ZOo,h2,h1]
 have a1:=ZOB (i:=j+1) (b:=x % 2 ^ j) (by rw[ZOz];omega) (x / 2 ^ j / 2);have a2:=ZOB (i:=j) (b:=x % 2 ^ j) hlo 1;have a3:=ZOB (i:=j+1) (b:=2 ^ j*1+x % 2 ^ j) (by rw[ZOz];omega) (x / 2 ^ j / 2);rw[Nat.mul_one]at a2 a3;generalize x / 2 ^ j / 2=t at*
 generalize x % 2 ^ j=lo at*
 rw[e,a1,Nat.or_assoc,Nat.or_comm lo,←a2,←a3,←a1];omega
theorem ZIq {j:Nat} (hj:j≤31):shlK .u32 1 (j:Int)=((2 ^ j:Nat):Int):=by have:=ZDF (a:=1) j (by omega);rw[ZOu,ZOl (ZOg (ZOx (by decide) hj) (by decide))]at this;exact this
theorem ZFM {A k:Nat}:A / 2 ^ k=2*(A / 2 ^ (k+1))+A / 2 ^ k % 2:=by rw[ZOz,←Nat.div_div_eq_div_mul];omega
theorem ZFS (a b:Nat) (hb0:b≠0) (ha:(wd a).length≤50000) (hb:(wd b).length≤50000):ZrR (iL (wd a)) (iL (wd b))=some (iL (wd (a / b)),iL (wd (a % b))):=by
 have hlen:∀k,(wd (2*(a / 2 ^ (k+1) % b)+a / 2 ^ k % 2)).length≤50001:=fun k=>by
  have h1:=ZOm (a / 2 ^ (k+1)) (ZOv hb0);have h2:2*(a / 2 ^ (k+1) % b)+a / 2 ^ k % 2≤b+b:=by omega
  exact ZOf (Ztl h2) (ZD5 hb hb)
 refine Zq0 ?_;unfold ZrR;rw[ZoO,ZoO,ZoO,ZoN,Zo4,ZNU,ZBF];refine⟨ZzE (by omega),ZoS (by omega),ZoS (by omega), ?_⟩;have e0:(32*((wd a).length:Int)) - 1=((32*(wd a).length:Nat):Int) - 1:=by omega
 rw[e0,show ([]:List Int)=iL (wd 0) by rw[Zum];rfl];refine ZoW (ZAU Zyr (32*(wd a).length) (by omega) (fun i (q:Nat×List Nat)=>(iL (wd a),iL (wd b),iL (wd q.1),i,iL q.2))
  (fun k q=>q.1=a / 2 ^ k % b∧Dg q.2∧q.2.length=(wd a).length∧val q.2=a / 2 ^ k / b*2 ^ k)
  (Q:=fun y=>∃o:List Nat,y=(iL (wd (a % b)),iL o)∧Dg o∧o.length=(wd a).length∧val o=a / b) (0,List.replicate (wd a).length 0) ?_ ?_ ?_) ?_
 ·have h0:a / 2 ^ (32*(wd a).length)=0:=by refine ZN9 ?_;rw[ZOy];exact Zv3 a
  rw[h0,Nat.zero_mod,Nat.zero_div,Nat.zero_mul];exact⟨rfl,ZFU _,List.length_replicate,ZDA _⟩
 ·rintro rec k ⟨r,q⟩ hk ⟨hr,hd,hl,hv⟩ ih;dsimp only at hr hd hl hv;have hk32:k / 32 < (wd a).length:=by omega
  unfold Ztt Zri;dsimp only;have hbit:=ZK1 (i:=k) (Zvm a) hk32 (by omega);rw[Zr8]at hbit;have h2:a / 2 ^ k % 2≤1:=by omega
  have htw:=ZD7 r (a / 2 ^ k % 2) h2 (by
   rw[hr];exact ZOf (Ztl (ZOd (ZOm _ (ZOv hb0)))) (by omega))
  have hlk:=hlen k;rw[←hr]at hlk;have hx:=ZFM (A:=a) (k:=k);have hdm:=ZN8 (a / 2 ^ (k+1)) b;rw[←hr]at hdm;have hrlt:r < b:=by rw[hr];exact ZOm _ (ZOv hb0)
  rw[Zo1];refine⟨fun _=> ?_,fun h=>by have:=of_decide_eq_false h;omega⟩;rw[hbit,ZoN,ZoK,htw,ZoN,ZoK,ZBN _ _ (by omega) (by omega),ZoN,ZoK,Zo1];have nx:∀r' q',(r'=a / 2 ^ k % b∧Dg q'∧q'.length=(wd a).length∧val q'=a / 2 ^ k / b*2 ^ k)→wp (ZqK (fun a b r_ i q=>rec (a,b,r_,i,q)) (iL (wd a)) (iL (wd b)) (iL (wd r')) (k:Int) (iL q')) (fun y=>∃o:List Nat,y=(iL (wd (a % b)),iL o)∧Dg o∧o.length=(wd a).length∧val o=a / b):=fun r' q' h=>by unfold ZqK;rw[ZoO];exact⟨ZoS (by omega),ih (r',q') h⟩
  generalize eX:a / 2 ^ (k+1)=X at*
  generalize ed:a / 2 ^ k % 2=d at*
  refine⟨fun hc=> ?_,fun hc=> ?_⟩
  ·have hge:b≤2*r+d:=by
    rcases ZOi (2*r+d) b with h |h
    ·rw[ZxU h]at hc;exact absurd (of_decide_eq_true hc) (by decide)
    ·exact h
   have hq:k / 32 < q.length:=by omega
   have hz:q[k / 32] / 2 ^ (k % 32) % 2=0:=by rw[ZF4 hd hq,hv,ZOz,←ZOo,Nat.mul_right_comm,Nat.mul_div_cancel _ (ZOC k)];omega
   have hx32:=hd.get hq;rw[ZBt _ _ hge (by omega),ZoN,ZoK,ZHj,ZHi,ZNU,ZoO,ZoO,ZoO,ZAa hq,ZoN,ZoK,ZoO,ZoO,ZoO,ZIq (by omega),ZDf hx32 (ZOg (ZOx (by decide) (show k % 32≤31 by omega)) (by decide)),ZHs hz,ZyU,Zo4];refine⟨by decide,ZoS (by omega),ZrC ⟨by omega,by omega⟩,by decide,decide_eq_true (by omega),ZrC ⟨by omega,by omega⟩, ?_⟩;have hsum:q[k / 32]+2 ^ (k % 32) < Bw:=by
    have hB:Bw=2 ^ (k % 32)*(2*2 ^ (31 - k % 32)):=by rw[show 2*2 ^ (31 - k % 32)=2 ^ (31 - k % 32+1) by rw[ZOz,ZOp],←ZOw,show k % 32+(31 - k % 32+1)=32 by omega]
    rw[←ZHs hz];exact Nat.or_lt_two_pow (n:=32) hx32 (ZOg (ZOx (by decide) (show k % 32≤31 by omega)) (by decide))
   refine nx (2*r+d - b) (q.set (k / 32) (q[k / 32]+2 ^ (k % 32))) ⟨?_,hd.set _ hsum,by rw[List.length_set,hl], ?_⟩
   ·rw[hx,show 2*X+d=(2*r+d - b)+b*(2*(X / b)+1) by rw[ZOn,ZOr];omega,ZN6,ZOl (by omega)]
   ·have hvs:=ZyZ q (k / 32) (q[k / 32]+2 ^ (k % 32)) hq;have hp:Bw ^ (k / 32)*2 ^ (k % 32)=2 ^ k:=by rw[show Bw=2 ^ 32 from rfl,←ZOy,←ZOw,ZN8]
    rw[ZOn,hp]at hvs;have e1:(2*X+d) / b=2*(X / b)+1:=by rw[show 2*X+d=(2*r+d - b)+b*(2*(X / b)+1) by rw[ZOn,ZOr];omega,ZN5 _ _ (ZOv hb0),ZN9 (by omega),ZOD]
    rw[hx,e1];rw[hv,ZOz]at hvs;have e2:X / b*(2 ^ k*2)=2*(X / b)*2 ^ k:=by rw[ZOp (2 ^ k) 2,←ZOo,ZOp (X / b) 2]
    rw[Nat.add_mul,ZOu];omega
  ·have hlt:2*r+d < b:=by
    rcases ZOi (2*r+d) b with h |h
    ·exact h
    ·rcases ZOi b (2*r+d)with h' |h'
     ·rw[ZxI h']at hc;exact absurd (of_decide_eq_false hc) (by decide)
     ·rw[show 2*r+d=b by omega,Zww]at hc;exact absurd (of_decide_eq_false hc) (by decide)
   have e0:2*X+d=(2*r+d)+b*(2*(X / b)):=by rw[ZOr];omega
   refine nx (2*r+d) q ⟨?_,hd,hl, ?_⟩
   ·rw[hx,e0,ZN6,ZOl hlt]
   ·rw[hx,e0,ZN5 _ _ (ZOv hb0),ZN9 hlt,ZOD,hv,ZOz,ZOp (2 ^ k) 2,←ZOo,ZOp (X / b) 2]
 ·rintro rec ⟨r,q⟩ ⟨hr,hd,hl,hv⟩;dsimp only at hr hd hl hv;rw[ZOA,Nat.div_one]at hr hv;unfold Ztt Zri;dsimp only;rw[Zo1];refine⟨fun h=>by have:=of_decide_eq_true h;omega,fun _=> ?_⟩;rw[ZoK,hr];exact⟨q,rfl,hd,hl,by rw[hv,Nat.mul_one]⟩
 ·rintro y ⟨o,rfl,hd,hl,hv⟩;dsimp only;unfold Zuv;rw[ZAm hd (by omega),ZoN,ZoK,ZoK,hv]
end Go.Proofs
namespace Go.Proofs
open Go Eng
theorem ZCe (n:Int):Rat.divInt n 1=(n:Rat):=by have h:=Rat.num_divInt_den (n:Rat);rw[Rat.num_intCast,Rat.den_intCast]at h;exact h
end Go.Proofs
namespace Go.Proofs
open Go Eng
theorem ZAv (z:Int) (h1: -9223372036854775808≤z) (h2:z≤9223372036854775807):ZpR z=some (bg z):=by
 have key:∀(b:Bool) (n:Nat),n < 18446744073709551616→Zo9 b [IntKind.wrap .u32 (n:Int),IntKind.wrap .u32 (shrK .u64 (n:Int) 32)]=some (bg (if b then -(n:Int)else n)):=fun b n h=>by
  have e:([IntKind.wrap .u32 (n:Int),IntKind.wrap .u32 (shrK .u64 (n:Int) 32)]:List Int)=iL [n % 4294967296,n / 4294967296]:=by rw[show (32:Int)=((32:Nat):Int)from rfl,Zy1 32 (by omega),ZuO,Zvl (by omega)];rfl
  have hd:Dg [n % 4294967296,n / 4294967296]:=fun d hd=>by
   simp only[List.mem_cons,List.mem_singleton,ZN1,or_false]at hd;rcases hd with rfl |rfl
   ·exact ZOm _ (by decide)
   ·simp only[Bw];omega
  have hv:val [n % 4294967296,n / 4294967296]=n:=by simp only[val,ZOt,ZN7];exact ZOk n Bw
  rw[e,ZAg b hd (by simp),hv]
 unfold ZpR ZqW;have h32:decide (0≤(32:Int))=true:=rfl
 by_cases hz:z < 0
 ·have e:IntKind.wrap .u64 (0 - IntKind.wrap .u64 z)=((z.natAbs:Nat):Int):=by rw[IntKind.wrap_u64,IntKind.wrap_u64];omega
  rw[decide_eq_true hz,cond_true,h32,chk_true,e,key true _ (by omega),ZOE,if_pos rfl,show -((z.natAbs:Nat):Int)=z by omega]
 ·have e:IntKind.wrap .u64 z=((z.natAbs:Nat):Int):=by rw[IntKind.wrap_u64];omega
  rw[decide_eq_false hz,cond_false,h32,chk_true,e,key false _ (by omega),ZOE,if_neg (by decide),show ((z.natAbs:Nat):Int)=z by omega]
theorem ZI5:bg 0=⟨false,[]⟩:=by unfold bg;rw[show (0:Int).natAbs=0 from rfl,Zum];rfl
theorem ZEM (x y:Int) (hy:y≠0) (hx1:Wl 50000 x) (hy1:Wl 50000 y):Zse (bg x) (bg y)=some (fOf (Rat.divInt x y)):=by
 unfold Zse
 by_cases hx:x=0
 ·subst hx;rw[Rat.zero_divInt,ZpZ,Zo4,show (0:Int).natAbs=0 from rfl,Zum,ZAv 1 (by decide) (by decide)];show some (ZoF.mk ⟨false,[]⟩ (bg 1))=some (fOf 0);rw[←ZI5];rfl
 ·have hx0:0 < x.natAbs:=by omega
  have hy0:0 < y.natAbs:=by omega
  have hg0:ZOb x.natAbs y.natAbs≠0:=fun e=>by have:=Nat.gcd_pos_of_pos_right x.natAbs hy0;omega
  have hgl:=ZFb (x:=x.natAbs) hy0 hy1;have hxl:=ZD4 (ZOb x.natAbs y.natAbs) hx1;have hyl:=ZD4 (ZOb x.natAbs y.natAbs) hy1;have h:=Zzo x y hy hx1 hy1;unfold ZqC at h;rw[ZpZ,ZpZ,ZBK _ _ hx1 hy1,ZOE,ZA0 _ _ hg0 hx1 hgl,ZOE]at h;dsimp only at h;rw[ZA0 _ _ hg0 hy1 hgl,ZOE]at h;dsimp only at h;rw[Zvn _ _ (by omega),ZOE,Zvn _ _ (by omega),ZOE]at h;have hlen:=ZrZ (n:=x.natAbs) (by omega);rw[←h,ZpZ,ZpZ,Zo4,beq_eq_false_iff_ne.2 (by omega),cond_false,ZFQ _ _ (by omega) (by omega) hx1 hy1,ZOE,ZFS _ _ hg0 hx1 hgl,ZOE];dsimp only;rw[ZFS _ _ hg0 hy1 hgl,ZOE];dsimp only;rw[ZAg _ (Zvm _) (by omega),ZOE,ZAg _ (Zvm _) (by omega),ZOE,Zr8,Zr8]
theorem ZGO (x y:Int) (hy:y≠0) (hx1:Wl 256 x) (hy1:Wl 256 y):Zs6 (bg x) (bg y)=some (fOf (Rat.divInt x y),0):=by unfold Zs6 ZrF;rw[ZxW,ZyB x hx1,ZOE,ZNN,cond_false,ZxW,ZyB y hy1,ZOE,ZNN,cond_false,ZAd hy,cond_false,ZEM x y hy (ZOf hx1 (by decide)) (ZOf hy1 (by decide)),ZOE]
theorem ZKr (x y:Int) (hy:y≠0) (h1: -9223372036854775808≤x) (h2:x≤9223372036854775807) (h3: -9223372036854775808≤y) (h4:y≤9223372036854775807):Zt5 x y=some (fOf (Rat.divInt x y),0):=by unfold Zt5;rw[ZAv x h1 h2,ZOE,ZAv y h3 h4,ZOE,ZGO x y hy (ZMd h1 h2) (ZMd h3 h4),ZOE]
theorem ZFC (x y:Int) (hy:y≠0) (h1: -9223372036854775808≤x) (h2:x≤9223372036854775807) (h3: -9223372036854775808≤y) (h4:y≤9223372036854775807):Zsc x y=some (fOf (Rat.divInt x y)):=by unfold Zsc;rw[ZwX];unfold Zu6;rw[ZKr x y hy h1 h2 h3 h4,ZOE]
theorem ZEn (x:Int) (h1: -9223372036854775808≤x) (h2:x≤9223372036854775807):ZpG x=some (fOf (x:Rat)):=by unfold ZpG;rw[ZwX];unfold ZvF;rw[ZFC x 1 (by decide) h1 h2 (by decide) (by decide),ZOE,ZCe]
theorem ZJ8 {a b:Nat} (h:wd a=wd b):a=b:=by rw[←Zr8 a,←Zr8 b,h]
theorem ZB7 (x y:Int) (hx:Wl 100000 x) (hy:Wl 100000 y):Zqw (bg x) (bg y)=some (decide (x=y)):=by
 unfold Wl at hx hy;refine Zq0 ?_;unfold Zqw ZqU;rw[Zya,Zya,ZpZ,ZpZ,Zo4,Zo4]
 by_cases hs:decide (x < 0)=decide (y < 0)
 ·rw[hs,beq_self_eq_true,ZNN,cond_false]
  by_cases hl:(wd x.natAbs).length=(wd y.natAbs).length
  ·rw[hl,bne_self_eq_false,cond_false,ZoN];refine ZoW (Zsz ZxN (wd y.natAbs).length (by omega) (fun i (_:Unit)=>(iL (wd x.natAbs),((wd y.natAbs).length:Int),i,bg y)) (fun i _=>(wd x.natAbs).take i=(wd y.natAbs).take i)
    (Q:=fun r=>r= .ret false∧wd x.natAbs≠wd y.natAbs∨r= .brk ()∧wd x.natAbs=wd y.natAbs) () (by rw[List.take_zero,List.take_zero]) ?_ ?_) ?_
   ·rintro rec i ⟨⟩ hi hP ih;have hi2:i < (wd x.natAbs).length:=by omega
    unfold Zr3 Zqr;dsimp only;rw[Zo1];refine⟨fun _=> ?_,fun h=>by have:=of_decide_eq_false h;omega⟩;rw[ZpZ,Zuk hi2,ZoN,ZoK,Zuk hi,ZoN,ZoK,Zo1];refine⟨fun h=> ?_,fun h=> ?_⟩
    ·rw[ZoK];refine .inl ⟨rfl,fun e=> ?_⟩;have h1:(wd y.natAbs)[i]=(wd x.natAbs)[i]:=by simp only[e]
     rw[h1,bne_self_eq_false]at h;exact absurd h (by decide)
    ·rw[ZoO];refine⟨ZoS (by omega),ih () ?_⟩;rw[bne_eq_false_iff_eq]at h;have h1:(wd y.natAbs)[i]=(wd x.natAbs)[i]:=by omega
     rw[ZN4 hi2,ZN4 hi,hP,h1]
   ·rintro rec ⟨⟩ hP;unfold Zr3 Zqr;dsimp only;rw[Zo1];refine⟨fun h=>by have:=of_decide_eq_true h;omega,fun _=> ?_⟩;rw[ZoK];rw[ZN2,←hl,ZN2]at hP;exact .inr ⟨rfl,hP⟩
   ·rintro r (⟨rfl,h⟩ |⟨rfl,h⟩)
    ·exact ZoK.2 (decide_eq_false (fun e=>h (by rw[e]))).symm
    ·unfold ZsN;have h1:=ZJ8 h;refine ZoK.2 (decide_eq_true ?_).symm
     by_cases hy0:y < 0
     ·have hx0:x < 0:=by rw[decide_eq_true hy0]at hs;exact of_decide_eq_true hs
      omega
     ·have hx0:¬x < 0:=by rw[decide_eq_false hy0]at hs;exact of_decide_eq_false hs
      omega
  ·have:(((wd x.natAbs).length:Int) != ((wd y.natAbs).length:Int))=true:=by rw[bne_iff_ne];omega
   rw[this,cond_true,ZoK];exact(decide_eq_false (fun e=>hl (by rw[e]))).symm
 ·rw[beq_eq_false_iff_ne.2 hs,Bool.not_false,cond_true,cond_true,ZoK];exact(decide_eq_false (fun e=>hs (by rw[e]))).symm
theorem ZFu (p q:Rat) (hp:Wq 256 p) (hq:Wq 256 q):Zs2 (fOf p) (fOf q)=some (decide (p=q)):=by
 have m:∀{x:Int},Wl 256 x→Wl 100000 x:=fun h=>ZOf h (by decide)
 unfold Zs2 ZrE fOf;dsimp only;rw[ZB7 _ _ (m hp.1) (m hq.1),ZOE]
 by_cases h1:p.num=q.num
 ·rw[decide_eq_true h1,cond_true,ZB7 _ _ (m hp.2) (m hq.2),ZOE];congr 1
  by_cases h2:p.den=q.den
  ·rw[decide_eq_true (by omega),decide_eq_true (Rat.ext h1 h2)]
  ·rw[decide_eq_false (by omega),decide_eq_false (fun e=>h2 (by rw[e]))]
 ·rw[decide_eq_false h1,cond_false,decide_eq_false (fun e=>h1 (by rw[e]))]
end Go.Proofs
namespace Go.Proofs
open Go Eng
theorem ZIE (a b:Nat) (ha:(wd a).length≤100000) (hb:(wd b).length≤100000):ZtO (iL (wd a)) (iL (wd b))=some (iL (wd (a*b))):=by
 refine Zq0 ?_;unfold ZtO;rw[Zo4,Zo4,ZoO,ZoO,ZoN,←ZNS,ZNU,ZBF];refine⟨ZoS (by omega),ZzE (by omega), ?_⟩;generalize hm:(wd a).length=m at ha⊢
 generalize hn:(wd b).length=n at hb⊢
 refine ZoW (Zsz Zyq m (by omega) (fun i (s:List Nat)=>(iL (wd a),iL (wd b),i,iL s)) (fun i s=>s.length=m+n∧Dg s∧val s=val ((wd a).take i)*b∧∀k,i+n≤k→k < m+n→s[k]? =some 0)
  (Q:=fun y=>∃(o:List Nat),y=iL o∧Dg o∧o.length=m+n∧val o=a*b) (List.replicate (m+n) 0) ⟨by simp,ZFU _,by rw[ZDA];simp[val],fun k _ h=>by rw[List.getElem?_replicate,if_pos h]⟩ ?_ ?_) ?_
 ·rintro rec i s hlt ⟨hl,hd,hv,hz⟩ ih;have hi:i < (wd a).length:=by omega
  have h1:=(Zvm a).get hi;unfold Ztq Zrh;dsimp only;rw[Zo1,Zo4,hm];refine⟨fun _=> ?_,fun h=>by simp only[decide_eq_false_iff_not]at h;omega⟩;rw[ZoN];generalize ex:(wd a)[i]=x at h1;refine ZoW (Zsz Zyp n (by omega) (fun j (t:Nat×List Nat)=>(iL (wd a),iL (wd b),(i:Int),(t.1:Int),j,iL t.2)) (fun j t=>t.1 < Bw∧t.2.length=m+n∧Dg t.2∧val t.2+Bw ^ (i+j)*t.1=val s+Bw ^ i*(x*val ((wd b).take j))∧∀k,i+n≤k→k < m+n→t.2[k]? =some 0)
   (Q:=fun y=>∃(c:Nat) (o:List Nat),y=(iL (wd a),iL (wd b),(i:Int),(c:Int),iL o)∧c < Bw∧o.length=m+n∧Dg o∧val o+Bw ^ (i+n)*c=val s+Bw ^ i*(x*b)∧∀k,i+n≤k→k < m+n→o[k]? =some 0) (0,s) ⟨by simp only[Bw];omega,hl,hd,by simp[val],hz⟩ ?_ ?_) ?_
  ·rintro rec2 j ⟨c,o⟩ hj ⟨hc,hol,hod,hov,hoz⟩ ih2;dsimp only at hc hol hod hov hoz ih2;have hj2:j < (wd b).length:=by omega
   have h2:=(Zvm b).get hj2;have hij:i+j < o.length:=by omega
   have h3:=hod.get hij;unfold Ztp Zrg;dsimp only;rw[Zo1,Zo4,hn];refine⟨fun _=> ?_,fun h=>by simp only[decide_eq_false_iff_not]at h;omega⟩;rw[Zuk hi,ex,ZoN,ZoK,Zuk hj2,ZoN,ZoK,ZoO,ZoO,←ZNS,ZNU,ZAa hij,ZoN,ZoK,ZoO,ZoO,ZoO,ZoO];generalize ey:(wd b)[j]=y at h2;generalize ee:o[i+j]=e at h3;rw[ZKu hc h1 h2 h3,ZuO,show (32:Int)=((32:Nat):Int)from rfl,Zy1 32 (by omega),Zo4,ZyU];refine⟨ZoS (by omega),ZrC ⟨by omega,by omega⟩,ZoS (by omega),ZrC ⟨by omega,by omega⟩,by decide,ZoS (by omega), ?_⟩;refine ih2 ((c+x*y+e) / Bw,o.set (i+j) ((c+x*y+e) % Bw)) ⟨ZHv hc h1 h2 h3,by simp[hol],hod.set _ (ZOm _ (by decide)), ?_,fun k hk hk2=> ?_⟩
   ·dsimp only;have q1:=ZyZ o (i+j) ((c+x*y+e) % Bw) hij;rw[ee]at q1;have q2:Bw ^ (i+j)*((c+x*y+e) % Bw+Bw*((c+x*y+e) / Bw))=Bw ^ (i+j)*(c+x*y+e):=by rw[ZOk]
    rw[ZOn,ZOn,ZOn]at q2;rw[←Nat.add_assoc,ZOz,ZOo,Zpi hj2,ey,ZOn,ZOn];have q3:Bw ^ i*(x*(Bw ^ j*y))=Bw ^ (i+j)*(x*y):=by rw[ZOw,ZOo,ZOr x]
    omega
   ·dsimp only;rw[List.getElem?_set_ne (by omega)];exact hoz k hk hk2
  ·rintro rec2 ⟨c,o⟩ ⟨hc,hol,hod,hov,hoz⟩;dsimp only at hc hol hod hov hoz;unfold Ztp Zrg;dsimp only;rw[Zo1,Zo4,hn];refine⟨fun h=>by have:=of_decide_eq_true h;omega,fun _=> ?_⟩;rw[ZoK];rw[ZN3 (by omega),Zr8]at hov;exact⟨c,o,rfl,hc,hol,hod,hov,hoz⟩
  ·rintro y ⟨c,o,rfl,hc,hol,hod,hov,hoz⟩;dsimp only;unfold Zup;rw[Zo4,hn,ZoO,ZoO,ZoO,←ZNS,ZNU,Zvl hc,ZyU,Zo4];refine⟨ZoS (by omega),ZrC ⟨by omega,by omega⟩,ZoS (by omega), ?_⟩;have hp:i+n < o.length:=by omega
   have h0:o[i+n]=0:=by have:=hoz (i+n) (ZOe _) (by omega);rw[ZNW hp]at this;exact Option.some.inj this
   have q1:=ZyZ o (i+n) c hp;rw[h0,ZOt,ZN7]at q1;refine ih (o.set (i+n) c) ⟨by simp[hol],hod.set _ hc, ?_,fun k hk hk2=> ?_⟩
   ·rw[q1,hov,hv,Zpi hi,ex,Nat.add_mul,ZOo]
   ·rw[List.getElem?_set_ne (by omega)];exact hoz k (by omega) hk2
 ·rintro rec s ⟨hl,hd,hv,hz⟩;unfold Ztq Zrh;dsimp only;rw[Zo1,Zo4,hm];refine⟨fun h=>by have:=of_decide_eq_true h;omega,fun _=> ?_⟩;rw[ZoK];rw[ZN3 (by omega),Zr8]at hv;exact⟨s,rfl,hd,hl,hv⟩
 ·rintro y ⟨o,rfl,hd,hl,hv⟩;unfold Zuo;rw[ZAm hd (by omega),ZoN,ZoK,ZoK,hv]
theorem ZJb (a b:Nat) (ha:(wd a).length≤100000) (hb:(wd b).length≤100000):∃o:List Nat,ZrS (iL (wd a)) (iL (wd b))=some (iL o)∧Dg o∧o.length≤100001∧val o=a+b:=by
 obtain⟨m,hma,hmb,hm2,hmx⟩:∃m:Nat,(wd a).length≤m∧(wd b).length≤m∧m≤100000∧∀i,i < m→i < (wd a).length∨i < (wd b).length:=by
  by_cases h:(wd a).length≤(wd b).length
  ·exact⟨(wd b).length,h,ZOe _,hb,fun i hi=> .inr hi⟩
  ·exact⟨(wd a).length,ZOe _,by omega,ha,fun i hi=> .inl hi⟩
 suffices h:wp (ZrS (iL (wd a)) (iL (wd b))) (fun x=>∃o:List Nat,x=iL o∧Dg o∧o.length≤100001∧val o=a+b) by obtain⟨x,hx,o,rfl,h⟩:=h;exact⟨o,hx,h⟩
 unfold ZrS;rw[ZoN];refine ZoW (Zsz Zyt m (by omega) (fun i (s:Nat×List Nat)=>(iL (wd a),iL (wd b),(s.1:Int),i,iL s.2)) (fun i s=>s.1≤1∧s.2.length=i∧Dg s.2∧val s.2+Bw ^ i*s.1=val ((wd a).take i)+val ((wd b).take i))
  (Q:=fun y=>∃(c:Nat) (o:List Nat),y=((c:Int),iL o)∧c≤1∧Dg o∧o.length=m∧val o+Bw ^ m*c=a+b) (0,[]) ⟨by simp,rfl,ZAc,by simp[val]⟩ ?_ ?_) ?_
 ·rintro rec i ⟨c,o⟩ hlt ⟨hc,hl,hd,hv⟩ ih;dsimp only at hc hl hd hv ih;have h1:=ZAu (Zvm a) i;have h2:=ZAu (Zvm b) i;have j3:∀x y:Nat,(wd a).getD i 0=x→(wd b).getD i 0=y→wp (ZqL (fun a b c i out=>rec (a,b,c,i,out)) (iL (wd a)) (iL (wd b)) ((c+x+y:Nat):Int) (i:Int) (iL o)) (fun y=>∃(c:Nat) (o:List Nat),y=((c:Int),iL o)∧c≤1∧Dg o∧o.length=m∧val o+Bw ^ m*c=a+b):=fun x y ex ey=>by
   rw[ex]at h1;rw[ey]at h2;unfold ZqL;rw[ZoO,ZoO,ZoO,ZuO,show (32:Int)=((32:Nat):Int)from rfl,Zy1 32 (by omega),Zo4];refine⟨Zu2 (by simp only[ZNZ];omega),by decide,ZoS (by omega), ?_⟩;have:=ih ((c+x+y) / Bw,o++[(c+x+y) % Bw]) ⟨by simp only[Bw]at h1 h2⊢;omega,by simp[hl],hd.app (Zzr (ZOm _ (by decide))), ?_⟩
   ·rw[ZBG]at this;exact this
   ·dsimp only;rw[ZvN,hl,ZOz,Zwy,Zwy,ex,ey,Nat.add_assoc,ZOo,←ZOn,ZOk,ZOn,ZOn];omega
  have j2:∀x:Nat,(wd a).getD i 0=x→wp (ZqM (fun a b c i out=>rec (a,b,c,i,out)) (iL (wd a)) (iL (wd b)) ((c+x:Nat):Int) (i:Int) (iL o)) (fun y=>∃(c:Nat) (o:List Nat),y=((c:Int),iL o)∧c≤1∧Dg o∧o.length=m∧val o+Bw ^ m*c=a+b):=fun x ex=>by
   have hx:=h1;rw[ex]at hx;unfold ZqM;rw[Zo4,Zo1];refine⟨fun h=> ?_,fun h=> ?_⟩
   ·have hib:i < (wd b).length:=by have:=of_decide_eq_true h;omega
    have ey:(wd b).getD i 0=(wd b)[i]:=by rw[ZNV,ZNW hib];rfl
    have hy:=(Zvm b).get hib;rw[Zuk hib,ZoN,ZoK,Zph (by simp only[Bw]at hy;omega),←ZNS,Zph (by simp only[Bw]at hx hy;omega)];exact j3 x _ ex ey
   ·have hib:¬i < (wd b).length:=by have:=of_decide_eq_false h;omega
    exact j3 x 0 ex (by rw[ZNV,ZNX (by omega)];rfl)
  have j1:wp (Zp2 (fun a b c i out=>rec (a,b,c,i,out)) (iL (wd a)) (iL (wd b)) (c:Int) (i:Int) true (iL o)) (fun y=>∃(c:Nat) (o:List Nat),y=((c:Int),iL o)∧c≤1∧Dg o∧o.length=m∧val o+Bw ^ m*c=a+b):=by
   unfold Zp2;rw[cond_true,Zo4,Zo1];refine⟨fun h=> ?_,fun h=> ?_⟩
   ·have hib:i < (wd a).length:=by have:=of_decide_eq_true h;omega
    have ey:(wd a).getD i 0=(wd a)[i]:=by rw[ZNV,ZNW hib];rfl
    have hy:=(Zvm a).get hib;rw[Zuk hib,ZoN,ZoK,Zph (by simp only[Bw]at hy;omega),←ZNS,Zph (by simp only[Bw]at hy;omega)];exact j2 _ ey
   ·have hib:¬i < (wd a).length:=by have:=of_decide_eq_false h;omega
    exact j2 0 (by rw[ZNV,ZNX (by omega)];rfl)
  unfold Ztv Zrk;dsimp only;rw[Zo4,Zo4,Zo1];refine⟨fun _=>j1,fun h=> ?_⟩;have hib:¬i < (wd a).length:=by have:=of_decide_eq_false h;omega
  rw[decide_eq_true (by rcases hmx i hlt with h |h<;>omega)];exact j1
 ·rintro rec ⟨c,o⟩ ⟨hc,hl,hd,hv⟩;dsimp only at hc hl hd hv;unfold Ztv Zrk;dsimp only;rw[Zo4,Zo4,decide_eq_false (by omega),cond_false,decide_eq_false (by omega)];unfold Zp2;rw[cond_false,ZoK];rw[ZN3 hma,ZN3 hmb,Zr8,Zr8]at hv;exact⟨c,o,rfl,hc,hd,hl,hv⟩
 ·rintro y ⟨c,o,rfl,hc,hd,hl,hv⟩;dsimp only;unfold Zux;have e:iL o++[(c:Int)]=iL (o++[c]):=by rw[ZBG];rfl
  rw[Zvl (by omega),ZoO,Zo4,e,ZoK];exact⟨Zu2 (by simp only[ZNZ];omega),_,rfl,hd.app (Zzr (by unfold Bw;omega)),by simp;omega,by rw[ZvN,hl,hv]⟩
end Go.Proofs
namespace Go.Proofs
open Go Eng
theorem ZC5 (x y:Int) (hx:Wl 50000 x) (hy:Wl 50000 y):ZpJ (bg x) (bg y)=some (bg (x*y)):=by unfold ZpJ;have:=ZB2 hx hy;rw[ZpZ,ZpZ,ZIE _ _ (by omega) (by omega),ZOE,ZAg _ (Zvm _) (by omega),Zr8,ZOE,ZF6]
theorem ZGL (x y:Int) (hx:Wl 50000 x) (hy:Wl 50000 y):Zs5 (bg x) (bg y)=some (bg (x+y)):=by
 unfold Wl at hx hy;unfold Zs5;have h1:=ZD5 hx hy;rw[ZpZ,ZpZ,Zya,Zya];have opp:decide (x < 0)≠decide (y < 0)→Zpq (iL (wd x.natAbs)) (iL (wd y.natAbs))=some (ZCa x.natAbs y.natAbs):=fun _=>ZBN _ _ (by omega) (by omega)
 by_cases hs:decide (x < 0)=decide (y < 0)
 ·obtain⟨o,ho,hd,hl,hv⟩:=ZJb x.natAbs y.natAbs (by omega) (by omega);rw[hs,beq_self_eq_true,cond_true,ho,ZOE,ZAg _ hd (by omega),hv,ZOE];congr 2
  by_cases hy0:y < 0
  ·have hx0:x < 0:=by rw[decide_eq_true hy0]at hs;exact of_decide_eq_true hs
   rw[decide_eq_true hy0,if_pos rfl];omega
  ·have hx0:¬x < 0:=by rw[decide_eq_false hy0]at hs;exact of_decide_eq_false hs
   rw[decide_eq_false hy0,if_neg (by decide)];omega
 ·rw[beq_eq_false_iff_ne.2 hs,cond_false,opp hs,ZOE];rcases ZOi x.natAbs y.natAbs with hlt |hge
  ·have:=Ztl (Nat.sub_le y.natAbs x.natAbs);rw[ZxU hlt,decide_eq_false (by omega),cond_false,ZBt _ _ (by omega) (by omega),ZOE,ZAg _ (Zvm _) (by omega),Zr8,ZOE];congr 2
   by_cases hy0:y < 0
   ·have hx0:¬x < 0:=fun h=>hs (by rw[decide_eq_true hy0,decide_eq_true h])
    rw[decide_eq_true hy0,if_pos rfl];omega
   ·have hx0:x < 0:=Decidable.byContradiction fun h=>hs (by rw[decide_eq_false hy0,decide_eq_false h])
    rw[decide_eq_false hy0,if_neg (by decide)];omega
  ·have hn:ZCa x.natAbs y.natAbs≥0:=by
    rcases ZOi y.natAbs x.natAbs with h |h
    ·rw[ZxI h];decide
    ·rw[show x.natAbs=y.natAbs by omega,Zww];decide
   have:=Ztl (Nat.sub_le x.natAbs y.natAbs);rw[decide_eq_true hn,cond_true,ZBt _ _ hge (by omega),ZOE,ZAg _ (Zvm _) (by omega),Zr8,ZOE];congr 2
   by_cases hx0:x < 0
   ·have hy0:¬y < 0:=fun h=>hs (by rw[decide_eq_true hx0,decide_eq_true h])
    rw[decide_eq_true hx0,if_pos rfl];omega
   ·have hy0:y < 0:=Decidable.byContradiction fun h=>hs (by rw[decide_eq_false hx0,decide_eq_false h])
    rw[decide_eq_false hx0,if_neg (by decide)];omega
theorem ZFF (z:Int) (hz:Wl 100000 z):ZsF (bg z)=some (bg (-z)):=by
 unfold Wl at hz;unfold ZsF;rw[Zya,ZpZ,ZAg _ (Zvm _) (by omega),Zr8,ZOE];congr 2
 by_cases h:z < 0
 ·rw[decide_eq_true h,if_neg (by decide)];omega
 ·rw[decide_eq_false h,if_pos (by decide)];omega
theorem ZC3 (q:Rat) (h:Wq 256 q):Zq3 (fOf q)=some true:=by
 have hn:=h.1;have hd:=h.2;have hd0:=q.den_nz;unfold Zq3 ZpH fOf;dsimp only;rw[ZxW,ZyB _ h.1,ZOE,ZNN,cond_false,ZxW,ZyB _ h.2,ZOE,ZNN,cond_false,Zya,decide_eq_false (by omega),cond_false,ZAd (by omega),cond_false,ZpZ,ZpZ,Zo4];unfold Wl at hn hd;have h1:(wd 1).length≤1:=Zx0 (by decide);have hc:ZOb q.num.natAbs (q.den:Int).natAbs=1:=q.reduced
 by_cases h0:q.num=0
 ·rw[h0]at hc;have e:(q.den:Int).natAbs=1:=by rwa [show (0:Int).natAbs=0 from rfl,Nat.gcd_zero_left]at hc
  rw[h0,show (0:Int).natAbs=0 from rfl,Zum,e,←ZBz,ZBN 1 1 (by omega) (by omega),Zww];rfl
 ·have hl:=ZrZ (n:=q.num.natAbs) (by omega);rw[beq_eq_false_iff_ne.2 (by omega),cond_false,ZFQ _ _ (by omega) (by omega) (by omega) (by omega),hc,ZOE,←ZBz,ZBN 1 1 (by omega) (by omega),Zww];rfl
theorem ZF0 {a b:Rat} (qa:Wq 256 a) (qb:Wq 256 b):ZrT (fOf a) (fOf b)=some (ZCy a b):=by
 have w:∀{x y:Int},Wl 256 x→Wl 256 y→Wl 50000 (x*y):=fun hx hy=>by unfold Wl;rw[ZNP];exact ZOf (ZB2 hx hy) (by decide)
 have m:∀{x:Int},Wl 256 x→Wl 50000 x:=fun h=>ZOf h (by decide)
 unfold ZrT Zsj;rw[ZC3 a qa,ZOE,ZNN,cond_false,ZC3 b qb,ZOE,ZNN,cond_false];show ((ZpJ (bg a.num) (bg (b.den:Int))).bind fun q=>(ZpJ (bg b.num) (bg (a.den:Int))).bind _)=_;rw[ZC5 _ _ (m qa.1) (m qb.2),ZOE,ZC5 _ _ (m qb.1) (m qa.2),ZOE,ZFF _ (ZOf (w qb.1 qa.2) (by decide)),ZOE];have w2:Wl 50000 (-(b.num*(a.den:Int))):=by unfold Wl;rw[ZNR];exact w qb.1 qa.2
 rw[ZGL _ _ (w qa.1 qb.2) w2,ZOE,Zya,ZpZ,Zo4];unfold ZCy;have h1:=ZBk a b;have h2:=ZBk b a;generalize a.num*(b.den:Int)=x at*
 generalize b.num*(a.den:Int)=y at*
 by_cases hl:a < b
 ·have hlt:=h1.1 hl;have:=ZrZ (n:=(x+ -y).natAbs) (by omega);rw[if_pos hl,beq_eq_false_iff_ne.2 (by omega),cond_false,decide_eq_true (by omega),cond_true]
 ·have hn:¬x < y:=fun h=>hl (h1.2 h)
  rw[if_neg hl]
  by_cases hg:b < a
  ·have hlt:=h2.1 hg;have:=ZrZ (n:=(x+ -y).natAbs) (by omega);rw[if_pos hg,beq_eq_false_iff_ne.2 (by omega),cond_false,decide_eq_false (by omega),cond_false]
  ·have hn2:¬y < x:=fun h=>hg (h2.2 h)
   rw[if_neg hg,show x+ -y=0 by omega,show (0:Int).natAbs=0 from rfl,Zum];rfl
theorem ZFH {a b:Rat} (qa:Wq 256 a) (qb:Wq 256 b):Zs3 (fOf a) (fOf b)=some (decide (a < b)):=by
 unfold Zs3;rw[ZF0 qa qb,ZOE];unfold ZCy
 by_cases h:a < b
 ·rw[if_pos h,decide_eq_true h];rfl
 ·rw[if_neg h,decide_eq_false h];split<;>rfl
theorem ZE8:Zs1=some (fOf 0):=by unfold Zs1;rw[ZEn 0 (by decide) (by decide),ZOE];rfl
end Go.Proofs
namespace Go.Proofs
open Go Eng
def ZG9 (x:Rat):Rat:=if x < 0 then 0 - x else x
end Go.Proofs
namespace Go.Proofs
open Go Eng
theorem ZK0:∀x y:Str,Op.bytesLess x y=decide (x < y)
 |x,[]=>by
  have:¬x < []:=by simp
  rw[decide_eq_false this];cases x<;>rfl
 | [],b::y=>by
  have:([]:Str) < b::y:=by simp
  rw[decide_eq_true this];rfl
 |a::x,b::y=>by rw[Op.bytesLess,ZK0 x y,Bool.eq_iff_iff];simp only[Bool.or_eq_true,ZKj,decide_eq_true_eq,beq_iff_eq];rw[List.cons_lt_cons_iff]
def Srt (l:List Str):Prop:=l.Pairwise (fun a b=>a≤b)∧l.Nodup
theorem ZFn (l:List Str):Srt (ZxL l):=⟨ZAj l,ZxR l⟩
theorem ZFo {l:List Str} (h:Srt l) {i j:Nat} (hij:i < j) (hj:j < l.length):l[i] < l[j]:=by
 have h1:=List.pairwise_iff_getElem.1 h.1 i j (by omega) hj hij;have h2:=List.pairwise_iff_getElem.1 h.2 i j (by omega) hj hij;rcases List.le_iff_lt_or_eq.1 h1 with h3 |h3
 ·exact h3
 ·exact absurd h3 h2
theorem ZIK (x y:Str):ZwE x y=some (decide (x < y)):=by unfold ZwE ZvY Zs0;rw[show (x == x)=true by simp];rw[←ZK0];rfl
theorem ZKt {i j:Nat} (h:i+j≤4611686018427387904):IntKind.wrap .i64 (shrK .u64 (IntKind.wrap .u64 ((i:Int)+(j:Int))) 1)=(((i+j) / 2:Nat):Int):=by rw[show (i:Int)+(j:Int)=((i+j:Nat):Int) by omega,Zph (by omega),show (1:Int)=((1:Nat):Int)from rfl,Zy1 1 (by decide),wrap_i64 (by omega)]
theorem ZFs {xs:List Str} (hs:Srt xs) (hl:xs.length≤1000000000000) (t:Str):wp (ZpU xs t) (fun r=>r.2=xs.contains t):=by
 unfold ZpU;rw[ZoN];refine ZoW (ZzU ZvI (fun(s:Nat×Nat)=>(xs,t,(xs.length:Int),(s.1:Int),(s.2:Int)))
  (fun s=>(s.1≤s.2∧s.2≤xs.length)∧(∀k (h:k < xs.length),k < s.1→xs[k] < t)∧(∀k (h:k < xs.length),s.2≤k→¬xs[k] < t)) (fun s=>s.2 - s.1)
  (Q:=fun x=>∃i:Nat,x=(xs,t,(xs.length:Int),(i:Int))∧i≤xs.length∧(∀k (h:k < xs.length),k < i→xs[k] < t)∧(∀k (h:k < xs.length),i≤k→¬xs[k] < t)) (0,xs.length) ⟨⟨Nat.zero_le _,ZOe _⟩,fun k _ h=>absurd h (Nat.not_lt_zero _),fun k h h'=>absurd h (by dsimp only at h';omega)⟩ (by dsimp only;omega) ?_) ?_
 ·rintro rec ⟨i,j⟩ ⟨⟨h1,h2⟩,hlo,hhi⟩ ih;dsimp only at h1 h2 hlo hhi ih⊢
  unfold Zsa Zp9;dsimp only;rw[ZKt (by omega)];rw[Zo1];refine⟨fun h=> ?_,fun h=> ?_⟩
  ·simp only[decide_eq_true_eq]at h;have hij:i < j:=by omega
   have hm:(i+j) / 2 < xs.length:=by omega
   rw[ZoO,ZoO];refine⟨ZoS (by omega),by decide, ?_⟩;rw[ZsV hm,ZOE,ZIK,ZOE,Zo1];refine⟨fun hc=> ?_,fun hc=> ?_⟩
   ·simp only[decide_eq_true_eq]at hc;rw[ZoO];refine⟨ZoS (by omega), ?_⟩;have:=ih ((i+j) / 2+1,j) ⟨⟨by dsimp only;omega,h2⟩,fun k hk hlt=> ?_,hhi⟩ (by dsimp only;omega)
    ·dsimp only at this
     rwa [show (((i+j) / 2+1:Nat):Int)=(((i+j) / 2:Nat):Int)+1 by omega]at this
    ·dsimp only at hlt;rcases ZOi k ((i+j) / 2)with h3 |h3
     ·exact List.lt_trans (ZFo hs h3 hm) hc
     ·obtain rfl:k=(i+j) / 2:=by omega
      exact hc
   ·simp only[decide_eq_false_iff_not]at hc;refine ih (i,(i+j) / 2) ⟨⟨by dsimp only;omega,by dsimp only;omega⟩,hlo,fun k hk hle=> ?_⟩ (by dsimp only;omega);dsimp only at hle;rcases ZOi ((i+j) / 2) k with h3 |h3
    ·exact fun h4=>hc (List.lt_trans (ZFo hs h3 hk) h4)
    ·obtain rfl:k=(i+j) / 2:=by omega
     exact hc
  ·simp only[decide_eq_false_iff_not]at h;obtain rfl:i=j:=by omega
   rw[ZoK];exact⟨i,rfl,h2,hlo,hhi⟩
 ·rintro x ⟨i,rfl,hi,hlo,hhi⟩;dsimp only;unfold Zqt Zpa;have key:xs.contains t=true↔∃h:i < xs.length,xs[i]=t:=by
   rw[List.contains_iff_mem];constructor
   ·intro hm;obtain⟨k,hk,hkt⟩:=List.getElem_of_mem hm;have h1:i≤k:=by
     rcases ZOi k i with h |h
     ·have:=hlo k hk h;rw[hkt]at this;exact absurd this (List.lt_irrefl t)
     ·exact h
    rcases ZOi i k with h |h
    ·have h2:=ZFo hs h hk;rw[hkt]at h2;exact absurd h2 (hhi i (by omega) (ZOe _))
    ·obtain rfl:i=k:=by omega
     exact⟨hk,hkt⟩
   ·rintro⟨h,rfl⟩;exact List.getElem_mem h
  rw[Zo1];refine⟨fun h=> ?_,fun h=> ?_⟩
  ·simp only[decide_eq_true_eq]at h;have hi':i < xs.length:=by omega
   rw[ZsV hi',ZOE,Zo1];refine⟨fun hc=> ?_,fun hc=> ?_⟩
   ·rw[ZoK];exact(key.2 ⟨hi',by simpa using hc⟩).symm
   ·have hn:xs.contains t=false:=by rw[Bool.eq_false_iff];intro h3;obtain⟨_,h4⟩:=key.1 h3;rw[h4]at hc;simp at hc
    rw[ZOE];unfold Zt7;rw[ZOE,show (xs[i] == xs[i])=true by simp,ZNN,cond_false,ZoK,hn]
  ·simp only[decide_eq_false_iff_not]at h;rw[ZoK]
   symm
   rw[Bool.eq_false_iff];intro h3;obtain⟨h4,_⟩:=key.1 h3;omega
def comm (a b:List Str):Nat:=(a.filter fun x=>b.contains x).length
theorem ZBL (a b:List Str):comm a b≤a.length:=List.length_filter_le _ _
theorem ZFq {a b:List Str} (hb:Srt b) (hla:a.length≤1000000000000) (hlb:b.length≤1000000000000):Zu8 a b=some (comm a b:Int):=by
 refine Zq0 ?_;unfold Zu8;rw[ZoN];refine ZoW (Zsz Zy7 a.length (by omega) (fun i (n:Nat)=>(b,(n:Int),a,(a.length:Int),i)) (fun i n=>n=comm (a.take i) b)
  (Q:=fun x=>x=(comm a b:Int)) 0 (by simp[comm]) ?_ ?_) ?_
 ·rintro rec i n hi rfl ih;unfold ZuW ZsG;dsimp only;rw[decide_eq_true (show (i:Int) < (a.length:Int) by omega),cond_true,ZsV hi,ZOE,ZoN];refine ZoW (ZFs hb hlb _) fun⟨q,ok⟩ hok=> ?_
  dsimp only at hok⊢
  have hc:comm (a.take (i+1)) b=comm (a.take i) b+(if b.contains a[i]then 1 else 0):=by unfold comm;rw[ZN4 hi,List.filter_append,List.length_append];congr 1;cases h:b.contains a[i]<;>(simp only[List.filter_cons,h,List.filter_nil];rfl)
  have hle:=ZBL (a.take i) b;rw[ZN0]at hle;have hk:inK .i64 ((i:Int)+1)=true:=ZoS (by omega);unfold ZtR;rw[Zo1];refine⟨fun h=> ?_,fun h=> ?_⟩
  ·rw[ZoO,ZoO];refine⟨ZoS (by omega),hk, ?_⟩;have:=ih (comm (a.take i) b+1) (by rw[hc,←hok,h];rfl)
   rwa [show ((comm (a.take i) b+1:Nat):Int)=(comm (a.take i) b:Int)+1 by omega]at this
  ·rw[ZoO];exact⟨hk,ih (comm (a.take i) b) (by rw[hc,←hok,h];rfl)⟩
 ·rintro rec n rfl;unfold ZuW ZsG;dsimp only;rw[decide_eq_false (show ¬(a.length:Int) < (a.length:Int) by omega),cond_false,ZoK,ZN2]
 ·rintro x rfl;unfold ZvJ;rw[ZoK]
end Go.Proofs
namespace Go.Proofs
open Go Eng
def isD (b:UInt8):Bool:=decide (48≤b.toNat)&&decide (b.toNat≤57)
def ZDa:Str→Bool×Str
 | []=>(false,[])
 |b::r=>bif b == 45 then (true,r)else bif b == 43 then (false,r)else (false,b::r)
def okD (s:Str) (m:Nat):Bool:=decide (1≤s.length)&&decide (s.length≤m)&&s.all isD
def ZAM (body:Str):Option (Str×Str):=
 bif decide (1≤(body.takeWhile isD).length)&&decide ((body.takeWhile isD).length≤15)then
  (match body.dropWhile isD with
  | []=>some (body.takeWhile isD,[])
  |c::p=>bif c == 46&&okD p 9 then some (body.takeWhile isD,p)else none)
 else none
def ZBe (t:Str):Option (Bool×Str×Str):=(ZAM (ZDa t).2).map fun x=>((ZDa t).1,x.1,x.2)
def n46 (b:UInt8):Bool:=b != 46
theorem ZCs {p:UInt8→Bool}:∀(F R:Str),F.all p=true→(∀b r,R=b::r→p b=false)→(F++R).takeWhile p=F∧(F++R).dropWhile p=R
 | [],[],_,_=>⟨rfl,rfl⟩
 | [],b::r,_,h=>by have:=h b r rfl;simp[List.takeWhile,List.dropWhile,this]
 |x::F,R,h,hR=>by rw[List.all_cons,ZKj]at h;obtain⟨h1,h2⟩:=ZCs F R h.2 hR;rw[List.cons_append,List.takeWhile_cons,List.dropWhile_cons,h.1,if_pos rfl,if_pos rfl,h1,h2];exact⟨rfl,rfl⟩
theorem ZHh (p:UInt8→Bool):∀l:Str,(l.takeWhile p).all p=true
 | []=>rfl
 |x::l=>by
  rw[List.takeWhile_cons];cases h:p x with
  |true=>simp only[if_true,List.all_cons,h,Bool.true_and];exact ZHh p l
  |false=>rfl
theorem ZCJ (p:UInt8→Bool):∀(l:Str) b r,l.dropWhile p=b::r→p b=false
 | [],b,r,h=>by simp at h
 |x::l,b,r,h=>by
  rw[List.dropWhile_cons]at h;cases hx:p x with
  |true=>rw[hx,if_pos rfl]at h;exact ZCJ p l b r h
  |false=>rw[hx,if_neg (by simp)]at h;simp only[List.cons.injEq]at h;rw[←h.1];exact hx
theorem ZIQ {b:UInt8} (h:isD b=true):n46 b=true:=by unfold n46;rw[bne_iff_ne];rintro rfl;exact absurd h (by decide)
theorem ZJa {l:Str} (h:l.all isD=true):l.all n46=true:=List.all_eq_true.2 fun b hb=>ZIQ (List.all_eq_true.1 h b hb)
theorem ZBD {b:UInt8} (h:n46 b=false):b=46:=by unfold n46 at h;simpa using h
theorem ZAL (body:Str):ZAM body=bif okD (body.takeWhile n46) 15&&((body.dropWhile n46).isEmpty||okD (body.dropWhile n46).tail 9)then some (body.takeWhile n46,(body.dropWhile n46).tail)else none:=by
 have hsp:body.takeWhile n46++body.dropWhile n46=body:=List.takeWhile_append_dropWhile;cases hall:(body.takeWhile n46).all isD with
 |true=>
  have hs:=ZCs (p:=isD) (body.takeWhile n46) (body.dropWhile n46) hall (fun b r e=>by rw[ZBD (ZCJ n46 body b r e)];decide)
  rw[hsp]at hs;unfold ZAM;rw[hs.1,hs.2];have e:okD (body.takeWhile n46) 15=(decide (1≤(body.takeWhile n46).length)&&decide ((body.takeWhile n46).length≤15)):=by unfold okD;rw[hall,Bool.and_true]
  rw[e];cases (decide (1≤(body.takeWhile n46).length)&&decide ((body.takeWhile n46).length≤15))with
  |false=>rfl
  |true=>
   rw[cond_true,Bool.true_and];cases hR:body.dropWhile n46 with
   |nil=>rfl
   |cons c p=>
    rw[ZBD (ZCJ n46 body c p hR)];rfl
 |false=>
  have e:okD (body.takeWhile n46) 15=false:=by unfold okD;rw[hall,Bool.and_false]
  rw[e,Bool.false_and,cond_false];have hsp2:body.takeWhile isD++body.dropWhile isD=body:=List.takeWhile_append_dropWhile;have hD:=ZHh isD body;unfold ZAM;cases (decide (1≤(body.takeWhile isD).length)&&decide ((body.takeWhile isD).length≤15))with
  |false=>rfl
  |true=>
   rw[cond_true];have key:(∀b r,body.dropWhile isD=b::r→b=46)→False:=fun h46=>by have hs:=ZCs (p:=n46) (body.takeWhile isD) (body.dropWhile isD) (ZJa hD) (fun b r e=>by rw[h46 b r e];decide);rw[hsp2]at hs;rw[hs.1,hD]at hall;cases hall
   cases hR:body.dropWhile isD with
   |nil=>exact(key fun b r e=>by rw[hR]at e;cases e).elim
   |cons c p=>
    dsimp only;cases hc:c == 46 with
    |false=>rfl
    |true=>exact(key fun b r e=>by rw[hR]at e;simp only[List.cons.injEq]at e;rw[←e.1];exact eq_of_beq hc).elim
def ZBU (l:Str):Nat:=l.foldl (fun n b=>10*n+(b.toNat - 48)) 0
theorem ZFE (l:Str) (b:UInt8):ZBU (l++[b])=10*ZBU l+(b.toNat - 48):=by unfold ZBU;rw[List.foldl_append];rfl
theorem ZIz {l:Str} (h:l.all isD=true):ZBU l < 10 ^ l.length:=by
 have key:∀(l:Str) (n k:Nat),l.all isD=true→n < 10 ^ k→l.foldl (fun n b=>10*n+(b.toNat - 48)) n < 10 ^ (k+l.length):=by
  intro l
  induction l with
  |nil=>intro n k _ h;exact h
  |cons b l ih=>
   intro n k hb hn;rw[List.all_cons,ZKj]at hb;have hd:=hb.1;unfold isD at hd;simp only[ZKj,decide_eq_true_eq]at hd;have:=ih (10*n+(b.toNat - 48)) (k+1) hb.2 (by rw[ZOz];omega);rw[List.foldl_cons,List.length_cons]
   rwa [show k+1+l.length=k+(l.length+1) by omega]at this
 have:=key l 0 0 h (by decide)
 rwa [ZOD]at this
def ZMn (x:Bool×Str×Str):Rat:=Rat.divInt (if x.1 then -((ZBU (x.2.1++x.2.2):Nat):Int)else ((ZBU (x.2.1++x.2.2):Nat):Int)) ((10 ^ x.2.2.length:Nat):Int)
structure ZDZ (D P:Str):Prop where
 d1:1≤D.length
 d2:D.length≤15
 p:P.length≤9
 dd:D.all isD=true
 pp:P.all isD=true
theorem Zz3 {body D P:Str} (h:ZAM body=some (D,P)):ZDZ D P:=by
 rw[ZAL]at h;cases hc:(okD (body.takeWhile n46) 15&&((body.dropWhile n46).isEmpty||okD (body.dropWhile n46).tail 9))with
 |false=>rw[hc,cond_false]at h;cases h
 |true=>
  rw[hc,cond_true]at h;simp only[Option.some.injEq,Prod.mk.injEq]at h;obtain⟨rfl,rfl⟩:=h;rw[ZKj]at hc;obtain⟨h1,h2⟩:=hc;unfold okD at h1;simp only[ZKj,decide_eq_true_eq]at h1;cases hR:body.dropWhile n46 with
  |nil=>exact⟨h1.1.1,h1.1.2,by simp,h1.2,by simp⟩
  |cons c p=>
   rw[hR]at h2;simp only[List.isEmpty_cons,Bool.false_or,List.tail_cons]at h2⊢
   unfold okD at h2;simp only[ZKj,decide_eq_true_eq]at h2;exact⟨h1.1.1,h1.1.2,h2.1.2,h1.2,h2.2⟩
theorem ZCB {k:Nat} (h:k≤24):10 ^ k < 2 ^ 80:=ZOg (ZOx (by decide) h) (by decide)
theorem ZDg {l:Str} (h:l.all isD=true) (hl:l.length≤24):ZBU l < 2 ^ 80:=Nat.lt_trans (ZIz h) (ZCB hl)
theorem ZHf {n:Nat} (h:n < 2 ^ 80):(wd n).length≤3:=ZCp h 3 (by decide)
end Go.Proofs
