/- Plain laws over the specs, part 1. -/
import Derived.Test.YtdmabekeafhflaaGreatDoorUrM0
set_option linter.unusedVariables false
set_option linter.unusedSimpArgs false
set_option linter.unusedSectionVars false
open Bool renaming not_true→ZPK
open Int renaming toNat_natCast→ZT1, natAbs_natCast→ZTX, natAbs_mul→ZTW, natAbs_neg→ZTY, natCast_add→ZTZ, natCast_mul→ZT0, mul_ne_zero→ZTV
open List renaming getD_eq_getElem?_getD→ZT2, take_of_length_le→ZUh, length_take→ZUa, replicate→ZUd, getElem?_eq_getElem→ZT3, mem_cons→ZUb, length_singleton→ZT9, take_length→ZUg, getElem?_eq_none→ZT4, getElem_cons_drop→ZT6, length_replicate→ZT8, length_append→ZT7, not_mem_nil→ZUc, take_append_drop→ZUf, getElem_append_right→ZT5, set_append_right→ZUe
open Nat renaming le_trans→ZUv, gcd→ZUr, pow_succ→ZUP, mul_assoc→ZUE, mul_add→ZUD, mod_lt→ZUC, mul_comm→ZUF, mul_zero→ZUJ, add_zero→ZUm, pow_zero→ZUQ, le_refl→ZUu, pow_add→ZUM, two_pow_pos→ZUS, lt_or_ge→ZUy, pow_le_pow_right→ZUN, min_eq_left→ZUz, mul_le_mul_left→ZUG, add_mul→ZUi, one_mul→ZUK, le_of_lt→ZUt, lt_of_le_of_lt→ZUw, zero_add→ZUT, div_add_mod→ZUn, mod_eq_of_lt→ZUB, div_le_self→ZUp, div_eq_of_lt→ZUo, lt_of_lt_of_le→ZUx, eq_zero_or_pos→ZUq, mul_left_comm→ZUH, gcd_comm→ZUs, pow_mul→ZUO, pos_of_ne_zero→ZUL, add_mul_mod_self_left→ZUl, mod_add_div→ZUA, add_mul_div_left→ZUj, add_mul_div_right→ZUk, mul_lt_mul_of_lt_of_le→ZUI, two_pow_add_eq_or_of_lt→ZUR
open Option renaming bind_some→ZUU
namespace Go.Proofs
open Go Eng
theorem ZIq (l:List Nat) (h:l.length≤1000000):Zp4 (iL l)=some (iL l):=by
 cases l with
 |nil=>
  have e1:ZoW [] true=some []:=rfl;have e2:ZoW [] false=some []:=by kernel_rfl
  show agree (ZoW [] true) (ZoW [] false)=some [];grind[ZEF]
 |cons x l=>
  show ZoW (iL (x::l)) false=_;grind[ZoW,ZrX,Zo7,chk_true]
theorem ZEI {l:List Nat} {k:Nat} (h:val l < Bw ^ k):val (l.take k)=val l:=by
 rcases ZUy k l.length with hk |hk
 ·have e:val l=val (l.take k++l.drop k):=by rw[ZUf]
  rw[ZCg,ZUa,ZUz (by omega)]at e;rcases ZUq (val (l.drop k))with hz |hz
  ·simp_all
  ·have:=ZUG (Bw ^ k) hz;omega
 grind[ZUh]
theorem ZSj (u:List Nat) (k:Nat) (hk:k≤u.length) (hk2:k≤1000000):∃k',k'≤k∧val (u.take k')=val (u.take k)∧Zv0 (iL u) 0 k=some (0,k',iL u):=by
 have h:wp (Zw9 (iL u) 0 k) (fun y=>∃k',k'≤k∧val (u.take k')=val (u.take k)∧y=(0,k',iL u)):=by
  unfold Zw9 ZxH;rw[ZoM];refine ZoT (ZzO ZB5 (fun(j:Nat)=>(0,j,iL u)) (fun j=>j≤k∧val (u.take j)=val (u.take k)) (fun j=>j) (Q:=fun y=>∃k',k'≤k∧val (u.take k')=val (u.take k)∧y=(0,k',iL u)) k ⟨ZUu _,rfl⟩ (by omega) ?_) (fun y hy=>ZoJ.2 hy);rintro rec j ⟨hj,hv⟩ ih;unfold ZzR ZwX Zu3;dsimp only;cases j with
  |zero=>grind[ZoJ]
  |succ j=>
   have hju:j < u.length:=by omega
   have e1:((j+1:Nat):Int) - 1=(j:Int):=by omega
   rw[ZoX];refine⟨fun _=> ?_,fun h=>by simp_all⟩;rw[e1,ZT1,ZUT,ZoO,ZoO,ZDv hju,ZoM,ZoJ,ZoX];grind[ZoQ,Zr7,ZoO,Zp8,Zpq,ZoJ]
 obtain⟨y,hy,k',h1,h2,rfl⟩:=h;simp_all[Zv0]
theorem ZJN {x y s:Nat} (hs:s≤31) (hx:x < Bw) (hy:y < Bw):((y*4294967296+x) / 2 ^ s % 4294967296)*2 ^ s+x % 2 ^ s=x+Bw*(y % 2 ^ s):=by
 have e:(4294967296:Nat)=2 ^ (32 - s)*2 ^ s:=by rw[←ZUM,show 32 - s+s=32 by omega]
 have hp:=ZUS s;have h1:=ZUn x (2 ^ s);have h2:=ZUn y (2 ^ s);have hx2:x / 2 ^ s < 2 ^ (32 - s):=(Nat.div_lt_iff_lt_mul hp).2 (by simp_all);have hy2:=ZUC y hp;have e1:(y*4294967296+x) / 2 ^ s=y*2 ^ (32 - s)+x / 2 ^ s:=by rw[e,←ZUE,Nat.add_comm,ZUk _ _ hp,Nat.add_comm]
 have e2:y*2 ^ (32 - s)+x / 2 ^ s=(y % 2 ^ s)*2 ^ (32 - s)+x / 2 ^ s+4294967296*(y / 2 ^ s):=by
  grind
 have hlt:(y % 2 ^ s)*2 ^ (32 - s)+x / 2 ^ s < 4294967296:=by have:=Nat.mul_le_mul_right (2 ^ (32 - s)) (show y % 2 ^ s+1≤2 ^ s from hy2);grind
 rw[e1,e2,ZUl,ZUB hlt,ZUi,ZUE,←e,ZUF (x / 2 ^ s),ZUF (y % 2 ^ s)];grind
theorem ZPx {u:List Nat} {k s R:Nat} (q:List Int) (hs:s≤31) (hd:Dg u) (hk:k≤u.length) (hk2:k≤1000000) (hv:val (u.take k)=R*2 ^ s):
  wp (Zr4 big (s:Int) 0 k ((k:Nat):Int) (0:Int) q (iL u)) (fun y=>∃(o:List Nat),y=(0,k,q,iL (o++u.drop k))∧o.length=k∧Dg o∧val o=R):=by
 refine ZtG ZBW k (by omega) (fun i (o:List Nat)=>((s:Int),0,k,(k:Int),i,q,iL (o++u.drop o.length))) (fun i o=>o.length=i∧Dg o∧val o*2 ^ s+(if 0 < k then u.getD 0 0 else 0) % 2 ^ s=val (u.take i)+Bw ^ i*((if i < k then u.getD i 0 else 0) % 2 ^ s)) [] ⟨rfl,ZDy,by simp[val]⟩ ?_ ?_
 ·rintro rec i o hi ⟨hol,hod,hov⟩ ih;have hiu:i < u.length:=by omega
  have h1:=hd.get hiu;unfold Zwf Zta;dsimp only;rw[ZoX];refine⟨fun _=> ?_,fun h=>by have:=of_decide_eq_false h;omega⟩;have hlen:(o++u.drop o.length).length=u.length:=by simp;omega
  have gx:(iL (o++u.drop o.length))[i]? =some (u[i]:Int):=by rw[ZDv (by omega)];congr 2;rw[ZT5 (by omega)];simp[hol]
  obtain⟨y,hy,hyB,hye⟩:∃y:Nat,Zu1 (iL (o++u.drop o.length)) 0 k ((i:Int)+1)=some ((y:Int),iL (o++u.drop o.length))∧y < Bw∧y=(if i+1 < k then u.getD (i+1) 0 else 0):=by
   unfold Zu1 Zy3
   by_cases hc:i+1 < k
   ·have hiu2:i+1 < u.length:=by omega
    have gy:(iL (o++u.drop o.length))[i+1]? =some (u[i+1]:Int):=by rw[ZDv (by omega)];congr 2;rw[ZT5 (by omega)];simp[hol]
    refine⟨u[i+1], ?_,hd.get hiu2, ?_⟩
    ·rw[decide_eq_true (by omega),cond_true,Zr7 ⟨by omega,by omega⟩,chk_true,ZUT,show ((i:Int)+1).toNat=i+1 by omega,gy];simp
    ·rw[if_pos hc,ZT2,ZT3 hiu2];rfl
   ·refine⟨0, ?_,by decide,by rw[if_neg hc]⟩;rw[decide_eq_false (by omega),cond_false];simp
  rw[hy,ZoO,ZoM,ZoJ];dsimp only;rw[ZT1,ZUT,gx,ZoO,ZoO,ZoM,ZoJ,ZoO,ZoO,ZoO,ZG3 hyB h1,ZCh s (by omega),Zxc];refine⟨ZoQ (by omega),by decide,Zr7 ⟨by omega,by omega⟩,by simp,Zr7 ⟨by omega,by omega⟩,ZoQ (by omega), ?_⟩;generalize ez:(y*4294967296+u[i]) / 2 ^ s % 4294967296=z;have hz:z < Bw:=by rw[←ez];exact ZUC _ (by decide)
  have es:(iL (o++u.drop o.length)).set i (z:Int)=iL ((o++[z])++u.drop (o++[z]).length):=by rw[ZB9,ZUe _ _ (by omega),hol,Nat.sub_self,←ZT6 (h:=hiu),List.set_cons_zero];simp[hol]
  rw[es];refine ih (o++[z]) ⟨by simp[hol],hod.app (ZCM hz), ?_⟩;have hd1:=ZJN hs h1 hyB;grind[Zym,Zpq,ZUP,ZUi,ZUE]
 ·rintro rec o ⟨hol,hod,hov⟩;unfold Zwf Zta;dsimp only;rw[ZoX];refine⟨fun h=>by have:=of_decide_eq_true h;omega,fun _=> ?_⟩;rw[ZoJ];refine⟨o,by rw[hol],hol,hod, ?_⟩;rw[if_neg (Nat.lt_irrefl _),Nat.zero_mod,ZUJ,ZUm,hv]at hov;have hp:=ZUS s;have:(val o*2 ^ s+(if 0 < k then u.getD 0 0 else 0) % 2 ^ s) / 2 ^ s=R*2 ^ s / 2 ^ s:=by rw[hov]
  rw[Nat.add_comm,ZUk _ _ hp,ZUo (ZUC _ hp),Nat.mul_div_cancel _ hp]at this;omega
theorem ZIX {x s:Nat} (hs:s≤31) (h:x*2 ^ s < 4294967296):(x+1)*2 ^ s≤4294967296:=by
 have e:(4294967296:Nat)=2 ^ (32 - s)*2 ^ s:=by rw[←ZUM,show 32 - s+s=32 by omega]
 rw[e]at h⊢
 exact Nat.mul_le_mul_right _ (Nat.lt_of_mul_lt_mul_right h)
theorem ZLb {d u:List Nat} {m K s U:Nat} (hd:d.length=m+2) (hdd:Dg d) (h1:1≤d[m+1]) (hu:u.length=K+m+2) (hud:Dg u) (hU:val u=U) (hlt:U < Bw ^ K*val d) (hK:K≤100000) (hm:m≤100000):
  wp (Zr5 big ((m+2:Nat):Int) (s:Int) (iL d) ((K:Int) - 1) (iL u) (iL (ZUd K 0))) (fun y=>∃u' qs:List Nat,y=(((m+2:Nat):Int),(s:Int),iL u',iL qs)∧u'.length=K+m+2∧Dg u'∧qs.length=K∧Dg qs∧val u'+val qs*val d=U∧val u' < val d):=by
 rw[show iL (ZUd K 0)=iL (ZUd (K - ([]:List Nat).length) 0++[]) by simp];have hDlt:=Zzv hdd;rw[hd]at hDlt;refine ZEp ZBX K (by omega) (fun i (t:List Nat×List Nat)=>(((m+2:Nat):Int),(s:Int),iL d,i,iL t.1,iL (ZUd (K - t.2.length) 0++t.2))) (fun k t=>t.1.length=K+m+2∧Dg t.1∧t.2.length+k=K∧Dg t.2∧val t.1+Bw ^ k*(val t.2*val d)=U∧val t.1 < Bw ^ k*val d) (u,[]) ⟨hu,hud,by simp,ZDy,by grind[val],by simp_all⟩ ?_ ?_
 ·rintro rec k ⟨v,qs⟩ hk ⟨hvl,hvd,hql,hqd,hv,hvlt⟩ ih;dsimp only at hvl hvd hql hqd hv hvlt ih;unfold Zwg Ztb;dsimp only;have hwl:((v.drop k).take (m+3)).length=m+3:=by grind
  have hpl:(v.take k).length=k:=by grind
  have esplit:v=v.take k++((v.drop k).take (m+3)++v.drop (k+(m+3))):=by grind[List.drop_drop,ZUf]
  have hvs:val v=val (v.take k)+Bw ^ k*(val ((v.drop k).take (m+3))+Bw ^ (m+3)*val (v.drop (k+(m+3)))):=by
   have:val v=val (v.take k++((v.drop k).take (m+3)++v.drop (k+(m+3)))):=by grind
   rw[this,ZCg,ZCg,hpl,hwl]
  have hpd:=Zzv (hvd.take k);rw[hpl]at hpd;have hwd:=(hvd.drop k).take (m+3);have hsd:=hvd.drop (k+(m+3));have hvd':=hvd;generalize v.take k=pre at*
  generalize (v.drop k).take (m+3)=w at*
  generalize v.drop (k+(m+3))=suf at*
  subst esplit;have hX:val w+Bw ^ (m+3)*val suf < Bw*val d:=by
   have:Bw ^ k*(val w+Bw ^ (m+3)*val suf) < Bw ^ k*(Bw*val d):=by rw[←ZUE,←ZUP];show _ < Bw ^ (k+1)*val d;omega
   exact Nat.lt_of_mul_lt_mul_left this
  have hs0:val suf=0:=by
   rcases ZUq (val suf)with hz |hz
   ·exact hz
   ·exfalso;have h5:=ZUG (Bw ^ (m+3)) hz;have h6:Bw*val d≤Bw*Bw ^ (m+2):=ZUG _ (ZUt hDlt);rw[ZUF Bw (Bw ^ (m+2)),←ZUP]at h6;have h7:Bw*val d≤Bw ^ (m+3):=h6;omega
  rw[hs0,ZUJ,ZUm]at hX hvs;rw[ZoX];refine⟨fun _=> ?_,fun h=>by have:=of_decide_eq_false h;omega⟩;rw[ZoO,ZoO,ZoO,ZoM,Zo7,hvl];refine⟨ZoQ (by omega),ZoQ (by omega),Zp8 ⟨by omega,by omega,by omega⟩, ?_⟩;rw[show ((k:Int)+((m+2:Nat):Int)+1).toNat - (k:Int).toNat=m+3 by omega,ZT1];have hdw:=ZLK (pre:=pre) (suf:=suf) hwl hd hwd hdd hm h1 hX;rw[hpl]at hdw;refine ZoT hdw ?_;rintro y ⟨w',rfl,hw'l,hw'd,hw'v⟩;dsimp only;have hDpos:0 < val d:=by
   rcases ZUq (val d)with hz |hz
   ·rw[hz,ZUJ]at hX;omega
   ·exact hz
  have hq:val w / val d < Bw:=(Nat.div_lt_iff_lt_mul hDpos).2 hX;have hdm:=ZUn (val w) (val d);have hml:=ZUC (val w) hDpos;generalize val w / val d=q at*
  have es:(ZUd (K - qs.length) 0++qs).set k q=ZUd (K - (qs.length+1)) 0++q::qs:=by
   have e:K - qs.length=k+1:=by omega
   have e2:K - (qs.length+1)=k:=by omega
   rw[e,e2,List.replicate_succ',List.append_assoc,ZUe _ _ (by simp),ZT8,Nat.sub_self];rfl
  rw[ZoO,ZoO,ZB9,es];refine⟨Zr7 ⟨by omega,by rw[Zo7];simp only[ZT7,ZT8];omega⟩,ZoQ (by omega), ?_⟩;have hsl:suf.length+(k+(m+3))=K+m+2:=by rw[←hvl,ZT7,ZT7,hpl,hwl];omega
  refine ih (pre++(w'++suf),q::qs) ⟨?_, ?_,by simp only[List.length_cons];omega,fun y hy=> ?_, ?_, ?_⟩
  ·simp only[ZT7,hpl,hw'l];omega
  ·refine Dg.app (fun y hy=>hvd' y (List.mem_append_left _ hy)) (Dg.app hw'd hsd)
  ·rcases ZUb.1 hy with rfl |hy
   ·exact hq
   ·exact hqd y hy
  ·dsimp only;rw[ZCg,ZCg,hpl,hs0,ZUJ,ZUm,hw'v,val,ZUi,ZUD];rw[hvs,←hdm,ZUD,ZUP,ZUE]at hv;rw[ZUF q (val d),ZUE Bw];omega
  ·dsimp only;rw[ZCg,ZCg,hpl,hs0,ZUJ,ZUm,hw'v];have:=ZUG (Bw ^ k) (show val w % val d+1≤val d from hml);rw[ZUD,Nat.mul_one]at this;omega
 ·rintro rec ⟨v,qs⟩ ⟨hvl,hvd,hql,hqd,hv,hvlt⟩;dsimp only at hvl hvd hql hqd hv hvlt;unfold Zwg Ztb;dsimp only;rw[ZoX];refine⟨fun h=>by have:=of_decide_eq_true h;omega,fun _=> ?_⟩;rw[ZoJ];rw[ZUQ,ZUK]at hv hvlt;refine⟨v,qs, ?_,hvl,hvd,hql,hqd,hv,hvlt⟩;rw[show K - qs.length=0 by omega];rfl
end Go.Proofs
namespace Go.Proofs
open Go Eng
theorem ZEx (a b:Nat) (hb0:b≠0) (ha:(wd a).length≤50000) (hb:(wd b).length≤50000):ZqR (iL (wd a)) (iL (wd b))=some (iL (wd (a / b)),iL (wd (a % b))):=by
 refine Zp6 ?_;unfold ZqR;rw[ZEE a b (by omega) (by omega),ZoM,ZoJ,ZoX];refine⟨fun h=> ?_,fun h=> ?_⟩
 ·grind[Nat.lt_trichotomy,Zzg,ZAz,ZIq,ZoJ,ZUo,ZUB,ZwC,ZP5]
 ·have hab:b≤a:=by
   grind[ZAS]
  have hlb:=Ztr hb0;rw[Zo7,Zo7,ZoX];refine⟨fun h=> ?_,fun h=> ?_⟩
  ·have h1:(wd b).length=1:=by grind
   have hbB:b < Bw:=by grind[ZyK]
   have eb:idx (iL (wd b)) 0=some (b:Int):=by rw[ZD3 hb0,ZUB hbB];rfl
   rw[eb,ZoM,ZoJ,ZLf a b hb0 hbB (by omega),ZoM,ZoJ];dsimp only;have hr:a % b < Bw:=Nat.lt_trans (ZUC _ (by omega)) hbB;rw[show ([((a % b:Nat):Int)]:List Int)=iL [a % b]from rfl,ZCV (ZCM hr) (by simp),ZoM,ZoJ,ZoJ];grind[val]
  ·obtain⟨m,hm⟩:∃m,(wd b).length=m+2:=⟨(wd b).length - 2,by
    grind⟩
   have hla:m+2≤(wd a).length:=by
    rcases ZUy (wd a).length (wd b).length with h1 |h1
    ·have:=ZF1 h1;omega
    omega
   have hi:m+1 < (wd b).length:=by omega
   have htop:(wd b)[m+1]≠0:=fun e=>by have h1:=Zpq hi;rw[e,ZUJ,ZUm,ZUh (by omega),ZtB]at h1;have h2:=Zzv ((ZxT b).take (m+1));rw[ZUa,ZUz (by omega)]at h2;have h3:=ZGN hi;omega
   obtain⟨s,hs,hse,hs1,hs2⟩:=ZPW htop ((ZxT b).get hi);have e1:((m+2:Nat):Int) - 1=((m+1:Nat):Int):=by omega
   rw[hm,e1,ZwA hi,ZoO,ZoM,ZoJ,hse,ZoM,ZoJ];refine⟨ZoQ (by omega), ?_⟩;obtain⟨u,hu,hud,hul,huv⟩:=ZFU (wd a) s hs (by omega) (ZxT a);obtain⟨v,hv,hvd,hvl,hvv⟩:=ZFU (wd b) s hs (by omega) (ZxT b);rw[hu,ZoM,ZoJ,hv,ZoM,ZoJ,ZoO,ZoO,ZoO,ZoO,ZoO];rw[ZtB]at huv hvv;have hvlt:val v < Bw ^ (m+2):=by
    have h1:=Zpq hi;rw[ZUh (by omega),ZtB]at h1;have h2:=Zzv ((ZxT b).take (m+1));rw[ZUa,ZUz (by omega)]at h2;have h3:b+1≤Bw ^ (m+1)*((wd b)[m+1]+1):=by rw[ZUD,Nat.mul_one];omega
    have h4:=Nat.mul_le_mul_right (2 ^ s) h3;have h5:=ZUG (Bw ^ (m+1)) (ZIX hs hs2);rw[ZUE]at h4;have h6:=ZUS s;rw[ZUi,ZUK]at h4;rw[hvv,ZUP];show _ < Bw ^ (m+1)*4294967296;omega
   obtain⟨K,hK⟩:∃K,(wd a).length=K+m+1:=⟨(wd a).length - m - 1,by omega⟩;have eK:((wd a).length:Int) - ((m+2:Nat):Int)+1=(K:Int):=by omega
   have ed:((iL v).drop 0).take (((m+2:Nat):Int).toNat - 0)=iL (v.take (m+2)):=by rw[List.drop_zero,ZT1,Nat.sub_zero,ZHA]
   have hdv:val (v.take (m+2))=b*2 ^ s:=by rw[ZEI hvlt,hvv]
   have hdl:(v.take (m+2)).length=m+2:=by rw[ZUa];omega
   have hdd:=hvd.take (m+2);rw[eK,ed,ZT1,ZFq,Zo7 v,Zo7 (ZUd K 0),ZT8];refine⟨Zp8 ⟨by omega,by omega,by omega⟩,ZoQ (by omega),ZoQ (by omega),ZC2 (by omega),ZoQ (by omega), ?_⟩;generalize v.take (m+2)=d at*
   have hp:=ZUS s;have h1:1≤d[m+1]:=by
    rcases ZUq d[m+1]with hz |hz
    ·exfalso;have h1:=Zpq (l:=d) (k:=m+1) (by omega);rw[hz,ZUJ,ZUm,ZUh (by omega)]at h1;have h2:=Zzv (hdd.take (m+1));rw[ZUa,ZUz (by omega)]at h2;rw[hdv]at h1;have h3:=ZGN hi;have:=Nat.le_mul_of_pos_right b hp;omega
    ·exact hz
   have hUlt:a*2 ^ s < Bw ^ K*val d:=by have h2:=ZyK a;have h3:=ZUG (Bw ^ K) (ZGN hi);rw[←ZUM,←Nat.add_assoc,←hK]at h3;rw[hdv,←ZUE];exact Nat.mul_lt_mul_of_pos_right (by omega) hp
   rw[ZoM];refine ZoT (ZLb (s:=s) hdl hdd h1 (by omega) hud huv hUlt (by omega) (by omega)) ?_;rintro y ⟨u',qs,rfl,hu'l,hu'd,hql,hqd,hv',hlt'⟩;dsimp only;have hDpos:0 < val d:=by omega
   have eq1:val qs=a / b:=by rw[←Nat.mul_div_mul_right a b hp,←hdv,←hv',ZUk _ _ hDpos,ZUo hlt',ZUT]
   have eq2:val u'=a % b*2 ^ s:=by rw[←Nat.mul_mod_mul_right,←hdv,←hv',Nat.add_mul_mod_self_right,ZUB hlt']
   have hDlt:=Zzv hdd;rw[hdl]at hDlt;have hut:val (u'.take (m+2))=val u':=ZEI (by omega);obtain⟨k',hk',hkv,hke⟩:=ZSj u' (m+2) (by omega) (by omega);unfold Zxr;rw[ZT1,Nat.sub_zero,hke,ZoO,ZoM,ZoJ,Zo7];refine⟨Zp8 ⟨by omega,by omega,by omega⟩, ?_⟩;dsimp only;rw[ZoM];refine ZoT (ZPx (R:=a % b) (iL qs) hs hu'd (by omega) (by omega) (by rw[hkv,hut,eq2])) ?_;grind[Zxq,ZHA,ZCV,ZoJ]
theorem Zve {a b:Nat} (h:a≤b):(wd a).length≤(wd b).length:=ZA0 (ZUw h (ZyK b))
theorem ZFx:∀(n a b:Nat),b≤a→a*b < 2 ^ n→(wd a).length≤50000→∀f,n < f→ZpI f (iL (wd a)) (iL (wd b))=some (iL (wd (ZUr a b)))
 |n,a,b,hba,hn,ha,0,hf=>absurd hf (by omega)
 |n,a,b,hba,hn,ha,f+1,hf=>by
  show ZqB (ZpI f) _ _=_;unfold ZqB;rw[Zo7]
  by_cases h0:b=0
  ·grind[ZwC]
  ·have hl:=Ztr h0;rw[decide_eq_true (by omega),cond_true,ZEx a b h0 ha (ZUv (Zve hba) ha),ZUU];dsimp only;have hlt:=ZUC a (show 0 < b by omega);cases n with
   |zero=>
    have:1*1≤a*b:=Nat.mul_le_mul (by omega) (by omega);omega
   |succ n=>
    have hdm:=ZUn a b;have hq:1≤a / b:=(Nat.le_div_iff_mul_le (by omega)).2 (by omega);have h1:=ZUG b hq;have h2:b*(2*(a % b))≤b*a:=ZUG b (by omega);rw[ZUH,ZUF b a]at h2;rw[ZFx n b (a % b) (by omega) (by omega) (ZUv (Zve hba) ha) f (by omega),ZUs a b,Nat.gcd_rec b a,ZUs]
theorem ZFy (a b:Nat) (ha:(wd a).length≤50000) (hb:(wd b).length≤50000):ZsQ (iL (wd a)) (iL (wd b))=some (iL (wd (ZUr a b))):=by
 have bnd:∀x y:Nat,x*y < 2 ^ (32*(wd x).length+32*(wd y).length):=fun x y=>by
  have e:∀z,z < 2 ^ (32*(wd z).length):=fun z=>by
   grind[ZyK,ZUO]
  simp_all[ZUI,ZUt,ZUS,ZUM]
 have key:ZpI big (iL (wd a)) (iL (wd b))=some (iL (wd (ZUr a b))):=by
  obtain⟨k,hk,hk2⟩:∃k,big=k+1∧3200004 < k:=⟨36893488147419103231,by rw[big_eq],by omega⟩;rw[hk];rcases ZUy a b with h |h
  ·show ZqB (ZpI k) _ _=_;unfold ZqB;have h0:b≠0:=by omega
   have hl:=Ztr h0;rw[Zo7,decide_eq_true (by omega),cond_true,ZEx a b h0 ha hb,ZUU];dsimp only;rw[ZUB h,ZFx _ b a (by omega) (bnd b a) hb k (by omega),ZUs]
  ·exact ZFx _ a b h (bnd a b) ha (k+1) (by omega)
 grind[ZsQ,Zwh]
end Go.Proofs
namespace Go.Proofs
open Go Eng
def bg (z:Int):ZoN:=⟨decide (z < 0),iL (wd z.natAbs)⟩
theorem ZBd (z:Int):(bg z).Neg=decide (z < 0):=rfl
theorem Zqq (z:Int):(bg z).Words=iL (wd z.natAbs):=rfl
abbrev Wl (n:Nat) (z:Int):Prop:=(wd z.natAbs).length≤n
theorem ZxU (neg:Bool) (n:Nat) (h:(wd n).length≤1000000):Zpy neg (iL (wd n))=some (bg (if neg then -(n:Int)else n)):=by
 unfold Zpy Zxa bg;have hr:ZjC (iL (wd n)).length 4=true:=ZrX (by grind[Zo7]);grind[chk_true,Zo7,ZwC,Ztr]
theorem ZEA (n:Nat) (h:n < 18446744073709551616):Zuk (n:Int)=some (iL (wd n)):=by
 unfold Zuk;have e:([IntKind.wrap .u32 (n:Int),IntKind.wrap .u32 (shrK .u64 (n:Int) 32)]:List Int)=iL [n % 4294967296,n / 4294967296]:=by rw[show (32:Int)=((32:Nat):Int)from rfl,ZCh 32 (by omega),Zxc,ZxS (by omega)];rfl
 have hd:Dg [n % 4294967296,n / 4294967296]:=fun d hd=>by
  grind
 simp_all[ZCV,val,ZUA]
theorem ZNu {n:Nat} (h:n < 18446744073709551616):(wd n).length≤2:=ZA0 (by omega)
theorem ZF2 (z:Int) (h1: -9223372036854775808≤z) (h2:z≤9223372036854775807):Zwt z=some (bg z):=by
 unfold Zwt
 by_cases hz:z < 0
 ·have e:IntKind.wrap .u64 (0 - IntKind.wrap .u64 z)=((z.natAbs:Nat):Int):=by grind[IntKind.wrap_u64]
  grind[ZEA,ZxU,ZNu]
 ·have e:IntKind.wrap .u64 z=((z.natAbs:Nat):Int):=by grind[IntKind.wrap_u64]
  grind[ZEA,ZxU,ZNu]
theorem ZBP (z:Int) (h:Wl 256 z):ZvG (bg z)=some true:=by
 unfold Wl at h;have top:∀hp:0 < (wd z.natAbs).length,∃x:Nat,idx (iL (wd z.natAbs)) (((wd z.natAbs).length:Int) - 1)=some (x:Int)∧x≠0:=fun hp=>by
  refine⟨(wd z.natAbs)[(wd z.natAbs).length - 1], ?_,fun e=> ?_⟩
  ·grind[ZwA]
  ·have hi:(wd z.natAbs).length - 1 < (wd z.natAbs).length:=by omega
   have h1:=Zpq hi;rw[e,ZUJ,ZUm,ZUh (by omega),ZtB]at h1;have h2:=Zzv ((ZxT z.natAbs).take ((wd z.natAbs).length - 1));rw[ZUa,ZUz (by omega)]at h2;have h3:=ZGN hi;omega
 unfold ZvG ZpR;rw[Zqq,ZBd,Zo7,decide_eq_true (by omega),cond_true]
 by_cases h0:(wd z.natAbs).length=0
 ·grind[ZPp]
 ·obtain⟨x,hx,hx0⟩:=top (by omega);have e0:(((wd z.natAbs).length:Int) == 0)=false:=beq_eq_false_iff_ne.2 (by omega);have e1:((x:Int) != 0)=true:=by simp_all
  grind[ZoQ,chk_true]
theorem ZKA (x y:Int):(if (!((bg x).Neg == (bg y).Neg))=true then -((x.natAbs*y.natAbs:Nat):Int)else ((x.natAbs*y.natAbs:Nat):Int))=x*y:=by
 rw[ZBd,ZBd]
 grind
theorem ZFS {x y:Nat} {n m:Nat} (hx:(wd x).length≤n) (hy:(wd y).length≤m):(wd (x*y)).length≤n+m:=by refine ZA0 ?_;have h1:=ZUI (ZyK x) (ZUt (ZyK y)) (Nat.pow_pos (by decide));rw[←ZUM]at h1;grind[ZUx,ZUN]
theorem ZAQ (x y:Int) (hx:Wl 50000 x) (hy:Wl 50000 y):Zo5 (bg x) (bg y)=some (bg (x*y)):=by unfold Zo5;have:=ZFS hx hy;grind[Zqq,ZGk,ZxU,ZKA]
theorem ZH5 {x y n:Nat} (hx:(wd x).length≤n) (hy:(wd y).length≤n):(wd (x+y)).length≤n+1:=by refine ZA0 ?_;grind[ZUx,ZyK,ZUN]
theorem ZL4 (x y:Int) (hx:Wl 50000 x) (hy:Wl 50000 y):Zx4 (bg x) (bg y)=some (bg (x+y)):=by
 unfold Wl at hx hy;unfold Zx4;have h1:=ZH5 hx hy;rw[Zqq,Zqq,ZBd,ZBd];have opp:decide (x < 0)≠decide (y < 0)→Zp2 (iL (wd x.natAbs)) (iL (wd y.natAbs))=some (ZFZ x.natAbs y.natAbs):=fun _=>ZEE _ _ (by omega) (by omega)
 by_cases hs:decide (x < 0)=decide (y < 0)
 ·grind[ZJ2,ZxU]
 ·rw[beq_eq_false_iff_ne.2 hs,cond_false,opp hs,ZUU];rcases ZUy x.natAbs y.natAbs with hlt |hge
  ·have:=Zve (Nat.sub_le y.natAbs x.natAbs);grind[ZAS,ZIm,ZxU]
  ·have hn:ZFZ x.natAbs y.natAbs≥0:=by
    grind[ZAz,Zzg]
   have:=Zve (Nat.sub_le x.natAbs y.natAbs);grind[ZIm,ZxU]
end Go.Proofs
namespace Go.Proofs
open Go Eng
def fOf (q:Rat):ZoG:=⟨bg q.num,bg (q.den:Int)⟩
theorem ZH4 {x n:Nat} (g:Nat) (h:(wd x).length≤n):(wd (x / g)).length≤n:=ZUv (Zve (ZUp x g)) h
theorem ZJy {x y n:Nat} (hy:0 < y) (h:(wd y).length≤n):(wd (ZUr x y)).length≤n:=ZUv (Zve (Nat.gcd_le_right x hy)) h
theorem ZCJ (x y:Int) (hy:y≠0) (hx1:Wl 50000 x) (hy1:Wl 50000 y):Zro (bg x) (bg y)=some (fOf (Rat.divInt x y)):=by
 have hy0:0 < y.natAbs:=by omega
 have hg0:ZUr x.natAbs y.natAbs≠0:=fun e=>by simp_all
 have hgl:=ZJy (x:=x.natAbs) hy0 hy1;have hxl:=ZH4 (ZUr x.natAbs y.natAbs) hx1;have hyl:=ZH4 (ZUr x.natAbs y.natAbs) hy1;unfold Zro;rw[Zqq,Zqq,ZFy _ _ hx1 hy1,ZUU,ZEx _ _ hg0 hx1 hgl,ZUU];dsimp only;rw[ZEx _ _ hg0 hy1 hgl,ZUU];dsimp only;rw[ZxU _ _ (by omega),ZUU,ZxU _ _ (by omega),ZUU,ZBd,ZBd];unfold fOf;rw[Rat.num_divInt,Rat.den_divInt,if_neg hy];have eg:Int.gcd y x=ZUr x.natAbs y.natAbs:=by rw[Int.gcd_comm];rfl
 rw[eg];have key:(if (!(decide (x < 0) == decide (y < 0)))=true then -((x.natAbs / ZUr x.natAbs y.natAbs:Nat):Int)else ((x.natAbs / ZUr x.natAbs y.natAbs:Nat):Int))=y.sign*x / (ZUr x.natAbs y.natAbs:Int):=by
  obtain⟨k,hk⟩:=Nat.gcd_dvd_left x.natAbs y.natAbs;generalize ZUr x.natAbs y.natAbs=g at*
  have hgp:0 < g:=by omega
  have e1:x.natAbs / g=k:=by simp_all
  have e2:((g:Int)*(k:Int)) / (g:Int)=k:=Int.mul_ediv_cancel_left _ (by omega);have e3:(-((g:Int)*(k:Int))) / (g:Int)= -k:=by grind[Int.mul_neg,Int.mul_ediv_cancel_left]
  grind
 simp_all
theorem ZKz:∀l:List Int,l.length≤1000→(∀z∈l,Wl 256 z)→Zy8 (l.map bg)=some true:=fun l hl h=>by
 refine Zp6 ?_;unfold Zy8;rw[ZoM,List.length_map];refine ZoT (ZtG ZDm l.length (by omega) (fun i (_:Unit)=>(l.map bg,(l.length:Int),i)) (fun _ _=>True) (Q:=fun r=>r= .brk ()) () trivial ?_ ?_) ?_
 ·rintro rec i ⟨⟩ hi _ ih;unfold ZzH Zxb;dsimp only;rw[ZoX];refine⟨fun _=> ?_,fun h=>by simp_all⟩;rw[Zqj (by simp_all),ZoM,ZoJ,List.getElem_map,ZBP _ (h _ (List.getElem_mem hi)),ZoM,ZoJ];rw[ZPK,cond_false,ZoO];exact⟨ZoQ (by omega),ih () trivial⟩
 ·grind[ZzH,Zxb,ZoJ]
 ·rintro r rfl;exact ZoJ.2 rfl
abbrev Wq (n:Nat) (q:Rat):Prop:=Wl n q.num∧Wl n (q.den:Int)
theorem ZFh:iL (wd 1)=[1]:=by rw[ZD3 (by decide),show 1 / Bw=0 from rfl,ZwC];rfl
theorem ZCT (q:Rat) (h:Wq 256 q):ZqX (fOf q)=some true:=by
 unfold ZqX Ztz fOf;have hb:=ZKz [q.num,(q.den:Int)] (by simp) (fun z hz=>by
  simp only[ZUb,ZUc,or_false]at hz;rcases hz with rfl |rfl
  ·exact h.1
  ·exact h.2)
 have hd:=q.den_nz;have hl:=Ztr (n:=(q.den:Int).natAbs) (by omega);have hn:=h.1;have hdl:=h.2;unfold Wl at hn hdl;dsimp only;rw[show ([bg q.num,bg (q.den:Int)]:List ZoN)=[q.num,(q.den:Int)].map bg from rfl,hb,ZUU,cond_true,Zqq,Zqq,Zo7,decide_eq_true (by omega),cond_true,ZBd,decide_eq_false (by omega),Bool.not_false,cond_true,ZFy _ _ (by omega) (by omega),ZUU];have hc:ZUr q.num.natAbs (q.den:Int).natAbs=1:=q.reduced;grind[ZA0,ZFh,ZEE,Zzg]
end Go.Proofs
namespace Go.Proofs
open Go Eng
def Sz (k:Nat) (q:Rat):Prop:=q.num.natAbs < 2 ^ k∧q.den < 2 ^ k
theorem Sz.mono {k l:Nat} {q:Rat} (h:Sz k q) (hl:k≤l):Sz l q:=⟨ZUx h.1 (ZUN (by decide) hl),ZUx h.2 (ZUN (by decide) hl)⟩
theorem ZGg {n k:Nat} (h:n < 2 ^ k) (m:Nat) (hk:k≤32*m):(wd n).length≤m:=by refine ZA0 (ZUx h ?_);rw[show Bw=2 ^ 32 from rfl,←ZUO];simp_all[ZUN]
theorem Sz.wq {k:Nat} {q:Rat} (h:Sz k q) (hk:k≤8192):Wq 256 q:=⟨ZGg h.1 256 (by omega),ZGg (n:=(q.den:Int).natAbs) (by rw[ZTX];exact h.2) 256 (by omega)⟩
theorem ZD6 {x y:Int} {k:Nat} (hy:y≠0) (h1:x.natAbs < 2 ^ k) (h2:y.natAbs < 2 ^ k):Sz k (Rat.divInt x y):=by
 unfold Sz;rw[Rat.num_divInt,Rat.den_divInt,if_neg hy];refine⟨ZUw ?_ h1,ZUw (ZUp _ _) h2⟩;have hd:((Int.gcd y x:Nat):Int)∣y.sign*x:=Int.dvd_trans (Int.gcd_dvd_right y x) (Int.dvd_mul_left _ _);simp_all[Int.natAbs_ediv_of_dvd,ZTW,ZUp,Int.natAbs_sign_of_ne_zero]
theorem ZCK {x y k l:Nat} (hx:x < 2 ^ k) (hy:y < 2 ^ l):x*y < 2 ^ (k+l):=by simp_all[ZUM,ZUI,ZUt,ZUS]
theorem ZGb (a b:Rat):Rat.divInt (a.num*(b.den:Int)+b.num*(a.den:Int)) ((a.den:Int)*(b.den:Int))=a+b:=by have h1:=a.den_nz;have h2:=b.den_nz;rw[←Rat.divInt_add_divInt _ _ (by omega) (by omega),Rat.num_divInt_den,Rat.num_divInt_den]
theorem Sz.add {a b:Rat} {k l:Nat} (ha:Sz k a) (hb:Sz l b):Sz (k+l+1) (a+b):=by
 rw[←ZGb];have h1:=a.den_nz;have h2:=b.den_nz;have q1:=ZCK ha.1 hb.2;have q2:=ZCK ha.2 hb.1;have q3:=ZCK ha.2 hb.2;have hp:=ZUS (k+l);refine ZD6 (ZTV (by omega) (by omega)) ?_ ?_
 all_goals grind[Int.natAbs_add_le,ZTW]
theorem ZM2 {q:Rat} (h:Wq 256 q):decide ((if ((fOf q).Den.Words.length:Int) > ((fOf q).Num.Words.length:Int)then ((fOf q).Den.Words.length:Int)else ((fOf q).Num.Words.length:Int)) > 256)=false:=by grind[fOf,Zqq,Zo7]
theorem ZDz {y:Int} (hy:y≠0):(((bg y).Words.length:Int) == 0)=false:=by grind[Ztr,Zqq,Zo7]
theorem ZMn {a b:Rat} {k l:Nat} (ha:Sz k a) (hb:Sz l b) (hk:k+l+1≤8192):ZzS (fOf a) (fOf b)=some (fOf (a+b),0):=by
 have h1:=a.den_nz;have h2:=b.den_nz;have qa:=ha.wq (by omega);have qb:=hb.wq (by omega);have w:∀{x y:Int},Wl 256 x→Wl 256 y→Wl 512 (x*y):=fun hx hy=>by unfold Wl;rw[ZTW];exact ZFS hx hy
 have m:∀{n:Nat} {x:Int},Wl n x→n≤50000→Wl 50000 x:=fun h h'=>ZUv h h'
 have w1:=w qa.1 qb.2;have w2:=w qb.1 qa.2;have w3:=w qa.2 qb.2;have w4:Wl 513 (a.num*(b.den:Int)+b.num*(a.den:Int)):=ZUv (Zve (Int.natAbs_add_le _ _)) (ZH5 w1 w2);have hd:(a.den:Int)*(b.den:Int)≠0:=ZTV (by omega) (by omega);unfold ZzS ZqS;rw[ZCT a qa,ZUU,ZPK,cond_false,ZCT b qb,ZUU,ZPK];unfold Zrp ZBY;rw[cond_false];show ((((Zo5 (bg a.num) (bg (b.den:Int))).bind fun q=>(Zo5 (bg b.num) (bg (a.den:Int))).bind fun q_1=>(Zx4 q q_1).bind fun num=>(Zo5 (bg (a.den:Int)) (bg (b.den:Int))).bind fun den=>some (num,den)).bind _).bind _)=_;rw[ZAQ _ _ (m qa.1 (by omega)) (m qb.2 (by omega)),ZUU,ZAQ _ _ (m qb.1 (by omega)) (m qa.2 (by omega)),ZUU,ZL4 _ _ (m w1 (by omega)) (m w2 (by omega)),ZUU,ZAQ _ _ (m qa.2 (by omega)) (m qb.2 (by omega)),ZUU,ZUU];dsimp only;rw[ZDz hd,cond_false,ZCJ _ _ hd (m w4 (by omega)) (m w3 (by omega)),ZUU,ZGb,ZM2 ((ha.add hb).wq hk),cond_false,ZUU]
end Go.Proofs
namespace Go.Proofs
open Go Eng
theorem ZFg (z:Int):Ztx (bg z)=some (bg (-z)):=by
 unfold Ztx Zv1;rw[ZBd,Zqq,Zo7]
 grind[bg,ZwC,Ztr]
theorem ZNH (q:Rat):fOf (-q)=⟨bg (-q.num),bg (q.den:Int)⟩:=rfl
theorem Sz.neg {q:Rat} {k:Nat} (h:Sz k q):Sz k (-q):=by show (-q.num).natAbs < 2 ^ k∧q.den < 2 ^ k;rw[ZTY];exact h
theorem ZPu {a b:Rat} {k l:Nat} (ha:Sz k a) (hb:Sz l b) (hk:k+l+1≤8192):ZAX (fOf a) (fOf b)=some (fOf (a - b),0):=by unfold ZAX;rw[ZCT b (hb.wq (by omega)),ZUU,ZPK,cond_false];show ((Ztx (bg b.num)).bind fun q_1=>(ZqS (fOf a) (ZoG.mk q_1 (bg (b.den:Int)))).bind fun x=>some (x.1,x.2))=_;have:=ZMn ha hb.neg hk;grind[ZzS,ZFg,ZNH]
theorem ZEl {a b:Rat} {k l:Nat} (ha:Sz k a) (hb:Sz l b) (hk:k+l+1≤8192):ZBS (fOf a) (fOf b)=some (fOf (a+b)):=by grind[ZBS,ZzY,ZMn]
theorem ZFk {a b:Rat} {k l:Nat} (ha:Sz k a) (hb:Sz l b) (hk:k+l+1≤8192):ZCz (fOf a) (fOf b)=some (fOf (a - b)):=by grind[ZCz,ZzY,ZPu]
def ZEX (a b:Rat):Int:=if a < b then -1 else if b < a then 1 else 0
theorem ZEZ (a b:Rat):a < b↔a.num*(b.den:Int) < b.num*(a.den:Int):=Rat.lt_iff a b
theorem ZIp {a b:Rat} (qa:Wq 256 a) (qb:Wq 256 b):ZwY (fOf a) (fOf b)=some (ZEX a b):=by
 have w:∀{x y:Int},Wl 256 x→Wl 256 y→Wl 50000 (x*y):=fun hx hy=>by unfold Wl;rw[ZTW];exact ZUv (ZFS hx hy) (by decide)
 have m:∀{x:Int},Wl 256 x→Wl 50000 x:=fun h=>ZUv h (by decide)
 unfold ZwY;rw[ZCT a qa,ZUU,ZPK,cond_false,ZCT b qb,ZUU,ZPK];unfold Zzp;rw[cond_false];show ((Zo5 (bg a.num) (bg (b.den:Int))).bind fun q=>(Zo5 (bg b.num) (bg (a.den:Int))).bind _)=_;rw[ZAQ _ _ (m qa.1) (m qb.2),ZUU,ZAQ _ _ (m qb.1) (m qa.2),ZUU,ZFg,ZUU];have w2:Wl 50000 (-(b.num*(a.den:Int))):=by grind[ZTY]
 rw[ZL4 _ _ (w qa.1 qb.2) w2,ZUU,ZBd,Zqq,Zo7];unfold ZEX;have h1:=ZEZ a b;have h2:=ZEZ b a;generalize a.num*(b.den:Int)=x at*
 generalize b.num*(a.den:Int)=y at*
 by_cases hl:a < b
 ·grind
 ·have hn:¬x < y:=fun h=>hl (h1.2 h)
  rw[if_neg hl,decide_eq_false (by omega),cond_false]
  by_cases hg:b < a
  ·have:=Ztr (n:=(x+ -y).natAbs) (by grind);simp_all
  ·have hn2:¬y < x:=fun h=>hg (h2.2 h)
   rw[if_neg hg,show x+ -y=0 by omega,show (0:Int).natAbs=0 from rfl,ZwC];rfl
theorem ZNq (x y:Int) (hy:y≠0) (hx1:Wl 256 x) (hy1:Wl 256 y):ZAo (bg x) (bg y)=some (fOf (Rat.divInt x y),0):=by
 have hb:=ZKz [x,y] (by simp) (fun z hz=>by
  grind)
 grind[ZAo,ZDz,ZCJ]
theorem ZRW {z:Int} (h1: -9223372036854775808≤z) (h2:z≤9223372036854775807):Wl 256 z:=ZUv (ZNu (by omega)) (by decide)
theorem ZPR (x y:Int) (hy:y≠0) (h1: -9223372036854775808≤x) (h2:x≤9223372036854775807) (h3: -9223372036854775808≤y) (h4:y≤9223372036854775807):ZAn x y=some (fOf (Rat.divInt x y),0):=by grind[ZAn,ZF2,ZNq,ZRW]
theorem ZEt:Zx3=some (fOf 0):=by grind[Zx3,ZPR,Rat.zero_divInt]
theorem ZEk (x y:Int) (hy:y≠0) (h1: -9223372036854775808≤x) (h2:x≤9223372036854775807) (h3: -9223372036854775808≤y) (h4:y≤9223372036854775807):ZAk x y=some (fOf (Rat.divInt x y)):=by grind[ZAk,ZPR]
theorem ZE8:Sz 1 0:=by simp_all[Sz]
theorem ZEv {a:Rat} (qa:Wq 256 a):Zzm (fOf a)=some (ZEX a 0):=by unfold Zzm;rw[ZEt,ZUU,ZIp qa (ZE8.wq (by decide)),ZUU]
theorem ZF3 (a b:Rat):Rat.divInt (a.num*(b.den:Int)) ((a.den:Int)*b.num)=a / b:=by grind[Rat.divInt_mul_divInt,Rat.num_divInt_den,Rat.inv_def]
theorem Sz.div {a b:Rat} {k l:Nat} (hb0:b≠0) (ha:Sz k a) (hb:Sz l b):Sz (k+l) (a / b):=by
 rw[←ZF3];have h1:=a.den_nz;have h2:b.num≠0:=fun e=>hb0 (Rat.num_eq_zero.1 e)
 refine ZD6 (ZTV (by omega) h2) ?_ ?_
 ·rw[ZTW,ZTX];exact ZCK ha.1 hb.2
 ·rw[ZTW,ZTX];exact ZCK ha.2 hb.1
theorem ZQn {a b:Rat} {k l:Nat} (hb0:b≠0) (ha:Sz k a) (hb:Sz l b) (hk:k+l≤8192):ZAY (fOf a) (fOf b)=some (fOf (a / b),0):=by
 have h1:=a.den_nz;have h2:b.num≠0:=fun e=>hb0 (Rat.num_eq_zero.1 e)
 have qa:=ha.wq (by omega);have qb:=hb.wq (by omega);have w:∀{x y:Int},Wl 256 x→Wl 256 y→Wl 50000 (x*y):=fun hx hy=>by unfold Wl;rw[ZTW];exact ZUv (ZFS hx hy) (by decide)
 have m:∀{x:Int},Wl 256 x→Wl 50000 x:=fun h=>ZUv h (by decide)
 have w1:=w qa.1 qb.2;have w3:=w qa.2 qb.1;have hd:(a.den:Int)*b.num≠0:=ZTV (by omega) h2;unfold ZAY Zuz;rw[ZCT a qa,ZUU,ZPK,cond_false,ZCT b qb,ZUU,ZPK];unfold ZqK ZBZ;rw[cond_false];show ((((Zo5 (bg a.num) (bg (b.den:Int))).bind fun num=>(Zo5 (bg (a.den:Int)) (bg b.num)).bind fun den=>some (num,den)).bind _).bind _)=_;rw[ZAQ _ _ (m qa.1) (m qb.2),ZUU,ZAQ _ _ (m qa.2) (m qb.1),ZUU,ZUU];dsimp only;rw[ZDz hd,cond_false,ZCJ _ _ hd w1 w3,ZUU,ZF3,ZM2 ((Sz.div hb0 ha hb).wq hk),cond_false,ZUU]
theorem ZG1 {a b:Rat} {k l:Nat} (hb0:b≠0) (ha:Sz k a) (hb:Sz l b) (hk:k+l≤8192):ZDk (fOf a) (fOf b)=some (fOf (a / b)):=by grind[ZDk,ZzY,ZQn]
end Go.Proofs
namespace Go.Proofs
open Go Eng
theorem ZH8:∀n w,ZpG n w=Zp9 n w
 |0,_=>rfl
 |n+1,w=>by have:ZpG n=Zp9 n:=funext (ZH8 n);show Zyx (ZpG n) w=Zu2 (Zp9 n) w;rw[this];rfl
theorem ZIC (w:List Int):Zpm w=Zpr w:=by unfold Zpm Zpr;rw[ZH8];rfl
theorem ZDH {l:List Nat} (h:Dg l) (hl:l.length≤1000000):Zpm (iL l)=some (iL (wd (val l))):=by grind[ZIC,ZCV]
theorem ZDB (neg:Bool) {l:List Nat} (h:Dg l) (hl:l.length≤1000000):Zpc neg (iL l)=some (bg (if neg then -(val l:Int)else val l)):=by
 unfold Zpc ZtQ;rw[ZDH h hl,ZUU,Zo7];grind[bg,ZwC,Ztr]
theorem ZAV (a:ZoN):ZpZ a=ZvG a:=rfl
end Go.Proofs
namespace Go.Proofs
open Go Eng
theorem ZFA (a b:Nat) (ha:(wd a).length≤100000) (hb:(wd b).length≤100000):ZpC (iL (wd a)) (iL (wd b))=some (ZFZ a b):=by
 refine Zp6 ?_;unfold ZpC;rw[Zo7,Zo7,ZoX];refine⟨fun h=> ?_,fun h=> ?_⟩
 ·grind[ZoJ,ZAS,ZF1,ZAz]
 ·have hl:(wd a).length=(wd b).length:=by grind
  rw[ZoO,ZoM];refine⟨ZoQ (by omega), ?_⟩;refine ZoT (ZEp ZBG (wd a).length (by omega) (fun i (s:Unit)=>(iL (wd a),iL (wd b),i)) (fun k _=>(wd a).drop k=(wd b).drop k)
   (Q:=fun r=>r= .ret (ZFZ a b)∨r= .brk ()∧a=b) () (by simp_all) ?_ ?_) ?_
  ·rintro rec k ⟨⟩ hk hP ih;have hk2:k < (wd b).length:=by omega
   unfold Zvs Zsz;dsimp only;rw[ZoX];refine⟨fun _=> ?_,fun h=>by simp_all⟩;have ha:=ZBQ hk;have hb:=ZBQ hk2;rw[ZtB]at ha hb;have la:val ((wd a).take k) < Bw ^ k:=by have:=Zzv ((ZxT a).take k);grind
   have lb:val ((wd b).take k) < Bw ^ k:=by have:=Zzv ((ZxT b).take k);grind
   rw[ZwA hk,ZoM,ZoJ,ZwA hk2,ZoM,ZoJ,ZoX];refine⟨fun hc=> ?_,fun hc=> ?_⟩
   ·have h1:(wd a)[k] < (wd b)[k]:=by grind
    have:a < b:=by rw[ha,hb,hP];exact ZGh (A:=0) (B:=0) la (by omega)
    grind[ZoJ,ZAS]
   ·rw[ZoM,ZoJ,ZoM,ZoJ,ZoX];refine⟨fun hc2=> ?_,fun hc2=> ?_⟩
    ·have h1:(wd b)[k] < (wd a)[k]:=by grind
     have:b < a:=by rw[ha,hb,hP];exact ZGh (A:=0) (B:=0) lb (by omega)
     grind[ZoJ,ZAz]
    ·rw[ZoO];refine⟨ZoQ (by omega),ih () ?_⟩;grind[ZT6]
  all_goals grind[Zvs,Zsz,ZoJ,ZtB,ZwO,Zzg]
theorem ZHu {a:Nat} (k:Nat) (hk:k≤32):shlK .u32 (a:Int) (k:Int)=((a*2 ^ k % 4294967296:Nat):Int):=by
 unfold shlK;rw[ZT1,show IntKind.bits .u32=32 from rfl,ZUz (by omega)];have e:(a:Int)*(2:Int) ^ k=((a*2 ^ k:Nat):Int):=by simp_all
 rw[e,Zxc]
theorem ZH7 (a d:Nat) (hd:d≤1) (ha:(wd a).length≤100000):Zr0 (iL (wd a)) (d:Int)=some (iL (wd (2*a+d))):=by
 refine Zp6 ?_;unfold Zr0;rw[ZoM];refine ZoT (ZtG ZA3 (wd a).length (by omega) (fun i (s:Nat×List Nat)=>(iL (wd a),(s.1:Int),i,iL s.2)) (fun i s=>s.1≤1∧s.2.length=i∧Dg s.2∧val s.2+Bw ^ i*s.1=2*val ((wd a).take i)+d)
  (Q:=fun y=>∃(c:Nat) (o:List Nat),y=((c:Int),iL o)∧c≤1∧Dg o∧o.length=(wd a).length∧val o+Bw ^ (wd a).length*c=2*a+d) (d,[]) ⟨hd,rfl,ZDy,by simp[val]⟩ ?_ ?_) ?_
 ·rintro rec i ⟨c,o⟩ hi ⟨hc,hl,hod,hv⟩ ih;dsimp only at hc hl hod hv ih;have h1:=(ZxT a).get hi;unfold Zut ZrQ;dsimp only;rw[ZoX,Zo7];refine⟨fun _=> ?_,fun h=>by simp_all⟩;rw[ZwA hi,ZoM,ZoJ];generalize ex:(wd a)[i]=x at h1;have eor:orK .u32 (shlK .u32 (x:Int) 1) (c:Int)=((c+x*2 ^ 1 % Bw:Nat):Int):=by rw[show (1:Int)=((1:Nat):Int)from rfl,ZHu 1 (by omega),ZGZ (ZUC _ (by decide)) (by omega),Nat.or_comm];congr 1;exact ZGs (by decide) (by omega) h1
  have esh:shrK .u32 (x:Int) 31=((x / 2 ^ 31:Nat):Int):=ZDR 31 (by omega);rw[eor,ZUU,esh,ZoO,ZoO,ZoO,ZoO,Zo7];have hx:c+x*2 ^ 1 % Bw < Bw:=by grind
  refine⟨by decide,ZrX (by grind),by decide,ZoQ (by omega), ?_⟩;have:=ih (x / 2 ^ 31,o++[c+x*2 ^ 1 % Bw]) ⟨by grind,by grind,hod.app (ZCM hx), ?_⟩
  ·rw[ZFr]at this;exact this
  ·dsimp only;have q:c+x*2 ^ 1 % Bw+Bw*(x / 2 ^ 31)=c+2*x:=by simp only[Bw]at h1⊢;omega
   have q2:Bw ^ i*(c+x*2 ^ 1 % Bw+Bw*(x / 2 ^ 31))=Bw ^ i*(c+2*x):=by rw[q]
   have q3:Bw ^ i*(2*x)=2*(Bw ^ i*x):=ZUH _ _ _;rw[ZUD,ZUD (Bw ^ i) c (2*x),q3]at q2;grind[Zym,Zpq]
 ·rintro rec ⟨c,o⟩ ⟨hc,hl,hod,hv⟩;dsimp only at hc hl hod hv;unfold Zut ZrQ;dsimp only;rw[ZoX,Zo7];refine⟨fun h=>by have:=of_decide_eq_true h;omega,fun _=> ?_⟩;rw[ZoJ];rw[ZUg,ZtB]at hv;exact⟨c,o,rfl,hc,hod,hl,hv⟩
 ·rintro y ⟨c,o,rfl,hc,hod,hl,hv⟩;dsimp only;unfold Zvl;have e:iL o++[(c:Int)]=iL (o++[c]):=by rw[ZFr];rfl
  rw[ZoO,Zo7,e,ZDH (hod.app (ZCM (by simp only[Bw];omega))) (by simp;omega),ZoM,ZoJ,ZoJ,Zym,hl,hv];exact⟨ZrX (by simp only[ZT9];omega),rfl⟩
end Go.Proofs
namespace Go.Proofs
open Go Eng
theorem ZM3 (t:Int):shrK .i64 t 32=t / 4294967296:=by grind[shrK,IntKind.bits]
theorem ZE9 (a b:Nat) (hab:b≤a) (ha:(wd a).length≤100000):Zqw (iL (wd a)) (iL (wd b))=some (iL (wd (a - b))):=by
 have hlb:(wd b).length≤(wd a).length:=Zve hab;refine Zp6 ?_;unfold Zqw;rw[ZoM];refine ZoT (ZtG ZBC (wd a).length (by omega) (fun i (s:Nat×List Nat)=>(iL (wd a),iL (wd b), -(s.1:Int),i,iL s.2)) (fun i s=>s.1≤1∧s.2.length=i∧Dg s.2∧val ((wd a).take i)+Bw ^ i*s.1=val s.2+val ((wd b).take i))
  (Q:=fun y=>∃(o:List Nat),y=iL o∧Dg o∧o.length=(wd a).length∧val o=a - b) (0,[]) ⟨by simp,rfl,ZDy,by simp[val]⟩ ?_ ?_) ?_
 ·rintro rec i ⟨c,o⟩ hi ⟨hc,hl,hd,hv⟩ ih;dsimp only at hc hl hd hv ih;have h1:=(ZxT a).get hi;have h2:=ZDW (ZxT b) i;have ey0:(wd b).getD i 0=(if i < (wd b).length then (wd b).getD i 0 else 0):=by
   simp_all
  have fin:∀y:Nat,(wd b).getD i 0=y→wp (Zrz (fun a b c i out=>rec (a,b,c,i,out)) (iL (wd a)) (iL (wd b)) (-(c:Int)+((wd a)[i]:Int) - (y:Int)) (i:Int) (iL o)) (fun y=>∃(o:List Nat),y=iL o∧Dg o∧o.length=(wd a).length∧val o=a - b):=fun y ey=>by
   rw[ey]at h2;generalize ex:(wd a)[i]=x at h1;have ew:IntKind.wrap .u32 (-(c:Int)+(x:Int) - (y:Int))=(((x+4294967296 - y - c) % 4294967296:Nat):Int):=by grind[IntKind.wrap_u32]
   have es:shrK .i64 (-(c:Int)+(x:Int) - (y:Int)) 32= -(((if x < y+c then 1 else 0):Nat):Int):=by grind[ZM3]
   unfold Zrz;rw[ew,es,ZoO,ZoO,ZoO,Zo7];refine⟨ZrX (by grind),by decide,ZoQ (by omega), ?_⟩;have:=ih ((if x < y+c then 1 else 0),o++[(x+4294967296 - y - c) % 4294967296]) ⟨by grind,by grind,hd.app (ZCM (ZUC _ (by decide))), ?_⟩
   ·rw[ZFr]at this;exact this
   ·dsimp only;rw[Zym,hl,ZUP,Zpq hi,Zzi,ex,ey,ZUE];have e:x+Bw*(if x < y+c then 1 else 0)=(x+4294967296 - y - c) % 4294967296+y+c:=by grind
    grind
  unfold Zvm Zsv;dsimp only;rw[ZoX,Zo7,Zo7];refine⟨fun _=> ?_,fun h=>by simp_all⟩;have wx:IntKind.wrap .i64 ((wd a)[i]:Int)=((wd a)[i]:Int):=wrap_i64 (by grind);rw[ZwA hi,ZoM,ZoJ,wx,ZoO,ZoX];refine⟨ZoQ (by grind),fun h=> ?_,fun h=> ?_⟩
  ·have hib:i < (wd b).length:=by have:=of_decide_eq_true h;omega
   have hy:=(ZxT b).get hib;have wy:IntKind.wrap .i64 ((wd b)[i]:Int)=((wd b)[i]:Int):=wrap_i64 (by simp only[Bw]at hy;omega);rw[ZwA hib,ZoM,ZoJ,wy,ZoO];grind[ZoQ]
  simp_all
 ·rintro rec ⟨c,o⟩ ⟨hc,hl,hd,hv⟩;unfold Zvm Zsv;dsimp only at hc hl hd hv⊢
  rw[ZoX,Zo7];refine⟨fun h=>by have:=of_decide_eq_true h;omega,fun _=> ?_⟩;rw[ZoJ];rw[ZUg,ZUh (by omega),ZtB,ZtB]at hv;have:=Zzv hd;rw[hl]at this;have hc0:c=0:=by
   rcases ZUq c with h |h
   ·exact h
   ·have:c=1:=by omega
    rw[this,Nat.mul_one]at hv;omega
  rw[hc0,ZUJ]at hv;exact⟨o,rfl,hd,hl,by omega⟩
 grind[ZwF,ZDH,ZoJ]
end Go.Proofs
namespace Go.Proofs
open Go Eng
theorem ZE0 (a:Nat) (ha:(wd a).length≤100000):Zqe (iL (wd a))=some (iL (wd (a / 2))):=by
 refine Zp6 ?_;unfold Zqe;rw[List.nil_append,ZoO,ZoM,Zo7];refine⟨ZrX (by grind), ?_⟩;refine ZoT (ZtG ZBl (wd a).length (by omega) (fun i (o:List Nat)=>(iL (wd a),((wd a).length:Int),i,iL (o++(wd a).drop o.length))) (fun i o=>o.length=i∧Dg o∧val o*2+(wd a).getD 0 0 % 2=val ((wd a).take i)+Bw ^ i*((wd a).getD i 0 % 2))
  (Q:=fun y=>∃(o:List Nat),y=iL o∧Dg o∧o.length=(wd a).length∧val o=a / 2) [] ⟨rfl,ZDy,by simp[val]⟩ ?_ ?_) ?_
 ·rintro rec i o hi ⟨hol,hod,hov⟩ ih;have h1:=(ZxT a).get hi;have hyB:=ZDW (ZxT a) (i+1);have hlen:(o++(wd a).drop o.length).length=(wd a).length:=by grind
  have gx:(iL (o++(wd a).drop o.length))[i]? =some ((wd a)[i]:Int):=by simp_all[ZDv]
  have fin:∀z:Nat,z=(wd a)[i] / 2+(wd a).getD (i+1) 0*2 ^ 31 % Bw→wp (Zrd (fun a t9 i out=>rec (a,t9,i,out)) (iL (wd a)) ((wd a).length:Int) (i:Int) (iL ((o++(wd a).drop o.length).set i z))) (fun y=>∃(o:List Nat),y=iL o∧Dg o∧o.length=(wd a).length∧val o=a / 2):=fun z hz=>by
   unfold Zrd;have es:(o++(wd a).drop o.length).set i z=(o++[z])++(wd a).drop (o++[z]).length:=by rw[ZUe _ _ (by omega),hol,Nat.sub_self,←ZT6 (h:=hi),List.set_cons_zero];simp[hol]
   have eg:(wd a).getD i 0=(wd a)[i]:=by simp_all
   rw[eg]at hov;rw[ZoO,es];generalize ex:(wd a)[i]=x at*
   generalize ey:(wd a).getD (i+1) 0=y at*
   have hzB:z < Bw:=by grind
   refine⟨ZoQ (by omega),ih (o++[z]) ⟨by grind,hod.app (ZCM hzB), ?_⟩⟩;have hd1:z*2+x % 2=x+Bw*(y % 2):=by grind
   grind[Zym,Zpq]
  unfold ZuT Zsg;dsimp only;rw[ZoX];refine⟨fun _=> ?_,fun h=>by simp_all⟩;have esh:shrK .u32 ((wd a)[i]:Int) 1=(((wd a)[i] / 2:Nat):Int):=ZDR 1 (by omega);rw[ZT1,gx,ZoO,ZoM,ZoJ,ZoO,ZoO,ZoO,esh,ZB9,Zo7,Zo7,hlen,ZoX];refine⟨Zr7 ⟨by omega,by omega⟩,by decide,Zr7 ⟨by omega,by omega⟩,ZoQ (by omega),fun h=> ?_,fun h=> ?_⟩
  ·have hi2:i+1 < (wd a).length:=by have:=of_decide_eq_true h;omega
   have gz:(iL ((o++(wd a).drop o.length).set i ((wd a)[i] / 2)))[i]? =some (((wd a)[i] / 2:Nat):Int):=by rw[ZDv (by rw[List.length_set];omega),List.getElem_set_self]
   have e1:(i:Int)+1=((i+1:Nat):Int):=rfl;have eg:(wd a).getD (i+1) 0=(wd a)[i+1]:=by rw[ZT2,ZT3 hi2];rfl
   have eor:orK .u32 (((wd a)[i] / 2:Nat):Int) (shlK .u32 ((wd a)[i+1]:Int) 31)=(((wd a)[i] / 2+(wd a).getD (i+1) 0*2 ^ 31 % Bw:Nat):Int):=by rw[eg,show (31:Int)=((31:Nat):Int)from rfl,ZHu 31 (by omega),ZGZ (by simp only[Bw]at h1;omega) (ZUC _ (by decide))];congr 1;exact ZGs (by decide) (by simp only[Bw]at h1;omega) ((ZxT a).get hi2)
   rw[e1,ZwA hi2,gz,ZoO,ZoM,ZoJ,ZoO,ZoM,ZoJ,ZoO,ZoO,eor,Zo7,List.length_set,hlen,ZB9,List.set_set];exact⟨Zr7 ⟨by omega,by omega⟩,ZoQ (by omega),by decide,Zr7 ⟨by omega,by omega⟩,fin _ rfl⟩
  grind
 ·rintro rec o ⟨hol,hod,hov⟩;unfold ZuT Zsg;dsimp only;rw[ZoX];refine⟨fun h=>by have:=of_decide_eq_true h;omega,fun _=> ?_⟩;rw[ZoJ];have eg:(wd a).getD (wd a).length 0=0:=by rw[ZT2,ZT4 (by omega)];rfl
  rw[eg,Nat.zero_mod,ZUJ,ZUm,ZUg,ZtB]at hov;refine⟨o,by rw[hol,List.drop_length,List.append_nil],hod,hol, ?_⟩;omega
 grind[Zv9,ZDH,ZoJ]
end Go.Proofs
namespace Go.Proofs
open Go Eng
theorem ZG2 {a:Nat} (h:a≠0):idx (iL (wd a)) 0=some ((a % Bw:Nat):Int):=by rw[ZD3 h];rfl
theorem ZFu {a:Nat}:(andK .u32 ((a % Bw:Nat):Int) 1 == 0)=decide (a % 2=0):=by
 rw[show (1:Int)=((1:Nat):Int)from rfl,ZGB (ZUC _ (by decide)) (by decide),Nat.and_one_is_mod];grind
theorem ZIk (P:Nat→Prop) {f:Nat→List Int×List Int×Int→Option (List Int×List Int×Int)} (y:List Int) (k:Int)
  (hf:∀n x,x≠0→(wd x).length≤100000→f (n+1) (iL (wd x),y,k)=if x % 2=0 then f n (iL (wd (x / 2)),y,k)else some (iL (wd x),y,k))
  (hP:∀x,P (2*x)→P x):∀(n x:Nat),x≠0→(wd x).length≤100000→P x→(∀m,x < 2 ^ m→m≤n→∃z,f n (iL (wd x),y,k)=some (iL (wd z),y,k)∧z % 2=1∧z≤x∧P z)
 |0,x,hx,hl,hp,m,hm,hmn=>by
  simp_all
 |n+1,x,hx,hl,hp,m,hm,hmn=>by
  rw[hf n x hx hl]
  by_cases h:x % 2=0
  ·rw[if_pos h];cases m with
   |zero=>omega
   |succ m=>
    obtain⟨z,h1,h2,h3,h4⟩:=ZIk P y k hf hP n (x / 2) (by omega) (ZUv (Zve (ZUp x 2)) hl) (hP _ (by grind)) m (by omega) (by omega);grind
  grind
end Go.Proofs
namespace Go.Proofs
open Go Eng
theorem ZAT (x:Nat):x < 2 ^ (x.log2+1):=Nat.lt_log2_self
theorem ZC3 {x n:Nat} (h:(wd x).length≤n):x.log2≤32*n:=by
 rcases ZUq x with rfl |hp
 ·simp_all
 ·have h1:=Nat.log2_self_le (n:=x) (by omega);have h2:=ZUx (ZyK x) (ZUN (n:=Bw) (by decide) h);rw[show Bw=2 ^ 32 from rfl,←ZUO]at h2;grind[ZUt,Nat.pow_lt_pow_iff_right,ZUw]
theorem ZKl {x b:Nat} (hb:b % 2=1):ZUr (2*x) b=ZUr x b:=by
 have hc:Nat.Coprime 2 b:=by grind[Nat.gcd_rec,Nat.gcd_one_left]
 grind[Nat.Coprime.gcd_mul_left_cancel]
theorem ZSA (y:List Int) (k:Int) {x:Nat} (b:Nat) (hb:b % 2=1) (hx:x≠0) (hl:(wd x).length≤100000):∃z,Zpw big (iL (wd x)) y k=some (iL (wd z),y,k)∧z % 2=1∧z≤x∧ZUr z b=ZUr x b:=by
 have hm:=ZC3 hl;refine ZIk (fun z=>ZUr z b=ZUr x b) (f:=fun n t=>Zpw n t.1 t.2.1 t.2.2) y k (fun n x hx hl=> ?_) (fun z h=>by grind[ZKl]) big x hx hl rfl (x.log2+1) (ZAT x) (ZUt (ZCQ (by omega)));show ZqO (Zpw n) (iL (wd x)) y k=_;grind[ZqO,ZG2,ZFu,ZE0]
end Go.Proofs
namespace Go.Proofs
open Go Eng
theorem ZMd (y:List Int) (k:Int) {x:Nat} (ho:x % 2=1):Zpw big (iL (wd x)) y k=some (iL (wd x),y,k):=by obtain⟨n,hn⟩:=ZFB 1 (by decide);grind[ZqO,Zpw,ZG2,ZFu]
theorem ZSz (w:List Int) (k:Int) {y:Nat} (b:Nat) (hb:b % 2=1) (hy:y≠0) (hl:(wd y).length≤100000):∃z,Zpv big w (iL (wd y)) k=some (w,iL (wd z),k)∧z % 2=1∧(z≤y∧(y % 2=0→z≤y / 2))∧ZUr z b=ZUr y b:=by
 have hm:=ZC3 hl;have step:∀n x,x≠0→(wd x).length≤100000→Zpv (n+1) w (iL (wd x)) k=if x % 2=0 then Zpv n w (iL (wd (x / 2))) k else some (w,iL (wd x),k):=fun n x hx hl=>by
  show Zvp (Zpv n) w (iL (wd x)) k=_;grind[Zvp,ZG2,ZFu,ZE0]
 have key:∀(n x m:Nat),x≠0→(wd x).length≤100000→x < 2 ^ m→m≤n→∃z,Zpv n w (iL (wd x)) k=some (w,iL (wd z),k)∧z % 2=1∧(z≤x∧(x % 2=0→z≤x / 2))∧ZUr z b=ZUr x b:=by
  intro n
  induction n with
  |zero=>
   grind
  |succ n ih=>
   intro x m hx hl hm hmn;rw[step n x hx hl]
   by_cases h:x % 2=0
   ·rw[if_pos h];cases m with
    |zero=>omega
    |succ m=>
     obtain⟨z,h1,h2,h3,h4⟩:=ih (x / 2) m (by omega) (ZUv (Zve (ZUp x 2)) hl) (by rw[ZUP]at hm;omega) (by omega);refine⟨z,h1,h2,⟨by omega,fun _=>h3.1⟩, ?_⟩;rw[h4,←ZKl hb,show 2*(x / 2)=x by omega]
   grind
 exact key big y (y.log2+1) hy hl (ZAT y) (ZUt (ZCQ (by omega)))
end Go.Proofs
namespace Go.Proofs
open Go Eng
theorem ZLy (k:Int):∀(n x y p q:Nat),x % 2=1→(wd x).length≤100000→(wd y).length≤100000→x < 2 ^ p→y < 2 ^ q→p+q+y % 2 < n→Zo6 n (iL (wd x)) (iL (wd y)) k=some (iL (wd (ZUr x y)),k)
 |0,x,y,p,q,_,_,_,_,_,h=>absurd h (by omega)
 |n+1,x,y,p,q,ho,hxl,hyl,hp,hq,hn=>by
  show ZqP (Zo6 n) _ _ _=_;unfold ZqP;rw[Zo7]
  by_cases h0:y=0
  ·grind[ZwC]
  ·have hl:=Ztr h0;obtain⟨z,hz,hz1,hz2,hz3⟩:=ZSz (iL (wd x)) k x ho h0 hyl;rw[decide_eq_true (by omega),cond_true,ZMd _ _ ho,ZUU];dsimp only;unfold ZwL;rw[hz,ZUU];dsimp only;have hzl:=ZUv (Zve hz2.1) hyl;unfold ZwK;rw[ZFA x z hxl hzl,ZUU];obtain⟨q',hq',hq2⟩:∃q',z < 2 ^ q'∧q'+1≤q+y % 2:=by
    by_cases he:y % 2=0
    ·cases q with
     |zero=>omega
     |succ q=>
      grind
    grind
   unfold ZtN;have eg:ZUr x y=ZUr x z:=by grind
   rw[eg]
   by_cases hc:z < x
   ·rw[ZAz hc,show decide ((1:Int) > 0)=true from rfl,cond_true,ZE9 x z (by omega) hxl,ZUU,ZLy k n z (x - z) q' p hz1 hzl (ZUv (Zve (Nat.sub_le x z)) hxl) hq' (by omega) (by omega),Nat.gcd_sub_self_right (by omega),ZUs]
   ·have hnc:decide (ZFZ x z > 0)=false:=by grind[ZFZ]
    rw[hnc,cond_false,ZE9 z x (by omega) hzl,ZUU,ZLy k n x (z - x) p q' ho hxl (ZUv (Zve (Nat.sub_le z x)) hzl) hp (by omega) (by omega),Nat.gcd_sub_self_right (by omega)]
end Go.Proofs
namespace Go.Proofs
open Go Eng
theorem ZPY:∀(n x y j m:Nat),x≠0→y≠0→(wd x).length≤100000→(wd y).length≤100000→x < 2 ^ m→m≤n→j+m≤1000000000→
  ∃x' y' t:Nat,Zqt n (iL (wd x)) (iL (wd y)) (j:Int)=some (iL (wd x'),iL (wd y'),((j+t:Nat):Int))∧(x' % 2=1∨y' % 2=1)∧ZUr x y=2 ^ t*ZUr x' y'∧x'≠0∧y'≠0∧x'≤x∧y'≤y∧t≤m
 |0,x,y,j,m,hx,hy,hxl,hyl,hm,hmn,hj=>by
  simp_all
 |n+1,x,y,j,m,hx,hy,hxl,hyl,hm,hmn,hj=>by
  show ∃x' y' t:Nat,Zvq (Zqt n) _ _ _=_∧_;unfold Zvq ZtO;rw[ZG2 hx,ZUU,ZFu]
  by_cases h1:x % 2=0
  ·rw[decide_eq_true h1,cond_true,ZG2 hy,ZUU,ZFu]
   by_cases h2:y % 2=0
   ·cases m with
    |zero=>omega
    |succ m=>
     rw[decide_eq_true h2,cond_true,ZE0 x hxl,ZUU,ZE0 y hyl,ZUU,ZoQ (by omega),chk_true];obtain⟨x',y',t,q1,q2,q3,q4,q5,q6,q7,q8⟩:=ZPY n (x / 2) (y / 2) (j+1) m (by omega) (by omega) (ZUv (Zve (ZUp x 2)) hxl) (ZUv (Zve (ZUp y 2)) hyl) (by omega) (by omega) (by omega);refine⟨x',y',t+1, ?_,q2, ?_,q4,q5,by omega,by omega,by omega⟩
     ·grind
     ·have:=Nat.gcd_mul_left 2 (x / 2) (y / 2);grind
   ·rw[decide_eq_false h2,cond_false];exact⟨x,y,0,rfl,.inr (by omega),by omega,hx,hy,ZUu _,ZUu _,Nat.zero_le _⟩
  ·rw[decide_eq_false h1,cond_false,cond_false];exact⟨x,y,0,rfl,.inl (by omega),by omega,hx,hy,ZUu _,ZUu _,Nat.zero_le _⟩
theorem ZPX:∀(k n a:Nat),k < n→k≤1000000000→(wd (2 ^ k*a)).length≤100000→Zqs n (iL (wd a)) (k:Int)=some (iL (wd (2 ^ k*a)))
 |k,0,a,h,_,_=>absurd h (by omega)
 |0,n+1,a,_,_,_=>by grind[ZqN,Zqs]
 |k+1,n+1,a,h,hk,hl=>by
  show ZqN (Zqs n) _ _=_;unfold ZqN;have e:2 ^ (k+1)*a=2 ^ k*(2*a+0):=by grind
  have ha:(wd a).length≤100000:=ZUv (Zve (Nat.le_mul_of_pos_left a (ZUS _))) hl;rw[e]at hl;have ht:=ZH7 a 0 (by omega) ha;rw[Int.natCast_zero]at ht;rw[decide_eq_true (by omega),cond_true,ht,ZUU,show ((k+1:Nat):Int) - 1=(k:Int) by omega,ZoQ (by omega),chk_true,ZPX k n (2*a+0) (by omega) (by omega) hl,e]
theorem ZKm (a b:Nat) (ha0:a≠0) (hb0:b≠0) (ha:(wd a).length≤50000) (hb:(wd b).length≤50000):Zti (iL (wd a)) (iL (wd b))=some (iL (wd (ZUr a b))):=by
 have hla:=ZC3 ha;have hlb:=ZC3 hb;obtain⟨x,y,t,q1,q2,q3,q4,q5,q6,q7,q8⟩:=ZPY big a b 0 (a.log2+1) ha0 hb0 (by omega) (by omega) (ZAT a) (ZUt (ZCQ (by omega))) (by omega);rw[Int.natCast_zero,ZUT]at q1;have hxl:=ZUv (Zve q6) ha;have hyl:=ZUv (Zve q7) hb;have hlx:=ZC3 hxl;have hly:=ZC3 hyl;have main:Zo6 big (iL (wd x)) (iL (wd y)) (t:Int)=some (iL (wd (ZUr x y)),(t:Int)):=by
  by_cases hx:x % 2=1
  ·exact ZLy _ big x y _ _ hx (by omega) (by omega) (ZAT x) (ZAT y) (ZCQ (by omega))
  ·have hy:y % 2=1:=by omega
   obtain⟨z,z1,z2,z3,z4⟩:=ZSA (iL (wd y)) (t:Int) y hy q4 (by omega);have hzl:=ZUv (Zve z3) hxl;have hlz:=ZC3 hzl;have e:=ZLy (t:Int) big z y _ _ z2 (by omega) (by omega) (ZAT z) (ZAT y) (ZCQ (by omega));grind[big_eq,Zo6,iL,wd,ZqP,Ztr,Zo7,decide_eq_true,ZMd]
 grind[ZJy,Zti,ZwM,ZwJ,ZwI,ZPX,ZCQ]
end Go.Proofs
namespace Go.Proofs
open Go Eng
theorem ZKy {l:List Nat} {i:Nat} (hd:Dg l) (h:i / 32 < l.length):l[i / 32] / 2 ^ (i % 32) % 2=val l / 2 ^ i % 2:=by
 have e:=ZBQ h;have hlt:=Zzv (hd.take (i / 32));rw[ZUa,ZUz (by omega)]at hlt;have hi:2 ^ i=Bw ^ (i / 32)*2 ^ (i % 32):=by grind[ZUO,ZUM,ZUn]
 have hr:i % 32 < 32:=ZUC _ (by decide);have hB:Bw=2 ^ (i % 32)*(2*2 ^ (31 - i % 32)):=by rw[show 2*2 ^ (31 - i % 32)=2 ^ (31 - i % 32+1) by omega,←ZUM,show i % 32+(31 - i % 32+1)=32 by omega]
 have e1:val l / Bw ^ (i / 32)=l[i / 32]+Bw*val (l.drop (i / 32+1)):=by grind[ZUj,ZUo]
 grind[Nat.div_div_eq_div_mul,ZUE,ZUj]
end Go.Proofs
namespace Go.Proofs
open Go Eng
theorem ZL3 (i:Nat):Int.tdiv (i:Int) 32=((i / 32:Nat):Int):=by simp_all
theorem ZL2 (i:Nat):IntKind.wrap .u64 (Int.tmod (i:Int) 32)=((i % 32:Nat):Int):=by grind[IntKind.wrap_u64]
theorem ZQt {l:List Nat} {i:Nat} (hd:Dg l) (h:i / 32 < l.length) (hi:i≤1000000000):ZvT (iL l) (i:Int)=some ((val l / 2 ^ i % 2:Nat):Int):=by have h1:=hd.get h;unfold ZvT;rw[ZL3,ZL2,decide_eq_true (by decide),chk_true,ZoQ (by omega),chk_true,ZwA h,ZUU,chk_true,decide_eq_true (by omega),chk_true,ZDR _ (by omega),show (1:Int)=((1:Nat):Int)from rfl,ZGB (ZUw (ZUp _ _) h1) (by decide),Nat.and_one_is_mod,ZKy hd h]
end Go.Proofs
namespace Go.Proofs
open Go Eng
theorem ZL6 {x j:Nat} (h:x / 2 ^ j % 2=0):x|||2 ^ j=x+2 ^ j:=by
 have hlo:=ZUC x (ZUS j);have e:x=2 ^ (j+1)*(x / 2 ^ j / 2)+x % 2 ^ j:=by
  grind[ZUn]
 have a1:=ZUR (i:=j+1) (b:=x % 2 ^ j) (by omega) (x / 2 ^ j / 2);have a2:=ZUR (i:=j) (b:=x % 2 ^ j) hlo 1;grind[ZUR]
theorem ZM5 {j:Nat} (hj:j≤31):shlK .u32 1 (j:Int)=((2 ^ j:Nat):Int):=by have:=ZHu (a:=1) j (by omega);rw[ZUK,ZUB (ZUw (ZUN (by decide) hj) (by decide))]at this;omega
theorem ZKi {A k:Nat}:A / 2 ^ k=2*(A / 2 ^ (k+1))+A / 2 ^ k % 2:=by rw[ZUP,←Nat.div_div_eq_div_mul];omega
theorem ZKo (a b:Nat) (hb0:b≠0) (ha:(wd a).length≤50000) (hb:(wd b).length≤50000):Ztj (iL (wd a)) (iL (wd b))=some (iL (wd (a / b)),iL (wd (a % b))):=by
 have hlen:∀k,(wd (2*(a / 2 ^ (k+1) % b)+a / 2 ^ k % 2)).length≤50001:=fun k=>by
  have h1:=ZUC (a / 2 ^ (k+1)) (ZUL hb0);have h2:2*(a / 2 ^ (k+1) % b)+a / 2 ^ k % 2≤b+b:=by omega
  exact ZUv (Zve h2) (ZH5 hb hb)
 refine Zp6 ?_;unfold Ztj;rw[ZoO,ZoO,ZoO,ZoM,Zo7,ZT1,ZFq];refine⟨ZC2 (by omega),ZoQ (by omega),ZoQ (by omega), ?_⟩;have e0:(32*((wd a).length:Int)) - 1=((32*(wd a).length:Nat):Int) - 1:=by omega
 rw[e0,show ([]:List Int)=iL (wd 0) by rw[ZwC];rfl];refine ZoT (ZEp ZBF (32*(wd a).length) (by omega) (fun i (q:Nat×List Nat)=>(iL (wd a),iL (wd b),iL (wd q.1),i,iL q.2))
  (fun k q=>q.1=a / 2 ^ k % b∧Dg q.2∧q.2.length=(wd a).length∧val q.2=a / 2 ^ k / b*2 ^ k)
  (Q:=fun y=>∃o:List Nat,y=(iL (wd (a % b)),iL o)∧Dg o∧o.length=(wd a).length∧val o=a / b) (0,ZUd (wd a).length 0) ?_ ?_ ?_) ?_
 ·grind[ZUo,ZUO,ZyK,Nat.zero_mod,Nat.zero_div,ZKq,ZHp]
 ·rintro rec k ⟨r,q⟩ hk ⟨hr,hd,hl,hv⟩ ih;dsimp only at hr hd hl hv;have hk32:k / 32 < (wd a).length:=by omega
  unfold Zvr Zsy;dsimp only;have hbit:=ZQt (i:=k) (ZxT a) hk32 (by omega);rw[ZtB]at hbit;have h2:a / 2 ^ k % 2≤1:=by omega
  have htw:=ZH7 r (a / 2 ^ k % 2) h2 (by
   rw[hr];exact ZUv (Zve (ZUt (ZUC _ (ZUL hb0)))) (by omega))
  have hlk:=hlen k;rw[←hr]at hlk;have hx:=ZKi (A:=a) (k:=k);have hdm:=ZUn (a / 2 ^ (k+1)) b;rw[←hr]at hdm;have hrlt:r < b:=by rw[hr];exact ZUC _ (ZUL hb0)
  rw[ZoX];refine⟨fun _=> ?_,fun h=>by grind⟩;rw[hbit,ZoM,ZoJ,htw,ZoM,ZoJ,ZFA _ _ (by omega) (by omega),ZoM,ZoJ,ZoX];have nx:∀r' q',(r'=a / 2 ^ k % b∧Dg q'∧q'.length=(wd a).length∧val q'=a / 2 ^ k / b*2 ^ k)→wp (ZrC (fun a b r_ i q=>rec (a,b,r_,i,q)) (iL (wd a)) (iL (wd b)) (iL (wd r')) (k:Int) (iL q')) (fun y=>∃o:List Nat,y=(iL (wd (a % b)),iL o)∧Dg o∧o.length=(wd a).length∧val o=a / b):=fun r' q' h=>by unfold ZrC;rw[ZoO];exact⟨ZoQ (by omega),ih (r',q') h⟩
  generalize eX:a / 2 ^ (k+1)=X at*
  generalize ed:a / 2 ^ k % 2=d at*
  refine⟨fun hc=> ?_,fun hc=> ?_⟩
  ·have hge:b≤2*r+d:=by
    grind[ZAS]
   have hq:k / 32 < q.length:=by omega
   have hz:q[k / 32] / 2 ^ (k % 32) % 2=0:=by rw[ZKy hd hq,hv,ZUP,←ZUE,Nat.mul_right_comm,Nat.mul_div_cancel _ (ZUS k)];omega
   have hx32:=hd.get hq;rw[ZE9 _ _ hge (by omega),ZoM,ZoJ,ZL3,ZL2,ZT1,ZoO,ZoO,ZoO,ZDv hq,ZoM,ZoJ,ZoO,ZoO,ZoO,ZM5 (by omega),ZGZ hx32 (ZUw (ZUN (by decide) (show k % 32≤31 by omega)) (by decide)),ZL6 hz,ZB9,Zo7];refine⟨by decide,ZoQ (by omega),Zr7 ⟨by omega,by omega⟩,by decide,decide_eq_true (by omega),Zr7 ⟨by omega,by omega⟩, ?_⟩;have hsum:q[k / 32]+2 ^ (k % 32) < Bw:=by
    have hB:Bw=2 ^ (k % 32)*(2*2 ^ (31 - k % 32)):=by rw[show 2*2 ^ (31 - k % 32)=2 ^ (31 - k % 32+1) by omega,←ZUM,show k % 32+(31 - k % 32+1)=32 by omega]
    rw[←ZL6 hz];exact Nat.or_lt_two_pow (n:=32) hx32 (ZUw (ZUN (by decide) (show k % 32≤31 by omega)) (by decide))
   refine nx (2*r+d - b) (q.set (k / 32) (q[k / 32]+2 ^ (k % 32))) ⟨?_,hd.set _ hsum,by simp_all, ?_⟩
   ·rw[hx,show 2*X+d=(2*r+d - b)+b*(2*(X / b)+1) by grind,ZUl,ZUB (by omega)]
   ·have hvs:=ZCf q (k / 32) (q[k / 32]+2 ^ (k % 32)) hq;have hp:Bw ^ (k / 32)*2 ^ (k % 32)=2 ^ k:=by rw[show Bw=2 ^ 32 from rfl,←ZUO,←ZUM,ZUn]
    rw[ZUD,hp]at hvs;have e1:(2*X+d) / b=2*(X / b)+1:=by rw[show 2*X+d=(2*r+d - b)+b*(2*(X / b)+1) by rw[ZUD,ZUH];omega,ZUj _ _ (ZUL hb0),ZUo (by omega),ZUT]
    rw[hx,e1];rw[hv,ZUP]at hvs;have e2:X / b*(2 ^ k*2)=2*(X / b)*2 ^ k:=by rw[ZUF (2 ^ k) 2,←ZUE,ZUF (X / b) 2]
    grind
  ·have hlt:2*r+d < b:=by
    rcases ZUy (2*r+d) b with h |h
    ·exact h
    ·rcases ZUy b (2*r+d)with h' |h'
     ·rw[ZAz h']at hc;exact absurd (of_decide_eq_false hc) (by decide)
     ·rw[show 2*r+d=b by omega,Zzg]at hc;exact absurd (of_decide_eq_false hc) (by decide)
   have e0:2*X+d=(2*r+d)+b*(2*(X / b)):=by rw[ZUH];omega
   refine nx (2*r+d) q ⟨?_,hd,hl, ?_⟩
   ·rw[hx,e0,ZUl,ZUB hlt]
   ·rw[hx,e0,ZUj _ _ (ZUL hb0),ZUo hlt,ZUT,hv,ZUP,ZUF (2 ^ k) 2,←ZUE,ZUF (X / b) 2]
 all_goals grind[Zvr,Zsy,ZoJ,ZwN,ZDH]
end Go.Proofs
namespace Go.Proofs
open Go Eng
theorem ZF4 (n:Int):Rat.divInt n 1=(n:Rat):=by grind[Rat.num_divInt_den,Rat.num_intCast,Rat.den_intCast]
end Go.Proofs
namespace Go.Proofs
open Go Eng
theorem ZDX (z:Int) (h1: -9223372036854775808≤z) (h2:z≤9223372036854775807):Zqc z=some (bg z):=by
 have key:∀(b:Bool) (n:Nat),n < 18446744073709551616→Zpc b [IntKind.wrap .u32 (n:Int),IntKind.wrap .u32 (shrK .u64 (n:Int) 32)]=some (bg (if b then -(n:Int)else n)):=fun b n h=>by
  have e:([IntKind.wrap .u32 (n:Int),IntKind.wrap .u32 (shrK .u64 (n:Int) 32)]:List Int)=iL [n % 4294967296,n / 4294967296]:=by rw[show (32:Int)=((32:Nat):Int)from rfl,ZCh 32 (by omega),Zxc,ZxS (by omega)];rfl
  grind[Dg,val,ZDB]
 unfold Zqc ZrR;have h32:decide (0≤(32:Int))=true:=rfl
 by_cases hz:z < 0
 ·have e:IntKind.wrap .u64 (0 - IntKind.wrap .u64 z)=((z.natAbs:Nat):Int):=by grind[IntKind.wrap_u64]
  grind[chk_true]
 ·have e:IntKind.wrap .u64 z=((z.natAbs:Nat):Int):=by grind[IntKind.wrap_u64]
  grind[chk_true]
theorem ZNQ:bg 0=⟨false,[]⟩:=by unfold bg;rw[show (0:Int).natAbs=0 from rfl,ZwC];rfl
theorem ZIV (x y:Int) (hy:y≠0) (hx1:Wl 50000 x) (hy1:Wl 50000 y):ZtM (bg x) (bg y)=some (fOf (Rat.divInt x y)):=by
 unfold ZtM
 by_cases hx:x=0
 ·subst hx;rw[Rat.zero_divInt,Zqq,Zo7,show (0:Int).natAbs=0 from rfl,ZwC,ZDX 1 (by decide) (by decide)];show some (ZoG.mk ⟨false,[]⟩ (bg 1))=some (fOf 0);rw[←ZNQ];rfl
 ·have hx0:0 < x.natAbs:=by omega
  have hy0:0 < y.natAbs:=by omega
  have hg0:ZUr x.natAbs y.natAbs≠0:=fun e=>by simp_all
  have hgl:=ZJy (x:=x.natAbs) hy0 hy1;have hxl:=ZH4 (ZUr x.natAbs y.natAbs) hx1;have hyl:=ZH4 (ZUr x.natAbs y.natAbs) hy1;have h:=ZCJ x y hy hx1 hy1;unfold Zro at h;rw[Zqq,Zqq,ZFy _ _ hx1 hy1,ZUU,ZEx _ _ hg0 hx1 hgl,ZUU]at h;dsimp only at h;rw[ZEx _ _ hg0 hy1 hgl,ZUU]at h;dsimp only at h;rw[ZxU _ _ (by omega),ZUU,ZxU _ _ (by omega),ZUU]at h;have hlen:=Ztr (n:=x.natAbs) (by omega);rw[←h,Zqq,Zqq,Zo7,beq_eq_false_iff_ne.2 (by omega),cond_false,ZKm _ _ (by omega) (by omega) hx1 hy1,ZUU,ZKo _ _ hg0 hx1 hgl,ZUU];grind[ZKo,ZDB,ZxT,ZtB]
theorem ZLt (x y:Int) (hy:y≠0) (hx1:Wl 256 x) (hy1:Wl 256 y):ZuV (bg x) (bg y)=some (fOf (Rat.divInt x y),0):=by grind[ZuV,Zs5,ZAV,ZBP,ZDz,ZIV]
theorem ZPS (x y:Int) (hy:y≠0) (h1: -9223372036854775808≤x) (h2:x≤9223372036854775807) (h3: -9223372036854775808≤y) (h4:y≤9223372036854775807):Zwl x y=some (fOf (Rat.divInt x y),0):=by grind[Zwl,ZDX,ZLt,ZRW]
theorem ZJ3 (x y:Int) (hy:y≠0) (h1: -9223372036854775808≤x) (h2:x≤9223372036854775807) (h3: -9223372036854775808≤y) (h4:y≤9223372036854775807):ZtJ x y=some (fOf (Rat.divInt x y)):=by grind[ZtJ,ZzN,ZxB,ZPS]
theorem ZLA (x:Int) (h1: -9223372036854775808≤x) (h2:x≤9223372036854775807):ZrY x=some (fOf (x:Rat)):=by grind[ZrY,ZzN,Zyc,ZJ3,ZF4]
theorem ZPq {a b:Nat} (h:wd a=wd b):a=b:=by grind[ZtB]
theorem ZFV (x y:Int) (hx:Wl 100000 x) (hy:Wl 100000 y):Zra (bg x) (bg y)=some (decide (x=y)):=by
 unfold Wl at hx hy;refine Zp6 ?_;unfold Zra ZrO;rw[ZBd,ZBd,Zqq,Zqq,Zo7,Zo7]
 by_cases hs:decide (x < 0)=decide (y < 0)
 ·rw[hs,beq_self_eq_true,ZPK,cond_false]
  by_cases hl:(wd x.natAbs).length=(wd y.natAbs).length
  ·rw[hl,bne_self_eq_false,cond_false,ZoM];refine ZoT (ZtG ZAF (wd y.natAbs).length (by omega) (fun i (_:Unit)=>(iL (wd x.natAbs),((wd y.natAbs).length:Int),i,bg y)) (fun i _=>(wd x.natAbs).take i=(wd y.natAbs).take i)
    (Q:=fun r=>r= .ret false∧wd x.natAbs≠wd y.natAbs∨r= .brk ()∧wd x.natAbs=wd y.natAbs) () (by simp_all) ?_ ?_) ?_
   ·rintro rec i ⟨⟩ hi hP ih;have hi2:i < (wd x.natAbs).length:=by omega
    unfold Ztu ZqY;dsimp only;rw[ZoX];refine⟨fun _=> ?_,fun h=>by simp_all⟩;rw[Zqq,ZwA hi2,ZoM,ZoJ,ZwA hi,ZoM,ZoJ,ZoX];refine⟨fun h=> ?_,fun h=> ?_⟩
    ·grind[ZoJ]
    ·rw[ZoO];refine⟨ZoQ (by omega),ih () ?_⟩;rw[bne_eq_false_iff_eq]at h;have h1:(wd y.natAbs)[i]=(wd x.natAbs)[i]:=by omega
     grind[List.take_succ_eq_append_getElem]
   all_goals grind[Ztu,ZqY,ZoJ,Zup,ZPq]
  grind[ZoJ]
 grind[ZoJ]
theorem ZCx (p q:Rat) (hp:Wq 256 p) (hq:Wq 256 q):Zps (fOf p) (fOf q)=some (decide (p=q)):=by
 have m:∀{x:Int},Wl 256 x→Wl 100000 x:=fun h=>ZUv h (by decide)
 unfold Zps Zs2 fOf;dsimp only;rw[ZFV _ _ (m hp.1) (m hq.1),ZUU]
 grind[ZFV,Rat.ext,decide_eq_false]
end Go.Proofs
namespace Go.Proofs
open Go Eng
theorem ZNo (a b:Nat) (ha:(wd a).length≤100000) (hb:(wd b).length≤100000):ZvS (iL (wd a)) (iL (wd b))=some (iL (wd (a*b))):=by
 refine Zp6 ?_;unfold ZvS;rw[Zo7,Zo7,ZoO,ZoO,ZoM,←ZTZ,ZT1,ZFq];refine⟨ZoQ (by omega),ZC2 (by omega), ?_⟩;generalize hm:(wd a).length=m at ha⊢
 generalize hn:(wd b).length=n at hb⊢
 refine ZoT (ZtG ZBE m (by omega) (fun i (s:List Nat)=>(iL (wd a),iL (wd b),i,iL s)) (fun i s=>s.length=m+n∧Dg s∧val s=val ((wd a).take i)*b∧∀k,i+n≤k→k < m+n→s[k]? =some 0)
  (Q:=fun y=>∃(o:List Nat),y=iL o∧Dg o∧o.length=m+n∧val o=a*b) (ZUd (m+n) 0) ⟨by simp,ZKq _,by grind[ZHp,val],fun k _ h=>by simp_all⟩ ?_ ?_) ?_
 ·rintro rec i s hlt ⟨hl,hd,hv,hz⟩ ih;have hi:i < (wd a).length:=by omega
  have h1:=(ZxT a).get hi;unfold Zvo Zsx;dsimp only;rw[ZoX,Zo7,hm];refine⟨fun _=> ?_,fun h=>by simp_all⟩;rw[ZoM];generalize ex:(wd a)[i]=x at h1;refine ZoT (ZtG ZBD n (by omega) (fun j (t:Nat×List Nat)=>(iL (wd a),iL (wd b),(i:Int),(t.1:Int),j,iL t.2)) (fun j t=>t.1 < Bw∧t.2.length=m+n∧Dg t.2∧val t.2+Bw ^ (i+j)*t.1=val s+Bw ^ i*(x*val ((wd b).take j))∧∀k,i+n≤k→k < m+n→t.2[k]? =some 0)
   (Q:=fun y=>∃(c:Nat) (o:List Nat),y=(iL (wd a),iL (wd b),(i:Int),(c:Int),iL o)∧c < Bw∧o.length=m+n∧Dg o∧val o+Bw ^ (i+n)*c=val s+Bw ^ i*(x*b)∧∀k,i+n≤k→k < m+n→o[k]? =some 0) (0,s) ⟨by omega,hl,hd,by simp[val],hz⟩ ?_ ?_) ?_
  ·rintro rec2 j ⟨c,o⟩ hj ⟨hc,hol,hod,hov,hoz⟩ ih2;dsimp only at hc hol hod hov hoz ih2;have hj2:j < (wd b).length:=by omega
   have h2:=(ZxT b).get hj2;have hij:i+j < o.length:=by omega
   have h3:=hod.get hij;unfold Zvn Zsw;dsimp only;rw[ZoX,Zo7,hn];refine⟨fun _=> ?_,fun h=>by grind⟩;rw[ZwA hi,ex,ZoM,ZoJ,ZwA hj2,ZoM,ZoJ,ZoO,ZoO,←ZTZ,ZT1,ZDv hij,ZoM,ZoJ,ZoO,ZoO,ZoO,ZoO];generalize ey:(wd b)[j]=y at h2;generalize ee:o[i+j]=e at h3;rw[ZPU hc h1 h2 h3,Zxc,show (32:Int)=((32:Nat):Int)from rfl,ZCh 32 (by omega),Zo7,ZB9];refine⟨ZoQ (by omega),Zr7 ⟨by omega,by omega⟩,ZoQ (by omega),Zr7 ⟨by omega,by omega⟩,by decide,ZoQ (by omega), ?_⟩;refine ih2 ((c+x*y+e) / Bw,o.set (i+j) ((c+x*y+e) % Bw)) ⟨ZMb hc h1 h2 h3,by grind,hod.set _ (ZUC _ (by decide)), ?_,fun k hk hk2=> ?_⟩
   ·dsimp only;grind[ZCf,ZUA,ZUE,Zpq,ZUM,ZUH]
   grind
  ·rintro rec2 ⟨c,o⟩ ⟨hc,hol,hod,hov,hoz⟩;dsimp only at hc hol hod hov hoz;unfold Zvn Zsw;dsimp only;rw[ZoX,Zo7,hn];refine⟨fun h=>by have:=of_decide_eq_true h;omega,fun _=> ?_⟩;rw[ZoJ];rw[ZUh (by omega),ZtB]at hov;exact⟨c,o,rfl,hc,hol,hod,hov,hoz⟩
  ·rintro y ⟨c,o,rfl,hc,hol,hod,hov,hoz⟩;dsimp only;unfold ZwH;rw[Zo7,hn,ZoO,ZoO,ZoO,←ZTZ,ZT1,ZxS hc,ZB9,Zo7];refine⟨ZoQ (by omega),Zr7 ⟨by omega,by omega⟩,ZoQ (by omega), ?_⟩;have hp:i+n < o.length:=by omega
   have h0:o[i+n]=0:=by have:=hoz (i+n) (ZUu _) (by omega);rw[ZT3 hp]at this;exact Option.some.inj this
   have q1:=ZCf o (i+n) c hp;rw[h0,ZUJ,ZUm]at q1;refine ih (o.set (i+n) c) ⟨by simp[hol],hod.set _ hc, ?_,fun k hk hk2=> ?_⟩
   ·rw[q1,hov,hv,Zpq hi,ex,ZUi,ZUE]
   ·rw[List.getElem?_set_ne (by omega)];exact hoz k (by omega) hk2
 all_goals grind[Zvo,Zsx,Zo7,ZoJ,ZtB,ZwG,ZDH]
theorem ZNV (a b:Nat) (ha:(wd a).length≤100000) (hb:(wd b).length≤100000):∃o:List Nat,Ztk (iL (wd a)) (iL (wd b))=some (iL o)∧Dg o∧o.length≤100001∧val o=a+b:=by
 obtain⟨m,hma,hmb,hm2,hmx⟩:∃m:Nat,(wd a).length≤m∧(wd b).length≤m∧m≤100000∧∀i,i < m→i < (wd a).length∨i < (wd b).length:=by
  by_cases h:(wd a).length≤(wd b).length
  ·exact⟨(wd b).length,h,ZUu _,hb,fun i hi=> .inr hi⟩
  ·exact⟨(wd a).length,ZUu _,by omega,ha,fun i hi=> .inl hi⟩
 suffices h:wp (Ztk (iL (wd a)) (iL (wd b))) (fun x=>∃o:List Nat,x=iL o∧Dg o∧o.length≤100001∧val o=a+b) by obtain⟨x,hx,o,rfl,h⟩:=h;grind
 unfold Ztk;rw[ZoM];refine ZoT (ZtG ZBH m (by omega) (fun i (s:Nat×List Nat)=>(iL (wd a),iL (wd b),(s.1:Int),i,iL s.2)) (fun i s=>s.1≤1∧s.2.length=i∧Dg s.2∧val s.2+Bw ^ i*s.1=val ((wd a).take i)+val ((wd b).take i))
  (Q:=fun y=>∃(c:Nat) (o:List Nat),y=((c:Int),iL o)∧c≤1∧Dg o∧o.length=m∧val o+Bw ^ m*c=a+b) (0,[]) ⟨by simp,rfl,ZDy,by simp[val]⟩ ?_ ?_) ?_
 ·rintro rec i ⟨c,o⟩ hlt ⟨hc,hl,hd,hv⟩ ih;dsimp only at hc hl hd hv ih;have h1:=ZDW (ZxT a) i;have h2:=ZDW (ZxT b) i;have j3:∀x y:Nat,(wd a).getD i 0=x→(wd b).getD i 0=y→wp (ZrD (fun a b c i out=>rec (a,b,c,i,out)) (iL (wd a)) (iL (wd b)) ((c+x+y:Nat):Int) (i:Int) (iL o)) (fun y=>∃(c:Nat) (o:List Nat),y=((c:Int),iL o)∧c≤1∧Dg o∧o.length=m∧val o+Bw ^ m*c=a+b):=fun x y ex ey=>by
   rw[ex]at h1;rw[ey]at h2;unfold ZrD;rw[ZoO,ZoO,ZoO,Zxc,show (32:Int)=((32:Nat):Int)from rfl,ZCh 32 (by omega),Zo7];refine⟨ZrX (by grind),by decide,ZoQ (by omega), ?_⟩;have:=ih ((c+x+y) / Bw,o++[(c+x+y) % Bw]) ⟨by grind,by grind,hd.app (ZCM (ZUC _ (by decide))), ?_⟩
   ·rw[ZFr]at this;exact this
   grind[Zym,Zzi,ZUA]
  have j2:∀x:Nat,(wd a).getD i 0=x→wp (ZrE (fun a b c i out=>rec (a,b,c,i,out)) (iL (wd a)) (iL (wd b)) ((c+x:Nat):Int) (i:Int) (iL o)) (fun y=>∃(c:Nat) (o:List Nat),y=((c:Int),iL o)∧c≤1∧Dg o∧o.length=m∧val o+Bw ^ m*c=a+b):=fun x ex=>by
   have hx:=h1;rw[ex]at hx;unfold ZrE;rw[Zo7,ZoX];refine⟨fun h=> ?_,fun h=> ?_⟩
   ·have hib:i < (wd b).length:=by simp_all
    have ey:(wd b).getD i 0=(wd b)[i]:=by simp_all
    have hy:=(ZxT b).get hib;rw[ZwA hib,ZoM,ZoJ,Zpp (by grind),←ZTZ,Zpp (by grind)];simp_all
   simp_all
  have j1:wp (Zqu (fun a b c i out=>rec (a,b,c,i,out)) (iL (wd a)) (iL (wd b)) (c:Int) (i:Int) true (iL o)) (fun y=>∃(c:Nat) (o:List Nat),y=((c:Int),iL o)∧c≤1∧Dg o∧o.length=m∧val o+Bw ^ m*c=a+b):=by
   unfold Zqu;rw[cond_true,Zo7,ZoX];refine⟨fun h=> ?_,fun h=> ?_⟩
   ·have hib:i < (wd a).length:=by have:=of_decide_eq_true h;omega
    have ey:(wd a).getD i 0=(wd a)[i]:=by rw[ZT2,ZT3 hib];rfl
    have hy:=(ZxT a).get hib;rw[ZwA hib,ZoM,ZoJ,Zpp (by simp only[Bw]at hy;omega),←ZTZ,Zpp (by simp only[Bw]at hy;omega)];simp_all
   simp_all
  grind[Zvt,ZsA,Zo7]
 ·rintro rec ⟨c,o⟩ ⟨hc,hl,hd,hv⟩;dsimp only at hc hl hd hv;unfold Zvt ZsA;dsimp only;rw[Zo7,Zo7,decide_eq_false (by omega),cond_false,decide_eq_false (by omega)];unfold Zqu;rw[cond_false,ZoJ];rw[ZUh hma,ZUh hmb,ZtB,ZtB]at hv;exact⟨c,o,rfl,hc,hd,hl,hv⟩
 ·rintro y ⟨c,o,rfl,hc,hd,hl,hv⟩;dsimp only;unfold ZwP;have e:iL o++[(c:Int)]=iL (o++[c]):=by rw[ZFr];rfl
  rw[ZxS (by omega),ZoO,Zo7,e,ZoJ];exact⟨ZrX (by simp only[ZT9];omega),_,rfl,hd.app (ZCM (by unfold Bw;omega)),by simp;omega,by rw[Zym,hl,hv]⟩
end Go.Proofs
namespace Go.Proofs
open Go Eng
theorem ZGS (x y:Int) (hx:Wl 50000 x) (hy:Wl 50000 y):Zp0 (bg x) (bg y)=some (bg (x*y)):=by unfold Zp0;have:=ZFS hx hy;rw[Zqq,Zqq,ZNo _ _ (by omega) (by omega),ZUU,ZDB _ (ZxT _) (by omega),ZtB,ZUU,ZKA]
theorem ZLq (x y:Int) (hx:Wl 50000 x) (hy:Wl 50000 y):ZuU (bg x) (bg y)=some (bg (x+y)):=by
 unfold Wl at hx hy;unfold ZuU;have h1:=ZH5 hx hy;rw[Zqq,Zqq,ZBd,ZBd];have opp:decide (x < 0)≠decide (y < 0)→ZpC (iL (wd x.natAbs)) (iL (wd y.natAbs))=some (ZFZ x.natAbs y.natAbs):=fun _=>ZFA _ _ (by omega) (by omega)
 by_cases hs:decide (x < 0)=decide (y < 0)
 ·obtain⟨o,ho,hd,hl,hv⟩:=ZNV x.natAbs y.natAbs (by omega) (by omega);grind[ZDB]
 ·rw[beq_eq_false_iff_ne.2 hs,cond_false,opp hs,ZUU];rcases ZUy x.natAbs y.natAbs with hlt |hge
  ·have:=Zve (Nat.sub_le y.natAbs x.natAbs);rw[ZAS hlt,decide_eq_false (by omega),cond_false,ZE9 _ _ (by omega) (by omega),ZUU,ZDB _ (ZxT _) (by omega),ZtB,ZUU];grind
  ·have hn:ZFZ x.natAbs y.natAbs≥0:=by
    grind[ZAz,Zzg]
   have:=Zve (Nat.sub_le x.natAbs y.natAbs);grind[ZE9,ZDB,ZxT,ZtB]
theorem ZJ7 (z:Int) (hz:Wl 100000 z):Zug (bg z)=some (bg (-z)):=by
 grind[Zug,ZBd,Zqq,ZDB,ZxT,ZtB]
theorem ZGP (q:Rat) (h:Wq 256 q):Zr1 (fOf q)=some true:=by
 have hn:=h.1;have hd:=h.2;have hd0:=q.den_nz;unfold Zr1 ZpY fOf;dsimp only;rw[ZAV,ZBP _ h.1,ZUU,ZPK,cond_false,ZAV,ZBP _ h.2,ZUU,ZPK,cond_false,ZBd,decide_eq_false (by omega),cond_false,ZDz (by omega),cond_false,Zqq,Zqq,Zo7];unfold Wl at hn hd;have h1:(wd 1).length≤1:=ZA0 (by decide);have hc:ZUr q.num.natAbs (q.den:Int).natAbs=1:=q.reduced
 by_cases h0:q.num=0
 all_goals grind[ZwC,ZFh,ZFA,Zzg,Ztr,ZKm]
theorem ZNL {a b:Rat} (qa:Wq 256 a) (qb:Wq 256 b):ZvU (fOf a) (fOf b)=some (ZEX a b):=by
 have w:∀{x y:Int},Wl 256 x→Wl 256 y→Wl 50000 (x*y):=fun hx hy=>by unfold Wl;rw[ZTW];exact ZUv (ZFS hx hy) (by decide)
 have m:∀{x:Int},Wl 256 x→Wl 50000 x:=fun h=>ZUv h (by decide)
 unfold ZvU ZtR;rw[ZGP a qa,ZUU,ZPK,cond_false,ZGP b qb,ZUU,ZPK,cond_false];show ((Zp0 (bg a.num) (bg (b.den:Int))).bind fun q=>(Zp0 (bg b.num) (bg (a.den:Int))).bind _)=_;rw[ZGS _ _ (m qa.1) (m qb.2),ZUU,ZGS _ _ (m qb.1) (m qa.2),ZUU,ZJ7 _ (ZUv (w qb.1 qa.2) (by decide)),ZUU];have w2:Wl 50000 (-(b.num*(a.den:Int))):=by grind[ZTY]
 rw[ZLq _ _ (w qa.1 qb.2) w2,ZUU,ZBd,Zqq,Zo7];unfold ZEX;have h1:=ZEZ a b;have h2:=ZEZ b a;generalize a.num*(b.den:Int)=x at*
 generalize b.num*(a.den:Int)=y at*
 by_cases hl:a < b
 ·have hlt:=h1.1 hl;have:=Ztr (n:=(x+ -y).natAbs) (by omega);rw[if_pos hl,beq_eq_false_iff_ne.2 (by omega),cond_false,decide_eq_true (by omega),cond_true]
 ·have hn:¬x < y:=fun h=>hl (h1.2 h)
  rw[if_neg hl]
  by_cases hg:b < a
  ·have hlt:=h2.1 hg;have:=Ztr (n:=(x+ -y).natAbs) (by omega);rw[if_pos hg,beq_eq_false_iff_ne.2 (by omega),cond_false,decide_eq_false (by omega),cond_false]
  ·have hn2:¬y < x:=fun h=>hg (h2.2 h)
   rw[if_neg hg,show x+ -y=0 by omega,show (0:Int).natAbs=0 from rfl,ZwC];rfl
theorem ZKa {a b:Rat} (qa:Wq 256 a) (qb:Wq 256 b):Zss (fOf a) (fOf b)=some (decide (a < b)):=by
 grind[Zss,ZNL,ZEX,decide_eq_false]
end Go.Proofs
namespace Go.Proofs
open Go Eng
def ZLS (x:Rat):Rat:=if x < 0 then 0 - x else x
end Go.Proofs
