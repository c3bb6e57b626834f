/- Numbers of many words: the whole division, the greatest common divisor. -/
import Derived.Test.YtbjnddlpdlfknaaGreatDoorQwNW6
set_option linter.unusedVariables false
set_option linter.unusedSimpArgs false
set_option linter.unusedSectionVars false
namespace Go.Proofs
open Go Eng
theorem Zwa (a b:Nat) (hb0:b≠0) (ha:(wd a).length≤50000) (hb:(wd b).length≤50000):ZoW (iL (wd a)) (iL (wd b))=some (iL (wd (a / b)),iL (wd (a % b))):=by
 refine ZrO ?_;unfold ZoW;rw[Zwd a b (by omega) (by omega),ZnD,ZnC,Zob];refine⟨fun h=> ?_,fun h=> ?_⟩
 ·have hab:a < b:=by
   have:=of_decide_eq_true h;rcases Nat.lt_trichotomy a b with h1 |h1 |h1
   ·exact h1
   ·rw[h1,Ztj]at this;omega
   ·rw[Zt5 h1]at this;omega
  rw[Zyx _ (by omega),ZnD,ZnC,ZnC,Nat.div_eq_of_lt hab,Nat.mod_eq_of_lt hab,ZrP,ZAm]
 ·have hab:b≤a:=by
   have:=of_decide_eq_false h;rcases Nat.lt_trichotomy a b with h1 |h1 |h1
   ·rw[Zue h1]at this;omega
   ·omega
   ·omega
  have hlb:=Zqj hb0;rw[ZnR,ZnR,Zob];refine⟨fun h=> ?_,fun h=> ?_⟩
  ·have h1:(wd b).length=1:=by have:=eq_of_beq h;omega
   have hbB:b < Bw:=by have:=ZsX b;rwa [h1,Nat.pow_one]at this
   have eb:idx (iL (wd b)) 0=some (b:Int):=by rw[Zv1 hb0,Nat.mod_eq_of_lt hbB];rfl
   rw[eb,ZnD,ZnC,Zyj a b hb0 hbB (by omega),ZnD,ZnC];dsimp only;have hr:a % b < Bw:=Nat.lt_trans (Nat.mod_lt _ (by omega)) hbB;rw[show ([((a % b:Nat):Int)]:List Int)=iL [a % b]from rfl,Zvp (Zvm hr) (by simp),ZnD,ZnC,ZnC];simp only[val,Nat.mul_zero,Nat.add_zero]
  ·obtain⟨m,hm⟩:∃m,(wd b).length=m+2:=⟨(wd b).length - 2,by
    have:(wd b).length≠1:=fun e=>by rw[e]at h;exact absurd h (by decide)
    omega⟩
   have hla:m+2≤(wd a).length:=by
    rcases Nat.lt_or_ge (wd a).length (wd b).length with h1 |h1
    ·have:=ZwJ h1;omega
    ·omega
   have hi:m+1 < (wd b).length:=by omega
   have htop:(wd b)[m+1]≠0:=fun e=>by have h1:=ZnZ hi;rw[e,Nat.mul_zero,Nat.add_zero,List.take_of_length_le (by omega),Zqs]at h1;have h2:=Ztr ((ZsH b).take (m+1));rw[List.length_take,Nat.min_eq_left (by omega)]at h2;have h3:=ZwY hi;omega
   obtain⟨s,hs,hse,hs1,hs2⟩:=ZAe htop ((ZsH b).get hi);have e1:((m+2:Nat):Int) - 1=((m+1:Nat):Int):=by omega
   rw[hm,e1,ZrN hi,ZnF,ZnD,ZnC,hse,ZnD,ZnC];refine⟨ZnG (by omega), ?_⟩;obtain⟨u,hu,hud,hul,huv⟩:=ZwD (wd a) s hs (by omega) (ZsH a);obtain⟨v,hv,hvd,hvl,hvv⟩:=ZwD (wd b) s hs (by omega) (ZsH b);rw[hu,ZnD,ZnC,hv,ZnD,ZnC,ZnF,ZnF,ZnF,ZnF,ZnF];rw[Zqs]at huv hvv;have hvlt:val v < Bw ^ (m+2):=by
    have h1:=ZnZ hi;rw[List.take_of_length_le (by omega),Zqs]at h1;have h2:=Ztr ((ZsH b).take (m+1));rw[List.length_take,Nat.min_eq_left (by omega)]at h2;have h3:b+1≤Bw ^ (m+1)*((wd b)[m+1]+1):=by rw[Nat.mul_add,Nat.mul_one];omega
    have h4:=Nat.mul_le_mul_right (2 ^ s) h3;have h5:=Nat.mul_le_mul_left (Bw ^ (m+1)) (ZxC hs hs2);rw[Nat.mul_assoc]at h4;have h6:=Nat.two_pow_pos s;rw[Nat.add_mul,Nat.one_mul]at h4;rw[hvv,Nat.pow_succ];show _ < Bw ^ (m+1)*4294967296;omega
   obtain⟨K,hK⟩:∃K,(wd a).length=K+m+1:=⟨(wd a).length - m - 1,by omega⟩;have eK:((wd a).length:Int) - ((m+2:Nat):Int)+1=(K:Int):=by omega
   have ed:((iL v).drop 0).take (((m+2:Nat):Int).toNat - 0)=iL (v.take (m+2)):=by rw[List.drop_zero,Int.toNat_natCast,Nat.sub_zero,Zxj]
   have hdv:val (v.take (m+2))=b*2 ^ s:=by rw[Zwe hvlt,hvv]
   have hdl:(v.take (m+2)).length=m+2:=by rw[List.length_take];omega
   have hdd:=hvd.take (m+2);rw[eK,ed,Int.toNat_natCast,Zwt,ZnR v,ZnR (List.replicate K 0),List.length_replicate];refine⟨ZvG ⟨by omega,by omega,by omega⟩,ZnG (by omega),ZnG (by omega),Zva (by omega),ZnG (by omega), ?_⟩;generalize v.take (m+2)=d at*
   have hp:=Nat.two_pow_pos s;have h1:1≤d[m+1]:=by
    rcases Nat.eq_zero_or_pos d[m+1]with hz |hz
    ·exfalso;have h1:=ZnZ (l:=d) (k:=m+1) (by omega);rw[hz,Nat.mul_zero,Nat.add_zero,List.take_of_length_le (by omega)]at h1;have h2:=Ztr (hdd.take (m+1));rw[List.length_take,Nat.min_eq_left (by omega)]at h2;rw[hdv]at h1;have h3:=ZwY hi;have:=Nat.le_mul_of_pos_right b hp;omega
    ·exact hz
   have hUlt:a*2 ^ s < Bw ^ K*val d:=by have h2:=ZsX a;have h3:=Nat.mul_le_mul_left (Bw ^ K) (ZwY hi);rw[←Nat.pow_add,←Nat.add_assoc,←hK]at h3;rw[hdv,←Nat.mul_assoc];exact Nat.mul_lt_mul_of_pos_right (by omega) hp
   rw[ZnD];refine Zn5 (Zyi (s:=s) hdl hdd h1 (by omega) hud huv hUlt (by omega) (by omega)) ?_;rintro y ⟨u',qs,rfl,hu'l,hu'd,hql,hqd,hv',hlt'⟩;dsimp only;have hDpos:0 < val d:=by omega
   have eq1:val qs=a / b:=by rw[←Nat.mul_div_mul_right a b hp,←hdv,←hv',Nat.add_mul_div_right _ _ hDpos,Nat.div_eq_of_lt hlt',Nat.zero_add]
   have eq2:val u'=a % b*2 ^ s:=by rw[←Nat.mul_mod_mul_right,←hdv,←hv',Nat.add_mul_mod_self_right,Nat.mod_eq_of_lt hlt']
   have hDlt:=Ztr hdd;rw[hdl]at hDlt;have hut:val (u'.take (m+2))=val u':=Zwe (by omega);obtain⟨k',hk',hkv,hke⟩:=ZBO u' (m+2) (by omega) (by omega);unfold Zsw;rw[Int.toNat_natCast,Nat.sub_zero,hke,ZnF,ZnD,ZnC,ZnR];refine⟨ZvG ⟨by omega,by omega,by omega⟩, ?_⟩;dsimp only;rw[ZnD];refine Zn5 (Zz4 (R:=a % b) (iL qs) hs hu'd (by omega) (by omega) (by rw[hkv,hut,eq2])) ?_;rintro y ⟨o,rfl,hol,hod,hov⟩;dsimp only;unfold Zsv;have eo:((iL (o++u'.drop k')).drop 0).take k'=iL o:=by rw[List.drop_zero,Zxj,List.take_left' hol]
   rw[eo,Zvp hqd (by omega),ZnD,ZnC,Zvp hod (by omega),ZnD,ZnC,ZnC,eq1,hov]
theorem Zru {a b:Nat} (h:a≤b):(wd a).length≤(wd b).length:=Zuh (Nat.lt_of_le_of_lt h (ZsX b))
theorem Zwx:∀(n a b:Nat),b≤a→a*b < 2 ^ n→(wd a).length≤50000→∀f,n < f→Zon f (iL (wd a)) (iL (wd b))=some (iL (wd (Nat.gcd a b)))
 |n,a,b,hba,hn,ha,0,hf=>absurd hf (by omega)
 |n,a,b,hba,hn,ha,f+1,hf=>by
  show ZoN (Zon f) _ _=_;unfold ZoN;rw[ZnR]
  by_cases h0:b=0
  ·subst h0;rw[ZrP,Nat.gcd_zero_right];rfl
  ·have hl:=Zqj h0;rw[decide_eq_true (by omega),cond_true,Zwa a b h0 ha (Nat.le_trans (Zru hba) ha),Option.bind_some];dsimp only;have hlt:=Nat.mod_lt a (show 0 < b by omega);cases n with
   |zero=>
    have:1*1≤a*b:=Nat.mul_le_mul (by omega) (by omega);rw[Nat.pow_zero]at hn;omega
   |succ n=>
    have hdm:=Nat.div_add_mod a b;have hq:1≤a / b:=(Nat.le_div_iff_mul_le (by omega)).2 (by omega);have h1:=Nat.mul_le_mul_left b hq;have h2:b*(2*(a % b))≤b*a:=Nat.mul_le_mul_left b (by omega);rw[Nat.mul_left_comm,Nat.mul_comm b a]at h2;rw[Zwx n b (a % b) (by omega) (by rw[Nat.pow_succ]at hn;omega) (Nat.le_trans (Zru hba) ha) f (by omega),Nat.gcd_comm a b,Nat.gcd_rec b a,Nat.gcd_comm]
theorem Zwy (a b:Nat) (ha:(wd a).length≤50000) (hb:(wd b).length≤50000):ZoZ (iL (wd a)) (iL (wd b))=some (iL (wd (Nat.gcd a b))):=by
 have bnd:∀x y:Nat,x*y < 2 ^ (32*(wd x).length+32*(wd y).length):=fun x y=>by
  have e:∀z,z < 2 ^ (32*(wd z).length):=fun z=>by
   have:=ZsX z
   rwa [show Bw=2 ^ 32 from rfl,←Nat.pow_mul]at this
  have h1:=Nat.mul_lt_mul_of_lt_of_le (e x) (Nat.le_of_lt (e y)) (Nat.two_pow_pos _)
  rwa [←Nat.pow_add]at h1
 have key:Zon big (iL (wd a)) (iL (wd b))=some (iL (wd (Nat.gcd a b))):=by
  obtain⟨k,hk,hk2⟩:∃k,big=k+1∧3200004 < k:=⟨36893488147419103231,by rw[big_eq],by omega⟩;rw[hk];rcases Nat.lt_or_ge a b with h |h
  ·show ZoN (Zon k) _ _=_;unfold ZoN;have h0:b≠0:=by omega
   have hl:=Zqj h0;rw[ZnR,decide_eq_true (by omega),cond_true,Zwa a b h0 ha hb,Option.bind_some];dsimp only;rw[Nat.mod_eq_of_lt h,Zwx _ b a (by omega) (bnd b a) hb k (by omega),Nat.gcd_comm]
  ·exact Zwx _ a b h (bnd a b) ha (k+1) (by omega)
 unfold ZoZ ZrC;rw[key,Option.bind_some]
end Go.Proofs
