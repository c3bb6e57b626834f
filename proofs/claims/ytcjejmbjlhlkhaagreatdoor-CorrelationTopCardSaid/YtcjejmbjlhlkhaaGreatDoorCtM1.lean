/- Plain laws over the specs, part 1. -/
import Derived.Test.YtcjejmbjlhlkhaaGreatDoorCtM0
set_option linter.all false
open Bool renaming not_true->ZYu
open Int renaming toNat_natCast->Z3W, natAbs_natCast->Z3S, natAbs_mul->Z3R, natAbs_neg->Z3T, mul_ne_zero->Z3Q, natCast_add->Z3U, natCast_mul->Z3V
open List renaming getD_eq_getElem?_getD->Z3X, take_of_length_le->Z4c, length_take->Z35, replicate->Z38, getElem?_eq_getElem->Z3Y, mem_cons->Z36, length_singleton->Z34, take_length->Z4b, getElem?_eq_none->Z3Z, getElem_cons_drop->Z31, length_replicate->Z33, length_append->Z32, not_mem_nil->Z37, take_append_drop->Z4a, getElem_append_right->Z30, set_append_right->Z39
open Nat renaming gcd->Z4m, le_trans->Z4q, pow_succ->Z4K, mul_assoc->Z4z, mul_add->Z4y, mod_lt->Z4x, mul_comm->Z4A, mul_zero->Z4E, add_zero->Z4h, pow_zero->Z4L, le_refl->Z4p, pow_add->Z4H, two_pow_pos->Z4N, pow_le_pow_right->Z4I, min_eq_left->Z4u, mul_le_mul_left->Z4B, add_mul->Z4d, one_mul->Z4F, le_of_lt->Z4o, lt_of_le_of_lt->Z4r, lt_or_ge->Z4t, zero_add->Z4O, div_add_mod->Z4i, mod_eq_of_lt->Z4w, div_le_self->Z4k, div_eq_of_lt->Z4j, lt_of_lt_of_le->Z4s, eq_zero_or_pos->Z4l, mul_left_comm->Z4C, gcd_comm->Z4n, pow_mul->Z4J, pos_of_ne_zero->Z4G, add_mul_mod_self_left->Z4g, mod_add_div->Z4v, add_mul_div_left->Z4e, add_mul_div_right->Z4f, mul_lt_mul_of_lt_of_le->Z4D, two_pow_add_eq_or_of_lt->Z4M
open Option renaming bind_some->Z4P
namespace Go.Proofs
open Go Eng
theorem ZPj (l:List Nat) (h:l.length<=1000000):ZrJ (iL l)=some (iL l):=by
 cases l with
 |nil=>
  have a:Zn2 [] true=some []:=rfl;have b:Zn2 [] false=some []:=by kernel_rfl
  show agree (Zn2 [] true) (Zn2 [] false)=some [];grind[ZPV]
 |cons x l=>
  show Zn2 (iL (x::l)) false=_;grind[Zn2,ZsS,Zoy,chk_true]
theorem ZKM {l:List Nat} {k:Nat} (h:val l < Bw ^ k):val (l.take k)=val l:=by
 rcases Z4t k l.length with b |b
 ·have e:val l=val (l.take k++l.drop k):=by rw[Z4a]
  rw[ZIh,Z35,Z4u (by omega)]at e;rcases Z4l (val (l.drop k))with a |a
  ·simp_all
  ·have:=Z4B (Bw ^ k) a;omega
 grind[Z4c]
theorem Z1k (u:List Nat) (k:Nat) (l:k<=u.length) (f:k<=1000000):∃a,a<=k/\val (u.take a)=val (u.take k)/\ZAj (iL u) 0 k=some (0,a,iL u):=by
 have h:wp (ZBR (iL u) 0 k) (fun y=>∃a,a<=k/\val (u.take a)=val (u.take k)/\y=(0,a,iL u)):=by
  unfold ZBR ZCv;rw[ZnN];refine ZnU (Zpm ZH4 (fun(j:Nat)=>(0,j,iL u)) (fun j=>j<=k/\val (u.take j)=val (u.take k)) (fun j=>j) (Q:=fun y=>∃a,a<=k/\val (u.take a)=val (u.take k)/\y=(0,a,iL u)) k ⟨Z4p _,rfl⟩ (by omega) ?_) (fun y c=>ZnL.2 c);rintro e j ⟨g,o⟩ m;unfold ZE5 ZBD Zzi;dsimp only;cases j with
  |zero=>grind[ZnL]
  |succ j=>
   have b:j < u.length:=by omega
   have d:((j+1:Nat):Int) - 1=(j:Int):=by omega
   rw[Zn1];refine⟨fun _=> ?_,fun h=>by simp_all⟩;rw[d,Z3W,Z4O,ZnO,ZnO,ZJo b,ZnN,ZnL,Zn1];grind[ZnS,ZoI,ZnO,Zpc,ZpD,ZnL]
 obtain⟨y,c,a,i,n,rfl⟩:=h;simp_all[ZAj]
theorem ZQt {x y s:Nat} (l:s<=31) (h:x < Bw) (i:y < Bw):((y*4294967296+x) / 2 ^ s % 4294967296)*2 ^ s+x % 2 ^ s=x+Bw*(y % 2 ^ s):=by
 have e:(4294967296:Nat)=2 ^ (32 - s)*2 ^ s:=by rw[<-Z4H,show 32 - s+s=32 by omega]
 have a:=Z4N s;have j:=Z4i x (2 ^ s);have k:=Z4i y (2 ^ s);have f:x / 2 ^ s < 2 ^ (32 - s):=(Nat.div_lt_iff_lt_mul a).2 (by simp_all);have c:=Z4x y a;have d:(y*4294967296+x) / 2 ^ s=y*2 ^ (32 - s)+x / 2 ^ s:=by rw[e,<-Z4z,Nat.add_comm,Z4f _ _ a,Nat.add_comm]
 have g:y*2 ^ (32 - s)+x / 2 ^ s=(y % 2 ^ s)*2 ^ (32 - s)+x / 2 ^ s+4294967296*(y / 2 ^ s):=by
  grind
 have b:(y % 2 ^ s)*2 ^ (32 - s)+x / 2 ^ s < 4294967296:=by have:=Nat.mul_le_mul_right (2 ^ (32 - s)) (show y % 2 ^ s+1<=2 ^ s from c);grind
 rw[d,g,Z4g,Z4w b,Z4d,Z4z,<-e,Z4A (x / 2 ^ s),Z4A (y % 2 ^ s)];grind
theorem ZYc {u:List Nat} {k s R:Nat} (q:List Int) (hs:s<=31) (hd:Dg u) (hk:k<=u.length) (hk2:k<=1000000) (hv:val (u.take k)=R*2 ^ s):
  wp (Zu5 big (s:Int) 0 k ((k:Nat):Int) (0:Int) q (iL u)) (fun y=>∃(o:List Nat),y=(0,k,q,iL (o++u.drop k))/\o.length=k/\Dg o/\val o=R):=by
 refine Zva ZHO k (by omega) (fun i (o:List Nat)=>((s:Int),0,k,(k:Int),i,q,iL (o++u.drop o.length))) (fun i o=>o.length=i/\Dg o/\val o*2 ^ s+(if 0 < k then u.getD 0 0 else 0) % 2 ^ s=val (u.take i)+Bw ^ i*((if i < k then u.getD i 0 else 0) % 2 ^ s)) [] ⟨rfl,ZJs,by simp[val]⟩ ?_ ?_
 ·rintro rec i o hi ⟨hol,hod,hov⟩ ih;have hiu:i < u.length:=by omega
  have h1:=hd.get hiu;unfold ZAS ZwL;dsimp only;rw[Zn1];refine⟨fun _=> ?_,fun h=>by have:=of_decide_eq_false h;omega⟩;have hlen:(o++u.drop o.length).length=u.length:=by simp;omega
  have gx:(iL (o++u.drop o.length))[i]? =some (u[i]:Int):=by rw[ZJo (by omega)];congr 2;rw[Z30 (by omega)];simp[hol]
  obtain⟨y,hy,hyB,hye⟩:∃y:Nat,Zzg (iL (o++u.drop o.length)) 0 k ((i:Int)+1)=some ((y:Int),iL (o++u.drop o.length))/\y < Bw/\y=(if i+1 < k then u.getD (i+1) 0 else 0):=by
   unfold Zzg ZEd
   by_cases hc:i+1 < k
   ·have hiu2:i+1 < u.length:=by omega
    have gy:(iL (o++u.drop o.length))[i+1]? =some (u[i+1]:Int):=by rw[ZJo (by omega)];congr 2;rw[Z30 (by omega)];simp[hol]
    refine⟨u[i+1], ?_,hd.get hiu2, ?_⟩
    ·rw[decide_eq_true (by omega),cond_true,ZoI ⟨by omega,by omega⟩,chk_true,Z4O,show ((i:Int)+1).toNat=i+1 by omega,gy];simp
    ·rw[if_pos hc,Z3X,Z3Y hiu2];rfl
   ·refine⟨0, ?_,by decide,by rw[if_neg hc]⟩;rw[decide_eq_false (by omega),cond_false];simp
  rw[hy,ZnO,ZnN,ZnL];dsimp only;rw[Z3W,Z4O,gx,ZnO,ZnO,ZnN,ZnL,ZnO,ZnO,ZnO,ZNm hyB h1,ZII s (by omega),ZBW];refine⟨ZnS (by omega),by decide,ZoI ⟨by omega,by omega⟩,by simp,ZoI ⟨by omega,by omega⟩,ZnS (by omega), ?_⟩;generalize ez:(y*4294967296+u[i]) / 2 ^ s % 4294967296=z;have hz:z < Bw:=by rw[<-ez];exact Z4x _ (by decide)
  have es:(iL (o++u.drop o.length)).set i (z:Int)=iL ((o++[z])++u.drop (o++[z]).length):=by rw[ZIc,Z39 _ _ (by omega),hol,Nat.sub_self,<-Z31 (h:=hiu),List.set_cons_zero];simp[hol]
  rw[es];refine ih (o++[z]) ⟨by simp[hol],hod.app (ZIA hz), ?_⟩;have hd1:=ZQt hs h1 hyB;grind[ZDc,ZpD,Z4K,Z4d,Z4z]
 ·rintro rec o ⟨hol,hod,hov⟩;unfold ZAS ZwL;dsimp only;rw[Zn1];refine⟨fun h=>by have:=of_decide_eq_true h;omega,fun _=> ?_⟩;rw[ZnL];refine⟨o,by rw[hol],hol,hod, ?_⟩;rw[if_neg (Nat.lt_irrefl _),Nat.zero_mod,Z4E,Z4h,hv]at hov;have hp:=Z4N s;have:(val o*2 ^ s+(if 0 < k then u.getD 0 0 else 0) % 2 ^ s) / 2 ^ s=R*2 ^ s / 2 ^ s:=by rw[hov]
  rw[Nat.add_comm,Z4f _ _ hp,Z4j (Z4x _ hp),Nat.mul_div_cancel _ hp]at this;omega
theorem ZPI {x s:Nat} (a:s<=31) (h:x*2 ^ s < 4294967296):(x+1)*2 ^ s<=4294967296:=by
 have e:(4294967296:Nat)=2 ^ (32 - s)*2 ^ s:=by rw[<-Z4H,show 32 - s+s=32 by omega]
 rw[e]at h|-
 exact Nat.mul_le_mul_right _ (Nat.lt_of_mul_lt_mul_right h)
theorem ZR4 {d u:List Nat} {m K s U:Nat} (V:d.length=m+2) (D:Dg d) (h1:1<=d[m+1]) (Y:u.length=K+m+2) (R:Dg u) (hU:val u=U) (X:U < Bw ^ K*val d) (hK:K<=100000) (Z:m<=100000):
  wp (Zu6 big ((m+2:Nat):Int) (s:Int) (iL d) ((K:Int) - 1) (iL u) (iL (Z38 K 0))) (fun y=>∃J f:List Nat,y=(((m+2:Nat):Int),(s:Int),iL J,iL f)/\J.length=K+m+2/\Dg J/\f.length=K/\Dg f/\val J+val f*val d=U/\val J < val d):=by
 rw[show iL (Z38 K 0)=iL (Z38 (K - ([]:List Nat).length) 0++[]) by simp];have r:=ZEC D;rw[V]at r;refine ZKo ZHP K (by omega) (fun i (t:List Nat×List Nat)=>(((m+2:Nat):Int),(s:Int),iL d,i,iL t.1,iL (Z38 (K - t.2.length) 0++t.2))) (fun k t=>t.1.length=K+m+2/\Dg t.1/\t.2.length+k=K/\Dg t.2/\val t.1+Bw ^ k*(val t.2*val d)=U/\val t.1 < Bw ^ k*val d) (u,[]) ⟨Y,R,by simp,ZJs,by grind[val],by simp_all⟩ ?_ ?_
 ·rintro M k ⟨v,f⟩ hk ⟨g,a,o,l,B,b⟩ W;dsimp only at g a o l B b W;unfold ZAT ZwM;dsimp only;have z:((v.drop k).take (m+3)).length=m+3:=by grind
  have c:(v.take k).length=k:=by grind
  have n:v=v.take k++((v.drop k).take (m+3)++v.drop (k+(m+3))):=by grind[List.drop_drop,Z4a]
  have I:val v=val (v.take k)+Bw ^ k*(val ((v.drop k).take (m+3))+Bw ^ (m+3)*val (v.drop (k+(m+3)))):=by
   have:val v=val (v.take k++((v.drop k).take (m+3)++v.drop (k+(m+3)))):=by grind
   rw[this,ZIh,ZIh,c,z]
  have O:=ZEC (a.take k);rw[c]at O;have N:=(a.drop k).take (m+3);have S:=a.drop (k+(m+3));have F:=a;generalize v.take k=pre at*
  generalize (v.drop k).take (m+3)=w at*
  generalize v.drop (k+(m+3))=suf at*
  subst n;have L:val w+Bw ^ (m+3)*val suf < Bw*val d:=by
   have:Bw ^ k*(val w+Bw ^ (m+3)*val suf) < Bw ^ k*(Bw*val d):=by rw[<-Z4z,<-Z4K];show _ < Bw ^ (k+1)*val d;omega
   exact Nat.lt_of_mul_lt_mul_left this
  have A:val suf=0:=by
   rcases Z4l (val suf)with x |x
   ·exact x
   ·exfalso;have h5:=Z4B (Bw ^ (m+3)) x;have T:Bw*val d<=Bw*Bw ^ (m+2):=Z4B _ (Z4o r);rw[Z4A Bw (Bw ^ (m+2)),<-Z4K]at T;have h7:Bw*val d<=Bw ^ (m+3):=T;omega
  rw[A,Z4E,Z4h]at L I;rw[Zn1];refine⟨fun _=> ?_,fun h=>by have:=of_decide_eq_false h;omega⟩;rw[ZnO,ZnO,ZnO,ZnN,Zoy,g];refine⟨ZnS (by omega),ZnS (by omega),Zpc ⟨by omega,by omega,by omega⟩, ?_⟩;rw[show ((k:Int)+((m+2:Nat):Int)+1).toNat - (k:Int).toNat=m+3 by omega,Z3W];have C:=ZSO (pre:=pre) (suf:=suf) z V N D Z h1 L;rw[c]at C;refine ZnU C ?_;rintro y ⟨w',rfl,G,E,p⟩;dsimp only;have j:0 < val d:=by
   rcases Z4l (val d)with x |x
   ·rw[x,Z4E]at L;omega
   ·exact x
  have hq:val w / val d < Bw:=(Nat.div_lt_iff_lt_mul j).2 L;have P:=Z4i (val w) (val d);have Q:=Z4x (val w) j;generalize val w / val d=q at*
  have es:(Z38 (K - f.length) 0++f).set k q=Z38 (K - (f.length+1)) 0++q::f:=by
   have e:K - f.length=k+1:=by omega
   have e2:K - (f.length+1)=k:=by omega
   rw[e,e2,List.replicate_succ',List.append_assoc,Z39 _ _ (by simp),Z33,Nat.sub_self];rfl
  rw[ZnO,ZnO,ZIc,es];refine⟨ZoI ⟨by omega,by rw[Zoy];simp only[Z32,Z33];omega⟩,ZnS (by omega), ?_⟩;have aa:suf.length+(k+(m+3))=K+m+2:=by rw[<-g,Z32,Z32,c,z];omega
  refine W (pre++(w'++suf),q::f) ⟨?_, ?_,by simp only[List.length_cons];omega,fun y H=> ?_, ?_, ?_⟩
  ·simp only[Z32,c,G];omega
  ·refine Dg.app (fun y H=>F y (List.mem_append_left _ H)) (Dg.app E S)
  ·rcases Z36.1 H with rfl |H
   ·exact hq
   ·exact l y H
  ·dsimp only;rw[ZIh,ZIh,c,A,Z4E,Z4h,p,val,Z4d,Z4y];rw[I,<-P,Z4y,Z4K,Z4z]at B;rw[Z4A q (val d),Z4z Bw];omega
  ·dsimp only;rw[ZIh,ZIh,c,A,Z4E,Z4h,p];have:=Z4B (Bw ^ k) (show val w % val d+1<=val d from Q);rw[Z4y,Nat.mul_one]at this;omega
 ·rintro M ⟨v,f⟩ ⟨g,a,o,l,B,b⟩;dsimp only at g a o l B b;unfold ZAT ZwM;dsimp only;rw[Zn1];refine⟨fun h=>by have:=of_decide_eq_true h;omega,fun _=> ?_⟩;rw[ZnL];rw[Z4L,Z4F]at B b;refine⟨v,f, ?_,g,a,o,l,B,b⟩;rw[show K - f.length=0 by omega];rfl
end Go.Proofs
namespace Go.Proofs
open Go Eng
theorem ZKx (a b:Nat) (hb0:b≠0) (ha:(wd a).length<=50000) (hb:(wd b).length<=50000):Ztb (iL (wd a)) (iL (wd b))=some (iL (wd (a / b)),iL (wd (a % b))):=by
 refine Zps ?_;unfold Ztb;rw[ZKE a b (by omega) (by omega),ZnN,ZnL,Zn1];refine⟨fun h=> ?_,fun h=> ?_⟩
 ·grind[Nat.lt_trichotomy,ZEn,ZFM,ZPj,ZnL,Z4j,Z4w,ZBb,ZYO]
 ·have hab:b<=a:=by
   grind[ZGb]
  have hlb:=Zw0 hb0;rw[Zoy,Zoy,Zn1];refine⟨fun h=> ?_,fun h=> ?_⟩
  ·have h1:(wd b).length=1:=by grind
   have hbB:b < Bw:=by grind[ZDH]
   have eb:idx (iL (wd b)) 0=some (b:Int):=by rw[ZJ8 hb0,Z4w hbB];rfl
   rw[eb,ZnN,ZnL,ZSd a b hb0 hbB (by omega),ZnN,ZnL];dsimp only;have hr:a % b < Bw:=Nat.lt_trans (Z4x _ (by omega)) hbB;rw[show ([((a % b:Nat):Int)]:List Int)=iL [a % b]from rfl,ZIH (ZIA hr) (by simp),ZnN,ZnL,ZnL];grind[val]
  ·obtain⟨m,hm⟩:∃m,(wd b).length=m+2:=⟨(wd b).length - 2,by
    grind⟩
   have hla:m+2<=(wd a).length:=by
    rcases Z4t (wd a).length (wd b).length with h1 |h1
    ·have:=ZL5 h1;omega
    omega
   have hi:m+1 < (wd b).length:=by omega
   have htop:(wd b)[m+1]≠0:=fun e=>by have h1:=ZpD hi;rw[e,Z4E,Z4h,Z4c (by omega),Zwn]at h1;have h2:=ZEC ((ZCE b).take (m+1));rw[Z35,Z4u (by omega)]at h2;have h3:=ZMW hi;omega
   obtain⟨s,hs,hse,hs1,hs2⟩:=ZYE htop ((ZCE b).get hi);have e1:((m+2:Nat):Int) - 1=((m+1:Nat):Int):=by omega
   rw[hm,e1,ZA9 hi,ZnO,ZnN,ZnL,hse,ZnN,ZnL];refine⟨ZnS (by omega), ?_⟩;obtain⟨u,hu,hud,hul,huv⟩:=ZLX (wd a) s hs (by omega) (ZCE a);obtain⟨v,hv,hvd,hvl,hvv⟩:=ZLX (wd b) s hs (by omega) (ZCE b);rw[hu,ZnN,ZnL,hv,ZnN,ZnL,ZnO,ZnO,ZnO,ZnO,ZnO];rw[Zwn]at huv hvv;have hvlt:val v < Bw ^ (m+2):=by
    have h1:=ZpD hi;rw[Z4c (by omega),Zwn]at h1;have h2:=ZEC ((ZCE b).take (m+1));rw[Z35,Z4u (by omega)]at h2;have h3:b+1<=Bw ^ (m+1)*((wd b)[m+1]+1):=by rw[Z4y,Nat.mul_one];omega
    have h4:=Nat.mul_le_mul_right (2 ^ s) h3;have h5:=Z4B (Bw ^ (m+1)) (ZPI hs hs2);rw[Z4z]at h4;have h6:=Z4N s;rw[Z4d,Z4F]at h4;rw[hvv,Z4K];show _ < Bw ^ (m+1)*4294967296;omega
   obtain⟨K,hK⟩:∃K,(wd a).length=K+m+1:=⟨(wd a).length - m - 1,by omega⟩;have eK:((wd a).length:Int) - ((m+2:Nat):Int)+1=(K:Int):=by omega
   have ed:((iL v).drop 0).take (((m+2:Nat):Int).toNat - 0)=iL (v.take (m+2)):=by rw[List.drop_zero,Z3W,Nat.sub_zero,ZOb]
   have hdv:val (v.take (m+2))=b*2 ^ s:=by rw[ZKM hvlt,hvv]
   have hdl:(v.take (m+2)).length=m+2:=by rw[Z35];omega
   have hdd:=hvd.take (m+2);rw[eK,ed,Z3W,ZLz,Zoy v,Zoy (Z38 K 0),Z33];refine⟨Zpc ⟨by omega,by omega,by omega⟩,ZnS (by omega),ZnS (by omega),ZIT (by omega),ZnS (by omega), ?_⟩;generalize v.take (m+2)=d at*
   have hp:=Z4N s;have h1:1<=d[m+1]:=by
    rcases Z4l d[m+1]with hz |hz
    ·exfalso;have h1:=ZpD (l:=d) (k:=m+1) (by omega);rw[hz,Z4E,Z4h,Z4c (by omega)]at h1;have h2:=ZEC (hdd.take (m+1));rw[Z35,Z4u (by omega)]at h2;rw[hdv]at h1;have h3:=ZMW hi;have:=Nat.le_mul_of_pos_right b hp;omega
    ·exact hz
   have hUlt:a*2 ^ s < Bw ^ K*val d:=by have h2:=ZDH a;have h3:=Z4B (Bw ^ K) (ZMW hi);rw[<-Z4H,<-Nat.add_assoc,<-hK]at h3;rw[hdv,<-Z4z];exact Nat.mul_lt_mul_of_pos_right (by omega) hp
   rw[ZnN];refine ZnU (ZR4 (s:=s) hdl hdd h1 (by omega) hud huv hUlt (by omega) (by omega)) ?_;rintro y ⟨u',qs,rfl,hu'l,hu'd,hql,hqd,hv',hlt'⟩;dsimp only;have hDpos:0 < val d:=by omega
   have eq1:val qs=a / b:=by rw[<-Nat.mul_div_mul_right a b hp,<-hdv,<-hv',Z4f _ _ hDpos,Z4j hlt',Z4O]
   have eq2:val u'=a % b*2 ^ s:=by rw[<-Nat.mul_mod_mul_right,<-hdv,<-hv',Nat.add_mul_mod_self_right,Z4w hlt']
   have hDlt:=ZEC hdd;rw[hdl]at hDlt;have hut:val (u'.take (m+2))=val u':=ZKM (by omega);obtain⟨k',hk',hkv,hke⟩:=Z1k u' (m+2) (by omega) (by omega);unfold ZCa;rw[Z3W,Nat.sub_zero,hke,ZnO,ZnN,ZnL,Zoy];refine⟨Zpc ⟨by omega,by omega,by omega⟩, ?_⟩;dsimp only;rw[ZnN];refine ZnU (ZYc (R:=a % b) (iL qs) hs hu'd (by omega) (by omega) (by rw[hkv,hut,eq2])) ?_;grind[ZB9,ZOb,ZIH,ZnL]
theorem Zyc {a b:Nat} (h:a<=b):(wd a).length<=(wd b).length:=ZGk (Z4r h (ZDH b))
theorem ZLD:∀(n a b:Nat),b<=a->a*b < 2 ^ n->(wd a).length<=50000->∀f,n < f->ZqH f (iL (wd a)) (iL (wd b))=some (iL (wd (Z4m a b)))
 |n,a,b,hba,hn,ha,0,hf=>absurd hf (by omega)
 |n,a,b,hba,hn,ha,f+1,hf=>by
  show ZsO (ZqH f) _ _=_;unfold ZsO;rw[Zoy]
  by_cases h0:b=0
  ·grind[ZBb]
  ·have i:=Zw0 h0;rw[decide_eq_true (by omega),cond_true,ZKx a b h0 ha (Z4q (Zyc hba) ha),Z4P];dsimp only;have d:=Z4x a (show 0 < b by omega);cases n with
   |zero=>
    have:1*1<=a*b:=Nat.mul_le_mul (by omega) (by omega);omega
   |succ n=>
    have g:=Z4i a b;have c:1<=a / b:=(Nat.le_div_iff_mul_le (by omega)).2 (by omega);have h:=Z4B b c;have e:b*(2*(a % b))<=b*a:=Z4B b (by omega);rw[Z4C,Z4A b a]at e;rw[ZLD n b (a % b) (by omega) (by omega) (Z4q (Zyc hba) ha) f (by omega),Z4n a b,Nat.gcd_rec b a,Z4n]
theorem ZLE (a b:Nat) (ha:(wd a).length<=50000) (hb:(wd b).length<=50000):Zwh (iL (wd a)) (iL (wd b))=some (iL (wd (Z4m a b))):=by
 have bnd:∀x y:Nat,x*y < 2 ^ (32*(wd x).length+32*(wd y).length):=fun x y=>by
  have e:∀z,z < 2 ^ (32*(wd z).length):=fun z=>by
   grind[ZDH,Z4J]
  simp_all[Z4D,Z4o,Z4N,Z4H]
 have key:ZqH big (iL (wd a)) (iL (wd b))=some (iL (wd (Z4m a b))):=by
  obtain⟨k,hk,hk2⟩:∃k,big=k+1/\3200004 < k:=⟨36893488147419103231,by rw[big_eq],by omega⟩;rw[hk];rcases Z4t a b with h |h
  ·show ZsO (ZqH k) _ _=_;unfold ZsO;have h0:b≠0:=by omega
   have hl:=Zw0 h0;rw[Zoy,decide_eq_true (by omega),cond_true,ZKx a b h0 ha hb,Z4P];dsimp only;rw[Z4w h,ZLD _ b a (by omega) (bnd b a) hb k (by omega),Z4n]
  ·exact ZLD _ a b h (bnd a b) ha (k+1) (by omega)
 grind[Zwh,ZAU]
end Go.Proofs
namespace Go.Proofs
open Go Eng
def bg (z:Int):ZnP:=⟨decide (z < 0),iL (wd z.natAbs)⟩
theorem ZFP (z:Int):(bg z).Neg=decide (z < 0):=rfl
theorem Zra (z:Int):(bg z).Words=iL (wd z.natAbs):=rfl
abbrev Wl (n:Nat) (z:Int):Prop:=(wd z.natAbs).length<=n
theorem ZCF (a:Bool) (n:Nat) (h:(wd n).length<=1000000):Zqb a (iL (wd n))=some (bg (if a then -(n:Int)else n)):=by
 unfold Zqb ZBS bg;have b:Zi5 (iL (wd n)).length 4=true:=ZsS (by grind[Zoy]);grind[chk_true,Zoy,ZBb,Zw0]
theorem ZKA (n:Nat) (h:n < 18446744073709551616):Zx9 (n:Int)=some (iL (wd n)):=by
 unfold Zx9;have e:([IntKind.wrap .u32 (n:Int),IntKind.wrap .u32 (shrK .u64 (n:Int) 32)]:List Int)=iL [n % 4294967296,n / 4294967296]:=by rw[show (32:Int)=((32:Nat):Int)from rfl,ZII 32 (by omega),ZBW,ZCD (by omega)];rfl
 have a:Dg [n % 4294967296,n / 4294967296]:=fun d a=>by
  grind
 simp_all[ZIH,val,Z4v]
theorem ZVb {n:Nat} (h:n < 18446744073709551616):(wd n).length<=2:=ZGk (by omega)
theorem ZL7 (z:Int) (a: -9223372036854775808<=z) (b:z<=9223372036854775807):ZA3 z=some (bg z):=by
 unfold ZA3
 by_cases hz:z < 0
 ·have e:IntKind.wrap .u64 (0 - IntKind.wrap .u64 z)=((z.natAbs:Nat):Int):=by grind[IntKind.wrap_u64]
  grind[ZKA,ZCF,ZVb]
 ·have e:IntKind.wrap .u64 z=((z.natAbs:Nat):Int):=by grind[IntKind.wrap_u64]
  grind[ZKA,ZCF,ZVb]
theorem ZHE (z:Int) (h:Wl 256 z):Zz3 (bg z)=some true:=by
 unfold Wl at h;have a:∀b:0 < (wd z.natAbs).length,∃x:Nat,idx (iL (wd z.natAbs)) (((wd z.natAbs).length:Int) - 1)=some (x:Int)/\x≠0:=fun b=>by
  refine⟨(wd z.natAbs)[(wd z.natAbs).length - 1], ?_,fun e=> ?_⟩
  ·grind[ZA9]
  ·have hi:(wd z.natAbs).length - 1 < (wd z.natAbs).length:=by omega
   have c:=ZpD hi;rw[e,Z4E,Z4h,Z4c (by omega),Zwn]at c;have d:=ZEC ((ZCE z.natAbs).take ((wd z.natAbs).length - 1));rw[Z35,Z4u (by omega)]at d;have i:=ZMW hi;omega
 unfold Zz3 Zrf;rw[Zra,ZFP,Zoy,decide_eq_true (by omega),cond_true]
 by_cases h0:(wd z.natAbs).length=0
 ·grind[ZX2]
 ·obtain⟨x,j,f⟩:=a (by omega);have k:(((wd z.natAbs).length:Int) == 0)=false:=beq_eq_false_iff_ne.2 (by omega);have g:((x:Int) != 0)=true:=by simp_all
  grind[ZnS,chk_true]
theorem ZRk (x y:Int):(if (!((bg x).Neg == (bg y).Neg))=true then -((x.natAbs*y.natAbs:Nat):Int)else ((x.natAbs*y.natAbs:Nat):Int))=x*y:=by
 rw[ZFP,ZFP]
 grind
theorem ZI8 {x y n m:Nat} (c:(wd x).length<=n) (b:(wd y).length<=m):(wd (x*y)).length<=n+m:=by refine ZGk ?_;have a:=Z4D (ZDH x) (Z4o (ZDH y)) (Nat.pow_pos (by decide));rw[<-Z4H]at a;grind[Z4s,Z4I]
theorem ZEy (x y:Int) (b:Wl 50000 x) (a:Wl 50000 y):Zn9 (bg x) (bg y)=some (bg (x*y)):=by unfold Zn9;have:=ZI8 b a;grind[Zra,ZMk,ZCF,ZRk]
theorem ZLU {x y n:Nat} (b:(wd x).length<=n) (a:(wd y).length<=n):(wd (x+y)).length<=n+1:=by refine ZGk ?_;grind[Z4s,ZDH,Z4I]
theorem ZTo (x y:Int) (b:Wl 50000 x) (c:Wl 50000 y):ZC1 (bg x) (bg y)=some (bg (x+y)):=by
 unfold Wl at b c;unfold ZC1;have f:=ZLU b c;rw[Zra,Zra,ZFP,ZFP];have a:decide (x < 0)≠decide (y < 0)->ZrF (iL (wd x.natAbs)) (iL (wd y.natAbs))=some (ZL4 x.natAbs y.natAbs):=fun _=>ZKE _ _ (by omega) (by omega)
 by_cases hs:decide (x < 0)=decide (y < 0)
 ·grind[ZQD,ZCF]
 ·rw[beq_eq_false_iff_ne.2 hs,cond_false,a hs,Z4P];rcases Z4t x.natAbs y.natAbs with e |d
  ·have:=Zyc (Nat.sub_le y.natAbs x.natAbs);grind[ZGb,ZPc,ZCF]
  ·have g:ZL4 x.natAbs y.natAbs>=0:=by
    grind[ZFM,ZEn]
   have:=Zyc (Nat.sub_le x.natAbs y.natAbs);grind[ZPc,ZCF]
end Go.Proofs
namespace Go.Proofs
open Go Eng
def fOf (q:Rat):ZnK:=⟨bg q.num,bg (q.den:Int)⟩
theorem ZOI {x n:Nat} (g:Nat) (h:(wd x).length<=n):(wd (x / g)).length<=n:=Z4q (Zyc (Z4k x g)) h
theorem ZQk {x y n:Nat} (a:0 < y) (h:(wd y).length<=n):(wd (Z4m x y)).length<=n:=Z4q (Zyc (Nat.gcd_le_right x a)) h
theorem ZHC (x y:Int) (i:y≠0) (b:Wl 50000 x) (a:Wl 50000 y):ZsP (bg x) (bg y)=some (fOf (Rat.divInt x y)):=by
 have f:0 < y.natAbs:=by omega
 have c:Z4m x.natAbs y.natAbs≠0:=fun e=>by simp_all
 have d:=ZQk (x:=x.natAbs) f a;have m:=ZOI (Z4m x.natAbs y.natAbs) b;have h:=ZOI (Z4m x.natAbs y.natAbs) a;unfold ZsP;rw[Zra,Zra,ZLE _ _ b a,Z4P,ZKx _ _ c b d,Z4P];dsimp only;rw[ZKx _ _ c a d,Z4P];dsimp only;rw[ZCF _ _ (by omega),Z4P,ZCF _ _ (by omega),Z4P,ZFP,ZFP];unfold fOf;rw[Rat.num_divInt,Rat.den_divInt,if_neg i];have l:Int.gcd y x=Z4m x.natAbs y.natAbs:=by rw[Int.gcd_comm];rfl
 rw[l];have key:(if (!(decide (x < 0) == decide (y < 0)))=true then -((x.natAbs / Z4m x.natAbs y.natAbs:Nat):Int)else ((x.natAbs / Z4m x.natAbs y.natAbs:Nat):Int))=y.sign*x / (Z4m x.natAbs y.natAbs:Int):=by
  obtain⟨k,o⟩:=Nat.gcd_dvd_left x.natAbs y.natAbs;generalize Z4m x.natAbs y.natAbs=g at*
  have j:0 < g:=by omega
  have n:x.natAbs / g=k:=by simp_all
  have p:((g:Int)*(k:Int)) / (g:Int)=k:=Int.mul_ediv_cancel_left _ (by omega);have q:(-((g:Int)*(k:Int))) / (g:Int)= -k:=by grind[Int.mul_neg,Int.mul_ediv_cancel_left]
  grind
 simp_all
theorem ZRj:∀l:List Int,l.length<=1000->(∀z∈l,Wl 256 z)->ZEi (l.map bg)=some true:=fun l c h=>by
 refine Zps ?_;unfold ZEi;rw[ZnN,List.length_map];refine ZnU (Zva ZJb l.length (by omega) (fun i (_:Unit)=>(l.map bg,(l.length:Int),i)) (fun _ _=>True) (Q:=fun r=>r= .brk ()) () trivial ?_ ?_) ?_
 ·rintro a i ⟨⟩ hi _ b;unfold ZEN ZBT;dsimp only;rw[Zn1];refine⟨fun _=> ?_,fun h=>by simp_all⟩;rw[Zqc (by simp_all),ZnN,ZnL,List.getElem_map,ZHE _ (h _ (List.getElem_mem hi)),ZnN,ZnL];rw[ZYu,cond_false,ZnO];exact⟨ZnS (by omega),b () trivial⟩
 ·grind[ZEN,ZBT,ZnL]
 ·rintro r rfl;exact ZnL.2 rfl
abbrev Wq (n:Nat) (q:Rat):Prop:=Wl n q.num/\Wl n (q.den:Int)
theorem ZLn:iL (wd 1)=[1]:=by rw[ZJ8 (by decide),show 1 / Bw=0 from rfl,ZBb];rfl
theorem ZHe (q:Rat) (h:Wq 256 q):Zrh (fOf q)=some true:=by
 unfold Zrh Zxd fOf;have d:=ZRj [q.num,(q.den:Int)] (by simp) (fun z b=>by
  simp only[Z36,Z37,or_false]at b;rcases b with rfl |rfl
  ·exact h.1
  ·exact h.2)
 have f:=q.den_nz;have g:=Zw0 (n:=(q.den:Int).natAbs) (by omega);have c:=h.1;have a:=h.2;unfold Wl at c a;dsimp only;rw[show ([bg q.num,bg (q.den:Int)]:List ZnP)=[q.num,(q.den:Int)].map bg from rfl,d,Z4P,cond_true,Zra,Zra,Zoy,decide_eq_true (by omega),cond_true,ZFP,decide_eq_false (by omega),Bool.not_false,cond_true,ZLE _ _ (by omega) (by omega),Z4P];have e:Z4m q.num.natAbs (q.den:Int).natAbs=1:=q.reduced;grind[ZGk,ZLn,ZKE,ZEn]
end Go.Proofs
namespace Go.Proofs
open Go Eng
def Sz (k:Nat) (q:Rat):Prop:=q.num.natAbs < 2 ^ k/\q.den < 2 ^ k
theorem Sz.mono {k l:Nat} {q:Rat} (h:Sz k q) (a:k<=l):Sz l q:=⟨Z4s h.1 (Z4I (by decide) a),Z4s h.2 (Z4I (by decide) a)⟩
theorem ZLc {n k:Nat} (h:n < 2 ^ k) (m:Nat) (a:k<=32*m):(wd n).length<=m:=by refine ZGk (Z4s h ?_);rw[show Bw=2 ^ 32 from rfl,<-Z4J];simp_all[Z4I]
theorem Sz.wq {k:Nat} {q:Rat} (h:Sz k q) (a:k<=8192):Wq 256 q:=⟨ZLc h.1 256 (by omega),ZLc (n:=(q.den:Int).natAbs) (by rw[Z3S];exact h.2) 256 (by omega)⟩
theorem ZGm {x y:Int} {k:Nat} (b:y≠0) (a:x.natAbs < 2 ^ k) (c:y.natAbs < 2 ^ k):Sz k (Rat.divInt x y):=by
 unfold Sz;rw[Rat.num_divInt,Rat.den_divInt,if_neg b];refine⟨Z4r ?_ a,Z4r (Z4k _ _) c⟩;have d:((Int.gcd y x:Nat):Int)∣y.sign*x:=Int.dvd_trans (Int.gcd_dvd_right y x) (Int.dvd_mul_left _ _);simp_all[Int.natAbs_ediv_of_dvd,Z3R,Z4k,Int.natAbs_sign_of_ne_zero]
theorem ZGc {x y k l:Nat} (b:x < 2 ^ k) (a:y < 2 ^ l):x*y < 2 ^ (k+l):=by simp_all[Z4H,Z4D,Z4o,Z4N]
theorem ZIE (a b:Rat):Rat.divInt (a.num*(b.den:Int)+b.num*(a.den:Int)) ((a.den:Int)*(b.den:Int))=a+b:=by have c:=a.den_nz;have d:=b.den_nz;rw[<-Rat.divInt_add_divInt _ _ (by omega) (by omega),Rat.num_divInt_den,Rat.num_divInt_den]
theorem ZJG (a b:Rat):Rat.divInt (a.num*b.num) ((a.den:Int)*(b.den:Int))=a*b:=by grind[Rat.divInt_mul_divInt,Rat.num_divInt_den]
theorem Sz.add {a b:Rat} {k l:Nat} (c:Sz k a) (d:Sz l b):Sz (k+l+1) (a+b):=by
 rw[<-ZIE];have g:=a.den_nz;have i:=b.den_nz;have f:=ZGc c.1 d.2;have j:=ZGc c.2 d.1;have h:=ZGc c.2 d.2;have e:=Z4N (k+l);refine ZGm (Z3Q (by omega) (by omega)) ?_ ?_
 all_goals grind[Int.natAbs_add_le,Z3R]
theorem Sz.mul {a b:Rat} {k l:Nat} (d:Sz k a) (c:Sz l b):Sz (k+l) (a*b):=by
 rw[<-ZJG];have e:=a.den_nz;have f:=b.den_nz;refine ZGm (Z3Q (by omega) (by omega)) ?_ ?_
 ·rw[Z3R];exact ZGc d.1 c.1
 ·rw[Z3R,Z3S,Z3S];exact ZGc d.2 c.2
theorem ZSb {q:Rat} (h:Wq 256 q):decide ((if ((fOf q).Den.Words.length:Int) > ((fOf q).Num.Words.length:Int)then ((fOf q).Den.Words.length:Int)else ((fOf q).Num.Words.length:Int)) > 256)=false:=by grind[fOf,Zra,Zoy]
theorem ZH0 {y:Int} (a:y≠0):(((bg y).Words.length:Int) == 0)=false:=by grind[Zw0,Zra,Zoy]
theorem ZTK {a b:Rat} {k l:Nat} (p:Sz k a) (r:Sz l b) (v:k+l+1<=8192):ZE7 (fOf a) (fOf b)=some (fOf (a+b),0):=by
 have B:=a.den_nz;have C:=b.den_nz;have d:=p.wq (by omega);have c:=r.wq (by omega);have w:∀{x y:Int},Wl 256 x->Wl 256 y->Wl 512 (x*y):=fun s t=>by unfold Wl;rw[Z3R];exact ZI8 s t
 have m:∀{n:Nat} {x:Int},Wl n x->n<=50000->Wl 50000 x:=fun h u=>Z4q h u
 have i:=w d.1 c.2;have o:=w c.1 d.2;have A:=w d.2 c.2;have z:Wl 513 (a.num*(b.den:Int)+b.num*(a.den:Int)):=Z4q (Zyc (Int.natAbs_add_le _ _)) (ZLU i o);have j:(a.den:Int)*(b.den:Int)≠0:=Z3Q (by omega) (by omega);unfold ZE7 Ztc;rw[ZHe a d,Z4P,ZYu,cond_false,ZHe b c,Z4P,ZYu];unfold Zt4 ZHQ;rw[cond_false];show ((((Zn9 (bg a.num) (bg (b.den:Int))).bind fun q=>(Zn9 (bg b.num) (bg (a.den:Int))).bind fun e=>(ZC1 q e).bind fun f=>(Zn9 (bg (a.den:Int)) (bg (b.den:Int))).bind fun g=>some (f,g)).bind _).bind _)=_;rw[ZEy _ _ (m d.1 (by omega)) (m c.2 (by omega)),Z4P,ZEy _ _ (m c.1 (by omega)) (m d.2 (by omega)),Z4P,ZTo _ _ (m i (by omega)) (m o (by omega)),Z4P,ZEy _ _ (m d.2 (by omega)) (m c.2 (by omega)),Z4P,Z4P];dsimp only;rw[ZH0 j,cond_false,ZHC _ _ j (m z (by omega)) (m A (by omega)),Z4P,ZIE,ZSb ((p.add r).wq v),cond_false,Z4P]
theorem ZYC {a b:Rat} {k l:Nat} (i:Sz k a) (j:Sz l b) (s:k+l<=8192):ZGh (fOf a) (fOf b)=some (fOf (a*b),0):=by
 have u:=a.den_nz;have v:=b.den_nz;have d:=i.wq (by omega);have c:=j.wq (by omega);have w:∀{x y:Int},Wl 256 x->Wl 256 y->Wl 512 (x*y):=fun p q=>by unfold Wl;rw[Z3R];exact ZI8 p q
 have m:∀{n:Nat} {x:Int},Wl n x->n<=50000->Wl 50000 x:=fun h r=>Z4q h r
 have o:=w d.1 c.1;have t:=w d.2 c.2;have g:(a.den:Int)*(b.den:Int)≠0:=Z3Q (by omega) (by omega);unfold ZGh ZyB;rw[ZHe a d,Z4P,ZYu,cond_false,ZHe b c,Z4P,ZYu];unfold ZsY ZG2;rw[cond_false];show ((((Zn9 (bg a.num) (bg b.num)).bind fun e=>(Zn9 (bg (a.den:Int)) (bg (b.den:Int))).bind fun f=>some (e,f)).bind _).bind _)=_;rw[ZEy _ _ (m d.1 (by omega)) (m c.1 (by omega)),Z4P,ZEy _ _ (m d.2 (by omega)) (m c.2 (by omega)),Z4P,Z4P];dsimp only;rw[ZH0 g,cond_false,ZHC _ _ g (m o (by omega)) (m t (by omega)),Z4P,ZJG,ZSb ((i.mul j).wq s),cond_false,Z4P]
end Go.Proofs
namespace Go.Proofs
open Go Eng
theorem ZLm (z:Int):Zxb (bg z)=some (bg (-z)):=by
 unfold Zxb ZAk;rw[ZFP,Zra,Zoy]
 grind[bg,ZBb,Zw0]
theorem ZVs (q:Rat):fOf (-q)=⟨bg (-q.num),bg (q.den:Int)⟩:=rfl
theorem Sz.neg {q:Rat} {k:Nat} (h:Sz k q):Sz k (-q):=by show (-q.num).natAbs < 2 ^ k/\q.den < 2 ^ k;rw[Z3T];exact h
theorem ZX9 {a b:Rat} {k l:Nat} (f:Sz k a) (d:Sz l b) (e:k+l+1<=8192):ZGg (fOf a) (fOf b)=some (fOf (a - b),0):=by unfold ZGg;rw[ZHe b (d.wq (by omega)),Z4P,ZYu,cond_false];show ((Zxb (bg b.num)).bind fun c=>(Ztc (fOf a) (ZnK.mk c (bg (b.den:Int)))).bind fun x=>some (x.1,x.2))=_;have:=ZTK f d.neg e;grind[ZE7,ZLm,ZVs]
theorem ZIx {a b:Rat} {k l:Nat} (e:Sz k a) (c:Sz l b) (d:k+l+1<=8192):ZFz (fOf a) (fOf b)=some (fOf (a+b)):=by grind[ZFz,ZCu,ZTK]
theorem ZHY {a b:Rat} {k l:Nat} (e:Sz k a) (c:Sz l b) (d:k+l<=8192):ZE3 (fOf a) (fOf b)=some (fOf (a*b)):=by grind[ZE3,ZCu,ZYC]
theorem ZQK {a b:Rat} {k l:Nat} (e:Sz k a) (c:Sz l b) (d:k+l+1<=8192):ZKc (fOf a) (fOf b)=some (fOf (a - b)):=by grind[ZKc,ZCu,ZX9]
def ZKe (a b:Rat):Int:=if a < b then -1 else if b < a then 1 else 0
theorem ZK6 (a b:Rat):a < b<->a.num*(b.den:Int) < b.num*(a.den:Int):=Rat.lt_iff a b
theorem ZTH {a b:Rat} (d:Wq 256 a) (c:Wq 256 b):ZE6 (fOf a) (fOf b)=some (ZKe a b):=by
 have w:∀{x y:Int},Wl 256 x->Wl 256 y->Wl 50000 (x*y):=fun e f=>by unfold Wl;rw[Z3R];exact Z4q (ZI8 e f) (by decide)
 have m:∀{x:Int},Wl 256 x->Wl 50000 x:=fun h=>Z4q h (by decide)
 unfold ZE6;rw[ZHe a d,Z4P,ZYu,cond_false,ZHe b c,Z4P,ZYu];unfold ZEw;rw[cond_false];show ((Zn9 (bg a.num) (bg (b.den:Int))).bind fun q=>(Zn9 (bg b.num) (bg (a.den:Int))).bind _)=_;rw[ZEy _ _ (m d.1) (m c.2),Z4P,ZEy _ _ (m c.1) (m d.2),Z4P,ZLm,Z4P];have g:Wl 50000 (-(b.num*(a.den:Int))):=by grind[Z3T]
 rw[ZTo _ _ (w d.1 c.2) g,Z4P,ZFP,Zra,Zoy];unfold ZKe;have j:=ZK6 a b;have k:=ZK6 b a;generalize a.num*(b.den:Int)=x at*
 generalize b.num*(a.den:Int)=y at*
 by_cases hl:a < b
 ·grind
 ·have l:¬x < y:=fun h=>hl (j.2 h)
  rw[if_neg hl,decide_eq_false (by omega),cond_false]
  by_cases hg:b < a
  ·have:=Zw0 (n:=(x+ -y).natAbs) (by grind);simp_all
  ·have i:¬y < x:=fun h=>hg (k.2 h)
   rw[if_neg hg,show x+ -y=0 by omega,show (0:Int).natAbs=0 from rfl,ZBb];rfl
theorem ZU8 (x y:Int) (c:y≠0) (b:Wl 256 x) (a:Wl 256 y):ZFD (bg x) (bg y)=some (fOf (Rat.divInt x y),0):=by
 have d:=ZRj [x,y] (by simp) (fun z e=>by
  grind)
 grind[ZFD,ZH0,ZHC]
theorem Z0N {z:Int} (a: -9223372036854775808<=z) (b:z<=9223372036854775807):Wl 256 z:=Z4q (ZVb (by omega)) (by decide)
theorem ZYA (x y:Int) (c:y≠0) (d: -9223372036854775808<=x) (e:x<=9223372036854775807) (b: -9223372036854775808<=y) (a:y<=9223372036854775807):ZFC x y=some (fOf (Rat.divInt x y),0):=by grind[ZFC,ZL7,ZU8,Z0N]
theorem ZLb:Zzm=some (fOf 0):=by grind[Zzm,ZYA,Rat.zero_divInt]
theorem ZPa (x y:Int) (c:y≠0) (d: -9223372036854775808<=x) (e:x<=9223372036854775807) (b: -9223372036854775808<=y) (a:y<=9223372036854775807):ZIM x y=some (fOf (Rat.divInt x y)):=by grind[ZIM,ZYA]
theorem ZKw:Sz 1 0:=by simp_all[Sz]
theorem ZMp {a:Rat} (b:Wq 256 a):ZF7 (fOf a)=some (ZKe a 0):=by unfold ZF7;rw[ZLb,Z4P,ZTH b (ZKw.wq (by decide)),Z4P]
theorem ZJJ (a b:Rat):Rat.divInt (a.num*(b.den:Int)) ((a.den:Int)*b.num)=a / b:=by grind[Rat.divInt_mul_divInt,Rat.num_divInt_den,Rat.inv_def]
theorem Sz.div {a b:Rat} {k l:Nat} (c:b≠0) (d:Sz k a) (f:Sz l b):Sz (k+l) (a / b):=by
 rw[<-ZJJ];have h:=a.den_nz;have g:b.num≠0:=fun e=>c (Rat.num_eq_zero.1 e)
 refine ZGm (Z3Q (by omega) g) ?_ ?_
 ·rw[Z3R,Z3S];exact ZGc d.1 f.2
 ·rw[Z3R,Z3S];exact ZGc d.2 f.1
theorem ZY6 {a b:Rat} {k l:Nat} (c:b≠0) (n:Sz k a) (o:Sz l b) (s:k+l<=8192):ZGi (fOf a) (fOf b)=some (fOf (a / b),0):=by
 have v:=a.den_nz;have t:b.num≠0:=fun e=>c (Rat.num_eq_zero.1 e)
 have f:=n.wq (by omega);have d:=o.wq (by omega);have w:∀{x y:Int},Wl 256 x->Wl 256 y->Wl 50000 (x*y):=fun q r=>by unfold Wl;rw[Z3R];exact Z4q (ZI8 q r) (by decide)
 have m:∀{x:Int},Wl 256 x->Wl 50000 x:=fun h=>Z4q h (by decide)
 have p:=w f.1 d.2;have u:=w f.2 d.1;have j:(a.den:Int)*b.num≠0:=Z3Q (by omega) t;unfold ZGi ZyA;rw[ZHe a f,Z4P,ZYu,cond_false,ZHe b d,Z4P,ZYu];unfold ZsX ZHR;rw[cond_false];show ((((Zn9 (bg a.num) (bg (b.den:Int))).bind fun g=>(Zn9 (bg (a.den:Int)) (bg b.num)).bind fun i=>some (g,i)).bind _).bind _)=_;rw[ZEy _ _ (m f.1) (m d.2),Z4P,ZEy _ _ (m f.2) (m d.1),Z4P,Z4P];dsimp only;rw[ZH0 j,cond_false,ZHC _ _ j p u,Z4P,ZJJ,ZSb ((Sz.div c n o).wq s),cond_false,Z4P]
theorem ZNe {a b:Rat} {k l:Nat} (c:b≠0) (f:Sz k a) (d:Sz l b) (e:k+l<=8192):ZHM (fOf a) (fOf b)=some (fOf (a / b)):=by grind[ZHM,ZCu,ZY6]
end Go.Proofs
namespace Go.Proofs
open Go Eng
theorem ZOM:∀n w,ZqC n w=ZrO n w
 |0,_=>rfl
 |n+1,w=>by have:ZqC n=ZrO n:=funext (ZOM n);show ZDt (ZqC n) w=Zzh (ZrO n) w;rw[this];rfl
theorem ZPo (w:List Int):Zpn w=ZpH w:=by unfold Zpn ZpH;rw[ZOM];rfl
theorem ZJA {l:List Nat} (h:Dg l) (a:l.length<=1000000):Zpn (iL l)=some (iL (wd (val l))):=by grind[ZPo,ZIH]
theorem ZJx (neg:Bool) {l:List Nat} (h:Dg l) (hl:l.length<=1000000):ZoT neg (iL l)=some (bg (if neg then -(val l:Int)else val l)):=by
 unfold ZoT Zxx;rw[ZJA h hl,Z4P,Zoy];grind[bg,ZBb,Zw0]
theorem ZGe (a:ZnP):Zru a=Zz3 a:=rfl
end Go.Proofs
namespace Go.Proofs
open Go Eng
theorem ZLG (a b:Nat) (d:(wd a).length<=100000) (e:(wd b).length<=100000):Zqm (iL (wd a)) (iL (wd b))=some (ZL4 a b):=by
 refine Zps ?_;unfold Zqm;rw[Zoy,Zoy,Zn1];refine⟨fun h=> ?_,fun h=> ?_⟩
 ·grind[ZnL,ZGb,ZL5,ZFM]
 ·have t:(wd a).length=(wd b).length:=by grind
  rw[ZnO,ZnN];refine⟨ZnS (by omega), ?_⟩;refine ZnU (ZKo ZHq (wd a).length (by omega) (fun i (s:Unit)=>(iL (wd a),iL (wd b),i)) (fun k _=>(wd a).drop k=(wd b).drop k)
   (Q:=fun r=>r= .ret (ZL4 a b)\/r= .brk ()/\a=b) () (by simp_all) ?_ ?_) ?_
  ·rintro n k ⟨⟩ j g o;have c:k < (wd b).length:=by omega
   unfold ZzK Zv0;dsimp only;rw[Zn1];refine⟨fun _=> ?_,fun h=>by simp_all⟩;have d:=ZHF j;have e:=ZHF c;rw[Zwn]at d e;have l:val ((wd a).take k) < Bw ^ k:=by have:=ZEC ((ZCE a).take k);grind
   have q:val ((wd b).take k) < Bw ^ k:=by have:=ZEC ((ZCE b).take k);grind
   rw[ZA9 j,ZnN,ZnL,ZA9 c,ZnN,ZnL,Zn1];refine⟨fun m=> ?_,fun m=> ?_⟩
   ·have p:(wd a)[k] < (wd b)[k]:=by grind
    have:a < b:=by rw[d,e,g];exact ZMh (A:=0) (B:=0) l (by omega)
    grind[ZnL,ZGb]
   ·rw[ZnN,ZnL,ZnN,ZnL,Zn1];refine⟨fun f=> ?_,fun f=> ?_⟩
    ·have p:(wd b)[k] < (wd a)[k]:=by grind
     have:b < a:=by rw[d,e,g];exact ZMh (A:=0) (B:=0) q (by omega)
     grind[ZnL,ZFM]
    ·rw[ZnO];refine⟨ZnS (by omega),o () ?_⟩;grind[Z31]
  all_goals grind[ZzK,Zv0,ZnL,Zwn,ZBv,ZEn]
theorem ZNZ {a:Nat} (k:Nat) (hk:k<=32):shlK .u32 (a:Int) (k:Int)=((a*2 ^ k % 4294967296:Nat):Int):=by
 unfold shlK;rw[Z3W,show IntKind.bits .u32=32 from rfl,Z4u (by omega)];have e:(a:Int)*(2:Int) ^ k=((a*2 ^ k:Nat):Int):=by simp_all
 rw[e,ZBW]
theorem ZOK (a d:Nat) (hd:d<=1) (ha:(wd a).length<=100000):ZuS (iL (wd a)) (d:Int)=some (iL (wd (2*a+d))):=by
 refine Zps ?_;unfold ZuS;rw[ZnN];refine ZnU (Zva ZGv (wd a).length (by omega) (fun i (s:Nat×List Nat)=>(iL (wd a),(s.1:Int),i,iL s.2)) (fun i s=>s.1<=1/\s.2.length=i/\Dg s.2/\val s.2+Bw ^ i*s.1=2*val ((wd a).take i)+d)
  (Q:=fun y=>∃(c:Nat) (o:List Nat),y=((c:Int),iL o)/\c<=1/\Dg o/\o.length=(wd a).length/\val o+Bw ^ (wd a).length*c=2*a+d) (d,[]) ⟨hd,rfl,ZJs,by simp[val]⟩ ?_ ?_) ?_
 ·rintro rec i ⟨c,o⟩ hi ⟨hc,hl,hod,hv⟩ ih;dsimp only at hc hl hod hv ih;have h1:=(ZCE a).get hi;unfold Zyq ZuI;dsimp only;rw[Zn1,Zoy];refine⟨fun _=> ?_,fun h=>by simp_all⟩;rw[ZA9 hi,ZnN,ZnL];generalize ex:(wd a)[i]=x at h1;have eor:orK .u32 (shlK .u32 (x:Int) 1) (c:Int)=((c+x*2 ^ 1 % Bw:Nat):Int):=by rw[show (1:Int)=((1:Nat):Int)from rfl,ZNZ 1 (by omega),ZNb (Z4x _ (by decide)) (by omega),Nat.or_comm];congr 1;exact ZMA (by decide) (by omega) h1
  have esh:shrK .u32 (x:Int) 31=((x / 2 ^ 31:Nat):Int):=ZJS 31 (by omega);rw[eor,Z4P,esh,ZnO,ZnO,ZnO,ZnO,Zoy];have hx:c+x*2 ^ 1 % Bw < Bw:=by grind
  refine⟨by decide,ZsS (by grind),by decide,ZnS (by omega), ?_⟩;have:=ih (x / 2 ^ 31,o++[c+x*2 ^ 1 % Bw]) ⟨by grind,by grind,hod.app (ZIA hx), ?_⟩
  ·rw[ZLA]at this;exact this
  ·dsimp only;have q:c+x*2 ^ 1 % Bw+Bw*(x / 2 ^ 31)=c+2*x:=by simp only[Bw]at h1|-;omega
   have q2:Bw ^ i*(c+x*2 ^ 1 % Bw+Bw*(x / 2 ^ 31))=Bw ^ i*(c+2*x):=by rw[q]
   have q3:Bw ^ i*(2*x)=2*(Bw ^ i*x):=Z4C _ _ _;rw[Z4y,Z4y (Bw ^ i) c (2*x),q3]at q2;grind[ZDc,ZpD]
 ·rintro rec ⟨c,o⟩ ⟨hc,hl,hod,hv⟩;dsimp only at hc hl hod hv;unfold Zyq ZuI;dsimp only;rw[Zn1,Zoy];refine⟨fun h=>by have:=of_decide_eq_true h;omega,fun _=> ?_⟩;rw[ZnL];rw[Z4b,Zwn]at hv;exact⟨c,o,rfl,hc,hod,hl,hv⟩
 ·rintro y ⟨c,o,rfl,hc,hod,hl,hv⟩;dsimp only;unfold ZzD;have e:iL o++[(c:Int)]=iL (o++[c]):=by rw[ZLA];rfl
  rw[ZnO,Zoy,e,ZJA (hod.app (ZIA (by simp only[Bw];omega))) (by simp;omega),ZnN,ZnL,ZnL,ZDc,hl,hv];exact⟨ZsS (by simp only[Z34];omega),rfl⟩
end Go.Proofs
namespace Go.Proofs
open Go Eng
theorem ZUx (t:Int):shrK .i64 t 32=t / 4294967296:=by grind[shrK,IntKind.bits]
theorem ZLi (a b:Nat) (l:b<=a) (F:(wd a).length<=100000):ZsC (iL (wd a)) (iL (wd b))=some (iL (wd (a - b))):=by
 have u:(wd b).length<=(wd a).length:=Zyc l;refine Zps ?_;unfold ZsC;rw[ZnN];refine ZnU (Zva ZHm (wd a).length (by omega) (fun i (s:Nat×List Nat)=>(iL (wd a),iL (wd b), -(s.1:Int),i,iL s.2)) (fun i s=>s.1<=1/\s.2.length=i/\Dg s.2/\val ((wd a).take i)+Bw ^ i*s.1=val s.2+val ((wd b).take i))
  (Q:=fun y=>∃(o:List Nat),y=iL o/\Dg o/\o.length=(wd a).length/\val o=a - b) (0,[]) ⟨by simp,rfl,ZJs,by simp[val]⟩ ?_ ?_) ?_
 ·rintro j i ⟨c,o⟩ hi ⟨m,f,d,g⟩ r;dsimp only at m f d g r;have D:=(ZCE a).get hi;have E:=ZJY (ZCE b) i;have A:(wd b).getD i 0=(if i < (wd b).length then (wd b).getD i 0 else 0):=by
   simp_all
  have z:∀y:Nat,(wd b).getD i 0=y->wp (Zul (fun a b c i p=>j (a,b,c,i,p)) (iL (wd a)) (iL (wd b)) (-(c:Int)+((wd a)[i]:Int) - (y:Int)) (i:Int) (iL o)) (fun y=>∃(o:List Nat),y=iL o/\Dg o/\o.length=(wd a).length/\val o=a - b):=fun y q=>by
   rw[q]at E;generalize ex:(wd a)[i]=x at D;have t:IntKind.wrap .u32 (-(c:Int)+(x:Int) - (y:Int))=(((x+4294967296 - y - c) % 4294967296:Nat):Int):=by grind[IntKind.wrap_u32]
   have v:shrK .i64 (-(c:Int)+(x:Int) - (y:Int)) 32= -(((if x < y+c then 1 else 0):Nat):Int):=by grind[ZUx]
   unfold Zul;rw[t,v,ZnO,ZnO,ZnO,Zoy];refine⟨ZsS (by grind),by decide,ZnS (by omega), ?_⟩;have:=r ((if x < y+c then 1 else 0),o++[(x+4294967296 - y - c) % 4294967296]) ⟨by grind,by grind,d.app (ZIA (Z4x _ (by decide))), ?_⟩
   ·rw[ZLA]at this;exact this
   ·dsimp only;rw[ZDc,f,Z4K,ZpD hi,ZEr,ex,q,Z4z];have e:x+Bw*(if x < y+c then 1 else 0)=(x+4294967296 - y - c) % 4294967296+y+c:=by grind
    grind
  unfold ZzE ZvW;dsimp only;rw[Zn1,Zoy,Zoy];refine⟨fun _=> ?_,fun h=>by simp_all⟩;have w:IntKind.wrap .i64 ((wd a)[i]:Int)=((wd a)[i]:Int):=wrap_i64 (by grind);rw[ZA9 hi,ZnN,ZnL,w,ZnO,Zn1];refine⟨ZnS (by grind),fun h=> ?_,fun h=> ?_⟩
  ·have k:i < (wd b).length:=by have:=of_decide_eq_true h;omega
   have C:=(ZCE b).get k;have B:IntKind.wrap .i64 ((wd b)[i]:Int)=((wd b)[i]:Int):=wrap_i64 (by simp only[Bw]at C;omega);rw[ZA9 k,ZnN,ZnL,B,ZnO];grind[ZnS]
  simp_all
 ·rintro j ⟨c,o⟩ ⟨m,f,d,g⟩;unfold ZzE ZvW;dsimp only at m f d g|-
  rw[Zn1,Zoy];refine⟨fun h=>by have:=of_decide_eq_true h;omega,fun _=> ?_⟩;rw[ZnL];rw[Z4b,Z4c (by omega),Zwn,Zwn]at g;have:=ZEC d;rw[f]at this;have n:c=0:=by
   rcases Z4l c with h |h
   ·exact h
   ·have:c=1:=by omega
    rw[this,Nat.mul_one]at g;omega
  rw[n,Z4E]at g;exact⟨o,rfl,d,f,by omega⟩
 grind[ZBm,ZJA,ZnL]
end Go.Proofs
namespace Go.Proofs
open Go Eng
theorem ZK7 (a:Nat) (ha:(wd a).length<=100000):ZrV (iL (wd a))=some (iL (wd (a / 2))):=by
 refine Zps ?_;unfold ZrV;rw[List.nil_append,ZnO,ZnN,Zoy];refine⟨ZsS (by grind), ?_⟩;refine ZnU (Zva ZGW (wd a).length (by omega) (fun i (o:List Nat)=>(iL (wd a),((wd a).length:Int),i,iL (o++(wd a).drop o.length))) (fun i o=>o.length=i/\Dg o/\val o*2+(wd a).getD 0 0 % 2=val ((wd a).take i)+Bw ^ i*((wd a).getD i 0 % 2))
  (Q:=fun y=>∃(o:List Nat),y=iL o/\Dg o/\o.length=(wd a).length/\val o=a / 2) [] ⟨rfl,ZJs,by simp[val]⟩ ?_ ?_) ?_
 ·rintro rec i o hi ⟨hol,hod,hov⟩ ih;have h1:=(ZCE a).get hi;have hyB:=ZJY (ZCE a) (i+1);have hlen:(o++(wd a).drop o.length).length=(wd a).length:=by grind
  have gx:(iL (o++(wd a).drop o.length))[i]? =some ((wd a)[i]:Int):=by simp_all[ZJo]
  have fin:∀z:Nat,z=(wd a)[i] / 2+(wd a).getD (i+1) 0*2 ^ 31 % Bw->wp (ZtK (fun a t9 i out=>rec (a,t9,i,out)) (iL (wd a)) ((wd a).length:Int) (i:Int) (iL ((o++(wd a).drop o.length).set i z))) (fun y=>∃(o:List Nat),y=iL o/\Dg o/\o.length=(wd a).length/\val o=a / 2):=fun z hz=>by
   unfold ZtK;have es:(o++(wd a).drop o.length).set i z=(o++[z])++(wd a).drop (o++[z]).length:=by rw[Z39 _ _ (by omega),hol,Nat.sub_self,<-Z31 (h:=hi),List.set_cons_zero];simp[hol]
   have eg:(wd a).getD i 0=(wd a)[i]:=by simp_all
   rw[eg]at hov;rw[ZnO,es];generalize ex:(wd a)[i]=x at*
   generalize ey:(wd a).getD (i+1) 0=y at*
   have hzB:z < Bw:=by grind
   refine⟨ZnS (by omega),ih (o++[z]) ⟨by grind,hod.app (ZIA hzB), ?_⟩⟩;have hd1:z*2+x % 2=x+Bw*(y % 2):=by grind
   grind[ZDc,ZpD]
  unfold Zy6 Zvr;dsimp only;rw[Zn1];refine⟨fun _=> ?_,fun h=>by simp_all⟩;have esh:shrK .u32 ((wd a)[i]:Int) 1=(((wd a)[i] / 2:Nat):Int):=ZJS 1 (by omega);rw[Z3W,gx,ZnO,ZnN,ZnL,ZnO,ZnO,ZnO,esh,ZIc,Zoy,Zoy,hlen,Zn1];refine⟨ZoI ⟨by omega,by omega⟩,by decide,ZoI ⟨by omega,by omega⟩,ZnS (by omega),fun h=> ?_,fun h=> ?_⟩
  ·have hi2:i+1 < (wd a).length:=by have:=of_decide_eq_true h;omega
   have gz:(iL ((o++(wd a).drop o.length).set i ((wd a)[i] / 2)))[i]? =some (((wd a)[i] / 2:Nat):Int):=by rw[ZJo (by rw[List.length_set];omega),List.getElem_set_self]
   have e1:(i:Int)+1=((i+1:Nat):Int):=rfl;have eg:(wd a).getD (i+1) 0=(wd a)[i+1]:=by rw[Z3X,Z3Y hi2];rfl
   have eor:orK .u32 (((wd a)[i] / 2:Nat):Int) (shlK .u32 ((wd a)[i+1]:Int) 31)=(((wd a)[i] / 2+(wd a).getD (i+1) 0*2 ^ 31 % Bw:Nat):Int):=by rw[eg,show (31:Int)=((31:Nat):Int)from rfl,ZNZ 31 (by omega),ZNb (by simp only[Bw]at h1;omega) (Z4x _ (by decide))];congr 1;exact ZMA (by decide) (by simp only[Bw]at h1;omega) ((ZCE a).get hi2)
   rw[e1,ZA9 hi2,gz,ZnO,ZnN,ZnL,ZnO,ZnN,ZnL,ZnO,ZnO,eor,Zoy,List.length_set,hlen,ZIc,List.set_set];exact⟨ZoI ⟨by omega,by omega⟩,ZnS (by omega),by decide,ZoI ⟨by omega,by omega⟩,fin _ rfl⟩
  grind
 ·rintro rec o ⟨hol,hod,hov⟩;unfold Zy6 Zvr;dsimp only;rw[Zn1];refine⟨fun h=>by have:=of_decide_eq_true h;omega,fun _=> ?_⟩;rw[ZnL];have eg:(wd a).getD (wd a).length 0=0:=by rw[Z3X,Z3Z (by omega)];rfl
  rw[eg,Nat.zero_mod,Z4E,Z4h,Z4b,Zwn]at hov;refine⟨o,by rw[hol,List.drop_length,List.append_nil],hod,hol, ?_⟩;omega
 grind[ZAL,ZJA,ZnL]
end Go.Proofs
namespace Go.Proofs
open Go Eng
theorem ZNh {a:Nat} (h:a≠0):idx (iL (wd a)) 0=some ((a % Bw:Nat):Int):=by rw[ZJ8 h];rfl
theorem ZLC {a:Nat}:(andK .u32 ((a % Bw:Nat):Int) 1 == 0)=decide (a % 2=0):=by
 rw[show (1:Int)=((1:Nat):Int)from rfl,ZMP (Z4x _ (by decide)) (by decide),Nat.and_one_is_mod];grind
theorem ZO9 (P:Nat->Prop) {f:Nat->List Int×List Int×Int->Option (List Int×List Int×Int)} (y:List Int) (k:Int)
  (hf:∀n x,x≠0->(wd x).length<=100000->f (n+1) (iL (wd x),y,k)=if x % 2=0 then f n (iL (wd (x / 2)),y,k)else some (iL (wd x),y,k))
  (hP:∀x,P (2*x)->P x):∀(n x:Nat),x≠0->(wd x).length<=100000->P x->(∀m,x < 2 ^ m->m<=n->∃z,f n (iL (wd x),y,k)=some (iL (wd z),y,k)/\z % 2=1/\z<=x/\P z)
 |0,x,hx,hl,hp,m,hm,hmn=>by
  simp_all
 |n+1,x,hx,hl,hp,m,hm,hmn=>by
  rw[hf n x hx hl]
  by_cases h:x % 2=0
  ·rw[if_pos h];cases m with
   |zero=>omega
   |succ m=>
    obtain⟨z,h1,h2,h3,h4⟩:=ZO9 P y k hf hP n (x / 2) (by omega) (Z4q (Zyc (Z4k x 2)) hl) (hP _ (by grind)) m (by omega) (by omega);grind
  grind
end Go.Proofs
namespace Go.Proofs
open Go Eng
theorem ZGd (x:Nat):x < 2 ^ (x.log2+1):=Nat.lt_log2_self
theorem ZIU {x n:Nat} (h:(wd x).length<=n):x.log2<=32*n:=by
 rcases Z4l x with rfl |c
 ·simp_all
 ·have b:=Nat.log2_self_le (n:=x) (by omega);have a:=Z4s (ZDH x) (Z4I (n:=Bw) (by decide) h);rw[show Bw=2 ^ 32 from rfl,<-Z4J]at a;grind[Z4o,Nat.pow_lt_pow_iff_right,Z4r]
theorem ZQ6 {x b:Nat} (a:b % 2=1):Z4m (2*x) b=Z4m x b:=by
 have c:Nat.Coprime 2 b:=by grind[Nat.gcd_rec,Nat.gcd_one_left]
 grind[Nat.Coprime.gcd_mul_left_cancel]
theorem Z1R (y:List Int) (k:Int) {x:Nat} (b:Nat) (e:b % 2=1) (c:x≠0) (a:(wd x).length<=100000):∃z,Zp5 big (iL (wd x)) y k=some (iL (wd z),y,k)/\z % 2=1/\z<=x/\Z4m z b=Z4m x b:=by
 have d:=ZIU a;refine ZO9 (fun z=>Z4m z b=Z4m x b) (f:=fun n t=>Zp5 n t.1 t.2.1 t.2.2) y k (fun n x c a=> ?_) (fun z h=>by grind[ZQ6]) big x c a rfl (x.log2+1) (ZGd x) (Z4o (ZID (by omega)));show Zs3 (Zp5 n) (iL (wd x)) y k=_;grind[Zs3,ZNh,ZLC,ZK7]
end Go.Proofs
namespace Go.Proofs
open Go Eng
theorem ZTz (y:List Int) (k:Int) {x:Nat} (a:x % 2=1):Zp5 big (iL (wd x)) y k=some (iL (wd x),y,k):=by obtain⟨n,b⟩:=ZKF 1 (by decide);grind[Zs3,Zp5,ZNh,ZLC]
theorem Z1Q (w:List Int) (k:Int) {y:Nat} (b:Nat) (q:b % 2=1) (j:y≠0) (a:(wd y).length<=100000):∃z,Zp4 big w (iL (wd y)) k=some (w,iL (wd z),k)/\z % 2=1/\(z<=y/\(y % 2=0->z<=y / 2))/\Z4m z b=Z4m y b:=by
 have e:=ZIU a;have c:∀n x,x≠0->(wd x).length<=100000->Zp4 (n+1) w (iL (wd x)) k=if x % 2=0 then Zp4 n w (iL (wd (x / 2))) k else some (w,iL (wd x),k):=fun n x d a=>by
  show ZzH (Zp4 n) w (iL (wd x)) k=_;grind[ZzH,ZNh,ZLC,ZK7]
 have key:∀(n x m:Nat),x≠0->(wd x).length<=100000->x < 2 ^ m->m<=n->∃z,Zp4 n w (iL (wd x)) k=some (w,iL (wd z),k)/\z % 2=1/\(z<=x/\(x % 2=0->z<=x / 2))/\Z4m z b=Z4m x b:=by
  intro n
  induction n with
  |zero=>
   grind
  |succ n o=>
   intro x m d a e i;rw[c n x d a]
   by_cases h:x % 2=0
   ·rw[if_pos h];cases m with
    |zero=>omega
    |succ m=>
     obtain⟨z,l,p,g,f⟩:=o (x / 2) m (by omega) (Z4q (Zyc (Z4k x 2)) a) (by rw[Z4K]at e;omega) (by omega);refine⟨z,l,p,⟨by omega,fun _=>g.1⟩, ?_⟩;rw[f,<-ZQ6 q,show 2*(x / 2)=x by omega]
   grind
 exact key big y (y.log2+1) j a (ZGd y) (Z4o (ZID (by omega)))
end Go.Proofs
namespace Go.Proofs
open Go Eng
theorem ZSz (k:Int):∀(n x y p q:Nat),x % 2=1->(wd x).length<=100000->(wd y).length<=100000->x < 2 ^ p->y < 2 ^ q->p+q+y % 2 < n->ZoC n (iL (wd x)) (iL (wd y)) k=some (iL (wd (Z4m x y)),k)
 |0,x,y,p,q,_,_,_,_,_,h=>absurd h (by omega)
 |n+1,x,y,p,q,d,hxl,b,hp,hq,hn=>by
  show Zs4 (ZoC n) _ _ _=_;unfold Zs4;rw[Zoy]
  by_cases j:y=0
  ·grind[ZBb]
  ·have s:=Zw0 j;obtain⟨z,r,f,e,l⟩:=Z1Q (iL (wd x)) k x d j b;rw[decide_eq_true (by omega),cond_true,ZTz _ _ d,Z4P];dsimp only;unfold ZBs;rw[r,Z4P];dsimp only;have a:=Z4q (Zyc e.1) b;unfold ZBr;rw[ZLG x z hxl a,Z4P];obtain⟨c,i,m⟩:∃c,z < 2 ^ c/\c+1<=q+y % 2:=by
    by_cases he:y % 2=0
    ·cases q with
     |zero=>omega
     |succ q=>
      grind
    grind
   unfold Zxu;have o:Z4m x y=Z4m x z:=by grind
   rw[o]
   by_cases hc:z < x
   ·rw[ZFM hc,show decide ((1:Int) > 0)=true from rfl,cond_true,ZLi x z (by omega) hxl,Z4P,ZSz k n z (x - z) c p f a (Z4q (Zyc (Nat.sub_le x z)) hxl) i (by omega) (by omega),Nat.gcd_sub_self_right (by omega),Z4n]
   ·have g:decide (ZL4 x z > 0)=false:=by grind[ZL4]
    rw[g,cond_false,ZLi z x (by omega) a,Z4P,ZSz k n x (z - x) p c d hxl (Z4q (Zyc (Nat.sub_le z x)) a) hp (by omega) (by omega),Nat.gcd_sub_self_right (by omega)]
end Go.Proofs
namespace Go.Proofs
open Go Eng
theorem ZYG:∀(n x y j m:Nat),x≠0->y≠0->(wd x).length<=100000->(wd y).length<=100000->x < 2 ^ m->m<=n->j+m<=1000000000->
  ∃b a t:Nat,Zst n (iL (wd x)) (iL (wd y)) (j:Int)=some (iL (wd b),iL (wd a),((j+t:Nat):Int))/\(b % 2=1\/a % 2=1)/\Z4m x y=2 ^ t*Z4m b a/\b≠0/\a≠0/\b<=x/\a<=y/\t<=m
 |0,x,y,j,m,hx,hy,d,c,hm,hmn,hj=>by
  simp_all
 |n+1,x,y,j,m,hx,hy,d,c,hm,hmn,hj=>by
  show ∃b a t:Nat,ZzI (Zst n) _ _ _=_/\_;unfold ZzI Zxv;rw[ZNh hx,Z4P,ZLC]
  by_cases h1:x % 2=0
  ·rw[decide_eq_true h1,cond_true,ZNh hy,Z4P,ZLC]
   by_cases h2:y % 2=0
   ·cases m with
    |zero=>omega
    |succ m=>
     rw[decide_eq_true h2,cond_true,ZK7 x d,Z4P,ZK7 y c,Z4P,ZnS (by omega),chk_true];obtain⟨b,a,t,k,f,l,e,g,i,h,o⟩:=ZYG n (x / 2) (y / 2) (j+1) m (by omega) (by omega) (Z4q (Zyc (Z4k x 2)) d) (Z4q (Zyc (Z4k y 2)) c) (by omega) (by omega) (by omega);refine⟨b,a,t+1, ?_,f, ?_,e,g,by omega,by omega,by omega⟩
     ·grind
     ·have:=Nat.gcd_mul_left 2 (x / 2) (y / 2);grind
   ·rw[decide_eq_false h2,cond_false];exact⟨x,y,0,rfl,.inr (by omega),by omega,hx,hy,Z4p _,Z4p _,Nat.zero_le _⟩
  ·rw[decide_eq_false h1,cond_false,cond_false];exact⟨x,y,0,rfl,.inl (by omega),by omega,hx,hy,Z4p _,Z4p _,Nat.zero_le _⟩
theorem ZYF:∀(k n a:Nat),k < n->k<=1000000000->(wd (2 ^ k*a)).length<=100000->Zss n (iL (wd a)) (k:Int)=some (iL (wd (2 ^ k*a)))
 |k,0,a,h,_,_=>absurd h (by omega)
 |0,n+1,a,_,_,_=>by grind[Zs2,Zss]
 |k+1,n+1,a,h,hk,hl=>by
  show Zs2 (Zss n) _ _=_;unfold Zs2;have e:2 ^ (k+1)*a=2 ^ k*(2*a+0):=by grind
  have c:(wd a).length<=100000:=Z4q (Zyc (Nat.le_mul_of_pos_left a (Z4N _))) hl;rw[e]at hl;have b:=ZOK a 0 (by omega) c;rw[Int.natCast_zero]at b;rw[decide_eq_true (by omega),cond_true,b,Z4P,show ((k+1:Nat):Int) - 1=(k:Int) by omega,ZnS (by omega),chk_true,ZYF k n (2*a+0) (by omega) (by omega) hl,e]
theorem ZQ7 (a b:Nat) (ha0:a≠0) (hb0:b≠0) (ha:(wd a).length<=50000) (hb:(wd b).length<=50000):ZwO (iL (wd a)) (iL (wd b))=some (iL (wd (Z4m a b))):=by
 have hla:=ZIU ha;have hlb:=ZIU hb;obtain⟨x,y,t,q1,q2,q3,q4,q5,q6,q7,q8⟩:=ZYG big a b 0 (a.log2+1) ha0 hb0 (by omega) (by omega) (ZGd a) (Z4o (ZID (by omega))) (by omega);rw[Int.natCast_zero,Z4O]at q1;have hxl:=Z4q (Zyc q6) ha;have hyl:=Z4q (Zyc q7) hb;have hlx:=ZIU hxl;have hly:=ZIU hyl;have main:ZoC big (iL (wd x)) (iL (wd y)) (t:Int)=some (iL (wd (Z4m x y)),(t:Int)):=by
  by_cases hx:x % 2=1
  ·exact ZSz _ big x y _ _ hx (by omega) (by omega) (ZGd x) (ZGd y) (ZID (by omega))
  ·have hy:y % 2=1:=by omega
   obtain⟨z,z1,z2,z3,z4⟩:=Z1R (iL (wd y)) (t:Int) y hy q4 (by omega);have hzl:=Z4q (Zyc z3) hxl;have hlz:=ZIU hzl;have e:=ZSz (t:Int) big z y _ _ z2 (by omega) (by omega) (ZGd z) (ZGd y) (ZID (by omega));rw[z4]at e;grind[big_eq,ZoC,Zs4,Zw0,Zoy,decide_eq_true,ZTz]
 grind[ZQk,ZwO,ZBt,ZBq,ZBp,ZYF,ZID]
end Go.Proofs
namespace Go.Proofs
open Go Eng
theorem ZRi {l:List Nat} {i:Nat} (b:Dg l) (h:i / 32 < l.length):l[i / 32] / 2 ^ (i % 32) % 2=val l / 2 ^ i % 2:=by
 have e:=ZHF h;have a:=ZEC (b.take (i / 32));rw[Z35,Z4u (by omega)]at a;have hi:2 ^ i=Bw ^ (i / 32)*2 ^ (i % 32):=by grind[Z4J,Z4H,Z4i]
 have d:i % 32 < 32:=Z4x _ (by decide);have f:Bw=2 ^ (i % 32)*(2*2 ^ (31 - i % 32)):=by rw[show 2*2 ^ (31 - i % 32)=2 ^ (31 - i % 32+1) by omega,<-Z4H,show i % 32+(31 - i % 32+1)=32 by omega]
 have c:val l / Bw ^ (i / 32)=l[i / 32]+Bw*val (l.drop (i / 32+1)):=by grind[Z4e,Z4j]
 grind[Nat.div_div_eq_div_mul,Z4z,Z4e]
end Go.Proofs
namespace Go.Proofs
open Go Eng
theorem ZTm (i:Nat):Int.tdiv (i:Int) 32=((i / 32:Nat):Int):=by simp_all
theorem ZTl (i:Nat):IntKind.wrap .u64 (Int.tmod (i:Int) 32)=((i % 32:Nat):Int):=by grind[IntKind.wrap_u64]
theorem ZZd {l:List Nat} {i:Nat} (a:Dg l) (h:i / 32 < l.length) (hi:i<=1000000000):ZAb (iL l) (i:Int)=some ((val l / 2 ^ i % 2:Nat):Int):=by have b:=a.get h;unfold ZAb;rw[ZTm,ZTl,decide_eq_true (by decide),chk_true,ZnS (by omega),chk_true,ZA9 h,Z4P,chk_true,decide_eq_true (by omega),chk_true,ZJS _ (by omega),show (1:Int)=((1:Nat):Int)from rfl,ZMP (Z4r (Z4k _ _) b) (by decide),Nat.and_one_is_mod,ZRi a h]
end Go.Proofs
namespace Go.Proofs
open Go Eng
theorem ZTv {x j:Nat} (h:x / 2 ^ j % 2=0):x|||2 ^ j=x+2 ^ j:=by
 have a:=Z4x x (Z4N j);have e:x=2 ^ (j+1)*(x / 2 ^ j / 2)+x % 2 ^ j:=by
  grind[Z4i]
 have c:=Z4M (i:=j+1) (b:=x % 2 ^ j) (by omega) (x / 2 ^ j / 2);have d:=Z4M (i:=j) (b:=x % 2 ^ j) a 1;grind[Z4M]
theorem ZUz {j:Nat} (hj:j<=31):shlK .u32 1 (j:Int)=((2 ^ j:Nat):Int):=by have:=ZNZ (a:=1) j (by omega);rw[Z4F,Z4w (Z4r (Z4I (by decide) hj) (by decide))]at this;omega
theorem ZQ3 {A k:Nat}:A / 2 ^ k=2*(A / 2 ^ (k+1))+A / 2 ^ k % 2:=by rw[Z4K,<-Nat.div_div_eq_div_mul];omega
theorem ZRa (a b:Nat) (c:b≠0) (U:(wd a).length<=50000) (M:(wd b).length<=50000):ZwP (iL (wd a)) (iL (wd b))=some (iL (wd (a / b)),iL (wd (a % b))):=by
 have u:∀k,(wd (2*(a / 2 ^ (k+1) % b)+a / 2 ^ k % 2)).length<=50001:=fun k=>by
  have W:=Z4x (a / 2 ^ (k+1)) (Z4G c);have I:2*(a / 2 ^ (k+1) % b)+a / 2 ^ k % 2<=b+b:=by omega
  exact Z4q (Zyc I) (ZLU M M)
 refine Zps ?_;unfold ZwP;rw[ZnO,ZnO,ZnO,ZnN,Zoy,Z3W,ZLz];refine⟨ZIT (by omega),ZnS (by omega),ZnS (by omega), ?_⟩;have v:(32*((wd a).length:Int)) - 1=((32*(wd a).length:Nat):Int) - 1:=by omega
 rw[v,show ([]:List Int)=iL (wd 0) by rw[ZBb];rfl];refine ZnU (ZKo ZHp (32*(wd a).length) (by omega) (fun i (q:Nat×List Nat)=>(iL (wd a),iL (wd b),iL (wd q.1),i,iL q.2))
  (fun k q=>q.1=a / 2 ^ k % b/\Dg q.2/\q.2.length=(wd a).length/\val q.2=a / 2 ^ k / b*2 ^ k)
  (Q:=fun y=>∃o:List Nat,y=(iL (wd (a % b)),iL o)/\Dg o/\o.length=(wd a).length/\val o=a / b) (0,Z38 (wd a).length 0) ?_ ?_ ?_) ?_
 ·grind[Z4j,Z4J,ZDH,Nat.zero_mod,Nat.zero_div,ZRb,ZNV]
 ·rintro B k ⟨r,q⟩ Y ⟨p,m,N,D⟩ R;dsimp only at p m N D;have t:k / 32 < (wd a).length:=by omega
  unfold ZzJ ZvZ;dsimp only;have f:=ZZd (i:=k) (ZCE a) t (by omega);rw[Zwn]at f;have I:a / 2 ^ k % 2<=1:=by omega
  have F:=ZOK r (a / 2 ^ k % 2) I (by
   rw[p];exact Z4q (Zyc (Z4o (Z4x _ (Z4G c)))) (by omega))
  have C:=u k;rw[<-p]at C;have z:=ZQ3 (A:=a) (k:=k);have E:=Z4i (a / 2 ^ (k+1)) b;rw[<-p]at E;have J:r < b:=by rw[p];exact Z4x _ (Z4G c)
  rw[Zn1];refine⟨fun _=> ?_,fun h=>by grind⟩;rw[f,ZnN,ZnL,F,ZnN,ZnL,ZLG _ _ (by omega) (by omega),ZnN,ZnL,Zn1];have O:∀w g,(w=a / 2 ^ k % b/\Dg g/\g.length=(wd a).length/\val g=a / 2 ^ k / b*2 ^ k)->wp (Zuo (fun a b S i q=>B (a,b,S,i,q)) (iL (wd a)) (iL (wd b)) (iL (wd w)) (k:Int) (iL g)) (fun y=>∃o:List Nat,y=(iL (wd (a % b)),iL o)/\Dg o/\o.length=(wd a).length/\val o=a / b):=fun w g h=>by unfold Zuo;rw[ZnO];exact⟨ZnS (by omega),R (w,g) h⟩
  generalize eX:a / 2 ^ (k+1)=X at*
  generalize ed:a / 2 ^ k % 2=d at*
  refine⟨fun s=> ?_,fun s=> ?_⟩
  ·have G:b<=2*r+d:=by
    grind[ZGb]
   have x:k / 32 < q.length:=by omega
   have L:q[k / 32] / 2 ^ (k % 32) % 2=0:=by rw[ZRi m x,D,Z4K,<-Z4z,Nat.mul_right_comm,Nat.mul_div_cancel _ (Z4N k)];omega
   have e:=m.get x;rw[ZLi _ _ G (by omega),ZnN,ZnL,ZTm,ZTl,Z3W,ZnO,ZnO,ZnO,ZJo x,ZnN,ZnL,ZnO,ZnO,ZnO,ZUz (by omega),ZNb e (Z4r (Z4I (by decide) (show k % 32<=31 by omega)) (by decide)),ZTv L,ZIc,Zoy];refine⟨by decide,ZnS (by omega),ZoI ⟨by omega,by omega⟩,by decide,decide_eq_true (by omega),ZoI ⟨by omega,by omega⟩, ?_⟩;have j:q[k / 32]+2 ^ (k % 32) < Bw:=by
    have V:Bw=2 ^ (k % 32)*(2*2 ^ (31 - k % 32)):=by rw[show 2*2 ^ (31 - k % 32)=2 ^ (31 - k % 32+1) by omega,<-Z4H,show k % 32+(31 - k % 32+1)=32 by omega]
    rw[<-ZTv L];exact Nat.or_lt_two_pow (n:=32) e (Z4r (Z4I (by decide) (show k % 32<=31 by omega)) (by decide))
   refine O (2*r+d - b) (q.set (k / 32) (q[k / 32]+2 ^ (k % 32))) ⟨?_,m.set _ j,by simp_all, ?_⟩
   ·rw[z,show 2*X+d=(2*r+d - b)+b*(2*(X / b)+1) by grind,Z4g,Z4w (by omega)]
   ·have H:=ZIg q (k / 32) (q[k / 32]+2 ^ (k % 32)) x;have P:Bw ^ (k / 32)*2 ^ (k % 32)=2 ^ k:=by rw[show Bw=2 ^ 32 from rfl,<-Z4J,<-Z4H,Z4i]
    rw[Z4y,P]at H;have T:(2*X+d) / b=2*(X / b)+1:=by rw[show 2*X+d=(2*r+d - b)+b*(2*(X / b)+1) by rw[Z4y,Z4C];omega,Z4e _ _ (Z4G c),Z4j (by omega),Z4O]
    grind
  ·have l:2*r+d < b:=by
    rcases Z4t (2*r+d) b with h |h
    ·exact h
    ·rcases Z4t b (2*r+d)with K |K
     ·rw[ZFM K]at s;exact absurd (of_decide_eq_false s) (by decide)
     ·rw[show 2*r+d=b by omega,ZEn]at s;exact absurd (of_decide_eq_false s) (by decide)
   have v:2*X+d=(2*r+d)+b*(2*(X / b)):=by rw[Z4C];omega
   refine O (2*r+d) q ⟨?_,m,N, ?_⟩
   ·rw[z,v,Z4g,Z4w l]
   ·rw[z,v,Z4e _ _ (Z4G c),Z4j l,Z4O,D,Z4K,Z4A (2 ^ k) 2,<-Z4z,Z4A (X / b) 2]
 all_goals grind[ZzJ,ZvZ,ZnL,ZBu,ZJA]
end Go.Proofs
namespace Go.Proofs
open Go Eng
theorem ZHD (n:Int):Rat.divInt n 1=(n:Rat):=by grind[Rat.num_divInt_den,Rat.num_intCast,Rat.den_intCast]
end Go.Proofs
namespace Go.Proofs
open Go Eng
theorem ZFf (z:Int) (h1: -9223372036854775808<=z) (h2:z<=9223372036854775807):ZoL z=some (bg z):=by
 have key:∀(b:Bool) (n:Nat),n < 18446744073709551616->ZoT b [IntKind.wrap .u32 (n:Int),IntKind.wrap .u32 (shrK .u64 (n:Int) 32)]=some (bg (if b then -(n:Int)else n)):=fun b n h=>by
  have e:([IntKind.wrap .u32 (n:Int),IntKind.wrap .u32 (shrK .u64 (n:Int) 32)]:List Int)=iL [n % 4294967296,n / 4294967296]:=by rw[show (32:Int)=((32:Nat):Int)from rfl,ZII 32 (by omega),ZBW,ZCD (by omega)];rfl
  grind[Dg,val,ZJx]
 unfold ZoL ZuK;have h32:decide (0<=(32:Int))=true:=rfl
 by_cases hz:z < 0
 ·have e:IntKind.wrap .u64 (0 - IntKind.wrap .u64 z)=((z.natAbs:Nat):Int):=by grind[IntKind.wrap_u64]
  grind[chk_true]
 ·have e:IntKind.wrap .u64 z=((z.natAbs:Nat):Int):=by grind[IntKind.wrap_u64]
  grind[chk_true]
theorem ZVG:bg 0=⟨false,[]⟩:=by unfold bg;rw[show (0:Int).natAbs=0 from rfl,ZBb];rfl
theorem ZJH (x y:Int) (hy:y≠0) (hx1:Wl 50000 x) (hy1:Wl 50000 y):Zsr (bg x) (bg y)=some (fOf (Rat.divInt x y)):=by
 unfold Zsr
 by_cases hx:x=0
 ·subst hx;rw[Rat.zero_divInt,Zra,Zoy,show (0:Int).natAbs=0 from rfl,ZBb,ZFf 1 (by decide) (by decide)];show some (ZnK.mk ⟨false,[]⟩ (bg 1))=some (fOf 0);rw[<-ZVG];rfl
 ·have hx0:0 < x.natAbs:=by omega
  have hy0:0 < y.natAbs:=by omega
  have hg0:Z4m x.natAbs y.natAbs≠0:=fun e=>by simp_all
  have hgl:=ZQk (x:=x.natAbs) hy0 hy1;have hxl:=ZOI (Z4m x.natAbs y.natAbs) hx1;have hyl:=ZOI (Z4m x.natAbs y.natAbs) hy1;have h:=ZHC x y hy hx1 hy1;unfold ZsP at h;rw[Zra,Zra,ZLE _ _ hx1 hy1,Z4P,ZKx _ _ hg0 hx1 hgl,Z4P]at h;dsimp only at h;rw[ZKx _ _ hg0 hy1 hgl,Z4P]at h;dsimp only at h;rw[ZCF _ _ (by omega),Z4P,ZCF _ _ (by omega),Z4P]at h;have hlen:=Zw0 (n:=x.natAbs) (by omega);rw[<-h,Zra,Zra,Zoy,beq_eq_false_iff_ne.2 (by omega),cond_false,ZQ7 _ _ (by omega) (by omega) hx1 hy1,Z4P,ZRa _ _ hg0 hx1 hgl,Z4P];grind[ZRa,ZJx,ZCE,Zwn]
theorem ZSu (x y:Int) (c:y≠0) (b:Wl 256 x) (a:Wl 256 y):Zy7 (bg x) (bg y)=some (fOf (Rat.divInt x y),0):=by grind[Zy7,ZwF,ZGe,ZHE,ZH0,ZJH]
theorem ZYB (x y:Int) (c:y≠0) (d: -9223372036854775808<=x) (e:x<=9223372036854775807) (b: -9223372036854775808<=y) (a:y<=9223372036854775807):ZxO x y=some (fOf (Rat.divInt x y),0):=by grind[ZxO,ZFf,ZSu,Z0N]
theorem ZQF (x y:Int) (c:y≠0) (d: -9223372036854775808<=x) (e:x<=9223372036854775807) (b: -9223372036854775808<=y) (a:y<=9223372036854775807):ZyV x y=some (fOf (Rat.divInt x y)):=by grind[ZyV,ZYB]
theorem ZHA (x:Int) (a: -9223372036854775808<=x) (b:x<=9223372036854775807):Zod x=some (fOf (x:Rat)):=by grind[Zod,ZMV,ZC2,ZQF,ZHD]
theorem ZX3 {a b:Nat} (h:wd a=wd b):a=b:=by grind[Zwn]
theorem ZLY (x y:Int) (b:Wl 100000 x) (d:Wl 100000 y):ZtE (bg x) (bg y)=some (decide (x=y)):=by
 unfold Wl at b d;refine Zps ?_;unfold ZtE ZuG;rw[ZFP,ZFP,Zra,Zra,Zoy,Zoy]
 by_cases hs:decide (x < 0)=decide (y < 0)
 ·rw[hs,beq_self_eq_true,ZYu,cond_false]
  by_cases hl:(wd x.natAbs).length=(wd y.natAbs).length
  ·rw[hl,bne_self_eq_false,cond_false,ZnN];refine ZnU (Zva ZFQ (wd y.natAbs).length (by omega) (fun i (_:Unit)=>(iL (wd x.natAbs),((wd y.natAbs).length:Int),i,bg y)) (fun i _=>(wd x.natAbs).take i=(wd y.natAbs).take i)
    (Q:=fun r=>r= .ret false/\wd x.natAbs≠wd y.natAbs\/r= .brk ()/\wd x.natAbs=wd y.natAbs) () (by simp_all) ?_ ?_) ?_
   ·rintro c i ⟨⟩ hi f e;have a:i < (wd x.natAbs).length:=by omega
    unfold Zw3 Ztm;dsimp only;rw[Zn1];refine⟨fun _=> ?_,fun h=>by simp_all⟩;rw[Zra,ZA9 a,ZnN,ZnL,ZA9 hi,ZnN,ZnL,Zn1];refine⟨fun h=> ?_,fun h=> ?_⟩
    ·grind[ZnL]
    ·rw[ZnO];refine⟨ZnS (by omega),e () ?_⟩;rw[bne_eq_false_iff_eq]at h;have g:(wd y.natAbs)[i]=(wd x.natAbs)[i]:=by omega
     grind[List.take_succ_eq_append_getElem]
   all_goals grind[Zw3,Ztm,ZnL,Zym,ZX3]
  grind[ZnL]
 grind[ZnL]
theorem ZHG (p q:Rat) (b:Wq 256 p) (a:Wq 256 q):ZoW (fOf p) (fOf q)=some (decide (p=q)):=by
 have m:∀{x:Int},Wl 256 x->Wl 100000 x:=fun h=>Z4q h (by decide)
 unfold ZoW Zwy fOf;dsimp only;rw[ZLY _ _ (m b.1) (m a.1),Z4P]
 grind[ZLY,Rat.ext,decide_eq_false]
end Go.Proofs
namespace Go.Proofs
open Go Eng
theorem ZU4 (a b:Nat) (I:(wd a).length<=100000) (K:(wd b).length<=100000):ZAa (iL (wd a)) (iL (wd b))=some (iL (wd (a*b))):=by
 refine Zps ?_;unfold ZAa;rw[Zoy,Zoy,ZnO,ZnO,ZnN,<-Z3U,Z3W,ZLz];refine⟨ZnS (by omega),ZIT (by omega), ?_⟩;generalize hm:(wd a).length=m at I|-
 generalize hn:(wd b).length=n at K|-
 refine ZnU (Zva ZHo m (by omega) (fun i (s:List Nat)=>(iL (wd a),iL (wd b),i,iL s)) (fun i s=>s.length=m+n/\Dg s/\val s=val ((wd a).take i)*b/\∀k,i+n<=k->k < m+n->s[k]? =some 0)
  (Q:=fun y=>∃(o:List Nat),y=iL o/\Dg o/\o.length=m+n/\val o=a*b) (Z38 (m+n) 0) ⟨by simp,ZRb _,by grind[ZNV,val],fun k _ h=>by simp_all⟩ ?_ ?_) ?_
 ·rintro F i s G ⟨M,H,L,J⟩ N;have hi:i < (wd a).length:=by omega
  have A:=(ZCE a).get hi;unfold ZzG ZvY;dsimp only;rw[Zn1,Zoy,hm];refine⟨fun _=> ?_,fun h=>by simp_all⟩;rw[ZnN];generalize ex:(wd a)[i]=x at A;refine ZnU (Zva ZHn n (by omega) (fun j (t:Nat×List Nat)=>(iL (wd a),iL (wd b),(i:Int),(t.1:Int),j,iL t.2)) (fun j t=>t.1 < Bw/\t.2.length=m+n/\Dg t.2/\val t.2+Bw ^ (i+j)*t.1=val s+Bw ^ i*(x*val ((wd b).take j))/\∀k,i+n<=k->k < m+n->t.2[k]? =some 0)
   (Q:=fun y=>∃(c:Nat) (o:List Nat),y=(iL (wd a),iL (wd b),(i:Int),(c:Int),iL o)/\c < Bw/\o.length=m+n/\Dg o/\val o+Bw ^ (i+n)*c=val s+Bw ^ i*(x*b)/\∀k,i+n<=k->k < m+n->o[k]? =some 0) (0,s) ⟨by omega,M,H,by simp[val],J⟩ ?_ ?_) ?_
  ·rintro w j ⟨c,o⟩ P ⟨p,l,d,f,g⟩ q;dsimp only at p l d f g q;have u:j < (wd b).length:=by omega
   have B:=(ZCE b).get u;have r:i+j < o.length:=by omega
   have z:=d.get r;unfold ZzF ZvX;dsimp only;rw[Zn1,Zoy,hn];refine⟨fun _=> ?_,fun h=>by grind⟩;rw[ZA9 hi,ex,ZnN,ZnL,ZA9 u,ZnN,ZnL,ZnO,ZnO,<-Z3U,Z3W,ZJo r,ZnN,ZnL,ZnO,ZnO,ZnO,ZnO];generalize ey:(wd b)[j]=y at B;generalize ee:o[i+j]=e at z;rw[ZYD p A B z,ZBW,show (32:Int)=((32:Nat):Int)from rfl,ZII 32 (by omega),Zoy,ZIc];refine⟨ZnS (by omega),ZoI ⟨by omega,by omega⟩,ZnS (by omega),ZoI ⟨by omega,by omega⟩,by decide,ZnS (by omega), ?_⟩;refine q ((c+x*y+e) / Bw,o.set (i+j) ((c+x*y+e) % Bw)) ⟨ZTy p A B z,by grind,d.set _ (Z4x _ (by decide)), ?_,fun k O v=> ?_⟩
   ·dsimp only;grind[ZIg,Z4v,Z4y,Nat.add_assoc,Z4K,Z4z,ZpD,Z4H,Z4C]
   grind
  ·rintro w ⟨c,o⟩ ⟨p,l,d,f,g⟩;dsimp only at p l d f g;unfold ZzF ZvX;dsimp only;rw[Zn1,Zoy,hn];refine⟨fun h=>by have:=of_decide_eq_true h;omega,fun _=> ?_⟩;rw[ZnL];rw[Z4c (by omega),Zwn]at f;exact⟨c,o,rfl,p,l,d,f,g⟩
  ·rintro y ⟨c,o,rfl,p,l,d,f,g⟩;dsimp only;unfold ZBo;rw[Zoy,hn,ZnO,ZnO,ZnO,<-Z3U,Z3W,ZCD p,ZIc,Zoy];refine⟨ZnS (by omega),ZoI ⟨by omega,by omega⟩,ZnS (by omega), ?_⟩;have D:i+n < o.length:=by omega
   have E:o[i+n]=0:=by have:=g (i+n) (Z4p _) (by omega);rw[Z3Y D]at this;exact Option.some.inj this
   have C:=ZIg o (i+n) c D;rw[E,Z4E,Z4h]at C;refine N (o.set (i+n) c) ⟨by simp[l],d.set _ p, ?_,fun k O v=> ?_⟩
   ·rw[C,f,L,ZpD hi,ex,Z4d,Z4z]
   ·rw[List.getElem?_set_ne (by omega)];exact g k (by omega) v
 all_goals grind[ZzG,ZvY,Zoy,ZnL,Zwn,ZBn,ZJA]
theorem ZVK (a b:Nat) (ha:(wd a).length<=100000) (hb:(wd b).length<=100000):∃o:List Nat,ZwQ (iL (wd a)) (iL (wd b))=some (iL o)/\Dg o/\o.length<=100001/\val o=a+b:=by
 obtain⟨m,hma,hmb,hm2,hmx⟩:∃m:Nat,(wd a).length<=m/\(wd b).length<=m/\m<=100000/\∀i,i < m->i < (wd a).length\/i < (wd b).length:=by
  by_cases h:(wd a).length<=(wd b).length
  ·exact⟨(wd b).length,h,Z4p _,hb,fun i hi=> .inr hi⟩
  ·exact⟨(wd a).length,Z4p _,by omega,ha,fun i hi=> .inl hi⟩
 suffices h:wp (ZwQ (iL (wd a)) (iL (wd b))) (fun x=>∃o:List Nat,x=iL o/\Dg o/\o.length<=100001/\val o=a+b) by obtain⟨x,hx,o,rfl,h⟩:=h;grind
 unfold ZwQ;rw[ZnN];refine ZnU (Zva ZHr m (by omega) (fun i (s:Nat×List Nat)=>(iL (wd a),iL (wd b),(s.1:Int),i,iL s.2)) (fun i s=>s.1<=1/\s.2.length=i/\Dg s.2/\val s.2+Bw ^ i*s.1=val ((wd a).take i)+val ((wd b).take i))
  (Q:=fun y=>∃(c:Nat) (o:List Nat),y=((c:Int),iL o)/\c<=1/\Dg o/\o.length=m/\val o+Bw ^ m*c=a+b) (0,[]) ⟨by simp,rfl,ZJs,by simp[val]⟩ ?_ ?_) ?_
 ·rintro rec i ⟨c,o⟩ hlt ⟨hc,hl,hd,hv⟩ ih;dsimp only at hc hl hd hv ih;have h1:=ZJY (ZCE a) i;have h2:=ZJY (ZCE b) i;have j3:∀x y:Nat,(wd a).getD i 0=x->(wd b).getD i 0=y->wp (Zup (fun a b c i out=>rec (a,b,c,i,out)) (iL (wd a)) (iL (wd b)) ((c+x+y:Nat):Int) (i:Int) (iL o)) (fun y=>∃(c:Nat) (o:List Nat),y=((c:Int),iL o)/\c<=1/\Dg o/\o.length=m/\val o+Bw ^ m*c=a+b):=fun x y ex ey=>by
   rw[ex]at h1;rw[ey]at h2;unfold Zup;rw[ZnO,ZnO,ZnO,ZBW,show (32:Int)=((32:Nat):Int)from rfl,ZII 32 (by omega),Zoy];refine⟨ZsS (by grind),by decide,ZnS (by omega), ?_⟩;have:=ih ((c+x+y) / Bw,o++[(c+x+y) % Bw]) ⟨by grind,by grind,hd.app (ZIA (Z4x _ (by decide))), ?_⟩
   ·rw[ZLA]at this;exact this
   grind[ZDc,ZEr,Z4v]
  have j2:∀x:Nat,(wd a).getD i 0=x->wp (Zuq (fun a b c i out=>rec (a,b,c,i,out)) (iL (wd a)) (iL (wd b)) ((c+x:Nat):Int) (i:Int) (iL o)) (fun y=>∃(c:Nat) (o:List Nat),y=((c:Int),iL o)/\c<=1/\Dg o/\o.length=m/\val o+Bw ^ m*c=a+b):=fun x ex=>by
   have hx:=h1;rw[ex]at hx;unfold Zuq;rw[Zoy,Zn1];refine⟨fun h=> ?_,fun h=> ?_⟩
   ·have hib:i < (wd b).length:=by simp_all
    have ey:(wd b).getD i 0=(wd b)[i]:=by simp_all
    have hy:=(ZCE b).get hib;rw[ZA9 hib,ZnN,ZnL,ZpN (by grind),<-Z3U,ZpN (by grind)];simp_all
   simp_all
  have j1:wp (Zsu (fun a b c i out=>rec (a,b,c,i,out)) (iL (wd a)) (iL (wd b)) (c:Int) (i:Int) true (iL o)) (fun y=>∃(c:Nat) (o:List Nat),y=((c:Int),iL o)/\c<=1/\Dg o/\o.length=m/\val o+Bw ^ m*c=a+b):=by
   unfold Zsu;rw[cond_true,Zoy,Zn1];refine⟨fun h=> ?_,fun h=> ?_⟩
   ·have hib:i < (wd a).length:=by have:=of_decide_eq_true h;omega
    have ey:(wd a).getD i 0=(wd a)[i]:=by rw[Z3X,Z3Y hib];rfl
    have hy:=(ZCE a).get hib;rw[ZA9 hib,ZnN,ZnL,ZpN (by simp only[Bw]at hy;omega),<-Z3U,ZpN (by simp only[Bw]at hy;omega)];simp_all
   simp_all
  grind[ZzL,Zv1,Zoy]
 ·rintro rec ⟨c,o⟩ ⟨hc,hl,hd,hv⟩;dsimp only at hc hl hd hv;unfold ZzL Zv1;dsimp only;rw[Zoy,Zoy,decide_eq_false (by omega),cond_false,decide_eq_false (by omega)];unfold Zsu;rw[cond_false,ZnL];rw[Z4c hma,Z4c hmb,Zwn,Zwn]at hv;exact⟨c,o,rfl,hc,hd,hl,hv⟩
 ·rintro y ⟨c,o,rfl,hc,hd,hl,hv⟩;dsimp only;unfold ZBw;have e:iL o++[(c:Int)]=iL (o++[c]):=by rw[ZLA];rfl
  rw[ZCD (by omega),ZnO,Zoy,e,ZnL];exact⟨ZsS (by simp only[Z34];omega),_,rfl,hd.app (ZIA (by unfold Bw;omega)),by simp;omega,by rw[ZDc,hl,hv]⟩
end Go.Proofs
