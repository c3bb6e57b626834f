/- Plain laws over the specs, part 1. -/
import Derived.Test.YtdonkbljnbaacaaGreatDoorUtM0
set_option linter.all false
open Bool renaming not_true->ZW1
open Int renaming toNat_natCast->Z2l, natAbs_mul->Z2j, mul_ne_zero->Z2i, natCast_add->Z2k
open List renaming take_of_length_le->Z2u, replicate->Z2s, length_take->Z2r, getD_eq_getElem?_getD->Z2m, getElem?_eq_getElem->Z2n, length_append->Z2p, set_append_right->Z2t, getElem_cons_drop->Z2o, length_replicate->Z2q
open Nat renaming gcd->Z2D, le_trans->Z2G, mod_lt->Z2M, mul_assoc->Z2O, pow_add->Z2V, pow_succ->Z2Y, mul_zero->Z2T, two_pow_pos->Z20, mul_comm->Z2P, add_zero->Z2y, le_of_lt->Z2E, pow_le_pow_right->Z2W, mul_le_mul_left->Z2Q, le_refl->Z2F, div_add_mod->Z2z, mod_eq_of_lt->Z2L, mul_add->Z2N, lt_of_le_of_lt->Z2H, div_le_self->Z2B, lt_or_ge->Z2J, min_eq_left->Z2K, zero_add->Z21, div_eq_of_lt->Z2A, eq_zero_or_pos->Z2C, pow_mul->Z2X, lt_of_lt_of_le->Z2I, mul_left_comm->Z2R, pos_of_ne_zero->Z2U, add_mul_div_left->Z2v, add_mul_div_right->Z2w, add_mul_mod_self_left->Z2x, mul_lt_mul_of_lt_of_le->Z2S, two_pow_add_eq_or_of_lt->Z2Z
open Option renaming bind_some->Z22
namespace Go.Proofs
open Go Eng
theorem ZOx (l:List Nat) (h:l.length<=1000000):Zqi (iL l)=some (iL l):=by
 cases l with
 |nil=>
 have a:Zkb [] true=some []:=rfl;have b:Zkb [] false=some []:=by kernel_rfl
 show agree (Zkb [] true) (Zkb [] false)=some [];grind[ZJP]
 |cons x l=>
 show Zkb (iL (x::l)) false=_;grind[Zkb,ZpO,ZoL,chk_true]
theorem ZJX {l:List Nat} {k:Nat} (h:val l < Bw ^ k):val (l.take k)=val l:=by
 rcases Nat.lt_or_ge k l.length with b |b
 ·have e:val l=val (l.take k++l.drop k):=by rw[List.take_append_drop]
  rw[ZGV,List.length_take,Nat.min_eq_left (by omega)]at e;rcases Nat.eq_zero_or_pos (val (l.drop k))with a |a
  ·simp_all
  ·have:=Nat.mul_le_mul_left (Bw ^ k) a;omega
 grind[List.take_of_length_le]
theorem Z0e (u:List Nat) (k:Nat) (l:k<=u.length) (f:k<=1000000):∃a,a<=k/\val (u.take a)=val (u.take k)/\ZyW (iL u) 0 k=some (0,a,iL u):=by
 have h:wp (ZAo (iL u) 0 k) (fun y=>∃a,a<=k/\val (u.take a)=val (u.take k)/\y=(0,a,iL u)):=by
  unfold ZAo ZA7;rw[Zhr];refine Zjf (ZuN ZGG (fun(j:Nat)=>(0,j,iL u)) (fun j=>j<=k/\val (u.take j)=val (u.take k)) (fun j=>j) (Q:=fun y=>∃a,a<=k/\val (u.take a)=val (u.take k)/\y=(0,a,iL u)) k ⟨Nat.le_refl _,rfl⟩ (by omega) ?_) (fun y c=>Zfa.2 c);rintro d j ⟨i,m⟩ n;unfold ZDN ZAd ZxE;dsimp only;cases j with
  |zero=>grind[Zfa]
  |succ j=>
   have b:j < u.length:=by omega
   have e:((j+1:Nat):Int) - 1=(j:Int):=by omega
   rw[ZoH];refine⟨fun _=> ?_,fun h=>by simp_all⟩;rw[e,Int.toNat_natCast,Nat.zero_add,ZhS,ZhS,ZIq b,Zhr,Zfa,ZoH];grind[ZiH,Zr4,ZhS,Zpc,Zpk,Zfa]
 obtain⟨y,c,a,o,g,rfl⟩:=h;simp_all[ZyW]
theorem ZPP {x y s:Nat} (k:s<=31) (j:x < Bw) (l:y < Bw):((y*4294967296+x) / 2 ^ s % 4294967296)*2 ^ s+x % 2 ^ s=x+Bw*(y % 2 ^ s):=by
 have e:(4294967296:Nat)=2 ^ (32 - s)*2 ^ s:=by rw[<-Nat.pow_add,show 32 - s+s=32 by omega]
 have a:=Nat.two_pow_pos s;have i:=Nat.div_add_mod x (2 ^ s);have h:=Nat.div_add_mod y (2 ^ s);have f:x / 2 ^ s < 2 ^ (32 - s):=(Nat.div_lt_iff_lt_mul a).2 (by simp_all);have c:=Nat.mod_lt y a;have d:(y*4294967296+x) / 2 ^ s=y*2 ^ (32 - s)+x / 2 ^ s:=by rw[e,<-Nat.mul_assoc,Nat.add_comm,Nat.add_mul_div_right _ _ a,Nat.add_comm]
 have g:y*2 ^ (32 - s)+x / 2 ^ s=(y % 2 ^ s)*2 ^ (32 - s)+x / 2 ^ s+4294967296*(y / 2 ^ s):=by
  grind
 have b:(y % 2 ^ s)*2 ^ (32 - s)+x / 2 ^ s < 4294967296:=by have:=Nat.mul_le_mul_right (2 ^ (32 - s)) (show y % 2 ^ s+1<=2 ^ s from c);grind
 rw[d,g,Nat.add_mul_mod_self_left,Nat.mod_eq_of_lt b,Nat.add_mul,Nat.mul_assoc,<-e,Nat.mul_comm (x / 2 ^ s),Nat.mul_comm (y % 2 ^ s)];grind
theorem ZWK {u:List Nat} {k s R:Nat} (q:List Int) (hs:s<=31) (hd:Dg u) (hk:k<=u.length) (hk2:k<=1000000) (hv:val (u.take k)=R*2 ^ s):
  wp (Ztc big (s:Int) 0 k ((k:Nat):Int) (0:Int) q (iL u)) (fun y=>∃(o:List Nat),y=(0,k,q,iL (o++u.drop k))/\o.length=k/\Dg o/\val o=R):=by
 refine Ztf ZGu k (by omega) (fun i (o:List Nat)=>((s:Int),0,k,(k:Int),i,q,iL (o++u.drop o.length))) (fun i o=>o.length=i/\Dg o/\val o*2 ^ s+(if 0 < k then u.getD 0 0 else 0) % 2 ^ s=val (u.take i)+Bw ^ i*((if i < k then u.getD i 0 else 0) % 2 ^ s)) [] ⟨rfl,ZIt,by simp[val]⟩ ?_ ?_
 ·rintro rec i o hi ⟨hol,hod,hov⟩ ih;have hiu:i < u.length:=by omega
  have h1:=hd.get hiu;unfold Zzk ZuL;dsimp only;rw[ZoH];refine⟨fun _=> ?_,fun h=>by have:=of_decide_eq_false h;omega⟩;have hlen:(o++u.drop o.length).length=u.length:=by simp;omega
  have gx:(iL (o++u.drop o.length))[i]? =some (u[i]:Int):=by rw[ZIq (by omega)];congr 2;rw[List.getElem_append_right (by omega)];simp[hol]
  obtain⟨y,hy,hyB,hye⟩:∃y:Nat,ZxC (iL (o++u.drop o.length)) 0 k ((i:Int)+1)=some ((y:Int),iL (o++u.drop o.length))/\y < Bw/\y=(if i+1 < k then u.getD (i+1) 0 else 0):=by
   unfold ZxC ZCW
   by_cases hc:i+1 < k
   ·have hiu2:i+1 < u.length:=by omega
    have gy:(iL (o++u.drop o.length))[i+1]? =some (u[i+1]:Int):=by rw[ZIq (by omega)];congr 2;rw[List.getElem_append_right (by omega)];simp[hol]
    refine⟨u[i+1], ?_,hd.get hiu2, ?_⟩
    ·rw[decide_eq_true (by omega),cond_true,Zr4 ⟨by omega,by omega⟩,chk_true,Nat.zero_add,show ((i:Int)+1).toNat=i+1 by omega,gy];simp
    ·rw[if_pos hc,List.getD_eq_getElem?_getD,List.getElem?_eq_getElem hiu2];rfl
   ·refine⟨0, ?_,by decide,by rw[if_neg hc]⟩;rw[decide_eq_false (by omega),cond_false];simp
  rw[hy,ZhS,Zhr,Zfa];dsimp only;rw[Int.toNat_natCast,Nat.zero_add,gx,ZhS,ZhS,Zhr,Zfa,ZhS,ZhS,ZhS,ZMD hyB h1,ZGW s (by omega),ZAr];refine⟨ZiH (by omega),by decide,Zr4 ⟨by omega,by omega⟩,by simp,Zr4 ⟨by omega,by omega⟩,ZiH (by omega), ?_⟩;generalize ez:(y*4294967296+u[i]) / 2 ^ s % 4294967296=z;have hz:z < Bw:=by rw[<-ez];exact Nat.mod_lt _ (by decide)
  have es:(iL (o++u.drop o.length)).set i (z:Int)=iL ((o++[z])++u.drop (o++[z]).length):=by rw[ZGN,List.set_append_right _ _ (by omega),hol,Nat.sub_self,<-List.getElem_cons_drop (h:=hiu),List.set_cons_zero];simp[hol]
  rw[es];refine ih (o++[z]) ⟨by simp[hol],hod.app (ZHs hz), ?_⟩;have hd1:=ZPP hs h1 hyB;grind[ZBZ,Zpk,Nat.pow_succ,Nat.add_mul,Nat.mul_assoc]
 ·rintro rec o ⟨hol,hod,hov⟩;unfold Zzk ZuL;dsimp only;rw[ZoH];refine⟨fun h=>by have:=of_decide_eq_true h;omega,fun _=> ?_⟩;rw[Zfa];refine⟨o,by rw[hol],hol,hod, ?_⟩;rw[if_neg (Nat.lt_irrefl _),Nat.zero_mod,Nat.mul_zero,Nat.add_zero,hv]at hov;have hp:=Nat.two_pow_pos s;have:(val o*2 ^ s+(if 0 < k then u.getD 0 0 else 0) % 2 ^ s) / 2 ^ s=R*2 ^ s / 2 ^ s:=by rw[hov]
  rw[Nat.add_comm,Nat.add_mul_div_right _ _ hp,Nat.div_eq_of_lt (Nat.mod_lt _ hp),Nat.mul_div_cancel _ hp]at this;omega
theorem ZO4 {x s:Nat} (a:s<=31) (h:x*2 ^ s < 4294967296):(x+1)*2 ^ s<=4294967296:=by
 have e:(4294967296:Nat)=2 ^ (32 - s)*2 ^ s:=by rw[<-Z2V,show 32 - s+s=32 by omega]
 rw[e]at h|-
 exact Nat.mul_le_mul_right _ (Nat.lt_of_mul_lt_mul_right h)
theorem ZRv {d u:List Nat} {m K s U:Nat} (W:d.length=m+2) (G:Dg d) (Y:1<=d[m+1]) (hu:u.length=K+m+2) (P:Dg u) (hU:val u=U) (aa:U < Bw ^ K*val d) (hK:K<=100000) (hm:m<=100000):
  wp (Ztd big ((m+2:Nat):Int) (s:Int) (iL d) ((K:Int) - 1) (iL u) (iL (List.replicate K 0))) (fun y=>∃H f:List Nat,y=(((m+2:Nat):Int),(s:Int),iL H,iL f)/\H.length=K+m+2/\Dg H/\f.length=K/\Dg f/\val H+val f*val d=U/\val H < val d):=by
 rw[show iL (List.replicate K 0)=iL (List.replicate (K - ([]:List Nat).length) 0++[]) by simp];have p:=ZDo G;rw[W]at p;refine ZJm ZGv K (by omega) (fun i (t:List Nat×List Nat)=>(((m+2:Nat):Int),(s:Int),iL d,i,iL t.1,iL (List.replicate (K - t.2.length) 0++t.2))) (fun k t=>t.1.length=K+m+2/\Dg t.1/\t.2.length+k=K/\Dg t.2/\val t.1+Bw ^ k*(val t.2*val d)=U/\val t.1 < Bw ^ k*val d) (u,[]) ⟨hu,P,by simp,ZIt,by grind[val],by simp_all⟩ ?_ ?_
 ·rintro M k ⟨v,f⟩ hk ⟨g,b,n,j,B,a⟩ V;dsimp only at g b n j B a V;unfold Zzl ZuM;dsimp only;have A:((v.drop k).take (m+3)).length=m+3:=by grind
  have c:(v.take k).length=k:=by grind
  have o:v=v.take k++((v.drop k).take (m+3)++v.drop (k+(m+3))):=by grind[List.drop_drop,List.take_append_drop]
  have C:val v=val (v.take k)+Bw ^ k*(val ((v.drop k).take (m+3))+Bw ^ (m+3)*val (v.drop (k+(m+3)))):=by
   have:val v=val (v.take k++((v.drop k).take (m+3)++v.drop (k+(m+3)))):=by grind
   rw[this,ZGV,ZGV,c,A]
  have N:=ZDo (b.take k);rw[c]at N;have R:=(b.drop k).take (m+3);have Q:=b.drop (k+(m+3));have I:=b;generalize v.take k=pre at*
  generalize (v.drop k).take (m+3)=w at*
  generalize v.drop (k+(m+3))=suf at*
  subst o;have L:val w+Bw ^ (m+3)*val suf < Bw*val d:=by
   have:Bw ^ k*(val w+Bw ^ (m+3)*val suf) < Bw ^ k*(Bw*val d):=by rw[<-Nat.mul_assoc,<-Nat.pow_succ];show _ < Bw ^ (k+1)*val d;omega
   exact Nat.lt_of_mul_lt_mul_left this
  have z:val suf=0:=by
   rcases Nat.eq_zero_or_pos (val suf)with x |x
   ·exact x
   ·exfalso;have h5:=Nat.mul_le_mul_left (Bw ^ (m+3)) x;have T:Bw*val d<=Bw*Bw ^ (m+2):=Nat.mul_le_mul_left _ (Nat.le_of_lt p);rw[Nat.mul_comm Bw (Bw ^ (m+2)),<-Nat.pow_succ]at T;have h7:Bw*val d<=Bw ^ (m+3):=T;omega
  rw[z,Nat.mul_zero,Nat.add_zero]at L C;rw[ZoH];refine⟨fun _=> ?_,fun h=>by have:=of_decide_eq_false h;omega⟩;rw[ZhS,ZhS,ZhS,Zhr,ZoL,g];refine⟨ZiH (by omega),ZiH (by omega),Zpc ⟨by omega,by omega,by omega⟩, ?_⟩;rw[show ((k:Int)+((m+2:Nat):Int)+1).toNat - (k:Int).toNat=m+3 by omega,Int.toNat_natCast];have F:=ZR5 (pre:=pre) (suf:=suf) A W R G hm Y L;rw[c]at F;refine Zjf F ?_;rintro y ⟨w',rfl,D,E,r⟩;dsimp only;have l:0 < val d:=by
   rcases Nat.eq_zero_or_pos (val d)with x |x
   ·rw[x,Nat.mul_zero]at L;omega
   ·exact x
  have Z:val w / val d < Bw:=(Nat.div_lt_iff_lt_mul l).2 L;have O:=Nat.div_add_mod (val w) (val d);have S:=Nat.mod_lt (val w) l;generalize val w / val d=q at*
  have X:(List.replicate (K - f.length) 0++f).set k q=List.replicate (K - (f.length+1)) 0++q::f:=by
   have e:K - f.length=k+1:=by omega
   have e2:K - (f.length+1)=k:=by omega
   rw[e,e2,List.replicate_succ',List.append_assoc,List.set_append_right _ _ (by simp),List.length_replicate,Nat.sub_self];rfl
  rw[ZhS,ZhS,ZGN,X];refine⟨Zr4 ⟨by omega,by rw[ZoL];simp only[List.length_append,List.length_replicate];omega⟩,ZiH (by omega), ?_⟩;have ab:suf.length+(k+(m+3))=K+m+2:=by rw[<-g,List.length_append,List.length_append,c,A];omega
  refine V (pre++(w'++suf),q::f) ⟨?_, ?_,by simp only[List.length_cons];omega,fun y J=> ?_, ?_, ?_⟩
  ·simp only[List.length_append,c,D];omega
  ·refine Dg.app (fun y J=>I y (List.mem_append_left _ J)) (Dg.app E Q)
  ·rcases List.mem_cons.1 J with rfl |J
   ·exact Z
   ·exact j y J
  ·dsimp only;rw[ZGV,ZGV,c,z,Nat.mul_zero,Nat.add_zero,r,val,Nat.add_mul,Nat.mul_add];rw[C,<-O,Nat.mul_add,Nat.pow_succ,Nat.mul_assoc]at B;rw[Nat.mul_comm q (val d),Nat.mul_assoc Bw];omega
  ·dsimp only;rw[ZGV,ZGV,c,z,Nat.mul_zero,Nat.add_zero,r];have:=Nat.mul_le_mul_left (Bw ^ k) (show val w % val d+1<=val d from S);rw[Nat.mul_add,Nat.mul_one]at this;omega
 ·rintro M ⟨v,f⟩ ⟨g,b,n,j,B,a⟩;dsimp only at g b n j B a;unfold Zzl ZuM;dsimp only;rw[ZoH];refine⟨fun h=>by have:=of_decide_eq_true h;omega,fun _=> ?_⟩;rw[Zfa];rw[Nat.pow_zero,Nat.one_mul]at B a;refine⟨v,f, ?_,g,b,n,j,B,a⟩;rw[show K - f.length=0 by omega];rfl
end Go.Proofs
namespace Go.Proofs
open Go Eng
theorem ZJF (a b:Nat) (hb0:b≠0) (ha:(wd a).length<=50000) (hb:(wd b).length<=50000):Zrs (iL (wd a)) (iL (wd b))=some (iL (wd (a / b)),iL (wd (a % b))):=by
 refine Zo1 ?_;unfold Zrs;rw[ZJM a b (by omega) (by omega),Zhr,Zfa,ZoH];refine⟨fun h=> ?_,fun h=> ?_⟩
 ·grind[Nat.lt_trichotomy,ZDP,ZFM,ZOx,Zfa,Nat.div_eq_of_lt,Nat.mod_eq_of_lt,ZAs,ZXo]
 ·have hab:b<=a:=by
   grind[ZGC]
  have hlb:=Zu7 hb0;rw[ZoL,ZoL,ZoH];refine⟨fun h=> ?_,fun h=> ?_⟩
  ·have h1:(wd b).length=1:=by grind
   have hbB:b < Bw:=by grind[ZDH]
   have eb:idx (iL (wd b)) 0=some (b:Int):=by rw[ZI4 hb0,Nat.mod_eq_of_lt hbB];rfl
   rw[eb,Zhr,Zfa,ZRz a b hb0 hbB (by omega),Zhr,Zfa];dsimp only;have hr:a % b < Bw:=Nat.lt_trans (Nat.mod_lt _ (by omega)) hbB;rw[show ([((a % b:Nat):Int)]:List Int)=iL [a % b]from rfl,ZH7 (ZHs hr) (by simp),Zhr,Zfa,Zfa];grind[val]
  ·obtain⟨m,hm⟩:∃m,(wd b).length=m+2:=⟨(wd b).length - 2,by
    grind⟩
   have hla:m+2<=(wd a).length:=by
    rcases Nat.lt_or_ge (wd a).length (wd b).length with h1 |h1
    ·have:=ZOq h1;omega
    omega
   have hi:m+1 < (wd b).length:=by omega
   have htop:(wd b)[m+1]≠0:=fun e=>by have h1:=Zpk hi;rw[e,Nat.mul_zero,Nat.add_zero,List.take_of_length_le (by omega),ZxS]at h1;have h2:=ZDo ((ZBH b).take (m+1));rw[List.length_take,Nat.min_eq_left (by omega)]at h2;have h3:=ZMg hi;omega
   obtain⟨s,hs,hse,hs1,hs2⟩:=ZXe htop ((ZBH b).get hi);have e1:((m+2:Nat):Int) - 1=((m+1:Nat):Int):=by omega
   rw[hm,e1,ZzH hi,ZhS,Zhr,Zfa,hse,Zhr,Zfa];refine⟨ZiH (by omega), ?_⟩;obtain⟨u,hu,hud,hul,huv⟩:=ZLf (wd a) s hs (by omega) (ZBH a);obtain⟨v,hv,hvd,hvl,hvv⟩:=ZLf (wd b) s hs (by omega) (ZBH b);rw[hu,Zhr,Zfa,hv,Zhr,Zfa,ZhS,ZhS,ZhS,ZhS,ZhS];rw[ZxS]at huv hvv;have hvlt:val v < Bw ^ (m+2):=by
    have h1:=Zpk hi;rw[List.take_of_length_le (by omega),ZxS]at h1;have h2:=ZDo ((ZBH b).take (m+1));rw[List.length_take,Nat.min_eq_left (by omega)]at h2;have h3:b+1<=Bw ^ (m+1)*((wd b)[m+1]+1):=by rw[Nat.mul_add,Nat.mul_one];omega
    have h4:=Nat.mul_le_mul_right (2 ^ s) h3;have h5:=Nat.mul_le_mul_left (Bw ^ (m+1)) (ZO4 hs hs2);rw[Nat.mul_assoc]at h4;have h6:=Nat.two_pow_pos s;rw[Nat.add_mul,Nat.one_mul]at h4;rw[hvv,Nat.pow_succ];show _ < Bw ^ (m+1)*4294967296;omega
   obtain⟨K,hK⟩:∃K,(wd a).length=K+m+1:=⟨(wd a).length - m - 1,by omega⟩;have eK:((wd a).length:Int) - ((m+2:Nat):Int)+1=(K:Int):=by omega
   have ed:((iL v).drop 0).take (((m+2:Nat):Int).toNat - 0)=iL (v.take (m+2)):=by rw[List.drop_zero,Int.toNat_natCast,Nat.sub_zero,ZNq]
   have hdv:val (v.take (m+2))=b*2 ^ s:=by rw[ZJX hvlt,hvv]
   have hdl:(v.take (m+2)).length=m+2:=by rw[List.length_take];omega
   have hdd:=hvd.take (m+2);rw[eK,ed,Int.toNat_natCast,ZKM,ZoL v,ZoL (List.replicate K 0),List.length_replicate];refine⟨Zpc ⟨by omega,by omega,by omega⟩,ZiH (by omega),ZiH (by omega),ZHM (by omega),ZiH (by omega), ?_⟩;generalize v.take (m+2)=d at*
   have hp:=Nat.two_pow_pos s;have h1:1<=d[m+1]:=by
    rcases Nat.eq_zero_or_pos d[m+1]with hz |hz
    ·exfalso;have h1:=Zpk (l:=d) (k:=m+1) (by omega);rw[hz,Nat.mul_zero,Nat.add_zero,List.take_of_length_le (by omega)]at h1;have h2:=ZDo (hdd.take (m+1));rw[List.length_take,Nat.min_eq_left (by omega)]at h2;rw[hdv]at h1;have h3:=ZMg hi;have:=Nat.le_mul_of_pos_right b hp;omega
    ·exact hz
   have hUlt:a*2 ^ s < Bw ^ K*val d:=by have h2:=ZDH a;have h3:=Nat.mul_le_mul_left (Bw ^ K) (ZMg hi);rw[<-Nat.pow_add,<-Nat.add_assoc,<-hK]at h3;rw[hdv,<-Nat.mul_assoc];exact Nat.mul_lt_mul_of_pos_right (by omega) hp
   rw[Zhr];refine Zjf (ZRv (s:=s) hdl hdd h1 (by omega) hud huv hUlt (by omega) (by omega)) ?_;rintro y ⟨u',qs,rfl,hu'l,hu'd,hql,hqd,hv',hlt'⟩;dsimp only;have hDpos:0 < val d:=by omega
   have eq1:val qs=a / b:=by rw[<-Nat.mul_div_mul_right a b hp,<-hdv,<-hv',Nat.add_mul_div_right _ _ hDpos,Nat.div_eq_of_lt hlt',Nat.zero_add]
   have eq2:val u'=a % b*2 ^ s:=by rw[<-Nat.mul_mod_mul_right,<-hdv,<-hv',Nat.add_mul_mod_self_right,Nat.mod_eq_of_lt hlt']
   have hDlt:=ZDo hdd;rw[hdl]at hDlt;have hut:val (u'.take (m+2))=val u':=ZJX (by omega);obtain⟨k',hk',hkv,hke⟩:=Z0e u' (m+2) (by omega) (by omega);unfold ZAM;rw[Int.toNat_natCast,Nat.sub_zero,hke,ZhS,Zhr,Zfa,ZoL];refine⟨Zpc ⟨by omega,by omega,by omega⟩, ?_⟩;dsimp only;rw[Zhr];refine Zjf (ZWK (R:=a % b) (iL qs) hs hu'd (by omega) (by omega) (by rw[hkv,hut,eq2])) ?_;grind[ZAL,ZNq,ZH7,Zfa]
theorem Zwv {a b:Nat} (h:a<=b):(wd a).length<=(wd b).length:=ZE5 (Z2H h (ZDH b))
theorem ZKS:∀(n a b:Nat),b<=a->a*b < 2 ^ n->(wd a).length<=50000->∀f,n < f->ZpC f (iL (wd a)) (iL (wd b))=some (iL (wd (Nat.gcd a b)))
 |n,a,b,hba,hn,ha,0,hf=>absurd hf (by omega)
 |n,a,b,hba,hn,ha,f+1,hf=>by
  show Zq3 (ZpC f) _ _=_;unfold Zq3;rw[ZoL]
  by_cases h0:b=0
  ·grind[ZAs]
  ·have h:=Zu7 h0;rw[decide_eq_true (by omega),cond_true,ZJF a b h0 ha (Nat.le_trans (Zwv hba) ha),Option.bind_some];dsimp only;have g:=Nat.mod_lt a (show 0 < b by omega);cases n with
   |zero=>
    have:1*1<=a*b:=Nat.mul_le_mul (by omega) (by omega);omega
   |succ n=>
    have d:=Nat.div_add_mod a b;have e:1<=a / b:=(Nat.le_div_iff_mul_le (by omega)).2 (by omega);have i:=Nat.mul_le_mul_left b e;have c:b*(2*(a % b))<=b*a:=Nat.mul_le_mul_left b (by omega);rw[Nat.mul_left_comm,Nat.mul_comm b a]at c;rw[ZKS n b (a % b) (by omega) (by omega) (Nat.le_trans (Zwv hba) ha) f (by omega),Nat.gcd_comm a b,Nat.gcd_rec b a,Nat.gcd_comm]
theorem ZKT (a b:Nat) (ha:(wd a).length<=50000) (hb:(wd b).length<=50000):Zum (iL (wd a)) (iL (wd b))=some (iL (wd (Nat.gcd a b))):=by
 have bnd:∀x y:Nat,x*y < 2 ^ (32*(wd x).length+32*(wd y).length):=fun x y=>by
  have e:∀z,z < 2 ^ (32*(wd z).length):=fun z=>by
   grind[ZDH,Nat.pow_mul]
  simp_all[Nat.mul_lt_mul_of_lt_of_le,Nat.le_of_lt,Nat.two_pow_pos,Nat.pow_add]
 have key:ZpC big (iL (wd a)) (iL (wd b))=some (iL (wd (Nat.gcd a b))):=by
  obtain⟨k,hk,hk2⟩:∃k,big=k+1/\3200004 < k:=⟨36893488147419103231,by rw[big_eq],by omega⟩;rw[hk];rcases Nat.lt_or_ge a b with h |h
  ·show Zq3 (ZpC k) _ _=_;unfold Zq3;have h0:b≠0:=by omega
   have hl:=Zu7 h0;rw[ZoL,decide_eq_true (by omega),cond_true,ZJF a b h0 ha hb,Option.bind_some];dsimp only;rw[Nat.mod_eq_of_lt h,ZKS _ b a (by omega) (bnd b a) hb k (by omega),Nat.gcd_comm]
  ·exact ZKS _ a b h (bnd a b) ha (k+1) (by omega)
 grind[Zum,Zzm]
end Go.Proofs
namespace Go.Proofs
open Go Eng
def bg (z:Int):Zgo:=⟨decide (z < 0),iL (wd z.natAbs)⟩
theorem ZFv (z:Int):(bg z).Neg=decide (z < 0):=rfl
theorem ZqH (z:Int):(bg z).Words=iL (wd z.natAbs):=rfl
abbrev Wl (n:Nat) (z:Int):Prop:=(wd z.natAbs).length<=n
theorem ZBj (a:Bool) (n:Nat) (h:(wd n).length<=1000000):Zpu a (iL (wd n))=some (bg (if a then -(n:Int)else n)):=by
 unfold Zpu ZAp bg;have b:ZjC (iL (wd n)).length 4=true:=ZpO (by grind[ZoL]);grind[chk_true,ZoL,ZAs,Zu7]
theorem ZJJ (n:Nat) (h:n < 18446744073709551616):Zwt (n:Int)=some (iL (wd n)):=by
 unfold Zwt;have e:([IntKind.wrap .u32 (n:Int),IntKind.wrap .u32 (shrK .u64 (n:Int) 32)]:List Int)=iL [n % 4294967296,n / 4294967296]:=by rw[show (32:Int)=((32:Nat):Int)from rfl,ZGW 32 (by omega),ZAr,ZBh (by omega)];rfl
 have a:Dg [n % 4294967296,n / 4294967296]:=fun d a=>by
  grind
 simp_all[ZH7,val,Nat.mod_add_div]
theorem ZUi {n:Nat} (h:n < 18446744073709551616):(wd n).length<=2:=ZE5 (by omega)
theorem ZO9 (z:Int) (b: -9223372036854775808<=z) (a:z<=9223372036854775807):ZzA z=some (bg z):=by
 unfold ZzA
 by_cases hz:z < 0
 ·have e:IntKind.wrap .u64 (0 - IntKind.wrap .u64 z)=((z.natAbs:Nat):Int):=by grind[IntKind.wrap_u64]
  grind[ZJJ,ZBj,ZUi]
 ·have e:IntKind.wrap .u64 z=((z.natAbs:Nat):Int):=by grind[IntKind.wrap_u64]
  grind[ZJJ,ZBj,ZUi]
theorem ZHC (z:Int) (h:Wl 256 z):Zyz (bg z)=some true:=by
 unfold Wl at h;have a:∀d:0 < (wd z.natAbs).length,∃x:Nat,idx (iL (wd z.natAbs)) (((wd z.natAbs).length:Int) - 1)=some (x:Int)/\x≠0:=fun d=>by
  refine⟨(wd z.natAbs)[(wd z.natAbs).length - 1], ?_,fun e=> ?_⟩
  ·grind[ZzH]
  ·have b:(wd z.natAbs).length - 1 < (wd z.natAbs).length:=by omega
   have g:=Zpk b;rw[e,Nat.mul_zero,Nat.add_zero,List.take_of_length_le (by omega),ZxS]at g;have c:=ZDo ((ZBH z.natAbs).take ((wd z.natAbs).length - 1));rw[List.length_take,Nat.min_eq_left (by omega)]at c;have l:=ZMg b;omega
 unfold Zyz ZpZ;rw[ZqH,ZFv,ZoL,decide_eq_true (by omega),cond_true]
 by_cases h0:(wd z.natAbs).length=0
 ·grind[ZWB]
 ·obtain⟨x,k,f⟩:=a (by omega);have i:(((wd z.natAbs).length:Int) == 0)=false:=beq_eq_false_iff_ne.2 (by omega);have j:((x:Int) != 0)=true:=by simp_all
  grind[ZiH,chk_true]
theorem ZQE (x y:Int):(if (!((bg x).Neg == (bg y).Neg))=true then -((x.natAbs*y.natAbs:Nat):Int)else ((x.natAbs*y.natAbs:Nat):Int))=x*y:=by
 rw[ZFv,ZFv];grind
theorem ZI3 {x y n m:Nat} (b:(wd x).length<=n) (c:(wd y).length<=m):(wd (x*y)).length<=n+m:=by refine ZE5 ?_;have a:=Z2S (ZDH x) (Z2E (ZDH y)) (Nat.pow_pos (by decide));rw[<-Z2V]at a;grind[Z2I,Z2W]
theorem ZEW (x y:Int) (b:Wl 50000 x) (a:Wl 50000 y):ZoK (bg x) (bg y)=some (bg (x*y)):=by unfold ZoK;have:=ZI3 b a;grind[ZqH,ZLF,ZBj,ZQE]
theorem ZLb {x y n:Nat} (a:(wd x).length<=n) (b:(wd y).length<=n):(wd (x+y)).length<=n+1:=by refine ZE5 ?_;grind[Z2I,ZDH,Z2W]
theorem ZSB (x y:Int) (b:Wl 50000 x) (c:Wl 50000 y):ZBG (bg x) (bg y)=some (bg (x+y)):=by
 unfold Wl at b c;unfold ZBG;have f:=ZLb b c;rw[ZqH,ZqH,ZFv,ZFv];have a:decide (x < 0)≠decide (y < 0)->Zqe (iL (wd x.natAbs)) (iL (wd y.natAbs))=some (ZLl x.natAbs y.natAbs):=fun _=>ZJM _ _ (by omega) (by omega)
 by_cases hs:decide (x < 0)=decide (y < 0)
 ·grind[ZP5,ZBj]
 ·rw[beq_eq_false_iff_ne.2 hs,cond_false,a hs,Option.bind_some];rcases Nat.lt_or_ge x.natAbs y.natAbs with e |d
  ·have:=Zwv (Nat.sub_le y.natAbs x.natAbs);grind[ZGC,ZOp,ZBj]
  ·have g:ZLl x.natAbs y.natAbs>=0:=by
    grind[ZFM,ZDP]
   have:=Zwv (Nat.sub_le x.natAbs y.natAbs);grind[ZOp,ZBj]
end Go.Proofs
namespace Go.Proofs
open Go Eng
def fOf (q:Rat):ZbF:=⟨bg q.num,bg (q.den:Int)⟩
theorem ZN5 {x n:Nat} (g:Nat) (h:(wd x).length<=n):(wd (x / g)).length<=n:=Z2G (Zwv (Z2B x g)) h
theorem ZPE {x y n:Nat} (a:0 < y) (h:(wd y).length<=n):(wd (Z2D x y)).length<=n:=Z2G (Zwv (Nat.gcd_le_right x a)) h
theorem ZHo (x y:Int) (n:y≠0) (b:Wl 50000 x) (a:Wl 50000 y):Zse (bg x) (bg y)=some (fOf (Rat.divInt x y)):=by
 have f:0 < y.natAbs:=by omega
 have d:Nat.gcd x.natAbs y.natAbs≠0:=fun e=>by simp_all
 have c:=ZPE (x:=x.natAbs) f a;have l:=ZN5 (Nat.gcd x.natAbs y.natAbs) b;have i:=ZN5 (Nat.gcd x.natAbs y.natAbs) a;unfold Zse;rw[ZqH,ZqH,ZKT _ _ b a,Option.bind_some,ZJF _ _ d b c,Option.bind_some];dsimp only;rw[ZJF _ _ d a c,Option.bind_some];dsimp only;rw[ZBj _ _ (by omega),Option.bind_some,ZBj _ _ (by omega),Option.bind_some,ZFv,ZFv];unfold fOf;rw[Rat.num_divInt,Rat.den_divInt,if_neg n];have j:Int.gcd y x=Nat.gcd x.natAbs y.natAbs:=by rw[Int.gcd_comm];rfl
 rw[j];have m:(if (!(decide (x < 0) == decide (y < 0)))=true then -((x.natAbs / Nat.gcd x.natAbs y.natAbs:Nat):Int)else ((x.natAbs / Nat.gcd x.natAbs y.natAbs:Nat):Int))=y.sign*x / (Nat.gcd x.natAbs y.natAbs:Int):=by
  obtain⟨k,p⟩:=Nat.gcd_dvd_left x.natAbs y.natAbs;generalize Nat.gcd x.natAbs y.natAbs=g at*
  have h:0 < g:=by omega
  have o:x.natAbs / g=k:=by simp_all
  have r:((g:Int)*(k:Int)) / (g:Int)=k:=Int.mul_ediv_cancel_left _ (by omega);have q:(-((g:Int)*(k:Int))) / (g:Int)= -k:=by grind[Int.mul_neg,Int.mul_ediv_cancel_left]
  grind
 simp_all
theorem ZQD:∀l:List Int,l.length<=1000->(∀z∈l,Wl 256 z)->ZC1 (l.map bg)=some true:=fun l d h=>by
 refine Zo1 ?_;unfold ZC1;rw[Zhr,List.length_map];refine Zjf (Ztf ZIe l.length (by omega) (fun i (_:Unit)=>(l.map bg,(l.length:Int),i)) (fun _ _=>True) (Q:=fun r=>r= .brk ()) () trivial ?_ ?_) ?_
 ·rintro b i ⟨⟩ a _ c;unfold ZDz ZAq;dsimp only;rw[ZoH];refine⟨fun _=> ?_,fun h=>by simp_all⟩;rw[ZoT (by simp_all),Zhr,Zfa,List.getElem_map,ZHC _ (h _ (List.getElem_mem a)),Zhr,Zfa];rw[ZW1,cond_false,ZhS];exact⟨ZiH (by omega),c () trivial⟩
 ·grind[ZDz,ZAq,Zfa]
 ·rintro r rfl;exact Zfa.2 rfl
abbrev Wq (n:Nat) (q:Rat):Prop:=Wl n q.num/\Wl n (q.den:Int)
theorem ZMx:iL (wd 1)=[1]:=by rw[ZI4 (by decide),show 1 / Bw=0 from rfl,ZAs];rfl
theorem ZHB (q:Rat) (h:Wq 256 q):Zrx (fOf q)=some true:=by
 unfold Zrx Zvm fOf;have c:=ZQD [q.num,(q.den:Int)] (by simp) (fun z b=>by
 simp only[List.mem_cons,List.not_mem_nil,or_false]at b;rcases b with rfl |rfl
 ·exact h.1
 ·exact h.2)
 have g:=q.den_nz;have f:=Zu7 (n:=(q.den:Int).natAbs) (by omega);have d:=h.1;have a:=h.2;unfold Wl at d a;dsimp only;rw[show ([bg q.num,bg (q.den:Int)]:List Zgo)=[q.num,(q.den:Int)].map bg from rfl,c,Z22,cond_true,ZqH,ZqH,ZoL,decide_eq_true (by omega),cond_true,ZFv,decide_eq_false (by omega),Bool.not_false,cond_true,ZKT _ _ (by omega) (by omega),Z22];have e:Z2D q.num.natAbs (q.den:Int).natAbs=1:=q.reduced;grind[ZE5,ZMx,ZJM,ZDP]
end Go.Proofs
namespace Go.Proofs
open Go Eng
def Sz (k:Nat) (q:Rat):Prop:=q.num.natAbs < 2 ^ k/\q.den < 2 ^ k
theorem Sz.mono {k l:Nat} {q:Rat} (h:Sz k q) (a:k<=l):Sz l q:=⟨Z2I h.1 (Z2W (by decide) a),Z2I h.2 (Z2W (by decide) a)⟩
theorem ZKp {n k:Nat} (h:n < 2 ^ k) (m:Nat) (a:k<=32*m):(wd n).length<=m:=by refine ZE5 (Z2I h ?_);rw[show Bw=2 ^ 32 from rfl,<-Z2X];simp_all[Z2W]
theorem Sz.wq {k:Nat} {q:Rat} (h:Sz k q) (a:k<=8192):Wq 256 q:=⟨ZKp h.1 256 (by omega),ZKp (n:=(q.den:Int).natAbs) (by rw[Int.natAbs_natCast];exact h.2) 256 (by omega)⟩
theorem ZI6 {x y:Int} {k:Nat} (c:y≠0) (b:x.natAbs < 2 ^ k) (a:y.natAbs < 2 ^ k):Sz k (Rat.divInt x y):=by
 unfold Sz;rw[Rat.num_divInt,Rat.den_divInt,if_neg c];refine⟨Z2H ?_ b,Z2H (Z2B _ _) a⟩;have d:((Int.gcd y x:Nat):Int)∣y.sign*x:=Int.dvd_trans (Int.gcd_dvd_right y x) (Int.dvd_mul_left _ _);simp_all[Int.natAbs_ediv_of_dvd,Z2j,Z2B,Int.natAbs_sign_of_ne_zero]
theorem ZHp {x y k l:Nat} (a:x < 2 ^ k) (b:y < 2 ^ l):x*y < 2 ^ (k+l):=by simp_all[Z2V,Z2S,Z2E,Z20]
theorem ZHy (a b:Rat):Rat.divInt (a.num*(b.den:Int)+b.num*(a.den:Int)) ((a.den:Int)*(b.den:Int))=a+b:=by have d:=a.den_nz;have c:=b.den_nz;rw[<-Rat.divInt_add_divInt _ _ (by omega) (by omega),Rat.num_divInt_den,Rat.num_divInt_den]
theorem Sz.add {a b:Rat} {k l:Nat} (c:Sz k a) (d:Sz l b):Sz (k+l+1) (a+b):=by
 rw[<-ZHy];have h:=a.den_nz;have e:=b.den_nz;have f:=ZHp c.1 d.2;have j:=ZHp c.2 d.1;have i:=ZHp c.2 d.2;have g:=Z20 (k+l);refine ZI6 (Z2i (by omega) (by omega)) ?_ ?_
 all_goals grind[Int.natAbs_add_le,Z2j]
theorem small {q:Rat} (h:Wq 256 q):decide ((if ((fOf q).Den.Words.length:Int) > ((fOf q).Num.Words.length:Int)then ((fOf q).Den.Words.length:Int)else ((fOf q).Num.Words.length:Int)) > 256)=false:=by grind[fOf,ZqH,ZoL]
theorem ZHt {y:Int} (a:y≠0):(((bg y).Words.length:Int) == 0)=false:=by grind[Zu7,ZqH,ZoL]
theorem ZSX {a b:Rat} {k l:Nat} (j:Sz k a) (p:Sz l b) (u:k+l+1<=8192):ZDO (fOf a) (fOf b)=some (fOf (a+b),0):=by
 have C:=a.den_nz;have B:=b.den_nz;have d:=j.wq (by omega);have c:=p.wq (by omega);have w:∀{x y:Int},Wl 256 x->Wl 256 y->Wl 512 (x*y):=fun z A=>by unfold Wl;rw[Z2j];exact ZI3 z A
 have m:∀{n:Nat} {x:Int},Wl n x->n<=50000->Wl 50000 x:=fun h s=>Z2G h s
 have i:=w d.1 c.2;have r:=w c.1 d.2;have v:=w d.2 c.2;have t:Wl 513 (a.num*(b.den:Int)+b.num*(a.den:Int)):=Z2G (Zwv (Int.natAbs_add_le _ _)) (ZLb i r);have o:(a.den:Int)*(b.den:Int)≠0:=Z2i (by omega) (by omega);unfold ZDO Zrt;rw[ZHB a d,Z22,ZW1,cond_false,ZHB b c,Z22,ZW1];unfold Zsf ZGw;rw[cond_false];show ((((ZoK (bg a.num) (bg (b.den:Int))).bind fun q=>(ZoK (bg b.num) (bg (a.den:Int))).bind fun g=>(ZBG q g).bind fun f=>(ZoK (bg (a.den:Int)) (bg (b.den:Int))).bind fun e=>some (f,e)).bind _).bind _)=_;rw[ZEW _ _ (m d.1 (by omega)) (m c.2 (by omega)),Z22,ZEW _ _ (m c.1 (by omega)) (m d.2 (by omega)),Z22,ZSB _ _ (m i (by omega)) (m r (by omega)),Z22,ZEW _ _ (m d.2 (by omega)) (m c.2 (by omega)),Z22,Z22];dsimp only;rw[ZHt o,cond_false,ZHo _ _ o (m t (by omega)) (m v (by omega)),Z22,ZHy,small ((j.add p).wq u),cond_false,Z22]
end Go.Proofs
namespace Go.Proofs
open Go Eng
theorem ZKE (z:Int):Zvk (bg z)=some (bg (-z)):=by
 unfold Zvk ZyX;rw[ZFv,ZqH,ZoL];grind[bg,ZAs,Zu7]
theorem ZUw (q:Rat):fOf (-q)=⟨bg (-q.num),bg (q.den:Int)⟩:=rfl
theorem Sz.neg {q:Rat} {k:Nat} (h:Sz k q):Sz k (-q):=by show (-q.num).natAbs < 2 ^ k/\q.den < 2 ^ k;rw[Int.natAbs_neg];exact h
theorem ZWH {a b:Rat} {k l:Nat} (f:Sz k a) (d:Sz l b) (e:k+l+1<=8192):ZE2 (fOf a) (fOf b)=some (fOf (a - b),0):=by unfold ZE2;rw[ZHB b (d.wq (by omega)),Z22,ZW1,cond_false];show ((Zvk (bg b.num)).bind fun c=>(Zrt (fOf a) (ZbF.mk c (bg (b.den:Int)))).bind fun x=>some (x.1,x.2))=_;have:=ZSX f d.neg e;grind[ZDO,ZKE,ZUw]
theorem ZJg {a b:Rat} {k l:Nat} (e:Sz k a) (d:Sz l b) (c:k+l+1<=8192):ZGq (fOf a) (fOf b)=some (fOf (a+b)):=by grind[ZGq,ZDU,ZSX]
theorem ZKH {a b:Rat} {k l:Nat} (e:Sz k a) (d:Sz l b) (c:k+l+1<=8192):ZHd (fOf a) (fOf b)=some (fOf (a - b)):=by grind[ZHd,ZDU,ZWH]
def ZK5 (a b:Rat):Int:=if a < b then -1 else if b < a then 1 else 0
theorem ZKl (a b:Rat):a < b<->a.num*(b.den:Int) < b.num*(a.den:Int):=Rat.lt_iff a b
theorem ZOw {a b:Rat} (d:Wq 256 a) (c:Wq 256 b):ZAe (fOf a) (fOf b)=some (ZK5 a b):=by
 have w:∀{x y:Int},Wl 256 x->Wl 256 y->Wl 50000 (x*y):=fun i k=>by unfold Wl;rw[Int.natAbs_mul];exact Nat.le_trans (ZI3 i k) (by decide)
 have m:∀{x:Int},Wl 256 x->Wl 50000 x:=fun h=>Nat.le_trans h (by decide)
 unfold ZAe;rw[ZHB a d,Option.bind_some,Bool.not_true,cond_false,ZHB b c,Option.bind_some,Bool.not_true];unfold ZDi;rw[cond_false];show ((ZoK (bg a.num) (bg (b.den:Int))).bind fun q=>(ZoK (bg b.num) (bg (a.den:Int))).bind _)=_;rw[ZEW _ _ (m d.1) (m c.2),Option.bind_some,ZEW _ _ (m c.1) (m d.2),Option.bind_some,ZKE,Option.bind_some];have j:Wl 50000 (-(b.num*(a.den:Int))):=by grind[Int.natAbs_neg]
 rw[ZSB _ _ (w d.1 c.2) j,Option.bind_some,ZFv,ZqH,ZoL];unfold ZK5;have g:=ZKl a b;have e:=ZKl b a;generalize a.num*(b.den:Int)=x at*
 generalize b.num*(a.den:Int)=y at*
 by_cases hl:a < b
 ·grind
 ·have l:¬x < y:=fun h=>hl (g.2 h)
  rw[if_neg hl,decide_eq_false (by omega),cond_false]
  by_cases hg:b < a
  ·have:=Zu7 (n:=(x+ -y).natAbs) (by grind);simp_all
  ·have f:¬y < x:=fun h=>hg (e.2 h)
   rw[if_neg hg,show x+ -y=0 by omega,show (0:Int).natAbs=0 from rfl,ZAs];rfl
theorem ZUg (x y:Int) (e:y≠0) (b:Wl 256 x) (a:Wl 256 y):ZEp (bg x) (bg y)=some (fOf (Rat.divInt x y),0):=by
 have c:=ZQD [x,y] (by simp) (fun z d=>by
 grind)
 grind[ZEp,ZHt,ZHo]
theorem wl64 {z:Int} (b: -9223372036854775808<=z) (a:z<=9223372036854775807):Wl 256 z:=Z2G (ZUi (by omega)) (by decide)
theorem ZW9 (x y:Int) (e:y≠0) (b: -9223372036854775808<=x) (a:x<=9223372036854775807) (d: -9223372036854775808<=y) (c:y<=9223372036854775807):ZEo x y=some (fOf (Rat.divInt x y),0):=by grind[ZEo,ZO9,ZUg,wl64]
theorem ZJw:ZBF=some (fOf 0):=by grind[ZBF,ZW9,Rat.zero_divInt]
theorem ZJe (x y:Int) (e:y≠0) (b: -9223372036854775808<=x) (a:x<=9223372036854775807) (d: -9223372036854775808<=y) (c:y<=9223372036854775807):ZEl x y=some (fOf (Rat.divInt x y)):=by grind[ZEl,ZW9]
theorem ZFx:Sz 1 0:=by simp_all[Sz]
theorem ZJA {a:Rat} (b:Wq 256 a):ZDf (fOf a)=some (ZK5 a 0):=by unfold ZDf;rw[ZJw,Z22,ZOw b (ZFx.wq (by decide)),Z22]
theorem ZIG (a b:Rat):Rat.divInt (a.num*(b.den:Int)) ((a.den:Int)*b.num)=a / b:=by grind[Rat.divInt_mul_divInt,Rat.num_divInt_den,Rat.inv_def]
theorem Sz.div {a b:Rat} {k l:Nat} (c:b≠0) (d:Sz k a) (f:Sz l b):Sz (k+l) (a / b):=by
 rw[<-ZIG];have h:=a.den_nz;have g:b.num≠0:=fun e=>c (Rat.num_eq_zero.1 e)
 refine ZI6 (Z2i (by omega) g) ?_ ?_
 ·rw[Z2j,Int.natAbs_natCast];exact ZHp d.1 f.2
 ·rw[Z2j,Int.natAbs_natCast];exact ZHp d.2 f.1
theorem ZXH {a b:Rat} {k l:Nat} (c:b≠0) (j:Sz k a) (o:Sz l b) (r:k+l<=8192):ZE3 (fOf a) (fOf b)=some (fOf (a / b),0):=by
 have v:=a.den_nz;have q:b.num≠0:=fun e=>c (Rat.num_eq_zero.1 e)
 have f:=j.wq (by omega);have d:=o.wq (by omega);have w:∀{x y:Int},Wl 256 x->Wl 256 y->Wl 50000 (x*y):=fun t u=>by unfold Wl;rw[Z2j];exact Z2G (ZI3 t u) (by decide)
 have m:∀{x:Int},Wl 256 x->Wl 50000 x:=fun h=>Z2G h (by decide)
 have p:=w f.1 d.2;have s:=w f.2 d.1;have n:(a.den:Int)*b.num≠0:=Z2i (by omega) q;unfold ZE3 ZwY;rw[ZHB a f,Z22,ZW1,cond_false,ZHB b d,Z22,ZW1];unfold Zrf ZGx;rw[cond_false];show ((((ZoK (bg a.num) (bg (b.den:Int))).bind fun i=>(ZoK (bg (a.den:Int)) (bg b.num)).bind fun g=>some (i,g)).bind _).bind _)=_;rw[ZEW _ _ (m f.1) (m d.2),Z22,ZEW _ _ (m f.2) (m d.1),Z22,Z22];dsimp only;rw[ZHt n,cond_false,ZHo _ _ n p s,Z22,ZIG,small ((Sz.div c j o).wq r),cond_false,Z22]
theorem ZMz {a b:Rat} {k l:Nat} (c:b≠0) (f:Sz k a) (e:Sz l b) (d:k+l<=8192):ZIc (fOf a) (fOf b)=some (fOf (a / b)):=by grind[ZIc,ZDU,ZXH]
end Go.Proofs
namespace Go.Proofs
open Go Eng
theorem ZN8:∀n w,ZpA n w=Zql n w
 |0,_=>rfl
 |n+1,w=>by have:ZpA n=Zql n:=funext (ZN8 n);show ZCf (ZpA n) w=ZxD (Zql n) w;rw[this];rfl
theorem ZOK (w:List Int):Zpe w=Zpl w:=by unfold Zpe Zpl;rw[ZN8];rfl
theorem ZIB {l:List Nat} (h:Dg l) (a:l.length<=1000000):Zpe (iL l)=some (iL (wd (val l))):=by grind[ZOK,ZH7]
theorem ZIW (neg:Bool) {l:List Nat} (h:Dg l) (hl:l.length<=1000000):ZoV neg (iL l)=some (bg (if neg then -(val l:Int)else val l)):=by
 unfold ZoV ZvL;rw[ZIB h hl,Z22,ZoL];grind[bg,ZAs,Zu7]
theorem ZGT (a:Zgo):Zqa a=Zyz a:=rfl
end Go.Proofs
namespace Go.Proofs
open Go Eng
theorem ZLX (a b:Nat) (d:(wd a).length<=100000) (e:(wd b).length<=100000):Zpy (iL (wd a)) (iL (wd b))=some (ZLl a b):=by
 refine Zo1 ?_;unfold Zpy;rw[ZoL,ZoL,ZoH];refine⟨fun h=> ?_,fun h=> ?_⟩
 ·grind[Zfa,ZGC,ZOq,ZFM]
 ·have t:(wd a).length=(wd b).length:=by grind
  rw[ZhS,Zhr];refine⟨ZiH (by omega), ?_⟩;refine Zjf (ZJm ZGb (wd a).length (by omega) (fun i (s:Unit)=>(iL (wd a),iL (wd b),i)) (fun k _=>(wd a).drop k=(wd b).drop k)
   (Q:=fun r=>r= .ret (ZLl a b)\/r= .brk ()/\a=b) () (by simp_all) ?_ ?_) ?_
  ·rintro n k ⟨⟩ g j p;have c:k < (wd b).length:=by omega
   unfold Zyj Zt1;dsimp only;rw[ZoH];refine⟨fun _=> ?_,fun h=>by simp_all⟩;have d:=ZGk g;have e:=ZGk c;rw[ZxS]at d e;have o:val ((wd a).take k) < Bw ^ k:=by have:=ZDo ((ZBH a).take k);grind
   have l:val ((wd b).take k) < Bw ^ k:=by have:=ZDo ((ZBH b).take k);grind
   rw[ZzH g,Zhr,Zfa,ZzH c,Zhr,Zfa,ZoH];refine⟨fun m=> ?_,fun m=> ?_⟩
   ·have q:(wd a)[k] < (wd b)[k]:=by grind
    have:a < b:=by rw[d,e,j];exact ZLB (A:=0) (B:=0) o (by omega)
    grind[Zfa,ZGC]
   ·rw[Zhr,Zfa,Zhr,Zfa,ZoH];refine⟨fun f=> ?_,fun f=> ?_⟩
    ·have q:(wd b)[k] < (wd a)[k]:=by grind
     have:b < a:=by rw[d,e,j];exact ZLB (A:=0) (B:=0) l (by omega)
     grind[Zfa,ZFM]
    ·rw[ZhS];refine⟨ZiH (by omega),p () ?_⟩;grind[List.getElem_cons_drop]
  all_goals grind[Zyj,Zt1,Zfa,ZxS,Zz4,ZDP]
theorem ZNf {a:Nat} (k:Nat) (hk:k<=32):shlK .u32 (a:Int) (k:Int)=((a*2 ^ k % 4294967296:Nat):Int):=by
 unfold shlK;rw[Z2l,show IntKind.bits .u32=32 from rfl,Z2K (by omega)];have e:(a:Int)*(2:Int) ^ k=((a*2 ^ k:Nat):Int):=by simp_all
 rw[e,ZAr]
theorem ZN7 (a d:Nat) (hd:d<=1) (ha:(wd a).length<=100000):Zta (iL (wd a)) (d:Int)=some (iL (wd (2*a+d))):=by
 refine Zo1 ?_;unfold Zta;rw[Zhr];refine Zjf (Ztf ZFi (wd a).length (by omega) (fun i (s:Nat×List Nat)=>(iL (wd a),(s.1:Int),i,iL s.2)) (fun i s=>s.1<=1/\s.2.length=i/\Dg s.2/\val s.2+Bw ^ i*s.1=2*val ((wd a).take i)+d)
  (Q:=fun y=>∃(c:Nat) (o:List Nat),y=((c:Int),iL o)/\c<=1/\Dg o/\o.length=(wd a).length/\val o+Bw ^ (wd a).length*c=2*a+d) (d,[]) ⟨hd,rfl,ZIt,by simp[val]⟩ ?_ ?_) ?_
 ·rintro rec i ⟨c,o⟩ hi ⟨hc,hl,hod,hv⟩ ih;dsimp only at hc hl hod hv ih;have h1:=(ZBH a).get hi;unfold ZwN ZsV;dsimp only;rw[ZoH,ZoL];refine⟨fun _=> ?_,fun h=>by simp_all⟩;rw[ZzH hi,Zhr,Zfa];generalize ex:(wd a)[i]=x at h1;have eor:orK .u32 (shlK .u32 (x:Int) 1) (c:Int)=((c+x*2 ^ 1 % Bw:Nat):Int):=by rw[show (1:Int)=((1:Nat):Int)from rfl,ZNf 1 (by omega),ZMw (Nat.mod_lt _ (by decide)) (by omega),Nat.or_comm];congr 1;exact ZLQ (by decide) (by omega) h1
  have esh:shrK .u32 (x:Int) 31=((x / 2 ^ 31:Nat):Int):=ZIQ 31 (by omega);rw[eor,Option.bind_some,esh,ZhS,ZhS,ZhS,ZhS,ZoL];have hx:c+x*2 ^ 1 % Bw < Bw:=by grind
  refine⟨by decide,ZpO (by grind),by decide,ZiH (by omega), ?_⟩;have:=ih (x / 2 ^ 31,o++[c+x*2 ^ 1 % Bw]) ⟨by grind,by grind,hod.app (ZHs hx), ?_⟩
  ·rw[ZKN]at this;exact this
  ·dsimp only;have q:c+x*2 ^ 1 % Bw+Bw*(x / 2 ^ 31)=c+2*x:=by simp only[Bw]at h1|-;omega
   have q2:Bw ^ i*(c+x*2 ^ 1 % Bw+Bw*(x / 2 ^ 31))=Bw ^ i*(c+2*x):=by rw[q]
   have q3:Bw ^ i*(2*x)=2*(Bw ^ i*x):=Nat.mul_left_comm _ _ _;rw[Nat.mul_add,Nat.mul_add (Bw ^ i) c (2*x),q3]at q2;grind[ZBZ,Zpk]
 ·rintro rec ⟨c,o⟩ ⟨hc,hl,hod,hv⟩;dsimp only at hc hl hod hv;unfold ZwN ZsV;dsimp only;rw[ZoH,ZoL];refine⟨fun h=>by have:=of_decide_eq_true h;omega,fun _=> ?_⟩;rw[Zfa];rw[List.take_length,ZxS]at hv;exact⟨c,o,rfl,hc,hod,hl,hv⟩
 ·rintro y ⟨c,o,rfl,hc,hod,hl,hv⟩;dsimp only;unfold Zyc;have e:iL o++[(c:Int)]=iL (o++[c]):=by rw[ZKN];rfl
  rw[ZhS,ZoL,e,ZIB (hod.app (ZHs (by simp only[Bw];omega))) (by simp;omega),Zhr,Zfa,Zfa,ZBZ,hl,hv];exact⟨ZpO (by simp only[List.length_singleton];omega),rfl⟩
end Go.Proofs
namespace Go.Proofs
open Go Eng
theorem ZTH (t:Int):shrK .i64 t 32=t / 4294967296:=by grind[shrK,IntKind.bits]
theorem ZKv (a b:Nat) (m:b<=a) (G:(wd a).length<=100000):ZqS (iL (wd a)) (iL (wd b))=some (iL (wd (a - b))):=by
 have C:(wd b).length<=(wd a).length:=Zwv m;refine Zo1 ?_;unfold ZqS;rw[Zhr];refine Zjf (Ztf ZF7 (wd a).length (by omega) (fun i (s:Nat×List Nat)=>(iL (wd a),iL (wd b), -(s.1:Int),i,iL s.2)) (fun i s=>s.1<=1/\s.2.length=i/\Dg s.2/\val ((wd a).take i)+Bw ^ i*s.1=val s.2+val ((wd b).take i))
  (Q:=fun y=>∃(o:List Nat),y=iL o/\Dg o/\o.length=(wd a).length/\val o=a - b) (0,[]) ⟨by simp,rfl,ZIt,by simp[val]⟩ ?_ ?_) ?_
 ·rintro j i ⟨c,o⟩ q ⟨n,f,g,d⟩ t;dsimp only at n f g d t;have z:=(ZBH a).get q;have v:=ZIU (ZBH b) i;have B:(wd b).getD i 0=(if i < (wd b).length then (wd b).getD i 0 else 0):=by
   simp_all
  have D:∀y:Nat,(wd b).getD i 0=y->wp (Zsu (fun a b c i p=>j (a,b,c,i,p)) (iL (wd a)) (iL (wd b)) (-(c:Int)+((wd a)[i]:Int) - (y:Int)) (i:Int) (iL o)) (fun y=>∃(o:List Nat),y=iL o/\Dg o/\o.length=(wd a).length/\val o=a - b):=fun y r=>by
   rw[r]at v;generalize ex:(wd a)[i]=x at z;have w:IntKind.wrap .u32 (-(c:Int)+(x:Int) - (y:Int))=(((x+4294967296 - y - c) % 4294967296:Nat):Int):=by grind[IntKind.wrap_u32]
   have u:shrK .i64 (-(c:Int)+(x:Int) - (y:Int)) 32= -(((if x < y+c then 1 else 0):Nat):Int):=by grind[ZTH]
   unfold Zsu;rw[w,u,ZhS,ZhS,ZhS,ZoL];refine⟨ZpO (by grind),by decide,ZiH (by omega), ?_⟩;have:=t ((if x < y+c then 1 else 0),o++[(x+4294967296 - y - c) % 4294967296]) ⟨by grind,by grind,g.app (ZHs (Nat.mod_lt _ (by decide))), ?_⟩
   ·rw[ZKN]at this;exact this
   ·dsimp only;rw[ZBZ,f,Nat.pow_succ,Zpk q,ZFX,ex,r,Nat.mul_assoc];have e:x+Bw*(if x < y+c then 1 else 0)=(x+4294967296 - y - c) % 4294967296+y+c:=by grind
    grind
  unfold Zyd ZtU;dsimp only;rw[ZoH,ZoL,ZoL];refine⟨fun _=> ?_,fun h=>by simp_all⟩;have A:IntKind.wrap .i64 ((wd a)[i]:Int)=((wd a)[i]:Int):=wrap_i64 (by grind);rw[ZzH q,Zhr,Zfa,A,ZhS,ZoH];refine⟨ZiH (by grind),fun h=> ?_,fun h=> ?_⟩
  ·have k:i < (wd b).length:=by have:=of_decide_eq_true h;omega
   have F:=(ZBH b).get k;have E:IntKind.wrap .i64 ((wd b)[i]:Int)=((wd b)[i]:Int):=wrap_i64 (by simp only[Bw]at F;omega);rw[ZzH k,Zhr,Zfa,E,ZhS];grind[ZiH]
  simp_all
 ·rintro j ⟨c,o⟩ ⟨n,f,g,d⟩;unfold Zyd ZtU;dsimp only at n f g d|-
  rw[ZoH,ZoL];refine⟨fun h=>by have:=of_decide_eq_true h;omega,fun _=> ?_⟩;rw[Zfa];rw[List.take_length,List.take_of_length_le (by omega),ZxS,ZxS]at d;have:=ZDo g;rw[f]at this;have l:c=0:=by
   rcases Nat.eq_zero_or_pos c with h |h
   ·exact h
   ·have:c=1:=by omega
    rw[this,Nat.mul_one]at d;omega
  rw[l,Nat.mul_zero]at d;exact⟨o,rfl,g,f,by omega⟩
 grind[ZzV,ZIB,Zfa]
end Go.Proofs
namespace Go.Proofs
open Go Eng
theorem ZKn (a:Nat) (ha:(wd a).length<=100000):Zqs (iL (wd a))=some (iL (wd (a / 2))):=by
 refine Zo1 ?_;unfold Zqs;rw[List.nil_append,ZhS,Zhr,ZoL];refine⟨ZpO (by grind), ?_⟩;refine Zjf (Ztf ZFF (wd a).length (by omega) (fun i (o:List Nat)=>(iL (wd a),((wd a).length:Int),i,iL (o++(wd a).drop o.length))) (fun i o=>o.length=i/\Dg o/\val o*2+(wd a).getD 0 0 % 2=val ((wd a).take i)+Bw ^ i*((wd a).getD i 0 % 2))
  (Q:=fun y=>∃(o:List Nat),y=iL o/\Dg o/\o.length=(wd a).length/\val o=a / 2) [] ⟨rfl,ZIt,by simp[val]⟩ ?_ ?_) ?_
 ·rintro rec i o hi ⟨hol,hod,hov⟩ ih;have h1:=(ZBH a).get hi;have hyB:=ZIU (ZBH a) (i+1);have hlen:(o++(wd a).drop o.length).length=(wd a).length:=by grind
  have gx:(iL (o++(wd a).drop o.length))[i]? =some ((wd a)[i]:Int):=by simp_all[ZIq]
  have fin:∀z:Nat,z=(wd a)[i] / 2+(wd a).getD (i+1) 0*2 ^ 31 % Bw->wp (Zr1 (fun a t9 i out=>rec (a,t9,i,out)) (iL (wd a)) ((wd a).length:Int) (i:Int) (iL ((o++(wd a).drop o.length).set i z))) (fun y=>∃(o:List Nat),y=iL o/\Dg o/\o.length=(wd a).length/\val o=a / 2):=fun z hz=>by
   unfold Zr1;have es:(o++(wd a).drop o.length).set i z=(o++[z])++(wd a).drop (o++[z]).length:=by rw[List.set_append_right _ _ (by omega),hol,Nat.sub_self,<-List.getElem_cons_drop (h:=hi),List.set_cons_zero];simp[hol]
   have eg:(wd a).getD i 0=(wd a)[i]:=by simp_all
   rw[eg]at hov;rw[ZhS,es];generalize ex:(wd a)[i]=x at*
   generalize ey:(wd a).getD (i+1) 0=y at*
   have hzB:z < Bw:=by grind
   refine⟨ZiH (by omega),ih (o++[z]) ⟨by grind,hod.app (ZHs hzB), ?_⟩⟩;have hd1:z*2+x % 2=x+Bw*(y % 2):=by grind
   grind[ZBZ,Zpk]
  unfold Zxv Ztw;dsimp only;rw[ZoH];refine⟨fun _=> ?_,fun h=>by simp_all⟩;have esh:shrK .u32 ((wd a)[i]:Int) 1=(((wd a)[i] / 2:Nat):Int):=ZIQ 1 (by omega);rw[Int.toNat_natCast,gx,ZhS,Zhr,Zfa,ZhS,ZhS,ZhS,esh,ZGN,ZoL,ZoL,hlen,ZoH];refine⟨Zr4 ⟨by omega,by omega⟩,by decide,Zr4 ⟨by omega,by omega⟩,ZiH (by omega),fun h=> ?_,fun h=> ?_⟩
  ·have hi2:i+1 < (wd a).length:=by have:=of_decide_eq_true h;omega
   have gz:(iL ((o++(wd a).drop o.length).set i ((wd a)[i] / 2)))[i]? =some (((wd a)[i] / 2:Nat):Int):=by rw[ZIq (by rw[List.length_set];omega),List.getElem_set_self]
   have e1:(i:Int)+1=((i+1:Nat):Int):=rfl;have eg:(wd a).getD (i+1) 0=(wd a)[i+1]:=by rw[List.getD_eq_getElem?_getD,List.getElem?_eq_getElem hi2];rfl
   have eor:orK .u32 (((wd a)[i] / 2:Nat):Int) (shlK .u32 ((wd a)[i+1]:Int) 31)=(((wd a)[i] / 2+(wd a).getD (i+1) 0*2 ^ 31 % Bw:Nat):Int):=by rw[eg,show (31:Int)=((31:Nat):Int)from rfl,ZNf 31 (by omega),ZMw (by simp only[Bw]at h1;omega) (Nat.mod_lt _ (by decide))];congr 1;exact ZLQ (by decide) (by simp only[Bw]at h1;omega) ((ZBH a).get hi2)
   rw[e1,ZzH hi2,gz,ZhS,Zhr,Zfa,ZhS,Zhr,Zfa,ZhS,ZhS,eor,ZoL,List.length_set,hlen,ZGN,List.set_set];exact⟨Zr4 ⟨by omega,by omega⟩,ZiH (by omega),by decide,Zr4 ⟨by omega,by omega⟩,fin _ rfl⟩
  grind
 ·rintro rec o ⟨hol,hod,hov⟩;unfold Zxv Ztw;dsimp only;rw[ZoH];refine⟨fun h=>by have:=of_decide_eq_true h;omega,fun _=> ?_⟩;rw[Zfa];have eg:(wd a).getD (wd a).length 0=0:=by rw[List.getD_eq_getElem?_getD,List.getElem?_eq_none (by omega)];rfl
  rw[eg,Nat.zero_mod,Nat.mul_zero,Nat.add_zero,List.take_length,ZxS]at hov;refine⟨o,by rw[hol,List.drop_length,List.append_nil],hod,hol, ?_⟩;omega
 grind[Zze,ZIB,Zfa]
end Go.Proofs
namespace Go.Proofs
open Go Eng
theorem ZMC {a:Nat} (h:a≠0):idx (iL (wd a)) 0=some ((a % Bw:Nat):Int):=by rw[ZI4 h];rfl
theorem ZKQ {a:Nat}:(andK .u32 ((a % Bw:Nat):Int) 1 == 0)=decide (a % 2=0):=by
 rw[show (1:Int)=((1:Nat):Int)from rfl,ZL2 (Z2M _ (by decide)) (by decide),Nat.and_one_is_mod];grind
theorem ZOn (P:Nat->Prop) {f:Nat->List Int×List Int×Int->Option (List Int×List Int×Int)} (y:List Int) (k:Int)
  (hf:∀n x,x≠0->(wd x).length<=100000->f (n+1) (iL (wd x),y,k)=if x % 2=0 then f n (iL (wd (x / 2)),y,k)else some (iL (wd x),y,k))
  (hP:∀x,P (2*x)->P x):∀(n x:Nat),x≠0->(wd x).length<=100000->P x->(∀m,x < 2 ^ m->m<=n->∃z,f n (iL (wd x),y,k)=some (iL (wd z),y,k)/\z % 2=1/\z<=x/\P z)
 |0,x,hx,hl,hp,m,hm,hmn=>by
  simp_all
 |n+1,x,hx,hl,hp,m,hm,hmn=>by
  rw[hf n x hx hl]
  by_cases h:x % 2=0
  ·rw[if_pos h];cases m with
   |zero=>omega
   |succ m=>
    obtain⟨z,h1,h2,h3,h4⟩:=ZOn P y k hf hP n (x / 2) (by omega) (Nat.le_trans (Zwv (Nat.div_le_self x 2)) hl) (hP _ (by grind)) m (by omega) (by omega);grind
  grind
end Go.Proofs
namespace Go.Proofs
open Go Eng
theorem ZEY (x:Nat):x < 2 ^ (x.log2+1):=Nat.lt_log2_self
theorem ZHN {x n:Nat} (h:(wd x).length<=n):x.log2<=32*n:=by
 rcases Z2C x with rfl |b
 ·simp_all
 ·have c:=Nat.log2_self_le (n:=x) (by omega);have a:=Z2I (ZDH x) (Z2W (n:=Bw) (by decide) h);rw[show Bw=2 ^ 32 from rfl,<-Z2X]at a;grind[Z2E,Nat.pow_lt_pow_iff_right,Z2H]
theorem ZQo {x b:Nat} (c:b % 2=1):Z2D (2*x) b=Z2D x b:=by
 have a:Nat.Coprime 2 b:=by grind[Nat.gcd_rec,Nat.gcd_one_left]
 grind[Nat.Coprime.gcd_mul_left_cancel]
theorem Z0A (y:List Int) (k:Int) {x:Nat} (b:Nat) (e:b % 2=1) (c:x≠0) (a:(wd x).length<=100000):∃z,Zpr big (iL (wd x)) y k=some (iL (wd z),y,k)/\z % 2=1/\z<=x/\Z2D z b=Z2D x b:=by
 have d:=ZHN a;refine ZOn (fun z=>Z2D z b=Z2D x b) (f:=fun n t=>Zpr n t.1 t.2.1 t.2.2) y k (fun n x c a=> ?_) (fun z h=>by grind[ZQo]) big x c a rfl (x.log2+1) (ZEY x) (Z2E (ZHx (by omega)));show ZtY (Zpr n) (iL (wd x)) y k=_;grind[ZtY,ZMC,ZKQ,ZKn]
end Go.Proofs
namespace Go.Proofs
open Go Eng
theorem ZSK (y:List Int) (k:Int) {x:Nat} (b:x % 2=1):Zpr big (iL (wd x)) y k=some (iL (wd x),y,k):=by obtain⟨n,a⟩:=ZLZ 1 (by decide);grind[ZtY,Zpr,ZMC,ZKQ]
theorem Z0z (w:List Int) (k:Int) {y:Nat} (b:Nat) (i:b % 2=1) (r:y≠0) (a:(wd y).length<=100000):∃z,Zpq big w (iL (wd y)) k=some (w,iL (wd z),k)/\z % 2=1/\(z<=y/\(y % 2=0->z<=y / 2))/\Nat.gcd z b=Nat.gcd y b:=by
 have e:=ZHN a;have c:∀n x,x≠0->(wd x).length<=100000->Zpq (n+1) w (iL (wd x)) k=if x % 2=0 then Zpq n w (iL (wd (x / 2))) k else some (w,iL (wd x),k):=fun n x f a=>by
  show Zyg (Zpq n) w (iL (wd x)) k=_;grind[Zyg,ZMC,ZKQ,ZKn]
 have d:∀(n x m:Nat),x≠0->(wd x).length<=100000->x < 2 ^ m->m<=n->∃z,Zpq n w (iL (wd x)) k=some (w,iL (wd z),k)/\z % 2=1/\(z<=x/\(x % 2=0->z<=x / 2))/\Nat.gcd z b=Nat.gcd x b:=by
  intro n
  induction n with
  |zero=>
   grind
  |succ n l=>
   intro x m f a e j;rw[c n x f a]
   by_cases h:x % 2=0
   ·rw[if_pos h];cases m with
    |zero=>omega
    |succ m=>
     obtain⟨z,o,g,q,p⟩:=l (x / 2) m (by omega) (Nat.le_trans (Zwv (Nat.div_le_self x 2)) a) (by rw[Nat.pow_succ]at e;omega) (by omega);refine⟨z,o,g,⟨by omega,fun _=>q.1⟩, ?_⟩;rw[p,<-ZQo i,show 2*(x / 2)=x by omega]
   grind
 exact d big y (y.log2+1) r a (ZEY y) (Nat.le_of_lt (ZHx (by omega)))
end Go.Proofs
namespace Go.Proofs
open Go Eng
theorem ZRS (k:Int):∀(n x y p q:Nat),x % 2=1->(wd x).length<=100000->(wd y).length<=100000->x < 2 ^ p->y < 2 ^ q->p+q+y % 2 < n->ZoY n (iL (wd x)) (iL (wd y)) k=some (iL (wd (Nat.gcd x y)),k)
 |0,x,y,p,q,_,_,_,_,_,h=>absurd h (by omega)
 |n+1,x,y,p,q,d,hxl,b,hp,hq,hn=>by
  show ZtZ (ZoY n) _ _ _=_;unfold ZtZ;rw[ZoL]
  by_cases j:y=0
  ·grind[ZAs]
  ·have s:=Zu7 j;obtain⟨z,o,f,g,r⟩:=Z0z (iL (wd x)) k x d j b;rw[decide_eq_true (by omega),cond_true,ZSK _ _ d,Option.bind_some];dsimp only;unfold Zz1;rw[o,Option.bind_some];dsimp only;have a:=Nat.le_trans (Zwv g.1) b;unfold Zz0;rw[ZLX x z hxl a,Option.bind_some];obtain⟨c,e,l⟩:∃c,z < 2 ^ c/\c+1<=q+y % 2:=by
    by_cases he:y % 2=0
    ·cases q with
     |zero=>omega
     |succ q=>
      grind
    grind
   unfold ZvI;have m:Nat.gcd x y=Nat.gcd x z:=by grind
   rw[m]
   by_cases hc:z < x
   ·rw[ZFM hc,show decide ((1:Int) > 0)=true from rfl,cond_true,ZKv x z (by omega) hxl,Option.bind_some,ZRS k n z (x - z) c p f a (Nat.le_trans (Zwv (Nat.sub_le x z)) hxl) e (by omega) (by omega),Nat.gcd_sub_self_right (by omega),Nat.gcd_comm]
   ·have i:decide (ZLl x z > 0)=false:=by grind[ZLl]
    rw[i,cond_false,ZKv z x (by omega) a,Option.bind_some,ZRS k n x (z - x) p c d hxl (Nat.le_trans (Zwv (Nat.sub_le z x)) a) hp (by omega) (by omega),Nat.gcd_sub_self_right (by omega)]
end Go.Proofs
namespace Go.Proofs
open Go Eng
theorem ZXg:∀(n x y j m:Nat),x≠0->y≠0->(wd x).length<=100000->(wd y).length<=100000->x < 2 ^ m->m<=n->j+m<=1000000000->
  ∃b a t:Nat,ZqO n (iL (wd x)) (iL (wd y)) (j:Int)=some (iL (wd b),iL (wd a),((j+t:Nat):Int))/\(b % 2=1\/a % 2=1)/\Nat.gcd x y=2 ^ t*Nat.gcd b a/\b≠0/\a≠0/\b<=x/\a<=y/\t<=m
 |0,x,y,j,m,hx,hy,d,c,hm,hmn,hj=>by
  simp_all
 |n+1,x,y,j,m,hx,hy,d,c,hm,hmn,hj=>by
  show ∃b a t:Nat,Zyh (ZqO n) _ _ _=_/\_;unfold Zyh ZvJ;rw[ZMC hx,Option.bind_some,ZKQ]
  by_cases h1:x % 2=0
  ·rw[decide_eq_true h1,cond_true,ZMC hy,Option.bind_some,ZKQ]
   by_cases h2:y % 2=0
   ·cases m with
    |zero=>omega
    |succ m=>
     rw[decide_eq_true h2,cond_true,ZKn x d,Option.bind_some,ZKn y c,Option.bind_some,ZiH (by omega),chk_true];obtain⟨b,a,t,k,g,o,f,e,h,i,l⟩:=ZXg n (x / 2) (y / 2) (j+1) m (by omega) (by omega) (Nat.le_trans (Zwv (Nat.div_le_self x 2)) d) (Nat.le_trans (Zwv (Nat.div_le_self y 2)) c) (by omega) (by omega) (by omega);refine⟨b,a,t+1, ?_,g, ?_,f,e,by omega,by omega,by omega⟩
     ·grind
     ·have:=Nat.gcd_mul_left 2 (x / 2) (y / 2);grind
   ·rw[decide_eq_false h2,cond_false];exact⟨x,y,0,rfl,.inr (by omega),by omega,hx,hy,Nat.le_refl _,Nat.le_refl _,Nat.zero_le _⟩
  ·rw[decide_eq_false h1,cond_false,cond_false];exact⟨x,y,0,rfl,.inl (by omega),by omega,hx,hy,Nat.le_refl _,Nat.le_refl _,Nat.zero_le _⟩
theorem ZXf:∀(k n a:Nat),k < n->k<=1000000000->(wd (2 ^ k*a)).length<=100000->ZqN n (iL (wd a)) (k:Int)=some (iL (wd (2 ^ k*a)))
 |k,0,a,h,_,_=>absurd h (by omega)
 |0,n+1,a,_,_,_=>by grind[ZtX,ZqN]
 |k+1,n+1,a,h,hk,hl=>by
  show ZtX (ZqN n) _ _=_;unfold ZtX;have e:2 ^ (k+1)*a=2 ^ k*(2*a+0):=by grind
  have c:(wd a).length<=100000:=Nat.le_trans (Zwv (Nat.le_mul_of_pos_left a (Nat.two_pow_pos _))) hl;rw[e]at hl;have b:=ZN7 a 0 (by omega) c;rw[Int.natCast_zero]at b;rw[decide_eq_true (by omega),cond_true,b,Option.bind_some,show ((k+1:Nat):Int) - 1=(k:Int) by omega,ZiH (by omega),chk_true,ZXf k n (2*a+0) (by omega) (by omega) hl,e]
theorem ZQp (a b:Nat) (ha0:a≠0) (hb0:b≠0) (ha:(wd a).length<=50000) (hb:(wd b).length<=50000):ZuW (iL (wd a)) (iL (wd b))=some (iL (wd (Nat.gcd a b))):=by
 have hla:=ZHN ha;have hlb:=ZHN hb;obtain⟨x,y,t,q1,q2,q3,q4,q5,q6,q7,q8⟩:=ZXg big a b 0 (a.log2+1) ha0 hb0 (by omega) (by omega) (ZEY a) (Nat.le_of_lt (ZHx (by omega))) (by omega);rw[Int.natCast_zero,Nat.zero_add]at q1;have hxl:=Nat.le_trans (Zwv q6) ha;have hyl:=Nat.le_trans (Zwv q7) hb;have hlx:=ZHN hxl;have hly:=ZHN hyl;have main:ZoY big (iL (wd x)) (iL (wd y)) (t:Int)=some (iL (wd (Nat.gcd x y)),(t:Int)):=by
  by_cases hx:x % 2=1
  ·exact ZRS _ big x y _ _ hx (by omega) (by omega) (ZEY x) (ZEY y) (ZHx (by omega))
  ·have hy:y % 2=1:=by omega
   obtain⟨z,z1,z2,z3,z4⟩:=Z0A (iL (wd y)) (t:Int) y hy q4 (by omega);have hzl:=Nat.le_trans (Zwv z3) hxl;have hlz:=ZHN hzl;have e:=ZRS (t:Int) big z y _ _ z2 (by omega) (by omega) (ZEY z) (ZEY y) (ZHx (by omega));grind[big_eq,ZoY,iL,wd,ZtZ,Zu7,ZoL,decide_eq_true,ZSK]
 grind[ZPE,ZuW,Zz2,ZzZ,ZzY,ZXf,ZHx]
end Go.Proofs
namespace Go.Proofs
open Go Eng
theorem ZQC {l:List Nat} {i:Nat} (b:Dg l) (h:i / 32 < l.length):l[i / 32] / 2 ^ (i % 32) % 2=val l / 2 ^ i % 2:=by
 have e:=ZGk h;have a:=ZDo (b.take (i / 32));rw[Z2r,Z2K (by omega)]at a;have g:2 ^ i=Bw ^ (i / 32)*2 ^ (i % 32):=by grind[Z2X,Z2V,Z2z]
 have f:i % 32 < 32:=Z2M _ (by decide);have c:Bw=2 ^ (i % 32)*(2*2 ^ (31 - i % 32)):=by rw[show 2*2 ^ (31 - i % 32)=2 ^ (31 - i % 32+1) by omega,<-Z2V,show i % 32+(31 - i % 32+1)=32 by omega]
 have d:val l / Bw ^ (i / 32)=l[i / 32]+Bw*val (l.drop (i / 32+1)):=by grind[Z2v,Z2A]
 grind[Nat.div_div_eq_div_mul,Z2O,Z2v]
end Go.Proofs
namespace Go.Proofs
open Go Eng
theorem ZSA (i:Nat):Int.tdiv (i:Int) 32=((i / 32:Nat):Int):=by simp_all
theorem ZSz (i:Nat):IntKind.wrap .u64 (Int.tmod (i:Int) 32)=((i % 32:Nat):Int):=by grind[IntKind.wrap_u64]
theorem ZXN {l:List Nat} {i:Nat} (a:Dg l) (h:i / 32 < l.length) (c:i<=1000000000):ZyO (iL l) (i:Int)=some ((val l / 2 ^ i % 2:Nat):Int):=by have b:=a.get h;unfold ZyO;rw[ZSA,ZSz,decide_eq_true (by decide),chk_true,ZiH (by omega),chk_true,ZzH h,Z22,chk_true,decide_eq_true (by omega),chk_true,ZIQ _ (by omega),show (1:Int)=((1:Nat):Int)from rfl,ZL2 (Z2H (Z2B _ _) b) (by decide),Nat.and_one_is_mod,ZQC a h]
end Go.Proofs
namespace Go.Proofs
open Go Eng
theorem ZSG {x j:Nat} (h:x / 2 ^ j % 2=0):x|||2 ^ j=x+2 ^ j:=by
 have a:=Nat.mod_lt x (Nat.two_pow_pos j);have e:x=2 ^ (j+1)*(x / 2 ^ j / 2)+x % 2 ^ j:=by
  grind[Nat.div_add_mod]
 have d:=Nat.two_pow_add_eq_or_of_lt (i:=j+1) (b:=x % 2 ^ j) (by omega) (x / 2 ^ j / 2);have c:=Nat.two_pow_add_eq_or_of_lt (i:=j) (b:=x % 2 ^ j) a 1;grind[Nat.two_pow_add_eq_or_of_lt]
theorem ZTJ {j:Nat} (hj:j<=31):shlK .u32 1 (j:Int)=((2 ^ j:Nat):Int):=by have:=ZNf (a:=1) j (by omega);rw[Nat.one_mul,Z2L (Z2H (Z2W (by decide) hj) (by decide))]at this;omega
theorem ZQk {A k:Nat}:A / 2 ^ k=2*(A / 2 ^ (k+1))+A / 2 ^ k % 2:=by rw[Z2Y,<-Nat.div_div_eq_div_mul];omega
theorem ZQr (a b:Nat) (c:b≠0) (W:(wd a).length<=50000) (J:(wd b).length<=50000):ZuX (iL (wd a)) (iL (wd b))=some (iL (wd (a / b)),iL (wd (a % b))):=by
 have m:∀k,(wd (2*(a / 2 ^ (k+1) % b)+a / 2 ^ k % 2)).length<=50001:=fun k=>by
  have U:=Nat.mod_lt (a / 2 ^ (k+1)) (Nat.pos_of_ne_zero c);have E:2*(a / 2 ^ (k+1) % b)+a / 2 ^ k % 2<=b+b:=by omega
  exact Nat.le_trans (Zwv E) (ZLb J J)
 refine Zo1 ?_;unfold ZuX;rw[ZhS,ZhS,ZhS,Zhr,ZoL,Int.toNat_natCast,ZKM];refine⟨ZHM (by omega),ZiH (by omega),ZiH (by omega), ?_⟩;have B:(32*((wd a).length:Int)) - 1=((32*(wd a).length:Nat):Int) - 1:=by omega
 rw[B,show ([]:List Int)=iL (wd 0) by rw[ZAs];rfl];refine Zjf (ZJm ZGa (32*(wd a).length) (by omega) (fun i (q:Nat×List Nat)=>(iL (wd a),iL (wd b),iL (wd q.1),i,iL q.2))
  (fun k q=>q.1=a / 2 ^ k % b/\Dg q.2/\q.2.length=(wd a).length/\val q.2=a / 2 ^ k / b*2 ^ k)
  (Q:=fun y=>∃o:List Nat,y=(iL (wd (a % b)),iL o)/\Dg o/\o.length=(wd a).length/\val o=a / b) (0,List.replicate (wd a).length 0) ?_ ?_ ?_) ?_
 ·grind[Nat.div_eq_of_lt,Nat.pow_mul,ZDH,Nat.zero_mod,Nat.zero_div,ZQt,ZM8]
 ·rintro D k ⟨r,q⟩ Z ⟨u,s,L,w⟩ T;dsimp only at u s L w;have v:k / 32 < (wd a).length:=by omega
  unfold Zyi Zt0;dsimp only;have f:=ZXN (i:=k) (ZBH a) v (by omega);rw[ZxS]at f;have E:a / 2 ^ k % 2<=1:=by omega
  have F:=ZN7 r (a / 2 ^ k % 2) E (by
   rw[u];exact Nat.le_trans (Zwv (Nat.le_of_lt (Nat.mod_lt _ (Nat.pos_of_ne_zero c)))) (by omega))
  have H:=m k;rw[<-u]at H;have C:=ZQk (A:=a) (k:=k);have I:=Nat.div_add_mod (a / 2 ^ (k+1)) b;rw[<-u]at I;have N:r < b:=by rw[u];exact Nat.mod_lt _ (Nat.pos_of_ne_zero c)
  rw[ZoH];refine⟨fun _=> ?_,fun h=>by grind⟩;rw[f,Zhr,Zfa,F,Zhr,Zfa,ZLX _ _ (by omega) (by omega),Zhr,Zfa,ZoH];have O:∀x g,(x=a / 2 ^ k % b/\Dg g/\g.length=(wd a).length/\val g=a / 2 ^ k / b*2 ^ k)->wp (Zsx (fun a b S i q=>D (a,b,S,i,q)) (iL (wd a)) (iL (wd b)) (iL (wd x)) (k:Int) (iL g)) (fun y=>∃o:List Nat,y=(iL (wd (a % b)),iL o)/\Dg o/\o.length=(wd a).length/\val o=a / b):=fun x g h=>by unfold Zsx;rw[ZhS];exact⟨ZiH (by omega),T (x,g) h⟩
  generalize eX:a / 2 ^ (k+1)=X at*
  generalize ed:a / 2 ^ k % 2=d at*
  refine⟨fun t=> ?_,fun t=> ?_⟩
  ·have G:b<=2*r+d:=by
    grind[ZGC]
   have z:k / 32 < q.length:=by omega
   have K:q[k / 32] / 2 ^ (k % 32) % 2=0:=by rw[ZQC s z,w,Nat.pow_succ,<-Nat.mul_assoc,Nat.mul_right_comm,Nat.mul_div_cancel _ (Nat.two_pow_pos k)];omega
   have e:=s.get z;rw[ZKv _ _ G (by omega),Zhr,Zfa,ZSA,ZSz,Int.toNat_natCast,ZhS,ZhS,ZhS,ZIq z,Zhr,Zfa,ZhS,ZhS,ZhS,ZTJ (by omega),ZMw e (Nat.lt_of_le_of_lt (Nat.pow_le_pow_right (by decide) (show k % 32<=31 by omega)) (by decide)),ZSG K,ZGN,ZoL];refine⟨by decide,ZiH (by omega),Zr4 ⟨by omega,by omega⟩,by decide,decide_eq_true (by omega),Zr4 ⟨by omega,by omega⟩, ?_⟩;have l:q[k / 32]+2 ^ (k % 32) < Bw:=by
    have Y:Bw=2 ^ (k % 32)*(2*2 ^ (31 - k % 32)):=by rw[show 2*2 ^ (31 - k % 32)=2 ^ (31 - k % 32+1) by omega,<-Nat.pow_add,show k % 32+(31 - k % 32+1)=32 by omega]
    rw[<-ZSG K];exact Nat.or_lt_two_pow (n:=32) e (Nat.lt_of_le_of_lt (Nat.pow_le_pow_right (by decide) (show k % 32<=31 by omega)) (by decide))
   refine O (2*r+d - b) (q.set (k / 32) (q[k / 32]+2 ^ (k % 32))) ⟨?_,s.set _ l,by simp_all, ?_⟩
   ·rw[C,show 2*X+d=(2*r+d - b)+b*(2*(X / b)+1) by grind,Nat.add_mul_mod_self_left,Nat.mod_eq_of_lt (by omega)]
   ·have j:=ZGU q (k / 32) (q[k / 32]+2 ^ (k % 32)) z;have R:Bw ^ (k / 32)*2 ^ (k % 32)=2 ^ k:=by rw[show Bw=2 ^ 32 from rfl,<-Nat.pow_mul,<-Nat.pow_add,Nat.div_add_mod]
    rw[Nat.mul_add,R]at j;have P:(2*X+d) / b=2*(X / b)+1:=by rw[show 2*X+d=(2*r+d - b)+b*(2*(X / b)+1) by rw[Nat.mul_add,Nat.mul_left_comm];omega,Nat.add_mul_div_left _ _ (Nat.pos_of_ne_zero c),Nat.div_eq_of_lt (by omega),Nat.zero_add]
    rw[C,P];rw[w,Nat.pow_succ]at j;have V:X / b*(2 ^ k*2)=2*(X / b)*2 ^ k:=by rw[Nat.mul_comm (2 ^ k) 2,<-Nat.mul_assoc,Nat.mul_comm (X / b) 2]
    grind
  ·have p:2*r+d < b:=by
    rcases Nat.lt_or_ge (2*r+d) b with h |h
    ·exact h
    ·rcases Nat.lt_or_ge b (2*r+d)with M |M
     ·rw[ZFM M]at t;exact absurd (of_decide_eq_false t) (by decide)
     ·rw[show 2*r+d=b by omega,ZDP]at t;exact absurd (of_decide_eq_false t) (by decide)
   have B:2*X+d=(2*r+d)+b*(2*(X / b)):=by rw[Nat.mul_left_comm];omega
   refine O (2*r+d) q ⟨?_,s,L, ?_⟩
   ·rw[C,B,Nat.add_mul_mod_self_left,Nat.mod_eq_of_lt p]
   ·rw[C,B,Nat.add_mul_div_left _ _ (Nat.pos_of_ne_zero c),Nat.div_eq_of_lt p,Nat.zero_add,w,Nat.pow_succ,Nat.mul_comm (2 ^ k) 2,<-Nat.mul_assoc,Nat.mul_comm (X / b) 2]
 all_goals grind[Zyi,Zt0,Zfa,Zz3,ZIB]
end Go.Proofs
namespace Go.Proofs
open Go Eng
theorem ZLq (n:Int):Rat.divInt n 1=(n:Rat):=by grind[Rat.num_divInt_den,Rat.num_intCast,Rat.den_intCast]
end Go.Proofs
namespace Go.Proofs
open Go Eng
theorem ZEZ (z:Int) (h1: -9223372036854775808<=z) (h2:z<=9223372036854775807):ZoP z=some (bg z):=by
 have key:∀(b:Bool) (n:Nat),n < 18446744073709551616->ZoV b [IntKind.wrap .u32 (n:Int),IntKind.wrap .u32 (shrK .u64 (n:Int) 32)]=some (bg (if b then -(n:Int)else n)):=fun b n h=>by
  have e:([IntKind.wrap .u32 (n:Int),IntKind.wrap .u32 (shrK .u64 (n:Int) 32)]:List Int)=iL [n % 4294967296,n / 4294967296]:=by rw[show (32:Int)=((32:Nat):Int)from rfl,ZGW 32 (by omega),ZAr,ZBh (by omega)];rfl
  grind[Dg,val,ZIW]
 unfold ZoP ZsX;have h32:decide (0<=(32:Int))=true:=rfl
 by_cases hz:z < 0
 ·have e:IntKind.wrap .u64 (0 - IntKind.wrap .u64 z)=((z.natAbs:Nat):Int):=by grind[IntKind.wrap_u64]
  grind[chk_true]
 ·have e:IntKind.wrap .u64 z=((z.natAbs:Nat):Int):=by grind[IntKind.wrap_u64]
  grind[chk_true]
theorem ZUH:bg 0=⟨false,[]⟩:=by unfold bg;rw[show (0:Int).natAbs=0 from rfl,ZAs];rfl
theorem ZIE (x y:Int) (hy:y≠0) (hx1:Wl 50000 x) (hy1:Wl 50000 y):ZqM (bg x) (bg y)=some (fOf (Rat.divInt x y)):=by
 unfold ZqM
 by_cases hx:x=0
 ·subst hx;rw[Rat.zero_divInt,ZqH,ZoL,show (0:Int).natAbs=0 from rfl,ZAs,ZEZ 1 (by decide) (by decide)];show some (ZbF.mk ⟨false,[]⟩ (bg 1))=some (fOf 0);rw[<-ZUH];rfl
 ·have hx0:0 < x.natAbs:=by omega
  have hy0:0 < y.natAbs:=by omega
  have hg0:Nat.gcd x.natAbs y.natAbs≠0:=fun e=>by simp_all
  have hgl:=ZPE (x:=x.natAbs) hy0 hy1;have hxl:=ZN5 (Nat.gcd x.natAbs y.natAbs) hx1;have hyl:=ZN5 (Nat.gcd x.natAbs y.natAbs) hy1;have h:=ZHo x y hy hx1 hy1;unfold Zse at h;rw[ZqH,ZqH,ZKT _ _ hx1 hy1,Option.bind_some,ZJF _ _ hg0 hx1 hgl,Option.bind_some]at h;dsimp only at h;rw[ZJF _ _ hg0 hy1 hgl,Option.bind_some]at h;dsimp only at h;rw[ZBj _ _ (by omega),Option.bind_some,ZBj _ _ (by omega),Option.bind_some]at h;have hlen:=Zu7 (n:=x.natAbs) (by omega);rw[<-h,ZqH,ZqH,ZoL,beq_eq_false_iff_ne.2 (by omega),cond_false,ZQp _ _ (by omega) (by omega) hx1 hy1,Option.bind_some,ZQr _ _ hg0 hx1 hgl,Option.bind_some];grind[ZQr,ZIW,ZBH,ZxS]
theorem ZRN (x y:Int) (c:y≠0) (a:Wl 256 x) (b:Wl 256 y):Zxw (bg x) (bg y)=some (fOf (Rat.divInt x y),0):=by grind[Zxw,ZuF,ZGT,ZHC,ZHt,ZIE]
theorem ZXa (x y:Int) (e:y≠0) (b: -9223372036854775808<=x) (a:x<=9223372036854775807) (d: -9223372036854775808<=y) (c:y<=9223372036854775807):Zv5 x y=some (fOf (Rat.divInt x y),0):=by grind[Zv5,ZEZ,ZRN,wl64]
theorem ZKD (x y:Int) (e:y≠0) (b: -9223372036854775808<=x) (a:x<=9223372036854775807) (d: -9223372036854775808<=y) (c:y<=9223372036854775807):ZqK x y=some (fOf (Rat.divInt x y)):=by grind[ZqK,ZDG,ZAZ,ZXa]
theorem ZJi (x:Int) (b: -9223372036854775808<=x) (a:x<=9223372036854775807):Zo6 x=some (fOf (x:Rat)):=by grind[Zo6,ZDG,ZBO,ZKD,ZLq]
theorem ZWC {a b:Nat} (h:wd a=wd b):a=b:=by grind[ZxS]
theorem ZLh (x y:Int) (e:Wl 100000 x) (f:Wl 100000 y):ZrW (bg x) (bg y)=some (decide (x=y)):=by
 unfold Wl at e f;refine Zo1 ?_;unfold ZrW ZsT;rw[ZFv,ZFv,ZqH,ZqH,ZoL,ZoL]
 by_cases hs:decide (x < 0)=decide (y < 0)
 ·rw[hs,beq_self_eq_true,Bool.not_true,cond_false]
  by_cases hl:(wd x.natAbs).length=(wd y.natAbs).length
  ·rw[hl,bne_self_eq_false,cond_false,Zhr];refine Zjf (Ztf ZEE (wd y.natAbs).length (by omega) (fun i (_:Unit)=>(iL (wd x.natAbs),((wd y.natAbs).length:Int),i,bg y)) (fun i _=>(wd x.natAbs).take i=(wd y.natAbs).take i)
    (Q:=fun r=>r= .ret false/\wd x.natAbs≠wd y.natAbs\/r= .brk ()/\wd x.natAbs=wd y.natAbs) () (by simp_all) ?_ ?_) ?_
   ·rintro b i ⟨⟩ c j d;have a:i < (wd x.natAbs).length:=by omega
    unfold Zvc ZrC;dsimp only;rw[ZoH];refine⟨fun _=> ?_,fun h=>by simp_all⟩;rw[ZqH,ZzH a,Zhr,Zfa,ZzH c,Zhr,Zfa,ZoH];refine⟨fun h=> ?_,fun h=> ?_⟩
    ·grind[Zfa]
    ·rw[ZhS];refine⟨ZiH (by omega),d () ?_⟩;rw[bne_eq_false_iff_eq]at h;have g:(wd y.natAbs)[i]=(wd x.natAbs)[i]:=by omega
     grind[List.take_succ_eq_append_getElem]
   all_goals grind[Zvc,ZrC,Zfa,ZwJ,ZWC]
  grind[Zfa]
 grind[Zfa]
theorem ZE7 (p q:Rat) (b:Wq 256 p) (a:Wq 256 q):Zpd (fOf p) (fOf q)=some (decide (p=q)):=by
 have m:∀{x:Int},Wl 256 x->Wl 100000 x:=fun h=>Z2G h (by decide)
 unfold Zpd Zuy fOf;dsimp only;rw[ZLh _ _ (m b.1) (m a.1),Z22];grind[ZLh,Rat.ext,decide_eq_false]
end Go.Proofs
namespace Go.Proofs
open Go Eng
theorem ZUe (a b:Nat) (L:(wd a).length<=100000) (H:(wd b).length<=100000):ZyN (iL (wd a)) (iL (wd b))=some (iL (wd (a*b))):=by
 refine Zo1 ?_;unfold ZyN;rw[ZoL,ZoL,ZhS,ZhS,Zhr,<-Int.natCast_add,Int.toNat_natCast,ZKM];refine⟨ZiH (by omega),ZHM (by omega), ?_⟩;generalize hm:(wd a).length=m at L|-
 generalize hn:(wd b).length=n at H|-
 refine Zjf (Ztf ZF9 m (by omega) (fun i (s:List Nat)=>(iL (wd a),iL (wd b),i,iL s)) (fun i s=>s.length=m+n/\Dg s/\val s=val ((wd a).take i)*b/\∀k,i+n<=k->k < m+n->s[k]? =some 0)
  (Q:=fun y=>∃(o:List Nat),y=iL o/\Dg o/\o.length=m+n/\val o=a*b) (List.replicate (m+n) 0) ⟨by simp,ZQt _,by grind[ZM8,val],fun k _ h=>by simp_all⟩ ?_ ?_) ?_
 ·rintro F i s J ⟨K,P,G,I⟩ N;have C:i < (wd a).length:=by omega
  have A:=(ZBH a).get C;unfold Zyf ZtW;dsimp only;rw[ZoH,ZoL,hm];refine⟨fun _=> ?_,fun h=>by simp_all⟩;rw[Zhr];generalize ex:(wd a)[i]=x at A;refine Zjf (Ztf ZF8 n (by omega) (fun j (t:Nat×List Nat)=>(iL (wd a),iL (wd b),(i:Int),(t.1:Int),j,iL t.2)) (fun j t=>t.1 < Bw/\t.2.length=m+n/\Dg t.2/\val t.2+Bw ^ (i+j)*t.1=val s+Bw ^ i*(x*val ((wd b).take j))/\∀k,i+n<=k->k < m+n->t.2[k]? =some 0)
   (Q:=fun y=>∃(c:Nat) (o:List Nat),y=(iL (wd a),iL (wd b),(i:Int),(c:Int),iL o)/\c < Bw/\o.length=m+n/\Dg o/\val o+Bw ^ (i+n)*c=val s+Bw ^ i*(x*b)/\∀k,i+n<=k->k < m+n->o[k]? =some 0) (0,s) ⟨by omega,K,P,by simp[val],I⟩ ?_ ?_) ?_
  ·rintro w j ⟨c,o⟩ R ⟨p,l,d,f,g⟩ v;dsimp only at p l d f g v;have q:j < (wd b).length:=by omega
   have z:=(ZBH b).get q;have u:i+j < o.length:=by omega
   have B:=d.get u;unfold Zye ZtV;dsimp only;rw[ZoH,ZoL,hn];refine⟨fun _=> ?_,fun h=>by grind⟩;rw[ZzH C,ex,Zhr,Zfa,ZzH q,Zhr,Zfa,ZhS,ZhS,<-Int.natCast_add,Int.toNat_natCast,ZIq u,Zhr,Zfa,ZhS,ZhS,ZhS,ZhS];generalize ey:(wd b)[j]=y at z;generalize ee:o[i+j]=e at B;rw[ZXd p A z B,ZAr,show (32:Int)=((32:Nat):Int)from rfl,ZGW 32 (by omega),ZoL,ZGN];refine⟨ZiH (by omega),Zr4 ⟨by omega,by omega⟩,ZiH (by omega),Zr4 ⟨by omega,by omega⟩,by decide,ZiH (by omega), ?_⟩;refine v ((c+x*y+e) / Bw,o.set (i+j) ((c+x*y+e) % Bw)) ⟨ZSJ p A z B,by grind,d.set _ (Nat.mod_lt _ (by decide)), ?_,fun k M r=> ?_⟩
   ·dsimp only;grind[ZGU,Nat.mod_add_div,Nat.mul_assoc,Zpk,Nat.pow_add,Nat.mul_left_comm]
   grind
  ·rintro w ⟨c,o⟩ ⟨p,l,d,f,g⟩;dsimp only at p l d f g;unfold Zye ZtV;dsimp only;rw[ZoH,ZoL,hn];refine⟨fun h=>by have:=of_decide_eq_true h;omega,fun _=> ?_⟩;rw[Zfa];rw[List.take_of_length_le (by omega),ZxS]at f;exact⟨c,o,rfl,p,l,d,f,g⟩
  ·rintro y ⟨c,o,rfl,p,l,d,f,g⟩;dsimp only;unfold ZzX;rw[ZoL,hn,ZhS,ZhS,ZhS,<-Int.natCast_add,Int.toNat_natCast,ZBh p,ZGN,ZoL];refine⟨ZiH (by omega),Zr4 ⟨by omega,by omega⟩,ZiH (by omega), ?_⟩;have E:i+n < o.length:=by omega
   have O:o[i+n]=0:=by have:=g (i+n) (Nat.le_refl _) (by omega);rw[List.getElem?_eq_getElem E]at this;exact Option.some.inj this
   have D:=ZGU o (i+n) c E;rw[O,Nat.mul_zero,Nat.add_zero]at D;refine N (o.set (i+n) c) ⟨by simp[l],d.set _ p, ?_,fun k M r=> ?_⟩
   ·rw[D,f,G,Zpk C,ex,Nat.add_mul,Nat.mul_assoc]
   ·rw[List.getElem?_set_ne (by omega)];exact g k (by omega) r
 all_goals grind[Zyf,ZtW,ZoL,Zfa,ZxS,ZzW,ZIB]
theorem ZUM (a b:Nat) (ha:(wd a).length<=100000) (hb:(wd b).length<=100000):∃o:List Nat,ZuY (iL (wd a)) (iL (wd b))=some (iL o)/\Dg o/\o.length<=100001/\val o=a+b:=by
 obtain⟨m,hma,hmb,hm2,hmx⟩:∃m:Nat,(wd a).length<=m/\(wd b).length<=m/\m<=100000/\∀i,i < m->i < (wd a).length\/i < (wd b).length:=by
  by_cases h:(wd a).length<=(wd b).length
  ·exact⟨(wd b).length,h,Nat.le_refl _,hb,fun i hi=> .inr hi⟩
  ·exact⟨(wd a).length,Nat.le_refl _,by omega,ha,fun i hi=> .inl hi⟩
 suffices h:wp (ZuY (iL (wd a)) (iL (wd b))) (fun x=>∃o:List Nat,x=iL o/\Dg o/\o.length<=100001/\val o=a+b) by obtain⟨x,hx,o,rfl,h⟩:=h;grind
 unfold ZuY;rw[Zhr];refine Zjf (Ztf ZGc m (by omega) (fun i (s:Nat×List Nat)=>(iL (wd a),iL (wd b),(s.1:Int),i,iL s.2)) (fun i s=>s.1<=1/\s.2.length=i/\Dg s.2/\val s.2+Bw ^ i*s.1=val ((wd a).take i)+val ((wd b).take i))
  (Q:=fun y=>∃(c:Nat) (o:List Nat),y=((c:Int),iL o)/\c<=1/\Dg o/\o.length=m/\val o+Bw ^ m*c=a+b) (0,[]) ⟨by simp,rfl,ZIt,by simp[val]⟩ ?_ ?_) ?_
 ·rintro rec i ⟨c,o⟩ hlt ⟨hc,hl,hd,hv⟩ ih;dsimp only at hc hl hd hv ih;have h1:=ZIU (ZBH a) i;have h2:=ZIU (ZBH b) i;have j3:∀x y:Nat,(wd a).getD i 0=x->(wd b).getD i 0=y->wp (Zsy (fun a b c i out=>rec (a,b,c,i,out)) (iL (wd a)) (iL (wd b)) ((c+x+y:Nat):Int) (i:Int) (iL o)) (fun y=>∃(c:Nat) (o:List Nat),y=((c:Int),iL o)/\c<=1/\Dg o/\o.length=m/\val o+Bw ^ m*c=a+b):=fun x y ex ey=>by
   rw[ex]at h1;rw[ey]at h2;unfold Zsy;rw[ZhS,ZhS,ZhS,ZAr,show (32:Int)=((32:Nat):Int)from rfl,ZGW 32 (by omega),ZoL];refine⟨ZpO (by grind),by decide,ZiH (by omega), ?_⟩;have:=ih ((c+x+y) / Bw,o++[(c+x+y) % Bw]) ⟨by grind,by grind,hd.app (ZHs (Nat.mod_lt _ (by decide))), ?_⟩
   ·rw[ZKN]at this;exact this
   grind[ZBZ,ZFX,Nat.mod_add_div]
  have j2:∀x:Nat,(wd a).getD i 0=x->wp (Zsz (fun a b c i out=>rec (a,b,c,i,out)) (iL (wd a)) (iL (wd b)) ((c+x:Nat):Int) (i:Int) (iL o)) (fun y=>∃(c:Nat) (o:List Nat),y=((c:Int),iL o)/\c<=1/\Dg o/\o.length=m/\val o+Bw ^ m*c=a+b):=fun x ex=>by
   have hx:=h1;rw[ex]at hx;unfold Zsz;rw[ZoL,ZoH];refine⟨fun h=> ?_,fun h=> ?_⟩
   ·have hib:i < (wd b).length:=by simp_all
    have ey:(wd b).getD i 0=(wd b)[i]:=by simp_all
    have hy:=(ZBH b).get hib;rw[ZzH hib,Zhr,Zfa,Zpj (by grind),<-Int.natCast_add,Zpj (by grind)];simp_all
   simp_all
  have j1:wp (ZqP (fun a b c i out=>rec (a,b,c,i,out)) (iL (wd a)) (iL (wd b)) (c:Int) (i:Int) true (iL o)) (fun y=>∃(c:Nat) (o:List Nat),y=((c:Int),iL o)/\c<=1/\Dg o/\o.length=m/\val o+Bw ^ m*c=a+b):=by
   unfold ZqP;rw[cond_true,ZoL,ZoH];refine⟨fun h=> ?_,fun h=> ?_⟩
   ·have hib:i < (wd a).length:=by have:=of_decide_eq_true h;omega
    have ey:(wd a).getD i 0=(wd a)[i]:=by rw[List.getD_eq_getElem?_getD,List.getElem?_eq_getElem hib];rfl
    have hy:=(ZBH a).get hib;rw[ZzH hib,Zhr,Zfa,Zpj (by simp only[Bw]at hy;omega),<-Int.natCast_add,Zpj (by simp only[Bw]at hy;omega)];simp_all
   simp_all
  grind[Zyk,Zt2,ZoL]
 ·rintro rec ⟨c,o⟩ ⟨hc,hl,hd,hv⟩;dsimp only at hc hl hd hv;unfold Zyk Zt2;dsimp only;rw[ZoL,ZoL,decide_eq_false (by omega),cond_false,decide_eq_false (by omega)];unfold ZqP;rw[cond_false,Zfa];rw[List.take_of_length_le hma,List.take_of_length_le hmb,ZxS,ZxS]at hv;exact⟨c,o,rfl,hc,hd,hl,hv⟩
 ·rintro y ⟨c,o,rfl,hc,hd,hl,hv⟩;dsimp only;unfold Zz5;have e:iL o++[(c:Int)]=iL (o++[c]):=by rw[ZKN];rfl
  rw[ZBh (by omega),ZhS,ZoL,e,Zfa];exact⟨ZpO (by simp only[List.length_singleton];omega),_,rfl,hd.app (ZHs (by unfold Bw;omega)),by simp;omega,by rw[ZBZ,hl,hv]⟩
end Go.Proofs
namespace Go.Proofs
open Go Eng
theorem ZBi (x y:Int) (hx:Wl 50000 x) (hy:Wl 50000 y):Zjm (bg x) (bg y)=some (bg (x*y)):=by unfold Zjm;have:=ZI3 hx hy;rw[ZqH,ZqH,ZUe _ _ (by omega) (by omega),Z22,ZIW _ (ZBH _) (by omega),ZxS,Z22,ZQE]
theorem ZKk (x y:Int) (hx:Wl 50000 x) (hy:Wl 50000 y):Zpm (bg x) (bg y)=some (bg (x+y)):=by
 unfold Wl at hx hy;unfold Zpm;have h1:=ZLb hx hy;rw[ZqH,ZqH,ZFv,ZFv];have opp:decide (x < 0)≠decide (y < 0)->Zpy (iL (wd x.natAbs)) (iL (wd y.natAbs))=some (ZLl x.natAbs y.natAbs):=fun _=>ZLX _ _ (by omega) (by omega)
 by_cases hs:decide (x < 0)=decide (y < 0)
 ·obtain⟨o,ho,hd,hl,hv⟩:=ZUM x.natAbs y.natAbs (by omega) (by omega);grind[ZIW]
 ·rw[beq_eq_false_iff_ne.2 hs,cond_false,opp hs,Option.bind_some];rcases Nat.lt_or_ge x.natAbs y.natAbs with hlt |hge
  ·have:=Zwv (Nat.sub_le y.natAbs x.natAbs);rw[ZGC hlt,decide_eq_false (by omega),cond_false,ZKv _ _ (by omega) (by omega),Option.bind_some,ZIW _ (ZBH _) (by omega),ZxS,Option.bind_some];grind
  ·have hn:ZLl x.natAbs y.natAbs>=0:=by
    grind[ZFM,ZDP]
   have:=Zwv (Nat.sub_le x.natAbs y.natAbs);grind[ZKv,ZIW,ZBH,ZxS]
theorem ZKI (z:Int) (hz:Wl 100000 z):Zqc (bg z)=some (bg (-z)):=by
 grind[Zqc,ZFv,ZqH,ZIW,ZBH,ZxS]
theorem ZE6 (q:Rat) (h:Wq 256 q):ZoR (fOf q)=some true:=by
 have c:=h.1;have b:=h.2;have a:=q.den_nz;unfold ZoR Zp9 fOf;dsimp only;rw[ZGT,ZHC _ h.1,Z22,ZW1,cond_false,ZGT,ZHC _ h.2,Z22,ZW1,cond_false,ZFv,decide_eq_false (by omega),cond_false,ZHt (by omega),cond_false,ZqH,ZqH,ZoL];unfold Wl at c b;have e:(wd 1).length<=1:=ZE5 (by decide);have d:Z2D q.num.natAbs (q.den:Int).natAbs=1:=q.reduced
 by_cases h0:q.num=0
 all_goals grind[ZAs,ZMx,ZLX,ZDP,Zu7,ZQp]
theorem ZJD (x y:Int) (f:y≠0) (b:Wl 50000 x) (a:Wl 50000 y) (c:Wq 256 (Rat.divInt x y)):ZqL (bg x) (bg y)=some (fOf (Rat.divInt x y),0):=by have e:=c.1;have d:=c.2;unfold Wl at e d;unfold ZqL Ztv;rw[ZIE x y f b a,Z22];unfold fOf;rw[ZqH,ZqH,ZoL,ZoL,decide_eq_false (by omega),cond_false,decide_eq_false (by omega),cond_false]
theorem ZUN {a b:Rat} {k l:Nat} (f:Sz k a) (g:Sz l b) (s:k+l+1<=8192):ZyR (fOf a) (fOf b)=some (fOf (a+b),0):=by
 have C:=a.den_nz;have B:=b.den_nz;have d:=f.wq (by omega);have c:=g.wq (by omega);have w:∀{x y:Int},Wl 256 x->Wl 256 y->Wl 512 (x*y):=fun z A=>by unfold Wl;rw[Z2j];exact ZI3 z A
 have m:∀{n:Nat} {x:Int},Wl n x->n<=50000->Wl 50000 x:=fun h o=>Z2G h o
 have j:=w d.1 c.2;have i:=w c.1 d.2;have v:=w d.2 c.2;have p:Wl 513 (a.num*(b.den:Int)+b.num*(a.den:Int)):=Z2G (Zwv (Int.natAbs_add_le _ _)) (ZLb j i);have r:(a.den:Int)*(b.den:Int)≠0:=Z2i (by omega) (by omega);unfold ZyR ZvP;rw[ZE6 a d,Z22,ZW1,cond_false,ZE6 b c,Z22,ZW1,cond_false];show ((Zjm (bg a.num) (bg (b.den:Int))).bind fun q=>(Zjm (bg b.num) (bg (a.den:Int))).bind fun e=>(Zpm q e).bind fun u=>(Zjm (bg (a.den:Int)) (bg (b.den:Int))).bind _)=_;rw[ZBi _ _ (m d.1 (by omega)) (m c.2 (by omega)),Z22,ZBi _ _ (m c.1 (by omega)) (m d.2 (by omega)),Z22,ZKk _ _ (m j (by omega)) (m i (by omega)),Z22,ZBi _ _ (m d.2 (by omega)) (m c.2 (by omega)),Z22];have t:Wq 256 (Rat.divInt (a.num*(b.den:Int)+b.num*(a.den:Int)) ((a.den:Int)*(b.den:Int))):=by rw[ZHy];exact(f.add g).wq s
 rw[ZJD _ _ r (m p (by omega)) (m v (by omega)) t,ZHy,Z22]
theorem ZJp {a b:Rat} {k l:Nat} (e:Sz k a) (d:Sz l b) (c:k+l+1<=8192):ZpY (fOf a) (fOf b)=some (fOf (a+b)):=by unfold ZpY;rw[ZUN e d c];rfl
theorem ZQy {a b:Rat} (c:Wq 256 a) (d:Wq 256 b):ZuZ (fOf a) (fOf b)=some (ZK5 a b):=by
 have w:∀{x y:Int},Wl 256 x->Wl 256 y->Wl 50000 (x*y):=fun i l=>by unfold Wl;rw[Int.natAbs_mul];exact Nat.le_trans (ZI3 i l) (by decide)
 have m:∀{x:Int},Wl 256 x->Wl 50000 x:=fun h=>Nat.le_trans h (by decide)
 unfold ZuZ ZvO;rw[ZE6 a c,Option.bind_some,Bool.not_true,cond_false,ZE6 b d,Option.bind_some,Bool.not_true,cond_false];show ((Zjm (bg a.num) (bg (b.den:Int))).bind fun q=>(Zjm (bg b.num) (bg (a.den:Int))).bind _)=_;rw[ZBi _ _ (m c.1) (m d.2),Option.bind_some,ZBi _ _ (m d.1) (m c.2),Option.bind_some,ZKI _ (Nat.le_trans (w d.1 c.2) (by decide)),Option.bind_some];have j:Wl 50000 (-(b.num*(a.den:Int))):=by grind[Int.natAbs_neg]
 rw[ZKk _ _ (w c.1 d.2) j,Option.bind_some,ZFv,ZqH,ZoL];unfold ZK5;have g:=ZKl a b;have f:=ZKl b a;generalize a.num*(b.den:Int)=x at*
 generalize b.num*(a.den:Int)=y at*
 by_cases hl:a < b
 ·have e:=g.1 hl;have:=Zu7 (n:=(x+ -y).natAbs) (by omega);rw[if_pos hl,beq_eq_false_iff_ne.2 (by omega),cond_false,decide_eq_true (by omega),cond_true]
 ·have o:¬x < y:=fun h=>hl (g.2 h)
  rw[if_neg hl]
  by_cases hg:b < a
  ·have e:=f.1 hg;have:=Zu7 (n:=(x+ -y).natAbs) (by omega);rw[if_pos hg,beq_eq_false_iff_ne.2 (by omega),cond_false,decide_eq_false (by omega),cond_false]
  ·have k:¬y < x:=fun h=>hg (f.2 h)
   rw[if_neg hg,show x+ -y=0 by omega,show (0:Int).natAbs=0 from rfl,ZAs];rfl
theorem ZIn {a b:Rat} (d:Wq 256 a) (c:Wq 256 b):ZpF (fOf a) (fOf b)=some (decide (a < b)):=by
 grind[ZpF,ZQy,ZK5,decide_eq_false]
theorem ZEa:Zlj=some (fOf 0):=by unfold Zlj;rw[ZJi 0 (by decide) (by decide),Z22];rfl
end Go.Proofs
