/- Plain laws over the specs, part 1. -/
import Derived.Test.YteopakpakelkoaaGreatDoorUpM0
set_option linter.all false
open Bool renaming not_true->ZVx
open Int renaming toNat_natCast->Z0w, natAbs_mul->Z0u, mul_ne_zero->Z0t, natCast_add->Z0v
open List renaming take_of_length_le->Z0F, replicate->Z0D, length_take->Z0C, getD_eq_getElem?_getD->Z0x, getElem?_eq_getElem->Z0y, length_append->Z0A, set_append_right->Z0E, getElem_cons_drop->Z0z, length_replicate->Z0B
open Nat renaming gcd->Z0O, le_trans->Z0R, mod_lt->Z0X, mul_assoc->Z0Z, pow_add->Z06, pow_succ->Z09, mul_zero->Z04, two_pow_pos->Z1b, mul_comm->Z00, add_zero->Z0J, le_of_lt->Z0P, pow_le_pow_right->Z07, mul_le_mul_left->Z01, le_refl->Z0Q, div_add_mod->Z0K, mod_eq_of_lt->Z0W, mul_add->Z0Y, lt_of_le_of_lt->Z0S, div_le_self->Z0M, lt_or_ge->Z0U, min_eq_left->Z0V, zero_add->Z1c, div_eq_of_lt->Z0L, eq_zero_or_pos->Z0N, pow_mul->Z08, lt_of_lt_of_le->Z0T, mul_left_comm->Z02, pos_of_ne_zero->Z05, add_mul_div_left->Z0G, add_mul_div_right->Z0H, add_mul_mod_self_left->Z0I, mul_lt_mul_of_lt_of_le->Z03, two_pow_add_eq_or_of_lt->Z1a
open Option renaming bind_some->Z1d
namespace Go.Proofs
open Go Eng
theorem ZNy (l:List Nat) (h:l.length<=1000000):Zqi (iL l)=some (iL l):=by
 cases l with
 |nil=>
 have a:ZkC [] true=some []:=rfl;have b:ZkC [] false=some []:=by kernel_rfl
 show agree (ZkC [] true) (ZkC [] false)=some [];grind[ZIW]
 |cons x l=>
 show ZkC (iL (x::l)) false=_;grind[ZkC,ZpN,ZoN,chk_true]
theorem ZI0 {l:List Nat} {k:Nat} (h:val l < Bw ^ k):val (l.take k)=val l:=by
 rcases Nat.lt_or_ge k l.length with b |b
 ·have e:val l=val (l.take k++l.drop k):=by rw[List.take_append_drop]
  rw[ZGk,List.length_take,Nat.min_eq_left (by omega)]at e;rcases Nat.eq_zero_or_pos (val (l.drop k))with a |a
  ·simp_all
  ·have:=Nat.mul_le_mul_left (Bw ^ k) a;omega
 grind[List.take_of_length_le]
theorem ZYC (u:List Nat) (k:Nat) (l:k<=u.length) (d:k<=1000000):∃a,a<=k/\val (u.take a)=val (u.take k)/\ZyL (iL u) 0 k=some (0,a,iL u):=by
 have h:wp (Zz4 (iL u) 0 k) (fun y=>∃a,a<=k/\val (u.take a)=val (u.take k)/\y=(0,a,iL u)):=by
  unfold Zz4 ZAG;rw[ZhS];refine Zjf (ZxI ZF5 (fun(j:Nat)=>(0,j,iL u)) (fun j=>j<=k/\val (u.take j)=val (u.take k)) (fun j=>j) (Q:=fun y=>∃a,a<=k/\val (u.take a)=val (u.take k)/\y=(0,a,iL u)) k ⟨Nat.le_refl _,rfl⟩ (by omega) ?_) (fun y c=>Zfa.2 c);rintro e j ⟨o,i⟩ m;unfold ZDh ZzX Zxw;dsimp only;cases j with
  |zero=>grind[Zfa]
  |succ j=>
   have b:j < u.length:=by omega
   have f:((j+1:Nat):Int) - 1=(j:Int):=by omega
   rw[Zoy];refine⟨fun _=> ?_,fun h=>by simp_all⟩;rw[f,Int.toNat_natCast,Nat.zero_add,Zhr,Zhr,ZHD b,ZhS,Zfa,Zoy];grind[ZiH,Zs1,Zhr,Zpj,Zpk,Zfa]
 obtain⟨y,c,a,g,n,rfl⟩:=h;simp_all[ZyL]
theorem ZOF {x y s:Nat} (l:s<=31) (k:x < Bw) (i:y < Bw):((y*4294967296+x) / 2 ^ s % 4294967296)*2 ^ s+x % 2 ^ s=x+Bw*(y % 2 ^ s):=by
 have e:(4294967296:Nat)=2 ^ (32 - s)*2 ^ s:=by rw[<-Nat.pow_add,show 32 - s+s=32 by omega]
 have c:=Nat.two_pow_pos s;have h:=Nat.div_add_mod x (2 ^ s);have j:=Nat.div_add_mod y (2 ^ s);have g:x / 2 ^ s < 2 ^ (32 - s):=(Nat.div_lt_iff_lt_mul c).2 (by simp_all);have a:=Nat.mod_lt y c;have f:(y*4294967296+x) / 2 ^ s=y*2 ^ (32 - s)+x / 2 ^ s:=by rw[e,<-Nat.mul_assoc,Nat.add_comm,Nat.add_mul_div_right _ _ c,Nat.add_comm]
 have d:y*2 ^ (32 - s)+x / 2 ^ s=(y % 2 ^ s)*2 ^ (32 - s)+x / 2 ^ s+4294967296*(y / 2 ^ s):=by
  grind
 have b:(y % 2 ^ s)*2 ^ (32 - s)+x / 2 ^ s < 4294967296:=by have:=Nat.mul_le_mul_right (2 ^ (32 - s)) (show y % 2 ^ s+1<=2 ^ s from a);grind
 rw[f,d,Nat.add_mul_mod_self_left,Nat.mod_eq_of_lt b,Nat.add_mul,Nat.mul_assoc,<-e,Nat.mul_comm (x / 2 ^ s),Nat.mul_comm (y % 2 ^ s)];grind
theorem ZVf {u:List Nat} {k s R:Nat} (q:List Int) (hs:s<=31) (hd:Dg u) (hk:k<=u.length) (hk2:k<=1000000) (hv:val (u.take k)=R*2 ^ s):
  wp (Zte big (s:Int) 0 k ((k:Nat):Int) (0:Int) q (iL u)) (fun y=>∃(o:List Nat),y=(0,k,q,iL (o++u.drop k))/\o.length=k/\Dg o/\val o=R):=by
 refine Zti ZFU k (by omega) (fun i (o:List Nat)=>((s:Int),0,k,(k:Int),i,q,iL (o++u.drop o.length))) (fun i o=>o.length=i/\Dg o/\val o*2 ^ s+(if 0 < k then u.getD 0 0 else 0) % 2 ^ s=val (u.take i)+Bw ^ i*((if i < k then u.getD i 0 else 0) % 2 ^ s)) [] ⟨rfl,ZHG,by simp[val]⟩ ?_ ?_
 ·rintro rec i o hi ⟨hol,hod,hov⟩ ih;have hiu:i < u.length:=by omega
  have h1:=hd.get hiu;unfold Zy7 ZuL;dsimp only;rw[Zoy];refine⟨fun _=> ?_,fun h=>by have:=of_decide_eq_false h;omega⟩;have hlen:(o++u.drop o.length).length=u.length:=by simp;omega
  have gx:(iL (o++u.drop o.length))[i]? =some (u[i]:Int):=by rw[ZHD (by omega)];congr 2;rw[List.getElem_append_right (by omega)];simp[hol]
  obtain⟨y,hy,hyB,hye⟩:∃y:Nat,Zxu (iL (o++u.drop o.length)) 0 k ((i:Int)+1)=some ((y:Int),iL (o++u.drop o.length))/\y < Bw/\y=(if i+1 < k then u.getD (i+1) 0 else 0):=by
   unfold Zxu ZCq
   by_cases hc:i+1 < k
   ·have hiu2:i+1 < u.length:=by omega
    have gy:(iL (o++u.drop o.length))[i+1]? =some (u[i+1]:Int):=by rw[ZHD (by omega)];congr 2;rw[List.getElem_append_right (by omega)];simp[hol]
    refine⟨u[i+1], ?_,hd.get hiu2, ?_⟩
    ·rw[decide_eq_true (by omega),cond_true,Zs1 ⟨by omega,by omega⟩,chk_true,Nat.zero_add,show ((i:Int)+1).toNat=i+1 by omega,gy];simp
    ·rw[if_pos hc,List.getD_eq_getElem?_getD,List.getElem?_eq_getElem hiu2];rfl
   ·refine⟨0, ?_,by decide,by rw[if_neg hc]⟩;rw[decide_eq_false (by omega),cond_false];simp
  rw[hy,Zhr,ZhS,Zfa];dsimp only;rw[Int.toNat_natCast,Nat.zero_add,gx,Zhr,Zhr,ZhS,Zfa,Zhr,Zhr,Zhr,ZLK hyB h1,ZGl s (by omega),Zz7];refine⟨ZiH (by omega),by decide,Zs1 ⟨by omega,by omega⟩,by simp,Zs1 ⟨by omega,by omega⟩,ZiH (by omega), ?_⟩;generalize ez:(y*4294967296+u[i]) / 2 ^ s % 4294967296=z;have hz:z < Bw:=by rw[<-ez];exact Nat.mod_lt _ (by decide)
  have es:(iL (o++u.drop o.length)).set i (z:Int)=iL ((o++[z])++u.drop (o++[z]).length):=by rw[ZGc,List.set_append_right _ _ (by omega),hol,Nat.sub_self,<-List.getElem_cons_drop (h:=hiu),List.set_cons_zero];simp[hol]
  rw[es];refine ih (o++[z]) ⟨by simp[hol],hod.app (ZGM hz), ?_⟩;have hd1:=ZOF hs h1 hyB;grind[ZBD,Zpk,Nat.pow_succ,Nat.add_mul,Nat.mul_assoc]
 ·rintro rec o ⟨hol,hod,hov⟩;unfold Zy7 ZuL;dsimp only;rw[Zoy];refine⟨fun h=>by have:=of_decide_eq_true h;omega,fun _=> ?_⟩;rw[Zfa];refine⟨o,by rw[hol],hol,hod, ?_⟩;rw[if_neg (Nat.lt_irrefl _),Nat.zero_mod,Nat.mul_zero,Nat.add_zero,hv]at hov;have hp:=Nat.two_pow_pos s;have:(val o*2 ^ s+(if 0 < k then u.getD 0 0 else 0) % 2 ^ s) / 2 ^ s=R*2 ^ s / 2 ^ s:=by rw[hov]
  rw[Nat.add_comm,Nat.add_mul_div_right _ _ hp,Nat.div_eq_of_lt (Nat.mod_lt _ hp),Nat.mul_div_cancel _ hp]at this;omega
theorem ZN1 {x s:Nat} (a:s<=31) (h:x*2 ^ s < 4294967296):(x+1)*2 ^ s<=4294967296:=by
 have e:(4294967296:Nat)=2 ^ (32 - s)*2 ^ s:=by rw[<-Z06,show 32 - s+s=32 by omega]
 rw[e]at h|-
 exact Nat.mul_le_mul_right _ (Nat.lt_of_mul_lt_mul_right h)
theorem ZQn {d u:List Nat} {m K s U:Nat} (V:d.length=m+2) (G:Dg d) (X:1<=d[m+1]) (hu:u.length=K+m+2) (S:Dg u) (hU:val u=U) (ab:U < Bw ^ K*val d) (hK:K<=100000) (hm:m<=100000):
  wp (Ztf big ((m+2:Nat):Int) (s:Int) (iL d) ((K:Int) - 1) (iL u) (iL (List.replicate K 0))) (fun y=>∃I f:List Nat,y=(((m+2:Nat):Int),(s:Int),iL I,iL f)/\I.length=K+m+2/\Dg I/\f.length=K/\Dg f/\val I+val f*val d=U/\val I < val d):=by
 rw[show iL (List.replicate K 0)=iL (List.replicate (K - ([]:List Nat).length) 0++[]) by simp];have p:=ZCS G;rw[V]at p;refine ZIA ZFV K (by omega) (fun i (t:List Nat×List Nat)=>(((m+2:Nat):Int),(s:Int),iL d,i,iL t.1,iL (List.replicate (K - t.2.length) 0++t.2))) (fun k t=>t.1.length=K+m+2/\Dg t.1/\t.2.length+k=K/\Dg t.2/\val t.1+Bw ^ k*(val t.2*val d)=U/\val t.1 < Bw ^ k*val d) (u,[]) ⟨hu,S,by simp,ZHG,by grind[val],by simp_all⟩ ?_ ?_
 ·rintro Q k ⟨v,f⟩ hk ⟨g,a,n,j,B,b⟩ W;dsimp only at g a n j B b W;unfold Zy8 ZuM;dsimp only;have z:((v.drop k).take (m+3)).length=m+3:=by grind
  have c:(v.take k).length=k:=by grind
  have o:v=v.take k++((v.drop k).take (m+3)++v.drop (k+(m+3))):=by grind[List.drop_drop,List.take_append_drop]
  have H:val v=val (v.take k)+Bw ^ k*(val ((v.drop k).take (m+3))+Bw ^ (m+3)*val (v.drop (k+(m+3)))):=by
   have:val v=val (v.take k++((v.drop k).take (m+3)++v.drop (k+(m+3)))):=by grind
   rw[this,ZGk,ZGk,c,z]
  have P:=ZCS (a.take k);rw[c]at P;have N:=(a.drop k).take (m+3);have R:=a.drop (k+(m+3));have D:=a;generalize v.take k=pre at*
  generalize (v.drop k).take (m+3)=w at*
  generalize v.drop (k+(m+3))=suf at*
  subst o;have L:val w+Bw ^ (m+3)*val suf < Bw*val d:=by
   have:Bw ^ k*(val w+Bw ^ (m+3)*val suf) < Bw ^ k*(Bw*val d):=by rw[<-Nat.mul_assoc,<-Nat.pow_succ];show _ < Bw ^ (k+1)*val d;omega
   exact Nat.lt_of_mul_lt_mul_left this
  have x:val suf=0:=by
   rcases Nat.eq_zero_or_pos (val suf)with A |A
   ·exact A
   ·exfalso;have h5:=Nat.mul_le_mul_left (Bw ^ (m+3)) A;have T:Bw*val d<=Bw*Bw ^ (m+2):=Nat.mul_le_mul_left _ (Nat.le_of_lt p);rw[Nat.mul_comm Bw (Bw ^ (m+2)),<-Nat.pow_succ]at T;have h7:Bw*val d<=Bw ^ (m+3):=T;omega
  rw[x,Nat.mul_zero,Nat.add_zero]at L H;rw[Zoy];refine⟨fun _=> ?_,fun h=>by have:=of_decide_eq_false h;omega⟩;rw[Zhr,Zhr,Zhr,ZhS,ZoN,g];refine⟨ZiH (by omega),ZiH (by omega),Zpj ⟨by omega,by omega,by omega⟩, ?_⟩;rw[show ((k:Int)+((m+2:Nat):Int)+1).toNat - (k:Int).toNat=m+3 by omega,Int.toNat_natCast];have C:=ZQQ (pre:=pre) (suf:=suf) z V N G hm X L;rw[c]at C;refine Zjf C ?_;rintro y ⟨Y,rfl,F,E,r⟩;dsimp only;have l:0 < val d:=by
   rcases Nat.eq_zero_or_pos (val d)with A |A
   ·rw[A,Nat.mul_zero]at L;omega
   ·exact A
  have hq:val w / val d < Bw:=(Nat.div_lt_iff_lt_mul l).2 L;have M:=Nat.div_add_mod (val w) (val d);have O:=Nat.mod_lt (val w) l;generalize val w / val d=q at*
  have es:(List.replicate (K - f.length) 0++f).set k q=List.replicate (K - (f.length+1)) 0++q::f:=by
   have e:K - f.length=k+1:=by omega
   have Z:K - (f.length+1)=k:=by omega
   rw[e,Z,List.replicate_succ',List.append_assoc,List.set_append_right _ _ (by simp),List.length_replicate,Nat.sub_self];rfl
  rw[Zhr,Zhr,ZGc,es];refine⟨Zs1 ⟨by omega,by rw[ZoN];simp only[List.length_append,List.length_replicate];omega⟩,ZiH (by omega), ?_⟩;have aa:suf.length+(k+(m+3))=K+m+2:=by rw[<-g,List.length_append,List.length_append,c,z];omega
  refine W (pre++(Y++suf),q::f) ⟨?_, ?_,by simp only[List.length_cons];omega,fun y J=> ?_, ?_, ?_⟩
  ·simp only[List.length_append,c,F];omega
  ·refine Dg.app (fun y J=>D y (List.mem_append_left _ J)) (Dg.app E R)
  ·rcases List.mem_cons.1 J with rfl |J
   ·exact hq
   ·exact j y J
  ·dsimp only;rw[ZGk,ZGk,c,x,Nat.mul_zero,Nat.add_zero,r,val,Nat.add_mul,Nat.mul_add];rw[H,<-M,Nat.mul_add,Nat.pow_succ,Nat.mul_assoc]at B;rw[Nat.mul_comm q (val d),Nat.mul_assoc Bw];omega
  ·dsimp only;rw[ZGk,ZGk,c,x,Nat.mul_zero,Nat.add_zero,r];have:=Nat.mul_le_mul_left (Bw ^ k) (show val w % val d+1<=val d from O);rw[Nat.mul_add,Nat.mul_one]at this;omega
 ·rintro Q ⟨v,f⟩ ⟨g,a,n,j,B,b⟩;dsimp only at g a n j B b;unfold Zy8 ZuM;dsimp only;rw[Zoy];refine⟨fun h=>by have:=of_decide_eq_true h;omega,fun _=> ?_⟩;rw[Zfa];rw[Nat.pow_zero,Nat.one_mul]at B b;refine⟨v,f, ?_,g,a,n,j,B,b⟩;rw[show K - f.length=0 by omega];rfl
end Go.Proofs
namespace Go.Proofs
open Go Eng
theorem ZIN (a b:Nat) (hb0:b≠0) (ha:(wd a).length<=50000) (hb:(wd b).length<=50000):Zrr (iL (wd a)) (iL (wd b))=some (iL (wd (a / b)),iL (wd (a % b))):=by
 refine Zo1 ?_;unfold Zrr;rw[ZIT a b (by omega) (by omega),ZhS,Zfa,Zoy];refine⟨fun h=> ?_,fun h=> ?_⟩
 ·grind[Nat.lt_trichotomy,ZDj,ZFg,ZNy,Zfa,Nat.div_eq_of_lt,Nat.mod_eq_of_lt,Zz8,ZVS]
 ·have hab:b<=a:=by
   grind[ZF2]
  have hlb:=Zu4 hb0;rw[ZoN,ZoN,Zoy];refine⟨fun h=> ?_,fun h=> ?_⟩
  ·have h1:(wd b).length=1:=by grind
   have hbB:b < Bw:=by grind[ZC8]
   have eb:idx (iL (wd b)) 0=some (b:Int):=by rw[ZIi hb0,Nat.mod_eq_of_lt hbB];rfl
   rw[eb,ZhS,Zfa,ZQq a b hb0 hbB (by omega),ZhS,Zfa];dsimp only;have hr:a % b < Bw:=Nat.lt_trans (Nat.mod_lt _ (by omega)) hbB;rw[show ([((a % b:Nat):Int)]:List Int)=iL [a % b]from rfl,ZHm (ZGM hr) (by simp),ZhS,Zfa,Zfa];grind[val]
  ·obtain⟨m,hm⟩:∃m,(wd b).length=m+2:=⟨(wd b).length - 2,by
    grind⟩
   have hla:m+2<=(wd a).length:=by
    rcases Nat.lt_or_ge (wd a).length (wd b).length with h1 |h1
    ·have:=ZNs h1;omega
    omega
   have hi:m+1 < (wd b).length:=by omega
   have htop:(wd b)[m+1]≠0:=fun e=>by have h1:=Zpk hi;rw[e,Nat.mul_zero,Nat.add_zero,List.take_of_length_le (by omega),ZxJ]at h1;have h2:=ZCS ((ZBn b).take (m+1));rw[List.length_take,Nat.min_eq_left (by omega)]at h2;have h3:=ZLn hi;omega
   obtain⟨s,hs,hse,hs1,hs2⟩:=ZVJ htop ((ZBn b).get hi);have e1:((m+2:Nat):Int) - 1=((m+1:Nat):Int):=by omega
   rw[hm,e1,Zzt hi,Zhr,ZhS,Zfa,hse,ZhS,Zfa];refine⟨ZiH (by omega), ?_⟩;obtain⟨u,hu,hud,hul,huv⟩:=ZKm (wd a) s hs (by omega) (ZBn a);obtain⟨v,hv,hvd,hvl,hvv⟩:=ZKm (wd b) s hs (by omega) (ZBn b);rw[hu,ZhS,Zfa,hv,ZhS,Zfa,Zhr,Zhr,Zhr,Zhr,Zhr];rw[ZxJ]at huv hvv;have hvlt:val v < Bw ^ (m+2):=by
    have h1:=Zpk hi;rw[List.take_of_length_le (by omega),ZxJ]at h1;have h2:=ZCS ((ZBn b).take (m+1));rw[List.length_take,Nat.min_eq_left (by omega)]at h2;have h3:b+1<=Bw ^ (m+1)*((wd b)[m+1]+1):=by rw[Nat.mul_add,Nat.mul_one];omega
    have h4:=Nat.mul_le_mul_right (2 ^ s) h3;have h5:=Nat.mul_le_mul_left (Bw ^ (m+1)) (ZN1 hs hs2);rw[Nat.mul_assoc]at h4;have h6:=Nat.two_pow_pos s;rw[Nat.add_mul,Nat.one_mul]at h4;rw[hvv,Nat.pow_succ];show _ < Bw ^ (m+1)*4294967296;omega
   obtain⟨K,hK⟩:∃K,(wd a).length=K+m+1:=⟨(wd a).length - m - 1,by omega⟩;have eK:((wd a).length:Int) - ((m+2:Nat):Int)+1=(K:Int):=by omega
   have ed:((iL v).drop 0).take (((m+2:Nat):Int).toNat - 0)=iL (v.take (m+2)):=by rw[List.drop_zero,Int.toNat_natCast,Nat.sub_zero,ZMt]
   have hdv:val (v.take (m+2))=b*2 ^ s:=by rw[ZI0 hvlt,hvv]
   have hdl:(v.take (m+2)).length=m+2:=by rw[List.length_take];omega
   have hdd:=hvd.take (m+2);rw[eK,ed,Int.toNat_natCast,ZJV,ZoN v,ZoN (List.replicate K 0),List.length_replicate];refine⟨Zpj ⟨by omega,by omega,by omega⟩,ZiH (by omega),ZiH (by omega),ZG3 (by omega),ZiH (by omega), ?_⟩;generalize v.take (m+2)=d at*
   have hp:=Nat.two_pow_pos s;have h1:1<=d[m+1]:=by
    rcases Nat.eq_zero_or_pos d[m+1]with hz |hz
    ·exfalso;have h1:=Zpk (l:=d) (k:=m+1) (by omega);rw[hz,Nat.mul_zero,Nat.add_zero,List.take_of_length_le (by omega)]at h1;have h2:=ZCS (hdd.take (m+1));rw[List.length_take,Nat.min_eq_left (by omega)]at h2;rw[hdv]at h1;have h3:=ZLn hi;have:=Nat.le_mul_of_pos_right b hp;omega
    ·exact hz
   have hUlt:a*2 ^ s < Bw ^ K*val d:=by have h2:=ZC8 a;have h3:=Nat.mul_le_mul_left (Bw ^ K) (ZLn hi);rw[<-Nat.pow_add,<-Nat.add_assoc,<-hK]at h3;rw[hdv,<-Nat.mul_assoc];exact Nat.mul_lt_mul_of_pos_right (by omega) hp
   rw[ZhS];refine Zjf (ZQn (s:=s) hdl hdd h1 (by omega) hud huv hUlt (by omega) (by omega)) ?_;rintro y ⟨u',qs,rfl,hu'l,hu'd,hql,hqd,hv',hlt'⟩;dsimp only;have hDpos:0 < val d:=by omega
   have eq1:val qs=a / b:=by rw[<-Nat.mul_div_mul_right a b hp,<-hdv,<-hv',Nat.add_mul_div_right _ _ hDpos,Nat.div_eq_of_lt hlt',Nat.zero_add]
   have eq2:val u'=a % b*2 ^ s:=by rw[<-Nat.mul_mod_mul_right,<-hdv,<-hv',Nat.add_mul_mod_self_right,Nat.mod_eq_of_lt hlt']
   have hDlt:=ZCS hdd;rw[hdl]at hDlt;have hut:val (u'.take (m+2))=val u':=ZI0 (by omega);obtain⟨k',hk',hkv,hke⟩:=ZYC u' (m+2) (by omega) (by omega);unfold ZAn;rw[Int.toNat_natCast,Nat.sub_zero,hke,Zhr,ZhS,Zfa,ZoN];refine⟨Zpj ⟨by omega,by omega,by omega⟩, ?_⟩;dsimp only;rw[ZhS];refine Zjf (ZVf (R:=a % b) (iL qs) hs hu'd (by omega) (by omega) (by rw[hkv,hut,eq2])) ?_;grind[ZAm,ZMt,ZHm,Zfa]
theorem Zwo {a b:Nat} (h:a<=b):(wd a).length<=(wd b).length:=ZEz (Z0S h (ZC8 b))
theorem ZJ0:∀(n a b:Nat),b<=a->a*b < 2 ^ n->(wd a).length<=50000->∀f,n < f->ZpJ f (iL (wd a)) (iL (wd b))=some (iL (wd (Nat.gcd a b)))
 |n,a,b,hba,hn,ha,0,hf=>absurd hf (by omega)
 |n,a,b,hba,hn,ha,f+1,hf=>by
  show ZqX (ZpJ f) _ _=_;unfold ZqX;rw[ZoN]
  by_cases h0:b=0
  ·grind[Zz8]
  ·have i:=Zu4 h0;rw[decide_eq_true (by omega),cond_true,ZIN a b h0 ha (Nat.le_trans (Zwo hba) ha),Option.bind_some];dsimp only;have g:=Nat.mod_lt a (show 0 < b by omega);cases n with
   |zero=>
    have:1*1<=a*b:=Nat.mul_le_mul (by omega) (by omega);omega
   |succ n=>
    have c:=Nat.div_add_mod a b;have d:1<=a / b:=(Nat.le_div_iff_mul_le (by omega)).2 (by omega);have h:=Nat.mul_le_mul_left b d;have e:b*(2*(a % b))<=b*a:=Nat.mul_le_mul_left b (by omega);rw[Nat.mul_left_comm,Nat.mul_comm b a]at e;rw[ZJ0 n b (a % b) (by omega) (by omega) (Nat.le_trans (Zwo hba) ha) f (by omega),Nat.gcd_comm a b,Nat.gcd_rec b a,Nat.gcd_comm]
theorem ZJ1 (a b:Nat) (ha:(wd a).length<=50000) (hb:(wd b).length<=50000):Zuo (iL (wd a)) (iL (wd b))=some (iL (wd (Nat.gcd a b))):=by
 have bnd:∀x y:Nat,x*y < 2 ^ (32*(wd x).length+32*(wd y).length):=fun x y=>by
  have e:∀z,z < 2 ^ (32*(wd z).length):=fun z=>by
   grind[ZC8,Nat.pow_mul]
  simp_all[Nat.mul_lt_mul_of_lt_of_le,Nat.le_of_lt,Nat.two_pow_pos,Nat.pow_add]
 have key:ZpJ big (iL (wd a)) (iL (wd b))=some (iL (wd (Nat.gcd a b))):=by
  obtain⟨k,hk,hk2⟩:∃k,big=k+1/\3200004 < k:=⟨36893488147419103231,by rw[big_eq],by omega⟩;rw[hk];rcases Nat.lt_or_ge a b with h |h
  ·show ZqX (ZpJ k) _ _=_;unfold ZqX;have h0:b≠0:=by omega
   have hl:=Zu4 h0;rw[ZoN,decide_eq_true (by omega),cond_true,ZIN a b h0 ha hb,Option.bind_some];dsimp only;rw[Nat.mod_eq_of_lt h,ZJ0 _ b a (by omega) (bnd b a) hb k (by omega),Nat.gcd_comm]
  ·exact ZJ0 _ a b h (bnd a b) ha (k+1) (by omega)
 grind[Zuo,Zy9]
end Go.Proofs
namespace Go.Proofs
open Go Eng
def bg (z:Int):Zgo:=⟨decide (z < 0),iL (wd z.natAbs)⟩
theorem ZE3 (z:Int):(bg z).Neg=decide (z < 0):=rfl
theorem ZqC (z:Int):(bg z).Words=iL (wd z.natAbs):=rfl
abbrev Wl (n:Nat) (z:Int):Prop:=(wd z.natAbs).length<=n
theorem ZAS (a:Bool) (n:Nat) (h:(wd n).length<=1000000):Zpx a (iL (wd n))=some (bg (if a then -(n:Int)else n)):=by
 unfold Zpx Zz5 bg;have b:ZjC (iL (wd n)).length 4=true:=ZpN (by grind[ZoN]);grind[chk_true,ZoN,Zz8,Zu4]
theorem ZIQ (n:Nat) (h:n < 18446744073709551616):Zwm (n:Int)=some (iL (wd n)):=by
 unfold Zwm;have e:([IntKind.wrap .u32 (n:Int),IntKind.wrap .u32 (shrK .u64 (n:Int) 32)]:List Int)=iL [n % 4294967296,n / 4294967296]:=by rw[show (32:Int)=((32:Nat):Int)from rfl,ZGl 32 (by omega),Zz7,ZAQ (by omega)];rfl
 have a:Dg [n % 4294967296,n / 4294967296]:=fun d a=>by
  grind
 simp_all[ZHm,val,Nat.mod_add_div]
theorem ZS0 {n:Nat} (h:n < 18446744073709551616):(wd n).length<=2:=ZEz (by omega)
theorem ZN4 (z:Int) (a: -9223372036854775808<=z) (b:z<=9223372036854775807):Zzm z=some (bg z):=by
 unfold Zzm
 by_cases hz:z < 0
 ·have e:IntKind.wrap .u64 (0 - IntKind.wrap .u64 z)=((z.natAbs:Nat):Int):=by grind[IntKind.wrap_u64]
  grind[ZIQ,ZAS,ZS0]
 ·have e:IntKind.wrap .u64 z=((z.natAbs:Nat):Int):=by grind[IntKind.wrap_u64]
  grind[ZIQ,ZAS,ZS0]
theorem ZGW (z:Int) (h:Wl 256 z):Zyq (bg z)=some true:=by
 unfold Wl at h;have a:∀g:0 < (wd z.natAbs).length,∃x:Nat,idx (iL (wd z.natAbs)) (((wd z.natAbs).length:Int) - 1)=some (x:Int)/\x≠0:=fun g=>by
  refine⟨(wd z.natAbs)[(wd z.natAbs).length - 1], ?_,fun e=> ?_⟩
  ·grind[Zzt]
  ·have b:(wd z.natAbs).length - 1 < (wd z.natAbs).length:=by omega
   have c:=Zpk b;rw[e,Nat.mul_zero,Nat.add_zero,List.take_of_length_le (by omega),ZxJ]at c;have f:=ZCS ((ZBn z.natAbs).take ((wd z.natAbs).length - 1));rw[List.length_take,Nat.min_eq_left (by omega)]at f;have l:=ZLn b;omega
 unfold Zyq ZpZ;rw[ZqC,ZE3,ZoN,decide_eq_true (by omega),cond_true]
 by_cases h0:(wd z.natAbs).length=0
 ·grind[ZU4]
 ·obtain⟨x,k,d⟩:=a (by omega);have i:(((wd z.natAbs).length:Int) == 0)=false:=beq_eq_false_iff_ne.2 (by omega);have j:((x:Int) != 0)=true:=by simp_all
  grind[ZiH,chk_true]
theorem ZPu (x y:Int):(if (!((bg x).Neg == (bg y).Neg))=true then -((x.natAbs*y.natAbs:Nat):Int)else ((x.natAbs*y.natAbs:Nat):Int))=x*y:=by
 rw[ZE3,ZE3];grind
theorem ZIh {x y n m:Nat} (c:(wd x).length<=n) (b:(wd y).length<=m):(wd (x*y)).length<=n+m:=by refine ZEz ?_;have a:=Z03 (ZC8 x) (Z0P (ZC8 y)) (Nat.pow_pos (by decide));rw[<-Z06]at a;grind[Z0T,Z07]
theorem ZEo (x y:Int) (a:Wl 50000 x) (b:Wl 50000 y):ZoL (bg x) (bg y)=some (bg (x*y)):=by unfold ZoL;have:=ZIh a b;grind[ZqC,ZKK,ZAS,ZPu]
theorem ZKh {x y n:Nat} (a:(wd x).length<=n) (b:(wd y).length<=n):(wd (x+y)).length<=n+1:=by refine ZEz ?_;grind[Z0T,ZC8,Z07]
theorem ZRn (x y:Int) (c:Wl 50000 x) (b:Wl 50000 y):ZBl (bg x) (bg y)=some (bg (x+y)):=by
 unfold Wl at c b;unfold ZBl;have f:=ZKh c b;rw[ZqC,ZqC,ZE3,ZE3];have a:decide (x < 0)≠decide (y < 0)->Zqg (iL (wd x.natAbs)) (iL (wd y.natAbs))=some (ZKs x.natAbs y.natAbs):=fun _=>ZIT _ _ (by omega) (by omega)
 by_cases hs:decide (x < 0)=decide (y < 0)
 ·grind[ZOU,ZAS]
 ·rw[beq_eq_false_iff_ne.2 hs,cond_false,a hs,Option.bind_some];rcases Nat.lt_or_ge x.natAbs y.natAbs with e |d
  ·have:=Zwo (Nat.sub_le y.natAbs x.natAbs);grind[ZF2,ZNq,ZAS]
  ·have g:ZKs x.natAbs y.natAbs>=0:=by
    grind[ZFg,ZDj]
   have:=Zwo (Nat.sub_le x.natAbs y.natAbs);grind[ZNq,ZAS]
end Go.Proofs
namespace Go.Proofs
open Go Eng
def fOf (q:Rat):ZbF:=⟨bg q.num,bg (q.den:Int)⟩
theorem ZM4 {x n:Nat} (g:Nat) (h:(wd x).length<=n):(wd (x / g)).length<=n:=Z0R (Zwo (Z0M x g)) h
theorem ZOx {x y n:Nat} (a:0 < y) (h:(wd y).length<=n):(wd (Z0O x y)).length<=n:=Z0R (Zwo (Nat.gcd_le_right x a)) h
theorem ZGH (x y:Int) (j:y≠0) (b:Wl 50000 x) (a:Wl 50000 y):Zr7 (bg x) (bg y)=some (fOf (Rat.divInt x y)):=by
 have f:0 < y.natAbs:=by omega
 have c:Nat.gcd x.natAbs y.natAbs≠0:=fun e=>by simp_all
 have d:=ZOx (x:=x.natAbs) f a;have n:=ZM4 (Nat.gcd x.natAbs y.natAbs) b;have h:=ZM4 (Nat.gcd x.natAbs y.natAbs) a;unfold Zr7;rw[ZqC,ZqC,ZJ1 _ _ b a,Option.bind_some,ZIN _ _ c b d,Option.bind_some];dsimp only;rw[ZIN _ _ c a d,Option.bind_some];dsimp only;rw[ZAS _ _ (by omega),Option.bind_some,ZAS _ _ (by omega),Option.bind_some,ZE3,ZE3];unfold fOf;rw[Rat.num_divInt,Rat.den_divInt,if_neg j];have i:Int.gcd y x=Nat.gcd x.natAbs y.natAbs:=by rw[Int.gcd_comm];rfl
 rw[i];have l:(if (!(decide (x < 0) == decide (y < 0)))=true then -((x.natAbs / Nat.gcd x.natAbs y.natAbs:Nat):Int)else ((x.natAbs / Nat.gcd x.natAbs y.natAbs:Nat):Int))=y.sign*x / (Nat.gcd x.natAbs y.natAbs:Int):=by
  obtain⟨k,q⟩:=Nat.gcd_dvd_left x.natAbs y.natAbs;generalize Nat.gcd x.natAbs y.natAbs=g at*
  have m:0 < g:=by omega
  have r:x.natAbs / g=k:=by simp_all
  have p:((g:Int)*(k:Int)) / (g:Int)=k:=Int.mul_ediv_cancel_left _ (by omega);have o:(-((g:Int)*(k:Int))) / (g:Int)= -k:=by grind[Int.mul_neg,Int.mul_ediv_cancel_left]
  grind
 simp_all
theorem ZPt:∀l:List Int,l.length<=1000->(∀z∈l,Wl 256 z)->ZCv (l.map bg)=some true:=fun l d h=>by
 refine Zo1 ?_;unfold ZCv;rw[ZhS,List.length_map];refine Zjf (Zti ZHu l.length (by omega) (fun i (_:Unit)=>(l.map bg,(l.length:Int),i)) (fun _ _=>True) (Q:=fun r=>r= .brk ()) () trivial ?_ ?_) ?_
 ·rintro c i ⟨⟩ a _ b;unfold ZC0 Zz6;dsimp only;rw[Zoy];refine⟨fun _=> ?_,fun h=>by simp_all⟩;rw[ZoM (by simp_all),ZhS,Zfa,List.getElem_map,ZGW _ (h _ (List.getElem_mem a)),ZhS,Zfa];rw[ZVx,cond_false,Zhr];exact⟨ZiH (by omega),b () trivial⟩
 ·grind[ZC0,Zz6,Zfa]
 ·rintro r rfl;exact Zfa.2 rfl
abbrev Wq (n:Nat) (q:Rat):Prop:=Wl n q.num/\Wl n (q.den:Int)
theorem ZLE:iL (wd 1)=[1]:=by rw[ZIi (by decide),show 1 / Bw=0 from rfl,Zz8];rfl
theorem ZGV (q:Rat) (h:Wq 256 q):Zrx (fOf q)=some true:=by
 unfold Zrx Zvj fOf;have d:=ZPt [q.num,(q.den:Int)] (by simp) (fun z b=>by
 simp only[List.mem_cons,List.not_mem_nil,or_false]at b;rcases b with rfl |rfl
 ·exact h.1
 ·exact h.2)
 have f:=q.den_nz;have g:=Zu4 (n:=(q.den:Int).natAbs) (by omega);have c:=h.1;have a:=h.2;unfold Wl at c a;dsimp only;rw[show ([bg q.num,bg (q.den:Int)]:List Zgo)=[q.num,(q.den:Int)].map bg from rfl,d,Z1d,cond_true,ZqC,ZqC,ZoN,decide_eq_true (by omega),cond_true,ZE3,decide_eq_false (by omega),Bool.not_false,cond_true,ZJ1 _ _ (by omega) (by omega),Z1d];have e:Z0O q.num.natAbs (q.den:Int).natAbs=1:=q.reduced;grind[ZEz,ZLE,ZIT,ZDj]
end Go.Proofs
namespace Go.Proofs
open Go Eng
def Sz (k:Nat) (q:Rat):Prop:=q.num.natAbs < 2 ^ k/\q.den < 2 ^ k
theorem Sz.mono {k l:Nat} {q:Rat} (h:Sz k q) (a:k<=l):Sz l q:=⟨Z0T h.1 (Z07 (by decide) a),Z0T h.2 (Z07 (by decide) a)⟩
theorem ZJv {n k:Nat} (h:n < 2 ^ k) (m:Nat) (a:k<=32*m):(wd n).length<=m:=by refine ZEz (Z0T h ?_);rw[show Bw=2 ^ 32 from rfl,<-Z08];simp_all[Z07]
theorem Sz.wq {k:Nat} {q:Rat} (h:Sz k q) (a:k<=8192):Wq 256 q:=⟨ZJv h.1 256 (by omega),ZJv (n:=(q.den:Int).natAbs) (by rw[Int.natAbs_natCast];exact h.2) 256 (by omega)⟩
theorem ZIj {x y:Int} {k:Nat} (a:y≠0) (b:x.natAbs < 2 ^ k) (c:y.natAbs < 2 ^ k):Sz k (Rat.divInt x y):=by
 unfold Sz;rw[Rat.num_divInt,Rat.den_divInt,if_neg a];refine⟨Z0S ?_ b,Z0S (Z0M _ _) c⟩;have d:((Int.gcd y x:Nat):Int)∣y.sign*x:=Int.dvd_trans (Int.gcd_dvd_right y x) (Int.dvd_mul_left _ _);simp_all[Int.natAbs_ediv_of_dvd,Z0u,Z0M,Int.natAbs_sign_of_ne_zero]
theorem ZGK {x y k l:Nat} (a:x < 2 ^ k) (b:y < 2 ^ l):x*y < 2 ^ (k+l):=by simp_all[Z06,Z03,Z0P,Z1b]
theorem ZGR (a b:Rat):Rat.divInt (a.num*(b.den:Int)+b.num*(a.den:Int)) ((a.den:Int)*(b.den:Int))=a+b:=by have c:=a.den_nz;have d:=b.den_nz;rw[<-Rat.divInt_add_divInt _ _ (by omega) (by omega),Rat.num_divInt_den,Rat.num_divInt_den]
theorem Sz.add {a b:Rat} {k l:Nat} (c:Sz k a) (d:Sz l b):Sz (k+l+1) (a+b):=by
 rw[<-ZGR];have f:=a.den_nz;have h:=b.den_nz;have e:=ZGK c.1 d.2;have j:=ZGK c.2 d.1;have g:=ZGK c.2 d.2;have i:=Z1b (k+l);refine ZIj (Z0t (by omega) (by omega)) ?_ ?_
 all_goals grind[Int.natAbs_add_le,Z0u]
theorem small {q:Rat} (h:Wq 256 q):decide ((if ((fOf q).Den.Words.length:Int) > ((fOf q).Num.Words.length:Int)then ((fOf q).Den.Words.length:Int)else ((fOf q).Num.Words.length:Int)) > 256)=false:=by grind[fOf,ZqC,ZoN]
theorem ZGN {y:Int} (a:y≠0):(((bg y).Words.length:Int) == 0)=false:=by grind[Zu4,ZqC,ZoN]
theorem ZRL {a b:Rat} {k l:Nat} (p:Sz k a) (r:Sz l b) (t:k+l+1<=8192):ZDi (fOf a) (fOf b)=some (fOf (a+b),0):=by
 have B:=a.den_nz;have C:=b.den_nz;have c:=p.wq (by omega);have d:=r.wq (by omega);have w:∀{x y:Int},Wl 256 x->Wl 256 y->Wl 512 (x*y):=fun v s=>by unfold Wl;rw[Z0u];exact ZIh v s
 have m:∀{n:Nat} {x:Int},Wl n x->n<=50000->Wl 50000 x:=fun h u=>Z0R h u
 have i:=w c.1 d.2;have j:=w d.1 c.2;have z:=w c.2 d.2;have A:Wl 513 (a.num*(b.den:Int)+b.num*(a.den:Int)):=Z0R (Zwo (Int.natAbs_add_le _ _)) (ZKh i j);have o:(a.den:Int)*(b.den:Int)≠0:=Z0t (by omega) (by omega);unfold ZDi Zrs;rw[ZGV a c,Z1d,ZVx,cond_false,ZGV b d,Z1d,ZVx];unfold Zr8 ZFW;rw[cond_false];show ((((ZoL (bg a.num) (bg (b.den:Int))).bind fun q=>(ZoL (bg b.num) (bg (a.den:Int))).bind fun f=>(ZBl q f).bind fun g=>(ZoL (bg (a.den:Int)) (bg (b.den:Int))).bind fun e=>some (g,e)).bind _).bind _)=_;rw[ZEo _ _ (m c.1 (by omega)) (m d.2 (by omega)),Z1d,ZEo _ _ (m d.1 (by omega)) (m c.2 (by omega)),Z1d,ZRn _ _ (m i (by omega)) (m j (by omega)),Z1d,ZEo _ _ (m c.2 (by omega)) (m d.2 (by omega)),Z1d,Z1d];dsimp only;rw[ZGN o,cond_false,ZGH _ _ o (m A (by omega)) (m z (by omega)),Z1d,ZGR,small ((p.add r).wq t),cond_false,Z1d]
end Go.Proofs
namespace Go.Proofs
open Go Eng
theorem ZJO (z:Int):Zvh (bg z)=some (bg (-z)):=by
 unfold Zvh ZyM;rw[ZE3,ZqC,ZoN];grind[bg,Zz8,Zu4]
theorem ZTc (q:Rat):fOf (-q)=⟨bg (-q.num),bg (q.den:Int)⟩:=rfl
theorem Sz.neg {q:Rat} {k:Nat} (h:Sz k q):Sz k (-q):=by show (-q.num).natAbs < 2 ^ k/\q.den < 2 ^ k;rw[Int.natAbs_neg];exact h
theorem ZVa {a b:Rat} {k l:Nat} (e:Sz k a) (d:Sz l b) (f:k+l+1<=8192):ZEv (fOf a) (fOf b)=some (fOf (a - b),0):=by unfold ZEv;rw[ZGV b (d.wq (by omega)),Z1d,ZVx,cond_false];show ((Zvh (bg b.num)).bind fun c=>(Zrs (fOf a) (ZbF.mk c (bg (b.den:Int)))).bind fun x=>some (x.1,x.2))=_;have:=ZRL e d.neg f;grind[ZDi,ZJO,ZTc]
theorem ZIu {a b:Rat} {k l:Nat} (c:Sz k a) (d:Sz l b) (e:k+l+1<=8192):ZFS (fOf a) (fOf b)=some (fOf (a+b)):=by grind[ZFS,ZDn,ZRL]
theorem ZJR {a b:Rat} {k l:Nat} (c:Sz k a) (d:Sz l b) (e:k+l+1<=8192):ZGw (fOf a) (fOf b)=some (fOf (a - b)):=by grind[ZGw,ZDn,ZVa]
def ZLf (a b:Rat):Int:=if a < b then -1 else if b < a then 1 else 0
theorem ZJr (a b:Rat):a < b<->a.num*(b.den:Int) < b.num*(a.den:Int):=Rat.lt_iff a b
theorem ZPp {a b:Rat} (c:Wq 256 a) (d:Wq 256 b):ZBm (fOf a) (fOf b)=some (ZLf a b):=by
 have w:∀{x y:Int},Wl 256 x->Wl 256 y->Wl 50000 (x*y):=fun j f=>by unfold Wl;rw[Int.natAbs_mul];exact Nat.le_trans (ZIh j f) (by decide)
 have m:∀{x:Int},Wl 256 x->Wl 50000 x:=fun h=>Nat.le_trans h (by decide)
 unfold ZBm;rw[ZGV a c,Option.bind_some,Bool.not_true,cond_false,ZGV b d,Option.bind_some,Bool.not_true];unfold ZCL;rw[cond_false];show ((ZoL (bg a.num) (bg (b.den:Int))).bind fun q=>(ZoL (bg b.num) (bg (a.den:Int))).bind _)=_;rw[ZEo _ _ (m c.1) (m d.2),Option.bind_some,ZEo _ _ (m d.1) (m c.2),Option.bind_some,ZJO,Option.bind_some];have g:Wl 50000 (-(b.num*(a.den:Int))):=by grind[Int.natAbs_neg]
 rw[ZRn _ _ (w c.1 d.2) g,Option.bind_some,ZE3,ZqC,ZoN];unfold ZLf;have e:=ZJr a b;have i:=ZJr b a;generalize a.num*(b.den:Int)=x at*
 generalize b.num*(a.den:Int)=y at*
 by_cases hl:a < b
 ·grind
 ·have l:¬x < y:=fun h=>hl (e.2 h)
  rw[if_neg hl,decide_eq_false (by omega),cond_false]
  by_cases hg:b < a
  ·have:=Zu4 (n:=(x+ -y).natAbs) (by grind);simp_all
  ·have k:¬y < x:=fun h=>hg (i.2 h)
   rw[if_neg hg,show x+ -y=0 by omega,show (0:Int).natAbs=0 from rfl,Zz8];rfl
theorem ZSY (x y:Int) (c:y≠0) (b:Wl 256 x) (a:Wl 256 y):ZDU (bg x) (bg y)=some (fOf (Rat.divInt x y),0):=by
 have e:=ZPt [x,y] (by simp) (fun z d=>by
 grind)
 grind[ZDU,ZGN,ZGH]
theorem wl64 {z:Int} (a: -9223372036854775808<=z) (b:z<=9223372036854775807):Wl 256 z:=Z0R (ZS0 (by omega)) (by decide)
theorem ZVE (x y:Int) (b:y≠0) (a: -9223372036854775808<=x) (d:x<=9223372036854775807) (e: -9223372036854775808<=y) (c:y<=9223372036854775807):ZDT x y=some (fOf (Rat.divInt x y),0):=by grind[ZDT,ZN4,ZSY,wl64]
theorem ZIH:ZBk=some (fOf 0):=by grind[ZBk,ZVE,Rat.zero_divInt]
theorem ZIs (x y:Int) (b:y≠0) (a: -9223372036854775808<=x) (d:x<=9223372036854775807) (e: -9223372036854775808<=y) (c:y<=9223372036854775807):ZDQ x y=some (fOf (Rat.divInt x y)):=by grind[ZDQ,ZVE]
theorem ZFN:Sz 1 0:=by simp_all[Sz]
theorem ZJG {a:Rat} (b:Wq 256 a):ZDC (fOf a)=some (ZLf a 0):=by unfold ZDC;rw[ZIH,Z1d,ZPp b (ZFN.wq (by decide)),Z1d]
theorem ZHU (a b:Rat):Rat.divInt (a.num*(b.den:Int)) ((a.den:Int)*b.num)=a / b:=by grind[Rat.divInt_mul_divInt,Rat.num_divInt_den,Rat.inv_def]
theorem Sz.div {a b:Rat} {k l:Nat} (c:b≠0) (d:Sz k a) (f:Sz l b):Sz (k+l) (a / b):=by
 rw[<-ZHU];have h:=a.den_nz;have g:b.num≠0:=fun e=>c (Rat.num_eq_zero.1 e)
 refine ZIj (Z0t (by omega) g) ?_ ?_
 ·rw[Z0u,Int.natAbs_natCast];exact ZGK d.1 f.2
 ·rw[Z0u,Int.natAbs_natCast];exact ZGK d.2 f.1
theorem ZWc {a b:Rat} {k l:Nat} (f:b≠0) (n:Sz k a) (o:Sz l b) (r:k+l<=8192):ZEw (fOf a) (fOf b)=some (fOf (a / b),0):=by
 have v:=a.den_nz;have s:b.num≠0:=fun e=>f (Rat.num_eq_zero.1 e)
 have c:=n.wq (by omega);have d:=o.wq (by omega);have w:∀{x y:Int},Wl 256 x->Wl 256 y->Wl 50000 (x*y):=fun t q=>by unfold Wl;rw[Z0u];exact Z0R (ZIh t q) (by decide)
 have m:∀{x:Int},Wl 256 x->Wl 50000 x:=fun h=>Z0R h (by decide)
 have p:=w c.1 d.2;have u:=w c.2 d.1;have j:(a.den:Int)*b.num≠0:=Z0t (by omega) s;unfold ZEw ZwW;rw[ZGV a c,Z1d,ZVx,cond_false,ZGV b d,Z1d,ZVx];unfold Zrc ZFX;rw[cond_false];show ((((ZoL (bg a.num) (bg (b.den:Int))).bind fun i=>(ZoL (bg (a.den:Int)) (bg b.num)).bind fun g=>some (i,g)).bind _).bind _)=_;rw[ZEo _ _ (m c.1) (m d.2),Z1d,ZEo _ _ (m c.2) (m d.1),Z1d,Z1d];dsimp only;rw[ZGN j,cond_false,ZGH _ _ j p u,Z1d,ZHU,small ((Sz.div f n o).wq r),cond_false,Z1d]
theorem ZLG {a b:Rat} {k l:Nat} (c:b≠0) (d:Sz k a) (f:Sz l b) (e:k+l<=8192):ZHs (fOf a) (fOf b)=some (fOf (a / b)):=by grind[ZHs,ZDn,ZWc]
end Go.Proofs
namespace Go.Proofs
open Go Eng
theorem ZM7:∀n w,ZpH n w=Zqk n w
 |0,_=>rfl
 |n+1,w=>by have:ZpH n=Zqk n:=funext (ZM7 n);show ZBS (ZpH n) w=Zxv (Zqk n) w;rw[this];rfl
theorem ZNH (w:List Int):Zpd w=Zpq w:=by unfold Zpd Zpq;rw[ZM7];rfl
theorem ZHQ {l:List Nat} (h:Dg l) (a:l.length<=1000000):Zpd (iL l)=some (iL (wd (val l))):=by grind[ZNH,ZHm]
theorem ZH9 (neg:Bool) {l:List Nat} (h:Dg l) (hl:l.length<=1000000):ZoX neg (iL l)=some (bg (if neg then -(val l:Int)else val l)):=by
 unfold ZoX ZvL;rw[ZHQ h hl,Z1d,ZoN];grind[bg,Zz8,Zu4]
theorem ZGi (a:Zgo):Zqc a=Zyq a:=rfl
end Go.Proofs
namespace Go.Proofs
open Go Eng
theorem ZK1 (a b:Nat) (d:(wd a).length<=100000) (e:(wd b).length<=100000):ZpD (iL (wd a)) (iL (wd b))=some (ZKs a b):=by
 refine Zo1 ?_;unfold ZpD;rw[ZoN,ZoN,Zoy];refine⟨fun h=> ?_,fun h=> ?_⟩
 ·grind[Zfa,ZF2,ZNs,ZFg]
 ·have t:(wd a).length=(wd b).length:=by grind
  rw[Zhr,ZhS];refine⟨ZiH (by omega), ?_⟩;refine Zjf (ZIA ZFD (wd a).length (by omega) (fun i (s:Unit)=>(iL (wd a),iL (wd b),i)) (fun k _=>(wd a).drop k=(wd b).drop k)
   (Q:=fun r=>r= .ret (ZKs a b)\/r= .brk ()/\a=b) () (by simp_all) ?_ ?_) ?_
  ·rintro m k ⟨⟩ g j n;have c:k < (wd b).length:=by omega
   unfold Zya Zt5;dsimp only;rw[Zoy];refine⟨fun _=> ?_,fun h=>by simp_all⟩;have d:=ZFM g;have e:=ZFM c;rw[ZxJ]at d e;have p:val ((wd a).take k) < Bw ^ k:=by have:=ZCS ((ZBn a).take k);grind
   have q:val ((wd b).take k) < Bw ^ k:=by have:=ZCS ((ZBn b).take k);grind
   rw[Zzt g,ZhS,Zfa,Zzt c,ZhS,Zfa,Zoy];refine⟨fun o=> ?_,fun o=> ?_⟩
   ·have l:(wd a)[k] < (wd b)[k]:=by grind
    have:a < b:=by rw[d,e,j];exact ZKG (A:=0) (B:=0) p (by omega)
    grind[Zfa,ZF2]
   ·rw[ZhS,Zfa,ZhS,Zfa,Zoy];refine⟨fun f=> ?_,fun f=> ?_⟩
    ·have l:(wd b)[k] < (wd a)[k]:=by grind
     have:b < a:=by rw[d,e,j];exact ZKG (A:=0) (B:=0) q (by omega)
     grind[Zfa,ZFg]
    ·rw[Zhr];refine⟨ZiH (by omega),n () ?_⟩;grind[List.getElem_cons_drop]
  all_goals grind[Zya,Zt5,Zfa,ZxJ,ZzO,ZDj]
theorem ZMi {a:Nat} (k:Nat) (hk:k<=32):shlK .u32 (a:Int) (k:Int)=((a*2 ^ k % 4294967296:Nat):Int):=by
 unfold shlK;rw[Z0w,show IntKind.bits .u32=32 from rfl,Z0V (by omega)];have e:(a:Int)*(2:Int) ^ k=((a*2 ^ k:Nat):Int):=by simp_all
 rw[e,Zz7]
theorem ZM6 (a d:Nat) (hd:d<=1) (ha:(wd a).length<=100000):Zta (iL (wd a)) (d:Int)=some (iL (wd (2*a+d))):=by
 refine Zo1 ?_;unfold Zta;rw[ZhS];refine Zjf (Zti ZEQ (wd a).length (by omega) (fun i (s:Nat×List Nat)=>(iL (wd a),(s.1:Int),i,iL s.2)) (fun i s=>s.1<=1/\s.2.length=i/\Dg s.2/\val s.2+Bw ^ i*s.1=2*val ((wd a).take i)+d)
  (Q:=fun y=>∃(c:Nat) (o:List Nat),y=((c:Int),iL o)/\c<=1/\Dg o/\o.length=(wd a).length/\val o+Bw ^ (wd a).length*c=2*a+d) (d,[]) ⟨hd,rfl,ZHG,by simp[val]⟩ ?_ ?_) ?_
 ·rintro rec i ⟨c,o⟩ hi ⟨hc,hl,hod,hv⟩ ih;dsimp only at hc hl hod hv ih;have h1:=(ZBn a).get hi;unfold ZwL ZsR;dsimp only;rw[Zoy,ZoN];refine⟨fun _=> ?_,fun h=>by simp_all⟩;rw[Zzt hi,ZhS,Zfa];generalize ex:(wd a)[i]=x at h1;have eor:orK .u32 (shlK .u32 (x:Int) 1) (c:Int)=((c+x*2 ^ 1 % Bw:Nat):Int):=by rw[show (1:Int)=((1:Nat):Int)from rfl,ZMi 1 (by omega),ZLD (Nat.mod_lt _ (by decide)) (by omega),Nat.or_comm];congr 1;exact ZKT (by decide) (by omega) h1
  have esh:shrK .u32 (x:Int) 31=((x / 2 ^ 31:Nat):Int):=ZH4 31 (by omega);rw[eor,Option.bind_some,esh,Zhr,Zhr,Zhr,Zhr,ZoN];have hx:c+x*2 ^ 1 % Bw < Bw:=by grind
  refine⟨by decide,ZpN (by grind),by decide,ZiH (by omega), ?_⟩;have:=ih (x / 2 ^ 31,o++[c+x*2 ^ 1 % Bw]) ⟨by grind,by grind,hod.app (ZGM hx), ?_⟩
  ·rw[ZJW]at this;exact this
  ·dsimp only;have q:c+x*2 ^ 1 % Bw+Bw*(x / 2 ^ 31)=c+2*x:=by simp only[Bw]at h1|-;omega
   have q2:Bw ^ i*(c+x*2 ^ 1 % Bw+Bw*(x / 2 ^ 31))=Bw ^ i*(c+2*x):=by rw[q]
   have q3:Bw ^ i*(2*x)=2*(Bw ^ i*x):=Nat.mul_left_comm _ _ _;rw[Nat.mul_add,Nat.mul_add (Bw ^ i) c (2*x),q3]at q2;grind[ZBD,Zpk]
 ·rintro rec ⟨c,o⟩ ⟨hc,hl,hod,hv⟩;dsimp only at hc hl hod hv;unfold ZwL ZsR;dsimp only;rw[Zoy,ZoN];refine⟨fun h=>by have:=of_decide_eq_true h;omega,fun _=> ?_⟩;rw[Zfa];rw[List.take_length,ZxJ]at hv;exact⟨c,o,rfl,hc,hod,hl,hv⟩
 ·rintro y ⟨c,o,rfl,hc,hod,hl,hv⟩;dsimp only;unfold Zx3;have e:iL o++[(c:Int)]=iL (o++[c]):=by rw[ZJW];rfl
  rw[Zhr,ZoN,e,ZHQ (hod.app (ZGM (by simp only[Bw];omega))) (by simp;omega),ZhS,Zfa,Zfa,ZBD,hl,hv];exact⟨ZpN (by simp only[List.length_singleton];omega),rfl⟩
end Go.Proofs
namespace Go.Proofs
open Go Eng
theorem ZSu (t:Int):shrK .i64 t 32=t / 4294967296:=by grind[shrK,IntKind.bits]
theorem ZJD (a b:Nat) (m:b<=a) (G:(wd a).length<=100000):ZqN (iL (wd a)) (iL (wd b))=some (iL (wd (a - b))):=by
 have A:(wd b).length<=(wd a).length:=Zwo m;refine Zo1 ?_;unfold ZqN;rw[ZhS];refine Zjf (Zti ZFz (wd a).length (by omega) (fun i (s:Nat×List Nat)=>(iL (wd a),iL (wd b), -(s.1:Int),i,iL s.2)) (fun i s=>s.1<=1/\s.2.length=i/\Dg s.2/\val ((wd a).take i)+Bw ^ i*s.1=val s.2+val ((wd b).take i))
  (Q:=fun y=>∃(o:List Nat),y=iL o/\Dg o/\o.length=(wd a).length/\val o=a - b) (0,[]) ⟨by simp,rfl,ZHG,by simp[val]⟩ ?_ ?_) ?_
 ·rintro j i ⟨c,o⟩ l ⟨q,f,g,d⟩ t;dsimp only at q f g d t;have v:=(ZBn a).get l;have F:=ZH7 (ZBn b) i;have D:(wd b).getD i 0=(if i < (wd b).length then (wd b).getD i 0 else 0):=by
   simp_all
  have u:∀y:Nat,(wd b).getD i 0=y->wp (Zsp (fun a b c i n=>j (a,b,c,i,n)) (iL (wd a)) (iL (wd b)) (-(c:Int)+((wd a)[i]:Int) - (y:Int)) (i:Int) (iL o)) (fun y=>∃(o:List Nat),y=iL o/\Dg o/\o.length=(wd a).length/\val o=a - b):=fun y r=>by
   rw[r]at F;generalize ex:(wd a)[i]=x at v;have C:IntKind.wrap .u32 (-(c:Int)+(x:Int) - (y:Int))=(((x+4294967296 - y - c) % 4294967296:Nat):Int):=by grind[IntKind.wrap_u32]
   have B:shrK .i64 (-(c:Int)+(x:Int) - (y:Int)) 32= -(((if x < y+c then 1 else 0):Nat):Int):=by grind[ZSu]
   unfold Zsp;rw[C,B,Zhr,Zhr,Zhr,ZoN];refine⟨ZpN (by grind),by decide,ZiH (by omega), ?_⟩;have:=t ((if x < y+c then 1 else 0),o++[(x+4294967296 - y - c) % 4294967296]) ⟨by grind,by grind,g.app (ZGM (Nat.mod_lt _ (by decide))), ?_⟩
   ·rw[ZJW]at this;exact this
   ·dsimp only;rw[ZBD,f,Nat.pow_succ,Zpk l,ZFr,ex,r,Nat.mul_assoc];have e:x+Bw*(if x < y+c then 1 else 0)=(x+4294967296 - y - c) % 4294967296+y+c:=by grind
    grind
  unfold Zx4 ZtY;dsimp only;rw[Zoy,ZoN,ZoN];refine⟨fun _=> ?_,fun h=>by simp_all⟩;have z:IntKind.wrap .i64 ((wd a)[i]:Int)=((wd a)[i]:Int):=wrap_i64 (by grind);rw[Zzt l,ZhS,Zfa,z,Zhr,Zoy];refine⟨ZiH (by grind),fun h=> ?_,fun h=> ?_⟩
  ·have k:i < (wd b).length:=by have:=of_decide_eq_true h;omega
   have E:=(ZBn b).get k;have w:IntKind.wrap .i64 ((wd b)[i]:Int)=((wd b)[i]:Int):=wrap_i64 (by simp only[Bw]at E;omega);rw[Zzt k,ZhS,Zfa,w,Zhr];grind[ZiH]
  simp_all
 ·rintro j ⟨c,o⟩ ⟨q,f,g,d⟩;unfold Zx4 ZtY;dsimp only at q f g d|-
  rw[Zoy,ZoN];refine⟨fun h=>by have:=of_decide_eq_true h;omega,fun _=> ?_⟩;rw[Zfa];rw[List.take_length,List.take_of_length_le (by omega),ZxJ,ZxJ]at d;have:=ZCS g;rw[f]at this;have p:c=0:=by
   rcases Nat.eq_zero_or_pos c with h |h
   ·exact h
   ·have:c=1:=by omega
    rw[this,Nat.mul_one]at d;omega
  rw[p,Nat.mul_zero]at d;exact⟨o,rfl,g,f,by omega⟩
 grind[ZzF,ZHQ,Zfa]
end Go.Proofs
namespace Go.Proofs
open Go Eng
theorem ZJt (a:Nat) (ha:(wd a).length<=100000):Zqq (iL (wd a))=some (iL (wd (a / 2))):=by
 refine Zo1 ?_;unfold Zqq;rw[List.nil_append,Zhr,ZhS,ZoN];refine⟨ZpN (by grind), ?_⟩;refine Zjf (Zti ZFc (wd a).length (by omega) (fun i (o:List Nat)=>(iL (wd a),((wd a).length:Int),i,iL (o++(wd a).drop o.length))) (fun i o=>o.length=i/\Dg o/\val o*2+(wd a).getD 0 0 % 2=val ((wd a).take i)+Bw ^ i*((wd a).getD i 0 % 2))
  (Q:=fun y=>∃(o:List Nat),y=iL o/\Dg o/\o.length=(wd a).length/\val o=a / 2) [] ⟨rfl,ZHG,by simp[val]⟩ ?_ ?_) ?_
 ·rintro rec i o hi ⟨hol,hod,hov⟩ ih;have h1:=(ZBn a).get hi;have hyB:=ZH7 (ZBn a) (i+1);have hlen:(o++(wd a).drop o.length).length=(wd a).length:=by grind
  have gx:(iL (o++(wd a).drop o.length))[i]? =some ((wd a)[i]:Int):=by simp_all[ZHD]
  have fin:∀z:Nat,z=(wd a)[i] / 2+(wd a).getD (i+1) 0*2 ^ 31 % Bw->wp (ZrY (fun a t9 i out=>rec (a,t9,i,out)) (iL (wd a)) ((wd a).length:Int) (i:Int) (iL ((o++(wd a).drop o.length).set i z))) (fun y=>∃(o:List Nat),y=iL o/\Dg o/\o.length=(wd a).length/\val o=a / 2):=fun z hz=>by
   unfold ZrY;have es:(o++(wd a).drop o.length).set i z=(o++[z])++(wd a).drop (o++[z]).length:=by rw[List.set_append_right _ _ (by omega),hol,Nat.sub_self,<-List.getElem_cons_drop (h:=hi),List.set_cons_zero];simp[hol]
   have eg:(wd a).getD i 0=(wd a)[i]:=by simp_all
   rw[eg]at hov;rw[Zhr,es];generalize ex:(wd a)[i]=x at*
   generalize ey:(wd a).getD (i+1) 0=y at*
   have hzB:z < Bw:=by grind
   refine⟨ZiH (by omega),ih (o++[z]) ⟨by grind,hod.app (ZGM hzB), ?_⟩⟩;have hd1:z*2+x % 2=x+Bw*(y % 2):=by grind
   grind[ZBD,Zpk]
  unfold Zxq ZtA;dsimp only;rw[Zoy];refine⟨fun _=> ?_,fun h=>by simp_all⟩;have esh:shrK .u32 ((wd a)[i]:Int) 1=(((wd a)[i] / 2:Nat):Int):=ZH4 1 (by omega);rw[Int.toNat_natCast,gx,Zhr,ZhS,Zfa,Zhr,Zhr,Zhr,esh,ZGc,ZoN,ZoN,hlen,Zoy];refine⟨Zs1 ⟨by omega,by omega⟩,by decide,Zs1 ⟨by omega,by omega⟩,ZiH (by omega),fun h=> ?_,fun h=> ?_⟩
  ·have hi2:i+1 < (wd a).length:=by have:=of_decide_eq_true h;omega
   have gz:(iL ((o++(wd a).drop o.length).set i ((wd a)[i] / 2)))[i]? =some (((wd a)[i] / 2:Nat):Int):=by rw[ZHD (by rw[List.length_set];omega),List.getElem_set_self]
   have e1:(i:Int)+1=((i+1:Nat):Int):=rfl;have eg:(wd a).getD (i+1) 0=(wd a)[i+1]:=by rw[List.getD_eq_getElem?_getD,List.getElem?_eq_getElem hi2];rfl
   have eor:orK .u32 (((wd a)[i] / 2:Nat):Int) (shlK .u32 ((wd a)[i+1]:Int) 31)=(((wd a)[i] / 2+(wd a).getD (i+1) 0*2 ^ 31 % Bw:Nat):Int):=by rw[eg,show (31:Int)=((31:Nat):Int)from rfl,ZMi 31 (by omega),ZLD (by simp only[Bw]at h1;omega) (Nat.mod_lt _ (by decide))];congr 1;exact ZKT (by decide) (by simp only[Bw]at h1;omega) ((ZBn a).get hi2)
   rw[e1,Zzt hi2,gz,Zhr,ZhS,Zfa,Zhr,ZhS,Zfa,Zhr,Zhr,eor,ZoN,List.length_set,hlen,ZGc,List.set_set];exact⟨Zs1 ⟨by omega,by omega⟩,ZiH (by omega),by decide,Zs1 ⟨by omega,by omega⟩,fin _ rfl⟩
  grind
 ·rintro rec o ⟨hol,hod,hov⟩;unfold Zxq ZtA;dsimp only;rw[Zoy];refine⟨fun h=>by have:=of_decide_eq_true h;omega,fun _=> ?_⟩;rw[Zfa];have eg:(wd a).getD (wd a).length 0=0:=by rw[List.getD_eq_getElem?_getD,List.getElem?_eq_none (by omega)];rfl
  rw[eg,Nat.zero_mod,Nat.mul_zero,Nat.add_zero,List.take_length,ZxJ]at hov;refine⟨o,by rw[hol,List.drop_length,List.append_nil],hod,hol, ?_⟩;omega
 grind[Zy3,ZHQ,Zfa]
end Go.Proofs
namespace Go.Proofs
open Go Eng
theorem ZLJ {a:Nat} (h:a≠0):idx (iL (wd a)) 0=some ((a % Bw:Nat):Int):=by rw[ZIi h];rfl
theorem ZJY {a:Nat}:(andK .u32 ((a % Bw:Nat):Int) 1 == 0)=decide (a % 2=0):=by
 rw[show (1:Int)=((1:Nat):Int)from rfl,ZK4 (Z0X _ (by decide)) (by decide),Nat.and_one_is_mod];grind
theorem ZNo (P:Nat->Prop) {f:Nat->List Int×List Int×Int->Option (List Int×List Int×Int)} (y:List Int) (k:Int)
  (hf:∀n x,x≠0->(wd x).length<=100000->f (n+1) (iL (wd x),y,k)=if x % 2=0 then f n (iL (wd (x / 2)),y,k)else some (iL (wd x),y,k))
  (hP:∀x,P (2*x)->P x):∀(n x:Nat),x≠0->(wd x).length<=100000->P x->(∀m,x < 2 ^ m->m<=n->∃z,f n (iL (wd x),y,k)=some (iL (wd z),y,k)/\z % 2=1/\z<=x/\P z)
 |0,x,hx,hl,hp,m,hm,hmn=>by
  simp_all
 |n+1,x,hx,hl,hp,m,hm,hmn=>by
  rw[hf n x hx hl]
  by_cases h:x % 2=0
  ·rw[if_pos h];cases m with
   |zero=>omega
   |succ m=>
    obtain⟨z,h1,h2,h3,h4⟩:=ZNo P y k hf hP n (x / 2) (by omega) (Nat.le_trans (Zwo (Nat.div_le_self x 2)) hl) (hP _ (by grind)) m (by omega) (by omega);grind
  grind
end Go.Proofs
namespace Go.Proofs
open Go Eng
theorem ZEq (x:Nat):x < 2 ^ (x.log2+1):=Nat.lt_log2_self
theorem ZG4 {x n:Nat} (h:(wd x).length<=n):x.log2<=32*n:=by
 rcases Z0N x with rfl |c
 ·simp_all
 ·have b:=Nat.log2_self_le (n:=x) (by omega);have a:=Z0T (ZC8 x) (Z07 (n:=Bw) (by decide) h);rw[show Bw=2 ^ 32 from rfl,<-Z08]at a;grind[Z0P,Nat.pow_lt_pow_iff_right,Z0S]
theorem ZPe {x b:Nat} (c:b % 2=1):Z0O (2*x) b=Z0O x b:=by
 have a:Nat.Coprime 2 b:=by grind[Nat.gcd_rec,Nat.gcd_one_left]
 grind[Nat.Coprime.gcd_mul_left_cancel]
theorem ZY1 (y:List Int) (k:Int) {x:Nat} (b:Nat) (d:b % 2=1) (c:x≠0) (a:(wd x).length<=100000):∃z,Zpv big (iL (wd x)) y k=some (iL (wd z),y,k)/\z % 2=1/\z<=x/\Z0O z b=Z0O x b:=by
 have e:=ZG4 a;refine ZNo (fun z=>Z0O z b=Z0O x b) (f:=fun n t=>Zpv n t.1 t.2.1 t.2.2) y k (fun n x c a=> ?_) (fun z h=>by grind[ZPe]) big x c a rfl (x.log2+1) (ZEq x) (Z0P (ZGQ (by omega)));show Zt2 (Zpv n) (iL (wd x)) y k=_;grind[Zt2,ZLJ,ZJY,ZJt]
end Go.Proofs
namespace Go.Proofs
open Go Eng
theorem ZRy (y:List Int) (k:Int) {x:Nat} (b:x % 2=1):Zpv big (iL (wd x)) y k=some (iL (wd x),y,k):=by obtain⟨n,a⟩:=ZTm 1 (by decide);grind[Zt2,Zpv,ZLJ,ZJY]
theorem ZY0 (w:List Int) (k:Int) {y:Nat} (b:Nat) (r:b % 2=1) (i:y≠0) (a:(wd y).length<=100000):∃z,Zpu big w (iL (wd y)) k=some (w,iL (wd z),k)/\z % 2=1/\(z<=y/\(y % 2=0->z<=y / 2))/\Nat.gcd z b=Nat.gcd y b:=by
 have f:=ZG4 a;have c:∀n x,x≠0->(wd x).length<=100000->Zpu (n+1) w (iL (wd x)) k=if x % 2=0 then Zpu n w (iL (wd (x / 2))) k else some (w,iL (wd x),k):=fun n x e a=>by
  show Zx7 (Zpu n) w (iL (wd x)) k=_;grind[Zx7,ZLJ,ZJY,ZJt]
 have d:∀(n x m:Nat),x≠0->(wd x).length<=100000->x < 2 ^ m->m<=n->∃z,Zpu n w (iL (wd x)) k=some (w,iL (wd z),k)/\z % 2=1/\(z<=x/\(x % 2=0->z<=x / 2))/\Nat.gcd z b=Nat.gcd x b:=by
  intro n
  induction n with
  |zero=>
   grind
  |succ n j=>
   intro x m e a f p;rw[c n x e a]
   by_cases h:x % 2=0
   ·rw[if_pos h];cases m with
    |zero=>omega
    |succ m=>
     obtain⟨z,g,o,q,l⟩:=j (x / 2) m (by omega) (Nat.le_trans (Zwo (Nat.div_le_self x 2)) a) (by rw[Nat.pow_succ]at f;omega) (by omega);refine⟨z,g,o,⟨by omega,fun _=>q.1⟩, ?_⟩;rw[l,<-ZPe r,show 2*(x / 2)=x by omega]
   grind
 exact d big y (y.log2+1) i a (ZEq y) (Nat.le_of_lt (ZGQ (by omega)))
end Go.Proofs
namespace Go.Proofs
open Go Eng
theorem ZQH (k:Int):∀(n x y p q:Nat),x % 2=1->(wd x).length<=100000->(wd y).length<=100000->x < 2 ^ p->y < 2 ^ q->p+q+y % 2 < n->Zo2 n (iL (wd x)) (iL (wd y)) k=some (iL (wd (Nat.gcd x y)),k)
 |0,x,y,p,q,_,_,_,_,_,h=>absurd h (by omega)
 |n+1,x,y,p,q,i,hxl,b,hp,hq,hn=>by
  show Zt3 (Zo2 n) _ _ _=_;unfold Zt3;rw[ZoN]
  by_cases j:y=0
  ·grind[Zz8]
  ·have s:=Zu4 j;obtain⟨z,m,g,d,o⟩:=ZY0 (iL (wd x)) k x i j b;rw[decide_eq_true (by omega),cond_true,ZRy _ _ i,Option.bind_some];dsimp only;unfold ZzL;rw[m,Option.bind_some];dsimp only;have a:=Nat.le_trans (Zwo d.1) b;unfold ZzK;rw[ZK1 x z hxl a,Option.bind_some];obtain⟨c,e,r⟩:∃c,z < 2 ^ c/\c+1<=q+y % 2:=by
    by_cases he:y % 2=0
    ·cases q with
     |zero=>omega
     |succ q=>
      grind
    grind
   unfold ZvI;have l:Nat.gcd x y=Nat.gcd x z:=by grind
   rw[l]
   by_cases hc:z < x
   ·rw[ZFg hc,show decide ((1:Int) > 0)=true from rfl,cond_true,ZJD x z (by omega) hxl,Option.bind_some,ZQH k n z (x - z) c p g a (Nat.le_trans (Zwo (Nat.sub_le x z)) hxl) e (by omega) (by omega),Nat.gcd_sub_self_right (by omega),Nat.gcd_comm]
   ·have f:decide (ZKs x z > 0)=false:=by grind[ZKs]
    rw[f,cond_false,ZJD z x (by omega) a,Option.bind_some,ZQH k n x (z - x) p c i hxl (Nat.le_trans (Zwo (Nat.sub_le z x)) a) hp (by omega) (by omega),Nat.gcd_sub_self_right (by omega)]
end Go.Proofs
namespace Go.Proofs
open Go Eng
theorem ZVL:∀(n x y j m:Nat),x≠0->y≠0->(wd x).length<=100000->(wd y).length<=100000->x < 2 ^ m->m<=n->j+m<=1000000000->
  ∃a b t:Nat,ZqI n (iL (wd x)) (iL (wd y)) (j:Int)=some (iL (wd a),iL (wd b),((j+t:Nat):Int))/\(a % 2=1\/b % 2=1)/\Nat.gcd x y=2 ^ t*Nat.gcd a b/\a≠0/\b≠0/\a<=x/\b<=y/\t<=m
 |0,x,y,j,m,hx,hy,d,c,hm,hmn,hj=>by
  simp_all
 |n+1,x,y,j,m,hx,hy,d,c,hm,hmn,hj=>by
  show ∃a b t:Nat,Zx8 (ZqI n) _ _ _=_/\_;unfold Zx8 ZvJ;rw[ZLJ hx,Option.bind_some,ZJY]
  by_cases h1:x % 2=0
  ·rw[decide_eq_true h1,cond_true,ZLJ hy,Option.bind_some,ZJY]
   by_cases h2:y % 2=0
   ·cases m with
    |zero=>omega
    |succ m=>
     rw[decide_eq_true h2,cond_true,ZJt x d,Option.bind_some,ZJt y c,Option.bind_some,ZiH (by omega),chk_true];obtain⟨a,b,t,h,g,k,e,f,l,o,i⟩:=ZVL n (x / 2) (y / 2) (j+1) m (by omega) (by omega) (Nat.le_trans (Zwo (Nat.div_le_self x 2)) d) (Nat.le_trans (Zwo (Nat.div_le_self y 2)) c) (by omega) (by omega) (by omega);refine⟨a,b,t+1, ?_,g, ?_,e,f,by omega,by omega,by omega⟩
     ·grind
     ·have:=Nat.gcd_mul_left 2 (x / 2) (y / 2);grind
   ·rw[decide_eq_false h2,cond_false];exact⟨x,y,0,rfl,.inr (by omega),by omega,hx,hy,Nat.le_refl _,Nat.le_refl _,Nat.zero_le _⟩
  ·rw[decide_eq_false h1,cond_false,cond_false];exact⟨x,y,0,rfl,.inl (by omega),by omega,hx,hy,Nat.le_refl _,Nat.le_refl _,Nat.zero_le _⟩
theorem ZVK:∀(k n a:Nat),k < n->k<=1000000000->(wd (2 ^ k*a)).length<=100000->ZqH n (iL (wd a)) (k:Int)=some (iL (wd (2 ^ k*a)))
 |k,0,a,h,_,_=>absurd h (by omega)
 |0,n+1,a,_,_,_=>by grind[Zt1,ZqH]
 |k+1,n+1,a,h,hk,hl=>by
  show Zt1 (ZqH n) _ _=_;unfold Zt1;have e:2 ^ (k+1)*a=2 ^ k*(2*a+0):=by grind
  have c:(wd a).length<=100000:=Nat.le_trans (Zwo (Nat.le_mul_of_pos_left a (Nat.two_pow_pos _))) hl;rw[e]at hl;have b:=ZM6 a 0 (by omega) c;rw[Int.natCast_zero]at b;rw[decide_eq_true (by omega),cond_true,b,Option.bind_some,show ((k+1:Nat):Int) - 1=(k:Int) by omega,ZiH (by omega),chk_true,ZVK k n (2*a+0) (by omega) (by omega) hl,e]
theorem ZPf (a b:Nat) (ha0:a≠0) (hb0:b≠0) (ha:(wd a).length<=50000) (hb:(wd b).length<=50000):ZuU (iL (wd a)) (iL (wd b))=some (iL (wd (Nat.gcd a b))):=by
 have hla:=ZG4 ha;have hlb:=ZG4 hb;obtain⟨x,y,t,q1,q2,q3,q4,q5,q6,q7,q8⟩:=ZVL big a b 0 (a.log2+1) ha0 hb0 (by omega) (by omega) (ZEq a) (Nat.le_of_lt (ZGQ (by omega))) (by omega);rw[Int.natCast_zero,Nat.zero_add]at q1;have hxl:=Nat.le_trans (Zwo q6) ha;have hyl:=Nat.le_trans (Zwo q7) hb;have hlx:=ZG4 hxl;have hly:=ZG4 hyl;have main:Zo2 big (iL (wd x)) (iL (wd y)) (t:Int)=some (iL (wd (Nat.gcd x y)),(t:Int)):=by
  by_cases hx:x % 2=1
  ·exact ZQH _ big x y _ _ hx (by omega) (by omega) (ZEq x) (ZEq y) (ZGQ (by omega))
  ·have hy:y % 2=1:=by omega
   obtain⟨z,z1,z2,z3,z4⟩:=ZY1 (iL (wd y)) (t:Int) y hy q4 (by omega);have hzl:=Nat.le_trans (Zwo z3) hxl;have hlz:=ZG4 hzl;have e:=ZQH (t:Int) big z y _ _ z2 (by omega) (by omega) (ZEq z) (ZEq y) (ZGQ (by omega));grind[big_eq,Zo2,iL,wd,Zt3,Zu4,ZoN,decide_eq_true,ZRy]
 grind[ZOx,ZuU,ZzM,ZzJ,ZzI,ZVK,ZGQ]
end Go.Proofs
namespace Go.Proofs
open Go Eng
theorem ZPs {l:List Nat} {i:Nat} (b:Dg l) (h:i / 32 < l.length):l[i / 32] / 2 ^ (i % 32) % 2=val l / 2 ^ i % 2:=by
 have e:=ZFM h;have a:=ZCS (b.take (i / 32));rw[Z0C,Z0V (by omega)]at a;have c:2 ^ i=Bw ^ (i / 32)*2 ^ (i % 32):=by grind[Z08,Z06,Z0K]
 have d:i % 32 < 32:=Z0X _ (by decide);have g:Bw=2 ^ (i % 32)*(2*2 ^ (31 - i % 32)):=by rw[show 2*2 ^ (31 - i % 32)=2 ^ (31 - i % 32+1) by omega,<-Z06,show i % 32+(31 - i % 32+1)=32 by omega]
 have f:val l / Bw ^ (i / 32)=l[i / 32]+Bw*val (l.drop (i / 32+1)):=by grind[Z0G,Z0L]
 grind[Nat.div_div_eq_div_mul,Z0Z,Z0G]
end Go.Proofs
namespace Go.Proofs
open Go Eng
theorem ZRm (i:Nat):Int.tdiv (i:Int) 32=((i / 32:Nat):Int):=by simp_all
theorem ZRl (i:Nat):IntKind.wrap .u64 (Int.tmod (i:Int) 32)=((i % 32:Nat):Int):=by grind[IntKind.wrap_u64]
theorem ZWi {l:List Nat} {i:Nat} (a:Dg l) (h:i / 32 < l.length) (c:i<=1000000000):ZyD (iL l) (i:Int)=some ((val l / 2 ^ i % 2:Nat):Int):=by have b:=a.get h;unfold ZyD;rw[ZRm,ZRl,decide_eq_true (by decide),chk_true,ZiH (by omega),chk_true,Zzt h,Z1d,chk_true,decide_eq_true (by omega),chk_true,ZH4 _ (by omega),show (1:Int)=((1:Nat):Int)from rfl,ZK4 (Z0S (Z0M _ _) b) (by decide),Nat.and_one_is_mod,ZPs a h]
end Go.Proofs
namespace Go.Proofs
open Go Eng
theorem ZRv {x j:Nat} (h:x / 2 ^ j % 2=0):x|||2 ^ j=x+2 ^ j:=by
 have a:=Nat.mod_lt x (Nat.two_pow_pos j);have e:x=2 ^ (j+1)*(x / 2 ^ j / 2)+x % 2 ^ j:=by
  grind[Nat.div_add_mod]
 have c:=Nat.two_pow_add_eq_or_of_lt (i:=j+1) (b:=x % 2 ^ j) (by omega) (x / 2 ^ j / 2);have d:=Nat.two_pow_add_eq_or_of_lt (i:=j) (b:=x % 2 ^ j) a 1;grind[Nat.two_pow_add_eq_or_of_lt]
theorem ZSw {j:Nat} (hj:j<=31):shlK .u32 1 (j:Int)=((2 ^ j:Nat):Int):=by have:=ZMi (a:=1) j (by omega);rw[Nat.one_mul,Z0W (Z0S (Z07 (by decide) hj) (by decide))]at this;omega
theorem ZPa {A k:Nat}:A / 2 ^ k=2*(A / 2 ^ (k+1))+A / 2 ^ k % 2:=by rw[Z09,<-Nat.div_div_eq_div_mul];omega
theorem ZPh (a b:Nat) (c:b≠0) (Y:(wd a).length<=50000) (O:(wd b).length<=50000):ZuV (iL (wd a)) (iL (wd b))=some (iL (wd (a / b)),iL (wd (a % b))):=by
 have l:∀k,(wd (2*(a / 2 ^ (k+1) % b)+a / 2 ^ k % 2)).length<=50001:=fun k=>by
  have U:=Nat.mod_lt (a / 2 ^ (k+1)) (Nat.pos_of_ne_zero c);have I:2*(a / 2 ^ (k+1) % b)+a / 2 ^ k % 2<=b+b:=by omega
  exact Nat.le_trans (Zwo I) (ZKh O O)
 refine Zo1 ?_;unfold ZuV;rw[Zhr,Zhr,Zhr,ZhS,ZoN,Int.toNat_natCast,ZJV];refine⟨ZG3 (by omega),ZiH (by omega),ZiH (by omega), ?_⟩;have B:(32*((wd a).length:Int)) - 1=((32*(wd a).length:Nat):Int) - 1:=by omega
 rw[B,show ([]:List Int)=iL (wd 0) by rw[Zz8];rfl];refine Zjf (ZIA ZFC (32*(wd a).length) (by omega) (fun i (q:Nat×List Nat)=>(iL (wd a),iL (wd b),iL (wd q.1),i,iL q.2))
  (fun k q=>q.1=a / 2 ^ k % b/\Dg q.2/\q.2.length=(wd a).length/\val q.2=a / 2 ^ k / b*2 ^ k)
  (Q:=fun y=>∃o:List Nat,y=(iL (wd (a % b)),iL o)/\Dg o/\o.length=(wd a).length/\val o=a / b) (0,List.replicate (wd a).length 0) ?_ ?_ ?_) ?_
 ·grind[Nat.div_eq_of_lt,Nat.pow_mul,ZC8,Nat.zero_mod,Nat.zero_div,ZPj,ZMb]
 ·rintro G k ⟨r,q⟩ W ⟨t,p,L,x⟩ S;dsimp only at t p L x;have j:k / 32 < (wd a).length:=by omega
  unfold Zx9 Zt4;dsimp only;have f:=ZWi (i:=k) (ZBn a) j (by omega);rw[ZxJ]at f;have I:a / 2 ^ k % 2<=1:=by omega
  have E:=ZM6 r (a / 2 ^ k % 2) I (by
   rw[t];exact Nat.le_trans (Zwo (Nat.le_of_lt (Nat.mod_lt _ (Nat.pos_of_ne_zero c)))) (by omega))
  have F:=l k;rw[<-t]at F;have C:=ZPa (A:=a) (k:=k);have D:=Nat.div_add_mod (a / 2 ^ (k+1)) b;rw[<-t]at D;have K:r < b:=by rw[t];exact Nat.mod_lt _ (Nat.pos_of_ne_zero c)
  rw[Zoy];refine⟨fun _=> ?_,fun h=>by grind⟩;rw[f,ZhS,Zfa,E,ZhS,Zfa,ZK1 _ _ (by omega) (by omega),ZhS,Zfa,Zoy];have J:∀w g,(w=a / 2 ^ k % b/\Dg g/\g.length=(wd a).length/\val g=a / 2 ^ k / b*2 ^ k)->wp (Zss (fun a b R i q=>G (a,b,R,i,q)) (iL (wd a)) (iL (wd b)) (iL (wd w)) (k:Int) (iL g)) (fun y=>∃o:List Nat,y=(iL (wd (a % b)),iL o)/\Dg o/\o.length=(wd a).length/\val o=a / b):=fun w g h=>by unfold Zss;rw[Zhr];exact⟨ZiH (by omega),S (w,g) h⟩
  generalize eX:a / 2 ^ (k+1)=X at*
  generalize ed:a / 2 ^ k % 2=d at*
  refine⟨fun u=> ?_,fun u=> ?_⟩
  ·have H:b<=2*r+d:=by
    grind[ZF2]
   have z:k / 32 < q.length:=by omega
   have N:q[k / 32] / 2 ^ (k % 32) % 2=0:=by rw[ZPs p z,x,Nat.pow_succ,<-Nat.mul_assoc,Nat.mul_right_comm,Nat.mul_div_cancel _ (Nat.two_pow_pos k)];omega
   have e:=p.get z;rw[ZJD _ _ H (by omega),ZhS,Zfa,ZRm,ZRl,Int.toNat_natCast,Zhr,Zhr,Zhr,ZHD z,ZhS,Zfa,Zhr,Zhr,Zhr,ZSw (by omega),ZLD e (Nat.lt_of_le_of_lt (Nat.pow_le_pow_right (by decide) (show k % 32<=31 by omega)) (by decide)),ZRv N,ZGc,ZoN];refine⟨by decide,ZiH (by omega),Zs1 ⟨by omega,by omega⟩,by decide,decide_eq_true (by omega),Zs1 ⟨by omega,by omega⟩, ?_⟩;have m:q[k / 32]+2 ^ (k % 32) < Bw:=by
    have Z:Bw=2 ^ (k % 32)*(2*2 ^ (31 - k % 32)):=by rw[show 2*2 ^ (31 - k % 32)=2 ^ (31 - k % 32+1) by omega,<-Nat.pow_add,show k % 32+(31 - k % 32+1)=32 by omega]
    rw[<-ZRv N];exact Nat.or_lt_two_pow (n:=32) e (Nat.lt_of_le_of_lt (Nat.pow_le_pow_right (by decide) (show k % 32<=31 by omega)) (by decide))
   refine J (2*r+d - b) (q.set (k / 32) (q[k / 32]+2 ^ (k % 32))) ⟨?_,p.set _ m,by simp_all, ?_⟩
   ·rw[C,show 2*X+d=(2*r+d - b)+b*(2*(X / b)+1) by grind,Nat.add_mul_mod_self_left,Nat.mod_eq_of_lt (by omega)]
   ·have s:=ZGj q (k / 32) (q[k / 32]+2 ^ (k % 32)) z;have P:Bw ^ (k / 32)*2 ^ (k % 32)=2 ^ k:=by rw[show Bw=2 ^ 32 from rfl,<-Nat.pow_mul,<-Nat.pow_add,Nat.div_add_mod]
    rw[Nat.mul_add,P]at s;have T:(2*X+d) / b=2*(X / b)+1:=by rw[show 2*X+d=(2*r+d - b)+b*(2*(X / b)+1) by rw[Nat.mul_add,Nat.mul_left_comm];omega,Nat.add_mul_div_left _ _ (Nat.pos_of_ne_zero c),Nat.div_eq_of_lt (by omega),Nat.zero_add]
    rw[C,T];rw[x,Nat.pow_succ]at s;have V:X / b*(2 ^ k*2)=2*(X / b)*2 ^ k:=by rw[Nat.mul_comm (2 ^ k) 2,<-Nat.mul_assoc,Nat.mul_comm (X / b) 2]
    grind
  ·have v:2*r+d < b:=by
    rcases Nat.lt_or_ge (2*r+d) b with h |h
    ·exact h
    ·rcases Nat.lt_or_ge b (2*r+d)with M |M
     ·rw[ZFg M]at u;exact absurd (of_decide_eq_false u) (by decide)
     ·rw[show 2*r+d=b by omega,ZDj]at u;exact absurd (of_decide_eq_false u) (by decide)
   have B:2*X+d=(2*r+d)+b*(2*(X / b)):=by rw[Nat.mul_left_comm];omega
   refine J (2*r+d) q ⟨?_,p,L, ?_⟩
   ·rw[C,B,Nat.add_mul_mod_self_left,Nat.mod_eq_of_lt v]
   ·rw[C,B,Nat.add_mul_div_left _ _ (Nat.pos_of_ne_zero c),Nat.div_eq_of_lt v,Nat.zero_add,x,Nat.pow_succ,Nat.mul_comm (2 ^ k) 2,<-Nat.mul_assoc,Nat.mul_comm (X / b) 2]
 all_goals grind[Zx9,Zt4,Zfa,ZzN,ZHQ]
end Go.Proofs
namespace Go.Proofs
open Go Eng
theorem ZKv (n:Int):Rat.divInt n 1=(n:Rat):=by grind[Rat.num_divInt_den,Rat.num_intCast,Rat.den_intCast]
end Go.Proofs
namespace Go.Proofs
open Go Eng
theorem ZEr (z:Int) (h1: -9223372036854775808<=z) (h2:z<=9223372036854775807):ZoR z=some (bg z):=by
 have key:∀(b:Bool) (n:Nat),n < 18446744073709551616->ZoX b [IntKind.wrap .u32 (n:Int),IntKind.wrap .u32 (shrK .u64 (n:Int) 32)]=some (bg (if b then -(n:Int)else n)):=fun b n h=>by
  have e:([IntKind.wrap .u32 (n:Int),IntKind.wrap .u32 (shrK .u64 (n:Int) 32)]:List Int)=iL [n % 4294967296,n / 4294967296]:=by rw[show (32:Int)=((32:Nat):Int)from rfl,ZGl 32 (by omega),Zz7,ZAQ (by omega)];rfl
  grind[Dg,val,ZH9]
 unfold ZoR ZsT;have h32:decide (0<=(32:Int))=true:=rfl
 by_cases hz:z < 0
 ·have e:IntKind.wrap .u64 (0 - IntKind.wrap .u64 z)=((z.natAbs:Nat):Int):=by grind[IntKind.wrap_u64]
  grind[chk_true]
 ·have e:IntKind.wrap .u64 z=((z.natAbs:Nat):Int):=by grind[IntKind.wrap_u64]
  grind[chk_true]
theorem ZTo:bg 0=⟨false,[]⟩:=by unfold bg;rw[show (0:Int).natAbs=0 from rfl,Zz8];rfl
theorem ZHS (x y:Int) (hy:y≠0) (hx1:Wl 50000 x) (hy1:Wl 50000 y):ZqG (bg x) (bg y)=some (fOf (Rat.divInt x y)):=by
 unfold ZqG
 by_cases hx:x=0
 ·subst hx;rw[Rat.zero_divInt,ZqC,ZoN,show (0:Int).natAbs=0 from rfl,Zz8,ZEr 1 (by decide) (by decide)];show some (ZbF.mk ⟨false,[]⟩ (bg 1))=some (fOf 0);rw[<-ZTo];rfl
 ·have hx0:0 < x.natAbs:=by omega
  have hy0:0 < y.natAbs:=by omega
  have hg0:Nat.gcd x.natAbs y.natAbs≠0:=fun e=>by simp_all
  have hgl:=ZOx (x:=x.natAbs) hy0 hy1;have hxl:=ZM4 (Nat.gcd x.natAbs y.natAbs) hx1;have hyl:=ZM4 (Nat.gcd x.natAbs y.natAbs) hy1;have h:=ZGH x y hy hx1 hy1;unfold Zr7 at h;rw[ZqC,ZqC,ZJ1 _ _ hx1 hy1,Option.bind_some,ZIN _ _ hg0 hx1 hgl,Option.bind_some]at h;dsimp only at h;rw[ZIN _ _ hg0 hy1 hgl,Option.bind_some]at h;dsimp only at h;rw[ZAS _ _ (by omega),Option.bind_some,ZAS _ _ (by omega),Option.bind_some]at h;have hlen:=Zu4 (n:=x.natAbs) (by omega);rw[<-h,ZqC,ZqC,ZoN,beq_eq_false_iff_ne.2 (by omega),cond_false,ZPf _ _ (by omega) (by omega) hx1 hy1,Option.bind_some,ZPh _ _ hg0 hx1 hgl,Option.bind_some];grind[ZPh,ZH9,ZBn,ZxJ]
theorem ZQC (x y:Int) (c:y≠0) (b:Wl 256 x) (a:Wl 256 y):Zxr (bg x) (bg y)=some (fOf (Rat.divInt x y),0):=by grind[Zxr,ZuH,ZGi,ZGW,ZGN,ZHS]
theorem ZVF (x y:Int) (b:y≠0) (a: -9223372036854775808<=x) (d:x<=9223372036854775807) (e: -9223372036854775808<=y) (c:y<=9223372036854775807):Zv4 x y=some (fOf (Rat.divInt x y),0):=by grind[Zv4,ZEr,ZQC,wl64]
theorem ZJN (x y:Int) (b:y≠0) (a: -9223372036854775808<=x) (d:x<=9223372036854775807) (e: -9223372036854775808<=y) (c:y<=9223372036854775807):ZqE x y=some (fOf (Rat.divInt x y)):=by grind[ZqE,ZC7,ZAz,ZVF]
theorem ZIw (x:Int) (a: -9223372036854775808<=x) (b:x<=9223372036854775807):Zpa x=some (fOf (x:Rat)):=by grind[Zpa,ZC7,ZBq,ZJN,ZKv]
theorem ZU5 {a b:Nat} (h:wd a=wd b):a=b:=by grind[ZxJ]
theorem ZKo (x y:Int) (f:Wl 100000 x) (d:Wl 100000 y):ZrS (bg x) (bg y)=some (decide (x=y)):=by
 unfold Wl at f d;refine Zo1 ?_;unfold ZrS ZsP;rw[ZE3,ZE3,ZqC,ZqC,ZoN,ZoN]
 by_cases hs:decide (x < 0)=decide (y < 0)
 ·rw[hs,beq_self_eq_true,Bool.not_true,cond_false]
  by_cases hl:(wd x.natAbs).length=(wd y.natAbs).length
  ·rw[hl,bne_self_eq_false,cond_false,ZhS];refine Zjf (Zti ZEa (wd y.natAbs).length (by omega) (fun i (_:Unit)=>(iL (wd x.natAbs),((wd y.natAbs).length:Int),i,bg y)) (fun i _=>(wd x.natAbs).take i=(wd y.natAbs).take i)
    (Q:=fun r=>r= .ret false/\wd x.natAbs≠wd y.natAbs\/r= .brk ()/\wd x.natAbs=wd y.natAbs) () (by simp_all) ?_ ?_) ?_
   ·rintro c i ⟨⟩ b j e;have a:i < (wd x.natAbs).length:=by omega
    unfold Zu9 ZrA;dsimp only;rw[Zoy];refine⟨fun _=> ?_,fun h=>by simp_all⟩;rw[ZqC,Zzt a,ZhS,Zfa,Zzt b,ZhS,Zfa,Zoy];refine⟨fun h=> ?_,fun h=> ?_⟩
    ·grind[Zfa]
    ·rw[Zhr];refine⟨ZiH (by omega),e () ?_⟩;rw[bne_eq_false_iff_eq]at h;have g:(wd y.natAbs)[i]=(wd x.natAbs)[i]:=by omega
     grind[List.take_succ_eq_append_getElem]
   all_goals grind[Zu9,ZrA,Zfa,ZwH,ZU5]
  grind[Zfa]
 grind[Zfa]
theorem ZHq (p q:Rat) (a:Wq 256 p) (b:Wq 256 q):Zo5 (fOf p) (fOf q)=some (decide (p=q)):=by
 have m:∀{x:Int},Wl 256 x->Wl 100000 x:=fun h=>Z0R h (by decide)
 unfold Zo5 Zuz fOf;dsimp only;rw[ZKo _ _ (m a.1) (m b.1),Z1d];grind[ZKo,Rat.ext,decide_eq_false]
end Go.Proofs
namespace Go.Proofs
open Go Eng
theorem ZSW (a b:Nat) (M:(wd a).length<=100000) (H:(wd b).length<=100000):ZyC (iL (wd a)) (iL (wd b))=some (iL (wd (a*b))):=by
 refine Zo1 ?_;unfold ZyC;rw[ZoN,ZoN,Zhr,Zhr,ZhS,<-Int.natCast_add,Int.toNat_natCast,ZJV];refine⟨ZiH (by omega),ZG3 (by omega), ?_⟩;generalize hm:(wd a).length=m at M|-
 generalize hn:(wd b).length=n at H|-
 refine Zjf (Zti ZFB m (by omega) (fun i (s:List Nat)=>(iL (wd a),iL (wd b),i,iL s)) (fun i s=>s.length=m+n/\Dg s/\val s=val ((wd a).take i)*b/\∀k,i+n<=k->k < m+n->s[k]? =some 0)
  (Q:=fun y=>∃(o:List Nat),y=iL o/\Dg o/\o.length=m+n/\val o=a*b) (List.replicate (m+n) 0) ⟨by simp,ZPj _,by grind[ZMb,val],fun k _ h=>by simp_all⟩ ?_ ?_) ?_
 ·rintro I i s P ⟨G,L,F,O⟩ N;have A:i < (wd a).length:=by omega
  have z:=(ZBn a).get A;unfold Zx6 Zt0;dsimp only;rw[Zoy,ZoN,hm];refine⟨fun _=> ?_,fun h=>by simp_all⟩;rw[ZhS];generalize ex:(wd a)[i]=x at z;refine Zjf (Zti ZFA n (by omega) (fun j (t:Nat×List Nat)=>(iL (wd a),iL (wd b),(i:Int),(t.1:Int),j,iL t.2)) (fun j t=>t.1 < Bw/\t.2.length=m+n/\Dg t.2/\val t.2+Bw ^ (i+j)*t.1=val s+Bw ^ i*(x*val ((wd b).take j))/\∀k,i+n<=k->k < m+n->t.2[k]? =some 0)
   (Q:=fun y=>∃(c:Nat) (o:List Nat),y=(iL (wd a),iL (wd b),(i:Int),(c:Int),iL o)/\c < Bw/\o.length=m+n/\Dg o/\val o+Bw ^ (i+n)*c=val s+Bw ^ i*(x*b)/\∀k,i+n<=k->k < m+n->o[k]? =some 0) (0,s) ⟨by omega,G,L,by simp[val],O⟩ ?_ ?_) ?_
  ·rintro r j ⟨c,o⟩ R ⟨p,l,d,g,f⟩ v;dsimp only at p l d g f v;have u:j < (wd b).length:=by omega
   have B:=(ZBn b).get u;have q:i+j < o.length:=by omega
   have C:=d.get q;unfold Zx5 ZtZ;dsimp only;rw[Zoy,ZoN,hn];refine⟨fun _=> ?_,fun h=>by grind⟩;rw[Zzt A,ex,ZhS,Zfa,Zzt u,ZhS,Zfa,Zhr,Zhr,<-Int.natCast_add,Int.toNat_natCast,ZHD q,ZhS,Zfa,Zhr,Zhr,Zhr,Zhr];generalize ey:(wd b)[j]=y at B;generalize ee:o[i+j]=e at C;rw[ZVI p z B C,Zz7,show (32:Int)=((32:Nat):Int)from rfl,ZGl 32 (by omega),ZoN,ZGc];refine⟨ZiH (by omega),Zs1 ⟨by omega,by omega⟩,ZiH (by omega),Zs1 ⟨by omega,by omega⟩,by decide,ZiH (by omega), ?_⟩;refine v ((c+x*y+e) / Bw,o.set (i+j) ((c+x*y+e) % Bw)) ⟨ZRx p z B C,by grind,d.set _ (Nat.mod_lt _ (by decide)), ?_,fun k J w=> ?_⟩
   ·dsimp only;grind[ZGj,Nat.mod_add_div,Nat.mul_assoc,Zpk,Nat.pow_add,Nat.mul_left_comm]
   grind
  ·rintro r ⟨c,o⟩ ⟨p,l,d,g,f⟩;dsimp only at p l d g f;unfold Zx5 ZtZ;dsimp only;rw[Zoy,ZoN,hn];refine⟨fun h=>by have:=of_decide_eq_true h;omega,fun _=> ?_⟩;rw[Zfa];rw[List.take_of_length_le (by omega),ZxJ]at g;exact⟨c,o,rfl,p,l,d,g,f⟩
  ·rintro y ⟨c,o,rfl,p,l,d,g,f⟩;dsimp only;unfold ZzH;rw[ZoN,hn,Zhr,Zhr,Zhr,<-Int.natCast_add,Int.toNat_natCast,ZAQ p,ZGc,ZoN];refine⟨ZiH (by omega),Zs1 ⟨by omega,by omega⟩,ZiH (by omega), ?_⟩;have E:i+n < o.length:=by omega
   have K:o[i+n]=0:=by have:=f (i+n) (Nat.le_refl _) (by omega);rw[List.getElem?_eq_getElem E]at this;exact Option.some.inj this
   have D:=ZGj o (i+n) c E;rw[K,Nat.mul_zero,Nat.add_zero]at D;refine N (o.set (i+n) c) ⟨by simp[l],d.set _ p, ?_,fun k J w=> ?_⟩
   ·rw[D,g,F,Zpk A,ex,Nat.add_mul,Nat.mul_assoc]
   ·rw[List.getElem?_set_ne (by omega)];exact f k (by omega) w
 all_goals grind[Zx6,Zt0,ZoN,Zfa,ZxJ,ZzG,ZHQ]
theorem ZTt (a b:Nat) (ha:(wd a).length<=100000) (hb:(wd b).length<=100000):∃o:List Nat,ZuW (iL (wd a)) (iL (wd b))=some (iL o)/\Dg o/\o.length<=100001/\val o=a+b:=by
 obtain⟨m,hma,hmb,hm2,hmx⟩:∃m:Nat,(wd a).length<=m/\(wd b).length<=m/\m<=100000/\∀i,i < m->i < (wd a).length\/i < (wd b).length:=by
  by_cases h:(wd a).length<=(wd b).length
  ·exact⟨(wd b).length,h,Nat.le_refl _,hb,fun i hi=> .inr hi⟩
  ·exact⟨(wd a).length,Nat.le_refl _,by omega,ha,fun i hi=> .inl hi⟩
 suffices h:wp (ZuW (iL (wd a)) (iL (wd b))) (fun x=>∃o:List Nat,x=iL o/\Dg o/\o.length<=100001/\val o=a+b) by obtain⟨x,hx,o,rfl,h⟩:=h;grind
 unfold ZuW;rw[ZhS];refine Zjf (Zti ZFE m (by omega) (fun i (s:Nat×List Nat)=>(iL (wd a),iL (wd b),(s.1:Int),i,iL s.2)) (fun i s=>s.1<=1/\s.2.length=i/\Dg s.2/\val s.2+Bw ^ i*s.1=val ((wd a).take i)+val ((wd b).take i))
  (Q:=fun y=>∃(c:Nat) (o:List Nat),y=((c:Int),iL o)/\c<=1/\Dg o/\o.length=m/\val o+Bw ^ m*c=a+b) (0,[]) ⟨by simp,rfl,ZHG,by simp[val]⟩ ?_ ?_) ?_
 ·rintro rec i ⟨c,o⟩ hlt ⟨hc,hl,hd,hv⟩ ih;dsimp only at hc hl hd hv ih;have h1:=ZH7 (ZBn a) i;have h2:=ZH7 (ZBn b) i;have j3:∀x y:Nat,(wd a).getD i 0=x->(wd b).getD i 0=y->wp (Zst (fun a b c i out=>rec (a,b,c,i,out)) (iL (wd a)) (iL (wd b)) ((c+x+y:Nat):Int) (i:Int) (iL o)) (fun y=>∃(c:Nat) (o:List Nat),y=((c:Int),iL o)/\c<=1/\Dg o/\o.length=m/\val o+Bw ^ m*c=a+b):=fun x y ex ey=>by
   rw[ex]at h1;rw[ey]at h2;unfold Zst;rw[Zhr,Zhr,Zhr,Zz7,show (32:Int)=((32:Nat):Int)from rfl,ZGl 32 (by omega),ZoN];refine⟨ZpN (by grind),by decide,ZiH (by omega), ?_⟩;have:=ih ((c+x+y) / Bw,o++[(c+x+y) % Bw]) ⟨by grind,by grind,hd.app (ZGM (Nat.mod_lt _ (by decide))), ?_⟩
   ·rw[ZJW]at this;exact this
   grind[ZBD,ZFr,Nat.mod_add_div]
  have j2:∀x:Nat,(wd a).getD i 0=x->wp (Zsu (fun a b c i out=>rec (a,b,c,i,out)) (iL (wd a)) (iL (wd b)) ((c+x:Nat):Int) (i:Int) (iL o)) (fun y=>∃(c:Nat) (o:List Nat),y=((c:Int),iL o)/\c<=1/\Dg o/\o.length=m/\val o+Bw ^ m*c=a+b):=fun x ex=>by
   have hx:=h1;rw[ex]at hx;unfold Zsu;rw[ZoN,Zoy];refine⟨fun h=> ?_,fun h=> ?_⟩
   ·have hib:i < (wd b).length:=by simp_all
    have ey:(wd b).getD i 0=(wd b)[i]:=by simp_all
    have hy:=(ZBn b).get hib;rw[Zzt hib,ZhS,Zfa,Zpi (by grind),<-Int.natCast_add,Zpi (by grind)];simp_all
   simp_all
  have j1:wp (ZqJ (fun a b c i out=>rec (a,b,c,i,out)) (iL (wd a)) (iL (wd b)) (c:Int) (i:Int) true (iL o)) (fun y=>∃(c:Nat) (o:List Nat),y=((c:Int),iL o)/\c<=1/\Dg o/\o.length=m/\val o+Bw ^ m*c=a+b):=by
   unfold ZqJ;rw[cond_true,ZoN,Zoy];refine⟨fun h=> ?_,fun h=> ?_⟩
   ·have hib:i < (wd a).length:=by have:=of_decide_eq_true h;omega
    have ey:(wd a).getD i 0=(wd a)[i]:=by rw[List.getD_eq_getElem?_getD,List.getElem?_eq_getElem hib];rfl
    have hy:=(ZBn a).get hib;rw[Zzt hib,ZhS,Zfa,Zpi (by simp only[Bw]at hy;omega),<-Int.natCast_add,Zpi (by simp only[Bw]at hy;omega)];simp_all
   simp_all
  grind[Zyb,Zt6,ZoN]
 ·rintro rec ⟨c,o⟩ ⟨hc,hl,hd,hv⟩;dsimp only at hc hl hd hv;unfold Zyb Zt6;dsimp only;rw[ZoN,ZoN,decide_eq_false (by omega),cond_false,decide_eq_false (by omega)];unfold ZqJ;rw[cond_false,Zfa];rw[List.take_of_length_le hma,List.take_of_length_le hmb,ZxJ,ZxJ]at hv;exact⟨c,o,rfl,hc,hd,hl,hv⟩
 ·rintro y ⟨c,o,rfl,hc,hd,hl,hv⟩;dsimp only;unfold ZzP;have e:iL o++[(c:Int)]=iL (o++[c]):=by rw[ZJW];rfl
  rw[ZAQ (by omega),Zhr,ZoN,e,Zfa];exact⟨ZpN (by simp only[List.length_singleton];omega),_,rfl,hd.app (ZGM (by unfold Bw;omega)),by simp;omega,by rw[ZBD,hl,hv]⟩
end Go.Proofs
namespace Go.Proofs
open Go Eng
theorem ZAR (x y:Int) (hx:Wl 50000 x) (hy:Wl 50000 y):Zjm (bg x) (bg y)=some (bg (x*y)):=by unfold Zjm;have:=ZIh hx hy;rw[ZqC,ZqC,ZSW _ _ (by omega) (by omega),Z1d,ZH9 _ (ZBn _) (by omega),ZxJ,Z1d,ZPu]
theorem ZJq (x y:Int) (hx:Wl 50000 x) (hy:Wl 50000 y):Zpr (bg x) (bg y)=some (bg (x+y)):=by
 unfold Wl at hx hy;unfold Zpr;have h1:=ZKh hx hy;rw[ZqC,ZqC,ZE3,ZE3];have opp:decide (x < 0)≠decide (y < 0)->ZpD (iL (wd x.natAbs)) (iL (wd y.natAbs))=some (ZKs x.natAbs y.natAbs):=fun _=>ZK1 _ _ (by omega) (by omega)
 by_cases hs:decide (x < 0)=decide (y < 0)
 ·obtain⟨o,ho,hd,hl,hv⟩:=ZTt x.natAbs y.natAbs (by omega) (by omega);grind[ZH9]
 ·rw[beq_eq_false_iff_ne.2 hs,cond_false,opp hs,Option.bind_some];rcases Nat.lt_or_ge x.natAbs y.natAbs with hlt |hge
  ·have:=Zwo (Nat.sub_le y.natAbs x.natAbs);rw[ZF2 hlt,decide_eq_false (by omega),cond_false,ZJD _ _ (by omega) (by omega),Option.bind_some,ZH9 _ (ZBn _) (by omega),ZxJ,Option.bind_some];grind
  ·have hn:ZKs x.natAbs y.natAbs>=0:=by
    grind[ZFg,ZDj]
   have:=Zwo (Nat.sub_le x.natAbs y.natAbs);grind[ZJD,ZH9,ZBn,ZxJ]
theorem ZJS (z:Int) (hz:Wl 100000 z):Zqe (bg z)=some (bg (-z)):=by
 grind[Zqe,ZE3,ZqC,ZH9,ZBn,ZxJ]
theorem ZEA (q:Rat) (h:Wq 256 q):ZoU (fOf q)=some true:=by
 have a:=h.1;have c:=h.2;have b:=q.den_nz;unfold ZoU Zqb fOf;dsimp only;rw[ZGi,ZGW _ h.1,Z1d,ZVx,cond_false,ZGi,ZGW _ h.2,Z1d,ZVx,cond_false,ZE3,decide_eq_false (by omega),cond_false,ZGN (by omega),cond_false,ZqC,ZqC,ZoN];unfold Wl at a c;have d:(wd 1).length<=1:=ZEz (by decide);have e:Z0O q.num.natAbs (q.den:Int).natAbs=1:=q.reduced
 by_cases h0:q.num=0
 all_goals grind[Zz8,ZLE,ZK1,ZDj,Zu4,ZPf]
theorem ZIL (x y:Int) (e:y≠0) (b:Wl 50000 x) (a:Wl 50000 y) (c:Wq 256 (Rat.divInt x y)):ZqF (bg x) (bg y)=some (fOf (Rat.divInt x y),0):=by have d:=c.1;have f:=c.2;unfold Wl at d f;unfold ZqF Ztz;rw[ZHS x y e b a,Z1d];unfold fOf;rw[ZqC,ZqC,ZoN,ZoN,decide_eq_false (by omega),cond_false,decide_eq_false (by omega),cond_false]
theorem ZTu {a b:Rat} {k l:Nat} (i:Sz k a) (j:Sz l b) (p:k+l+1<=8192):ZyG (fOf a) (fOf b)=some (fOf (a+b),0):=by
 have B:=a.den_nz;have C:=b.den_nz;have c:=i.wq (by omega);have d:=j.wq (by omega);have w:∀{x y:Int},Wl 256 x->Wl 256 y->Wl 512 (x*y):=fun u o=>by unfold Wl;rw[Z0u];exact ZIh u o
 have m:∀{n:Nat} {x:Int},Wl n x->n<=50000->Wl 50000 x:=fun h t=>Z0R h t
 have f:=w c.1 d.2;have g:=w d.1 c.2;have z:=w c.2 d.2;have A:Wl 513 (a.num*(b.den:Int)+b.num*(a.den:Int)):=Z0R (Zwo (Int.natAbs_add_le _ _)) (ZKh f g);have v:(a.den:Int)*(b.den:Int)≠0:=Z0t (by omega) (by omega);unfold ZyG ZvP;rw[ZEA a c,Z1d,ZVx,cond_false,ZEA b d,Z1d,ZVx,cond_false];show ((Zjm (bg a.num) (bg (b.den:Int))).bind fun q=>(Zjm (bg b.num) (bg (a.den:Int))).bind fun e=>(Zpr q e).bind fun s=>(Zjm (bg (a.den:Int)) (bg (b.den:Int))).bind _)=_;rw[ZAR _ _ (m c.1 (by omega)) (m d.2 (by omega)),Z1d,ZAR _ _ (m d.1 (by omega)) (m c.2 (by omega)),Z1d,ZJq _ _ (m f (by omega)) (m g (by omega)),Z1d,ZAR _ _ (m c.2 (by omega)) (m d.2 (by omega)),Z1d];have r:Wq 256 (Rat.divInt (a.num*(b.den:Int)+b.num*(a.den:Int)) ((a.den:Int)*(b.den:Int))):=by rw[ZGR];exact(i.add j).wq p
 rw[ZIL _ _ v (m A (by omega)) (m z (by omega)) r,ZGR,Z1d]
theorem ZID {a b:Rat} {k l:Nat} (c:Sz k a) (d:Sz l b) (e:k+l+1<=8192):ZpY (fOf a) (fOf b)=some (fOf (a+b)):=by unfold ZpY;rw[ZTu c d e];rfl
theorem ZPq {a b:Rat} (c:Wq 256 a) (d:Wq 256 b):ZuX (fOf a) (fOf b)=some (ZLf a b):=by
 have w:∀{x y:Int},Wl 256 x->Wl 256 y->Wl 50000 (x*y):=fun k i=>by unfold Wl;rw[Int.natAbs_mul];exact Nat.le_trans (ZIh k i) (by decide)
 have m:∀{x:Int},Wl 256 x->Wl 50000 x:=fun h=>Nat.le_trans h (by decide)
 unfold ZuX ZvO;rw[ZEA a c,Option.bind_some,Bool.not_true,cond_false,ZEA b d,Option.bind_some,Bool.not_true,cond_false];show ((Zjm (bg a.num) (bg (b.den:Int))).bind fun q=>(Zjm (bg b.num) (bg (a.den:Int))).bind _)=_;rw[ZAR _ _ (m c.1) (m d.2),Option.bind_some,ZAR _ _ (m d.1) (m c.2),Option.bind_some,ZJS _ (Nat.le_trans (w d.1 c.2) (by decide)),Option.bind_some];have j:Wl 50000 (-(b.num*(a.den:Int))):=by grind[Int.natAbs_neg]
 rw[ZJq _ _ (w c.1 d.2) j,Option.bind_some,ZE3,ZqC,ZoN];unfold ZLf;have f:=ZJr a b;have g:=ZJr b a;generalize a.num*(b.den:Int)=x at*
 generalize b.num*(a.den:Int)=y at*
 by_cases hl:a < b
 ·have e:=f.1 hl;have:=Zu4 (n:=(x+ -y).natAbs) (by omega);rw[if_pos hl,beq_eq_false_iff_ne.2 (by omega),cond_false,decide_eq_true (by omega),cond_true]
 ·have o:¬x < y:=fun h=>hl (f.2 h)
  rw[if_neg hl]
  by_cases hg:b < a
  ·have e:=g.1 hg;have:=Zu4 (n:=(x+ -y).natAbs) (by omega);rw[if_pos hg,beq_eq_false_iff_ne.2 (by omega),cond_false,decide_eq_false (by omega),cond_false]
  ·have l:¬y < x:=fun h=>hg (g.2 h)
   rw[if_neg hg,show x+ -y=0 by omega,show (0:Int).natAbs=0 from rfl,Zz8];rfl
theorem ZJT {a b:Rat} (c:Wq 256 a) (d:Wq 256 b):ZrB (fOf a) (fOf b)=some (decide (a < b)):=by
 grind[ZrB,ZPq,ZLf,decide_eq_false]
theorem ZEy:ZlB=some (fOf 0):=by unfold ZlB;rw[ZIw 0 (by decide) (by decide),Z1d];rfl
end Go.Proofs
