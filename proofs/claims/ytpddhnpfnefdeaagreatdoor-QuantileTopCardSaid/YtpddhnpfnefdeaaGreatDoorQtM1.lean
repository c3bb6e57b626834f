/- Plain laws over the specs, part 1. -/
import Derived.Test.YtpddhnpfnefdeaaGreatDoorQtM0
set_option linter.all false
open Bool renaming not_true->ZSL
open Int renaming toNat_natCast->ZXn, natAbs_natCast->ZXj, natAbs_neg->ZXk, natAbs_mul->ZXi, natCast_add->ZXl, natCast_mul->ZXm
open List renaming getD_eq_getElem?_getD->ZXo, take_of_length_le->ZXD, length_take->ZXw, replicate->ZXz, getElem?_eq_getElem->ZXp, mem_cons->ZXx, length_singleton->ZXv, take_length->ZXC, getElem?_eq_none->ZXq, getElem_cons_drop->ZXs, length_replicate->ZXu, length_append->ZXt, not_mem_nil->ZXy, take_append_drop->ZXB, getElem_append_right->ZXr, set_append_right->ZXA
open Nat renaming le_trans->ZXR, gcd->ZXN, pow_succ->ZYb, mul_assoc->ZX0, mul_add->ZXZ, mod_lt->ZXY, mul_comm->ZX1, mul_zero->ZX5, add_zero->ZXI, pow_zero->ZYc, le_refl->ZXQ, pow_add->ZX8, two_pow_pos->ZYe, lt_or_ge->ZXU, pow_le_pow_right->ZX9, min_eq_left->ZXV, mul_le_mul_left->ZX2, add_mul->ZXE, one_mul->ZX6, le_of_lt->ZXP, lt_of_le_of_lt->ZXS, zero_add->ZYf, div_add_mod->ZXJ, mod_eq_of_lt->ZXX, div_le_self->ZXL, div_eq_of_lt->ZXK, lt_of_lt_of_le->ZXT, eq_zero_or_pos->ZXM, mul_left_comm->ZX3, gcd_comm->ZXO, pow_mul->ZYa, pos_of_ne_zero->ZX7, add_mul_mod_self_left->ZXH, mod_add_div->ZXW, add_mul_div_left->ZXF, add_mul_div_right->ZXG, mul_lt_mul_of_lt_of_le->ZX4, two_pow_add_eq_or_of_lt->ZYd
open Option renaming bind_some->ZYg
namespace Go.Proofs
open Go Eng
theorem ZLd (l:List Nat) (h:l.length<=1000000):Zqp (iL l)=some (iL l):=by
 cases l with
 |nil=>
  have a:ZnO [] true=some []:=rfl;have b:ZnO [] false=some []:=by kernel_rfl
  show agree (ZnO [] true) (ZnO [] false)=some [];rw[a,b,ZLG]
 |cons x l=>
  show ZnO (iL (x::l)) false=_;unfold ZnO;rw[cond_false,Ztn (by rw[Zn0,List.length_nil];omega),chk_true];rfl
theorem ZHB {l:List Nat} {k:Nat} (h:val l < Bw ^ k):val (l.take k)=val l:=by
 rcases ZXU k l.length with b |b
 ·have e:val l=val (l.take k++l.drop k):=by rw[ZXB]
  rw[ZFt,ZXw,ZXV (by omega)]at e;rcases ZXM (val (l.drop k))with a |a
  ·rw[a,ZX5,ZXI]at e;exact e.symm
  ·have:=ZX2 (Bw ^ k) a;omega
 ·rw[ZXD b]
theorem ZVr (u:List Nat) (k:Nat) (p:k<=u.length) (n:k<=1000000):∃a,a<=k/\val (u.take a)=val (u.take k)/\Zyo (iL u) 0 k=some (0,a,iL u):=by
 have h:wp (ZzN (iL u) 0 k) (fun y=>∃a,a<=k/\val (u.take a)=val (u.take k)/\y=(0,a,iL u)):=by
  unfold ZzN ZAs;rw[ZnD];refine ZnK (Zoh ZFg (fun(j:Nat)=>(0,j,iL u)) (fun j=>j<=k/\val (u.take j)=val (u.take k)) (fun j=>j) (Q:=fun y=>∃a,a<=k/\val (u.take a)=val (u.take k)/\y=(0,a,iL u)) k ⟨ZXQ _,rfl⟩ (by omega) ?_) (fun y d=>ZnA.2 d);rintro f j ⟨e,c⟩ o;unfold ZCJ Zzw Zxu;dsimp only;cases j with
  |zero=>exact ZnA.2 ⟨0,e,c,rfl⟩
  |succ j=>
   have b:j < u.length:=by omega
   have g:((j+1:Nat):Int) - 1=(j:Int):=by omega
   rw[ZnP];refine⟨fun _=> ?_,fun h=>by have:=of_decide_eq_false h;omega⟩;rw[g,ZXn,ZYf,ZnF,ZnF,ZGo b,ZnD,ZnA,ZnP];refine⟨ZnH (by omega),ZoH ⟨by omega,by omega⟩,fun h=> ?_,fun h=> ?_⟩
   ·have m:u[j]=0:=by have:=eq_of_beq h;omega
    rw[ZnF,ZnF];refine⟨ZnH (by omega),Zou ⟨by omega,by omega,by omega⟩,o j ⟨by omega, ?_⟩ (by omega)⟩;rw[<-c,ZoJ b,m,ZX5,ZXI]
   ·exact ZnA.2 ⟨j+1,e,c,rfl⟩
 obtain⟨y,d,a,l,i,rfl⟩:=h;refine⟨a,l,i, ?_⟩;unfold Zyo;rw[d,ZYg];simp
theorem ZL9 {x y s:Nat} (k:s<=31) (d:x < Bw) (l:y < Bw):((y*4294967296+x) / 2 ^ s % 4294967296)*2 ^ s+x % 2 ^ s=x+Bw*(y % 2 ^ s):=by
 have e:(4294967296:Nat)=2 ^ (32 - s)*2 ^ s:=by rw[<-ZX8,show 32 - s+s=32 by omega]
 have b:=ZYe s;have j:=ZXJ x (2 ^ s);have g:=ZXJ y (2 ^ s);have i:x / 2 ^ s < 2 ^ (32 - s):=(Nat.div_lt_iff_lt_mul b).2 (by rw[<-e];exact d);have c:=ZXY y b;have f:(y*4294967296+x) / 2 ^ s=y*2 ^ (32 - s)+x / 2 ^ s:=by rw[e,<-ZX0,Nat.add_comm,ZXG _ _ b,Nat.add_comm]
 have h:y*2 ^ (32 - s)+x / 2 ^ s=(y % 2 ^ s)*2 ^ (32 - s)+x / 2 ^ s+4294967296*(y / 2 ^ s):=by
  rw[e];have:y*2 ^ (32 - s)=(2 ^ s*(y / 2 ^ s)+y % 2 ^ s)*2 ^ (32 - s):=by rw[g]
  rw[this,ZXE,ZX1 (2 ^ s),ZX1 (2 ^ (32 - s)),ZX0 (y / 2 ^ s),ZX1 (y / 2 ^ s)];omega
 have a:(y % 2 ^ s)*2 ^ (32 - s)+x / 2 ^ s < 4294967296:=by have:=Nat.mul_le_mul_right (2 ^ (32 - s)) (show y % 2 ^ s+1<=2 ^ s from c);rw[ZXE,ZX6,ZX1 (2 ^ s),<-e]at this;omega
 rw[f,h,ZXH,ZXX a,ZXE,ZX0,<-e,ZX1 (x / 2 ^ s),ZX1 (y % 2 ^ s)];simp only[Bw];omega
theorem ZSD {u:List Nat} {k s R:Nat} (q:List Int) (hs:s<=31) (hd:Dg u) (hk:k<=u.length) (hk2:k<=1000000) (hv:val (u.take k)=R*2 ^ s):
  wp (Zts big (s:Int) 0 k ((k:Nat):Int) (0:Int) q (iL u)) (fun y=>∃(o:List Nat),y=(0,k,q,iL (o++u.drop k))/\o.length=k/\Dg o/\val o=R):=by
 refine ZvD ZE3 k (by omega) (fun i (o:List Nat)=>((s:Int),0,k,(k:Int),i,q,iL (o++u.drop o.length))) (fun i o=>o.length=i/\Dg o/\val o*2 ^ s+(if 0 < k then u.getD 0 0 else 0) % 2 ^ s=val (u.take i)+Bw ^ i*((if i < k then u.getD i 0 else 0) % 2 ^ s)) [] ⟨rfl,ZGs,by simp[val]⟩ ?_ ?_
 ·rintro rec i o hi ⟨hol,hod,hov⟩ ih;have hiu:i < u.length:=by omega
  have h1:=hd.get hiu;unfold ZyN Zu1;dsimp only;rw[ZnP];refine⟨fun _=> ?_,fun h=>by have:=of_decide_eq_false h;omega⟩;have hlen:(o++u.drop o.length).length=u.length:=by simp;omega
  have gx:(iL (o++u.drop o.length))[i]? =some (u[i]:Int):=by rw[ZGo (by omega)];congr 2;rw[ZXr (by omega)];simp[hol]
  obtain⟨y,hy,hyB,hye⟩:∃y:Nat,Zxs (iL (o++u.drop o.length)) 0 k ((i:Int)+1)=some ((y:Int),iL (o++u.drop o.length))/\y < Bw/\y=(if i+1 < k then u.getD (i+1) 0 else 0):=by
   unfold Zxs ZBP
   by_cases hc:i+1 < k
   ·have hiu2:i+1 < u.length:=by omega
    have gy:(iL (o++u.drop o.length))[i+1]? =some (u[i+1]:Int):=by rw[ZGo (by omega)];congr 2;rw[ZXr (by omega)];simp[hol]
    refine⟨u[i+1], ?_,hd.get hiu2, ?_⟩
    ·rw[decide_eq_true (by omega),cond_true,ZoH ⟨by omega,by omega⟩,chk_true,ZYf,show ((i:Int)+1).toNat=i+1 by omega,gy];simp
    ·rw[if_pos hc,ZXo,ZXp hiu2];rfl
   ·refine⟨0, ?_,by decide,by rw[if_neg hc]⟩;rw[decide_eq_false (by omega),cond_false];simp
  rw[hy,ZnF,ZnD,ZnA];dsimp only;rw[ZXn,ZYf,gx,ZnF,ZnF,ZnD,ZnA,ZnF,ZnF,ZnF,ZJE hyB h1,ZFS s (by omega),ZzQ];refine⟨ZnH (by omega),by decide,ZoH ⟨by omega,by omega⟩,by simp,ZoH ⟨by omega,by omega⟩,ZnH (by omega), ?_⟩;generalize ez:(y*4294967296+u[i]) / 2 ^ s % 4294967296=z;have hz:z < Bw:=by rw[<-ez];exact ZXY _ (by decide)
  have es:(iL (o++u.drop o.length)).set i (z:Int)=iL ((o++[z])++u.drop (o++[z]).length):=by rw[ZFo,ZXA _ _ (by omega),hol,Nat.sub_self,<-ZXs (h:=hiu),List.set_cons_zero];simp[hol]
  rw[es];refine ih (o++[z]) ⟨by simp[hol],hod.app (ZFK hz), ?_⟩;have hd1:=ZL9 hs h1 hyB;rw[ez]at hd1;have q1:Bw ^ i*(z*2 ^ s+u[i] % 2 ^ s)=Bw ^ i*(u[i]+Bw*(y % 2 ^ s)):=by rw[hd1]
  have eg:u.getD i 0=u[i]:=by rw[ZXo,ZXp hiu];rfl
  rw[if_pos hi,eg]at hov;rw[ZXZ,ZXZ]at q1;rw[ZAV,hol,ZoJ hiu,<-hye,ZYb,ZXE,ZX0,ZX0];omega
 ·rintro rec o ⟨hol,hod,hov⟩;unfold ZyN Zu1;dsimp only;rw[ZnP];refine⟨fun h=>by have:=of_decide_eq_true h;omega,fun _=> ?_⟩;rw[ZnA];refine⟨o,by rw[hol],hol,hod, ?_⟩;rw[if_neg (Nat.lt_irrefl _),Nat.zero_mod,ZX5,ZXI,hv]at hov;have hp:=ZYe s;have:(val o*2 ^ s+(if 0 < k then u.getD 0 0 else 0) % 2 ^ s) / 2 ^ s=R*2 ^ s / 2 ^ s:=by rw[hov]
  rw[Nat.add_comm,ZXG _ _ hp,ZXK (ZXY _ hp),Nat.mul_div_cancel _ hp]at this;omega
theorem ZLx {x s:Nat} (a:s<=31) (h:x*2 ^ s < 4294967296):(x+1)*2 ^ s<=4294967296:=by
 have e:(4294967296:Nat)=2 ^ (32 - s)*2 ^ s:=by rw[<-ZX8,show 32 - s+s=32 by omega]
 rw[e]at h|-
 exact Nat.mul_le_mul_right _ (Nat.lt_of_mul_lt_mul_right h)
theorem ZNv {d u:List Nat} {m K s U:Nat} (V:d.length=m+2) (G:Dg d) (h1:1<=d[m+1]) (hu:u.length=K+m+2) (N:Dg u) (W:val u=U) (S:U < Bw ^ K*val d) (hK:K<=100000) (hm:m<=100000):
  wp (Ztt big ((m+2:Nat):Int) (s:Int) (iL d) ((K:Int) - 1) (iL u) (iL (ZXz K 0))) (fun y=>∃H c:List Nat,y=(((m+2:Nat):Int),(s:Int),iL H,iL c)/\H.length=K+m+2/\Dg H/\c.length=K/\Dg c/\val H+val c*val d=U/\val H < val d):=by
 rw[show iL (ZXz K 0)=iL (ZXz (K - ([]:List Nat).length) 0++[]) by simp];have r:=ZCg G;rw[V]at r;refine ZHe ZE4 K (by omega) (fun i (t:List Nat×List Nat)=>(((m+2:Nat):Int),(s:Int),iL d,i,iL t.1,iL (ZXz (K - t.2.length) 0++t.2))) (fun k t=>t.1.length=K+m+2/\Dg t.1/\t.2.length+k=K/\Dg t.2/\val t.1+Bw ^ k*(val t.2*val d)=U/\val t.1 < Bw ^ k*val d) (u,[]) ⟨hu,N,by simp,ZGs,by simp[val,W],by rw[W];exact S⟩ ?_ ?_
 ·rintro T k ⟨v,c⟩ hk ⟨j,b,o,l,B,a⟩ X;dsimp only at j b o l B a X;unfold ZyO Zu2;dsimp only;have A:((v.drop k).take (m+3)).length=m+3:=by simp;omega
  have f:(v.take k).length=k:=by simp;omega
  have g:v=v.take k++((v.drop k).take (m+3)++v.drop (k+(m+3))):=by rw[<-List.drop_drop,ZXB,ZXB]
  have C:val v=val (v.take k)+Bw ^ k*(val ((v.drop k).take (m+3))+Bw ^ (m+3)*val (v.drop (k+(m+3)))):=by
   have:val v=val (v.take k++((v.drop k).take (m+3)++v.drop (k+(m+3)))):=by rw[<-g]
   rw[this,ZFt,ZFt,f,A]
  have Q:=ZCg (b.take k);rw[f]at Q;have P:=(b.drop k).take (m+3);have M:=b.drop (k+(m+3));have E:=b;generalize v.take k=pre at*
  generalize (v.drop k).take (m+3)=w at*
  generalize v.drop (k+(m+3))=suf at*
  subst g;have L:val w+Bw ^ (m+3)*val suf < Bw*val d:=by
   have:Bw ^ k*(val w+Bw ^ (m+3)*val suf) < Bw ^ k*(Bw*val d):=by rw[<-ZX0,<-ZYb];show _ < Bw ^ (k+1)*val d;omega
   exact Nat.lt_of_mul_lt_mul_left this
  have z:val suf=0:=by
   rcases ZXM (val suf)with x |x
   ·exact x
   ·exfalso;have h5:=ZX2 (Bw ^ (m+3)) x;have Y:Bw*val d<=Bw*Bw ^ (m+2):=ZX2 _ (ZXP r);rw[ZX1 Bw (Bw ^ (m+2)),<-ZYb]at Y;have h7:Bw*val d<=Bw ^ (m+3):=Y;omega
  rw[z,ZX5,ZXI]at L C;rw[ZnP];refine⟨fun _=> ?_,fun h=>by have:=of_decide_eq_false h;omega⟩;rw[ZnF,ZnF,ZnF,ZnD,Zn0,j];refine⟨ZnH (by omega),ZnH (by omega),Zou ⟨by omega,by omega,by omega⟩, ?_⟩;rw[show ((k:Int)+((m+2:Nat):Int)+1).toNat - (k:Int).toNat=m+3 by omega,ZXn];have F:=ZN7 (pre:=pre) (suf:=suf) A V P G hm h1 L;rw[f]at F;refine ZnK F ?_;rintro y ⟨w',rfl,J,I,p⟩;dsimp only;have n:0 < val d:=by
   rcases ZXM (val d)with x |x
   ·rw[x,ZX5]at L;omega
   ·exact x
  have hq:val w / val d < Bw:=(Nat.div_lt_iff_lt_mul n).2 L;have R:=ZXJ (val w) (val d);have O:=ZXY (val w) n;generalize val w / val d=q at*
  have es:(ZXz (K - c.length) 0++c).set k q=ZXz (K - (c.length+1)) 0++q::c:=by
   have e:K - c.length=k+1:=by omega
   have e2:K - (c.length+1)=k:=by omega
   rw[e,e2,List.replicate_succ',List.append_assoc,ZXA _ _ (by simp),ZXu,Nat.sub_self];rfl
  rw[ZnF,ZnF,ZFo,es];refine⟨ZoH ⟨by omega,by rw[Zn0];simp only[ZXt,ZXu];omega⟩,ZnH (by omega), ?_⟩;have Z:suf.length+(k+(m+3))=K+m+2:=by rw[<-j,ZXt,ZXt,f,A];omega
  refine X (pre++(w'++suf),q::c) ⟨?_, ?_,by simp only[List.length_cons];omega,fun y D=> ?_, ?_, ?_⟩
  ·simp only[ZXt,f,J];omega
  ·refine Dg.app (fun y D=>E y (List.mem_append_left _ D)) (Dg.app I M)
  ·rcases ZXx.1 D with rfl |D
   ·exact hq
   ·exact l y D
  ·dsimp only;rw[ZFt,ZFt,f,z,ZX5,ZXI,p,val,ZXE,ZXZ];rw[C,<-R,ZXZ,ZYb,ZX0]at B;rw[ZX1 q (val d),ZX0 Bw];omega
  ·dsimp only;rw[ZFt,ZFt,f,z,ZX5,ZXI,p];have:=ZX2 (Bw ^ k) (show val w % val d+1<=val d from O);rw[ZXZ,Nat.mul_one]at this;omega
 ·rintro T ⟨v,c⟩ ⟨j,b,o,l,B,a⟩;dsimp only at j b o l B a;unfold ZyO Zu2;dsimp only;rw[ZnP];refine⟨fun h=>by have:=of_decide_eq_true h;omega,fun _=> ?_⟩;rw[ZnA];rw[ZYc,ZX6]at B a;refine⟨v,c, ?_,j,b,o,l,B,a⟩;rw[show K - c.length=0 by omega];rfl
end Go.Proofs
namespace Go.Proofs
open Go Eng
theorem ZHl (a b:Nat) (hb0:b≠0) (ha:(wd a).length<=50000) (hb:(wd b).length<=50000):ZrK (iL (wd a)) (iL (wd b))=some (iL (wd (a / b)),iL (wd (a % b))):=by
 refine ZpD ?_;unfold ZrK;rw[ZHr a b (by omega) (by omega),ZnD,ZnA,ZnP];refine⟨fun h=> ?_,fun h=> ?_⟩
 ·have hab:a < b:=by
   have:=of_decide_eq_true h;rcases Nat.lt_trichotomy a b with h1 |h1 |h1
   ·exact h1
   ·rw[h1,ZBZ]at this;omega
   ·rw[ZDo h1]at this;omega
  rw[ZLd _ (by omega),ZnD,ZnA,ZnA,ZXK hab,ZXX hab,Zy5,ZS5]
 ·have hab:b<=a:=by
   have:=of_decide_eq_false h;rcases Nat.lt_trichotomy a b with h1 |h1 |h1
   ·rw[ZDN h1]at this;omega
   ·omega
   ·omega
  have hlb:=Zvj hb0;rw[Zn0,Zn0,ZnP];refine⟨fun h=> ?_,fun h=> ?_⟩
  ·have h1:(wd b).length=1:=by have:=eq_of_beq h;omega
   have hbB:b < Bw:=by have:=ZBl b;rwa [h1,Nat.pow_one]at this
   have eb:idx (iL (wd b)) 0=some (b:Int):=by rw[ZG2 hb0,ZXX hbB];rfl
   rw[eb,ZnD,ZnA,ZNz a b hb0 hbB (by omega),ZnD,ZnA];dsimp only;have hr:a % b < Bw:=Nat.lt_trans (ZXY _ (by omega)) hbB;rw[show ([((a % b:Nat):Int)]:List Int)=iL [a % b]from rfl,ZFR (ZFK hr) (by simp),ZnD,ZnA,ZnA];simp only[val,ZX5,ZXI]
  ·obtain⟨m,hm⟩:∃m,(wd b).length=m+2:=⟨(wd b).length - 2,by
    have:(wd b).length≠1:=fun e=>by rw[e]at h;exact absurd h (by decide)
    omega⟩
   have hla:m+2<=(wd a).length:=by
    rcases ZXU (wd a).length (wd b).length with h1 |h1
    ·have:=ZIL h1;omega
    ·omega
   have hi:m+1 < (wd b).length:=by omega
   have htop:(wd b)[m+1]≠0:=fun e=>by have h1:=ZoJ hi;rw[e,ZX5,ZXI,ZXD (by omega),ZuA]at h1;have h2:=ZCg ((ZAA b).take (m+1));rw[ZXw,ZXV (by omega)]at h2;have h3:=ZJo hi;omega
   obtain⟨s,hs,hse,hs1,hs2⟩:=ZSU htop ((ZAA b).get hi);have e1:((m+2:Nat):Int) - 1=((m+1:Nat):Int):=by omega
   rw[hm,e1,Zy3 hi,ZnF,ZnD,ZnA,hse,ZnD,ZnA];refine⟨ZnH (by omega), ?_⟩;obtain⟨u,hu,hud,hul,huv⟩:=ZIE (wd a) s hs (by omega) (ZAA a);obtain⟨v,hv,hvd,hvl,hvv⟩:=ZIE (wd b) s hs (by omega) (ZAA b);rw[hu,ZnD,ZnA,hv,ZnD,ZnA,ZnF,ZnF,ZnF,ZnF,ZnF];rw[ZuA]at huv hvv;have hvlt:val v < Bw ^ (m+2):=by
    have h1:=ZoJ hi;rw[ZXD (by omega),ZuA]at h1;have h2:=ZCg ((ZAA b).take (m+1));rw[ZXw,ZXV (by omega)]at h2;have h3:b+1<=Bw ^ (m+1)*((wd b)[m+1]+1):=by rw[ZXZ,Nat.mul_one];omega
    have h4:=Nat.mul_le_mul_right (2 ^ s) h3;have h5:=ZX2 (Bw ^ (m+1)) (ZLx hs hs2);rw[ZX0]at h4;have h6:=ZYe s;rw[ZXE,ZX6]at h4;rw[hvv,ZYb];show _ < Bw ^ (m+1)*4294967296;omega
   obtain⟨K,hK⟩:∃K,(wd a).length=K+m+1:=⟨(wd a).length - m - 1,by omega⟩;have eK:((wd a).length:Int) - ((m+2:Nat):Int)+1=(K:Int):=by omega
   have ed:((iL v).drop 0).take (((m+2:Nat):Int).toNat - 0)=iL (v.take (m+2)):=by rw[List.drop_zero,ZXn,Nat.sub_zero,ZKm]
   have hdv:val (v.take (m+2))=b*2 ^ s:=by rw[ZHB hvlt,hvv]
   have hdl:(v.take (m+2)).length=m+2:=by rw[ZXw];omega
   have hdd:=hvd.take (m+2);rw[eK,ed,ZXn,ZIf,Zn0 v,Zn0 (ZXz K 0),ZXu];refine⟨Zou ⟨by omega,by omega,by omega⟩,ZnH (by omega),ZnH (by omega),ZFW (by omega),ZnH (by omega), ?_⟩;generalize v.take (m+2)=d at*
   have hp:=ZYe s;have h1:1<=d[m+1]:=by
    rcases ZXM d[m+1]with hz |hz
    ·exfalso;have h1:=ZoJ (l:=d) (k:=m+1) (by omega);rw[hz,ZX5,ZXI,ZXD (by omega)]at h1;have h2:=ZCg (hdd.take (m+1));rw[ZXw,ZXV (by omega)]at h2;rw[hdv]at h1;have h3:=ZJo hi;have:=Nat.le_mul_of_pos_right b hp;omega
    ·exact hz
   have hUlt:a*2 ^ s < Bw ^ K*val d:=by have h2:=ZBl a;have h3:=ZX2 (Bw ^ K) (ZJo hi);rw[<-ZX8,<-Nat.add_assoc,<-hK]at h3;rw[hdv,<-ZX0];exact Nat.mul_lt_mul_of_pos_right (by omega) hp
   rw[ZnD];refine ZnK (ZNv (s:=s) hdl hdd h1 (by omega) hud huv hUlt (by omega) (by omega)) ?_;rintro y ⟨u',qs,rfl,hu'l,hu'd,hql,hqd,hv',hlt'⟩;dsimp only;have hDpos:0 < val d:=by omega
   have eq1:val qs=a / b:=by rw[<-Nat.mul_div_mul_right a b hp,<-hdv,<-hv',ZXG _ _ hDpos,ZXK hlt',ZYf]
   have eq2:val u'=a % b*2 ^ s:=by rw[<-Nat.mul_mod_mul_right,<-hdv,<-hv',Nat.add_mul_mod_self_right,ZXX hlt']
   have hDlt:=ZCg hdd;rw[hdl]at hDlt;have hut:val (u'.take (m+2))=val u':=ZHB (by omega);obtain⟨k',hk',hkv,hke⟩:=ZVr u' (m+2) (by omega) (by omega);unfold Zz7;rw[ZXn,Nat.sub_zero,hke,ZnF,ZnD,ZnA,Zn0];refine⟨Zou ⟨by omega,by omega,by omega⟩, ?_⟩;dsimp only;rw[ZnD];refine ZnK (ZSD (R:=a % b) (iL qs) hs hu'd (by omega) (by omega) (by rw[hkv,hut,eq2])) ?_;rintro y ⟨o,rfl,hol,hod,hov⟩;dsimp only;unfold Zz6;have eo:((iL (o++u'.drop k')).drop 0).take k'=iL o:=by rw[List.drop_zero,ZKm,List.take_left' hol]
   rw[eo,ZFR hqd (by omega),ZnD,ZnA,ZFR hod (by omega),ZnD,ZnA,ZnA,eq1,hov]
theorem Zw3 {a b:Nat} (h:a<=b):(wd a).length<=(wd b).length:=ZDR (ZXS h (ZBl b))
theorem ZIk:∀(n a b:Nat),b<=a->a*b < 2 ^ n->(wd a).length<=50000->∀f,n < f->Zpv f (iL (wd a)) (iL (wd b))=some (iL (wd (ZXN a b)))
 |n,a,b,hba,hn,ha,0,hf=>absurd hf (by omega)
 |n,a,b,hba,hn,ha,f+1,hf=>by
  show Zrq (Zpv f) _ _=_;unfold Zrq;rw[Zn0]
  by_cases h0:b=0
  ·subst h0;rw[Zy5,Nat.gcd_zero_right];rfl
  ·have h:=Zvj h0;rw[decide_eq_true (by omega),cond_true,ZHl a b h0 ha (ZXR (Zw3 hba) ha),ZYg];dsimp only;have c:=ZXY a (show 0 < b by omega);cases n with
   |zero=>
    have:1*1<=a*b:=Nat.mul_le_mul (by omega) (by omega);rw[ZYc]at hn;omega
   |succ n=>
    have g:=ZXJ a b;have e:1<=a / b:=(Nat.le_div_iff_mul_le (by omega)).2 (by omega);have i:=ZX2 b e;have d:b*(2*(a % b))<=b*a:=ZX2 b (by omega);rw[ZX3,ZX1 b a]at d;rw[ZIk n b (a % b) (by omega) (by rw[ZYb]at hn;omega) (ZXR (Zw3 hba) ha) f (by omega),ZXO a b,Nat.gcd_rec b a,ZXO]
theorem ZIl (a b:Nat) (ha:(wd a).length<=50000) (hb:(wd b).length<=50000):Zuw (iL (wd a)) (iL (wd b))=some (iL (wd (ZXN a b))):=by
 have bnd:∀x y:Nat,x*y < 2 ^ (32*(wd x).length+32*(wd y).length):=fun x y=>by
  have e:∀z,z < 2 ^ (32*(wd z).length):=fun z=>by
   have:=ZBl z
   rwa [show Bw=2 ^ 32 from rfl,<-ZYa]at this
  have h1:=ZX4 (e x) (ZXP (e y)) (ZYe _)
  rwa [<-ZX8]at h1
 have key:Zpv big (iL (wd a)) (iL (wd b))=some (iL (wd (ZXN a b))):=by
  obtain⟨k,hk,hk2⟩:∃k,big=k+1/\3200004 < k:=⟨36893488147419103231,by rw[big_eq],by omega⟩;rw[hk];rcases ZXU a b with h |h
  ·show Zrq (Zpv k) _ _=_;unfold Zrq;have h0:b≠0:=by omega
   have hl:=Zvj h0;rw[Zn0,decide_eq_true (by omega),cond_true,ZHl a b h0 ha hb,ZYg];dsimp only;rw[ZXX h,ZIk _ b a (by omega) (bnd b a) hb k (by omega),ZXO]
  ·exact ZIk _ a b h (bnd a b) ha (k+1) (by omega)
 unfold Zuw ZyP;rw[key,ZYg]
end Go.Proofs
namespace Go.Proofs
open Go Eng
def bg (z:Int):ZnI:=⟨decide (z < 0),iL (wd z.natAbs)⟩
theorem ZDs (z:Int):(bg z).Neg=decide (z < 0):=rfl
theorem ZpS (z:Int):(bg z).Words=iL (wd z.natAbs):=rfl
abbrev Wl (n:Nat) (z:Int):Prop:=(wd z.natAbs).length<=n
theorem ZAB (a:Bool) (n:Nat) (h:(wd n).length<=1000000):Zo6 a (iL (wd n))=some (bg (if a then -(n:Int)else n)):=by
 unfold Zo6 ZzO bg;have b:ZiZ (iL (wd n)).length 4=true:=Ztn (by rw[Zn0];omega);cases a with
 |true=>
  rw[cond_true,b,chk_true,Zn0,if_pos rfl,ZXk,ZXj];congr 2
  by_cases h0:n=0
  ·subst h0;rw[Zy5];rfl
  ·have:=Zvj h0;rw[decide_eq_true (by omega),decide_eq_true (by omega)]
 |false=>
  rw[cond_false,b,chk_true,if_neg (by decide),ZXj,decide_eq_false (by omega)]
theorem ZHn (n:Nat) (h:n < 18446744073709551616):Zwx (n:Int)=some (iL (wd n)):=by
 unfold Zwx;have e:([IntKind.wrap .u32 (n:Int),IntKind.wrap .u32 (shrK .u64 (n:Int) 32)]:List Int)=iL [n % 4294967296,n / 4294967296]:=by rw[show (32:Int)=((32:Nat):Int)from rfl,ZFS 32 (by omega),ZzQ,ZAz (by omega)];rfl
 have a:Dg [n % 4294967296,n / 4294967296]:=fun d a=>by
  simp only[ZXx,List.mem_singleton,ZXy,or_false]at a;rcases a with rfl |rfl
  ·exact ZXY _ (by decide)
  ·simp only[Bw];omega
 rw[e,ZFR a (by simp)];have b:val [n % 4294967296,n / 4294967296]=n:=by simp only[val,ZX5,ZXI];exact ZXW n Bw
 rw[b];rfl
theorem ZP5 {n:Nat} (h:n < 18446744073709551616):(wd n).length<=2:=ZDR (by simp only[Bw];omega)
theorem ZIP (z:Int) (b: -9223372036854775808<=z) (a:z<=9223372036854775807):ZyZ z=some (bg z):=by
 unfold ZyZ
 by_cases hz:z < 0
 ·have e:IntKind.wrap .u64 (0 - IntKind.wrap .u64 z)=((z.natAbs:Nat):Int):=by rw[IntKind.wrap_u64,IntKind.wrap_u64];omega
  rw[decide_eq_true hz,cond_true,e,ZHn _ (by omega),ZYg,ZAB _ _ (ZXR (ZP5 (by omega)) (by decide)),ZYg,if_pos rfl,show -((z.natAbs:Nat):Int)=z by omega]
 ·have e:IntKind.wrap .u64 z=((z.natAbs:Nat):Int):=by rw[IntKind.wrap_u64];omega
  rw[decide_eq_false hz,cond_false,e,ZHn _ (by omega),ZYg,ZAB _ _ (ZXR (ZP5 (by omega)) (by decide)),ZYg,if_neg (by decide),show ((z.natAbs:Nat):Int)=z by omega]
theorem ZER (z:Int) (h:Wl 256 z):Zyb (bg z)=some true:=by
 unfold Wl at h;have a:∀c:0 < (wd z.natAbs).length,∃x:Nat,idx (iL (wd z.natAbs)) (((wd z.natAbs).length:Int) - 1)=some (x:Int)/\x≠0:=fun c=>by
  refine⟨(wd z.natAbs)[(wd z.natAbs).length - 1], ?_,fun e=> ?_⟩
  ·rw[show ((wd z.natAbs).length:Int) - 1=(((wd z.natAbs).length - 1:Nat):Int) by omega,Zy3 (by omega)]
  ·have hi:(wd z.natAbs).length - 1 < (wd z.natAbs).length:=by omega
   have g:=ZoJ hi;rw[e,ZX5,ZXI,ZXD (by omega),ZuA]at g;have f:=ZCg ((ZAA z.natAbs).take ((wd z.natAbs).length - 1));rw[ZXw,ZXV (by omega)]at f;have k:=ZJo hi;omega
 unfold Zyb ZpY;rw[ZpS,ZDs,Zn0,decide_eq_true (by omega),cond_true]
 by_cases h0:(wd z.natAbs).length=0
 ·have:z=0:=by have:=ZSo.1 (List.eq_nil_of_length_eq_zero h0);omega
  subst this;rw[h0];rfl
 ·obtain⟨x,b,i⟩:=a (by omega);have j:(((wd z.natAbs).length:Int) == 0)=false:=beq_eq_false_iff_ne.2 (by omega);have d:((x:Int) != 0)=true:=by simp only[bne_iff_ne];omega
  rw[j,cond_false,decide_eq_true (by omega),cond_true,ZnH (by omega),chk_true,b,ZYg,d]
theorem ZML (x y:Int):(if (!((bg x).Neg == (bg y).Neg))=true then -((x.natAbs*y.natAbs:Nat):Int)else ((x.natAbs*y.natAbs:Nat):Int))=x*y:=by
 rw[ZDs,ZDs]
 by_cases hx:x < 0<;>by_cases hy:y < 0
 ·rw[decide_eq_true hx,decide_eq_true hy,if_neg (by decide),ZXm,show ((x.natAbs:Nat):Int)= -x by omega,show ((y.natAbs:Nat):Int)= -y by omega,Int.neg_mul_neg]
 ·rw[decide_eq_true hx,decide_eq_false hy,if_pos (by decide),ZXm,show ((x.natAbs:Nat):Int)= -x by omega,show ((y.natAbs:Nat):Int)=y by omega,Int.neg_mul,Int.neg_neg]
 ·rw[decide_eq_false hx,decide_eq_true hy,if_pos (by decide),ZXm,show ((x.natAbs:Nat):Int)=x by omega,show ((y.natAbs:Nat):Int)= -y by omega,Int.mul_neg,Int.neg_neg]
 ·rw[decide_eq_false hx,decide_eq_false hy,if_neg (by decide),ZXm,show ((x.natAbs:Nat):Int)=x by omega,show ((y.natAbs:Nat):Int)=y by omega]
theorem ZIB {x y n m:Nat} (b:(wd x).length<=n) (c:(wd y).length<=m):(wd (x*y)).length<=n+m:=by refine ZDR ?_;have a:=ZX4 (ZBl x) (ZXP (ZBl y)) (Nat.pow_pos (by decide));rw[<-ZX8]at a;exact ZXT a (ZX9 (by decide) (by omega))
theorem ZFI (x y:Int) (a:Wl 50000 x) (b:Wl 50000 y):ZoR (bg x) (bg y)=some (bg (x*y)):=by unfold ZoR;have:=ZIB a b;rw[ZpS,ZpS,ZIY _ _ (by omega) (by omega),ZYg,ZAB _ _ (by omega),ZYg,ZML]
theorem ZJn {x y n:Nat} (a:(wd x).length<=n) (b:(wd y).length<=n):(wd (x+y)).length<=n+1:=by refine ZDR ?_;have d:=ZXT (ZBl x) (ZX9 (n:=Bw) (by decide) a);have c:=ZXT (ZBl y) (ZX9 (n:=Bw) (by decide) b);rw[ZYb];have:=ZX2 (Bw ^ n) (show 2<=Bw by decide);omega
theorem ZOB (x y:Int) (f:Wl 50000 x) (g:Wl 50000 y):ZAO (bg x) (bg y)=some (bg (x+y)):=by
 unfold Wl at f g;unfold ZAO;have j:=ZJn f g;rw[ZpS,ZpS,ZDs,ZDs];have e:decide (x < 0)≠decide (y < 0)->Zqi (iL (wd x.natAbs)) (iL (wd y.natAbs))=some (ZIK x.natAbs y.natAbs):=fun _=>ZHr _ _ (by omega) (by omega)
 by_cases hs:decide (x < 0)=decide (y < 0)
 ·rw[hs,beq_self_eq_true,cond_true,ZMf _ _ (by omega) (by omega),ZYg,ZAB _ _ (by omega),ZYg];congr 2
  by_cases a:y < 0
  ·have b:x < 0:=by rw[decide_eq_true a]at hs;exact of_decide_eq_true hs
   rw[decide_eq_true a,if_pos rfl];omega
  ·have b:¬x < 0:=by rw[decide_eq_false a]at hs;exact of_decide_eq_false hs
   rw[decide_eq_false a,if_neg (by decide)];omega
 ·rw[beq_eq_false_iff_ne.2 hs,cond_false,e hs,ZYg];rcases ZXU x.natAbs y.natAbs with c |d
  ·have:=Zw3 (Nat.sub_le y.natAbs x.natAbs);rw[ZDN c,decide_eq_false (by omega),cond_false,ZK9 _ _ (by omega) (by omega),ZYg,ZAB _ _ (by omega),ZYg];congr 2
   by_cases a:y < 0
   ·have b:¬x < 0:=fun h=>hs (by rw[decide_eq_true a,decide_eq_true h])
    rw[decide_eq_true a,if_pos rfl];omega
   ·have b:x < 0:=Decidable.byContradiction fun h=>hs (by rw[decide_eq_false a,decide_eq_false h])
    rw[decide_eq_false a,if_neg (by decide)];omega
  ·have i:ZIK x.natAbs y.natAbs>=0:=by
    rcases ZXU y.natAbs x.natAbs with h |h
    ·rw[ZDo h];decide
    ·rw[show x.natAbs=y.natAbs by omega,ZBZ];decide
   have:=Zw3 (Nat.sub_le x.natAbs y.natAbs);rw[decide_eq_true i,cond_true,ZK9 _ _ d (by omega),ZYg,ZAB _ _ (by omega),ZYg];congr 2
   by_cases b:x < 0
   ·have a:¬y < 0:=fun h=>hs (by rw[decide_eq_true b,decide_eq_true h])
    rw[decide_eq_true b,if_pos rfl];omega
   ·have a:y < 0:=Decidable.byContradiction fun h=>hs (by rw[decide_eq_false b,decide_eq_false h])
    rw[decide_eq_false b,if_neg (by decide)];omega
end Go.Proofs
namespace Go.Proofs
open Go Eng
def fOf (q:Rat):ZnB:=⟨bg q.num,bg (q.den:Int)⟩
theorem ZKM {x n:Nat} (g:Nat) (h:(wd x).length<=n):(wd (x / g)).length<=n:=ZXR (Zw3 (ZXL x g)) h
theorem ZL0 {x y n:Nat} (a:0 < y) (h:(wd y).length<=n):(wd (ZXN x y)).length<=n:=ZXR (Zw3 (Nat.gcd_le_right x a)) h
theorem ZGC (x y:Int) (s:y≠0) (c:Wl 50000 x) (b:Wl 50000 y):Zuy (bg x) (bg y)=some (fOf (Rat.divInt x y)):=by
 have a:0 < y.natAbs:=by omega
 have f:ZXN x.natAbs y.natAbs≠0:=fun e=>by have:=Nat.gcd_pos_of_pos_right x.natAbs a;omega
 have d:=ZL0 (x:=x.natAbs) a b;have n:=ZKM (ZXN x.natAbs y.natAbs) c;have r:=ZKM (ZXN x.natAbs y.natAbs) b;unfold Zuy;rw[ZpS,ZpS,ZIl _ _ c b,ZYg,ZHl _ _ f c d,ZYg];dsimp only;rw[ZHl _ _ f b d,ZYg];dsimp only;rw[ZAB _ _ (by omega),ZYg,ZAB _ _ (by omega),ZYg,ZDs,ZDs];unfold fOf;rw[Rat.num_divInt,Rat.den_divInt,if_neg s];have o:Int.gcd y x=ZXN x.natAbs y.natAbs:=by rw[Int.gcd_comm];rfl
 rw[o];have i:(if (!(decide (x < 0) == decide (y < 0)))=true then -((x.natAbs / ZXN x.natAbs y.natAbs:Nat):Int)else ((x.natAbs / ZXN x.natAbs y.natAbs:Nat):Int))=y.sign*x / (ZXN x.natAbs y.natAbs:Int):=by
  obtain⟨k,m⟩:=Nat.gcd_dvd_left x.natAbs y.natAbs;generalize ZXN x.natAbs y.natAbs=g at*
  have h:0 < g:=by omega
  have q:x.natAbs / g=k:=by rw[m,Nat.mul_div_cancel_left _ h]
  have l:((g:Int)*(k:Int)) / (g:Int)=k:=Int.mul_ediv_cancel_left _ (by omega);have j:(-((g:Int)*(k:Int))) / (g:Int)= -k:=by rw[<-Int.mul_neg,Int.mul_ediv_cancel_left _ (by omega)]
  have p:((x.natAbs:Nat):Int)=(g:Int)*(k:Int):=by rw[m];norm_cast
  rw[q]
  by_cases hx0:x < 0<;>by_cases a:y < 0
  ·rw[decide_eq_true hx0,decide_eq_true a,if_neg (by decide),Int.sign_eq_neg_one_of_neg a,show -1*x=(g:Int)*k by omega,l]
  ·rw[decide_eq_true hx0,decide_eq_false a,if_pos (by decide),Int.sign_eq_one_of_pos (by omega),show 1*x= -((g:Int)*k) by omega,j]
  ·rw[decide_eq_false hx0,decide_eq_true a,if_pos (by decide),Int.sign_eq_neg_one_of_neg a,show -1*x= -((g:Int)*k) by omega,j]
  ·rw[decide_eq_false hx0,decide_eq_false a,if_neg (by decide),Int.sign_eq_one_of_pos (by omega),show 1*x=(g:Int)*k by omega,l]
 rw[i,if_neg Bool.false_ne_true]
theorem ZMK:∀l:List Int,l.length<=1000->(∀z∈l,Wl 256 z)->ZBU (l.map bg)=some true:=fun l c h=>by
 refine ZpD ?_;unfold ZBU;rw[ZnD,List.length_map];refine ZnK (ZvD ZGd l.length (by omega) (fun i (_:Unit)=>(l.map bg,(l.length:Int),i)) (fun _ _=>True) (Q:=fun r=>r= .brk ()) () trivial ?_ ?_) ?_
 ·rintro a i ⟨⟩ hi _ b;unfold ZCv ZzP;dsimp only;rw[ZnP];refine⟨fun _=> ?_,fun h=>by have:=of_decide_eq_false h;omega⟩;rw[Zqj (by rw[List.length_map];exact hi),ZnD,ZnA,List.getElem_map,ZER _ (h _ (List.getElem_mem hi)),ZnD,ZnA];rw[ZSL,cond_false,ZnF];exact⟨ZnH (by omega),b () trivial⟩
 ·rintro a ⟨⟩ _;unfold ZCv ZzP;dsimp only;rw[ZnP];refine⟨fun h=>by have:=of_decide_eq_true h;omega,fun _=>ZnA.2 rfl⟩
 ·rintro r rfl;exact ZnA.2 rfl
abbrev Wq (n:Nat) (q:Rat):Prop:=Wl n q.num/\Wl n (q.den:Int)
theorem ZH6:iL (wd 1)=[1]:=by rw[ZG2 (by decide),show 1 / Bw=0 from rfl,Zy5];rfl
theorem ZG3 (q:Rat) (h:Wq 256 q):Zte (fOf q)=some true:=by
 unfold Zte ZvA fOf;have c:=ZMK [q.num,(q.den:Int)] (by simp) (fun z b=>by
  simp only[ZXx,ZXy,or_false]at b;rcases b with rfl |rfl
  ·exact h.1
  ·exact h.2)
 have g:=q.den_nz;have f:=Zvj (n:=(q.den:Int).natAbs) (by omega);have e:=h.1;have a:=h.2;unfold Wl at e a;dsimp only;rw[show ([bg q.num,bg (q.den:Int)]:List ZnI)=[q.num,(q.den:Int)].map bg from rfl,c,ZYg,cond_true,ZpS,ZpS,Zn0,decide_eq_true (by omega),cond_true,ZDs,decide_eq_false (by omega),Bool.not_false,cond_true,ZIl _ _ (by omega) (by omega),ZYg];have d:ZXN q.num.natAbs (q.den:Int).natAbs=1:=q.reduced;have i:(wd 1).length<=1:=ZDR (by decide);rw[d,<-ZH6,ZHr 1 1 (by omega) (by omega),ZYg,ZBZ];rfl
end Go.Proofs
namespace Go.Proofs
open Go Eng
def Sz (k:Nat) (q:Rat):Prop:=q.num.natAbs < 2 ^ k/\q.den < 2 ^ k
theorem Sz.mono {k l:Nat} {q:Rat} (h:Sz k q) (a:k<=l):Sz l q:=⟨ZXT h.1 (ZX9 (by decide) a),ZXT h.2 (ZX9 (by decide) a)⟩
theorem ZHV {n k:Nat} (h:n < 2 ^ k) (m:Nat) (a:k<=32*m):(wd n).length<=m:=by refine ZDR (ZXT h ?_);rw[show Bw=2 ^ 32 from rfl,<-ZYa];exact ZX9 (by decide) a
theorem Sz.wq {k:Nat} {q:Rat} (h:Sz k q) (a:k<=8192):Wq 256 q:=⟨ZHV h.1 256 (by omega),ZHV (n:=(q.den:Int).natAbs) (by rw[ZXj];exact h.2) 256 (by omega)⟩
theorem ZFB {x y:Int} {k:Nat} (a:y≠0) (d:x.natAbs < 2 ^ k) (b:y.natAbs < 2 ^ k):Sz k (Rat.divInt x y):=by
 unfold Sz;rw[Rat.num_divInt,Rat.den_divInt,if_neg a];refine⟨ZXS ?_ d,ZXS (ZXL _ _) b⟩;have c:((Int.gcd y x:Nat):Int)∣y.sign*x:=Int.dvd_trans (Int.gcd_dvd_right y x) (Int.dvd_mul_left _ _);rw[Int.natAbs_ediv_of_dvd c,ZXi];refine ZXR (ZXL _ _) ?_;have:y.sign.natAbs=1:=by rw[Int.natAbs_sign_of_ne_zero a]
 rw[this,ZX6];exact ZXQ _
theorem ZHo {x y k l:Nat} (a:x < 2 ^ k) (b:y < 2 ^ l):x*y < 2 ^ (k+l):=by rw[ZX8];exact ZX4 a (ZXP b) (ZYe _)
theorem ZHu (a b:Rat):Rat.divInt (a.num*(b.den:Int)+b.num*(a.den:Int)) ((a.den:Int)*(b.den:Int))=a+b:=by have d:=a.den_nz;have c:=b.den_nz;rw[<-Rat.divInt_add_divInt _ _ (by omega) (by omega),Rat.num_divInt_den,Rat.num_divInt_den]
theorem Sz.add {a b:Rat} {k l:Nat} (d:Sz k a) (c:Sz l b):Sz (k+l+1) (a+b):=by
 rw[<-ZHu];have j:=a.den_nz;have i:=b.den_nz;have g:=ZHo d.1 c.2;have f:=ZHo d.2 c.1;have e:=ZHo d.2 c.2;have h:=ZYe (k+l);refine ZFB (Int.mul_ne_zero (by omega) (by omega)) ?_ ?_
 ·rw[ZYb];refine ZXS (Int.natAbs_add_le _ _) ?_;rw[ZXi,ZXi,ZXj,ZXj,ZX1 b.num.natAbs];omega
 ·rw[ZYb,ZXi,ZXj,ZXj];omega
theorem ZSC {q:Rat} (h:Wq 256 q):decide ((if ((fOf q).Den.Words.length:Int) > ((fOf q).Num.Words.length:Int)then ((fOf q).Den.Words.length:Int)else ((fOf q).Num.Words.length:Int)) > 256)=false:=by have b:=h.1;have a:=h.2;unfold Wl at b a;refine decide_eq_false ?_;unfold fOf;rw[ZpS,ZpS,Zn0,Zn0];split<;>omega
theorem ZHf {y:Int} (a:y≠0):(((bg y).Words.length:Int) == 0)=false:=by have:=Zvj (n:=y.natAbs) (by omega);rw[ZpS,Zn0];exact beq_eq_false_iff_ne.2 (by omega)
theorem ZTz {a b:Rat} {k l:Nat} (o:Sz k a) (i:Sz l b) (z:k+l+1<=8192):((ZrL (fOf a) (fOf b)).bind fun x=>some (x.1,x.2))=some (fOf (a+b),0):=by
 have B:=a.den_nz;have C:=b.den_nz;have d:=o.wq (by omega);have c:=i.wq (by omega);have w:∀{x y:Int},Wl 256 x->Wl 256 y->Wl 512 (x*y):=fun t A=>by unfold Wl;rw[ZXi];exact ZIB t A
 have m:∀{n:Nat} {x:Int},Wl n x->n<=50000->Wl 50000 x:=fun h u=>ZXR h u
 have r:=w d.1 c.2;have p:=w c.1 d.2;have v:=w d.2 c.2;have s:Wl 513 (a.num*(b.den:Int)+b.num*(a.den:Int)):=ZXR (Zw3 (Int.natAbs_add_le _ _)) (ZJn r p);have j:(a.den:Int)*(b.den:Int)≠0:=Int.mul_ne_zero (by omega) (by omega);unfold ZrL;rw[ZG3 a d,ZYg,ZSL,cond_false,ZG3 b c,ZYg,ZSL];unfold Zsx ZE5;rw[cond_false];show ((((ZoR (bg a.num) (bg (b.den:Int))).bind fun q=>(ZoR (bg b.num) (bg (a.den:Int))).bind fun f=>(ZAO q f).bind fun e=>(ZoR (bg (a.den:Int)) (bg (b.den:Int))).bind fun g=>some (e,g)).bind _).bind _)=_;rw[ZFI _ _ (m d.1 (by omega)) (m c.2 (by omega)),ZYg,ZFI _ _ (m c.1 (by omega)) (m d.2 (by omega)),ZYg,ZOB _ _ (m r (by omega)) (m p (by omega)),ZYg,ZFI _ _ (m d.2 (by omega)) (m c.2 (by omega)),ZYg,ZYg];dsimp only;rw[ZHf j,cond_false,ZGC _ _ j (m s (by omega)) (m v (by omega)),ZYg,ZHu,ZSC ((o.add i).wq z),cond_false,ZYg]
end Go.Proofs
namespace Go.Proofs
open Go Eng
theorem ZH5 (z:Int):Zvy (bg z)=some (bg (-z)):=by
 unfold Zvy Zyp;rw[ZDs,ZpS,Zn0]
 by_cases hz:z < 0
 ·rw[decide_eq_true hz,ZSL,cond_false];unfold bg;rw[ZXk,decide_eq_false (by omega:¬ -z < 0)]
 ·rw[decide_eq_false hz,Bool.not_false,cond_true];unfold bg;rw[ZXk];congr 2
  by_cases h0:z=0
  ·subst h0;rw[show (0:Int).natAbs=0 from rfl,Zy5];rfl
  ·have:=Zvj (n:=z.natAbs) (by omega);rw[decide_eq_true (by omega),decide_eq_true (by omega)]
theorem ZQh (q:Rat):fOf (-q)=⟨bg (-q.num),bg (q.den:Int)⟩:=rfl
theorem Sz.neg {q:Rat} {k:Nat} (h:Sz k q):Sz k (-q):=by show (-q.num).natAbs < 2 ^ k/\q.den < 2 ^ k;rw[ZXk];exact h
theorem ZSy {a b:Rat} {k l:Nat} (e:Sz k a) (d:Sz l b) (f:k+l+1<=8192):ZCK (fOf a) (fOf b)=some (fOf (a - b),0):=by unfold ZCK;rw[ZG3 b (d.wq (by omega)),ZYg,ZSL,cond_false];show ((Zvy (bg b.num)).bind fun c=>(ZrL (fOf a) (ZnB.mk c (bg (b.den:Int)))).bind fun x=>some (x.1,x.2))=_;have:=ZTz e d.neg f;rw[ZH5,ZYg,<-ZQh,Rat.sub_eq_add_neg];exact this
theorem ZMl {a b:Rat} {k l:Nat} (c:Sz k a) (d:Sz l b) (e:k+l+1<=8192):ZFC (fOf a) (fOf b)=some (fOf (a - b)):=by unfold ZFC ZGR;rw[ZSy c d e];rfl
def ZGL (a b:Rat):Int:=if a < b then -1 else if b < a then 1 else 0
theorem ZHR (a b:Rat):a < b<->a.num*(b.den:Int) < b.num*(a.den:Int):=Rat.lt_iff a b
theorem ZJK {a b:Rat} (d:Wq 256 a) (c:Wq 256 b):ZxA (fOf a) (fOf b)=some (ZGL a b):=by
 have w:∀{x y:Int},Wl 256 x->Wl 256 y->Wl 50000 (x*y):=fun i k=>by unfold Wl;rw[ZXi];exact ZXR (ZIB i k) (by decide)
 have m:∀{x:Int},Wl 256 x->Wl 50000 x:=fun h=>ZXR h (by decide)
 unfold ZxA;rw[ZG3 a d,ZYg,ZSL,cond_false,ZG3 b c,ZYg,ZSL];unfold ZCb;rw[cond_false];show ((ZoR (bg a.num) (bg (b.den:Int))).bind fun q=>(ZoR (bg b.num) (bg (a.den:Int))).bind _)=_;rw[ZFI _ _ (m d.1) (m c.2),ZYg,ZFI _ _ (m c.1) (m d.2),ZYg,ZH5,ZYg];have j:Wl 50000 (-(b.num*(a.den:Int))):=by unfold Wl;rw[ZXk];exact w c.1 d.2
 rw[ZOB _ _ (w d.1 c.2) j,ZYg,ZDs,ZpS,Zn0];unfold ZGL;have f:=ZHR a b;have e:=ZHR b a;generalize a.num*(b.den:Int)=x at*
 generalize b.num*(a.den:Int)=y at*
 by_cases hl:a < b
 ·rw[if_pos hl,decide_eq_true (by have:=f.1 hl;omega),cond_true]
 ·have l:¬x < y:=fun h=>hl (f.2 h)
  rw[if_neg hl,decide_eq_false (by omega),cond_false]
  by_cases hg:b < a
  ·have:=Zvj (n:=(x+ -y).natAbs) (by have:=e.1 hg;omega);rw[if_pos hg,decide_eq_true (by omega),cond_true]
  ·have g:¬y < x:=fun h=>hg (e.2 h)
   rw[if_neg hg,show x+ -y=0 by omega,show (0:Int).natAbs=0 from rfl,Zy5];rfl
theorem ZP4 (x y:Int) (d:y≠0) (a:Wl 256 x) (b:Wl 256 y):ZDi (bg x) (bg y)=some (fOf (Rat.divInt x y),0):=by
 have e:=ZMK [x,y] (by simp) (fun z c=>by
  simp only[ZXx,ZXy,or_false]at c;rcases c with rfl |rfl
  ·exact a
  ·exact b)
 unfold ZDi;rw[show ([bg x,bg y]:List ZnI)=[x,y].map bg from rfl,e,ZYg,ZSL,cond_false,ZHf d,cond_false,ZGC _ _ d (ZXR a (by decide)) (ZXR b (by decide)),ZYg]
theorem ZU3 {z:Int} (b: -9223372036854775808<=z) (a:z<=9223372036854775807):Wl 256 z:=ZXR (ZP5 (by omega)) (by decide)
theorem ZSR (x y:Int) (e:y≠0) (d: -9223372036854775808<=x) (c:x<=9223372036854775807) (a: -9223372036854775808<=y) (b:y<=9223372036854775807):ZDh x y=some (fOf (Rat.divInt x y),0):=by unfold ZDh;rw[ZIP x d c,ZYg,ZIP y a b,ZYg,ZP4 x y e (ZU3 d c) (ZU3 a b),ZYg]
theorem ZJ3:ZEQ=some (fOf 0):=by unfold ZEQ;rw[ZSR 0 1 (by decide) (by decide) (by decide) (by decide) (by decide),ZYg,Rat.zero_divInt]
theorem ZK7 (x y:Int) (e:y≠0) (d: -9223372036854775808<=x) (c:x<=9223372036854775807) (a: -9223372036854775808<=y) (b:y<=9223372036854775807):ZGB x y=some (fOf (Rat.divInt x y)):=by unfold ZGB;rw[ZSR x y e d c a b,ZYg];rfl
theorem ZI0:Sz 1 0:=by unfold Sz;decide
theorem ZPw {a:Rat} (b:Wq 256 a):ZGA (fOf a)=some (ZGL a 0):=by unfold ZGA;rw[ZJ3,ZYg,ZJK b (ZI0.wq (by decide)),ZYg]
end Go.Proofs
namespace Go.Proofs
open Go Eng
theorem ZKQ:∀n w,Zpp n w=Zqu n w
 |0,_=>rfl
 |n+1,w=>by have:Zpp n=Zqu n:=funext (ZKQ n);show ZA8 (Zpp n) w=Zxt (Zqu n) w;rw[this];rfl
theorem ZLh (w:List Int):Zoy w=ZoQ w:=by unfold Zoy ZoQ;rw[ZKQ];rfl
theorem ZGz {l:List Nat} (h:Dg l) (a:l.length<=1000000):Zoy (iL l)=some (iL (wd (val l))):=by rw[ZLh,ZFR h a]
theorem ZGw (neg:Bool) {l:List Nat} (h:Dg l) (hl:l.length<=1000000):Zog neg (iL l)=some (bg (if neg then -(val l:Int)else val l)):=by
 unfold Zog ZvT;rw[ZGz h hl,ZYg,Zn0];unfold bg;cases neg with
 |true=>
  rw[cond_true,if_pos rfl,ZXk,ZXj];congr 2
  by_cases h0:val l=0
  ·rw[h0,Zy5];rfl
  ·have:=Zvj h0;rw[decide_eq_true (by omega),decide_eq_true (by omega)]
 |false=>rw[cond_false,if_neg (by decide),ZXj,decide_eq_false (by omega)]
theorem ZDQ (a:ZnI):Zqb a=Zyb a:=rfl
end Go.Proofs
namespace Go.Proofs
open Go Eng
theorem ZIm (a b:Nat) (l:(wd a).length<=100000) (j:(wd b).length<=100000):Zpa (iL (wd a)) (iL (wd b))=some (ZIK a b):=by
 refine ZpD ?_;unfold Zpa;rw[Zn0,Zn0,ZnP];refine⟨fun h=> ?_,fun h=> ?_⟩
 ·have p:(wd a).length≠(wd b).length:=fun e=>by rw[e]at h;simp at h
  rw[ZnP];refine⟨fun h=> ?_,fun h=> ?_⟩
  ·have c:(wd a).length < (wd b).length:=by have:=of_decide_eq_true h;omega
   rw[ZnA,ZDN (ZIL c)]
  ·have c:(wd b).length < (wd a).length:=by have:=of_decide_eq_false h;omega
   rw[ZnA,ZDo (ZIL c)]
 ·have q:(wd a).length=(wd b).length:=by simp only[bne_eq_false_iff_eq]at h;omega
  rw[ZnF,ZnD];refine⟨ZnH (by omega), ?_⟩;refine ZnK (ZHe ZEI (wd a).length (by omega) (fun i (s:Unit)=>(iL (wd a),iL (wd b),i)) (fun k _=>(wd a).drop k=(wd b).drop k)
   (Q:=fun r=>r= .ret (ZIK a b)\/r= .brk ()/\a=b) () (by rw[List.drop_length,q,List.drop_length]) ?_ ?_) ?_
  ·rintro n k ⟨⟩ o g v;have f:k < (wd b).length:=by omega
   unfold ZxT Zt5;dsimp only;rw[ZnP];refine⟨fun _=> ?_,fun h=>by have:=of_decide_eq_false h;omega⟩;have l:=ZES o;have j:=ZES f;rw[ZuA]at l j;have u:val ((wd a).take k) < Bw ^ k:=by have:=ZCg ((ZAA a).take k);rwa [ZXw,ZXV (by omega)]at this
   have t:val ((wd b).take k) < Bw ^ k:=by have:=ZCg ((ZAA b).take k);rwa [ZXw,ZXV (by omega)]at this
   rw[Zy3 o,ZnD,ZnA,Zy3 f,ZnD,ZnA,ZnP];refine⟨fun m=> ?_,fun m=> ?_⟩
   ·have c:(wd a)[k] < (wd b)[k]:=by have:=of_decide_eq_true m;omega
    have:a < b:=by rw[l,j,g];exact ZIW (A:=0) (B:=0) u (by omega)
    rw[ZnA];exact .inl (by rw[ZDN this])
   ·rw[ZnD,ZnA,ZnD,ZnA,ZnP];refine⟨fun d=> ?_,fun d=> ?_⟩
    ·have c:(wd b)[k] < (wd a)[k]:=by have:=of_decide_eq_true d;omega
     have:b < a:=by rw[l,j,g];exact ZIW (A:=0) (B:=0) t (by omega)
     rw[ZnA];exact .inl (by rw[ZDo this])
    ·rw[ZnF];refine⟨ZnH (by omega),v () ?_⟩;have c:(wd a)[k]=(wd b)[k]:=by have x:=of_decide_eq_false m;have w:=of_decide_eq_false d;omega
     rw[<-ZXs (h:=o),<-ZXs (h:=f),c,g]
  ·rintro n ⟨⟩ g;unfold ZxT Zt5;dsimp only;rw[ZnP];refine⟨fun h=>by have:=of_decide_eq_true h;omega,fun _=> ?_⟩;rw[ZnA];rw[List.drop_zero,List.drop_zero]at g;exact .inr ⟨rfl,by rw[<-ZuA a,<-ZuA b,g]⟩
  ·rintro r (rfl |⟨rfl,rfl⟩)
   ·exact ZnA.2 rfl
   ·unfold Zzo;exact ZnA.2 (ZBZ a).symm
theorem ZKa {a:Nat} (k:Nat) (hk:k<=32):shlK .u32 (a:Int) (k:Int)=((a*2 ^ k % 4294967296:Nat):Int):=by
 unfold shlK;rw[ZXn,show IntKind.bits .u32=32 from rfl,ZXV (by omega)];have e:(a:Int)*(2:Int) ^ k=((a*2 ^ k:Nat):Int):=by push_cast;rfl
 rw[e,ZzQ]
theorem ZKO (a d:Nat) (hd:d<=1) (ha:(wd a).length<=100000):Ztp (iL (wd a)) (d:Int)=some (iL (wd (2*a+d))):=by
 refine ZpD ?_;unfold Ztp;rw[ZnD];refine ZnK (ZvD ZDU (wd a).length (by omega) (fun i (s:Nat×List Nat)=>(iL (wd a),(s.1:Int),i,iL s.2)) (fun i s=>s.1<=1/\s.2.length=i/\Dg s.2/\val s.2+Bw ^ i*s.1=2*val ((wd a).take i)+d)
  (Q:=fun y=>∃(c:Nat) (o:List Nat),y=((c:Int),iL o)/\c<=1/\Dg o/\o.length=(wd a).length/\val o+Bw ^ (wd a).length*c=2*a+d) (d,[]) ⟨hd,rfl,ZGs,by simp[val]⟩ ?_ ?_) ?_
 ·rintro rec i ⟨c,o⟩ hi ⟨hc,hl,hod,hv⟩ ih;dsimp only at hc hl hod hv ih;have h1:=(ZAA a).get hi;unfold ZwI Zs6;dsimp only;rw[ZnP,Zn0];refine⟨fun _=> ?_,fun h=>by have:=of_decide_eq_false h;omega⟩;rw[Zy3 hi,ZnD,ZnA];generalize ex:(wd a)[i]=x at h1;have eor:orK .u32 (shlK .u32 (x:Int) 1) (c:Int)=((c+x*2 ^ 1 % Bw:Nat):Int):=by rw[show (1:Int)=((1:Nat):Int)from rfl,ZKa 1 (by omega),ZJA (ZXY _ (by decide)) (by omega),Nat.or_comm];congr 1;exact ZJa (by decide) (by omega) h1
  have esh:shrK .u32 (x:Int) 31=((x / 2 ^ 31:Nat):Int):=ZGQ 31 (by omega);rw[eor,ZYg,esh,ZnF,ZnF,ZnF,ZnF,Zn0];have hx:c+x*2 ^ 1 % Bw < Bw:=by simp only[Bw]at h1|-;omega
  refine⟨by decide,Ztn (by simp only[ZXv];omega),by decide,ZnH (by omega), ?_⟩;have:=ih (x / 2 ^ 31,o++[c+x*2 ^ 1 % Bw]) ⟨by simp only[Bw]at h1;dsimp only;omega,by simp[hl],hod.app (ZFK hx), ?_⟩
  ·rw[ZIg]at this;exact this
  ·dsimp only;have q:c+x*2 ^ 1 % Bw+Bw*(x / 2 ^ 31)=c+2*x:=by simp only[Bw]at h1|-;omega
   have q2:Bw ^ i*(c+x*2 ^ 1 % Bw+Bw*(x / 2 ^ 31))=Bw ^ i*(c+2*x):=by rw[q]
   have q3:Bw ^ i*(2*x)=2*(Bw ^ i*x):=ZX3 _ _ _;rw[ZXZ,ZXZ (Bw ^ i) c (2*x),q3]at q2;rw[ZAV,hl,ZoJ hi,ex];generalize c+x*2 ^ 1 % Bw=dg at*
   generalize x / 2 ^ 31=cy at*
   rw[ZYb,ZX0];omega
 ·rintro rec ⟨c,o⟩ ⟨hc,hl,hod,hv⟩;dsimp only at hc hl hod hv;unfold ZwI Zs6;dsimp only;rw[ZnP,Zn0];refine⟨fun h=>by have:=of_decide_eq_true h;omega,fun _=> ?_⟩;rw[ZnA];rw[ZXC,ZuA]at hv;exact⟨c,o,rfl,hc,hod,hl,hv⟩
 ·rintro y ⟨c,o,rfl,hc,hod,hl,hv⟩;dsimp only;unfold ZxM;have e:iL o++[(c:Int)]=iL (o++[c]):=by rw[ZIg];rfl
  rw[ZnF,Zn0,e,ZGz (hod.app (ZFK (by simp only[Bw];omega))) (by simp;omega),ZnD,ZnA,ZnA,ZAV,hl,hv];exact⟨Ztn (by simp only[ZXv];omega),rfl⟩
end Go.Proofs
namespace Go.Proofs
open Go Eng
theorem ZPx (t:Int):shrK .i64 t 32=t / 4294967296:=by unfold shrK;rw[show min (32:Int).toNat (IntKind.bits .i64)=32 from by decide,Int.fdiv_eq_ediv_of_nonneg _ (by decide)];rfl
theorem ZH0 (a b:Nat) (u:b<=a) (G:(wd a).length<=100000):Zq8 (iL (wd a)) (iL (wd b))=some (iL (wd (a - b))):=by
 have D:(wd b).length<=(wd a).length:=Zw3 u;refine ZpD ?_;unfold Zq8;rw[ZnD];refine ZnK (ZvD ZEE (wd a).length (by omega) (fun i (s:Nat×List Nat)=>(iL (wd a),iL (wd b), -(s.1:Int),i,iL s.2)) (fun i s=>s.1<=1/\s.2.length=i/\Dg s.2/\val ((wd a).take i)+Bw ^ i*s.1=val s.2+val ((wd b).take i))
  (Q:=fun y=>∃(o:List Nat),y=iL o/\Dg o/\o.length=(wd a).length/\val o=a - b) (0,[]) ⟨by simp,rfl,ZGs,by simp[val]⟩ ?_ ?_) ?_
 ·rintro m i ⟨c,o⟩ hi ⟨t,j,g,f⟩ w;dsimp only at t j g f w;have k:=(ZAA a).get hi;have n:=ZGV (ZAA b) i;have q:(wd b).getD i 0=(if i < (wd b).length then (wd b).getD i 0 else 0):=by
   by_cases h:i < (wd b).length
   ·rw[if_pos h]
   ·rw[if_neg h,ZXo,ZXq (by omega)];rfl
  have l:∀y:Nat,(wd b).getD i 0=y->wp (ZsK (fun a b c i r=>m (a,b,c,i,r)) (iL (wd a)) (iL (wd b)) (-(c:Int)+((wd a)[i]:Int) - (y:Int)) (i:Int) (iL o)) (fun y=>∃(o:List Nat),y=iL o/\Dg o/\o.length=(wd a).length/\val o=a - b):=fun y z=>by
   rw[z]at n;generalize ex:(wd a)[i]=x at k;have E:IntKind.wrap .u32 (-(c:Int)+(x:Int) - (y:Int))=(((x+4294967296 - y - c) % 4294967296:Nat):Int):=by simp only[Bw]at k n;rw[IntKind.wrap_u32];omega
   have C:shrK .i64 (-(c:Int)+(x:Int) - (y:Int)) 32= -(((if x < y+c then 1 else 0):Nat):Int):=by simp only[Bw]at k n;rw[ZPx];split<;>omega
   unfold ZsK;rw[E,C,ZnF,ZnF,ZnF,Zn0];refine⟨Ztn (by simp only[ZXv];omega),by decide,ZnH (by omega), ?_⟩;have:=w ((if x < y+c then 1 else 0),o++[(x+4294967296 - y - c) % 4294967296]) ⟨by dsimp only;split<;>omega,by simp[j],g.app (ZFK (ZXY _ (by decide))), ?_⟩
   ·rw[ZIg]at this;exact this
   ·dsimp only;rw[ZAV,j,ZYb,ZoJ hi,ZB1,ex,z,ZX0];have e:x+Bw*(if x < y+c then 1 else 0)=(x+4294967296 - y - c) % 4294967296+y+c:=by simp only[Bw]at k n|-;split<;>omega
    have F:Bw ^ i*(x+Bw*(if x < y+c then 1 else 0))=Bw ^ i*((x+4294967296 - y - c) % 4294967296+y+c):=by rw[e]
    rw[ZXZ,ZXZ,ZXZ]at F;omega
  unfold ZxN Zt1;dsimp only;rw[ZnP,Zn0,Zn0];refine⟨fun _=> ?_,fun h=>by have:=of_decide_eq_false h;omega⟩;have B:IntKind.wrap .i64 ((wd a)[i]:Int)=((wd a)[i]:Int):=wrap_i64 (by simp only[Bw]at k;omega);rw[Zy3 hi,ZnD,ZnA,B,ZnF,ZnP];refine⟨ZnH (by simp only[Bw]at k;omega),fun h=> ?_,fun h=> ?_⟩
  ·have d:i < (wd b).length:=by have:=of_decide_eq_true h;omega
   have v:=(ZAA b).get d;have A:IntKind.wrap .i64 ((wd b)[i]:Int)=((wd b)[i]:Int):=wrap_i64 (by simp only[Bw]at v;omega);rw[Zy3 d,ZnD,ZnA,A,ZnF];refine⟨ZnH (by simp only[Bw]at k v;omega),l _ ?_⟩;rw[ZXo,ZXp d];rfl
  ·have d:¬i < (wd b).length:=by have:=of_decide_eq_false h;omega
   have:=l 0 (by rw[q,if_neg d]);rw[Int.natCast_zero,Int.sub_zero]at this;exact this
 ·rintro m ⟨c,o⟩ ⟨t,j,g,f⟩;unfold ZxN Zt1;dsimp only at t j g f|-
  rw[ZnP,Zn0];refine⟨fun h=>by have:=of_decide_eq_true h;omega,fun _=> ?_⟩;rw[ZnA];rw[ZXC,ZXD (by omega),ZuA,ZuA]at f;have:=ZCg g;rw[j]at this;have p:c=0:=by
   rcases ZXM c with h |h
   ·exact h
   ·have:c=1:=by omega
    rw[this,Nat.mul_one]at f;omega
  rw[p,ZX5]at f;exact⟨o,rfl,g,j,by omega⟩
 ·rintro y ⟨o,rfl,g,j,f⟩;unfold Zzf;rw[ZGz g (by omega),ZnD,ZnA,ZnA,f]
end Go.Proofs
namespace Go.Proofs
open Go Eng
theorem ZHT (a:Nat) (ha:(wd a).length<=100000):Zqz (iL (wd a))=some (iL (wd (a / 2))):=by
 refine ZpD ?_;unfold Zqz;rw[List.nil_append,ZnF,ZnD,Zn0];refine⟨Ztn (by rw[List.length_nil];omega), ?_⟩;refine ZnK (ZvD ZEi (wd a).length (by omega) (fun i (o:List Nat)=>(iL (wd a),((wd a).length:Int),i,iL (o++(wd a).drop o.length))) (fun i o=>o.length=i/\Dg o/\val o*2+(wd a).getD 0 0 % 2=val ((wd a).take i)+Bw ^ i*((wd a).getD i 0 % 2))
  (Q:=fun y=>∃(o:List Nat),y=iL o/\Dg o/\o.length=(wd a).length/\val o=a / 2) [] ⟨rfl,ZGs,by simp[val]⟩ ?_ ?_) ?_
 ·rintro rec i o hi ⟨hol,hod,hov⟩ ih;have h1:=(ZAA a).get hi;have hyB:=ZGV (ZAA a) (i+1);have hlen:(o++(wd a).drop o.length).length=(wd a).length:=by simp;omega
  have gx:(iL (o++(wd a).drop o.length))[i]? =some ((wd a)[i]:Int):=by rw[ZGo (by omega)];congr 2;rw[ZXr (by omega)];simp[hol]
  have fin:∀z:Nat,z=(wd a)[i] / 2+(wd a).getD (i+1) 0*2 ^ 31 % Bw->wp (Zsa (fun a t9 i out=>rec (a,t9,i,out)) (iL (wd a)) ((wd a).length:Int) (i:Int) (iL ((o++(wd a).drop o.length).set i z))) (fun y=>∃(o:List Nat),y=iL o/\Dg o/\o.length=(wd a).length/\val o=a / 2):=fun z hz=>by
   unfold Zsa;have es:(o++(wd a).drop o.length).set i z=(o++[z])++(wd a).drop (o++[z]).length:=by rw[ZXA _ _ (by omega),hol,Nat.sub_self,<-ZXs (h:=hi),List.set_cons_zero];simp[hol]
   have eg:(wd a).getD i 0=(wd a)[i]:=by rw[ZXo,ZXp hi];rfl
   rw[eg]at hov;rw[ZnF,es];generalize ex:(wd a)[i]=x at*
   generalize ey:(wd a).getD (i+1) 0=y at*
   have hzB:z < Bw:=by simp only[Bw]at h1 hz|-;omega
   refine⟨ZnH (by omega),ih (o++[z]) ⟨by simp[hol],hod.app (ZFK hzB), ?_⟩⟩;have hd1:z*2+x % 2=x+Bw*(y % 2):=by simp only[Bw]at h1 hz|-;omega
   have q1:Bw ^ i*(z*2+x % 2)=Bw ^ i*(x+Bw*(y % 2)):=by rw[hd1]
   rw[ZXZ,ZXZ]at q1;rw[ZAV,hol,ZoJ hi,ex,ZYb,ZXE,ZX0,ZX0];omega
  unfold Zxk ZtJ;dsimp only;rw[ZnP];refine⟨fun _=> ?_,fun h=>by have:=of_decide_eq_false h;omega⟩;have esh:shrK .u32 ((wd a)[i]:Int) 1=(((wd a)[i] / 2:Nat):Int):=ZGQ 1 (by omega);rw[ZXn,gx,ZnF,ZnD,ZnA,ZnF,ZnF,ZnF,esh,ZFo,Zn0,Zn0,hlen,ZnP];refine⟨ZoH ⟨by omega,by omega⟩,by decide,ZoH ⟨by omega,by omega⟩,ZnH (by omega),fun h=> ?_,fun h=> ?_⟩
  ·have hi2:i+1 < (wd a).length:=by have:=of_decide_eq_true h;omega
   have gz:(iL ((o++(wd a).drop o.length).set i ((wd a)[i] / 2)))[i]? =some (((wd a)[i] / 2:Nat):Int):=by rw[ZGo (by rw[List.length_set];omega),List.getElem_set_self]
   have e1:(i:Int)+1=((i+1:Nat):Int):=rfl;have eg:(wd a).getD (i+1) 0=(wd a)[i+1]:=by rw[ZXo,ZXp hi2];rfl
   have eor:orK .u32 (((wd a)[i] / 2:Nat):Int) (shlK .u32 ((wd a)[i+1]:Int) 31)=(((wd a)[i] / 2+(wd a).getD (i+1) 0*2 ^ 31 % Bw:Nat):Int):=by rw[eg,show (31:Int)=((31:Nat):Int)from rfl,ZKa 31 (by omega),ZJA (by simp only[Bw]at h1;omega) (ZXY _ (by decide))];congr 1;exact ZJa (by decide) (by simp only[Bw]at h1;omega) ((ZAA a).get hi2)
   rw[e1,Zy3 hi2,gz,ZnF,ZnD,ZnA,ZnF,ZnD,ZnA,ZnF,ZnF,eor,Zn0,List.length_set,hlen,ZFo,List.set_set];exact⟨ZoH ⟨by omega,by omega⟩,ZnH (by omega),by decide,ZoH ⟨by omega,by omega⟩,fin _ rfl⟩
  ·have hi2:¬i+1 < (wd a).length:=by have:=of_decide_eq_false h;omega
   refine fin _ ?_;rw[ZXo,ZXq (by omega)];simp
 ·rintro rec o ⟨hol,hod,hov⟩;unfold Zxk ZtJ;dsimp only;rw[ZnP];refine⟨fun h=>by have:=of_decide_eq_true h;omega,fun _=> ?_⟩;rw[ZnA];have eg:(wd a).getD (wd a).length 0=0:=by rw[ZXo,ZXq (by omega)];rfl
  rw[eg,Nat.zero_mod,ZX5,ZXI,ZXC,ZuA]at hov;refine⟨o,by rw[hol,List.drop_length,List.append_nil],hod,hol, ?_⟩;omega
 ·rintro y ⟨o,rfl,hd,hl,hv⟩;unfold ZyH;rw[ZGz hd (by omega),ZnD,ZnA,ZnA,hv]
end Go.Proofs
namespace Go.Proofs
open Go Eng
theorem ZJD {a:Nat} (h:a≠0):idx (iL (wd a)) 0=some ((a % Bw:Nat):Int):=by rw[ZG2 h];rfl
theorem ZIi {a:Nat}:(andK .u32 ((a % Bw:Nat):Int) 1 == 0)=decide (a % 2=0):=by
 rw[show (1:Int)=((1:Nat):Int)from rfl,ZJj (ZXY _ (by decide)) (by decide),Nat.and_one_is_mod];have e:a % Bw % 2=a % 2:=by simp only[Bw];omega
 rw[e]
 by_cases h:a % 2=0
 ·rw[h];rfl
 ·rw[decide_eq_false h];exact beq_eq_false_iff_ne.2 (by omega)
theorem ZK6 (P:Nat->Prop) {f:Nat->List Int×List Int×Int->Option (List Int×List Int×Int)} (y:List Int) (k:Int)
  (hf:∀n x,x≠0->(wd x).length<=100000->f (n+1) (iL (wd x),y,k)=if x % 2=0 then f n (iL (wd (x / 2)),y,k)else some (iL (wd x),y,k))
  (hP:∀x,P (2*x)->P x):∀(n x:Nat),x≠0->(wd x).length<=100000->P x->(∀m,x < 2 ^ m->m<=n->∃z,f n (iL (wd x),y,k)=some (iL (wd z),y,k)/\z % 2=1/\z<=x/\P z)
 |0,x,hx,hl,hp,m,hm,hmn=>by
  have:m=0:=by omega
  subst this;rw[ZYc]at hm;omega
 |n+1,x,hx,hl,hp,m,hm,hmn=>by
  rw[hf n x hx hl]
  by_cases h:x % 2=0
  ·rw[if_pos h];cases m with
   |zero=>rw[ZYc]at hm;omega
   |succ m=>
    obtain⟨z,h1,h2,h3,h4⟩:=ZK6 P y k hf hP n (x / 2) (by omega) (ZXR (Zw3 (ZXL x 2)) hl) (hP _ (by rwa [show 2*(x / 2)=x by omega])) m (by rw[ZYb]at hm;omega) (by omega);exact⟨z,h1,h2,by omega,h4⟩
  ·rw[if_neg h];exact⟨x,rfl,by omega,ZXQ _,hp⟩
end Go.Proofs
namespace Go.Proofs
open Go Eng
theorem ZDO (x:Nat):x < 2 ^ (x.log2+1):=Nat.lt_log2_self
theorem ZFX {x n:Nat} (h:(wd x).length<=n):x.log2<=32*n:=by
 rcases ZXM x with rfl |d
 ·rw[Nat.log2_zero];omega
 ·have c:=Nat.log2_self_le (n:=x) (by omega);have b:=ZXT (ZBl x) (ZX9 (n:=Bw) (by decide) h);rw[show Bw=2 ^ 32 from rfl,<-ZYa]at b;exact ZXP ((Nat.pow_lt_pow_iff_right (a:=2) (by decide)).1 (ZXS c b))
theorem ZMB {x b:Nat} (a:b % 2=1):ZXN (2*x) b=ZXN x b:=by
 have c:Nat.Coprime 2 b:=by unfold Nat.Coprime;rw[Nat.gcd_rec,a,Nat.gcd_one_left]
 exact Nat.Coprime.gcd_mul_left_cancel x c
theorem ZVQ (y:List Int) (k:Int) {x:Nat} (b:Nat) (d:b % 2=1) (c:x≠0) (a:(wd x).length<=100000):∃z,Zo3 big (iL (wd x)) y k=some (iL (wd z),y,k)/\z % 2=1/\z<=x/\ZXN z b=ZXN x b:=by
 have e:=ZFX a;refine ZK6 (fun z=>ZXN z b=ZXN x b) (f:=fun n t=>Zo3 n t.1 t.2.1 t.2.2) y k (fun n x c a=> ?_) (fun z h=>by rwa [ZMB d]at h) big x c a rfl (x.log2+1) (ZDO x) (ZXP (ZFN (by omega)));show ZrC (Zo3 n) (iL (wd x)) y k=_;unfold ZrC;rw[ZJD c,ZYg,ZIi]
 by_cases h:x % 2=0
 ·rw[decide_eq_true h,cond_true,if_pos h,ZHT x a,ZYg]
 ·rw[decide_eq_false h,cond_false,if_neg h]
end Go.Proofs
namespace Go.Proofs
open Go Eng
theorem ZON (y:List Int) (k:Int) {x:Nat} (b:x % 2=1):Zo3 big (iL (wd x)) y k=some (iL (wd x),y,k):=by obtain⟨n,a⟩:=ZIn 1 (by decide);rw[a];show ZrC (Zo3 n) (iL (wd x)) y k=_;unfold ZrC;rw[ZJD (by omega),ZYg,ZIi,decide_eq_false (by omega),cond_false]
theorem ZVP (w:List Int) (k:Int) {y:Nat} (b:Nat) (j:b % 2=1) (l:y≠0) (a:(wd y).length<=100000):∃z,Zo2 big w (iL (wd y)) k=some (w,iL (wd z),k)/\z % 2=1/\(z<=y/\(y % 2=0->z<=y / 2))/\ZXN z b=ZXN y b:=by
 have c:=ZFX a;have d:∀n x,x≠0->(wd x).length<=100000->Zo2 (n+1) w (iL (wd x)) k=if x % 2=0 then Zo2 n w (iL (wd (x / 2))) k else some (w,iL (wd x),k):=fun n x e a=>by
  show ZxQ (Zo2 n) w (iL (wd x)) k=_;unfold ZxQ;rw[ZJD e,ZYg,ZIi]
  by_cases h:x % 2=0
  ·rw[decide_eq_true h,cond_true,if_pos h,ZHT x a,ZYg]
  ·rw[decide_eq_false h,cond_false,if_neg h]
 have f:∀(n x m:Nat),x≠0->(wd x).length<=100000->x < 2 ^ m->m<=n->∃z,Zo2 n w (iL (wd x)) k=some (w,iL (wd z),k)/\z % 2=1/\(z<=x/\(x % 2=0->z<=x / 2))/\ZXN z b=ZXN x b:=by
  intro n
  induction n with
  |zero=>
   intro x m e a c g;have:m=0:=by omega
   subst this;rw[ZYc]at c;omega
  |succ n s=>
   intro x m e a c g;rw[d n x e a]
   by_cases h:x % 2=0
   ·rw[if_pos h];cases m with
    |zero=>rw[ZYc]at c;omega
    |succ m=>
     obtain⟨z,r,q,i,p⟩:=s (x / 2) m (by omega) (ZXR (Zw3 (ZXL x 2)) a) (by rw[ZYb]at c;omega) (by omega);refine⟨z,r,q,⟨by omega,fun _=>i.1⟩, ?_⟩;rw[p,<-ZMB j,show 2*(x / 2)=x by omega]
   ·rw[if_neg h];exact⟨x,rfl,by omega,⟨ZXQ _,fun o=>absurd o h⟩,rfl⟩
 exact f big y (y.log2+1) l a (ZDO y) (ZXP (ZFN (by omega)))
end Go.Proofs
namespace Go.Proofs
open Go Eng
theorem ZNS (k:Int):∀(n x y p q:Nat),x % 2=1->(wd x).length<=100000->(wd y).length<=100000->x < 2 ^ p->y < 2 ^ q->p+q+y % 2 < n->Zn3 n (iL (wd x)) (iL (wd y)) k=some (iL (wd (ZXN x y)),k)
 |0,x,y,p,q,_,_,_,_,_,h=>absurd h (by omega)
 |n+1,x,y,p,q,f,hxl,d,hp,hq,hn=>by
  show ZrD (Zn3 n) _ _ _=_;unfold ZrD;rw[Zn0]
  by_cases j:y=0
  ·subst j;rw[Zy5,Nat.gcd_zero_right];rfl
  ·have s:=Zvj j;obtain⟨z,m,e,c,l⟩:=ZVP (iL (wd x)) k x f j d;rw[decide_eq_true (by omega),cond_true,ZON _ _ f,ZYg];dsimp only;unfold Zzl;rw[m,ZYg];dsimp only;have a:=ZXR (Zw3 c.1) d;unfold Zzk;rw[ZIm x z hxl a,ZYg];obtain⟨b,g,r⟩:∃b,z < 2 ^ b/\b+1<=q+y % 2:=by
    by_cases he:y % 2=0
    ·cases q with
     |zero=>rw[ZYc]at hq;omega
     |succ q=>
      refine⟨q, ?_,by omega⟩;have:=c.2 he;rw[ZYb]at hq;omega
    ·exact⟨q,by omega,by omega⟩
   unfold ZvQ;have o:ZXN x y=ZXN x z:=by rw[ZXO x y,<-l,ZXO]
   rw[o]
   by_cases hc:z < x
   ·rw[ZDo hc,show decide ((1:Int) > 0)=true from rfl,cond_true,ZH0 x z (by omega) hxl,ZYg,ZNS k n z (x - z) b p e a (ZXR (Zw3 (Nat.sub_le x z)) hxl) g (by omega) (by omega),Nat.gcd_sub_self_right (by omega),ZXO]
   ·have i:decide (ZIK x z > 0)=false:=by refine decide_eq_false ?_;unfold ZIK;rw[if_neg hc];split<;>decide
    rw[i,cond_false,ZH0 z x (by omega) a,ZYg,ZNS k n x (z - x) p b f hxl (ZXR (Zw3 (Nat.sub_le z x)) a) hp (by omega) (by omega),Nat.gcd_sub_self_right (by omega)]
end Go.Proofs
namespace Go.Proofs
open Go Eng
theorem ZSX:∀(n x y j m:Nat),x≠0->y≠0->(wd x).length<=100000->(wd y).length<=100000->x < 2 ^ m->m<=n->j+m<=1000000000->
  ∃b a t:Nat,Zq5 n (iL (wd x)) (iL (wd y)) (j:Int)=some (iL (wd b),iL (wd a),((j+t:Nat):Int))/\(b % 2=1\/a % 2=1)/\ZXN x y=2 ^ t*ZXN b a/\b≠0/\a≠0/\b<=x/\a<=y/\t<=m
 |0,x,y,j,m,hx,hy,c,d,e,hmn,hj=>by
  have:m=0:=by omega
  subst this;rw[ZYc]at e;omega
 |n+1,x,y,j,m,hx,hy,c,d,e,hmn,hj=>by
  show ∃b a t:Nat,ZxR (Zq5 n) _ _ _=_/\_;unfold ZxR ZvR;rw[ZJD hx,ZYg,ZIi]
  by_cases h1:x % 2=0
  ·rw[decide_eq_true h1,cond_true,ZJD hy,ZYg,ZIi]
   by_cases h2:y % 2=0
   ·cases m with
    |zero=>rw[ZYc]at e;omega
    |succ m=>
     rw[decide_eq_true h2,cond_true,ZHT x c,ZYg,ZHT y d,ZYg,ZnH (by omega),chk_true];obtain⟨b,a,t,i,h,f,k,g,l,o,p⟩:=ZSX n (x / 2) (y / 2) (j+1) m (by omega) (by omega) (ZXR (Zw3 (ZXL x 2)) c) (ZXR (Zw3 (ZXL y 2)) d) (by rw[ZYb]at e;omega) (by omega) (by omega);refine⟨b,a,t+1, ?_,h, ?_,k,g,by omega,by omega,by omega⟩
     ·rw[show (j:Int)+1=((j+1:Nat):Int)from rfl,i,show j+1+t=j+(t+1) by omega]
     ·have:=Nat.gcd_mul_left 2 (x / 2) (y / 2);rw[show 2*(x / 2)=x by omega,show 2*(y / 2)=y by omega]at this;rw[this,f,ZYb,ZX1 (2 ^ t) 2,ZX0]
   ·rw[decide_eq_false h2,cond_false];exact⟨x,y,0,rfl,.inr (by omega),by rw[ZYc,ZX6],hx,hy,ZXQ _,ZXQ _,Nat.zero_le _⟩
  ·rw[decide_eq_false h1,cond_false,cond_false];exact⟨x,y,0,rfl,.inl (by omega),by rw[ZYc,ZX6],hx,hy,ZXQ _,ZXQ _,Nat.zero_le _⟩
theorem ZSW:∀(k n a:Nat),k < n->k<=1000000000->(wd (2 ^ k*a)).length<=100000->Zq4 n (iL (wd a)) (k:Int)=some (iL (wd (2 ^ k*a)))
 |k,0,a,h,_,_=>absurd h (by omega)
 |0,n+1,a,_,_,_=>by show ZrB (Zq4 n) _ _=_;unfold ZrB;rw[ZYc,ZX6];rfl
 |k+1,n+1,a,h,hk,hl=>by
  show ZrB (Zq4 n) _ _=_;unfold ZrB;have e:2 ^ (k+1)*a=2 ^ k*(2*a+0):=by rw[ZYb,ZX0,ZXI]
  have c:(wd a).length<=100000:=ZXR (Zw3 (Nat.le_mul_of_pos_left a (ZYe _))) hl;rw[e]at hl;have b:=ZKO a 0 (by omega) c;rw[Int.natCast_zero]at b;rw[decide_eq_true (by omega),cond_true,b,ZYg,show ((k+1:Nat):Int) - 1=(k:Int) by omega,ZnH (by omega),chk_true,ZSW k n (2*a+0) (by omega) (by omega) hl,e]
theorem ZMC (a b:Nat) (ha0:a≠0) (hb0:b≠0) (ha:(wd a).length<=50000) (hb:(wd b).length<=50000):Zu3 (iL (wd a)) (iL (wd b))=some (iL (wd (ZXN a b))):=by
 have hla:=ZFX ha;have hlb:=ZFX hb;obtain⟨x,y,t,q1,q2,q3,q4,q5,q6,q7,q8⟩:=ZSX big a b 0 (a.log2+1) ha0 hb0 (by omega) (by omega) (ZDO a) (ZXP (ZFN (by omega))) (by omega);rw[Int.natCast_zero,ZYf]at q1;have hxl:=ZXR (Zw3 q6) ha;have hyl:=ZXR (Zw3 q7) hb;have hlx:=ZFX hxl;have hly:=ZFX hyl;have main:Zn3 big (iL (wd x)) (iL (wd y)) (t:Int)=some (iL (wd (ZXN x y)),(t:Int)):=by
  by_cases hx:x % 2=1
  ·exact ZNS _ big x y _ _ hx (by omega) (by omega) (ZDO x) (ZDO y) (ZFN (by omega))
  ·have hy:y % 2=1:=by omega
   obtain⟨z,z1,z2,z3,z4⟩:=ZVQ (iL (wd y)) (t:Int) y hy q4 (by omega);have hzl:=ZXR (Zw3 z3) hxl;have hlz:=ZFX hzl;have e:=ZNS (t:Int) big z y _ _ z2 (by omega) (by omega) (ZDO z) (ZDO y) (ZFN (by omega));rw[z4]at e;rw[<-e];obtain⟨n,hn⟩:∃n,big=n+1:=⟨36893488147419103231,by rw[big_eq]⟩;have s1:∀u,Zn3 big (iL (wd u)) (iL (wd y)) (t:Int)=ZrD (Zn3 n) (iL (wd u)) (iL (wd y)) (t:Int):=fun u=>by rw[hn];rfl
   rw[s1,s1];unfold ZrD;have hl:=Zvj q5;rw[Zn0,decide_eq_true (by omega),cond_true,cond_true,z1,ZON _ _ z2]
 have hg:(wd (2 ^ t*ZXN x y)).length<=100000:=by rw[<-q3];exact ZXR (ZL0 (by omega) hb) (by omega)
 unfold Zu3;rw[q1,ZYg];dsimp only;unfold Zzm Zzj Zzi;rw[main,ZYg];dsimp only;rw[ZSW t big _ (ZFN (by omega)) (by omega) hg,ZYg,q3]
end Go.Proofs
namespace Go.Proofs
open Go Eng
theorem ZMJ {l:List Nat} {i:Nat} (d:Dg l) (h:i / 32 < l.length):l[i / 32] / 2 ^ (i % 32) % 2=val l / 2 ^ i % 2:=by
 have e:=ZES h;have a:=ZCg (d.take (i / 32));rw[ZXw,ZXV (by omega)]at a;have hi:2 ^ i=Bw ^ (i / 32)*2 ^ (i % 32):=by rw[show Bw=2 ^ 32 from rfl,<-ZYa,<-ZX8,ZXJ]
 have g:i % 32 < 32:=ZXY _ (by decide);have b:Bw=2 ^ (i % 32)*(2*2 ^ (31 - i % 32)):=by rw[show 2*2 ^ (31 - i % 32)=2 ^ (31 - i % 32+1) by rw[ZYb,ZX1],<-ZX8,show i % 32+(31 - i % 32+1)=32 by omega]
 have c:val l / Bw ^ (i / 32)=l[i / 32]+Bw*val (l.drop (i / 32+1)):=by rw[e,ZXF _ _ (Nat.pow_pos (by decide)),ZXK a,ZYf]
 rw[hi,<-Nat.div_div_eq_div_mul,c];generalize l[i / 32]=x;generalize val (l.drop (i / 32+1))=y;have f:(x+Bw*y) / 2 ^ (i % 32)=x / 2 ^ (i % 32)+2*(2 ^ (31 - i % 32)*y):=by rw[b,ZX0,ZXF _ _ (ZYe _),ZX0]
 rw[f,ZXH]
end Go.Proofs
namespace Go.Proofs
open Go Eng
theorem ZOA (i:Nat):Int.tdiv (i:Int) 32=((i / 32:Nat):Int):=by rw[Int.tdiv_eq_ediv_of_nonneg (by omega)];norm_cast
theorem ZOz (i:Nat):IntKind.wrap .u64 (Int.tmod (i:Int) 32)=((i % 32:Nat):Int):=by rw[Int.tmod_eq_emod_of_nonneg (by omega),IntKind.wrap_u64];omega
theorem ZTt {l:List Nat} {i:Nat} (a:Dg l) (h:i / 32 < l.length) (hi:i<=1000000000):Zyi (iL l) (i:Int)=some ((val l / 2 ^ i % 2:Nat):Int):=by have b:=a.get h;unfold Zyi;rw[ZOA,ZOz,decide_eq_true (by decide),chk_true,ZnH (by omega),chk_true,Zy3 h,ZYg,chk_true,decide_eq_true (by omega),chk_true,ZGQ _ (by omega),show (1:Int)=((1:Nat):Int)from rfl,ZJj (ZXS (ZXL _ _) b) (by decide),Nat.and_one_is_mod,ZMJ a h]
end Go.Proofs
namespace Go.Proofs
open Go Eng
theorem ZOJ {x j:Nat} (h:x / 2 ^ j % 2=0):x|||2 ^ j=x+2 ^ j:=by
 have a:=ZXY x (ZYe j);have e:x=2 ^ (j+1)*(x / 2 ^ j / 2)+x % 2 ^ j:=by
  have k:=ZXJ x (2 ^ j);have g:2*(x / 2 ^ j / 2)=x / 2 ^ j:=by omega
  rw[ZYb,ZX0,g,k]
 have f:=ZYd (i:=j+1) (b:=x % 2 ^ j) (by rw[ZYb];omega) (x / 2 ^ j / 2);have d:=ZYd (i:=j) (b:=x % 2 ^ j) a 1;have c:=ZYd (i:=j+1) (b:=2 ^ j*1+x % 2 ^ j) (by rw[ZYb];omega) (x / 2 ^ j / 2);rw[Nat.mul_one]at d c;generalize x / 2 ^ j / 2=t at*
 generalize x % 2 ^ j=lo at*
 rw[e,f,Nat.or_assoc,Nat.or_comm lo,<-d,<-c,<-f];omega
theorem ZPz {j:Nat} (hj:j<=31):shlK .u32 1 (j:Int)=((2 ^ j:Nat):Int):=by have:=ZKa (a:=1) j (by omega);rw[ZX6,ZXX (ZXS (ZX9 (by decide) hj) (by decide))]at this;exact this
theorem ZMz {A k:Nat}:A / 2 ^ k=2*(A / 2 ^ (k+1))+A / 2 ^ k % 2:=by rw[ZYb,<-Nat.div_div_eq_div_mul];omega
theorem ZME (a b:Nat) (c:b≠0) (W:(wd a).length<=50000) (N:(wd b).length<=50000):Zu4 (iL (wd a)) (iL (wd b))=some (iL (wd (a / b)),iL (wd (a % b))):=by
 have u:∀k,(wd (2*(a / 2 ^ (k+1) % b)+a / 2 ^ k % 2)).length<=50001:=fun k=>by
  have Y:=ZXY (a / 2 ^ (k+1)) (ZX7 c);have J:2*(a / 2 ^ (k+1) % b)+a / 2 ^ k % 2<=b+b:=by omega
  exact ZXR (Zw3 J) (ZJn N N)
 refine ZpD ?_;unfold Zu4;rw[ZnF,ZnF,ZnF,ZnD,Zn0,ZXn,ZIf];refine⟨ZFW (by omega),ZnH (by omega),ZnH (by omega), ?_⟩;have D:(32*((wd a).length:Int)) - 1=((32*(wd a).length:Nat):Int) - 1:=by omega
 rw[D,show ([]:List Int)=iL (wd 0) by rw[Zy5];rfl];refine ZnK (ZHe ZEH (32*(wd a).length) (by omega) (fun i (q:Nat×List Nat)=>(iL (wd a),iL (wd b),iL (wd q.1),i,iL q.2))
  (fun k q=>q.1=a / 2 ^ k % b/\Dg q.2/\q.2.length=(wd a).length/\val q.2=a / 2 ^ k / b*2 ^ k)
  (Q:=fun y=>∃o:List Nat,y=(iL (wd (a % b)),iL o)/\Dg o/\o.length=(wd a).length/\val o=a / b) (0,ZXz (wd a).length 0) ?_ ?_ ?_) ?_
 ·have T:a / 2 ^ (32*(wd a).length)=0:=by refine ZXK ?_;rw[ZYa];exact ZBl a
  rw[T,Nat.zero_mod,Nat.zero_div,Nat.zero_mul];exact⟨rfl,ZMG _,ZXu,ZJ6 _⟩
 ·rintro z k ⟨r,q⟩ Z ⟨g,f,p,e⟩ R;dsimp only at g f p e;have v:k / 32 < (wd a).length:=by omega
  unfold ZxS Zt4;dsimp only;have l:=ZTt (i:=k) (ZAA a) v (by omega);rw[ZuA]at l;have J:a / 2 ^ k % 2<=1:=by omega
  have I:=ZKO r (a / 2 ^ k % 2) J (by
   rw[g];exact ZXR (Zw3 (ZXP (ZXY _ (ZX7 c)))) (by omega))
  have G:=u k;rw[<-g]at G;have B:=ZMz (A:=a) (k:=k);have H:=ZXJ (a / 2 ^ (k+1)) b;rw[<-g]at H;have K:r < b:=by rw[g];exact ZXY _ (ZX7 c)
  rw[ZnP];refine⟨fun _=> ?_,fun h=>by have:=of_decide_eq_false h;omega⟩;rw[l,ZnD,ZnA,I,ZnD,ZnA,ZIm _ _ (by omega) (by omega),ZnD,ZnA,ZnP];have O:∀E s,(E=a / 2 ^ k % b/\Dg s/\s.length=(wd a).length/\val s=a / 2 ^ k / b*2 ^ k)->wp (ZsN (fun a b S i q=>z (a,b,S,i,q)) (iL (wd a)) (iL (wd b)) (iL (wd E)) (k:Int) (iL s)) (fun y=>∃o:List Nat,y=(iL (wd (a % b)),iL o)/\Dg o/\o.length=(wd a).length/\val o=a / b):=fun E s h=>by unfold ZsN;rw[ZnF];exact⟨ZnH (by omega),R (E,s) h⟩
  generalize eX:a / 2 ^ (k+1)=X at*
  generalize ed:a / 2 ^ k % 2=d at*
  refine⟨fun m=> ?_,fun m=> ?_⟩
  ·have F:b<=2*r+d:=by
    rcases ZXU (2*r+d) b with h |h
    ·rw[ZDN h]at m;exact absurd (of_decide_eq_true m) (by decide)
    ·exact h
   have C:k / 32 < q.length:=by omega
   have L:q[k / 32] / 2 ^ (k % 32) % 2=0:=by rw[ZMJ f C,e,ZYb,<-ZX0,Nat.mul_right_comm,Nat.mul_div_cancel _ (ZYe k)];omega
   have j:=f.get C;rw[ZH0 _ _ F (by omega),ZnD,ZnA,ZOA,ZOz,ZXn,ZnF,ZnF,ZnF,ZGo C,ZnD,ZnA,ZnF,ZnF,ZnF,ZPz (by omega),ZJA j (ZXS (ZX9 (by decide) (show k % 32<=31 by omega)) (by decide)),ZOJ L,ZFo,Zn0];refine⟨by decide,ZnH (by omega),ZoH ⟨by omega,by omega⟩,by decide,decide_eq_true (by omega),ZoH ⟨by omega,by omega⟩, ?_⟩;have w:q[k / 32]+2 ^ (k % 32) < Bw:=by
    have V:Bw=2 ^ (k % 32)*(2*2 ^ (31 - k % 32)):=by rw[show 2*2 ^ (31 - k % 32)=2 ^ (31 - k % 32+1) by rw[ZYb,ZX1],<-ZX8,show k % 32+(31 - k % 32+1)=32 by omega]
    rw[<-ZOJ L];exact Nat.or_lt_two_pow (n:=32) j (ZXS (ZX9 (by decide) (show k % 32<=31 by omega)) (by decide))
   refine O (2*r+d - b) (q.set (k / 32) (q[k / 32]+2 ^ (k % 32))) ⟨?_,f.set _ w,by rw[List.length_set,p], ?_⟩
   ·rw[B,show 2*X+d=(2*r+d - b)+b*(2*(X / b)+1) by rw[ZXZ,ZX3];omega,ZXH,ZXX (by omega)]
   ·have t:=ZFs q (k / 32) (q[k / 32]+2 ^ (k % 32)) C;have U:Bw ^ (k / 32)*2 ^ (k % 32)=2 ^ k:=by rw[show Bw=2 ^ 32 from rfl,<-ZYa,<-ZX8,ZXJ]
    rw[ZXZ,U]at t;have P:(2*X+d) / b=2*(X / b)+1:=by rw[show 2*X+d=(2*r+d - b)+b*(2*(X / b)+1) by rw[ZXZ,ZX3];omega,ZXF _ _ (ZX7 c),ZXK (by omega),ZYf]
    rw[B,P];rw[e,ZYb]at t;have e2:X / b*(2 ^ k*2)=2*(X / b)*2 ^ k:=by rw[ZX1 (2 ^ k) 2,<-ZX0,ZX1 (X / b) 2]
    rw[ZXE,ZX6];omega
  ·have x:2*r+d < b:=by
    rcases ZXU (2*r+d) b with h |h
    ·exact h
    ·rcases ZXU b (2*r+d)with M |M
     ·rw[ZDo M]at m;exact absurd (of_decide_eq_false m) (by decide)
     ·rw[show 2*r+d=b by omega,ZBZ]at m;exact absurd (of_decide_eq_false m) (by decide)
   have D:2*X+d=(2*r+d)+b*(2*(X / b)):=by rw[ZX3];omega
   refine O (2*r+d) q ⟨?_,f,p, ?_⟩
   ·rw[B,D,ZXH,ZXX x]
   ·rw[B,D,ZXF _ _ (ZX7 c),ZXK x,ZYf,e,ZYb,ZX1 (2 ^ k) 2,<-ZX0,ZX1 (X / b) 2]
 ·rintro z ⟨r,q⟩ ⟨g,f,p,e⟩;dsimp only at g f p e;rw[ZYc,Nat.div_one]at g e;unfold ZxS Zt4;dsimp only;rw[ZnP];refine⟨fun h=>by have:=of_decide_eq_true h;omega,fun _=> ?_⟩;rw[ZnA,g];exact⟨q,rfl,f,p,by rw[e,Nat.mul_one]⟩
 ·rintro y ⟨o,rfl,f,p,e⟩;dsimp only;unfold Zzn;rw[ZGz f (by omega),ZnD,ZnA,ZnA,e]
end Go.Proofs
namespace Go.Proofs
open Go Eng
theorem ZLC (n:Int):Rat.divInt n 1=(n:Rat):=by have h:=Rat.num_divInt_den (n:Rat);rw[Rat.num_intCast,Rat.den_intCast]at h;exact h
end Go.Proofs
namespace Go.Proofs
open Go Eng
theorem ZCT (z:Int) (h1: -9223372036854775808<=z) (h2:z<=9223372036854775807):Zob z=some (bg z):=by
 have key:∀(b:Bool) (n:Nat),n < 18446744073709551616->Zog b [IntKind.wrap .u32 (n:Int),IntKind.wrap .u32 (shrK .u64 (n:Int) 32)]=some (bg (if b then -(n:Int)else n)):=fun b n h=>by
  have e:([IntKind.wrap .u32 (n:Int),IntKind.wrap .u32 (shrK .u64 (n:Int) 32)]:List Int)=iL [n % 4294967296,n / 4294967296]:=by rw[show (32:Int)=((32:Nat):Int)from rfl,ZFS 32 (by omega),ZzQ,ZAz (by omega)];rfl
  have hd:Dg [n % 4294967296,n / 4294967296]:=fun d hd=>by
   simp only[ZXx,List.mem_singleton,ZXy,or_false]at hd;rcases hd with rfl |rfl
   ·exact ZXY _ (by decide)
   ·simp only[Bw];omega
  have hv:val [n % 4294967296,n / 4294967296]=n:=by simp only[val,ZX5,ZXI];exact ZXW n Bw
  rw[e,ZGw b hd (by simp),hv]
 unfold Zob Zs8;have h32:decide (0<=(32:Int))=true:=rfl
 by_cases hz:z < 0
 ·have e:IntKind.wrap .u64 (0 - IntKind.wrap .u64 z)=((z.natAbs:Nat):Int):=by rw[IntKind.wrap_u64,IntKind.wrap_u64];omega
  rw[decide_eq_true hz,cond_true,h32,chk_true,e,key true _ (by omega),ZYg,if_pos rfl,show -((z.natAbs:Nat):Int)=z by omega]
 ·have e:IntKind.wrap .u64 z=((z.natAbs:Nat):Int):=by rw[IntKind.wrap_u64];omega
  rw[decide_eq_false hz,cond_false,h32,chk_true,e,key false _ (by omega),ZYg,if_neg (by decide),show ((z.natAbs:Nat):Int)=z by omega]
theorem ZQs:bg 0=⟨false,[]⟩:=by unfold bg;rw[show (0:Int).natAbs=0 from rfl,Zy5];rfl
theorem ZGE (x y:Int) (hy:y≠0) (hx1:Wl 50000 x) (hy1:Wl 50000 y):Zq3 (bg x) (bg y)=some (fOf (Rat.divInt x y)):=by
 unfold Zq3
 by_cases hx:x=0
 ·subst hx;rw[Rat.zero_divInt,ZpS,Zn0,show (0:Int).natAbs=0 from rfl,Zy5,ZCT 1 (by decide) (by decide)];show some (ZnB.mk ⟨false,[]⟩ (bg 1))=some (fOf 0);rw[<-ZQs];rfl
 ·have hx0:0 < x.natAbs:=by omega
  have hy0:0 < y.natAbs:=by omega
  have hg0:ZXN x.natAbs y.natAbs≠0:=fun e=>by have:=Nat.gcd_pos_of_pos_right x.natAbs hy0;omega
  have hgl:=ZL0 (x:=x.natAbs) hy0 hy1;have hxl:=ZKM (ZXN x.natAbs y.natAbs) hx1;have hyl:=ZKM (ZXN x.natAbs y.natAbs) hy1;have h:=ZGC x y hy hx1 hy1;unfold Zuy at h;rw[ZpS,ZpS,ZIl _ _ hx1 hy1,ZYg,ZHl _ _ hg0 hx1 hgl,ZYg]at h;dsimp only at h;rw[ZHl _ _ hg0 hy1 hgl,ZYg]at h;dsimp only at h;rw[ZAB _ _ (by omega),ZYg,ZAB _ _ (by omega),ZYg]at h;have hlen:=Zvj (n:=x.natAbs) (by omega);rw[<-h,ZpS,ZpS,Zn0,beq_eq_false_iff_ne.2 (by omega),cond_false,ZMC _ _ (by omega) (by omega) hx1 hy1,ZYg,ZME _ _ hg0 hx1 hgl,ZYg];dsimp only;rw[ZME _ _ hg0 hy1 hgl,ZYg];dsimp only;rw[ZGw _ (ZAA _) (by omega),ZYg,ZGw _ (ZAA _) (by omega),ZYg,ZuA,ZuA]
theorem ZNN (x y:Int) (c:y≠0) (a:Wl 256 x) (b:Wl 256 y):Zxl (bg x) (bg y)=some (fOf (Rat.divInt x y),0):=by unfold Zxl ZuV;rw[ZDQ,ZER x a,ZYg,ZSL,cond_false,ZDQ,ZER y b,ZYg,ZSL,cond_false,ZHf c,cond_false,ZGE x y c (ZXR a (by decide)) (ZXR b (by decide)),ZYg]
theorem ZSS (x y:Int) (e:y≠0) (d: -9223372036854775808<=x) (c:x<=9223372036854775807) (a: -9223372036854775808<=y) (b:y<=9223372036854775807):Zwb x y=some (fOf (Rat.divInt x y),0):=by unfold Zwb;rw[ZCT x d c,ZYg,ZCT y a b,ZYg,ZNN x y e (ZU3 d c) (ZU3 a b),ZYg]
theorem ZH3 (x y:Int) (e:y≠0) (d: -9223372036854775808<=x) (c:x<=9223372036854775807) (a: -9223372036854775808<=y) (b:y<=9223372036854775807):Zpz x y=some (fOf (Rat.divInt x y)):=by unfold Zpz;rw[ZSS x y e d c a b,ZYg]
theorem ZLa (x:Int) (b: -9223372036854775808<=x) (a:x<=9223372036854775807):ZnM x=some (fOf (x:Rat)):=by unfold ZnM;rw[ZFA];unfold ZAP;rw[ZH3 x 1 (by decide) b a (by decide) (by decide),ZYg,ZLC]
theorem ZSp {a b:Nat} (h:wd a=wd b):a=b:=by rw[<-ZuA a,<-ZuA b,h]
theorem ZIF (x y:Int) (g:Wl 100000 x) (j:Wl 100000 y):Zr3 (bg x) (bg y)=some (decide (x=y)):=by
 unfold Wl at g j;refine ZpD ?_;unfold Zr3 Zs3;rw[ZDs,ZDs,ZpS,ZpS,Zn0,Zn0]
 by_cases hs:decide (x < 0)=decide (y < 0)
 ·rw[hs,beq_self_eq_true,ZSL,cond_false]
  by_cases hl:(wd x.natAbs).length=(wd y.natAbs).length
  ·rw[hl,bne_self_eq_false,cond_false,ZnD];refine ZnK (ZvD ZDt (wd y.natAbs).length (by omega) (fun i (_:Unit)=>(iL (wd x.natAbs),((wd y.natAbs).length:Int),i,bg y)) (fun i _=>(wd x.natAbs).take i=(wd y.natAbs).take i)
    (Q:=fun r=>r= .ret false/\wd x.natAbs≠wd y.natAbs\/r= .brk ()/\wd x.natAbs=wd y.natAbs) () (by rw[List.take_zero,List.take_zero]) ?_ ?_) ?_
   ·rintro d i ⟨⟩ hi c k;have a:i < (wd x.natAbs).length:=by omega
    unfold Zvm ZrN;dsimp only;rw[ZnP];refine⟨fun _=> ?_,fun h=>by have:=of_decide_eq_false h;omega⟩;rw[ZpS,Zy3 a,ZnD,ZnA,Zy3 hi,ZnD,ZnA,ZnP];refine⟨fun h=> ?_,fun h=> ?_⟩
    ·rw[ZnA];refine .inl ⟨rfl,fun e=> ?_⟩;have b:(wd y.natAbs)[i]=(wd x.natAbs)[i]:=by simp only[e]
     rw[b,bne_self_eq_false]at h;exact absurd h (by decide)
    ·rw[ZnF];refine⟨ZnH (by omega),k () ?_⟩;rw[bne_eq_false_iff_eq]at h;have b:(wd y.natAbs)[i]=(wd x.natAbs)[i]:=by omega
     rw[List.take_succ_eq_append_getElem a,List.take_succ_eq_append_getElem hi,c,b]
   ·rintro d ⟨⟩ c;unfold Zvm ZrN;dsimp only;rw[ZnP];refine⟨fun h=>by have:=of_decide_eq_true h;omega,fun _=> ?_⟩;rw[ZnA];rw[ZXC,<-hl,ZXC]at c;exact .inr ⟨rfl,c⟩
   ·rintro r (⟨rfl,h⟩ |⟨rfl,h⟩)
    ·exact ZnA.2 (decide_eq_false (fun e=>h (by rw[e]))).symm
    ·unfold ZwC;have b:=ZSp h;refine ZnA.2 (decide_eq_true ?_).symm
     by_cases hy0:y < 0
     ·have f:x < 0:=by rw[decide_eq_true hy0]at hs;exact of_decide_eq_true hs
      omega
     ·have f:¬x < 0:=by rw[decide_eq_false hy0]at hs;exact of_decide_eq_false hs
      omega
  ·have:(((wd x.natAbs).length:Int) != ((wd y.natAbs).length:Int))=true:=by rw[bne_iff_ne];omega
   rw[this,cond_true,ZnA];exact(decide_eq_false (fun e=>hl (by rw[e]))).symm
 ·rw[beq_eq_false_iff_ne.2 hs,Bool.not_false,cond_true,cond_true,ZnA];exact(decide_eq_false (fun e=>hs (by rw[e]))).symm
theorem ZJu (p q:Rat) (b:Wq 256 p) (a:Wq 256 q):ZoY (fOf p) (fOf q)=some (decide (p=q)):=by
 have m:∀{x:Int},Wl 256 x->Wl 100000 x:=fun h=>ZXR h (by decide)
 unfold ZoY ZuO fOf;dsimp only;rw[ZIF _ _ (m b.1) (m a.1),ZYg]
 by_cases h1:p.num=q.num
 ·rw[decide_eq_true h1,cond_true,ZIF _ _ (m b.2) (m a.2),ZYg];congr 1
  by_cases h2:p.den=q.den
  ·rw[decide_eq_true (by omega),decide_eq_true (Rat.ext h1 h2)]
  ·rw[decide_eq_false (by omega),decide_eq_false (fun e=>h2 (by rw[e]))]
 ·rw[decide_eq_false h1,cond_false,decide_eq_false (fun e=>h1 (by rw[e]))]
end Go.Proofs
namespace Go.Proofs
open Go Eng
theorem ZP2 (a b:Nat) (N:(wd a).length<=100000) (M:(wd b).length<=100000):Zyh (iL (wd a)) (iL (wd b))=some (iL (wd (a*b))):=by
 refine ZpD ?_;unfold Zyh;rw[Zn0,Zn0,ZnF,ZnF,ZnD,<-ZXl,ZXn,ZIf];refine⟨ZnH (by omega),ZFW (by omega), ?_⟩;generalize hm:(wd a).length=m at N|-
 generalize hn:(wd b).length=n at M|-
 refine ZnK (ZvD ZEG m (by omega) (fun i (s:List Nat)=>(iL (wd a),iL (wd b),i,iL s)) (fun i s=>s.length=m+n/\Dg s/\val s=val ((wd a).take i)*b/\∀k,i+n<=k->k < m+n->s[k]? =some 0)
  (Q:=fun y=>∃(o:List Nat),y=iL o/\Dg o/\o.length=m+n/\val o=a*b) (ZXz (m+n) 0) ⟨by simp,ZMG _,by rw[ZJ6];simp[val],fun k _ h=>by rw[List.getElem?_replicate,if_pos h]⟩ ?_ ?_) ?_
 ·rintro F i s P ⟨B,w,v,H⟩ L;have hi:i < (wd a).length:=by omega
  have E:=(ZAA a).get hi;unfold ZxP Zt3;dsimp only;rw[ZnP,Zn0,hm];refine⟨fun _=> ?_,fun h=>by simp only[decide_eq_false_iff_not]at h;omega⟩;rw[ZnD];generalize ex:(wd a)[i]=x at E;refine ZnK (ZvD ZEF n (by omega) (fun j (t:Nat×List Nat)=>(iL (wd a),iL (wd b),(i:Int),(t.1:Int),j,iL t.2)) (fun j t=>t.1 < Bw/\t.2.length=m+n/\Dg t.2/\val t.2+Bw ^ (i+j)*t.1=val s+Bw ^ i*(x*val ((wd b).take j))/\∀k,i+n<=k->k < m+n->t.2[k]? =some 0)
   (Q:=fun y=>∃(c:Nat) (o:List Nat),y=(iL (wd a),iL (wd b),(i:Int),(c:Int),iL o)/\c < Bw/\o.length=m+n/\Dg o/\val o+Bw ^ (i+n)*c=val s+Bw ^ i*(x*b)/\∀k,i+n<=k->k < m+n->o[k]? =some 0) (0,s) ⟨by simp only[Bw];omega,B,w,by simp[val],H⟩ ?_ ?_) ?_
  ·rintro A j ⟨c,o⟩ R ⟨p,g,f,l,d⟩ z;dsimp only at p g f l d z;have q:j < (wd b).length:=by omega
   have G:=(ZAA b).get q;have u:i+j < o.length:=by omega
   have D:=f.get u;unfold ZxO Zt2;dsimp only;rw[ZnP,Zn0,hn];refine⟨fun _=> ?_,fun h=>by simp only[decide_eq_false_iff_not]at h;omega⟩;rw[Zy3 hi,ex,ZnD,ZnA,Zy3 q,ZnD,ZnA,ZnF,ZnF,<-ZXl,ZXn,ZGo u,ZnD,ZnA,ZnF,ZnF,ZnF,ZnF];generalize ey:(wd b)[j]=y at G;generalize ee:o[i+j]=e at D;rw[ZST p E G D,ZzQ,show (32:Int)=((32:Nat):Int)from rfl,ZFS 32 (by omega),Zn0,ZFo];refine⟨ZnH (by omega),ZoH ⟨by omega,by omega⟩,ZnH (by omega),ZoH ⟨by omega,by omega⟩,by decide,ZnH (by omega), ?_⟩;refine z ((c+x*y+e) / Bw,o.set (i+j) ((c+x*y+e) % Bw)) ⟨ZOM p E G D,by simp[g],f.set _ (ZXY _ (by decide)), ?_,fun k I r=> ?_⟩
   ·dsimp only;have C:=ZFs o (i+j) ((c+x*y+e) % Bw) u;rw[ee]at C;have K:Bw ^ (i+j)*((c+x*y+e) % Bw+Bw*((c+x*y+e) / Bw))=Bw ^ (i+j)*(c+x*y+e):=by rw[ZXW]
    rw[ZXZ,ZXZ,ZXZ]at K;rw[<-Nat.add_assoc,ZYb,ZX0,ZoJ q,ey,ZXZ,ZXZ];have S:Bw ^ i*(x*(Bw ^ j*y))=Bw ^ (i+j)*(x*y):=by rw[ZX8,ZX0,ZX3 x]
    omega
   ·dsimp only;rw[List.getElem?_set_ne (by omega)];exact d k I r
  ·rintro A ⟨c,o⟩ ⟨p,g,f,l,d⟩;dsimp only at p g f l d;unfold ZxO Zt2;dsimp only;rw[ZnP,Zn0,hn];refine⟨fun h=>by have:=of_decide_eq_true h;omega,fun _=> ?_⟩;rw[ZnA];rw[ZXD (by omega),ZuA]at l;exact⟨c,o,rfl,p,g,f,l,d⟩
  ·rintro y ⟨c,o,rfl,p,g,f,l,d⟩;dsimp only;unfold Zzh;rw[Zn0,hn,ZnF,ZnF,ZnF,<-ZXl,ZXn,ZAz p,ZFo,Zn0];refine⟨ZnH (by omega),ZoH ⟨by omega,by omega⟩,ZnH (by omega), ?_⟩;have J:i+n < o.length:=by omega
   have O:o[i+n]=0:=by have:=d (i+n) (ZXQ _) (by omega);rw[ZXp J]at this;exact Option.some.inj this
   have C:=ZFs o (i+n) c J;rw[O,ZX5,ZXI]at C;refine L (o.set (i+n) c) ⟨by simp[g],f.set _ p, ?_,fun k I r=> ?_⟩
   ·rw[C,l,v,ZoJ hi,ex,ZXE,ZX0]
   ·rw[List.getElem?_set_ne (by omega)];exact d k (by omega) r
 ·rintro F s ⟨B,w,v,H⟩;unfold ZxP Zt3;dsimp only;rw[ZnP,Zn0,hm];refine⟨fun h=>by have:=of_decide_eq_true h;omega,fun _=> ?_⟩;rw[ZnA];rw[ZXD (by omega),ZuA]at v;exact⟨s,rfl,w,B,v⟩
 ·rintro y ⟨o,rfl,w,B,v⟩;unfold Zzg;rw[ZGz w (by omega),ZnD,ZnA,ZnA,v]
theorem ZQw (a b:Nat) (ha:(wd a).length<=100000) (hb:(wd b).length<=100000):∃o:List Nat,Zu5 (iL (wd a)) (iL (wd b))=some (iL o)/\Dg o/\o.length<=100001/\val o=a+b:=by
 obtain⟨m,hma,hmb,hm2,hmx⟩:∃m:Nat,(wd a).length<=m/\(wd b).length<=m/\m<=100000/\∀i,i < m->i < (wd a).length\/i < (wd b).length:=by
  by_cases h:(wd a).length<=(wd b).length
  ·exact⟨(wd b).length,h,ZXQ _,hb,fun i hi=> .inr hi⟩
  ·exact⟨(wd a).length,ZXQ _,by omega,ha,fun i hi=> .inl hi⟩
 suffices h:wp (Zu5 (iL (wd a)) (iL (wd b))) (fun x=>∃o:List Nat,x=iL o/\Dg o/\o.length<=100001/\val o=a+b) by obtain⟨x,hx,o,rfl,h⟩:=h;exact⟨o,hx,h⟩
 unfold Zu5;rw[ZnD];refine ZnK (ZvD ZEJ m (by omega) (fun i (s:Nat×List Nat)=>(iL (wd a),iL (wd b),(s.1:Int),i,iL s.2)) (fun i s=>s.1<=1/\s.2.length=i/\Dg s.2/\val s.2+Bw ^ i*s.1=val ((wd a).take i)+val ((wd b).take i))
  (Q:=fun y=>∃(c:Nat) (o:List Nat),y=((c:Int),iL o)/\c<=1/\Dg o/\o.length=m/\val o+Bw ^ m*c=a+b) (0,[]) ⟨by simp,rfl,ZGs,by simp[val]⟩ ?_ ?_) ?_
 ·rintro rec i ⟨c,o⟩ hlt ⟨hc,hl,hd,hv⟩ ih;dsimp only at hc hl hd hv ih;have h1:=ZGV (ZAA a) i;have h2:=ZGV (ZAA b) i;have j3:∀x y:Nat,(wd a).getD i 0=x->(wd b).getD i 0=y->wp (ZsO (fun a b c i out=>rec (a,b,c,i,out)) (iL (wd a)) (iL (wd b)) ((c+x+y:Nat):Int) (i:Int) (iL o)) (fun y=>∃(c:Nat) (o:List Nat),y=((c:Int),iL o)/\c<=1/\Dg o/\o.length=m/\val o+Bw ^ m*c=a+b):=fun x y ex ey=>by
   rw[ex]at h1;rw[ey]at h2;unfold ZsO;rw[ZnF,ZnF,ZnF,ZzQ,show (32:Int)=((32:Nat):Int)from rfl,ZFS 32 (by omega),Zn0];refine⟨Ztn (by simp only[ZXv];omega),by decide,ZnH (by omega), ?_⟩;have:=ih ((c+x+y) / Bw,o++[(c+x+y) % Bw]) ⟨by simp only[Bw]at h1 h2|-;omega,by simp[hl],hd.app (ZFK (ZXY _ (by decide))), ?_⟩
   ·rw[ZIg]at this;exact this
   ·dsimp only;rw[ZAV,hl,ZYb,ZB1,ZB1,ex,ey,Nat.add_assoc,ZX0,<-ZXZ,ZXW,ZXZ,ZXZ];omega
  have j2:∀x:Nat,(wd a).getD i 0=x->wp (ZsP (fun a b c i out=>rec (a,b,c,i,out)) (iL (wd a)) (iL (wd b)) ((c+x:Nat):Int) (i:Int) (iL o)) (fun y=>∃(c:Nat) (o:List Nat),y=((c:Int),iL o)/\c<=1/\Dg o/\o.length=m/\val o+Bw ^ m*c=a+b):=fun x ex=>by
   have hx:=h1;rw[ex]at hx;unfold ZsP;rw[Zn0,ZnP];refine⟨fun h=> ?_,fun h=> ?_⟩
   ·have hib:i < (wd b).length:=by have:=of_decide_eq_true h;omega
    have ey:(wd b).getD i 0=(wd b)[i]:=by rw[ZXo,ZXp hib];rfl
    have hy:=(ZAA b).get hib;rw[Zy3 hib,ZnD,ZnA,ZoV (by simp only[Bw]at hy;omega),<-ZXl,ZoV (by simp only[Bw]at hx hy;omega)];exact j3 x _ ex ey
   ·have hib:¬i < (wd b).length:=by have:=of_decide_eq_false h;omega
    exact j3 x 0 ex (by rw[ZXo,ZXq (by omega)];rfl)
  have j1:wp (Zq6 (fun a b c i out=>rec (a,b,c,i,out)) (iL (wd a)) (iL (wd b)) (c:Int) (i:Int) true (iL o)) (fun y=>∃(c:Nat) (o:List Nat),y=((c:Int),iL o)/\c<=1/\Dg o/\o.length=m/\val o+Bw ^ m*c=a+b):=by
   unfold Zq6;rw[cond_true,Zn0,ZnP];refine⟨fun h=> ?_,fun h=> ?_⟩
   ·have hib:i < (wd a).length:=by have:=of_decide_eq_true h;omega
    have ey:(wd a).getD i 0=(wd a)[i]:=by rw[ZXo,ZXp hib];rfl
    have hy:=(ZAA a).get hib;rw[Zy3 hib,ZnD,ZnA,ZoV (by simp only[Bw]at hy;omega),<-ZXl,ZoV (by simp only[Bw]at hy;omega)];exact j2 _ ey
   ·have hib:¬i < (wd a).length:=by have:=of_decide_eq_false h;omega
    exact j2 0 (by rw[ZXo,ZXq (by omega)];rfl)
  unfold ZxU Zt6;dsimp only;rw[Zn0,Zn0,ZnP];refine⟨fun _=>j1,fun h=> ?_⟩;have hib:¬i < (wd a).length:=by have:=of_decide_eq_false h;omega
  rw[decide_eq_true (by rcases hmx i hlt with h |h<;>omega)];exact j1
 ·rintro rec ⟨c,o⟩ ⟨hc,hl,hd,hv⟩;dsimp only at hc hl hd hv;unfold ZxU Zt6;dsimp only;rw[Zn0,Zn0,decide_eq_false (by omega),cond_false,decide_eq_false (by omega)];unfold Zq6;rw[cond_false,ZnA];rw[ZXD hma,ZXD hmb,ZuA,ZuA]at hv;exact⟨c,o,rfl,hc,hd,hl,hv⟩
 ·rintro y ⟨c,o,rfl,hc,hd,hl,hv⟩;dsimp only;unfold Zzp;have e:iL o++[(c:Int)]=iL (o++[c]):=by rw[ZIg];rfl
  rw[ZAz (by omega),ZnF,Zn0,e,ZnA];exact⟨Ztn (by simp only[ZXv];omega),_,rfl,hd.app (ZFK (by unfold Bw;omega)),by simp;omega,by rw[ZAV,hl,hv]⟩
end Go.Proofs
namespace Go.Proofs
open Go Eng
theorem ZET (x y:Int) (hx:Wl 50000 x) (hy:Wl 50000 y):ZnS (bg x) (bg y)=some (bg (x*y)):=by unfold ZnS;have:=ZIB hx hy;rw[ZpS,ZpS,ZP2 _ _ (by omega) (by omega),ZYg,ZGw _ (ZAA _) (by omega),ZuA,ZYg,ZML]
theorem ZI8 (x y:Int) (hx:Wl 50000 x) (hy:Wl 50000 y):ZqA (bg x) (bg y)=some (bg (x+y)):=by
 unfold Wl at hx hy;unfold ZqA;have h1:=ZJn hx hy;rw[ZpS,ZpS,ZDs,ZDs];have opp:decide (x < 0)≠decide (y < 0)->Zpa (iL (wd x.natAbs)) (iL (wd y.natAbs))=some (ZIK x.natAbs y.natAbs):=fun _=>ZIm _ _ (by omega) (by omega)
 by_cases hs:decide (x < 0)=decide (y < 0)
 ·obtain⟨o,ho,hd,hl,hv⟩:=ZQw x.natAbs y.natAbs (by omega) (by omega);rw[hs,beq_self_eq_true,cond_true,ho,ZYg,ZGw _ hd (by omega),hv,ZYg];congr 2
  by_cases hy0:y < 0
  ·have hx0:x < 0:=by rw[decide_eq_true hy0]at hs;exact of_decide_eq_true hs
   rw[decide_eq_true hy0,if_pos rfl];omega
  ·have hx0:¬x < 0:=by rw[decide_eq_false hy0]at hs;exact of_decide_eq_false hs
   rw[decide_eq_false hy0,if_neg (by decide)];omega
 ·rw[beq_eq_false_iff_ne.2 hs,cond_false,opp hs,ZYg];rcases ZXU x.natAbs y.natAbs with hlt |hge
  ·have:=Zw3 (Nat.sub_le y.natAbs x.natAbs);rw[ZDN hlt,decide_eq_false (by omega),cond_false,ZH0 _ _ (by omega) (by omega),ZYg,ZGw _ (ZAA _) (by omega),ZuA,ZYg];congr 2
   by_cases hy0:y < 0
   ·have hx0:¬x < 0:=fun h=>hs (by rw[decide_eq_true hy0,decide_eq_true h])
    rw[decide_eq_true hy0,if_pos rfl];omega
   ·have hx0:x < 0:=Decidable.byContradiction fun h=>hs (by rw[decide_eq_false hy0,decide_eq_false h])
    rw[decide_eq_false hy0,if_neg (by decide)];omega
  ·have hn:ZIK x.natAbs y.natAbs>=0:=by
    rcases ZXU y.natAbs x.natAbs with h |h
    ·rw[ZDo h];decide
    ·rw[show x.natAbs=y.natAbs by omega,ZBZ];decide
   have:=Zw3 (Nat.sub_le x.natAbs y.natAbs);rw[decide_eq_true hn,cond_true,ZH0 _ _ hge (by omega),ZYg,ZGw _ (ZAA _) (by omega),ZuA,ZYg];congr 2
   by_cases hx0:x < 0
   ·have hy0:¬y < 0:=fun h=>hs (by rw[decide_eq_true hx0,decide_eq_true h])
    rw[decide_eq_true hx0,if_pos rfl];omega
   ·have hy0:y < 0:=Decidable.byContradiction fun h=>hs (by rw[decide_eq_false hx0,decide_eq_false h])
    rw[decide_eq_false hx0,if_neg (by decide)];omega
theorem ZIc (z:Int) (hz:Wl 100000 z):Zqd (bg z)=some (bg (-z)):=by
 unfold Wl at hz;unfold Zqd;rw[ZDs,ZpS,ZGw _ (ZAA _) (by omega),ZuA,ZYg];congr 2
 by_cases h:z < 0
 ·rw[decide_eq_true h,if_neg (by decide)];omega
 ·rw[decide_eq_false h,if_pos (by decide)];omega
theorem ZGa (q:Rat) (h:Wq 256 q):Zpg (fOf q)=some true:=by
 have d:=h.1;have c:=h.2;have b:=q.den_nz;unfold Zpg Zqa fOf;dsimp only;rw[ZDQ,ZER _ h.1,ZYg,ZSL,cond_false,ZDQ,ZER _ h.2,ZYg,ZSL,cond_false,ZDs,decide_eq_false (by omega),cond_false,ZHf (by omega),cond_false,ZpS,ZpS,Zn0];unfold Wl at d c;have g:(wd 1).length<=1:=ZDR (by decide);have a:ZXN q.num.natAbs (q.den:Int).natAbs=1:=q.reduced
 by_cases h0:q.num=0
 ·rw[h0]at a;have e:(q.den:Int).natAbs=1:=by rwa [show (0:Int).natAbs=0 from rfl,Nat.gcd_zero_left]at a
  rw[h0,show (0:Int).natAbs=0 from rfl,Zy5,e,<-ZH6,ZIm 1 1 (by omega) (by omega),ZBZ];rfl
 ·have f:=Zvj (n:=q.num.natAbs) (by omega);rw[beq_eq_false_iff_ne.2 (by omega),cond_false,ZMC _ _ (by omega) (by omega) (by omega) (by omega),a,ZYg,<-ZH6,ZIm 1 1 (by omega) (by omega),ZBZ];rfl
theorem ZLn (x y:Int) (f:y≠0) (a:Wl 50000 x) (b:Wl 50000 y) (c:Wq 256 (Rat.divInt x y)):ZvO (bg x) (bg y)=some (fOf (Rat.divInt x y),0):=by have e:=c.1;have d:=c.2;unfold Wl at e d;unfold ZvO ZtI;rw[ZGE x y f a b,ZYg];unfold fOf;rw[ZpS,ZpS,Zn0,Zn0,decide_eq_false (by omega),cond_false,decide_eq_false (by omega),cond_false]
theorem ZQn {a b:Rat} (d:Wq 256 a) (c:Wq 256 b):Zyj (fOf a) (fOf b)=some (ZGL a b):=by
 have w:∀{x y:Int},Wl 256 x->Wl 256 y->Wl 50000 (x*y):=fun j l=>by unfold Wl;rw[ZXi];exact ZXR (ZIB j l) (by decide)
 have m:∀{x:Int},Wl 256 x->Wl 50000 x:=fun h=>ZXR h (by decide)
 unfold Zyj ZvV;rw[ZGa a d,ZYg,ZSL,cond_false,ZGa b c,ZYg,ZSL,cond_false];show ((ZnS (bg a.num) (bg (b.den:Int))).bind fun q=>(ZnS (bg b.num) (bg (a.den:Int))).bind _)=_;rw[ZET _ _ (m d.1) (m c.2),ZYg,ZET _ _ (m c.1) (m d.2),ZYg,ZIc _ (ZXR (w c.1 d.2) (by decide)),ZYg];have k:Wl 50000 (-(b.num*(a.den:Int))):=by unfold Wl;rw[ZXk];exact w c.1 d.2
 rw[ZI8 _ _ (w d.1 c.2) k,ZYg,ZDs,ZpS,Zn0];unfold ZGL;have g:=ZHR a b;have f:=ZHR b a;generalize a.num*(b.den:Int)=x at*
 generalize b.num*(a.den:Int)=y at*
 by_cases hl:a < b
 ·have e:=g.1 hl;have:=Zvj (n:=(x+ -y).natAbs) (by omega);rw[if_pos hl,beq_eq_false_iff_ne.2 (by omega),cond_false,decide_eq_true (by omega),cond_true]
 ·have o:¬x < y:=fun h=>hl (g.2 h)
  rw[if_neg hl]
  by_cases hg:b < a
  ·have e:=f.1 hg;have:=Zvj (n:=(x+ -y).natAbs) (by omega);rw[if_pos hg,beq_eq_false_iff_ne.2 (by omega),cond_false,decide_eq_false (by omega),cond_false]
  ·have i:¬y < x:=fun h=>hg (f.2 h)
   rw[if_neg hg,show x+ -y=0 by omega,show (0:Int).natAbs=0 from rfl,Zy5];rfl
theorem ZD9 {a b:Rat} (d:Wq 256 a) (c:Wq 256 b):Zok (fOf a) (fOf b)=some (decide (a < b)):=by
 unfold Zok;rw[ZQn d c,ZYg];unfold ZGL
 by_cases h:a < b
 ·rw[if_pos h,decide_eq_true h];rfl
 ·rw[if_neg h,decide_eq_false h];split<;>rfl
theorem ZHU:Zqy=some (fOf 0):=by unfold Zqy;rw[ZLa 0 (by decide) (by decide),ZYg];rfl
end Go.Proofs
namespace Go.Proofs
open Go Eng
theorem ZID (a b:Rat):Rat.divInt (a.num*(b.den:Int)+ -(b.num*(a.den:Int))) ((a.den:Int)*(b.den:Int))=a - b:=by have:=ZHu a (-b);rw[show (-b).num= -b.num from rfl,show (-b).den=b.den from rfl,Int.neg_mul]at this;rw[this,Rat.sub_eq_add_neg]
theorem Sz.sub {a b:Rat} {k l:Nat} (c:Sz k a) (d:Sz l b):Sz (k+l+1) (a - b):=by rw[Rat.sub_eq_add_neg];exact c.add d.neg
theorem ZPu {a b:Rat} {k l:Nat} (p:Sz k a) (o:Sz l b) (A:k+l+1<=8192):Zu6 (fOf a) (fOf b)=some (fOf (a - b),0):=by
 have C:=a.den_nz;have D:=b.den_nz;have c:=p.wq (by omega);have d:=o.wq (by omega);have w:∀{x y:Int},Wl 256 x->Wl 256 y->Wl 512 (x*y):=fun r v=>by unfold Wl;rw[ZXi];exact ZIB r v
 have m:∀{n:Nat} {x:Int},Wl n x->n<=50000->Wl 50000 x:=fun h s=>ZXR h s
 have j:=w c.1 d.2;have i:=w d.1 c.2;have e:Wl 512 (-(b.num*(a.den:Int))):=by unfold Wl;rw[ZXk];exact i
 have t:=w c.2 d.2;have z:Wl 513 (a.num*(b.den:Int)+ -(b.num*(a.den:Int))):=ZXR (Zw3 (Int.natAbs_add_le _ _)) (ZJn j e);have u:(a.den:Int)*(b.den:Int)≠0:=Int.mul_ne_zero (by omega) (by omega);unfold Zu6 ZvU;rw[ZGa a c,ZYg,ZSL,cond_false,ZGa b d,ZYg,ZSL,cond_false];show ((ZnS (bg a.num) (bg (b.den:Int))).bind fun q=>(ZnS (bg b.num) (bg (a.den:Int))).bind fun f=>(Zqd f).bind fun g=>(ZqA q g).bind fun B=>(ZnS (bg (a.den:Int)) (bg (b.den:Int))).bind _)=_;rw[ZET _ _ (m c.1 (by omega)) (m d.2 (by omega)),ZYg,ZET _ _ (m d.1 (by omega)) (m c.2 (by omega)),ZYg,ZIc _ (ZXR i (by decide)),ZYg,ZI8 _ _ (m j (by omega)) (m e (by omega)),ZYg,ZET _ _ (m c.2 (by omega)) (m d.2 (by omega)),ZYg];have hw:Wq 256 (Rat.divInt (a.num*(b.den:Int)+ -(b.num*(a.den:Int))) ((a.den:Int)*(b.den:Int))):=by rw[ZID];exact(p.sub o).wq A
 rw[ZLn _ _ u (m z (by omega)) (m t (by omega)) hw,ZID,ZYg]
theorem ZI1 {a b:Rat} {k l:Nat} (c:Sz k a) (d:Sz l b) (e:k+l+1<=8192):ZpX (fOf a) (fOf b)=some (fOf (a - b)):=by unfold ZpX;rw[ZPu c d e];rfl
def ZVc (x:Rat):Rat:=if x < 0 then 0 - x else x
theorem ZOe {a:Rat} {k:Nat} (b:Sz k a) (c:k+2<=8192):Zyg (fOf a)=some (fOf (ZVc a)):=by
 unfold Zyg ZVc;rw[ZHU,ZYg,ZD9 (b.wq (by omega)) (ZI0.wq (by omega)),ZYg]
 by_cases h:a < 0
 ·rw[decide_eq_true h,cond_true,if_pos h,ZYg,ZI1 ZI0 b (by omega),ZYg]
 ·rw[decide_eq_false h,cond_false,if_neg h]
end Go.Proofs
