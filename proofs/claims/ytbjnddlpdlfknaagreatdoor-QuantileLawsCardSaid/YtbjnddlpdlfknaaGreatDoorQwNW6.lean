/- Numbers of many words: division. -/
import Derived.Test.YtbjnddlpdlfknaaGreatDoorQwNW5
set_option linter.unusedVariables false
set_option linter.unusedSimpArgs false
set_option linter.unusedSectionVars false
namespace Go.Proofs
open Go Eng
theorem Zyx (l:List Nat) (h:l.length≤1000000):Zn8 (iL l)=some (iL l):=by
 cases l with
 |nil=>
  have e1:ZnH [] true=some []:=rfl;have e2:ZnH [] false=some []:=by kernel_rfl
  show agree (ZnH [] true) (ZnH [] false)=some [];rw[e1,e2,ZxF]
 |cons x l=>
  show ZnH (iL (x::l)) false=_;unfold ZnH;rw[cond_false,ZtS (by rw[ZnR,List.length_nil];omega),chk_true];rfl
theorem Zwe {l:List Nat} {k:Nat} (h:val l < Bw ^ k):val (l.take k)=val l:=by
 rcases Nat.lt_or_ge k l.length with hk |hk
 ·have e:val l=val (l.take k++l.drop k):=by rw[List.take_append_drop]
  rw[Zvg,List.length_take,Nat.min_eq_left (by omega)]at e;rcases Nat.eq_zero_or_pos (val (l.drop k))with hz |hz
  ·rw[hz,Nat.mul_zero,Nat.add_zero]at e;exact e.symm
  ·have:=Nat.mul_le_mul_left (Bw ^ k) hz;omega
 ·rw[List.take_of_length_le hk]
theorem ZBO (u:List Nat) (k:Nat) (hk:k≤u.length) (hk2:k≤1000000):∃k',k'≤k∧val (u.take k')=val (u.take k)∧Zrr (iL u) 0 k=some (0,k',iL u):=by
 have h:wp (Zsc (iL u) 0 k) (fun y=>∃k',k'≤k∧val (u.take k')=val (u.take k)∧y=(0,k',iL u)):=by
  unfold Zsc ZsB;rw[ZnD];refine Zn5 (ZsG Zu7 (fun(j:Nat)=>(0,j,iL u)) (fun j=>j≤k∧val (u.take j)=val (u.take k)) (fun j=>j) (Q:=fun y=>∃k',k'≤k∧val (u.take k')=val (u.take k)∧y=(0,k',iL u)) k ⟨Nat.le_refl _,rfl⟩ (by omega) ?_) (fun y hy=>ZnC.2 hy);rintro rec j ⟨hj,hv⟩ ih;unfold ZtM Zr7 ZqX;dsimp only;cases j with
  |zero=>exact ZnC.2 ⟨0,hj,hv,rfl⟩
  |succ j=>
   have hju:j < u.length:=by omega
   have e1:((j+1:Nat):Int) - 1=(j:Int):=by omega
   rw[Zob];refine⟨fun _=> ?_,fun h=>by have:=of_decide_eq_false h;omega⟩;rw[e1,Int.toNat_natCast,Nat.zero_add,ZnF,ZnF,ZvM hju,ZnD,ZnC,Zob];refine⟨ZnG (by omega),ZqJ ⟨by omega,by omega⟩,fun h=> ?_,fun h=> ?_⟩
   ·have h0:u[j]=0:=by have:=eq_of_beq h;omega
    rw[ZnF,ZnF];refine⟨ZnG (by omega),ZvG ⟨by omega,by omega,by omega⟩,ih j ⟨by omega, ?_⟩ (by omega)⟩;rw[←hv,ZnZ hju,h0,Nat.mul_zero,Nat.add_zero]
   ·exact ZnC.2 ⟨j+1,hj,hv,rfl⟩
 obtain⟨y,hy,k',h1,h2,rfl⟩:=h;refine⟨k',h1,h2, ?_⟩;unfold Zrr;rw[hy,Option.bind_some];simp
theorem ZxN {x y s:Nat} (hs:s≤31) (hx:x < Bw) (hy:y < Bw):((y*4294967296+x) / 2 ^ s % 4294967296)*2 ^ s+x % 2 ^ s=x+Bw*(y % 2 ^ s):=by
 have e:(4294967296:Nat)=2 ^ (32 - s)*2 ^ s:=by rw[←Nat.pow_add,show 32 - s+s=32 by omega]
 have hp:=Nat.two_pow_pos s;have h1:=Nat.div_add_mod x (2 ^ s);have h2:=Nat.div_add_mod y (2 ^ s);have hx2:x / 2 ^ s < 2 ^ (32 - s):=(Nat.div_lt_iff_lt_mul hp).2 (by rw[←e];exact hx);have hy2:=Nat.mod_lt y hp;have e1:(y*4294967296+x) / 2 ^ s=y*2 ^ (32 - s)+x / 2 ^ s:=by rw[e,←Nat.mul_assoc,Nat.add_comm,Nat.add_mul_div_right _ _ hp,Nat.add_comm]
 have e2:y*2 ^ (32 - s)+x / 2 ^ s=(y % 2 ^ s)*2 ^ (32 - s)+x / 2 ^ s+4294967296*(y / 2 ^ s):=by
  rw[e];have:y*2 ^ (32 - s)=(2 ^ s*(y / 2 ^ s)+y % 2 ^ s)*2 ^ (32 - s):=by rw[h2]
  rw[this,Nat.add_mul,Nat.mul_comm (2 ^ s),Nat.mul_comm (2 ^ (32 - s)),Nat.mul_assoc (y / 2 ^ s),Nat.mul_comm (y / 2 ^ s)];omega
 have hlt:(y % 2 ^ s)*2 ^ (32 - s)+x / 2 ^ s < 4294967296:=by have:=Nat.mul_le_mul_right (2 ^ (32 - s)) (show y % 2 ^ s+1≤2 ^ s from hy2);rw[Nat.add_mul,Nat.one_mul,Nat.mul_comm (2 ^ s),←e]at this;omega
 rw[e1,e2,Nat.add_mul_mod_self_left,Nat.mod_eq_of_lt hlt,Nat.add_mul,Nat.mul_assoc,←e,Nat.mul_comm (x / 2 ^ s),Nat.mul_comm (y % 2 ^ s)];simp only[Bw];omega
theorem Zz4 {u:List Nat} {k s R:Nat} (q:List Int) (hs:s≤31) (hd:Dg u) (hk:k≤u.length) (hk2:k≤1000000) (hv:val (u.take k)=R*2 ^ s):
  wp (ZpB big (s:Int) 0 k ((k:Nat):Int) (0:Int) q (iL u)) (fun y=>∃(o:List Nat),y=(0,k,q,iL (o++u.drop k))∧o.length=k∧Dg o∧val o=R):=by
 refine Zr8 ZuY k (by omega) (fun i (o:List Nat)=>((s:Int),0,k,(k:Int),i,q,iL (o++u.drop o.length))) (fun i o=>o.length=i∧Dg o∧val o*2 ^ s+(if 0 < k then u.getD 0 0 else 0) % 2 ^ s=val (u.take i)+Bw ^ i*((if i < k then u.getD i 0 else 0) % 2 ^ s)) [] ⟨rfl,ZvO,by simp[val]⟩ ?_ ?_
 ·rintro rec i o hi ⟨hol,hod,hov⟩ ih;have hiu:i < u.length:=by omega
  have h1:=hd.get hiu;unfold ZrA Zqd;dsimp only;rw[Zob];refine⟨fun _=> ?_,fun h=>by have:=of_decide_eq_false h;omega⟩;have hlen:(o++u.drop o.length).length=u.length:=by simp;omega
  have gx:(iL (o++u.drop o.length))[i]? =some (u[i]:Int):=by rw[ZvM (by omega)];congr 2;rw[List.getElem_append_right (by omega)];simp[hol]
  obtain⟨y,hy,hyB,hye⟩:∃y:Nat,ZqV (iL (o++u.drop o.length)) 0 k ((i:Int)+1)=some ((y:Int),iL (o++u.drop o.length))∧y < Bw∧y=(if i+1 < k then u.getD (i+1) 0 else 0):=by
   unfold ZqV Zs9
   by_cases hc:i+1 < k
   ·have hiu2:i+1 < u.length:=by omega
    have gy:(iL (o++u.drop o.length))[i+1]? =some (u[i+1]:Int):=by rw[ZvM (by omega)];congr 2;rw[List.getElem_append_right (by omega)];simp[hol]
    refine⟨u[i+1], ?_,hd.get hiu2, ?_⟩
    ·rw[decide_eq_true (by omega),cond_true,ZqJ ⟨by omega,by omega⟩,chk_true,Nat.zero_add,show ((i:Int)+1).toNat=i+1 by omega,gy];simp
    ·rw[if_pos hc,List.getD_eq_getElem?_getD,List.getElem?_eq_getElem hiu2];rfl
   ·refine⟨0, ?_,by decide,by rw[if_neg hc]⟩;rw[decide_eq_false (by omega),cond_false];simp
  rw[hy,ZnF,ZnD,ZnC];dsimp only;rw[Int.toNat_natCast,Nat.zero_add,gx,ZnF,ZnF,ZnD,ZnC,ZnF,ZnF,ZnF,Zw5 hyB h1,Zvq s (by omega),Zsh];refine⟨ZnG (by omega),by decide,ZqJ ⟨by omega,by omega⟩,by simp,ZqJ ⟨by omega,by omega⟩,ZnG (by omega), ?_⟩;generalize ez:(y*4294967296+u[i]) / 2 ^ s % 4294967296=z;have hz:z < Bw:=by rw[←ez];exact Nat.mod_lt _ (by decide)
  have es:(iL (o++u.drop o.length)).set i (z:Int)=iL ((o++[z])++u.drop (o++[z]).length):=by rw[Zvb,List.set_append_right _ _ (by omega),hol,Nat.sub_self,←List.getElem_cons_drop (h:=hiu),List.set_cons_zero];simp[hol]
  rw[es];refine ih (o++[z]) ⟨by simp[hol],hod.app (Zvm hz), ?_⟩;have hd1:=ZxN hs h1 hyB;rw[ez]at hd1;have q1:Bw ^ i*(z*2 ^ s+u[i] % 2 ^ s)=Bw ^ i*(u[i]+Bw*(y % 2 ^ s)):=by rw[hd1]
  have eg:u.getD i 0=u[i]:=by rw[List.getD_eq_getElem?_getD,List.getElem?_eq_getElem hiu];rfl
  rw[if_pos hi,eg]at hov;rw[Nat.mul_add,Nat.mul_add]at q1;rw[ZsP,hol,ZnZ hiu,←hye,Nat.pow_succ,Nat.add_mul,Nat.mul_assoc,Nat.mul_assoc];omega
 ·rintro rec o ⟨hol,hod,hov⟩;unfold ZrA Zqd;dsimp only;rw[Zob];refine⟨fun h=>by have:=of_decide_eq_true h;omega,fun _=> ?_⟩;rw[ZnC];refine⟨o,by rw[hol],hol,hod, ?_⟩;rw[if_neg (Nat.lt_irrefl _),Nat.zero_mod,Nat.mul_zero,Nat.add_zero,hv]at hov;have hp:=Nat.two_pow_pos s;have:(val o*2 ^ s+(if 0 < k then u.getD 0 0 else 0) % 2 ^ s) / 2 ^ s=R*2 ^ s / 2 ^ s:=by rw[hov]
  rw[Nat.add_comm,Nat.add_mul_div_right _ _ hp,Nat.div_eq_of_lt (Nat.mod_lt _ hp),Nat.mul_div_cancel _ hp]at this;omega
theorem ZxC {x s:Nat} (hs:s≤31) (h:x*2 ^ s < 4294967296):(x+1)*2 ^ s≤4294967296:=by
 have e:(4294967296:Nat)=2 ^ (32 - s)*2 ^ s:=by rw[←Nat.pow_add,show 32 - s+s=32 by omega]
 rw[e]at h⊢
 exact Nat.mul_le_mul_right _ (Nat.lt_of_mul_lt_mul_right h)
theorem Zyi {d u:List Nat} {m K s U:Nat} (hd:d.length=m+2) (hdd:Dg d) (h1:1≤d[m+1]) (hu:u.length=K+m+2) (hud:Dg u) (hU:val u=U) (hlt:U < Bw ^ K*val d) (hK:K≤100000) (hm:m≤100000):
  wp (ZpC big ((m+2:Nat):Int) (s:Int) (iL d) ((K:Int) - 1) (iL u) (iL (List.replicate K 0))) (fun y=>∃u' qs:List Nat,y=(((m+2:Nat):Int),(s:Int),iL u',iL qs)∧u'.length=K+m+2∧Dg u'∧qs.length=K∧Dg qs∧val u'+val qs*val d=U∧val u' < val d):=by
 rw[show iL (List.replicate K 0)=iL (List.replicate (K - ([]:List Nat).length) 0++[]) by simp];have hDlt:=Ztr hdd;rw[hd]at hDlt;refine Zv8 ZuZ K (by omega) (fun i (t:List Nat×List Nat)=>(((m+2:Nat):Int),(s:Int),iL d,i,iL t.1,iL (List.replicate (K - t.2.length) 0++t.2))) (fun k t=>t.1.length=K+m+2∧Dg t.1∧t.2.length+k=K∧Dg t.2∧val t.1+Bw ^ k*(val t.2*val d)=U∧val t.1 < Bw ^ k*val d) (u,[]) ⟨hu,hud,by simp,ZvO,by simp[val,hU],by rw[hU];exact hlt⟩ ?_ ?_
 ·rintro rec k ⟨v,qs⟩ hk ⟨hvl,hvd,hql,hqd,hv,hvlt⟩ ih;dsimp only at hvl hvd hql hqd hv hvlt ih;unfold ZrB Zqe;dsimp only;have hwl:((v.drop k).take (m+3)).length=m+3:=by simp;omega
  have hpl:(v.take k).length=k:=by simp;omega
  have esplit:v=v.take k++((v.drop k).take (m+3)++v.drop (k+(m+3))):=by rw[←List.drop_drop,List.take_append_drop,List.take_append_drop]
  have hvs:val v=val (v.take k)+Bw ^ k*(val ((v.drop k).take (m+3))+Bw ^ (m+3)*val (v.drop (k+(m+3)))):=by
   have:val v=val (v.take k++((v.drop k).take (m+3)++v.drop (k+(m+3)))):=by rw[←esplit]
   rw[this,Zvg,Zvg,hpl,hwl]
  have hpd:=Ztr (hvd.take k);rw[hpl]at hpd;have hwd:=(hvd.drop k).take (m+3);have hsd:=hvd.drop (k+(m+3));have hvd':=hvd;generalize v.take k=pre at*
  generalize (v.drop k).take (m+3)=w at*
  generalize v.drop (k+(m+3))=suf at*
  subst esplit;have hX:val w+Bw ^ (m+3)*val suf < Bw*val d:=by
   have:Bw ^ k*(val w+Bw ^ (m+3)*val suf) < Bw ^ k*(Bw*val d):=by rw[←Nat.mul_assoc,←Nat.pow_succ];show _ < Bw ^ (k+1)*val d;omega
   exact Nat.lt_of_mul_lt_mul_left this
  have hs0:val suf=0:=by
   rcases Nat.eq_zero_or_pos (val suf)with hz |hz
   ·exact hz
   ·exfalso;have h5:=Nat.mul_le_mul_left (Bw ^ (m+3)) hz;have h6:Bw*val d≤Bw*Bw ^ (m+2):=Nat.mul_le_mul_left _ (Nat.le_of_lt hDlt);rw[Nat.mul_comm Bw (Bw ^ (m+2)),←Nat.pow_succ]at h6;have h7:Bw*val d≤Bw ^ (m+3):=h6;omega
  rw[hs0,Nat.mul_zero,Nat.add_zero]at hX hvs;rw[Zob];refine⟨fun _=> ?_,fun h=>by have:=of_decide_eq_false h;omega⟩;rw[ZnF,ZnF,ZnF,ZnD,ZnR,hvl];refine⟨ZnG (by omega),ZnG (by omega),ZvG ⟨by omega,by omega,by omega⟩, ?_⟩;rw[show ((k:Int)+((m+2:Nat):Int)+1).toNat - (k:Int).toNat=m+3 by omega,Int.toNat_natCast];have hdw:=Zyw (pre:=pre) (suf:=suf) hwl hd hwd hdd hm h1 hX;rw[hpl]at hdw;refine Zn5 hdw ?_;rintro y ⟨w',rfl,hw'l,hw'd,hw'v⟩;dsimp only;have hDpos:0 < val d:=by
   rcases Nat.eq_zero_or_pos (val d)with hz |hz
   ·rw[hz,Nat.mul_zero]at hX;omega
   ·exact hz
  have hq:val w / val d < Bw:=(Nat.div_lt_iff_lt_mul hDpos).2 hX;have hdm:=Nat.div_add_mod (val w) (val d);have hml:=Nat.mod_lt (val w) hDpos;generalize val w / val d=q at*
  have es:(List.replicate (K - qs.length) 0++qs).set k q=List.replicate (K - (qs.length+1)) 0++q::qs:=by
   have e:K - qs.length=k+1:=by omega
   have e2:K - (qs.length+1)=k:=by omega
   rw[e,e2,List.replicate_succ',List.append_assoc,List.set_append_right _ _ (by simp),List.length_replicate,Nat.sub_self];rfl
  rw[ZnF,ZnF,Zvb,es];refine⟨ZqJ ⟨by omega,by rw[ZnR];simp only[List.length_append,List.length_replicate];omega⟩,ZnG (by omega), ?_⟩;have hsl:suf.length+(k+(m+3))=K+m+2:=by rw[←hvl,List.length_append,List.length_append,hpl,hwl];omega
  refine ih (pre++(w'++suf),q::qs) ⟨?_, ?_,by simp only[List.length_cons];omega,fun y hy=> ?_, ?_, ?_⟩
  ·simp only[List.length_append,hpl,hw'l];omega
  ·refine Dg.app (fun y hy=>hvd' y (List.mem_append_left _ hy)) (Dg.app hw'd hsd)
  ·rcases List.mem_cons.1 hy with rfl |hy
   ·exact hq
   ·exact hqd y hy
  ·dsimp only;rw[Zvg,Zvg,hpl,hs0,Nat.mul_zero,Nat.add_zero,hw'v,val,Nat.add_mul,Nat.mul_add];rw[hvs,←hdm,Nat.mul_add,Nat.pow_succ,Nat.mul_assoc]at hv;rw[Nat.mul_comm q (val d),Nat.mul_assoc Bw];omega
  ·dsimp only;rw[Zvg,Zvg,hpl,hs0,Nat.mul_zero,Nat.add_zero,hw'v];have:=Nat.mul_le_mul_left (Bw ^ k) (show val w % val d+1≤val d from hml);rw[Nat.mul_add,Nat.mul_one]at this;omega
 ·rintro rec ⟨v,qs⟩ ⟨hvl,hvd,hql,hqd,hv,hvlt⟩;dsimp only at hvl hvd hql hqd hv hvlt;unfold ZrB Zqe;dsimp only;rw[Zob];refine⟨fun h=>by have:=of_decide_eq_true h;omega,fun _=> ?_⟩;rw[ZnC];rw[Nat.pow_zero,Nat.one_mul]at hv hvlt;refine⟨v,qs, ?_,hvl,hvd,hql,hqd,hv,hvlt⟩;rw[show K - qs.length=0 by omega];rfl
end Go.Proofs
