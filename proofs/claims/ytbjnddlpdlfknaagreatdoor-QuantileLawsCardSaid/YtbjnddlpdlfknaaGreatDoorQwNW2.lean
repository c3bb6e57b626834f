/- Numbers of many words: comparison, difference, division by one word. -/
import Derived.Test.YtbjnddlpdlfknaaGreatDoorQwNW1
set_option linter.unusedVariables false
set_option linter.unusedSimpArgs false
set_option linter.unusedSectionVars false
namespace Go.Proofs
open Go Eng
theorem Zv8 {σ τ X:Type} {f:Nat→σ→Option X} {body:(σ→Option X)→σ→Option X} (hf:∀n s,f (n+1) s=body (f n) s)
  (m:Nat) (hm:m≤1000000000000000) (st:Int→τ→σ) (P:Nat→τ→Prop) {Q:X→Prop} (t0:τ) (h0:P m t0)
  (step:∀(rec:σ→Option X) k t,k < m→P (k+1) t→(∀t',P k t'→wp (rec (st ((k:Int) - 1) t')) Q)→wp (body rec (st (k:Int) t)) Q)
  (fin:∀(rec:σ→Option X) t,P 0 t→wp (body rec (st (-1) t)) Q):wp (f big (st ((m:Int) - 1) t0)) Q:=by
 have key:∀(n k:Nat) t,k≤m→P k t→k < n→wp (f n (st ((k:Int) - 1) t)) Q:=by
  intro n
  induction n with
  |zero=>intro k t _ _ h;omega
  |succ n ih=>
   intro k t hk hP hn;rw[hf];cases k with
   |zero=>exact fin _ t hP
   |succ k=>
    have e:((k+1:Nat):Int) - 1=(k:Int):=by omega
    rw[e];exact step _ k t (by omega) hP fun t' h'=>ih k t' (by omega) h' (by omega)
 exact key big m t0 (Nat.le_refl _) h0 (ZwA (by omega))
theorem Zva {n:Nat} (h:n≤1000000):mkOk (n:Int) (n:Int) 4=true:=by unfold mkOk ZO;exact decide_eq_true ⟨by omega,by omega,by omega,by omega⟩
def ZwI (a b:Nat):Int:=if a < b then -1 else if b < a then 1 else 0
theorem Zw7 (a b:Nat):Zsy (a:Int) (b:Int)=some (ZwI a b):=by
 unfold Zsy Zti ZwI;rw[Option.bind_some,Option.bind_some,bne_self_eq_false,bne_self_eq_false,cond_false,cond_false]
 by_cases h1:a < b
 ·rw[decide_eq_true (by omega:(a:Int) < b),if_pos h1];rfl
 ·rw[decide_eq_false (by omega:¬(a:Int) < b),if_neg h1,cond_false]
  by_cases h2:b < a
  ·rw[decide_eq_true (by omega:(a:Int) > b),if_pos h2];rfl
  ·rw[decide_eq_false (by omega:¬(a:Int) > b),if_neg h2];rfl
theorem ZzC (a b:Nat):Zsg (a:Int) (b:Int)=some (ZwI a b):=Zw7 a b
theorem Zue {a b:Nat} (h:a < b):ZwI a b= -1:=by unfold ZwI;rw[if_pos h]
theorem Zt5 {a b:Nat} (h:b < a):ZwI a b=1:=by unfold ZwI;rw[if_neg (by omega),if_pos h]
theorem Ztj (a:Nat):ZwI a a=0:=by unfold ZwI;rw[if_neg (by omega),if_neg (by omega)]
theorem ZwY {n k:Nat} (h:k < (wd n).length):Bw ^ k≤n:=by
 rcases Nat.lt_or_ge n (Bw ^ k)with h1 |h1
 ·have:=Zuh h1;omega
 ·exact h1
theorem ZwJ {a b:Nat} (h:(wd a).length < (wd b).length):a < b:=Nat.lt_of_lt_of_le (ZsX a) (ZwY h)
theorem ZuT {l:List Nat} {k:Nat} (h:k < l.length):val l=val (l.take k)+Bw ^ k*(l[k]+Bw*val (l.drop (k+1))):=by
 have e:l=l.take k++l[k]::l.drop (k+1):=by rw[List.getElem_cons_drop,List.take_append_drop]
 have hl:(l.take k).length=k:=by rw[List.length_take];omega
 calc val l=val (l.take k++l[k]::l.drop (k+1)):=by rw[←e]
  _=_:=by rw[Zvg,hl];rfl
theorem ZwQ {p q x y A B:Nat} {k:Nat} (hp:p < Bw ^ k) (h:x < y):p+Bw ^ k*x < q+Bw ^ k*y:=by have:Bw ^ k*(x+1)≤Bw ^ k*y:=Nat.mul_le_mul_left _ h;rw[Nat.mul_add,Nat.mul_one]at this;omega
theorem Zwd (a b:Nat) (ha:(wd a).length≤100000) (hb:(wd b).length≤100000):Zog (iL (wd a)) (iL (wd b))=some (ZwI a b):=by
 refine ZrO ?_;unfold Zog;rw[ZnR,ZnR,Zw7,ZnD,ZnC,Zob];refine⟨fun h=> ?_,fun h=> ?_⟩
 ·rw[ZnC];rcases Nat.lt_trichotomy (wd a).length (wd b).length with h1 |h1 |h1
  ·rw[Zue h1,Zue (ZwJ h1)]
  ·rw[h1,Ztj]at h;exact absurd h (by decide)
  ·rw[Zt5 h1,Zt5 (ZwJ h1)]
 ·have hl:(wd a).length=(wd b).length:=by
   rcases Nat.lt_trichotomy (wd a).length (wd b).length with h1 |h1 |h1
   ·rw[Zue h1]at h;exact absurd h (by decide)
   ·exact h1
   ·rw[Zt5 h1]at h;exact absurd h (by decide)
  rw[ZnF,ZnD];refine⟨ZnG (by omega), ?_⟩;refine Zn5 (Zv8 Zuk (wd a).length (by omega) (fun i (s:Unit)=>(iL (wd a),iL (wd b),i)) (fun k _=>(wd a).drop k=(wd b).drop k)
   (Q:=fun r=>r= .ret (ZwI a b)∧ZwI a b≠0∨r= .brk ()∧a=b) () (by rw[List.drop_length,hl,List.drop_length]) ?_ ?_) ?_
  ·rintro rec k ⟨⟩ hk hP ih;have hk2:k < (wd b).length:=by omega
   unfold ZqP Zpu;dsimp only;rw[Zob];refine⟨fun _=> ?_,fun h=>by simp only[decide_eq_false_iff_not]at h;omega⟩;rw[ZrN hk,ZnD,ZnC,ZrN hk2,ZnD,ZnC,ZzC,ZnD,ZnC];have ha:=ZuT hk;have hb:=ZuT hk2;rw[Zqs]at ha hb;have la:val ((wd a).take k) < Bw ^ k:=by have:=Ztr ((ZsH a).take k);rwa [List.length_take,Nat.min_eq_left (by omega)]at this
   have lb:val ((wd b).take k) < Bw ^ k:=by have:=Ztr ((ZsH b).take k);rwa [List.length_take,Nat.min_eq_left (by omega)]at this
   rw[Zob];refine⟨fun hc=> ?_,fun hc=> ?_⟩
   ·rw[ZnC];rcases Nat.lt_trichotomy (wd a)[k] (wd b)[k]with h1 |h1 |h1
    ·rw[Zue h1];have:a < b:=by rw[ha,hb,hP];exact ZwQ (A:=0) (B:=0) la (by omega)
     exact .inl ⟨by rw[Zue this],by rw[Zue this];decide⟩
    ·rw[h1,Ztj]at hc;exact absurd hc (by decide)
    ·rw[Zt5 h1];have:b < a:=by rw[ha,hb,hP];exact ZwQ (A:=0) (B:=0) lb (by omega)
     exact .inl ⟨by rw[Zt5 this],by rw[Zt5 this];decide⟩
   ·rw[ZnF];refine⟨ZnG (by omega),ih () ?_⟩;have h1:(wd a)[k]=(wd b)[k]:=by
     rcases Nat.lt_trichotomy (wd a)[k] (wd b)[k]with h1 |h1 |h1
     ·rw[Zue h1]at hc;exact absurd hc (by decide)
     ·exact h1
     ·rw[Zt5 h1]at hc;exact absurd hc (by decide)
    rw[←List.getElem_cons_drop (h:=hk),←List.getElem_cons_drop (h:=hk2),h1,hP]
  ·rintro rec ⟨⟩ hP;unfold ZqP Zpu;dsimp only;rw[Zob];refine⟨fun h=>by have:=of_decide_eq_true h;omega,fun _=> ?_⟩;rw[ZnC];rw[List.drop_zero,List.drop_zero]at hP;exact .inr ⟨rfl,by rw[←Zqs a,←Zqs b,hP]⟩
  ·rintro r (⟨rfl,_⟩ |⟨rfl,rfl⟩)
   ·exact ZnC.2 rfl
   ·unfold Zrj;exact ZnC.2 (Ztj a).symm
theorem Zzj {o:List Nat} {n i:Nat} (x:Nat) (ho:o.length=i) (h:i < n):(o++List.replicate (n - i) 0).set i x=(o++[x])++List.replicate (n - (i+1)) 0:=by
 have:n - i=(n - (i+1))+1:=by omega
 rw[this,List.replicate_succ,List.set_append_right _ _ (by omega),ho,Nat.sub_self,List.set_cons_zero];simp
theorem Zxx (a b:Nat) (hab:b≤a) (ha:(wd a).length≤100000):Zpa (iL (wd a)) (iL (wd b))=some (iL (wd (a - b))):=by
 have hlb:(wd b).length≤(wd a).length:=by
  rcases Nat.lt_or_ge (wd a).length (wd b).length with h |h
  ·have:=ZwJ h;omega
  ·exact h
 refine ZrO ?_;unfold Zpa;rw[ZnR,ZnF,ZnD,Int.toNat_natCast,Zwt];refine⟨Zva (by omega), ?_⟩;generalize hn:(wd a).length=n at ha hlb⊢
 rw[show iL (List.replicate n 0)=iL ([]++List.replicate (n - ([]:List Nat).length) 0) by simp];refine Zn5 (Zr8 ZuO n (by omega) (fun i (s:Nat×List Nat)=>(iL (wd a),iL (wd b),(s.1:Int),(n:Int),i,iL (s.2++List.replicate (n - s.2.length) 0))) (fun i s=>s.1≤1∧s.2.length=i∧Dg s.2∧val ((wd a).take i)+Bw ^ i*s.1=val s.2+val ((wd b).take i))
  (Q:=fun y=>∃(o:List Nat),y=iL o∧Dg o∧o.length=n∧val o=a - b) (0,[]) ⟨by simp,rfl,ZvO,by simp[val]⟩ ?_ ?_) ?_
 ·rintro rec i ⟨c,o⟩ hlt ⟨hc,hl,hd,hv⟩ ih;dsimp only at hc hl hd hv ih;have hi:i < (wd a).length:=by omega
  have h1:=(ZsH a).get hi;have h2:=ZvY (ZsH b) i;unfold Zri ZpZ;dsimp only;rw[Zob];refine⟨fun _=> ?_,fun h=>by simp only[decide_eq_false_iff_not]at h;omega⟩;rw[ZrN hi,ZnD,ZnC,ZzH,ZnD,ZnC,Zzf h1 h2 hc,ZnD,ZnC];dsimp only;rw[ZnF,ZnF,ZnR,Int.toNat_natCast,Zvb,hl,Zzj _ hl hlt];refine⟨ZqJ ⟨by omega,by simp only[List.length_append,List.length_replicate];omega⟩,ZnG (by omega), ?_⟩;generalize ex:(wd a)[i]=x at h1;generalize ey:(wd b).getD i 0=y at h2;have:=ih ((if x < y+c then 1 else 0),o++[(x+4294967296 - y - c) % 4294967296]) ⟨by dsimp only;split<;>omega,by simp[hl],hd.app (Zvm (Nat.mod_lt _ (by decide))), ?_⟩
  ·rw[List.length_append,List.length_singleton,hl]at this;exact this
  ·dsimp only;rw[ZsP,hl,Nat.pow_succ,ZnZ hi,Ztl,ex,ey,Nat.mul_assoc];have e:x+Bw*(if x < y+c then 1 else 0)=(x+4294967296 - y - c) % 4294967296+y+c:=by simp only[Bw]at h1 h2⊢;split<;>omega
   have e2:Bw ^ i*(x+Bw*(if x < y+c then 1 else 0))=Bw ^ i*((x+4294967296 - y - c) % 4294967296+y+c):=by rw[e]
   rw[Nat.mul_add,Nat.mul_add,Nat.mul_add]at e2;omega
 ·rintro rec ⟨c,o⟩ ⟨hc,hl,hd,hv⟩;unfold Zri ZpZ;dsimp only at hc hl hd hv⊢
  rw[Zob];refine⟨fun h=>by simp only[decide_eq_true_eq]at h;omega,fun _=> ?_⟩;rw[ZnC];rw[List.take_of_length_le (by omega),List.take_of_length_le (by omega),Zqs,Zqs]at hv;have:=Ztr hd;rw[hl]at this;have hc0:c=0:=by
   rcases Nat.eq_zero_or_pos c with h |h
   ·exact h
   ·have:c=1:=by omega
    rw[this,Nat.mul_one]at hv;omega
  rw[hc0,Nat.mul_zero]at hv;exact⟨o,by rw[hl,Nat.sub_self];simp,hd,hl,by omega⟩
 ·rintro y ⟨o,rfl,hd,hl,hv⟩;unfold Zr6;rw[Zvp hd (by omega),ZnD,ZnC,ZnC,hv]
theorem Zyj (a d:Nat) (hd0:d≠0) (hd:d < Bw) (ha:(wd a).length≤100000):Zqi (iL (wd a)) (d:Int)=some (iL (wd (a / d)),((a % d:Nat):Int)):=by
 refine ZrO ?_;unfold Zqi;rw[ZnR,ZnF,ZnF,ZnD,Int.toNat_natCast,Zwt];refine⟨Zva (by omega),ZnG (by omega), ?_⟩;generalize hn:(wd a).length=n at ha⊢
 rw[show iL (List.replicate n 0)=iL (List.replicate (n - ([]:List Nat).length) 0++[]) by simp];refine Zn5 (Zv8 ZuN n (by omega) (fun i (s:Nat×List Nat)=>(iL (wd a),(d:Int),(s.1:Int),i,iL (List.replicate (n - s.2.length) 0++s.2))) (fun k s=>s.1 < d∧s.2.length+k=n∧Dg s.2∧val ((wd a).drop k)=val s.2*d+s.1)
  (Q:=fun y=>∃(r:Nat) (o:List Nat),y=((r:Int),iL o)∧Dg o∧o.length=n∧r < d∧a=val o*d+r) (0,[]) ⟨by dsimp only;omega,by simp,ZvO,by rw[←hn,List.drop_length];simp[val]⟩ ?_ ?_) ?_
 ·rintro rec k ⟨r,o⟩ hk ⟨hr,hl,hdg,hv⟩ ih;dsimp only at hr hl hdg hv ih;have hi:k < (wd a).length:=by omega
  have h1:=(ZsH a).get hi;unfold Zrg ZpX;dsimp only;rw[Zob];refine⟨fun _=> ?_,fun h=>by simp only[decide_eq_false_iff_not]at h;omega⟩;rw[ZrN hi,ZnD,ZnC,ZB7 hr h1 hd,ZnD,ZnC];dsimp only;generalize ex:(wd a)[k]=x at h1;have hq:(r*4294967296+x) / d < Bw:=(Nat.div_lt_iff_lt_mul (by omega)).2 (by
   have:(r+1)*4294967296≤d*4294967296:=Nat.mul_le_mul_right _ hr;simp only[Bw]at*
   omega)
  have es:(List.replicate (n - o.length) 0++o).set k ((r*4294967296+x) / d)=List.replicate (n - (o.length+1)) 0++((r*4294967296+x) / d)::o:=by
   have e:n - o.length=k+1:=by omega
   have e2:n - (o.length+1)=k:=by omega
   rw[e,e2,List.replicate_succ',List.append_assoc,List.set_append_right _ _ (by simp),List.length_replicate,Nat.sub_self];rfl
  rw[ZnF,ZnF,ZnR,Int.toNat_natCast,Zvb,es];refine⟨ZqJ ⟨by omega,by simp only[List.length_append,List.length_replicate];omega⟩,ZnG (by omega), ?_⟩;refine ih ((r*4294967296+x) % d,((r*4294967296+x) / d)::o) ⟨Nat.mod_lt _ (by omega),by simp only[List.length_cons];omega,fun y hy=> ?_, ?_⟩
  ·rcases List.mem_cons.1 hy with rfl |hy
   ·exact hq
   ·exact hdg y hy
  ·dsimp only;rw[←List.getElem_cons_drop (h:=hi),ex,val,hv,val];have:=Nat.div_add_mod (r*4294967296+x) d;rw[Nat.add_mul,Nat.mul_comm ((r*4294967296+x) / d) d,Nat.mul_add,Nat.mul_assoc];simp only[Bw]at*
   omega
 ·rintro rec ⟨r,o⟩ ⟨hr,hl,hdg,hv⟩;unfold Zrg ZpX;dsimp only at hr hl hdg hv⊢
  rw[Zob];refine⟨fun h=>by have:=of_decide_eq_true h;omega,fun _=> ?_⟩;rw[ZnC];rw[List.drop_zero,Zqs]at hv;refine⟨r,o, ?_,hdg,hl,hr,hv⟩;rw[show n - o.length=0 by omega];rfl
 ·rintro y ⟨r,o,rfl,hdg,hl,hr,hv⟩;dsimp only;unfold Zr5;rw[Zvp hdg (by omega),ZnD,ZnC,ZnC];have e1:a / d=val o:=by rw[hv,Nat.mul_comm,Nat.mul_add_div (by omega),Nat.div_eq_of_lt hr,Nat.add_zero]
  have e2:a % d=r:=by rw[hv,Nat.mul_comm,Nat.mul_add_mod,Nat.mod_eq_of_lt hr]
  rw[e1,e2]
end Go.Proofs
