/- quantile.upTo and quantile.Distance over fractions. -/
import Derived.Test.YtbjnddlpdlfknaaGreatDoorQwNW11
import Derived.Test.YtbjnddlpdlfknaaGreatDoorQwQD
set_option linter.unusedVariables false
set_option linter.unusedSimpArgs false
set_option linter.unusedSectionVars false
open List renaming length_map→Zz9
namespace Go.Proofs
open Go Eng
theorem ZwS (a b:Rat):Zxg a b≤0↔a≤b:=by
 unfold Zxg;split
 ·grind
 ·split
  ·grind
  ·grind
theorem ZwR (a b:Rat):Zxg a b < 0↔a < b:=by
 unfold Zxg;split
 ·grind
 ·split
  ·grind
  ·grind
theorem ZxL {l:List Rat} (hl:∀q∈l,Sz 40 q) (hn:l.length≤1000) {x:Rat} (hx:Sz 40 x) {i:Nat} (hi:i≤l.length):
  wp (Zsn (l.map fOf) (i:Int) (fOf x)) (fun r=>∃k:Nat,r=(k:Int)∧Zmn l i x k):=by
 unfold Zsn;rw[ZnD];refine Zn5 (ZsG ZvH (fun k:Nat=>(l.map fOf,(k:Int),fOf x)) (fun k=>i≤k∧k≤l.length∧∀j,i≤j→j < k→gR l j≤x) (fun k=>l.length - k) (Q:=fun r=>∃k:Nat,r=(k:Int)∧Zmn l i x k) i ⟨Nat.le_refl _,hi,fun j h1 h2=>by omega⟩ (by omega) ?_) ?_
 ·rintro rec k ⟨h1,h2,h3⟩ ih;unfold Zux ZtA ZsS;dsimp only;rw[Zz9]
  by_cases hk:k < l.length
  ·have hq:l[k]∈l:=List.getElem_mem hk;rw[decide_eq_true (show (k:Int) < (l.length:Int) by omega),cond_true,Zu4 (by simpa using hk),ZnD,ZnC,List.getElem_map,Zw6 ((hl _ hq).wq (by omega)) (hx.wq (by omega)),ZnD,ZnC]
   by_cases hc:Zxg l[k] x≤0
   ·rw[decide_eq_true hc,cond_true,ZnF];refine⟨ZnG (by omega),ih (k+1) ⟨by omega,by omega,fun j h4 h5=> ?_⟩ (by omega)⟩
    by_cases hj:j=k
    ·rw[hj,Zvc hk];exact(ZwS _ _).1 hc
    ·exact h3 j h4 (by omega)
   ·rw[decide_eq_false hc,cond_false,ZnC];refine⟨k,rfl,h1,h2,h3,fun _=> ?_⟩;rw[Zvc hk];rw[ZwS]at hc;grind
  ·rw[decide_eq_false (show ¬(k:Int) < (l.length:Int) by omega),cond_false,cond_false,ZnC];exact⟨k,rfl,h1,h2,h3,fun h=>absurd h hk⟩
 ·intro r h;unfold ZtZ;rw[ZnC];exact h
theorem Zz2 (la lb i k:Nat) (m:Int):(if ((k:Int)*la - (i:Int)*lb) > (if ((i:Int)*lb - (k:Int)*la) > m then ((i:Int)*lb - (k:Int)*la)else m)then ((k:Int)*la - (i:Int)*lb)else (if ((i:Int)*lb - (k:Int)*la) > m then ((i:Int)*lb - (k:Int)*la)else m))=stp la lb i k m:=by unfold stp;split<;>split<;>omega
theorem Zmn.grows {l:List Rat} {i:Nat} {x:Rat} {r:Nat} (h:Zmn l i x r) (hi:i < l.length) (hx:gR l i≤x):i < r:=by
 obtain⟨h1,h2,h3,h4⟩:=h;rcases Nat.lt_or_eq_of_le h1 with h |h
 ·exact h
 ·have:=h4 (by omega);rw[←h]at this;grind
theorem ZwV {a b:List Rat} (ha:∀q∈a,Sz 40 q) (hb:∀q∈b,Sz 40 q) (hna:a.length≤1000) (hnb:b.length≤1000) (ha0:a.length≠0) (hb0:b.length≠0):
  ∃r,Zoe (a.map fOf) (b.map fOf)=some (fOf (Rat.divInt r ((a.length*b.length:Nat):Int)),0)∧DistR a b 0 0 0 r:=by
 suffices h:wp (Zoe (a.map fOf) (b.map fOf)) (fun x=>∃r,x=(fOf (Rat.divInt r ((a.length*b.length:Nat):Int)),0)∧DistR a b 0 0 0 r) by obtain⟨x,hx,r,rfl,hr⟩:=h;exact⟨r,hx,hr⟩
 have hlb:∀i k:Nat,i≤a.length→k≤b.length→(0≤(i:Int)*(b.length:Int)∧(i:Int)*(b.length:Int)≤1000000)∧(0≤(k:Int)*(a.length:Int)∧(k:Int)*(a.length:Int)≤1000000):=by
  intro i k hi hk;have e1:(i:Int)*(b.length:Int)=((i*b.length:Nat):Int):=by rw[Int.natCast_mul]
  have e2:(k:Int)*(a.length:Int)=((k*a.length:Nat):Int):=by rw[Int.natCast_mul]
  have h1:i*b.length≤1000*1000:=Nat.mul_le_mul (by omega) hnb;have h2:k*a.length≤1000*1000:=Nat.mul_le_mul (by omega) hna;rw[e1,e2];omega
 unfold Zoe;rw[Zz9,Zz9,show ((a.length:Int) == 0)=false from beq_eq_false_iff_ne.2 (by omega),show ((b.length:Int) == 0)=false from beq_eq_false_iff_ne.2 (by omega),cond_false];unfold Zrp;rw[cond_false,ZnD];refine Zn5 (ZsG Zvi (fun s:Nat×Nat×Int=>(a.map fOf,b.map fOf,s.2.2,(s.1:Int),(s.2.1:Int),false,false,[],[]))
  (fun s=>s.1≤a.length∧s.2.1≤b.length∧∀r,DistR a b s.1 s.2.1 s.2.2 r→DistR a b 0 0 0 r) (fun s=>(a.length - s.1)+(b.length - s.2.1))
  (Q:=fun x=>∃r,x=(a.map fOf,b.map fOf,r,false,false,[],[])∧DistR a b 0 0 0 r) (0,0,0) ⟨Nat.zero_le _,Nat.zero_le _,fun r h=>h⟩ (by dsimp only;omega) ?_) ?_
 ·rintro rec ⟨i,k,m⟩ ⟨h1,h2,h3⟩ ih;dsimp only at h1 h2 h3 ih⊢
  unfold ZtU Zso Zro;dsimp only;rw[Zz9,Zz9];have j3:∀x:Rat,Sz 40 x→i < a.length→k < b.length→x=xOf (gR a i) (gR b k)→wp (Zqh (fun a b most i k t4 t4_1 t4_2 t4_3=>rec (a,b,most,i,k,t4,t4_1,t4_2,t4_3)) (a.map fOf) (b.map fOf) m (i:Int) (k:Int) false false (fOf x) [] []) (fun x=>∃r,x=(a.map fOf,b.map fOf,r,false,false,[],[])∧DistR a b 0 0 0 r):=by
   intro x hx hi hk ex;unfold Zqh;rw[ZnD];refine Zn5 (ZxL ha hna hx h1) ?_;rintro _ ⟨i',rfl,hi'⟩;rw[ZnD];refine Zn5 (ZxL hb hnb hx h2) ?_;rintro _ ⟨k',rfl,hk'⟩;rw[Zz9,Zz9,Zz2];have hb':=hlb i' k' hi'.2.1 hk'.2.1;rw[ZnF,ZnF,ZnF,ZnF,ZnF,ZnF];refine⟨ZnG (by omega),ZnG (by omega),ZnG (by omega),ZnG (by omega),ZnG (by omega),ZnG (by omega), ?_⟩;refine ih (i',k',stp a.length b.length i' k' m) ⟨hi'.2.1,hk'.2.1,fun r hr=>h3 r ?_⟩ ?_
   ·rw[ex]at hi' hk';exact .go hi hk hi' hk' hr
   ·dsimp only;have q1:=hi'.1;have q2:=hk'.1;have q3:=hi'.2.1;have q4:=hk'.2.1;rcases ZzU (gR a i) (gR b k)with e |e
    ·have:=hi'.grows hi (by rw[ex,e];exact Rat.le_refl);omega
    ·have:=hk'.grows hk (by rw[ex,e];exact Rat.le_refl);omega
  by_cases hi:i < a.length
  ·rw[decide_eq_true (show (i:Int) < (a.length:Int) by omega),cond_true]
   by_cases hk:k < b.length
   ·have hqa:a[i]∈a:=List.getElem_mem hi;have hqb:b[k]∈b:=List.getElem_mem hk;rw[decide_eq_true (show (k:Int) < (b.length:Int) by omega),cond_true,Zu4 (by simpa using hi),Zu4 (by simpa using hk),ZnD,ZnC,ZnD,ZnC,List.getElem_map,List.getElem_map,Zw6 ((hb _ hqb).wq (by omega)) ((ha _ hqa).wq (by omega)),ZnD,ZnC]
    by_cases hc:Zxg b[k] a[i] < 0
    ·rw[decide_eq_true hc,cond_true,ZnD,ZnC];exact j3 _ (hb _ hqb) hi hk (by rw[Zvc hi,Zvc hk];unfold xOf;rw[if_pos ((ZwR _ _).1 hc)])
    ·rw[decide_eq_false hc,cond_false];exact j3 _ (ha _ hqa) hi hk (by rw[Zvc hi,Zvc hk];unfold xOf;rw[if_neg (fun h=>hc ((ZwR _ _).2 h))])
   ·rw[decide_eq_false (show ¬(k:Int) < (b.length:Int) by omega),cond_false,ZnC];exact⟨m,rfl,h3 m (.done (fun h=>hk h.2))⟩
  ·rw[decide_eq_false (show ¬(i:Int) < (a.length:Int) by omega),cond_false,cond_false,ZnC];exact⟨m,rfl,h3 m (.done (fun h=>hi h.1))⟩
 ·rintro _ ⟨r,rfl,hr⟩;have hbd:=hr.bound (Int.le_refl 0) (by omega);have hm:a.length*b.length≤1000*1000:=Nat.mul_le_mul hna hnb;have hp:0 < a.length*b.length:=Nat.mul_pos (by omega) (by omega);unfold ZsM;dsimp only;rw[Zz9,Zz9,←Int.natCast_mul,ZnF,Zyn _ _ (by omega) (by omega) (by omega) (by omega) (by omega),ZnD,ZnC,ZnC];exact⟨ZnG (by omega),r,rfl,hr⟩
end Go.Proofs
