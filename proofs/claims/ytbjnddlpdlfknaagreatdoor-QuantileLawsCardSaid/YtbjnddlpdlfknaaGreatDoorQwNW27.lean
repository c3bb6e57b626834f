/- The second implementation: product, sum. -/
import Derived.Test.YtbjnddlpdlfknaaGreatDoorQwNW26
set_option linter.unusedVariables false
set_option linter.unusedSimpArgs false
set_option linter.unusedSectionVars false
namespace Go.Proofs
open Go Eng
theorem Zzr (a b:Nat) (ha:(wd a).length≤100000) (hb:(wd b).length≤100000):Zqf (iL (wd a)) (iL (wd b))=some (iL (wd (a*b))):=by
 refine ZrO ?_;unfold Zqf;rw[ZnR,ZnR,ZnF,ZnF,ZnD,←Int.natCast_add,Int.toNat_natCast,Zwt];refine⟨ZnG (by omega),Zva (by omega), ?_⟩;generalize hm:(wd a).length=m at ha⊢
 generalize hn:(wd b).length=n at hb⊢
 refine Zn5 (Zr8 ZuG m (by omega) (fun i (s:List Nat)=>(iL (wd a),iL (wd b),i,iL s)) (fun i s=>s.length=m+n∧Dg s∧val s=val ((wd a).take i)*b∧∀k,i+n≤k→k < m+n→s[k]? =some 0)
  (Q:=fun y=>∃(o:List Nat),y=iL o∧Dg o∧o.length=m+n∧val o=a*b) (List.replicate (m+n) 0) ⟨by simp,Zx1 _,by rw[Zxc];simp[val],fun k _ h=>by rw[List.getElem?_replicate,if_pos h]⟩ ?_ ?_) ?_
 ·rintro rec i s hlt ⟨hl,hd,hv,hz⟩ ih;have hi:i < (wd a).length:=by omega
  have h1:=(ZsH a).get hi;unfold Zq8 ZpN;dsimp only;rw[Zob,ZnR,hm];refine⟨fun _=> ?_,fun h=>by simp only[decide_eq_false_iff_not]at h;omega⟩;rw[ZnD];generalize ex:(wd a)[i]=x at h1;refine Zn5 (Zr8 ZuF n (by omega) (fun j (t:Nat×List Nat)=>(iL (wd a),iL (wd b),(i:Int),(t.1:Int),j,iL t.2)) (fun j t=>t.1 < Bw∧t.2.length=m+n∧Dg t.2∧val t.2+Bw ^ (i+j)*t.1=val s+Bw ^ i*(x*val ((wd b).take j))∧∀k,i+n≤k→k < m+n→t.2[k]? =some 0)
   (Q:=fun y=>∃(c:Nat) (o:List Nat),y=(iL (wd a),iL (wd b),(i:Int),(c:Int),iL o)∧c < Bw∧o.length=m+n∧Dg o∧val o+Bw ^ (i+n)*c=val s+Bw ^ i*(x*b)∧∀k,i+n≤k→k < m+n→o[k]? =some 0) (0,s) ⟨by simp only[Bw];omega,hl,hd,by simp[val],hz⟩ ?_ ?_) ?_
  ·rintro rec2 j ⟨c,o⟩ hj ⟨hc,hol,hod,hov,hoz⟩ ih2;dsimp only at hc hol hod hov hoz ih2;have hj2:j < (wd b).length:=by omega
   have h2:=(ZsH b).get hj2;have hij:i+j < o.length:=by omega
   have h3:=hod.get hij;unfold Zq7 ZpM;dsimp only;rw[Zob,ZnR,hn];refine⟨fun _=> ?_,fun h=>by simp only[decide_eq_false_iff_not]at h;omega⟩;rw[ZrN hi,ex,ZnD,ZnC,ZrN hj2,ZnD,ZnC,ZnF,ZnF,←Int.natCast_add,Int.toNat_natCast,ZvM hij,ZnD,ZnC,ZnF,ZnF,ZnF,ZnF];generalize ey:(wd b)[j]=y at h2;generalize ee:o[i+j]=e at h3;rw[ZAd hc h1 h2 h3,Zsh,show (32:Int)=((32:Nat):Int)from rfl,Zvq 32 (by omega),ZnR,Zvb];refine⟨ZnG (by omega),ZqJ ⟨by omega,by omega⟩,ZnG (by omega),ZqJ ⟨by omega,by omega⟩,by decide,ZnG (by omega), ?_⟩;refine ih2 ((c+x*y+e) / Bw,o.set (i+j) ((c+x*y+e) % Bw)) ⟨ZyI hc h1 h2 h3,by simp[hol],hod.set _ (Nat.mod_lt _ (by decide)), ?_,fun k hk hk2=> ?_⟩
   ·dsimp only;have q1:=Zvf o (i+j) ((c+x*y+e) % Bw) hij;rw[ee]at q1;have q2:Bw ^ (i+j)*((c+x*y+e) % Bw+Bw*((c+x*y+e) / Bw))=Bw ^ (i+j)*(c+x*y+e):=by rw[Nat.mod_add_div]
    rw[Nat.mul_add,Nat.mul_add,Nat.mul_add]at q2;rw[←Nat.add_assoc,Nat.pow_succ,Nat.mul_assoc,ZnZ hj2,ey,Nat.mul_add,Nat.mul_add];have q3:Bw ^ i*(x*(Bw ^ j*y))=Bw ^ (i+j)*(x*y):=by rw[Nat.pow_add,Nat.mul_assoc,Nat.mul_left_comm x]
    omega
   ·dsimp only;rw[List.getElem?_set_ne (by omega)];exact hoz k hk hk2
  ·rintro rec2 ⟨c,o⟩ ⟨hc,hol,hod,hov,hoz⟩;dsimp only at hc hol hod hov hoz;unfold Zq7 ZpM;dsimp only;rw[Zob,ZnR,hn];refine⟨fun h=>by have:=of_decide_eq_true h;omega,fun _=> ?_⟩;rw[ZnC];rw[List.take_of_length_le (by omega),Zqs]at hov;exact⟨c,o,rfl,hc,hol,hod,hov,hoz⟩
  ·rintro y ⟨c,o,rfl,hc,hol,hod,hov,hoz⟩;dsimp only;unfold ZrS;rw[ZnR,hn,ZnF,ZnF,ZnF,←Int.natCast_add,Int.toNat_natCast,ZsF hc,Zvb,ZnR];refine⟨ZnG (by omega),ZqJ ⟨by omega,by omega⟩,ZnG (by omega), ?_⟩;have hp:i+n < o.length:=by omega
   have h0:o[i+n]=0:=by have:=hoz (i+n) (Nat.le_refl _) (by omega);rw[List.getElem?_eq_getElem hp]at this;exact Option.some.inj this
   have q1:=Zvf o (i+n) c hp;rw[h0,Nat.mul_zero,Nat.add_zero]at q1;refine ih (o.set (i+n) c) ⟨by simp[hol],hod.set _ hc, ?_,fun k hk hk2=> ?_⟩
   ·rw[q1,hov,hv,ZnZ hi,ex,Nat.add_mul,Nat.mul_assoc]
   ·rw[List.getElem?_set_ne (by omega)];exact hoz k (by omega) hk2
 ·rintro rec s ⟨hl,hd,hv,hz⟩;unfold Zq8 ZpN;dsimp only;rw[Zob,ZnR,hm];refine⟨fun h=>by have:=of_decide_eq_true h;omega,fun _=> ?_⟩;rw[ZnC];rw[List.take_of_length_le (by omega),Zqs]at hv;exact⟨s,rfl,hd,hl,hv⟩
 ·rintro y ⟨o,rfl,hd,hl,hv⟩;unfold ZrR;rw[ZvS hd (by omega),ZnD,ZnC,ZnC,hv]
theorem ZzJ (a b:Nat) (ha:(wd a).length≤100000) (hb:(wd b).length≤100000):∃o:List Nat,Zo7 (iL (wd a)) (iL (wd b))=some (iL o)∧Dg o∧o.length≤100001∧val o=a+b:=by
 obtain⟨m,hma,hmb,hm2,hmx⟩:∃m:Nat,(wd a).length≤m∧(wd b).length≤m∧m≤100000∧∀i,i < m→i < (wd a).length∨i < (wd b).length:=by
  by_cases h:(wd a).length≤(wd b).length
  ·exact⟨(wd b).length,h,Nat.le_refl _,hb,fun i hi=> .inr hi⟩
  ·exact⟨(wd a).length,Nat.le_refl _,by omega,ha,fun i hi=> .inl hi⟩
 suffices h:wp (Zo7 (iL (wd a)) (iL (wd b))) (fun x=>∃o:List Nat,x=iL o∧Dg o∧o.length≤100001∧val o=a+b) by obtain⟨x,hx,o,rfl,h⟩:=h;exact⟨o,hx,h⟩
 unfold Zo7;rw[ZnD];refine Zn5 (Zr8 ZuJ m (by omega) (fun i (s:Nat×List Nat)=>(iL (wd a),iL (wd b),(s.1:Int),i,iL s.2)) (fun i s=>s.1≤1∧s.2.length=i∧Dg s.2∧val s.2+Bw ^ i*s.1=val ((wd a).take i)+val ((wd b).take i))
  (Q:=fun y=>∃(c:Nat) (o:List Nat),y=((c:Int),iL o)∧c≤1∧Dg o∧o.length=m∧val o+Bw ^ m*c=a+b) (0,[]) ⟨by simp,rfl,ZvO,by simp[val]⟩ ?_ ?_) ?_
 ·rintro rec i ⟨c,o⟩ hlt ⟨hc,hl,hd,hv⟩ ih;dsimp only at hc hl hd hv ih;have h1:=ZvY (ZsH a) i;have h2:=ZvY (ZsH b) i;have j3:∀x y:Nat,(wd a).getD i 0=x→(wd b).getD i 0=y→wp (Zph (fun a b c i out=>rec (a,b,c,i,out)) (iL (wd a)) (iL (wd b)) ((c+x+y:Nat):Int) (i:Int) (iL o)) (fun y=>∃(c:Nat) (o:List Nat),y=((c:Int),iL o)∧c≤1∧Dg o∧o.length=m∧val o+Bw ^ m*c=a+b):=fun x y ex ey=>by
   rw[ex]at h1;rw[ey]at h2;unfold Zph;rw[ZnF,ZnF,ZnF,Zsh,show (32:Int)=((32:Nat):Int)from rfl,Zvq 32 (by omega),ZnR];refine⟨ZtS (by simp only[List.length_singleton];omega),by decide,ZnG (by omega), ?_⟩;have:=ih ((c+x+y) / Bw,o++[(c+x+y) % Bw]) ⟨by simp only[Bw]at h1 h2⊢;omega,by simp[hl],hd.app (Zvm (Nat.mod_lt _ (by decide))), ?_⟩
   ·rw[Zwu]at this;exact this
   ·dsimp only;rw[ZsP,hl,Nat.pow_succ,Ztl,Ztl,ex,ey,Nat.add_assoc,Nat.mul_assoc,←Nat.mul_add,Nat.mod_add_div,Nat.mul_add,Nat.mul_add];omega
  have j2:∀x:Nat,(wd a).getD i 0=x→wp (Zpi (fun a b c i out=>rec (a,b,c,i,out)) (iL (wd a)) (iL (wd b)) ((c+x:Nat):Int) (i:Int) (iL o)) (fun y=>∃(c:Nat) (o:List Nat),y=((c:Int),iL o)∧c≤1∧Dg o∧o.length=m∧val o+Bw ^ m*c=a+b):=fun x ex=>by
   have hx:=h1;rw[ex]at hx;unfold Zpi;rw[ZnR,Zob];refine⟨fun h=> ?_,fun h=> ?_⟩
   ·have hib:i < (wd b).length:=by have:=of_decide_eq_true h;omega
    have ey:(wd b).getD i 0=(wd b)[i]:=by rw[List.getD_eq_getElem?_getD,List.getElem?_eq_getElem hib];rfl
    have hy:=(ZsH b).get hib;rw[ZrN hib,ZnD,ZnC,Zn4 (by simp only[Bw]at hy;omega),←Int.natCast_add,Zn4 (by simp only[Bw]at hx hy;omega)];exact j3 x _ ex ey
   ·have hib:¬i < (wd b).length:=by have:=of_decide_eq_false h;omega
    exact j3 x 0 ex (by rw[List.getD_eq_getElem?_getD,List.getElem?_eq_none (by omega)];rfl)
  have j1:wp (ZoL (fun a b c i out=>rec (a,b,c,i,out)) (iL (wd a)) (iL (wd b)) (c:Int) (i:Int) true (iL o)) (fun y=>∃(c:Nat) (o:List Nat),y=((c:Int),iL o)∧c≤1∧Dg o∧o.length=m∧val o+Bw ^ m*c=a+b):=by
   unfold ZoL;rw[cond_true,ZnR,Zob];refine⟨fun h=> ?_,fun h=> ?_⟩
   ·have hib:i < (wd a).length:=by have:=of_decide_eq_true h;omega
    have ey:(wd a).getD i 0=(wd a)[i]:=by rw[List.getD_eq_getElem?_getD,List.getElem?_eq_getElem hib];rfl
    have hy:=(ZsH a).get hib;rw[ZrN hib,ZnD,ZnC,Zn4 (by simp only[Bw]at hy;omega),←Int.natCast_add,Zn4 (by simp only[Bw]at hy;omega)];exact j2 _ ey
   ·have hib:¬i < (wd a).length:=by have:=of_decide_eq_false h;omega
    exact j2 0 (by rw[List.getD_eq_getElem?_getD,List.getElem?_eq_none (by omega)];rfl)
  unfold Zrd ZpQ;dsimp only;rw[ZnR,ZnR,Zob];refine⟨fun _=>j1,fun h=> ?_⟩;have hib:¬i < (wd a).length:=by have:=of_decide_eq_false h;omega
  rw[decide_eq_true (by rcases hmx i hlt with h |h<;>omega)];exact j1
 ·rintro rec ⟨c,o⟩ ⟨hc,hl,hd,hv⟩;dsimp only at hc hl hd hv;unfold Zrd ZpQ;dsimp only;rw[ZnR,ZnR,decide_eq_false (by omega),cond_false,decide_eq_false (by omega)];unfold ZoL;rw[cond_false,ZnC];rw[List.take_of_length_le hma,List.take_of_length_le hmb,Zqs,Zqs]at hv;exact⟨c,o,rfl,hc,hd,hl,hv⟩
 ·rintro y ⟨c,o,rfl,hc,hd,hl,hv⟩;dsimp only;unfold Zr0;have e:iL o++[(c:Int)]=iL (o++[c]):=by rw[Zwu];rfl
  rw[ZsF (by omega),ZnF,ZnR,e,ZnC];exact⟨ZtS (by simp only[List.length_singleton];omega),_,rfl,hd.app (Zvm (by unfold Bw;omega)),by simp;omega,by rw[ZsP,hl,hv]⟩
end Go.Proofs
