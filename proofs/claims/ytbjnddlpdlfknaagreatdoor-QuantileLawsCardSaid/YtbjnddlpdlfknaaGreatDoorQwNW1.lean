/- Numbers of many words: lists of digits and what they are worth. -/
import Derived.Test.YtbjnddlpdlfknaaGreatDoorQwNW0
set_option linter.unusedVariables false
set_option linter.unusedSimpArgs false
set_option linter.unusedSectionVars false
namespace Go.Proofs
open Go Eng
def iL (l:List Nat):List Int:=l.map fun(n:Nat)=>(n:Int)
theorem ZnR (l:List Nat):(iL l).length=l.length:=by unfold iL;simp
theorem Zwu (a b:List Nat):iL (a++b)=iL a++iL b:=by unfold iL;simp
theorem ZAm:iL []=[]:=rfl
theorem ZvM {l:List Nat} {i:Nat} (h:i < l.length):(iL l)[i]? =some (l[i]:Int):=by unfold iL;simp[h]
theorem ZrN {l:List Nat} {i:Nat} (h:i < l.length):idx (iL l) (i:Int)=some (l[i]:Int):=by unfold idx;rw[if_pos (by omega),Int.toNat_natCast,ZvM h]
theorem Zvb (l:List Nat) (i x:Nat):(iL l).set i (x:Int)=iL (l.set i x):=by unfold iL;rw[List.map_set]
theorem Zxj (l:List Nat) (i:Nat):(iL l).take i=iL (l.take i):=by unfold iL;rw[List.map_take]
theorem Zwt (n:Nat):List.replicate n (0:Int)=iL (List.replicate n 0):=by unfold iL;rw[List.map_replicate];rfl
abbrev Bw:Nat:=4294967296
def val:List Nat→Nat
 | []=>0
 |d::r=>d+Bw*val r
def Dg (l:List Nat):Prop:=∀d∈l,d < Bw
theorem Dg.app {a b:List Nat} (ha:Dg a) (hb:Dg b):Dg (a++b):=fun d hd=>(List.mem_append.1 hd).elim (ha d) (hb d)
theorem ZvO:Dg []:=fun _ h=>by simp at h
theorem Zvm {x:Nat} (h:x < Bw):Dg [x]:=fun d hd=>by simp only[List.mem_singleton]at hd;subst hd;exact h
theorem Zx1 (n:Nat):Dg (List.replicate n 0):=fun d hd=>by rw[List.mem_replicate]at hd;rw[hd.2];decide
theorem Dg.take {a:List Nat} (h:Dg a) (k:Nat):Dg (a.take k):=fun d hd=>h d (List.mem_of_mem_take hd)
theorem Dg.drop {a:List Nat} (h:Dg a) (k:Nat):Dg (a.drop k):=fun d hd=>h d (List.mem_of_mem_drop hd)
theorem Dg.set {a:List Nat} (h:Dg a) (i:Nat) {x:Nat} (hx:x < Bw):Dg (a.set i x):=fun d hd=>by
 rcases List.mem_or_eq_of_mem_set hd with h1 |h1
 ·exact h d h1
 ·rw[h1];exact hx
theorem Dg.get {a:List Nat} (h:Dg a) {i:Nat} (hi:i < a.length):a[i] < Bw:=h _ (List.getElem_mem hi)
theorem Zvg:∀a b:List Nat,val (a++b)=val a+Bw ^ a.length*val b
 | [],b=>by simp[val]
 |d::a,b=>by simp only[List.cons_append,val,Zvg a b,List.length_cons,Nat.pow_succ,Nat.mul_add];rw[Nat.mul_comm (Bw ^ a.length) Bw,Nat.mul_assoc];omega
theorem ZsP (a:List Nat) (x:Nat):val (a++[x])=val a+Bw ^ a.length*x:=by rw[Zvg];simp[val]
theorem Ztr:∀{l:List Nat},Dg l→val l < Bw ^ l.length
 | [],_=>by simp[val]
 |d::r,h=>by
  have h1:=h d (by simp);have h2:=Ztr (l:=r) fun x hx=>h x (by simp[hx])
  simp only[val,List.length_cons,Nat.pow_succ];have:Bw*(val r+1)≤Bw*Bw ^ r.length:=Nat.mul_le_mul_left _ h2;rw[Nat.mul_comm (Bw ^ r.length) Bw];rw[Nat.mul_add,Nat.mul_one]at this;exact Nat.lt_of_lt_of_le (by omega) this
theorem Zxc (n:Nat):val (List.replicate n 0)=0:=by
 induction n with
 |zero=>rfl
 |succ n ih=>rw[List.replicate_succ,val,ih,Nat.mul_zero]
theorem ZnZ {l:List Nat} {k:Nat} (h:k < l.length):val (l.take (k+1))=val (l.take k)+Bw ^ k*l[k]:=by rw[List.take_succ_eq_append_getElem h,ZsP,List.length_take,Nat.min_eq_left (by omega)]
def wd (n:Nat):List Nat:=if h:n=0 then []else n % Bw::wd (n / Bw)
termination_by n
decreasing_by exact Nat.div_lt_self (Nat.pos_of_ne_zero h) (by decide)
theorem ZrP:wd 0=[]:=by unfold wd;simp
theorem Zv1 {n:Nat} (h:n≠0):wd n=n % Bw::wd (n / Bw):=by rw[wd,dif_neg h]
theorem ZsH (n:Nat):Dg (wd n):=by
 induction n using Nat.strongRecOn with
 |ind n ih=>
  by_cases h:n=0
  ·rw[h,ZrP];exact ZvO
  ·rw[Zv1 h];intro d hd;rcases List.mem_cons.1 hd with rfl |hd
   ·exact Nat.mod_lt _ (by decide)
   ·exact ih (n / Bw) (Nat.div_lt_self (Nat.pos_of_ne_zero h) (by decide)) d hd
theorem Zqs (n:Nat):val (wd n)=n:=by
 induction n using Nat.strongRecOn with
 |ind n ih=>
  by_cases h:n=0
  ·rw[h,ZrP];rfl
  ·rw[Zv1 h,val,ih (n / Bw) (Nat.div_lt_self (Nat.pos_of_ne_zero h) (by decide))];exact Nat.mod_add_div n Bw
theorem Zuh {n k:Nat} (h:n < Bw ^ k):(wd n).length≤k:=by
 induction k generalizing n with
 |zero=>
  have:n=0:=by simpa using h
  rw[this,ZrP];simp
 |succ k ih=>
  by_cases h0:n=0
  ·rw[h0,ZrP];simp
  ·rw[Zv1 h0,List.length_cons];have:n / Bw < Bw ^ k:=(Nat.div_lt_iff_lt_mul (by decide)).2 (by rw[←Nat.pow_succ];exact h);have:=ih this;omega
theorem Zqj {n:Nat} (h:n≠0):0 < (wd n).length:=by rw[Zv1 h];simp
theorem ZzY {n:Nat}:wd n=[]↔n=0:=⟨fun h=>by have:=Zqs n;rw[h]at this;exact this.symm,fun h=>by rw[h,ZrP]⟩
theorem ZsX (n:Nat):n < Bw ^ (wd n).length:=by have:=Ztr (ZsH n);rwa [Zqs]at this
def Zw0 (l:List Nat):List Nat:=(l.reverse.dropWhile (· == 0)).reverse
theorem ZwC (l:List Nat) (x:Nat):Zw0 (l++[x])=if x=0 then Zw0 l else l++[x]:=by
 unfold Zw0;rw[List.reverse_append,List.reverse_singleton,List.singleton_append,List.dropWhile_cons]
 by_cases h:x=0
 ·simp[h]
 ·simp[h]
theorem Zxp:∀{l:List Nat} {x:Nat},Dg (l++[x])→x≠0→wd (val (l++[x]))=l++[x]
 | [],x,h,hx=>by have h1:x < Bw:=h x (by simp);simp only[List.nil_append,val,Nat.mul_zero,Nat.add_zero];rw[Zv1 hx,Nat.mod_eq_of_lt h1,Nat.div_eq_of_lt h1,ZrP]
 |d::l,x,h,hx=>by
  have h1:d < Bw:=h d (by simp);have ih:=Zxp (l:=l) (x:=x) (fun y hy=>h y (by simp only[List.cons_append,List.mem_cons];exact .inr hy)) hx;have hne:val (l++[x])≠0:=fun e=>by rw[e,ZrP]at ih;simp at ih
  simp only[List.cons_append,val];rw[Zv1 (by simp only[Bw];omega),Nat.add_mul_mod_self_left,Nat.mod_eq_of_lt h1,Nat.add_mul_div_left _ _ (by decide),Nat.div_eq_of_lt h1,Nat.zero_add,ih]
theorem Zxt:∀(n:Nat) {l:List Nat},l.length=n→Dg l→Zw0 l=wd (val l)
 |0,l,hl,_=>by rw[List.eq_nil_of_length_eq_zero hl];simp[Zw0,val,ZrP]
 |n+1,l,hl,h=>by
  rcases List.eq_nil_or_concat l with rfl |⟨v,x,rfl⟩
  ·simp at hl
  ·rw[List.concat_eq_append]at hl h⊢
   rw[ZwC];split
   ·rename_i h0;subst h0;rw[Zxt n (by simpa using hl) (fun d hd=>h d (by simp[hd])),ZsP,Nat.mul_zero,Nat.add_zero]
   ·rename_i h0;exact(Zxp h h0).symm
theorem Zvp {l:List Nat} (h:Dg l) (hl:l.length≤1000000):ZnW (iL l)=some (iL (wd (val l))):=by
 rw[←Zxt _ rfl h];refine ZrO ?_;unfold ZnW Zta;rw[ZnD];refine Zn5 (ZsG Zvl (fun(w:List Nat)=>iL w) (fun w=>Zw0 w=Zw0 l∧w.length≤1000000) List.length (Q:=fun x=>x=iL (Zw0 l)) l ⟨rfl,hl⟩ (by omega) ?_) (fun x hx=>by rw[ZnC];exact hx);rintro rec w ⟨hw,hwl⟩ ih;unfold Zt3 ZqW ZrJ;rcases List.eq_nil_or_concat w with rfl |⟨v,x,rfl⟩
 ·show wp (some (iL [])) _;rw[ZnC,←hw];rfl
 ·rw[List.concat_eq_append]at hw hwl⊢
  rw[ZwC]at hw;have hlen:(iL (v++[x])).length=v.length+1:=by rw[ZnR];simp
  rw[Zob];refine⟨fun _=> ?_,fun h=>by simp only[decide_eq_false_iff_not]at h;omega⟩;have ei:((iL (v++[x])).length:Int) - 1=(v.length:Int):=by rw[hlen];omega
  have hx:(v++[x])[v.length]'(by simp)=x:=by simp
  rw[ei,ZnF,ZnD,ZrN (by simp),ZnC,hx,Zob];refine⟨ZnG (by simp at hwl;omega),fun h=> ?_,fun h=> ?_⟩
  ·have h0:x=0:=by have:=eq_of_beq h;omega
   rw[if_pos h0]at hw;rw[ZnF,ZnF];refine⟨ZnG (by simp at hwl;omega),ZvG (by omega), ?_⟩;have:(iL (v++[x])).take ((v.length:Int)).toNat=iL v:=by rw[Zxj,Int.toNat_natCast];simp
   rw[this];exact ih v ⟨hw,by simp at hwl;omega⟩ (by simp)
  ·have h0:x≠0:=by intro e;subst e;simp at h
   rw[if_neg h0]at hw;rw[ZnC,←hw]
theorem ZzH (l:List Nat) (i:Nat):Zpw (iL l) (i:Int)=some ((l.getD i 0:Nat):Int):=by
 unfold Zpw;rw[ZnR]
 by_cases h:i < l.length
 ·rw[decide_eq_true (by omega),cond_true,ZrN h,Option.bind_some,List.getD_eq_getElem?_getD,List.getElem?_eq_getElem h];rfl
 ·rw[decide_eq_false (by omega),cond_false,List.getD_eq_getElem?_getD,List.getElem?_eq_none (by omega)];rfl
theorem ZvY {l:List Nat} (h:Dg l) (i:Nat):l.getD i 0 < Bw:=by
 rw[List.getD_eq_getElem?_getD]
 by_cases hi:i < l.length
 ·rw[List.getElem?_eq_getElem hi];exact h.get hi
 ·rw[List.getElem?_eq_none (by omega)];decide
theorem Ztl (l:List Nat) (k:Nat):val (l.take (k+1))=val (l.take k)+Bw ^ k*l.getD k 0:=by
 rw[List.getD_eq_getElem?_getD]
 by_cases h:k < l.length
 ·rw[ZnZ h,List.getElem?_eq_getElem h];rfl
 ·rw[List.getElem?_eq_none (by omega),List.take_of_length_le (by omega),List.take_of_length_le (by omega)];simp
theorem Zzo (a b:Nat) (ha:(wd a).length≤100000) (hb:(wd b).length≤100000):ZpA (iL (wd a)) (iL (wd b))=some (iL (wd (a+b))):=by
 obtain⟨m,hm,hma,hmb,hm2⟩:∃m:Nat,(if ((iL (wd b)).length:Int) > ((iL (wd a)).length:Int)then ((iL (wd b)).length:Int)else ((iL (wd a)).length:Int))=(m:Int)∧(wd a).length≤m∧(wd b).length≤m∧m≤100000:=by
  rw[ZnR,ZnR]
  by_cases h:((wd b).length:Int) > ((wd a).length:Int)
  ·exact⟨(wd b).length,by rw[if_pos h],by omega,by omega,hb⟩
  ·exact⟨(wd a).length,by rw[if_neg h],by omega,by omega,ha⟩
 refine ZrO ?_;unfold ZpA;rw[hm,ZnF,ZnF,ZnD];refine⟨ZnG (by omega),decide_eq_true (by unfold ZO;omega), ?_⟩;refine Zn5 (Zr8 ZuX m (by omega) (fun i (s:Nat×List Nat)=>(iL (wd a),iL (wd b),(s.1:Int),(m:Int),i,iL s.2)) (fun i s=>s.1≤1∧s.2.length=i∧Dg s.2∧val s.2+Bw ^ i*s.1=val ((wd a).take i)+val ((wd b).take i))
  (Q:=fun y=>∃(c:Nat) (o:List Nat),y=((c:Int),iL o)∧c≤1∧Dg o∧o.length=m∧val o+Bw ^ m*c=a+b) (0,[]) ⟨by simp,rfl,ZvO,by simp[val]⟩ ?_ ?_) ?_
 ·rintro rec i ⟨c,o⟩ hlt ⟨hc,hl,hd,hv⟩ ih;dsimp only at hc hl hd hv ih;have h1:=ZvY (ZsH a) i;have h2:=ZvY (ZsH b) i;unfold Zrz Zqc;dsimp only;rw[Zob];refine⟨fun _=> ?_,fun h=>by simp only[decide_eq_false_iff_not]at h;omega⟩;rw[ZzH,ZnD,ZnC,ZzH,ZnD,ZnC,ZAI h1 h2 hc,ZnD,ZnC];dsimp only;rw[ZnF,ZnF,ZnR];refine⟨ZtS (by simp only[List.length_singleton];omega),ZnG (by omega), ?_⟩;generalize ex:(wd a).getD i 0=x at h1;generalize ey:(wd b).getD i 0=y at h2;have:=ih ((x+y+c) / Bw,o++[(x+y+c) % Bw]) ⟨?_,by simp[hl],hd.app (Zvm (Nat.mod_lt _ (by decide))), ?_⟩
  ·rw[Zwu]at this;exact this
  ·simp only[Bw]at h1 h2⊢;omega
  ·dsimp only;rw[ZsP,hl,Nat.pow_succ,Ztl,Ztl,ex,ey,Nat.add_assoc,Nat.mul_assoc,←Nat.mul_add,Nat.mod_add_div,Nat.mul_add,Nat.mul_add];omega
 ·rintro rec ⟨c,o⟩ ⟨hc,hl,hd,hv⟩;unfold Zrz Zqc;dsimp only;rw[Zob];refine⟨fun h=>by simp only[decide_eq_true_eq]at h;omega,fun _=> ?_⟩;rw[ZnC];rw[List.take_of_length_le hma,List.take_of_length_le hmb,Zqs,Zqs]at hv;exact⟨c,o,rfl,hc,hd,hl,hv⟩
 ·rintro y ⟨c,o,rfl,hc,hd,hl,hv⟩;dsimp only;unfold Zsu;rw[ZnF,ZnR];refine⟨ZtS (by simp only[List.length_singleton];omega), ?_⟩;have e:iL o++[(c:Int)]=iL (o++[c]):=by rw[Zwu];rfl
  rw[e,Zvp (hd.app (Zvm (by unfold Bw;omega))) (by simp;omega),ZnD,ZnC,ZnC,ZsP,hl,hv]
end Go.Proofs
