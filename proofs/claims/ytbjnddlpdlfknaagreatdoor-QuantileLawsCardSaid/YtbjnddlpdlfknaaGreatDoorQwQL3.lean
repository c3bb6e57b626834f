/- quantile.Counts between three bounds. -/
import Derived.Test.YtbjnddlpdlfknaaGreatDoorQwQL2
set_option linter.unusedVariables false
set_option linter.unusedSimpArgs false
set_option linter.unusedSectionVars false
open List renaming length_map→ZCj, getElem_mem→ZCi, getElem_map→Zz9
namespace Go.Proofs
open Go Eng
theorem ZBZ:((List.range 7).all fun s=>decide (IntKind.wrap .i64 (shrK .u64 (IntKind.wrap .u64 (s:Int)) 1)=((s / 2:Nat):Int)))=true:=by kernel_rfl
theorem Zzx {i j:Nat} (h:i+j≤6):IntKind.wrap .i64 (shrK .u64 (IntKind.wrap .u64 ((i:Int)+(j:Int))) 1)=(((i+j) / 2:Nat):Int):=by have:=of_decide_eq_true (List.all_eq_true.1 ZBZ (i+j) (List.mem_range.2 (by omega)));rw[show (i:Int)+(j:Int)=((i+j:Nat):Int) by omega];exact this
theorem ZxO {bs:List Rat} (hb:∀q∈bs,Sz 40 q) (h3:bs.length=3) {x:Rat} (hx:Sz 40 x):
  wp (ZnJ (bs.map fOf) (fOf x)) (fun r=>∃k:Nat,r.1=(k:Int)∧k≤3∧(r.2=true→k < 3)):=by
 unfold ZnJ;rw[ZCj,ZnD];refine Zn5 (ZsG Zo4 (fun s:Nat×Nat=>(bs.map fOf,(bs.length:Int),(s.1:Int),(s.2:Int),fOf x)) (fun s=>s.1≤s.2∧s.2≤3) (fun s=>s.2 - s.1)
  (Q:=fun r=>∃k:Nat,r=(bs.map fOf,(bs.length:Int),(k:Int),fOf x)∧k≤3) (0,bs.length) ⟨Nat.zero_le _,by omega⟩ (by dsimp only;omega) ?_) ?_
 ·rintro rec ⟨i,j⟩ ⟨h1,h2⟩ ih;dsimp only at h1 h2 ih;unfold Zoa ZnQ;dsimp only
  by_cases hij:i < j
  ·have hlt:(i+j) / 2 < bs.length:=by omega
   have hq:bs[(i+j) / 2]∈bs:=ZCi hlt;rw[decide_eq_true (show (i:Int) < (j:Int) by omega),cond_true,Zzx (by omega),ZnF,ZnF,Zu4 (by rw[ZCj];exact hlt),ZnD,ZnC,Zz9,Zw6 ((hb _ hq).wq (by omega)) (hx.wq (by omega)),ZnD,ZnC];refine⟨ZnG (by omega),rfl, ?_⟩
   by_cases hc:Zxg bs[(i+j) / 2] x < 0
   ·rw[decide_eq_true hc,cond_true,ZnF];exact⟨ZnG (by omega),ih ((i+j) / 2+1,j) ⟨by dsimp only;omega,h2⟩ (by dsimp only;omega)⟩
   ·rw[decide_eq_false hc,cond_false];exact ih (i,(i+j) / 2) ⟨by dsimp only;omega,by dsimp only;omega⟩ (by dsimp only;omega)
  ·rw[decide_eq_false (show ¬(i:Int) < (j:Int) by omega),cond_false,ZnC];exact⟨i,rfl,by omega⟩
 ·rintro _ ⟨k,rfl,hk⟩;unfold ZnS ZnL;dsimp only
  by_cases h:k < bs.length
  ·have hq:bs[k]∈bs:=ZCi h;rw[decide_eq_true (show (k:Int) < (bs.length:Int) by omega),cond_true,Zu4 (by rw[ZCj];exact h),ZnD,ZnC,Zz9,Zw6 ((hb _ hq).wq (by omega)) (hx.wq (by omega)),ZnD,ZnC,ZnC];exact⟨k,rfl,hk,fun _=>by omega⟩
  ·rw[decide_eq_false (show ¬(k:Int) < (bs.length:Int) by omega),cond_false,ZnC];exact⟨k,rfl,hk,fun h=>by cases h⟩
def bds:List Rat:=[0,2,5]
theorem ZyK:∀q∈bds,Sz 40 q:=by intro q hq;simp only[bds,List.mem_cons,List.not_mem_nil,or_false]at hq;rcases hq with rfl |rfl |rfl<;>(unfold Sz;decide)
theorem ZBN (l:List ZnA) {bs:List Rat} (hb:∀q∈bs,Sz 40 q) (hn:bs.length≤1000) (hup:∀i,1≤i→i < bs.length→gR bs (i - 1) < gR bs i) (h0:1≤bs.length):wp (Zp5 big l (bs.map fOf) 1) (fun x=>x= .brk (l,bs.map fOf)):=by
 refine ZsG Zvt (fun i:Nat=>(l,bs.map fOf,(i:Int))) (fun i=>1≤i∧i≤bs.length) (fun i=>bs.length - i) (Q:=fun x=>x= .brk (l,bs.map fOf)) 1 ⟨by omega,h0⟩ (by omega) ?_;rintro rec i ⟨h1,h2⟩ ih;unfold Zub ZsO;dsimp only
 by_cases hi:i < bs.length
 ·have q1:bs[i - 1]∈bs:=ZCi (by omega);have q2:bs[i]∈bs:=ZCi (by omega);have hlt:Zxg bs[i - 1] bs[i] < 0:=by rw[ZwR];have:=hup i h1 hi;rw[Zvc hi,Zvc (by omega)]at this;exact this
  rw[decide_eq_true (show (i:Int) < ((bs.map fOf).length:Int) by rw[ZCj];omega),cond_true,ZnF,show (i:Int) - 1=((i - 1:Nat):Int) by omega];refine⟨ZnG (by omega), ?_⟩;rw[Zu4 (by rw[ZCj];omega),ZnD,ZnC,Zu4 (by rw[ZCj];omega),ZnD,ZnC,Zz9,Zz9,
   Zw6 ((hb _ q1).wq (by omega)) ((hb _ q2).wq (by omega)),ZnD,ZnC,decide_eq_false (show ¬Zxg bs[i - 1] bs[i]≥0 by omega),cond_false,ZnF]
  exact⟨ZnG (by omega),ih (i+1) ⟨by omega,by omega⟩ (by omega)⟩
 ·rw[decide_eq_false (show ¬(i:Int) < ((bs.map fOf).length:Int) by rw[ZCj];omega),cond_false,ZnC]
theorem ZAH (l:List ZnA):wp (Zp5 big l (bds.map fOf) 1) (fun x=>x= .brk (l,bds.map fOf)):=ZBN l ZyK (by decide) (fun i h1 h2=>by
 have h2:i < 3:=h2;have:i=1∨i=2:=by omega
 rcases this with rfl |rfl<;>decide) (by decide)
theorem Zx2 {l:List Rat} (hl:∀q∈l,Sz 40 q) (hn:l.length≤1000):
  wp (Zsp (l.map fOf) (bds.map fOf)) (fun r=>∃a b c d:Nat,r=([(a:Int),(b:Int),(c:Int),(d:Int)],0)∧a+b+c+d=l.length):=by
 unfold Zsp;rw[show (decide (((bds.map fOf).length:Int) > 64))=false from rfl,cond_false,ZnD];refine Zn5 (ZAH _) ?_;rintro _ rfl;dsimp only;unfold ZtC;rw[ZnF,ZnF,ZnD,show List.replicate ((((bds.map fOf).length:Int)+1)).toNat (0:Int)=[((0:Nat):Int),((0:Nat):Int),((0:Nat):Int),((0:Nat):Int)]from rfl];refine⟨rfl,Zva (n:=4) (by omega), ?_⟩;refine Zn5 (Zxk Zvs (l.map fOf) (by rw[ZCj];omega) (fun i (t:Nat×Nat×Nat×Nat)=>(bds.map fOf,l.map fOf,((l.map fOf).length:Int),i,[(t.1:Int),(t.2.1:Int),(t.2.2.1:Int),(t.2.2.2:Int)]))
  (fun k t=>t.1+t.2.1+t.2.2.1+t.2.2.2=k) (Q:=fun x=>∃a b c d:Nat,x=[(a:Int),(b:Int),(c:Int),(d:Int)]∧a+b+c+d=l.length) (0,0,0,0) rfl ?_ ?_) ?_
 ·rintro rec k ⟨a,b,c,d⟩ h hP ih;dsimp only at hP ih;rw[ZCj]at h;have hq:l[k]∈l:=ZCi h;have j2:∀m:Nat,m≤3→wp (ZqR (fun bounds t36 t37 t38 out=>rec (bounds,t36,t37,t38,out)) (bds.map fOf) (m:Int) (l.map fOf) ((l.map fOf).length:Int) (k:Int) [(a:Int),(b:Int),(c:Int),(d:Int)]) (fun x=>∃a b c d:Nat,x=[(a:Int),(b:Int),(c:Int),(d:Int)]∧a+b+c+d=l.length):=by
   intro m hm;unfold ZqR;have hm':m=0∨m=1∨m=2∨m=3:=by omega
   rcases hm' with rfl |rfl |rfl |rfl
   ·rw[ZnF,ZnD,show ([(a:Int),(b:Int),(c:Int),(d:Int)])[(((0:Nat):Int)).toNat]? =some (a:Int)from rfl,ZnC,ZnF,ZnF,ZnF];exact⟨rfl,ZnG (by omega),rfl,ZnG (by omega),ih (a+1,b,c,d) (by dsimp only;omega)⟩
   ·rw[ZnF,ZnD,show ([(a:Int),(b:Int),(c:Int),(d:Int)])[(((1:Nat):Int)).toNat]? =some (b:Int)from rfl,ZnC,ZnF,ZnF,ZnF];exact⟨rfl,ZnG (by omega),rfl,ZnG (by omega),ih (a,b+1,c,d) (by dsimp only;omega)⟩
   ·rw[ZnF,ZnD,show ([(a:Int),(b:Int),(c:Int),(d:Int)])[(((2:Nat):Int)).toNat]? =some (c:Int)from rfl,ZnC,ZnF,ZnF,ZnF];exact⟨rfl,ZnG (by omega),rfl,ZnG (by omega),ih (a,b,c+1,d) (by dsimp only;omega)⟩
   ·rw[ZnF,ZnD,show ([(a:Int),(b:Int),(c:Int),(d:Int)])[(((3:Nat):Int)).toNat]? =some (d:Int)from rfl,ZnC,ZnF,ZnF,ZnF];exact⟨rfl,ZnG (by omega),rfl,ZnG (by omega),ih (a,b,c,d+1) (by dsimp only;omega)⟩
  unfold ZsN Zrq;dsimp only;rw[decide_eq_true (show (k:Int) < ((l.map fOf).length:Int) by rw[ZCj];omega),cond_true,Zu4 (by rw[ZCj];exact h),ZnD,ZnC,Zz9,ZnD];refine Zn5 (ZxO ZyK rfl (hl _ hq)) ?_;rintro⟨k',ok⟩ ⟨m,hk',hm,hok⟩;dsimp only at hk' hok⊢
  subst hk';cases ok with
  |true=>
   rw[cond_true,ZnF];exact⟨ZnG (by omega),j2 (m+1) (by have:=hok rfl;omega)⟩
  |false=>
   rw[cond_false];exact j2 m hm
 ·rintro rec ⟨a,b,c,d⟩ hP;unfold ZsN Zrq;dsimp only at hP⊢
  rw[decide_eq_false (show ¬((l.map fOf).length:Int) < ((l.map fOf).length:Int) by omega),cond_false,ZnC];exact⟨a,b,c,d,rfl,by rw[ZCj]at hP;exact hP⟩
 ·rintro _ ⟨a,b,c,d,rfl,h⟩;unfold ZtB;rw[ZnC];exact⟨a,b,c,d,rfl,h⟩
end Go.Proofs
