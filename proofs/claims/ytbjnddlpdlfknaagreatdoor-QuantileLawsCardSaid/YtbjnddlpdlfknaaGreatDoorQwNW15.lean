/- The second implementation: comparison, doubling. -/
import Derived.Test.YtbjnddlpdlfknaaGreatDoorQwNW14
set_option linter.unusedVariables false
set_option linter.unusedSimpArgs false
set_option linter.unusedSectionVars false
namespace Go.Proofs
open Go Eng
theorem Zwz (a b:Nat) (ha:(wd a).length≤100000) (hb:(wd b).length≤100000):Zn3 (iL (wd a)) (iL (wd b))=some (ZwI a b):=by
 refine ZrO ?_;unfold Zn3;rw[ZnR,ZnR,Zob];refine⟨fun h=> ?_,fun h=> ?_⟩
 ·have hne:(wd a).length≠(wd b).length:=fun e=>by rw[e]at h;simp at h
  rw[Zob];refine⟨fun h=> ?_,fun h=> ?_⟩
  ·have h1:(wd a).length < (wd b).length:=by have:=of_decide_eq_true h;omega
   rw[ZnC,Zue (ZwJ h1)]
  ·have h1:(wd b).length < (wd a).length:=by have:=of_decide_eq_false h;omega
   rw[ZnC,Zt5 (ZwJ h1)]
 ·have hl:(wd a).length=(wd b).length:=by simp only[bne_eq_false_iff_eq]at h;omega
  rw[ZnF,ZnD];refine⟨ZnG (by omega), ?_⟩;refine Zn5 (Zv8 ZuI (wd a).length (by omega) (fun i (s:Unit)=>(iL (wd a),iL (wd b),i)) (fun k _=>(wd a).drop k=(wd b).drop k)
   (Q:=fun r=>r= .ret (ZwI a b)∨r= .brk ()∧a=b) () (by rw[List.drop_length,hl,List.drop_length]) ?_ ?_) ?_
  ·rintro rec k ⟨⟩ hk hP ih;have hk2:k < (wd b).length:=by omega
   unfold Zrc ZpP;dsimp only;rw[Zob];refine⟨fun _=> ?_,fun h=>by have:=of_decide_eq_false h;omega⟩;have ha:=ZuT hk;have hb:=ZuT hk2;rw[Zqs]at ha hb;have la:val ((wd a).take k) < Bw ^ k:=by have:=Ztr ((ZsH a).take k);rwa [List.length_take,Nat.min_eq_left (by omega)]at this
   have lb:val ((wd b).take k) < Bw ^ k:=by have:=Ztr ((ZsH b).take k);rwa [List.length_take,Nat.min_eq_left (by omega)]at this
   rw[ZrN hk,ZnD,ZnC,ZrN hk2,ZnD,ZnC,Zob];refine⟨fun hc=> ?_,fun hc=> ?_⟩
   ·have h1:(wd a)[k] < (wd b)[k]:=by have:=of_decide_eq_true hc;omega
    have:a < b:=by rw[ha,hb,hP];exact ZwQ (A:=0) (B:=0) la (by omega)
    rw[ZnC];exact .inl (by rw[Zue this])
   ·rw[ZnD,ZnC,ZnD,ZnC,Zob];refine⟨fun hc2=> ?_,fun hc2=> ?_⟩
    ·have h1:(wd b)[k] < (wd a)[k]:=by have:=of_decide_eq_true hc2;omega
     have:b < a:=by rw[ha,hb,hP];exact ZwQ (A:=0) (B:=0) lb (by omega)
     rw[ZnC];exact .inl (by rw[Zt5 this])
    ·rw[ZnF];refine⟨ZnG (by omega),ih () ?_⟩;have h1:(wd a)[k]=(wd b)[k]:=by have q1:=of_decide_eq_false hc;have q2:=of_decide_eq_false hc2;omega
     rw[←List.getElem_cons_drop (h:=hk),←List.getElem_cons_drop (h:=hk2),h1,hP]
  ·rintro rec ⟨⟩ hP;unfold Zrc ZpP;dsimp only;rw[Zob];refine⟨fun h=>by have:=of_decide_eq_true h;omega,fun _=> ?_⟩;rw[ZnC];rw[List.drop_zero,List.drop_zero]at hP;exact .inr ⟨rfl,by rw[←Zqs a,←Zqs b,hP]⟩
  ·rintro r (rfl |⟨rfl,rfl⟩)
   ·exact ZnC.2 rfl
   ·unfold ZrZ;exact ZnC.2 (Ztj a).symm
theorem Zxf {a:Nat} (k:Nat) (hk:k≤32):shlK .u32 (a:Int) (k:Int)=((a*2 ^ k % 4294967296:Nat):Int):=by
 unfold shlK;rw[Int.toNat_natCast,show IntKind.bits .u32=32 from rfl,Nat.min_eq_left (by omega)];have e:(a:Int)*(2:Int) ^ k=((a*2 ^ k:Nat):Int):=by push_cast;rfl
 rw[e,Zsh]
theorem Zxr (a d:Nat) (hd:d≤1) (ha:(wd a).length≤100000):ZoO (iL (wd a)) (d:Int)=some (iL (wd (2*a+d))):=by
 refine ZrO ?_;unfold ZoO;rw[ZnD];refine Zn5 (Zr8 Zui (wd a).length (by omega) (fun i (s:Nat×List Nat)=>(iL (wd a),(s.1:Int),i,iL s.2)) (fun i s=>s.1≤1∧s.2.length=i∧Dg s.2∧val s.2+Bw ^ i*s.1=2*val ((wd a).take i)+d)
  (Q:=fun y=>∃(c:Nat) (o:List Nat),y=((c:Int),iL o)∧c≤1∧Dg o∧o.length=(wd a).length∧val o+Bw ^ (wd a).length*c=2*a+d) (d,[]) ⟨hd,rfl,ZvO,by simp[val]⟩ ?_ ?_) ?_
 ·rintro rec i ⟨c,o⟩ hi ⟨hc,hl,hod,hv⟩ ih;dsimp only at hc hl hod hv ih;have h1:=(ZsH a).get hi;unfold ZqL Zpq;dsimp only;rw[Zob,ZnR];refine⟨fun _=> ?_,fun h=>by have:=of_decide_eq_false h;omega⟩;rw[ZrN hi,ZnD,ZnC];generalize ex:(wd a)[i]=x at h1;have eor:orK .u32 (shlK .u32 (x:Int) 1) (c:Int)=((c+x*2 ^ 1 % Bw:Nat):Int):=by rw[show (1:Int)=((1:Nat):Int)from rfl,Zxf 1 (by omega),Zw3 (Nat.mod_lt _ (by decide)) (by omega),Nat.or_comm];congr 1;exact ZwT (by decide) (by omega) h1
  have esh:shrK .u32 (x:Int) 31=((x / 2 ^ 31:Nat):Int):=ZvW 31 (by omega);rw[eor,Option.bind_some,esh,ZnF,ZnF,ZnF,ZnF,ZnR];have hx:c+x*2 ^ 1 % Bw < Bw:=by simp only[Bw]at h1⊢;omega
  refine⟨by decide,ZtS (by simp only[List.length_singleton];omega),by decide,ZnG (by omega), ?_⟩;have:=ih (x / 2 ^ 31,o++[c+x*2 ^ 1 % Bw]) ⟨by simp only[Bw]at h1;dsimp only;omega,by simp[hl],hod.app (Zvm hx), ?_⟩
  ·rw[Zwu]at this;exact this
  ·dsimp only;have q:c+x*2 ^ 1 % Bw+Bw*(x / 2 ^ 31)=c+2*x:=by simp only[Bw]at h1⊢;omega
   have q2:Bw ^ i*(c+x*2 ^ 1 % Bw+Bw*(x / 2 ^ 31))=Bw ^ i*(c+2*x):=by rw[q]
   have q3:Bw ^ i*(2*x)=2*(Bw ^ i*x):=Nat.mul_left_comm _ _ _;rw[Nat.mul_add,Nat.mul_add (Bw ^ i) c (2*x),q3]at q2;rw[ZsP,hl,ZnZ hi,ex];generalize c+x*2 ^ 1 % Bw=dg at*
   generalize x / 2 ^ 31=cy at*
   rw[Nat.pow_succ,Nat.mul_assoc];omega
 ·rintro rec ⟨c,o⟩ ⟨hc,hl,hod,hv⟩;dsimp only at hc hl hod hv;unfold ZqL Zpq;dsimp only;rw[Zob,ZnR];refine⟨fun h=>by have:=of_decide_eq_true h;omega,fun _=> ?_⟩;rw[ZnC];rw[List.take_length,Zqs]at hv;exact⟨c,o,rfl,hc,hod,hl,hv⟩
 ·rintro y ⟨c,o,rfl,hc,hod,hl,hv⟩;dsimp only;unfold Zq5;have e:iL o++[(c:Int)]=iL (o++[c]):=by rw[Zwu];rfl
  rw[ZnF,ZnR,e,ZvS (hod.app (Zvm (by simp only[Bw];omega))) (by simp;omega),ZnD,ZnC,ZnC,ZsP,hl,hv];exact⟨ZtS (by simp only[List.length_singleton];omega),rfl⟩
end Go.Proofs
