/- The second implementation: difference. -/
import Derived.Test.YtbjnddlpdlfknaaGreatDoorQwNW15
set_option linter.unusedVariables false
set_option linter.unusedSimpArgs false
set_option linter.unusedSectionVars false
namespace Go.Proofs
open Go Eng
theorem Zzg (t:Int):shrK .i64 t 32=t / 4294967296:=by unfold shrK;rw[show min (32:Int).toNat (IntKind.bits .i64)=32 from by decide,Int.fdiv_eq_ediv_of_nonneg _ (by decide)];rfl
theorem Zwo (a b:Nat) (hab:b≤a) (ha:(wd a).length≤100000):Zou (iL (wd a)) (iL (wd b))=some (iL (wd (a - b))):=by
 have hlb:(wd b).length≤(wd a).length:=Zru hab;refine ZrO ?_;unfold Zou;rw[ZnD];refine Zn5 (Zr8 ZuE (wd a).length (by omega) (fun i (s:Nat×List Nat)=>(iL (wd a),iL (wd b), -(s.1:Int),i,iL s.2)) (fun i s=>s.1≤1∧s.2.length=i∧Dg s.2∧val ((wd a).take i)+Bw ^ i*s.1=val s.2+val ((wd b).take i))
  (Q:=fun y=>∃(o:List Nat),y=iL o∧Dg o∧o.length=(wd a).length∧val o=a - b) (0,[]) ⟨by simp,rfl,ZvO,by simp[val]⟩ ?_ ?_) ?_
 ·rintro rec i ⟨c,o⟩ hi ⟨hc,hl,hd,hv⟩ ih;dsimp only at hc hl hd hv ih;have h1:=(ZsH a).get hi;have h2:=ZvY (ZsH b) i;have ey0:(wd b).getD i 0=(if i < (wd b).length then (wd b).getD i 0 else 0):=by
   by_cases h:i < (wd b).length
   ·rw[if_pos h]
   ·rw[if_neg h,List.getD_eq_getElem?_getD,List.getElem?_eq_none (by omega)];rfl
  have fin:∀y:Nat,(wd b).getD i 0=y→wp (Zpc (fun a b c i out=>rec (a,b,c,i,out)) (iL (wd a)) (iL (wd b)) (-(c:Int)+((wd a)[i]:Int) - (y:Int)) (i:Int) (iL o)) (fun y=>∃(o:List Nat),y=iL o∧Dg o∧o.length=(wd a).length∧val o=a - b):=fun y ey=>by
   rw[ey]at h2;generalize ex:(wd a)[i]=x at h1;have ew:IntKind.wrap .u32 (-(c:Int)+(x:Int) - (y:Int))=(((x+4294967296 - y - c) % 4294967296:Nat):Int):=by simp only[Bw]at h1 h2;rw[IntKind.wrap_u32];omega
   have es:shrK .i64 (-(c:Int)+(x:Int) - (y:Int)) 32= -(((if x < y+c then 1 else 0):Nat):Int):=by simp only[Bw]at h1 h2;rw[Zzg];split<;>omega
   unfold Zpc;rw[ew,es,ZnF,ZnF,ZnF,ZnR];refine⟨ZtS (by simp only[List.length_singleton];omega),by decide,ZnG (by omega), ?_⟩;have:=ih ((if x < y+c then 1 else 0),o++[(x+4294967296 - y - c) % 4294967296]) ⟨by dsimp only;split<;>omega,by simp[hl],hd.app (Zvm (Nat.mod_lt _ (by decide))), ?_⟩
   ·rw[Zwu]at this;exact this
   ·dsimp only;rw[ZsP,hl,Nat.pow_succ,ZnZ hi,Ztl,ex,ey,Nat.mul_assoc];have e:x+Bw*(if x < y+c then 1 else 0)=(x+4294967296 - y - c) % 4294967296+y+c:=by simp only[Bw]at h1 h2⊢;split<;>omega
    have e2:Bw ^ i*(x+Bw*(if x < y+c then 1 else 0))=Bw ^ i*((x+4294967296 - y - c) % 4294967296+y+c):=by rw[e]
    rw[Nat.mul_add,Nat.mul_add,Nat.mul_add]at e2;omega
  unfold Zq6 ZpL;dsimp only;rw[Zob,ZnR,ZnR];refine⟨fun _=> ?_,fun h=>by have:=of_decide_eq_false h;omega⟩;have wx:IntKind.wrap .i64 ((wd a)[i]:Int)=((wd a)[i]:Int):=wrap_i64 (by simp only[Bw]at h1;omega);rw[ZrN hi,ZnD,ZnC,wx,ZnF,Zob];refine⟨ZnG (by simp only[Bw]at h1;omega),fun h=> ?_,fun h=> ?_⟩
  ·have hib:i < (wd b).length:=by have:=of_decide_eq_true h;omega
   have hy:=(ZsH b).get hib;have wy:IntKind.wrap .i64 ((wd b)[i]:Int)=((wd b)[i]:Int):=wrap_i64 (by simp only[Bw]at hy;omega);rw[ZrN hib,ZnD,ZnC,wy,ZnF];refine⟨ZnG (by simp only[Bw]at h1 hy;omega),fin _ ?_⟩;rw[List.getD_eq_getElem?_getD,List.getElem?_eq_getElem hib];rfl
  ·have hib:¬i < (wd b).length:=by have:=of_decide_eq_false h;omega
   have:=fin 0 (by rw[ey0,if_neg hib]);rw[Int.natCast_zero,Int.sub_zero]at this;exact this
 ·rintro rec ⟨c,o⟩ ⟨hc,hl,hd,hv⟩;unfold Zq6 ZpL;dsimp only at hc hl hd hv⊢
  rw[Zob,ZnR];refine⟨fun h=>by have:=of_decide_eq_true h;omega,fun _=> ?_⟩;rw[ZnC];rw[List.take_length,List.take_of_length_le (by omega),Zqs,Zqs]at hv;have:=Ztr hd;rw[hl]at this;have hc0:c=0:=by
   rcases Nat.eq_zero_or_pos c with h |h
   ·exact h
   ·have:c=1:=by omega
    rw[this,Nat.mul_one]at hv;omega
  rw[hc0,Nat.mul_zero]at hv;exact⟨o,rfl,hd,hl,by omega⟩
 ·rintro y ⟨o,rfl,hd,hl,hv⟩;unfold ZrQ;rw[ZvS hd (by omega),ZnD,ZnC,ZnC,hv]
end Go.Proofs
