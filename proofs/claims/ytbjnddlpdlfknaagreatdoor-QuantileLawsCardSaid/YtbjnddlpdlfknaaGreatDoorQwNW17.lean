/- The second implementation: halving. -/
import Derived.Test.YtbjnddlpdlfknaaGreatDoorQwNW16
set_option linter.unusedVariables false
set_option linter.unusedSimpArgs false
set_option linter.unusedSectionVars false
namespace Go.Proofs
open Go Eng
theorem Zwk (a:Nat) (ha:(wd a).length≤100000):Zos (iL (wd a))=some (iL (wd (a / 2))):=by
 refine ZrO ?_;unfold Zos;rw[List.nil_append,ZnF,ZnD,ZnR];refine⟨ZtS (by rw[List.length_nil];omega), ?_⟩;refine Zn5 (Zr8 Zuu (wd a).length (by omega) (fun i (o:List Nat)=>(iL (wd a),((wd a).length:Int),i,iL (o++(wd a).drop o.length))) (fun i o=>o.length=i∧Dg o∧val o*2+(wd a).getD 0 0 % 2=val ((wd a).take i)+Bw ^ i*((wd a).getD i 0 % 2))
  (Q:=fun y=>∃(o:List Nat),y=iL o∧Dg o∧o.length=(wd a).length∧val o=a / 2) [] ⟨rfl,ZvO,by simp[val]⟩ ?_ ?_) ?_
 ·rintro rec i o hi ⟨hol,hod,hov⟩ ih;have h1:=(ZsH a).get hi;have hyB:=ZvY (ZsH a) (i+1);have hlen:(o++(wd a).drop o.length).length=(wd a).length:=by simp;omega
  have gx:(iL (o++(wd a).drop o.length))[i]? =some ((wd a)[i]:Int):=by rw[ZvM (by omega)];congr 2;rw[List.getElem_append_right (by omega)];simp[hol]
  have fin:∀z:Nat,z=(wd a)[i] / 2+(wd a).getD (i+1) 0*2 ^ 31 % Bw→wp (Zo1 (fun a t9 i out=>rec (a,t9,i,out)) (iL (wd a)) ((wd a).length:Int) (i:Int) (iL ((o++(wd a).drop o.length).set i z))) (fun y=>∃(o:List Nat),y=iL o∧Dg o∧o.length=(wd a).length∧val o=a / 2):=fun z hz=>by
   unfold Zo1;have es:(o++(wd a).drop o.length).set i z=(o++[z])++(wd a).drop (o++[z]).length:=by rw[List.set_append_right _ _ (by omega),hol,Nat.sub_self,←List.getElem_cons_drop (h:=hi),List.set_cons_zero];simp[hol]
   have eg:(wd a).getD i 0=(wd a)[i]:=by rw[List.getD_eq_getElem?_getD,List.getElem?_eq_getElem hi];rfl
   rw[eg]at hov;rw[ZnF,es];generalize ex:(wd a)[i]=x at*
   generalize ey:(wd a).getD (i+1) 0=y at*
   have hzB:z < Bw:=by simp only[Bw]at h1 hz⊢;omega
   refine⟨ZnG (by omega),ih (o++[z]) ⟨by simp[hol],hod.app (Zvm hzB), ?_⟩⟩;have hd1:z*2+x % 2=x+Bw*(y % 2):=by simp only[Bw]at h1 hz⊢;omega
   have q1:Bw ^ i*(z*2+x % 2)=Bw ^ i*(x+Bw*(y % 2)):=by rw[hd1]
   rw[Nat.mul_add,Nat.mul_add]at q1;rw[ZsP,hol,ZnZ hi,ex,Nat.pow_succ,Nat.add_mul,Nat.mul_assoc,Nat.mul_assoc];omega
  unfold ZqT ZpD;dsimp only;rw[Zob];refine⟨fun _=> ?_,fun h=>by have:=of_decide_eq_false h;omega⟩;have esh:shrK .u32 ((wd a)[i]:Int) 1=(((wd a)[i] / 2:Nat):Int):=ZvW 1 (by omega);rw[Int.toNat_natCast,gx,ZnF,ZnD,ZnC,ZnF,ZnF,ZnF,esh,Zvb,ZnR,ZnR,hlen,Zob];refine⟨ZqJ ⟨by omega,by omega⟩,by decide,ZqJ ⟨by omega,by omega⟩,ZnG (by omega),fun h=> ?_,fun h=> ?_⟩
  ·have hi2:i+1 < (wd a).length:=by have:=of_decide_eq_true h;omega
   have gz:(iL ((o++(wd a).drop o.length).set i ((wd a)[i] / 2)))[i]? =some (((wd a)[i] / 2:Nat):Int):=by rw[ZvM (by rw[List.length_set];omega),List.getElem_set_self]
   have e1:(i:Int)+1=((i+1:Nat):Int):=rfl;have eg:(wd a).getD (i+1) 0=(wd a)[i+1]:=by rw[List.getD_eq_getElem?_getD,List.getElem?_eq_getElem hi2];rfl
   have eor:orK .u32 (((wd a)[i] / 2:Nat):Int) (shlK .u32 ((wd a)[i+1]:Int) 31)=(((wd a)[i] / 2+(wd a).getD (i+1) 0*2 ^ 31 % Bw:Nat):Int):=by rw[eg,show (31:Int)=((31:Nat):Int)from rfl,Zxf 31 (by omega),Zw3 (by simp only[Bw]at h1;omega) (Nat.mod_lt _ (by decide))];congr 1;exact ZwT (by decide) (by simp only[Bw]at h1;omega) ((ZsH a).get hi2)
   rw[e1,ZrN hi2,gz,ZnF,ZnD,ZnC,ZnF,ZnD,ZnC,ZnF,ZnF,eor,ZnR,List.length_set,hlen,Zvb,List.set_set];exact⟨ZqJ ⟨by omega,by omega⟩,ZnG (by omega),by decide,ZqJ ⟨by omega,by omega⟩,fin _ rfl⟩
  ·have hi2:¬i+1 < (wd a).length:=by have:=of_decide_eq_false h;omega
   refine fin _ ?_;rw[List.getD_eq_getElem?_getD,List.getElem?_eq_none (by omega)];simp
 ·rintro rec o ⟨hol,hod,hov⟩;unfold ZqT ZpD;dsimp only;rw[Zob];refine⟨fun h=>by have:=of_decide_eq_true h;omega,fun _=> ?_⟩;rw[ZnC];have eg:(wd a).getD (wd a).length 0=0:=by rw[List.getD_eq_getElem?_getD,List.getElem?_eq_none (by omega)];rfl
  rw[eg,Nat.zero_mod,Nat.mul_zero,Nat.add_zero,List.take_length,Zqs]at hov;refine⟨o,by rw[hol,List.drop_length,List.append_nil],hod,hol, ?_⟩;omega
 ·rintro y ⟨o,rfl,hd,hl,hv⟩;unfold Zrw;rw[ZvS hd (by omega),ZnD,ZnC,ZnC,hv]
end Go.Proofs
