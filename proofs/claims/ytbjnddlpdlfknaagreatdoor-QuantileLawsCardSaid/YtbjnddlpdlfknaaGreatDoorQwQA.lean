/- The sanity check of law 23. -/
import Derived.Test.YtbjnddlpdlfknaaGreatDoorQwQL2
set_option linter.unusedVariables false
set_option linter.unusedSimpArgs false
set_option linter.unusedSectionVars false
open Option renaming bind_some→Zz9
namespace Go.Proofs
open Go Eng
def Zxd:ZnA:=⟨⟨false,[3]⟩,⟨false,[1]⟩⟩
def nil0:ZnA:=⟨⟨false,[]⟩,⟨false,[]⟩⟩
def ZwN:List ZnU:=[ZnU.mk false ([51]:Str),ZnU.mk true ([]:Str),ZnU.mk false ([120]:Str)]
theorem val0:ZtQ (ZnU.mk false ([51]:Str))=some (Zxd,true):=by kernel_rfl
theorem val1:ZtQ (ZnU.mk true ([]:Str))=some (fOf 0,false):=by unfold ZtQ;dsimp only;rw[cond_true,Zy8];rfl
theorem val2:ZtQ (ZnU.mk false ([120]:Str))=some (nil0,false):=by kernel_rfl
theorem ZBQ:ZoA [Zxd]=some [Zxd]:=by kernel_rfl
theorem Zym:ZrI (ZqF.mk ([]:Str) ZwN)=some [Zxd]:=by
 refine ZrO ?_;unfold ZrI;rw[ZnD];refine Zn5 (ZsG Zvk (fun k:Nat=>(ZwN,(3:Int),(k:Int),if k=0 then []else [Zxd])) (fun k=>k≤3) (fun k=>3 - k) (Q:=fun x=>x=[Zxd]) 0 (by omega) (by omega) ?_) ?_
 ·intro rec k hk ih;unfold Zt1 ZsA ZrH;dsimp only;have h:k=0∨k=1∨k=2∨k=3:=by omega
  rcases h with rfl |rfl |rfl |rfl
  ·rw[show decide (((0:Nat):Int) < 3)=true from rfl,cond_true,show idx ZwN ((0:Nat):Int)=some (ZnU.mk false ([51]:Str))from rfl,ZnD,ZnC,val0,ZnD,ZnC];dsimp only;rw[cond_true,ZnF,ZnF];exact⟨rfl,rfl,ih 1 (by omega) (by omega)⟩
  ·rw[show decide (((1:Nat):Int) < 3)=true from rfl,cond_true,show idx ZwN ((1:Nat):Int)=some (ZnU.mk true ([]:Str))from rfl,ZnD,ZnC,val1,ZnD,ZnC];dsimp only;rw[cond_false,ZnF];exact⟨rfl,ih 2 (by omega) (by omega)⟩
  ·rw[show decide (((2:Nat):Int) < 3)=true from rfl,cond_true,show idx ZwN ((2:Nat):Int)=some (ZnU.mk false ([120]:Str))from rfl,ZnD,ZnC,val2,ZnD,ZnC];dsimp only;rw[cond_false,ZnF];exact⟨rfl,ih 3 (by omega) (by omega)⟩
  ·rw[show decide (((3:Nat):Int) < 3)=false from rfl,cond_false,ZnC];rfl
 ·rintro x rfl;unfold Zs4;rw[ZBQ,ZnD,ZnC,ZnC]
def l4:List Rat:=[1,2,3,4]
theorem Zyt:∀q∈l4,Sz 40 q:=by intro q hq;simp only[l4,List.mem_cons,List.not_mem_nil,or_false]at hq;rcases hq with rfl |rfl |rfl |rfl<;>(unfold Sz;decide)
theorem ZBT:ZqD (l4.map fOf) 1 2=some (fOf 2,0):=ZxP (l:=l4) (p:=1) (n:=2) (by decide) (by decide) Zyt (by decide) (by decide) (by decide)
def hlf:Rat:=Rat.divInt 1 2
theorem ZB8:Zoe (([1,2]:List Rat).map fOf) (([2,3]:List Rat).map fOf)=some (fOf hlf,0):=by
 have h12:∀q∈([1,2]:List Rat),Sz 40 q:=fun q hq=>Zyt q (by
  simp only[List.mem_cons,List.not_mem_nil,or_false]at hq;rcases hq with rfl |rfl<;>simp[l4])
 have h23:∀q∈([2,3]:List Rat),Sz 40 q:=fun q hq=>Zyt q (by
  simp only[List.mem_cons,List.not_mem_nil,or_false]at hq;rcases hq with rfl |rfl<;>simp[l4])
 obtain⟨r,e,hr⟩:=ZwV h12 h23 (by decide) (by decide) (by decide) (by decide);have z0:∀{l:List Rat} {x:Rat},gR l 0≤x→∀j,0≤j→j < 1→gR l j≤x:=fun h j _ h2=>by
  have:j=0:=by omega
  rw[this];exact h
 have z1:∀{l:List Rat} {x:Rat},gR l 1≤x→∀j,1≤j→j < 2→gR l j≤x:=fun h j _ h2=>by
  have:j=1:=by omega
  rw[this];exact h
 have u1:Zmn [1,2] 0 (xOf (gR [1,2] 0) (gR [2,3] 0)) 1:=⟨by decide,by decide,z0 (by decide),fun _=>by decide⟩;have u2:Zmn [2,3] 0 (xOf (gR [1,2] 0) (gR [2,3] 0)) 0:=⟨by decide,by decide,fun j _ h2=>absurd h2 (Nat.not_lt_zero j),fun _=>by decide⟩;have u3:Zmn [1,2] 1 (xOf (gR [1,2] 1) (gR [2,3] 0)) 2:=⟨by decide,by decide,z1 (by decide),fun h=>absurd h (by decide)⟩;have u4:Zmn [2,3] 0 (xOf (gR [1,2] 1) (gR [2,3] 0)) 1:=⟨by decide,by decide,z0 (by decide),fun _=>by decide⟩;have d:DistR [1,2] [2,3] 0 0 0 2:= .go (by decide) (by decide) u1 u2 (.go (by decide) (by decide) u3 u4 (.done (by decide)));have:=hr.det d;subst this;rw[e];exact congrArg (fun q=>some (fOf q,(0:Int))) (show Rat.divInt 2 4=hlf by unfold hlf;decide)
theorem Zxl:Zoy=some true:=by have sz2:Sz 40 2:=Zyt 2 (by simp[l4]);have szh:Sz 40 hlf:=(Zxu (x:=1) (y:=2) (by decide) (by decide) (by decide)).mono (by omega);have i1:ZnI 1=some (fOf 1):=ZuP 1 (by decide) (by decide);have i2:ZnI 2=some (fOf 2):=ZuP 2 (by decide) (by decide);have i3:ZnI 3=some (fOf 3):=ZuP 3 (by decide) (by decide);have i4:ZnI 4=some (fOf 4):=ZuP 4 (by decide) (by decide);have ih:Zoq 1 2=some (fOf hlf):=Zwp 1 2 (by decide) (by decide) (by decide) (by decide) (by decide);have r4:ZqD [fOf 1,fOf 2,fOf 3,fOf 4] 1 2=some (fOf 2,0):=ZBT;have d4:Zoe (([fOf 1,fOf 2,fOf 3,fOf 4].drop 0).take (((2:Int)).toNat - 0)) (([fOf 1,fOf 2,fOf 3,fOf 4].drop (((1:Int)).toNat)).take (((3:Int)).toNat - ((1:Int)).toNat))=some (fOf hlf,0):=ZB8;have n3:=Zym;unfold ZwN at n3;unfold Zoy Zod;rw[i1,Zz9,i2,Zz9,i3,Zz9,i4,Zz9,r4,Zz9];dsimp only;rw[d4,Zz9,Zz9];dsimp only;rw[show ((0:Int) == 0)=true from rfl,cond_true,cond_true,Zv2 _ _ (sz2.wq (by omega)) (sz2.wq (by omega)),Zz9,decide_eq_true rfl,cond_true,ih,Zz9,Zv2 _ _ (szh.wq (by omega)) (szh.wq (by omega)),Zz9,decide_eq_true rfl,cond_true,n3,Zz9];rfl
end Go.Proofs
