/- The second implementation: fractions of integers; equality. -/
import Derived.Test.YtbjnddlpdlfknaaGreatDoorQwNW25
import Derived.Test.YtbjnddlpdlfknaaGreatDoorQwNX0
set_option linter.unusedVariables false
set_option linter.unusedSimpArgs false
set_option linter.unusedSectionVars false
namespace Go.Proofs
open Go Eng
theorem ZvZ (z:Int) (h1: -9223372036854775808≤z) (h2:z≤9223372036854775807):Zol z=some (bg z):=by
 have key:∀(b:Bool) (n:Nat),n < 18446744073709551616→ZnO b [IntKind.wrap .u32 (n:Int),IntKind.wrap .u32 (shrK .u64 (n:Int) 32)]=some (bg (if b then -(n:Int)else n)):=fun b n h=>by
  have e:([IntKind.wrap .u32 (n:Int),IntKind.wrap .u32 (shrK .u64 (n:Int) 32)]:List Int)=iL [n % 4294967296,n / 4294967296]:=by rw[show (32:Int)=((32:Nat):Int)from rfl,Zvq 32 (by omega),Zsh,ZsF (by omega)];rfl
  have hd:Dg [n % 4294967296,n / 4294967296]:=fun d hd=>by
   simp only[List.mem_cons,List.mem_singleton,List.not_mem_nil,or_false]at hd;rcases hd with rfl |rfl
   ·exact Nat.mod_lt _ (by decide)
   ·simp only[Bw];omega
  have hv:val [n % 4294967296,n / 4294967296]=n:=by simp only[val,Nat.mul_zero,Nat.add_zero];exact Nat.mod_add_div n Bw
  rw[e,ZvR b hd (by simp),hv]
 unfold Zol Zpr;have h32:decide (0≤(32:Int))=true:=rfl
 by_cases hz:z < 0
 ·have e:IntKind.wrap .u64 (0 - IntKind.wrap .u64 z)=((z.natAbs:Nat):Int):=by rw[IntKind.wrap_u64,IntKind.wrap_u64];omega
  rw[decide_eq_true hz,cond_true,h32,chk_true,e,key true _ (by omega),Option.bind_some,if_pos rfl,show -((z.natAbs:Nat):Int)=z by omega]
 ·have e:IntKind.wrap .u64 z=((z.natAbs:Nat):Int):=by rw[IntKind.wrap_u64];omega
  rw[decide_eq_false hz,cond_false,h32,chk_true,e,key false _ (by omega),Option.bind_some,if_neg (by decide),show ((z.natAbs:Nat):Int)=z by omega]
theorem ZzF:bg 0=⟨false,[]⟩:=by unfold bg;rw[show (0:Int).natAbs=0 from rfl,ZrP];rfl
theorem ZxB (x y:Int) (hy:y≠0) (hx1:Wl 50000 x) (hy1:Wl 50000 y):Zpe (bg x) (bg y)=some (fOf (Rat.divInt x y)):=by
 unfold Zpe
 by_cases hx:x=0
 ·subst hx;rw[Rat.zero_divInt,ZoR,ZnR,show (0:Int).natAbs=0 from rfl,ZrP,ZvZ 1 (by decide) (by decide)];show some (ZnA.mk ⟨false,[]⟩ (bg 1))=some (fOf 0);rw[←ZzF];rfl
 ·have hx0:0 < x.natAbs:=by omega
  have hy0:0 < y.natAbs:=by omega
  have hg0:Nat.gcd x.natAbs y.natAbs≠0:=fun e=>by have:=Nat.gcd_pos_of_pos_right x.natAbs hy0;omega
  have hgl:=ZxJ (x:=x.natAbs) hy0 hy1;have hxl:=Zxo (Nat.gcd x.natAbs y.natAbs) hx1;have hyl:=Zxo (Nat.gcd x.natAbs y.natAbs) hy1;have h:=ZwF x y hy hx1 hy1;unfold Zp2 at h;rw[ZoR,ZoR,Zwy _ _ hx1 hy1,Option.bind_some,Zwa _ _ hg0 hx1 hgl,Option.bind_some]at h;dsimp only at h;rw[Zwa _ _ hg0 hy1 hgl,Option.bind_some]at h;dsimp only at h;rw[ZtK _ _ (by omega),Option.bind_some,ZtK _ _ (by omega),Option.bind_some]at h;have hlen:=Zqj (n:=x.natAbs) (by omega);rw[←h,ZoR,ZoR,ZnR,beq_eq_false_iff_ne.2 (by omega),cond_false,ZxY _ _ (by omega) (by omega) hx1 hy1,Option.bind_some,Zx0 _ _ hg0 hx1 hgl,Option.bind_some];dsimp only;rw[Zx0 _ _ hg0 hy1 hgl,Option.bind_some];dsimp only;rw[ZvR _ (ZsH _) (by omega),Option.bind_some,ZvR _ (ZsH _) (by omega),Option.bind_some,Zqs,Zqs]
theorem Zyo (x y:Int) (hy:y≠0) (hx1:Wl 256 x) (hy1:Wl 256 y):ZpS (bg x) (bg y)=some (fOf (Rat.divInt x y),0):=by unfold ZpS Zqb;rw[Zug,ZuS x hx1,Option.bind_some,Bool.not_true,cond_false,Zug,ZuS y hy1,Option.bind_some,Bool.not_true,cond_false,Zww hy,cond_false,ZxB x y hy (Nat.le_trans hx1 (by decide)) (Nat.le_trans hy1 (by decide)),Option.bind_some]
theorem ZAc (x y:Int) (hy:y≠0) (h1: -9223372036854775808≤x) (h2:x≤9223372036854775807) (h3: -9223372036854775808≤y) (h4:y≤9223372036854775807):ZqC x y=some (fOf (Rat.divInt x y),0):=by unfold ZqC;rw[ZvZ x h1 h2,Option.bind_some,ZvZ y h3 h4,Option.bind_some,Zyo x y hy (ZBH h1 h2) (ZBH h3 h4),Option.bind_some]
theorem Zwp (x y:Int) (hy:y≠0) (h1: -9223372036854775808≤x) (h2:x≤9223372036854775807) (h3: -9223372036854775808≤y) (h4:y≤9223372036854775807):Zoq x y=some (fOf (Rat.divInt x y)):=by unfold Zoq;rw[ZAc x y hy h1 h2 h3 h4,Option.bind_some]
theorem ZuP (x:Int) (h1: -9223372036854775808≤x) (h2:x≤9223372036854775807):ZnI x=some (fOf (x:Rat)):=by unfold ZnI;rw[Zwp x 1 (by decide) h1 h2 (by decide) (by decide),Option.bind_some,ZxE]
theorem ZzZ {a b:Nat} (h:wd a=wd b):a=b:=by rw[←Zqs a,←Zqs b,h]
theorem ZwE (x y:Int) (hx:Wl 100000 x) (hy:Wl 100000 y):ZoE (bg x) (bg y)=some (decide (x=y)):=by
 unfold Wl at hx hy;refine ZrO ?_;unfold ZoE Zpp;rw[Zus,Zus,ZoR,ZoR,ZnR,ZnR]
 by_cases hs:decide (x < 0)=decide (y < 0)
 ·rw[hs,beq_self_eq_true,Bool.not_true,cond_false]
  by_cases hl:(wd x.natAbs).length=(wd y.natAbs).length
  ·rw[hl,bne_self_eq_false,cond_false,ZnD];refine Zn5 (Zr8 Zt6 (wd y.natAbs).length (by omega) (fun i (_:Unit)=>(iL (wd x.natAbs),((wd y.natAbs).length:Int),i,bg y)) (fun i _=>(wd x.natAbs).take i=(wd y.natAbs).take i)
    (Q:=fun r=>r= .ret false∧wd x.natAbs≠wd y.natAbs∨r= .brk ()∧wd x.natAbs=wd y.natAbs) () (by rw[List.take_zero,List.take_zero]) ?_ ?_) ?_
   ·rintro rec i ⟨⟩ hi hP ih;have hi2:i < (wd x.natAbs).length:=by omega
    unfold Zqk ZoX;dsimp only;rw[Zob];refine⟨fun _=> ?_,fun h=>by have:=of_decide_eq_false h;omega⟩;rw[ZoR,ZrN hi2,ZnD,ZnC,ZrN hi,ZnD,ZnC,Zob];refine⟨fun h=> ?_,fun h=> ?_⟩
    ·rw[ZnC];refine .inl ⟨rfl,fun e=> ?_⟩;have h1:(wd y.natAbs)[i]=(wd x.natAbs)[i]:=by simp only[e]
     rw[h1,bne_self_eq_false]at h;exact absurd h (by decide)
    ·rw[ZnF];refine⟨ZnG (by omega),ih () ?_⟩;rw[bne_eq_false_iff_eq]at h;have h1:(wd y.natAbs)[i]=(wd x.natAbs)[i]:=by omega
     rw[List.take_succ_eq_append_getElem hi2,List.take_succ_eq_append_getElem hi,hP,h1]
   ·rintro rec ⟨⟩ hP;unfold Zqk ZoX;dsimp only;rw[Zob];refine⟨fun h=>by have:=of_decide_eq_true h;omega,fun _=> ?_⟩;rw[ZnC];rw[List.take_length,←hl,List.take_length]at hP;exact .inr ⟨rfl,hP⟩
   ·rintro r (⟨rfl,h⟩ |⟨rfl,h⟩)
    ·exact ZnC.2 (decide_eq_false (fun e=>h (by rw[e]))).symm
    ·unfold ZqK;have h1:=ZzZ h;refine ZnC.2 (decide_eq_true ?_).symm
     by_cases hy0:y < 0
     ·have hx0:x < 0:=by rw[decide_eq_true hy0]at hs;exact of_decide_eq_true hs
      omega
     ·have hx0:¬x < 0:=by rw[decide_eq_false hy0]at hs;exact of_decide_eq_false hs
      omega
  ·have:(((wd x.natAbs).length:Int) != ((wd y.natAbs).length:Int))=true:=by rw[bne_iff_ne];omega
   rw[this,cond_true,ZnC];exact(decide_eq_false (fun e=>hl (by rw[e]))).symm
 ·rw[beq_eq_false_iff_ne.2 hs,Bool.not_false,cond_true,cond_true,ZnC];exact(decide_eq_false (fun e=>hs (by rw[e]))).symm
theorem Zv2 (p q:Rat) (hp:Wq 256 p) (hq:Wq 256 q):Zop (fOf p) (fOf q)=some (decide (p=q)):=by
 have m:∀{x:Int},Wl 256 x→Wl 100000 x:=fun h=>Nat.le_trans h (by decide)
 unfold Zop Zqa fOf;dsimp only;rw[ZwE _ _ (m hp.1) (m hq.1),Option.bind_some]
 by_cases h1:p.num=q.num
 ·rw[decide_eq_true h1,cond_true,ZwE _ _ (m hp.2) (m hq.2),Option.bind_some];congr 1
  by_cases h2:p.den=q.den
  ·rw[decide_eq_true (by omega),decide_eq_true (Rat.ext h1 h2)]
  ·rw[decide_eq_false (by omega),decide_eq_false (fun e=>h2 (by rw[e]))]
 ·rw[decide_eq_false h1,cond_false,decide_eq_false (fun e=>h1 (by rw[e]))]
end Go.Proofs
