/- Fractions: in lowest terms, as core's Rat. -/
import Derived.Test.YtbjnddlpdlfknaaGreatDoorQwNW8
set_option linter.unusedVariables false
set_option linter.unusedSimpArgs false
set_option linter.unusedSectionVars false
namespace Go.Proofs
open Go Eng
def fOf (q:Rat):ZnA:=⟨bg q.num,bg (q.den:Int)⟩
theorem Zxo {x n:Nat} (g:Nat) (h:(wd x).length≤n):(wd (x / g)).length≤n:=Nat.le_trans (Zru (Nat.div_le_self x g)) h
theorem ZxJ {x y n:Nat} (hy:0 < y) (h:(wd y).length≤n):(wd (Nat.gcd x y)).length≤n:=Nat.le_trans (Zru (Nat.gcd_le_right x hy)) h
theorem ZwF (x y:Int) (hy:y≠0) (hx1:Wl 50000 x) (hy1:Wl 50000 y):Zp2 (bg x) (bg y)=some (fOf (Rat.divInt x y)):=by
 have hy0:0 < y.natAbs:=by omega
 have hg0:Nat.gcd x.natAbs y.natAbs≠0:=fun e=>by have:=Nat.gcd_pos_of_pos_right x.natAbs hy0;omega
 have hgl:=ZxJ (x:=x.natAbs) hy0 hy1;have hxl:=Zxo (Nat.gcd x.natAbs y.natAbs) hx1;have hyl:=Zxo (Nat.gcd x.natAbs y.natAbs) hy1;unfold Zp2;rw[ZoR,ZoR,Zwy _ _ hx1 hy1,Option.bind_some,Zwa _ _ hg0 hx1 hgl,Option.bind_some];dsimp only;rw[Zwa _ _ hg0 hy1 hgl,Option.bind_some];dsimp only;rw[ZtK _ _ (by omega),Option.bind_some,ZtK _ _ (by omega),Option.bind_some,Zus,Zus];unfold fOf;rw[Rat.num_divInt,Rat.den_divInt,if_neg hy];have eg:Int.gcd y x=Nat.gcd x.natAbs y.natAbs:=by rw[Int.gcd_comm];rfl
 rw[eg];have key:(if (!(decide (x < 0) == decide (y < 0)))=true then -((x.natAbs / Nat.gcd x.natAbs y.natAbs:Nat):Int)else ((x.natAbs / Nat.gcd x.natAbs y.natAbs:Nat):Int))=y.sign*x / (Nat.gcd x.natAbs y.natAbs:Int):=by
  obtain⟨k,hk⟩:=Nat.gcd_dvd_left x.natAbs y.natAbs;generalize Nat.gcd x.natAbs y.natAbs=g at*
  have hgp:0 < g:=by omega
  have e1:x.natAbs / g=k:=by rw[hk,Nat.mul_div_cancel_left _ hgp]
  have e2:((g:Int)*(k:Int)) / (g:Int)=k:=Int.mul_ediv_cancel_left _ (by omega);have e3:(-((g:Int)*(k:Int))) / (g:Int)= -k:=by rw[←Int.mul_neg,Int.mul_ediv_cancel_left _ (by omega)]
  have hk':((x.natAbs:Nat):Int)=(g:Int)*(k:Int):=by rw[hk];norm_cast
  rw[e1]
  by_cases hx0:x < 0<;>by_cases hy0:y < 0
  ·rw[decide_eq_true hx0,decide_eq_true hy0,if_neg (by decide),Int.sign_eq_neg_one_of_neg hy0,show -1*x=(g:Int)*k by omega,e2]
  ·rw[decide_eq_true hx0,decide_eq_false hy0,if_pos (by decide),Int.sign_eq_one_of_pos (by omega),show 1*x= -((g:Int)*k) by omega,e3]
  ·rw[decide_eq_false hx0,decide_eq_true hy0,if_pos (by decide),Int.sign_eq_neg_one_of_neg hy0,show -1*x= -((g:Int)*k) by omega,e3]
  ·rw[decide_eq_false hx0,decide_eq_false hy0,if_neg (by decide),Int.sign_eq_one_of_pos (by omega),show 1*x=(g:Int)*k by omega,e2]
 rw[key,if_neg Bool.false_ne_true]
theorem Zx5:∀l:List Int,l.length≤1000→(∀z∈l,Wl 256 z)→Zsx (l.map bg)=some true:=fun l hl h=>by
 refine ZrO ?_;unfold Zsx;rw[ZnD,List.length_map];refine Zn5 (Zr8 ZvI l.length (by omega) (fun i (_:Unit)=>(l.map bg,(l.length:Int),i)) (fun _ _=>True) (Q:=fun r=>r= .brk ()) () trivial ?_ ?_) ?_
 ·rintro rec i ⟨⟩ hi _ ih;unfold ZtI Zsf;dsimp only;rw[Zob];refine⟨fun _=> ?_,fun h=>by have:=of_decide_eq_false h;omega⟩;rw[Zu4 (by rw[List.length_map];exact hi),ZnD,ZnC,List.getElem_map,ZuS _ (h _ (List.getElem_mem hi)),ZnD,ZnC];rw[Bool.not_true,cond_false,ZnF];exact⟨ZnG (by omega),ih () trivial⟩
 ·rintro rec ⟨⟩ _;unfold ZtI Zsf;dsimp only;rw[Zob];refine⟨fun h=>by have:=of_decide_eq_true h;omega,fun _=>ZnC.2 rfl⟩
 ·rintro r rfl;exact ZnC.2 rfl
abbrev Wq (n:Nat) (q:Rat):Prop:=Wl n q.num∧Wl n (q.den:Int)
theorem Zwq:iL (wd 1)=[1]:=by rw[Zv1 (by decide),show 1 / Bw=0 from rfl,ZrP];rfl
theorem Zxq (q:Rat) (h:Wq 256 q):ZrD (fOf q)=some true:=by
 unfold ZrD Zqq fOf;have hb:=Zx5 [q.num,(q.den:Int)] (by simp) (fun z hz=>by
  simp only[List.mem_cons,List.not_mem_nil,or_false]at hz;rcases hz with rfl |rfl
  ·exact h.1
  ·exact h.2)
 have hd:=q.den_nz;have hl:=Zqj (n:=(q.den:Int).natAbs) (by omega);have hn:=h.1;have hdl:=h.2;unfold Wl at hn hdl;dsimp only;rw[show ([bg q.num,bg (q.den:Int)]:List ZnE)=[q.num,(q.den:Int)].map bg from rfl,hb,Option.bind_some,cond_true,ZoR,ZoR,ZnR,decide_eq_true (by omega),cond_true,Zus,decide_eq_false (by omega),Bool.not_false,cond_true,Zwy _ _ (by omega) (by omega),Option.bind_some];have hc:Nat.gcd q.num.natAbs (q.den:Int).natAbs=1:=q.reduced;have h1:(wd 1).length≤1:=Zuh (by decide);rw[hc,←Zwq,Zwd 1 1 (by omega) (by omega),Option.bind_some,Ztj];rfl
end Go.Proofs
