/- The kit's dice. -/
import Derived.Test.YtbjnddlpdlfknaaGreatDoorQwS
import Derived.Test.YtbjnddlpdlfknaaGreatDoorQwPKb
set_option linter.unusedVariables false
set_option linter.unusedSimpArgs false
set_option linter.unusedSectionVars false
namespace Go.Proofs
open Go Eng
theorem ZyH (n:Int) {m:Int} (h:1≤m∧m≤1000000):wp (Zp4 n m) (fun r=>0≤r∧r < m):=by have ha: -m < Int.tmod n m∧Int.tmod n m < m:=⟨Int.lt_tmod_of_pos n (by omega),Int.tmod_lt_of_pos n (by omega)⟩;unfold Zp4;have h3:decide (m < 1)=false:=decide_eq_false (by omega);have h4:decide (m≠0)=true:=decide_eq_true (by omega);rw[h3,cond_false,ZnF,ZnF,ZnF,ZnC];exact⟨h4,ZnG (by omega),h4,Int.tmod_nonneg _ (by omega),Int.tmod_lt_of_pos _ (by omega)⟩
def Zv9 (d:ZnB):Prop:=0≤d.at_∧d.at_≤d.l.length∧d.l.length≤500
theorem Zxi {d:ZnB} (hd:Zv9 d) {n:Int} (hn:1≤n∧n≤1000000):wp (Zom d n) (fun r=>(0≤r.1∧r.1 < n)∧Zv9 r.2):=by
 unfold Zom;have hd0:=hd;obtain⟨h0,h1,h2⟩:=hd0;rw[Zob];refine⟨fun h=> ?_,fun h=> ?_⟩
 ·rw[ZnC];exact⟨by simp only;omega,hd⟩
 ·simp only[decide_eq_false_iff_not]at h;simp only[ZnF,ZnD,ZzV,ZnC];refine⟨ZnG (by omega),ZnG (by omega),by omega,by omega,Zn5 (ZyH _ hn) fun r hr=>⟨hr, ?_⟩⟩;simp only[Zv9];omega
end Go.Proofs
