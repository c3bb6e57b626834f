/- Numbers of many words: one digit of a quotient (Knuth's algorithm D). -/
import Derived.Test.YtbjnddlpdlfknaaGreatDoorQwNW3
set_option linter.unusedVariables false
set_option linter.unusedSimpArgs false
set_option linter.unusedSectionVars false
namespace Go.Proofs
open Go Eng
theorem ZAl {B P u0 u1 u2 wl d1 d2 dl:Nat} (hdl:dl < P) (hd2:d2 < B) (h:((u0*B+u1)*B+u2)*P+wl < B*((d1*B+d2)*P+dl)):u0≤d1:=by
 rcases Nat.lt_or_ge d1 u0 with hlt |hge
 ·exfalso;have h1:(d1+1)*(B*(B*P))≤u0*(B*(B*P)):=Nat.mul_le_mul_right _ hlt;have h2:(d2+1)*P≤B*P:=Nat.mul_le_mul_right _ hd2;rw[Nat.add_mul,Nat.one_mul]at h2;have h3:B*(d2*P+dl)≤B*(B*P):=Nat.mul_le_mul_left _ (by omega);have e:B*(d1*(B*P))=d1*(B*(B*P)):=Nat.mul_left_comm _ _ _;simp only[Nat.add_mul,Nat.mul_add,Nat.mul_assoc,Nat.one_mul]at h h1 h3;omega
 ·exact hge
theorem ZAk {B P u0 u1 u2 wl d1 d2 dl q:Nat} (hw:wl < P) (hu2:u2 < B) (h:q*((d1*B+d2)*P+dl)≤((u0*B+u1)*B+u2)*P+wl):q*d1≤u0*B+u1:=by
 rcases Nat.lt_or_ge (u0*B+u1) (q*d1)with hlt |hge
 ·exfalso;have h1:(u0*B+u1+1)*(B*P)≤q*d1*(B*P):=Nat.mul_le_mul_right _ hlt;have h2:(u2+1)*P≤B*P:=Nat.mul_le_mul_right _ hu2;simp only[Nat.add_mul,Nat.mul_add,Nat.mul_assoc,Nat.one_mul]at h h1 h2;omega
 ·exact hge
theorem ZAj {B P u0 u1 u2 wl d1 d2 dl rest g:Nat} (hw:wl < P) (hr:rest+g*d1=u0*B+u1) (hg:rest*B+u2 < g*d2):((u0*B+u1)*B+u2)*P+wl < g*((d1*B+d2)*P+dl):=by
 rw[←hr];have h1:(rest*B+u2+1)*P≤g*d2*P:=Nat.mul_le_mul_right _ hg;simp only[Nat.add_mul,Nat.mul_add,Nat.mul_assoc,Nat.one_mul]at h1⊢
 omega
theorem ZAi {B P u0 u1 u2 wl d1 d2 dl rest g:Nat} (hdl:dl < P) (hB:g < B) (h1:1≤d1) (hr:rest+g*d1=u0*B+u1) (hg:g*d2≤rest*B+u2):g*((d1*B+d2)*P+dl) < (((u0*B+u1)*B+u2)*P+wl)+((d1*B+d2)*P+dl):=by
 rw[←hr];have h2:g*d2*P≤(rest*B+u2)*P:=Nat.mul_le_mul_right _ hg;have h3:g*dl≤g*P:=Nat.mul_le_mul_left _ (Nat.le_of_lt hdl);have h4:(g+1)*P≤B*P:=Nat.mul_le_mul_right _ hB;have h5:1*(B*P)≤d1*(B*P):=Nat.mul_le_mul_right _ h1;simp only[Nat.add_mul,Nat.mul_add,Nat.mul_assoc,Nat.one_mul]at h2 h4 h5⊢
 omega
theorem rdw {pre w suf:List Nat} {k:Nat} (h:k < w.length):(iL (pre++(w++suf)))[pre.length+k]? =some (w[k]:Int):=by rw[ZvM (by simp;omega)];congr 2;rw[List.getElem_append_right (by omega)];simp only[Nat.add_sub_cancel_left];rw[List.getElem_append_left h]
theorem stw {pre w suf:List Nat} {k:Nat} (x:Nat) (h:k < w.length):(iL (pre++(w++suf))).set (pre.length+k) (x:Int)=iL (pre++(w.set k x++suf)):=by rw[Zvb,List.set_append_right _ _ (by omega),Nat.add_sub_cancel_left,List.set_append_left _ _ h]
theorem ZBP {l:List Nat} {m:Nat} (h:l.length=m+2):val l=(l[m+1]*Bw+l[m])*Bw ^ m+val (l.take m):=by have e:=ZuT (l:=l) (k:=m) (by omega);have e2:=ZuT (l:=l) (k:=m+1) (by omega);have h3:=ZnZ (l:=l) (k:=m) (by omega);rw[List.drop_eq_nil_of_le (by omega)]at e2;simp only[val,Nat.mul_zero,Nat.add_zero]at e2;rw[e2,h3,Nat.pow_succ,Nat.add_mul,Nat.mul_comm (l[m]),Nat.mul_comm (Bw ^ m) Bw,Nat.mul_comm (Bw*Bw ^ m),Nat.mul_assoc];omega
theorem top3 {l:List Nat} {m:Nat} (h:l.length=m+3):val l=((l[m+2]*Bw+l[m+1])*Bw+l[m])*Bw ^ m+val (l.take m):=by have e:val l=(l[m+2]*Bw+l[m+1])*Bw ^ (m+1)+val (l.take (m+1)):=ZBP (by omega);have h3:=ZnZ (l:=l) (k:=m) (by omega);rw[e,h3,Nat.pow_succ,Nat.mul_comm (Bw ^ m) Bw,←Nat.mul_assoc,Nat.add_mul ((l[m+2]*Bw+l[m+1])*Bw),Nat.mul_comm (l[m])];omega
theorem Zzv {h l:Nat} (hh:h < 4294967296) (hl:l < 4294967296):orK .u64 (shlK .u64 (h:Int) 32) (IntKind.wrap .u64 (l:Int))=((h*4294967296+l:Nat):Int):=by
 have:=Zw5 hh hl
 rwa [Zn4 (by omega)]at this
theorem Zzs {x y:Nat} (hx:x < Bw) (hy:y < Bw):IntKind.wrap .u64 ((x:Int)*IntKind.wrap .u64 (y:Int))=((x*y:Nat):Int):=by have:=ZvK hx hy;rw[Zn4 (by simp only[Bw]at hy;omega),←Int.natCast_mul,Zn4 (by omega)]
theorem Zyv {pre w suf d:List Nat} {m:Nat} (hw:w.length=m+3) (hd:d.length=m+2) (hwd:Dg w) (hdd:Dg d) (h1:1≤d[m+1]) (hlt:val w < Bw*val d) (hm:m≤100000) {g r:Nat}
  (hg:g < Bw) (hq:val w / val d≤g) (hr:r+g*d[m+1]=w[m+2]*Bw+w[m+1]) (hr2:r < 2*Bw):
  wp (Zqp big pre.length (m+3) (iL d) ((m+2:Nat):Int) (g:Int) (r:Int) (iL (pre++(w++suf)))) (fun y=>∃g:Nat,y=(pre.length,m+3,iL d,((m+2:Nat):Int),(g:Int),iL (pre++(w++suf)))∧g < Bw∧val w / val d≤g∧g*val d < val w+val d):=by
 have hw0:=hwd.get (i:=m) (by omega);have hd2:=hdd.get (i:=m) (by omega);have hd1:=hdd.get (i:=m+1) (by omega);have hdl:val (d.take m) < Bw ^ m:=by have:=Ztr (hdd.take m);rwa [List.length_take,Nat.min_eq_left (by omega)]at this
 have hwl:val (w.take m) < Bw ^ m:=by have:=Ztr (hwd.take m);rwa [List.length_take,Nat.min_eq_left (by omega)]at this
 have eW:=top3 hw;have eD:=ZBP hd;have rd:(iL (pre++(w++suf)))[pre.length+m]? =some (w[m]:Int):=rdw (by omega);have rdd:idx (iL d) (m:Int)=some (d[m]:Int):=ZrN (by omega);have rdd1:idx (iL d) ((m+1:Nat):Int)=some (d[m+1]:Int):=ZrN (by omega);generalize d[m+1]=d1 at*
 generalize d[m]=d2 at*
 generalize w[m+2]=u0 at*
 generalize w[m+1]=u1 at*
 generalize w[m]=u2 at*
 have hDpos:0 < val d:=by rw[eD];have:1*1≤(d1*Bw+d2)*Bw ^ m:=Nat.mul_le_mul (by simp only[Bw];omega) (Nat.pow_pos (by decide));omega
 have hdiv:∀g,val w < g*val d→val w / val d < g:=fun g h=>(Nat.div_lt_iff_lt_mul hDpos).2 h
 generalize val w / val d=qq at*
 refine ZsG ZvE (fun(t:Nat×Nat)=>(pre.length,m+3,iL d,((m+2:Nat):Int),(t.1:Int),(t.2:Int),iL (pre++(w++suf)))) (fun t=>t.1 < Bw∧qq≤t.1∧t.2+t.1*d1=u0*Bw+u1∧t.2 < 2*Bw) (fun t=>t.1) (g,r) ⟨hg,hq,hr,hr2⟩ (by simp only[Bw]at hg;dsimp only;omega) ?_;rintro rec ⟨g,r⟩ ⟨hg,hq,hr,hr2⟩ ih;dsimp only at hg hq hr hr2 ih;unfold Zuo Ztd;dsimp only;have e2:((m+2:Nat):Int) - 2=(m:Int):=by omega
 have e1:((m+2:Nat):Int) - 1=((m+1:Nat):Int):=by omega
 have fin:g*d2≤r*Bw+u2→wp (some (pre.length,m+3,iL d,((m+2:Nat):Int),(g:Int),iL (pre++(w++suf)))) (fun y=>∃g:Nat,y=(pre.length,m+3,iL d,((m+2:Nat):Int),(g:Int),iL (pre++(w++suf)))∧g < Bw∧qq≤g∧g*val d < val w+val d):=fun h=>by rw[ZnC];refine⟨g,rfl,hg,hq, ?_⟩;rw[eW,eD];exact ZAi hdl hg h1 hr h
 rw[Zob];refine⟨fun h=> ?_,fun h=> ?_⟩
 ·have hrB:r < 4294967296:=by have:=of_decide_eq_true h;omega
  rw[e2,ZnF,rdd,ZnD,ZnC,ZnF,ZnF,ZnF,ZnD,Int.toNat_natCast,rd,ZnC,Zzs hg hd2,Zzv hrB hw0];refine⟨ZnG (by omega),by decide,ZnG (by omega),ZqJ ⟨by omega,by omega⟩, ?_⟩;unfold Zrm;rw[Zob];refine⟨fun h=> ?_,fun h=> ?_⟩
  ·have hc:r*Bw+u2 < g*d2:=by have:=of_decide_eq_true h;simp only[Bw];omega
   have hlt2:val w < g*val d:=by rw[eW,eD];exact ZAj hwl hr hc
   have hqg:qq < g:=hdiv g hlt2;rw[e1,ZnF,rdd1,ZnD,ZnC];refine⟨ZnG (by omega), ?_⟩;have eg:IntKind.wrap .u64 ((g:Int) - 1)=((g - 1:Nat):Int):=by simp only[Bw]at hg;rw[show (g:Int) - 1=((g - 1:Nat):Int) by omega,Zn4 (by omega)]
   have er:IntKind.wrap .u64 ((r:Int)+IntKind.wrap .u64 (d1:Int))=((r+d1:Nat):Int):=by simp only[Bw]at hd1;rw[Zn4 (by omega),←Int.natCast_add,Zn4 (by omega)]
   rw[eg,er];refine ih (g - 1,r+d1) ⟨by dsimp only;omega,by dsimp only;omega, ?_,by dsimp only;simp only[Bw]at hd1⊢;omega⟩ (by dsimp only;omega);dsimp only;rw[←hr,show g*d1=(g - 1+1)*d1 by rw[Nat.sub_add_cancel (by omega)],Nat.add_mul,Nat.one_mul];omega
  ·have hc:g*d2≤r*Bw+u2:=by have:=of_decide_eq_false h;simp only[Bw];omega
   exact fin hc
 ·have hrB:4294967296≤r:=by have:=of_decide_eq_false h;omega
  unfold Zrm;rw[cond_false];refine fin ?_;have h1:=ZvK hg hd2;have h2:4294967296*4294967296≤r*Bw:=Nat.mul_le_mul hrB (Nat.le_refl _);omega
end Go.Proofs
