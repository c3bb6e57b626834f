/- Numbers of many words: the whole digit of a quotient. -/
import Derived.Test.YtbjnddlpdlfknaaGreatDoorQwNW4
set_option linter.unusedVariables false
set_option linter.unusedSimpArgs false
set_option linter.unusedSectionVars false
namespace Go.Proofs
open Go Eng
abbrev Zyz (pre suf:List Nat) (W D m:Nat) (y:Int×List Int):Prop:=∃w':List Nat,y=(((W / D:Nat):Int),iL (pre++(w'++suf)))∧w'.length=m+3∧Dg w'∧val w'=W % D
theorem ZzG {pre w suf d:List Nat} {m W:Nat} (hw:w.length=m+3) (hd:d.length=m+2) (hwd:Dg w) (hdd:Dg d) (hm:m≤100000) {g:Nat} (hg:g < Bw)
  (hg1:W < g*val d) (hg2:g*val d < W+val d) (hv:val w+g*val d=W+Bw ^ (m+3)):
  wp ((Zrl big pre.length (m+3) ((m+2:Nat):Int) (g:Int) (0:Int) (iL d) (d.length:Int) (0:Int) (iL (pre++(w++suf)))).bind fun(x0,x1,x2,x3,x4,x5)=>ZsD x0 x1 x2 x3 x4 x5) (Zyz pre suf W (val d) m):=by
 rw[ZnD,hd];have hDpos:0 < val d:=by omega
 refine Zn5 (Zr8 ZvC (m+2) (by omega) (fun i (t:Nat×List Nat)=>(pre.length,m+3,((m+2:Nat):Int),(g:Int),(t.1:Int),iL d,((m+2:Nat):Int),i,iL (pre++(t.2++suf)))) (fun i t=>t.1≤1∧t.2.length=m+3∧Dg t.2∧val t.2+Bw ^ i*t.1=val w+val (d.take i))
  (Q:=fun y=>∃(a:Nat) (w2:List Nat),y=(pre.length,m+3,((m+2:Nat):Int),(g:Int),(a:Int),iL (pre++(w2++suf)))∧a≤1∧w2.length=m+3∧Dg w2∧val w2+Bw ^ (m+2)*a=val w+val d) (0,w) ⟨by simp,hw,hwd,by simp[val]⟩ ?_ ?_) ?_
 ·rintro rec i ⟨a,o⟩ hi ⟨ha,hol,hod,hv⟩ ih;dsimp only at ha hol hod hv ih;have hi1:i < o.length:=by omega
  have hi2:i < d.length:=by omega
  have h1:=hod.get hi1;have h2:=hdd.get hi2;unfold Ztb ZrK;dsimp only;rw[Zob];refine⟨fun _=> ?_,fun h=>by have:=of_decide_eq_false h;omega⟩;rw[ZrN hi2,ZnD,ZnC,ZnF,ZnD,Int.toNat_natCast,rdw hi1,ZnC,ZAI h1 h2 ha,ZnD,ZnC];dsimp only;rw[ZnF,ZnF,stw _ hi1];refine⟨ZqJ ⟨by omega,by omega⟩,ZqJ ⟨by omega,by omega⟩,ZnG (by omega), ?_⟩;generalize ex:d[i]=x at h2;generalize ee:o[i]=e at h1;refine ih ((e+x+a) / 4294967296,o.set i ((e+x+a) % 4294967296)) ⟨by simp only[Bw]at h1 h2;dsimp only;omega,by simp[hol],hod.set _ (Nat.mod_lt _ (by decide)), ?_⟩;dsimp only;have q1:=Zvf o i ((e+x+a) % 4294967296) hi1;rw[ee]at q1;have q2:Bw ^ i*((e+x+a) % 4294967296+Bw*((e+x+a) / 4294967296))=Bw ^ i*(e+x+a):=by rw[Nat.mod_add_div]
  rw[Nat.mul_add,Nat.mul_add,Nat.mul_add]at q2;rw[Nat.pow_succ,Nat.mul_assoc,ZnZ hi2,ex];omega
 ·rintro rec ⟨a,o⟩ ⟨ha,hol,hod,hv⟩;dsimp only at ha hol hod hv;unfold Ztb ZrK;dsimp only;rw[Zob];refine⟨fun h=>by have:=of_decide_eq_true h;omega,fun _=> ?_⟩;rw[ZnC];rw[List.take_of_length_le (by omega)]at hv;exact⟨a,o,rfl,ha,hol,hod,hv⟩
 ·rintro y ⟨a,o,rfl,ha,hol,hod,hov⟩;dsimp only;have hi1:m+2 < o.length:=by omega
  have h1:=hod.get hi1;unfold ZsD;rw[ZnF,ZnD,Int.toNat_natCast,rdw hi1,ZnC,ZnF];generalize ee:o[m+2]=e at h1;have ew:IntKind.wrap .u32 ((e:Int)+(a:Int))=(((e+a) % 4294967296:Nat):Int):=by rw[←Int.natCast_add,Zsh]
  have hgp:1≤g:=by
   rcases Nat.eq_zero_or_pos g with h |h
   ·rw[h,Nat.zero_mul]at hg1;omega
   ·exact h
  have eg:IntKind.wrap .u32 (IntKind.wrap .u64 ((g:Int) - 1))=((g - 1:Nat):Int):=by simp only[Bw]at hg;rw[show (g:Int) - 1=((g - 1:Nat):Int) by omega,Zn4 (by omega),ZsF (by omega)]
  rw[ew,eg,stw _ hi1,ZnC];refine⟨ZqJ ⟨by omega,by omega⟩,ZqJ ⟨by omega,by omega⟩, ?_⟩;have q1:=Zvf o (m+2) ((e+a) % 4294967296) hi1;rw[ee]at q1;have q2:Bw ^ (m+2)*((e+a) % 4294967296+Bw*((e+a) / 4294967296))=Bw ^ (m+2)*(e+a):=by rw[Nat.mod_add_div]
  rw[Nat.mul_add,Nat.mul_add,←Nat.mul_assoc,←Nat.pow_succ]at q2;have hdn:Dg (o.set (m+2) ((e+a) % 4294967296)):=hod.set _ (Nat.mod_lt _ (by decide));have hlt:=Ztr hdn;rw[List.length_set,hol]at hlt;have hco:(e+a) / 4294967296≤1:=by simp only[Bw]at h1;omega
  have hpw:Bw ^ (m+2+1)=Bw ^ (m+3):=rfl;rw[hpw]at q2;have egD:g*val d=(g - 1)*val d+val d:=by rw[show g*val d=(g - 1+1)*val d by rw[Nat.sub_add_cancel hgp],Nat.add_mul,Nat.one_mul]
  have key:val (o.set (m+2) ((e+a) % 4294967296))+(g - 1)*val d=W:=by
   rcases Nat.eq_zero_or_pos ((e+a) / 4294967296)with hz |hz
   ·rw[hz,Nat.mul_zero]at q2;omega
   ·rw[show (e+a) / 4294967296=1 by omega,Nat.mul_one]at q2;omega
  have hl3:(o.set (m+2) ((e+a) % 4294967296)).length=m+3:=by rw[List.length_set,hol]
  generalize o.set (m+2) ((e+a) % 4294967296)=w3 at*
  have hlt3:val w3 < val d:=by omega
  have eq1:W / val d=g - 1:=by rw[←key,Nat.add_mul_div_right _ _ hDpos,Nat.div_eq_of_lt hlt3,Nat.zero_add]
  have eq2:W % val d=val w3:=by rw[←key,Nat.add_mul_mod_self_right,Nat.mod_eq_of_lt hlt3]
  exact⟨w3,by rw[eq1],hl3,hdn,eq2.symm⟩
theorem Zzc {pre w suf d:List Nat} {m:Nat} (hw:w.length=m+3) (hd:d.length=m+2) (hwd:Dg w) (hdd:Dg d) (hm:m≤100000) {g:Nat} (hg:g < Bw)
  (hDpos:0 < val d) (hq:val w / val d≤g) (hg2:g*val d < val w+val d):
  wp (ZsE pre.length (m+3) (iL d) ((m+2:Nat):Int) (g:Int) (iL (pre++(w++suf)))) (Zyz pre suf (val w) (val d) m):=by
 unfold ZsE;rw[ZnD,ZnR,hd];refine Zn5 (Zr8 ZvD (m+2) (by omega) (fun i (t:Nat×Nat×List Nat)=>(pre.length,m+3,iL d,((m+2:Nat):Int),(g:Int),(t.1:Int),(t.2.1:Int),iL d,((m+2:Nat):Int),i,iL (pre++(t.2.2++suf)))) (fun i t=>t.1≤1∧t.2.1 < Bw∧t.2.2.length=m+3∧Dg t.2.2∧val t.2.2+g*val (d.take i)=val w+Bw ^ i*(t.1+t.2.1))
  (Q:=fun y=>∃(b c:Nat) (w2:List Nat),y=(pre.length,m+3,iL d,((m+2:Nat):Int),(g:Int),(b:Int),(c:Int),iL (pre++(w2++suf)))∧b≤1∧c < Bw∧w2.length=m+3∧Dg w2∧val w2+g*val d=val w+Bw ^ (m+2)*(b+c)) (0,0,w) ⟨by simp,by simp,hw,hwd,by simp[val]⟩ ?_ ?_) ?_
 ·rintro rec i ⟨b,c,o⟩ hi ⟨hb,hc,hol,hod,hv⟩ ih;dsimp only at hb hc hol hod hv ih;have hi1:i < o.length:=by omega
  have hi2:i < d.length:=by omega
  have h1:=hod.get hi1;have h2:=hdd.get hi2;unfold Ztc ZrL;dsimp only;rw[Zob];refine⟨fun _=> ?_,fun h=>by have:=of_decide_eq_false h;omega⟩;rw[ZrN hi2,ZnD,ZnC,ZnF,ZnD,Int.toNat_natCast,rdw hi1,ZnC];generalize ex:d[i]=x at h2;generalize ee:o[i]=e at h1;have hbd:=ZvK hg h2;have es:IntKind.wrap .u64 ((c:Int)+((g*x:Nat):Int))=((c+g*x:Nat):Int):=by simp only[Bw]at hc;rw[←Int.natCast_add,Zn4 (by omega)]
  rw[Zzs hg h2,es,Zsh,Zzf h1 (Nat.mod_lt _ (by decide)) hb,ZnD,ZnC];dsimp only;rw[ZnF,ZnF,ZnF,stw _ hi1,show (32:Int)=((32:Nat):Int)from rfl,Zvq 32 (by omega)];refine⟨ZqJ ⟨by omega,by omega⟩,ZqJ ⟨by omega,by omega⟩,by decide,ZnG (by omega), ?_⟩;have hlo:(c+g*x) % 4294967296 < 4294967296:=Nat.mod_lt _ (by decide);have hhi:(c+g*x) / 2 ^ 32 < Bw:=by simp only[Bw]at hc⊢;omega
  have hs:(c+g*x) % 4294967296+Bw*((c+g*x) / 2 ^ 32)=c+g*x:=Nat.mod_add_div _ _;generalize (c+g*x) % 4294967296=lo at*
  generalize (c+g*x) / 2 ^ 32=hi' at*
  refine ih ((if e < lo+b then 1 else 0),hi',o.set i ((e+4294967296 - lo - b) % 4294967296)) ⟨by dsimp only;split<;>omega,hhi,by simp[hol],hod.set _ (Nat.mod_lt _ (by decide)), ?_⟩;dsimp only;have q1:=Zvf o i ((e+4294967296 - lo - b) % 4294967296) hi1;rw[ee]at q1;have e1:e+Bw*(if e < lo+b then 1 else 0)=(e+4294967296 - lo - b) % 4294967296+lo+b:=by simp only[Bw]at h1⊢;split<;>omega
  have q2:Bw ^ i*(e+Bw*(if e < lo+b then 1 else 0))=Bw ^ i*((e+4294967296 - lo - b) % 4294967296+lo+b):=by rw[e1]
  have q3:Bw ^ i*(lo+Bw*hi')=Bw ^ i*(c+g*x):=by rw[hs]
  have q4:g*(Bw ^ i*x)=Bw ^ i*(g*x):=Nat.mul_left_comm _ _ _;rw[Nat.mul_add,Nat.mul_add,Nat.mul_add]at q2;rw[Nat.mul_add,Nat.mul_add]at q3;rw[Nat.mul_add]at hv;rw[Nat.pow_succ,Nat.mul_assoc,ZnZ hi2,ex,Nat.mul_add,Nat.mul_add Bw,Nat.mul_add];omega
 ·rintro rec ⟨b,c,o⟩ ⟨hb,hc,hol,hod,hv⟩;dsimp only at hb hc hol hod hv;unfold Ztc ZrL;dsimp only;rw[Zob];refine⟨fun h=>by have:=of_decide_eq_true h;omega,fun _=> ?_⟩;rw[ZnC];rw[List.take_of_length_le (by omega)]at hv;exact⟨b,c,o,rfl,hb,hc,hol,hod,hv⟩
 ·rintro y ⟨b,c,o,rfl,hb,hc,hol,hod,hv⟩;dsimp only;have hi1:m+2 < o.length:=by omega
  have h1:=hod.get hi1;unfold ZtR;rw[ZnF,ZnD,Int.toNat_natCast,rdw hi1,ZnC,ZsF hc];generalize ee:o[m+2]=e at h1;rw[Zzf h1 hc hb,ZnD,ZnC];dsimp only;rw[ZnF,stw _ hi1,ZsF hg];refine⟨ZqJ ⟨by omega,by omega⟩,ZqJ ⟨by omega,by omega⟩, ?_⟩;have q1:=Zvf o (m+2) ((e+4294967296 - c - b) % 4294967296) hi1;rw[ee]at q1;have e1:e+Bw*(if e < c+b then 1 else 0)=(e+4294967296 - c - b) % 4294967296+c+b:=by simp only[Bw]at h1 hc⊢;split<;>omega
  have q2:Bw ^ (m+2)*(e+Bw*(if e < c+b then 1 else 0))=Bw ^ (m+2)*((e+4294967296 - c - b) % 4294967296+c+b):=by rw[e1]
  rw[Nat.mul_add,Nat.mul_add,Nat.mul_add,←Nat.mul_assoc,←Nat.pow_succ]at q2;rw[Nat.mul_add]at hv;have hpw:Bw ^ (m+2+1)=Bw ^ (m+3):=rfl;rw[hpw]at q2;have hdn:Dg (o.set (m+2) ((e+4294967296 - c - b) % 4294967296)):=hod.set _ (Nat.mod_lt _ (by decide));have hlt:=Ztr hdn;rw[List.length_set,hol]at hlt;have hl3:(o.set (m+2) ((e+4294967296 - c - b) % 4294967296)).length=m+3:=by rw[List.length_set,hol]
  generalize o.set (m+2) ((e+4294967296 - c - b) % 4294967296)=w3 at*
  generalize (e+4294967296 - c - b) % 4294967296=dd at*
  by_cases hcc:e < c+b
  ·rw[if_pos hcc]at q2⊢
   rw[show (((1:Nat):Int) == 0)=false from rfl,cond_false];rw[ZnR d];exact ZzG (pre:=pre) (suf:=suf) hl3 hd hdn hdd hm hg (by omega) hg2 (by omega)
  ·rw[if_neg hcc]at q2⊢
   rw[show (((0:Nat):Int) == 0)=true from rfl,cond_true,ZnC];have key:val w3+g*val d=val w:=by omega
   have hlt3:val w3 < val d:=by have h5:(val w / val d)*val d≤g*val d:=Nat.mul_le_mul_right _ hq;have h6:=Nat.div_add_mod (val w) (val d);have h7:=Nat.mod_lt (val w) hDpos;rw[Nat.mul_comm]at h6;omega
   have eq1:val w / val d=g:=by rw[←key,Nat.add_mul_div_right _ _ hDpos,Nat.div_eq_of_lt hlt3,Nat.zero_add]
   have eq2:val w % val d=val w3:=by rw[←key,Nat.add_mul_mod_self_right,Nat.mod_eq_of_lt hlt3]
   exact⟨w3,by rw[eq1],hl3,hdn,eq2.symm⟩
theorem Zyw {pre w suf d:List Nat} {m:Nat} (hw:w.length=m+3) (hd:d.length=m+2) (hwd:Dg w) (hdd:Dg d) (hm:m≤100000) (h1:1≤d[m+1]) (hlt:val w < Bw*val d):
  wp (ZsT (iL (pre++(w++suf))) pre.length (m+3) (iL d)) (Zyz pre suf (val w) (val d) m):=by
 have hd1:=hdd.get (i:=m+1) (by omega);have hd2:=hdd.get (i:=m) (by omega);have h_u0:=hwd.get (i:=m+2) (by omega);have h_u1:=hwd.get (i:=m+1) (by omega);have h_u2:=hwd.get (i:=m) (by omega);have hdl:val (d.take m) < Bw ^ m:=by have:=Ztr (hdd.take m);rwa [List.length_take,Nat.min_eq_left (by omega)]at this
 have hwl:val (w.take m) < Bw ^ m:=by have:=Ztr (hwd.take m);rwa [List.length_take,Nat.min_eq_left (by omega)]at this
 have eW:=top3 hw;have eD:=ZBP hd;have hDpos:0 < val d:=by rw[eD];have:1*1≤(d[m+1]*Bw+d[m])*Bw ^ m:=Nat.mul_le_mul (by simp only[Bw];omega) (Nat.pow_pos (by decide));omega
 have hk1:w[m+2]≤d[m+1]:=ZAl hdl hd2 (by rw[←eW,←eD];exact hlt);have hk2:(val w / val d)*d[m+1]≤w[m+2]*Bw+w[m+1]:=ZAk hwl h_u2 (by rw[←eW,←eD];exact Nat.div_mul_le_self _ _);have hqB:val w / val d < Bw:=(Nat.div_lt_iff_lt_mul hDpos).2 hlt;have hG:∃g:Nat,(if (4294967295:Int) < (IntKind.wrap .u64 (Int.tdiv (orK .u64 (shlK .u64 (IntKind.wrap .u64 (w[m+2]:Int)) 32) (IntKind.wrap .u64 (w[m+1]:Int))) (IntKind.wrap .u64 (d[m+1]:Int))))then (4294967295:Int)else (IntKind.wrap .u64 (Int.tdiv (orK .u64 (shlK .u64 (IntKind.wrap .u64 (w[m+2]:Int)) 32) (IntKind.wrap .u64 (w[m+1]:Int))) (IntKind.wrap .u64 (d[m+1]:Int)))))=(g:Int)∧g < Bw∧val w / val d≤g∧g*d[m+1]≤w[m+2]*Bw+w[m+1]∧w[m+2]*Bw+w[m+1] < g*d[m+1]+2*Bw:=by
  rw[Zw5 h_u0 h_u1,Zn4 (by simp only[Bw]at hd1;omega)];have e1:Int.tdiv ((w[m+2]*4294967296+w[m+1]:Nat):Int) (d[m+1]:Int)=(((w[m+2]*4294967296+w[m+1]) / d[m+1]:Nat):Int):=by rw[Int.tdiv_eq_ediv_of_nonneg (by omega)];norm_cast
  have hnum:w[m+2]*4294967296+w[m+1] < 18446744073709551616:=by simp only[Bw]at h_u0 h_u1;omega
  have hle:(w[m+2]*4294967296+w[m+1]) / d[m+1]≤w[m+2]*4294967296+w[m+1]:=Nat.div_le_self _ _;rw[e1,Zn4 (by omega)];have hq2:val w / val d≤(w[m+2]*4294967296+w[m+1]) / d[m+1]:=(Nat.le_div_iff_mul_le (by omega)).2 hk2;have hdm:=Nat.div_add_mod (w[m+2]*4294967296+w[m+1]) d[m+1];have hml:=Nat.mod_lt (w[m+2]*4294967296+w[m+1]) (show 0 < d[m+1] by omega);rw[Nat.mul_comm]at hdm;generalize (w[m+2]*4294967296+w[m+1]) / d[m+1]=q0 at*
  generalize (w[m+2]*4294967296+w[m+1]) % d[m+1]=r0 at*
  generalize val w / val d=qq at*
  by_cases hc:4294967295 < q0
  ·refine⟨4294967295,by rw[if_pos (by omega)];rfl,by simp only[Bw];omega,by simp only[Bw]at hqB;omega, ?_, ?_⟩
   ·have:=Nat.mul_le_mul_right d[m+1] (show 4294967295≤q0 by omega);simp only[Bw];omega
   ·simp only[Bw]at*
    omega
  ·refine⟨q0,by rw[if_neg (by omega)],by simp only[Bw];omega,hq2, ?_, ?_⟩
   ·simp only[Bw];omega
   ·simp only[Bw]at*
    omega
 have h2:wp (ZtO (iL (pre++(w++suf))) pre.length (m+3) (iL d)) (Zyz pre suf (val w) (val d) m):=by
  obtain⟨g,hg,hgB,hgq,hgd,hgr⟩:=hG;have e1:((m+2:Nat):Int) - 1=((m+1:Nat):Int):=by omega
  unfold ZtO;rw[ZnR,hd,e1,Int.toNat_natCast,Int.toNat_natCast,rdw (by omega),rdw (by omega),ZrN (by omega)];rw[ZnF,ZnD,ZnC,ZnF,ZnF,ZnF,ZnD,ZnC,ZnF,ZnD,ZnC,ZnF,ZnF,ZnD,ZnC,hg,Zw5 h_u0 h_u1,Zzs hgB hd1,ZnD];have er:IntKind.wrap .u64 (((w[m+2]*4294967296+w[m+1]:Nat):Int) - ((g*d[m+1]:Nat):Int))=((w[m+2]*4294967296+w[m+1] - g*d[m+1]:Nat):Int):=by simp only[Bw]at hgd hgr;rw[←Int.ofNat_sub hgd,Zn4 (by omega)]
  rw[er];refine⟨ZqJ ⟨by omega,by omega⟩,by decide,ZnG (by omega),ZqJ ⟨by omega,by omega⟩,ZnG (by omega),decide_eq_true (by rw[Zn4 (by simp only[Bw]at hd1;omega)];omega),ZnG (by omega), ?_⟩;refine Zn5 (Zyv hw hd hwd hdd h1 hlt hm hgB hgq (by simp only[Bw]at hgd⊢;omega) (by simp only[Bw]at hgr⊢;omega)) ?_;rintro y ⟨g',rfl,h3,h4,h5⟩;exact Zzc hw hd hwd hdd hm h3 hDpos h4 h5
 unfold ZsT;rw[ZnD];refine Zn5 h2 ?_;rintro y ⟨w',rfl,h3,h4,h5⟩;rw[ZnF,ZnC];refine⟨?_,w',rfl,h3,h4,h5⟩;dsimp only;rw[ZnR,ZnR];simp[h3,hw]
end Go.Proofs
