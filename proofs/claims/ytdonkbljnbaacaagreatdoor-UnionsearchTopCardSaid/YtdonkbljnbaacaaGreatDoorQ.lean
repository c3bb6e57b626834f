/- The engine, part TQ: package variables, out of a row's condition. -/
import Derived.Test.YtdonkbljnbaacaaGreatDoorE4
import Derived.Lib.LaidU8
import Derived.OpenShut
set_option linter.unusedVariables false
set_option linter.unusedSimpArgs false
set_option linter.unusedSectionVars false
open Array renaming getElem?_eq_getElem→ZW1
open List renaming getElem?_map→Z2j, getElem?_eq_some_iff→Z2i
open Option renaming some.injEq→Z2m, some.inj→Z2l, map_some→Z2k
namespace Eng
open Go Go.Lib
theorem ZKs {Pg:Program} {w:World} {n:String} {cs:Array Value} {g:Nat} (hn:Pg.globalNamed n=some g) (h:w.var? Pg n=some cs):∃t fr,w.heap[g]? =some (.cells cs t fr):=by unfold World.var? at h;rw[hn,Option.bind_some]at h;split at h;rotate_left;simp at h;rename_i c t fr hb;cases h;exact⟨_,_,hb⟩
theorem ZIr {w:World} {g:Nat} {cs:Array Value} {t:TypeId} {fr:Array (Nat×Nat)} (hb:∃t fr,w.heap[g]? =some (.cells cs t fr)) (ps:List P) (hl:cs.size=ps.length)
  (h:∀(j:Nat) v p,cs[j]? =some v→ps[j]? =some p→RelP w (fun b=>b < w.heap.size) v p∧Zbp v):ZeC w (fun b=>b < w.heap.size) g ps:=by
 obtain⟨t,fr,hb⟩:=hb;refine⟨.ptr g 0 ps (fun j=>cs.getD j default) (Zd8 hb) (fun j c hj=> ?_) (fun j c hj=> ?_) (fun j c hj=> ?_),cs,t,fr,hb,hl⟩
 ·have hlt:=(Z2i.1 hj).1;simp only[World.cell?,hb,Nat.zero_add];rw[ZW1 (by omega)];simp[show j < cs.size by omega]
 ·have hlt:=(Z2i.1 hj).1;have e:cs[j]? =some (cs.getD j default):=by rw[ZW1 (by omega)];simp[show j < cs.size by omega]
  exact(h j _ c e hj).2
 ·have hlt:=(Z2i.1 hj).1;have e:cs[j]? =some (cs.getD j default):=by rw[ZW1 (by omega)];simp[show j < cs.size by omega]
  exact(h j _ c e hj).1
theorem ZOf {w:World} {S:Nat→Prop} {k:IntKind} {z:Int} (h:k.min≤z∧z≤k.max):RelP w S (.int k z) (.int k z)∧Zbp (.int k z):=⟨.int k z h.1 h.2,rfl⟩
theorem globOk_tab {Pg:Program} {w:World} {n:String} {g:Nat} {t e:TypeId} {m:Nat} {k:IntKind} {zs:List Int} (hn:Pg.globalNamed n=some g) (hty:(Pg.globals[g]?).map (·.type)=some t)
  (ht:Pg.underlying t=some (.array m e)) (he:Pg.underlying e=some (.int k)) (hce:Pg.cellsOf e=1) (hct:Pg.cellsOf t=m) (hz:zs.all (fun z=>decide (k.min≤z∧z≤k.max))=true)
  (h:VarReads Pg w n (tabData k zs)):ZeC w (fun b=>b < w.heap.size) g (zs.map fun z=>P.int k z):=by
 obtain⟨g',t',cs,fuel,p,hg,hty',hvar,hd⟩:=h;obtain rfl:=Z2l (hn.symm.trans hg);obtain rfl:=Z2l (hty.symm.trans hty');have hcs:=cells_of_tab ht he hce hct hd;refine ZIr (t:=0) (fr:= #[]) (ZKs hn hvar) _ (by rw[←Array.length_toList,hcs];simp) fun j v p hv hp=> ?_
 rw[←Array.getElem?_toList,hcs,Z2j]at hv;rw[Z2j]at hp;obtain⟨z,hzj,rfl⟩:=Option.map_eq_some_iff.1 hv;rw[hzj]at hp;simp only[Z2k,Z2m]at hp;subst hp;exact ZOf (of_decide_eq_true (List.all_eq_true.1 hz z (List.mem_of_getElem? hzj)))
theorem globOk_tab2 {Pg:Program} {w:World} {n:String} {g:Nat} {t e f:TypeId} {fs:Array Field} {m c:Nat} {k:IntKind} {zss:List (List Int)} {ps:List P} (hn:Pg.globalNamed n=some g) (hty:(Pg.globals[g]?).map (·.type)=some t)
  (ht:Pg.underlying t=some (.array m e)) (he:Pg.underlying e=some (.struct fs)) (hf:∀(i:Nat) (x:Field),fs[i]? =some x→Pg.underlying x.type=some (.int k)∧x.offset=i∧Pg.cellsOf x.type=1)
  (hce:Pg.cellsOf e=c) (hfs:fs.size=c) (hct:Pg.cellsOf t=m*c) (hc0:0 < c) (hm:zss.length=m) (hz:zss.all (fun zs=>decide (zs.length=c)&&zs.all (fun z=>decide (k.min≤z∧z≤k.max)))=true)
  (hps:(List.range m).map (fun i=>(ps.drop (i*c)).take c)=zss.map (fun zs=>zs.map fun z=>P.int k z)) (hpl:ps.length=m*c)
  (h:VarReads Pg w n (.agg (zss.map fun zs=> .agg (zs.map fun z=> .lit (.int k z))))):ZeC w (fun b=>b < w.heap.size) g ps:=by
 obtain⟨g',t',cs,fuel,p,hg,hty',hvar,hd⟩:=h;obtain rfl:=Z2l (hn.symm.trans hg);obtain rfl:=Z2l (hty.symm.trans hty');obtain⟨xs,n0,rfl,hx,hcl,hxl,_⟩:=DataW.trod_array ht hd;rw[hct]at hcl;have hcl':cs.size=m*c:=by simpa using hcl
 refine ZIr (t:=0) (fr:= #[]) (ZKs hn hvar) _ (by rw[hcl',hpl]) fun j v p hv hp=> ?_
 have hj:j < m*c:=by have:=(Array.getElem?_eq_some_iff.1 hv).1;omega
 have hi:j / c < m:=Nat.div_lt_of_lt_mul (by rw[Nat.mul_comm];exact hj);have hr:j % c < c:=Nat.mod_lt _ hc0;have hjc:j / c*c+j % c=j:=by rw[Nat.mul_comm];exact Nat.div_add_mod j c
 obtain⟨fuel',d,q,hdi,hel⟩:=array_elem ht hd (j / c) hi;obtain⟨zs,hzs⟩:∃zs,zss[j / c]? =some zs:=⟨_,List.getElem?_eq_getElem (by omega)⟩;rw[Z2j,hzs]at hdi;simp only[Z2k,Z2m]at hdi;subst hdi;have hzl:=List.all_eq_true.1 hz zs (List.mem_of_getElem? hzs);simp only[Bool.and_eq_true,decide_eq_true_eq]at hzl;have hcs:=ints_of_struct he hf (by rw[hce,hfs]) hel;rw[hce]at hcs;have e1:=congrArg (·[j % c]?) hcs;simp only[List.getElem?_take,if_pos hr,List.getElem?_drop,hjc,Array.getElem?_toList]at e1;rw[hv,Z2j]at e1;have e2:=congrArg (·[j / c]?) hps;simp only[Z2j,List.getElem?_range hi,hzs,Z2k,Z2m]at e2;have e3:=congrArg (·[j % c]?) e2;simp only[List.getElem?_take,if_pos hr,List.getElem?_drop,hjc]at e3;rw[hp,Z2j]at e3;obtain⟨z,hzj⟩:∃z,zs[j % c]? =some z:=⟨_,List.getElem?_eq_getElem (by omega)⟩;rw[hzj]at e1 e3;simp only[Z2k,Z2m]at e1 e3;subst e1;subst e3;exact ZOf (of_decide_eq_true (List.all_eq_true.1 hzl.2 z (List.mem_of_getElem? hzj)))
end Eng
