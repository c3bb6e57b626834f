/- The engine, part TQ: package variables, out of a row's condition. -/
import Derived.Test.YteopakpakelkoaaGreatDoorE4
import Derived.Lib.LaidU8
import Derived.OpenShut
set_option linter.unusedVariables false
set_option linter.unusedSimpArgs false
set_option linter.unusedSectionVars false
open Array renaming getElem?_eq_getElem→ZVx
open List renaming getElem?_map→Z0u, getElem?_eq_some_iff→Z0t
open Option renaming some.injEq→Z0x, some.inj→Z0w, map_some→Z0v
namespace Eng
open Go Go.Lib
theorem ZJy {Pg:Program} {w:World} {n:String} {cs:Array Value} {g:Nat} (hn:Pg.globalNamed n=some g) (h:w.var? Pg n=some cs):∃t fr,w.heap[g]? =some (.cells cs t fr):=by unfold World.var? at h;rw[hn,Option.bind_some]at h;split at h;rotate_left;simp at h;rename_i c t fr hb;cases h;exact⟨_,_,hb⟩
theorem ZHE {w:World} {g:Nat} {cs:Array Value} {t:TypeId} {fr:Array (Nat×Nat)} (hb:∃t fr,w.heap[g]? =some (.cells cs t fr)) (ps:List P) (hl:cs.size=ps.length)
  (h:∀(j:Nat) v p,cs[j]? =some v→ps[j]? =some p→RelP w (fun b _=>b < w.heap.size) v p∧Zbp v):ZeC w (fun b _=>b < w.heap.size) g ps:=by
 obtain⟨t,fr,hb⟩:=hb;refine⟨fun _=>Zd8 hb,.ptr g 0 ps (fun j=>cs.getD j default) (fun j c hj=>⟨Zd8 hb, ?_⟩) (fun j c hj=> ?_) (fun j c hj=> ?_),cs,t,fr,hb,hl⟩
 ·have hlt:=(Z0t.1 hj).1;simp only[World.cell?,hb,Nat.zero_add];rw[ZVx (by omega)];simp[show j < cs.size by omega]
 ·have hlt:=(Z0t.1 hj).1;have e:cs[j]? =some (cs.getD j default):=by rw[ZVx (by omega)];simp[show j < cs.size by omega]
  exact(h j _ c e hj).2
 ·have hlt:=(Z0t.1 hj).1;have e:cs[j]? =some (cs.getD j default):=by rw[ZVx (by omega)];simp[show j < cs.size by omega]
  exact(h j _ c e hj).1
theorem ZNg {w:World} {S:Fz} {k:IntKind} {z:Int} (h:k.min≤z∧z≤k.max):RelP w S (.int k z) (.int k z)∧Zbp (.int k z):=⟨.int k z h.1 h.2,rfl⟩
theorem globOk_tab {Pg:Program} {w:World} {n:String} {g:Nat} {t e:TypeId} {m:Nat} {k:IntKind} {zs:List Int} (hn:Pg.globalNamed n=some g) (hty:(Pg.globals[g]?).map (·.type)=some t)
  (ht:Pg.underlying t=some (.array m e)) (he:Pg.underlying e=some (.int k)) (hce:Pg.cellsOf e=1) (hct:Pg.cellsOf t=m) (hz:zs.all (fun z=>decide (k.min≤z∧z≤k.max))=true)
  (h:VarReads Pg w n (tabData k zs)):ZeC w (fun b _=>b < w.heap.size) g (zs.map fun z=>P.int k z):=by
 obtain⟨g',t',cs,fuel,p,hg,hty',hvar,hd⟩:=h;obtain rfl:=Z0w (hn.symm.trans hg);obtain rfl:=Z0w (hty.symm.trans hty');have hcs:=cells_of_tab ht he hce hct hd;refine ZHE (t:=0) (fr:= #[]) (ZJy hn hvar) _ (by rw[←Array.length_toList,hcs];simp) fun j v p hv hp=> ?_
 rw[←Array.getElem?_toList,hcs,Z0u]at hv;rw[Z0u]at hp;obtain⟨z,hzj,rfl⟩:=Option.map_eq_some_iff.1 hv;rw[hzj]at hp;simp only[Z0v,Z0x]at hp;subst hp;exact ZNg (of_decide_eq_true (List.all_eq_true.1 hz z (List.mem_of_getElem? hzj)))
theorem globOk_tab2 {Pg:Program} {w:World} {n:String} {g:Nat} {t e f:TypeId} {fs:Array Field} {m c:Nat} {k:IntKind} {zss:List (List Int)} {ps:List P} (hn:Pg.globalNamed n=some g) (hty:(Pg.globals[g]?).map (·.type)=some t)
  (ht:Pg.underlying t=some (.array m e)) (he:Pg.underlying e=some (.struct fs)) (hf:∀(i:Nat) (x:Field),fs[i]? =some x→Pg.underlying x.type=some (.int k)∧x.offset=i∧Pg.cellsOf x.type=1)
  (hce:Pg.cellsOf e=c) (hfs:fs.size=c) (hct:Pg.cellsOf t=m*c) (hc0:0 < c) (hm:zss.length=m) (hz:zss.all (fun zs=>decide (zs.length=c)&&zs.all (fun z=>decide (k.min≤z∧z≤k.max)))=true)
  (hps:(List.range m).map (fun i=>(ps.drop (i*c)).take c)=zss.map (fun zs=>zs.map fun z=>P.int k z)) (hpl:ps.length=m*c)
  (h:VarReads Pg w n (.agg (zss.map fun zs=> .agg (zs.map fun z=> .lit (.int k z))))):ZeC w (fun b _=>b < w.heap.size) g ps:=by
 obtain⟨g',t',cs,fuel,p,hg,hty',hvar,hd⟩:=h;obtain rfl:=Z0w (hn.symm.trans hg);obtain rfl:=Z0w (hty.symm.trans hty');obtain⟨xs,n0,rfl,hx,hcl,hxl,_⟩:=DataW.trod_array ht hd;rw[hct]at hcl;have hcl':cs.size=m*c:=by simpa using hcl
 refine ZHE (t:=0) (fr:= #[]) (ZJy hn hvar) _ (by rw[hcl',hpl]) fun j v p hv hp=> ?_
 have hj:j < m*c:=by have:=(Array.getElem?_eq_some_iff.1 hv).1;omega
 have hi:j / c < m:=Nat.div_lt_of_lt_mul (by rw[Nat.mul_comm];exact hj);have hr:j % c < c:=Nat.mod_lt _ hc0;have hjc:j / c*c+j % c=j:=by rw[Nat.mul_comm];exact Nat.div_add_mod j c
 obtain⟨fuel',d,q,hdi,hel⟩:=array_elem ht hd (j / c) hi;obtain⟨zs,hzs⟩:∃zs,zss[j / c]? =some zs:=⟨_,List.getElem?_eq_getElem (by omega)⟩;rw[Z0u,hzs]at hdi;simp only[Z0v,Z0x]at hdi;subst hdi;have hzl:=List.all_eq_true.1 hz zs (List.mem_of_getElem? hzs);simp only[Bool.and_eq_true,decide_eq_true_eq]at hzl;have hcs:=ints_of_struct he hf (by rw[hce,hfs]) hel;rw[hce]at hcs;have e1:=congrArg (·[j % c]?) hcs;simp only[List.getElem?_take,if_pos hr,List.getElem?_drop,hjc,Array.getElem?_toList]at e1;rw[hv,Z0u]at e1;have e2:=congrArg (·[j / c]?) hps;simp only[Z0u,List.getElem?_range hi,hzs,Z0v,Z0x]at e2;have e3:=congrArg (·[j % c]?) e2;simp only[List.getElem?_take,if_pos hr,List.getElem?_drop,hjc]at e3;rw[hp,Z0u]at e3;obtain⟨z,hzj⟩:∃z,zs[j % c]? =some z:=⟨_,List.getElem?_eq_getElem (by omega)⟩;rw[hzj]at e1 e3;simp only[Z0v,Z0x]at e1 e3;subst e1;subst e3;exact ZNg (of_decide_eq_true (List.all_eq_true.1 hzl.2 z (List.mem_of_getElem? hzj)))
end Eng
