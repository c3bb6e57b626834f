/- The engine, text 2: an abstract evaluator of Go code over pure data, proved sound. -/
import Derived.Test.YteopakpakelkoaaGreatDoorE1
import Derived.Laws.Tables
import Derived.Laws.AppendOwn
import Derived.Laws.IdiomRangeMap
import Derived.Laws.RangeAny
import Derived.CallsIn
set_option linter.all false
open Array renaming getElem?_eq_getElem->Znp, getElem?_eq_some_iff->Znq, mem_iff_getElem->Zns, mem_toList_iff->Znt, getElem?_append->ZnQ, getElem?_modify->ZnR, getElem?_toList->ZnS, toArray_toList->ZnT
open Bool renaming and_eq_true->Znu, not_eq_true'->ZnU, or_eq_false_iff->Zom
open List renaming getElem?_cons_zero->Zny, getElem?_drop->Znz, getElem?_eq_some_iff->ZnA, getElem?_map->ZnB, getElem?_take->ZnC, map_cons->Zn6, mem_append->Zn7, mem_cons->ZnD, mem_cons_self->ZnE, mem_flatMap->Zob, mem_singleton->ZnF, replicate->ZnG, all_eq_true->ZnV, any_eq_true->ZnW, cons_append->ZnX, contains_iff_mem->ZnY, eq_nil_of_length_eq_zero->ZnZ, getElem?_append_left->Zn0, getElem?_append_right->Zn1, getElem?_cons_succ->Zop, getElem?_eq_getElem->Zn2, getElem?_set_ne->Zn3, getElem?_set_self->Zn4, length_replicate->Zn5, mem_append_left->Zn8, mem_append_right->Zn9, mem_cons_of_mem->Zoa, mem_iff_getElem->Zoc, mem_map->Zod, mem_of_getElem?->Zoe, pairwise_iff_getElem->Zof, range'->Zog, flatMap_cons->Zon, length_map->Zor, mem_iff_getElem?->Zou
open Nat renaming add_assoc->ZnH, add_mul->ZnI, le_refl->ZnJ, mul_le_mul_right->ZnK, add_zero->Zoh, mul_le_mul_left->Zoi, one_mul->Zoj, zero_add->Zok
open Option renaming map_eq_some_iff->ZnM, some.inj->ZnN, some.injEq->ZnO, map_some->Zow
open Prod renaming mk.injEq->ZnP
namespace Eng
open Go
theorem Ziq (a:Nat):∀(l:List Value) (k:Nat) (cs:Array Value),
  ((l.zipIdx k).foldl (fun cs (c,j)=>cs.setIfInBounds (a+j) c) cs).size=cs.size/\
  ∀m,((l.zipIdx k).foldl (fun cs (c,j)=>cs.setIfInBounds (a+j) c) cs)[m]? =if a+k<=m/\m < a+k+l.length/\m < cs.size then l[m - (a+k)]? else cs[m]?
 | [],k,cs=>⟨rfl,fun m=>by simp;omega⟩
 |x::l,k,cs=>by
  obtain⟨b,d⟩:=Ziq a l (k+1) (cs.setIfInBounds (a+k) x);grind[List.zipIdx_cons]
theorem Zeb (a:Nat) (v cs:Array Value):
  (v.zipIdx.foldl (fun cs (c,j)=>cs.setIfInBounds (a+j) c) cs).size=cs.size/\
  ∀m,(v.zipIdx.foldl (fun cs (c,j)=>cs.setIfInBounds (a+j) c) cs)[m]? =if a<=m/\m < a+v.size/\m < cs.size then v[m - a]? else cs[m]? :=by
 have:=Ziq a v.toList 0 cs;grind[Array.toList_zipIdx]
theorem ZbN {a:Type} (xs:List a) (j:Nat) (b:List a) (h:j+b.length<=xs.length):(ZT xs j b).length=xs.length:=by grind[ZT]
theorem ZbO {b:Type} (xs:List b) (j:Nat) (a:List b) (h:j+a.length<=xs.length) (m:Nat):
  (ZT xs j a)[m]? =if j<=m/\m < j+a.length then a[m - j]? else xs[m]? :=by
 unfold ZT;have c:(xs.take j).length=j:=by simp;omega
 by_cases h1:m < j
 ·rw[if_neg (by omega),List.append_assoc,List.getElem?_append_left (by omega),ZnC,if_pos h1]
 ·by_cases h2:m < j+a.length
  ·rw[if_pos (by omega),List.append_assoc,List.getElem?_append_right (by omega),c,List.getElem?_append_left (by omega)]
  ·rw[if_neg (by omega),List.getElem?_append_right (by simp;omega),Znz];congr 1;simp;omega
theorem ZaY {lk:Id->Option Obj}:∀(n:Nat) (d:D) (x:P),d.toP lk n=some x->∀id,id∈d.ids lk n->∃o,lk id=some o/\o≠ .gone:=by
 have base:∀(n:Nat) (d:D) (x:P),(∀cs,d≠ .agg cs)->(∀id i j,d≠ .ptr id i j)->(∀f a b,d≠ .fn f a b)->d.toP lk n=some x->∀id,id∈d.ids lk n->∃o,lk id=some o/\o≠ .gone:=by
  intro n d x C E z g id hi;cases d with
  |sl q B len=>
   simp only[ids_sl,ZnF]at hi;subst hi;rw[Zbm]at g;split at g;rotate_left;simp at g;rename_i sz es fix h;exact⟨_,h,by simp⟩
  |map q=>
   simp only[ZmO,ZnF]at hi;subst hi;rw[Zbu]at g;split at g;rotate_left;simp at g;rename_i h;exact⟨_,h,by simp⟩
  |agg cs=>exact absurd rfl (C cs)
  |ptr id i j=>exact absurd rfl (E id i j)
  |fn f a b=>exact absurd rfl (z f a b)
  |it id=>cases n<;>simp[D.toP]at g
  |tup vs=>cases n<;>simp[D.toP]at g
  |rp y q=>cases n<;>simp[D.toP]at g
  |_=>cases n<;>simp[D.ids]at hi
 intro n
 induction n with
 |zero=>
  intro d x g;refine base 0 d x ?_ ?_ ?_ g
  all_goals (intros;intro s;subst s;simp[D.toP]at g)
 |succ n v=>
  have l:∀(cs:List D) p,Zj (D.toP lk n) cs=some p->∀id,id∈cs.flatMap (D.ids lk n)->∃o,lk id=some o/\o≠ .gone:=by intro cs p m id e;obtain⟨w,hi⟩:=Zh m;obtain⟨c,s,e⟩:=Zob.1 e;obtain⟨k,u,rfl⟩:=List.mem_iff_getElem.1 s;exact v _ _ (hi k cs[k] p[k] (by simp[u]) (by simp[w,u])) id e
  intro d x g id e;cases d with
  |agg cs=>
   simp only[D.toP,ZnM]at g;obtain⟨p,m,rfl⟩:=g;exact l cs p m id (by simpa[D.ids]using e)
  |ptr q i j=>
   simp only[D.toP]at g;simp only[D.ids,ZnD]at e;split at g
   ·rename_i cs h;rcases e with rfl |e
    ·exact⟨_,h,by simp⟩
    ·rw[h]at e;split at g;rotate_left;simp at g;simp only[ZnM]at g;obtain⟨p,m,rfl⟩:=g;exact l _ p m id e
   ·rename_i sz es fix h;rcases e with rfl |e
    ·exact⟨_,h,by simp⟩
    ·rw[h]at e;simp at e
   ·simp at g
  |fn f a b=>
   simp only[D.toP]at g;simp only[D.ids,Zn7]at e;split at g;rotate_left;simp at g;rename_i pa A r t;rcases e with e |e
   ·exact l a pa r id e
   ·exact l b A t id e
  |_=>exact base (n+1) _ x (by simp) (by simp) (by simp) g id e
section
variable {C:Ctx} {X:Nat->Prop} {ρ:Id->Option Lay} {S:Fz} {st:St} {a:Act} {w:World} {i:Nat} {o:Oper} {e:Eff}
theorem Zgw {us:Array Value} {cs:List D} (f:us.size=cs.length) (h:∀(j:Nat) u d,us[j]? =some u->cs[j]? =some d->RelD w S ρ u d/\Zbp u):RelD w S ρ (.agg us) (.mkAgg cs):=by
 unfold D.mkAgg;split
 ·rename_i g i;have:=Zx i;subst this;refine .p _ _ (.agg us g (by simpa using f) (fun j v a=> ?_) (fun j v c a e=> ?_))
  ·have b:j < (g.map D.p).length:=by have:=(Znq.1 a).1;omega
   exact(h j v _ a (List.getElem?_eq_getElem b)).2
  ·exact(h j v (.p c) a (by simp[e])).1.of_p
 ·refine .agg us cs f (fun j v a=> ?_) (fun j v c a e=>(h j v c a e).1);have b:j < cs.length:=by have:=(Znq.1 a).1;omega
  exact(h j v _ a (List.getElem?_eq_getElem b)).2
section
variable (h:Rep C X ρ S st a.tmps w) (hi:¬X i) (ht:∀d,o.dst=some d->d < C.E.nt) (hlit:o.op.operands.all ZE=true) (hE:Zl C.E)
include h
theorem Ze8 {ti:TI} {place:Nat->Option (Nat×Nat)} (hp:∀i off t tp,ti.part C.E i=some (off,t)->C.E.ty t=some tp->place i=some (off,tp.size)):
  ∀(parts:List (Nat×Operand)),(∀p∈parts,ZE p.2=true)->∀(us:Array Value) (cs cs':List D),us.size=cs.length->(∀(j:Nat) u d,us[j]? =some u->cs[j]? =some d->RelD w S ρ u d/\Zbp u)->
   Zb4 C.E st.slots ti parts cs=some cs'->
   ∃us',Instr.fill place us (parts.map fun p=>(p.1,a.eval p.2))=some us'/\us'.size=cs'.length/\∀(j:Nat) u d,us'[j]? =some u->cs'[j]? =some d->RelD w S ρ u d/\Zbp u:=by
 intro parts
 induction parts with
 |nil=>intro _ us cs cs' hl hr hf;simp only[Zb4,ZnO]at hf;subst hf;exact⟨us,rfl,hl,hr⟩
 |cons p parts ih=>
  intro hlp us cs cs' hl hr hf;obtain⟨k,x⟩:=p;simp only[Zb4]at hf;split at hf;rotate_left;simp at hf;rename_i off t hpt;split at hf;rotate_left;simp at hf;rename_i tp hty;split at hf;rotate_left;simp at hf;rename_i hsz;obtain⟨h1,h2,h3⟩:=hsz;have hx:=Zm h t (x:=x) (hlp (k,x) (by simp));obtain⟨hc1,hc2⟩:=Zem hx h3;obtain⟨g1,g2⟩:=Zeb off (a.eval x).cells us;obtain⟨us',e1,e2,e3⟩:=ih (fun p hp=>hlp p (by grind)) ((a.eval x).cells.zipIdx.foldl (fun cs (c,j)=>cs.setIfInBounds (off+j) c) us) _ cs' (by grind[ZbN]) (by
   intro j u d hu hd;rw[g2]at hu;grind[ZbO]) hf
  grind[Instr.fill]
include hi ht hE hlit
theorem Zjg {t:TypeId} {c:Array (Nat×Operand)} (Z:o.op= .build t c) (E:Zf C.E st.ep i o.op o.type st.slots st.objs=some e):Zv C X st a w i o e:=by
 rw[Z]at E;have V:∀p∈c.toList,ZE p.2=true:=by intro p F;rw[Z]at hlit;simp only[Op.operands,Array.all_eq_true_iff_forall_mem]at hlit;exact hlit p.2 (by simp;exact⟨p.1,by simpa using F⟩)
 simp only[Zf]at E;split at E;rotate_left;simp at E;rename_i ti W;split at E;rotate_left;simp at E;rename_i aa;split at E;rotate_left;simp at E;rename_i cs N;simp only[ZnO]at E;obtain⟨ii,ds,z,g⟩:=hE.is W;obtain⟨z',hz,T,ag,G⟩:=Zf5 (ρ:=ρ) (S:=S) (w:=w) hE W;have ab:z'=z:=by have h1:=hz w;rw[Z0 g.info g.zero w]at h1;simpa using h1.symm
 subst ab;have af:∃r,C.E.prog.built t (c.map fun p=>(p.1,a.eval p.2)).toList=some r/\r.size=cs.length/\∀(j:Nat) u d,r[j]? =some u->cs[j]? =some d->RelD w S ρ u d/\Zbp u:=by
  cases M:ti.d with
  |struct fs=>
   have x:=g.td;have y:=g.eq;rw[M]at x y;cases ds<;>simp[Zat]at x;rename_i gs;simp only[Znu,List.all_eq_true]at y;have D:∃b,gs.toList.mapM (fun f=>(C.E.prog.info? f.type).map fun i=>(f.offset,i.size))=some b/\
     ∀(k:Nat) m A B,fs[k]? =some (m,A)->C.E.ty A=some B->b.toArray[k]? =some (m,B.size):=by
    have ac:∀(l:List Field),(∀f∈l,(C.E.prog.info? f.type).isSome=true)->∃b,l.mapM (fun f=>(C.E.prog.info? f.type).map fun i=>(f.offset,i.size))=some b/\
      ∀(k:Nat) m A B,(l.map fun f=>(f.offset,f.type))[k]? =some (m,A)->C.E.ty A=some B->b.toArray[k]? =some (m,B.size):=by
     intro l
     induction l with
     |nil=>intro _;exact⟨[],rfl,by simp⟩
     |cons f l ih=>
      intro H;obtain⟨p1,q1,R⟩:=ih fun f hf=>H f (by simp[hf])
      obtain⟨ae,J⟩:=Option.isSome_iff_exists.1 (H f (by simp));refine⟨(f.offset,ae.size)::p1,by simp[List.mapM_cons,J,q1],fun k m A B L s=> ?_⟩;cases k with
      |zero=>
       simp only[Zn6,Zny,ZnO,ZnP]at L;obtain⟨rfl,rfl⟩:=L;obtain⟨O,q,K,_⟩:=hE.info s;rw[J]at q;obtain rfl:=ZnN q;simp[K]
      |succ k=>
       simp only[Zn6,List.getElem?_cons_succ]at L;have:=R k m A B L s;simpa using this
    obtain⟨p1,q1,R⟩:=ac gs.toList (fun f hf=>by have:=y.2 (f.offset,f.type) (by rw[<-x.1];exact List.mem_map.2 ⟨f,hf,rfl⟩);simpa using this)
    exact⟨p1,q1,fun k m A B L s=>R k m A B (by rw[x.1];exact L) s⟩
   obtain⟨b,q1,R⟩:=D;obtain⟨r,Q,U,Y⟩:=Ze8 h (ti:=ti) (place:=(b.toArray[·]?)) (fun k m A B F s=>by simp only[TI.part,M]at F;exact R k m A B F s) c.toList V z'.cells _ cs (by simpa using T) G N
   refine⟨r, ?_,U,Y⟩;simp only[Program.built,g.info,g.und,g.zero,q1];simpa using Q
  |arr n el=>
   have x:=g.td;rw[M]at x;cases ds<;>simp[Zat]at x;obtain⟨rfl,rfl⟩:=x;rename_i n el;have y:=g.eq;rw[M]at y;cases hte:C.E.prog.info? el with
   |none=>simp[hte]at y
   |some ie=>
    obtain⟨r,Q,U,Y⟩:=Ze8 h (ti:=ti) (place:=fun k=>some (k*ie.size,ie.size)) (fun k m A B F s=>by
     simp only[TI.part,M]at F;split at F
     ·rename_i te I;simp only[ZnO,ZnP]at F;obtain⟨rfl,rfl⟩:=F;rw[I]at s;obtain rfl:=ZnN s;obtain⟨O,q,K,_⟩:=hE.info I;rw[hte]at q;obtain rfl:=ZnN q;rw[K]
     ·simp at F) c.toList V z'.cells _ cs (by simpa using T) G N
    refine⟨r, ?_,U,Y⟩;simp only[Program.built,g.info,g.und,g.zero,hte];simpa using Q
  |_=>simp[TI.isAgg,M]at aa
 obtain⟨r,Q,U,Y⟩:=af;subst E;refine Zv.quiet h hi ht (v:= .agg r) ?_ rfl rfl rfl (Zgw U Y);have:=run_build (P:=C.E.prog) w t (c.map fun p=>(p.1,a.eval p.2)) r Q;simp only[execOp,Z,Sem.run_bind,this,Result.andThen_ok,Sem.run_pure]
def Zjy (w:World) (S:Fz) (sz:Nat) (us:Array Value) (es:List P):Prop:=
 us.size=es.length*sz/\∃evs:Nat->Value,(∀j,j < es.length->(evs j).cells.size=sz/\∀(k:Nat) v,(evs j).cells[k]? =some v->us[j*sz+k]? =some v)/\∀(j:Nat) x,es[j]? =some x->RelP w S (evs j) x
omit h hi ht hlit hE in
theorem Zjy.set {sz:Nat} {us:Array Value} {es:List P} (hr:Zjy w S sz us es) {k:Nat} {v:Value} {y:P} (hk:k < es.length) (hv:v.cells.size=sz) (hy:RelP w S v y):
  Zjy w S sz (v.cells.zipIdx.foldl (fun cs (c,j)=>cs.setIfInBounds (k*sz+j) c) us) (es.set k y):=by
 obtain⟨h1,evs,h2,h3⟩:=hr
 obtain⟨g1,g2⟩:=Zeb (k*sz) v.cells us
 have hks:(k+1)*sz<=es.length*sz:=Nat.mul_le_mul_right _ hk
 rw[Nat.add_mul,Nat.one_mul]at hks
 refine⟨by rw[g1,h1];simp,fun j=>if j=k then v else evs j,fun j hj=> ?_,fun j x hx=> ?_⟩
 ·simp only[List.length_set]at hj
  by_cases hjk:j=k
  ·subst hjk
   simp only[if_true]
   refine⟨hv,fun m u hu=> ?_⟩
   have hm:m < sz:=by have:=(Array.getElem?_eq_some_iff.1 hu).1;omega
   rw[g2,if_pos (by omega),show j*sz+m - j*sz=m by omega]
   exact hu
  ·simp only[hjk,if_false]
   refine⟨(h2 j hj).1,fun m u hu=> ?_⟩
   have hm:m < sz:=by have:=(Array.getElem?_eq_some_iff.1 hu).1;have:=(h2 j hj).1;omega
   rw[g2,if_neg]
   ·exact(h2 j hj).2 m u hu
   ·rintro⟨q1,q2,_⟩
    rcases Nat.lt_or_gt_of_ne hjk with hlt |hgt
    ·have:(j+1)*sz<=k*sz:=Nat.mul_le_mul_right _ hlt
     rw[Nat.add_mul,Nat.one_mul]at this;omega
    ·have:(k+1)*sz<=j*sz:=Nat.mul_le_mul_right _ hgt
     rw[Nat.add_mul,Nat.one_mul]at this;omega
 ·by_cases hjk:j=k
  ·subst hjk
   rw[List.getElem?_set_self hk]at hx
   cases hx
   simpa using hy
  ·rw[List.getElem?_set_ne (Ne.symm hjk)]at hx
   simpa[hjk]using h3 j x hx
omit hi ht hlit hE in
theorem ZfP {t:Nat} {te:TI} {S':Fz} (hS:∀b c,S b c->S' b c):
  ∀(parts:List (Nat×Operand)),(∀p∈parts,ZE p.2=true)->(∀id,id∈Zc4 C.E st.slots st.objs t parts->∀L b,ρ id=some L->L.blk=some b->∀c,inL (st.objs id) L c->S' b c)->∀(us:Array Value) (es es':List P),Zjy w S' te.size us es->
   ZH C.E st.slots st.objs t te parts es=some es'->
   ∃us',Instr.fill (fun i=>some (i*te.size,te.size)) us (parts.map fun p=>(p.1,a.eval p.2))=some us'/\Zjy w S' te.size us' es':=by
 intro parts
 induction parts with
 |nil=>intro _ _ us es es' hr hf;simp only[ZH,Option.some.injEq]at hf;subst hf;exact⟨us,rfl,hr⟩
 |cons p parts ih=>
  intro hlp hids us es es' hr hf
  obtain⟨k,x⟩:=p
  simp only[ZH]at hf
  split at hf
  rotate_left
  simp at hf
  rename_i y hy
  split at hf
  rotate_left
  simp at hf
  rename_i hsz
  obtain⟨h1,h2⟩:=hsz
  have hx:=Zm h t (x:=x) (hlp (k,x) (by simp))
  have hp:=Zaf (S':=S') h.objs hS depth _ _ _ hx hy (fun id hid=>hids id (by
   simp only[Zc4,List.flatMap_cons,List.mem_append];exact .inl hid))
  have hsv:(a.eval x).cells.size=te.size:=by rw[hp.size];exact h1
  obtain⟨us',e1,e2⟩:=ih (fun p hp=>hlp p (by simp[hp])) (fun id hid=>hids id (by
   simp only[Zc4,List.flatMap_cons,List.mem_append];exact .inr hid)) _ _ es' (hr.set h2 hsv hp) hf
  refine⟨us', ?_,e2⟩
  simp only[List.map_cons,Instr.fill]
  have hks:(k+1)*te.size<=es.length*te.size:=Nat.mul_le_mul_right _ h2
  rw[Nat.add_mul,Nat.one_mul]at hks
  rw[if_neg (by simp[hr.1];omega)]
  exact e1
theorem Zej {t:TypeId} {n:Nat} {parts:Array (Nat×Operand)} (ho:o.op= .buildSlice t n parts) (hc:Zf C.E st.ep i o.op o.type st.slots st.objs=some e):Zv C X st a w i o e:=by
 rw[ho]at hc;have hlp:∀p∈parts.toList,ZE p.2=true:=by grind[Op.operands,Array.all_eq_true_iff_forall_mem]
 simp only[Zf]at hc;split at hc;rotate_left;simp at hc;rename_i el sz by_ ze hty;split at hc;rotate_left;simp at hc;rename_i te hte;split at hc;rotate_left;simp at hc;rename_i es hes;split at hc;rotate_left;simp at hc;rename_i hbig;obtain⟨hbig,hbn⟩:=hbig;simp only[ZnO]at hc;have hu:=hE.slice hty rfl;obtain⟨z,hz,hzs,hzr⟩:=Zbs (w:=w) (S:=S) hE hte;have hszr:∀w,(Go.sizeOf el).run C.E.prog w= .ok te.size w:=ZN hE hte;have hlen:∀(parts:List (Nat×Operand)) es es',ZH C.E st.slots st.objs el te parts es=some es'->es'.length=es.length:=by
  intro parts
  induction parts with
  |nil=>grind[ZH]
  |cons p parts ih=>
   grind[ZH]
 have hel:es.length=n:=by grind
 obtain⟨us0,hus0,hr0⟩:∃us0:Array Value,(Array.range (n*te.size)).map (z.cells[· % z.cells.size]!)=us0/\Zjy w S te.size us0 (ZnG n te.zeroP):=by
  refine⟨(Array.range (n*te.size)).map (z.cells[· % z.cells.size]!),rfl,by simp,fun _=>z,fun j hj=>⟨hzs,fun k v hv=> ?_⟩,fun j x hx=> ?_⟩
  ·have hk:k < te.size:=by grind
   simp only[Zn5]at hj;have hlt:j*te.size+k < n*te.size:=by have:(j+1)*te.size<=n*te.size:=ZnK _ hj;grind
   grind[Nat.mul_comm,Nat.mul_add_mod,Nat.mod_eq_of_lt]
  grind
 have hids:∀(parts:List (Nat×Operand)) es es',ZH C.E st.slots st.objs el te parts es=some es'->∀id,id∈Zc4 C.E st.slots st.objs el parts->∃o,st.objs id=some o/\o≠ .gone:=by
  intro parts
  induction parts with
  |nil=>grind[Zc4]
  |cons p parts ih=>
   intro es es' hf id hid;obtain⟨k,x⟩:=p;simp only[ZH]at hf;simp only[Zc4,Zon,Zn7]at hid;split at hf;rotate_left;simp at hf;rename_i y hy;split at hf;rotate_left;simp at hf;rcases hid with hid |hid
   ·grind[ZaY]
   ·exact ih _ _ hf id hid
 let FS:Fz:=fun b c=>S b c\/∃id o L,id∈Zc4 C.E st.slots st.objs el parts.toList/\st.objs id=some o/\o≠ .gone/\ρ id=some L/\L.blk=some b/\inL (some o) L c
 obtain⟨us,hfill,hsz',evs,hev,hrel⟩:=ZfP (a:=a) h (t:=el) (te:=te) (S':=FS) (fun b c hb=> .inl hb) parts.toList hlp (fun id hid L b hL hb c hc=>by
  grind) us0 _ es (⟨hr0.1,by obtain⟨evs,q1,q2⟩:=hr0.2;exact⟨evs,q1,fun j x hx=>(q2 j x hx).mono (.refl _ _) fun b c hb=> .inl hb⟩⟩) hes
 refine Zv.arr h hi ht (cells:=us) (t:=el) (sz:=te.size) (len:=n) (cap:=n) (es:=es) (evs:=evs) (w':=w.alloc (.cells us el)) rfl ⟨rfl,rfl⟩ (by simp) ?_ hel (ZnJ _) ?_ (by simp_all) (fun j hj=>(hev j (by omega)).1)
  (fun j k v hj hv=>(hev j (by omega)).2 k v hv) (fs:=Zc4 C.E st.slots st.objs el parts.toList) (fun id hid=> ?_) (fun S' hS hF j x hx=> ?_) hc.symm
 ·have hbig':¬(n*te.size > 2 ^ 24):=by omega
  simp only[execOp,ho,Instr.buildSlice,Sem.run_bind,Za hu,Result.andThen_ok,hszr,hbig',if_false,Sem.run_pure]
  by_cases h0:n*te.size=0
  ·simp_all[Array.range_zero',newRow]
  simp_all[newRow]
 ·grind[Z9,Zr]
 ·obtain⟨o',h1,h2⟩:=hids _ _ _ hes id hid;obtain⟨L,hL,_⟩:=h.objs id o' h1 h2;grind
 ·refine(hrel j x hx).mono (.refl _ _) fun b c hb=> ?_
  grind
end
end
end Eng
namespace Eng
open Go
theorem ZV (b:Nat):∀(vs:List Value) (o:Nat) (w:World),(w.setCells b o vs).heap.size=w.heap.size
 | [],_,_=>rfl
 |v::r,o,w=>by rw[World.setCells,ZV b r];simp
theorem Zo (b:Nat):∀(vs:List Value) (o:Nat) (w:World) (k:Nat),k≠b->(w.setCells b o vs).heap[k]? =w.heap[k]?
 | [],_,_,_,_=>rfl
 |v::r,o,w,k,h=>by rw[World.setCells,Zo b r _ _ k h];grind[World.setCell]
theorem Z7 {w:World} {b o:Nat} {vs:List Value} (a:∀j,j < vs.length->(w.cell? ⟨b,o+j,none⟩).isSome=true) (m:Nat):
  (w.setCells b o vs).cell? ⟨b,m,none⟩=if o<=m/\m < o+vs.length then vs[m - o]? else w.cell? ⟨b,m,none⟩:=by
 grind[World.cell?_setCells_in,World.cell?_setCells_out]
section
variable {C:Ctx} {X:Nat->Prop} {ρ:Id->Option Lay} {S:Fz} {st:St} {a:Act} {w:World} {i:Nat} {o:Oper} {e:Eff}
theorem Zb9 {t:TypeId} {ti:TI} {b o':Nat} {v:Value} (c:Zl C.E) (a:C.E.ty t=some ti) (g:v.cells.size=ti.size)
  (i:∀j,j < v.cells.size->(w.cell? ⟨b,o'+j,none⟩).isSome=true) (h:∀j,j < v.cells.size->w.frozen? ⟨b,o'+j,none⟩=false) (f:∀u∈v.cells.toList,u.oneCell'=true):
  (Instr.storeAt t (.pointer (some ⟨b,o',none⟩)) v).run C.E.prog w= .ok () (w.setCells b o' v.cells.toList):=by
 have e:=run_storeCells_cells (P:=C.E.prog) b o' v.cells.toList 0 w (by omega) (by omega) f;have d:(Go.sizeOf t).run C.E.prog w= .ok ti.size w:=ZN c a w;simp_all[Instr.storeAt,Instr.sureAddr,storeVar]
theorem Rep.putIn (h:Rep C X ρ S st a.tmps w) {t:Option Nat} (hi:¬X i) (ht:∀d,t=some d->d < C.E.nt) {id id2:Id} {i' sz c k lo lo':Nat} {out:Option Nat} {es cs l:List P} {L:Lay} {b:Nat} {v:Value}
  (hlk:st.objs id=some (.own sz c k es lo out)) (hlo:out=some i'/\i' < lo/\lo'=lo\/out=none/\lo=i'/\lo'=lo+1) (hlk2:st.objs id2=some (.arr k l false)) (hne:id2≠id) (hfz:st.fz id=false) (hfz2:st.fz id2=false) (hes:es[i']? =some (.agg cs))
  (hL:ρ id=some L) (hb:L.blk=some b) (hr:RelD w S ρ v (.sl id2 0 l.length)):
  ∃S',Rep C (fun j=>X j\/j=i) ρ S' (st.app i t {val:= .undef,wr:=[(id,.own sz c k (es.set i' (.agg (cs.set c (.sl k l)))) lo' none),(id2,.gone)]}) (a.put t undef).tmps (w.setCells b (L.base+i'*sz+c) [v]):=by
 obtain⟨κ,F⟩:=h.fam;obtain⟨L',hL',hsz,hel,hlc,hlm,hcz,hbn,hcells,hrel⟩:=h.objs id _ hlk (by simp);rw[hL]at hL';obtain rfl:=ZnN hL';subst hsz;obtain⟨L2,hL2,hro2⟩:=h.objs id2 _ hlk2 (by simp);have h1v:Zbp v:=by cases hr;rfl
 have hie:i' < es.length:=(ZnA.1 hes).1;have hmul:(i'+1)*L.sz<=L.cap*L.sz:=ZnK _ (by omega);rw[ZnI,Zoj]at hmul;have hnS:∀c,¬S b c:=h.notS hlk (by simp) hL hb hfz rfl;have hcs:∀m,m < [v].length->(w.cell? ⟨b,L.base+i'*L.sz+c+m,none⟩).isSome=true:=fun m hm=>by obtain⟨⟨v',q⟩,_⟩:=hcells b hb (i'*L.sz+c+m) (by grind);grind
 have hset:=fun m=>Z7 (w:=w) (b:=b) (o:=L.base+i'*L.sz+c) (vs:=[v]) hcs m
 have hat:(w.setCells b (L.base+i'*L.sz+c) [v]).cell? ⟨b,L.base+i'*L.sz+c,none⟩=some v:=by simp_all
 have hoff:∀m,m≠L.base+i'*L.sz+c->(w.setCells b (L.base+i'*L.sz+c) [v]).cell? ⟨b,m,none⟩=w.cell? ⟨b,m,none⟩:=fun m hm=>by grind
 have hoth:∀b',b'≠b->(w.setCells b (L.base+i'*L.sz+c) [v]).heap[b']? =w.heap[b']? :=fun b' hn=>Zo b _ _ _ b' hn
 have hfr:∀m,(w.setCells b (L.base+i'*L.sz+c) [v]).frozen? ⟨b,m,none⟩=w.frozen? ⟨b,m,none⟩:=fun m=>World.frozen?_setCells _ _ _ _ _
 have hsize:(w.setCells b (L.base+i'*L.sz+c) [v]).heap.size=w.heap.size:=ZV _ _ _ _;have hqt:ZQ w (w.setCells b (L.base+i'*L.sz+c) [v]):=ZQ.setCells _ _ _ _;have far:∀q j,q≠i'->j < L.sz->L.base+q*L.sz+j≠L.base+i'*L.sz+c:=fun q j hq hj=>by
  rcases Nat.lt_or_gt_of_ne hq with hlt |hgt
  ·have:(q+1)*L.sz<=i'*L.sz:=ZnK _ hlt;grind
  ·have:(i'+1)*L.sz<=q*L.sz:=ZnK _ hgt;grind
 generalize w.setCells b (L.base+i'*L.sz+c) [v]=w' at hset hat hoff hoth hfr hsize hqt;have kS:ZbM S w w':= .of fun b' c hb' _=>hoth b' fun e=>hnS c (e▸hb')
 have mem2:∀id1 o,(id1,o)∈[(id,Obj.own L.sz c k (es.set i' (.agg (cs.set c (.sl k l)))) lo' none),(id2,Obj.gone)]->(id1=id/\o= .own L.sz c k (es.set i' (.agg (cs.set c (.sl k l)))) lo' none)\/(id1=id2/\o= .gone):=fun id1 o hm=>by simp_all
 refine h.stepG ρ hi ht (by omega) hqt (fun b' _ hn=>hoth b' fun e=>hn id _ L ZnE hL (e▸hb)) (fun id1 o hm=> ?_) (fun _ _ h=>h) (fun _ h=> .inl h) (by simp) (fun _ _ hm=>by simp_all) (fun _ _ _ _ _ _ _ hm=>by simp_all)
  (fun id1 o L1 hm hg hL1 S' hS _=> ?_) (fun _ _ _ _ _=> .undef) kS (fun id1 o o' hm _ ho'=> ?_) (fun S' hS hS'=> ?_)
 ·grind
 ·rcases mem2 _ _ hm with ⟨rfl,rfl⟩ |⟨rfl,rfl⟩
  rotate_left
  ·grind
  rw[hL]at hL1;obtain rfl:=ZnN hL1;refine⟨rfl,by grind,hlc,hlm,hcz,hbn,fun b1 hb1 m hm=> ?_,fun q e he=> ?_⟩
  ·rw[hb]at hb1;obtain rfl:=ZnN hb1;rw[hfr];refine⟨?_,(hcells b hb m hm).2⟩
   by_cases hq:L.base+m=L.base+i'*L.sz+c
   ·rw[hq];grind
   grind
  ·by_cases hq:q=i'
   ·subst hq;rw[Zn4 hie]at he;cases he;obtain⟨cs0,l0,q1,q2,q3,q4⟩:=hrel q _ hes;simp only[P.agg.injEq]at q1;subst q1;refine⟨_,l,rfl,by grind,by grind,fun b1 hb1 j x u hx hu=> ?_⟩;rw[hb]at hb1;obtain rfl:=ZnN hb1
    by_cases hj:j=c
    ·grind
    ·rw[Zn3 (Ne.symm hj)]at hx;rw[hoff _ (by omega)]at hu;exact⟨(q4 b hb j x u hx hu).1,fun _=>((q4 b hb j x u hx hu).2 (.inl hj)).mono kS hS⟩
   ·rw[Zn3 (Ne.symm hq)]at he;obtain⟨cs0,l0,q1,q2,q3,q4⟩:=hrel q e he;refine⟨cs0,l0,q1,q2,q3,fun b1 hb1 j x u hx hu=> ?_⟩;rw[hb]at hb1;obtain rfl:=ZnN hb1;have hj:j < L.sz:=by grind
    rw[hoff _ (far q j hq hj)]at hu;exact⟨(q4 b hb j x u hx hu).1,fun hj=>((q4 b hb j x u hx hu).2 (hj.imp id fun hj=>by omega)).mono kS hS⟩
 ·rcases mem2 _ _ hm with ⟨rfl,_⟩ |⟨rfl,_⟩
  ·rw[hlk]at ho';obtain rfl:=ZnN ho';rfl
  grind
 ·have hS0:∀b c,S' b c->S b c:=fun b c hb=>(hS' b c hb).elim (fun h=>h) fun⟨_,_,_,hm,_⟩=>by grind
  generalize he:(st.app i t {val:= .undef,wr:=[(id,.own L.sz c k (es.set i' (.agg (cs.set c (.sl k l)))) lo' none),(id2,.gone)]})=st2;have hob:∀id1 o,st2.objs id1=some o->(id1=id/\o= .own L.sz c k (es.set i' (.agg (cs.set c (.sl k l)))) lo' none)\/(id1=id2/\o= .gone)\/(id1≠id/\id1≠id2/\st.objs id1=some o):=by
   intro id1 o ho;rw[<-he]at ho;rcases ZK st i t _ id1 o ho with ⟨k1,rfl,hm⟩ |hm |⟨hn,ho⟩
   ·simp at hm
   all_goals grind
  have hf2:∀id1,st2.fz id1=st.fz id1:=fun id1=>by rw[<-he,ZbK];simp
  have ko:∀{id1 i1 sz1 c1 k1 l1},Kid st2.objs st2.fz id1 i1 sz1 c1 k1 l1->(id1=id/\i1=i'/\sz1=L.sz/\c1=c/\k1=k/\l1=l)\/(Kid st.objs st.fz id1 i1 sz1 c1 k1 l1/\¬(id1=id/\i1=i')):=by
   rintro id1 i1 sz1 c1 k1 l1 ⟨es1,lo1,out1,cs1,ho,hf,q1,q2,q0,q3⟩;rw[hf2]at hf;rcases hob _ _ ho with ⟨rfl,ho⟩ |⟨rfl,ho⟩ |⟨hne1,_,ho⟩
   ·simp only[Obj.own.injEq]at ho;obtain⟨rfl,rfl,rfl,rfl,rfl,rfl⟩:=ho
    by_cases hq:i1=i'
    ·subst hq;rw[Zn4 hie]at q1;simp only[ZnO,P.agg.injEq]at q1;subst q1;obtain⟨cs0,l0,r1,r2,_⟩:=hrel i1 _ hes;simp only[P.agg.injEq]at r1;subst r1;rw[Zn4 (by omega)]at q2;simp only[ZnO,P.sl.injEq]at q2;exact .inl ⟨rfl,rfl,rfl,rfl,rfl,q2.2.symm⟩
    ·rw[Zn3 (Ne.symm hq)]at q1;exact .inr ⟨⟨es,lo,out,cs1,hlk,hf,q1,q2,by omega,fun e=>by rcases hlo with ⟨h1,_⟩ |⟨h1,_⟩<;>rw[h1]at e<;>simp at e;exact hq e.symm⟩,fun e=>hq e.2⟩
   ·simp at ho
   ·exact .inr ⟨⟨es1,lo1,out1,cs1,ho,hf,q1,q2,q0,q3⟩,fun e=>hne1 e.1⟩
  have kon:∀{id1 i1 sz1 c1 k1 l1 b1},Kid st.objs st.fz id1 i1 sz1 c1 k1 l1->(κ id1 i1).blk=some b1->b1≠b/\L2.blk≠some b1:=fun hk hb1=>
   have q:=(F.own _ _ _ _ _ _ _ hk hb1).2.2.2
   ⟨fun e=>q id _ L hlk (by simp) hL (e▸hb),q id2 _ L2 hlk2 (by simp) hL2⟩
  have l2b:L2.blk≠some b:=fun e=>hne (h.inj id2 _ L2 id _ L b hlk2 (by simp) hL2 e hlk (by simp) hL hb)
  have hroN:Zp w' S' (fun _=>none) L2 (.arr k l false):=by
   have:Zp w' S' ρ L2 (.arr k l false):=hro2.mono kS hS (fun _ _ h=>h) fun b' hb'=>hoth b' fun e=>l2b (e▸hb')
   exact this
  have hrN:RelD w' S' (fun _=>some L2) v (.sl (0,0,0) 0 l.length):=by
   cases hr with
   |sl _ _ _ cap ad Lk hLk hl hm hc ha=>
    rw[hL2]at hLk;obtain rfl:=ZnN hLk;exact .sl _ _ _ cap ad _ rfl hl hm hc ha
  refine⟨fun id1 i1=>if id1=id/\i1=i' then L2 else κ id1 i1,fun id1 i1 sz1 c1 k1 l1 L1 hk1 hL1=> ?_,fun id1 i1 sz1 c1 k1 l1 b1 hk1 hb1=> ?_,fun id1 i1 sz1 c1 k1 l1 id3 i3 sz3 c3 k3 l3 b1 h1 h2 h3 h4=> ?_⟩
  ·rcases ko hk1 with ⟨rfl,rfl,rfl,rfl,rfl,rfl⟩ |⟨hk0,hn⟩
   ·simp only[and_self,if_true];rw[hL]at hL1;obtain rfl:=ZnN hL1;exact⟨b,v,hb,hat,hrN,hroN⟩
   ·simp only[if_neg hn];obtain⟨b1,v1,q1,q2,q3,q4⟩:=F.kid _ _ _ _ _ _ L1 hk0 hL1;refine⟨b1,v1,q1, ?_,q3.mono kS hS (fun _ _ h=>h),q4.mono kS hS (fun _ _ h=>h) fun b' hb'=>hoth b' (kon hk0 hb').1⟩;have hk2:=hk0;obtain⟨es1,lo1,out1,cs1,ho,hf,p1,p2,p0,p3⟩:=hk2
    by_cases hbb:b1=b
    ·subst hbb;have:=h.inj id1 _ L1 id _ L b1 ho (by simp) hL1 q1 hlk (by simp) hL hb;subst this;rw[hL]at hL1;obtain rfl:=ZnN hL1;rw[hlk]at ho;simp only[ZnO,Obj.own.injEq]at ho;obtain⟨rfl,rfl,rfl,rfl,rfl,rfl⟩:=ho;rw[hoff _ (far i1 c (fun e=>hn ⟨rfl,e⟩) hcz)];exact q2
    ·rw[ZS (hoth b1 hbb)];exact q2
  ·rcases ko hk1 with ⟨rfl,rfl,rfl,rfl,rfl,rfl⟩ |⟨hk0,hn⟩
   ·simp only[and_self,if_true]at hb1;obtain⟨q1,q2,_,_⟩:=h.own id2 _ L2 b1 hlk2 (by simp) hL2 hb1;refine⟨by omega,q2,fun c hs=>h.notS hlk2 (by simp) hL2 hb1 hfz2 rfl c (hS0 _ _ hs),fun id3 o3 L3 ho3 hg3 hL3 hb3=> ?_⟩;rcases hob _ _ ho3 with ⟨rfl,ho⟩ |⟨rfl,ho⟩ |⟨_,hn2,ho⟩
    ·exact hne (h.inj id2 _ L2 id3 _ L3 b1 hlk2 (by simp) hL2 hb1 hlk (by simp) hL3 hb3)
    ·exact hg3 ho
    ·exact hn2 (h.inj id3 _ L3 id2 _ L2 b1 ho hg3 hL3 hb3 hlk2 (by simp) hL2 hb1)
   ·simp only[if_neg hn]at hb1;obtain⟨q1,q2,q3,q4⟩:=F.own _ _ _ _ _ _ b1 hk0 hb1;refine⟨by omega,q2,fun c hs=>q3 c (hS0 _ _ hs),fun id3 o3 L3 ho3 hg3 hL3 hb3=> ?_⟩;rcases hob _ _ ho3 with ⟨rfl,ho⟩ |⟨rfl,ho⟩ |⟨_,_,ho⟩
    ·exact q4 id3 _ L3 hlk (by simp) hL3 hb3
    ·exact hg3 ho
    ·exact q4 id3 o3 L3 ho hg3 hL3 hb3
  ·rcases ko h1 with ⟨rfl,rfl,rfl,rfl,rfl,rfl⟩ |⟨hk1,hn1⟩
   ·rcases ko h2 with ⟨rfl,rfl,_⟩ |⟨hk2,hn2⟩
    ·exact⟨rfl,rfl⟩
    ·simp only[and_self,if_true]at h3;simp only[if_neg hn2]at h4;exact absurd h3 (kon hk2 h4).2
   ·simp only[if_neg hn1]at h3;rcases ko h2 with ⟨rfl,rfl,_⟩ |⟨hk2,hn2⟩
    ·simp only[and_self,if_true]at h4;exact absurd h4 (kon hk1 h3).2
    ·simp only[if_neg hn2]at h4;exact F.inj _ _ _ _ _ _ _ _ _ _ _ _ b1 hk1 hk2 h3 h4
section
variable (h:Rep C X ρ S st a.tmps w) (hi:¬X i) (ht:∀d,o.dst=some d->d < C.E.nt) (hlit:o.op.operands.all ZE=true) (hE:Zl C.E)
include h hi ht hlit hE
theorem Zja {t:TypeId} {ad x:Operand} (ho:o.op= .store t ad x) (hc:Zf C.E st.ep i o.op o.type st.slots st.objs=some e) (hw:Zdu st e=true):Zv C X st a w i o e:=by
 rw[ho]at hc hlit;simp[Op.operands]at hlit;have h1:=Zm h 0 hlit.1;have h2:=Zm h t hlit.2;simp only[Zf]at hc;split at hc;rotate_left;simp at hc;rename_i ti hty;split at hc;rotate_left;simp at hc;rename_i id i' j hp;rw[hp]at h1;generalize hv:a.eval ad=pv at h1;cases h1 with
 |ptr _ _ _ L b hL hil hLb=>
 split at hc
 ·
  rename_i cs hlk;split at hc;rotate_left;simp at hc;rename_i hcnd;obtain⟨rfl,hl,hjl,hok⟩:=hcnd;cases hc;simp only[Nat.zero_mul,Zoh]at hv;obtain⟨hc1,hc2⟩:=Zem h2 hok;obtain⟨L',hL',b',hLb',hsz,hln,hcell⟩:=h.objs id _ hlk (by simp);rw[hL]at hL';obtain rfl:=ZnN hL';rw[hLb]at hLb';obtain rfl:=ZnN hLb';have hfz:st.fz id=false:=by grind[Zdu]
  have hown:=h.own id _ L b hlk (by simp) hL hLb;have hnS:∀c,¬S b c:=h.notS hlk (by simp) hL hLb hfz rfl;have hat:∀(m:Nat) (hm:m < cs.length),∃v,w.cell? ⟨b,L.base+m,none⟩=some v/\w.frozen? ⟨b,L.base+m,none⟩=false/\Zbp v/\RelD w S ρ v cs[m]:=fun m hm=>hcell m cs[m] (by grind)
  have hcs:∀m,m < (a.eval x).cells.size->(w.cell? ⟨b,L.base+j+m,none⟩).isSome=true:=fun m hm=>by obtain⟨v,q,_⟩:=hat (j+m) (by omega);grind
  have hrun:=Zb9 (w:=w) (b:=b) (o':=L.base+j) (v:=a.eval x) hE hty (by omega) hcs (fun m hm=>by
   obtain⟨v,_,q,_⟩:=hat (j+m) (by omega);grind) (fun u hu=>by
   obtain⟨m,hm,rfl⟩:=Zoc.1 hu;simp at hm;exact(hc2 m _ _ (by grind) (Zn2 (by omega))).2)
  let w':=w.setCells b (L.base+j) (a.eval x).cells.toList;have hcell':=fun m=>Z7 (w:=w) (b:=b) (o:=L.base+j) (vs:=(a.eval x).cells.toList) (by omega) m
  have kS:ZbM S w w':= .of fun b' c hb' _=>Zo b _ _ _ b' (fun e=>hnS c (e▸hb'))
  let ds:=(ev C.E st.slots t x).cells;have hds:ds.length=(ev C.E st.slots t x).cells.length:=rfl;let ρ':Id->Option Lay:=fun id=>if id.1=st.ep/\id.2.1=i then ZjB ds 0 id.2.2 else ρ id
  have f:=h.fresh hi;have hρ:∀id L,ρ id=some L->ρ' id=some L:=by
   grind
  have hvl:∀k L,ZjB ds 0 k=some L->ρ' (st.ep,i,k)=some L:=fun k L' hk=>by grind
  have nv:∀k o L b,(k,o)∈ZU 0 ds->ρ' (st.ep,i,k)=some L->L.blk=some b->False:=by grind[ZjB]
  refine⟨.skip,undef,w', ?_,.inr ⟨rfl,rfl⟩,ρ',h.step ρ' hi ht (by grind[ZV]) (ZQ.setCells _ _ _ _) ?_ ?_ hρ ?_ (by simp) ?_ ?_ ?_ ?_ (ZdG _ _) (ns:=ns_one hlk rfl)⟩
  ·grind[execOp,Sem.run_bind,Result.andThen_ok,Sem.run_pure]
  ·grind[Zo]
  ·simp_all
  ·grind
  ·intro k o' hm;obtain⟨h1,sz,h2,rfl⟩:=ZaK _ _ _ _ hm;refine⟨⟨none,0,sz,0,0⟩,hvl _ _ (by grind[ZjB]),by simp,fun S' _ _ _=>Zau sz false⟩
  ·grind
  ·intro id' o' L1 hm _ hL1 S' hS _;simp only[ZnF,ZnP]at hm;obtain⟨rfl,rfl⟩:=hm;rw[hL]at hL1;obtain rfl:=ZnN hL1;have hvlen:(ZeO st.ep i 0 ds).length=ds.length:=Zdv _ _ _ _;have hsl:=ZbN cs j (ZeO st.ep i 0 ds) (by omega);refine⟨b,hLb,by grind,hln,fun m d hd=> ?_⟩;have hm:m < cs.length:=by grind
   rw[ZbO _ _ _ (by grind)]at hd;obtain⟨v0,q1,q2,q3,q4⟩:=hat m hm;rw[show w'.frozen? ⟨b,L.base+m,none⟩=w.frozen? ⟨b,L.base+m,none⟩from World.frozen?_setCells _ _ _ _ _];rw[hcell' (L.base+m)]
   by_cases hin:j<=m/\m < j+ds.length
   ·rw[if_pos (by grind)]at hd;have hu:m - j < (a.eval x).cells.size:=by omega
    rw[if_pos (by grind)];have hu':m - j < ds.length:=by omega
    obtain⟨r1,r2⟩:=hc2 (m - j) (a.eval x).cells[m - j] ds[m - j] (by grind) (Zn2 hu');obtain⟨d',hd',hr⟩:=ZhX (i:=i) (ep:=st.ep) (k0:=0) kS hS hρ hvl (Zn2 hu':ds[m - j]? =some ds[m - j]) r1;rw[hd]at hd';obtain rfl:=ZnN hd';refine⟨(a.eval x).cells[m - j], ?_,q2,r2,hr⟩;rw[show L.base+m - (L.base+j)=m - j by omega];grind
   ·rw[if_neg (by grind)]at hd;rw[if_neg (by grind)];rw[Zn2 hm]at hd;obtain rfl:=ZnN hd;exact⟨v0,q1,q2,q3,q4.mono kS hS hρ⟩
  ·intro S' _ _ d _;exact .undef
 ·
  rename_i sz es hlk;split at hc;rotate_left;simp at hc;rename_i y hy;split at hc;rotate_left;simp at hc;rename_i hcnd;obtain⟨hyl,hjs,hpos⟩:=hcnd;cases hc;obtain⟨L',hL',hsz,hel,hlc,hlm,hbn,hcells,evs,hev,hcell,hrel⟩:=h.objs id _ hlk (by simp);rw[hL]at hL';obtain rfl:=ZnN hL';subst hsz;have hids:=ZaY depth _ _ hy;have hapart:∀f,f∈(ev C.E st.slots t x).ids st.objs depth->id≠f:=by grind[Zdu]
  let FS:Fz:=fun b c=>S b c\/∃id' o L,id'∈(ev C.E st.slots t x).ids st.objs depth/\st.objs id'=some o/\o≠ .gone/\ρ id'=some L/\L.blk=some b/\inL (some o) L c
  have hvy:RelP w FS (a.eval x) y:=Zaf (S':=FS) h.objs (fun b c hb=> .inl hb) depth _ _ _ h2 hy (fun id' hid L b hL hb c hc=>by grind)
  have hvs:(a.eval x).cells.size=ti.size:=by rw[hvy.size];omega
  have hfz:st.fz id=false:=by grind[Zdu]
  have hown:=h.own id _ L b hlk (by simp) hL hLb;have hnS:∀c,¬S b c:=h.notS hlk (by simp) hL hLb hfz rfl;have hblk:(i'+1)*L.sz<=L.cap*L.sz:=ZnK _ (by omega);rw[ZnI,Zoj]at hblk;have hcs:∀m,m < (a.eval x).cells.size->(w.cell? ⟨b,L.base+i'*L.sz+j+m,none⟩).isSome=true/\w.frozen? ⟨b,L.base+i'*L.sz+j+m,none⟩=false:=fun m hm=>by obtain⟨⟨v,q⟩,q2⟩:=hcells b hLb (i'*L.sz+j+m) (by omega);grind
  have h1c:∀u∈(a.eval x).cells.toList,u.oneCell'=true:=fun u hu=>by obtain⟨m,hm,rfl⟩:=Zoc.1 hu;simp at hm;exact(hvy.cell (j:=m) (u:=(a.eval x).cells[m]) (c:=y.cells[m]'(by omega)) (by grind) (Zn2 (by omega))).2
  have hrun:=Zb9 (w:=w) (b:=b) (o':=L.base+i'*L.sz+j) (v:=a.eval x) hE hty hvs (fun m hm=>(hcs m hm).1) (fun m hm=>(hcs m hm).2) h1c;let w':=w.setCells b (L.base+i'*L.sz+j) (a.eval x).cells.toList;have hcell':=fun m=>Z7 (w:=w) (b:=b) (o:=L.base+i'*L.sz+j) (vs:=(a.eval x).cells.toList) (by simp_all) m
  have kS:ZbM S w w':= .of fun b' c hb' _=>Zo b _ _ _ b' (fun e=>hnS c (e▸hb'))
  refine⟨.skip,undef,w', ?_,.inr ⟨rfl,rfl⟩,ρ,h.step ρ hi ht (by grind[ZV]) (ZQ.setCells _ _ _ _) ?_ ?_ (fun _ _ h=>h) (fun id h=> .inl h) ?_ (fun _ _ hm=>by simp_all) (fun _ _ _ _ _ _ _ hm=>by simp_all) ?_ ?_ (ns:=ns_one hlk rfl)⟩
  ·grind[execOp,Sem.run_bind,Result.andThen_ok,Sem.run_pure]
  ·grind[Zo]
  ·simp_all
  ·intro id' hid;obtain⟨o',q1,q2⟩:=hids id' hid;obtain⟨L',hL',_⟩:=h.objs id' o' q1 q2;grind
  ·intro id' o' L1 hm _ hL1 S' hS hF;simp only[ZnF,ZnP]at hm;obtain⟨rfl,rfl⟩:=hm;rw[hL]at hL1;obtain rfl:=ZnN hL1;have hie:i' < es.length:=by omega
   have hge:es.getD i' default=es[i']:=by grind
   have hFS:∀b c,FS b c->S' b c:=fun b c hb=>by
    grind
   have kF:ZbM FS w w':= .of fun b' c hb' hlt=>by
    refine Zo b _ _ _ b' (fun e=> ?_);subst e;rcases hb' with hb |⟨idq,o',L',q1,q2,q3,q4,q5,_⟩
    ·simp_all
    ·have:=h.inj idq o' L' id' _ L b' q2 q3 q4 q5 hlk (by simp) hL hLb;grind
   have hri:=hrel i' es[i'] (by grind);have hsi:=hri.size;have hevi:=hev i' hil;have hput:∃v':Value,v'.cells.size=L.sz/\(∀(k:Nat) u,v'.cells[k]? =some u->w'.cell? ⟨b,L.base+i'*L.sz+k,none⟩=some u)/\RelP w' S' v' (es[i'].put L.sz j y):=by
    have hold:∀(k:Nat) u,(evs i').cells[k]? =some u->w.cell? ⟨b,L.base+i'*L.sz+k,none⟩=some u:=fun k u hu=>hcell b hLb i' k u hil hu
    unfold P.put;split
    ·rename_i hwhole;obtain⟨rfl,hws⟩:=hwhole;refine⟨a.eval x,by omega,fun k u hu=> ?_,hvy.mono kF hFS⟩;have hk:k < (a.eval x).cells.size:=(Znq.1 hu).1;rw[hcell',if_pos (by grind)];rw[show L.base+i'*L.sz+k - (L.base+i'*L.sz+0)=k by omega];grind
    ·rename_i hpart;have hbig:2<=L.sz:=by
      omega
     generalize hex:es[i']=ex at hri hsi;generalize hevv:evs i'=ev' at hri hsi hevi hold;cases hri with
     |agg vs cs hl ho hr=>
      dsimp only;have hcl:cs.length=L.sz:=by rw[<-hl];simpa[Value.cells]using hevi
      obtain⟨g1,g2⟩:=Zeb j (a.eval x).cells vs;generalize (a.eval x).cells.zipIdx.foldl (fun cs (c,m)=>cs.setIfInBounds (j+m) c) vs=nv at g1 g2;have hold:∀(k:Nat) u,vs[k]? =some u->w.cell? ⟨b,L.base+i'*L.sz+k,none⟩=some u:=hold;refine⟨.agg nv,show nv.size=L.sz by omega,fun k u hu=> ?_, ?_⟩
      ·replace hu:nv[k]? =some u:=hu;rw[g2]at hu;rw[hcell']
       by_cases hin:j<=k/\k < j+(a.eval x).cells.size
       ·rw[if_pos ⟨hin.1,hin.2,by omega⟩]at hu;rw[if_pos (by simp;omega),show L.base+i'*L.sz+k - (L.base+i'*L.sz+j)=k - j by omega];simpa using hu
       ·rw[if_neg (by omega)]at hu;rw[if_neg (by simp;omega)];exact hold k u hu
      ·have hsp:=ZbN cs j y.cells (by omega);refine .agg _ _ (by rw[g1,hsp];exact hl) (fun k u hu=> ?_) (fun k u c hu hc=> ?_)
       ·rw[g2]at hu
        by_cases hin:j<=k/\k < j+(a.eval x).cells.size/\k < vs.size
        ·rw[if_pos hin]at hu;exact h1c u (by have:=Array.mem_of_getElem? hu;simpa using this)
        ·rw[if_neg hin]at hu;exact ho k u hu
       ·rw[g2]at hu;rw[ZbO _ _ _ (by omega)]at hc
        by_cases hin:j<=k/\k < j+(a.eval x).cells.size
        ·rw[if_pos ⟨hin.1,hin.2,by omega⟩]at hu;rw[if_pos (by omega)]at hc;exact((hvy.cell hu hc).1).mono kF hFS
        ·rw[if_neg (by omega)]at hu;rw[if_neg (by omega)]at hc;exact(hr k u c hu hc).mono kS hS
     |_=>simp[P.cells]at hsi;omega
   obtain⟨v',p1,p2,p3⟩:=hput;have other:∀(q k:Nat),q≠i'->k < L.sz->w'.cell? ⟨b,L.base+q*L.sz+k,none⟩=w.cell? ⟨b,L.base+q*L.sz+k,none⟩:=by
    intro q k hq hk;rw[hcell',if_neg];simp only[Array.length_toList];rintro⟨r1,r2⟩;rcases Nat.lt_or_gt_of_ne hq with hlt |hgt
    ·have:(q+1)*L.sz<=i'*L.sz:=ZnK _ hlt;rw[ZnI,Zoj]at this;omega
    ·have:(i'+1)*L.sz<=q*L.sz:=ZnK _ hgt;rw[ZnI,Zoj]at this;omega
   refine⟨rfl,by simpa using hel,hlc,hlm,hbn,fun b1 hb1 m hm=> ?_,fun q=>if q=i' then v' else evs q,fun q hq=> ?_,fun b1 hb1 q k u hq hu=> ?_,fun q z hz=> ?_⟩
   ·rw[hLb]at hb1;obtain rfl:=ZnN hb1;obtain⟨⟨v0,q1⟩,q2⟩:=hcells b hLb m hm;rw[show w'.frozen? ⟨b,L.base+m,none⟩=w.frozen? ⟨b,L.base+m,none⟩from World.frozen?_setCells _ _ _ _ _];refine⟨?_,q2⟩;rw[hcell']
    by_cases hin:L.base+i'*L.sz+j<=L.base+m/\L.base+m < L.base+i'*L.sz+j+(a.eval x).cells.toList.length
    ·rw[if_pos hin];exact⟨_,Zn2 (by omega)⟩
    ·rw[if_neg hin];exact⟨v0,q1⟩
   ·by_cases hqi:q=i'
    ·simp only[hqi,if_true];exact p1
    ·simp only[hqi,if_false];exact hev q hq
   ·rw[hLb]at hb1;obtain rfl:=ZnN hb1
    by_cases hqi:q=i'
    ·subst hqi;simp only[if_true]at hu;exact p2 k u hu
    ·simp only[hqi,if_false]at hu;have hk:k < L.sz:=by have:=(Znq.1 hu).1;have:=hev q hq;omega
     rw[other q k hqi hk];exact hcell b hLb q k u hq hu
   ·by_cases hqi:q=i'
    ·subst hqi;rw[Zn4 hie]at hz;simp only[ZnO]at hz;rw[hge]at hz;subst hz;simpa using p3
    ·rw[Zn3 (Ne.symm hqi)]at hz;simp only[hqi,if_false];exact(hrel q z hz).mono kS hS
  ·intro S' _ _ d _;exact .undef
 ·
  rename_i sz c k es lo out hlk;split at hc;rotate_left;simp at hc;rename_i id2 len hx;split at hc;rotate_left;simp at hc;rename_i k' l cs hlk2 hes;split at hc;rotate_left;simp at hc;rename_i hcnd;obtain⟨hlo,rfl,rfl,rfl,hs1,hag,hne⟩:=hcnd;cases hc;have hfz:st.fz id=false/\st.fz id2=false:=by simpa[Zdu]using hw
  rw[hx]at h2;obtain⟨L',hL',hsz,hel,hlc,hlm,hcz,hbn,hcells,hrel⟩:=h.objs id _ hlk (by simp);rw[hL]at hL';obtain rfl:=ZnN hL';subst hsz;have hmul:(i'+1)*L.sz<=L.cap*L.sz:=ZnK _ (by omega);rw[ZnI,Zoj]at hmul;obtain⟨S',hrep⟩:=h.putIn (t:=o.dst) (lo':=loUp out lo) hi ht hlk (hlo.imp (fun h=>⟨h.1,h.2,by rw[h.1];rfl⟩) fun h=>⟨h.1,h.2,by rw[h.1];rfl⟩) hlk2 hne hfz.1 hfz.2 hes hL hLb h2;have hcv:(a.eval x).cells= #[a.eval x]:=by generalize a.eval x=v at h2;cases h2;rfl
  have h1v:(a.eval x).oneCell'=true:=by generalize a.eval x=v at h2;cases h2;rfl
  obtain⟨⟨v0,q⟩,q2⟩:=hcells b hLb (i'*L.sz+j) (by omega);rw[<-ZnH]at q q2;have hrun:=Zb9 (w:=w) (b:=b) (o':=L.base+i'*L.sz+j) (v:=a.eval x) hE hty (by rw[hcv,hs1];rfl) (fun m hm=>by
   rw[hcv]at hm;obtain rfl:m=0:=by simp at hm;omega
   rw[Zoh,q];rfl) (fun m hm=>by
   rw[hcv]at hm;obtain rfl:m=0:=by simp at hm;omega
   rw[Zoh];exact q2) (fun u hu=>by rw[hcv]at hu;simp at hu;rw[hu];exact h1v)
  rw[hcv]at hrun;refine⟨.skip,undef,_, ?_,.inr ⟨rfl,rfl⟩,ρ,S',hrep⟩;simp only[execOp,ho,hv,Sem.run_bind,hrun,Result.andThen_ok,Sem.run_pure]
 simp_all
end
end
end Eng
namespace Eng
open Go
section
variable {C:Ctx} {X:Nat->Prop} {ρ:Id->Option Lay} {S:Fz} {st:St} {a:Act} {w:World} {i:Nat} {o:Oper} {e:Eff}
def flat (sz:Nat) (evs:Nat->Value):Nat->List Value
 |0=>[]
 |n+1=>flat sz evs n++(evs n).cells.toList
theorem Zdz {sz:Nat} {evs:Nat->Value}:∀{n:Nat},(∀j,j < n->(evs j).cells.size=sz)->(flat sz evs n).length=n*sz
 |0,_=>by simp[flat]
 |n+1,h=>by
  have:=Zdz (n:=n) fun j a=>h j (by omega)
  grind[flat]
theorem Zir {sz:Nat} {evs:Nat->Value}:∀{n:Nat},(∀j,j < n->(evs j).cells.size=sz)->∀(j k:Nat) u,j < n->(evs j).cells[k]? =some u->(flat sz evs n)[j*sz+k]? =some u
 |0,_,j,k,u,a,_=>by omega
 |n+1,h,j,k,u,a,hu=>by
  have b:=Zdz (n:=n) fun j a=>h j (by omega)
  have c:k < sz:=by grind
  simp only[flat]
  by_cases hjn:j=n
  ·simp_all
  ·have:(j+1)*sz<=n*sz:=ZnK _ (by omega);rw[ZnI,Zoj]at this;rw[Zn0 (by omega)];exact Zir (fun j a=>h j (by omega)) j k u (by omega) hu
theorem ZfO {sz:Nat} {evs:Nat->Value}:∀{n:Nat},(∀j,j < n->(evs j).cells.size=sz)->∀(m:Nat) u,(flat sz evs n)[m]? =some u->∃j k,j < n/\m=j*sz+k/\(evs j).cells[k]? =some u
 |0,_,m,u,a=>by grind[flat]
 |n+1,h,m,u,a=>by
  have c:=Zdz (n:=n) fun j b=>h j (by omega)
  simp only[flat]at a
  by_cases hm:m < n*sz
  ·rw[Zn0 (by omega)]at a;obtain⟨j,k,e,f,d⟩:=ZfO (fun j b=>h j (by omega)) m u a;grind
  grind
def Src (P:Program) (w:World) (S:Fz) (sz:Nat) (v:Value) (xs:List Eng.P):Prop:=
 ∃(ZoF:List Value) (evs:Nat->Value),ZoF.length=xs.length*sz/\xs.length<=Zr/\(∀w',(Builtin.lenOf v).run P w'= .ok xs.length w')/\
  (∀n,n<=xs.length->∀w',w'.heap=w.heap->(Builtin.firstCells sz n v).run P w'= .ok (ZoF.take (n*sz)).toArray w')/\(∀u∈ZoF,Zbp u)/\
  (∀j,j < xs.length->(evs j).cells.size=sz/\∀(k:Nat) u,(evs j).cells[k]? =some u->ZoF[j*sz+k]? =some u)/\∀(j:Nat) x,xs[j]? =some x->RelP w S (evs j) x
theorem ZkF {w w':World} (h:w'.heap=w.heap) (x:Addr):w'.cell? x=w.cell? x:=by simp[World.cell?,h]
theorem Zad {P:Program} {ad:Option Addr} {len cap sz:Nat} {es:List Eng.P} {evs:Nat->Value} (t:es.length=len) (A:len<=Z9)
  (a:∀i,i < len->(evs i).cells.size=sz)
  (c:∀i,i < len->∃b o,ad=some ⟨b,o,none⟩/\∀(j:Nat) v,(evs i).cells[j]? =some v->w.cell? ⟨b,o+i*sz+j,none⟩=some v)
  (s:∀(i:Nat) x,es[i]? =some x->RelP w S (evs i) x):Src P w S sz (.slice ad len cap) es:=by
 subst t;have g:=Zdz a;refine⟨flat sz evs es.length,evs,g,by grind[Z9,Zr],fun w'=>by simp[Builtin.lenOf],fun n y w' hw=> ?_,fun u d=> ?_,fun j f=>⟨a j f,fun k u d=>Zir a j k u f d⟩,s⟩
 ·cases ad with
  |none=>
   have C:es.length=0:=by
    rcases Nat.eq_zero_or_pos es.length with h |h
    ·omega
    ·obtain⟨b,o',B,_⟩:=c 0 h;simp_all
   simp_all[Builtin.firstCells]
  |some ad=>
   have e:((flat sz evs es.length).take (n*sz)).length=n*sz:=by have:n*sz<=es.length*sz:=ZnK _ y;simp;omega
   refine run_firstCells_some (P:=P) w' sz n ad es.length cap _ e fun m u d=> ?_
   rw[ZnC]at d;split at d;all_goals grind[ZfO,Z8,ZkF]
 ·obtain⟨m,l,rfl⟩:=Zoc.1 d;obtain⟨j,k,f,_,q⟩:=ZfO a m _ (Zn2 l);have r:=s j es[j] (by simp[f]);have z:=r.size;have p:k < es[j].cells.length:=by have:=(Znq.1 q).1;omega
  exact(r.cell q (Zn2 p)).2
theorem ZdI {P:Program} {lk:Id->Option Obj} (N:Objs w S ρ lk) {v:Value} {x:D} {sz:Nat} {xs:List Eng.P} (m:RelD w S ρ v x) (e:ZcP lk sz x=some xs):Src P w S sz v xs:=by
 unfold ZcP at e;split at e
 ·
  rename_i s;split at e;rotate_left;simp at e;rename_i q;subst q;cases e;obtain⟨rfl,l⟩:=m.of_p.str_inv;refine⟨s.map fun b=>Value.int .u8 b.toNat,fun j=> .int .u8 (s.getD j 0).toNat,by simp[ZaR],by grind[ZaR],fun w'=>by simp[Builtin.lenOf,ZaR,Zba],fun n hn w' _=> ?_,fun u Q=> ?_,fun j O=>⟨rfl,fun k u Q=> ?_⟩,fun j x m=> ?_⟩
  ·simp_all[Builtin.firstCells]
  ·obtain⟨b,_,rfl⟩:=Zod.1 Q;rfl
  ·grind[Value.cells,ZaR]
  ·have O:j < s.length:=by grind[ZaR]
   simp[ZaR,O]at m;subst m;have H:(s.getD j 0)=s[j]:=by grind
   dsimp only;rw[H];have A:=s[j].toNat_lt;refine .int .u8 _ ?_ ?_<;>simp[IntKind.min,IntKind.max,IntKind.signed,IntKind.bits]<;>omega
 ·split at e;rotate_left;simp at e;rename_i X es d;split at e;rotate_left;simp at e;rename_i t;subst t;cases e;cases m with
  |p v x h=>
   simp at d;subst d;cases h with
   |sl ad len cap sz es evs l C I g c K=>
    exact Zad l C g (fun i hi=>let ⟨b,o,q,h2⟩:=c i hi;⟨b,o,q,fun j v E=>(h2 j v E).2⟩) K
  |val v=>grind[D.toP]
  |nils sz=>
   simp at d;obtain⟨rfl,rfl⟩:=d;exact Zad (evs:=fun _=>default) rfl (by simp) (by simp) (by simp) (by simp)
  |clip ad n sz es h=>
   simp at d;obtain⟨rfl,rfl⟩:=d;cases h with
   |sl ad len cap sz es evs l C I g c K=>
    exact Zad l C g (fun i hi=>let ⟨b,o,q,h2⟩:=c i hi;⟨b,o,q,fun j v E=>(h2 j v E).2⟩) K
  |sl id M len cap ad L z l T I ha=>
   rw[Zbm]at d;split at d;rotate_left;simp at d;rename_i sz es fix J;simp only[ZnO,Eng.P.sl.injEq]at d;obtain⟨rfl,rfl⟩:=d;obtain⟨L',y,g,V,W,U,Y,B,evs,G,c,R⟩:=N id _ J (by simp);rw[z]at y;obtain rfl:=ZnN y;refine Zad (evs:=fun i=>evs (M+i)) (by grind) (by omega) (fun i F=>G _ (by omega)) (fun i F=> ?_) (fun i x m=> ?_)
   all_goals grind
  |dead v=>grind[D.toP]
  |undef=>grind[D.toP]
  |anyb b=>grind[D.toP]
  |agg vs cs l q h=>simp[D.toP]at d
  |tup vs cs l h=>grind[D.toP]
  |ptr id i j L b z hi A=>
   simp only[D.toP]at d;split at d
   all_goals simp_all
  |map id L b z A=>
   grind[Zbu]
  |it id L b z A=>grind[D.toP]
  |rp x id b o r u L hS m C z A=>grind[D.toP]
  |fn f fs cs a b Z I h h'=>
   grind[D.toP]
theorem Zcr {P:Program} {t u ty g:TypeId} {te:TI} {f:TypeDesc} {E:Env} (n:Zl E) (r:E.prog=P) (z:P.underlying t=some (.slice g)) (l:E.ty g=some te) (s:P.underlying u=some f) (h:∀k,f≠ .int k)
  {b o sLen sCap:Nat} {x:Value} {ZoF:List Value} {m:Nat} (i:∀w',(Builtin.lenOf x).run P w'= .ok m w') (p:(Builtin.firstCells te.size m x).run P w= .ok ZoF.toArray w)
  (a:sLen+m<=sCap) (q:∀j,j < ZoF.length->(w.cell? ⟨b,o+sLen*te.size+j,none⟩).isSome=true) (y:∀j,j < ZoF.length->w.frozen? ⟨b,o+sLen*te.size+j,none⟩=false) (v:∀u∈ZoF,u.oneCell'=true):
  (Builtin.append_ #[t,u] ty #[.slice (some ⟨b,o,none⟩) sLen sCap,x]).run P w= .ok (.slice (some ⟨b,o,none⟩) (sLen+m) sCap) (w.setCells b (o+sLen*te.size) ZoF):=by
 subst r;have e:∀w,(Go.sizeOf g).run E.prog w= .ok te.size w:=ZN n l;have d:=run_storeCells_cells (P:=E.prog) b (o+sLen*te.size) ZoF 0 w (by simpa using q) (by simpa using y) v;simp only[Zoh]at d;have c:(match f with | .int _=>true |_=>false)=false:=by cases f<;>first |rfl |exact absurd rfl (h _)
 simp[Builtin.append_,Za z,Za s,e,c,i,a,p,Z8,d]
theorem Zbw {P:Program} {t u ty el:TypeId} {te:TI} {ds:TypeDesc} {E:Env} (hE:Zl E) (hP:E.prog=P) (ht:P.underlying t=some (.slice el)) (hte:E.ty el=some te) (hu:P.underlying u=some ds) (hds:∀k,ds≠ .int k)
  {x:Value} {ad:Option Addr} {sCap:Nat} (hlo:∀w',(Builtin.lenOf x).run P w'= .ok 0 w') (hf:(Builtin.firstCells te.size 0 x).run P w= .ok #[] w):
  (Builtin.append_ #[t,u] ty #[.slice ad 0 sCap,x]).run P w= .ok (.slice ad 0 sCap) w:=by
 subst hP;have hszr:∀w,(Go.sizeOf el).run E.prog w= .ok te.size w:=ZN hE hte;have hint:(match ds with | .int _=>true |_=>false)=false:=by simp_all
 cases ad with
 |none=>simp[Builtin.append_,Za ht,Za hu,hszr,hint,hlo,hf]
 |some ad=>simp[Builtin.append_,Za ht,Za hu,hszr,hint,hlo,hf,storeCells]
theorem Zb0 {P:Program} {t u ty b:TypeId} {te:TI} {j:TypeDesc} {E:Env} (s:Zl E) (D:E.prog=P) (G:P.underlying t=some (.slice b)) (f:E.ty b=some te) (B:P.underlying u=some j) (o:∀k,j≠ .int k)
  {ad:Option Addr} {sLen sCap:Nat} {x:Value} {olds ZoF:List Value} {m:Nat} (p:∀w',(Builtin.lenOf x).run P w'= .ok m w') (v:∀w',w'.heap=w.heap->(Builtin.firstCells te.size m x).run P w'= .ok ZoF.toArray w')
  (q:∀w',w'.heap=w.heap->(Builtin.firstCells te.size sLen (.slice ad sLen sCap)).run P w'= .ok olds.toArray w')
  (y:sCap < sLen+m) (l:sLen+m<=Zr) (i:(sLen+m)*te.bytes<=ZD):
  ∃(rest:Array Value),rest.size=(grownCap w (sLen+m) sCap b - (sLen+m))*te.size/\
  (Builtin.append_ #[t,u] ty #[.slice ad sLen sCap,x]).run P w=
   .ok (.slice (some ⟨w.heap.size,0,none⟩) (sLen+m) (grownCap w (sLen+m) sCap b)) (w.drew.alloc (.cells (olds.toArray++ZoF.toArray++rest) b)):=by
 subst D;obtain⟨C,I,z,a⟩:=s.is f;have c:∀w,(Go.sizeOf b).run E.prog w= .ok te.size w:=ZN s f;have d:(match j with | .int _=>true |_=>false)=false:=by cases j<;>first |rfl |exact absurd rfl (o _)
 have F:¬(sLen+m<=sCap):=by omega
 have h:¬(9223372036854775807 < ((sLen:Int)+(m:Int))):=by unfold Zr at l;omega
 have A:=growslice_fits y i;have e:¬(281474976710656 < Builtin.nextslicecap (sLen+m) sCap*C.bytes):=by rw[a.bytes];omega
 have H:∀w,(zeroValue b).run E.prog w= .ok z w:=fun w=>Z0 a.info a.zero w
 have r:z.cells.size=te.size:=by have:=(Zco a.zs).1;simp at this;rw[this];exact a.zl
 refine⟨Builtin.zeroCells z.cells (grownCap w (sLen+m) sCap b - (sLen+m)),by rw[size_zeroCells,r], ?_⟩;have n:=v w.drew rfl;have g:=q w.drew rfl;simp[Builtin.append_,Za G,Za B,c,d,p,F,ZC a.info,h,e,Question.forced,n,g,H,newRow,grownCap];congr 2;apply Array.ext';simp[List.append_assoc]
def Zg7 (Pg:Program) (w:World) (S:Fz) (t u a:TypeId) (te:TI) (x:Value) (xs:List P):Prop:=
 ∃(ZoF:List Value) (evs:Nat->Value),ZoF.length=xs.length*te.size/\xs.length<=Zr/\(∀u∈ZoF,Zbp u)/\
  (∀j,j < xs.length->(evs j).cells.size=te.size/\∀(k:Nat) u,(evs j).cells[k]? =some u->ZoF[j*te.size+k]? =some u)/\(∀(j:Nat) x,xs[j]? =some x->RelP w S (evs j) x)/\
  (∀(ty:TypeId) (b o sLen sCap:Nat),sLen+xs.length<=sCap->(sLen+xs.length)*te.bytes<=ZD->(∀j,j < ZoF.length->(w.cell? ⟨b,o+sLen*te.size+j,none⟩).isSome=true)->(∀j,j < ZoF.length->w.frozen? ⟨b,o+sLen*te.size+j,none⟩=false)->
   (Builtin.append_ #[t,u] ty #[.slice (some ⟨b,o,none⟩) sLen sCap,x]).run Pg w= .ok (.slice (some ⟨b,o,none⟩) (sLen+xs.length) sCap) (w.setCells b (o+sLen*te.size) ZoF))/\
  (xs.length=0->∀(ty:TypeId) (ad:Option Addr) (sCap:Nat),(Builtin.append_ #[t,u] ty #[.slice ad 0 sCap,x]).run Pg w= .ok (.slice ad 0 sCap) w)/\
  ∀(ty:TypeId) (ad:Option Addr) (sLen sCap:Nat) (olds:List Value),(∀w',w'.heap=w.heap->(Builtin.firstCells te.size sLen (.slice ad sLen sCap)).run Pg w'= .ok olds.toArray w')->sCap < sLen+xs.length->sLen+xs.length<=Zr->(sLen+xs.length)*te.bytes<=ZD->
   ∃(rest:Array Value),rest.size=(grownCap w (sLen+xs.length) sCap a - (sLen+xs.length))*te.size/\
   (Builtin.append_ #[t,u] ty #[.slice ad sLen sCap,x]).run Pg w= .ok (.slice (some ⟨w.heap.size,0,none⟩) (sLen+xs.length) (grownCap w (sLen+xs.length) sCap a)) (w.drew.alloc (.cells (olds.toArray++ZoF.toArray++rest) a))
theorem ZkS {E:Env} (i:Zl E) {t u m:TypeId} {te:TI} {r:TypeDesc} (j:E.prog.underlying t=some (.slice m)) (c:E.ty m=some te) (n:E.prog.underlying u=some r) (a:∀k,r≠ .int k) {x:Value} {xs:List P} (y:Src E.prog w S te.size x xs):
  Zg7 E.prog w S t u m te x xs:=by
 obtain⟨ZoF,d,D,B,e,q,s,v,A⟩:=y;have p:∀w',w'.heap=w.heap->(Builtin.firstCells te.size xs.length x).run E.prog w'= .ok ZoF.toArray w':=fun w' f=>by
  have:=q xs.length (ZnJ _) w' f
  rwa [List.take_of_length_le (by omega)]at this
 exact⟨ZoF,d,D,B,s,v,A,fun ty b o sLen sCap g _ h l=>Zcr i rfl j c n a e (p w rfl) g h l s,
  fun C ty ad sCap=>Zbw i rfl j c n a (by rw[<-C];exact e) (by simpa using q 0 (by simp) w rfl),fun ty ad sLen sCap olds g h l z=>Zb0 i rfl j c n a e p g h l z⟩
theorem ZhT {C:Ctx} (N:Zl C.E) {t u L:TypeId} {te:TI} {k:IntKind} (H:C.E.prog.underlying t=some (.slice L)) (s:C.E.ty L=some te) (I:C.E.prog.underlying u=some (.int k)) {Z:IntKind} {n:Nat} (X:n<=Zr):
  Zg7 C.E.prog w S t u L te (.int Z (n:Int)) (List.replicate n te.zeroP):=by
 obtain⟨z,T,B,K⟩:=Zbs (C:=C) (w:=w) (S:=S) N s;obtain⟨U,dd,z',c⟩:=N.is s;have a:∀w,(Go.sizeOf L).run C.E.prog w= .ok te.size w:=ZN N s;have g:IntKind.wrap .i64 (n:Int)=n:=by grind[Zr,IntKind.wrap_i64]
 have f:¬(n:Int) < 0:=by omega
 have ac:(Builtin.zeroCells z.cells n).size=n*te.size:=by rw[size_zeroCells,B]
 have A:∀j,j < n*te.size->(Builtin.zeroCells z.cells n)[j]? =some (z.cells[j % te.size]!):=fun j O=>by grind[Builtin.zeroCells]
 have i:∀v∈(Builtin.zeroCells z.cells n).toList,Zbp v:=fun v V=>by
  obtain⟨m,X,rfl⟩:=Zns.1 (Znt.1 V);have Q:m < n*te.size:=by omega
  have Y:0 < te.size:=Nat.pos_of_ne_zero fun e=>by simp_all
  have y:m % te.size < z.cells.size:=by grind[Nat.mod_lt]
  have q:=A m Q;rw[Array.getElem?_eq_getElem X]at q;have q:=ZnN q;rw[q,getElem!_pos z.cells _ y];have ab:=K.size;exact(K.cell (Array.getElem?_eq_getElem y) (Zn2 (by omega))).2
 have D:n*te.size=0->Builtin.zeroCells z.cells n= #[]:=fun h=>Array.eq_empty_of_size_eq_zero (by omega)
 have M:∀{m:Nat},(m+n)*te.bytes<=ZD->¬281474976710656 < (n:Int)*(U.bytes:Int):=fun {m} h=>by
  have F:n*te.bytes<=ZD:=Nat.le_trans (ZnK _ (Nat.le_add_left _ _)) h;rw[c.bytes];grind[ZD]
 refine⟨(Builtin.zeroCells z.cells n).toList,fun _=>z,by grind,by simp_all,i,fun j O=>⟨B,fun k v V=> ?_⟩,fun j x hx=> ?_,fun ty b o sLen sCap F E R J=> ?_,fun W ty ad sCap=> ?_,fun ty ad sLen sCap olds F E R J=> ?_⟩
 ·rw[Zn5]at O;have hk:k < te.size:=by grind
  have y:j*te.size+k < n*te.size:=by have:(j+1)*te.size<=n*te.size:=ZnK _ O;grind
  grind[Nat.mul_comm,Nat.mul_add_mod,Nat.mod_eq_of_lt]
 ·grind
 ·rw[Zn5]at F E|-
  have d:=run_storeCells_cells (P:=C.E.prog) b (o+sLen*te.size) (Builtin.zeroCells z.cells n).toList 0 w (by omega) (by omega) i;simp only[Zoh]at d
  by_cases G:n*te.size=0
  ·have D:=D G;rw[D]at d|-
   simp only[Array.toList_empty]at d;simp[Builtin.append_,Za H,Za I,a,asInt,asIntOf,g,f,ZC c.info,M E,F,G,Z8,d]
  ·simp[Builtin.append_,Za H,Za I,a,asInt,asIntOf,g,f,ZC c.info,M E,F,G,T,Z8,d]
 ·rw[Zn5]at W;subst W;cases ad with
  |none=>simp[Builtin.append_,Za H,Za I,a,asInt,asIntOf,IntKind.wrap_i64,ZC c.info]
  |some ad=>simp[Builtin.append_,Za H,Za I,a,asInt,asIntOf,IntKind.wrap_i64,ZC c.info,storeCells]
 ·rw[Zn5]at E R J|-
  have G:¬(sLen+n<=sCap):=by omega
  have r:¬(9223372036854775807 < ((sLen:Int)+(n:Int))):=by unfold Zr at R;omega
  have aa:=growslice_fits E J;have l:¬(281474976710656 < Builtin.nextslicecap (sLen+n) sCap*U.bytes):=by rw[c.bytes];omega
  refine⟨Builtin.zeroCells z.cells (grownCap w (sLen+n) sCap L - (sLen+n)),by rw[size_zeroCells,B], ?_⟩;have p:=F w.drew rfl
  by_cases hn0:n*te.size=0
  ·have D:=D hn0;rw[D];simp[Builtin.append_,Za H,Za I,a,asInt,asIntOf,g,f,M J,G,hn0,ZC c.info,r,l,Question.forced,p,T,newRow,grownCap]
  ·simp[Builtin.append_,Za H,Za I,a,asInt,asIntOf,g,f,M J,G,hn0,ZC c.info,r,l,Question.forced,p,T,newRow,grownCap]
def Zg8 (n:Nat) (f g:Nat->Value):Nat->Value:=fun j=>if j < n then f j else g (j - n)
section
variable (h:Rep C X ρ S st a.tmps w) (hi:¬X i) (ht:∀d,o.dst=some d->d < C.E.nt) (hlit:o.op.operands.all ZE=true) (hE:Zl C.E)
include h hi ht hlit hE
theorem Zda {args:Array Operand} {t u q:Nat} {te:TI} (ho:o.op= .call {callee:= .builtin .append,args,argTypes:= #[t,u]}) {ad:Option Addr} {sLen sCap:Nat} {x:Value} (z:args.map a.eval= #[.slice ad sLen sCap,x])
  (af:C.E.prog.underlying t=some (.slice q)) (aj:C.E.ty q=some te) {es xs:List P} (G:Src C.E.prog w S te.size (.slice ad sLen sCap) es) (H:Zg7 C.E.prog w S t u q te x xs)
  (hl:es.length=sLen) (M:sCap < sLen+xs.length) (E:(sLen+xs.length)*max te.bytes 1<=ZD) {wr:List (Id×Obj)} (y:∀x∈wr,x.2= .gone) (R:∀id o,(id,o)∈wr->st.fz id=false/\∃o',st.objs id=some o'/\o'≠ .gone) {c:List Bool}
  {fix:Bool} (he:e={val:= .sl (st.ep,i,0) 0 (sLen+xs.length),new:=[(0,.arr te.size (es++xs) fix)],wr:=wr,cond:=c}):Zv C X st a w i o e:=by
 subst he;obtain⟨olds,evs,o1,o2,o3,o4,o5,Z,o7⟩:=G;obtain⟨ZoF,N,n1,n2,n5,n6,n7,ak,ab,K⟩:=H;have V:(sLen+xs.length)*te.bytes<=ZD:=Nat.le_trans (Zoi _ (Nat.le_max_left _ _)) E;have F:sLen+xs.length<=ZD:=by have:=Zoi (sLen+xs.length) (Nat.le_max_right te.bytes 1);omega
 obtain⟨rest,I,r⟩:=K o.type ad sLen sCap olds (fun w' ai=>by
   grind) M (by grind[ZD,Zr]) V
 have n:=grownCap_ge w (sLen+xs.length) sCap q;have m:grownCap w (sLen+xs.length) sCap q<=Zr:=grownCap_le_maxLen w (sLen+xs.length) sCap q (by grind[ZD,maxLen]);generalize grownCap w (sLen+xs.length) sCap q=cap at r I n m;let L:Lay:=⟨some w.heap.size,0,te.size,sLen+xs.length,cap⟩;let w':=w.drew.alloc (.cells (olds.toArray++ZoF.toArray++rest) q);have hw:w'.heap=w.heap.push (.cells (olds.toArray++ZoF.toArray++rest) q):=rfl;let ρ':Id->Option Lay:=upd ρ (st.ep,i,0) (some L);have f:=h.fresh hi;have T:∀id L,ρ id=some L->ρ' id=some L:=by
  grind[upd]
 have s:ρ' (st.ep,i,0)=some L:=by grind[upd]
 have Y:∀b,b < w.heap.size->w'.heap[b]? =w.heap[b]? :=fun b g=>Zaq hw g
 have ah:w'.heap.size=w.heap.size+1:=by grind
 have hc:∀j,w'.cell? ⟨w.heap.size,j,none⟩=(olds.toArray++ZoF.toArray++rest)[j]? :=fun j=>by grind[World.cell?]
 have W:∀j,w'.frozen? ⟨w.heap.size,j,none⟩=false:=fun j=>by grind[World.frozen?]
 have Q:olds.length=sLen*te.size:=by grind
 have aa:(olds.toArray++ZoF.toArray++rest).size=cap*te.size:=by simp only[Array.size_append,List.size_toArray,Q,n1,I];rw[<-ZnI,<-ZnI];grind
 refine⟨_,_,w', ?_,.inl rfl,ρ',h.stepS (v:= .slice (some ⟨w.heap.size,0,none⟩) (sLen+xs.length) cap) ρ' hi ht (by omega) ⟨rfl,rfl⟩ (fun b g _=>Y b g) R T ?_ (by simp) ?_ ?_ (fun id o' L l M=>absurd (y _ l) M) ?_ (.of fun b _ _ g=>Y b g) (fun id o' _ l M=>absurd (y _ l) M) (wown:=fun id o l=>by rw[show o= .gone from y _ l];rfl)⟩
 ·obtain⟨cs,A⟩:=ZF (a:=a) (w:=w) (P:=C.E.prog) ho;rw[A,z];exact Zgk r
 ·intro id hn;grind[upd]
 ·intro k o' l;simp only[ZnF,ZnP]at l;obtain⟨rfl,rfl⟩:=l;refine⟨L,s,fun b g=> ?_,fun S' hS hF _=>⟨rfl,by simp[L,hl],n,by simp only[L];unfold ZD at F;unfold Z9;omega,by simp[L],fun b g j B=> ?_,Zg8 sLen evs N,fun j B=> ?_,fun b g j k v B O=> ?_,fun j x A=> ?_⟩⟩
  ·simp only[L,ZnO]at g;subst g;exact⟨.inl (ZnJ _),by omega⟩
  ·simp only[L,ZnO]at g;subst g;simp only[L]at B;have U:j < (olds.toArray++ZoF.toArray++rest).size:=by omega
   exact⟨⟨_,by simp only[L,Zok,hc];exact Znp U⟩,by simp[L,W]⟩
  ·simp only[L]at B;unfold Zg8;split
   ·exact(Z j (by omega)).1
   ·exact(n6 (j - sLen) (by omega)).1
  ·simp only[L,ZnO]at g;subst g;simp only[L]at B;simp only[L,Zok,hc];unfold Zg8 at O;split at O
   ·rename_i p;have:=(Z j (by omega)).2 k v O;have J:j*te.size+k < olds.length:=(ZnA.1 this).1;rw[ZnQ,if_pos (by simp;omega),ZnQ,if_pos (by simpa using J)];simpa using this
   ·rename_i p;have:=(n6 (j - sLen) (by omega)).2 k v O;have J:(j - sLen)*te.size+k < ZoF.length:=(ZnA.1 this).1;have ae:j*te.size=sLen*te.size+(j - sLen)*te.size:=by rw[<-ZnI];congr 1;omega
    rw[ZnQ,if_pos (by simp;omega),ZnQ,if_neg (by simp;omega)];simp only[List.size_toArray,List.getElem?_toArray];rw[show j*te.size+k - olds.length=(j - sLen)*te.size+k by omega];exact this
  ·have kS:ZbM S w w':= .of fun b _ _ g=>Y b g
   unfold Zg8
   by_cases p:j < sLen
   ·rw[Zn0 (by omega)]at A;rw[if_pos p];exact(o7 j x A).mono kS hS
   ·rw[Zn1 (by omega),hl]at A;rw[if_neg p];exact(n7 _ x A).mono kS hS
 ·intro k o1 L1 k' o2 L2 b l _ hL g D _ ag ac;simp only[ZnF,ZnP]at l D;rw[l.1,D.1]
 ·intro S' _ _ d _;exact .sl _ 0 _ cap _ L s (by simp[L]) ⟨by unfold ZD at F;unfold Z9;omega,m⟩ n (.inr ⟨w.heap.size,rfl,by simp[L],by simp[L]⟩)
theorem ZkQ {args:Array Operand} {t u el:Nat} {te:TI} (ho:o.op= .call {callee:= .builtin .append,args,argTypes:= #[t,u]}) {ad:Option Addr} {sLen sCap:Nat} {x:Value} (hargs:args.map a.eval= #[.slice ad sLen sCap,x])
  (hut:C.E.prog.underlying t=some (.slice el)) (hte:C.E.ty el=some te) {es xs:List P} (hnew:Zg7 C.E.prog w S t u el te x xs) {id:Id} {L0:Lay} {fix:Bool}
  (hlk:st.objs id=some (.arr te.size es fix)) (hL0:ρ id=some L0) (hfz:st.fz id=false) (hle:sLen<=L0.len) (hlm:sLen<=sCap) (hcm:sCap<=Zr) (ha:sCap=0\/∃b,L0.blk=some b/\ad=some ⟨b,L0.base,none⟩/\sCap<=L0.cap)
  (hfx:fix=false\/sLen=es.length) (hroom:sLen+xs.length<=sCap) (hfit:(sLen+xs.length)*max te.bytes 1<=ZD) {c:List Bool}
  (he:e={val:= .sl (st.ep,i,0) 0 (sLen+xs.length),new:=[(0,.arr te.size (es.take sLen++xs) fix)],wr:=[(id,.gone)],cond:=c}):Zv C X st a w i o e:=by
 subst he;obtain⟨ZoF,evs',n1,n2,n5,n6,n7,rin,rnil,rnew⟩:=hnew;have hb1:(sLen+xs.length)*te.bytes<=ZD:=Nat.le_trans (Zoi _ (Nat.le_max_left _ _)) hfit;have hb2:sLen+xs.length<=ZD:=by have:=Zoi (sLen+xs.length) (Nat.le_max_right te.bytes 1);omega
 obtain⟨L',hL',hsz,hel,hlc,hlm',hbn,hcells,evs,hev,hcell,hrel⟩:=h.objs id _ hlk (by simp);rw[hL0]at hL';obtain rfl:=ZnN hL';have f:=h.fresh hi;have wrg:∀id' o',(id',o')∈[(id,Obj.gone)]->st.fz id'=false/\∃o',st.objs id'=some o'/\o'≠ .gone:=by simp_all
 obtain⟨csb,hx⟩:=ZF (a:=a) (w:=w) (P:=C.E.prog) ho;have key:∀(L:Lay) (w':World),L.len=sLen+xs.length->(w'.heap.size=w.heap.size)->ZQ w w'->(∀b,L.blk=some b->L0.blk=some b)->(∀b,L0.blk≠some b->w'.heap[b]? =w.heap[b]?)->ZbM S w w'->(∀b c,L.blk=some b->S b c->L.base<=c/\c < L.base+L.len*L.sz)->
   (Builtin.append_ #[t,u] o.type #[.slice ad sLen sCap,x]).run C.E.prog w= .ok (.slice ad (sLen+xs.length) sCap) w'->
   (∀(S':Fz) ρ',(∀b c,S b c->S' b c)->Zp w' S' ρ' L (.arr te.size (es.take sLen++xs) fix))->
   (∀(S':Fz) ρ',ρ' (st.ep,i,0)=some L->RelD w' S' ρ' (.slice ad (sLen+xs.length) sCap) (.sl (st.ep,i,0) 0 (sLen+xs.length)))->
   Zv C X st a w i o {val:= .sl (st.ep,i,0) 0 (sLen+xs.length),new:=[(0,.arr te.size (es.take sLen++xs) fix)],wr:=[(id,.gone)],cond:=c}:=by
  intro L w' _ hws hqu hLb hkeep kS hLs hrun hobj hval;let ρ':Id->Option Lay:=upd ρ (st.ep,i,0) (some L);have hρ:∀id L,ρ id=some L->ρ' id=some L:=by
   grind[upd]
  have hbox:ρ' (st.ep,i,0)=some L:=by grind[upd]
  refine⟨_,_,w', ?_,.inl rfl,ρ',h.stepS (v:= .slice ad (sLen+xs.length) sCap) ρ' hi ht (by omega) hqu ?_ wrg hρ ?_ (by simp) ?_ ?_ (fun id o' L hm hg=>by grind) ?_ kS (fun id o' _ hm hg=>by grind)⟩
  ·rw[hx,hargs];exact Zgk hrun
  ·grind
  ·grind[upd]
  ·intro k o' hm;simp only[ZnF,ZnP]at hm;obtain⟨rfl,rfl⟩:=hm;refine⟨L,hbox,fun b hb=>⟨.inr ⟨id,_,L0,ZnF.2 rfl,hlk,by simp,hL0,hLb b hb,fun o'' hm=> ?_,fun c hc=>⟨hLs b c hb hc, ?_⟩⟩, ?_⟩,fun S' hS hF _=>hobj S' ρ' hS⟩
   ·grind
   ·have:=((h.own id _ L0 b hlk (by simp) hL0 (hLb b hb)).2.2.2 c hc).2;simpa[hfz]using this
   ·have:=(h.own id _ L0 b hlk (by simp) hL0 (hLb b hb)).1;omega
  ·grind
  grind
 rcases ha with h0 |⟨b,hLb,rfl,hcap⟩
 ·
  have hs0:sLen=0:=by omega
  have hx0:xs.length=0:=by omega
  subst hs0;have hxs:xs=[]:=ZnZ hx0;subst hxs;refine key ⟨none,0,te.size,0,0⟩ w rfl rfl (ZQ.refl _) (by simp) (fun _ _=>rfl) (.refl _ _) (by simp) ?_ (fun S' ρ' _=> ?_) (fun S' ρ' hL=> ?_)
  ·grind
  ·grind[Zau]
  ·exact .sl _ 0 _ _ _ _ hL (by simp) ⟨by simp,hcm⟩ (by simp) (.inl h0)
 ·have hcs:∀m,m < ZoF.length->(w.cell? ⟨b,L0.base+sLen*te.size+m,none⟩).isSome=true/\w.frozen? ⟨b,L0.base+sLen*te.size+m,none⟩=false:=fun m hm=>by have hle2:(sLen+xs.length)*te.size<=L0.cap*te.size:=ZnK _ (by omega);rw[ZnI,<-n1]at hle2;obtain⟨⟨v,q⟩,q2⟩:=hcells b hLb (sLen*te.size+m) (by omega);grind
  have hrun:=rin o.type b L0.base sLen sCap hroom hb1 (fun m hm=>(hcs m hm).1) (fun m hm=>(hcs m hm).2);clear hte hx rin rnil rnew;generalize te.size=tsz at*
  subst hsz;have hcell':=fun m=>Z7 (w:=w) (b:=b) (o:=L0.base+sLen*L0.sz) (vs:=ZoF) (fun m hm=>(hcs m hm).1) m
  have hin:∀c,S b c->(L0.base<=c/\c < L0.base+L0.len*L0.sz)/\fix=true:=fun c hc=>by have:=(h.own id _ L0 b hlk (by simp) hL0 hLb).2.2.2 c hc;exact⟨this.1,by simpa[hfz]using this.2⟩
  have hout:∀c,S b c->c < L0.base+sLen*L0.sz:=fun c hc=>by
   obtain⟨q1,q2⟩:=hin c hc;rcases hfx with h |h
   ·rw[h]at q2;simp at q2
   ·rw[h,hel];exact q1.2
  have kS:ZbM S w (w.setCells b (L0.base+sLen*L0.sz) ZoF):=fun b' hb'=>by
   by_cases e:b'=b
   ·subst e;exact⟨fun c hc=>by rw[hcell',if_neg (by have:=hout c hc;omega)],fun hc=>absurd (hout _ (hc (L0.base+sLen*L0.sz))) (Nat.lt_irrefl _)⟩
   ·exact⟨fun c _=>ZS (Zo b _ _ _ b' e),fun _=>Zo b _ _ _ b' e⟩
  refine key ⟨some b,L0.base,L0.sz,sLen+xs.length,sCap⟩ _ rfl (ZV _ _ _ _) (ZQ.setCells _ _ _ _) (fun b1 hb1=>by cases hb1;exact hLb) (fun b' hne=>Zo b _ _ _ b' (fun e=>hne (e▸hLb))) kS (fun b' c hb' hc=>by simp only[ZnO]at hb';subst hb';have h1:=hout c hc;have h2:=(hin c hc).1.1;dsimp only;rw[ZnI];omega) hrun (fun S' ρ' hS=> ?_) (fun S' ρ' hL=> ?_)
  ·have hlel:sLen<=es.length:=by omega
   refine⟨rfl,by simp;omega,hroom,by dsimp only;unfold ZD at hb2;unfold Z9;omega,by simp,fun b1 hb1 m hm=> ?_,Zg8 sLen evs evs',fun j hj=> ?_,fun b1 hb1 j k v hj hv=> ?_,fun j x hx=> ?_⟩
   ·cases hb1;have hle2:sCap*L0.sz<=L0.cap*L0.sz:=ZnK _ hcap;obtain⟨⟨v,q⟩,q2⟩:=hcells b hLb m (by dsimp only at hm;omega);refine⟨?_,by rw[World.frozen?_setCells];exact q2⟩;dsimp only;rw[hcell'];split
    ·exact⟨_,Zn2 (by omega)⟩
    ·exact⟨v,q⟩
   ·dsimp only at hj;unfold Zg8;split
    ·exact hev j (by omega)
    ·exact(n6 (j - sLen) (by omega)).1
   ·cases hb1;dsimp only at hj|-
    unfold Zg8 at hv;rw[hcell'];split at hv
    ·rename_i hlt;have hk:k < L0.sz:=by have:=(Znq.1 hv).1;have:=hev j (by omega);omega
     have:(j+1)*L0.sz<=sLen*L0.sz:=ZnK _ hlt;rw[ZnI,Zoj]at this;rw[if_neg (by omega)];exact hcell b hLb j k v (by omega) hv
    ·rename_i hlt;have:=(n6 (j - sLen) (by omega)).2 k v hv;have hl':(j - sLen)*L0.sz+k < ZoF.length:=(ZnA.1 this).1;have hjs:j*L0.sz=sLen*L0.sz+(j - sLen)*L0.sz:=by rw[<-ZnI];congr 1;omega
     rw[if_pos (by omega),show L0.base+j*L0.sz+k - (L0.base+sLen*L0.sz)=(j - sLen)*L0.sz+k by omega];exact this
   ·unfold Zg8
    by_cases hlt:j < sLen
    ·rw[Zn0 (by simp;omega),ZnC,if_pos hlt]at hx;rw[if_pos hlt];exact(hrel j x hx).mono kS hS
    ·rw[Zn1 (by simp;omega)]at hx;rw[if_neg hlt];have:j - (es.take sLen).length=j - sLen:=by simp;omega
     rw[this]at hx;exact(n7 _ x hx).mono kS hS
  ·exact .sl _ 0 _ _ _ _ hL (by simp) ⟨by unfold ZD at hb2;unfold Z9;omega,hcm⟩ hroom (.inr ⟨b,rfl,by simp,by simp⟩)
theorem ZhJ {args:Array Operand} {ats:Array TypeId} (ho:o.op= .call {callee:= .builtin .append,args,argTypes:=ats}) (hc:Zf C.E st.ep i o.op o.type st.slots st.objs=some e) (hcond:∀q∈e.cond,q=true) (hw:Zdu st e=true):Zv C X st a w i o e:=by
 rw[ho]at hc hlit;simp only[Zf,ZO]at hc;unfold Zcm at hc;split at hc<;>(try simp only[reduceCtorEq]at hc);rename_i t u s x hds hlen;have hats:ats= #[t,u]:=by grind
 subst hats;have huse:∃te ds,C.E.elem t=some te/\C.E.prog.underlying u=some ds/\(((∀k,ds≠ .int k)/\ZaT st.objs st.ep i te s x=some e)\/∃(k:IntKind) (n:Nat),ds= .int k/\x= .p (.int .i64 (n:Int))/\Zab st.objs st.ep i te s (ZnG n te.zeroP)=some e):=by
  split at hc
  ·rename_i te el hel htu;obtain⟨d,hu,hd⟩:=hE.und htu;grind[Zat]
  ·rename_i te hel htu;obtain⟨d,hu,hd⟩:=hE.und htu;grind[Zat]
  ·rename_i te k hel htu;obtain⟨d,hu,hd⟩:=hE.und htu;split at hc;rotate_left;simp at hc;rename_i a;split at hc;rotate_left;simp at hc;rename_i h0;have hdk:∃k,d= .int k:=by cases d<;>first |exact⟨_,rfl⟩ |(simp[Zat]at hd)
   grind
  simp_all
 obtain⟨te,ds,hel,huu,hc'⟩:=huse;clear hc;have hc:=hc';clear hc';obtain⟨hl,hr⟩:=Zaj h args.toList [t,u] (fun x hx=>by grind[Op.operands,Call.operands,Zns])
 simp only[List.toList_toArray]at hlen hl hr;rw[hlen]at hl hr;obtain⟨el,hty,hte⟩:∃el,(∃sz by_ ze,C.E.ty t=some {d:= .sl el,size:=sz,bytes:=by_,zero:=ze})/\C.E.ty el=some te:=by grind[Env.elem]
 obtain⟨_,_,_,hty⟩:=hty;have hut:=hE.slice hty rfl
 match hxx:args.toList,hl with
 | [xs0,xx0],_=>
  rw[hxx]at hr;have hrs:=hr 0 (a.eval xs0) s rfl rfl;have hrx:=hr 1 (a.eval xx0) x rfl rfl;have hargs:args.map a.eval= #[a.eval xs0,a.eval xx0]:=by grind
  have hsrcs:∃xs,Zg7 C.E.prog w S t u el te (a.eval xx0) xs/\Zab st.objs st.ep i te s xs=some e:=by
   rcases hc with ⟨hdsn,hc⟩ |⟨k,n,rfl,rfl,hc⟩
   ·unfold ZaT at hc;split at hc
    ·simp_all
    ·rename_i xs hxs;exact⟨xs,ZkS hE hut hte huu hdsn (ZdI (P:=C.E.prog) h.objs hrx hxs),hc⟩
   ·obtain⟨e2,_,g2⟩:=ZbX hrx;refine⟨_, ?_,hc⟩;rw[e2];exact ZhT hE hut hte huu (by rw[show IntKind.max .i64=9223372036854775807 from by decide]at g2;grind[Zr])
  obtain⟨xs,hnew,hc1⟩:=hsrcs;clear hc;revert hc1;intro hc
  ·generalize a.eval xx0=vx at hargs hnew hrx;unfold Zab at hc;generalize hvs:a.eval xs0=vs at hargs hrs;split at hc
   ·
    rename_i sz0;simp only[ZnO]at hc;cases hrs with
    |nils=>
    have hcnd:=of_decide_eq_true (hcond _ (by rw[<-hc];exact ZnE))
    by_cases h0:xs.length=0
    ·have hxs0:xs=[]:=ZnZ h0;subst hxs0;obtain⟨ZoF,evs',n1,n2,n5,n6,n7,rin,rnil,rnew⟩:=hnew;have hrun:=rnil rfl o.type none 0;obtain⟨csb,hx⟩:=ZF (a:=a) (w:=w) (P:=C.E.prog) ho;have f:=h.fresh hi;let ρ':Id->Option Lay:=upd ρ (st.ep,i,0) (some ⟨none,0,te.size,0,0⟩);have hρ:∀id L,ρ id=some L->ρ' id=some L:=by
      grind[upd]
     have hbox:ρ' (st.ep,i,0)=some ⟨none,0,te.size,0,0⟩:=by grind[upd]
     subst hc;refine⟨_,_,w, ?_,.inl rfl,ρ',h.step (v:= .slice none 0 0) ρ' hi ht (ZnJ _) (ZQ.refl _) (fun _ _ _=>rfl) (by simp) hρ ?_ (by simp) ?_ ?_ (by simp) ?_⟩
     ·rw[hx,hargs];exact Zgk hrun
     ·grind[upd]
     ·intro k o' hm;simp only[ZnF,ZnP]at hm;obtain⟨rfl,rfl⟩:=hm;exact⟨_,hbox,by simp,fun S' _ _ _=>Zau te.size false⟩
     ·grind
     ·intro S' _ _ d _;exact .sl _ 0 0 0 none _ hbox (by simp) (by simp) (by simp) (.inl rfl)
    ·refine Zda h hi ht (by simp_all) hE ho hargs hut hte (es:=[]) ?_ hnew rfl (by omega) (by simp_all) (wr:=[]) (by simp) (by simp) (fix:=false) (c:=[decide (xs.length*max te.bytes 1<=ZD)]) (by rw[<-hc];simp);exact Zad (evs:=fun _=>default) rfl (by simp) (by simp) (by simp) (by simp)
   ·
    rename_i sz0 es _;split at hc;rotate_left;simp at hc;rename_i hsz0;subst hsz0;simp only[ZnO]at hc;cases hrs with
    |clip ad n _ _ hp=>
    obtain⟨hne,hcnd⟩:=of_decide_eq_true (hcond _ (by rw[<-hc];exact ZnE));have hpos:0 < xs.length:=by
     rcases Nat.eq_zero_or_pos xs.length with h0 |h0
     ·rw[ZnZ h0]at hne;simp at hne
     ·exact h0
    cases hp with
    |sl _ _ _ _ _ evs hel' hm hc' hsz hcell hr'=>
     subst hel';refine Zda h hi ht (by rw[ho];exact hlit) hE ho hargs hut hte (es:=es) ?_ hnew rfl (by omega) hcnd (wr:=[]) (by simp) (by simp) (fix:=false) (c:=[decide (xs.isEmpty=false/\(es.length+xs.length)*max te.bytes 1<=ZD)]) (by rw[<-hc]);exact Zad rfl hm hsz (fun i hi=>let ⟨b,o,h1,h2⟩:=hcell i hi;⟨b,o,h1,fun j v hv=>(h2 j v hv).2⟩) hr'
   ·
    rename_i id len _;split at hc;rotate_left;simp at hc;rename_i sz0 es fix hlk;split at hc;rotate_left;simp at hc;rename_i hsz0;obtain⟨rfl,hfx⟩:=hsz0;simp only[ZnO]at hc;have hsrc:=ZdI (P:=C.E.prog) (sz:=te.size) (xs:=es.take len) h.objs hrs (by simp[ZcP,Zbm,hlk]);cases hrs with
    |sl _ _ _ cap ad L hL hll hm hcp ha=>
    have hcnd:=of_decide_eq_true (hcond _ (by rw[<-hc];exact ZnE));have hfz:st.fz id=false:=by rw[<-hc]at hw;simp only[Zdu,Znu,ZnV,ZnF,forall_eq,ZnU]at hw;exact hw.1
    obtain⟨L',hL',hsz,hel2,hlc,_⟩:=h.objs id _ hlk (by simp);rw[hL]at hL';obtain rfl:=ZnN hL'
    by_cases hroom:len+xs.length<=cap
    ·refine ZkQ h hi ht (by rw[ho];exact hlit) hE ho hargs hut hte hnew hlk hL hfz (by omega) hcp hm.2 ?_ hfx hroom hcnd (c:=[decide ((len+xs.length)*max te.bytes 1<=ZD)]) (by rw[<-hc]);rcases ha with h0 |⟨b,h1,h2,h3⟩
     ·exact .inl h0
     ·exact .inr ⟨b,h1,by simpa using h2,by omega⟩
    ·refine Zda h hi ht (by rw[ho];exact hlit) hE ho hargs hut hte hsrc hnew (by simp;omega) (by omega) hcnd (wr:=[(id,.gone)]) (by simp) ?_ (c:=[decide ((len+xs.length)*max te.bytes 1<=ZD)]) (by rw[<-hc]);intro id' o' hm;simp only[ZnF,ZnP]at hm;obtain⟨rfl,rfl⟩:=hm;exact⟨hfz,_,hlk,by simp⟩
   simp_all
end
end
end Eng
namespace Eng
open Go
section
variable {C:Ctx} {X:Nat->Prop} {ρ:Id->Option Lay} {S:Fz} {st:St} {a:Act} {w:World} {i:Nat} {o:Oper} {e:Eff}
variable (h:Rep C X ρ S st a.tmps w) (hi:¬X i) (ht:∀d,o.dst=some d->d < C.E.nt) (hlit:o.op.operands.all ZE=true) (hE:Zl C.E)
include h hi ht hlit hE
theorem ZkD {args:Array Operand} {ats:Array TypeId} (ho:o.op= .call {callee:= .builtin .copy,args,argTypes:=ats}) (hc:Zf C.E st.ep i o.op o.type st.slots st.objs=some e) (hw:Zdu st e=true):Zv C X st a w i o e:=by
 rw[ho]at hc hlit;simp only[Zf,ZO]at hc;unfold Zjl at hc;split at hc<;>(try simp only[reduceCtorEq]at hc);rename_i t ts d s hds hlen;split at hc<;>(try simp only[reduceCtorEq]at hc);rename_i te hel;have hats:ats[0]? =some t:=by rw[<-ZnS,hds];rfl
 obtain⟨hl,hr⟩:=Zaj h args.toList ats.toList (fun x hx=>by grind[Op.operands,Call.operands,Zns])
 rw[hlen]at hl hr;obtain⟨el,hty,hte⟩:∃el,(∃sz by_ ze,C.E.ty t=some {d:= .sl el,size:=sz,bytes:=by_,zero:=ze})/\C.E.ty el=some te:=by grind[Env.elem]
 obtain⟨_,_,_,hty⟩:=hty;have hut:=hE.slice hty rfl;have hszr:∀w,(Go.sizeOf el).run C.E.prog w= .ok te.size w:=ZN hE hte
 match hxx:args.toList,hl with
 | [xd0,xs0],_=>
  rw[hxx]at hr;have hrd:=hr 0 (a.eval xd0) d rfl rfl;have hrs:=hr 1 (a.eval xs0) s rfl rfl;have hargs:args.map a.eval= #[a.eval xd0,a.eval xs0]:=by grind
  generalize a.eval xs0=vx at hargs hrs;generalize a.eval xd0=vd at hargs hrd;unfold ZfW at hc;split at hc<;>(try simp only[reduceCtorEq]at hc);rename_i id off len _;split at hc<;>(try simp only[reduceCtorEq]at hc);rename_i sz es hlk;split at hc<;>(try simp only[reduceCtorEq]at hc);rename_i xs hxs;split at hc<;>(try simp only[reduceCtorEq]at hc);rename_i hsz0;cases hc;obtain⟨ZoF,evs',n1,n2,n3,n4,n5,n6,n7⟩:=ZdI (P:=C.E.prog) h.objs hrs hxs;cases hrd with
  |sl _ _ _ cap ad L hL hll hm hcp ha=>
  have hfz:st.fz id=false:=by grind[Zdu]
  obtain⟨L',hL',hsz,hel2,hlc,hlm',hbn,hcells,evs,hev,hcell,hrel⟩:=h.objs id _ hlk (by simp);rw[hL]at hL';obtain rfl:=ZnN hL';have hmin:min xs.length len<=xs.length:=Nat.min_le_left _ _;have hmin2:min xs.length len<=len:=Nat.min_le_right _ _;generalize hn:min xs.length len=n at hmin hmin2;have hn':Nat.min xs.length len=n:=hn;have hnf:=n4 n hmin w rfl;rw[hsz0]at hnf;obtain⟨csb,hx⟩:=ZF (a:=a) (w:=w) (P:=C.E.prog) ho;have hval:IntKind.i64.min<=(n:Int)/\(n:Int)<=IntKind.i64.max:=ZdV (by omega);have hchg:∀w',w'.heap.size=w.heap.size->ZQ w w'->(∀b,L.blk≠some b->w'.heap[b]? =w.heap[b]?)->(Builtin.copy_ ats o.type #[.slice ad len cap,vx]).run C.E.prog w= .ok (goInt n) w'->
    (∀S',(∀b c,S b c->S' b c)->Zp w' S' ρ L (.arr sz (ZT es off (xs.take n)) false))->
    Zv C X st a w i o {val:= .p (.int .i64 (n:Nat)),wr:=[(id,.arr sz (ZT es off (xs.take n)) false)]}:=by
   intro w' hws hqu hkeep hrun hobj;refine⟨_,_,w', ?_,.inl rfl,ρ,h.step (v:= .int .i64 n) ρ hi ht (by omega) hqu ?_ ?_ (fun _ _ h=>h) (fun id h=> .inl h) (by simp) (fun _ _ hm=>by simp_all) (fun _ _ _ _ _ _ _ hm=>by simp_all) ?_ ?_ (ns:=ns_one hlk rfl)⟩
   ·rw[hx,hargs];exact Zgk hrun
   ·grind
   ·grind
   ·grind
   ·intro S' _ _ d _;exact .p _ _ (.int _ _ hval.1 hval.2)
  rcases ha with h0 |⟨b,hLb,rfl,hcap⟩
  ·have hn0:n=0:=by omega
   subst hn0;refine hchg w rfl (ZQ.refl _) (fun _ _=>rfl) ?_ (fun S' hS=> ?_)
   ·have hf:(Builtin.firstCells te.size 0 vx).run C.E.prog w= .ok #[] w:=by grind
    cases ad<;>simp[Builtin.copy_,hats,Za hut,n3,hn',hszr,hf,storeCells]
   ·have hsp:ZT es off (xs.take 0)=es:=by simp[ZT]
    rw[hsp];exact(show Zp w S ρ L (.arr sz es false)from ⟨hsz,hel2,hlc,hlm',hbn,hcells,evs,hev,hcell,hrel⟩).mono (.refl _ _) hS (fun _ _ h=>h) (fun _ _=>rfl)
  ·have hnl:(ZoF.take (n*sz)).length=n*sz:=by have:n*sz<=xs.length*sz:=ZnK _ hmin;simp;omega
   have hin:∀m,m < n*sz->off*sz+m < L.cap*sz:=fun m hm=>by have:(off+n)*sz<=L.cap*sz:=ZnK _ (by omega);rw[ZnI]at this;omega
   have hcs:∀m,m < (ZoF.take (n*sz)).length->(w.cell? ⟨b,L.base+off*sz+m,none⟩).isSome=true/\w.frozen? ⟨b,L.base+off*sz+m,none⟩=false:=fun m hm=>by obtain⟨⟨v,q⟩,q2⟩:=hcells b hLb (off*sz+m) (hin m (by omega));rw[show L.base+off*sz+m=L.base+(off*sz+m) by omega,q,q2];exact⟨rfl,rfl⟩
   have hst:=run_storeCells_cells (P:=C.E.prog) b (L.base+off*sz) (ZoF.take (n*sz)) 0 w (fun m hm=>by simpa using (hcs m hm).1) (fun m hm=>by simpa using (hcs m hm).2) (fun u hu=>n5 u (List.mem_of_mem_take hu));have hcell':=fun m=>Z7 (w:=w) (b:=b) (o:=L.base+off*sz) (vs:=ZoF.take (n*sz)) (fun m hm=>(hcs m hm).1) m
   have hown:=h.own id _ L b hlk (by simp) hL hLb;have hnS:∀c,¬S b c:=h.notS hlk (by simp) hL hLb hfz rfl;have kS:ZbM S w (w.setCells b (L.base+off*sz) (ZoF.take (n*sz))):= .of fun b' c hb' _=>Zo b _ _ _ b' (fun e=>hnS c (e▸hb'))
   simp only[Zoh]at hst;refine hchg (w.setCells b (L.base+off*sz) (ZoF.take (n*sz))) (ZV _ _ _ _) (ZQ.setCells _ _ _ _) (fun b' hne=>Zo b _ _ _ b' (fun e=>hne (e▸hLb))) ?_ (fun S' hS=> ?_)
   ·have hsz':∀w,(Go.sizeOf el).run C.E.prog w= .ok sz w:=fun w=>by rw[hszr,hsz0]
    rw[hsz];rw[<-hsz0]at hnf;simp[Builtin.copy_,hats,Za hut,n3,hn',hsz',hnf,hst]
   ·have hxt:(xs.take n).length=n:=by simp;omega
    have hsp:=ZbN es off (xs.take n) (by omega);refine⟨hsz,by rw[hsp];exact hel2,hlc,hlm',hbn,fun b1 hb1 m hm=> ?_,fun j=>if off<=j/\j < off+n then evs' (j - off)else evs j,fun j hj=> ?_,fun b1 hb1 j k u hj hu=> ?_,fun j z hz=> ?_⟩
    ·rw[hLb]at hb1;obtain rfl:=ZnN hb1;obtain⟨⟨v0,q1⟩,q2⟩:=hcells b hLb m hm;refine⟨?_,by rw[World.frozen?_setCells];exact q2⟩;rw[hcell'];split
     ·exact⟨_,Zn2 (by omega)⟩
     ·exact⟨v0,q1⟩
    ·dsimp only;split
     ·exact(n6 (j - off) (by omega)).1
     ·exact hev j hj
    ·rw[hLb]at hb1;obtain rfl:=ZnN hb1;dsimp only at hu;rw[hcell'];split at hu
     ·rename_i hin';have hq:=(n6 (j - off) (by omega)).2 k u hu;have hk:k < sz:=by have:=(Znq.1 hu).1;have:=(n6 (j - off) (by omega)).1;omega
      have h1:j*sz=off*sz+(j - off)*sz:=by rw[<-ZnI];congr 1;omega
      have h2:(j - off+1)*sz<=n*sz:=ZnK _ (by omega);rw[ZnI,Zoj]at h2;rw[if_pos (by omega),show L.base+j*sz+k - (L.base+off*sz)=(j - off)*sz+k by omega,ZnC,if_pos (by omega)];exact hq
     ·rename_i hout;have hk:k < sz:=by have:=(Znq.1 hu).1;have:=hev j hj;omega
      rw[if_neg]
      ·exact hcell b hLb j k u hj hu
      ·rintro⟨r1,r2⟩;rcases Nat.lt_or_ge j off with hlt |hge
       ·have:(j+1)*sz<=off*sz:=ZnK _ hlt;rw[ZnI,Zoj]at this;omega
       ·have:(off+n)*sz<=j*sz:=ZnK _ (by omega);rw[ZnI]at this;omega
    ·rw[ZbO _ _ _ (by omega),hxt]at hz;dsimp only;split at hz
     ·rename_i hin';rw[if_pos hin'];rw[ZnC,if_pos (by omega)]at hz;exact(n7 _ z hz).mono kS hS
     ·rename_i hout;rw[if_neg hout];exact(hrel j z hz).mono kS hS
end
end Eng
namespace Eng
open Go
theorem ZW {td:TD} {x:P} (h:Zam td x=true):(ZZ td x=true/\∀n e,td≠ .arr n e)\/∃n e a b,td= .arr n e/\x= .agg [.int .i64 a,.int .i64 b]:=by
 unfold Zam at h;grind[ZZ]
theorem ZhA (a b c d:Int):P.key (.agg [.int .i64 a,.int .i64 b]) (.agg [.int .i64 c,.int .i64 d])=(a == c&&b == d):=by simp[P.key,P.eqv,P.eqcs,P.eqc]
theorem ZaC {td:TD} {x y:P} (g:Zam td x=true) (f:Zam td y=true):P.key x y=true<->x=y:=by
 rcases ZW g with ⟨g,h⟩ |⟨n,e,a,b,rfl,rfl⟩
 ·rcases ZW f with ⟨f,_⟩ |⟨n,e,_,_,rfl,_⟩
  ·cases td<;>cases x<;>simp[ZZ]at g<;>cases y<;>simp[ZZ]at f
   all_goals grind[P.key,P.eqv,P.eqc]
  simp_all
 ·rcases ZW f with ⟨_,h⟩ |⟨_,_,c,d,_,rfl⟩
  all_goals grind[ZhA]
theorem Zar {td:TD} {x:P} (a:Zam td x=true):P.key x x=true:=(ZaC a a).2 rfl
def Zfq (td:TD) (c:List (P×P)):Prop:=(c.Pairwise fun a b=>P.key a.1 b.1=false)/\∀q∈c,Zam td q.1=true
theorem Zfq.perm {td:TD} {a b:List (P×P)} (h:Zfq td a) (f:a.Perm b):Zfq td b:=by
 have i:∀q∈b,Zam td q.1=true:=fun q k=>h.2 q (f.mem_iff.2 k)
 refine⟨?_,i⟩;have j:a.Pairwise fun x y=>x.1≠y.1:=h.1.imp_of_mem fun g l m e=>by grind[ZaC]
 have c:b.Pairwise fun x y=>x.1≠y.1:=(f.pairwise_iff (fun d=>Ne.symm d)).1 j
 exact c.imp_of_mem fun g l m=>by
  grind[ZaC]
theorem Zfq.uniq {td:TD} {b:List (P×P)} (h:Zfq td b) {k v d:P} (f:(k,v)∈b) (m:(k,d)∈b):v=d:=by
 obtain⟨i,hi,o⟩:=Zoc.1 f;obtain⟨j,e,g⟩:=Zoc.1 m;have l:=Zar (h.2 _ f);rcases Nat.lt_trichotomy i j with a |n |c
 ·have:=Zof.1 h.1 i j hi e a;simp_all
 ·simp_all
 ·have:=Zof.1 h.1 j i e hi c;simp_all
theorem ZbB {td:TD} {b:List (P×P)} (h:Zfq td b) {k:P} (g:Zam td k=true) (v:P):Zbq b k=some v<->(k,v)∈b:=by
 unfold Zbq;rw[ZnM];constructor
 ·rintro⟨q,f,rfl⟩;have c:=List.find?_some f;have a:=List.mem_of_find?_eq_some f;have:=(ZaC g (h.2 _ a)).1 c;simp_all
 ·intro i;cases hf:b.find? fun e=>P.key k e.1 with
  |none=>
   grind[Zar]
  |some q=>
   have c:=List.find?_some hf;have a:=List.mem_of_find?_eq_some hf;have d:=(ZaC g (h.2 _ a)).1 c;obtain⟨q1,j⟩:=q;simp only at d;subst d;exact⟨_,rfl,h.uniq a i⟩
theorem ZbS {td:TD} {a:List (P×P)} {k:P}:Zbq a k=none<->∀q∈a,P.key k q.1=false:=by simp_all[Zbq]
theorem Ze6 {td:TD} {a b:List (P×P)} (h:Zfq td a) (d:a.Perm b) {k:P} (c:Zam td k=true):Zbq a k=Zbq b k:=by
 cases hb:Zbq b k with
 |some v=>exact(ZbB h c v).2 (d.mem_iff.2 ((ZbB (h.perm d) c v).1 hb))
 |none=>
  cases ha:Zbq a k with
  |none=>rfl
  |some v=>
   have:=(ZbB (h.perm d) c v).2 (d.mem_iff.1 ((ZbB h c v).1 ha));simp_all
theorem Zik {td:TD} {b:List (P×P)} (g:Zfq td b) {k v i:P} (f:Zam td k=true) {j:Nat} (l:b[j]? =some (k,v)):ZjD b k i=b.set j (k,i):=by
 have d:b.any (fun e=>P.key k e.1)=true:=ZnW.2 ⟨(k,v),Zoe l,Zar f⟩;unfold ZjD;rw[if_pos d];apply List.ext_getElem?;intro m;rw[ZnB]
 by_cases h:m=j
 ·grind[Zar]
 ·rw[Zn3 (Ne.symm h)];cases n:b[m]? with
  |none=>rfl
  |some q=>
   have:P.key k q.1=false:=by
    cases hc:P.key k q.1 with
    |false=>rfl
    |true=>
     exfalso;have s:=(ZaC f (g.2 q (Zoe n))).1 hc;obtain⟨c,u⟩:=ZnA.1 l;obtain⟨a,o⟩:=ZnA.1 n;have r:=Zar f;rcases Nat.lt_or_gt_of_ne h with p |t
     ·have:=Zof.1 g.1 m j a c p;simp_all
     ·have:=Zof.1 g.1 j m c a t;simp_all
   simp_all
theorem ZgC {b:List (P×P)} {k v:P} (h:Zbq b k=none):ZjD b k v=b++[(k,v)]:=by unfold ZjD;rw[if_neg];intro a;obtain⟨q,c,d⟩:=ZnW.1 a;have:=(ZbS (td:= .bool)).1 h q c;simp_all
theorem ZgB {td:TD} {a b:List (P×P)} (f:Zfq td a) (c:a.Perm b) {k v:P} (d:Zam td k=true):(ZjD a k v).Perm (ZjD b k v):=by
 unfold ZjD;have:a.any (fun e=>P.key k e.1)=b.any (fun e=>P.key k e.1):=by
  grind
 rw[this];split
 ·grind
 ·exact c.append_right _
theorem ZgD {td:TD} {i:List (P×P)} (e:Zfq td i) {k v:P} (h:Zam td k=true):Zfq td (ZjD i k v):=by
 unfold ZjD;split
 ·refine⟨?_, ?_⟩
  ·rw[List.pairwise_map];refine e.1.imp fun {a b} hab=> ?_
   by_cases h1:P.key k a.1<;>by_cases h2:P.key k b.1<;>simp[h1,h2,hab]
  ·intro q c;obtain⟨a,f,rfl⟩:=Zod.1 c;split<;>exact e.2 a f
 ·rename_i d;refine⟨List.pairwise_append.2 ⟨e.1,List.pairwise_singleton _ _,fun a f b j=> ?_⟩, ?_⟩
  ·simp only[ZnF]at j;subst j;cases hc:P.key a.1 k with
   |false=>rfl
   |true=>
    exfalso;have g:=(ZaC (e.2 a f) h).1 hc;exact d (ZnW.2 ⟨a,f,by rw[g];exact Zar h⟩)
  ·intro q c;rcases List.mem_append.1 c with c |c
   ·exact e.2 q c
   ·simp only[ZnF]at c;subst c;exact h
theorem Zil {td:TD} {b:List (P×P)} (d:Zfq td b) {k v:P} (g:Zam td k=true) {j:Nat} (c:b[j]? =some (k,v)):ZkY b k=b.eraseIdx j:=by
 unfold ZkY
 induction b generalizing j with
 |nil=>simp at c
 |cons q b i=>
  have e:Zfq td b:=⟨(List.pairwise_cons.1 d.1).2,fun q l=>d.2 q (by simp[l])⟩;cases j with
  |zero=>
   simp only[Zny,ZnO]at c;subst c;simp only[List.filter_cons,Zar g,Bool.not_true,Bool.false_eq_true,if_false,List.eraseIdx_cons_zero];apply List.filter_eq_self.2;intro a h;have:=(List.pairwise_cons.1 d.1).1 a h;simpa using this
  |succ j=>
   simp only[Zop]at c;have:P.key k q.1=false:=by
    cases hc:P.key k q.1 with
    |false=>rfl
    |true=>
     have f:=(ZaC g (d.2 q (by simp))).1 hc;have:=(List.pairwise_cons.1 d.1).1 _ (Zoe c);rw[<-f,Zar g]at this;simp at this
   simp only[List.filter_cons,this,Bool.not_false,if_true,List.eraseIdx_cons_succ];rw[i e c]
theorem ZgG {b:List (P×P)} {k:P} (h:Zbq b k=none):ZkY b k=b:=by unfold ZkY;apply List.filter_eq_self.2;intro a c;simp[(ZbS (td:= .bool)).1 h a c]
theorem ZgF {a b:List (P×P)} (c:a.Perm b) (k:P):(ZkY a k).Perm (ZkY b k):=c.filter _
theorem ZgH {td:TD} {a:List (P×P)} (b:Zfq td a) (k:P):Zfq td (ZkY a k):=
 ⟨b.1.filter _,fun q c=>b.2 q (List.mem_filter.1 c).1⟩
section
variable {w:World} {S:Fz}
def ZgE (E:Env) (d:TypeDesc) (td:TD):Prop:=td.same td=true/\match td with
 | .arr _ _=>∃e,d= .array 2 e/\E.td e=some (.int .i64)
 |td=>Zat d td=true
theorem ZgE.leaf {E:Env} {d:TypeDesc} {td:TD} (h:ZgE E d td) (a:∀n e,td≠ .arr n e):Zat d td=true/\td.same td=true:=by refine⟨?_,h.1⟩;have:=h.2;simp_all
theorem ZjX {a b:TD} (h:a.same b=true):a=b/\b.same b=true:=by cases a<;>cases b<;>simp[TD.same]at h|- <;>simp[h]
theorem ZgW (s t:List UInt8):((ByteArray.mk s.toArray) == (ByteArray.mk t.toArray))=(s == t):=by simp_all[beq_toListBytes]
theorem Zhi {d:TypeDesc} {td:TD} (f:Zat d td=true/\td.same td=true) {x y:P} {u v:Value} (e:ZZ td x=true) (c:ZZ td y=true) (b:RelP w S u x) (a:RelP w S v y):Instr.sameNow d u v=some (P.key x y):=by
 obtain⟨g,h⟩:=f;cases td<;>simp[TD.same]at h<;>cases d<;>simp[Zat]at g<;>cases x<;>simp[ZZ]at e<;>cases y<;>simp[ZZ]at c
 ·rw[b.bool_inv,a.bool_inv];simp[Instr.sameNow,P.key,P.eqv,P.eqc]
 ·subst e;subst c;rw[b.int_inv.1,a.int_inv.1];simp[Instr.sameNow,P.key,P.eqv,P.eqc]
 ·rw[b.str_inv.1,a.str_inv.1];grind[Instr.sameNow,P.key,P.eqv,P.eqc,ZgW]
theorem Zec {d:TypeDesc} {td:TD} (hd:Zat d td=true/\td.same td=true) {x:P} {u:Value} (hx:ZZ td x=true) (hu:RelP w S u x):∀(es:List MapEntry) (kv:List (P×P)) (n:Nat),es.length=kv.length->(∀q∈kv,ZZ td q.1=true)->
  (∀(i:Nat) e q,es[i]? =some e->kv[i]? =some q->RelP w S e.key q.1)->
  (∀q∈kv,P.key x q.1=false)/\Instr.findNow d u es n=some none\/
  ∃(j:Nat) (e:MapEntry) (q:P×P),es[j]? =some e/\kv[j]? =some q/\P.key x q.1=true/\Instr.findNow d u es n=some (some (n+j,e.val))
 | [],[],n,_,_,_=> .inl ⟨by simp,rfl⟩
 | [],_::_,n,h,_,_=>by grind
 |_::_,[],n,h,_,_=>by grind
 |e::es,q::kv,n,hl,hk,hr=>by
  have hs:=Zhi hd hx (hk q (by simp)) hu (hr 0 e q rfl rfl);simp only[Instr.findNow,hs];cases hc:P.key x q.1 with
  |true=>exact .inr ⟨0,e,q,rfl,rfl,hc,by simp⟩
  |false=>
   rcases Zec hd hx hu es kv (n+1) (by simp_all) (fun q hq=>hk q (by grind)) (fun i e q he hq=>hr (i+1) e q (by simp_all) (by simp_all))with ⟨h1,h2⟩ |⟨j,e',q',h1,h2,h3,h4⟩
   ·grind
   ·exact .inr ⟨j+1,e',q',by simp_all,by simp_all,h3,by grind⟩
theorem Zgg {E:Env} (c:Zl E) {e:Nat} (b:E.td e=some (.int .i64)):∃ti,E.ty e=some ti/\ti.size=1/\ti.isAgg=false/\E.prog.underlying e=some (.int .i64):=by
 obtain⟨d,h,f⟩:=c.und b;unfold Env.td at b;split at b;rotate_left;simp at b;rename_i ti a;simp only[ZnO]at b;obtain⟨i,j,z,hi⟩:=c.is a;have g:ti.isAgg=false:=by grind[TI.isAgg]
 refine⟨ti,a,by rw[<-hi.zl];exact(hi.flat g).2,g, ?_⟩;rw[h];cases d<;>simp[Zat]at f;rw[f]
theorem ZcM {u:Value} {a b:Int} (h:RelP w S u (.agg [.int .i64 a,.int .i64 b])):u= .agg #[.int .i64 a,.int .i64 b]:=by
 cases h with
 |agg vs _ c f h=>
  have d:vs.size=2:=c;have g:=(h 0 vs[0] _ (by simp) rfl).int_inv.1;have e:=(h 1 vs[1] _ (by simp) rfl).int_inv.1;congr 1;grind
theorem Zi9 {E:Env} (i:Zl E) {k e:Nat} (A:E.prog.underlying k=some (.array 2 e)) (w:E.td e=some (.int .i64)) (a b c d:Int) (w':World):
  (Op.equal k (.agg #[.int .i64 a,.int .i64 b]) (.agg #[.int .i64 c,.int .i64 d])).run E.prog w'= .ok (a == c&&b == d) w':=by
 obtain⟨ti,f,g,l,j⟩:=Zgg i w;obtain⟨B,C,z,hi⟩:=i.is f;have p:=fun us=>Zbd i f us 0
 have s:=fun us=>Zbd i f us 1
 rw[g]at p s;have q:∀(n:Nat) (x y:Int),(Op.equalIn (n+1) e (.int .i64 x) (.int .i64 y)).run E.prog w'= .ok (x == y) w':=fun n x y=>by simp[Op.equalIn,Za j]
 have t:=fun us h=>p us h w'
 have o:=fun us h=>s us h w'
 have v:=t #[.int .i64 a,.int .i64 b] (by simp);have m:=o #[.int .i64 a,.int .i64 b] (by simp);have r:=t #[.int .i64 c,.int .i64 d] (by simp);have u:=o #[.int .i64 c,.int .i64 d] (by simp);simp only[Zan,l]at v m r u;have key:∀n,(Op.equalIn (n+2) k (.agg #[.int .i64 a,.int .i64 b]) (.agg #[.int .i64 c,.int .i64 d])).run E.prog w'= .ok (a == c&&b == d) w':=fun n=>by rw[Op.equalIn];simp[Za A,Zao hi.info,hi.size,g,Std.Legacy.Range.forIn_eq_forIn_range',Std.Legacy.Range.size,Zog,v,m,r,u,q];cases ha:(a == c)<;>cases hb:(b == d)<;>simp_all
 exact key 9998
theorem Zas {P:Program} {kt:TypeId} {x:Eng.P} {u:Value} (w':World):∀(es:List MapEntry) (kv:List (Eng.P×Eng.P)) (n:Nat),es.length=kv.length->
  (∀(i:Nat) e q,es[i]? =some e->kv[i]? =some q->(Op.equal kt u e.key).run P w'= .ok (Eng.P.key x q.1) w')->
  ((∀q∈kv,Eng.P.key x q.1=false)/\(Instr.findAsking kt u es n).run P w'= .ok none w')\/
  ∃(j:Nat) (e:MapEntry) (q:Eng.P×Eng.P),es[j]? =some e/\kv[j]? =some q/\Eng.P.key x q.1=true/\(Instr.findAsking kt u es n).run P w'= .ok (some (n+j,e.val)) w'
 | [],[],n,_,_=> .inl ⟨by simp,by simp[Instr.findAsking]⟩
 | [],_::_,n,h,_=>by grind
 |_::_,[],n,h,_=>by grind
 |e::es,q::kv,n,hl,hr=>by
  have hs:=hr 0 e q rfl rfl;cases hc:Eng.P.key x q.1 with
  |true=>exact .inr ⟨0,e,q,rfl,rfl,hc,by simp_all[Instr.findAsking]⟩
  |false=>
   rcases Zas w' es kv (n+1) (by simp_all) (fun i e q he hq=>hr (i+1) e q (by simp_all) (by simp_all))with ⟨h1,h2⟩ |⟨j,e',q',h1,h2,h3,h4⟩
   ·exact .inl ⟨by grind,by simp_all[Instr.findAsking]⟩
   ·exact .inr ⟨j+1,e',q',by simp_all,by simp_all,h3,by simp[Instr.findAsking,hs,hc,h4,Nat.add_assoc,Nat.add_comm 1]⟩
theorem Zci {E:Env} (Z:Zl E) {s:TypeId} {d:TypeDesc} {td:TD} (O:E.prog.underlying s=some d) (M:ZgE E d td) {x:Eng.P} {u:Value} (C:Zam td x=true) (L:RelP w S u x) {es:List MapEntry} {f:List (Eng.P×Eng.P)} (A:es.length=f.length) (t:Zfq td f)
  (y:∀(i:Nat) e q,es[i]? =some e->f[i]? =some q->RelP w S e.key q.1):
  (Zbq f x=none/\∀w',(Instr.findKey s u es).run E.prog w'= .ok none w')\/
  ∃(j:Nat) (e:MapEntry) (v:Eng.P),es[j]? =some e/\f[j]? =some (x,v)/\Zbq f x=some v/\∀w',(Instr.findKey s u es).run E.prog w'= .ok (some (j,e.val)) w':=by
 have fin:∀{j:Nat} {q:Eng.P×Eng.P},f[j]? =some q->P.key x q.1=true->f[j]? =some (x,q.2)/\Zbq f x=some q.2:=fun {j q} k m=>by have W:=Zoe k;have:=(ZaC C (t.2 q W)).1 m;grind[ZbB]
 rcases ZW C with ⟨K,V⟩ |⟨n,Y,a,b,rfl,rfl⟩
 ·have J:∀q∈f,ZZ td q.1=true:=fun q B=>by
   rcases ZW (t.2 q B)with ⟨h,_⟩ |⟨n,e,_,_,h,_⟩
   all_goals simp_all
  rcases Zec (M.leaf V) K L es f 0 A J y with ⟨o,k⟩ |⟨j,e,q,o,k,m,T⟩
  ·exact .inl ⟨(ZbS (td:=td)).2 o,fun w'=>by simp_all[Instr.findKey,Za]⟩
  ·exact .inr ⟨j,e,q.2,o,(fin k m).1,(fin k m).2,fun w'=>by simp_all[Instr.findKey,Za]⟩
 ·obtain⟨e0,rfl,X⟩:=M.2;obtain rfl:=ZcM L;have p:∀w',(Instr.findKey s (.agg #[.int .i64 a,.int .i64 b]) es).run E.prog w'=(Instr.findAsking s (.agg #[.int .i64 a,.int .i64 b]) es 0).run E.prog w':=fun w'=>by
   cases es with
   |nil=>simp[Instr.findKey,Za O,Instr.findNow,Instr.findAsking]
   |cons e es=>simp[Instr.findKey,Za O,Instr.findNow,Instr.sameNow]
  have r:∀(w':World) (i:Nat) e q,es[i]? =some e->f[i]? =some q->(Op.equal s (.agg #[.int .i64 a,.int .i64 b]) e.key).run E.prog w'= .ok (P.key (.agg [.int .i64 a,.int .i64 b]) q.1) w':=fun w' i e q R B=>by
   rcases ZW (t.2 q (Zoe B))with ⟨_,h⟩ |⟨_,_,c,d,_,h⟩
   ·simp_all
   ·have:=y i e q R B;rw[h]at this;rw[ZcM this,h,ZhA];grind[Zi9]
  rcases Zas (x:= .agg [.int .i64 a,.int .i64 b]) w es f 0 A (r w)with ⟨o,k⟩ |⟨j,e,q,o,k,m,T⟩
  ·refine .inl ⟨(ZbS (td:= .bool)).2 o,fun w'=> ?_⟩;rw[p];rcases Zas (x:= .agg [.int .i64 a,.int .i64 b]) w' es f 0 A (r w')with ⟨_,g⟩ |⟨z,_,N,_,I,H,_⟩
   ·exact g
   ·rw[o N (Zoe I)]at H;cases H
  ·refine .inr ⟨j,e,q.2,o,(fin k m).1,(fin k m).2,fun w'=> ?_⟩;rw[p];rcases Zas (x:= .agg [.int .i64 a,.int .i64 b]) w' es f 0 A (r w')with ⟨F,_⟩ |⟨z,e',N,F,I,H,Q⟩
   ·rw[F q (Zoe k)]at m;cases m
   ·have U:z=j:=by
     obtain⟨D,_⟩:=fin k m;obtain⟨G,_⟩:=fin I H;rcases Nat.lt_trichotomy z j with l |l |l
     ·exact absurd (Zar C) (by rw[show P.key _ _=false from Zof.1 t.1 z j (ZnA.1 G).1 (ZnA.1 D).1 l |> fun h=>by simpa[(ZnA.1 G).2,(ZnA.1 D).2]using h];simp)
     ·exact l
     ·exact absurd (Zar C) (by rw[show P.key _ _=false from Zof.1 t.1 j z (ZnA.1 D).1 (ZnA.1 G).1 l |> fun h=>by simpa[(ZnA.1 G).2,(ZnA.1 D).2]using h];simp)
    subst U;rw[o]at F;obtain rfl:=ZnN F;rw[Q,Zok]
theorem ZaE {E:Env} (h:Zl E) {i:TypeId} {d:TypeDesc} {td:TD} (m:E.prog.underlying i=some d) (k:ZgE E d td) (b:Bool) {x:Eng.P} {v:Value} (p:Zam td x=true) (u:RelP w S v x) (w':World):(Instr.checkKey b 10000 i v).run E.prog w'= .ok () w':=by
 rcases ZW p with ⟨_,l⟩ |⟨n,B,a,c,rfl,rfl⟩
 ·obtain⟨s,t⟩:=k.leaf l;show (Instr.checkKey b (9999+1) i v).run E.prog w'= .ok () w';generalize 9999=n;cases td<;>simp[TD.same]at t<;>cases d<;>simp[Zat]at s<;>first |exact absurd rfl (l _ _) |simp[Instr.checkKey,Za m]
 ·obtain⟨e,rfl,o⟩:=k.2;obtain rfl:=ZcM u;obtain⟨ti,g,f,r,j⟩:=Zgg h o;obtain⟨C,D,z,hi⟩:=h.is g;have A:=Zbd h g #[.int .i64 a,.int .i64 c] 0 (by simp[f]) w';have y:=Zbd h g #[.int .i64 a,.int .i64 c] 1 (by simp[f]) w';have q:∀(n:Nat) (x:Value),(Instr.checkKey b (n+1) e x).run E.prog w'= .ok () w':=fun n x=>by simp[Instr.checkKey,Za j]
  have key:∀n,(Instr.checkKey b (n+2) i (.agg #[.int .i64 a,.int .i64 c])).run E.prog w'= .ok () w':=fun n=>by rw[Instr.checkKey];simp[Za m,Zao hi.info,hi.size,f,Std.Legacy.Range.forIn_eq_forIn_range',Std.Legacy.Range.size,Zog,A,y,q]
  exact key 9998
theorem Zc2 {P:Program} {td:TD} {x:Eng.P} {u v:Value} (e:Zam td x=true) (d:RelP w S u x) (b:RelP w S v x) (w':World):(Instr.keyThatStays u v).run P w'= .ok v w':=by
 have:Instr.sameBits 10000 u v=true:=by
  rcases ZW e with ⟨e,_⟩ |⟨n,f,a,c,rfl,rfl⟩
  ·cases td<;>cases x<;>simp[ZZ]at e
   ·rw[d.bool_inv,b.bool_inv];simp[Instr.sameBits]
   ·rw[d.int_inv.1,b.int_inv.1];simp[Instr.sameBits]
   ·rw[d.str_inv.1,b.str_inv.1];simp[Instr.sameBits,ZgW]
  ·rw[ZcM d,ZcM b];simp_all[Instr.sameBits]
 simp[Instr.keyThatStays,this]
end
end Eng
namespace Eng
open Go
section
variable {C:Ctx} {X:Nat->Prop} {ρ:Id->Option Lay} {S:Fz} {st:St} {a:Act} {w:World} {i:Nat} {o:Oper} {e:Eff}
theorem ZfL {td:TD} {S':Fz} {v:Value} {x:P} (j:Zam td x=true) (h:RelP w S v x):RelP w S' v x:=by
 rcases ZW j with ⟨j,_⟩ |⟨n,e,a,b,rfl,rfl⟩
 ·cases td<;>cases x<;>simp[ZZ]at j
  ·rw[h.bool_inv];exact .bool _
  ·obtain⟨rfl,d,g⟩:=h.int_inv;exact .int _ _ d g
  ·obtain⟨rfl,d⟩:=h.str_inv;exact .str _ d
 ·cases h with
  |agg vs _ l g h=>
   refine .agg vs _ l g fun i v c k f=> ?_
   have:=h i v c k f
   match i,f with
   |0,f=>obtain rfl:=ZnN f;obtain⟨rfl,d,g⟩:=this.int_inv;exact .int _ _ d g
   |1,f=>obtain rfl:=ZnN f;obtain⟨rfl,d,g⟩:=this.int_inv;exact .int _ _ d g
   |i+2,f=>simp_all
theorem Zl.key {E:Env} (l:Zl E) {t:Nat} {ti:TI} {b p:Nat} (f:E.ty t=some ti) (r:ti.d= .map b p) {td:TD} (a:(E.keyTD t).same td=true):∃d,E.prog.underlying b=some d/\ZgE E d td:=by
 have q:E.keyTD t=(match E.td b with
  |some (.arr n e)=>(match E.td e with |some (.int .i64)=> .arr n 0 |_=> .other)
  |some d=>d
  |none=> .other):=by
  unfold Env.keyTD;rw[f];cases ti;grind
 rw[q]at a;cases j:E.td b with
 |none=>grind[TD.same]
 |some d=>
  rw[j]at a;obtain⟨c,i,k⟩:=l.und j;cases d with
  |arr n e=>
   dsimp only at a;split at a
   ·rename_i m;obtain⟨h,g⟩:=ZjX a;subst h;have o:n=2:=by grind[TD.same]
    subst o;refine⟨c,i,g,e, ?_,m⟩;cases c<;>simp[Zat]at k;simp_all
   grind[TD.same]
  |_=>
   obtain⟨h,g⟩:=ZjX a;subst h;exact⟨c,i,g,k⟩
section
variable (h:Rep C X ρ S st a.tmps w) (hi:¬X i) (ht:∀d,o.dst=some d->d < C.E.nt) (hlit:o.op.operands.all ZE=true) (hE:Zl C.E)
include h hi ht hlit hE
theorem ZhG {t:TypeId} {m k:Operand} {ok:Bool} (ho:o.op= .lookup t m k ok) (hc:Zf C.E st.ep i o.op o.type st.slots st.objs=some e):Zv C X st a w i o e:=by
 rw[ho]at hc hlit;simp[Op.operands]at hlit;have h1:=Zm h 0 hlit.1;simp only[Zf]at hc;split at hc;rotate_left;simp at hc;rename_i kt el sz by_ ze hty;have h2:=Zm h kt hlit.2;split at hc;rotate_left;simp at hc;rename_i te td kv kp hte hm hk;split at hc;rotate_left;simp at hc;rename_i hcnd;simp only[Znu]at hcnd;obtain⟨hs,hleaf⟩:=hcnd;simp only[ZnO]at hc;have hum:=hE.map hty rfl;obtain⟨d,hud,hkd⟩:=hE.key hty rfl hs;have hkp:RelP w S (a.eval k) kp:=ZfL (S:=fun _ _=>True) hleaf (Zaf (S':=fun _ _=>True) h.objs (fun _ _ _=>trivial) 1 _ _ _ h2 hk (fun _ _ _ _ _ _ _ _=>trivial));obtain⟨z,hz,hzs,hzr⟩:=Zbs (w:=w) (S:=S) hE hte;generalize hvk:a.eval k=vk at hkp;generalize hvm:a.eval m=vm at h1;have hmap:(vm= .map none/\kv=[])\/∃r es clock kv',vm= .map (some r)/\w.heap[r]? =some (.map es clock)/\kv'.Perm kv/\es.size=kv'.length/\Zfq td kv'/\
   ∀(i:Nat) e q,es[i]? =some e->kv'[i]? =some q->RelP w S e.key q.1/\RelP w S e.val q.2:=by
  unfold ZfI at hm;split at hm
  ·rename_i td' kv' hx;simp only[ZnO,ZnP]at hm;obtain⟨rfl,rfl⟩:=hm;rw[hx]at h1;have h1:=h1.of_p;cases h1 with
   |nilmap=>simp_all
   |map td r es clock kv kv' hS hb hp hl hk hv hd hkey hborn hbd=>exact .inr ⟨r,es,clock,kv',rfl,hb,hp,hl,⟨hd,hkey⟩,fun i e q he hq=>⟨hk i e q he hq,hv i e q he hq⟩⟩
  ·rename_i id hx;split at hm;rotate_left;simp at hm;rename_i td' kv' hlk;simp only[ZnO,ZnP]at hm;obtain⟨rfl,rfl⟩:=hm;rw[hx]at h1;cases h1 with
   |map id L r hL hLb=>
    obtain⟨L',hL',r',hr',es,clock,kv',hb,hp,hl,hkv,hd2,hkey,hborn,hbd⟩:=h.objs id _ hlk (by simp);rw[hL]at hL';obtain rfl:=ZnN hL';rw[hLb]at hr';obtain rfl:=ZnN hr';exact .inr ⟨r,es,clock,kv',rfl,hb,hp,hl,⟨hd2,hkey⟩,hkv⟩
  simp_all
 have hout:∃v b,(Instr.lookup t vm vk ok).run C.E.prog w= .ok (if ok then .tuple #[v,.bool b]else v) w/\
   (match Zbq kv kp with |some x=>RelP w S v x/\b=true |none=>RelP w S v te.zeroP/\b=false):=by
  rcases hmap with ⟨rfl,rfl⟩ |⟨r,es,clock,kv',rfl,hb,hp,hl,hK,hrel⟩
  ·refine⟨z,false, ?_,hzr,rfl⟩;have hck:=ZaE hE hud hkd true hleaf hkp w;simp_all[Instr.findKey,Instr.findNow,Za,Instr.lookup]
  ·have hck:=ZaE hE hud hkd es.isEmpty hleaf hkp w;rcases Zci (es:=es.toList) hE hud hkd hleaf hkp (by omega) hK (fun i e q he hq=>(hrel i e q (by simp_all) hq).1)with ⟨g1,g2⟩ |⟨j,e',v',g1,g2,g3,g4⟩
   ·rw[<-Ze6 hK hp hleaf,g1];refine⟨z,false, ?_,hzr,rfl⟩;simp_all[Instr.lookup,getObj,Sem.run,Za]
   ·rw[<-Ze6 hK hp hleaf,g3];refine⟨e'.val,true, ?_,(hrel j e' _ (by simp_all) g2).2,rfl⟩;simp_all[Instr.lookup,getObj,Sem.run,Za]
 obtain⟨v,b,hrun,hv⟩:=hout;subst hc;refine Zv.quiet h hi ht (v:=if ok then .tuple #[v,.bool b]else v) (by grind[execOp,Sem.run_bind,Result.andThen_ok,Sem.run_pure]) rfl rfl rfl ?_;have tup:∀(x:P),RelP w S v x->RelD w S ρ (.tuple #[v,.bool b]) (.tup [.p x,.p (.bool b)]):=by
  intro x hx;refine .tup _ _ rfl fun i u c hu hc=> ?_
  match i with
  |0=>simp at hu hc;subst hu hc;exact .p _ _ hx
  |1=>simp at hu hc;subst hu hc;exact .p _ _ (.bool b)
  |i+2=>simp at hc
 cases hf:Zbq kv kp with
 |some x=>
  rw[hf]at hv;obtain⟨hv,rfl⟩:=hv;cases ok
  ·exact .p _ _ hv
  ·exact tup x hv
 |none=>
  rw[hf]at hv;obtain⟨hv,rfl⟩:=hv;cases ok
  ·exact .p _ _ hv
  ·exact tup _ hv
theorem Zv.map {id:Id} {td:TD} {kv B:List (P×P)} {r:Nat} {L:Lay} {fs:List Id} {w':World} {c:List Bool} {n:Next} {es:Array MapEntry} {g:Nat} {k:List (P×P)}
  (p:st.objs id=some (.map td kv)) (D:ρ id=some L) (l:L.blk=some r) (R:st.fz id=false) (J:∀f∈fs,∃o,st.objs f=some o/\o≠ .gone) (Q:∀f∈fs,id≠f)
  (z:(execOp a.eval o).run C.E.prog w= .ok n w') (hn:n= .value undef\/n= .skip)
  (O:w'.heap=w.heap.setIfInBounds r (.map es g)) (N:ZQ w w') (Y:Zfq td k) (hp:k.Perm B) (hl:es.size=k.length)
  (A:∀S',(∀b c,S b c->S' b c)->(∀f,f∈fs->∀o L b,st.objs f=some o->o≠ .gone->ρ f=some L->L.blk=some b->∀c,inL (some o) L c->S' b c)->∀(i:Nat) e q,es[i]? =some e->k[i]? =some q->RelP w S' e.key q.1/\RelP w S' e.val q.2)
  (t:∀(i:Nat) e,es[i]? =some e->e.born < g) (M:∀(i j:Nat) e e',es[i]? =some e->es[j]? =some e'->e.born=e'.born->i=j)
  (I:e={val:= .undef,wr:=[(id,.map td B)],frz:=fs,cond:=c}):Zv C X st a w i o e:=by
 subst I;have U:=h.own id _ L r p (by simp) D l;have ab:∀c,¬S r c:=h.notS p (by simp) D l R rfl;have s:∀b,b≠r->w'.heap[b]? =w.heap[b]? :=fun b m=>by grind
 have x:w'.heap[r]? =some (.map es g):=by grind
 have ae:w'.heap.size=w.heap.size:=by grind
 let FS:Fz:=fun b c=>S b c\/∃f o L,f∈fs/\st.objs f=some o/\o≠ .gone/\ρ f=some L/\L.blk=some b/\inL (some o) L c
 have V:ZbM FS w w':= .of fun b c m _=>s b fun e=>by
  subst e;rcases m with m |⟨f,o',L',q1,u,E,H,G,_⟩
  ·grind
  ·exact Q f q1 (h.inj id _ L f o' L' b p (by simp) D l u E H G)
 refine⟨n,undef,w',z,by grind,ρ,h.step ρ hi ht (by omega) N ?_ ?_ (fun _ _ h=>h) (fun id h=> .inl h) ?_ (fun _ _ F=>by grind) (fun _ _ _ _ _ _ _ F=>by grind) ?_ ?_ (ns:=ns_one p rfl)⟩
 ·intro b m T;exact s b (fun e=>T id _ L (ZnF.2 rfl) D (e▸l))
 ·grind
 ·intro f K;obtain⟨o',q1,u⟩:=J f K;obtain⟨L',ac,_⟩:=h.objs f o' q1 u;grind
 ·intro aa o' L1 F _ v S' hS hF;simp only[ZnF,ZnP]at F;obtain⟨rfl,rfl⟩:=F;rw[D]at v;obtain rfl:=ZnN v;have y:∀b c,FS b c->S' b c:=fun b c m=>by
   rcases m with m |⟨af,o',L,q1,u,E,H,G,Z⟩
   all_goals grind
  have W:=A FS (fun b c m=> .inl m) (fun f K o L b u E H G c Z=> .inr ⟨f,o,L,K,u,E,H,G,Z⟩);exact⟨r,l,es,g,k,x,hp,hl,fun i e q I hq=>⟨(W i e q I hq).1.mono V y,(W i e q I hq).2.mono V y⟩,Y.1,Y.2,t,M⟩
 ·intro S' _ _ d _;exact .undef
theorem Zb7 {t:TypeId} {m k v:Operand} (ho:o.op= .mapUpdate t m k v\/o.op= .insert t m k v) (hc:Zf C.E st.ep i o.op o.type st.slots st.objs=some e) (hw:Zdu st e=true):Zv C X st a w i o e:=by
 have hlm:ZE m=true/\ZE k=true/\ZE v=true:=by grind[Op.operands]
 have hc:Z6 C.E st.slots st.objs t m k v=some e:=by grind[Zf]
 have hexec:(execOp a.eval o).run C.E.prog w=((Instr.mapUpdate t (a.eval m) (a.eval k) (a.eval v)).run C.E.prog w).andThen fun _ w'=> .ok .skip w':=by grind[execOp,Sem.run_bind,Sem.run_pure]
 have h1:=Zm h 0 hlm.1;unfold Z6 at hc;split at hc;rotate_left;simp at hc;rename_i kt vt sz by_ ze hty;have h2:=Zm h kt hlm.2.1;have h3:=Zm h vt hlm.2.2;split at hc;rotate_left;simp at hc;rename_i id hm;split at hc;rotate_left;simp at hc;rename_i td kv kp vp hlk hk hv;split at hc;rotate_left;simp at hc;rename_i hcnd;simp only[Znu]at hcnd;obtain⟨hs,hleaf⟩:=hcnd;simp only[ZnO]at hc;have hum:=hE.map hty rfl;obtain⟨d,hud,hkd⟩:=hE.key hty rfl hs;have hkp:RelP w S (a.eval k) kp:=ZfL (S:=fun _ _=>True) hleaf (Zaf (S':=fun _ _=>True) h.objs (fun _ _ _=>trivial) 1 _ _ _ h2 hk (fun _ _ _ _ _ _ _ _=>trivial));have hids:=ZaY depth _ _ hv;have hvp:∀S',(∀b c,S b c->S' b c)->(∀f,f∈(ev C.E st.slots vt v).ids st.objs depth->∀o L b,st.objs f=some o->o≠ .gone->ρ f=some L->L.blk=some b->∀c,inL (some o) L c->S' b c)->RelP w S' (a.eval v) vp:=fun S' hS hF=>
  Zaf (S':=S') h.objs hS depth _ _ _ h3 hv (fun id hid L b hL hb c hc=>by grind)
 generalize hvk:a.eval k=vk at hkp hexec;generalize hvm:a.eval m=vm at h1 hexec;generalize hvv:a.eval v=vv at hvp hexec;rw[hm]at h1;rw[<-hc]at hw;simp only[Zdu,Znu,ZnV,ZnF,forall_eq,ZnU,decide_eq_true_eq]at hw;cases h1 with
 |map _ L r hL hLb=>
  obtain⟨L',hL',r',hr',es,clock,kv',hb,hp,hl,hkv,hd2,hkey,hborn,hbd⟩:=h.objs id _ hlk (by simp);rw[hL]at hL';obtain rfl:=ZnN hL';rw[hLb]at hr';obtain rfl:=ZnN hr';have hK:Zfq td kv':=⟨hd2,hkey⟩;have hck:=ZaE hE hud hkd false hleaf hkp w;rcases Zci (es:=es.toList) hE hud hkd hleaf hkp (by omega) hK (fun i e q he hq=>(hkv i e q (by grind) hq).1)with ⟨g1,g2⟩ |⟨j,e',v',g1,g2,g3,g4⟩
  ·refine Zv.map h hi ht hlit hE (w':={w with heap:=w.heap.setIfInBounds r (.map (es.push {key:=vk,val:=vv,born:=clock}) (clock+1))}) hlk hL hLb hw.1 hids hw.2 (n:= .skip) ?_ (.inr rfl) rfl ⟨rfl,rfl⟩ (ZgD hK hleaf (v:=vp)) (ZgB hK hp hleaf) ?_ ?_ ?_ ?_ (c:=[]) hc.symm
   ·rw[hexec];simp[Instr.mapUpdate,Za hum,getObj,setObj,Sem.run,hb,hck,g2]
   ·grind[ZgC]
   ·intro S' hS hF n e q he hq;rw[ZgC g1]at hq;rw[Array.getElem?_push]at he;split at he
    ·rename_i hn;cases he;rw[hn,hl,Zn1 (ZnJ _)]at hq;simp at hq;subst hq;exact⟨hkp.mono (.refl _ _) hS,hvp S' hS hF⟩
    ·have hn:n < kv'.length:=by grind
     rw[Zn0 hn]at hq;exact⟨(hkv n e q he hq).1.mono (.refl _ _) hS,(hkv n e q he hq).2.mono (.refl _ _) hS⟩
   all_goals grind
  ·have hje:es[j]? =some e':=by grind
   have hjl:j < es.size:=(Znq.1 hje).1;refine Zv.map h hi ht hlit hE (w':={w with heap:=w.heap.setIfInBounds r (.map (es.modify j fun e=>{e with key:=vk,val:=vv}) clock)}) hlk hL hLb hw.1 hids hw.2 (n:= .skip) ?_ (.inr rfl) rfl ⟨rfl,rfl⟩ (ZgD hK hleaf (v:=vp)) (ZgB hK hp hleaf) ?_ ?_ ?_ ?_ (c:=[]) hc.symm
   ·have hst:=Zc2 (P:=C.E.prog) hleaf (hkv j e' _ hje g2).1 hkp w;rw[hexec];simp[Instr.mapUpdate,Za hum,getObj,setObj,Sem.run,hb,hck,g4,hje,hst]
   ·rw[Zik hK hleaf g2];grind
   ·intro S' hS hF n e q he hq;rw[Zik hK hleaf g2]at hq;rw[ZnR]at he;split at he
    ·rename_i hjn;subst hjn;rw[hje]at he;simp only[Zow,ZnO]at he;subst he;rw[Zn4 (by omega)]at hq;cases hq;exact⟨hkp.mono (.refl _ _) hS,hvp S' hS hF⟩
    ·rename_i hjn;rw[Zn3 hjn]at hq;exact⟨(hkv n e q he hq).1.mono (.refl _ _) hS,(hkv n e q he hq).2.mono (.refl _ _) hS⟩
   ·intro n e he;rw[ZnR]at he;split at he
    ·rename_i hjn;subst hjn;rw[hje]at he;simp only[Zow,ZnO]at he;subst he;exact hborn _ e' hje
    ·exact hborn n e he
   ·have hbm:∀(n:Nat) (e:MapEntry),(es.modify j fun e=>{e with key:=vk,val:=vv})[n]? =some e->∃e0,es[n]? =some e0/\e0.born=e.born:=by
     intro n e he;rw[ZnR]at he;split at he
     ·rename_i hjn;subst hjn;rw[hje]at he;simp only[Zow,ZnO]at he;subst he;exact⟨e',hje,rfl⟩
     ·exact⟨e,he,rfl⟩
    intro n m e1 e2 he1 he2 hb;obtain⟨a1,q1,q2⟩:=hbm n e1 he1;obtain⟨a2,q3,q4⟩:=hbm m e2 he2;exact hbd n m a1 a2 q1 q3 (by omega)
theorem Zkz {it:Operand} (E:o.op= .next it true) (f:Zf C.E st.ep i o.op o.type st.slots st.objs=some e) (hw:Zdu st e=true):Zv C X st a w i o e:=by
 rw[E]at f hlit;simp[Op.operands]at hlit;have A:=Zm h 0 hlit;simp only[Zf]at f;split at f;rotate_left;simp at f;rename_i id I;rw[I]at A;generalize hv:a.eval it=v at A;split at f;rotate_left;simp at f;rename_i s g q;cases A with
 |it _ L b B p=>
 obtain⟨L',t,b',n,k,z⟩:=h.objs id _ q (by simp);rw[B]at t;obtain rfl:=ZnN t;rw[p]at n;obtain rfl:=ZnN n;split at f
 ·rename_i y;cases f;have H:st.fz id=false:=by grind[Zdu]
  have F:=h.own id _ L b q (by simp) B p;have m:IntKind.i32.min<=((Utf8.decode ⟨s.toArray⟩ g).1:Int)/\((Utf8.decode ⟨s.toArray⟩ g).1:Int)<=IntKind.i32.max:=by
   have:=decode_le ⟨s.toArray⟩ g;have J:IntKind.i32.min= -2147483648:=by decide
   have M:IntKind.i32.max=2147483647:=by decide
   omega
  refine⟨.value (.tuple #[.bool true,goInt g,.int .i32 (Utf8.decode ⟨s.toArray⟩ g).1]),_,{w with heap:=w.heap.setIfInBounds b (.stringIter ⟨s.toArray⟩ (g+(Utf8.decode ⟨s.toArray⟩ g).2))}, ?_,.inl rfl,ρ,
   h.step (v:= .tuple #[.bool true,goInt g,.int .i32 (Utf8.decode ⟨s.toArray⟩ g).1]) ρ hi ht (by simp) ⟨rfl,rfl⟩ ?_ ?_ (fun _ _ h=>h) (fun id h=> .inl h) (by simp) (fun _ _ x=>by simp_all) (fun _ _ _ _ _ _ _ x=>by simp_all) ?_ ?_ (ns:=ns_one q rfl)⟩
  ·simp[execOp,E,hv,Instr.next,getObj,setObj,Sem.run,k,Zba,y]
  ·simp_all
  ·simp_all
  ·intro G o' L1 x _ r S' K _;simp only[ZnF,ZnP]at x;obtain⟨rfl,rfl⟩:=x;rw[B]at r;obtain rfl:=ZnN r;exact⟨b,p,by simp_all,z⟩
  ·intro S' _ _ d _;refine .tup _ _ rfl fun j u c l f=> ?_
   match j with
   |0=>simp at l f;subst l f;exact .p _ _ (.bool true)
   |1=>simp at l f;subst l f;exact .p _ _ (.int _ _ (ZdV (by omega)).1 (ZdV (by omega)).2)
   |2=>simp at l f;subst l f;exact .p _ _ (.int _ _ m.1 m.2)
   |j+3=>simp_all
 ·rename_i D;cases f;refine Zv.quiet h hi ht (v:= .tuple #[.bool false]) (by simp[execOp,E,hv,Instr.next,getObj,Sem.run,k,Zba,D]) rfl rfl rfl ?_;refine .tup _ _ rfl fun j u c l f=> ?_
  match j with
  |0=>simp at l f;subst l f;exact .p _ _ (.bool false)
  |j+1=>simp_all
theorem ZhH {args:Array Operand} {ats:Array TypeId} (ho:o.op= .call {callee:= .builtin .delete,args,argTypes:=ats}) (hc:Zf C.E st.ep i o.op o.type st.slots st.objs=some e) (hw:Zdu st e=true):Zv C X st a w i o e:=by
 have hlit':=hlit;rw[ho]at hc hlit';simp only[Zf,ZO]at hc;unfold Zek at hc;split at hc<;>(try simp only[reduceCtorEq]at hc);rename_i t ts id k hds hlen;have hats:ats[0]? =some t:=by rw[<-ZnS,hds];rfl
 obtain⟨hl,hr⟩:=Zaj h args.toList ats.toList (fun x hx=>by grind[Op.operands,Call.operands,Zns])
 rw[hlen]at hl hr;split at hc<;>(try simp only[reduceCtorEq]at hc);rename_i kt el td kv kp htd hlk hk;split at hc<;>(try simp only[reduceCtorEq]at hc);rename_i hcnd;simp only[Znu]at hcnd;obtain⟨hs,hleaf⟩:=hcnd;simp only[ZnO]at hc;obtain⟨ti,hty,htid⟩:∃ti,C.E.ty t=some ti/\ti.d= .map kt el:=by grind[Env.td]
 have hum:=hE.map hty htid;obtain⟨d,hud,hkd⟩:=hE.key hty htid hs
 match hxx:args.toList,hl with
 | [xm0,xk0],_=>
  rw[hxx]at hr;have hrm:=hr 0 (a.eval xm0) (.map id) rfl rfl;have hrk:=hr 1 (a.eval xk0) k rfl rfl;have hargs:args.map a.eval= #[a.eval xm0,a.eval xk0]:=by grind
  generalize a.eval xk0=vk at hargs hrk;generalize a.eval xm0=vm at hargs hrm;have hkp:RelP w S vk kp:=ZfL (S:=fun _ _=>True) hleaf (Zaf (S':=fun _ _=>True) h.objs (fun _ _ _=>trivial) 1 _ _ _ hrk hk (fun _ _ _ _ _ _ _ _=>trivial));obtain⟨csb,hx⟩:=ZF (a:=a) (w:=w) (P:=C.E.prog) ho;cases hrm with
  |map _ L r hL hLb=>
   have hw':=hw;rw[<-hc]at hw';simp only[Zdu,Znu,ZnV,ZnF,forall_eq,ZnU,decide_eq_true_eq]at hw';obtain⟨L',hL',r',hr',es,clock,kv',hb,hp,hl,hkv,hd2,hkey,hborn,hbd⟩:=h.objs id _ hlk (by simp);rw[hL]at hL';obtain rfl:=ZnN hL';rw[hLb]at hr';obtain rfl:=ZnN hr';have hK:Zfq td kv':=⟨hd2,hkey⟩;have hck:=ZaE hE hud hkd es.isEmpty hleaf hkp w;rcases Zci (es:=es.toList) hE hud hkd hleaf hkp (by omega) hK (fun i e q he hq=>(hkv i e q (by grind) hq).1)with ⟨g1,g2⟩ |⟨j,e',v',g1,g2,g3,g4⟩
   ·refine Zv.map h hi ht hlit hE (w':={w with heap:=w.heap.setIfInBounds r (.map es clock)}) (fs:=[]) hlk hL hLb hw'.1 (by simp) (by simp) (n:= .value (.tuple #[])) ?_ (.inl rfl) rfl ⟨rfl,rfl⟩ (ZgH hK kp) (ZgF hp kp) ?_ ?_ hborn hbd (c:=[]) hc.symm
    ·rw[hx,hargs];refine Zgk ?_;simp[Builtin.delete_,hats,Za hum,getObj,setObj,Sem.run,hb,hck,g2]
    ·grind[ZgG]
    ·intro S' hS _ n e q he hq;rw[ZgG g1]at hq;exact⟨(hkv n e q he hq).1.mono (.refl _ _) hS,(hkv n e q he hq).2.mono (.refl _ _) hS⟩
   ·have hje:es[j]? =some e':=by grind
    have hjl:j < es.size:=(Znq.1 hje).1;have her:∀n,(es.eraseIdxIfInBounds j)[n]? =if n < j then es[n]? else es[n+1]? :=by
     grind
    refine Zv.map h hi ht hlit hE (w':={w with heap:=w.heap.setIfInBounds r (.map (es.eraseIdxIfInBounds j) clock)}) (fs:=[]) hlk hL hLb hw'.1 (by simp) (by simp) (n:= .value (.tuple #[])) ?_ (.inl rfl) rfl ⟨rfl,rfl⟩ (ZgH hK kp) (ZgF hp kp) ?_ ?_ ?_ ?_ (c:=[]) hc.symm
    ·rw[hx,hargs];refine Zgk ?_;simp[Builtin.delete_,hats,Za hum,getObj,setObj,Sem.run,hb,hck,g4]
    ·rw[Zil hK hleaf g2];have:(es.eraseIdxIfInBounds j).size=es.size - 1:=by unfold Array.eraseIdxIfInBounds;simp[hjl]
     rw[this,List.length_eraseIdx,if_pos (by omega),hl]
    ·intro S' hS _ n e q he hq;rw[Zil hK hleaf g2,List.getElem?_eraseIdx]at hq;rw[her]at he;split at he
     ·rename_i hn;rw[if_pos hn]at hq;exact⟨(hkv n e q he hq).1.mono (.refl _ _) hS,(hkv n e q he hq).2.mono (.refl _ _) hS⟩
     ·rename_i hn;rw[if_neg hn]at hq;exact⟨(hkv _ e q he hq).1.mono (.refl _ _) hS,(hkv _ e q he hq).2.mono (.refl _ _) hS⟩
    ·intro n e he;rw[her]at he;split at he
     ·exact hborn _ e he
     ·exact hborn _ e he
    ·intro n m e1 e2 he1 he2 hb;rw[her]at he1 he2;split at he1<;>split at he2
     ·exact hbd n m e1 e2 he1 he2 hb
     ·have:=hbd n (m+1) e1 e2 he1 he2 hb;omega
     ·have:=hbd (n+1) m e1 e2 he1 he2 hb;omega
     ·have:=hbd (n+1) (m+1) e1 e2 he1 he2 hb;omega
end
end
end Eng
namespace Eng
open Go
section
variable {C:Ctx} {X:Nat->Prop} {ρ:Id->Option Lay} {S:Fz} {st:St} {a:Act} {w:World} {i:Nat} {o:Oper} {e:Eff}
theorem Zbi {E:Env} (h:Zdq E o=true):∀d,o.dst=some d->d < E.nt:=fun d a=>by grind[Zdq]
theorem does (h:Rep C X ρ S st a.tmps w) (hi:¬X i) (A:ZfB C.E o=true) (z:Zl C.E)
  (g:Zf C.E st.ep i o.op o.type st.slots st.objs=some e) (hw:Zdu st e=true) (j:∀q∈e.cond,q=true):Zv C X st a w i o e:=by
 simp only[ZfB,Znu]at A;obtain⟨G,d⟩:=A;have p:=Zbi G;cases ho:o.op with
 |move x=>exact ZkA h hi p d ho g
 |assign x=>exact ZhI h hi p d ho g
 |pick c x y=>exact Zky h hi p d ho g
 |alloc t=>exact Zji h hi p z ho g
 |box t x=>exact ZlA h hi p d z ho g
 |build t H=>exact Zjg h hi p d z ho g
 |buildSlice t n H=>exact Zej h hi p d z ho g
 |insert t m k v=>exact Zb7 h hi p d z (.inr ho) g hw
 |load t x=>exact ZkB h hi p d z ho g hw
 |store t x y=>exact Zja h hi p d z ho g hw
 |nilCheck x=>exact ZfU h hi p d ho g
 |binOp b t x y u=>exact Zjh h hi p d z ho g j
 |unOp u t x=>exact Zkx h hi p d ho g j
 |convert s t x=>exact ZgT h hi p d z ho g j
 |makeFunc f fs cs=>exact ZfV h hi p d ho g
 |makeMap t r=>
  cases r with
  |none=>exact ZgR h hi p ho g
  |some r=>rw[ho]at g;simp[Zf]at g
 |makeSlice t l c=>exact ZeI h hi p d z ho g j
 |slice t x lo F mx=>exact Zjb h hi p d z ho g j
 |fieldAddr t x f=>exact ZeK h hi p d z ho g
 |field t x f=>exact Zje h hi p d z ho g
 |indexAddr t x E=>exact ZeJ h hi p d z ho g j
 |index t x E=>exact Zjd h hi p d z ho g j
 |lookup t m k I=>exact ZhG h hi p d z ho g
 |mapUpdate t m k v=>exact Zb7 h hi p d z (.inl ho) g hw
 |range t x=>exact Zjc h hi p d z ho g
 |next J s=>
  cases s with
  |true=>exact Zkz h hi p d z ho g hw
  |false=>rw[ho]at g;simp[Zf]at g
 |extract x n=>exact ZgS h hi p d ho g
 |call c=>
  obtain⟨B,args,D⟩:=c;cases B with
  |builtin b=>
   cases b with
   |len=>exact Zlz h hi p d z ho g j
   |append=>exact ZhJ h hi p d z ho g j hw
   |copy=>exact ZkD h hi p d z ho g hw
   |max=>exact Zly h hi p d ho g
   |min=>exact Zlx h hi p d ho g
   |delete=>exact ZhH h hi p d z ho g hw
   |_=>rw[ho]at g;simp[Zf,ZO]at g
  |_=>rw[ho]at g;simp[Zf]at g
 |_=>rw[ho]at g;simp[Zf]at g
end
end Eng
namespace Eng
open Go
def Zcz (r:Option Nat):Fence:={fn:=fun _=>True,depth:=none,alive:=false,round:=r}
theorem Zz (P:Program) (r:Option Nat) (m:Machine):m.fenced P (Zcz r):=by
 intro g _;refine⟨fun h=> ?_,Or.inl trivial,fun _ _=>trivial,fun _ h=> ?_⟩
 all_goals grind[Zcz]
def conc:Item->Go.Item
 | .c c=> .code c
 | .blk id=> .inBlock id
 | .lp c=> .inLoop c
 | .ops ops i=> .inRegion ops (Zog i (ops.size - i))
def Xof:List Item->Nat->Prop
 | .ops _ i::_=>fun j=>j < i
 |_=>fun _=>False
abbrev Zg6:=Exit->Act->World->Prop
structure Fm where
 r:Option Nat
 ds:List Deferred
def AWP (C:Ctx) (r:Fm) (G:Zg6) (k:List Item) (d:St):Prop:=
 ∀ρ S a w,Rep C (Xof k) ρ S d a.tmps w->a.defers=r.ds->
  ∀(b:Frame) (k0:List Go.Item) (cs:List Frame),b.roundOf=r.r->
   ∃e c w',G e c w'/\ArrivesIn (Machine.fenced C.E.prog (Zcz r.r)) C.E.prog (lone (b.atR a (k.map conc++k0)) cs w) b k0 cs e c w'
theorem Rep.weakX {C:Ctx} {X X':Nat->Prop} {ρ:Id->Option Lay} {S:Fz} {a:St} {tm:Array Value} {w:World} (h:Rep C X ρ S a tm w) (c:∀j,X j->X' j):Rep C X' ρ S a tm w:=
 {h with young:=fun id b=>(h.young id b).imp (fun h=>h) fun⟨d,e⟩=>⟨d,c _ e⟩}
theorem Rep.nextEp {C:Ctx} {X:Nat->Prop} {ρ:Id->Option Lay} {S:Fz} {b:St} {tm:Array Value} {w:World} (h:Rep C X ρ S b tm w):Rep C (fun _=>False) ρ S b.next tm w:=
 {h with
  young:=by
   intro id c;rcases h.young id c with a |⟨a,_⟩
   ·exact .inl (Nat.lt_succ_of_lt a)
   ·exact .inl (a▸Nat.lt_succ_self _)
  ep1:=Nat.le_succ_of_le h.ep1}
section
variable {C:Ctx} {r:Fm} {G:Zg6}
theorem ZcE {k k1:List Item} {l c:St}
  (h:∀ρ S a w,Rep C (Xof k) ρ S l a.tmps w->a.defers=r.ds->∃ρ' S' f w',Rep C (Xof k1) ρ' S' c f.tmps w'/\f.defers=r.ds/\
   ∀(b:Frame) (k0:List Go.Item) (cs:List Frame),b.roundOf=r.r->StepsIn (Machine.fenced C.E.prog (Zcz r.r)) C.E.prog (lone (b.atR a (k.map conc++k0)) cs w) (lone (b.atR f (k1.map conc++k0)) cs w'))
  (q:AWP C r G k1 c):AWP C r G k l:=by
 intro ρ S a w t o b k0 cs j;obtain⟨ρ',S',f,w',g,i,p⟩:=h ρ S a w t o;obtain⟨e,m,n,s,d⟩:=q ρ' S' f w' g i b k0 cs j;exact⟨e,m,n,s,.of_steps (p b k0 cs j) d⟩
theorem ZbH {k k1:List Item} {c:St} (d:∀j,Xof k j->Xof k1 j)
  (h:∀(a:Act) (w:World) (b:Frame) (k0:List Go.Item) (cs:List Frame),step C.E.prog (lone (b.atR a (k.map conc++k0)) cs w)= .next (lone (b.atR a (k1.map conc++k0)) cs w))
  (f:AWP C r G k1 c):AWP C r G k c:=
 ZcE (fun ρ S a w g e=>⟨ρ,S,a,w,g.weakX d,e,fun b k0 cs _=> .one (Zz _ _ _) (h a w b k0 cs)⟩) f
theorem Za5 {id:Nat}:∀{k a:List Item} {k0:List Go.Item},Zaw id k=some a->exitTo id (k.map conc++k0)=some (a.map conc++k0)
 | [],_,_,h=>by grind[Zaw]
 |x::k,a,k0,h=>by
  cases x with
  |blk j=>
   simp only[Zaw]at h;split at h
   ·grind[exitTo,conc]
   ·rename_i b;have:(j == id)=false:=by simp_all
    simp only[Zn6,ZnX,conc,exitTo,this,Bool.false_eq_true,if_false];exact Za5 h
  |c _=>simp only[Zaw]at h;simp only[Zn6,ZnX,conc,exitTo];exact Za5 h
  |ops _ _=>simp only[Zaw]at h;simp only[Zn6,ZnX,conc,exitTo];exact Za5 h
  |lp _=>simp only[Zaw]at h;simp only[Zn6,ZnX,conc,exitTo];exact Za5 h
@[simp] theorem Znc (a:Act) (d:Option Tmp) (v:Value):(a.put d v).defers=a.defers:=by cases d<;>rfl
theorem Za3 {ρ:Id->Option Lay} {S:Fz} {X:Nat->Prop} {f:St} {a:Act} {w:World} (h:Rep C X ρ S f a.tmps w) {ops:Array Oper} {o:Oper} {v:Bool} (d:ZX ops f o.guard=some v):
  Region.wanted o (yielded ops a.tmps)=v:=by
 unfold Region.wanted;cases hgd:o.guard with
 |none=>grind[ZX]
 |some i=>
  obtain⟨g,j⟩:=i;rw[hgd]at d;simp only[ZX]at d;simp only[yielded];cases hb:(ops[g]?).bind (·.dst)with
  |none=>simp_all
  |some t=>
   rw[hb]at d;dsimp only at d;have e:=h.slots t;split at d
   ·rename_i b c;cases d;rw[c]at e;have:=e.of_p.bool_inv;simp only[Option.bind_some];cases hq:a.tmps[t]? with
    |none=>grind[undef]
    |some v=>simp_all
   ·rename_i c;cases d;rw[c]at e;generalize hv:a.tmps.getD t undef=v at e;cases e;simp only[Option.bind_some];cases hq:a.tmps[t]? with
    |none=>simp
    |some v=>simp_all[undef]
   simp_all
theorem Zbc {n i:Nat} (h:i < n):Zog i (n - i)=i::Zog (i+1) (n - (i+1)):=by
 have:n - i=(n - (i+1))+1:=by omega
 grind[List.range'_succ]
theorem Zmb {ops:Array Oper} {i:Nat} {o:Oper} {k:List Item} {d:St} {e:Eff} (E:Zl C.E) (u:ops[i]? =some o) (y:ZX ops d o.guard=some true)
  (H:Zf C.E d.ep i o.op o.type d.slots d.objs=some e) (x:ZfB C.E o=true) (hw:Zdu d e=true) (h:∀q∈e.cond,q=true)
  (D:AWP C r G (.ops ops (i+1)::k) (d.app i o.dst e)):AWP C r G (.ops ops i::k) d:=by
 have hi:i < ops.size:=(Znq.1 u).1;refine ZcE (fun ρ S a w z A=> ?_) D;have s:Rep C (fun j=>j < i) ρ S d a.tmps w:=z;obtain⟨n,v,w',m,F,ρ',S',p⟩:=does s (by omega) x E H hw h;have g:=Za3 s y;refine⟨ρ',S',a.put o.dst v,w',p.weakX (fun j J=> ?_),by simp[A],fun b k0 cs I=> ?_⟩
 ·grind[Xof]
 ·have l:o.semAt b.roundOf a.eval=execOp a.eval o:=Oper.semAt_eq _ _ _ (fun c B=>by grind[Zf]);have t:=stepGR_op (P:=C.E.prog) (b:=b) (a:=a) (k:=k.map conc++k0) (cs:=cs) (w:=w) (i:=i) (rest:=Zog (i+1) (ops.size - (i+1))) u g;have f:=Frame.finish_atR b a ops i (Zog (i+1) (ops.size - (i+1))) (k.map conc++k0) v;simp only[u,Option.bind_some]at f;refine .one (Zz _ _ _) ?_;simp only[Zn6,ZnX,conc,Zbc hi];refine step_lone_go ?_;rw[t,l,<-f];rcases F with rfl |⟨rfl,rfl⟩<;>simp[stepG.apply,m]
theorem ZlE {ops:Array Oper} {i:Nat} {o:Oper} {k:List Item} {st:St} (ho:ops[i]? =some o) (hg:ZX ops st o.guard=some false) (ht:∀d,o.dst=some d->d < C.E.nt)
  (h1:AWP C r G (.ops ops (i+1)::k) (st.setO o.dst .undef)):AWP C r G (.ops ops i::k) st:=by
 have hi:i < ops.size:=(Znq.1 ho).1;refine ZcE (fun ρ S a w hr hd=> ?_) h1;have hr':Rep C (fun j=>j < i) ρ S st a.tmps w:=hr;have hwant:=Za3 hr' hg;obtain⟨S',hrep⟩:=hr'.step (i:=i) (t:=o.dst) (e:={val:= .undef}) (v:=undef) (w':=w) ρ (by omega) ht (ZnJ _) (ZQ.refl _) (fun _ _ _=>rfl) (by simp) (fun _ _ h=>h) (fun id h=> .inl h) (by simp) (fun _ _ hm=>by simp_all) (fun _ _ _ _ _ _ _ hm=>by simp_all) (by simp) (fun _ _ _ _ _=> .undef);refine⟨ρ,S',a.put o.dst undef,w, ?_,by simp[hd],fun b k0 cs hb=> ?_⟩
 ·have:st.app i o.dst {val:= .undef}=st.setO o.dst .undef:=by simp[St.app,St.objL,St.freezeL]
  rw[<-this];exact hrep.weakX (fun j hj=>by grind[Xof])
 ·have hst:=stepR_op_skip (P:=C.E.prog) (b:=b) (a:=a) (k:=k.map conc++k0) (cs:=cs) (w:=w) (ops:=ops) (i:=i) (rest:=Zog (i+1) (ops.size - (i+1))) (by simp_all);simp only[ho,Option.bind_some]at hst;refine .one (Zz _ _ _) ?_;grind[conc,Zbc]
theorem Zlb {E:Env}:∀(n:Nat) (k:List Item) (g:St) (b:List Bool) {e:List Item} {a:St} {ps':List Bool},run E n k g b=some (e,a,ps')->∀p∈b,p∈ps':=by
 intro n
 induction n with
 |zero=>grind[run]
 |succ n d=>
  intro k g b e a ps' h p f
  match k with
  | []=>grind[run]
  | .c c::k=>
   cases c with
   |region id ops j=>cases j<;>simp only[run,reduceCtorEq]at h;grind
   |cond c x y=>
    grind[run]
   |exit id=>
    grind[run]
   |_=>first |(simp only[run]at h;exact d _ _ _ h p f) |simp[run]at h
  | .blk id::k=>grind[run]
  | .lp x::k=>grind[run]
  | .ops ops i::k=>
   simp only[run]at h;split at h
   ·grind
   ·split at h
    ·split at h;rotate_left;simp at h;exact d _ _ _ h p (Zn8 _ f)
    all_goals grind
theorem Zay (M:Zl C.E):∀(n:Nat) (k:List Item) (s:St) (E:List Bool) {A:List Item} {l:St} {ps':List Bool},run C.E n k s E=some (A,l,ps')->
  (∀p∈ps',p=true)->AWP C r G A l->AWP C r G k s:=by
 intro n
 induction n with
 |zero=>grind[run]
 |succ n j=>
  intro k s E A l ps' h f g;have u:= @Zlb C.E
  match k with
  | []=>grind[run]
  | .c c::k=>
   cases c with
   |skip=>simp only[run]at h;exact ZbH (k1:=k) (fun _ h=>h.elim) (fun a w b k0 cs=>stepR_skip) (j _ _ _ h f g)
   |seq x y=>simp only[run]at h;exact ZbH (k1:= .c x:: .c y::k) (fun _ h=>h.elim) (fun a w b k0 cs=>stepR_seq) (j _ _ _ h f g)
   |block id x=>simp only[run]at h;exact ZbH (k1:= .c x:: .blk id::k) (fun _ h=>h.elim) (fun a w b k0 cs=>stepR_block) (j _ _ _ h f g)
   |loop x=>simp only[run]at h;exact ZbH (k1:= .c x:: .lp x::k) (fun _ h=>h.elim) (fun a w b k0 cs=>stepR_loop) (j _ _ _ h f g)
   |region id ops H=>
    cases H with
    |true=>grind[run]
    |false=>
     simp only[run]at h;refine ZbH (k1:= .ops ops 0::k) (fun _ h=>h.elim) (fun a w b k0 cs=> ?_) (j _ _ _ h f g);grind[stepR_region,conc,List.range_eq_range']
   |cond c x y=>
    simp only[run]at h;have T:∀t:Bool,ev C.E s.slots 0 c= .p (.bool t)->ZE c=true->AWP C r G (.c (if t then x else y)::k) s->AWP C r G (.c (.cond c x y)::k) s:=by intro t P I L;refine ZcE (fun ρ S a w z v=>⟨ρ,S,a,w,z.weakX (fun _ h=>h.elim),v,fun b k0 cs _=> .one (Zz _ _ _) ?_⟩) L;have:=Zm z 0 I;rw[P]at this;exact stepR_cond this.of_p.bool_inv
    grind
   |exit id=>
    simp only[run]at h;split at h;rotate_left;simp at h;rename_i N K;exact ZbH (k1:=N) (fun _ h=>h.elim) (fun a w b k0 cs=>stepR_exit (Za5 K)) (j _ _ _ h f g)
   |_=>simp[run]at h
  | .blk id::k=>simp only[run]at h;exact ZbH (k1:=k) (fun _ h=>h.elim) (fun a w b k0 cs=>stepR_inBlock) (j _ _ _ h f g)
  | .lp x::k=>simp only[run]at h;exact ZbH (k1:= .c x:: .lp x::k) (fun _ h=>h.elim) (fun a w b k0 cs=>stepR_inLoop) (j _ _ _ h f g)
  | .ops ops i::k=>
   simp only[run]at h;split at h
   ·
    rename_i R;refine ZcE (fun ρ S a w z v=>⟨ρ,S,a,w,(Rep.nextEp z).weakX (fun _ h=>h.elim),v,fun b k0 cs _=> .one (Zz _ _ _) ?_⟩) (j _ _ _ h f g);grind[conc,stepR_region_end]
   ·rename_i o D;split at h
    ·rename_i B;split at h;rotate_left;simp at h;rename_i F Q d;unfold runOp at d;split at d;rotate_left;simp at d;rename_i e O;split at d;rotate_left;simp at d;rename_i m;simp only[Znu]at m;simp only[ZnO,ZnP]at d;obtain⟨rfl,rfl⟩:=d;exact Zmb M D B O m.2 m.1 (fun q J=>f q (u _ _ _ _ h q (Zn9 _ J))) (j _ _ _ h f g)
    ·rename_i B;split at h;rotate_left;simp at h;rename_i v;exact ZlE D B (Zbi v) (j _ _ _ h f g)
    ·simp at h
end
end Eng
namespace Eng
open Go
theorem Rep.stepN {C:Ctx} {X:Nat->Prop} {ρ:Id->Option Lay} {S:Fz} {m:St} {a:Act} {w:World} (h:Rep C X ρ S m a.tmps w)
  {i:Nat} {t:Option Nat} {e:Eff} {v:Value} {w':World} (ρ':Id->Option Lay) (N:Fz)
  (hN:∀b c,N b c->b < w'.heap.size/\(w.heap.size<=b\/∃id o' L',(id,Obj.gone)∈e.wr/\m.objs id=some o'/\o'≠ .gone/\ρ id=some L'/\L'.blk=some b/\(∀D,(id,D)∈e.wr->D= .gone)))
  (a7:∀k o L b,(k,o)∈e.new->ρ' (m.ep,i,k)=some L->L.blk=some b->∀c,¬N b c)
  (hi:¬X i) (ht:∀d,t=some d->d < C.E.nt)
  (au:w.heap.size<=w'.heap.size) (hq:ZQ w w')
  (U:∀b,b < w.heap.size->(∀id o L,(id,o)∈e.wr->ρ id=some L->L.blk≠some b)->w'.heap[b]? =w.heap[b]?)
  (wr:∀id o,(id,o)∈e.wr->m.fz id=false/\∃o',m.objs id=some o'/\o'≠ .gone)
  (J:∀id L,ρ id=some L->ρ' id=some L)
  (ah:∀id,ρ' id≠none->ρ id≠none\/(id.1=m.ep/\id.2.1=i))
  (frz:∀id,id∈e.frz->ρ id≠none/\∀o',(id,o')∉e.wr)
  (ns:∀id o o',(id,o)∈e.wr->m.objs id=some o'->o'.soft=false)
  (O:∀k o,(k,o)∈e.new->∃L,ρ' (m.ep,i,k)=some L/\(∀b,L.blk=some b->
   (w.heap.size<=b\/∃id o' L',(id,Obj.gone)∈e.wr/\m.objs id=some o'/\o'≠ .gone/\ρ id=some L'/\L'.blk=some b/\(∀D,(id,D)∈e.wr->D= .gone))/\b < w'.heap.size)/\
   ∀S',(∀b c,N b c->S' b c)->(∀b c,S b c->S' b c)->(∀id,id∈e.frz->∀o L b,m.objs id=some o->o≠ .gone->ρ id=some L->L.blk=some b->∀c,inL (some o) L c->S' b c)->o≠ .gone->Zp w' S' ρ' L o)
  (an:∀k o L k' o' L' b,(k,o)∈e.new->o≠ .gone->ρ' (m.ep,i,k)=some L->L.blk=some b->(k',o')∈e.new->o'≠ .gone->ρ' (m.ep,i,k')=some L'->L'.blk=some b->k=k')
  (ab:∀id o L,(id,o)∈e.wr->o≠ .gone->ρ id=some L->∀S',(∀b c,N b c->S' b c)->(∀b c,S b c->S' b c)->(∀id,id∈e.frz->∀o L b,m.objs id=some o->o≠ .gone->ρ id=some L->L.blk=some b->∀c,inL (some o) L c->S' b c)->Zp w' S' ρ' L o)
  (a8:∀S',(∀b c,N b c->S' b c)->(∀b c,S b c->S' b c)->(∀id,id∈e.frz->∀o L b,m.objs id=some o->o≠ .gone->ρ id=some L->L.blk=some b->∀c,inL (some o) L c->S' b c)->(∀d,t=some d->RelD w' S' ρ' v e.val))
  (nfam:∀S',(∀b c,N b c->S' b c)->(∀b c,S b c->S' b c)->(∀id,id∈e.frz->∀o L b,m.objs id=some o->o≠ .gone->ρ id=some L->L.blk=some b->∀c,inL (some o) L c->S' b c)->
   (∀b c,S' b c->(S b c\/N b c)\/∃id o L,id∈e.frz/\m.objs id=some o/\o≠ .gone/\ρ id=some L/\L.blk=some b/\inL (some o) L c)->∃κ,Zfp m i e ρ ρ' w w' S' κ)
  (wown:∀id o,(id,o)∈e.wr->o.isOwn=false:=by simp):
  ∃S',Rep C (fun j=>X j\/j=i) ρ' S' (m.app i t e) (a.put t v).tmps w':=by
 let S':Fz:=fun b c=>(S b c\/N b c)\/∃id o L,id∈e.frz/\m.objs id=some o/\o≠ .gone/\ρ id=some L/\L.blk=some b/\inL (some o) L c
 have Q:∀b c,S b c->S' b c:=fun b c u=> .inl (.inl u)
 have ao:∀b c,N b c->S' b c:=fun b c u=> .inl (.inr u)
 have ai:∀b c,S b c->∀id o L,(id,o)∈e.wr->ρ id=some L->L.blk≠some b:=fun b c u id o L r q f=>by obtain⟨K,o',p,x⟩:=wr id o r;have:=((h.own id o' L b p x q f).2.2.2 c u).2;grind
 have kp:ZbM S w w':= .of fun b c u _=>U b (h.sIn b c u) (ai b c u)
 have a5:∀k,m.objs (m.ep,i,k)=none:=fun k=>by
  cases n:m.objs (m.ep,i,k)with
  |none=>rfl
  |some o=>
   have:=h.young _ (h.known (m.ep,i,k) (by grind));grind
 have a2:∀id o L,m.objs id=some o->o≠ .gone->(∀o',(id,o')∉e.wr)->ρ id=some L->∀b,L.blk=some b->w'.heap[b]? =w.heap[b]? :=by
  intro id o L y x ae q b u;refine U b (h.own id o L b y x q u).1 fun l o' L' r z W=> ?_
  obtain⟨_,D,ax,aq⟩:=wr l o' r;have:=h.inj id o L l D L' b y x q u ax aq z W;grind
 have M:∀id L,ρ id≠none->ρ' id=some L->ρ id=some L:=fun id L hn q=>by
  cases n:ρ id with
  |none=>grind
  |some L0=>grind
 have R:∀k,ρ (m.ep,i,k)=none:=fun k=>by
  cases n:ρ (m.ep,i,k)with
  |none=>rfl
  |some L=>have:=h.young (m.ep,i,k) (by grind);grind
 have P:∀id o L l o' L' b,m.objs id=some o->o≠ .gone->ρ id=some L->L.blk=some b->m.objs l=some o'->o'≠ .gone->ρ l=some L'->L'.blk=some b->id=l:=h.inj;refine⟨S',⟨?_,by have:=h.grow;omega, ?_,fun b c u=> .inl (.inl (h.s0 b c u)), ?_, ?_, ?_, ?_, ?_, ?_, ?_, ?_,fun g cs r=>(h.glob g cs r).mono kp Q, ?_,by rw[ZcK];exact h.ep1,h.quiet.trans hq, ?_,h.famStep ρ' au U wr J kp Q (fun b c u=> ?_) (fun k o L b r q u=> ?_) (nfam S' ao Q (fun id r o L b y x q u c n=> .inr ⟨id,o,L,r,y,x,q,u,n⟩) fun _ _ h=>h) R wown⟩⟩
 rotate_right 2
 ·grind
 ·obtain⟨L',V,h2,_⟩:=O k o r;rw[q]at V;obtain rfl:=ZnN V;exact(h2 b u).1.imp (fun h=>h) fun⟨id,o,L,_,q1,q2,q3,q4,_⟩=>⟨id,o,L,q1,q2,q3,q4⟩
 ·rw[<-h.nt];cases t<;>simp[Act.put]
 ·intro b u hl;rw[<-h.frame b u hl];refine U b (by have:=h.grow;omega) fun id o L r q f=> ?_
  obtain⟨_,o',p,x⟩:=wr id o r;rcases(h.own id o' L b p x q f).2.1 with V |V
  ·omega
  grind
 ·intro b c u;rcases u with (u |u) |⟨id,o,L,r,y,x,q,f,_⟩
  ·have:=h.sIn b c u;omega
  ·grind
  ·have:=(h.own id o L b y x q f).1;omega
 ·intro k;rw[ZaU,Zip a t v k (fun d hd=>by rw[h.nt];grind)]
  by_cases hk:t=some k
  ·grind
  ·simp only[hk,if_false];exact(h.slots k).mono kp Q J
 ·intro id o y x;rcases ZK m i t e id o y with ⟨k,rfl,r⟩ |r |⟨ae,y⟩
  ·obtain⟨L,q,_,hr⟩:=O k o r;exact⟨L,q,hr S' ao Q (fun id r o L b y x q f c n=> .inr ⟨id,o,L,r,y,x,q,f,n⟩) x⟩
  ·obtain⟨_,o',p,s⟩:=wr id o r;obtain⟨L,q,_⟩:=h.objs id o' p s;exact⟨L,J _ _ q,ab id o L r x q S' ao Q (fun id r o L b y x q f c n=> .inr ⟨id,o,L,r,y,x,q,f,n⟩)⟩
  ·obtain⟨L,q,hr⟩:=h.objs id o y x;exact⟨L,J _ _ q,hr.mono kp Q J (a2 id o L y x ae q)⟩
 ·intro id o L b y x q f;rw[ZbK];rcases ZK m i t e id o y with ⟨k,rfl,r⟩ |r |⟨ae,y⟩
  ·obtain⟨L',z,u,_⟩:=O k o r;rw[q]at z;obtain rfl:=ZnN z;obtain⟨I,av⟩:=u b f;have a3:m.fz (m.ep,i,k)=false:=by
    cases n:m.fz (m.ep,i,k)with
    |false=>rfl
    |true=>exact absurd (R k) (h.fzk _ n)
   have af:(m.ep,i,k)∉e.frz:=fun H=>(frz _ H).1 (R k)
   have aw:∀c,¬S' b c:=by
    rintro c ((hS |hS) |⟨ap,Z,L1,ag,A,E,F,Y,_⟩)
    ·rcases I with I |⟨l,o',L',H,p,s,z,W,_⟩
     ·have:=h.sIn b c hS;omega
     grind
    ·grind
    ·rcases I with I |⟨l,o',L',H,p,s,z,W,_⟩
     ·have:=(h.own ap Z L1 b A E F Y).1;omega
     ·have:=P _ _ _ _ _ _ _ A E F Y p s z W;grind
   refine⟨av, ?_,fun K=> ?_,fun c n=>absurd n (aw c)⟩
   ·rcases I with I |⟨l,o',L',H,p,s,z,W,_⟩
    ·have:=h.grow;omega
    ·exact(h.own l o' L' b p s z W).2.1
   ·simp[a3,af]at K
  ·obtain⟨a1,o',p,s⟩:=wr id o r;have B:=M id L (h.known id (by simp[p])) q;obtain⟨V,h2,h3,h4⟩:=h.own id o' L b p s B f;have af:id∉e.frz:=fun H=>(frz _ H).2 _ r
   refine⟨by omega,h2,fun K=>by simp[a1,af]at K,fun c n=> ?_⟩;rcases n with (hS |hS) |⟨ap,Z,L1,ag,A,E,F,Y,_⟩
   ·exact absurd f (ai b c hS id o L r B)
   ·rcases(hN b c hS).2 with I |⟨as,og,Lg,q1,q2,q3,q4,q5,q6⟩
    ·omega
    ·have:=P _ _ _ _ _ _ _ q2 q3 q4 q5 p s B f;subst this;exact absurd (q6 _ r) x
   ·have:=P _ _ _ _ _ _ _ A E F Y p s B f;subst this;exact absurd ag af
  ·have B:=M id L (h.known id (by simp[y])) q;obtain⟨V,h2,h3,h4⟩:=h.own id o L b y x B f;refine⟨by omega,h2,fun K c n=> ?_,fun c n=> ?_⟩
   ·simp only[Bool.or_eq_true,ZnY]at K;rcases K with K |K
    ·exact .inr ⟨id,o,L,K,y,x,B,f,n⟩
    ·exact .inl (.inl (h3 K c n))
   ·rcases n with (hS |hS) |⟨ap,Z,L1,ag,A,E,F,Y,n⟩
    ·exact⟨(h4 c hS).1,(h4 c hS).2.imp (fun h=>by simp[h]) fun h=>h⟩
    ·rcases(hN b c hS).2 with I |⟨as,og,Lg,q1,q2,q3,q4,q5,q6⟩
     ·omega
     ·have:=P _ _ _ _ _ _ _ q2 q3 q4 q5 y x B f;subst this;exact absurd q1 (ae _)
    ·have:=P _ _ _ _ _ _ _ A E F Y y x B f;subst this;rw[y]at A;obtain rfl:=ZnN A;rw[B]at F;obtain rfl:=ZnN F;exact⟨n,.inl (by simp[ag])⟩
 ·
  have T:∀k o L l o' L' b,(k,o)∈e.new->o≠ .gone->ρ' (m.ep,i,k)=some L->L.blk=some b->(m.app i t e).objs l=some o'->o'≠ .gone->
    ((l,o')∈e.wr\/((∀D,(l,D)∉e.wr)/\m.objs l=some o'))->ρ' l=some L'->L'.blk=some b->False:=by
   intro k o L l o' L' b r x q f _ s aa z G;obtain⟨L0,B,u,_⟩:=O k o r;rw[q]at B;obtain rfl:=ZnN B;have am:∃Z,m.objs l=some Z/\Z≠ .gone:=by
    rcases aa with n |n
    ·exact(wr _ _ n).2
    ·exact⟨o',n.2,s⟩
   obtain⟨Z,A,E⟩:=am;have F:=M l L' (h.known l (by simp[A])) z;rcases(u b f).1 with I |⟨a6,o2,L2,a4,ac,ak,az,ay,ar⟩
   ·have:=(h.own l Z L' b A E F G).1;omega
   ·have:=P _ _ _ _ _ _ _ A E F G ac ak az ay;subst this;rcases aa with n |n
    ·exact s (ar _ n)
    ·exact n.1 _ a4
  intro id o L l o' L' b y x q f p s z G;rcases ZK m i t e id o y with ⟨k,rfl,r⟩ |n
  ·rcases ZK m i t e l o' p with ⟨k',rfl,H⟩ |al
   ·rw[an k o L k' o' L' b r x q f H s z G]
   ·exact(T k o L l o' L' b r x q f p s al z G).elim
  ·rcases ZK m i t e l o' p with ⟨k',rfl,H⟩ |al
   ·exact(T k' o' L' id o L b H s z G y x n q f).elim
   ·have aj:∀id o,o≠ .gone->((id,o)∈e.wr\/((∀D,(id,D)∉e.wr)/\m.objs id=some o))->∃Z,m.objs id=some Z/\Z≠ .gone:=by
     intro id o x n;rcases n with n |n
     ·exact(wr _ _ n).2
     ·exact⟨o,n.2,x⟩
    obtain⟨Z,A,E⟩:=aj id o x n;obtain⟨o2,ac,ak⟩:=aj l o' s al;exact P _ _ _ _ _ _ _ A E (M id L (h.known id (by simp[A])) q) f ac ak (M l L' (h.known l (by simp[ac])) z) G
 ·intro id hn;cases y:(m.app i t e).objs id with
  |none=>exact absurd y hn
  |some o=>
   rcases ZK m i t e id o y with ⟨k,rfl,r⟩ |r |⟨_,y⟩
   ·obtain⟨L,q,_⟩:=O k o r;simp[q]
   ·obtain⟨_,o',p,_⟩:=wr id o r;have:=h.known id (by simp[p]);cases n:ρ id with
    |none=>exact absurd n this
    |some L=>simp[J _ _ n]
   ·have:=h.known id (by simp[y]);cases n:ρ id with
    |none=>exact absurd n this
    |some L=>simp[J _ _ n]
 ·intro id hn;rw[ZcK];rcases ah id hn with V |⟨V,h2⟩
  ·rcases h.young id V with h2 |⟨h2,h3⟩
   ·exact .inl h2
   ·exact .inr ⟨h2,.inl h3⟩
  ·exact .inr ⟨V,.inr h2⟩
 ·intro id K;rw[ZbK]at K;simp only[Bool.or_eq_true,ZnY]at K;have:ρ id≠none:=by
   rcases K with K |K
   ·exact(frz id K).1
   ·exact h.fzk id K
  cases n:ρ id with
  |none=>exact absurd n this
  |some L=>simp[J _ _ n]
 ·intro b c u;rcases u with (u |u) |⟨id,o,L,r,y,x,q,f,_⟩
  ·exact h.sOut b c u
  ·rcases(hN b c u).2 with I |⟨as,og,Lg,q1,q2,q3,q4,q5,q6⟩
   ·have:=h.grow;exact .inr (.inl (by omega))
   ·exact .inr (h.own _ _ _ b q2 q3 q4 q5).2.1
  ·exact .inr (h.own id o L b y x q f).2.1
 ·intro k L hk hn;rcases ah _ hn with V |⟨V,_⟩
  ·exact J _ _ (h.lay k L hk V)
  ·have:=h.ep1;simp only at V;omega
end Eng
namespace Eng
open Go
def ren (pi:List (Id×Id)) (a:Id):Option Id:=
 match pi with
 | []=>none
 |(n,o)::r=>if o=a then some n else ren r a
def D.pur (lk:Id->Option Obj) (a:Id->Bool) (d:D):Option D:=
 if (d.ids lk depth).all a then match d.toP lk depth with |some x=>some (.p x) |none=>none else none
def D.asRp (lk:Id->Option Obj) (a:Id->Bool) (pi:List (Id×Id)) (id:Id):Option D:=match lk id with
 |some (.box [d,.map m])=>if a id&&(d.ids lk depth).all a then match d.toP lk depth,ren pi m with
  |some x,some m'=>some (.rp (some x) m')
  |_,_=>none
  else none
 |_=>none
def D.can (lk:Id->Option Obj) (d:Id->Bool) (pi:List (Id×Id)):Nat->D->Option D
 |_,.p x=>some (.p x)
 |_,.dead=>some .dead
 |_,.val v=>some (.val v)
 |_,.undef=>some .undef
 |_,.anyb=>some .anyb
 |_,.nils sz=>some (.nils sz)
 |_,.clip sz es=>some (.clip sz es)
 |_,.sl id off len=>match ren pi id with
  |some c=>some (.sl c off len)
  |none=>D.pur lk d (.sl id off len)
 |_,.map id=>match ren pi id with
  |some c=>some (.map c)
  |none=>D.pur lk d (.map id)
 |_,.it id=>match ren pi id with
  |some c=>some (.it c)
  |none=>none
 |_,.ptr id i j=>match ren pi id with
  |some c=>some (.ptr c i j)
  |none=>(D.pur lk d (.ptr id i j)).or (if i=0/\j=0 then D.asRp lk d pi id else none)
 |_,.rp x id=>match ren pi id with
  |some c=>some (.rp x c)
  |none=>none
 |n+1,.agg cs=>match Zj (D.can lk d pi n) cs with
  |some e=>some (.mkAgg e)
  |none=>none
 |n+1,.tup cs=>match Zj (D.can lk d pi n) cs with
  |some e=>some (.tup e)
  |none=>none
 |n+1,.fn f a b=>match Zj (D.can lk d pi n) a,Zj (D.can lk d pi n) b with
  |some a',some b'=>some (match Zj D.pure? a',Zj D.pure? b' with
   |some x,some y=> .p (.fn f x y)
   |_,_=> .fn f a' b')
  |_,_=>none
 |_,_=>none
def Obj.can (lk:Id->Option Obj) (e:Id->Bool) (pi:List (Id×Id)):Obj->Option Obj
 | .box cs=>match Zj (D.can lk e pi depth) cs with
  |some f=>some (.box f)
  |none=>none
 | .arr sz es fix=>some (.arr sz es fix)
 | .map td d=>some (.map td d)
 | .sit s b=>some (.sit s b)
 | .gone=>none
 | .own sz c k es lo a=>some (.own sz c k es lo a)
def Z2 (pi:List (Id×Id)) (ρ:Id->Option Lay):Id->Option Lay:=fun id=>match Zg pi id with
 |some a=>ρ a
 |none=>none
def ZaA {c:Type} [DecidableEq c]:List c->Bool
 | []=>true
 |a::r=>r.all (fun b=>decide (b≠a))&&ZaA r
def Zgp (a:St) (pi:List (Id×Id)) (ep:Nat):Bool:=
 ZaA (pi.map (·.1))&&ZaA (pi.map (·.2))&&pi.all fun x=>decide (x.1.1 < ep)&& !a.fz x.2
theorem Z1 {c β:Type} [DecidableEq c]:∀{l:List (c×β)} {a:c} {b:β},Zg l a=some b->(a,b)∈l
 | [],a,b,h=>by grind[Zg]
 |(x,y)::r,a,b,h=>by
  simp only[Zg]at h;split at h
  ·simp_all
  ·exact Zoa _ (Z1 h)
theorem Zy {c β:Type} [DecidableEq c]:∀{l:List (c×β)} {a:c} {b:β},ZaA (l.map (·.1))=true->(a,b)∈l->Zg l a=some b
 | [],a,b,_,h=>by grind
 |(x,y)::r,a,b,hn,h=>by
  simp only[Zn6,ZaA,Znu]at hn;simp only[Zg];rcases ZnD.1 h with h |h
  ·simp_all
  ·have d:a≠x:=by grind
   rw[if_neg d];exact Zy hn.2 h
theorem Zj1 {pi:List (Id×Id)} {b a:Id} (h:ren pi b=some a):(a,b)∈pi:=by
 induction pi with
 |nil=>grind[ren]
 |cons x r c=>
  grind[ren]
theorem ZdU {pi:List (Id×Id)} (h:ZaA (pi.map (·.2))=true) {a b o:Id} (c:(a,o)∈pi) (d:(b,o)∈pi):a=b:=by
 induction pi with
 |nil=>simp_all
 |cons x r e=>
  grind[ZaA]
section
variable {C:Ctx} {X:Nat->Prop} {ρ:Id->Option Lay} {S:Fz} {st:St} {tm:Array Value} {w:World}
theorem Zhl (h:Rep C X ρ S st tm w) {v:Value} {d d':D} (hr:RelD w S ρ v d) (hp:D.pur st.objs st.fz d=some d') {ρ':Id->Option Lay}:RelD w S ρ' v d':=by unfold D.pur at hp;split at hp;rotate_left;simp at hp;rename_i hall;split at hp;rotate_left;simp at hp;rename_i x hx;cases hp;refine .p _ _ (Zaf (S':=S) h.objs (fun _ _ h=>h) depth _ _ _ hr hx fun id hid L b hL hb=> ?_);obtain⟨o,q1,q2⟩:=ZaY depth _ _ hx id hid;rw[q1];exact(h.own id o L b q1 q2 hL hb).2.2.1 (ZnV.1 hall id hid)
theorem ZkH (h:Rep C X ρ S st tm w) {pi:List (Id×Id)} (hn:ZaA (pi.map (·.1))=true):∀(n:Nat) (v:Value) (d d':D),RelD w S ρ v d->d.can st.objs st.fz pi n=some d'->RelD w S (Z2 pi ρ) v d':=by
 have hρ:∀{old new:Id} {L:Lay},ren pi old=some new->ρ old=some L->Z2 pi ρ new=some L:=by intro old new L hr hL;simp only[Z2,Zy hn (Zj1 hr)];omega
 have base:∀(n:Nat) (v:Value) (d d':D),(∀cs,d≠ .agg cs)->(∀cs,d≠ .tup cs)->(∀f a b,d≠ .fn f a b)->RelD w S ρ v d->d.can st.objs st.fz pi n=some d'->RelD w S (Z2 pi ρ) v d':=by
  intro n v d d' h1 h2 h3 hr hc;cases hr with
  |p v x hp=>cases n<;>simp[D.can]at hc<;>subst hc<;>exact .p _ _ hp
  |dead v=>cases n<;>simp[D.can]at hc<;>subst hc<;>exact .dead _
  |val v=>cases n<;>simp[D.can]at hc<;>subst hc<;>exact .val _
  |undef=>cases n<;>simp[D.can]at hc<;>subst hc<;>exact .undef
  |anyb b=>cases n<;>simp[D.can]at hc<;>subst hc<;>exact .anyb _
  |nils sz=>cases n<;>simp[D.can]at hc<;>subst hc<;>exact .nils _
  |clip a m sz es hp=>cases n<;>simp[D.can]at hc<;>subst hc<;>exact .clip _ _ _ _ hp
  |agg vs cs=>simp_all
  |tup vs cs=>simp_all
  |fn f fs cs a b=>simp_all
  |sl id off len cap a L hL hl hm hcp ha=>
   have hc:(match ren pi id with |some id'=>some (D.sl id' off len) |none=>D.pur st.objs st.fz (.sl id off len))=some d':=by cases n<;>exact hc
   split at hc
   ·rename_i id' hid;cases hc;exact .sl id' off len cap a L (hρ hid hL) hl hm hcp ha
   ·exact Zhl h (.sl id off len cap a L hL hl hm hcp ha) hc
  |ptr id i j L b hL hi hb=>
   have hc:(match ren pi id with |some id'=>some (D.ptr id' i j) |none=>(D.pur st.objs st.fz (.ptr id i j)).or (if i=0/\j=0 then D.asRp st.objs st.fz pi id else none))=some d':=by cases n<;>exact hc
   split at hc
   ·rename_i id' hid;cases hc;exact .ptr id' i j L b (hρ hid hL) hi hb
   ·rw[Option.or_eq_some_iff]at hc;rcases hc with hc2 |⟨_,hc2⟩
    ·exact Zhl h (.ptr id i j L b hL hi hb) hc2
    ·split at hc2;rotate_left;simp at hc2;rename_i hij;obtain⟨rfl,rfl⟩:=hij;unfold D.asRp at hc2;split at hc2;rotate_left;simp at hc2;rename_i d0 m hlk;split at hc2;rotate_left;simp at hc2;rename_i hfz;simp only[Znu,ZnV]at hfz;split at hc2;rotate_left;simp at hc2;rename_i x m' hx hm;cases hc2;obtain⟨L',hL',b',hb',r2,r3,r4⟩:=h.objs id _ hlk (by simp);rw[hL]at hL';obtain rfl:=ZnN hL';rw[hb]at hb';obtain rfl:=ZnN hb';obtain⟨u,s1,_,s3,s4⟩:=r4 0 d0 rfl;obtain⟨v,t1,_,_,t4⟩:=r4 1 _ rfl;cases t4 with
     |map _ Lm r hLm hbm=>
      have hS:=(h.own id _ L b hlk (by simp) hL hb).2.2.1 hfz.1;have e0:L.base+0*L.sz+0=L.base:=by omega
      rw[e0];refine .rp (some x) m' b L.base r u Lm (fun c=>hS c trivial) (fun y hy=> ?_) t1 (hρ hm hLm) hbm;obtain rfl:=ZnN hy;refine⟨s1,s3,Zaf (S':=S) h.objs (fun _ _ h=>h) depth _ _ _ s4 hx fun id' hid L b hL hb=> ?_⟩;obtain⟨o,q1,q2⟩:=ZaY depth _ _ hx id' hid;rw[q1];exact(h.own id' o L b q1 q2 hL hb).2.2.1 (hfz.2 id' hid)
  |rp x id b o r u L hS hx hm hL hb=>
   have hc:(match ren pi id with |some id'=>some (D.rp x id') |none=>none)=some d':=by cases n<;>exact hc
   split at hc;rotate_left;simp at hc;rename_i id' hid;cases hc;exact .rp x id' b o r u L hS hx hm (hρ hid hL) hb
  |map id L b hL hb=>
   have hc:(match ren pi id with |some id'=>some (D.map id') |none=>D.pur st.objs st.fz (.map id))=some d':=by cases n<;>exact hc
   split at hc
   ·rename_i id' hid;cases hc;exact .map id' L b (hρ hid hL) hb
   ·exact Zhl h (.map id L b hL hb) hc
  |it id L b hL hb=>
   have hc:(match ren pi id with |some id'=>some (D.it id') |none=>none)=some d':=by cases n<;>exact hc
   split at hc;rotate_left;simp at hc;rename_i id' hid;cases hc;exact .it id' L b (hρ hid hL) hb
 intro n
 induction n with
 |zero=>
  intro v d d' hr hc;refine base 0 v d d' ?_ ?_ ?_ hr hc
  all_goals (intros;intro he;simp_all[D.can])
 |succ n ih=>
  intro v d d' hr hc;cases hr with
  |agg vs cs hl h1 hh=>
   grind[D.can,Zh,Zgw]
  |tup vs cs hl hh=>
   simp only[D.can]at hc;split at hc;rotate_left;simp at hc;rename_i ds hds;cases hc;obtain⟨q1,q2⟩:=Zh hds;refine .tup _ _ (by omega) fun j u d hu hd=> ?_
   grind
  |fn f fs cs a b hf hcl hh hh'=>
   simp only[D.can]at hc;split at hc;rotate_left;simp at hc;rename_i a' b' ha hb;cases hc;obtain⟨q1,q2⟩:=Zh ha;obtain⟨q3,q4⟩:=Zh hb;have e1:∀(j:Nat) u d,fs[j]? =some u->a'[j]? =some d->RelD w S (Z2 pi ρ) u d:=fun j u d hu hd=>by
    grind
   have e2:∀(j:Nat) u d,cs[j]? =some u->b'[j]? =some d->RelD w S (Z2 pi ρ) u d:=fun j u d hu hd=>by
    grind
   split
   ·rename_i x y hx hy;have hx':=Zx hx;have hy':=Zx hy;subst hx' hy';simp only[Zor]at q1 q3;refine .p _ _ (.fn f fs cs x y (by omega) (by omega) (fun j u c hu hc=> ?_) (fun j u c hu hc=> ?_))
    ·exact(e1 j u (.p c) hu (by grind)).of_p
    ·exact(e2 j u (.p c) hu (by grind)).of_p
   ·exact .fn f fs cs a' b' (by omega) (by omega) e1 e2
  |_=>exact base (n+1) _ _ d' (by simp) (by simp) (by simp) (by constructor<;>assumption) hc
theorem ZiX (h:Rep C X ρ S st tm w) {pi:List (Id×Id)} (hn:ZaA (pi.map (·.1))=true) {L:Lay} {o o':Obj} (hr:Zp w S ρ L o) (hc:o.can st.objs st.fz pi=some o'):Zp w S (Z2 pi ρ) L o':=by
 cases o with
 |box cs=>
  simp only[Obj.can]at hc;split at hc;rotate_left;simp at hc;rename_i ds hds;cases hc;obtain⟨q1,q2⟩:=Zh hds;obtain⟨b,r1,r2,r3,r4⟩:=hr;refine⟨b,r1,by omega,r3,fun j d hd=> ?_⟩;have hj:j < cs.length:=by have:=(ZnA.1 hd).1;omega
  obtain⟨v,s1,s2,s3,s4⟩:=r4 j cs[j] (by simp[hj]);exact⟨v,s1,s2,s3,ZkH h hn _ _ _ _ s4 (q2 j cs[j] d (by simp[hj]) hd)⟩
 |arr sz es fix=>simp only[Obj.can,ZnO]at hc;subst hc;exact hr
 |map td kv=>simp only[Obj.can,ZnO]at hc;subst hc;exact hr
 |sit s pos=>simp only[Obj.can,ZnO]at hc;subst hc;exact hr
 |gone=>simp[Obj.can]at hc
 |own sz c k es lo out=>simp only[Obj.can,ZnO]at hc;subst hc;exact hr
theorem Obj.can_own {lk:Id->Option Obj} {d:Id->Bool} {pi:List (Id×Id)} {o:Obj} {sz c k lo:Nat} {es:List P} {a:Option Nat} (b:o.can lk d pi=some (.own sz c k es lo a)):o= .own sz c k es lo a:=by
 cases o<;>simp[Obj.can]at b
 all_goals grind
theorem Obj.can_gone {lk:Id->Option Obj} {b:Id->Bool} {pi:List (Id×Id)} {o o':Obj} (a:o.can lk b pi=some o'):o≠ .gone/\o'≠ .gone:=by
 cases o<;>simp[Obj.can]at a<;>refine⟨by simp, ?_⟩
 all_goals grind
theorem Obj.can_soft {lk:Id->Option Obj} {c:Id->Bool} {pi:List (Id×Id)} {o o':Obj} (a:o.soft=true) (b:o.can lk c pi=some o'):o'=o:=by cases o<;>simp[Obj.can]at b a;simp_all
def ZmY (a:St) (pi:List (Id×Id)):Option (List Obj):=Zj (fun x=>match a.objs x.2 with |some o=>o.can a.objs a.fz pi |none=>none) pi
def Zie (pi:List (Id×Id)) (os:List Obj):Id->Option Obj:=Zg ((pi.map (·.1)).zip os)
theorem ZcX:∀{pi:List (Id×Id)} {os:List Obj} {id:Id} {o:Obj},Zie pi os id=some o->∃(j:Nat) (a:Id),pi[j]? =some (id,a)/\os[j]? =some o
 | [],os,id,o,h=>by simp[Zie,Zg]at h
 |x::r,[],id,o,h=>by simp[Zie,Zg]at h
 |(n,a)::r,u::os,id,o,h=>by
  simp only[Zie,Zn6,List.zip_cons_cons,Zg]at h;split at h
  ·rename_i c;simp only[ZnO]at h;subst c h;exact⟨0,a,rfl,rfl⟩
  ·obtain⟨j,b,q1,d⟩:=ZcX (pi:=r) (os:=os) h;exact⟨j+1,b,by simp_all,by simp_all⟩
theorem Rep.select (h:Rep C X ρ S st tm w) {pi:List (Id×Id)} {ep:Nat} {e:St} {H:Array Value} {C':Ctx}
  (R:Zgp st pi ep=true) (f:∀d o',e.objs d=some o'->∃a o,(d,a)∈pi/\st.objs a=some o/\o≠ .gone/\(o.soft=true->o'=o)/\∀L,ρ a=some L->Zp w S ρ L o->Zp w S (Z2 pi ρ) L o')
  (hE:C'.E.globs=C.E.globs) (ag:H.size=C'.E.nt)
  (ab:ZQ C'.W w) (E:C'.H.size<=w.heap.size) (u:∀b,b < C'.H.size->¬C'.Lt b->w.heap[b]? =C'.H[b]?) (ac:∀b c,C'.S0 b c->S b c)
  (an:∀d a o L b,(d,a)∈pi->st.objs a=some o->o≠ .gone->ρ a=some L->L.blk=some b->C'.H.size<=b\/C'.Lt b)
  (aj:∀id,e.fz id=false) (P:e.ep=ep) (Q:1<=ep) (x:∀k,RelD w S (Z2 pi ρ) (H.getD k undef) (e.slots k))
  (ae:∀b c,S b c->C'.S0 b c\/C'.H.size<=b\/C'.Lt b) (W:∀k L,C'.lays k=some L->Z2 pi ρ (0,k,0)≠none->Z2 pi ρ (0,k,0)=some L)
  (N:∀d sz c k es lo v,e.objs d=some (.own sz c k es lo v)->(∀a,(d,a)∈pi->st.objs a=some (.own sz c k es lo v))/\C'.H.size<=C.H.size/\∀b,C.Lt b->C'.Lt b):
  Rep C' (fun _=>False) (Z2 pi ρ) S e H w:=by
 simp only[Zgp,Znu,ZnV,decide_eq_true_eq,ZnU]at R;obtain⟨⟨K,ah⟩,z⟩:=R;have j:∀{d a:Id},(d,a)∈pi->Z2 pi ρ d=ρ a:=fun O=>by simp only[Z2,Zy K O]
 have af:∃Y,Fam C'.H.size C'.Lt S (Z2 pi ρ) e.objs e.fz w Y:=by
  obtain⟨Y,F⟩:=h.fam;have Z:∀{d i sz c k l},Kid e.objs e.fz d i sz c k l->∃a,(d,a)∈pi/\Kid st.objs st.fz a i sz c k l/\C'.H.size<=C.H.size/\∀b,C.Lt b->C'.Lt b:=by rintro d i sz c k l ⟨es,lo,v,cs,n,_,r⟩;obtain⟨a,o,q1,_⟩:=f d _ n;obtain⟨D,J,I⟩:=N _ _ _ _ _ _ _ n;exact⟨a,q1,⟨es,lo,v,cs,D a q1,(z _ q1).2,r⟩,J,I⟩
  let G:Id->Nat->Lay:=fun d=>match Zg pi d with
   |some a=>Y a
   |none=>fun _=>⟨none,0,0,0,0⟩
  have t:∀{d a:Id},(d,a)∈pi->G d=Y a:=fun O=>by simp only[G,Zy K O]
  refine⟨G,fun d i sz c k l L V q=> ?_,fun d i sz c k l b V y=> ?_,fun d i sz c k l am i' ao c' k' l' b V ai y s=> ?_⟩
  ·obtain⟨a,q1,m,_⟩:=Z V;rw[j q1]at q;rw[t q1];exact F.kid _ _ _ _ _ _ L m q
  ·obtain⟨a,q1,m,B,U⟩:=Z V;rw[t q1]at y;obtain⟨D,J,I,r4⟩:=F.own _ _ _ _ _ _ b m y;refine⟨D,J.imp (fun h=>Nat.le_trans B h) (U b),I,fun M o L n hg q=> ?_⟩;grind
  ·obtain⟨a,q1,m,_⟩:=Z V;obtain⟨A,al,ak,_⟩:=Z ai;rw[t q1]at y;rw[t al]at s;obtain⟨rfl,rfl⟩:=F.inj _ _ _ _ _ _ _ _ _ _ _ _ b m ak y s;grind[ZdU]
 refine⟨ag,E,u,ac,h.sIn,x, ?_, ?_, ?_, ?_, ?_, ?_, ?_,ae,P▸Q,ab,W,af⟩
 ·intro id o' n hg;obtain⟨a,o,q1,m,B,_,U⟩:=f id o' n;obtain⟨L,q,hr⟩:=h.objs a o m B;grind
 ·intro id o' L b n hg q y;obtain⟨a,o,q1,m,B,q5,U⟩:=f id o' n;rw[j q1]at q;obtain⟨D,J,I,r4⟩:=h.own a o L b m B q y;grind
 ·intro id o1 L M o2 L' b n hg q y aa ap T s;obtain⟨a,o,q1,m,B,U⟩:=f id o1 n;obtain⟨A,o',D,J,I,r4⟩:=f M o2 aa;rw[j q1]at q;rw[j D]at T;have:=h.inj a o L A o' L' b m B q y J I T s;subst this;exact ZdU ah q1 D
 ·intro id p;cases n:e.objs id with
  |none=>exact absurd n p
  |some o'=>
   obtain⟨a,o,q1,m,B,U⟩:=f id o' n;rw[j q1];exact h.known a (by simp[m])
 ·intro id p;left;rw[P];unfold Z2 at p;cases hq:Zg pi id with
  |none=>rw[hq]at p;simp at p
  |some a=>exact(z _ (Z1 hq)).1
 ·intro id hf;rw[aj id]at hf;simp at hf
 ·intro g cs O;exact h.glob g cs (hE▸O)
def mkS (ep:Nat) (ls:List (Nat×D)) (lo:List (Id×Obj)):St:={slots:=Zaz .dead ls,objs:=Zg lo,fz:=fun _=>false,ep:=ep}
theorem ZaS {b β:Type} [DecidableEq b] (d:β):∀(l:List (b×β)) (a:b),Zaz d l a=d\/(a,Zaz d l a)∈l
 | [],a=> .inl rfl
 |(x,y)::r,a=>by
  simp only[Zaz];split
  ·simp_all
  ·exact(ZaS d r a).imp (fun h=>h) fun h=>Zoa _ h
def ZlZ (pi:List (Id×Id)):Bool:=pi.all fun x=>decide (x.1.2.2≠0)||decide (x.1=x.2)
theorem Rep.canon (h:Rep C X ρ S st tm w) {pi:List (Id×Id)} {ep:Nat} {ls:List Nat} {ds:List D} {os:List Obj} (hep:1<=ep) (hpi:Zgp st pi ep=true) (hkeep:ZlZ pi=true) (hos:ZmY st pi=some os)
  (hds:Zj (fun t=>(st.slots t).can st.objs st.fz pi depth) ls=some ds):Rep C (fun _=>False) (Z2 pi ρ) S (mkS ep (ls.zip ds) ((pi.map (·.1)).zip os)) tm w:=by
 have hn1:ZaA (pi.map (·.1))=true:=by grind[Zgp]
 obtain⟨hol,hoi⟩:=Zh hos;obtain⟨hdl,hdi⟩:=Zh hds;refine h.select hpi ?_ rfl h.nt h.quiet h.grow h.frame h.s0 (fun new old o L b _ q2 q3 q4 q5=>(h.own old o L b q2 q3 q4 q5).2.1) (fun _=>rfl) rfl hep ?_ h.sOut ?_ (fun new sz c k es lo out ho=>⟨fun old hm=> ?_,ZnJ _,fun _ h=>h⟩)
 rotate_right
 ·obtain⟨j,old',q1,q2⟩:=ZcX ho;have:=hoi j _ _ q1 q2;dsimp only at this;split at this;rotate_left;simp at this;rename_i o hoo;obtain rfl:=Obj.can_own this;have e:=Zy hn1 hm;rw[Zy hn1 (Zoe q1)]at e;simp_all
 ·intro new o' ho;obtain⟨j,old,q1,q2⟩:=ZcX ho;grind[Obj.can_gone,Obj.can_soft,ZiX]
 ·intro k;rcases ZaS D.dead (ls.zip ds) k with hk |hk
  ·show RelD _ _ _ _ (Zaz D.dead (ls.zip ds) k);rw[hk];exact .dead _
  ·obtain⟨j,hj⟩:=Zou.1 hk;rw[List.getElem?_zip_eq_some]at hj;have:=hdi j _ _ hj.1 hj.2;exact ZkH h hn1 _ _ _ _ (h.slots k) this
 ·intro k L hk hn;unfold Z2 at hn|-
  cases hq:Zg pi (0,k,0)with
  |none=>rw[hq]at hn;simp at hn
  |some old=>
   rw[hq]at hn;have hm:=Z1 hq;have:=ZnV.1 hkeep _ hm;simp only[ne_eq,not_true_eq_false,decide_false,Bool.false_or,decide_eq_true_eq]at this;subst this;exact h.lay k L hk hn
end
def Zmc:List Bool->Prop
 | []=>True
 | [a]=>a=true
 |a::r=>a=true/\Zmc r
theorem Zf2:∀{l:List Bool},Zmc l->∀p∈l,p=true
 | [],_,p,c=>by simp_all
 | [a],h,p,c=>by simp at c;subst c;exact h
 |a::b::r,h,p,c=>by
  rcases ZnD.1 c with rfl |c
  ·exact h.1
  ·exact Zf2 h.2 p c
section
variable {C:Ctx} {r:Fm} {G:Zg6}
end
end Eng
namespace Eng
open Go
inductive Arg where
 |p (x:P)
 |box (cs:List P)
 |arr (sz:Nat) (es:List P)
 |map (td:TD) (kv:List (P×P))
 |part (sz:Nat) (es:List P) (off len:Nat)
 |boxr (x:P) (k:Nat)
 |hmap (td:TD) (kv:List (P×P))
 deriving Inhabited
def Arg.vis:Arg->Bool
 | .hmap _ _=>false
 |_=>true
def Arg.rk:Arg->Option Nat
 | .boxr _ k=>some k
 |_=>none
def ZmD (a:List Arg):Nat:=(a.filter Arg.vis).length
@[simp] theorem Zl1 (xs:List P):ZmD (xs.map .p)=xs.length:=by
 induction xs with
 |nil=>rfl
 |cons x r a=>simp only[ZmD,Zn6,List.length_cons]at a|-;rw[List.filter_cons_of_pos rfl,List.length_cons,a]
inductive RV where
 |p (x:P)
 |own (sz:Nat) (es:List P)
 |box (cs:List P)
 |map (td:TD) (kv:List (P×P))
 |view (k off len:Nat)
 |aown (pre:List P) (sz:Nat) (es post:List P) (ow:Option (Nat×Nat×Nat))
 deriving Inhabited
def arrO (sz:Nat) (es:List P):Option (Nat×Nat×Nat)->Obj
 |none=> .arr sz es false
 |some (c,k,lo)=> .own sz c k es lo none
structure Ret where
 res:List RV
 outs:List (Nat×Arg):=[]
 deriving Inhabited
def Arg.d (k:Nat):Arg->D
 | .p x=> .p x
 | .box _=> .ptr (0,k,0) 0 0
 | .arr _ es=> .sl (0,k,0) 0 es.length
 | .map _ _=> .map (0,k,0)
 | .part _ _ a len=> .sl (0,k,0) a len
 | .boxr x j=> .rp (some x) (0,j,0)
 | .hmap _ _=> .dead
def Arg.o:Arg->Option Obj
 | .p _=>none
 | .box cs=>some (.box (cs.map .p))
 | .arr sz es=>some (.arr sz es false)
 | .map td a=>some (.map td a)
 | .part sz es _ _=>some (.arr sz es false)
 | .boxr _ _=>none
 | .hmap td a=>some (.map td a)
def Zc9:Nat->List Arg->List (Nat×D)
 |_,[]=>[]
 |k,a::r=>(k,a.d k)::Zc9 (k+1) r
def Zcl:Nat->List Arg->List (Id×Obj)
 |_,[]=>[]
 |k,a::r=>match a.o with
  |some o=>((0,k,0),o)::Zcl (k+1) r
  |none=>Zcl (k+1) r
def Zeu (args:List Arg):St:=mkS 1 (Zc9 0 args) (Zcl 0 args)
def RV.d (j:Nat):RV->D
 | .p x=> .p x
 | .own _ es=> .sl (1,j,0) 0 es.length
 | .box _=> .ptr (1,j,0) 0 0
 | .map _ _=> .map (1,j,0)
 | .view k b len=> .sl (0,k,0) b len
 | .aown pre _ es a _=> .agg (pre.map .p++ .sl (1,j,0) 0 es.length::a.map .p)
def RV.o:RV->Option Obj
 | .own sz es=>some (.arr sz es false)
 | .aown _ sz es _ b=>some (arrO sz es b)
 | .box cs=>some (.box (cs.map .p))
 | .map td a=>some (.map td a)
 |_=>none
def ZkW:Nat->List RV->List (Nat×D)
 |_,[]=>[]
 |j,x::r=>(j,x.d j)::ZkW (j+1) r
def Zh7:Nat->List RV->List (Id×Obj)
 |_,[]=>[]
 |j,x::r=>match x.o with
  |some o=>((1,j,0),o)::Zh7 (j+1) r
  |none=>Zh7 (j+1) r
def Zcb:List (Nat×Arg)->List (Id×Obj)
 | []=>[]
 |(k,a)::r=>match a.o with
  |some o=>((0,k,0),o)::Zcb r
  |none=>Zcb r
def ZbY (ret:Ret):St:=mkS 2 (ZkW 0 ret.res) (Zh7 0 ret.res++Zcb ret.outs)
theorem Arg.o_soft {a:Arg} {o:Obj} (h:a.o=some o):o.soft=false:=by cases a<;>simp[Arg.o]at h<;>subst h<;>rfl
theorem RV.o_soft {a:RV} {o:Obj} (h:a.o=some o):o.soft=false:=by
 cases a<;>simp[RV.o]at h<;>subst h<;>try rfl
 rename_i b;cases b<;>rfl
theorem Arg.o_own {a:Arg} {o:Obj} (h:a.o=some o):o.isOwn=false:=by cases a<;>simp[Arg.o]at h<;>subst h<;>rfl
theorem Zew:∀(k:Nat) (b:List Arg) (id:Id) (o:Obj),(id,o)∈Zcl k b->o.isOwn=false
 |_,[],_,_,h=>by grind[Zcl]
 |k,a::r,id,o,h=>by
  simp only[Zcl]at h;split at h
  ·rename_i o' c;rcases ZnD.1 h with h |h
   ·grind[Arg.o_own]
   ·exact Zew _ r id o h
  ·exact Zew _ r id o h
theorem ZkP {a:List Arg} {id:Id} {o:Obj} (h:(Zeu a).objs id=some o):o.isOwn=false:=Zew 0 a id o (Z1 h)
def Zhc (vs:Array Value):Value:=if h:vs.size=1 then vs[0]else .tuple vs
def Env.at (E:Env) (n:Nat):Env:={E with nt:=n}
def FunB (E:Env) (f:Nat) (args:List Arg) (ret:Ret):Prop:=
 (∃fn,E.prog.funcs[f]? =some fn/\(fn.name == "runtime.NumGoroutine")=false/\fn.body.isNone=false)/\
 ∀(w:World) (Lt:Nat->Prop) (S:Fz) (lays:Nat->Option Lay) (ρ:Id->Option Lay) (vals:Array Value),vals.size=ZmD args->
  Rep ⟨E.at vals.size,w,Lt,S,lays⟩ (fun _=>False) ρ S (Zeu args) vals w->
  CallsIn (Zcz none) 0 E.prog f vals w fun e w'=>∃vs ρ' S',e= .returned (Zhc vs)/\vs.size=ret.res.length/\
   Rep ⟨E.at vs.size,w,Lt,S,lays⟩ (fun _=>False) ρ' S' (ZbY ret) vs w'
def FunX (E:Env) (f:Nat) (args:List Arg) (ret:Ret):Prop:=
 (∃fn,E.prog.funcs[f]? =some fn/\fn.body.isNone=true)/\
 ∀(w:World) (Lt:Nat->Prop) (S:Fz) (b:Nat->Option Lay) (ρ:Id->Option Lay) (a:Array Value),a.size=ZmD args->
  Rep ⟨E.at a.size,w,Lt,S,b⟩ (fun _=>False) ρ S (Zeu args) a w->
  ∃vs ρ' S' w',(callFunc f a).run E.prog w= .ok (.value (Zhc vs)) w'/\vs.size=ret.res.length/\
   Rep ⟨E.at vs.size,w,Lt,S,b⟩ (fun _=>False) ρ' S' (ZbY ret) vs w'
def Fun (E:Env) (f:Nat) (args:List Arg) (ret:Ret):Prop:=FunB E f args ret\/FunX E f args ret
def ZiQ (C:Ctx) (fn:Func) (ret:Ret):Zg6:=fun e a w'=>
 (e= .normal\/e= .ret)/\a.defers=[]/\∃vs ρ' S',(results fn a.tmps).run C.E.prog w'= .ok (Zhc vs) w'/\vs.size=ret.res.length/\
  Rep ⟨C.E.at vs.size,C.W,C.Lt,C.S0,C.lays⟩ (fun _=>False) ρ' S' (ZbY ret) vs w'
theorem Zi7 {E:Env} {f:Nat} {fn:Func} {c:Code} {args:List Arg} {ret:Ret} (hf:E.prog.funcs[f]? =some fn) (hn:(fn.name == "runtime.NumGoroutine")=false) (hb:fn.body=some c) (hl:args.length<=fn.ntmps)
  (h:∀W Lt S0 lays,AWP ⟨E.at fn.ntmps,W,Lt,S0,lays⟩ ⟨none,[]⟩ (ZiQ ⟨E.at fn.ntmps,W,Lt,S0,lays⟩ fn ret) [.c c] (Zeu args)):Fun E f args ret:=by
 refine .inl ⟨⟨fn,hf,hn,by simp_all⟩,fun w Lt S lays ρ vals hv hrep=> ?_⟩;refine callsIn_of_wp hf hb trivial ?_ rfl;intro b k cs hro _ _;have hrep':Rep ⟨E.at fn.ntmps,w,Lt,S,lays⟩ (Xof [.c c]) ρ S (Zeu args) (vals++Array.replicate (fn.ntmps - vals.size) undef) w:=by
  have hl0:ZmD args<=args.length:=List.length_filter_le _ _;refine⟨by grind[Env.at],hrep.grow,hrep.frame,hrep.s0,hrep.sIn,fun k=> ?_,hrep.objs,hrep.own,hrep.inj,hrep.known,fun id hn=>(hrep.young id hn).imp (fun h=>h) (fun h=>h.2.elim),hrep.fzk,hrep.glob,hrep.sOut,hrep.ep1,hrep.quiet,hrep.lay,hrep.fam⟩;have:=hrep.slots k;have e:(vals++Array.replicate (fn.ntmps - vals.size) undef).getD k undef=vals.getD k undef:=by
   simp only[Array.getD_eq_getD_getElem?,ZnQ];grind
  simp_all
 obtain⟨e,a',w',⟨he,hd,vs,ρ',S',hres,hvs,hr⟩,harr⟩:=h w Lt S lays ρ S {tmps:=vals++Array.replicate (fn.ntmps - vals.size) undef,defers:=[]} w hrep' rfl b k cs hro;refine⟨e,a',w', ?_,harr⟩;have:a'.defers=[]/\∃v,(results fn a'.tmps).run E.prog w'= .ok v w'/\∃vs ρ' S',Ending.returned v= .returned (Zhc vs)/\vs.size=ret.res.length/\Rep ⟨E.at vs.size,w,Lt,S,lays⟩ (fun _=>False) ρ' S' (ZbY ret) vs w':=
  ⟨hd,_,hres,vs,ρ',S',rfl,hvs,hr⟩
 rcases he with rfl |rfl<;>exact this
end Eng
namespace Eng
open Go
section
variable {C:Ctx} {X:Nat->Prop} {ρ:Id->Option Lay} {S:Fz} {st:St} {tm:Array Value} {w:World}
theorem Rep.freeze (h:Rep C X ρ S st tm w) (fs:List Id) (q:∀f∈fs,∃o,st.objs f=some o/\o≠ .gone):∃S',(∀b c,S b c->S' b c)/\(∀f∈fs,∀L b,ρ f=some L->L.blk=some b->∀c,inL (st.objs f) L c->S' b c)/\Rep C X ρ S' (st.freezeL fs) tm w/\∀b c,S' b c->S b c\/∃f L,f∈fs/\ρ f=some L/\L.blk=some b/\inL (st.objs f) L c:=by
 let S':Fz:=fun b c=>S b c\/∃f L,f∈fs/\ρ f=some L/\L.blk=some b/\inL (st.objs f) L c
 have m:∀b c,S b c->S' b c:=fun b c a=> .inl a
 have A:ZbM S w w:= .refl S w;have H:∃G,Fam C.H.size C.Lt S' ρ (st.freezeL fs).objs (st.freezeL fs).fz w G:=by
  obtain⟨G,F⟩:=h.fam;have B:∀{id i sz c k l},Kid (st.freezeL fs).objs (st.freezeL fs).fz id i sz c k l->Kid st.objs st.fz id i sz c k l:=by rintro id i sz c k l ⟨es,lo,E,cs,e,d,r⟩;rw[Zu]at e;rw[freezeL_fz]at d;simp only[Zom]at d;exact⟨es,lo,E,cs,e,d.2,r⟩
  refine⟨G,fun id i sz c k l L z j=> ?_,fun id i sz c k l b z a=> ?_,fun id i sz c k l x i' Q V Z l' b z I=>F.inj _ _ _ _ _ _ _ _ _ _ _ _ b (B z) (B I)⟩
  ·obtain⟨b,v,q1,M,K,N⟩:=F.kid _ _ _ _ _ _ L (B z) j;exact⟨b,v,q1,M,K.mono A m (fun _ _ h=>h),N.mono A m (fun _ _ h=>h) fun _ _=>rfl⟩
  ·obtain⟨q1,M,K,N⟩:=F.own _ _ _ _ _ _ b (B z) a;grind[Zu]
 refine⟨S',m,fun f d L b j a c y=> .inr ⟨f,L,d,j,a,y⟩,⟨h.nt,h.grow,h.frame,fun b c a=> .inl (h.s0 b c a), ?_, ?_, ?_, ?_, ?_, ?_, ?_, ?_,fun g cs P=>(h.glob g cs P).mono A m, ?_,by rw[Ze7];exact h.ep1,h.quiet,h.lay,H⟩,fun _ _ h=>h⟩
 ·intro b c a;rcases a with a |⟨f,L,d,j,a,_⟩
  ·exact h.sIn b c a
  ·obtain⟨o,e,n⟩:=q f d;exact(h.own f o L b e n j a).1
 ·intro k;rw[Zcx];exact(h.slots k).mono A m fun _ _ h=>h
 ·intro id o e n;rw[Zu]at e;obtain⟨L,j,R⟩:=h.objs id o e n;exact⟨L,j,R.mono A m (fun _ _ h=>h) fun _ _=>rfl⟩
 ·intro id o L b e n j a;rw[Zu]at e;obtain⟨O,T,U,W⟩:=h.own id o L b e n j a;rw[freezeL_fz];refine⟨O,T,fun d c y=> ?_,fun c y=> ?_⟩
  ·grind
  ·rcases y with Y |⟨f,L',J,t,s,y⟩
   ·grind
   ·obtain⟨o',p,u⟩:=q f J;have:=h.inj id o L f o' L' b e n j a p u t s;simp_all
 ·intro id o L x o' L' b e n j a p u t s;rw[Zu]at e p;exact h.inj id o L x o' L' b e n j a p u t s
 ·intro id D;rw[Zu]at D;exact h.known id D
 ·intro id D;rw[Ze7];exact h.young id D
 ·intro id d;rw[freezeL_fz]at d;simp only[Bool.or_eq_true,ZnY]at d;rcases d with d |d
  ·obtain⟨o,e,n⟩:=q id d;obtain⟨L,j,_⟩:=h.objs id o e n;grind
  ·exact h.fzk id d
 ·intro b c a;rcases a with a |⟨f,L,d,j,a,_⟩
  ·exact h.sOut b c a
  ·obtain⟨o,e,n⟩:=q f d;exact .inr (h.own f o L b e n j a).2.1
end
def ZlU (E:Env) (a:St):ResultVar->Option D
 | .tmp t=>some (a.slots t)
 | .cell ad t=>match E.ty t with
  |some ti=>match a.slots ad with
   | .p (.ptr cs)=>match Zdp ti cs with
    |some x=>some (.p x)
    |none=>none
   | .ptr id 0 j=>match a.objs id with
    |some (.box cs)=>ZfK ti (cs.drop j)
    |_=>none
   |_=>none
  |none=>none
inductive RM where
 |p |own |box |map |view |aown
 deriving Inhabited
def Zde:List D->Option (List P×Id×Nat×List P)
 | .p x::r=>match Zde r with
  |some (a,b)=>some (x::a,b)
  |none=>none
 | .sl id 0 len::r=>match Zj D.pure? r with
  |some q=>some ([],id,len,q)
  |none=>none
 |_=>none
theorem Zgc:∀{cs:List D} {pre a:List P} {id:Id} {len:Nat},Zde cs=some (pre,id,len,a)->cs=pre.map .p++ .sl id 0 len::a.map .p:=by
 intro cs
 induction cs with
 |nil=>grind[Zde]
 |cons d r b=>
  intro pre a id len h;unfold Zde at h;grind[Zx]
theorem ZlM {s b:D} {a:List P}:∀{pre:List P} (i:Nat) c,(pre.map D.p++b::a.map D.p)[i]? =some c->
  (∃x,c= .p x/\(pre.map D.p++s::a.map D.p)[i]? =some (.p x))\/(c=b/\(pre.map D.p++s::a.map D.p)[i]? =some s):=by
 grind
theorem RelD.aown {w:World} {S S':Fz} {ρ ρ':Id->Option Lay} {v:Value} {pre a:List P} {id d:Id} {n:Nat} (h:RelD w S ρ v (.agg (pre.map .p++ .sl id 0 n::a.map .p))) (m:∀b c,S b c->S' b c) (k:ρ' d=ρ id):
  RelD w S' ρ' v (.agg (pre.map .p++ .sl d 0 n::a.map .p)):=by
 cases h with
 |agg vs cs j q h=>
  refine .agg vs _ (by simp_all) q fun i u c g l=> ?_
  rcases ZlM (s:= .sl id 0 n) i c l with ⟨x,rfl,e⟩ |⟨rfl,e⟩
  ·exact .p _ _ ((h i u _ g e).of_p.mono (.refl _ _) m)
  ·have p:=h i u _ g e;cases p with
   |sl _ _ _ cap ad L t j o f r=>exact .sl _ 0 _ cap ad L (by simp_all) j o f r
def Zag (a:St):Obj->Option (Arg×List Id)
 | .box b=>match Zj (fun d=>d.toP a.objs depth) b with
  |some cs=>some (.box cs,b.flatMap fun d=>d.ids a.objs depth)
  |none=>none
 | .arr sz es false=>some (.arr sz es,[])
 | .map td c=>some (.map td c,[])
 |_=>none
theorem objArg_soft {a:St} {o:Obj} {x:Arg×List Id} (h:Zag a o=some x):o.soft=false:=by
 cases o<;>simp[Zag]at h|-
 grind
structure RE where
 rv:RV
 fs:List Id:=[]
 id:Option Id:=none
 cond:List Bool:=[]
def ZiS (a:St) (m:RM) (d:D):Option RE:=
 match m,d with
 | .p,d=>match d.toP a.objs depth with
  |some x=>some {rv:= .p x,fs:=d.ids a.objs depth}
  |none=>none
 | .own,.sl id 0 len=>match a.objs id with
  |some (.arr sz es false)=>some {rv:= .own sz es,id:=some id,cond:=[decide (len=es.length)]}
  |_=>none
 | .box,.ptr id 0 0=>match a.objs id with
  |some (.box ds)=>match Zj (fun d=>d.toP a.objs depth) ds with
   |some cs=>some {rv:= .box cs,fs:=ds.flatMap fun d=>d.ids a.objs depth,id:=some id}
   |none=>none
  |_=>none
 | .map,.map id=>match a.objs id with
  |some (.map td kv)=>some {rv:= .map td kv,id:=some id}
  |_=>none
 | .view,.sl (0,k,0) off len=>some {rv:= .view k off len}
 | .aown,.agg cs=>match Zde cs with
  |some (pre,id,len,post)=>match a.objs id with
   |some (.arr sz es false)=>some {rv:= .aown pre sz es post none,id:=some id,cond:=[decide (len=es.length)]}
   |some (.own sz c k es lo none)=>some {rv:= .aown pre sz es post (some (c,k,lo)),id:=some id,cond:=[decide (len=es.length)]}
   |_=>none
  |none=>none
 |_,_=>none
def Zne (b:St) (k:Nat):Option ((Nat×Arg)×List Id):=
 match b.objs (0,k,0)with
 |some o=>match Zag b o with
  |some (a,fs)=>some ((k,a),fs)
  |none=>none
 |none=>none
def ZiP:Nat->List RE->List (Id×Id)
 |_,[]=>[]
 |j,x::r=>match x.id with
  |some id=>((1,j,0),id)::ZiP (j+1) r
  |none=>ZiP (j+1) r
def Zf6 (os:List Nat):RV->Bool
 | .view k _ _=>os.contains k
 |_=>true
def Znb (E:Env) (a:St) (c:List ResultVar) (ms:List RM) (outs:List Nat):Option (Ret×List Bool):=
 match Zj (ZlU E a) c with
 |some b=>if b.length=ms.length then match Zj (fun x=>ZiS a x.1 x.2) (ms.zip b),Zj (Zne a) outs with
  |some res,some os=>
   let fs:=res.flatMap (·.fs)++os.flatMap (·.2)
   let pi:=ZiP 0 res++outs.map fun k=>((0,k,0),(0,k,0))
   if Zgp (a.freezeL fs) pi 2&&res.all (fun x=>Zf6 outs x.rv)then some (⟨res.map (·.rv),os.map (·.1)⟩,res.flatMap (·.cond))else none
  |_,_=>none
  else none
 |none=>none
theorem Zhk {P:Program} {fn:Func} {tm:Array Value} {w:World} {vs:List Value} (hl:vs.length=fn.results.size)
  (h:∀(j:Nat) rv v,fn.results[j]? =some rv->vs[j]? =some v->(match rv with | .tmp t=>pure (tm.getD t undef) | .cell a t=>do loadVar t (<-asAddr (tm.getD a undef)):Sem Value).run P w= .ok v w):
  (results fn tm).run P w= .ok (Zhc vs.toArray) w:=by
 have key:∀(l:List ResultVar) (us:List Value),us.length=l.length->(∀(j:Nat) rv v,l[j]? =some rv->us[j]? =some v->(match rv with | .tmp t=>pure (tm.getD t undef) | .cell a t=>do loadVar t (<-asAddr (tm.getD a undef)):Sem Value).run P w= .ok v w)->
   (l.mapM fun | .tmp t=>pure (tm.getD t undef) | .cell a t=>do loadVar t (<-asAddr (tm.getD a undef)):Sem (List Value)).run P w= .ok us w:=by
  intro l
  induction l with
  |nil=>simp_all
  |cons rv l ih=>
   intro us hu hh
   match us,hu with
   |v::us,hu=>
    have h0:=hh 0 rv v rfl rfl;have h1:=ih us (by grind) fun j rv v hr hv=>hh (j+1) rv v (by grind) (by simpa using hv)
    grind[Sem.run_bind,Result.andThen_ok,Sem.run_pure]
 have:=key fn.results.toList vs (by simpa using hl) (fun j rv v hr hv=>h j rv v (by simpa using hr) hv);unfold results;rw[Array.mapM_eq_mapM_toList];rw[Sem.run_bind,Sem.run_map]
 erw [this]
 simp only[Result.andThen_ok,Sem.run_pure];rfl
section
variable {C:Ctx} {X:Nat->Prop} {ρ:Id->Option Lay} {S:Fz} {st:St} {w:World}
theorem Zle {a:Act} (hE:Zl C.E) (h:Rep C X ρ S st a.tmps w) {rv:ResultVar} {d:D} (hd:ZlU C.E st rv=some d):
  ∃v,(match rv with | .tmp t=>pure (a.tmps.getD t undef) | .cell ad t=>do loadVar t (<-asAddr (a.tmps.getD ad undef)):Sem Value).run C.E.prog w= .ok v w/\RelD w S ρ v d:=by
 cases rv with
 |tmp t=>
  simp only[ZlU,ZnO]at hd;subst hd;exact⟨_,by simp,h.slots t⟩
 |cell ad t=>
  simp only[ZlU]at hd;split at hd;rotate_left;simp at hd;rename_i ti hty;obtain⟨ii,ds,z,hti⟩:=hE.is hty;have hs:=h.slots ad;generalize hv:a.tmps.getD ad undef=pv at hs;split at hd
  ·rename_i cs hst;split at hd;rotate_left;simp at hd;rename_i x hx;cases hd;rw[hst]at hs;have hs:=hs.of_p;cases hs with
   |ptr b o' _ vs hcell h1 hr=>
    obtain⟨hle,hrel⟩:=Zbz (w:=w) (S:=S) hx hti.one;have get:∀(j:Nat) u,((List.range ti.size).map vs)[j]? =some u->j < ti.size/\u=vs j:=by
     grind
    have hrun:=Zcg (C:=C) (w:=w) hE hty b o' ((List.range ti.size).map vs) (by simp) (fun j u hu=>by grind)
    refine⟨Zan ti ((List.range ti.size).map vs).toArray,by
     grind[asAddr],.p _ _ (hrel _ (by simp) fun j u c hu hc=> ?_)⟩
    grind
  ·rename_i id j hst;split at hd;rotate_left;simp at hd;rename_i cs hlk;rw[hst]at hs;cases hs with
   |ptr _ _ _ L b hL hi hb=>
    obtain⟨hle,hrel⟩:=Zd1 (w:=w) (S:=S) (ρ:=ρ) hd hti.one;obtain⟨L',hL',b',hb',hsz,hln,hcs⟩:=h.objs id _ hlk (by simp);rw[hL]at hL';obtain rfl:=ZnN hL';rw[hb]at hb';obtain rfl:=ZnN hb';have get:∀k,k < ti.size->∃u,w.cell? ⟨b,L.base+0*L.sz+j+k,none⟩=some u/\Zbp u/\∀c,(cs.drop j)[k]? =some c->RelD w S ρ u c:=by intro k hk;simp at hle;obtain⟨u,hu,_,h1,hr⟩:=hcs (j+k) cs[j+k] (by simp);grind
    let us:List Value:=(List.range ti.size).map fun k=>(w.cell? ⟨b,L.base+0*L.sz+j+k,none⟩).getD default
    have hus:∀(k:Nat) u,us[k]? =some u->k < ti.size/\w.cell? ⟨b,L.base+0*L.sz+j+k,none⟩=some u:=by
     grind
    have hrun:=Zcg (C:=C) (w:=w) hE hty b (L.base+0*L.sz+j) us (by grind) (fun k u hu=>(hus k u hu).2);grind[asAddr]
  simp_all
end
theorem Zfz:∀(n:Nat) (l:List RE) (j:Nat) (x:RE) (id:Id),l[j]? =some x->x.id=some id->((1,n+j,0),id)∈ZiP n l
 |n,[],j,x,id,h,_=>by simp at h
 |n,y::l,j,x,id,h,hid=>by
  cases j with
  |zero=>
   simp only[Zny,ZnO]at h;subst h;simp[ZiP,hid]
  |succ j=>
   simp only[Zop]at h;have:=Zfz (n+1) l j x id h hid;rw[show n+(j+1)=n+1+j by omega];unfold ZiP;split
   ·exact Zoa _ this
   ·exact this
theorem Zh8:∀(n:Nat) (l:List RV) (k:Nat) (d:D),(k,d)∈ZkW n l->∃j x,l[j]? =some x/\k=n+j/\d=x.d (n+j)
 |n,[],k,d,h=>by grind[ZkW]
 |n,x::l,k,d,h=>by
  rcases ZnD.1 h with h |h
  ·simp only[ZnP]at h;obtain⟨rfl,rfl⟩:=h;grind
  ·obtain⟨j,a,q1,c,b⟩:=Zh8 (n+1) l k d h;exact⟨j+1,a,by simp_all,by omega,by grind⟩
theorem Zh6:∀(n:Nat) (l:List RV) (id:Id) (o:Obj),(id,o)∈Zh7 n l->∃j x,l[j]? =some x/\id=(1,n+j,0)/\x.o=some o
 |n,[],id,o,h=>by grind[Zh7]
 |n,x::l,id,o,h=>by
  have b:(id,o)∈Zh7 (n+1) l->∃j a,(x::l)[j]? =some a/\id=(1,n+j,0)/\a.o=some o:=fun h=>by obtain⟨j,a,q1,e,c⟩:=Zh6 (n+1) l id o h;exact⟨j+1,a,by simp_all,by grind,c⟩
  unfold Zh7 at h;split at h
  ·rename_i u d;rcases ZnD.1 h with h |h
   ·simp only[ZnP]at h;obtain⟨rfl,rfl⟩:=h;exact⟨0,x,rfl,rfl,d⟩
   simp_all
  simp_all
theorem Zgr:∀(l:List (Nat×Arg)) (id:Id) (o:Obj),(id,o)∈Zcb l->∃k a,(k,a)∈l/\id=(0,k,0)/\a.o=some o
 | [],id,o,h=>by grind[Zcb]
 |(k,a)::l,id,o,h=>by
  have d:(id,o)∈Zcb l->∃c b,(c,b)∈(k,a)::l/\id=(0,c,0)/\b.o=some o:=fun h=>by obtain⟨c,b,q1,e⟩:=Zgr l id o h;grind
  grind[Zcb]
section
variable {C:Ctx} {X:Nat->Prop} {ρ ρ':Id->Option Lay} {S S':Fz} {st:St} {tm:Array Value} {w:World}
theorem ZbP (h:Rep C X ρ S st tm w) (hS:∀b c,S b c->S' b c) {L:Lay} {o:Obj} {a:Arg} {fs:List Id} (ha:Zag st o=some (a,fs)) (hfs:∀f∈fs,∀L b,ρ f=some L->L.blk=some b->∀c,inL (st.objs f) L c->S' b c) (hr:Zp w S ρ L o):
  ∃o',a.o=some o'/\o≠ .gone/\Zp w S' ρ' L o':=by
 have kp:ZbM S w w:= .refl S w;cases o with
 |box ds=>
  simp only[Zag]at ha;split at ha;rotate_left;simp at ha;rename_i cs hcs;simp only[ZnO,ZnP]at ha;obtain⟨rfl,rfl⟩:=ha;obtain⟨q1,q2⟩:=Zh hcs;obtain⟨b,r1,r2,r3,r4⟩:=hr;refine⟨_,rfl,by simp,b,r1,by simp_all,r3,fun j d hd=> ?_⟩;rw[ZnB,ZnM]at hd;obtain⟨c,hc,rfl⟩:=hd;have hj:j < ds.length:=by grind
  obtain⟨v,s1,s2,s3,s4⟩:=r4 j ds[j] (by grind);exact⟨v,s1,s2,s3,.p _ _ (Zaf h.objs hS depth _ _ _ s4 (q2 j ds[j] c (by grind) hc) fun id hid L b=>hfs id (Zob.2 ⟨ds[j],List.getElem_mem _,hid⟩) L b)⟩
 |arr sz es fix=>
  cases fix with
  |true=>grind[Zag]
  |false=>
   simp only[Zag,ZnO,ZnP]at ha;obtain⟨rfl,rfl⟩:=ha;exact⟨_,rfl,by simp,hr.mono (ρ':=ρ) kp hS (fun _ _ h=>h) fun _ _=>rfl⟩
 |map td kv=>
  simp only[Zag,ZnO,ZnP]at ha;obtain⟨rfl,rfl⟩:=ha;exact⟨_,rfl,by simp,hr.mono (ρ':=ρ) kp hS (fun _ _ h=>h) fun _ _=>rfl⟩
 |_=>grind[Zag]
theorem ZeX (h:Rep C X ρ S st tm w) {o:Obj} {a:Arg} {fs:List Id} (b:Zag st o=some (a,fs)):∀f∈fs,∃o,st.objs f=some o/\o≠ .gone:=by
 intro f k;cases o with
 |box l=>
  simp only[Zag]at b;split at b;rotate_left;simp at b;rename_i cs c;simp only[ZnO,ZnP]at b;obtain⟨rfl,rfl⟩:=b;obtain⟨q1,i⟩:=Zh c;obtain⟨d,g,e⟩:=Zob.1 k;obtain⟨j,n,rfl⟩:=Zoc.1 g;exact ZaY depth _ _ (i j l[j] cs[j] (by grind) (by simp_all)) f e
 |arr sz es fix=>
  cases fix<;>simp[Zag]at b;simp_all
 |map td m=>
  grind[Zag]
 |_=>grind[Zag]
theorem Zld {m:RM} {d:D} {x:RE} (a:ZiS st m d=some x):∀f∈x.fs,∃o,st.objs f=some o/\o≠ .gone:=by
 intro f k;unfold ZiS at a;split at a
 ·grind[ZaY]
 ·grind
 ·split at a;rotate_left;simp at a;rename_i i e;split at a;rotate_left;simp at a;rename_i cs b;cases a;obtain⟨q1,h⟩:=Zh b;obtain⟨d,g,c⟩:=Zob.1 k;obtain⟨j,l,rfl⟩:=Zoc.1 g;exact ZaY depth _ _ (h j i[j] cs[j] (by grind) (by simp_all)) f c
 all_goals grind
end
section
variable {C:Ctx} {r:Fm}
theorem ZiA {fn:Func} {k:List Item} {st:St} {ret0 ret:Ret} {ps:List Bool} (e:Exit) (he:e= .normal\/e= .ret) (ms:List RM) (outs:List Nat) (hE:Zl C.E) (hr:Znb C.E st fn.results.toList ms outs=some (ret0,ps)) (hre:ret0=ret) (hp:Zmc ps) (hds:r.ds=[])
  (hX:∀j,¬Xof k j)
  (harr:∀(a:Act) (w:World) (b:Frame) (k0:List Go.Item) (cs:List Frame),b.roundOf=r.r->ArrivesIn (Machine.fenced C.E.prog (Zcz r.r)) C.E.prog (lone (b.atR a (k.map conc++k0)) cs w) b k0 cs e a w):AWP C r (ZiQ C fn ret) k st:=by
 subst hre;intro ρ S a w hrep hd b k0 cs hb;refine⟨e,a,w,⟨he,by simp_all, ?_⟩,harr a w b k0 cs hb⟩;unfold Znb at hr;split at hr;rotate_left;simp at hr;rename_i ds hds';split at hr;rotate_left;simp at hr;rename_i hlen;split at hr;rotate_left;simp at hr;rename_i res os hres hos;dsimp only at hr;split at hr;rotate_left;simp at hr;rename_i hok;simp only[Znu,ZnV]at hok;obtain⟨hpi,hview⟩:=hok;simp only[ZnO,ZnP]at hr;obtain⟨rfl,rfl⟩:=hr;obtain⟨d1,d2⟩:=Zh hds';obtain⟨r1,r2⟩:=Zh hres;obtain⟨o1,o2⟩:=Zh hos;have hv:∀j:Nat,∃v,∀rv d,fn.results[j]? =some rv->ds[j]? =some d->(match rv with | .tmp t=>pure (a.tmps.getD t undef) | .cell ad t=>do loadVar t (<-asAddr (a.tmps.getD ad undef)):Sem Value).run C.E.prog w= .ok v w/\RelD w S ρ v d:=by
  intro j;cases hq:fn.results[j]? with
  |none=>simp_all
  |some rv=>
   have hj:j < ds.length:=by grind
   obtain⟨v,q1,q2⟩:=Zle (a:=a) hE hrep (d2 j rv ds[j] (by simp_all) (by grind));refine⟨v,fun rv' d h1 h2=> ?_⟩;grind
 let f:Nat->Value:=fun j=>(hv j).choose
 have hf:∀(j:Nat) rv d,fn.results[j]? =some rv->ds[j]? =some d->_:=fun j=>(hv j).choose_spec
 let vs:List Value:=(List.range fn.results.size).map f;have hvl:vs.length=fn.results.size:=by grind
 have hvj:∀(j:Nat) v,vs[j]? =some v->j < fn.results.size/\v=f j:=by
  intro j v hv;have hj:j < fn.results.size:=by grind
  simp[vs,hj]at hv;simp_all
 have hrun:=Zhk (P:=C.E.prog) (fn:=fn) (tm:=a.tmps) (w:=w) hvl (fun j rv v hrv hv=>by
  obtain⟨hj,rfl⟩:=hvj j v hv;have hj':j < ds.length:=by grind
  exact(hf j rv ds[j] hrv (by grind)).1)
 have hlr:ds.length=fn.results.size:=by omega
 have hrl:res.length=fn.results.size:=by grind
 let fs:=res.flatMap (·.fs)++os.flatMap (·.2);have hfs:∀g∈fs,∃o,st.objs g=some o/\o≠ .gone:=by
  intro g hg;rcases Zn7.1 hg with hg |hg
  ·obtain⟨x,hx,hgx⟩:=Zob.1 hg;obtain⟨j,hj,rfl⟩:=Zoc.1 hx;have hz:j < (ms.zip ds).length:=by omega
   exact Zld (r2 j (ms.zip ds)[j] res[j] (by grind) (Zn2 hj)) g hgx
  ·obtain⟨x,hx,hgx⟩:=Zob.1 hg;obtain⟨j,hj,rfl⟩:=Zoc.1 hx;have hz:j < outs.length:=by omega
   have:=o2 j outs[j] os[j] (Zn2 hz) (Zn2 hj);unfold Zne at this;split at this;rotate_left;simp at this;grind[ZeX]
 obtain⟨S',hSS,hFS,hrep',_⟩:=hrep.freeze fs hfs;let pi:=ZiP 0 res++outs.map fun k=>(((0,k,0):Id),((0,k,0):Id))
 have hn1:ZaA (pi.map (·.1))=true:=by grind[Zgp]
 have hrho:∀{new old:Id},(new,old)∈pi->Z2 pi ρ new=ρ old:=fun hm=>by simp only[Z2,Zy hn1 hm]
 have hsel:∀new o',(ZbY ⟨res.map (·.rv),os.map (·.1)⟩).objs new=some o'->∃old o,(new,old)∈pi/\st.objs old=some o/\o≠ .gone/\o.soft=false/\(o'.isOwn=true->o'=o)/\∀L,ρ old=some L->Zp w S ρ L o->Zp w S' (Z2 pi ρ) L o':=by
  intro new o' ho;have hm:=Z1 ho;rcases Zn7.1 hm with hm |hm
  ·obtain⟨j,x,q1,q2,q3⟩:=Zh6 0 _ _ _ hm;rw[Zok]at q2;rw[ZnB,ZnM]at q1;obtain⟨re,q1,rfl⟩:=q1;have hj:j < res.length:=(ZnA.1 q1).1;have hz:j < (ms.zip ds).length:=by omega
   have hre:=r2 j (ms.zip ds)[j] re (by grind) q1;generalize (ms.zip ds)[j]=md at hre;obtain⟨m,d⟩:=md;have hin:∀id,re.id=some id->(new,id)∈pi:=fun id hid=>Zn8 _ (by rw[q2];have:=Zfz 0 res j re id q1 hid;grind)
   have hfsm:∀g∈re.fs,∀L b,ρ g=some L->L.blk=some b->∀c,inL (st.objs g) L c->S' b c:=fun g hg=>hFS g (Zn8 _ (Zob.2 ⟨re,Zoe q1,hg⟩))
   dsimp only at hre;unfold ZiS at hre;split at hre
   ·split at hre;rotate_left;simp at hre;cases hre;grind[RV.o]
   ·rename_i id len;split at hre;rotate_left;simp at hre;rename_i sz es hlk;cases hre;simp only[RV.o,ZnO]at q3;subst q3;exact⟨id,_,hin id rfl,hlk,by simp,rfl,fun _=>rfl,fun L _ hr=>hr.mono (ρ':=ρ) (.refl _ _) hSS (fun _ _ h=>h) fun _ _=>rfl⟩
   ·rename_i id;split at hre;rotate_left;simp at hre;rename_i dsb hlk;split at hre;rotate_left;simp at hre;rename_i csb hcs;cases hre;simp only[RV.o,ZnO]at q3;subst q3;refine⟨id,_,hin id rfl,hlk,by simp,rfl,fun h=>by simp[Obj.isOwn]at h,fun L hL _=> ?_⟩;obtain⟨L',hL',hro⟩:=hrep.objs id _ hlk (by simp);rw[hL]at hL';obtain rfl:=ZnN hL';obtain⟨o',p1,_,p3⟩:=ZbP (ρ':=Z2 pi ρ) hrep hSS (a:= .box csb) (fs:=dsb.flatMap fun d=>d.ids st.objs depth) (by simp[Zag,hcs]) hfsm hro;simp only[Arg.o,ZnO]at p1;subst p1;exact p3
   ·rename_i id;split at hre;rotate_left;simp at hre;rename_i td kv hlk;cases hre;simp only[RV.o,ZnO]at q3;subst q3;exact⟨id,_,hin id rfl,hlk,by simp,rfl,fun _=>rfl,fun L _ hr=>hr.mono (ρ':=ρ) (.refl _ _) hSS (fun _ _ h=>h) fun _ _=>rfl⟩
   ·cases hre;simp[RV.o]at q3
   ·split at hre;rotate_left;simp at hre;rename_i pre id len post _;split at hre
    ·rename_i sz es hlk;cases hre;simp only[RV.o,arrO,ZnO]at q3;subst q3;exact⟨id,_,hin id rfl,hlk,by simp,rfl,fun _=>rfl,fun L _ hr=>hr.mono (ρ':=ρ) (.refl _ _) hSS (fun _ _ h=>h) fun _ _=>rfl⟩
    ·rename_i sz c kk es lo hlk;cases hre;simp only[RV.o,arrO,ZnO]at q3;subst q3;exact⟨id,_,hin id rfl,hlk,by simp,rfl,fun _=>rfl,fun L _ hr=>hr.mono (ρ':=ρ) (.refl _ _) hSS (fun _ _ h=>h) fun _ _=>rfl⟩
    ·simp at hre
   grind
  ·obtain⟨kk,aa,q1,q2,q3⟩:=Zgr _ _ _ hm;obtain⟨x,hx,hxe⟩:=Zod.1 q1;obtain⟨j,hj,rfl⟩:=Zoc.1 hx;have hz:j < outs.length:=by omega
   have hout:=o2 j outs[j] os[j] (Zn2 hz) (Zn2 hj);unfold Zne at hout;split at hout;rotate_left;simp at hout;rename_i o hlk;split at hout;rotate_left;simp at hout;rename_i a' fs' ha';have e1:=ZnN hout;rw[<-e1]at hxe;simp only[ZnP]at hxe;obtain⟨rfl,rfl⟩:=hxe;obtain⟨L,hL,hro⟩:=hrep.objs _ o hlk (ZbP (ρ':=Z2 pi ρ) (S':=fun _ _=>True) hrep (fun _ _ _=>trivial) ha' (fun _ _ _ _ _ _ _ _=>trivial) (hrep.objs _ o hlk (by intro hg;subst hg;simp[Zag]at ha')).choose_spec.2).choose_spec.2.1;have hfsm:∀g∈fs',∀L b,ρ g=some L->L.blk=some b->∀c,inL (st.objs g) L c->S' b c:=fun g hg=>hFS g (Zn9 _ (Zob.2 ⟨os[j],List.getElem_mem hj,by rw[<-e1];exact hg⟩))
   obtain⟨o2',p1,p2,p3⟩:=ZbP (ρ':=Z2 pi ρ) hrep hSS ha' hfsm hro;rw[p1]at q3;obtain rfl:=ZnN q3;refine⟨(0,outs[j],0),o,Zn9 _ (Zod.2 ⟨outs[j],List.getElem_mem hz,by rw[q2]⟩),hlk,p2,objArg_soft ha',fun h=>(by rw[Arg.o_own p1]at h;simp at h),fun L' hL' _=> ?_⟩;rw[hL]at hL';obtain rfl:=ZnN hL';exact p3
 refine⟨vs.toArray,Z2 pi ρ,S',hrun,by simp[hvl,hrl],hrep'.select (C':=⟨C.E.at vs.toArray.size,C.W,C.Lt,C.S0,C.lays⟩) hpi ?_ rfl rfl hrep'.quiet hrep'.grow hrep'.frame hrep'.s0 (fun new old o L b _ q2 q3 q4 q5=>(hrep'.own old o L b q2 q3 q4 q5).2.1) (fun _=>rfl) rfl (by decide) ?_ hrep'.sOut ?_ (fun new sz c k es lo out ho=>⟨fun old hm=> ?_,ZnJ _,fun _ h=>h⟩)⟩
 rotate_right
 ·obtain⟨old',o,m1,m2,_,_,m3,_⟩:=hsel new _ ho;have e:=Zy hn1 hm;rw[Zy hn1 m1]at e;obtain rfl:=ZnN e;rw[Zu,m2,<-m3 rfl]
 ·intro new o' ho;obtain⟨old,o,m1,m2,m3,ms,_,m4⟩:=hsel new o' ho;exact⟨old,o,m1,by rw[Zu];exact m2,m3,fun hs=>absurd hs (by simp[ms]),fun L hL _=>by obtain⟨L',hL',hr⟩:=hrep.objs old o m2 m3;rw[hL]at hL';obtain rfl:=ZnN hL';exact m4 L hL hr⟩
 ·intro k';show RelD w S' (Z2 pi ρ) (vs.toArray.getD k' undef) (Zaz D.dead (ZkW 0 (res.map (·.rv))) k');rcases ZaS D.dead (ZkW 0 (res.map (·.rv))) k' with hk |hk
  ·rw[hk];exact .dead _
  ·obtain⟨j,x,q1,q2,q3⟩:=Zh8 0 _ _ _ hk;rw[Zok]at q2 q3;subst q2;rw[q3];rw[ZnB,ZnM]at q1;obtain⟨re,q1,rfl⟩:=q1;have hj:k' < res.length:=(ZnA.1 q1).1;have hz:k' < (ms.zip ds).length:=by omega
   have hdj:k' < ds.length:=by omega
   have hre:=r2 k' (ms.zip ds)[k'] re (by simp only[Zn2 hz]) q1;simp only[List.getElem_zip]at hre;have hjr:k' < fn.results.size:=by omega
   have hrel:RelD w S ρ (f k') ds[k']:=(hf k' fn.results[k'] ds[k'] (by simp[hjr]) (by simp[hdj])).2;have hval:vs.toArray.getD k' undef=f k':=by simp[vs,hjr]
   rw[hval];have hin:∀id,re.id=some id->((1,k',0),id)∈pi:=fun id hid=>Zn8 _ (by have:=Zfz 0 res k' re id q1 hid;rwa [Zok]at this)
   have hfsm:∀g∈re.fs,∀L b,ρ g=some L->L.blk=some b->∀c,inL (st.objs g) L c->S' b c:=fun g hg=>hFS g (Zn8 _ (Zob.2 ⟨re,Zoe q1,hg⟩))
   have hcm:∀c∈re.cond,c=true:=fun c hc=>Zf2 hp c (Zob.2 ⟨re,Zoe q1,hc⟩)
   have hvw:=hview re (Zoe q1);generalize ds[k']=d at hre hrel;generalize f k'=v at hrel|-
   generalize ms[k']=m at hre;have kp:ZbM S w w:= .refl S w;unfold ZiS at hre;split at hre
   ·split at hre;rotate_left;simp at hre;rename_i x hx;cases hre;exact .p _ _ (Zaf hrep.objs hSS depth _ _ _ hrel hx hfsm)
   ·rename_i id len;split at hre;rotate_left;simp at hre;rename_i sz es hlk;cases hre;have hle:len=es.length:=of_decide_eq_true (hcm _ ZnE);subst hle;cases hrel with
    |sl _ _ _ cap ad L hL hl hm hcp ha=>exact .sl _ 0 _ cap ad L (by rw[hrho (hin id rfl)];exact hL) hl hm hcp ha
   ·rename_i id;split at hre;rotate_left;simp at hre;split at hre;rotate_left;simp at hre;cases hre;cases hrel with
    |ptr _ _ _ L b hL hi hb=>exact .ptr _ 0 0 L b (by rw[hrho (hin id rfl)];exact hL) hi hb
   ·rename_i id;split at hre;rotate_left;simp at hre;cases hre;cases hrel with
    |map _ L b hL hb=>exact .map _ L b (by rw[hrho (hin id rfl)];exact hL) hb
   ·rename_i kk off len;cases hre;simp only[Zf6,ZnY]at hvw;cases hrel with
    |sl _ _ _ cap ad L hL hl hm hcp ha=>exact .sl _ off _ cap ad L (by rw[hrho (Zn9 _ (Zod.2 ⟨kk,hvw,rfl⟩))];exact hL) hl hm hcp ha
   ·split at hre;rotate_left;simp at hre;rename_i pre id len post hsp;split at hre
    ·rename_i sz es hlk;cases hre;have hle:len=es.length:=of_decide_eq_true (hcm _ ZnE);subst hle;rw[Zgc hsp]at hrel;exact hrel.aown hSS (hrho (hin id rfl))
    ·rename_i sz c kk es lo hlk;cases hre;have hle:len=es.length:=of_decide_eq_true (hcm _ ZnE);subst hle;rw[Zgc hsp]at hrel;exact hrel.aown hSS (hrho (hin id rfl))
    ·simp at hre
   ·simp at hre
 ·intro k L hk hn;unfold Z2 at hn|-
  cases hq:Zg pi (0,k,0)with
  |none=>rw[hq]at hn;simp at hn
  |some old=>
   rw[hq]at hn;have hm:=Z1 hq;have:old=(0,k,0):=by
    rcases Zn7.1 hm with hm |hm
    ·exfalso;have:∀(n:Nat) (l:List RE) (a b:Id),(a,b)∈ZiP n l->a.1=1:=by
      intro n l
      induction l generalizing n with
      |nil=>intro a b h;simp[ZiP]at h
      |cons x l ih=>
       intro a b h;unfold ZiP at h;split at h
       ·rcases ZnD.1 h with h |h
        ·simp only[ZnP]at h;rw[h.1]
        ·exact ih _ a b h
       ·exact ih _ a b h
     have:=this _ _ _ _ hm;simp at this
    ·obtain⟨j,_,he⟩:=Zod.1 hm;simp only[ZnP]at he;rw[<-he.2];have:=he.1.2.1;rw[this]
   subst this;exact hrep'.lay k L hk hn
end
end Eng
namespace Eng
open Go
section
variable {C:Ctx} {r:Fm}
theorem Zm1 {fn:Func} {k:List Item} {d:St} {ret:Ret} (ret0:Ret) (c:List Bool) (ms:List RM) (outs:List Nat) (e:Zl C.E) (i:Znb C.E d fn.results.toList ms outs=some (ret0,c)) (a:ret0=ret) (f:Zmc c) (b:r.ds=[]):
  AWP C r (ZiQ C fn ret) (.c .ret::k) d:=
 ZiA .ret (.inr rfl) ms outs e i a f b (fun _ h=>h.elim) fun _ _ _ k0 _ _=>
  ⟨fun g=>⟨_,.one (Zz _ _ _) (stepR_ret g)⟩,fun _=>⟨k.map conc++k0,.refl _⟩⟩
theorem Zm2 {fn:Func} {d:St} {ret:Ret} (ret0:Ret) (c:List Bool) (ms:List RM) (outs:List Nat) (e:Zl C.E) (g:Znb C.E d fn.results.toList ms outs=some (ret0,c)) (a:ret0=ret) (f:Zmc c) (b:r.ds=[]):
  AWP C r (ZiQ C fn ret) [] d:=
 ZiA .normal (.inl rfl) ms outs e g a f b (fun _ h=>h.elim) fun _ _ _ _ _ _=> .refl _
end
inductive AM where
 |p |lend |part |lendr (k:Nat)
 deriving Inhabited
structure AE where
 arg:Arg
 fs:List Id:=[]
 id:Option Id:=none
 cond:List Bool:=[]
 ref:Option Id:=none
def ZdD (a:St) (m:AM) (d:D):Option AE:=
 match m,d with
 | .p,d=>match d.toP a.objs depth with
  |some x=>some {arg:= .p x,fs:=d.ids a.objs depth}
  |none=>none
 | .lend,.ptr id 0 0=>match a.objs id with
  |some (.box ds)=>match Zj (fun d=>d.toP a.objs depth) ds with
   |some cs=>some {arg:= .box cs,fs:=ds.flatMap fun d=>d.ids a.objs depth,id:=some id}
   |none=>none
  |_=>none
 | .lend,.sl id 0 len=>match a.objs id with
  |some (.arr sz es false)=>some {arg:= .arr sz es,id:=some id,cond:=[decide (len=es.length)]}
  |_=>none
 | .lend,.map id=>match a.objs id with
  |some (.map td kv)=>some {arg:= .map td kv,id:=some id}
  |_=>none
 | .part,.sl id off len=>match a.objs id with
  |some (.arr sz es false)=>some {arg:= .part sz es off len,id:=some id}
  |_=>none
 | .lendr k,.ptr id 0 0=>match a.objs id with
  |some (.box [d,.map m])=>match d.toP a.objs depth with
   |some x=>some {arg:= .boxr x k,fs:=id::d.ids a.objs depth,ref:=some m}
   |none=>none
  |_=>none
 | .lendr k,.rp (some x) m=>some {arg:= .boxr x k,ref:=some m}
 |_,_=>none
def Zlt (a:St) (m:Id):Option AE:=match a.objs m with
 |some (.map td kv)=>some {arg:= .hmap td kv,id:=some m}
 |_=>none
def ZlV (b a:List (Option Id)) (ks:List (Option Nat)):Bool:=(ks.zip a).all fun y=>match y.1 with
 |some k=>(match y.2 with |some m=>decide (b[k]? =some (some m)) |none=>false)
 |none=>true
def Zck:D->Option (Nat×List D×List D)
 | .p (.fn f a b)=>some (f,a.map .p,b.map .p)
 | .fn f a b=>some (f,a,b)
 |_=>none
def Zaa:Nat->List AE->List (Id×Id)
 |_,[]=>[]
 |k,x::r=>match x.id with
  |some id=>((0,k,0),id)::Zaa (k+1) r
  |none=>Zaa (k+1) r
def Zds (outs:List (Nat×Arg)) (k:Nat):Obj:=match Zg outs k with
 |some a=>match a.o with
  |some o=>o
  |none=> .gone
 |none=> .gone
theorem ZkL (outs:List (Nat×Arg)) (k:Nat):(Zds outs k).isOwn=false:=by
 unfold Zds;split
 ·split
  ·grind[Arg.o_own]
  ·rfl
 ·rfl
def Zbr (outs:List (Nat×Arg)):Nat->List AE->List (Id×Obj)
 |_,[]=>[]
 |k,x::r=>match x.id with
  |some id=>(id,Zds outs k)::Zbr outs (k+1) r
  |none=>Zbr outs (k+1) r
def RV.at (ep i:Nat) (d:List AE) (j:Nat):RV->Option D
 | .p x=>some (.p x)
 | .own _ es=>some (.sl (ep,i,j) 0 es.length)
 | .box _=>some (.ptr (ep,i,j) 0 0)
 | .map _ _=>some (.map (ep,i,j))
 | .view k c len=>match d[k]? with
  |some a=>match a.id with
   |some id=>some (.sl id c len)
   |none=>none
  |none=>none
 | .aown pre _ es b _=>some (.agg (pre.map .p++ .sl (ep,i,j) 0 es.length::b.map .p))
def Zhj (ep i:Nat) (a:List AE):Nat->List RV->Option (List D)
 |_,[]=>some []
 |j,x::r=>match x.at ep i a j,Zhj ep i a (j+1) r with
  |some d,some ds=>some (d::ds)
  |_,_=>none
def Za1:Nat->List RV->List (Nat×Obj)
 |_,[]=>[]
 |j,x::r=>match x.o with
  |some o=>(j,o)::Za1 (j+1) r
  |none=>Za1 (j+1) r
def Zm9:List D->D
 | [d]=>d
 |ds=> .tup ds
def ZfY (b:St) (i:Nat) (a:List AE) (ret:Ret):Option Eff:=
 match Zhj b.ep i a 0 ret.res with
 |some c=>some {val:=Zm9 c,new:=Za1 0 ret.res,wr:=Zbr ret.outs 0 a,frz:=a.flatMap (·.fs)}
 |none=>none
def ZlX (E:Env) (d:St) (c:Call) (pts:List Nat) (ms:List AM):Option (Nat×List AE):=
 match c.callee with
 | .value f=>match Zck (ev E d.slots 0 f)with
  |some (g,first,caps)=>
   let e:=first++ZY E d.slots c.args.toList pts++caps
   if e.length=ms.length then match Zj (fun x=>ZdD d x.1 x.2) (ms.zip e)with
    |some a=>match Zj (Zlt d) (a.filterMap (·.ref))with
     |some b=>if Zgp (d.freezeL ((a++b).flatMap (·.fs))) (Zaa 0 (a++b)) 1&&(c.args.toList.all ZE)&&ZE f&&ZlV ((a++b).map (·.id)) ((a++b).map (·.ref)) ((a++b).map (·.arg.rk))then some (g,a++b)else none
     |none=>none
    |none=>none
   else none
  |none=>none
 |_=>none
end Eng
