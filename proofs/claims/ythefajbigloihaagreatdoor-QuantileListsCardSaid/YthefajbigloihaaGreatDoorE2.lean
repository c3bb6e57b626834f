/- The engine,text 2:an abstract evaluator of Go code over pure data,proved sound. -/
import Derived.Test.YthefajbigloihaaGreatDoorE1
import Derived.Laws.AppendOwn
import Derived.Laws.IdiomRangeMap
import Derived.Laws.RangeAny
import Derived.CallsIn
set_option linter.unusedVariables false
set_option linter.unusedSimpArgs false
set_option linter.unusedSectionVars false
open Array renaming getElem?_append→ZmT, getElem?_eq_some_iff→Zmp, getElem?_toList→ZmU, mem_iff_getElem→Zmr, mem_toList_iff→Zms, toArray_toList→ZmV
open Bool renaming and_eq_true→Zmt, not_eq_true'→ZmW
open List renaming all_eq_true→ZmX, any_eq_true→ZmY, cons_append→ZmZ, contains_iff_mem→Zm0, eq_nil_of_length_eq_zero→Zm1, flatMap_cons→Zm2, getElem?_append_left→Zm3, getElem?_append_right→Zm4, getElem?_cons_succ→Zm5, getElem?_cons_zero→Zm6, getElem?_eq_getElem→Zmz, getElem?_eq_some_iff→ZmA, getElem?_map→ZmB, getElem?_take→ZmC, length_replicate→Zm7, map_cons→ZmD, mem_append→ZmE, mem_append_left→Zm8, mem_append_right→Zm9, mem_cons→ZmF, mem_cons_of_mem→Zna, mem_cons_self→ZmG, mem_flatMap→ZmH, mem_iff_getElem→Znb, mem_map→Znc, mem_map_of_mem→Znd, mem_of_getElem?→Zne, mem_singleton→ZmI, pairwise_iff_getElem→Znf
open Nat renaming add_mul→ZmK, le_refl→ZmL, mul_le_mul_left→Zng, mul_le_mul_right→ZmM, zero_add→Znh
open Option renaming bind_some→Zni, map_eq_some_iff→ZmP, some.inj→ZmQ, some.injEq→ZmR
open Prod renaming mk.injEq→ZmS
namespace Eng
open Go
section
variable {C:Ctx} {X:Nat→Prop} {ρ:Id→Option Lay} {S:Nat→Prop} {st:St} {a:Act} {w:World} {i:Nat} {o:Oper} {e:Eff}
def flat (sz:Nat) (evs:Nat→Value):Nat→List Value
 |0=>[]
 |n+1=>flat sz evs n++(evs n).cells.toList
theorem Zdj {sz:Nat} {evs:Nat→Value}:∀{n:Nat},(∀j,j < n→(evs j).cells.size=sz)→(flat sz evs n).length=n*sz
 |0,_=>by simp[flat]
 |n+1,h=>by
  have:=Zdj (n:=n) fun j hj=>h j (by omega)
  have h2:=h n (by omega);simp only[flat,List.length_append,this,Array.length_toList,h2,ZmK,Nat.one_mul]
theorem ZhT {sz:Nat} {evs:Nat→Value}:∀{n:Nat},(∀j,j < n→(evs j).cells.size=sz)→∀(j k:Nat) u,j < n→(evs j).cells[k]? =some u→(flat sz evs n)[j*sz+k]? =some u
 |0,_,j,k,u,hj,_=>by omega
 |n+1,h,j,k,u,hj,hu=>by
  have hl:=Zdj (n:=n) fun j hj=>h j (by omega)
  have hk:k < sz:=by have:=(Zmp.1 hu).1;have:=h j hj;omega
  simp only[flat]
  by_cases hjn:j=n
  ·subst hjn;rw[Zm4 (by omega),hl,show j*sz+k - j*sz=k by omega];simpa using hu
  ·have:(j+1)*sz≤n*sz:=ZmM _ (by omega);rw[ZmK,Nat.one_mul]at this;rw[Zm3 (by omega)];exact ZhT (fun j hj=>h j (by omega)) j k u (by omega) hu
theorem Zfv {sz:Nat} {evs:Nat→Value}:∀{n:Nat},(∀j,j < n→(evs j).cells.size=sz)→∀(m:Nat) u,(flat sz evs n)[m]? =some u→∃j k,j < n∧m=j*sz+k∧(evs j).cells[k]? =some u
 |0,_,m,u,hu=>by simp[flat]at hu
 |n+1,h,m,u,hu=>by
  have hl:=Zdj (n:=n) fun j hj=>h j (by omega)
  simp only[flat]at hu
  by_cases hm:m < n*sz
  ·rw[Zm3 (by omega)]at hu;obtain⟨j,k,h1,h2,h3⟩:=Zfv (fun j hj=>h j (by omega)) m u hu;exact⟨j,k,by omega,h2,h3⟩
  ·rw[Zm4 (by omega),hl]at hu;exact⟨n,m - n*sz,by omega,by omega,by simpa using hu⟩
def Src (P:Program) (w:World) (S:Nat→Prop) (sz:Nat) (v:Value) (xs:List Eng.P):Prop:=
 ∃(news:List Value) (evs:Nat→Value),news.length=xs.length*sz∧xs.length≤Zq∧(∀w',(Builtin.lenOf v).run P w'= .ok xs.length w')∧
  (∀n,n≤xs.length→∀w',w'.heap=w.heap→(Builtin.firstCells sz n v).run P w'= .ok (news.take (n*sz)).toArray w')∧(∀u∈news,ZbO u)∧
  (∀j,j < xs.length→(evs j).cells.size=sz∧∀(k:Nat) u,(evs j).cells[k]? =some u→news[j*sz+k]? =some u)∧∀(j:Nat) x,xs[j]? =some x→RelP w S (evs j) x
theorem ZjW {w w':World} (h:w'.heap=w.heap) (x:Addr):w'.cell? x=w.cell? x:=by simp[World.cell?,h]
theorem Z8 {P:Program} {ad:Option Addr} {len cap sz:Nat} {es:List Eng.P} {evs:Nat→Value} (hl:es.length=len) (hm:len≤Zag)
  (hsz:∀i,i < len→(evs i).cells.size=sz)
  (hcell:∀i,i < len→∃b o,ad=some ⟨b,o,none⟩∧∀(j:Nat) v,(evs i).cells[j]? =some v→w.cell? ⟨b,o+i*sz+j,none⟩=some v)
  (hr:∀(i:Nat) x,es[i]? =some x→RelP w S (evs i) x):Src P w S sz (.slice ad len cap) es:=by
 subst hl;have hfl:=Zdj hsz;refine⟨flat sz evs es.length,evs,hfl,by unfold Zag at hm;unfold Zq;omega,fun w'=>by simp[Builtin.lenOf],fun n hn w' hw=> ?_,fun u hu=> ?_,fun j hj=>⟨hsz j hj,fun k u hu=>ZhT hsz j k u hj hu⟩,hr⟩
 ·cases ad with
  |none=>
   have h0:es.length=0:=by
    rcases Nat.eq_zero_or_pos es.length with h |h
    ·exact h
    ·obtain⟨b,o',hb,_⟩:=hcell 0 h;simp at hb
   have:n=0:=by omega
   subst this;simp[Builtin.firstCells]
  |some ad=>
   have hlen:((flat sz evs es.length).take (n*sz)).length=n*sz:=by have:n*sz≤es.length*sz:=ZmM _ hn;simp;omega
   refine run_firstCells_some (P:=P) w' sz n ad es.length cap _ hlen fun m u hu=> ?_
   rw[ZmC]at hu;split at hu;rotate_left;simp at hu;obtain⟨j,k,hj,rfl,hk⟩:=Zfv hsz m u hu;obtain⟨b,o',hb,hc⟩:=hcell j hj;cases hb;rw[Z4,ZjW hw,←Nat.add_assoc];exact hc k u hk
 ·obtain⟨m,hm',rfl⟩:=Znb.1 hu;obtain⟨j,k,hj,_,hk⟩:=Zfv hsz m _ (Zmz hm');have h1:=hr j es[j] (by simp[hj]);have h2:=h1.size;have hkl:k < es[j].cells.length:=by have:=(Zmp.1 hk).1;omega
  exact(h1.cell hk (Zmz hkl)).2
theorem Zds {P:Program} {lk:Id→Option Obj} (hob:Objs w S ρ lk) {v:Value} {x:D} {sz:Nat} {xs:List Eng.P} (hx:RelD w S ρ v x) (hs:Zcz lk sz x=some xs):Src P w S sz v xs:=by
 unfold Zcz at hs;split at hs
 ·
  rename_i s;split at hs;rotate_left;simp at hs;rename_i h1;subst h1;cases hs;obtain⟨rfl,hl⟩:=hx.of_p.str_inv;refine⟨s.map fun b=>Value.int .u8 b.toNat,fun j=> .int .u8 (s.getD j 0).toNat,by simp[ZaF],by simpa[ZaF]using hl,fun w'=>by simp[Builtin.lenOf,ZaF,ZaY],fun n hn w' _=> ?_,fun u hu=> ?_,fun j hj=>⟨rfl,fun k u hu=> ?_⟩,fun j x hx=> ?_⟩
  ·simp only[ZaF,List.length_map]at hn;simp[Builtin.firstCells]
  ·obtain⟨b,_,rfl⟩:=Znc.1 hu;rfl
  ·cases k with
   |succ k=>simp[Value.cells]at hu
   |zero=>
    simp only[ZaF,List.length_map]at hj;simp[Value.cells]at hu;subst hu;simp[hj]
  ·have hj:j < s.length:=by have:=(ZmA.1 hx).1;simpa[ZaF]using this
   simp[ZaF,hj]at hx;subst hx;have hsj:(s.getD j 0)=s[j]:=by simp[hj]
   dsimp only;rw[hsj];have hb:=s[j].toNat_lt;refine .int .u8 _ ?_ ?_<;>simp[IntKind.min,IntKind.max,IntKind.signed,IntKind.bits]<;>omega
 ·split at hs;rotate_left;simp at hs;rename_i sz' es ht;split at hs;rotate_left;simp at hs;rename_i hsz';subst hsz';cases hs;cases hx with
  |p v x h=>
   simp at ht;subst ht;cases h with
   |sl ad len cap sz es evs hl hm hc hsz hcell hr=>
    exact Z8 hl hm hsz (fun i hi=>let ⟨b,o,h1,_,h2⟩:=hcell i hi;⟨b,o,h1,h2⟩) hr
  |val v=>simp[D.toP]at ht
  |nils sz=>
   simp at ht;obtain⟨rfl,rfl⟩:=ht;exact Z8 (evs:=fun _=>default) rfl (by simp) (by simp) (by simp) (by simp)
  |clip ad n sz es h=>
   simp at ht;obtain⟨rfl,rfl⟩:=ht;cases h with
   |sl ad len cap sz es evs hl hm hc hsz hcell hr=>
    exact Z8 hl hm hsz (fun i hi=>let ⟨b,o,h1,_,h2⟩:=hcell i hi;⟨b,o,h1,h2⟩) hr
  |sl id off len cap ad L hL hl hm' hc ha=>
   rw[Zbh]at ht;split at ht;rotate_left;simp at ht;rename_i sz es fix hlk;simp only[ZmR,Eng.P.sl.injEq]at ht;obtain⟨rfl,rfl⟩:=ht;obtain⟨L',hL',hsz,hel,hlc,hlm,hbn,hcells,evs,hev,hcell,hrel⟩:=hob id _ hlk (by simp);rw[hL]at hL';obtain rfl:=ZmQ hL';refine Z8 (evs:=fun i=>evs (off+i)) (by simp;omega) (by omega) (fun i hi'=>hev _ (by omega)) (fun i hi'=> ?_) (fun i x hx=> ?_)
   ·rcases ha with h0 |⟨b,hb,rfl,hcap⟩
    ·omega
    ·refine⟨b,_,rfl,fun j u hu=> ?_⟩;have:=hcell b hb (off+i) j u (by omega) hu;rw[ZmK]at this;rw[hsz,←this];congr 2;omega
   ·rw[ZmC]at hx;split at hx;rotate_left;simp at hx;rw[List.getElem?_drop]at hx;exact hrel _ x hx
  |dead v=>simp[D.toP]at ht
  |undef=>simp[D.toP]at ht
  |anyb b=>simp[D.toP]at ht
  |agg vs cs hl h1 h=>simp[D.toP]at ht
  |tup vs cs hl h=>simp[D.toP]at ht
  |ptr id i j L b hL hi hb=>
   simp only[D.toP]at ht;split at ht
   ·split at ht<;>simp at ht
   ·simp at ht
   ·simp at ht
  |map id L b hL hb=>
   rw[Zbi]at ht;split at ht<;>simp at ht
  |it id L b hL hb=>simp[D.toP]at ht
  |fn f fs cs a b hf hc h h'=>
   simp only[D.toP]at ht;split at ht<;>simp at ht
theorem Zca {P:Program} {t u ty el:TypeId} {te:TI} {ds:TypeDesc} {E:Env} (hE:Zk E) (hP:E.prog=P) (ht:P.underlying t=some (.slice el)) (hte:E.ty el=some te) (hu:P.underlying u=some ds) (hds:∀k,ds≠ .int k)
  {b o sLen sCap:Nat} {x:Value} {news:List Value} {m:Nat} (hlo:∀w',(Builtin.lenOf x).run P w'= .ok m w') (hf:(Builtin.firstCells te.size m x).run P w= .ok news.toArray w)
  (hroom:sLen+m≤sCap) (hc:∀j,j < news.length→(w.cell? ⟨b,o+sLen*te.size+j,none⟩).isSome=true) (hz:∀j,j < news.length→w.frozen? ⟨b,o+sLen*te.size+j,none⟩=false) (h1:∀u∈news,u.oneCell'=true):
  (Builtin.append_ #[t,u] ty #[.slice (some ⟨b,o,none⟩) sLen sCap,x]).run P w= .ok (.slice (some ⟨b,o,none⟩) (sLen+m) sCap) (w.setCells b (o+sLen*te.size) news):=by
 subst hP;have hszr:∀w,(Go.sizeOf el).run E.prog w= .ok te.size w:=ZL hE hte;have hst:=run_storeCells_cells (P:=E.prog) b (o+sLen*te.size) news 0 w (by simpa using hc) (by simpa using hz) h1;simp only[Nat.add_zero]at hst;have hint:(match ds with | .int _=>true |_=>false)=false:=by cases ds<;>first |rfl |exact absurd rfl (hds _)
 simp[Builtin.append_,Za ht,Za hu,hszr,hint,hlo,hroom,hf,Z4,hst]
theorem Zbl {P:Program} {t u ty el:TypeId} {te:TI} {ds:TypeDesc} {E:Env} (hE:Zk E) (hP:E.prog=P) (ht:P.underlying t=some (.slice el)) (hte:E.ty el=some te) (hu:P.underlying u=some ds) (hds:∀k,ds≠ .int k)
  {x:Value} {ad:Option Addr} {sCap:Nat} (hlo:∀w',(Builtin.lenOf x).run P w'= .ok 0 w') (hf:(Builtin.firstCells te.size 0 x).run P w= .ok #[] w):
  (Builtin.append_ #[t,u] ty #[.slice ad 0 sCap,x]).run P w= .ok (.slice ad 0 sCap) w:=by
 subst hP;have hszr:∀w,(Go.sizeOf el).run E.prog w= .ok te.size w:=ZL hE hte;have hint:(match ds with | .int _=>true |_=>false)=false:=by cases ds<;>first |rfl |exact absurd rfl (hds _)
 cases ad with
 |none=>simp[Builtin.append_,Za ht,Za hu,hszr,hint,hlo,hf]
 |some ad=>simp[Builtin.append_,Za ht,Za hu,hszr,hint,hlo,hf,storeCells]
theorem ZbM {P:Program} {t u ty el:TypeId} {te:TI} {ds:TypeDesc} {E:Env} (hE:Zk E) (hP:E.prog=P) (ht:P.underlying t=some (.slice el)) (hte:E.ty el=some te) (hu:P.underlying u=some ds) (hds:∀k,ds≠ .int k)
  {ad:Option Addr} {sLen sCap:Nat} {x:Value} {olds news:List Value} {m:Nat} (hlo:∀w',(Builtin.lenOf x).run P w'= .ok m w') (hf:∀w',w'.heap=w.heap→(Builtin.firstCells te.size m x).run P w'= .ok news.toArray w')
  (hfo:∀w',w'.heap=w.heap→(Builtin.firstCells te.size sLen (.slice ad sLen sCap)).run P w'= .ok olds.toArray w')
  (hg:sCap < sLen+m) (h63:sLen+m≤Zq) (hfit:(sLen+m)*te.bytes≤ZO):
  ∃(rest:Array Value),rest.size=(grownCap w (sLen+m) sCap el - (sLen+m))*te.size∧
  (Builtin.append_ #[t,u] ty #[.slice ad sLen sCap,x]).run P w=
   .ok (.slice (some ⟨w.heap.size,0,none⟩) (sLen+m) (grownCap w (sLen+m) sCap el)) (w.drew.alloc (.cells (olds.toArray++news.toArray++rest) el)):=by
 subst hP;obtain⟨ii,dd,z,hti⟩:=hE.is hte;have hszr:∀w,(Go.sizeOf el).run E.prog w= .ok te.size w:=ZL hE hte;have hint:(match ds with | .int _=>true |_=>false)=false:=by cases ds<;>first |rfl |exact absurd rfl (hds _)
 have hn:¬(sLen+m≤sCap):=by omega
 have h63':¬(9223372036854775807 < ((sLen:Int)+(m:Int))):=by unfold Zq at h63;omega
 have h48:=growslice_fits hg hfit;have h48':¬(281474976710656 < Builtin.nextslicecap (sLen+m) sCap*ii.bytes):=by rw[hti.bytes];omega
 have hz:∀w,(zeroValue el).run E.prog w= .ok z w:=fun w=>Z1 hti.info hti.zero w
 have hzs:z.cells.size=te.size:=by have:=(Zde hti.zs).1;simp at this;rw[this];exact hti.zl
 refine⟨Builtin.zeroCells z.cells (grownCap w (sLen+m) sCap el - (sLen+m)),by rw[size_zeroCells,hzs], ?_⟩;have hf':=hf w.drew rfl;have hfo':=hfo w.drew rfl;simp[Builtin.append_,Za ht,Za hu,hszr,hint,hlo,hn,Zy hti.info,h63',h48',Question.forced,hf',hfo',hz,newRow,grownCap];congr 2;apply Array.ext';simp[List.append_assoc]
def ZgE (Pg:Program) (w:World) (S:Nat→Prop) (t u el:TypeId) (te:TI) (x:Value) (xs:List P):Prop:=
 ∃(news:List Value) (evs:Nat→Value),news.length=xs.length*te.size∧xs.length≤Zq∧(∀u∈news,ZbO u)∧
  (∀j,j < xs.length→(evs j).cells.size=te.size∧∀(k:Nat) u,(evs j).cells[k]? =some u→news[j*te.size+k]? =some u)∧(∀(j:Nat) x,xs[j]? =some x→RelP w S (evs j) x)∧
  (∀(ty:TypeId) (b o sLen sCap:Nat),sLen+xs.length≤sCap→(sLen+xs.length)*te.bytes≤ZO→(∀j,j < news.length→(w.cell? ⟨b,o+sLen*te.size+j,none⟩).isSome=true)→(∀j,j < news.length→w.frozen? ⟨b,o+sLen*te.size+j,none⟩=false)→
   (Builtin.append_ #[t,u] ty #[.slice (some ⟨b,o,none⟩) sLen sCap,x]).run Pg w= .ok (.slice (some ⟨b,o,none⟩) (sLen+xs.length) sCap) (w.setCells b (o+sLen*te.size) news))∧
  (xs.length=0→∀(ty:TypeId) (ad:Option Addr) (sCap:Nat),(Builtin.append_ #[t,u] ty #[.slice ad 0 sCap,x]).run Pg w= .ok (.slice ad 0 sCap) w)∧
  ∀(ty:TypeId) (ad:Option Addr) (sLen sCap:Nat) (olds:List Value),(∀w',w'.heap=w.heap→(Builtin.firstCells te.size sLen (.slice ad sLen sCap)).run Pg w'= .ok olds.toArray w')→sCap < sLen+xs.length→sLen+xs.length≤Zq→(sLen+xs.length)*te.bytes≤ZO→
   ∃(rest:Array Value),rest.size=(grownCap w (sLen+xs.length) sCap el - (sLen+xs.length))*te.size∧
   (Builtin.append_ #[t,u] ty #[.slice ad sLen sCap,x]).run Pg w= .ok (.slice (some ⟨w.heap.size,0,none⟩) (sLen+xs.length) (grownCap w (sLen+xs.length) sCap el)) (w.drew.alloc (.cells (olds.toArray++news.toArray++rest) el))
theorem Zj6 {E:Env} (hE:Zk E) {t u el:TypeId} {te:TI} {ds:TypeDesc} (ht:E.prog.underlying t=some (.slice el)) (hte:E.ty el=some te) (hu:E.prog.underlying u=some ds) (hds:∀k,ds≠ .int k) {x:Value} {xs:List P} (hx:Src E.prog w S te.size x xs):
  ZgE E.prog w S t u el te x xs:=by
 obtain⟨news,evs',n1,n2,n3,n4,n5,n6,n7⟩:=hx;have hf:∀w',w'.heap=w.heap→(Builtin.firstCells te.size xs.length x).run E.prog w'= .ok news.toArray w':=fun w' hw'=>by
  have:=n4 xs.length (ZmL _) w' hw'
  rwa [List.take_of_length_le (by omega)]at this
 exact⟨news,evs',n1,n2,n5,n6,n7,fun ty b o sLen sCap h1 _ h2 h3=>Zca hE rfl ht hte hu hds n3 (hf w rfl) h1 h2 h3 n5,
  fun h0 ty ad sCap=>Zbl hE rfl ht hte hu hds (by rw[←h0];exact n3) (by simpa using n4 0 (by simp) w rfl),fun ty ad sLen sCap olds h1 h2 h3 h4=>ZbM hE rfl ht hte hu hds n3 hf h1 h2 h3 h4⟩
theorem Zhn {C:Ctx} (hE:Zk C.E) {t u el:TypeId} {te:TI} {k:IntKind} (ht:C.E.prog.underlying t=some (.slice el)) (hte:C.E.ty el=some te) (hu:C.E.prog.underlying u=some (.int k)) {k':IntKind} {n:Nat} (hm:n≤Zq):
  ZgE C.E.prog w S t u el te (.int k' (n:Int)) (List.replicate n te.zeroP):=by
 obtain⟨z,hz,hzs,hzr⟩:=Zb8 (C:=C) (w:=w) (S:=S) hE hte;obtain⟨ii,dd,z',hti⟩:=hE.is hte;have hszr:∀w,(Go.sizeOf el).run C.E.prog w= .ok te.size w:=ZL hE hte;have hwr:IntKind.wrap .i64 (n:Int)=n:=by unfold Zq at hm;rw[IntKind.wrap_i64];omega
 have hna:¬(n:Int) < 0:=by omega
 have hzl:(Builtin.zeroCells z.cells n).size=n*te.size:=by rw[size_zeroCells,hzs]
 have hcell:∀j,j < n*te.size→(Builtin.zeroCells z.cells n)[j]? =some (z.cells[j % te.size]!):=fun j hj=>by simp[Builtin.zeroCells,hj,hzs]
 have hone:∀v∈(Builtin.zeroCells z.cells n).toList,ZbO v:=fun v hv=>by
  obtain⟨m,hm,rfl⟩:=Zmr.1 (Zms.1 hv);have hm':m < n*te.size:=by omega
  have hpos:0 < te.size:=Nat.pos_of_ne_zero fun e=>by rw[e,Nat.mul_zero]at hm';omega
  have hlt:m % te.size < z.cells.size:=by rw[hzs];exact Nat.mod_lt _ hpos
  have q:=hcell m hm';rw[Array.getElem?_eq_getElem hm]at q;have q:=ZmQ q;rw[q,getElem!_pos z.cells _ hlt];have hsz:=hzr.size;exact(hzr.cell (Array.getElem?_eq_getElem hlt) (Zmz (by omega))).2
 have he:n*te.size=0→Builtin.zeroCells z.cells n= #[]:=fun h=>Array.eq_empty_of_size_eq_zero (by rw[hzl,h])
 have hb:∀{m:Nat},(m+n)*te.bytes≤ZO→¬281474976710656 < (n:Int)*(ii.bytes:Int):=fun {m} h=>by
  have h1:n*te.bytes≤ZO:=Nat.le_trans (ZmM _ (Nat.le_add_left _ _)) h;rw[hti.bytes];have h2:(n:Int)*(te.bytes:Int)=((n*te.bytes:Nat):Int):=by rw[Int.natCast_mul]
  unfold ZO at h1;omega
 refine⟨(Builtin.zeroCells z.cells n).toList,fun _=>z,by simp[hzl],by rw[Zm7];exact hm,hone,fun j hj=>⟨hzs,fun k v hv=> ?_⟩,fun j x hx=> ?_,fun ty b o sLen sCap h1 h2 h3 h4=> ?_,fun h0 ty ad sCap=> ?_,fun ty ad sLen sCap olds h1 h2 h3 h4=> ?_⟩
 ·rw[Zm7]at hj;have hk:k < te.size:=by have:=(Zmp.1 hv).1;rw[←hzs];exact this
  have hlt:j*te.size+k < n*te.size:=by have:(j+1)*te.size≤n*te.size:=ZmM _ hj;rw[ZmK]at this;omega
  rw[ZmU,hcell _ hlt];have:(j*te.size+k) % te.size=k:=by rw[Nat.mul_comm,Nat.mul_add_mod];exact Nat.mod_eq_of_lt hk
  rw[this,getElem!_def,hv]
 ·rw[List.getElem?_replicate]at hx;split at hx;rotate_left;simp at hx;cases hx;exact hzr
 ·rw[Zm7]at h1 h2⊢
  have hst:=run_storeCells_cells (P:=C.E.prog) b (o+sLen*te.size) (Builtin.zeroCells z.cells n).toList 0 w (by simpa using h3) (by simpa using h4) hone;simp only[Nat.add_zero]at hst
  by_cases hn:n*te.size=0
  ·have he:=he hn;rw[he]at hst⊢
   simp only[Array.toList_empty]at hst;simp[Builtin.append_,Za ht,Za hu,hszr,asInt,asIntOf,hwr,hna,Zy hti.info,hb h2,h1,hn,Z4,hst]
  ·simp[Builtin.append_,Za ht,Za hu,hszr,asInt,asIntOf,hwr,hna,Zy hti.info,hb h2,h1,hn,hz,Z4,hst]
 ·rw[Zm7]at h0;subst h0;cases ad with
  |none=>simp[Builtin.append_,Za ht,Za hu,hszr,asInt,asIntOf,IntKind.wrap_i64,Zy hti.info]
  |some ad=>simp[Builtin.append_,Za ht,Za hu,hszr,asInt,asIntOf,IntKind.wrap_i64,Zy hti.info,storeCells]
 ·rw[Zm7]at h2 h3 h4⊢
  have hn:¬(sLen+n≤sCap):=by omega
  have h63':¬(9223372036854775807 < ((sLen:Int)+(n:Int))):=by unfold Zq at h3;omega
  have h48:=growslice_fits h2 h4;have h48':¬(281474976710656 < Builtin.nextslicecap (sLen+n) sCap*ii.bytes):=by rw[hti.bytes];omega
  refine⟨Builtin.zeroCells z.cells (grownCap w (sLen+n) sCap el - (sLen+n)),by rw[size_zeroCells,hzs], ?_⟩;have hfo':=h1 w.drew rfl
  by_cases hn0:n*te.size=0
  ·have he:=he hn0;rw[he];simp[Builtin.append_,Za ht,Za hu,hszr,asInt,asIntOf,hwr,hna,hb h4,hn,hn0,Zy hti.info,h63',h48',Question.forced,hfo',hz,newRow,grownCap]
  ·simp[Builtin.append_,Za ht,Za hu,hszr,asInt,asIntOf,hwr,hna,hb h4,hn,hn0,Zy hti.info,h63',h48',Question.forced,hfo',hz,newRow,grownCap]
def ZgF (n:Nat) (f g:Nat→Value):Nat→Value:=fun j=>if j < n then f j else g (j - n)
section
variable (h:Rep C X ρ S st a.tmps w) (hi:¬X i) (ht:∀d,o.dst=some d→d < C.E.nt) (hlit:o.op.operands.all Zz=true) (hE:Zk C.E)
include h hi ht hlit hE
theorem ZcU {args:Array Operand} {t u el:Nat} {te:TI} (ho:o.op= .call {callee:= .builtin .append,args,argTypes:= #[t,u]}) {ad:Option Addr} {sLen sCap:Nat} {x:Value} (hargs:args.map a.eval= #[.slice ad sLen sCap,x])
  (hut:C.E.prog.underlying t=some (.slice el)) (hte:C.E.ty el=some te) {es xs:List P} (hold:Src C.E.prog w S te.size (.slice ad sLen sCap) es) (hnew:ZgE C.E.prog w S t u el te x xs)
  (hl:es.length=sLen) (hg:sCap < sLen+xs.length) (hfit:(sLen+xs.length)*max te.bytes 1≤ZO) {wr:List (Id×Obj)} (hwr:∀x∈wr,x.2= .gone) (hw0:∀id o,(id,o)∈wr→st.fz id=false∧∃o',st.objs id=some o'∧o'≠ .gone) {c:List Bool}
  (he:e={val:= .sl (st.ep,i,0) 0 (sLen+xs.length),new:=[(0,.arr te.size (es++xs) false)],wr:=wr,cond:=c}):Zt C X st a w i o e:=by
 subst he;obtain⟨olds,evs,o1,o2,o3,o4,o5,o6,o7⟩:=hold;obtain⟨news,evs',n1,n2,n5,n6,n7,rin,rnil,rnew⟩:=hnew;have hb1:(sLen+xs.length)*te.bytes≤ZO:=Nat.le_trans (Zng _ (Nat.le_max_left _ _)) hfit;have hb2:sLen+xs.length≤ZO:=by have:=Zng (sLen+xs.length) (Nat.le_max_right te.bytes 1);omega
 obtain⟨rest,hrs,hrun⟩:=rnew o.type ad sLen sCap olds (fun w' hw'=>by
   have:=o4 sLen (by omega) w' hw'
   rwa [List.take_of_length_le (by rw[o1,hl];exact ZmL _)]at this) hg (by unfold ZO at hb2;unfold Zq;omega) hb1
 have hcap:=grownCap_ge w (sLen+xs.length) sCap el;have hcapm:grownCap w (sLen+xs.length) sCap el≤Zq:=grownCap_le_maxLen w (sLen+xs.length) sCap el (by unfold ZO at hb2;unfold maxLen;omega);generalize grownCap w (sLen+xs.length) sCap el=cap at hrun hrs hcap hcapm;let L:Lay:=⟨some w.heap.size,0,te.size,sLen+xs.length,cap⟩;let w':=w.drew.alloc (.cells (olds.toArray++news.toArray++rest) el);have hw:w'.heap=w.heap.push (.cells (olds.toArray++news.toArray++rest) el):=rfl;let ρ':Id→Option Lay:=upd ρ (st.ep,i,0) (some L);have f:=h.fresh hi;have hρ:∀id L,ρ id=some L→ρ' id=some L:=by
  intro id L' hL;simp only[ρ',upd];split
  ·rename_i hc;subst hc;rw[f]at hL;simp at hL
  ·exact hL
 have hbox:ρ' (st.ep,i,0)=some L:=by simp[ρ',upd]
 have kp:∀b,b < w.heap.size→w'.heap[b]? =w.heap[b]? :=fun b hb=>Zao hw hb
 have hsz:w'.heap.size=w.heap.size+1:=by rw[hw];simp
 have hc:∀j,w'.cell? ⟨w.heap.size,j,none⟩=(olds.toArray++news.toArray++rest)[j]? :=fun j=>by simp[World.cell?,Z2 hw]
 have hfz:∀j,w'.frozen? ⟨w.heap.size,j,none⟩=false:=fun j=>by simp[World.frozen?,Z2 hw]
 have hos:olds.length=sLen*te.size:=by rw[o1,hl]
 have hall:(olds.toArray++news.toArray++rest).size=cap*te.size:=by simp only[Array.size_append,List.size_toArray,hos,n1,hrs];rw[←ZmK,←ZmK];congr 1;omega
 refine⟨_,_,w', ?_,.inl rfl,ρ',h.step (v:= .slice (some ⟨w.heap.size,0,none⟩) (sLen+xs.length) cap) ρ' hi ht (by omega) ⟨rfl,rfl⟩ (fun b hb _=>kp b hb) hw0 hρ ?_ (by simp) ?_ ?_ (fun id o' L hm hg=>absurd (hwr _ hm) hg) ?_⟩
 ·obtain⟨cs,hx⟩:=ZA (a:=a) (w:=w) (P:=C.E.prog) ho;rw[hx,hargs];exact ZfW hrun
 ·intro id hn;simp only[ρ',upd]at hn;split at hn
  ·rename_i hc;subst hc;exact .inr ⟨rfl,rfl⟩
  ·exact .inl hn
 ·intro k o' hm;simp only[ZmI,ZmS]at hm;obtain⟨rfl,rfl⟩:=hm;refine⟨L,hbox,fun b hb=> ?_,fun S' hS hF _=>⟨rfl,by simp[L,hl],hcap,by simp only[L];unfold ZO at hb2;unfold Zag;omega,by simp[L],fun b hb j hj=> ?_,ZgF sLen evs evs',fun j hj=> ?_,fun b hb j k v hj hv=> ?_,fun j x hx=> ?_⟩⟩
  ·simp only[L,ZmR]at hb;subst hb;exact⟨.inl (ZmL _),by omega⟩
  ·simp only[L,ZmR]at hb;subst hb;simp only[L]at hj;have hj':j < (olds.toArray++news.toArray++rest).size:=by omega
   exact⟨⟨_,by simp only[L,Znh,hc];exact Array.getElem?_eq_getElem hj'⟩,by simp[L,hfz]⟩
  ·simp only[L]at hj;unfold ZgF;split
   ·exact(o6 j (by omega)).1
   ·exact(n6 (j - sLen) (by omega)).1
  ·simp only[L,ZmR]at hb;subst hb;simp only[L]at hj;simp only[L,Znh,hc];unfold ZgF at hv;split at hv
   ·rename_i hlt;have:=(o6 j (by omega)).2 k v hv;have hl':j*te.size+k < olds.length:=(ZmA.1 this).1;rw[ZmT,if_pos (by simp;omega),ZmT,if_pos (by simpa using hl')];simpa using this
   ·rename_i hlt;have:=(n6 (j - sLen) (by omega)).2 k v hv;have hl':(j - sLen)*te.size+k < news.length:=(ZmA.1 this).1;have hjs:j*te.size=sLen*te.size+(j - sLen)*te.size:=by rw[←ZmK];congr 1;omega
    rw[ZmT,if_pos (by simp;omega),ZmT,if_neg (by simp;omega)];simp only[List.size_toArray,List.getElem?_toArray];rw[show j*te.size+k - olds.length=(j - sLen)*te.size+k by omega];exact this
  ·have kS:Zcx S w w':=fun b _ hb=>kp b hb
   unfold ZgF
   by_cases hlt:j < sLen
   ·rw[Zm3 (by omega)]at hx;rw[if_pos hlt];exact(o7 j x hx).mono kS hS
   ·rw[Zm4 (by omega),hl]at hx;rw[if_neg hlt];exact(n7 _ x hx).mono kS hS
 ·intro k o1 L1 k' o2 L2 b hm _ hL hb hm' _ hL' hb';simp only[ZmI,ZmS]at hm hm';rw[hm.1,hm'.1]
 ·intro S' _ _ d _;exact .sl _ 0 _ cap _ L hbox (by simp[L]) ⟨by unfold ZO at hb2;unfold Zag;omega,hcapm⟩ hcap (.inr ⟨w.heap.size,rfl,by simp[L],by simp[L]⟩)
theorem Zj4 {args:Array Operand} {t u el:Nat} {te:TI} (ho:o.op= .call {callee:= .builtin .append,args,argTypes:= #[t,u]}) {ad:Option Addr} {sLen sCap:Nat} {x:Value} (hargs:args.map a.eval= #[.slice ad sLen sCap,x])
  (hut:C.E.prog.underlying t=some (.slice el)) (hte:C.E.ty el=some te) {es xs:List P} (hnew:ZgE C.E.prog w S t u el te x xs) {id:Id} {L0:Lay} {fix:Bool}
  (hlk:st.objs id=some (.arr te.size es fix)) (hL0:ρ id=some L0) (hfz:st.fz id=false) (hle:sLen≤L0.len) (hlm:sLen≤sCap) (hcm:sCap≤Zq) (ha:sCap=0∨∃b,L0.blk=some b∧ad=some ⟨b,L0.base,none⟩∧sCap≤L0.cap)
  (hroom:sLen+xs.length≤sCap) (hfit:(sLen+xs.length)*max te.bytes 1≤ZO) {c:List Bool}
  (he:e={val:= .sl (st.ep,i,0) 0 (sLen+xs.length),new:=[(0,.arr te.size (es.take sLen++xs) false)],wr:=[(id,.gone)],cond:=c}):Zt C X st a w i o e:=by
 subst he;obtain⟨news,evs',n1,n2,n5,n6,n7,rin,rnil,rnew⟩:=hnew;have hb1:(sLen+xs.length)*te.bytes≤ZO:=Nat.le_trans (Zng _ (Nat.le_max_left _ _)) hfit;have hb2:sLen+xs.length≤ZO:=by have:=Zng (sLen+xs.length) (Nat.le_max_right te.bytes 1);omega
 obtain⟨L',hL',hsz,hel,hlc,hlm',hbn,hcells,evs,hev,hcell,hrel⟩:=h.objs id _ hlk (by simp);rw[hL0]at hL';obtain rfl:=ZmQ hL';have f:=h.fresh hi;have wrg:∀id' o',(id',o')∈[(id,Obj.gone)]→st.fz id'=false∧∃o',st.objs id'=some o'∧o'≠ .gone:=by intro id' o' hm;simp only[ZmI,ZmS]at hm;obtain⟨rfl,rfl⟩:=hm;exact⟨hfz,_,hlk,by simp⟩
 obtain⟨csb,hx⟩:=ZA (a:=a) (w:=w) (P:=C.E.prog) ho;have key:∀(L:Lay) (w':World),L.len=sLen+xs.length→(w'.heap.size=w.heap.size)→ZS w w'→(∀b,L.blk=some b→L0.blk=some b)→(∀b,L0.blk≠some b→w'.heap[b]? =w.heap[b]?)→
   (Builtin.append_ #[t,u] o.type #[.slice ad sLen sCap,x]).run C.E.prog w= .ok (.slice ad (sLen+xs.length) sCap) w'→
   (∀S' ρ',(∀b,S b→S' b)→ZB w' S' ρ' L (.arr te.size (es.take sLen++xs) false))→
   (∀S' ρ',ρ' (st.ep,i,0)=some L→RelD w' S' ρ' (.slice ad (sLen+xs.length) sCap) (.sl (st.ep,i,0) 0 (sLen+xs.length)))→
   Zt C X st a w i o {val:= .sl (st.ep,i,0) 0 (sLen+xs.length),new:=[(0,.arr te.size (es.take sLen++xs) false)],wr:=[(id,.gone)],cond:=c}:=by
  intro L w' _ hws hqu hLb hkeep hrun hobj hval;let ρ':Id→Option Lay:=upd ρ (st.ep,i,0) (some L);have hρ:∀id L,ρ id=some L→ρ' id=some L:=by
   intro id L' hL;simp only[ρ',upd];split
   ·rename_i hc;subst hc;rw[f]at hL;simp at hL
   ·exact hL
  have hbox:ρ' (st.ep,i,0)=some L:=by simp[ρ',upd]
  refine⟨_,_,w', ?_,.inl rfl,ρ',h.step (v:= .slice ad (sLen+xs.length) sCap) ρ' hi ht (by omega) hqu ?_ wrg hρ ?_ (by simp) ?_ ?_ (fun id o' L hm hg=>by simp only[ZmI,ZmS]at hm;exact absurd hm.2 hg) ?_⟩
  ·rw[hx,hargs];exact ZfW hrun
  ·intro b hb hne;exact hkeep b (hne id _ L0 (ZmI.2 rfl) hL0)
  ·intro id hn;simp only[ρ',upd]at hn;split at hn
   ·rename_i hc;subst hc;exact .inr ⟨rfl,rfl⟩
   ·exact .inl hn
  ·intro k o' hm;simp only[ZmI,ZmS]at hm;obtain⟨rfl,rfl⟩:=hm;refine⟨L,hbox,fun b hb=>⟨.inr ⟨id,_,L0,ZmI.2 rfl,hlk,by simp,hL0,hLb b hb,fun o'' hm=> ?_⟩, ?_⟩,fun S' hS hF _=>hobj S' ρ' hS⟩
   ·simp only[ZmI,ZmS]at hm;exact hm.2
   ·have:=(h.own id _ L0 b hlk (by simp) hL0 (hLb b hb)).1;omega
  ·intro k o1 L1 k' o2 L2 b hm _ hL hb hm' _ hL' hb';simp only[ZmI,ZmS]at hm hm';rw[hm.1,hm'.1]
  ·intro S' _ _ d _;exact hval S' ρ' hbox
 rcases ha with h0 |⟨b,hLb,rfl,hcap⟩
 ·
  have hs0:sLen=0:=by omega
  have hx0:xs.length=0:=by omega
  subst hs0;have hxs:xs=[]:=Zm1 hx0;subst hxs;refine key ⟨none,0,te.size,0,0⟩ w rfl rfl (ZS.refl _) (by simp) (fun _ _=>rfl) ?_ (fun S' ρ' _=> ?_) (fun S' ρ' hL=> ?_)
  ·exact rnil rfl o.type ad sCap
  ·simpa using ZaK te.size false
  ·exact .sl _ 0 _ _ _ _ hL (by simp) ⟨by simp,hcm⟩ (by simp) (.inl h0)
 ·have hcs:∀m,m < news.length→(w.cell? ⟨b,L0.base+sLen*te.size+m,none⟩).isSome=true∧w.frozen? ⟨b,L0.base+sLen*te.size+m,none⟩=false:=fun m hm=>by have hle2:(sLen+xs.length)*te.size≤L0.cap*te.size:=ZmM _ (by omega);rw[ZmK,←n1]at hle2;obtain⟨⟨v,q⟩,q2⟩:=hcells b hLb (sLen*te.size+m) (by omega);rw[show L0.base+sLen*te.size+m=L0.base+(sLen*te.size+m) by omega,q,q2];exact⟨rfl,rfl⟩
  have hrun:=rin o.type b L0.base sLen sCap hroom hb1 (fun m hm=>(hcs m hm).1) (fun m hm=>(hcs m hm).2);clear hte hx rin rnil rnew;generalize te.size=tsz at*
  subst hsz;have hcell':=fun m=>Zac (w:=w) (b:=b) (o:=L0.base+sLen*L0.sz) (vs:=news) (fun m hm=>(hcs m hm).1) m
  have hown:=h.own id _ L0 b hlk (by simp) hL0 hLb;have hnS:¬S b:=hown.2.2.2 hfz;have kS:Zcx S w (w.setCells b (L0.base+sLen*L0.sz) news):=fun b' hb' _=>Zp b _ _ _ b' (fun e=>hnS (e▸hb'))
  refine key ⟨some b,L0.base,L0.sz,sLen+xs.length,sCap⟩ _ rfl (ZV _ _ _ _) (ZS.setCells _ _ _ _) (fun b1 hb1=>by cases hb1;exact hLb) (fun b' hne=>Zp b _ _ _ b' (fun e=>hne (e▸hLb))) hrun (fun S' ρ' hS=> ?_) (fun S' ρ' hL=> ?_)
  ·have hlel:sLen≤es.length:=by omega
   refine⟨rfl,by simp;omega,hroom,by dsimp only;unfold ZO at hb2;unfold Zag;omega,by simp,fun b1 hb1 m hm=> ?_,ZgF sLen evs evs',fun j hj=> ?_,fun b1 hb1 j k v hj hv=> ?_,fun j x hx=> ?_⟩
   ·cases hb1;have hle2:sCap*L0.sz≤L0.cap*L0.sz:=ZmM _ hcap;obtain⟨⟨v,q⟩,q2⟩:=hcells b hLb m (by dsimp only at hm;omega);refine⟨?_,by rw[World.frozen?_setCells];exact q2⟩;dsimp only;rw[hcell'];split
    ·exact⟨_,Zmz (by omega)⟩
    ·exact⟨v,q⟩
   ·dsimp only at hj;unfold ZgF;split
    ·exact hev j (by omega)
    ·exact(n6 (j - sLen) (by omega)).1
   ·cases hb1;dsimp only at hj⊢
    unfold ZgF at hv;rw[hcell'];split at hv
    ·rename_i hlt;have hk:k < L0.sz:=by have:=(Zmp.1 hv).1;have:=hev j (by omega);omega
     have:(j+1)*L0.sz≤sLen*L0.sz:=ZmM _ hlt;rw[ZmK,Nat.one_mul]at this;rw[if_neg (by omega)];exact hcell b hLb j k v (by omega) hv
    ·rename_i hlt;have:=(n6 (j - sLen) (by omega)).2 k v hv;have hl':(j - sLen)*L0.sz+k < news.length:=(ZmA.1 this).1;have hjs:j*L0.sz=sLen*L0.sz+(j - sLen)*L0.sz:=by rw[←ZmK];congr 1;omega
     rw[if_pos (by omega),show L0.base+j*L0.sz+k - (L0.base+sLen*L0.sz)=(j - sLen)*L0.sz+k by omega];exact this
   ·unfold ZgF
    by_cases hlt:j < sLen
    ·rw[Zm3 (by simp;omega),ZmC,if_pos hlt]at hx;rw[if_pos hlt];exact(hrel j x hx).mono kS hS
    ·rw[Zm4 (by simp;omega)]at hx;rw[if_neg hlt];have:j - (es.take sLen).length=j - sLen:=by simp;omega
     rw[this]at hx;exact(n7 _ x hx).mono kS hS
  ·exact .sl _ 0 _ _ _ _ hL (by simp) ⟨by unfold ZO at hb2;unfold Zag;omega,hcm⟩ hroom (.inr ⟨b,rfl,by simp,by simp⟩)
theorem Zhe {args:Array Operand} {ats:Array TypeId} (ho:o.op= .call {callee:= .builtin .append,args,argTypes:=ats}) (hc:Zd C.E st.ep i o.op o.type st.slots st.objs=some e) (hcond:∀q∈e.cond,q=true) (hw:Zek st e=true):Zt C X st a w i o e:=by
 rw[ho]at hc hlit;simp only[Zd,ZI]at hc;unfold Zb6 at hc;split at hc<;>(try simp only[reduceCtorEq]at hc);rename_i t u s x hds hlen;have hats:ats= #[t,u]:=by rw[←ZmV (xs:=ats),hds]
 subst hats;have huse:∃te ds,C.E.elem t=some te∧C.E.prog.underlying u=some ds∧(((∀k,ds≠ .int k)∧ZaH st.objs st.ep i te s x=some e)∨∃(k:IntKind) (n:Nat),ds= .int k∧x= .p (.int .i64 (n:Int))∧Z6 st.objs st.ep i te s (List.replicate n te.zeroP)=some e):=by
  split at hc
  ·rename_i te el hel htu;obtain⟨d,hu,hd⟩:=hE.und htu;exact⟨te,d,hel,hu,.inl ⟨fun k hk=>by subst hk;simp[Zat]at hd,hc⟩⟩
  ·rename_i te hel htu;obtain⟨d,hu,hd⟩:=hE.und htu;exact⟨te,d,hel,hu,.inl ⟨fun k hk=>by subst hk;simp[Zat]at hd,hc⟩⟩
  ·rename_i te k hel htu;obtain⟨d,hu,hd⟩:=hE.und htu;split at hc;rotate_left;simp at hc;rename_i a;split at hc;rotate_left;simp at hc;rename_i h0;have hdk:∃k,d= .int k:=by cases d<;>first |exact⟨_,rfl⟩ |(simp[Zat]at hd)
   obtain⟨k,rfl⟩:=hdk;exact⟨te,_,hel,hu,.inr ⟨k,a.toNat,rfl,by rw[Int.toNat_of_nonneg h0],hc⟩⟩
  ·simp at hc
 obtain⟨te,ds,hel,huu,hc'⟩:=huse;clear hc;have hc:=hc';clear hc';obtain⟨hl,hr⟩:=Zae h args.toList [t,u] (fun x hx=>by simp[Op.operands,Call.operands]at hlit;obtain⟨j,hj,rfl⟩:=Zmr.1 (Zms.1 hx);exact hlit j hj)
 simp only[List.toList_toArray]at hlen hl hr;rw[hlen]at hl hr;obtain⟨el,hty,hte⟩:∃el,(∃sz by_ ze,C.E.ty t=some {d:= .sl el,size:=sz,bytes:=by_,zero:=ze})∧C.E.ty el=some te:=by unfold Env.elem at hel;split at hel;rotate_left;simp at hel;rename_i e' _ _ _ hq;exact⟨e',⟨_,_,_,hq⟩,hel⟩
 obtain⟨_,_,_,hty⟩:=hty;have hut:=hE.slice hty rfl
 match hxx:args.toList,hl with
 | [xs0,xx0],_=>
  rw[hxx]at hr;have hrs:=hr 0 (a.eval xs0) s rfl rfl;have hrx:=hr 1 (a.eval xx0) x rfl rfl;have hargs:args.map a.eval= #[a.eval xs0,a.eval xx0]:=by rw[←ZmV (xs:=args),hxx];simp
  have hsrcs:∃xs,ZgE C.E.prog w S t u el te (a.eval xx0) xs∧Z6 st.objs st.ep i te s xs=some e:=by
   rcases hc with ⟨hdsn,hc⟩ |⟨k,n,rfl,rfl,hc⟩
   ·unfold ZaH at hc;split at hc
    ·simp at hc
    ·rename_i xs hxs;exact⟨xs,Zj6 hE hut hte huu hdsn (Zds (P:=C.E.prog) h.objs hrx hxs),hc⟩
   ·obtain⟨e2,_,g2⟩:=ZbK hrx;refine⟨_, ?_,hc⟩;rw[e2];exact Zhn hE hut hte huu (by rw[show IntKind.max .i64=9223372036854775807 from by decide]at g2;unfold Zq;omega)
  obtain⟨xs,hnew,hc1⟩:=hsrcs;clear hc;revert hc1;intro hc
  ·generalize a.eval xx0=vx at hargs hnew hrx;unfold Z6 at hc;generalize hvs:a.eval xs0=vs at hargs hrs;split at hc
   ·
    rename_i sz0;simp only[ZmR]at hc;cases hrs with
    |nils=>
    have hcnd:=of_decide_eq_true (hcond _ (by rw[←hc];exact ZmG))
    by_cases h0:xs.length=0
    ·have hxs0:xs=[]:=Zm1 h0;subst hxs0;obtain⟨news,evs',n1,n2,n5,n6,n7,rin,rnil,rnew⟩:=hnew;have hrun:=rnil rfl o.type none 0;obtain⟨csb,hx⟩:=ZA (a:=a) (w:=w) (P:=C.E.prog) ho;have f:=h.fresh hi;let ρ':Id→Option Lay:=upd ρ (st.ep,i,0) (some ⟨none,0,te.size,0,0⟩);have hρ:∀id L,ρ id=some L→ρ' id=some L:=by
      intro id L' hL;simp only[ρ',upd];split
      ·rename_i hc;subst hc;rw[f]at hL;simp at hL
      ·exact hL
     have hbox:ρ' (st.ep,i,0)=some ⟨none,0,te.size,0,0⟩:=by simp[ρ',upd]
     subst hc;refine⟨_,_,w, ?_,.inl rfl,ρ',h.step (v:= .slice none 0 0) ρ' hi ht (ZmL _) (ZS.refl _) (fun _ _ _=>rfl) (by simp) hρ ?_ (by simp) ?_ ?_ (by simp) ?_⟩
     ·rw[hx,hargs];exact ZfW hrun
     ·intro id hn;simp only[ρ',upd]at hn;split at hn
      ·rename_i hc;subst hc;exact .inr ⟨rfl,rfl⟩
      ·exact .inl hn
     ·intro k o' hm;simp only[ZmI,ZmS]at hm;obtain⟨rfl,rfl⟩:=hm;exact⟨_,hbox,by simp,fun S' _ _ _=>ZaK te.size false⟩
     ·intro k o1 L1 k' o2 L2 b hm _ hL hb hm' _ hL' hb';simp only[ZmI,ZmS]at hm hm';rw[hm.1,hm'.1]
     ·intro S' _ _ d _;exact .sl _ 0 0 0 none _ hbox (by simp) (by simp) (by simp) (.inl rfl)
    ·refine ZcU h hi ht (by rw[ho];exact hlit) hE ho hargs hut hte (es:=[]) ?_ hnew rfl (by omega) (by simpa using hcnd) (wr:=[]) (by simp) (by simp) (c:=[decide (xs.length*max te.bytes 1≤ZO)]) (by rw[←hc];simp);exact Z8 (evs:=fun _=>default) rfl (by simp) (by simp) (by simp) (by simp)
   ·
    rename_i sz0 es _;split at hc;rotate_left;simp at hc;rename_i hsz0;subst hsz0;simp only[ZmR]at hc;cases hrs with
    |clip ad n _ _ hp=>
    obtain⟨hne,hcnd⟩:=of_decide_eq_true (hcond _ (by rw[←hc];exact ZmG));have hpos:0 < xs.length:=by
     rcases Nat.eq_zero_or_pos xs.length with h0 |h0
     ·rw[Zm1 h0]at hne;simp at hne
     ·exact h0
    cases hp with
    |sl _ _ _ _ _ evs hel' hm hc' hsz hcell hr'=>
     subst hel';refine ZcU h hi ht (by rw[ho];exact hlit) hE ho hargs hut hte (es:=es) ?_ hnew rfl (by omega) hcnd (wr:=[]) (by simp) (by simp) (c:=[decide (xs.isEmpty=false∧(es.length+xs.length)*max te.bytes 1≤ZO)]) (by rw[←hc]);exact Z8 rfl hm hsz (fun i hi=>let ⟨b,o,h1,_,h2⟩:=hcell i hi;⟨b,o,h1,h2⟩) hr'
   ·
    rename_i id len _;split at hc;rotate_left;simp at hc;rename_i sz0 es hlk;split at hc;rotate_left;simp at hc;rename_i hsz0;subst hsz0;simp only[ZmR]at hc;have hsrc:=Zds (P:=C.E.prog) (sz:=te.size) (xs:=es.take len) h.objs hrs (by simp[Zcz,Zbh,hlk]);cases hrs with
    |sl _ _ _ cap ad L hL hll hm hcp ha=>
    have hcnd:=of_decide_eq_true (hcond _ (by rw[←hc];exact ZmG));have hfz:st.fz id=false:=by rw[←hc]at hw;simp only[Zek,Zmt,ZmX,ZmI,forall_eq,ZmW]at hw;exact hw.1
    obtain⟨L',hL',hsz,hel2,hlc,_⟩:=h.objs id _ hlk (by simp);rw[hL]at hL';obtain rfl:=ZmQ hL'
    by_cases hroom:len+xs.length≤cap
    ·refine Zj4 h hi ht (by rw[ho];exact hlit) hE ho hargs hut hte hnew hlk hL hfz (by omega) hcp hm.2 ?_ hroom hcnd (c:=[decide ((len+xs.length)*max te.bytes 1≤ZO)]) (by rw[←hc]);rcases ha with h0 |⟨b,h1,h2,h3⟩
     ·exact .inl h0
     ·exact .inr ⟨b,h1,by simpa using h2,by omega⟩
    ·refine ZcU h hi ht (by rw[ho];exact hlit) hE ho hargs hut hte hsrc hnew (by simp;omega) (by omega) hcnd (wr:=[(id,.gone)]) (by simp) ?_ (c:=[decide ((len+xs.length)*max te.bytes 1≤ZO)]) (by rw[←hc]);intro id' o' hm;simp only[ZmI,ZmS]at hm;obtain⟨rfl,rfl⟩:=hm;exact⟨hfz,_,hlk,by simp⟩
   ·simp at hc
end
end
end Eng
namespace Eng
open Go
section
variable {C:Ctx} {X:Nat→Prop} {ρ:Id→Option Lay} {S:Nat→Prop} {st:St} {a:Act} {w:World} {i:Nat} {o:Oper} {e:Eff}
variable (h:Rep C X ρ S st a.tmps w) (hi:¬X i) (ht:∀d,o.dst=some d→d < C.E.nt) (hlit:o.op.operands.all Zz=true) (hE:Zk C.E)
include h hi ht hlit hE
theorem ZjT {args:Array Operand} {ats:Array TypeId} (ho:o.op= .call {callee:= .builtin .copy,args,argTypes:=ats}) (hc:Zd C.E st.ep i o.op o.type st.slots st.objs=some e) (hw:Zek st e=true):Zt C X st a w i o e:=by
 rw[ho]at hc hlit;simp only[Zd,ZI]at hc;unfold ZiK at hc;split at hc<;>(try simp only[reduceCtorEq]at hc);rename_i t ts d s hds hlen;split at hc<;>(try simp only[reduceCtorEq]at hc);rename_i te hel;have hats:ats[0]? =some t:=by rw[←ZmU,hds];rfl
 obtain⟨hl,hr⟩:=Zae h args.toList ats.toList (fun x hx=>by simp[Op.operands,Call.operands]at hlit;obtain⟨j,hj,rfl⟩:=Zmr.1 (Zms.1 hx);exact hlit j hj)
 rw[hlen]at hl hr;obtain⟨el,hty,hte⟩:∃el,(∃sz by_ ze,C.E.ty t=some {d:= .sl el,size:=sz,bytes:=by_,zero:=ze})∧C.E.ty el=some te:=by unfold Env.elem at hel;split at hel;rotate_left;simp at hel;rename_i e' _ _ _ hq;exact⟨e',⟨_,_,_,hq⟩,hel⟩
 obtain⟨_,_,_,hty⟩:=hty;have hut:=hE.slice hty rfl;have hszr:∀w,(Go.sizeOf el).run C.E.prog w= .ok te.size w:=ZL hE hte
 match hxx:args.toList,hl with
 | [xd0,xs0],_=>
  rw[hxx]at hr;have hrd:=hr 0 (a.eval xd0) d rfl rfl;have hrs:=hr 1 (a.eval xs0) s rfl rfl;have hargs:args.map a.eval= #[a.eval xd0,a.eval xs0]:=by rw[←ZmV (xs:=args),hxx];simp
  generalize a.eval xs0=vx at hargs hrs;generalize a.eval xd0=vd at hargs hrd;unfold ZfC at hc;split at hc<;>(try simp only[reduceCtorEq]at hc);rename_i id off len _;split at hc<;>(try simp only[reduceCtorEq]at hc);rename_i sz es fix hlk;split at hc<;>(try simp only[reduceCtorEq]at hc);rename_i xs hxs;split at hc<;>(try simp only[reduceCtorEq]at hc);rename_i hsz0;cases hc;obtain⟨news,evs',n1,n2,n3,n4,n5,n6,n7⟩:=Zds (P:=C.E.prog) h.objs hrs hxs;cases hrd with
  |sl _ _ _ cap ad L hL hll hm hcp ha=>
  have hfz:st.fz id=false:=by simp only[Zek,Zmt,ZmX,ZmI,forall_eq,ZmW]at hw;exact hw.1
  obtain⟨L',hL',hsz,hel2,hlc,hlm',hbn,hcells,evs,hev,hcell,hrel⟩:=h.objs id _ hlk (by simp);rw[hL]at hL';obtain rfl:=ZmQ hL';have hmin:min xs.length len≤xs.length:=Nat.min_le_left _ _;have hmin2:min xs.length len≤len:=Nat.min_le_right _ _;generalize hn:min xs.length len=n at hmin hmin2;have hn':Nat.min xs.length len=n:=hn;have hnf:=n4 n hmin w rfl;rw[hsz0]at hnf;obtain⟨csb,hx⟩:=ZA (a:=a) (w:=w) (P:=C.E.prog) ho;have hval:IntKind.i64.min≤(n:Int)∧(n:Int)≤IntKind.i64.max:=ZdC (by omega);have hchg:∀w',w'.heap.size=w.heap.size→ZS w w'→(∀b,L.blk≠some b→w'.heap[b]? =w.heap[b]?)→(Builtin.copy_ ats o.type #[.slice ad len cap,vx]).run C.E.prog w= .ok (goInt n) w'→
    (∀S',(∀b,S b→S' b)→ZB w' S' ρ L (.arr sz (ZP es off (xs.take n)) fix))→
    Zt C X st a w i o {val:= .p (.int .i64 (n:Nat)),wr:=[(id,.arr sz (ZP es off (xs.take n)) fix)]}:=by
   intro w' hws hqu hkeep hrun hobj;refine⟨_,_,w', ?_,.inl rfl,ρ,h.step (v:= .int .i64 n) ρ hi ht (by omega) hqu ?_ ?_ (fun _ _ h=>h) (fun id h=> .inl h) (by simp) (fun _ _ hm=>by simp at hm) (fun _ _ _ _ _ _ _ hm=>by simp at hm) ?_ ?_⟩
   ·rw[hx,hargs];exact ZfW hrun
   ·intro b hb hne;exact hkeep b (hne id _ L (ZmI.2 rfl) hL)
   ·intro id' o' hm;simp only[ZmI,ZmS]at hm;obtain⟨rfl,rfl⟩:=hm;exact⟨hfz,_,hlk,by simp⟩
   ·intro id' o' L1 hm _ hL1 S' hS _;simp only[ZmI,ZmS]at hm;obtain⟨rfl,rfl⟩:=hm;rw[hL]at hL1;obtain rfl:=ZmQ hL1;exact hobj S' hS
   ·intro S' _ _ d _;exact .p _ _ (.int _ _ hval.1 hval.2)
  rcases ha with h0 |⟨b,hLb,rfl,hcap⟩
  ·have hn0:n=0:=by omega
   subst hn0;refine hchg w rfl (ZS.refl _) (fun _ _=>rfl) ?_ (fun S' hS=> ?_)
   ·have hf:(Builtin.firstCells te.size 0 vx).run C.E.prog w= .ok #[] w:=by simpa using hnf
    cases ad<;>simp[Builtin.copy_,hats,Za hut,n3,hn',hszr,hf,storeCells]
   ·have hsp:ZP es off (xs.take 0)=es:=by simp[ZP]
    rw[hsp];exact(show ZB w S ρ L (.arr sz es fix)from ⟨hsz,hel2,hlc,hlm',hbn,hcells,evs,hev,hcell,hrel⟩).mono (fun _ _ _=>rfl) hS (fun _ _ h=>h) (fun _ _=>rfl)
  ·have hnl:(news.take (n*sz)).length=n*sz:=by have:n*sz≤xs.length*sz:=ZmM _ hmin;simp;omega
   have hin:∀m,m < n*sz→off*sz+m < L.cap*sz:=fun m hm=>by have:(off+n)*sz≤L.cap*sz:=ZmM _ (by omega);rw[ZmK]at this;omega
   have hcs:∀m,m < (news.take (n*sz)).length→(w.cell? ⟨b,L.base+off*sz+m,none⟩).isSome=true∧w.frozen? ⟨b,L.base+off*sz+m,none⟩=false:=fun m hm=>by obtain⟨⟨v,q⟩,q2⟩:=hcells b hLb (off*sz+m) (hin m (by omega));rw[show L.base+off*sz+m=L.base+(off*sz+m) by omega,q,q2];exact⟨rfl,rfl⟩
   have hst:=run_storeCells_cells (P:=C.E.prog) b (L.base+off*sz) (news.take (n*sz)) 0 w (fun m hm=>by simpa using (hcs m hm).1) (fun m hm=>by simpa using (hcs m hm).2) (fun u hu=>n5 u (List.mem_of_mem_take hu));have hcell':=fun m=>Zac (w:=w) (b:=b) (o:=L.base+off*sz) (vs:=news.take (n*sz)) (fun m hm=>(hcs m hm).1) m
   have hown:=h.own id _ L b hlk (by simp) hL hLb;have hnS:¬S b:=hown.2.2.2 hfz;have kS:Zcx S w (w.setCells b (L.base+off*sz) (news.take (n*sz))):=fun b' hb' _=>Zp b _ _ _ b' (fun e=>hnS (e▸hb'))
   simp only[Nat.add_zero]at hst;refine hchg (w.setCells b (L.base+off*sz) (news.take (n*sz))) (ZV _ _ _ _) (ZS.setCells _ _ _ _) (fun b' hne=>Zp b _ _ _ b' (fun e=>hne (e▸hLb))) ?_ (fun S' hS=> ?_)
   ·have hsz':∀w,(Go.sizeOf el).run C.E.prog w= .ok sz w:=fun w=>by rw[hszr,hsz0]
    rw[hsz];rw[←hsz0]at hnf;simp[Builtin.copy_,hats,Za hut,n3,hn',hsz',hnf,hst]
   ·have hxt:(xs.take n).length=n:=by simp;omega
    have hsp:=ZbB es off (xs.take n) (by omega);refine⟨hsz,by rw[hsp];exact hel2,hlc,hlm',hbn,fun b1 hb1 m hm=> ?_,fun j=>if off≤j∧j < off+n then evs' (j - off)else evs j,fun j hj=> ?_,fun b1 hb1 j k u hj hu=> ?_,fun j z hz=> ?_⟩
    ·rw[hLb]at hb1;obtain rfl:=ZmQ hb1;obtain⟨⟨v0,q1⟩,q2⟩:=hcells b hLb m hm;refine⟨?_,by rw[World.frozen?_setCells];exact q2⟩;rw[hcell'];split
     ·exact⟨_,Zmz (by omega)⟩
     ·exact⟨v0,q1⟩
    ·dsimp only;split
     ·exact(n6 (j - off) (by omega)).1
     ·exact hev j hj
    ·rw[hLb]at hb1;obtain rfl:=ZmQ hb1;dsimp only at hu;rw[hcell'];split at hu
     ·rename_i hin';have hq:=(n6 (j - off) (by omega)).2 k u hu;have hk:k < sz:=by have:=(Zmp.1 hu).1;have:=(n6 (j - off) (by omega)).1;omega
      have h1:j*sz=off*sz+(j - off)*sz:=by rw[←ZmK];congr 1;omega
      have h2:(j - off+1)*sz≤n*sz:=ZmM _ (by omega);rw[ZmK,Nat.one_mul]at h2;rw[if_pos (by omega),show L.base+j*sz+k - (L.base+off*sz)=(j - off)*sz+k by omega,ZmC,if_pos (by omega)];exact hq
     ·rename_i hout;have hk:k < sz:=by have:=(Zmp.1 hu).1;have:=hev j hj;omega
      rw[if_neg]
      ·exact hcell b hLb j k u hj hu
      ·rintro⟨r1,r2⟩;rcases Nat.lt_or_ge j off with hlt |hge
       ·have:(j+1)*sz≤off*sz:=ZmM _ hlt;rw[ZmK,Nat.one_mul]at this;omega
       ·have:(off+n)*sz≤j*sz:=ZmM _ (by omega);rw[ZmK]at this;omega
    ·rw[ZbC _ _ _ (by omega),hxt]at hz;dsimp only;split at hz
     ·rename_i hin';rw[if_pos hin'];rw[ZmC,if_pos (by omega)]at hz;exact(n7 _ z hz).mono kS hS
     ·rename_i hout;rw[if_neg hout];exact(hrel j z hz).mono kS hS
end
end Eng
namespace Eng
open Go
theorem Zap {td:TD} {x y:P} (hx:Zn td x=true) (hy:Zn td y=true):P.key x y=true↔x=y:=by
 cases td<;>cases x<;>simp[Zn]at hx<;>cases y<;>simp[Zn]at hy
 ·simp[P.key,P.eqv,P.eqc]
 ·subst hx;subst hy;simp[P.key,P.eqv,P.eqc]
 ·simp[P.key,P.eqv,P.eqc]
theorem ZaM {td:TD} {x:P} (hx:Zn td x=true):P.key x x=true:=(Zap hx hx).2 rfl
def Zfa (td:TD) (kv:List (P×P)):Prop:=(kv.Pairwise fun a b=>P.key a.1 b.1=false)∧∀q∈kv,Zn td q.1=true
theorem Zfa.perm {td:TD} {a b:List (P×P)} (h:Zfa td a) (hp:a.Perm b):Zfa td b:=by
 have hl:∀q∈b,Zn td q.1=true:=fun q hq=>h.2 q (hp.mem_iff.2 hq)
 refine⟨?_,hl⟩;have h':a.Pairwise fun x y=>x.1≠y.1:=h.1.imp_of_mem fun ha hb hk e=>by have:=(Zap (h.2 _ ha) (h.2 _ hb)).2 e;rw[hk]at this;simp at this
 have h'':b.Pairwise fun x y=>x.1≠y.1:=(hp.pairwise_iff (fun hab=>Ne.symm hab)).1 h'
 exact h''.imp_of_mem fun ha hb hk=>by
  cases hc:P.key _ _ with
  |false=>rfl
  |true=>exact absurd ((Zap (hl _ ha) (hl _ hb)).1 hc) hk
theorem Zfa.uniq {td:TD} {kv:List (P×P)} (h:Zfa td kv) {k:P} {v v':P} (h1:(k,v)∈kv) (h2:(k,v')∈kv):v=v':=by
 obtain⟨i,hi,he⟩:=Znb.1 h1;obtain⟨j,hj,he'⟩:=Znb.1 h2;have hkk:=ZaM (h.2 _ h1);rcases Nat.lt_trichotomy i j with hlt |heq |hgt
 ·have:=Znf.1 h.1 i j hi hj hlt;rw[he,he']at this;simp[hkk]at this
 ·subst heq;rw[he]at he';simpa using he'
 ·have:=Znf.1 h.1 j i hj hi hgt;rw[he,he']at this;simp[hkk]at this
theorem Zbp {td:TD} {kv:List (P×P)} (h:Zfa td kv) {k:P} (hk:Zn td k=true) (v:P):Zbq kv k=some v↔(k,v)∈kv:=by
 unfold Zbq;rw[ZmP];constructor
 ·rintro⟨q,hq,rfl⟩;have h1:=List.find?_some hq;have h2:=List.mem_of_find?_eq_some hq;have:=(Zap hk (h.2 _ h2)).1 h1;rw[this];exact h2
 ·intro hm;cases hf:kv.find? fun e=>P.key k e.1 with
  |none=>
   have:=List.find?_eq_none.1 hf _ hm;simp[ZaM hk]at this
  |some q=>
   have h1:=List.find?_some hf;have h2:=List.mem_of_find?_eq_some hf;have h3:=(Zap hk (h.2 _ h2)).1 h1;obtain⟨q1,q2⟩:=q;simp only at h3;subst h3;exact⟨_,rfl,h.uniq h2 hm⟩
theorem ZcK {td:TD} {kv:List (P×P)} {k:P}:Zbq kv k=none↔∀q∈kv,P.key k q.1=false:=by unfold Zbq;simp
theorem ZeS {td:TD} {a b:List (P×P)} (h:Zfa td a) (hp:a.Perm b) {k:P} (hk:Zn td k=true):Zbq a k=Zbq b k:=by
 cases hb:Zbq b k with
 |some v=>exact(Zbp h hk v).2 (hp.mem_iff.2 ((Zbp (h.perm hp) hk v).1 hb))
 |none=>
  cases ha:Zbq a k with
  |none=>rfl
  |some v=>
   have:=(Zbp (h.perm hp) hk v).2 (hp.mem_iff.1 ((Zbp h hk v).1 ha));rw[hb]at this;simp at this
theorem ZhM {td:TD} {kv:List (P×P)} (hK:Zfa td kv) {k v v':P} (hk:Zn td k=true) {j:Nat} (hj:kv[j]? =some (k,v)):Zi0 kv k v'=kv.set j (k,v'):=by
 have hany:kv.any (fun e=>P.key k e.1)=true:=ZmY.2 ⟨(k,v),Zne hj,ZaM hk⟩;unfold Zi0;rw[if_pos hany];apply List.ext_getElem?;intro m;rw[ZmB]
 by_cases hm:m=j
 ·subst hm;have hlt:m < kv.length:=(ZmA.1 hj).1;rw[hj,List.getElem?_set_self hlt];simp[ZaM hk]
 ·rw[List.getElem?_set_ne (Ne.symm hm)];cases hq:kv[m]? with
  |none=>rfl
  |some q=>
   have:P.key k q.1=false:=by
    cases hc:P.key k q.1 with
    |false=>rfl
    |true=>
     exfalso;have heq:=(Zap hk (hK.2 q (Zne hq))).1 hc;obtain⟨hlt,he⟩:=ZmA.1 hj;obtain⟨hlt',he'⟩:=ZmA.1 hq;have hkk:=ZaM hk;rcases Nat.lt_or_gt_of_ne hm with hl |hg
     ·have:=Znf.1 hK.1 m j hlt' hlt hl;rw[he,he',←heq]at this;simp[hkk]at this
     ·have:=Znf.1 hK.1 j m hlt hlt' hg;rw[he,he',←heq]at this;simp[hkk]at this
   simp[this]
theorem Zgd {kv:List (P×P)} {k v:P} (h:Zbq kv k=none):Zi0 kv k v=kv++[(k,v)]:=by unfold Zi0;rw[if_neg];intro hany;obtain⟨q,hq,hk⟩:=ZmY.1 hany;have:=(ZcK (td:= .bool)).1 h q hq;rw[hk]at this;simp at this
theorem Zgc {td:TD} {a b:List (P×P)} (hK:Zfa td a) (hp:a.Perm b) {k v:P} (hk:Zn td k=true):(Zi0 a k v).Perm (Zi0 b k v):=by
 unfold Zi0;have:a.any (fun e=>P.key k e.1)=b.any (fun e=>P.key k e.1):=by
  rw[Bool.eq_iff_iff,ZmY,ZmY];constructor
  ·rintro⟨q,h1,h2⟩;exact⟨q,hp.mem_iff.1 h1,h2⟩
  ·rintro⟨q,h1,h2⟩;exact⟨q,hp.mem_iff.2 h1,h2⟩
 rw[this];split
 ·exact hp.map _
 ·exact hp.append_right _
theorem Zge {td:TD} {kv:List (P×P)} (hK:Zfa td kv) {k v:P} (hk:Zn td k=true):Zfa td (Zi0 kv k v):=by
 unfold Zi0;split
 ·refine⟨?_, ?_⟩
  ·rw[List.pairwise_map];refine hK.1.imp fun {a b} hab=> ?_
   by_cases h1:P.key k a.1<;>by_cases h2:P.key k b.1<;>simp[h1,h2,hab]
  ·intro q hq;obtain⟨a,ha,rfl⟩:=Znc.1 hq;split<;>exact hK.2 a ha
 ·rename_i hany;refine⟨List.pairwise_append.2 ⟨hK.1,List.pairwise_singleton _ _,fun a ha b hb=> ?_⟩, ?_⟩
  ·simp only[ZmI]at hb;subst hb;cases hc:P.key a.1 k with
   |false=>rfl
   |true=>
    exfalso;have heq:=(Zap (hK.2 a ha) hk).1 hc;exact hany (ZmY.2 ⟨a,ha,by rw[heq];exact ZaM hk⟩)
  ·intro q hq;rcases ZmE.1 hq with hq |hq
   ·exact hK.2 q hq
   ·simp only[ZmI]at hq;subst hq;exact hk
theorem ZhN {td:TD} {kv:List (P×P)} (hK:Zfa td kv) {k v:P} (hk:Zn td k=true) {j:Nat} (hj:kv[j]? =some (k,v)):Zkd kv k=kv.eraseIdx j:=by
 unfold Zkd
 induction kv generalizing j with
 |nil=>simp at hj
 |cons q kv ih=>
  have hK':Zfa td kv:=⟨(List.pairwise_cons.1 hK.1).2,fun q hq=>hK.2 q (by simp[hq])⟩;cases j with
  |zero=>
   simp only[Zm6,ZmR]at hj;subst hj;simp only[List.filter_cons,ZaM hk,Bool.not_true,Bool.false_eq_true,if_false,List.eraseIdx_cons_zero];apply List.filter_eq_self.2;intro a ha;have:=(List.pairwise_cons.1 hK.1).1 a ha;simpa using this
  |succ j=>
   simp only[Zm5]at hj;have:P.key k q.1=false:=by
    cases hc:P.key k q.1 with
    |false=>rfl
    |true=>
     have heq:=(Zap hk (hK.2 q (by simp))).1 hc;have:=(List.pairwise_cons.1 hK.1).1 _ (Zne hj);rw[←heq,ZaM hk]at this;simp at this
   simp only[List.filter_cons,this,Bool.not_false,if_true,List.eraseIdx_cons_succ];rw[ih hK' hj]
theorem Zgh {kv:List (P×P)} {k:P} (h:Zbq kv k=none):Zkd kv k=kv:=by unfold Zkd;apply List.filter_eq_self.2;intro a ha;simp[(ZcK (td:= .bool)).1 h a ha]
theorem Zgg {a b:List (P×P)} (hp:a.Perm b) (k:P):(Zkd a k).Perm (Zkd b k):=hp.filter _
theorem Zgi {td:TD} {kv:List (P×P)} (hK:Zfa td kv) (k:P):Zfa td (Zkd kv k):=
 ⟨hK.1.filter _,fun q hq=>hK.2 q (List.mem_filter.1 hq).1⟩
section
variable {w:World} {S:Nat→Prop}
def Zgf (d:TypeDesc) (td:TD):Prop:=Zat d td=true∧td.same td=true
theorem Zlt {a b:TD} (h:a.same b=true):a=b∧b.same b=true:=by cases a<;>cases b<;>simp[TD.same]at h⊢ <;>simp[h]
theorem Zgu (s t:List UInt8):((ByteArray.mk s.toArray) == (ByteArray.mk t.toArray))=(s == t):=by rw[beq_toListBytes,ZfN,ZfN]
theorem ZgO {d:TypeDesc} {td:TD} (hd:Zgf d td) {x y:P} {u v:Value} (hx:Zn td x=true) (hy:Zn td y=true) (hu:RelP w S u x) (hv:RelP w S v y):Instr.sameNow d u v=some (P.key x y):=by
 obtain⟨h1,h2⟩:=hd;cases td<;>simp[TD.same]at h2<;>cases d<;>simp[Zat]at h1<;>cases x<;>simp[Zn]at hx<;>cases y<;>simp[Zn]at hy
 ·rw[hu.bool_inv,hv.bool_inv];simp[Instr.sameNow,P.key,P.eqv,P.eqc]
 ·subst hx;subst hy;rw[hu.int_inv.1,hv.int_inv.1];simp[Instr.sameNow,P.key,P.eqv,P.eqc]
 ·rw[hu.str_inv.1,hv.str_inv.1];rename_i s t;simp only[Instr.sameNow,P.key,P.eqv,P.eqc,Option.getD_some,ZmR];exact Zgu s t
theorem ZdU {d:TypeDesc} {td:TD} (hd:Zgf d td) {x:P} {u:Value} (hx:Zn td x=true) (hu:RelP w S u x):∀(es:List MapEntry) (kv:List (P×P)) (n:Nat),es.length=kv.length→(∀q∈kv,Zn td q.1=true)→
  (∀(i:Nat) e q,es[i]? =some e→kv[i]? =some q→RelP w S e.key q.1)→
  (∀q∈kv,P.key x q.1=false)∧Instr.findNow d u es n=some none∨
  ∃(j:Nat) (e:MapEntry) (q:P×P),es[j]? =some e∧kv[j]? =some q∧P.key x q.1=true∧Instr.findNow d u es n=some (some (n+j,e.val))
 | [],[],n,_,_,_=> .inl ⟨by simp,rfl⟩
 | [],_::_,n,h,_,_=>by simp at h
 |_::_,[],n,h,_,_=>by simp at h
 |e::es,q::kv,n,hl,hk,hr=>by
  have hs:=ZgO hd hx (hk q (by simp)) hu (hr 0 e q rfl rfl);simp only[Instr.findNow,hs];cases hc:P.key x q.1 with
  |true=>exact .inr ⟨0,e,q,rfl,rfl,hc,by simp⟩
  |false=>
   rcases ZdU hd hx hu es kv (n+1) (by simpa using hl) (fun q hq=>hk q (by simp[hq])) (fun i e q he hq=>hr (i+1) e q (by simpa using he) (by simpa using hq))with ⟨h1,h2⟩ |⟨j,e',q',h1,h2,h3,h4⟩
   ·exact .inl ⟨by simp[hc];exact fun a b hab=>h1 (a,b) hab,h2⟩
   ·exact .inr ⟨j+1,e',q',by simpa using h1,by simpa using h2,h3,by rw[h4,Nat.add_assoc,Nat.add_comm 1]⟩
theorem Zb3 {P:Program} {kt:TypeId} {d:TypeDesc} {td:TD} (hu:P.underlying kt=some d) (hd:Zgf d td) {x:Eng.P} {u:Value} (hx:Zn td x=true) (hr:RelP w S u x) {es:List MapEntry} {kv:List (Eng.P×Eng.P)} (hl:es.length=kv.length) (hk:Zfa td kv)
  (hrk:∀(i:Nat) e q,es[i]? =some e→kv[i]? =some q→RelP w S e.key q.1):
  (Zbq kv x=none∧∀w',(Instr.findKey kt u es).run P w'= .ok none w')∨
  ∃(j:Nat) (e:MapEntry) (v:Eng.P),es[j]? =some e∧kv[j]? =some (x,v)∧Zbq kv x=some v∧∀w',(Instr.findKey kt u es).run P w'= .ok (some (j,e.val)) w':=by
 rcases ZdU hd hx hr es kv 0 hl hk.2 hrk with ⟨h1,h2⟩ |⟨j,e,q,h1,h2,h3,h4⟩
 ·exact .inl ⟨(ZcK (td:=td)).2 h1,fun w'=>by simp[Instr.findKey,Za hu,h2]⟩
 ·have hm:=Zne h2;have:=(Zap hx (hk.2 q hm)).1 h3;obtain⟨q1,q2⟩:=q;simp only at this;subst this;exact .inr ⟨j,e,q2,h1,h2,(Zbp hk hx q2).2 hm,fun w'=>by simp[Instr.findKey,Za hu,h4]⟩
theorem Zar {P:Program} {kt:TypeId} {d:TypeDesc} {td:TD} (hu:P.underlying kt=some d) (hd:Zgf d td) (b:Bool) (v:Value) (w':World):(Instr.checkKey b 10000 kt v).run P w'= .ok () w':=by obtain⟨h1,h2⟩:=hd;show (Instr.checkKey b (9999+1) kt v).run P w'= .ok () w';generalize 9999=n;cases td<;>simp[TD.same]at h2<;>cases d<;>simp[Zat]at h1<;>simp[Instr.checkKey,Za hu]
theorem ZcL {P:Program} {td:TD} {x:Eng.P} {u v:Value} (hx:Zn td x=true) (hu:RelP w S u x) (hv:RelP w S v x) (w':World):(Instr.keyThatStays u v).run P w'= .ok v w':=by
 have:Instr.sameBits 10000 u v=true:=by
  cases td<;>cases x<;>simp[Zn]at hx
  ·rw[hu.bool_inv,hv.bool_inv];simp[Instr.sameBits]
  ·rw[hu.int_inv.1,hv.int_inv.1];simp[Instr.sameBits]
  ·rw[hu.str_inv.1,hv.str_inv.1];simp[Instr.sameBits,Zgu]
 simp[Instr.keyThatStays,this]
end
end Eng
namespace Eng
open Go
section
variable {C:Ctx} {X:Nat→Prop} {ρ:Id→Option Lay} {S:Nat→Prop} {st:St} {a:Act} {w:World} {i:Nat} {o:Oper} {e:Eff}
theorem Zfs {td:TD} {S':Nat→Prop} {v:Value} {x:P} (hx:Zn td x=true) (h:RelP w S v x):RelP w S' v x:=by
 cases td<;>cases x<;>simp[Zn]at hx
 ·rw[h.bool_inv];exact .bool _
 ·obtain⟨rfl,h0,h1⟩:=h.int_inv;exact .int _ _ h0 h1
 ·obtain⟨rfl,h0⟩:=h.str_inv;exact .str _ h0
theorem Zk.key {E:Env} (hE:Zk E) {t:Nat} {ti:TI} {kt el:Nat} (hty:E.ty t=some ti) (hd:ti.d= .map kt el) {td:TD} (hs:(E.keyTD t).same td=true):∃d,E.prog.underlying kt=some d∧Zgf d td:=by
 have hk:E.keyTD t=(match E.td kt with |some d=>d |none=> .other):=by unfold Env.keyTD;rw[hty];cases ti;simp only at hd;subst hd;rfl
 rw[hk]at hs;cases hq:E.td kt with
 |none=>rw[hq]at hs;simp[TD.same]at hs
 |some d=>
  rw[hq]at hs;obtain⟨h1,h2⟩:=Zlt hs;simp only at h1;subst h1;obtain⟨d',h3,h4⟩:=hE.und hq;exact⟨d',h3,h4,h2⟩
section
variable (h:Rep C X ρ S st a.tmps w) (hi:¬X i) (ht:∀d,o.dst=some d→d < C.E.nt) (hlit:o.op.operands.all Zz=true) (hE:Zk C.E)
include h hi ht hlit hE
theorem Zhb {t:TypeId} {m k:Operand} {ok:Bool} (ho:o.op= .lookup t m k ok) (hc:Zd C.E st.ep i o.op o.type st.slots st.objs=some e):Zt C X st a w i o e:=by
 rw[ho]at hc hlit;simp[Op.operands]at hlit;have h1:=Zi h 0 hlit.1;simp only[Zd]at hc;split at hc;rotate_left;simp at hc;rename_i kt el sz by_ ze hty;have h2:=Zi h kt hlit.2;split at hc;rotate_left;simp at hc;rename_i te td kv kp hte hm hk;split at hc;rotate_left;simp at hc;rename_i hcnd;simp only[Zmt]at hcnd;obtain⟨hs,hleaf⟩:=hcnd;simp only[ZmR]at hc;have hum:=hE.map hty rfl;obtain⟨d,hud,hkd⟩:=hE.key hty rfl hs;have hkp:RelP w S (a.eval k) kp:=Zfs (S:=fun _=>True) hleaf (Zaz (S':=fun _=>True) h.objs (fun _ _=>trivial) 1 _ _ _ h2 hk (fun _ _ _ _ _ _=>trivial));obtain⟨z,hz,hzs,hzr⟩:=Zb8 (w:=w) (S:=S) hE hte;generalize hvk:a.eval k=vk at hkp;generalize hvm:a.eval m=vm at h1;have hmap:(vm= .map none∧kv=[])∨∃r es clock kv',vm= .map (some r)∧w.heap[r]? =some (.map es clock)∧kv'.Perm kv∧es.size=kv'.length∧Zfa td kv'∧
   ∀(i:Nat) e q,es[i]? =some e→kv'[i]? =some q→RelP w S e.key q.1∧RelP w S e.val q.2:=by
  unfold Zfp at hm;split at hm
  ·rename_i td' kv' hx;simp only[ZmR,ZmS]at hm;obtain⟨rfl,rfl⟩:=hm;rw[hx]at h1;have h1:=h1.of_p;cases h1 with
   |nilmap=>exact .inl ⟨rfl,rfl⟩
   |map td r es clock kv kv' hS hb hp hl hk hv hd hkey hborn hbd=>exact .inr ⟨r,es,clock,kv',rfl,hb,hp,hl,⟨hd,hkey⟩,fun i e q he hq=>⟨hk i e q he hq,hv i e q he hq⟩⟩
  ·rename_i id hx;split at hm;rotate_left;simp at hm;rename_i td' kv' hlk;simp only[ZmR,ZmS]at hm;obtain⟨rfl,rfl⟩:=hm;rw[hx]at h1;cases h1 with
   |map id L r hL hLb=>
    obtain⟨L',hL',r',hr',es,clock,kv',hb,hp,hl,hkv,hd2,hkey,hborn,hbd⟩:=h.objs id _ hlk (by simp);rw[hL]at hL';obtain rfl:=ZmQ hL';rw[hLb]at hr';obtain rfl:=ZmQ hr';exact .inr ⟨r,es,clock,kv',rfl,hb,hp,hl,⟨hd2,hkey⟩,hkv⟩
  ·simp at hm
 have hout:∃v b,(Instr.lookup t vm vk ok).run C.E.prog w= .ok (if ok then .tuple #[v,.bool b]else v) w∧
   (match Zbq kv kp with |some x=>RelP w S v x∧b=true |none=>RelP w S v te.zeroP∧b=false):=by
  rcases hmap with ⟨rfl,rfl⟩ |⟨r,es,clock,kv',rfl,hb,hp,hl,hK,hrel⟩
  ·refine⟨z,false, ?_,hzr,rfl⟩;have hck:=Zar hud hkd true vk w;have hfk:(Instr.findKey kt vk (#[]:Array MapEntry).toList).run C.E.prog w= .ok none w:=by simp[Instr.findKey,Za hud,Instr.findNow]
   cases ok<;>simp[Instr.lookup,Za hum,hck,hfk,hz]<;>simpa using hfk
  ·have hck:=Zar hud hkd es.isEmpty vk w;rcases Zb3 (es:=es.toList) hud hkd hleaf hkp (by simpa using hl) hK (fun i e q he hq=>(hrel i e q (by simpa using he) hq).1)with ⟨g1,g2⟩ |⟨j,e',v',g1,g2,g3,g4⟩
   ·rw[←ZeS hK hp hleaf,g1];refine⟨z,false, ?_,hzr,rfl⟩;cases ok<;>simp[Instr.lookup,Za hum,getObj,Sem.run,hb,hck,g2,hz]
   ·rw[←ZeS hK hp hleaf,g3];refine⟨e'.val,true, ?_,(hrel j e' _ (by simpa using g1) g2).2,rfl⟩;cases ok<;>simp[Instr.lookup,Za hum,getObj,Sem.run,hb,hck,g4]
 obtain⟨v,b,hrun,hv⟩:=hout;subst hc;refine Zt.quiet h hi ht (v:=if ok then .tuple #[v,.bool b]else v) (by simp only[execOp,ho,hvm,hvk,Sem.run_bind,hrun,Result.andThen_ok,Sem.run_pure]) rfl rfl rfl ?_;have tup:∀(x:P),RelP w S v x→RelD w S ρ (.tuple #[v,.bool b]) (.tup [.p x,.p (.bool b)]):=by
  intro x hx;refine .tup _ _ rfl fun i u c hu hc=> ?_
  match i with
  |0=>simp at hu hc;subst hu hc;exact .p _ _ hx
  |1=>simp at hu hc;subst hu hc;exact .p _ _ (.bool b)
  |i+2=>simp at hc
 cases hf:Zbq kv kp with
 |some x=>
  rw[hf]at hv;obtain⟨hv,rfl⟩:=hv;cases ok
  ·exact .p _ _ hv
  ·exact tup x hv
 |none=>
  rw[hf]at hv;obtain⟨hv,rfl⟩:=hv;cases ok
  ·exact .p _ _ hv
  ·exact tup _ hv
theorem Zt.map {id:Id} {td:TD} {kv kv2:List (P×P)} {r:Nat} {L:Lay} {fs:List Id} {w':World} {c:List Bool} {n:Next} {es:Array MapEntry} {clock:Nat} {kv':List (P×P)}
  (hlk:st.objs id=some (.map td kv)) (hL:ρ id=some L) (hLb:L.blk=some r) (hfz:st.fz id=false) (hfs:∀f∈fs,∃o,st.objs f=some o∧o≠ .gone) (hap:∀f∈fs,id≠f)
  (hrun:(execOp a.eval o).run C.E.prog w= .ok n w') (hn:n= .value undef∨n= .skip)
  (hheap:w'.heap=w.heap.setIfInBounds r (.map es clock)) (hqu:ZS w w') (hK:Zfa td kv') (hp:kv'.Perm kv2) (hl:es.size=kv'.length)
  (hrel:∀S',(∀b,S b→S' b)→(∀f,f∈fs→∀o L b,st.objs f=some o→o≠ .gone→ρ f=some L→L.blk=some b→S' b)→∀(i:Nat) e q,es[i]? =some e→kv'[i]? =some q→RelP w S' e.key q.1∧RelP w S' e.val q.2)
  (hborn:∀(i:Nat) e,es[i]? =some e→e.born < clock) (hbd:∀(i j:Nat) e e',es[i]? =some e→es[j]? =some e'→e.born=e'.born→i=j)
  (he:e={val:= .undef,wr:=[(id,.map td kv2)],frz:=fs,cond:=c}):Zt C X st a w i o e:=by
 subst he;have hown:=h.own id _ L r hlk (by simp) hL hLb;have hnS:¬S r:=hown.2.2.2 hfz;have hold:∀b,b≠r→w'.heap[b]? =w.heap[b]? :=fun b hb=>by rw[hheap];exact Array.getElem?_setIfInBounds_ne (Ne.symm hb)
 have hnew:w'.heap[r]? =some (.map es clock):=by rw[hheap];simp[hown.1]
 have hsz:w'.heap.size=w.heap.size:=by rw[hheap];simp
 let FS:Nat→Prop:=fun b=>S b∨∃f o L,f∈fs∧st.objs f=some o∧o≠ .gone∧ρ f=some L∧L.blk=some b
 have kF:Zcx FS w w':=fun b hb _=>hold b fun e=>by
  subst e;rcases hb with hb |⟨f,o',L',q1,q2,q3,q4,q5⟩
  ·exact hnS hb
  ·exact hap f q1 (h.inj id _ L f o' L' b hlk (by simp) hL hLb q2 q3 q4 q5)
 refine⟨n,undef,w',hrun,by rcases hn with rfl |rfl;exact .inl rfl;exact .inr ⟨rfl,rfl⟩,ρ,h.step ρ hi ht (by omega) hqu ?_ ?_ (fun _ _ h=>h) (fun id h=> .inl h) ?_ (fun _ _ hm=>by simp at hm) (fun _ _ _ _ _ _ _ hm=>by simp at hm) ?_ ?_⟩
 ·intro b hb hne;exact hold b (fun e=>hne id _ L (ZmI.2 rfl) hL (e▸hLb))
 ·intro id' o' hm;simp only[ZmI,ZmS]at hm;obtain⟨rfl,rfl⟩:=hm;exact⟨hfz,_,hlk,by simp⟩
 ·intro f hf;obtain⟨o',q1,q2⟩:=hfs f hf;obtain⟨L',hL',_⟩:=h.objs f o' q1 q2;refine⟨by simp[hL'],fun o'' hm=> ?_⟩;simp only[ZmI,ZmS]at hm;exact hap f hf hm.1.symm
 ·intro id' o' L1 hm _ hL1 S' hS hF;simp only[ZmI,ZmS]at hm;obtain⟨rfl,rfl⟩:=hm;rw[hL]at hL1;obtain rfl:=ZmQ hL1;have hFS:∀b,FS b→S' b:=fun b hb=>by
   rcases hb with hb |⟨idq,o',L,q1,q2,q3,q4,q5⟩
   ·exact hS b hb
   ·exact hF idq q1 o' L b q2 q3 q4 q5
  have hr:=hrel FS (fun b hb=> .inl hb) (fun f hf o L b q2 q3 q4 q5=> .inr ⟨f,o,L,hf,q2,q3,q4,q5⟩);exact⟨r,hLb,es,clock,kv',hnew,hp,hl,fun i e q he hq=>⟨(hr i e q he hq).1.mono kF hFS,(hr i e q he hq).2.mono kF hFS⟩,hK.1,hK.2,hborn,hbd⟩
 ·intro S' _ _ d _;exact .undef
theorem ZbU {t:TypeId} {m k v:Operand} (ho:o.op= .mapUpdate t m k v∨o.op= .insert t m k v) (hc:Zd C.E st.ep i o.op o.type st.slots st.objs=some e) (hw:Zek st e=true):Zt C X st a w i o e:=by
 have hlm:Zz m=true∧Zz k=true∧Zz v=true:=by rcases ho with ho |ho<;>rw[ho]at hlit<;>simpa[Op.operands,and_assoc]using hlit
 have hc:ZX C.E st.slots st.objs t m k v=some e:=by rcases ho with ho |ho<;>rw[ho]at hc<;>simpa[Zd]using hc
 have hexec:(execOp a.eval o).run C.E.prog w=((Instr.mapUpdate t (a.eval m) (a.eval k) (a.eval v)).run C.E.prog w).andThen fun _ w'=> .ok .skip w':=by rcases ho with ho |ho<;>simp only[execOp,ho,Sem.run_bind,Sem.run_pure]
 have h1:=Zi h 0 hlm.1;unfold ZX at hc;split at hc;rotate_left;simp at hc;rename_i kt vt sz by_ ze hty;have h2:=Zi h kt hlm.2.1;have h3:=Zi h vt hlm.2.2;split at hc;rotate_left;simp at hc;rename_i id hm;split at hc;rotate_left;simp at hc;rename_i td kv kp vp hlk hk hv;split at hc;rotate_left;simp at hc;rename_i hcnd;simp only[Zmt]at hcnd;obtain⟨hs,hleaf⟩:=hcnd;simp only[ZmR]at hc;have hum:=hE.map hty rfl;obtain⟨d,hud,hkd⟩:=hE.key hty rfl hs;have hkp:RelP w S (a.eval k) kp:=Zfs (S:=fun _=>True) hleaf (Zaz (S':=fun _=>True) h.objs (fun _ _=>trivial) 1 _ _ _ h2 hk (fun _ _ _ _ _ _=>trivial));have hids:=Zbj depth _ _ hv;have hvp:∀S',(∀b,S b→S' b)→(∀f,f∈(ev C.E st.slots vt v).ids st.objs depth→∀o L b,st.objs f=some o→o≠ .gone→ρ f=some L→L.blk=some b→S' b)→RelP w S' (a.eval v) vp:=fun S' hS hF=>
  Zaz (S':=S') h.objs hS depth _ _ _ h3 hv (fun id hid L b hL hb=>by obtain⟨o',q1,q2⟩:=hids id hid;exact hF id hid o' L b q1 q2 hL hb)
 generalize hvk:a.eval k=vk at hkp hexec;generalize hvm:a.eval m=vm at h1 hexec;generalize hvv:a.eval v=vv at hvp hexec;rw[hm]at h1;rw[←hc]at hw;simp only[Zek,Zmt,ZmX,ZmI,forall_eq,ZmW,decide_eq_true_eq]at hw;cases h1 with
 |map _ L r hL hLb=>
  obtain⟨L',hL',r',hr',es,clock,kv',hb,hp,hl,hkv,hd2,hkey,hborn,hbd⟩:=h.objs id _ hlk (by simp);rw[hL]at hL';obtain rfl:=ZmQ hL';rw[hLb]at hr';obtain rfl:=ZmQ hr';have hK:Zfa td kv':=⟨hd2,hkey⟩;have hck:=Zar hud hkd false vk w;rcases Zb3 (es:=es.toList) hud hkd hleaf hkp (by simpa using hl) hK (fun i e q he hq=>(hkv i e q (by simpa using he) hq).1)with ⟨g1,g2⟩ |⟨j,e',v',g1,g2,g3,g4⟩
  ·refine Zt.map h hi ht hlit hE (w':={w with heap:=w.heap.setIfInBounds r (.map (es.push {key:=vk,val:=vv,born:=clock}) (clock+1))}) hlk hL hLb hw.1 hids hw.2 (n:= .skip) ?_ (.inr rfl) rfl ⟨rfl,rfl⟩ (Zge hK hleaf (v:=vp)) (Zgc hK hp hleaf) ?_ ?_ ?_ ?_ (c:=[]) hc.symm
   ·rw[hexec];simp[Instr.mapUpdate,Za hum,getObj,setObj,Sem.run,hb,hck,g2]
   ·rw[Zgd g1];simp[hl]
   ·intro S' hS hF n e q he hq;rw[Zgd g1]at hq;rw[Array.getElem?_push]at he;split at he
    ·rename_i hn;cases he;rw[hn,hl,Zm4 (ZmL _)]at hq;simp at hq;subst hq;exact⟨hkp.mono (fun _ _ _=>rfl) hS,hvp S' hS hF⟩
    ·have hn:n < kv'.length:=by have:=(Zmp.1 he).1;omega
     rw[Zm3 hn]at hq;exact⟨(hkv n e q he hq).1.mono (fun _ _ _=>rfl) hS,(hkv n e q he hq).2.mono (fun _ _ _=>rfl) hS⟩
   ·intro n e he;rw[Array.getElem?_push]at he;split at he
    ·cases he;simp
    ·have:=hborn n e he;omega
   ·intro n m e e' he he' hb;rw[Array.getElem?_push]at he he';split at he<;>split at he'
    ·omega
    ·cases he;have:=hborn m e' he';simp at hb;omega
    ·simp only[ZmR]at he';subst he';have:=hborn n e he;simp at hb;omega
    ·exact hbd n m e e' he he' hb
  ·have hje:es[j]? =some e':=by simpa using g1
   have hjl:j < es.size:=(Zmp.1 hje).1;refine Zt.map h hi ht hlit hE (w':={w with heap:=w.heap.setIfInBounds r (.map (es.modify j fun e=>{e with key:=vk,val:=vv}) clock)}) hlk hL hLb hw.1 hids hw.2 (n:= .skip) ?_ (.inr rfl) rfl ⟨rfl,rfl⟩ (Zge hK hleaf (v:=vp)) (Zgc hK hp hleaf) ?_ ?_ ?_ ?_ (c:=[]) hc.symm
   ·have hst:=ZcL (P:=C.E.prog) hleaf (hkv j e' _ hje g2).1 hkp w;rw[hexec];simp[Instr.mapUpdate,Za hum,getObj,setObj,Sem.run,hb,hck,g4,hje,hst]
   ·rw[ZhM hK hleaf g2];simp[hl]
   ·intro S' hS hF n e q he hq;rw[ZhM hK hleaf g2]at hq;rw[Array.getElem?_modify]at he;split at he
    ·rename_i hjn;subst hjn;rw[hje]at he;simp only[Option.map_some,ZmR]at he;subst he;rw[List.getElem?_set_self (by omega)]at hq;cases hq;exact⟨hkp.mono (fun _ _ _=>rfl) hS,hvp S' hS hF⟩
    ·rename_i hjn;rw[List.getElem?_set_ne hjn]at hq;exact⟨(hkv n e q he hq).1.mono (fun _ _ _=>rfl) hS,(hkv n e q he hq).2.mono (fun _ _ _=>rfl) hS⟩
   ·intro n e he;rw[Array.getElem?_modify]at he;split at he
    ·rename_i hjn;subst hjn;rw[hje]at he;simp only[Option.map_some,ZmR]at he;subst he;exact hborn _ e' hje
    ·exact hborn n e he
   ·have hbm:∀(n:Nat) (e:MapEntry),(es.modify j fun e=>{e with key:=vk,val:=vv})[n]? =some e→∃e0,es[n]? =some e0∧e0.born=e.born:=by
     intro n e he;rw[Array.getElem?_modify]at he;split at he
     ·rename_i hjn;subst hjn;rw[hje]at he;simp only[Option.map_some,ZmR]at he;subst he;exact⟨e',hje,rfl⟩
     ·exact⟨e,he,rfl⟩
    intro n m e1 e2 he1 he2 hb;obtain⟨a1,q1,q2⟩:=hbm n e1 he1;obtain⟨a2,q3,q4⟩:=hbm m e2 he2;exact hbd n m a1 a2 q1 q3 (by omega)
theorem ZjP {it:Operand} (ho:o.op= .next it true) (hc:Zd C.E st.ep i o.op o.type st.slots st.objs=some e) (hw:Zek st e=true):Zt C X st a w i o e:=by
 rw[ho]at hc hlit;simp[Op.operands]at hlit;have h1:=Zi h 0 hlit;simp only[Zd]at hc;split at hc;rotate_left;simp at hc;rename_i id hx;rw[hx]at h1;generalize hv:a.eval it=v at h1;split at hc;rotate_left;simp at hc;rename_i s pos hlk;cases h1 with
 |it _ L b hL hLb=>
 obtain⟨L',hL',b',hLb',hheap,hsl⟩:=h.objs id _ hlk (by simp);rw[hL]at hL';obtain rfl:=ZmQ hL';rw[hLb]at hLb';obtain rfl:=ZmQ hLb';split at hc
 ·rename_i hlt;cases hc;have hfz:st.fz id=false:=by simp only[Zek,Zmt,ZmX,ZmI,forall_eq,ZmW]at hw;exact hw.1
  have hown:=h.own id _ L b hlk (by simp) hL hLb;have hr32:IntKind.i32.min≤((Utf8.decode ⟨s.toArray⟩ pos).1:Int)∧((Utf8.decode ⟨s.toArray⟩ pos).1:Int)≤IntKind.i32.max:=by
   have:=decode_le ⟨s.toArray⟩ pos;have e1:IntKind.i32.min= -2147483648:=by decide
   have e2:IntKind.i32.max=2147483647:=by decide
   omega
  refine⟨.value (.tuple #[.bool true,goInt pos,.int .i32 (Utf8.decode ⟨s.toArray⟩ pos).1]),_,{w with heap:=w.heap.setIfInBounds b (.stringIter ⟨s.toArray⟩ (pos+(Utf8.decode ⟨s.toArray⟩ pos).2))}, ?_,.inl rfl,ρ,
   h.step (v:= .tuple #[.bool true,goInt pos,.int .i32 (Utf8.decode ⟨s.toArray⟩ pos).1]) ρ hi ht (by simp) ⟨rfl,rfl⟩ ?_ ?_ (fun _ _ h=>h) (fun id h=> .inl h) (by simp) (fun _ _ hm=>by simp at hm) (fun _ _ _ _ _ _ _ hm=>by simp at hm) ?_ ?_⟩
  ·simp[execOp,ho,hv,Instr.next,getObj,setObj,Sem.run,hheap,ZaY,hlt]
  ·intro b1 hb1 hne;have hbb:b≠b1:=fun e=>hne id _ L (ZmI.2 rfl) hL (by rw[hLb,e])
   exact Array.getElem?_setIfInBounds_ne hbb
  ·intro id' o' hm;simp only[ZmI,ZmS]at hm;obtain⟨rfl,rfl⟩:=hm;exact⟨hfz,_,hlk,by simp⟩
  ·intro id' o' L1 hm _ hL1 S' hS _;simp only[ZmI,ZmS]at hm;obtain⟨rfl,rfl⟩:=hm;rw[hL]at hL1;obtain rfl:=ZmQ hL1;exact⟨b,hLb,by simp[hown.1],hsl⟩
  ·intro S' _ _ d _;refine .tup _ _ rfl fun j u c hu hc=> ?_
   match j with
   |0=>simp at hu hc;subst hu hc;exact .p _ _ (.bool true)
   |1=>simp at hu hc;subst hu hc;exact .p _ _ (.int _ _ (ZdC (by omega)).1 (ZdC (by omega)).2)
   |2=>simp at hu hc;subst hu hc;exact .p _ _ (.int _ _ hr32.1 hr32.2)
   |j+3=>simp at hc
 ·rename_i hge;cases hc;refine Zt.quiet h hi ht (v:= .tuple #[.bool false]) (by simp[execOp,ho,hv,Instr.next,getObj,Sem.run,hheap,ZaY,hge]) rfl rfl rfl ?_;refine .tup _ _ rfl fun j u c hu hc=> ?_
  match j with
  |0=>simp at hu hc;subst hu hc;exact .p _ _ (.bool false)
  |j+1=>simp at hc
theorem ZiE {it:Operand} (ho:o.op= .entry it) (hc:Zd C.E st.ep i o.op o.type st.slots st.objs=some e):Zt C X st a w i o e:=by
 rw[ho]at hc hlit;simp[Op.operands]at hlit;have h1:=Zi h 0 hlit;simp only[Zd]at hc;split at hc;rotate_left;simp at hc;rename_i id hx;rw[hx]at h1;generalize hv:a.eval it=v at h1;split at hc;rotate_left;simp at hc;rename_i rest k x hlk;cases h1 with
 |it _ L b hL hLb=>
 obtain⟨L',hL',b',hLb',hmit⟩:=h.objs id _ hlk (by simp);rw[hL]at hL';obtain rfl:=ZmQ hL';rw[hLb]at hLb';obtain rfl:=ZmQ hLb';cases hc;rcases hmit with ⟨_,_,_,_,_,hcn⟩ |⟨m,es,clock,seen,kv',hm,hbm,hbr,hl,hr,hborn,hbd,hperm,q,e',he',hq,hback⟩
 ·simp at hcn
 ·have hfind:es.find? (fun e=>e.born == e'.born)=some e':=by
   have hsome:∃y,es.find? (fun e=>e.born == e'.born)=some y:=by
    cases hf:es.find? (fun e=>e.born == e'.born)with
    |some y=>exact⟨y,rfl⟩
    |none=>
     have:=Array.find?_eq_none.1 hf e' (Array.mem_of_getElem? he');simp at this
   obtain⟨y,hy⟩:=hsome;have h1:=Array.find?_some hy;have h2:=Array.mem_of_find?_eq_some hy;obtain⟨n,hn,rfl⟩:=Zmr.1 h2;simp only[beq_iff_eq]at h1;have:=hbd n q es[n] e' (by simp[hn]) he' h1;subst this;rw[hy];simp[hn]at he';rw[he']
  have hrun:(Instr.entry (.pointer (some ⟨b,0,none⟩))).run C.E.prog w= .ok (.tuple #[e'.key,e'.val]) w:=by simp[Instr.entry,getObj,Sem.run,hbr,hbm,hback,hfind]
  refine Zt.quiet h hi ht (v:= .tuple #[e'.key,e'.val]) (by simp only[execOp,ho,hv,Sem.run_bind,hrun,Result.andThen_ok,Sem.run_pure]) rfl rfl rfl ?_;have hkv:=hr q e' _ he' hq;refine .tup _ _ rfl fun j u c hu hc=> ?_
  match j with
  |0=>simp at hu hc;subst hu hc;exact .p _ _ hkv.1
  |1=>simp at hu hc;subst hu hc;exact .p _ _ hkv.2
  |j+2=>simp at hc
theorem Zhc {args:Array Operand} {ats:Array TypeId} (ho:o.op= .call {callee:= .builtin .delete,args,argTypes:=ats}) (hc:Zd C.E st.ep i o.op o.type st.slots st.objs=some e) (hw:Zek st e=true):Zt C X st a w i o e:=by
 have hlit':=hlit;rw[ho]at hc hlit';simp only[Zd,ZI]at hc;unfold Zd2 at hc;split at hc<;>(try simp only[reduceCtorEq]at hc);rename_i t ts id k hds hlen;have hats:ats[0]? =some t:=by rw[←ZmU,hds];rfl
 obtain⟨hl,hr⟩:=Zae h args.toList ats.toList (fun x hx=>by simp[Op.operands,Call.operands]at hlit';obtain⟨j,hj,rfl⟩:=Zmr.1 (Zms.1 hx);exact hlit' j hj)
 rw[hlen]at hl hr;split at hc<;>(try simp only[reduceCtorEq]at hc);rename_i kt el td kv kp htd hlk hk;split at hc<;>(try simp only[reduceCtorEq]at hc);rename_i hcnd;simp only[Zmt]at hcnd;obtain⟨hs,hleaf⟩:=hcnd;simp only[ZmR]at hc;obtain⟨ti,hty,htid⟩:∃ti,C.E.ty t=some ti∧ti.d= .map kt el:=by unfold Env.td at htd;split at htd;rotate_left;simp at htd;rename_i ti hti;exact⟨ti,hti,by simpa using htd⟩
 have hum:=hE.map hty htid;obtain⟨d,hud,hkd⟩:=hE.key hty htid hs
 match hxx:args.toList,hl with
 | [xm0,xk0],_=>
  rw[hxx]at hr;have hrm:=hr 0 (a.eval xm0) (.map id) rfl rfl;have hrk:=hr 1 (a.eval xk0) k rfl rfl;have hargs:args.map a.eval= #[a.eval xm0,a.eval xk0]:=by rw[←ZmV (xs:=args),hxx];simp
  generalize a.eval xk0=vk at hargs hrk;generalize a.eval xm0=vm at hargs hrm;have hkp:RelP w S vk kp:=Zfs (S:=fun _=>True) hleaf (Zaz (S':=fun _=>True) h.objs (fun _ _=>trivial) 1 _ _ _ hrk hk (fun _ _ _ _ _ _=>trivial));obtain⟨csb,hx⟩:=ZA (a:=a) (w:=w) (P:=C.E.prog) ho;cases hrm with
  |map _ L r hL hLb=>
   have hw':=hw;rw[←hc]at hw';simp only[Zek,Zmt,ZmX,ZmI,forall_eq,ZmW,decide_eq_true_eq]at hw';obtain⟨L',hL',r',hr',es,clock,kv',hb,hp,hl,hkv,hd2,hkey,hborn,hbd⟩:=h.objs id _ hlk (by simp);rw[hL]at hL';obtain rfl:=ZmQ hL';rw[hLb]at hr';obtain rfl:=ZmQ hr';have hK:Zfa td kv':=⟨hd2,hkey⟩;have hck:=Zar hud hkd es.isEmpty vk w;rcases Zb3 (es:=es.toList) hud hkd hleaf hkp (by simpa using hl) hK (fun i e q he hq=>(hkv i e q (by simpa using he) hq).1)with ⟨g1,g2⟩ |⟨j,e',v',g1,g2,g3,g4⟩
   ·refine Zt.map h hi ht hlit hE (w':={w with heap:=w.heap.setIfInBounds r (.map es clock)}) (fs:=[]) hlk hL hLb hw'.1 (by simp) (by simp) (n:= .value (.tuple #[])) ?_ (.inl rfl) rfl ⟨rfl,rfl⟩ (Zgi hK kp) (Zgg hp kp) ?_ ?_ hborn hbd (c:=[]) hc.symm
    ·rw[hx,hargs];refine ZfW ?_;simp[Builtin.delete_,hats,Za hum,getObj,setObj,Sem.run,hb,hck,g2]
    ·rw[Zgh g1];exact hl
    ·intro S' hS _ n e q he hq;rw[Zgh g1]at hq;exact⟨(hkv n e q he hq).1.mono (fun _ _ _=>rfl) hS,(hkv n e q he hq).2.mono (fun _ _ _=>rfl) hS⟩
   ·have hje:es[j]? =some e':=by simpa using g1
    have hjl:j < es.size:=(Zmp.1 hje).1;have her:∀n,(es.eraseIdxIfInBounds j)[n]? =if n < j then es[n]? else es[n+1]? :=by
     intro n;have hsub:(es.eraseIdxIfInBounds j).toList=es.toList.eraseIdx j:=by unfold Array.eraseIdxIfInBounds;simp[hjl]
     rw[←ZmU,hsub,List.getElem?_eraseIdx];simp
    refine Zt.map h hi ht hlit hE (w':={w with heap:=w.heap.setIfInBounds r (.map (es.eraseIdxIfInBounds j) clock)}) (fs:=[]) hlk hL hLb hw'.1 (by simp) (by simp) (n:= .value (.tuple #[])) ?_ (.inl rfl) rfl ⟨rfl,rfl⟩ (Zgi hK kp) (Zgg hp kp) ?_ ?_ ?_ ?_ (c:=[]) hc.symm
    ·rw[hx,hargs];refine ZfW ?_;simp[Builtin.delete_,hats,Za hum,getObj,setObj,Sem.run,hb,hck,g4]
    ·rw[ZhN hK hleaf g2];have:(es.eraseIdxIfInBounds j).size=es.size - 1:=by unfold Array.eraseIdxIfInBounds;simp[hjl]
     rw[this,List.length_eraseIdx,if_pos (by omega),hl]
    ·intro S' hS _ n e q he hq;rw[ZhN hK hleaf g2,List.getElem?_eraseIdx]at hq;rw[her]at he;split at he
     ·rename_i hn;rw[if_pos hn]at hq;exact⟨(hkv n e q he hq).1.mono (fun _ _ _=>rfl) hS,(hkv n e q he hq).2.mono (fun _ _ _=>rfl) hS⟩
     ·rename_i hn;rw[if_neg hn]at hq;exact⟨(hkv _ e q he hq).1.mono (fun _ _ _=>rfl) hS,(hkv _ e q he hq).2.mono (fun _ _ _=>rfl) hS⟩
    ·intro n e he;rw[her]at he;split at he
     ·exact hborn _ e he
     ·exact hborn _ e he
    ·intro n m e1 e2 he1 he2 hb;rw[her]at he1 he2;split at he1<;>split at he2
     ·exact hbd n m e1 e2 he1 he2 hb
     ·have:=hbd n (m+1) e1 e2 he1 he2 hb;omega
     ·have:=hbd (n+1) m e1 e2 he1 he2 hb;omega
     ·have:=hbd (n+1) (m+1) e1 e2 he1 he2 hb;omega
end
end
end Eng
namespace Eng
open Go
section
variable {C:Ctx} {X:Nat→Prop} {ρ:Id→Option Lay} {S:Nat→Prop} {st:St} {a:Act} {w:World} {i:Nat} {o:Oper} {e:Eff}
theorem Za9 {E:Env} (h:Zda E o=true):∀d,o.dst=some d→d < E.nt:=fun d hd'=>by unfold Zda at h;rw[hd']at h;simpa using h
theorem does (h:Rep C X ρ S st a.tmps w) (hi:¬X i) (hok:Zfj C.E o=true) (hE:Zk C.E)
  (hc:Zd C.E st.ep i o.op o.type st.slots st.objs=some e) (hw:Zek st e=true) (hcond:∀q∈e.cond,q=true):Zt C X st a w i o e:=by
 simp only[Zfj,Zmt]at hok;obtain⟨hd,hlit⟩:=hok;have ht:=Za9 hd;cases ho:o.op with
 |move x=>exact ZjQ h hi ht hlit ho hc
 |assign x=>exact Zhd h hi ht hlit ho hc
 |pick c x y=>exact ZjO h hi ht hlit ho hc
 |alloc t=>exact ZiH h hi ht hE ho hc
 |box t x=>exact ZkM h hi ht hlit hE ho hc
 |build t ps=>exact ZiF h hi ht hlit hE ho hc
 |buildSlice t n ps=>exact Zd1 h hi ht hlit hE ho hc
 |insert t m k v=>exact ZbU h hi ht hlit hE (.inr ho) hc hw
 |load t x=>exact ZjR h hi ht hlit hE ho hc
 |store t x y=>exact Ziz h hi ht hlit hE ho hc hw
 |nilCheck x=>exact ZfA h hi ht hlit ho hc
 |binOp b t x y u=>exact ZiG h hi ht hlit hE ho hc hcond
 |unOp u t x=>exact ZjN h hi ht hlit ho hc hcond
 |convert s t x=>exact Zgr h hi ht hlit hE ho hc hcond
 |makeFunc f fs cs=>exact ZfB h hi ht hlit ho hc
 |makeMap t r=>
  cases r with
  |none=>exact Zgp h hi ht ho hc
  |some r=>rw[ho]at hc;simp[Zd]at hc
 |makeSlice t l c=>exact Zeq h hi ht hlit hE ho hc hcond
 |slice t x lo hi' mx=>exact ZiA h hi ht hlit hE ho hc hcond
 |fieldAddr t x f=>exact Zes h hi ht hlit hE ho hc
 |field t x f=>exact ZiD h hi ht hlit hE ho hc
 |indexAddr t x ix=>exact Zer h hi ht hlit hE ho hc hcond
 |index t x ix=>exact ZiC h hi ht hlit hE ho hc hcond
 |lookup t m k ok=>exact Zhb h hi ht hlit hE ho hc
 |mapUpdate t m k v=>exact ZbU h hi ht hlit hE (.inl ho) hc hw
 |range t x=>exact ZiB h hi ht hlit hE ho hc
 |next it s=>
  cases s with
  |true=>exact ZjP h hi ht hlit hE ho hc hw
  |false=>rw[ho]at hc;simp[Zd]at hc
 |entry it=>exact ZiE h hi ht hlit hE ho hc
 |extract x n=>exact Zgq h hi ht hlit ho hc
 |call c=>
  obtain⟨cal,args,ats⟩:=c;cases cal with
  |builtin b=>
   cases b with
   |len=>exact ZkL h hi ht hlit hE ho hc hcond
   |append=>exact Zhe h hi ht hlit hE ho hc hcond hw
   |copy=>exact ZjT h hi ht hlit hE ho hc hw
   |max=>exact ZkK h hi ht hlit ho hc
   |min=>exact ZkJ h hi ht hlit ho hc
   |delete=>exact Zhc h hi ht hlit hE ho hc hw
   |_=>rw[ho]at hc;simp[Zd,ZI]at hc
  |_=>rw[ho]at hc;simp[Zd]at hc
 |_=>rw[ho]at hc;simp[Zd]at hc
end
end Eng
namespace Eng
open Go
def Zcj (r:Option Nat):Fence:={fn:=fun _=>True,depth:=none,alive:=false,round:=r}
theorem Zx (P:Program) (r:Option Nat) (m:Machine):m.fenced P (Zcj r):=by
 intro g _;refine⟨fun h=> ?_,Or.inl trivial,fun _ _=>trivial,fun _ h=> ?_⟩
 ·simp[Zcj]at h
 ·simp[Zcj]at h
def conc:Item→Go.Item
 | .c c=> .code c
 | .blk id=> .inBlock id
 | .lp c=> .inLoop c
 | .ops ops i=> .inRegion ops (List.range' i (ops.size - i))
def Xof:List Item→Nat→Prop
 | .ops _ i::_=>fun j=>j < i
 |_=>fun _=>False
abbrev Zj8:=Exit→Act→World→Prop
structure Fm where
 r:Option Nat
 ds:List Deferred
def AWP (C:Ctx) (r:Fm) (G:Zj8) (k:List Item) (st:St):Prop:=
 ∀ρ S a w,Rep C (Xof k) ρ S st a.tmps w→a.defers=r.ds→
  ∀(b:Frame) (k0:List Go.Item) (cs:List Frame),b.roundOf=r.r→
   ∃e a' w',G e a' w'∧ArrivesIn (Machine.fenced C.E.prog (Zcj r.r)) C.E.prog (lone (b.atR a (k.map conc++k0)) cs w) b k0 cs e a' w'
theorem Rep.weakX {C:Ctx} {X X':Nat→Prop} {ρ:Id→Option Lay} {S:Nat→Prop} {st:St} {tm:Array Value} {w:World} (h:Rep C X ρ S st tm w) (hX:∀j,X j→X' j):Rep C X' ρ S st tm w:=
 {h with young:=fun id hn=>(h.young id hn).imp (fun h=>h) fun⟨h1,h2⟩=>⟨h1,hX _ h2⟩}
theorem Rep.nextEp {C:Ctx} {X:Nat→Prop} {ρ:Id→Option Lay} {S:Nat→Prop} {st:St} {tm:Array Value} {w:World} (h:Rep C X ρ S st tm w):Rep C (fun _=>False) ρ S st.next tm w:=
 {h with
  young:=by
   intro id hn;rcases h.young id hn with h1 |⟨h1,_⟩
   ·exact .inl (Nat.lt_succ_of_lt h1)
   ·exact .inl (h1▸Nat.lt_succ_self _)
  ep1:=Nat.le_succ_of_le h.ep1}
section
variable {C:Ctx} {r:Fm} {G:Zj8}
theorem Zco {k k1:List Item} {st st1:St}
  (h:∀ρ S a w,Rep C (Xof k) ρ S st a.tmps w→a.defers=r.ds→∃ρ' S' a' w',Rep C (Xof k1) ρ' S' st1 a'.tmps w'∧a'.defers=r.ds∧
   ∀(b:Frame) (k0:List Go.Item) (cs:List Frame),b.roundOf=r.r→StepsIn (Machine.fenced C.E.prog (Zcj r.r)) C.E.prog (lone (b.atR a (k.map conc++k0)) cs w) (lone (b.atR a' (k1.map conc++k0)) cs w'))
  (h1:AWP C r G k1 st1):AWP C r G k st:=by
 intro ρ S a w hr hd b k0 cs hb;obtain⟨ρ',S',a',w',hr',hd',hs⟩:=h ρ S a w hr hd;obtain⟨e,a2,w2,hg,harr⟩:=h1 ρ' S' a' w' hr' hd' b k0 cs hb;exact⟨e,a2,w2,hg,.of_steps (hs b k0 cs hb) harr⟩
theorem Zbx {k k1:List Item} {st:St} (hX:∀j,Xof k j→Xof k1 j)
  (h:∀(a:Act) (w:World) (b:Frame) (k0:List Go.Item) (cs:List Frame),step C.E.prog (lone (b.atR a (k.map conc++k0)) cs w)= .next (lone (b.atR a (k1.map conc++k0)) cs w))
  (h1:AWP C r G k1 st):AWP C r G k st:=
 Zco (fun ρ S a w hr hd=>⟨ρ,S,a,w,hr.weakX hX,hd,fun b k0 cs _=> .one (Zx _ _ _) (h a w b k0 cs)⟩) h1
theorem ZaU {id:Nat}:∀{k k':List Item} {k0:List Go.Item},Zaj id k=some k'→exitTo id (k.map conc++k0)=some (k'.map conc++k0)
 | [],_,_,h=>by simp[Zaj]at h
 |x::k,k',k0,h=>by
  cases x with
  |blk j=>
   simp only[Zaj]at h;split at h
   ·rename_i hj;simp only[ZmR]at h;subst h hj;simp[exitTo,conc]
   ·rename_i hj;have:(j == id)=false:=by simpa using hj
    simp only[ZmD,ZmZ,conc,exitTo,this,Bool.false_eq_true,if_false];exact ZaU h
  |c _=>simp only[Zaj]at h;simp only[ZmD,ZmZ,conc,exitTo];exact ZaU h
  |ops _ _=>simp only[Zaj]at h;simp only[ZmD,ZmZ,conc,exitTo];exact ZaU h
  |lp _=>simp only[Zaj]at h;simp only[ZmD,ZmZ,conc,exitTo];exact ZaU h
@[simp] theorem Zme (a:Act) (d:Option Tmp) (v:Value):(a.put d v).defers=a.defers:=by cases d<;>rfl
theorem ZaS {ρ:Id→Option Lay} {S:Nat→Prop} {X:Nat→Prop} {st:St} {a:Act} {w:World} (h:Rep C X ρ S st a.tmps w) {ops:Array Oper} {o:Oper} {v:Bool} (hg:ZQ ops st o.guard=some v):
  Region.wanted o (yielded ops a.tmps)=v:=by
 unfold Region.wanted;cases hgd:o.guard with
 |none=>rw[hgd]at hg;simp[ZQ]at hg;simp[hg]
 |some gw=>
  obtain⟨g,wv⟩:=gw;rw[hgd]at hg;simp only[ZQ]at hg;simp only[yielded];cases hb:(ops[g]?).bind (·.dst)with
  |none=>rw[hb]at hg;simp at hg;subst hg;simp
  |some t=>
   rw[hb]at hg;dsimp only at hg;have hs:=h.slots t;split at hg
   ·rename_i b hst;cases hg;rw[hst]at hs;have:=hs.of_p.bool_inv;simp only[Zni];cases hq:a.tmps[t]? with
    |none=>simp[hq]at this;simp[undef]at this
    |some v=>simp[hq]at this;subst this;simp
   ·rename_i hst;cases hg;rw[hst]at hs;generalize hv:a.tmps.getD t undef=v at hs;cases hs;simp only[Zni];cases hq:a.tmps[t]? with
    |none=>simp
    |some v=>simp[hq]at hv;subst hv;simp[undef]
   ·simp at hg
theorem Za1 {n i:Nat} (h:i < n):List.range' i (n - i)=i::List.range' (i+1) (n - (i+1)):=by
 have:n - i=(n - (i+1))+1:=by omega
 rw[this,List.range'_succ]
theorem Zld {ops:Array Oper} {i:Nat} {o:Oper} {k:List Item} {st:St} {e:Eff} (hE:Zk C.E) (ho:ops[i]? =some o) (hg:ZQ ops st o.guard=some true)
  (hc:Zd C.E st.ep i o.op o.type st.slots st.objs=some e) (hok:Zfj C.E o=true) (hw:Zek st e=true) (hcond:∀q∈e.cond,q=true)
  (h1:AWP C r G (.ops ops (i+1)::k) (st.app i o.dst e)):AWP C r G (.ops ops i::k) st:=by
 have hi:i < ops.size:=(Zmp.1 ho).1;refine Zco (fun ρ S a w hr hd=> ?_) h1;have hr':Rep C (fun j=>j < i) ρ S st a.tmps w:=hr;obtain⟨n,v,w',hrun,hn,ρ',S',hrep⟩:=does hr' (by omega) hok hE hc hw hcond;have hwant:=ZaS hr' hg;refine⟨ρ',S',a.put o.dst v,w',hrep.weakX (fun j hj=> ?_),by simp[hd],fun b k0 cs hb=> ?_⟩
 ·simp only[Xof];omega
 ·have hsem:o.semAt b.roundOf a.eval=execOp a.eval o:=Oper.semAt_eq _ _ _ (fun c hc'=>by rw[hc']at hc;simp[Zd]at hc);have hst:=stepGR_op (P:=C.E.prog) (b:=b) (a:=a) (k:=k.map conc++k0) (cs:=cs) (w:=w) (i:=i) (rest:=List.range' (i+1) (ops.size - (i+1))) ho hwant;have hfin:=Frame.finish_atR b a ops i (List.range' (i+1) (ops.size - (i+1))) (k.map conc++k0) v;simp only[ho,Zni]at hfin;refine .one (Zx _ _ _) ?_;simp only[ZmD,ZmZ,conc,Za1 hi];refine step_lone_go ?_;rw[hst,hsem,←hfin];rcases hn with rfl |⟨rfl,rfl⟩<;>simp[stepG.apply,hrun]
theorem ZkQ {ops:Array Oper} {i:Nat} {o:Oper} {k:List Item} {st:St} (ho:ops[i]? =some o) (hg:ZQ ops st o.guard=some false) (ht:∀d,o.dst=some d→d < C.E.nt)
  (h1:AWP C r G (.ops ops (i+1)::k) (st.setO o.dst .undef)):AWP C r G (.ops ops i::k) st:=by
 have hi:i < ops.size:=(Zmp.1 ho).1;refine Zco (fun ρ S a w hr hd=> ?_) h1;have hr':Rep C (fun j=>j < i) ρ S st a.tmps w:=hr;have hwant:=ZaS hr' hg;obtain⟨S',hrep⟩:=hr'.step (i:=i) (t:=o.dst) (e:={val:= .undef}) (v:=undef) (w':=w) ρ (by omega) ht (ZmL _) (ZS.refl _) (fun _ _ _=>rfl) (by simp) (fun _ _ h=>h) (fun id h=> .inl h) (by simp) (fun _ _ hm=>by simp at hm) (fun _ _ _ _ _ _ _ hm=>by simp at hm) (by simp) (fun _ _ _ _ _=> .undef);refine⟨ρ,S',a.put o.dst undef,w, ?_,by simp[hd],fun b k0 cs hb=> ?_⟩
 ·have:st.app i o.dst {val:= .undef}=st.setO o.dst .undef:=by simp[St.app,St.objL,St.freezeL]
  rw[←this];exact hrep.weakX (fun j hj=>by simp only[Xof];omega)
 ·have hst:=stepR_op_skip (P:=C.E.prog) (b:=b) (a:=a) (k:=k.map conc++k0) (cs:=cs) (w:=w) (ops:=ops) (i:=i) (rest:=List.range' (i+1) (ops.size - (i+1))) (by simp[ho,hwant]);simp only[ho,Zni]at hst;refine .one (Zx _ _ _) ?_;simp only[ZmD,ZmZ,conc,Za1 hi];exact hst
theorem Zkq {E:Env}:∀(n:Nat) (k:List Item) (st:St) (ps:List Bool) {k':List Item} {st':St} {ps':List Bool},run E n k st ps=some (k',st',ps')→∀p∈ps,p∈ps':=by
 intro n
 induction n with
 |zero=>intro k st ps k' st' ps' h;simp only[run,ZmR,ZmS]at h;obtain⟨rfl,rfl,rfl⟩:=h;exact fun _ h=>h
 |succ n ih=>
  intro k st ps k' st' ps' h p hp
  match k with
  | []=>simp[run]at h
  | .c c::k=>
   cases c with
   |region id ops dr=>cases dr<;>simp only[run,reduceCtorEq]at h;exact ih _ _ _ h p hp
   |cond c x y=>
    simp only[run]at h;split at h;rotate_left;simp at h;split at h
    ·exact ih _ _ _ h p hp
    ·exact ih _ _ _ h p hp
    ·simp at h
   |exit id=>
    simp only[run]at h;split at h;rotate_left;simp at h;exact ih _ _ _ h p hp
   |_=>first |(simp only[run]at h;exact ih _ _ _ h p hp) |simp[run]at h
  | .blk id::k=>simp only[run]at h;exact ih _ _ _ h p hp
  | .lp x::k=>simp only[run]at h;exact ih _ _ _ h p hp
  | .ops ops i::k=>
   simp only[run]at h;split at h
   ·exact ih _ _ _ h p hp
   ·split at h
    ·split at h;rotate_left;simp at h;exact ih _ _ _ h p (Zm8 _ hp)
    ·split at h;rotate_left;simp at h;exact ih _ _ _ h p hp
    ·simp at h
theorem Zak (hE:Zk C.E):∀(n:Nat) (k:List Item) (st:St) (ps:List Bool) {k':List Item} {st':St} {ps':List Bool},run C.E n k st ps=some (k',st',ps')→
  (∀p∈ps',p=true)→AWP C r G k' st'→AWP C r G k st:=by
 intro n
 induction n with
 |zero=>intro k st ps k' st' ps' h _ h1;simp only[run,ZmR,ZmS]at h;obtain⟨rfl,rfl,rfl⟩:=h;exact h1
 |succ n ih=>
  intro k st ps k' st' ps' h hp h1;have grow:= @Zkq C.E
  match k with
  | []=>simp[run]at h
  | .c c::k=>
   cases c with
   |skip=>simp only[run]at h;exact Zbx (k1:=k) (fun _ h=>h.elim) (fun a w b k0 cs=>stepR_skip) (ih _ _ _ h hp h1)
   |seq x y=>simp only[run]at h;exact Zbx (k1:= .c x:: .c y::k) (fun _ h=>h.elim) (fun a w b k0 cs=>stepR_seq) (ih _ _ _ h hp h1)
   |block id x=>simp only[run]at h;exact Zbx (k1:= .c x:: .blk id::k) (fun _ h=>h.elim) (fun a w b k0 cs=>stepR_block) (ih _ _ _ h hp h1)
   |loop x=>simp only[run]at h;exact Zbx (k1:= .c x:: .lp x::k) (fun _ h=>h.elim) (fun a w b k0 cs=>stepR_loop) (ih _ _ _ h hp h1)
   |region id ops dr=>
    cases dr with
    |true=>simp[run]at h
    |false=>
     simp only[run]at h;refine Zbx (k1:= .ops ops 0::k) (fun _ h=>h.elim) (fun a w b k0 cs=> ?_) (ih _ _ _ h hp h1);have:=stepR_region (P:=C.E.prog) (b:=b) (a:=a) (k:=k.map conc++k0) (cs:=cs) (w:=w) (ops:=ops) (id:=id);simpa[conc,List.range_eq_range']using this
   |cond c x y=>
    simp only[run]at h;have go:∀t:Bool,ev C.E st.slots 0 c= .p (.bool t)→Zz c=true→AWP C r G (.c (if t then x else y)::k) st→AWP C r G (.c (.cond c x y)::k) st:=by intro t ht hl h2;refine Zco (fun ρ S a w hr hd=>⟨ρ,S,a,w,hr.weakX (fun _ h=>h.elim),hd,fun b k0 cs _=> .one (Zx _ _ _) ?_⟩) h2;have:=Zi hr 0 hl;rw[ht]at this;exact stepR_cond this.of_p.bool_inv
    split at h;rotate_left;simp at h;rename_i hl;split at h
    ·rename_i hv;exact go true hv hl (ih _ _ _ h hp h1)
    ·rename_i hv;exact go false hv hl (ih _ _ _ h hp h1)
    ·simp at h
   |exit id=>
    simp only[run]at h;split at h;rotate_left;simp at h;rename_i k2 hk;exact Zbx (k1:=k2) (fun _ h=>h.elim) (fun a w b k0 cs=>stepR_exit (ZaU hk)) (ih _ _ _ h hp h1)
   |_=>simp[run]at h
  | .blk id::k=>simp only[run]at h;exact Zbx (k1:=k) (fun _ h=>h.elim) (fun a w b k0 cs=>stepR_inBlock) (ih _ _ _ h hp h1)
  | .lp x::k=>simp only[run]at h;exact Zbx (k1:= .c x:: .lp x::k) (fun _ h=>h.elim) (fun a w b k0 cs=>stepR_inLoop) (ih _ _ _ h hp h1)
  | .ops ops i::k=>
   simp only[run]at h;split at h
   ·
    rename_i hn;refine Zco (fun ρ S a w hr hd=>⟨ρ,S,a,w,(Rep.nextEp hr).weakX (fun _ h=>h.elim),hd,fun b k0 cs _=> .one (Zx _ _ _) ?_⟩) (ih _ _ _ h hp h1);have hi:ops.size≤i:=by simpa using hn
    have:ops.size - i=0:=by omega
    simp only[ZmD,ZmZ,conc,this,List.range'_zero];exact stepR_region_end
   ·rename_i o ho;split at h
    ·rename_i hg;split at h;rotate_left;simp at h;rename_i st2 qs hro;unfold runOp at hro;split at hro;rotate_left;simp at hro;rename_i e hc;split at hro;rotate_left;simp at hro;rename_i hok;simp only[Zmt]at hok;simp only[ZmR,ZmS]at hro;obtain⟨rfl,rfl⟩:=hro;exact Zld hE ho hg hc hok.2 hok.1 (fun q hq=>hp q (grow _ _ _ _ h q (Zm9 _ hq))) (ih _ _ _ h hp h1)
    ·rename_i hg;split at h;rotate_left;simp at h;rename_i hd;exact ZkQ ho hg (Za9 hd) (ih _ _ _ h hp h1)
    ·simp at h
end
end Eng
namespace Eng
open Go
theorem Rep.stepN {C:Ctx} {X:Nat→Prop} {ρ:Id→Option Lay} {S:Nat→Prop} {st:St} {a:Act} {w:World} (h:Rep C X ρ S st a.tmps w)
  {i:Nat} {t:Option Nat} {e:Eff} {v:Value} {w':World} (ρ':Id→Option Lay) (N:Nat→Prop)
  (hN:∀b,N b→b < w'.heap.size∧(w.heap.size≤b∨∃id o' L',(id,Obj.gone)∈e.wr∧st.objs id=some o'∧o'≠ .gone∧ρ id=some L'∧L'.blk=some b∧(∀o'',(id,o'')∈e.wr→o''= .gone)))
  (hNm:∀k o L b,(k,o)∈e.new→ρ' (st.ep,i,k)=some L→L.blk=some b→¬N b)
  (hi:¬X i) (ht:∀d,t=some d→d < C.E.nt)
  (size:w.heap.size≤w'.heap.size) (hq:ZS w w')
  (keep:∀b,b < w.heap.size→(∀id o L,(id,o)∈e.wr→ρ id=some L→L.blk≠some b)→w'.heap[b]? =w.heap[b]?)
  (wr:∀id o,(id,o)∈e.wr→st.fz id=false∧∃o',st.objs id=some o'∧o'≠ .gone)
  (hρ:∀id L,ρ id=some L→ρ' id=some L)
  (hnew:∀id,ρ' id≠none→ρ id≠none∨(id.1=st.ep∧id.2.1=i))
  (frz:∀id,id∈e.frz→ρ id≠none∧∀o',(id,o')∈e.wr→o'≠ .gone)
  (made:∀k o,(k,o)∈e.new→∃L,ρ' (st.ep,i,k)=some L∧(∀b,L.blk=some b→
   (w.heap.size≤b∨∃id o' L',(id,Obj.gone)∈e.wr∧st.objs id=some o'∧o'≠ .gone∧ρ id=some L'∧L'.blk=some b∧(∀o'',(id,o'')∈e.wr→o''= .gone))∧b < w'.heap.size)∧
   ∀S',(∀b,N b→S' b)→(∀b,S b→S' b)→(∀id,id∈e.frz→∀o L b,st.objs id=some o→o≠ .gone→ρ id=some L→L.blk=some b→S' b)→o≠ .gone→ZB w' S' ρ' L o)
  (apart:∀k o L k' o' L' b,(k,o)∈e.new→o≠ .gone→ρ' (st.ep,i,k)=some L→L.blk=some b→(k',o')∈e.new→o'≠ .gone→ρ' (st.ep,i,k')=some L'→L'.blk=some b→k=k')
  (changed:∀id o L,(id,o)∈e.wr→o≠ .gone→ρ id=some L→∀S',(∀b,N b→S' b)→(∀b,S b→S' b)→(∀id,id∈e.frz→∀o L b,st.objs id=some o→o≠ .gone→ρ id=some L→L.blk=some b→S' b)→ZB w' S' ρ' L o)
  (val:∀S',(∀b,N b→S' b)→(∀b,S b→S' b)→(∀id,id∈e.frz→∀o L b,st.objs id=some o→o≠ .gone→ρ id=some L→L.blk=some b→S' b)→(∀d,t=some d→RelD w' S' ρ' v e.val)):
  ∃S',Rep C (fun j=>X j∨j=i) ρ' S' (st.app i t e) (a.put t v).tmps w':=by
 let S':Nat→Prop:=fun b=>(S b∨N b)∨∃id o L,id∈e.frz∧st.objs id=some o∧o≠ .gone∧ρ id=some L∧L.blk=some b
 have hSS:∀b,S b→S' b:=fun b hb=> .inl (.inl hb)
 have hNS:∀b,N b→S' b:=fun b hb=> .inl (.inr hb)
 have hwrS:∀b,S b→∀id o L,(id,o)∈e.wr→ρ id=some L→L.blk≠some b:=fun b hb id o L hm hL hbl=>by obtain⟨hf,o',ho',hg⟩:=wr id o hm;exact((h.own id o' L b ho' hg hL hbl).2.2.2 hf) hb
 have kp:Zcx S w w':=fun b hb _=>keep b (h.sIn b hb) (hwrS b hb)
 have hnot:∀k,st.objs (st.ep,i,k)=none:=fun k=>by
  cases hc:st.objs (st.ep,i,k)with
  |none=>rfl
  |some o=>
   have:=h.young _ (h.known (st.ep,i,k) (by simp[hc]));simp[hi]at this
 have old:∀id o L,st.objs id=some o→o≠ .gone→(∀o',(id,o')∉e.wr)→ρ id=some L→∀b,L.blk=some b→w'.heap[b]? =w.heap[b]? :=by
  intro id o L ho hg hnw hL b hb;refine keep b (h.own id o L b ho hg hL hb).1 fun id' o' L' hm hL' hb'=> ?_
  obtain⟨_,o'',ho'',hg''⟩:=wr id' o' hm;have:=h.inj id o L id' o'' L' b ho hg hL hb ho'' hg'' hL' hb';subst this;exact hnw o' hm
 have rold:∀id L,ρ id≠none→ρ' id=some L→ρ id=some L:=fun id L hn hL=>by
  cases hc:ρ id with
  |none=>exact absurd hc hn
  |some L0=>have:=hρ id L0 hc;rw[hL]at this;rw[this]
 have fresh:∀k,ρ (st.ep,i,k)=none:=fun k=>by
  cases hc:ρ (st.ep,i,k)with
  |none=>rfl
  |some L=>have:=h.young (st.ep,i,k) (by simp[hc]);simp[hi]at this
 have one:∀id o L id' o' L' b,st.objs id=some o→o≠ .gone→ρ id=some L→L.blk=some b→st.objs id'=some o'→o'≠ .gone→ρ id'=some L'→L'.blk=some b→id=id':=h.inj;refine⟨S',⟨?_,by have:=h.grow;omega, ?_,fun b hb=> .inl (.inl (h.s0 b hb)), ?_, ?_, ?_, ?_, ?_, ?_, ?_, ?_,fun g cs hm=>(h.glob g cs hm).mono kp hSS, ?_,by rw[Zcu];exact h.ep1,h.quiet.trans hq, ?_⟩⟩
 ·rw[←h.nt];cases t<;>simp[Act.put]
 ·intro b hb hl;rw[←h.frame b hb hl];refine keep b (by have:=h.grow;omega) fun id o L hm hL hbl=> ?_
  obtain⟨_,o',ho',hg⟩:=wr id o hm;rcases(h.own id o' L b ho' hg hL hbl).2.1 with h1 |h1
  ·omega
  ·exact hl h1
 ·intro b hb;rcases hb with (hb |hb) |⟨id,o,L,hm,ho,hg,hL,hbl⟩
  ·have:=h.sIn b hb;omega
  ·exact(hN b hb).1
  ·have:=(h.own id o L b ho hg hL hbl).1;omega
 ·intro k;rw[ZaI,ZhR a t v k (fun d hd=>by rw[h.nt];exact ht d hd)]
  by_cases hk:t=some k
  ·simp only[hk,if_true];exact val S' hNS hSS (fun id hm o L b ho hg hL hbl=> .inr ⟨id,o,L,hm,ho,hg,hL,hbl⟩) k hk
  ·simp only[hk,if_false];exact(h.slots k).mono kp hSS hρ
 ·intro id o ho hg;rcases Z3 st i t e id o ho with ⟨k,rfl,hm⟩ |hm |⟨hnw,ho⟩
  ·obtain⟨L,hL,_,hr⟩:=made k o hm;exact⟨L,hL,hr S' hNS hSS (fun id hm o L b ho hg hL hbl=> .inr ⟨id,o,L,hm,ho,hg,hL,hbl⟩) hg⟩
  ·obtain⟨_,o',ho',hg'⟩:=wr id o hm;obtain⟨L,hL,_⟩:=h.objs id o' ho' hg';exact⟨L,hρ _ _ hL,changed id o L hm hg hL S' hNS hSS (fun id hm o L b ho hg hL hbl=> .inr ⟨id,o,L,hm,ho,hg,hL,hbl⟩)⟩
  ·obtain⟨L,hL,hr⟩:=h.objs id o ho hg;exact⟨L,hρ _ _ hL,hr.mono kp hSS hρ (old id o L ho hg hnw hL)⟩
 ·intro id o L b ho hg hL hbl;rw[Zee];rcases Z3 st i t e id o ho with ⟨k,rfl,hm⟩ |hm |⟨hnw,ho⟩
  ·obtain⟨L',hL',hb,_⟩:=made k o hm;rw[hL]at hL';obtain rfl:=ZmQ hL';obtain⟨hbn,hblt⟩:=hb b hbl;have hnf:st.fz (st.ep,i,k)=false:=by
    cases hc:st.fz (st.ep,i,k)with
    |false=>rfl
    |true=>exact absurd (fresh k) (h.fzk _ hc)
   have hnc:(st.ep,i,k)∉e.frz:=fun hm'=>(frz _ hm').1 (fresh k)
   have hnS':¬S' b:=by
    rintro((hS |hS) |⟨id1,o1,L1,hm1,ho1,hg1,hL1,hb1⟩)
    ·rcases hbn with hbn |⟨id',o',L',hm',ho',hg',hL',hb',_⟩
     ·have:=h.sIn b hS;omega
     ·exact(h.own id' o' L' b ho' hg' hL' hb').2.2.2 (wr _ _ hm').1 hS
    ·exact hNm k o L b hm hL hbl hS
    ·rcases hbn with hbn |⟨id',o',L',hm',ho',hg',hL',hb',_⟩
     ·have:=(h.own id1 o1 L1 b ho1 hg1 hL1 hb1).1;omega
     ·have:=one _ _ _ _ _ _ _ ho1 hg1 hL1 hb1 ho' hg' hL' hb';subst this;exact(frz _ hm1).2 _ hm' rfl
   refine⟨hblt, ?_,fun hf=> ?_,fun _=>hnS'⟩
   ·rcases hbn with hbn |⟨id',o',L',hm',ho',hg',hL',hb',_⟩
    ·have:=h.grow;exact .inl (by omega)
    ·exact(h.own id' o' L' b ho' hg' hL' hb').2.1
   ·simp[hnf,hnc]at hf
  ·obtain⟨hf0,o',ho',hg'⟩:=wr id o hm;have hL0:=rold id L (h.known id (by simp[ho'])) hL;obtain⟨h1,h2,h3,h4⟩:=h.own id o' L b ho' hg' hL0 hbl;refine⟨by omega,h2,fun hf=> ?_,fun hfz'=> ?_⟩
   ·simp only[hf0,Bool.or_false,Zm0]at hf;exact .inr ⟨id,o',L,hf,ho',hg',hL0,hbl⟩
   have hnc:id∉e.frz:=fun hm'=>by simp[hm']at hfz'
   rintro((hS |hS) |⟨id1,o1,L1,hm1,ho1,hg1,hL1,hb1⟩)
   ·exact h4 hf0 hS
   ·rcases(hN b hS).2 with hbn |⟨idg,og,Lg,q1,q2,q3,q4,q5,q6⟩
    ·omega
    ·have:=one _ _ _ _ _ _ _ q2 q3 q4 q5 ho' hg' hL0 hbl;subst this;exact hg (q6 _ hm)
   ·have:=one _ _ _ _ _ _ _ ho1 hg1 hL1 hb1 ho' hg' hL0 hbl;subst this;exact hnc hm1
  ·have hL0:=rold id L (h.known id (by simp[ho])) hL;obtain⟨h1,h2,h3,h4⟩:=h.own id o L b ho hg hL0 hbl;refine⟨by omega,h2,fun hf=> ?_,fun hf=> ?_⟩
   ·simp only[Bool.or_eq_true,Zm0]at hf;rcases hf with hf |hf
    ·exact .inr ⟨id,o,L,hf,ho,hg,hL0,hbl⟩
    ·exact .inl (.inl (h3 hf))
   ·simp only[Bool.or_eq_false_iff]at hf;rintro((hS |hS) |⟨id1,o1,L1,hm1,ho1,hg1,hL1,hb1⟩)
    ·exact h4 hf.2 hS
    ·rcases(hN b hS).2 with hbn |⟨idg,og,Lg,q1,q2,q3,q4,q5,q6⟩
     ·omega
     ·have:=one _ _ _ _ _ _ _ q2 q3 q4 q5 ho hg hL0 hbl;subst this;exact hnw _ q1
    ·have:=one _ _ _ _ _ _ _ ho1 hg1 hL1 hb1 ho hg hL0 hbl;subst this;have:=hf.1;simp[hm1]at this
 ·
  have newOld:∀k o L id' o' L' b,(k,o)∈e.new→o≠ .gone→ρ' (st.ep,i,k)=some L→L.blk=some b→(st.app i t e).objs id'=some o'→o'≠ .gone→
    ((id',o')∈e.wr∨((∀o'',(id',o'')∉e.wr)∧st.objs id'=some o'))→ρ' id'=some L'→L'.blk=some b→False:=by
   intro k o L id' o' L' b hm hg hL hbl _ hg' hcase hL' hbl';obtain⟨L0,hL0,hb,_⟩:=made k o hm;rw[hL]at hL0;obtain rfl:=ZmQ hL0;have hpres:∃o1,st.objs id'=some o1∧o1≠ .gone:=by
    rcases hcase with hc |hc
    ·exact(wr _ _ hc).2
    ·exact⟨o',hc.2,hg'⟩
   obtain⟨o1,ho1,hg1⟩:=hpres;have hL1:=rold id' L' (h.known id' (by simp[ho1])) hL';rcases(hb b hbl).1 with hbn |⟨id2,o2,L2,hm2,ho2,hg2,hL2,hb2,hall⟩
   ·have:=(h.own id' o1 L' b ho1 hg1 hL1 hbl').1;omega
   ·have:=one _ _ _ _ _ _ _ ho1 hg1 hL1 hbl' ho2 hg2 hL2 hb2;subst this;rcases hcase with hc |hc
    ·exact hg' (hall _ hc)
    ·exact hc.1 _ hm2
  intro id o L id' o' L' b ho hg hL hbl ho' hg' hL' hbl';rcases Z3 st i t e id o ho with ⟨k,rfl,hm⟩ |hc
  ·rcases Z3 st i t e id' o' ho' with ⟨k',rfl,hm'⟩ |hc'
   ·rw[apart k o L k' o' L' b hm hg hL hbl hm' hg' hL' hbl']
   ·exact(newOld k o L id' o' L' b hm hg hL hbl ho' hg' hc' hL' hbl').elim
  ·rcases Z3 st i t e id' o' ho' with ⟨k',rfl,hm'⟩ |hc'
   ·exact(newOld k' o' L' id o L b hm' hg' hL' hbl' ho hg hc hL hbl).elim
   ·have pres:∀id o,o≠ .gone→((id,o)∈e.wr∨((∀o'',(id,o'')∉e.wr)∧st.objs id=some o))→∃o1,st.objs id=some o1∧o1≠ .gone:=by
     intro id o hg hc;rcases hc with hc |hc
     ·exact(wr _ _ hc).2
     ·exact⟨o,hc.2,hg⟩
    obtain⟨o1,ho1,hg1⟩:=pres id o hg hc;obtain⟨o2,ho2,hg2⟩:=pres id' o' hg' hc';exact one _ _ _ _ _ _ _ ho1 hg1 (rold id L (h.known id (by simp[ho1])) hL) hbl ho2 hg2 (rold id' L' (h.known id' (by simp[ho2])) hL') hbl'
 ·intro id hn;cases ho:(st.app i t e).objs id with
  |none=>exact absurd ho hn
  |some o=>
   rcases Z3 st i t e id o ho with ⟨k,rfl,hm⟩ |hm |⟨_,ho⟩
   ·obtain⟨L,hL,_⟩:=made k o hm;simp[hL]
   ·obtain⟨_,o',ho',_⟩:=wr id o hm;have:=h.known id (by simp[ho']);cases hc:ρ id with
    |none=>exact absurd hc this
    |some L=>simp[hρ _ _ hc]
   ·have:=h.known id (by simp[ho]);cases hc:ρ id with
    |none=>exact absurd hc this
    |some L=>simp[hρ _ _ hc]
 ·intro id hn;rw[Zcu];rcases hnew id hn with h1 |⟨h1,h2⟩
  ·rcases h.young id h1 with h2 |⟨h2,h3⟩
   ·exact .inl h2
   ·exact .inr ⟨h2,.inl h3⟩
  ·exact .inr ⟨h1,.inr h2⟩
 ·intro id hf;rw[Zee]at hf;simp only[Bool.or_eq_true,Zm0]at hf;have:ρ id≠none:=by
   rcases hf with hf |hf
   ·exact(frz id hf).1
   ·exact h.fzk id hf
  cases hc:ρ id with
  |none=>exact absurd hc this
  |some L=>simp[hρ _ _ hc]
 ·intro b hb;rcases hb with (hb |hb) |⟨id,o,L,hm,ho,hg,hL,hbl⟩
  ·exact h.sOut b hb
  ·rcases(hN b hb).2 with hbn |⟨idg,og,Lg,q1,q2,q3,q4,q5,q6⟩
   ·have:=h.grow;exact .inr (.inl (by omega))
   ·exact .inr (h.own _ _ _ b q2 q3 q4 q5).2.1
  ·exact .inr (h.own id o L b ho hg hL hbl).2.1
 ·intro k L hk hn;rcases hnew _ hn with h1 |⟨h1,_⟩
  ·exact hρ _ _ (h.lay k L hk h1)
  ·have:=h.ep1;simp only at h1;omega
end Eng
namespace Eng
open Go
def ren (pi:List (Id×Id)) (old:Id):Option Id:=
 match pi with
 | []=>none
 |(n,o)::r=>if o=old then some n else ren r old
def D.pur (lk:Id→Option Obj) (fz:Id→Bool) (d:D):Option D:=
 if (d.ids lk depth).all fz then match d.toP lk depth with |some x=>some (.p x) |none=>none else none
def D.can (lk:Id→Option Obj) (fz:Id→Bool) (pi:List (Id×Id)):Nat→D→Option D
 |_,.p x=>some (.p x)
 |_,.dead=>some .dead
 |_,.val v=>some (.val v)
 |_,.undef=>some .undef
 |_,.anyb=>some .anyb
 |_,.nils sz=>some (.nils sz)
 |_,.clip sz es=>some (.clip sz es)
 |_,.sl id off len=>match ren pi id with
  |some id'=>some (.sl id' off len)
  |none=>D.pur lk fz (.sl id off len)
 |_,.map id=>match ren pi id with
  |some id'=>some (.map id')
  |none=>D.pur lk fz (.map id)
 |_,.it id=>match ren pi id with
  |some id'=>some (.it id')
  |none=>none
 |_,.ptr id i j=>match ren pi id with
  |some id'=>some (.ptr id' i j)
  |none=>D.pur lk fz (.ptr id i j)
 |n+1,.agg cs=>match Zm (D.can lk fz pi n) cs with
  |some ds=>some (.mkAgg ds)
  |none=>none
 |n+1,.tup cs=>match Zm (D.can lk fz pi n) cs with
  |some ds=>some (.tup ds)
  |none=>none
 |n+1,.fn f a b=>match Zm (D.can lk fz pi n) a,Zm (D.can lk fz pi n) b with
  |some a',some b'=>some (match Zm D.pure? a',Zm D.pure? b' with
   |some x,some y=> .p (.fn f x y)
   |_,_=> .fn f a' b')
  |_,_=>none
 |_,_=>none
def Obj.can (lk:Id→Option Obj) (fz:Id→Bool) (pi:List (Id×Id)):Obj→Option Obj
 | .box cs=>match Zm (D.can lk fz pi depth) cs with
  |some ds=>some (.box ds)
  |none=>none
 | .arr sz es fix=>some (.arr sz es fix)
 | .map td kv=>some (.map td kv)
 | .sit s pos=>some (.sit s pos)
 | .mit rest cur=>some (.mit rest cur)
 | .gone=>none
def ZW (pi:List (Id×Id)) (ρ:Id→Option Lay):Id→Option Lay:=fun id=>match Ze pi id with
 |some old=>ρ old
 |none=>none
def Zam {α:Type} [DecidableEq α]:List α→Bool
 | []=>true
 |a::r=>r.all (fun b=>decide (b≠a))&&Zam r
def Zf0 (st:St) (pi:List (Id×Id)) (ep:Nat):Bool:=
 Zam (pi.map (·.1))&&Zam (pi.map (·.2))&&pi.all fun x=>decide (x.1.1 < ep)&& !st.fz x.2
theorem ZY {α β:Type} [DecidableEq α]:∀{l:List (α×β)} {a:α} {b:β},Ze l a=some b→(a,b)∈l
 | [],a,b,h=>by simp[Ze]at h
 |(x,y)::r,a,b,h=>by
  simp only[Ze]at h;split at h
  ·rename_i he;simp only[ZmR]at h;subst he h;exact ZmG
  ·exact Zna _ (ZY h)
theorem Zad {α β:Type} [DecidableEq α]:∀{l:List (α×β)} {a:α} {b:β},Zam (l.map (·.1))=true→(a,b)∈l→Ze l a=some b
 | [],a,b,_,h=>by simp at h
 |(x,y)::r,a,b,hn,h=>by
  simp only[ZmD,Zam,Zmt]at hn;simp only[Ze];rcases ZmF.1 h with h |h
  ·simp only[ZmS]at h;obtain⟨rfl,rfl⟩:=h;simp
  ·have hne:a≠x:=by have:=ZmX.1 hn.1 a (Znc.2 ⟨(a,b),h,rfl⟩);simpa using this
   rw[if_neg hne];exact Zad hn.2 h
theorem Zjn {pi:List (Id×Id)} {old new:Id} (h:ren pi old=some new):(new,old)∈pi:=by
 induction pi with
 |nil=>simp[ren]at h
 |cons x r ih=>
  obtain⟨n,o⟩:=x;simp only[ren]at h;split at h
  ·rename_i he;simp only[ZmR]at h;subst he h;exact ZmG
  ·exact Zna _ (ih h)
theorem Zf5 {pi:List (Id×Id)} (h:Zam (pi.map (·.2))=true) {a b o:Id} (h1:(a,o)∈pi) (h2:(b,o)∈pi):a=b:=by
 induction pi with
 |nil=>simp at h1
 |cons x r ih=>
  obtain⟨n,o'⟩:=x;simp only[ZmD,Zam,Zmt]at h;have hne:∀c,(c,o)∈r→o≠o':=fun c hc=>by have:=ZmX.1 h.1 o (Znc.2 ⟨(c,o),hc,rfl⟩);simpa using this
  rcases ZmF.1 h1 with h1 |h1<;>rcases ZmF.1 h2 with h2 |h2
  ·simp only[ZmS]at h1 h2;rw[h1.1,h2.1]
  ·simp only[ZmS]at h1;exact absurd h1.2 (hne _ h2)
  ·simp only[ZmS]at h2;exact absurd h2.2 (hne _ h1)
  ·exact ih h.2 h1 h2
section
variable {C:Ctx} {X:Nat→Prop} {ρ:Id→Option Lay} {S:Nat→Prop} {st:St} {tm:Array Value} {w:World}
theorem ZgR (h:Rep C X ρ S st tm w) {v:Value} {d d':D} (hr:RelD w S ρ v d) (hp:D.pur st.objs st.fz d=some d') {ρ':Id→Option Lay}:RelD w S ρ' v d':=by unfold D.pur at hp;split at hp;rotate_left;simp at hp;rename_i hall;split at hp;rotate_left;simp at hp;rename_i x hx;cases hp;refine .p _ _ (Zaz (S':=S) h.objs (fun _ h=>h) depth _ _ _ hr hx fun id hid L b hL hb=> ?_);obtain⟨o,q1,q2⟩:=Zbj depth _ _ hx id hid;exact(h.own id o L b q1 q2 hL hb).2.2.1 (ZmX.1 hall id hid)
theorem ZjY (h:Rep C X ρ S st tm w) {pi:List (Id×Id)} (hn:Zam (pi.map (·.1))=true):∀(n:Nat) (v:Value) (d d':D),RelD w S ρ v d→d.can st.objs st.fz pi n=some d'→RelD w S (ZW pi ρ) v d':=by
 have hρ:∀{old new:Id} {L:Lay},ren pi old=some new→ρ old=some L→ZW pi ρ new=some L:=by intro old new L hr hL;simp only[ZW,Zad hn (Zjn hr)];exact hL
 have base:∀(n:Nat) (v:Value) (d d':D),(∀cs,d≠ .agg cs)→(∀cs,d≠ .tup cs)→(∀f a b,d≠ .fn f a b)→RelD w S ρ v d→d.can st.objs st.fz pi n=some d'→RelD w S (ZW pi ρ) v d':=by
  intro n v d d' h1 h2 h3 hr hc;cases hr with
  |p v x hp=>cases n<;>simp[D.can]at hc<;>subst hc<;>exact .p _ _ hp
  |dead v=>cases n<;>simp[D.can]at hc<;>subst hc<;>exact .dead _
  |val v=>cases n<;>simp[D.can]at hc<;>subst hc<;>exact .val _
  |undef=>cases n<;>simp[D.can]at hc<;>subst hc<;>exact .undef
  |anyb b=>cases n<;>simp[D.can]at hc<;>subst hc<;>exact .anyb _
  |nils sz=>cases n<;>simp[D.can]at hc<;>subst hc<;>exact .nils _
  |clip a m sz es hp=>cases n<;>simp[D.can]at hc<;>subst hc<;>exact .clip _ _ _ _ hp
  |agg vs cs=>exact absurd rfl (h1 cs)
  |tup vs cs=>exact absurd rfl (h2 cs)
  |fn f fs cs a b=>exact absurd rfl (h3 f a b)
  |sl id off len cap a L hL hl hm hcp ha=>
   have hc:(match ren pi id with |some id'=>some (D.sl id' off len) |none=>D.pur st.objs st.fz (.sl id off len))=some d':=by cases n<;>exact hc
   split at hc
   ·rename_i id' hid;cases hc;exact .sl id' off len cap a L (hρ hid hL) hl hm hcp ha
   ·exact ZgR h (.sl id off len cap a L hL hl hm hcp ha) hc
  |ptr id i j L b hL hi hb=>
   have hc:(match ren pi id with |some id'=>some (D.ptr id' i j) |none=>D.pur st.objs st.fz (.ptr id i j))=some d':=by cases n<;>exact hc
   split at hc
   ·rename_i id' hid;cases hc;exact .ptr id' i j L b (hρ hid hL) hi hb
   ·exact ZgR h (.ptr id i j L b hL hi hb) hc
  |map id L b hL hb=>
   have hc:(match ren pi id with |some id'=>some (D.map id') |none=>D.pur st.objs st.fz (.map id))=some d':=by cases n<;>exact hc
   split at hc
   ·rename_i id' hid;cases hc;exact .map id' L b (hρ hid hL) hb
   ·exact ZgR h (.map id L b hL hb) hc
  |it id L b hL hb=>
   have hc:(match ren pi id with |some id'=>some (D.it id') |none=>none)=some d':=by cases n<;>exact hc
   split at hc;rotate_left;simp at hc;rename_i id' hid;cases hc;exact .it id' L b (hρ hid hL) hb
 intro n
 induction n with
 |zero=>
  intro v d d' hr hc;refine base 0 v d d' ?_ ?_ ?_ hr hc
  all_goals (intros;intro he;subst he;simp[D.can]at hc)
 |succ n ih=>
  intro v d d' hr hc;cases hr with
  |agg vs cs hl h1 hh=>
   simp only[D.can]at hc;split at hc;rotate_left;simp at hc;rename_i ds hds;cases hc;obtain⟨q1,q2⟩:=Zj hds;refine Zf7 (by omega) fun j u d hu hd=>⟨?_,h1 j u hu⟩
   have hj:j < cs.length:=by have:=(Zmp.1 hu).1;omega
   exact ih _ _ _ (hh j u cs[j] hu (by simp[hj])) (q2 j cs[j] d (by simp[hj]) hd)
  |tup vs cs hl hh=>
   simp only[D.can]at hc;split at hc;rotate_left;simp at hc;rename_i ds hds;cases hc;obtain⟨q1,q2⟩:=Zj hds;refine .tup _ _ (by omega) fun j u d hu hd=> ?_
   have hj:j < cs.length:=by have:=(Zmp.1 hu).1;omega
   exact ih _ _ _ (hh j u cs[j] hu (by simp[hj])) (q2 j cs[j] d (by simp[hj]) hd)
  |fn f fs cs a b hf hcl hh hh'=>
   simp only[D.can]at hc;split at hc;rotate_left;simp at hc;rename_i a' b' ha hb;cases hc;obtain⟨q1,q2⟩:=Zj ha;obtain⟨q3,q4⟩:=Zj hb;have e1:∀(j:Nat) u d,fs[j]? =some u→a'[j]? =some d→RelD w S (ZW pi ρ) u d:=fun j u d hu hd=>by
    have hj:j < a.length:=by have:=(Zmp.1 hu).1;omega
    exact ih _ _ _ (hh j u a[j] hu (by simp[hj])) (q2 j a[j] d (by simp[hj]) hd)
   have e2:∀(j:Nat) u d,cs[j]? =some u→b'[j]? =some d→RelD w S (ZW pi ρ) u d:=fun j u d hu hd=>by
    have hj:j < b.length:=by have:=(Zmp.1 hu).1;omega
    exact ih _ _ _ (hh' j u b[j] hu (by simp[hj])) (q4 j b[j] d (by simp[hj]) hd)
   split
   ·rename_i x y hx hy;have hx':=Zu hx;have hy':=Zu hy;subst hx' hy';simp only[List.length_map]at q1 q3;refine .p _ _ (.fn f fs cs x y (by omega) (by omega) (fun j u c hu hc=> ?_) (fun j u c hu hc=> ?_))
    ·exact(e1 j u (.p c) hu (by simp[hc])).of_p
    ·exact(e2 j u (.p c) hu (by simp[hc])).of_p
   ·exact .fn f fs cs a' b' (by omega) (by omega) e1 e2
  |_=>exact base (n+1) _ _ d' (by simp) (by simp) (by simp) (by constructor<;>assumption) hc
theorem Zim (h:Rep C X ρ S st tm w) {pi:List (Id×Id)} (hn:Zam (pi.map (·.1))=true) {L:Lay} {o o':Obj} (hr:ZB w S ρ L o) (hc:o.can st.objs st.fz pi=some o'):ZB w S (ZW pi ρ) L o':=by
 cases o with
 |box cs=>
  simp only[Obj.can]at hc;split at hc;rotate_left;simp at hc;rename_i ds hds;cases hc;obtain⟨q1,q2⟩:=Zj hds;obtain⟨b,r1,r2,r3,r4⟩:=hr;refine⟨b,r1,by omega,r3,fun j d hd=> ?_⟩;have hj:j < cs.length:=by have:=(ZmA.1 hd).1;omega
  obtain⟨v,s1,s2,s3,s4⟩:=r4 j cs[j] (by simp[hj]);exact⟨v,s1,s2,s3,ZjY h hn _ _ _ _ s4 (q2 j cs[j] d (by simp[hj]) hd)⟩
 |arr sz es fix=>simp only[Obj.can,ZmR]at hc;subst hc;exact hr
 |map td kv=>simp only[Obj.can,ZmR]at hc;subst hc;exact hr
 |sit s pos=>simp only[Obj.can,ZmR]at hc;subst hc;exact hr
 |mit rest cur=>simp only[Obj.can,ZmR]at hc;subst hc;exact hr
 |gone=>simp[Obj.can]at hc
theorem Obj.can_gone {lk:Id→Option Obj} {fz:Id→Bool} {pi:List (Id×Id)} {o o':Obj} (hc:o.can lk fz pi=some o'):o≠ .gone∧o'≠ .gone:=by
 cases o<;>simp[Obj.can]at hc<;>refine⟨by simp, ?_⟩
 ·split at hc<;>simp at hc;subst hc;simp
 all_goals (subst hc;simp)
def Zl1 (st:St) (pi:List (Id×Id)):Option (List Obj):=Zm (fun x=>match st.objs x.2 with |some o=>o.can st.objs st.fz pi |none=>none) pi
def ZhG (pi:List (Id×Id)) (os:List Obj):Id→Option Obj:=Ze ((pi.map (·.1)).zip os)
theorem ZeH:∀{pi:List (Id×Id)} {os:List Obj} {id:Id} {o:Obj},ZhG pi os id=some o→∃(j:Nat) (old:Id),pi[j]? =some (id,old)∧os[j]? =some o
 | [],os,id,o,h=>by simp[ZhG,Ze]at h
 |x::r,[],id,o,h=>by simp[ZhG,Ze]at h
 |(n,old)::r,u::os,id,o,h=>by
  simp only[ZhG,ZmD,List.zip_cons_cons,Ze]at h;split at h
  ·rename_i he;simp only[ZmR]at h;subst he h;exact⟨0,old,rfl,rfl⟩
  ·obtain⟨j,old',q1,q2⟩:=ZeH (pi:=r) (os:=os) h;exact⟨j+1,old',by simpa using q1,by simpa using q2⟩
theorem Rep.select (h:Rep C X ρ S st tm w) {pi:List (Id×Id)} {ep:Nat} {st':St} {tm':Array Value} {C':Ctx}
  (hpi:Zf0 st pi ep=true) (hobj:∀new o',st'.objs new=some o'→∃old o,(new,old)∈pi∧st.objs old=some o∧o≠ .gone∧∀L,ρ old=some L→ZB w S ρ L o→ZB w S (ZW pi ρ) L o')
  (hE:C'.E.globs=C.E.globs) (hnt:tm'.size=C'.E.nt)
  (hqt:ZS C'.W w) (hgrow:C'.H.size≤w.heap.size) (hframe:∀b,b < C'.H.size→¬C'.Lt b→w.heap[b]? =C'.H[b]?) (hs0:∀b,C'.S0 b→S b)
  (hlt:∀new old o L b,(new,old)∈pi→st.objs old=some o→o≠ .gone→ρ old=some L→L.blk=some b→C'.H.size≤b∨C'.Lt b)
  (hfz:∀id,st'.fz id=false) (hep:st'.ep=ep) (hep1:1≤ep) (hslots:∀k,RelD w S (ZW pi ρ) (tm'.getD k undef) (st'.slots k))
  (hsO:∀b,S b→C'.S0 b∨C'.H.size≤b∨C'.Lt b) (hlay:∀k L,C'.lays k=some L→ZW pi ρ (0,k,0)≠none→ZW pi ρ (0,k,0)=some L):
  Rep C' (fun _=>False) (ZW pi ρ) S st' tm' w:=by
 simp only[Zf0,Zmt,ZmX,decide_eq_true_eq,ZmW]at hpi;obtain⟨⟨hn1,hn2⟩,hall⟩:=hpi;have hrho:∀{new old:Id},(new,old)∈pi→ZW pi ρ new=ρ old:=fun hm=>by simp only[ZW,Zad hn1 hm]
 refine⟨hnt,hgrow,hframe,hs0,h.sIn,hslots, ?_, ?_, ?_, ?_, ?_, ?_, ?_,hsO,hep▸hep1,hqt,hlay⟩
 ·intro id o' ho hg;obtain⟨old,o,q1,q2,q3,q4⟩:=hobj id o' ho;obtain⟨L,hL,hr⟩:=h.objs old o q2 q3;exact⟨L,by rw[hrho q1];exact hL,q4 L hL hr⟩
 ·intro id o' L b ho hg hL hb;obtain⟨old,o,q1,q2,q3,q4⟩:=hobj id o' ho;rw[hrho q1]at hL;obtain⟨r1,r2,r3,r4⟩:=h.own old o L b q2 q3 hL hb;have hf:=(hall _ q1).2;refine⟨r1,hlt id old o L b q1 q2 q3 hL hb,fun hq=> ?_,fun _=>r4 hf⟩;rw[hfz id]at hq;simp at hq
 ·intro id o1 L id' o2 L' b ho hg hL hb ho' hg' hL' hb';obtain⟨old,o,q1,q2,q3,q4⟩:=hobj id o1 ho;obtain⟨old',o',r1,r2,r3,r4⟩:=hobj id' o2 ho';rw[hrho q1]at hL;rw[hrho r1]at hL';have:=h.inj old o L old' o' L' b q2 q3 hL hb r2 r3 hL' hb';subst this;exact Zf5 hn2 q1 r1
 ·intro id hne;cases ho:st'.objs id with
  |none=>exact absurd ho hne
  |some o'=>
   obtain⟨old,o,q1,q2,q3,q4⟩:=hobj id o' ho;rw[hrho q1];exact h.known old (by simp[q2])
 ·intro id hne;left;rw[hep];unfold ZW at hne;cases hq:Ze pi id with
  |none=>rw[hq]at hne;simp at hne
  |some old=>exact(hall _ (ZY hq)).1
 ·intro id hf;rw[hfz id]at hf;simp at hf
 ·intro g cs hm;exact h.glob g cs (hE▸hm)
def mkS (ep:Nat) (ls:List (Nat×D)) (lo:List (Id×Obj)):St:={slots:=Zal .dead ls,objs:=Ze lo,fz:=fun _=>false,ep:=ep}
theorem ZaG {α β:Type} [DecidableEq α] (d:β):∀(l:List (α×β)) (a:α),Zal d l a=d∨(a,Zal d l a)∈l
 | [],a=> .inl rfl
 |(x,y)::r,a=>by
  simp only[Zal];split
  ·rename_i he;subst he;exact .inr ZmG
  ·exact(ZaG d r a).imp (fun h=>h) fun h=>Zna _ h
def Zk3 (pi:List (Id×Id)):Bool:=pi.all fun x=>decide (x.1.2.2≠0)||decide (x.1=x.2)
theorem Rep.canon (h:Rep C X ρ S st tm w) {pi:List (Id×Id)} {ep:Nat} {ls:List Nat} {ds:List D} {os:List Obj} (hep:1≤ep) (hpi:Zf0 st pi ep=true) (hkeep:Zk3 pi=true) (hos:Zl1 st pi=some os)
  (hds:Zm (fun t=>(st.slots t).can st.objs st.fz pi depth) ls=some ds):Rep C (fun _=>False) (ZW pi ρ) S (mkS ep (ls.zip ds) ((pi.map (·.1)).zip os)) tm w:=by
 have hn1:Zam (pi.map (·.1))=true:=by simp only[Zf0,Zmt]at hpi;exact hpi.1.1
 obtain⟨hol,hoi⟩:=Zj hos;obtain⟨hdl,hdi⟩:=Zj hds;refine h.select hpi ?_ rfl h.nt h.quiet h.grow h.frame h.s0 (fun new old o L b _ q2 q3 q4 q5=>(h.own old o L b q2 q3 q4 q5).2.1) (fun _=>rfl) rfl hep ?_ h.sOut ?_
 ·intro new o' ho;obtain⟨j,old,q1,q2⟩:=ZeH ho;have:=hoi j _ _ q1 q2;have hm:=Zne q1;dsimp only at this;split at this;rotate_left;simp at this;rename_i o hoo;exact⟨old,o,hm,hoo,(Obj.can_gone this).1,fun L _ hr=>Zim h hn1 hr this⟩
 ·intro k;rcases ZaG D.dead (ls.zip ds) k with hk |hk
  ·show RelD _ _ _ _ (Zal D.dead (ls.zip ds) k);rw[hk];exact .dead _
  ·obtain⟨j,hj⟩:=List.mem_iff_getElem?.1 hk;rw[List.getElem?_zip_eq_some]at hj;have:=hdi j _ _ hj.1 hj.2;exact ZjY h hn1 _ _ _ _ (h.slots k) this
 ·intro k L hk hn;unfold ZW at hn⊢
  cases hq:Ze pi (0,k,0)with
  |none=>rw[hq]at hn;simp at hn
  |some old=>
   rw[hq]at hn;have hm:=ZY hq;have:=ZmX.1 hkeep _ hm;simp only[ne_eq,not_true_eq_false,decide_false,Bool.false_or,decide_eq_true_eq]at this;subst this;exact h.lay k L hk hn
end
def Zle:List Bool→Prop
 | []=>True
 | [a]=>a=true
 |a::r=>a=true∧Zle r
theorem Zdn:∀{l:List Bool},Zle l→∀p∈l,p=true
 | [],_,p,hp=>by simp at hp
 | [a],h,p,hp=>by simp at hp;subst hp;exact h
 |a::b::r,h,p,hp=>by
  rcases ZmF.1 hp with rfl |hp
  ·exact h.1
  ·exact Zdn h.2 p hp
section
variable {C:Ctx} {r:Fm} {G:Zj8}
end
end Eng
namespace Eng
open Go
inductive Arg where
 |p (x:P)
 |box (cs:List P)
 |arr (sz:Nat) (es:List P)
 |map (td:TD) (kv:List (P×P))
 |part (sz:Nat) (es:List P) (off len:Nat)
 deriving Inhabited
inductive RV where
 |p (x:P)
 |own (sz:Nat) (es:List P)
 |box (cs:List P)
 |map (td:TD) (kv:List (P×P))
 |view (k off len:Nat)
 deriving Inhabited
structure Ret where
 res:List RV
 outs:List (Nat×Arg):=[]
 deriving Inhabited
def Arg.d (k:Nat):Arg→D
 | .p x=> .p x
 | .box _=> .ptr (0,k,0) 0 0
 | .arr _ es=> .sl (0,k,0) 0 es.length
 | .map _ _=> .map (0,k,0)
 | .part _ _ off len=> .sl (0,k,0) off len
def Arg.o:Arg→Option Obj
 | .p _=>none
 | .box cs=>some (.box (cs.map .p))
 | .arr sz es=>some (.arr sz es false)
 | .map td kv=>some (.map td kv)
 | .part sz es _ _=>some (.arr sz es false)
def ZcT:Nat→List Arg→List (Nat×D)
 |_,[]=>[]
 |k,a::r=>(k,a.d k)::ZcT (k+1) r
def Zdd:Nat→List Arg→List (Id×Obj)
 |_,[]=>[]
 |k,a::r=>match a.o with
  |some o=>((0,k,0),o)::Zdd (k+1) r
  |none=>Zdd (k+1) r
def Zew (args:List Arg):St:=mkS 1 (ZcT 0 args) (Zdd 0 args)
def RV.d (j:Nat):RV→D
 | .p x=> .p x
 | .own _ es=> .sl (1,j,0) 0 es.length
 | .box _=> .ptr (1,j,0) 0 0
 | .map _ _=> .map (1,j,0)
 | .view k off len=> .sl (0,k,0) off len
def RV.o:RV→Option Obj
 | .own sz es=>some (.arr sz es false)
 | .box cs=>some (.box (cs.map .p))
 | .map td kv=>some (.map td kv)
 |_=>none
def Zkb:Nat→List RV→List (Nat×D)
 |_,[]=>[]
 |j,x::r=>(j,x.d j)::Zkb (j+1) r
def ZhB:Nat→List RV→List (Id×Obj)
 |_,[]=>[]
 |j,x::r=>match x.o with
  |some o=>((1,j,0),o)::ZhB (j+1) r
  |none=>ZhB (j+1) r
def Zc7:List (Nat×Arg)→List (Id×Obj)
 | []=>[]
 |(k,a)::r=>match a.o with
  |some o=>((0,k,0),o)::Zc7 r
  |none=>Zc7 r
def ZcC (ret:Ret):St:=mkS 2 (Zkb 0 ret.res) (ZhB 0 ret.res++Zc7 ret.outs)
def ZgJ (vs:Array Value):Value:=if h:vs.size=1 then vs[0]else .tuple vs
def Env.at (E:Env) (n:Nat):Env:={E with nt:=n}
def FunB (E:Env) (f:Nat) (args:List Arg) (ret:Ret):Prop:=
 (∃fn,E.prog.funcs[f]? =some fn∧(fn.name == "runtime.NumGoroutine")=false∧fn.body.isNone=false)∧
 ∀(w:World) (Lt S:Nat→Prop) (lays:Nat→Option Lay) (ρ:Id→Option Lay) (vals:Array Value),vals.size=args.length→
  Rep ⟨E.at vals.size,w,Lt,S,lays⟩ (fun _=>False) ρ S (Zew args) vals w→
  CallsIn (Zcj none) 0 E.prog f vals w fun e w'=>∃vs ρ' S',e= .returned (ZgJ vs)∧vs.size=ret.res.length∧
   Rep ⟨E.at vs.size,w,Lt,S,lays⟩ (fun _=>False) ρ' S' (ZcC ret) vs w'
def FunX (E:Env) (f:Nat) (args:List Arg) (ret:Ret):Prop:=
 (∃fn,E.prog.funcs[f]? =some fn∧fn.body.isNone=true)∧
 ∀(w:World) (Lt S:Nat→Prop) (lays:Nat→Option Lay) (ρ:Id→Option Lay) (vals:Array Value),vals.size=args.length→
  Rep ⟨E.at vals.size,w,Lt,S,lays⟩ (fun _=>False) ρ S (Zew args) vals w→
  ∃vs ρ' S' w',(callFunc f vals).run E.prog w= .ok (.value (ZgJ vs)) w'∧vs.size=ret.res.length∧
   Rep ⟨E.at vs.size,w,Lt,S,lays⟩ (fun _=>False) ρ' S' (ZcC ret) vs w'
def Fun (E:Env) (f:Nat) (args:List Arg) (ret:Ret):Prop:=FunB E f args ret∨FunX E f args ret
def Zih (C:Ctx) (fn:Func) (ret:Ret):Zj8:=fun e a w'=>
 (e= .normal∨e= .ret)∧a.defers=[]∧∃vs ρ' S',(results fn a.tmps).run C.E.prog w'= .ok (ZgJ vs) w'∧vs.size=ret.res.length∧
  Rep ⟨C.E.at vs.size,C.W,C.Lt,C.S0,C.lays⟩ (fun _=>False) ρ' S' (ZcC ret) vs w'
theorem Ziy {E:Env} {f:Nat} {fn:Func} {c:Code} {args:List Arg} {ret:Ret} (hf:E.prog.funcs[f]? =some fn) (hn:(fn.name == "runtime.NumGoroutine")=false) (hb:fn.body=some c) (hl:args.length≤fn.ntmps)
  (h:∀W Lt S0 lays,AWP ⟨E.at fn.ntmps,W,Lt,S0,lays⟩ ⟨none,[]⟩ (Zih ⟨E.at fn.ntmps,W,Lt,S0,lays⟩ fn ret) [.c c] (Zew args)):Fun E f args ret:=by
 refine .inl ⟨⟨fn,hf,hn,by rw[hb];rfl⟩,fun w Lt S lays ρ vals hv hrep=> ?_⟩;refine callsIn_of_wp hf hb trivial ?_ rfl;intro b k cs hro _ _;have hrep':Rep ⟨E.at fn.ntmps,w,Lt,S,lays⟩ (Xof [.c c]) ρ S (Zew args) (vals++Array.replicate (fn.ntmps - vals.size) undef) w:=by
  refine⟨by simp[Env.at];omega,hrep.grow,hrep.frame,hrep.s0,hrep.sIn,fun k=> ?_,hrep.objs,hrep.own,hrep.inj,hrep.known,fun id hn=>(hrep.young id hn).imp (fun h=>h) (fun h=>h.2.elim),hrep.fzk,hrep.glob,hrep.sOut,hrep.ep1,hrep.quiet,hrep.lay⟩;have:=hrep.slots k;have e:(vals++Array.replicate (fn.ntmps - vals.size) undef).getD k undef=vals.getD k undef:=by
   simp only[Array.getD_eq_getD_getElem?,ZmT];split
   ·rfl
   ·rename_i hk;rw[Array.getElem?_eq_none (Nat.le_of_not_lt hk),Array.getElem?_replicate];split<;>rfl
  rw[e];exact this
 obtain⟨e,a',w',⟨he,hd,vs,ρ',S',hres,hvs,hr⟩,harr⟩:=h w Lt S lays ρ S {tmps:=vals++Array.replicate (fn.ntmps - vals.size) undef,defers:=[]} w hrep' rfl b k cs hro;refine⟨e,a',w', ?_,harr⟩;have:a'.defers=[]∧∃v,(results fn a'.tmps).run E.prog w'= .ok v w'∧∃vs ρ' S',Ending.returned v= .returned (ZgJ vs)∧vs.size=ret.res.length∧Rep ⟨E.at vs.size,w,Lt,S,lays⟩ (fun _=>False) ρ' S' (ZcC ret) vs w':=
  ⟨hd,_,hres,vs,ρ',S',rfl,hvs,hr⟩
 rcases he with rfl |rfl<;>exact this
end Eng
namespace Eng
open Go
section
variable {C:Ctx} {X:Nat→Prop} {ρ:Id→Option Lay} {S:Nat→Prop} {st:St} {tm:Array Value} {w:World}
theorem Rep.freeze (h:Rep C X ρ S st tm w) (fs:List Id) (hfs:∀f∈fs,∃o,st.objs f=some o∧o≠ .gone):∃S',(∀b,S b→S' b)∧(∀f∈fs,∀L b,ρ f=some L→L.blk=some b→S' b)∧Rep C X ρ S' (st.freezeL fs) tm w∧∀b,S' b→S b∨∃f L,f∈fs∧ρ f=some L∧L.blk=some b:=by
 let S':Nat→Prop:=fun b=>S b∨∃f L,f∈fs∧ρ f=some L∧L.blk=some b
 have hSS:∀b,S b→S' b:=fun b hb=> .inl hb
 have kp:Zcx S w w:=fun _ _ _=>rfl
 refine⟨S',hSS,fun f hf L b hL hb=> .inr ⟨f,L,hf,hL,hb⟩,⟨h.nt,h.grow,h.frame,fun b hb=> .inl (h.s0 b hb), ?_, ?_, ?_, ?_, ?_, ?_, ?_, ?_,fun g cs hm=>(h.glob g cs hm).mono kp hSS, ?_,by rw[ZeT];exact h.ep1,h.quiet,h.lay⟩,fun _ h=>h⟩
 ·intro b hb;rcases hb with hb |⟨f,L,hf,hL,hb⟩
  ·exact h.sIn b hb
  ·obtain⟨o,ho,hg⟩:=hfs f hf;exact(h.own f o L b ho hg hL hb).1
 ·intro k;rw[Zch];exact(h.slots k).mono kp hSS fun _ _ h=>h
 ·intro id o ho hg;rw[ZH]at ho;obtain⟨L,hL,hr⟩:=h.objs id o ho hg;exact⟨L,hL,hr.mono kp hSS (fun _ _ h=>h) fun _ _=>rfl⟩
 ·intro id o L b ho hg hL hb;rw[ZH]at ho;obtain⟨r1,r2,r3,r4⟩:=h.own id o L b ho hg hL hb;rw[freezeL_fz];refine⟨r1,r2,fun hf=> ?_,fun hf=> ?_⟩
  ·simp only[Bool.or_eq_true,Zm0]at hf;rcases hf with hf |hf
   ·exact .inr ⟨id,L,hf,hL,hb⟩
   ·exact .inl (r3 hf)
  ·simp only[Bool.or_eq_false_iff]at hf;rintro(hS |⟨f,L',hf',hL',hb'⟩)
   ·exact r4 hf.2 hS
   ·obtain⟨o',ho',hg'⟩:=hfs f hf';have:=h.inj id o L f o' L' b ho hg hL hb ho' hg' hL' hb';subst this;have:=hf.1;simp[hf']at this
 ·intro id o L id' o' L' b ho hg hL hb ho' hg' hL' hb';rw[ZH]at ho ho';exact h.inj id o L id' o' L' b ho hg hL hb ho' hg' hL' hb'
 ·intro id hn;rw[ZH]at hn;exact h.known id hn
 ·intro id hn;rw[ZeT];exact h.young id hn
 ·intro id hf;rw[freezeL_fz]at hf;simp only[Bool.or_eq_true,Zm0]at hf;rcases hf with hf |hf
  ·obtain⟨o,ho,hg⟩:=hfs id hf;obtain⟨L,hL,_⟩:=h.objs id o ho hg;simp[hL]
  ·exact h.fzk id hf
 ·intro b hb;rcases hb with hb |⟨f,L,hf,hL,hb⟩
  ·exact h.sOut b hb
  ·obtain⟨o,ho,hg⟩:=hfs f hf;exact .inr (h.own f o L b ho hg hL hb).2.1
end
def Zk0 (E:Env) (st:St):ResultVar→Option D
 | .tmp t=>some (st.slots t)
 | .cell ad t=>match E.ty t with
  |some ti=>match st.slots ad with
   | .p (.ptr cs)=>match ZdI ti cs with
    |some x=>some (.p x)
    |none=>none
   | .ptr id 0 j=>match st.objs id with
    |some (.box cs)=>Zfr ti (cs.drop j)
    |_=>none
   |_=>none
  |none=>none
inductive RM where
 |p |own |box |map |view
 deriving Inhabited
def Zab (st:St):Obj→Option (Arg×List Id)
 | .box ds=>match Zm (fun d=>d.toP st.objs depth) ds with
  |some cs=>some (.box cs,ds.flatMap fun d=>d.ids st.objs depth)
  |none=>none
 | .arr sz es false=>some (.arr sz es,[])
 | .map td kv=>some (.map td kv,[])
 |_=>none
structure RE where
 rv:RV
 fs:List Id:=[]
 id:Option Id:=none
 cond:List Bool:=[]
def Zjl (st:St) (m:RM) (d:D):Option RE:=
 match m,d with
 | .p,d=>match d.toP st.objs depth with
  |some x=>some {rv:= .p x,fs:=d.ids st.objs depth}
  |none=>none
 | .own,.sl id 0 len=>match st.objs id with
  |some (.arr sz es false)=>some {rv:= .own sz es,id:=some id,cond:=[decide (len=es.length)]}
  |_=>none
 | .box,.ptr id 0 0=>match st.objs id with
  |some (.box ds)=>match Zm (fun d=>d.toP st.objs depth) ds with
   |some cs=>some {rv:= .box cs,fs:=ds.flatMap fun d=>d.ids st.objs depth,id:=some id}
   |none=>none
  |_=>none
 | .map,.map id=>match st.objs id with
  |some (.map td kv)=>some {rv:= .map td kv,id:=some id}
  |_=>none
 | .view,.sl (0,k,0) off len=>some {rv:= .view k off len}
 |_,_=>none
def Zmg (st:St) (k:Nat):Option ((Nat×Arg)×List Id):=
 match st.objs (0,k,0)with
 |some o=>match Zab st o with
  |some (a,fs)=>some ((k,a),fs)
  |none=>none
 |none=>none
def Zig:Nat→List RE→List (Id×Id)
 |_,[]=>[]
 |j,x::r=>match x.id with
  |some id=>((1,j,0),id)::Zig (j+1) r
  |none=>Zig (j+1) r
def ZfK (os:List Nat):RV→Bool
 | .view k _ _=>os.contains k
 |_=>true
def Zmd (E:Env) (st:St) (rs:List ResultVar) (ms:List RM) (outs:List Nat):Option (Ret×List Bool):=
 match Zm (Zk0 E st) rs with
 |some ds=>if ds.length=ms.length then match Zm (fun x=>Zjl st x.1 x.2) (ms.zip ds),Zm (Zmg st) outs with
  |some res,some os=>
   let fs:=res.flatMap (·.fs)++os.flatMap (·.2)
   let pi:=Zig 0 res++outs.map fun k=>((0,k,0),(0,k,0))
   if Zf0 (st.freezeL fs) pi 2&&res.all (fun x=>ZfK outs x.rv)then some (⟨res.map (·.rv),os.map (·.1)⟩,res.flatMap (·.cond))else none
  |_,_=>none
  else none
 |none=>none
theorem ZgQ {P:Program} {fn:Func} {tm:Array Value} {w:World} {vs:List Value} (hl:vs.length=fn.results.size)
  (h:∀(j:Nat) rv v,fn.results[j]? =some rv→vs[j]? =some v→(match rv with | .tmp t=>pure (tm.getD t undef) | .cell a t=>do loadVar t (←asAddr (tm.getD a undef)):Sem Value).run P w= .ok v w):
  (results fn tm).run P w= .ok (ZgJ vs.toArray) w:=by
 have key:∀(l:List ResultVar) (us:List Value),us.length=l.length→(∀(j:Nat) rv v,l[j]? =some rv→us[j]? =some v→(match rv with | .tmp t=>pure (tm.getD t undef) | .cell a t=>do loadVar t (←asAddr (tm.getD a undef)):Sem Value).run P w= .ok v w)→
   (l.mapM fun | .tmp t=>pure (tm.getD t undef) | .cell a t=>do loadVar t (←asAddr (tm.getD a undef)):Sem (List Value)).run P w= .ok us w:=by
  intro l
  induction l with
  |nil=>intro us hu _;have:=Zm1 hu;subst this;simp
  |cons rv l ih=>
   intro us hu hh
   match us,hu with
   |v::us,hu=>
    have h0:=hh 0 rv v rfl rfl;have h1:=ih us (by simpa using hu) fun j rv v hr hv=>hh (j+1) rv v (by simpa using hr) (by simpa using hv)
    rw[List.mapM_cons,Sem.run_bind,h0,Result.andThen_ok,Sem.run_bind,h1,Result.andThen_ok,Sem.run_pure]
 have:=key fn.results.toList vs (by simpa using hl) (fun j rv v hr hv=>h j rv v (by simpa using hr) hv);unfold results;rw[Array.mapM_eq_mapM_toList];rw[Sem.run_bind,Sem.run_map]
 erw [this]
 simp only[Result.andThen_ok,Sem.run_pure];rfl
section
variable {C:Ctx} {X:Nat→Prop} {ρ:Id→Option Lay} {S:Nat→Prop} {st:St} {w:World}
theorem Zkt {a:Act} (hE:Zk C.E) (h:Rep C X ρ S st a.tmps w) {rv:ResultVar} {d:D} (hd:Zk0 C.E st rv=some d):
  ∃v,(match rv with | .tmp t=>pure (a.tmps.getD t undef) | .cell ad t=>do loadVar t (←asAddr (a.tmps.getD ad undef)):Sem Value).run C.E.prog w= .ok v w∧RelD w S ρ v d:=by
 cases rv with
 |tmp t=>
  simp only[Zk0,ZmR]at hd;subst hd;exact⟨_,by simp,h.slots t⟩
 |cell ad t=>
  simp only[Zk0]at hd;split at hd;rotate_left;simp at hd;rename_i ti hty;obtain⟨ii,ds,z,hti⟩:=hE.is hty;have hs:=h.slots ad;generalize hv:a.tmps.getD ad undef=pv at hs;split at hd
  ·rename_i cs hst;split at hd;rotate_left;simp at hd;rename_i x hx;cases hd;rw[hst]at hs;have hs:=hs.of_p;cases hs with
   |ptr b o' _ vs hS hcell h1 hr=>
    obtain⟨hle,hrel⟩:=Zcf (w:=w) (S:=S) hx hti.one;have get:∀(j:Nat) u,((List.range ti.size).map vs)[j]? =some u→j < ti.size∧u=vs j:=by
     intro j u hu;have hlt:j < ti.size:=by have:=(ZmA.1 hu).1;simpa using this
     simp[hlt]at hu;exact⟨hlt,hu.symm⟩
    have hrun:=Zb1 (C:=C) (w:=w) hE hty b o' ((List.range ti.size).map vs) (by simp) (fun j u hu=>by obtain⟨hlt,rfl⟩:=get j u hu;exact hcell j cs[j] (by simp))
    refine⟨Zan ti ((List.range ti.size).map vs).toArray,by
     have hv':a.tmps[ad]?.getD undef= .pointer (some ⟨b,o',none⟩):=by simpa using hv
     simp[asAddr,hv',hrun],.p _ _ (hrel _ (by simp) fun j u c hu hc=> ?_)⟩
    obtain⟨hlt,rfl⟩:=get j u hu;exact⟨hr j c hc,h1 j c hc⟩
  ·rename_i id j hst;split at hd;rotate_left;simp at hd;rename_i cs hlk;rw[hst]at hs;cases hs with
   |ptr _ _ _ L b hL hi hb=>
    obtain⟨hle,hrel⟩:=ZdJ (w:=w) (S:=S) (ρ:=ρ) hd hti.one;obtain⟨L',hL',b',hb',hsz,hln,hcs⟩:=h.objs id _ hlk (by simp);rw[hL]at hL';obtain rfl:=ZmQ hL';rw[hb]at hb';obtain rfl:=ZmQ hb';have get:∀k,k < ti.size→∃u,w.cell? ⟨b,L.base+0*L.sz+j+k,none⟩=some u∧ZbO u∧∀c,(cs.drop j)[k]? =some c→RelD w S ρ u c:=by intro k hk;simp at hle;obtain⟨u,hu,_,h1,hr⟩:=hcs (j+k) cs[j+k] (by simp);refine⟨u,by rw[←hu];congr 2;omega,h1,fun c hc=> ?_⟩;rw[List.getElem?_drop]at hc;obtain⟨_,rfl⟩:=ZmA.1 hc;exact hr
    let us:List Value:=(List.range ti.size).map fun k=>(w.cell? ⟨b,L.base+0*L.sz+j+k,none⟩).getD default
    have hus:∀(k:Nat) u,us[k]? =some u→k < ti.size∧w.cell? ⟨b,L.base+0*L.sz+j+k,none⟩=some u:=by
     intro k u hu;have hlt:k < ti.size:=by have:=(ZmA.1 hu).1;simpa[us]using this
     obtain⟨u',q1,_⟩:=get k hlt;simp[us,hlt]at hu;simp only[Nat.zero_mul,Nat.add_zero]at q1⊢
     rw[q1]at hu;exact⟨hlt,by rw[q1];simpa using hu⟩
    have hrun:=Zb1 (C:=C) (w:=w) hE hty b (L.base+0*L.sz+j) us (by simp[us]) (fun k u hu=>(hus k u hu).2);refine⟨Zan ti us.toArray,by
     have hv':a.tmps[ad]?.getD undef= .pointer (some ⟨b,L.base+0*L.sz+j,none⟩):=by simpa using hv
     simp only[Nat.zero_mul,Nat.add_zero]at hv' hrun;simp[asAddr,hv',hrun],hrel _ (by simp[us]) fun k u c hu hc=> ?_⟩
    obtain⟨q1,q2⟩:=hus k u hu;obtain⟨u',r1,r2,r3⟩:=get k q1;rw[q2]at r1;obtain rfl:=ZmQ r1;exact⟨r3 c hc,r2⟩
  ·simp at hd
end
theorem Zfg:∀(n:Nat) (l:List RE) (j:Nat) (x:RE) (id:Id),l[j]? =some x→x.id=some id→((1,n+j,0),id)∈Zig n l
 |n,[],j,x,id,h,_=>by simp at h
 |n,y::l,j,x,id,h,hid=>by
  cases j with
  |zero=>
   simp only[Zm6,ZmR]at h;subst h;simp[Zig,hid]
  |succ j=>
   simp only[Zm5]at h;have:=Zfg (n+1) l j x id h hid;rw[show n+(j+1)=n+1+j by omega];unfold Zig;split
   ·exact Zna _ this
   ·exact this
theorem ZhC:∀(n:Nat) (l:List RV) (k:Nat) (d:D),(k,d)∈Zkb n l→∃j x,l[j]? =some x∧k=n+j∧d=x.d (n+j)
 |n,[],k,d,h=>by simp[Zkb]at h
 |n,x::l,k,d,h=>by
  rcases ZmF.1 h with h |h
  ·simp only[ZmS]at h;obtain⟨rfl,rfl⟩:=h;exact⟨0,x,rfl,rfl,rfl⟩
  ·obtain⟨j,x',q1,q2,q3⟩:=ZhC (n+1) l k d h;exact⟨j+1,x',by simpa using q1,by omega,by rw[q3];congr 1;omega⟩
theorem ZhA:∀(n:Nat) (l:List RV) (id:Id) (o:Obj),(id,o)∈ZhB n l→∃j x,l[j]? =some x∧id=(1,n+j,0)∧x.o=some o
 |n,[],id,o,h=>by simp[ZhB]at h
 |n,x::l,id,o,h=>by
  have hrec:(id,o)∈ZhB (n+1) l→∃j x',(x::l)[j]? =some x'∧id=(1,n+j,0)∧x'.o=some o:=fun h=>by obtain⟨j,x',q1,q2,q3⟩:=ZhA (n+1) l id o h;exact⟨j+1,x',by simpa using q1,by rw[q2];congr 2;omega,q3⟩
  unfold ZhB at h;split at h
  ·rename_i u hu;rcases ZmF.1 h with h |h
   ·simp only[ZmS]at h;obtain⟨rfl,rfl⟩:=h;exact⟨0,x,rfl,rfl,hu⟩
   ·exact hrec h
  ·exact hrec h
theorem Zf1:∀(l:List (Nat×Arg)) (id:Id) (o:Obj),(id,o)∈Zc7 l→∃k a,(k,a)∈l∧id=(0,k,0)∧a.o=some o
 | [],id,o,h=>by simp[Zc7]at h
 |(k,a)::l,id,o,h=>by
  have hrec:(id,o)∈Zc7 l→∃k' a',(k',a')∈(k,a)::l∧id=(0,k',0)∧a'.o=some o:=fun h=>by obtain⟨k',a',q1,q2⟩:=Zf1 l id o h;exact⟨k',a',Zna _ q1,q2⟩
  unfold Zc7 at h;split at h
  ·rename_i u hu;rcases ZmF.1 h with h |h
   ·simp only[ZmS]at h;obtain⟨rfl,rfl⟩:=h;exact⟨k,a,ZmG,rfl,hu⟩
   ·exact hrec h
  ·exact hrec h
section
variable {C:Ctx} {X:Nat→Prop} {ρ ρ':Id→Option Lay} {S S':Nat→Prop} {st:St} {tm:Array Value} {w:World}
theorem ZbD (h:Rep C X ρ S st tm w) (hS:∀b,S b→S' b) {L:Lay} {o:Obj} {a:Arg} {fs:List Id} (ha:Zab st o=some (a,fs)) (hfs:∀f∈fs,∀L b,ρ f=some L→L.blk=some b→S' b) (hr:ZB w S ρ L o):
  ∃o',a.o=some o'∧o≠ .gone∧ZB w S' ρ' L o':=by
 have kp:Zcx S w w:=fun _ _ _=>rfl
 cases o with
 |box ds=>
  simp only[Zab]at ha;split at ha;rotate_left;simp at ha;rename_i cs hcs;simp only[ZmR,ZmS]at ha;obtain⟨rfl,rfl⟩:=ha;obtain⟨q1,q2⟩:=Zj hcs;obtain⟨b,r1,r2,r3,r4⟩:=hr;refine⟨_,rfl,by simp,b,r1,by simp;omega,r3,fun j d hd=> ?_⟩;rw[ZmB,ZmP]at hd;obtain⟨c,hc,rfl⟩:=hd;have hj:j < ds.length:=by have:=(ZmA.1 hc).1;omega
  obtain⟨v,s1,s2,s3,s4⟩:=r4 j ds[j] (by simp[hj]);exact⟨v,s1,s2,s3,.p _ _ (Zaz h.objs hS depth _ _ _ s4 (q2 j ds[j] c (by simp[hj]) hc) fun id hid L b=>hfs id (ZmH.2 ⟨ds[j],List.getElem_mem _,hid⟩) L b)⟩
 |arr sz es fix=>
  cases fix with
  |true=>simp[Zab]at ha
  |false=>
   simp only[Zab,ZmR,ZmS]at ha;obtain⟨rfl,rfl⟩:=ha;exact⟨_,rfl,by simp,hr.mono (ρ':=ρ) kp hS (fun _ _ h=>h) fun _ _=>rfl⟩
 |map td kv=>
  simp only[Zab,ZmR,ZmS]at ha;obtain⟨rfl,rfl⟩:=ha;exact⟨_,rfl,by simp,hr.mono (ρ':=ρ) kp hS (fun _ _ h=>h) fun _ _=>rfl⟩
 |_=>simp[Zab]at ha
theorem ZeI (h:Rep C X ρ S st tm w) {o:Obj} {a:Arg} {fs:List Id} (ha:Zab st o=some (a,fs)):∀f∈fs,∃o,st.objs f=some o∧o≠ .gone:=by
 intro f hf;cases o with
 |box ds=>
  simp only[Zab]at ha;split at ha;rotate_left;simp at ha;rename_i cs hcs;simp only[ZmR,ZmS]at ha;obtain⟨rfl,rfl⟩:=ha;obtain⟨q1,q2⟩:=Zj hcs;obtain⟨d,hd,hid⟩:=ZmH.1 hf;obtain⟨j,hj,rfl⟩:=Znb.1 hd;exact Zbj depth _ _ (q2 j ds[j] cs[j] (by simp[hj]) (by simp[q1,hj])) f hid
 |arr sz es fix=>
  cases fix<;>simp[Zab]at ha;obtain⟨_,rfl⟩:=ha;simp at hf
 |map td kv=>
  simp only[Zab,ZmR,ZmS]at ha;obtain⟨_,rfl⟩:=ha;simp at hf
 |_=>simp[Zab]at ha
theorem Zks {m:RM} {d:D} {x:RE} (hx:Zjl st m d=some x):∀f∈x.fs,∃o,st.objs f=some o∧o≠ .gone:=by
 intro f hf;unfold Zjl at hx;split at hx
 ·split at hx;rotate_left;simp at hx;rename_i y hy;cases hx;exact Zbj depth _ _ hy f hf
 ·split at hx<;>simp at hx;subst hx;simp at hf
 ·split at hx;rotate_left;simp at hx;rename_i ds hlk;split at hx;rotate_left;simp at hx;rename_i cs hcs;cases hx;obtain⟨q1,q2⟩:=Zj hcs;obtain⟨d,hd,hid⟩:=ZmH.1 hf;obtain⟨j,hj,rfl⟩:=Znb.1 hd;exact Zbj depth _ _ (q2 j ds[j] cs[j] (by simp[hj]) (by simp[q1,hj])) f hid
 ·split at hx<;>simp at hx;subst hx;simp at hf
 ·cases hx;simp at hf
 ·simp at hx
end
section
variable {C:Ctx} {r:Fm}
theorem Zh2 {fn:Func} {k:List Item} {st:St} {ret0 ret:Ret} {ps:List Bool} (e:Exit) (he:e= .normal∨e= .ret) (ms:List RM) (outs:List Nat) (hE:Zk C.E) (hr:Zmd C.E st fn.results.toList ms outs=some (ret0,ps)) (hre:ret0=ret) (hp:Zle ps) (hds:r.ds=[])
  (hX:∀j,¬Xof k j)
  (harr:∀(a:Act) (w:World) (b:Frame) (k0:List Go.Item) (cs:List Frame),b.roundOf=r.r→ArrivesIn (Machine.fenced C.E.prog (Zcj r.r)) C.E.prog (lone (b.atR a (k.map conc++k0)) cs w) b k0 cs e a w):AWP C r (Zih C fn ret) k st:=by
 subst hre;intro ρ S a w hrep hd b k0 cs hb;refine⟨e,a,w,⟨he,by rw[hd,hds], ?_⟩,harr a w b k0 cs hb⟩;unfold Zmd at hr;split at hr;rotate_left;simp at hr;rename_i ds hds';split at hr;rotate_left;simp at hr;rename_i hlen;split at hr;rotate_left;simp at hr;rename_i res os hres hos;dsimp only at hr;split at hr;rotate_left;simp at hr;rename_i hok;simp only[Zmt,ZmX]at hok;obtain⟨hpi,hview⟩:=hok;simp only[ZmR,ZmS]at hr;obtain⟨rfl,rfl⟩:=hr;obtain⟨d1,d2⟩:=Zj hds';obtain⟨r1,r2⟩:=Zj hres;obtain⟨o1,o2⟩:=Zj hos;have hv:∀j:Nat,∃v,∀rv d,fn.results[j]? =some rv→ds[j]? =some d→(match rv with | .tmp t=>pure (a.tmps.getD t undef) | .cell ad t=>do loadVar t (←asAddr (a.tmps.getD ad undef)):Sem Value).run C.E.prog w= .ok v w∧RelD w S ρ v d:=by
  intro j;cases hq:fn.results[j]? with
  |none=>exact⟨undef,fun rv d h=>by simp at h⟩
  |some rv=>
   have hj:j < ds.length:=by rw[d1];have:=(Zmp.1 hq).1;simpa using this
   obtain⟨v,q1,q2⟩:=Zkt (a:=a) hE hrep (d2 j rv ds[j] (by simpa using hq) (by simp[hj]));refine⟨v,fun rv' d h1 h2=> ?_⟩;obtain rfl:=ZmQ h1;rw[Zmz hj]at h2;obtain rfl:=ZmQ h2;exact⟨q1,q2⟩
 let f:Nat→Value:=fun j=>(hv j).choose
 have hf:∀(j:Nat) rv d,fn.results[j]? =some rv→ds[j]? =some d→_:=fun j=>(hv j).choose_spec
 let vs:List Value:=(List.range fn.results.size).map f;have hvl:vs.length=fn.results.size:=by simp[vs]
 have hvj:∀(j:Nat) v,vs[j]? =some v→j < fn.results.size∧v=f j:=by
  intro j v hv;have hj:j < fn.results.size:=by have:=(ZmA.1 hv).1;omega
  simp[vs,hj]at hv;exact⟨hj,hv.symm⟩
 have hrun:=ZgQ (P:=C.E.prog) (fn:=fn) (tm:=a.tmps) (w:=w) hvl (fun j rv v hrv hv=>by
  obtain⟨hj,rfl⟩:=hvj j v hv;have hj':j < ds.length:=by rw[d1];simpa using hj
  exact(hf j rv ds[j] hrv (by simp[hj'])).1)
 have hlr:ds.length=fn.results.size:=by rw[d1];simp
 have hrl:res.length=fn.results.size:=by rw[r1,List.length_zip];omega
 let fs:=res.flatMap (·.fs)++os.flatMap (·.2);have hfs:∀g∈fs,∃o,st.objs g=some o∧o≠ .gone:=by
  intro g hg;rcases ZmE.1 hg with hg |hg
  ·obtain⟨x,hx,hgx⟩:=ZmH.1 hg;obtain⟨j,hj,rfl⟩:=Znb.1 hx;have hz:j < (ms.zip ds).length:=by omega
   exact Zks (r2 j (ms.zip ds)[j] res[j] (by simp only[Zmz hz]) (Zmz hj)) g hgx
  ·obtain⟨x,hx,hgx⟩:=ZmH.1 hg;obtain⟨j,hj,rfl⟩:=Znb.1 hx;have hz:j < outs.length:=by omega
   have:=o2 j outs[j] os[j] (Zmz hz) (Zmz hj);unfold Zmg at this;split at this;rotate_left;simp at this;split at this;rotate_left;simp at this;rename_i a' fs' ha';have e1:=ZmQ this;rw[←e1]at hgx;exact ZeI hrep ha' g hgx
 obtain⟨S',hSS,hFS,hrep',_⟩:=hrep.freeze fs hfs;let pi:=Zig 0 res++outs.map fun k=>(((0,k,0):Id),((0,k,0):Id))
 have hn1:Zam (pi.map (·.1))=true:=by have:=hpi;simp only[Zf0,Zmt]at this;exact this.1.1
 have hrho:∀{new old:Id},(new,old)∈pi→ZW pi ρ new=ρ old:=fun hm=>by simp only[ZW,Zad hn1 hm]
 refine⟨vs.toArray,ZW pi ρ,S',hrun,by simp[hvl,hrl],hrep'.select (C':=⟨C.E.at vs.toArray.size,C.W,C.Lt,C.S0,C.lays⟩) hpi ?_ rfl rfl hrep'.quiet hrep'.grow hrep'.frame hrep'.s0 (fun new old o L b _ q2 q3 q4 q5=>(hrep'.own old o L b q2 q3 q4 q5).2.1) (fun _=>rfl) rfl (by decide) ?_ hrep'.sOut ?_⟩
 ·intro new o' ho;have hm:=ZY ho;rw[ZH];rcases ZmE.1 hm with hm |hm
  ·obtain⟨j,x,q1,q2,q3⟩:=ZhA 0 _ _ _ hm;rw[Znh]at q2;rw[ZmB,ZmP]at q1;obtain⟨re,q1,rfl⟩:=q1;have hj:j < res.length:=(ZmA.1 q1).1;have hz:j < (ms.zip ds).length:=by omega
   have hre:=r2 j (ms.zip ds)[j] re (by simp only[Zmz hz]) q1;generalize (ms.zip ds)[j]=md at hre;obtain⟨m,d⟩:=md;have hin:∀id,re.id=some id→(new,id)∈pi:=fun id hid=>Zm8 _ (by rw[q2];have:=Zfg 0 res j re id q1 hid;rwa [Znh]at this)
   have hfsm:∀g∈re.fs,∀L b,ρ g=some L→L.blk=some b→S' b:=fun g hg=>hFS g (Zm8 _ (ZmH.2 ⟨re,Zne q1,hg⟩))
   dsimp only at hre;unfold Zjl at hre;split at hre
   ·split at hre;rotate_left;simp at hre;cases hre;simp[RV.o]at q3
   ·rename_i id len;split at hre;rotate_left;simp at hre;rename_i sz es hlk;cases hre;simp only[RV.o,ZmR]at q3;subst q3;exact⟨id,_,hin id rfl,hlk,by simp,fun L _ hr=>hr⟩
   ·rename_i id;split at hre;rotate_left;simp at hre;rename_i dsb hlk;split at hre;rotate_left;simp at hre;rename_i csb hcs;cases hre;simp only[RV.o,ZmR]at q3;subst q3;refine⟨id,_,hin id rfl,hlk,by simp,fun L hL _=> ?_⟩;obtain⟨L',hL',hro⟩:=hrep.objs id _ hlk (by simp);rw[hL]at hL';obtain rfl:=ZmQ hL';obtain⟨o',p1,_,p3⟩:=ZbD (ρ':=ZW pi ρ) hrep hSS (a:= .box csb) (fs:=dsb.flatMap fun d=>d.ids st.objs depth) (by simp[Zab,hcs]) hfsm hro;simp only[Arg.o,ZmR]at p1;subst p1;exact p3
   ·rename_i id;split at hre;rotate_left;simp at hre;rename_i td kv hlk;cases hre;simp only[RV.o,ZmR]at q3;subst q3;exact⟨id,_,hin id rfl,hlk,by simp,fun L _ hr=>hr⟩
   ·cases hre;simp[RV.o]at q3
   ·simp at hre
  ·obtain⟨kk,aa,q1,q2,q3⟩:=Zf1 _ _ _ hm;obtain⟨x,hx,hxe⟩:=Znc.1 q1;obtain⟨j,hj,rfl⟩:=Znb.1 hx;have hz:j < outs.length:=by omega
   have hout:=o2 j outs[j] os[j] (Zmz hz) (Zmz hj);unfold Zmg at hout;split at hout;rotate_left;simp at hout;rename_i o hlk;split at hout;rotate_left;simp at hout;rename_i a' fs' ha';have e1:=ZmQ hout;rw[←e1]at hxe;simp only[ZmS]at hxe;obtain⟨rfl,rfl⟩:=hxe;obtain⟨L,hL,hro⟩:=hrep.objs _ o hlk (ZbD (ρ':=ZW pi ρ) (S':=fun _=>True) hrep (fun _ _=>trivial) ha' (fun _ _ _ _ _ _=>trivial) (hrep.objs _ o hlk (by intro hg;subst hg;simp[Zab]at ha')).choose_spec.2).choose_spec.2.1;have hfsm:∀g∈fs',∀L b,ρ g=some L→L.blk=some b→S' b:=fun g hg=>hFS g (Zm9 _ (ZmH.2 ⟨os[j],List.getElem_mem hj,by rw[←e1];exact hg⟩))
   obtain⟨o2',p1,p2,p3⟩:=ZbD (ρ':=ZW pi ρ) hrep hSS ha' hfsm hro;rw[p1]at q3;obtain rfl:=ZmQ q3;refine⟨(0,outs[j],0),o,Zm9 _ (Znc.2 ⟨outs[j],List.getElem_mem hz,by rw[q2]⟩),hlk,p2,fun L' hL' _=> ?_⟩;rw[hL]at hL';obtain rfl:=ZmQ hL';exact p3
 ·intro k';show RelD w S' (ZW pi ρ) (vs.toArray.getD k' undef) (Zal D.dead (Zkb 0 (res.map (·.rv))) k');rcases ZaG D.dead (Zkb 0 (res.map (·.rv))) k' with hk |hk
  ·rw[hk];exact .dead _
  ·obtain⟨j,x,q1,q2,q3⟩:=ZhC 0 _ _ _ hk;rw[Znh]at q2 q3;subst q2;rw[q3];rw[ZmB,ZmP]at q1;obtain⟨re,q1,rfl⟩:=q1;have hj:k' < res.length:=(ZmA.1 q1).1;have hz:k' < (ms.zip ds).length:=by omega
   have hdj:k' < ds.length:=by omega
   have hre:=r2 k' (ms.zip ds)[k'] re (by simp only[Zmz hz]) q1;simp only[List.getElem_zip]at hre;have hjr:k' < fn.results.size:=by omega
   have hrel:RelD w S ρ (f k') ds[k']:=(hf k' fn.results[k'] ds[k'] (by simp[hjr]) (by simp[hdj])).2;have hval:vs.toArray.getD k' undef=f k':=by simp[vs,hjr]
   rw[hval];have hin:∀id,re.id=some id→((1,k',0),id)∈pi:=fun id hid=>Zm8 _ (by have:=Zfg 0 res k' re id q1 hid;rwa [Znh]at this)
   have hfsm:∀g∈re.fs,∀L b,ρ g=some L→L.blk=some b→S' b:=fun g hg=>hFS g (Zm8 _ (ZmH.2 ⟨re,Zne q1,hg⟩))
   have hcm:∀c∈re.cond,c=true:=fun c hc=>Zdn hp c (ZmH.2 ⟨re,Zne q1,hc⟩)
   have hvw:=hview re (Zne q1);generalize ds[k']=d at hre hrel;generalize f k'=v at hrel⊢
   generalize ms[k']=m at hre;have kp:Zcx S w w:=fun _ _ _=>rfl
   unfold Zjl at hre;split at hre
   ·split at hre;rotate_left;simp at hre;rename_i x hx;cases hre;exact .p _ _ (Zaz hrep.objs hSS depth _ _ _ hrel hx hfsm)
   ·rename_i id len;split at hre;rotate_left;simp at hre;rename_i sz es hlk;cases hre;have hle:len=es.length:=of_decide_eq_true (hcm _ ZmG);subst hle;cases hrel with
    |sl _ _ _ cap ad L hL hl hm hcp ha=>exact .sl _ 0 _ cap ad L (by rw[hrho (hin id rfl)];exact hL) hl hm hcp ha
   ·rename_i id;split at hre;rotate_left;simp at hre;split at hre;rotate_left;simp at hre;cases hre;cases hrel with
    |ptr _ _ _ L b hL hi hb=>exact .ptr _ 0 0 L b (by rw[hrho (hin id rfl)];exact hL) hi hb
   ·rename_i id;split at hre;rotate_left;simp at hre;cases hre;cases hrel with
    |map _ L b hL hb=>exact .map _ L b (by rw[hrho (hin id rfl)];exact hL) hb
   ·rename_i kk off len;cases hre;simp only[ZfK,Zm0]at hvw;cases hrel with
    |sl _ _ _ cap ad L hL hl hm hcp ha=>exact .sl _ off _ cap ad L (by rw[hrho (Zm9 _ (Znc.2 ⟨kk,hvw,rfl⟩))];exact hL) hl hm hcp ha
   ·simp at hre
 ·intro k L hk hn;unfold ZW at hn⊢
  cases hq:Ze pi (0,k,0)with
  |none=>rw[hq]at hn;simp at hn
  |some old=>
   rw[hq]at hn;have hm:=ZY hq;have:old=(0,k,0):=by
    rcases ZmE.1 hm with hm |hm
    ·exfalso;have:∀(n:Nat) (l:List RE) (a b:Id),(a,b)∈Zig n l→a.1=1:=by
      intro n l
      induction l generalizing n with
      |nil=>intro a b h;simp[Zig]at h
      |cons x l ih=>
       intro a b h;unfold Zig at h;split at h
       ·rcases ZmF.1 h with h |h
        ·simp only[ZmS]at h;rw[h.1]
        ·exact ih _ a b h
       ·exact ih _ a b h
     have:=this _ _ _ _ hm;simp at this
    ·obtain⟨j,_,he⟩:=Znc.1 hm;simp only[ZmS]at he;rw[←he.2];have:=he.1.2.1;rw[this]
   subst this;exact hrep'.lay k L hk hn
end
end Eng
namespace Eng
open Go
section
variable {C:Ctx} {r:Fm}
theorem Zl4 {fn:Func} {k:List Item} {st:St} {ret:Ret} (ret0:Ret) (ps:List Bool) (ms:List RM) (outs:List Nat) (hE:Zk C.E) (hr:Zmd C.E st fn.results.toList ms outs=some (ret0,ps)) (hre:ret0=ret) (hp:Zle ps) (hds:r.ds=[]):
  AWP C r (Zih C fn ret) (.c .ret::k) st:=
 Zh2 .ret (.inr rfl) ms outs hE hr hre hp hds (fun _ h=>h.elim) fun _ _ _ k0 _ _=>
  ⟨fun hn=>⟨_,.one (Zx _ _ _) (stepR_ret hn)⟩,fun _=>⟨k.map conc++k0,.refl _⟩⟩
theorem Zl5 {fn:Func} {st:St} {ret:Ret} (ret0:Ret) (ps:List Bool) (ms:List RM) (outs:List Nat) (hE:Zk C.E) (hr:Zmd C.E st fn.results.toList ms outs=some (ret0,ps)) (hre:ret0=ret) (hp:Zle ps) (hds:r.ds=[]):
  AWP C r (Zih C fn ret) [] st:=
 Zh2 .normal (.inl rfl) ms outs hE hr hre hp hds (fun _ h=>h.elim) fun _ _ _ _ _ _=> .refl _
end
inductive AM where
 |p |lend |part
 deriving Inhabited
structure AE where
 arg:Arg
 fs:List Id:=[]
 id:Option Id:=none
 cond:List Bool:=[]
def Zgz (st:St) (m:AM) (d:D):Option AE:=
 match m,d with
 | .p,d=>match d.toP st.objs depth with
  |some x=>some {arg:= .p x,fs:=d.ids st.objs depth}
  |none=>none
 | .lend,.ptr id 0 0=>match st.objs id with
  |some (.box ds)=>match Zm (fun d=>d.toP st.objs depth) ds with
   |some cs=>some {arg:= .box cs,fs:=ds.flatMap fun d=>d.ids st.objs depth,id:=some id}
   |none=>none
  |_=>none
 | .lend,.sl id 0 len=>match st.objs id with
  |some (.arr sz es false)=>some {arg:= .arr sz es,id:=some id,cond:=[decide (len=es.length)]}
  |_=>none
 | .lend,.map id=>match st.objs id with
  |some (.map td kv)=>some {arg:= .map td kv,id:=some id}
  |_=>none
 | .part,.sl id off len=>match st.objs id with
  |some (.arr sz es false)=>some {arg:= .part sz es off len,id:=some id}
  |_=>none
 |_,_=>none
def Zb5:D→Option (Nat×List D×List D)
 | .p (.fn f a b)=>some (f,a.map .p,b.map .p)
 | .fn f a b=>some (f,a,b)
 |_=>none
def Zaa:Nat→List AE→List (Id×Id)
 |_,[]=>[]
 |k,x::r=>match x.id with
  |some id=>((0,k,0),id)::Zaa (k+1) r
  |none=>Zaa (k+1) r
def Zev (outs:List (Nat×Arg)) (k:Nat):Obj:=match Ze outs k with
 |some a=>match a.o with
  |some o=>o
  |none=> .gone
 |none=> .gone
def Zbw (outs:List (Nat×Arg)):Nat→List AE→List (Id×Obj)
 |_,[]=>[]
 |k,x::r=>match x.id with
  |some id=>(id,Zev outs k)::Zbw outs (k+1) r
  |none=>Zbw outs (k+1) r
def RV.at (ep i:Nat) (as:List AE) (j:Nat):RV→Option D
 | .p x=>some (.p x)
 | .own _ es=>some (.sl (ep,i,j) 0 es.length)
 | .box _=>some (.ptr (ep,i,j) 0 0)
 | .map _ _=>some (.map (ep,i,j))
 | .view k off len=>match as[k]? with
  |some a=>match a.id with
   |some id=>some (.sl id off len)
   |none=>none
  |none=>none
def ZgP (ep i:Nat) (as:List AE):Nat→List RV→Option (List D)
 |_,[]=>some []
 |j,x::r=>match x.at ep i as j,ZgP ep i as (j+1) r with
  |some d,some ds=>some (d::ds)
  |_,_=>none
def Zbd:Nat→List RV→List (Nat×Obj)
 |_,[]=>[]
 |j,x::r=>match x.o with
  |some o=>(j,o)::Zbd (j+1) r
  |none=>Zbd (j+1) r
def tupD:List D→D
 | [d]=>d
 |ds=> .tup ds
def ZfE (st:St) (i:Nat) (as:List AE) (ret:Ret):Option Eff:=
 match ZgP st.ep i as 0 ret.res with
 |some ds=>some {val:=tupD ds,new:=Zbd 0 ret.res,wr:=Zbw ret.outs 0 as,frz:=as.flatMap (·.fs)}
 |none=>none
def Zk1 (E:Env) (st:St) (c:Call) (pts:List Nat) (ms:List AM):Option (Nat×List AE):=
 match c.callee with
 | .value f=>match Zb5 (ev E st.slots 0 f)with
  |some (g,first,caps)=>
   let ds:=first++ZT E st.slots c.args.toList pts++caps
   if ds.length=ms.length then match Zm (fun x=>Zgz st x.1 x.2) (ms.zip ds)with
    |some as=>if Zf0 (st.freezeL (as.flatMap (·.fs))) (Zaa 0 as) 1&&(c.args.toList.all Zz)&&Zz f then some (g,as)else none
    |none=>none
   else none
  |none=>none
 |_=>none
end Eng
namespace Eng
open Go
theorem Zed:∀(n:Nat) (l:List Arg) (k:Nat) (d:D),(k,d)∈ZcT n l→∃j x,l[j]? =some x∧k=n+j∧d=x.d (n+j)
 |n,[],k,d,h=>by simp[ZcT]at h
 |n,x::l,k,d,h=>by
  rcases ZmF.1 h with h |h
  ·simp only[ZmS]at h;obtain⟨rfl,rfl⟩:=h;exact⟨0,x,rfl,rfl,rfl⟩
  ·obtain⟨j,x',q1,q2,q3⟩:=Zed (n+1) l k d h;exact⟨j+1,x',by simpa using q1,by omega,by rw[q3];congr 1;omega⟩
theorem Zgy:∀(n:Nat) (l:List Arg) (id:Id) (o:Obj),(id,o)∈Zdd n l→∃j x,l[j]? =some x∧id=(0,n+j,0)∧x.o=some o
 |n,[],id,o,h=>by simp[Zdd]at h
 |n,x::l,id,o,h=>by
  have hrec:(id,o)∈Zdd (n+1) l→∃j x',(x::l)[j]? =some x'∧id=(0,n+j,0)∧x'.o=some o:=fun h=>by obtain⟨j,x',q1,q2,q3⟩:=Zgy (n+1) l id o h;exact⟨j+1,x',by simpa using q1,by rw[q2];congr 2;omega,q3⟩
  unfold Zdd at h;split at h
  ·rename_i u hu;rcases ZmF.1 h with h |h
   ·simp only[ZmS]at h;obtain⟨rfl,rfl⟩:=h;exact⟨0,x,rfl,rfl,hu⟩
   ·exact hrec h
  ·exact hrec h
theorem Zcr:∀(n:Nat) (l:List AE) (j:Nat) (x:AE) (id:Id),l[j]? =some x→x.id=some id→((0,n+j,0),id)∈Zaa n l
 |n,[],j,x,id,h,_=>by simp at h
 |n,y::l,j,x,id,h,hid=>by
  cases j with
  |zero=>
   simp only[Zm6,ZmR]at h;subst h;simp[Zaa,hid]
  |succ j=>
   simp only[Zm5]at h;have:=Zcr (n+1) l j x id h hid;rw[show n+(j+1)=n+1+j by omega];unfold Zaa;split
   ·exact Zna _ this
   ·exact this
theorem Zby:∀(n:Nat) (l:List AE) (a b:Id),(a,b)∈Zaa n l→∃j x,l[j]? =some x∧a=(0,n+j,0)∧x.id=some b
 |n,[],a,b,h=>by simp[Zaa]at h
 |n,x::l,a,b,h=>by
  have hrec:(a,b)∈Zaa (n+1) l→∃j x',(x::l)[j]? =some x'∧a=(0,n+j,0)∧x'.id=some b:=fun h=>by obtain⟨j,x',q1,q2,q3⟩:=Zby (n+1) l a b h;exact⟨j+1,x',by simpa using q1,by rw[q2];congr 2;omega,q3⟩
  unfold Zaa at h;split at h
  ·rename_i u hu;rcases ZmF.1 h with h |h
   ·simp only[ZmS]at h;obtain⟨rfl,rfl⟩:=h;exact⟨0,x,rfl,rfl,hu⟩
   ·exact hrec h
  ·exact hrec h
theorem Zbv {outs:List (Nat×Arg)}:∀(n:Nat) (l:List AE) (id:Id) (o:Obj),(id,o)∈Zbw outs n l→∃j x,l[j]? =some x∧x.id=some id∧o=Zev outs (n+j)
 |n,[],id,o,h=>by simp[Zbw]at h
 |n,x::l,id,o,h=>by
  have hrec:(id,o)∈Zbw outs (n+1) l→∃j x',(x::l)[j]? =some x'∧x'.id=some id∧o=Zev outs (n+j):=fun h=>by obtain⟨j,x',q1,q2,q3⟩:=Zbv (n+1) l id o h;exact⟨j+1,x',by simpa using q1,q2,by rw[q3,show n+1+j=n+(j+1) by omega]⟩
  unfold Zbw at h;split at h
  ·rename_i u hu;rcases ZmF.1 h with h |h
   ·simp only[ZmS]at h;obtain⟨rfl,rfl⟩:=h;exact⟨0,x,rfl,hu,rfl⟩
   ·exact hrec h
  ·exact hrec h
theorem Zdm {outs:List (Nat×Arg)}:∀(n:Nat) (l:List AE) (j:Nat) (x:AE) (id:Id),l[j]? =some x→x.id=some id→(id,Zev outs (n+j))∈Zbw outs n l
 |n,[],j,x,id,h,_=>by simp at h
 |n,y::l,j,x,id,h,hid=>by
  cases j with
  |zero=>
   simp only[Zm6,ZmR]at h;subst h;simp[Zbw,hid]
  |succ j=>
   simp only[Zm5]at h;have:=Zdm (outs:=outs) (n+1) l j x id h hid;rw[show n+(j+1)=n+1+j by omega];unfold Zbw;split
   ·exact Zna _ this
   ·exact this
theorem ZeC:∀(n:Nat) (l:List RV) (j:Nat) (o:Obj),(j,o)∈Zbd n l→∃m x,l[m]? =some x∧j=n+m∧x.o=some o
 |n,[],j,o,h=>by simp[Zbd]at h
 |n,x::l,j,o,h=>by
  have hrec:(j,o)∈Zbd (n+1) l→∃m x',(x::l)[m]? =some x'∧j=n+m∧x'.o=some o:=fun h=>by obtain⟨m,x',q1,q2,q3⟩:=ZeC (n+1) l j o h;exact⟨m+1,x',by simpa using q1,by omega,q3⟩
  unfold Zbd at h;split at h
  ·rename_i u hu;rcases ZmF.1 h with h |h
   ·simp only[ZmS]at h;obtain⟨rfl,rfl⟩:=h;exact⟨0,x,rfl,rfl,hu⟩
   ·exact hrec h
  ·exact hrec h
theorem Zjj:∀(n:Nat) (l:List RV) (j:Nat) (x:RV) (o:Obj),l[j]? =some x→x.o=some o→Ze (ZhB n l) (1,n+j,0)=some o
 |n,[],j,x,o,h,_=>by simp at h
 |n,y::l,j,x,o,h,ho=>by
  cases j with
  |zero=>
   simp only[Zm6,ZmR]at h;subst h;simp[ZhB,ho,Ze]
  |succ j=>
   simp only[Zm5]at h;have:=Zjj (n+1) l j x o h ho;rw[show n+(j+1)=n+1+j by omega];unfold ZhB;split
   ·simp only[Ze];rw[if_neg (by simp;omega)];exact this
   ·exact this
theorem ZfV {ep i:Nat} {as:List AE}:∀(n:Nat) (l:List RV) (ds:List D),ZgP ep i as n l=some ds→ds.length=l.length∧∀(j:Nat) x d,l[j]? =some x→ds[j]? =some d→x.at ep i as (n+j)=some d
 |n,[],ds,h=>by simp[ZgP]at h;subst h;exact⟨rfl,by simp⟩
 |n,x::l,ds,h=>by
  unfold ZgP at h;split at h;rotate_left;simp at h;rename_i d ds' hd hds;cases h;obtain⟨q1,q2⟩:=ZfV (n+1) l ds' hds;refine⟨by simp[q1],fun j x' d' hx hd'=> ?_⟩;cases j with
  |zero=>simp at hx hd';subst hx hd';exact hd
  |succ j=>
   simp at hx hd';have:=q2 j x' d' hx hd'
   rwa [show n+(j+1)=n+1+j by omega]
section
variable {C:Ctx} {X:Nat→Prop} {ρ:Id→Option Lay} {S:Nat→Prop} {st:St} {a:Act} {w:World}
theorem ZiN (h:Rep C X ρ S st a.tmps w) {c:Call} {pts:List Nat} {f:Operand} (hcal:c.callee= .value f) {g:Nat} {first caps:List D} (hc:Zb5 (ev C.E st.slots 0 f)=some (g,first,caps))
  (hl:Zz f=true) (hal:∀x∈c.args.toList,Zz x=true):∃vals:Array Value,vals.size=(first++ZT C.E st.slots c.args.toList pts++caps).length∧
   (∀(j:Nat) v d,vals[j]? =some v→(first++ZT C.E st.slots c.args.toList pts++caps)[j]? =some d→RelD w S ρ v d)∧
   ∀(ty:TypeId),((do let d ←resolve a.eval c ty;invoke d.target d.args:Sem Next)).run C.E.prog w=(callFunc g vals).run C.E.prog w:=by
 have hf:=Zi h 0 hl;have hfn:∃fs cs:Array Value,a.eval f= .func (.func g) fs cs∧fs.size=first.length∧cs.size=caps.length∧(∀(j:Nat) v d,fs[j]? =some v→first[j]? =some d→RelD w S ρ v d)∧∀(j:Nat) v d,cs[j]? =some v→caps[j]? =some d→RelD w S ρ v d:=by
  unfold Zb5 at hc;split at hc
  ·rename_i g' x y hev;simp only[ZmR,ZmS]at hc;obtain⟨rfl,rfl,rfl⟩:=hc;rw[hev]at hf;generalize a.eval f=vf at hf;have hf:=hf.of_p;cases hf with
   |fn _ fs cs _ _ h1 h2 h3 h4=>
    refine⟨fs,cs,rfl,by simpa using h1,by simpa using h2,fun j v d hv hd=> ?_,fun j v d hv hd=> ?_⟩
    ·rw[ZmB,ZmP]at hd;obtain⟨x,hx,rfl⟩:=hd;exact .p _ _ (h3 j v x hv hx)
    ·rw[ZmB,ZmP]at hd;obtain⟨x,hx,rfl⟩:=hd;exact .p _ _ (h4 j v x hv hx)
  ·rename_i g' x y hev;simp only[ZmR,ZmS]at hc;obtain⟨rfl,rfl,rfl⟩:=hc;rw[hev]at hf;generalize a.eval f=vf at hf;cases hf with
   |fn _ fs cs _ _ h1 h2 h3 h4=>exact⟨fs,cs,rfl,h1,h2,h3,h4⟩
  ·simp at hc
 obtain⟨fs,cs,hev,h1,h2,h3,h4⟩:=hfn;obtain⟨q1,q2⟩:=Zae h c.args.toList pts hal;refine⟨fs++c.args.map a.eval++cs,by simp[h1,h2,q1],fun j v d hv hd=> ?_,fun ty=> ?_⟩
 ·rw[ZmT]at hv;have hs:(fs++c.args.map a.eval).size=(first++ZT C.E st.slots c.args.toList pts).length:=by simp[h1,q1]
  split at hv
  ·rename_i hj;rw[Zm3 (by omega)]at hd;rw[ZmT]at hv;split at hv
   ·rename_i hj2;rw[Zm3 (by omega)]at hd;exact h3 j v d hv hd
   ·rename_i hj2;rw[Zm4 (by omega)]at hd;refine q2 (j - first.length) v d ?_ hd;rw[h1]at hv;have:=hv;rw[←ZmU]at this;simpa using this
  ·rename_i hj;rw[Zm4 (by omega)]at hd;rw[hs]at hv;exact h4 _ v d hv hd
 ·have hcallee:c.callee= .value f:=hcal;simp[resolve,hcallee,hev,Deferred.ofValue,invoke,Array.append_assoc]
theorem ZiO {P:Program} {g:Nat} {fn:Func} (vals:Array Value) (w:World) (hfu:P.funcs[g]? =some fn) (hnm:(fn.name == "runtime.NumGoroutine")=false) (hbd:fn.body.isNone=false):(callFunc g vals).run P w= .ok (.enter g vals) w:=by
 have hnm':¬fn.name= "runtime.NumGoroutine" :=by simpa using hnm
 have hbd':¬fn.body=none:=by intro e;rw[e]at hbd;simp at hbd
 simp[callFunc,hfu,hnm',hbd']
theorem Zh7 {S1:Nat→Prop} (h:Rep C X ρ S st a.tmps w) (hSS:∀b,S b→S1 b) {m:AM} {d:D} {x:AE} (hx:Zgz st m d=some x) {v:Value} (hr:RelD w S ρ v d) (hfs:∀f∈x.fs,∀L b,ρ f=some L→L.blk=some b→S1 b)
  (hcond:∀c∈x.cond,c=true) {ρ':Id→Option Lay} {k:Nat} (hρ:∀id,x.id=some id→ρ' (0,k,0)=ρ id):
  RelD w S1 ρ' v (x.arg.d k)∧(∀f∈x.fs,∃o,st.objs f=some o∧o≠ .gone)∧(∀o',x.arg.o=some o'→∃id o,x.id=some id∧st.objs id=some o∧o≠ .gone∧o'≠ .gone∧∀L,ρ id=some L→ZB w S1 ρ L o→ZB w S1 ρ' L o')∧
   (∀id,x.id=some id→∃o,st.objs id=some o∧o≠ .gone):=by
 unfold Zgz at hx;split at hx
 ·split at hx;rotate_left;simp at hx;rename_i y hy;cases hx;exact⟨.p _ _ (Zaz h.objs hSS depth _ _ _ hr hy hfs),Zbj depth _ _ hy,fun o' ho=>by simp[Arg.o]at ho,fun id hid=>by simp at hid⟩
 ·rename_i id;split at hx;rotate_left;simp at hx;rename_i ds hlk;split at hx;rotate_left;simp at hx;rename_i cs hcs;cases hx;obtain⟨q1,q2⟩:=Zj hcs;refine⟨?_,ZeI (a:= .box cs) (o:= .box ds) h (by simp[Zab,hcs]),fun o' ho=> ?_,fun id' hid=>by simp at hid;subst hid;exact⟨_,hlk,by simp⟩⟩
  ·cases hr with
   |ptr _ _ _ L b hL hi hb=>exact .ptr _ 0 0 L b (by rw[hρ id rfl];exact hL) hi hb
  ·simp only[Arg.o,ZmR]at ho;subst ho;refine⟨id,_,rfl,hlk,by simp,by simp,fun L hL hro=> ?_⟩;obtain⟨L',hL',hro0⟩:=h.objs id _ hlk (by simp);rw[hL]at hL';obtain rfl:=ZmQ hL';obtain⟨o',p1,_,p3⟩:=ZbD (ρ':=ρ') h hSS (a:= .box cs) (fs:=ds.flatMap fun d=>d.ids st.objs depth) (by simp[Zab,hcs]) hfs hro0;simp only[Arg.o,ZmR]at p1;subst p1;exact p3
 ·rename_i id len;split at hx;rotate_left;simp at hx;rename_i sz es hlk;cases hx;have hle:len=es.length:=of_decide_eq_true (hcond _ ZmG);subst hle;refine⟨?_,fun f hf=>by simp at hf,fun o' ho=> ?_,fun id' hid=>by simp at hid;subst hid;exact⟨_,hlk,by simp⟩⟩
  ·cases hr with
   |sl _ _ _ cap ad L hL hl hm hcp ha=>exact .sl _ 0 _ cap ad L (by rw[hρ id rfl];exact hL) hl hm hcp ha
  ·simp only[Arg.o,ZmR]at ho;subst ho;exact⟨id,_,rfl,hlk,by simp,by simp,fun L _ hr=>hr⟩
 ·rename_i id;split at hx;rotate_left;simp at hx;rename_i td kv hlk;cases hx;refine⟨?_,fun f hf=>by simp at hf,fun o' ho=> ?_,fun id' hid=>by simp at hid;subst hid;exact⟨_,hlk,by simp⟩⟩
  ·cases hr with
   |map _ L b hL hb=>exact .map _ L b (by rw[hρ id rfl];exact hL) hb
  ·simp only[Arg.o,ZmR]at ho;subst ho;exact⟨id,_,rfl,hlk,by simp,by simp,fun L _ hr=>hr⟩
 ·rename_i id off len;split at hx;rotate_left;simp at hx;rename_i sz es hlk;cases hx;refine⟨?_,fun f hf=>by simp at hf,fun o' ho=> ?_,fun id' hid=>by simp at hid;subst hid;exact⟨_,hlk,by simp⟩⟩
  ·cases hr with
   |sl _ _ _ cap ad L hL hl hm hcp ha=>exact .sl _ off len cap ad L (by rw[hρ id rfl];exact hL) hl hm hcp ha
  ·simp only[Arg.o,ZmR]at ho;subst ho;exact⟨id,_,rfl,hlk,by simp,by simp,fun L _ hr=>hr⟩
 ·simp at hx
end
end Eng
namespace Eng
open Go
theorem ZB.pureArg {w w':World} {S S':Nat→Prop} {ρ ρ':Id→Option Lay} {L:Lay} {a:Arg} {o:Obj} (ha:a.o=some o) (hk:Zcx S w w') (hs:∀b,S b→S' b) (hb:∀b,L.blk=some b→w'.heap[b]? =w.heap[b]?) (h:ZB w S ρ L o):ZB w' S' ρ' L o:=by
 cases a with
 |p x=>simp[Arg.o]at ha
 |box cs=>
  simp only[Arg.o,ZmR]at ha;subst ha;obtain⟨b,h1,h2,h3,h4⟩:=h;refine⟨b,h1,h2,h3,fun j d hd=> ?_⟩;obtain⟨v,q1,q2,q3,q4⟩:=h4 j d hd;rw[ZmB,ZmP]at hd;obtain⟨x,hx,rfl⟩:=hd;exact⟨v,by rw[ZaV (hb b h1)];exact q1,by rw[Za6 (hb b h1)];exact q2,q3,.p _ _ (q4.of_p.mono hk hs)⟩
 |arr sz es=>
  simp only[Arg.o,ZmR]at ha;subst ha;exact h.mono (ρ':=ρ) hk hs (fun _ _ h=>h) hb
 |map td kv=>
  simp only[Arg.o,ZmR]at ha;subst ha;exact h.mono (ρ':=ρ) hk hs (fun _ _ h=>h) hb
 |part sz es off len=>
  simp only[Arg.o,ZmR]at ha;subst ha;exact h.mono (ρ':=ρ) hk hs (fun _ _ h=>h) hb
theorem RV.o_arg {x:RV} {o:Obj} (h:x.o=some o):∃a:Arg,a.o=some o:=by
 cases x with
 |own sz es=>exact⟨.arr sz es,h⟩
 |box cs=>exact⟨.box cs,h⟩
 |map td kv=>exact⟨.map td kv,h⟩
 |p x=>simp[RV.o]at h
 |view k off len=>simp[RV.o]at h
theorem Zf2:∀(l:List (Nat×Arg)) (k:Nat) (a:Arg) (o:Obj),Ze l k=some a→a.o=some o→Ze (Zc7 l) (0,k,0)=some o
 | [],k,a,o,h,_=>by simp[Ze]at h
 |(k',a')::l,k,a,o,h,ho=>by
  simp only[Ze]at h;split at h
  ·rename_i he;simp only[ZmR]at h;subst he h;simp[Zc7,ho,Ze]
  ·rename_i hne;have:=Zf2 l k a o h ho;unfold Zc7;split
   ·simp only[Ze];rw[if_neg (by simp;exact hne)];exact this
   ·exact this
theorem Zcq {α β:Type} [DecidableEq α] (l1 l2:List (α×β)) (a:α):Ze (l1++l2) a=match Ze l1 a with |some b=>some b |none=>Ze l2 a:=by
 induction l1 with
 |nil=>rfl
 |cons x r ih=>
  simp only[ZmZ,Ze];split
  ·rfl
  ·exact ih
theorem ZcB:∀(n:Nat) (l:List RV) (k m:Nat),Ze (ZhB n l) (0,k,m)=none
 |n,[],k,m=>rfl
 |n,x::l,k,m=>by
  unfold ZhB;split
  ·simp only[Ze];rw[if_neg (by simp)];exact ZcB (n+1) l k m
  ·exact ZcB (n+1) l k m
theorem ZhD:∀(n:Nat) (l:List RV) (j:Nat) (x:RV),l[j]? =some x→Zal D.dead (Zkb n l) (n+j)=x.d (n+j)
 |n,[],j,x,h=>by simp at h
 |n,y::l,j,x,h=>by
  cases j with
  |zero=>
   simp only[Zm6,ZmR]at h;subst h;simp[Zkb,Zal]
  |succ j=>
   simp only[Zm5]at h;have:=ZhD (n+1) l j x h;rw[show n+(j+1)=n+1+j by omega];simp only[Zkb,Zal];rw[if_neg (by omega)];exact this
theorem RV.o_gone {x:RV} {o:Obj} (h:x.o=some o):o≠ .gone:=by cases x<;>simp[RV.o]at h<;>subst h<;>simp
section
variable {C:Ctx} {r:Fm} {G:Zj8}
theorem ZjJ {ops:Array Oper} {i:Nat} {o:Oper} {X:Nat→Prop} {st:St} {c:Call} (hnotX:¬X i) (hE:Zk C.E) (ho:ops[i]? =some o) (hg:ZQ ops st o.guard=some true) (hop:o.op= .call c) (hdst:Zda C.E o=true)
  (pts:List Nat) (ms:List AM) {f:Nat} {as:List AE} (hpre:Zk1 C.E st c pts ms=some (f,as)) (hcnd:Zle (as.flatMap (·.cond))) {args:List Arg} {ret:Ret} (hargs:as.map (·.arg)=args) (hf:Fun C.E f args ret)
  {e:Eff} (he:ZfE st i as ret=some e) {ρ:Id→Option Lay} {S:Nat→Prop} {a:Act} {w:World} (hrep:Rep C X ρ S st a.tmps w) (hd:a.defers=r.ds) (b:Frame) (rest:List Nat) (kk:List Go.Item) (cs:List Frame) (hb:b.roundOf=r.r):
  ∃ρ' S' a' w',Rep C (fun j=>X j∨j=i) ρ' S' (st.app i o.dst e) a'.tmps w'∧a'.defers=r.ds∧
   StepsIn (Machine.fenced C.E.prog (Zcj r.r)) C.E.prog (lone (b.atR a (.inRegion ops (i::rest)::kk)) cs w) (lone (b.atR a' (.inRegion ops rest::kk)) cs w'):=by
 subst hargs;have hi:i < ops.size:=(Zmp.1 ho).1;have hwant:=ZaS hrep hg;unfold Zk1 at hpre;split at hpre
 case h_2=>simp at hpre
 rename_i fo hcal;split at hpre
 case h_2=>simp at hpre
 rename_i g first caps hcd
 dsimp only at hpre;split at hpre
 case isFalse=>simp at hpre
 rename_i hlen;split at hpre
 case h_2=>simp at hpre
 rename_i as' has;split at hpre
 case isFalse=>simp at hpre
 rename_i hok;simp only[ZmR,ZmS]at hpre;obtain⟨rfl,rfl⟩:=hpre;simp only[Zmt]at hok;obtain⟨⟨hpi,hal⟩,hfl⟩:=hok;obtain⟨vals,hvs,hvr,hrun⟩:=ZiN hrep (pts:=pts) hcal hcd hfl (fun x hx=>ZmX.1 hal x hx);generalize hds:first++ZT C.E st.slots c.args.toList pts++caps=ds at*
 have hrun:=hrun o.type;obtain⟨a1,a2⟩:=Zj has;have hal':as'.length=ds.length:=by rw[a1,List.length_zip];omega
 have hfs0:∀g∈as'.flatMap (·.fs),∃o,st.objs g=some o∧o≠ .gone:=by
  intro g hg;obtain⟨x,hx,hgx⟩:=ZmH.1 hg;obtain⟨j,hj,rfl⟩:=Znb.1 hx;have hz:j < (ms.zip ds).length:=by omega
  have hjd:j < ds.length:=by omega
  have hjv:j < vals.size:=by omega
  have hx':=a2 j (ms.zip ds)[j] as'[j] (Zmz hz) (Zmz hj);simp only[List.getElem_zip]at hx';exact(Zh7 (S1:=fun _=>True) (ρ':=fun id=>match as'[j].id with |some id=>ρ id |none=>none) (k:=0) hrep (fun _ _=>trivial) hx' (hvr j vals[j] ds[j] (by simp[hjv]) (by simp[hjd])) (fun _ _ _ _ _ _=>trivial)
   (fun c hc=>Zdn hcnd c (ZmH.2 ⟨as'[j],hx,hc⟩)) (fun id hid=>by simp[hid])).2.1 g hgx
 obtain⟨S1,hS1,hF1,hrep1,hS1i⟩:=hrep.freeze _ hfs0;have hn1:Zam ((Zaa 0 as').map (·.1))=true:=by have:=hpi;simp only[Zf0,Zmt]at this;exact this.1.1
 have hrho:∀{new old:Id},(new,old)∈Zaa 0 as'→ZW (Zaa 0 as') ρ new=ρ old:=fun hm=>by simp only[ZW,Zad hn1 hm]
 have harg:∀(j:Nat) (hj:j < as'.length) (hjv:j < vals.size),RelD w S1 (ZW (Zaa 0 as') ρ) vals[j] (as'[j].arg.d j)∧
   (∀o',as'[j].arg.o=some o'→∃id o,as'[j].id=some id∧st.objs id=some o∧o≠ .gone∧o'≠ .gone∧∀L,ρ id=some L→ZB w S1 ρ L o→ZB w S1 (ZW (Zaa 0 as') ρ) L o')∧
   (∀id,as'[j].id=some id→∃o,st.objs id=some o∧o≠ .gone):=by
  intro j hj hjv;have hz:j < (ms.zip ds).length:=by omega
  have hjd:j < ds.length:=by omega
  have hx':=a2 j (ms.zip ds)[j] as'[j] (Zmz hz) (Zmz hj);simp only[List.getElem_zip]at hx';have hxm:=List.getElem_mem hj;have:=Zh7 (S1:=S1) (ρ':=ZW (Zaa 0 as') ρ) (k:=j) hrep hS1 hx' (hvr j vals[j] ds[j] (by simp[hjv]) (by simp[hjd])) (fun f hf=>hF1 f (ZmH.2 ⟨_,hxm,hf⟩))
   (fun c hc=>Zdn hcnd c (ZmH.2 ⟨_,hxm,hc⟩)) (fun id hid=>hrho (by have:=Zcr 0 as' j _ id (Zmz hj) hid;rwa [Znh]at this))
  exact⟨this.1,this.2.2.1,this.2.2.2⟩
 let Lt:Nat→Prop:=fun b=>∃new old o L,(new,old)∈Zaa 0 as'∧st.objs old=some o∧o≠ .gone∧ρ old=some L∧L.blk=some b
 let C':Ctx:=⟨C.E.at vals.size,w,Lt,S1,fun k=>ZW (Zaa 0 as') ρ (0,k,0)⟩;have hvsz:vals.size=(as'.map (·.arg)).length:=by rw[List.length_map];omega
 have hcallee:Rep C' (fun _=>False) (ZW (Zaa 0 as') ρ) S1 (Zew (as'.map (·.arg))) vals w:=by
  refine hrep1.select (C':=C') hpi ?_ rfl rfl (ZS.refl _) (ZmL _) (fun _ _ _=>rfl) (fun _ h=>h) ?_ (fun _=>rfl) rfl (ZmL _) ?_ (fun b hb=> .inl hb) (fun k L hk _=>hk)
  ·intro new o' ho';obtain⟨j,x,q1,q2,q3⟩:=Zgy 0 _ _ _ (ZY ho');rw[Znh]at q2;rw[ZmB,ZmP]at q1;obtain⟨ae,q1,rfl⟩:=q1;obtain⟨hj,rfl⟩:=ZmA.1 q1;obtain⟨id,o1,r1,r2,r3,r4,r5⟩:=(harg j hj (by omega)).2.1 o' q3;refine⟨id,o1, ?_,by rw[ZH];exact r2,r3,r5⟩;rw[q2];have:=Zcr 0 as' j _ id (Zmz hj) r1
   rwa [Znh]at this
  ·intro new old o1 L b1 hm q2 q3 q4 q5;rw[ZH]at q2;exact .inr ⟨new,old,o1,L,hm,q2,q3,q4,q5⟩
  ·intro k';show RelD w S1 _ (vals.getD k' undef) (Zal D.dead (ZcT 0 (as'.map (·.arg))) k');rcases ZaG D.dead (ZcT 0 (as'.map (·.arg))) k' with hk |hk
   ·rw[hk];exact .dead _
   ·obtain⟨j,x,q1,q2,q3⟩:=Zed 0 _ _ _ hk;rw[Znh]at q2 q3;subst q2;rw[q3];rw[ZmB,ZmP]at q1;obtain⟨ae,q1,rfl⟩:=q1;obtain⟨hj,rfl⟩:=ZmA.1 q1;have hjv:k' < vals.size:=by omega
    have:vals.getD k' undef=vals[k']:=by simp[hjv]
    rw[this];exact(harg k' hj hjv).1
 have hsem:o.semAt b.roundOf a.eval=execOp a.eval o:=Oper.semAt_eq _ _ _ (fun c hc'=>by rw[hc']at hop;cases hop);have hst:=stepGR_op (P:=C.E.prog) (b:=b) (a:=a) (k:=kk) (cs:=cs) (w:=w) (i:=i) (rest:=rest) ho hwant;have hcg:∃vs ρ2 S2 w',vs.size=ret.res.length∧Rep ⟨C.E.at vs.size,w,Lt,S1,fun k=>ZW (Zaa 0 as') ρ (0,k,0)⟩ (fun _=>False) ρ2 S2 (ZcC ret) vs w'∧
   StepsIn (Machine.fenced C.E.prog (Zcj r.r)) C.E.prog (lone (b.atR a (.inRegion ops (i::rest)::kk)) cs w) (lone (b.atR (a.put o.dst (ZgJ vs)) (.inRegion ops rest::kk)) cs w'):=by
  rcases hf with hf |hf
  ·obtain⟨⟨fn,hfn1,hfn2,hfn3⟩,hcall⟩:=hf;obtain⟨_,hcall⟩:=hcall w Lt S1 _ _ vals hvsz hcallee;have hcg:=hcall (b.atR a (.inRegion ops (i::rest)::kk)::cs) (fun _ h=>by simp[Zcj]at h);obtain⟨ee,w',fr,⟨vs,ρ2,S2,rfl,hvl,hrep2⟩,hsteps,hfrf,hleave⟩:=hcg;refine⟨vs,ρ2,S2,w',hvl,hrep2, ?_⟩;have hexec:(execOp a.eval o).run C.E.prog w= .ok (.enter g vals) w:=by simp only[execOp,hop];rw[hrun];exact ZiO vals w hfn1 hfn2 hfn3
   have hfin:=Frame.finish_atR b a ops i rest kk (ZgJ vs);simp only[ho,Zni]at hfin;refine .head (Zx _ _ _) (step_lone_go (fr':=Frame.enter C.E.prog g vals .normal) (cs':=b.atR a (.inRegion ops (i::rest)::kk)::cs) (w':=w) ?_) ?_
   ·rw[hst,hsem];simp[stepG.apply,hexec,Frame.atR]
   ·refine StepsIn.trans hsteps (.one (Zx _ _ _) ?_);rw[←hfin];exact step_leave_returned hleave
  ·obtain⟨vs,ρ2,S2,w',hv,hvl,hrep2⟩:=hf.2 w Lt S1 _ _ vals hvsz hcallee;refine⟨vs,ρ2,S2,w',hvl,hrep2, ?_⟩;have hexec:(execOp a.eval o).run C.E.prog w= .ok (.value (ZgJ vs)) w':=by simp only[execOp,hop];rw[hrun];exact hv
   have hfin:=Frame.finish_atR b a ops i rest kk (ZgJ vs);simp only[ho,Zni]at hfin;refine .one (Zx _ _ _) ?_;refine step_lone_go ?_;rw[hst,hsem,←hfin];simp[stepG.apply,hexec]
 obtain⟨vs,ρ2,S2,w',hvl,hrep2,hsteps⟩:=hcg;have hall:∀x∈Zaa 0 as',st.fz x.2=false∧x.2∉as'.flatMap (·.fs):=by intro x hx;have:=hpi;simp only[Zf0,Zmt,ZmX,ZmW,decide_eq_true_eq]at this;have:=(this.2 x hx).2;rw[freezeL_fz]at this;simp only[Bool.or_eq_false_iff]at this;exact⟨this.2,by simpa using this.1⟩
 have hn2:Zam ((Zaa 0 as').map (·.2))=true:=by have:=hpi;simp only[Zf0,Zmt]at this;exact this.1.2
 have hlent:∀(j:Nat) (x:AE) id,as'[j]? =some x→x.id=some id→((0,j,0),id)∈Zaa 0 as'∧∃o L,st.objs id=some o∧o≠ .gone∧ρ id=some L∧ZW (Zaa 0 as') ρ (0,j,0)=some L:=by intro j x id hx hid;have hm:=Zcr 0 as' j x id hx hid;rw[Znh]at hm;obtain⟨hj,rfl⟩:=ZmA.1 hx;obtain⟨o,q1,q2⟩:=(harg j hj (by omega)).2.2 id hid;obtain⟨L,hL,_⟩:=hrep.objs id o q1 q2;exact⟨hm,o,L,q1,q2,hL,by rw[hrho hm];exact hL⟩
 have hsame:∀(j j':Nat) (x x':AE) id,as'[j]? =some x→x.id=some id→as'[j']? =some x'→x'.id=some id→j=j':=by intro j j' x x' id h1 h2 h3 h4;have:=Zf5 hn2 (hlent j x id h1 h2).1 (hlent j' x' id h3 h4).1;simpa using this
 have hout:∀(j:Nat) (x:AE) id o',as'[j]? =some x→x.id=some id→Zev ret.outs j=o'→o'≠ .gone→(∃aa:Arg,aa.o=some o')∧(ZcC ret).objs (0,j,0)=some o'∧∃L,ρ id=some L∧ρ2 (0,j,0)=some L∧ZB w' S2 ρ2 L o':=by
  intro j x id o' hx hid hb hg;unfold Zev at hb;split at hb;rotate_left;exact absurd hb.symm hg;rename_i aa haa;split at hb;rotate_left;exact absurd hb.symm hg;rename_i oo hoo;subst hb;have hobj:(ZcC ret).objs (0,j,0)=some oo:=by show Ze (ZhB 0 ret.res++Zc7 ret.outs) (0,j,0)=some oo;rw[Zcq,ZcB];exact Zf2 _ _ _ _ haa hoo
  obtain⟨L2,hL2,hro⟩:=hrep2.objs _ _ hobj hg;obtain⟨_,o1,L,q1,q2,q3,q4⟩:=hlent j x id hx hid;have:=hrep2.lay j L q4 (by rw[hL2];simp);rw[hL2]at this;obtain rfl:=ZmQ this;exact⟨⟨aa,hoo⟩,hobj,L2,q3,hL2,hro⟩
 have hgone:∀b1,Lt b1→(∀j o',(ZcC ret).objs (0,j,0)=some o'→o'≠ .gone→∀L,ρ2 (0,j,0)=some L→L.blk≠some b1)→
   ∃id o' L',(id,Obj.gone)∈Zbw ret.outs 0 as'∧st.objs id=some o'∧o'≠ .gone∧ρ id=some L'∧L'.blk=some b1∧(∀o'',(id,o'')∈Zbw ret.outs 0 as'→o''= .gone):=by
  rintro b1 ⟨new,old,o1,L,hm,q1,q2,q3,q4⟩ hno;obtain⟨j,x,hx,hnw,hid⟩:=Zby 0 as' new old hm;rw[Znh]at hnw;have hbg:Zev ret.outs j= .gone:=by
   cases hbo:Zev ret.outs j with
   |gone=>rfl
   |_=>
    exfalso;obtain⟨_,r1,L2,r2,r3,_⟩:=hout j x old _ hx hid hbo (by simp);rw[q3]at r2;obtain rfl:=ZmQ r2;exact hno j _ r1 (by simp) _ r3 q4
  refine⟨old,o1,L, ?_,q1,q2,q3,q4,fun o'' hm''=> ?_⟩
  ·have:=Zdm (outs:=ret.outs) 0 as' j x old hx hid;rw[Znh,hbg]at this;exact this
  ·obtain⟨j',x',r1,r2,r3⟩:=Zbv 0 as' old o'' hm'';rw[Znh]at r3;rw[r3,←hsame j j' x x' old hx hid r1 r2,hbg]
 unfold ZfE at he;split at he
 case h_2=>simp at he
 rename_i rds hrds;cases he;obtain⟨rl,rg⟩:=ZfV 0 _ _ hrds;have hfresh:=hrep.fresh hnotX;let ρc:Id→Option Lay:=fun id=>if id.1=st.ep∧id.2.1=i then ρ2 (1,id.2.2,0)else ρ id
 have hρc:∀id L,ρ id=some L→ρc id=some L:=by
  intro id L hL;simp only[ρc];split
  ·rename_i hc;obtain⟨ep,jj,kk⟩:=id;simp only at hc;obtain⟨rfl,rfl⟩:=hc;rw[hfresh kk]at hL;simp at hL
  ·exact hL
 have hρn:∀m,ρc (st.ep,i,m)=ρ2 (1,m,0):=fun m=>by simp[ρc]
 have hmade:∀m o',(m,o')∈Zbd 0 ret.res→(∃aa:Arg,aa.o=some o')∧o'≠ .gone∧(ZcC ret).objs (1,m,0)=some o'∧∃L,ρ2 (1,m,0)=some L∧ZB w' S2 ρ2 L o':=by
  intro m o' hm;obtain⟨j,x,q1,q2,q3⟩:=ZeC 0 _ _ _ hm;have hg:=RV.o_gone q3;have hobj:(ZcC ret).objs (1,m,0)=some o':=by show Ze (ZhB 0 ret.res++Zc7 ret.outs) (1,m,0)=some o';rw[Zcq,q2,Zjj 0 _ j x o' q1 q3]
  obtain⟨L,hL,hro⟩:=hrep2.objs _ _ hobj hg;exact⟨RV.o_arg q3,hg,hobj,L,hL,hro⟩
 have hmb:∀m o' L b1,(m,o')∈Zbd 0 ret.res→ρ2 (1,m,0)=some L→L.blk=some b1→b1 < w'.heap.size∧¬S2 b1∧(w.heap.size≤b1∨∃id o' L',(id,Obj.gone)∈Zbw ret.outs 0 as'∧st.objs id=some o'∧o'≠ .gone∧ρ id=some L'∧L'.blk=some b1∧(∀o'',(id,o'')∈Zbw ret.outs 0 as'→o''= .gone)):=by
  intro m o' L b1 hm hL hb1;obtain⟨_,hg,hobj,_,_,_⟩:=hmade m o' hm;obtain⟨r1,r2,r3,r4⟩:=hrep2.own _ _ L b1 hobj hg hL hb1;refine⟨r1,r4 rfl, ?_⟩;rcases r2 with r2 |r2
  ·exact .inl r2
  ·refine .inr (hgone b1 r2 fun j o'' ho'' hg'' L'' hL'' hb''=> ?_);have:=hrep2.inj _ _ L _ _ L'' b1 hobj hg hL hb1 ho'' hg'' hL'' hb'';simp at this
 let N:Nat→Prop:=fun b=>S2 b∧¬S1 b
 obtain⟨S',hrepc⟩:=hrep.stepN (i:=i) (t:=o.dst) (e:={val:=tupD rds,new:=Zbd 0 ret.res,wr:=Zbw ret.outs 0 as',frz:=as'.flatMap (·.fs)}) (v:=ZgJ vs) (w':=w') ρc N
  (by
   rintro b1 ⟨h2,h3⟩;refine⟨hrep2.sIn b1 h2, ?_⟩;rcases hrep2.sOut b1 h2 with h4 |h4 |h4
   ·exact absurd h4 h3
   ·exact .inl h4
   ·refine .inr (hgone b1 h4 fun j o'' ho'' hg'' L'' hL'' hb''=> ?_);exact(hrep2.own _ _ L'' b1 ho'' hg'' hL'' hb'').2.2.2 rfl h2)
  (by
   rintro m o' L b1 hm hL hb1 ⟨h2,_⟩;rw[hρn]at hL;exact(hmb m o' L b1 hm hL hb1).2.1 h2)
  hnotX (Za9 hdst) hrep2.grow hrep2.quiet
  (by
   intro b1 hb1 hne;refine hrep2.frame b1 hb1 ?_;rintro⟨new,old,o1,L,hm,q1,q2,q3,q4⟩;obtain⟨j,x,hx,hnw,hid⟩:=Zby 0 as' new old hm;exact hne old _ L (Zdm (outs:=ret.outs) 0 as' j x old hx hid) q3 q4)
  (by
   intro id o' hm;obtain⟨j,x,q1,q2,q3⟩:=Zbv 0 as' id o' hm;obtain⟨r1,o1,L,r2,r3,_⟩:=hlent j x id q1 q2;exact⟨(hall _ r1).1,o1,r2,r3⟩)
  hρc
  (by
   intro id hn;simp only[ρc]at hn;split at hn
   ·rename_i hc;exact .inr hc
   ·exact .inl hn)
  (by
   intro id hm;obtain⟨o1,q1,q2⟩:=hfs0 id hm;obtain⟨L,hL,_⟩:=hrep.objs id o1 q1 q2;refine⟨by rw[hL];simp,fun o' hm'=> ?_⟩;obtain⟨j,x,r1,r2,_⟩:=Zbv 0 as' id o' hm';exact absurd hm (hall _ (hlent j x id r1 r2).1).2)
  (by
   intro m o' hm;obtain⟨⟨aa,haa⟩,hg,hobj,L,hL,hro⟩:=hmade m o' hm;refine⟨L,by rw[hρn];exact hL,fun b1 hb1=> ?_,fun S'' hN hS hF _=> ?_⟩
   ·have:=hmb m o' L b1 hm hL hb1;exact⟨this.2.2,this.1⟩
   ·refine ZB.pureArg haa (fun _ _ _=>rfl) (fun b1 hb1=> ?_) (fun _ _=>rfl) hro
    by_cases h1:S1 b1
    ·rcases hS1i b1 h1 with h2 |⟨g,Lg,h2,h3,h4⟩
     ·exact hS b1 h2
     ·obtain⟨o1,q1,q2⟩:=hfs0 g h2;exact hF g h2 o1 Lg b1 q1 q2 h3 h4
    ·exact hN b1 ⟨hb1,h1⟩)
  (by
   intro m o1 L1 m' o2 L2 b1 hm hg hL hb1 hm' hg' hL' hb1';rw[hρn]at hL hL';have:=hrep2.inj _ _ L1 _ _ L2 b1 (hmade m o1 hm).2.2.1 hg hL hb1 (hmade m' o2 hm').2.2.1 hg' hL' hb1';simpa using this)
  (by
   intro id o' L hm hg hL S'' hN hS hF;obtain⟨j,x,q1,q2,q3⟩:=Zbv 0 as' id o' hm;rw[Znh]at q3;obtain⟨⟨aa,haa⟩,_,L2,r2,r3,hro⟩:=hout j x id o' q1 q2 q3.symm hg;rw[hL]at r2;obtain rfl:=ZmQ r2;refine ZB.pureArg haa (fun _ _ _=>rfl) (fun b1 hb1=> ?_) (fun _ _=>rfl) hro
   by_cases h1:S1 b1
   ·rcases hS1i b1 h1 with h2 |⟨g,Lg,h2,h3,h4⟩
    ·exact hS b1 h2
    ·obtain⟨o1,q1,q2⟩:=hfs0 g h2;exact hF g h2 o1 Lg b1 q1 q2 h3 h4
   ·exact hN b1 ⟨hb1,h1⟩)
  (by
   intro S'' hN hS hF _ _;have hS2:∀b1,S2 b1→S'' b1:=fun b1 hb1=>by
    by_cases h1:S1 b1
    ·rcases hS1i b1 h1 with h2 |⟨g,Lg,h2,h3,h4⟩
     ·exact hS b1 h2
     ·obtain⟨o1,q1,q2⟩:=hfs0 g h2;exact hF g h2 o1 Lg b1 q1 q2 h3 h4
    ·exact hN b1 ⟨hb1,h1⟩
   have each:∀(j:Nat) (hj:j < vs.size) (hjr:j < rds.length),RelD w' S'' ρc vs[j] rds[j]:=by
    intro j hj hjr;have hjl:j < ret.res.length:=by omega
    have hs:=hrep2.slots j;have hsv:vs.getD j undef=vs[j]:=by simp[hj]
    rw[hsv,show (ZcC ret).slots j=Zal D.dead (Zkb 0 ret.res) j from rfl]at hs;have:=ZhD 0 ret.res j ret.res[j] (Zmz hjl);rw[Znh]at this;rw[this]at hs;have hat:=rg j ret.res[j] rds[j] (Zmz hjl) (Zmz hjr);rw[Znh]at hat;generalize vs[j]=v at hs;generalize ret.res[j]=x at hs hat;generalize rds[j]=d at hat;cases x with
    |p x=>
     simp only[RV.at,ZmR]at hat;subst hat;exact .p _ _ (hs.of_p.mono (fun _ _ _=>rfl) hS2)
    |own sz es=>
     simp only[RV.at,ZmR]at hat;subst hat;cases hs with
     |sl _ _ _ cap ad L hL hl hm hcp ha=>exact .sl _ 0 _ cap ad L (by rw[hρn];exact hL) hl hm hcp ha
    |box cs=>
     simp only[RV.at,ZmR]at hat;subst hat;cases hs with
     |ptr _ _ _ L b hL hi hb=>exact .ptr _ 0 0 L b (by rw[hρn];exact hL) hi hb
    |map td kv=>
     simp only[RV.at,ZmR]at hat;subst hat;cases hs with
     |map _ L b hL hb=>exact .map _ L b (by rw[hρn];exact hL) hb
    |view kk off len=>
     simp only[RV.at]at hat;split at hat;rotate_left;simp at hat;rename_i x hx;split at hat;rotate_left;simp at hat;rename_i id hid;cases hat;cases hs with
     |sl _ _ _ cap ad L hL hl hm hcp ha=>
      obtain⟨_,o1,L0,q1,q2,q3,q4⟩:=hlent kk x id hx hid;have:=hrep2.lay kk L0 q4 (by rw[hL];simp);rw[hL]at this;obtain rfl:=ZmQ this;exact .sl id off _ cap ad L (hρc _ _ q3) hl hm hcp ha
   have hvr:vs.size=rds.length:=by omega
   show RelD _ _ _ _ (tupD rds);unfold tupD;split
   ·rename_i d;have h1:vs.size=1:=by simpa using hvr
    have:=each 0 (by omega) (by simp);unfold ZgJ;rw[dif_pos h1];simpa using this
   ·rename_i hne;have h1:vs.size≠1:=fun h1=>by
     rw[h1]at hvr
     match rds,hvr with
     | [d],_=>exact hne d rfl
    unfold ZgJ;rw[dif_neg h1];refine .tup _ _ hvr fun j u d hu hd=> ?_
    obtain⟨hj,rfl⟩:=Zmp.1 hu;obtain⟨hj',rfl⟩:=ZmA.1 hd;exact each j hj hj')
 exact⟨ρc,S',a.put o.dst (ZgJ vs),w',hrepc,by simp[hd],hsteps⟩
end
end Eng
namespace Eng
open Go
def Zl (lk lk':Id→Option Obj) (l:List Id):Prop:=∀id∈l,lk id=lk' id
theorem ZkF {lk:Id→Option Obj}:∀(n:Nat) (d:D) (id:Id),id∈d.ids lk n→id∈d.ids lk (n+1):=by
 intro n
 induction n with
 |zero=>
  intro d id h;cases d with
  |ptr id' i j=>simp only[D.ids,ZmI]at h;subst h;simp[D.ids]
  |agg cs=>simp[D.ids]at h
  |tup cs=>simp[D.ids]at h
  |fn f a b=>simp[D.ids]at h
  |it id'=>simpa[D.ids]using h
  |sl id' o l=>simpa using h
  |map id'=>simpa using h
  |_=>simp[D.ids]at h
 |succ n ih=>
  intro d id h;have lst:∀cs:List D,id∈cs.flatMap (D.ids lk n)→id∈cs.flatMap (D.ids lk (n+1)):=fun cs hm=>by obtain⟨c,hc,hi⟩:=ZmH.1 hm;exact ZmH.2 ⟨c,hc,ih c id hi⟩
  cases d with
  |ptr id' i j=>
   simp only[D.ids,ZmF]at h⊢
   rcases h with h |h
   ·exact .inl h
   ·right;split at h;rotate_left;simp at h;rename_i cs hlk;exact lst _ h
  |agg cs=>simp only[D.ids]at h⊢;exact lst _ h
  |tup cs=>simp only[D.ids]at h⊢;exact lst _ h
  |fn f a b=>
   simp only[D.ids,ZmE]at h⊢
   exact h.imp (lst _) (lst _)
  |it id'=>simpa[D.ids]using h
  |sl id' o l=>simpa using h
  |map id'=>simpa using h
  |_=>simp[D.ids]at h
theorem ZdO {lk:Id→Option Obj} {n m:Nat} (h:n≤m) (d:D) {id:Id} (hi:id∈d.ids lk n):id∈d.ids lk m:=by
 induction h with
 |refl=>exact hi
 |step _ ih=>exact ZkF _ _ _ ih
theorem ZbJ {α β:Type} {f g:α→Option β}:∀{l:List α},(∀x∈l,f x=g x)→Zm f l=Zm g l
 | [],_=>rfl
 |x::l,h=>by simp only[Zm,h x (by simp),ZbJ (l:=l) fun y hy=>h y (by simp[hy])]
theorem ZC {lk lk':Id→Option Obj}:∀(n:Nat) (d:D),Zl lk lk' (d.ids lk n)→d.toP lk n=d.toP lk' n∧d.ids lk n=d.ids lk' n:=by
 intro n
 induction n with
 |zero=>
  intro d h;cases d with
  |sl id o l=>rw[Zbh,Zbh,h id (by simp)];simp
  |map id=>rw[Zbi,Zbi,h id (by simp)];simp
  |_=>simp[D.toP,D.ids]
 |succ n ih=>
  intro d h;have lst:∀cs:List D,(∀id∈cs.flatMap (D.ids lk n),lk id=lk' id)→Zm (D.toP lk n) cs=Zm (D.toP lk' n) cs∧cs.flatMap (D.ids lk n)=cs.flatMap (D.ids lk' n):=fun cs hm=>by
   have hh:∀c∈cs,D.toP lk n c=D.toP lk' n c∧D.ids lk n c=D.ids lk' n c:=fun c hc=>ih c fun id hid=>hm id (ZmH.2 ⟨c,hc,hid⟩)
   refine⟨ZbJ fun c hc=>(hh c hc).1, ?_⟩;clear hm
   induction cs with
   |nil=>rfl
   |cons c cs ihc=>
    simp only[Zm2,(hh c (by simp)).2,ihc fun c hc=>hh c (by simp[hc])]
  cases d with
  |sl id o l=>rw[Zbh,Zbh,h id (by simp)];simp
  |map id=>rw[Zbi,Zbi,h id (by simp)];simp
  |agg cs=>
   obtain⟨q1,q2⟩:=lst cs (fun id hid=>h id (by simpa[D.ids]using hid));simp[D.toP,D.ids,q1,q2]
  |ptr id i j=>
   have h0:=h id (by simp[D.ids]);cases hlk:lk id with
   |none=>rw[hlk]at h0;simp[D.toP,D.ids,hlk,←h0]
   |some o=>
    rw[hlk]at h0;cases o with
    |box cs=>
     obtain⟨q1,q2⟩:=lst (cs.drop j) (fun id' hid=>h id' (by simp only[D.ids,hlk,ZmF];exact .inr hid));simp only[D.toP,D.ids,hlk,←h0,q1,q2,and_self]
    |_=>simp[D.toP,D.ids,hlk,←h0]
  |tup cs=>
   obtain⟨q1,q2⟩:=lst cs (fun id hid=>h id (by simpa[D.ids]using hid));simp[D.toP,D.ids,q2]
  |fn f a b=>
   obtain⟨q1,q2⟩:=lst a (fun id hid=>h id (by simp only[D.ids,ZmE];exact .inl hid));obtain⟨q3,q4⟩:=lst b (fun id hid=>h id (by simp only[D.ids,ZmE];exact .inr hid));simp[D.toP,D.ids,q1,q2,q3,q4]
  |_=>simp[D.toP,D.ids]
def Zc8 (E:Env) (sl:Nat→D) (lk:Id→Option Obj) (xs:List Operand):List Id:=xs.flatMap fun x=>(ev E sl 0 x).ids lk (depth+1)
theorem ZhW {E:Env} {sl:Nat→D} {lk:Id→Option Obj} (n:Nat) (t:Nat) (x:Operand):(ev E sl t x).ids lk n=(ev E sl 0 x).ids lk n:=by
 cases x with
 |const v=>
  have:∀sz td,(D.ofV sz td v).ids lk n=[]:=by intro sz td;unfold D.ofV;split<;>cases n<;>simp[D.ids]
  simp only[ev,this]
 |_=>rfl
section
variable {E:Env} {sl sl':Nat→D} {lk lk':Id→Option Obj} {xs:List Operand}
theorem ZaB (h:Zl lk lk' (Zc8 E sl lk xs)) {x:Operand} (hx:x∈xs) (t:Nat) {n:Nat} (hn:n≤depth+1):Zl lk lk' ((ev E sl t x).ids lk n):=fun id hid=>by refine h id (ZmH.2 ⟨x,hx, ?_⟩);rw[←ZhW (depth+1) t x];exact ZdO hn _ hid
theorem Zdt {d:D} {sz:Nat} (h:Zl lk lk' (d.ids lk 1)):Zcz lk sz d=Zcz lk' sz d:=by
 have:=(ZC 1 d h).1;unfold Zcz;split
 ·rfl
 ·rw[this]
theorem Ziu {d:D} {td:TD} (h:Zl lk lk' (d.ids lk 1)):Zga lk td d=Zga lk' td d:=by
 unfold Zga;split<;>try rfl
 rename_i id _;rw[h _ (by simp)]
theorem Zg2 {d:D} (h:Zl lk lk' (d.ids lk 1)):Zfp lk d=Zfp lk' d:=by
 unfold Zfp;split<;>try rfl
 rw[h _ (by simp)]
theorem Zbr {t:Nat} {te:TI} (hev:∀t x,x∈xs→ev E sl t x=ev E sl' t x) (h:Zl lk lk' (Zc8 E sl lk xs)):
  ∀(parts:List (Nat×Operand)) (es:List P),(∀p∈parts,p.2∈xs)→ZD E sl lk t te parts es=ZD E sl' lk' t te parts es
 | [],_,_=>rfl
 |(i,x)::r,es,hp=>by
  have hx:=hp (i,x) (by simp);simp only[ZD,←hev t x hx,←(ZC depth _ (ZaB h hx t (by decide))).1];split
  ·split
   ·exact Zbr hev h r _ fun p hp'=>hp p (by simp[hp'])
   ·rfl
  ·rfl
theorem ZdP {t:Nat} (hev:∀t x,x∈xs→ev E sl t x=ev E sl' t x) (h:Zl lk lk' (Zc8 E sl lk xs)):
  ∀(parts:List (Nat×Operand)),(∀p∈parts,p.2∈xs)→ZcN E sl lk t parts=ZcN E sl' lk' t parts
 | [],_=>rfl
 |(i,x)::r,hp=>by
  have hx:=hp (i,x) (by simp);have:=ZdP (t:=t) hev h r fun p hp'=>hp p (by simp[hp'])
  unfold ZcN at this⊢
  simp only[Zm2,←hev t x hx,←(ZC depth _ (ZaB h hx t (by decide))).2,this]
theorem Zc2 {ti:TI} (hev:∀t x,x∈xs→ev E sl t x=ev E sl' t x):∀(parts:List (Nat×Operand)) (cs:List D),(∀p∈parts,p.2∈xs)→ZbR E sl ti parts cs=ZbR E sl' ti parts cs
 | [],_,_=>rfl
 |(i,x)::r,cs,hp=>by
  have hx:=hp (i,x) (by simp);simp only[ZbR];split
  ·split
   ·simp only[←hev _ x hx];split
    ·exact Zc2 hev r _ fun p hp'=>hp p (by simp[hp'])
    ·rfl
   ·rfl
  ·rfl
theorem Zba (hev:∀t x,x∈xs→ev E sl t x=ev E sl' t x):∀(args:List Operand) (ts:List Nat),(∀x∈args,x∈xs)→ZT E sl args ts=ZT E sl' args ts
 | [],_,_=>by cases ‹List Nat› <;>rfl
 |x::r,[],h=>by simp only[ZT,hev 0 x (h x (by simp)),Zba hev r [] fun y hy=>h y (by simp[hy])]
 |x::r,t::ts,h=>by simp only[ZT,hev t x (h x (by simp)),Zba hev r ts fun y hy=>h y (by simp[hy])]
theorem Zea (h:Zl lk lk' (Zc8 E sl lk xs)):∀(args:List Operand) (ts:List Nat),(∀x∈args,x∈xs)→∀d∈ZT E sl args ts,Zl lk lk' (d.ids lk (depth+1))
 | [],ts,_,d,hd=>by cases ts<;>simp[ZT]at hd
 |x::r,[],hx,d,hd=>by
  simp only[ZT,ZmF]at hd;rcases hd with rfl |hd
  ·exact ZaB h (hx x (by simp)) 0 (ZmL _)
  ·exact Zea h r [] (fun y hy=>hx y (by simp[hy])) d hd
 |x::r,t::ts,hx,d,hd=>by
  simp only[ZT,ZmF]at hd;rcases hd with rfl |hd
  ·exact ZaB h (hx x (by simp)) t (ZmL _)
  ·exact Zea h r ts (fun y hy=>hx y (by simp[hy])) d hd
end
end Eng
namespace Eng
open Go
def D.shal:D→List Id
 | .sl id _ _=>[id]
 | .ptr id _ _=>[id]
 | .map id=>[id]
 | .it id=>[id]
 |_=>[]
def ZdS (E:Env) (op:Op) (sl:Nat→D) (lk:Id→Option Obj):List Id:=
 match op with
 | .move _ | .assign _ | .pick .. | .alloc _ | .box .. | .build .. | .nilCheck _ | .fieldAddr .. | .field .. | .binOp .. | .unOp .. | .extract .. | .makeFunc .. | .makeMap .. | .makeSlice .. | .index .. =>[]
 | .load _ a=>(ev E sl 0 a).shal
 | .store _ a x=>(ev E sl 0 a).shal++(ev E sl 0 x).ids lk depth
 | .indexAddr _ x _=>(ev E sl 0 x).shal
 | .slice _ x _ _ _=>(ev E sl 0 x).shal
 | .next x _=>(ev E sl 0 x).shal
 | .entry x=>(ev E sl 0 x).shal
 | .range _ x=>(ev E sl 0 x).shal
 |op=>Zc8 E sl lk op.operands.toList
theorem Zbm {E:Env} {sl sl':Nat→D} {x:Option Operand} (h:∀y,x=some y→ev E sl 0 y=ev E sl' 0 y):ZbN E sl x=ZbN E sl' x:=by
 cases x with
 |none=>rfl
 |some y=>simp only[ZbN,h y rfl]
theorem ZU {E:Env} {sl sl':Nat→D} {lk lk':Id→Option Obj}:∀{xs:List Operand},(∀t x,x∈xs→ev E sl t x=ev E sl' t x)→Zl lk lk' (Zc8 E sl lk xs)→Zc8 E sl lk xs=Zc8 E sl' lk' xs
 | [],_,_=>rfl
 |x::r,he,h=>by
  have h1:Zl lk lk' ((ev E sl 0 x).ids lk (depth+1)):=fun id hid=>h id (ZmH.2 ⟨x,by simp,hid⟩)
  have h2:Zl lk lk' (Zc8 E sl lk r):=fun id hid=>by obtain⟨y,hy,hi⟩:=ZmH.1 hid;exact h id (ZmH.2 ⟨y,by simp[hy],hi⟩)
  have:=ZU (xs:=r) (fun t y hy=>he t y (by simp[hy])) h2;unfold Zc8 at this⊢
  simp only[Zm2,←he 0 x (by simp),←(ZC _ _ h1).2,this]
section
variable {E:Env} {sl sl':Nat→D} {lk lk':Id→Option Obj}
theorem Zbe {t:Nat} {m k v:Operand} (hev:∀t x,x∈[m,k,v]→ev E sl t x=ev E sl' t x) (h:Zl lk lk' (Zc8 E sl lk [m,k,v])):ZX E sl lk t m k v=ZX E sl' lk' t m k v:=by
 have hm:=fun t=>hev t m (by simp)
 have hk:=fun t=>hev t k (by simp)
 have hv:=fun t=>hev t v (by simp)
 have cm:=fun t n=>ZaB (n:=n) h (x:=m) (by simp) t
 have ck:=fun t=>(ZC 1 _ (ZaB h (x:=k) (by simp) t (by decide)))
 have cv:=fun t=>(ZC depth _ (ZaB h (x:=v) (by simp) t (by decide)))
 unfold ZX;simp only[←hm,←hk,←hv,←ck,←cv];split<;>try rfl
 split<;>try rfl
 rename_i id he;have:=cm 0 1 (by decide) id (by rw[he];simp);rw[this]
theorem Zet {ep i s t:Nat} {d:D} (h:Zl lk lk' (d.ids lk 1)):Zaq E ep i lk s t d=Zaq E ep i lk' s t d:=by
 have:=(ZC 1 d h).1;unfold Zaq;split<;>try rfl
 rw[this]
theorem ZfS {sz:Option Nat} {d:D} {a b c:Option Int} (h:Zl lk lk' d.shal):ZaJ lk sz d a b c=ZaJ lk' sz d a b c:=by
 unfold ZaJ;split<;>try rfl
 rename_i id _ _;rw[h id (by simp[D.shal])]
theorem Zct {ep i:Nat} {te:TI} {s:D} {xs:List P} (hs:Zl lk lk' (s.ids lk 1)):Z6 lk ep i te s xs=Z6 lk' ep i te s xs:=by
 unfold Z6;split<;>try rfl
 rename_i id _;rw[hs id (by simp)]
theorem ZfG {ep i:Nat} {te:TI} {s x:D} (hs:Zl lk lk' (s.ids lk 1)) (hx:Zl lk lk' (x.ids lk 1)):ZaH lk ep i te s x=ZaH lk' ep i te s x:=by
 unfold ZaH;rw[Zdt hx];split
 ·rfl
 ·exact Zct hs
theorem Zhg {te:TI} {s x:D} (hs:Zl lk lk' (s.ids lk 1)) (hx:Zl lk lk' (x.ids lk 1)):ZfC lk te s x=ZfC lk' te s x:=by
 unfold ZfC;split<;>try rfl
 rename_i id _ _;rw[hs id (by simp)];split<;>try rfl
 rw[Zdt hx]
theorem Zeu {ep i:Nat} {b:Builtin} {ats:List Nat} {ds:List D} (h:∀d∈ds,Zl lk lk' (d.ids lk (depth+1))):ZI E ep i lk b ats ds=ZI E ep i lk' b ats ds:=by
 have h1:∀d∈ds,Zl lk lk' (d.ids lk 1):=fun d hd id hid=>h d hd id (ZdO (by decide) d hid)
 unfold ZI;split<;>try rfl
 ·unfold Zit;split<;>try rfl
  rename_i t d;simp only[show ∀td,Zga lk td d=Zga lk' td d from fun td=>Ziu (h1 d (by simp))]
 ·unfold Zb6;split<;>try rfl
  rename_i t u s x;simp only[show ∀te,ZaH lk ep i te s x=ZaH lk' ep i te s x from fun te=>ZfG (h1 s (by simp)) (h1 x (by simp)),show ∀te xs,Z6 lk ep i te s xs=Z6 lk' ep i te s xs from fun te xs=>Zct (h1 s (by simp))]
 ·unfold ZiK;split<;>try rfl
  rename_i t _ d s;simp only[show ∀te,ZfC lk te d s=ZfC lk' te d s from fun te=>Zhg (h1 d (by simp)) (h1 s (by simp))]
 ·unfold Zd2;split<;>try rfl
  rename_i t _ id k;rw[h1 (.map id) (by simp) id (by simp),(ZC 1 _ (h1 k (by simp))).1]
theorem ZiJ {ep i:Nat} {op:Op} {ty:Nat} (hev:∀t x,x∈op.operands.toList→ev E sl t x=ev E sl' t x) (h:Zl lk lk' (ZdS E op sl lk)):
  Zd E ep i op ty sl lk=Zd E ep i op ty sl' lk'∧ZdS E op sl lk=ZdS E op sl' lk':=by
 cases op with
 |move x=>have:=fun t=>hev t x (by simp[Op.operands]);exact⟨by simp only[Zd,this],rfl⟩
 |assign x=>have:=fun t=>hev t x (by simp[Op.operands]);exact⟨by simp only[Zd,this],rfl⟩
 |pick c a b=>
  have h1:=fun t=>hev t c (by simp[Op.operands])
  have h2:=fun t=>hev t a (by simp[Op.operands])
  have h3:=fun t=>hev t b (by simp[Op.operands])
  exact⟨by simp only[Zd,h1,h2,h3],rfl⟩
 |alloc t=>exact⟨rfl,rfl⟩
 |box t x=>have:=fun t=>hev t x (by simp[Op.operands]);exact⟨by simp only[Zd,this],rfl⟩
 |build t ps=>
  refine⟨?_,rfl⟩;have:=fun ti cs=>Zc2 (E:=E) (sl:=sl) (sl':=sl') (ti:=ti) (xs:=ps.toList.map (·.2)) (fun t x hx=>hev t x (by simpa[Op.operands]using hx)) ps.toList cs (fun p hp=>Znd hp)
  simp only[Zd,this]
 |buildSlice t n ps=>
  have h0:Zl lk lk' (Zc8 E sl lk (ps.toList.map (·.2))):=by simpa[ZdS,Op.operands]using h
  have he:∀t x,x∈ps.toList.map (·.2)→ev E sl t x=ev E sl' t x:=fun t x hx=>hev t x (by simpa[Op.operands]using hx)
  have h1:=fun t te es=>Zbr (t:=t) (te:=te) he h0 ps.toList es (fun p hp=>Znd hp)
  have h2:=fun t=>ZdP (t:=t) he h0 ps.toList (fun p hp=>Znd hp)
  exact⟨by simp only[Zd,h1,h2],ZU hev h⟩
 |insert t m k v=>
  have he:∀t x,x∈[m,k,v]→ev E sl t x=ev E sl' t x:=fun t x hx=>hev t x (by simpa[Op.operands]using hx)
  exact⟨by simp only[Zd];exact Zbe he (by simpa[ZdS,Op.operands]using h),ZU hev h⟩
 |mapUpdate t m k v=>
  have he:∀t x,x∈[m,k,v]→ev E sl t x=ev E sl' t x:=fun t x hx=>hev t x (by simpa[Op.operands]using hx)
  exact⟨by simp only[Zd];exact Zbe he (by simpa[ZdS,Op.operands]using h),ZU hev h⟩
 |load t x=>
  have h1:=fun t=>hev t x (by simp[Op.operands])
  refine⟨?_,by simp only[ZdS,h1]⟩;simp only[ZdS]at h;simp only[Zd,←h1];split<;>try rfl
  split<;>try rfl
  rename_i id _ _ he;rw[h id (by rw[he];simp[D.shal])]
 |store t a x=>
  have h1:=fun t=>hev t a (by simp[Op.operands])
  have h2:=fun t=>hev t x (by simp[Op.operands])
  simp only[ZdS]at h;have hx:Zl lk lk' ((ev E sl t x).ids lk depth):=fun id hid=>h id (by rw[ZhW]at hid;simp[hid])
  have hx0:Zl lk lk' ((ev E sl 0 x).ids lk depth):=fun id hid=>h id (by simp[hid])
  refine⟨?_,by simp only[ZdS,←h1,←h2,←(ZC depth _ hx0).2]⟩;simp only[Zd,←h1,←h2,←(ZC depth _ hx).1,←(ZC depth _ hx).2];split<;>try rfl
  split<;>try rfl
  rename_i id _ _ he;rw[h id (by rw[he];simp[D.shal])]
 |nilCheck x=>have:=fun t=>hev t x (by simp[Op.operands]);exact⟨by simp only[Zd,this],rfl⟩
 |binOp b t x y u=>
  have h1:=fun t=>hev t x (by simp[Op.operands])
  have h2:=fun t=>hev t y (by simp[Op.operands])
  exact⟨by simp only[Zd,h1,h2],rfl⟩
 |unOp u t x=>have:=fun t=>hev t x (by simp[Op.operands]);exact⟨by simp only[Zd,this],rfl⟩
 |convert s t x=>
  have h1:=fun t=>hev t x (by simp[Op.operands])
  refine⟨?_,ZU hev h⟩;simp only[Zd,←h1];exact Zet fun id hid=>h id (ZmH.2 ⟨x,by simp[Op.operands],ZdO (by decide) _ hid⟩)
 |makeFunc f fs cs=>
  refine⟨?_,rfl⟩;have h1:fs.toList.map (ev E sl 0)=fs.toList.map (ev E sl' 0):=List.map_congr_left fun x hx=>hev 0 x (by simp[Op.operands]at hx⊢;exact .inl hx)
  have h2:cs.toList.map (ev E sl 0)=cs.toList.map (ev E sl' 0):=List.map_congr_left fun x hx=>hev 0 x (by simp[Op.operands]at hx⊢;exact .inr hx)
  cases f<;>simp only[Zd,h1,h2]
 |makeMap t r=>refine⟨?_,rfl⟩;cases r<;>simp only[Zd]
 |makeSlice t l c=>
  have h1:=fun t=>hev t l (by simp[Op.operands])
  have h2:=fun t=>hev t c (by simp[Op.operands])
  exact⟨by simp only[Zd,h1,h2],rfl⟩
 |slice t x lo hi mx=>
  have h1:=fun t=>hev t x (by simp[Op.operands])
  have a1:=Zbm (E:=E) (sl:=sl) (sl':=sl') (x:=lo) fun y hy=>hev 0 y (by subst hy;simp[Op.operands])
  have a2:=Zbm (E:=E) (sl:=sl) (sl':=sl') (x:=hi) fun y hy=>hev 0 y (by subst hy;simp[Op.operands])
  have a3:=Zbm (E:=E) (sl:=sl) (sl':=sl') (x:=mx) fun y hy=>hev 0 y (by subst hy;simp[Op.operands])
  simp only[ZdS]at h;refine⟨?_,by simp only[ZdS,h1]⟩;have:=fun sz a b c=>ZfS (sz:=sz) (a:=a) (b:=b) (c:=c) h
  simp only[Zd,←h1,←a1,←a2,←a3,this]
 |fieldAddr t x f=>have:=fun t=>hev t x (by simp[Op.operands]);exact⟨by simp only[Zd,this],rfl⟩
 |field t x f=>have:=fun t=>hev t x (by simp[Op.operands]);exact⟨by simp only[Zd,this],rfl⟩
 |indexAddr t x ix=>
  have h1:=fun t=>hev t x (by simp[Op.operands])
  have h2:=fun t=>hev t ix (by simp[Op.operands])
  simp only[ZdS]at h;refine⟨?_,by simp only[ZdS,h1]⟩;simp only[Zd,←h1,←h2];split<;>try rfl
  split<;>try rfl
  split<;>try rfl
  split<;>try rfl
  rename_i id _ _ he;rw[h id (by rw[he];simp[D.shal])]
 |index t x ix=>
  have h1:=fun t=>hev t x (by simp[Op.operands])
  have h2:=fun t=>hev t ix (by simp[Op.operands])
  exact⟨by simp only[Zd,h1,h2],rfl⟩
 |lookup t m k ok=>
  have h1:=fun t=>hev t m (by simp[Op.operands])
  have h2:=fun t=>hev t k (by simp[Op.operands])
  refine⟨?_,ZU hev h⟩;have hm:Zfp lk (ev E sl 0 m)=Zfp lk' (ev E sl 0 m):=Zg2 fun id hid=>h id (ZmH.2 ⟨m,by simp[Op.operands],ZdO (by decide) _ hid⟩)
  have hk:=fun t=>(ZC (lk:=lk) (lk':=lk') 1 (ev E sl t k) fun id hid=>h id (ZmH.2 ⟨k,by simp[Op.operands],by rw[ZhW]at hid;exact ZdO (by decide) _ hid⟩)).1
  simp only[Zd,←h1,←h2,hm,hk]
 |range t x=>
  have h1:=fun t=>hev t x (by simp[Op.operands])
  simp only[ZdS]at h;refine⟨?_,by simp only[ZdS,h1]⟩;simp only[Zd,←h1];split<;>try rfl
  rename_i id _ he;rw[h id (by rw[he];simp[D.shal])]
 |next x s=>
  have h1:=fun t=>hev t x (by simp[Op.operands])
  simp only[ZdS]at h;refine⟨?_,by simp only[ZdS,h1]⟩;cases s with
  |false=>simp only[Zd]
  |true=>
   simp only[Zd,←h1];split<;>try rfl
   rename_i id he;rw[h id (by rw[he];simp[D.shal])]
 |entry x=>
  have h1:=fun t=>hev t x (by simp[Op.operands])
  simp only[ZdS]at h;refine⟨?_,by simp only[ZdS,h1]⟩;simp only[Zd,←h1];split<;>try rfl
  rename_i id he;rw[h id (by rw[he];simp[D.shal])]
 |extract x n=>have:=fun t=>hev t x (by simp[Op.operands]);exact⟨by simp only[Zd,this],rfl⟩
 |call c=>
  obtain⟨cal,args,ats⟩:=c;refine⟨?_,ZU hev h⟩;cases cal with
  |builtin b=>
   simp only[Zd];have hx:∀x∈args.toList,x∈(Op.call {callee:= .builtin b,args:=args,argTypes:=ats}).operands.toList:=fun x hx=>by simpa[Op.operands,Call.operands]using hx
   rw[←Zba (xs:=args.toList) (fun t x hx'=>hev t x (hx x hx')) args.toList ats.toList (fun x hx=>hx)];exact Zeu (Zea h args.toList ats.toList hx)
  |_=>simp only[Zd]
 |_=>exact⟨by simp only[Zd],ZU hev h⟩
end
end Eng
namespace Eng
open Go
def Exec (C:Ctx) (r:Fm) (ops:Array Oper) (i:Nat) (st st':St):Prop:=
 ∀(X:Nat→Prop),¬X i→∀ρ S a w,Rep C X ρ S st a.tmps w→a.defers=r.ds→∀(b:Frame) (rest:List Nat) (kk:List Go.Item) (cs:List Frame),b.roundOf=r.r→
  ∃ρ' S' a' w',Rep C (fun j=>X j∨j=i) ρ' S' st' a'.tmps w'∧a'.defers=r.ds∧
   StepsIn (Machine.fenced C.E.prog (Zcj r.r)) C.E.prog (lone (b.atR a (.inRegion ops (i::rest)::kk)) cs w) (lone (b.atR a' (.inRegion ops rest::kk)) cs w')
section
variable {C:Ctx} {r:Fm}
theorem ZlU {ops:Array Oper} {i:Nat} {o:Oper} {st:St} {e:Eff} (hE:Zk C.E) (ho:ops[i]? =some o) (hg:ZQ ops st o.guard=some true)
  (hc:Zd C.E st.ep i o.op o.type st.slots st.objs=some e) (hok:Zfj C.E o=true) (hw:Zek st e=true) (hcond:∀q∈e.cond,q=true):Exec C r ops i st (st.app i o.dst e):=by
 intro X hX ρ S a w hr hd b rest kk cs hb;obtain⟨n,v,w',hrun,hn,ρ',S',hrep⟩:=does hr hX hok hE hc hw hcond;have hwant:=ZaS hr hg;refine⟨ρ',S',a.put o.dst v,w',hrep,by simp[hd], ?_⟩;have hsem:o.semAt b.roundOf a.eval=execOp a.eval o:=Oper.semAt_eq _ _ _ (fun c hc'=>by rw[hc']at hc;simp[Zd]at hc);have hst:=stepGR_op (P:=C.E.prog) (b:=b) (a:=a) (k:=kk) (cs:=cs) (w:=w) (i:=i) (rest:=rest) ho hwant;have hfin:=Frame.finish_atR b a ops i rest kk v;simp only[ho,Zni]at hfin;refine .one (Zx _ _ _) ?_;refine step_lone_go ?_;rw[hst,hsem,←hfin];rcases hn with rfl |⟨rfl,rfl⟩<;>simp[stepG.apply,hrun]
theorem Zgm {ops:Array Oper} {i:Nat} {o:Oper} {st:St} (ho:ops[i]? =some o) (hg:ZQ ops st o.guard=some false) (ht:Zda C.E o=true):Exec C r ops i st (st.app i o.dst {val:= .undef}):=by intro X hX ρ S a w hr hd b rest kk cs hb;have hwant:=ZaS hr hg;obtain⟨S',hrep⟩:=hr.step (i:=i) (t:=o.dst) (e:={val:= .undef}) (v:=undef) (w':=w) ρ hX (Za9 ht) (ZmL _) (ZS.refl _) (fun _ _ _=>rfl) (by simp) (fun _ _ h=>h) (fun id h=> .inl h) (by simp) (fun _ _ hm=>by simp at hm) (fun _ _ _ _ _ _ _ hm=>by simp at hm) (by simp) (fun _ _ _ _ _=> .undef);refine⟨ρ,S',a.put o.dst undef,w,hrep,by simp[hd], ?_⟩;have hst:=stepR_op_skip (P:=C.E.prog) (b:=b) (a:=a) (k:=kk) (cs:=cs) (w:=w) (ops:=ops) (i:=i) (rest:=rest) (by simp[ho,hwant]);simp only[ho,Zni]at hst;exact .one (Zx _ _ _) hst
def ZaQ (E:Env) (sl:Nat→D) (lk:Id→Option Obj) (xs:List Operand):List Id:=xs.flatMap fun x=>(ev E sl 0 x).ids lk (depth+2)
inductive OE (C:Ctx) (ops:Array Oper) (i:Nat) (o:Oper) (st:St):Eff→List Id→Prop
 |skip (hg:ZQ ops st o.guard=some false) (hd:Zda C.E o=true):OE C ops i o st {val:= .undef} []
 |op {e:Eff} (hg:ZQ ops st o.guard=some true) (hc:Zd C.E st.ep i o.op o.type st.slots st.objs=some e) (hok:Zfj C.E o=true) (hw:Zek st e=true) (hcond:∀q∈e.cond,q=true):
   OE C ops i o st e (ZdS C.E o.op st.slots st.objs)
 |call {c:Call} {pts:List Nat} {ms:List AM} {f:Nat} {as:List AE} {ret:Ret} {e:Eff} (hg:ZQ ops st o.guard=some true) (hop:o.op= .call c) (hd:Zda C.E o=true)
   (hpre:Zk1 C.E st c pts ms=some (f,as)) (hcnd:Zle (as.flatMap (·.cond))) (hf:Fun C.E f (as.map (·.arg)) ret) (he:ZfE st i as ret=some e):OE C ops i o st e (ZaQ C.E st.slots st.objs c.operands.toList)
theorem OE.exec {ops:Array Oper} {i:Nat} {o:Oper} {st:St} {e:Eff} {R:List Id} (hE:Zk C.E) (ho:ops[i]? =some o) (h:OE C ops i o st e R):Exec C r ops i st (st.app i o.dst e):=by
 cases h with
 |skip hg hd=>exact Zgm ho hg hd
 |op hg hc hok hw hcond=>exact ZlU hE ho hg hc hok hw hcond
 |call hg hop hd hpre hcnd hf he=>
  intro X hX ρ S a w hr hda b rest kk cs hb;exact ZjJ hX hE ho hg hop hd _ _ hpre hcnd rfl hf he hr hda b rest kk cs hb
theorem ZiU {st st':St} {m:AM} {d:D} (h:Zl st.objs st'.objs (d.ids st.objs (depth+1))):Zgz st m d=Zgz st' m d:=by
 have h0:=ZC depth d fun id hid=>h id (ZdO (by decide) d hid)
 unfold Zgz;split
 ·rw[h0.1,h0.2]
 ·rename_i id;rw[←h id (by simp[D.ids])];cases hlk:st.objs id with
  |none=>rfl
  |some o=>
   cases o with
   |box ds=>
    have hh:∀x∈ds,x.toP st.objs depth=x.toP st'.objs depth∧x.ids st.objs depth=x.ids st'.objs depth:=fun x hx=>ZC depth x fun id' hid'=>h id' (by
     simp only[D.ids,hlk,ZmF];exact .inr (ZmH.2 ⟨x,by simpa using hx,hid'⟩))
    have h1:Zm (fun d=>d.toP st.objs depth) ds=Zm (fun d=>d.toP st'.objs depth) ds:=ZbJ fun x hx=>(hh x hx).1
    have h2:(ds.flatMap fun d=>d.ids st.objs depth)=ds.flatMap fun d=>d.ids st'.objs depth:=by
     clear hlk h1
     induction ds with
     |nil=>rfl
     |cons x r ih=>simp only[Zm2,(hh x (by simp)).2,ih fun y hy=>hh y (by simp[hy])]
    simp only[h1,h2]
   |_=>rfl
 ·rename_i id len;rw[←h id (by simp)]
 ·rename_i id;rw[←h id (by simp)]
 ·rename_i id off len;rw[←h id (by simp)]
 ·rename_i h1 h2 h3 h4 h5
  first
   |rfl
   |(cases m<;>first |rfl |(cases d<;>simp_all))
theorem ZeX {lk:Id→Option Obj} {d:D} {g:Nat} {first caps:List D} (h:Zb5 d=some (g,first,caps)) (n:Nat):∀x,x∈first++caps→∀id∈x.ids lk n,id∈d.ids lk (n+1):=by
 unfold Zb5 at h;split at h
 ·simp only[ZmR,ZmS]at h;obtain⟨rfl,rfl,rfl⟩:=h;intro x hx id hid;simp only[ZmE,Znc]at hx;rcases hx with ⟨y,_,rfl⟩ |⟨y,_,rfl⟩<;>cases n<;>simp[D.ids]at hid
 ·simp only[ZmR,ZmS]at h;obtain⟨rfl,rfl,rfl⟩:=h;intro x hx id hid;simp only[D.ids,ZmE,ZmH];simp only[ZmE]at hx;exact hx.imp (fun h=>⟨x,h,hid⟩) (fun h=>⟨x,h,hid⟩)
 ·simp at h
theorem Zcm {E:Env} {sl sl':Nat→D} {lk lk':Id→Option Obj}:∀{xs:List Operand},(∀t x,x∈xs→ev E sl t x=ev E sl' t x)→Zl lk lk' (ZaQ E sl lk xs)→ZaQ E sl lk xs=ZaQ E sl' lk' xs
 | [],_,_=>rfl
 |x::r,he,h=>by
  have h1:Zl lk lk' ((ev E sl 0 x).ids lk (depth+2)):=fun id hid=>h id (ZmH.2 ⟨x,by simp,hid⟩)
  have h2:Zl lk lk' (ZaQ E sl lk r):=fun id hid=>by obtain⟨y,hy,hi⟩:=ZmH.1 hid;exact h id (ZmH.2 ⟨y,by simp[hy],hi⟩)
  have:=Zcm (xs:=r) (fun t y hy=>he t y (by simp[hy])) h2;unfold ZaQ at this⊢
  simp only[Zm2,←he 0 x (by simp),←(ZC _ _ h1).2,this]
theorem Zd9 {E:Env} {sl:Nat→D}:∀(args:List Operand) (ts:List Nat) (d:D),d∈ZT E sl args ts→∃x t,x∈args∧d=ev E sl t x
 | [],ts,d,h=>by cases ts<;>simp[ZT]at h
 |x::r,[],d,h=>by
  simp only[ZT,ZmF]at h;rcases h with rfl |h
  ·exact⟨x,0,by simp,rfl⟩
  ·obtain⟨y,t,hy,rfl⟩:=Zd9 r [] d h;exact⟨y,t,by simp[hy],rfl⟩
 |x::r,t::ts,d,h=>by
  simp only[ZT,ZmF]at h;rcases h with rfl |h
  ·exact⟨x,t,by simp,rfl⟩
  ·obtain⟨y,t,hy,rfl⟩:=Zd9 r ts d h;exact⟨y,t,by simp[hy],rfl⟩
theorem Zii {E:Env} {st st':St} {c:Call} {pts:List Nat} {ms:List AM} {f:Nat} {as:List AE} (hev:∀t x,x∈c.operands.toList→ev E st.slots t x=ev E st'.slots t x)
  (h:Zl st.objs st'.objs (ZaQ E st.slots st.objs c.operands.toList)) (hfz:∀k id,((0,k,0),id)∈Zaa 0 as→st'.fz id=st.fz id) (hp:Zk1 E st c pts ms=some (f,as)):Zk1 E st' c pts ms=some (f,as):=by
 have hids:∀x∈c.operands.toList,∀t,Zl st.objs st'.objs ((ev E st.slots t x).ids st.objs (depth+2)):=fun x hx t id hid=>h id (ZmH.2 ⟨x,hx,by rw[ZhW]at hid;exact hid⟩)
 unfold Zk1 at hp⊢
 split at hp
 case h_2=>simp at hp
 rename_i fo hcal;have hfo:fo∈c.operands.toList:=by simp[Call.operands,hcal]
 have hargs:∀x∈c.args.toList,x∈c.operands.toList:=fun x hx=>by simp[Call.operands,hcal];exact .inr (by simpa using hx)
 rw[←hev 0 fo hfo];split at hp
 case h_2=>simp at hp
 rename_i g first caps hcd
 simp only[←Zba (xs:=c.operands.toList) hev c.args.toList pts hargs];have hall:∀d∈first++ZT E st.slots c.args.toList pts++caps,∀m,Zgz st m d=Zgz st' m d:=by
  intro d hd m;refine ZiU fun id hid=> ?_
  simp only[ZmE]at hd;rcases hd with (hd |hd) |hd
  ·exact hids fo hfo 0 id (ZeX hcd (depth+1) d (by simp[hd]) id hid)
  ·obtain⟨x,t,hx,rfl⟩:=Zd9 _ _ _ hd;exact hids x (hargs x hx) t id (ZdO (by decide) _ hid)
  ·exact hids fo hfo 0 id (ZeX hcd (depth+1) d (by simp[hd]) id hid)
 rw[←ZbJ (f:=fun x:AM×D=>Zgz st x.1 x.2) (g:=fun x=>Zgz st' x.1 x.2) fun x hx=>hall _ (List.of_mem_zip hx).2 x.1];dsimp only at hp⊢
 split at hp
 case isFalse=>simp at hp
 rename_i hlen;simp only[hlen,if_true];split at hp
 case h_2=>simp at hp
 rename_i as' has;split at hp
 case isFalse=>simp at hp
 rename_i hok;simp only[ZmR,ZmS]at hp;obtain⟨rfl,rfl⟩:=hp;have:Zf0 (st'.freezeL (as'.flatMap (·.fs))) (Zaa 0 as') 1=Zf0 (st.freezeL (as'.flatMap (·.fs))) (Zaa 0 as') 1:=by
  unfold Zf0;congr 1;refine Bool.eq_iff_iff.2 ?_;simp only[ZmX];have hh:∀x∈Zaa 0 as',(st'.freezeL (as'.flatMap (·.fs))).fz x.2=(st.freezeL (as'.flatMap (·.fs))).fz x.2:=fun x hx=>by obtain⟨j,ae,_,q2,_⟩:=Zby 0 as' x.1 x.2 hx;rw[freezeL_fz,freezeL_fz,hfz (0+j) x.2 (by rw[←q2];exact hx)]
  exact⟨fun q x hx=>by have:=q x hx;rwa [hh x hx]at this,fun q x hx=>by have:=q x hx;rwa [←hh x hx]at this⟩
 simp only[this,hok,if_true]
theorem Zhk {st st':St} {i:Nat} {as:List AE} {ret:Ret} (h:st'.ep=st.ep):ZfE st' i as ret=ZfE st i as ret:=by unfold ZfE;rw[h]
theorem Zft {ops:Array Oper} {st st':St} {o:Oper} (h:∀t∈o.looksAt ops,st'.slots t=st.slots t):ZQ ops st' o.guard=ZQ ops st o.guard:=by
 cases hg:o.guard with
 |none=>rfl
 |some gw=>
  obtain⟨g,w⟩:=gw;simp only[ZQ];split
  ·rename_i t ht;rw[h t (by simp[Oper.looksAt,hg,ht])]
  ·rfl
theorem ZkI {E:Env} {sl sl':Nat→D} {t:Nat} {x:Operand} (h:∀k,x= .tmp k→sl' k=sl k):ev E sl t x=ev E sl' t x:=by
 cases x with
 |tmp k=>simp only[ev,h k rfl]
 |_=>rfl
theorem OE.congr {ops:Array Oper} {i:Nat} {o:Oper} {st st':St} {e:Eff} {R:List Id} (h:OE C ops i o st e R) (hs:∀t∈o.looksAt ops,st'.slots t=st.slots t) (hR:∀id∈R,st'.objs id=st.objs id)
  (hW:∀id∈e.wr.map (·.1),st'.fz id=st.fz id) (hep:st'.ep=st.ep):OE C ops i o st' e R:=by
 have hev:∀t x,x∈o.op.operands.toList→ev C.E st.slots t x=ev C.E st'.slots t x:=fun t x hx=>ZkI fun k hk=>hs k (by
  subst hk;simp only[Oper.looksAt,ZmE,List.mem_filterMap];exact .inl ⟨.tmp k,hx,rfl⟩)
 have hg':=Zft hs;cases h with
 |skip hg hd=>exact .skip (by rw[hg'];exact hg) hd
 |op hg hc hok hw hcond=>
  obtain⟨q1,q2⟩:=ZiJ (ep:=st.ep) (i:=i) (ty:=o.type) hev (fun id hid=>(hR id hid).symm);rw[q2];refine .op (by rw[hg'];exact hg) (by rw[hep,←q1];exact hc) hok ?_ hcond;unfold Zek at hw⊢
  simp only[Zmt,ZmX]at hw⊢
  exact⟨fun x hx=>by rw[hW x.1 (Znd hx)];exact hw.1 x hx,hw.2⟩
 |call hg hop hd hpre hcnd hf he=>
  rename_i c pts ms f as ret;have hev':∀t x,x∈c.operands.toList→ev C.E st.slots t x=ev C.E st'.slots t x:=fun t x hx=>hev t x (by rw[hop];exact hx)
  have hR':Zl st.objs st'.objs (ZaQ C.E st.slots st.objs c.operands.toList):=fun id hid=>(hR id hid).symm
  rw[Zcm hev' hR'];refine .call (pts:=pts) (ms:=ms) (by rw[hg'];exact hg) hop hd (Zii hev' hR' (fun k id hm=> ?_) hpre) hcnd hf (by rw[Zhk hep];exact he);obtain⟨j,x,q1,q2,q3⟩:=Zby 0 as _ _ hm;refine hW id ?_;unfold ZfE at he;split at he;rotate_left;simp at he;cases he;exact Znc.2 ⟨_,Zdm 0 as j x id q1 q3,rfl⟩
end
end Eng
