/- The engine, text 2: an abstract evaluator of Go code over pure data, proved sound. -/
import Derived.Test.YtcjejmbjlhlkhaaGreatDoorE1
import Derived.Laws.AppendOwn
import Derived.Laws.IdiomRangeMap
import Derived.Laws.RangeAny
import Derived.CallsIn
set_option linter.all false
open Array renaming getElem?_append->Zm1, getElem?_eq_some_iff->Zmy, getElem?_toList->Zm2, mem_iff_getElem->ZmA, mem_toList_iff->ZmB, toArray_toList->Zm3
open Bool renaming and_eq_true->ZmC, not_eq_true'->Zm4
open List renaming all_eq_true->Zm5, any_eq_true->Zm6, cons_append->Zm7, contains_iff_mem->Zm8, eq_nil_of_length_eq_zero->Zm9, flatMap_cons->Zna, getElem?_append_left->Znb, getElem?_append_right->Znc, getElem?_cons_succ->Znd, getElem?_cons_zero->Zne, getElem?_eq_getElem->ZmH, getElem?_eq_some_iff->ZmI, getElem?_map->ZmJ, getElem?_take->ZmK, length_replicate->Znf, map_cons->ZmL, mem_append->ZmM, mem_append_left->Zng, mem_append_right->Znh, mem_cons->ZmN, mem_cons_of_mem->Zni, mem_cons_self->ZmO, mem_flatMap->ZmP, mem_iff_getElem->Znj, mem_map->Znk, mem_map_of_mem->Znl, mem_of_getElem?->Znm, mem_singleton->ZmQ, pairwise_iff_getElem->Znn
open Nat renaming add_mul->ZmS, le_refl->ZmT, mul_le_mul_left->Zno, mul_le_mul_right->ZmU, zero_add->Znp
open Option renaming bind_some->Znq, map_eq_some_iff->ZmX, some.inj->ZmY, some.injEq->ZmZ
open Prod renaming mk.injEq->Zm0
namespace Eng
open Go
section
variable {C:Ctx} {X:Nat->Prop} {ρ:Id->Option Lay} {S:Nat->Prop} {st:St} {a:Act} {w:World} {i:Nat} {o:Oper} {e:Eff}
def flat (sz:Nat) (evs:Nat->Value):Nat->List Value
 |0=>[]
 |n+1=>flat sz evs n++(evs n).cells.toList
theorem Zdl {sz:Nat} {evs:Nat->Value}:∀{n:Nat},(∀j,j < n->(evs j).cells.size=sz)->(flat sz evs n).length=n*sz
 |0,_=>by simp[flat]
 |n+1,h=>by
  have:=Zdl (n:=n) fun j b=>h j (by omega)
  have a:=h n (by omega);simp only[flat,List.length_append,this,Array.length_toList,a,ZmS,Nat.one_mul]
theorem ZhX {sz:Nat} {evs:Nat->Value}:∀{n:Nat},(∀j,j < n->(evs j).cells.size=sz)->∀(j k:Nat) u,j < n->(evs j).cells[k]? =some u->(flat sz evs n)[j*sz+k]? =some u
 |0,_,j,k,u,a,_=>by omega
 |n+1,h,j,k,u,a,hu=>by
  have b:=Zdl (n:=n) fun j a=>h j (by omega)
  have c:k < sz:=by have:=(Zmy.1 hu).1;have:=h j a;omega
  simp only[flat]
  by_cases hjn:j=n
  ·subst hjn;rw[Znc (by omega),b,show j*sz+k - j*sz=k by omega];simpa using hu
  ·have:(j+1)*sz<=n*sz:=ZmU _ (by omega);rw[ZmS,Nat.one_mul]at this;rw[Znb (by omega)];exact ZhX (fun j a=>h j (by omega)) j k u (by omega) hu
theorem Zfx {sz:Nat} {evs:Nat->Value}:∀{n:Nat},(∀j,j < n->(evs j).cells.size=sz)->∀(m:Nat) u,(flat sz evs n)[m]? =some u->∃j k,j < n/\m=j*sz+k/\(evs j).cells[k]? =some u
 |0,_,m,u,a=>by simp[flat]at a
 |n+1,h,m,u,a=>by
  have b:=Zdl (n:=n) fun j e=>h j (by omega)
  simp only[flat]at a
  by_cases hm:m < n*sz
  ·rw[Znb (by omega)]at a;obtain⟨j,k,f,c,d⟩:=Zfx (fun j e=>h j (by omega)) m u a;exact⟨j,k,by omega,c,d⟩
  ·rw[Znc (by omega),b]at a;exact⟨n,m - n*sz,by omega,by omega,by simpa using a⟩
def Src (P:Program) (w:World) (S:Nat->Prop) (sz:Nat) (v:Value) (xs:List Eng.P):Prop:=
 ∃(news:List Value) (evs:Nat->Value),news.length=xs.length*sz/\xs.length<=Zq/\(∀w',(Builtin.lenOf v).run P w'= .ok xs.length w')/\
  (∀n,n<=xs.length->∀w',w'.heap=w.heap->(Builtin.firstCells sz n v).run P w'= .ok (news.take (n*sz)).toArray w')/\(∀u∈news,ZbP u)/\
  (∀j,j < xs.length->(evs j).cells.size=sz/\∀(k:Nat) u,(evs j).cells[k]? =some u->news[j*sz+k]? =some u)/\∀(j:Nat) x,xs[j]? =some x->RelP w S (evs j) x
theorem Zj4 {w w':World} (h:w'.heap=w.heap) (x:Addr):w'.cell? x=w.cell? x:=by simp[World.cell?,h]
theorem Z8 {P:Program} {ad:Option Addr} {len cap sz:Nat} {es:List Eng.P} {evs:Nat->Value} (z:es.length=len) (A:len<=Zah)
  (a:∀i,i < len->(evs i).cells.size=sz)
  (c:∀i,i < len->∃b o,ad=some ⟨b,o,none⟩/\∀(j:Nat) v,(evs i).cells[j]? =some v->w.cell? ⟨b,o+i*sz+j,none⟩=some v)
  (s:∀(i:Nat) x,es[i]? =some x->RelP w S (evs i) x):Src P w S sz (.slice ad len cap) es:=by
 subst z;have p:=Zdl a;refine⟨flat sz evs es.length,evs,p,by unfold Zah at A;unfold Zq;omega,fun w'=>by simp[Builtin.lenOf],fun n y w' hw=> ?_,fun u d=> ?_,fun j e=>⟨a j e,fun k u d=>ZhX a j k u e d⟩,s⟩
 ·cases ad with
  |none=>
   have D:es.length=0:=by
    rcases Nat.eq_zero_or_pos es.length with h |h
    ·exact h
    ·obtain⟨b,o',l,_⟩:=c 0 h;simp at l
   have:n=0:=by omega
   subst this;simp[Builtin.firstCells]
  |some ad=>
   have f:((flat sz evs es.length).take (n*sz)).length=n*sz:=by have:n*sz<=es.length*sz:=ZmU _ y;simp;omega
   refine run_firstCells_some (P:=P) w' sz n ad es.length cap _ f fun m u d=> ?_
   rw[ZmK]at d;split at d;rotate_left;simp at d;obtain⟨j,k,e,rfl,g⟩:=Zfx a m u d;obtain⟨b,o',l,B⟩:=c j e;cases l;rw[Z4,Zj4 hw,<-Nat.add_assoc];exact B k u g
 ·obtain⟨m,q,rfl⟩:=Znj.1 d;obtain⟨j,k,e,_,g⟩:=Zfx a m _ (ZmH q);have t:=s j es[j] (by simp[e]);have C:=t.size;have r:k < es[j].cells.length:=by have:=(Zmy.1 g).1;omega
  exact(t.cell g (ZmH r)).2
theorem Zdu {P:Program} {lk:Id->Option Obj} (J:Objs w S ρ lk) {v:Value} {x:D} {sz:Nat} {xs:List Eng.P} (e:RelD w S ρ v x) (l:ZcA lk sz x=some xs):Src P w S sz v xs:=by
 unfold ZcA at l;split at l
 ·
  rename_i s;split at l;rotate_left;simp at l;rename_i r;subst r;cases l;obtain⟨rfl,m⟩:=e.of_p.str_inv;refine⟨s.map fun b=>Value.int .u8 b.toNat,fun j=> .int .u8 (s.getD j 0).toNat,by simp[ZaH],by simpa[ZaH]using m,fun w'=>by simp[Builtin.lenOf,ZaH,ZaZ],fun n W w' _=> ?_,fun u q=> ?_,fun j B=>⟨rfl,fun k u q=> ?_⟩,fun j x e=> ?_⟩
  ·simp only[ZaH,List.length_map]at W;simp[Builtin.firstCells]
  ·obtain⟨b,_,rfl⟩:=Znk.1 q;rfl
  ·cases k with
   |succ k=>simp[Value.cells]at q
   |zero=>
    simp only[ZaH,List.length_map]at B;simp[Value.cells]at q;subst q;simp[B]
  ·have B:j < s.length:=by have:=(ZmI.1 e).1;simpa[ZaH]using this
   simp[ZaH,B]at e;subst e;have H:(s.getD j 0)=s[j]:=by simp[B]
   dsimp only;rw[H];have z:=s[j].toNat_lt;refine .int .u8 _ ?_ ?_<;>simp[IntKind.min,IntKind.max,IntKind.signed,IntKind.bits]<;>omega
 ·split at l;rotate_left;simp at l;rename_i Y es c;split at l;rotate_left;simp at l;rename_i t;subst t;cases l;cases e with
  |p v x h=>
   simp at c;subst c;cases h with
   |sl ad len cap sz es evs m N K g d G=>
    exact Z8 m N g (fun i hi=>let ⟨b,o,r,_,h2⟩:=d i hi;⟨b,o,r,h2⟩) G
  |val v=>simp[D.toP]at c
  |nils sz=>
   simp at c;obtain⟨rfl,rfl⟩:=c;exact Z8 (evs:=fun _=>default) rfl (by simp) (by simp) (by simp) (by simp)
  |clip ad n sz es h=>
   simp at c;obtain⟨rfl,rfl⟩:=c;cases h with
   |sl ad len cap sz es evs m N K g d G=>
    exact Z8 m N g (fun i hi=>let ⟨b,o,r,_,h2⟩:=d i hi;⟨b,o,r,h2⟩) G
  |sl id A len cap ad L E m V K R=>
   rw[Zbh]at c;split at c;rotate_left;simp at c;rename_i sz es fix M;simp only[ZmZ,Eng.P.sl.injEq]at c;obtain⟨rfl,rfl⟩:=c;obtain⟨L',C,g,U,X,T,Z,F,evs,I,d,y⟩:=J id _ M (by simp);rw[E]at C;obtain rfl:=ZmY C;refine Z8 (evs:=fun i=>evs (A+i)) (by simp;omega) (by omega) (fun i O=>I _ (by omega)) (fun i O=> ?_) (fun i x e=> ?_)
   ·rcases R with h0 |⟨b,z,rfl,Q⟩
    ·omega
    ·refine⟨b,_,rfl,fun j u q=> ?_⟩;have:=d b z (A+i) j u (by omega) q;rw[ZmS]at this;rw[g,<-this];congr 2;omega
   ·rw[ZmK]at e;split at e;rotate_left;simp at e;rw[List.getElem?_drop]at e;exact y _ x e
  |dead v=>simp[D.toP]at c
  |undef=>simp[D.toP]at c
  |anyb b=>simp[D.toP]at c
  |agg vs cs m r h=>simp[D.toP]at c
  |tup vs cs m h=>simp[D.toP]at c
  |ptr id i j L b E hi z=>
   simp only[D.toP]at c;split at c
   ·split at c<;>simp at c
   ·simp at c
   ·simp at c
  |map id L b E z=>
   rw[Zbi]at c;split at c<;>simp at c
  |it id L b E z=>simp[D.toP]at c
  |fn f fs cs a b hf K h h'=>
   simp only[D.toP]at c;split at c<;>simp at c
theorem Zcb {P:Program} {t u ty i:TypeId} {te:TI} {f:TypeDesc} {E:Env} (v:Zl E) (s:E.prog=P) (y:P.underlying t=some (.slice i)) (g:E.ty i=some te) (q:P.underlying u=some f) (l:∀k,f≠ .int k)
  {b o sLen sCap:Nat} {x:Value} {news:List Value} {m:Nat} (h:∀w',(Builtin.lenOf x).run P w'= .ok m w') (n:(Builtin.firstCells te.size m x).run P w= .ok news.toArray w)
  (a:sLen+m<=sCap) (z:∀j,j < news.length->(w.cell? ⟨b,o+sLen*te.size+j,none⟩).isSome=true) (p:∀j,j < news.length->w.frozen? ⟨b,o+sLen*te.size+j,none⟩=false) (r:∀u∈news,u.oneCell'=true):
  (Builtin.append_ #[t,u] ty #[.slice (some ⟨b,o,none⟩) sLen sCap,x]).run P w= .ok (.slice (some ⟨b,o,none⟩) (sLen+m) sCap) (w.setCells b (o+sLen*te.size) news):=by
 subst s;have c:∀w,(Go.sizeOf i).run E.prog w= .ok te.size w:=ZM v g;have d:=run_storeCells_cells (P:=E.prog) b (o+sLen*te.size) news 0 w (by simpa using z) (by simpa using p) r;simp only[Nat.add_zero]at d;have e:(match f with | .int _=>true |_=>false)=false:=by cases f<;>first |rfl |exact absurd rfl (l _)
 simp[Builtin.append_,Za y,Za q,c,e,h,a,n,Z4,d]
theorem Zbl {P:Program} {t u ty f:TypeId} {te:TI} {d:TypeDesc} {E:Env} (m:Zl E) (l:E.prog=P) (j:P.underlying t=some (.slice f)) (e:E.ty f=some te) (i:P.underlying u=some d) (g:∀k,d≠ .int k)
  {x:Value} {ad:Option Addr} {sCap:Nat} (c:∀w',(Builtin.lenOf x).run P w'= .ok 0 w') (h:(Builtin.firstCells te.size 0 x).run P w= .ok #[] w):
  (Builtin.append_ #[t,u] ty #[.slice ad 0 sCap,x]).run P w= .ok (.slice ad 0 sCap) w:=by
 subst l;have a:∀w,(Go.sizeOf f).run E.prog w= .ok te.size w:=ZM m e;have b:(match d with | .int _=>true |_=>false)=false:=by cases d<;>first |rfl |exact absurd rfl (g _)
 cases ad with
 |none=>simp[Builtin.append_,Za j,Za i,a,b,c,h]
 |some ad=>simp[Builtin.append_,Za j,Za i,a,b,c,h,storeCells]
theorem ZbN {P:Program} {t u ty b:TypeId} {te:TI} {j:TypeDesc} {E:Env} (s:Zl E) (v:E.prog=P) (D:P.underlying t=some (.slice b)) (d:E.ty b=some te) (A:P.underlying u=some j) (p:∀k,j≠ .int k)
  {ad:Option Addr} {sLen sCap:Nat} {x:Value} {olds news:List Value} {m:Nat} (o:∀w',(Builtin.lenOf x).run P w'= .ok m w') (H:∀w',w'.heap=w.heap->(Builtin.firstCells te.size m x).run P w'= .ok news.toArray w')
  (q:∀w',w'.heap=w.heap->(Builtin.firstCells te.size sLen (.slice ad sLen sCap)).run P w'= .ok olds.toArray w')
  (B:sCap < sLen+m) (r:sLen+m<=Zq) (g:(sLen+m)*te.bytes<=ZO):
  ∃(rest:Array Value),rest.size=(grownCap w (sLen+m) sCap b - (sLen+m))*te.size/\
  (Builtin.append_ #[t,u] ty #[.slice ad sLen sCap,x]).run P w=
   .ok (.slice (some ⟨w.heap.size,0,none⟩) (sLen+m) (grownCap w (sLen+m) sCap b)) (w.drew.alloc (.cells (olds.toArray++news.toArray++rest) b)):=by
 subst v;obtain⟨F,I,z,a⟩:=s.is d;have c:∀w,(Go.sizeOf b).run E.prog w= .ok te.size w:=ZM s d;have h:(match j with | .int _=>true |_=>false)=false:=by cases j<;>first |rfl |exact absurd rfl (p _)
 have C:¬(sLen+m<=sCap):=by omega
 have e:¬(9223372036854775807 < ((sLen:Int)+(m:Int))):=by unfold Zq at r;omega
 have y:=growslice_fits B g;have i:¬(281474976710656 < Builtin.nextslicecap (sLen+m) sCap*F.bytes):=by rw[a.bytes];omega
 have G:∀w,(zeroValue b).run E.prog w= .ok z w:=fun w=>Z1 a.info a.zero w
 have l:z.cells.size=te.size:=by have:=(Zdg a.zs).1;simp at this;rw[this];exact a.zl
 refine⟨Builtin.zeroCells z.cells (grownCap w (sLen+m) sCap b - (sLen+m)),by rw[size_zeroCells,l], ?_⟩;have n:=H w.drew rfl;have f:=q w.drew rfl;simp[Builtin.append_,Za D,Za A,c,h,o,C,Zy a.info,e,i,Question.forced,n,f,G,newRow,grownCap];congr 2;apply Array.ext';simp[List.append_assoc]
def ZgJ (Pg:Program) (w:World) (S:Nat->Prop) (t u a:TypeId) (te:TI) (x:Value) (xs:List P):Prop:=
 ∃(news:List Value) (evs:Nat->Value),news.length=xs.length*te.size/\xs.length<=Zq/\(∀u∈news,ZbP u)/\
  (∀j,j < xs.length->(evs j).cells.size=te.size/\∀(k:Nat) u,(evs j).cells[k]? =some u->news[j*te.size+k]? =some u)/\(∀(j:Nat) x,xs[j]? =some x->RelP w S (evs j) x)/\
  (∀(ty:TypeId) (b o sLen sCap:Nat),sLen+xs.length<=sCap->(sLen+xs.length)*te.bytes<=ZO->(∀j,j < news.length->(w.cell? ⟨b,o+sLen*te.size+j,none⟩).isSome=true)->(∀j,j < news.length->w.frozen? ⟨b,o+sLen*te.size+j,none⟩=false)->
   (Builtin.append_ #[t,u] ty #[.slice (some ⟨b,o,none⟩) sLen sCap,x]).run Pg w= .ok (.slice (some ⟨b,o,none⟩) (sLen+xs.length) sCap) (w.setCells b (o+sLen*te.size) news))/\
  (xs.length=0->∀(ty:TypeId) (ad:Option Addr) (sCap:Nat),(Builtin.append_ #[t,u] ty #[.slice ad 0 sCap,x]).run Pg w= .ok (.slice ad 0 sCap) w)/\
  ∀(ty:TypeId) (ad:Option Addr) (sLen sCap:Nat) (olds:List Value),(∀w',w'.heap=w.heap->(Builtin.firstCells te.size sLen (.slice ad sLen sCap)).run Pg w'= .ok olds.toArray w')->sCap < sLen+xs.length->sLen+xs.length<=Zq->(sLen+xs.length)*te.bytes<=ZO->
   ∃(rest:Array Value),rest.size=(grownCap w (sLen+xs.length) sCap a - (sLen+xs.length))*te.size/\
   (Builtin.append_ #[t,u] ty #[.slice ad sLen sCap,x]).run Pg w= .ok (.slice (some ⟨w.heap.size,0,none⟩) (sLen+xs.length) (grownCap w (sLen+xs.length) sCap a)) (w.drew.alloc (.cells (olds.toArray++news.toArray++rest) a))
theorem Zke {E:Env} (n:Zl E) {t u l:TypeId} {te:TI} {r:TypeDesc} (m:E.prog.underlying t=some (.slice l)) (a:E.ty l=some te) (i:E.prog.underlying u=some r) (c:∀k,r≠ .int k) {x:Value} {xs:List P} (B:Src E.prog w S te.size x xs):
  ZgJ E.prog w S t u l te x xs:=by
 obtain⟨news,d,D,A,f,p,q,y,C⟩:=B;have s:∀w',w'.heap=w.heap->(Builtin.firstCells te.size xs.length x).run E.prog w'= .ok news.toArray w':=fun w' e=>by
  have:=p xs.length (ZmT _) w' e
  rwa [List.take_of_length_le (by omega)]at this
 exact⟨news,d,D,A,q,y,C,fun ty b o sLen sCap g _ j h=>Zcb n rfl m a i c f (s w rfl) g j h q,
  fun z ty ad sCap=>Zbl n rfl m a i c (by rw[<-z];exact f) (by simpa using p 0 (by simp) w rfl),fun ty ad sLen sCap olds g j h v=>ZbN n rfl m a i c f s g j h v⟩
theorem Zhs {C:Ctx} (X:Zl C.E) {t u O:TypeId} {te:TI} {k:IntKind} (K:C.E.prog.underlying t=some (.slice O)) (B:C.E.ty O=some te) (H:C.E.prog.underlying u=some (.int k)) {k':IntKind} {n:Nat} (W:n<=Zq):
  ZgJ C.E.prog w S t u O te (.int k' (n:Int)) (List.replicate n te.zeroP):=by
 obtain⟨z,Y,d,E⟩:=Zb9 (C:=C) (w:=w) (S:=S) X B;obtain⟨ii,dd,z',c⟩:=X.is B;have a:∀w,(Go.sizeOf O).run C.E.prog w= .ok te.size w:=ZM X B;have l:IntKind.wrap .i64 (n:Int)=n:=by unfold Zq at W;rw[IntKind.wrap_i64];omega
 have p:¬(n:Int) < 0:=by omega
 have L:(Builtin.zeroCells z.cells n).size=n*te.size:=by rw[size_zeroCells,d]
 have f:∀j,j < n*te.size->(Builtin.zeroCells z.cells n)[j]? =some (z.cells[j % te.size]!):=fun j U=>by simp[Builtin.zeroCells,U,d]
 have A:∀v∈(Builtin.zeroCells z.cells n).toList,ZbP v:=fun v V=>by
  obtain⟨m,W,rfl⟩:=ZmA.1 (ZmB.1 V);have N:m < n*te.size:=by omega
  have M:0 < te.size:=Nat.pos_of_ne_zero fun e=>by rw[e,Nat.mul_zero]at N;omega
  have i:m % te.size < z.cells.size:=by rw[d];exact Nat.mod_lt _ M
  have q:=f m N;rw[Array.getElem?_eq_getElem W]at q;have q:=ZmY q;rw[q,getElem!_pos z.cells _ i];have ab:=E.size;exact(E.cell (Array.getElem?_eq_getElem i) (ZmH (by omega))).2
 have I:n*te.size=0->Builtin.zeroCells z.cells n= #[]:=fun h=>Array.eq_empty_of_size_eq_zero (by rw[L,h])
 have R:∀{m:Nat},(m+n)*te.bytes<=ZO->¬281474976710656 < (n:Int)*(ii.bytes:Int):=fun {m} h=>by
  have D:n*te.bytes<=ZO:=Nat.le_trans (ZmU _ (Nat.le_add_left _ _)) h;rw[c.bytes];have F:(n:Int)*(te.bytes:Int)=((n*te.bytes:Nat):Int):=by rw[Int.natCast_mul]
  unfold ZO at D;omega
 refine⟨(Builtin.zeroCells z.cells n).toList,fun _=>z,by simp[L],by rw[Znf];exact W,A,fun j U=>⟨d,fun k v V=> ?_⟩,fun j x T=> ?_,fun ty b o sLen sCap D F Q G=> ?_,fun Z ty ad sCap=> ?_,fun ty ad sLen sCap olds D F Q G=> ?_⟩
 ·rw[Znf]at U;have hk:k < te.size:=by have:=(Zmy.1 V).1;rw[<-d];exact this
  have i:j*te.size+k < n*te.size:=by have:(j+1)*te.size<=n*te.size:=ZmU _ U;rw[ZmS]at this;omega
  rw[Zm2,f _ i];have:(j*te.size+k) % te.size=k:=by rw[Nat.mul_comm,Nat.mul_add_mod];exact Nat.mod_eq_of_lt hk
  rw[this,getElem!_def,V]
 ·rw[List.getElem?_replicate]at T;split at T;rotate_left;simp at T;cases T;exact E
 ·rw[Znf]at D F|-
  have g:=run_storeCells_cells (P:=C.E.prog) b (o+sLen*te.size) (Builtin.zeroCells z.cells n).toList 0 w (by simpa using Q) (by simpa using G) A;simp only[Nat.add_zero]at g
  by_cases J:n*te.size=0
  ·have I:=I J;rw[I]at g|-
   simp only[Array.toList_empty]at g;simp[Builtin.append_,Za K,Za H,a,asInt,asIntOf,l,p,Zy c.info,R F,D,J,Z4,g]
  ·simp[Builtin.append_,Za K,Za H,a,asInt,asIntOf,l,p,Zy c.info,R F,D,J,Y,Z4,g]
 ·rw[Znf]at Z;subst Z;cases ad with
  |none=>simp[Builtin.append_,Za K,Za H,a,asInt,asIntOf,IntKind.wrap_i64,Zy c.info]
  |some ad=>simp[Builtin.append_,Za K,Za H,a,asInt,asIntOf,IntKind.wrap_i64,Zy c.info,storeCells]
 ·rw[Znf]at F Q G|-
  have J:¬(sLen+n<=sCap):=by omega
  have r:¬(9223372036854775807 < ((sLen:Int)+(n:Int))):=by unfold Zq at Q;omega
  have aa:=growslice_fits F G;have y:¬(281474976710656 < Builtin.nextslicecap (sLen+n) sCap*ii.bytes):=by rw[c.bytes];omega
  refine⟨Builtin.zeroCells z.cells (grownCap w (sLen+n) sCap O - (sLen+n)),by rw[size_zeroCells,d], ?_⟩;have s:=D w.drew rfl
  by_cases hn0:n*te.size=0
  ·have I:=I hn0;rw[I];simp[Builtin.append_,Za K,Za H,a,asInt,asIntOf,l,p,R G,J,hn0,Zy c.info,r,y,Question.forced,s,Y,newRow,grownCap]
  ·simp[Builtin.append_,Za K,Za H,a,asInt,asIntOf,l,p,R G,J,hn0,Zy c.info,r,y,Question.forced,s,Y,newRow,grownCap]
def ZgK (n:Nat) (f g:Nat->Value):Nat->Value:=fun j=>if j < n then f j else g (j - n)
section
variable (h:Rep C X ρ S st a.tmps w) (hi:¬X i) (ht:∀d,o.dst=some d->d < C.E.nt) (hlit:o.op.operands.all Zz=true) (hE:Zl C.E)
include h hi ht hlit hE
theorem ZcV {args:Array Operand} {t u q:Nat} {te:TI} (ho:o.op= .call {callee:= .builtin .append,args,argTypes:= #[t,u]}) {ad:Option Addr} {sLen sCap:Nat} {x:Value} (y:args.map a.eval= #[.slice ad sLen sCap,x])
  (ak:C.E.prog.underlying t=some (.slice q)) (ah:C.E.ty q=some te) {es xs:List P} (K:Src C.E.prog w S te.size (.slice ad sLen sCap) es) (H:ZgJ C.E.prog w S t u q te x xs)
  (N:es.length=sLen) (W:sCap < sLen+xs.length) (I:(sLen+xs.length)*max te.bytes 1<=ZO) {wr:List (Id×Obj)} (ae:∀x∈wr,x.2= .gone) (aa:∀id o,(id,o)∈wr->st.fz id=false/\∃o',st.objs id=some o'/\o'≠ .gone) {c:List Bool}
  (he:e={val:= .sl (st.ep,i,0) 0 (sLen+xs.length),new:=[(0,.arr te.size (es++xs) false)],wr:=wr,cond:=c}):Zu C X st a w i o e:=by
 subst he;obtain⟨olds,evs,R,o2,o3,o4,o5,o6,o7⟩:=K;obtain⟨news,D,n1,n2,n5,n6,n7,aj,af,F⟩:=H;have Z:(sLen+xs.length)*te.bytes<=ZO:=Nat.le_trans (Zno _ (Nat.le_max_left _ _)) I;have n:sLen+xs.length<=ZO:=by have:=Zno (sLen+xs.length) (Nat.le_max_right te.bytes 1);omega
 obtain⟨rest,M,r⟩:=F o.type ad sLen sCap olds (fun w' T=>by
   have:=o4 sLen (by omega) w' T
   rwa [List.take_of_length_le (by rw[R,N];exact ZmT _)]at this) W (by unfold ZO at n;unfold Zq;omega) Z
 have l:=grownCap_ge w (sLen+xs.length) sCap q;have m:grownCap w (sLen+xs.length) sCap q<=Zq:=grownCap_le_maxLen w (sLen+xs.length) sCap q (by unfold ZO at n;unfold maxLen;omega);generalize grownCap w (sLen+xs.length) sCap q=cap at r M l m;let L:Lay:=⟨some w.heap.size,0,te.size,sLen+xs.length,cap⟩;let w':=w.drew.alloc (.cells (olds.toArray++news.toArray++rest) q);have hw:w'.heap=w.heap.push (.cells (olds.toArray++news.toArray++rest) q):=rfl;let ρ':Id->Option Lay:=upd ρ (st.ep,i,0) (some L);have f:=h.fresh hi;have ab:∀id L,ρ id=some L->ρ' id=some L:=by
  intro id L' O;simp only[ρ',upd];split
  ·rename_i B;subst B;rw[f]at O;simp at O
  ·exact O
 have s:ρ' (st.ep,i,0)=some L:=by simp[ρ',upd]
 have kp:∀b,b < w.heap.size->w'.heap[b]? =w.heap[b]? :=fun b g=>Zap hw g
 have al:w'.heap.size=w.heap.size+1:=by rw[hw];simp
 have B:∀j,w'.cell? ⟨w.heap.size,j,none⟩=(olds.toArray++news.toArray++rest)[j]? :=fun j=>by simp[World.cell?,Z2 hw]
 have U:∀j,w'.frozen? ⟨w.heap.size,j,none⟩=false:=fun j=>by simp[World.frozen?,Z2 hw]
 have ac:olds.length=sLen*te.size:=by rw[R,N]
 have ag:(olds.toArray++news.toArray++rest).size=cap*te.size:=by simp only[Array.size_append,List.size_toArray,ac,n1,M];rw[<-ZmS,<-ZmS];congr 1;omega
 refine⟨_,_,w', ?_,.inl rfl,ρ',h.step (v:= .slice (some ⟨w.heap.size,0,none⟩) (sLen+xs.length) cap) ρ' hi ht (by omega) ⟨rfl,rfl⟩ (fun b g _=>kp b g) aa ab ?_ (by simp) ?_ ?_ (fun id o' L z W=>absurd (ae _ z) W) ?_⟩
 ·obtain⟨cs,A⟩:=ZA (a:=a) (w:=w) (P:=C.E.prog) ho;rw[A,y];exact Zf0 r
 ·intro id Y;simp only[ρ',upd]at Y;split at Y
  ·rename_i B;subst B;exact .inr ⟨rfl,rfl⟩
  ·exact .inl Y
 ·intro k o' z;simp only[ZmQ,Zm0]at z;obtain⟨rfl,rfl⟩:=z;refine⟨L,s,fun b g=> ?_,fun S' hS hF _=>⟨rfl,by simp[L,N],l,by simp only[L];unfold ZO at n;unfold Zah;omega,by simp[L],fun b g j J=> ?_,ZgK sLen evs D,fun j J=> ?_,fun b g j k v J Q=> ?_,fun j x A=> ?_⟩⟩
  ·simp only[L,ZmZ]at g;subst g;exact⟨.inl (ZmT _),by omega⟩
  ·simp only[L,ZmZ]at g;subst g;simp only[L]at J;have V:j < (olds.toArray++news.toArray++rest).size:=by omega
   exact⟨⟨_,by simp only[L,Znp,B];exact Array.getElem?_eq_getElem V⟩,by simp[L,U]⟩
  ·simp only[L]at J;unfold ZgK;split
   ·exact(o6 j (by omega)).1
   ·exact(n6 (j - sLen) (by omega)).1
  ·simp only[L,ZmZ]at g;subst g;simp only[L]at J;simp only[L,Znp,B];unfold ZgK at Q;split at Q
   ·rename_i p;have:=(o6 j (by omega)).2 k v Q;have E:j*te.size+k < olds.length:=(ZmI.1 this).1;rw[Zm1,if_pos (by simp;omega),Zm1,if_pos (by simpa using E)];simpa using this
   ·rename_i p;have:=(n6 (j - sLen) (by omega)).2 k v Q;have E:(j - sLen)*te.size+k < news.length:=(ZmI.1 this).1;have ai:j*te.size=sLen*te.size+(j - sLen)*te.size:=by rw[<-ZmS];congr 1;omega
    rw[Zm1,if_pos (by simp;omega),Zm1,if_neg (by simp;omega)];simp only[List.size_toArray,List.getElem?_toArray];rw[show j*te.size+k - olds.length=(j - sLen)*te.size+k by omega];exact this
  ·have kS:Zcy S w w':=fun b _ g=>kp b g
   unfold ZgK
   by_cases p:j < sLen
   ·rw[Znb (by omega)]at A;rw[if_pos p];exact(o7 j x A).mono kS hS
   ·rw[Znc (by omega),N]at A;rw[if_neg p];exact(n7 _ x A).mono kS hS
 ·intro k R L1 k' o2 L2 b z _ O g G _ am an;simp only[ZmQ,Zm0]at z G;rw[z.1,G.1]
 ·intro S' _ _ d _;exact .sl _ 0 _ cap _ L s (by simp[L]) ⟨by unfold ZO at n;unfold Zah;omega,m⟩ l (.inr ⟨w.heap.size,rfl,by simp[L],by simp[L]⟩)
theorem Zkc {args:Array Operand} {t u el:Nat} {te:TI} (ho:o.op= .call {callee:= .builtin .append,args,argTypes:= #[t,u]}) {ad:Option Addr} {sLen sCap:Nat} {x:Value} (hargs:args.map a.eval= #[.slice ad sLen sCap,x])
  (hut:C.E.prog.underlying t=some (.slice el)) (hte:C.E.ty el=some te) {es xs:List P} (hnew:ZgJ C.E.prog w S t u el te x xs) {id:Id} {L0:Lay} {fix:Bool}
  (hlk:st.objs id=some (.arr te.size es fix)) (hL0:ρ id=some L0) (hfz:st.fz id=false) (hle:sLen<=L0.len) (hlm:sLen<=sCap) (hcm:sCap<=Zq) (ha:sCap=0\/∃b,L0.blk=some b/\ad=some ⟨b,L0.base,none⟩/\sCap<=L0.cap)
  (hroom:sLen+xs.length<=sCap) (hfit:(sLen+xs.length)*max te.bytes 1<=ZO) {c:List Bool}
  (he:e={val:= .sl (st.ep,i,0) 0 (sLen+xs.length),new:=[(0,.arr te.size (es.take sLen++xs) false)],wr:=[(id,.gone)],cond:=c}):Zu C X st a w i o e:=by
 subst he;obtain⟨news,evs',n1,n2,n5,n6,n7,rin,rnil,rnew⟩:=hnew;have hb1:(sLen+xs.length)*te.bytes<=ZO:=Nat.le_trans (Zno _ (Nat.le_max_left _ _)) hfit;have hb2:sLen+xs.length<=ZO:=by have:=Zno (sLen+xs.length) (Nat.le_max_right te.bytes 1);omega
 obtain⟨L',hL',hsz,hel,hlc,hlm',hbn,hcells,evs,hev,hcell,hrel⟩:=h.objs id _ hlk (by simp);rw[hL0]at hL';obtain rfl:=ZmY hL';have f:=h.fresh hi;have wrg:∀id' o',(id',o')∈[(id,Obj.gone)]->st.fz id'=false/\∃o',st.objs id'=some o'/\o'≠ .gone:=by intro id' o' hm;simp only[ZmQ,Zm0]at hm;obtain⟨rfl,rfl⟩:=hm;exact⟨hfz,_,hlk,by simp⟩
 obtain⟨csb,hx⟩:=ZA (a:=a) (w:=w) (P:=C.E.prog) ho;have key:∀(L:Lay) (w':World),L.len=sLen+xs.length->(w'.heap.size=w.heap.size)->ZS w w'->(∀b,L.blk=some b->L0.blk=some b)->(∀b,L0.blk≠some b->w'.heap[b]? =w.heap[b]?)->
   (Builtin.append_ #[t,u] o.type #[.slice ad sLen sCap,x]).run C.E.prog w= .ok (.slice ad (sLen+xs.length) sCap) w'->
   (∀S' ρ',(∀b,S b->S' b)->ZB w' S' ρ' L (.arr te.size (es.take sLen++xs) false))->
   (∀S' ρ',ρ' (st.ep,i,0)=some L->RelD w' S' ρ' (.slice ad (sLen+xs.length) sCap) (.sl (st.ep,i,0) 0 (sLen+xs.length)))->
   Zu C X st a w i o {val:= .sl (st.ep,i,0) 0 (sLen+xs.length),new:=[(0,.arr te.size (es.take sLen++xs) false)],wr:=[(id,.gone)],cond:=c}:=by
  intro L w' _ hws hqu hLb hkeep hrun hobj hval;let ρ':Id->Option Lay:=upd ρ (st.ep,i,0) (some L);have hρ:∀id L,ρ id=some L->ρ' id=some L:=by
   intro id L' hL;simp only[ρ',upd];split
   ·rename_i hc;subst hc;rw[f]at hL;simp at hL
   ·exact hL
  have hbox:ρ' (st.ep,i,0)=some L:=by simp[ρ',upd]
  refine⟨_,_,w', ?_,.inl rfl,ρ',h.step (v:= .slice ad (sLen+xs.length) sCap) ρ' hi ht (by omega) hqu ?_ wrg hρ ?_ (by simp) ?_ ?_ (fun id o' L hm hg=>by simp only[ZmQ,Zm0]at hm;exact absurd hm.2 hg) ?_⟩
  ·rw[hx,hargs];exact Zf0 hrun
  ·intro b hb hne;exact hkeep b (hne id _ L0 (ZmQ.2 rfl) hL0)
  ·intro id hn;simp only[ρ',upd]at hn;split at hn
   ·rename_i hc;subst hc;exact .inr ⟨rfl,rfl⟩
   ·exact .inl hn
  ·intro k o' hm;simp only[ZmQ,Zm0]at hm;obtain⟨rfl,rfl⟩:=hm;refine⟨L,hbox,fun b hb=>⟨.inr ⟨id,_,L0,ZmQ.2 rfl,hlk,by simp,hL0,hLb b hb,fun o'' hm=> ?_⟩, ?_⟩,fun S' hS hF _=>hobj S' ρ' hS⟩
   ·simp only[ZmQ,Zm0]at hm;exact hm.2
   ·have:=(h.own id _ L0 b hlk (by simp) hL0 (hLb b hb)).1;omega
  ·intro k o1 L1 k' o2 L2 b hm _ hL hb hm' _ hL' hb';simp only[ZmQ,Zm0]at hm hm';rw[hm.1,hm'.1]
  ·intro S' _ _ d _;exact hval S' ρ' hbox
 rcases ha with h0 |⟨b,hLb,rfl,hcap⟩
 ·
  have hs0:sLen=0:=by omega
  have hx0:xs.length=0:=by omega
  subst hs0;have hxs:xs=[]:=Zm9 hx0;subst hxs;refine key ⟨none,0,te.size,0,0⟩ w rfl rfl (ZS.refl _) (by simp) (fun _ _=>rfl) ?_ (fun S' ρ' _=> ?_) (fun S' ρ' hL=> ?_)
  ·exact rnil rfl o.type ad sCap
  ·simpa using ZaM te.size false
  ·exact .sl _ 0 _ _ _ _ hL (by simp) ⟨by simp,hcm⟩ (by simp) (.inl h0)
 ·have hcs:∀m,m < news.length->(w.cell? ⟨b,L0.base+sLen*te.size+m,none⟩).isSome=true/\w.frozen? ⟨b,L0.base+sLen*te.size+m,none⟩=false:=fun m hm=>by have hle2:(sLen+xs.length)*te.size<=L0.cap*te.size:=ZmU _ (by omega);rw[ZmS,<-n1]at hle2;obtain⟨⟨v,q⟩,q2⟩:=hcells b hLb (sLen*te.size+m) (by omega);rw[show L0.base+sLen*te.size+m=L0.base+(sLen*te.size+m) by omega,q,q2];exact⟨rfl,rfl⟩
  have hrun:=rin o.type b L0.base sLen sCap hroom hb1 (fun m hm=>(hcs m hm).1) (fun m hm=>(hcs m hm).2);clear hte hx rin rnil rnew;generalize te.size=tsz at*
  subst hsz;have hcell':=fun m=>Zad (w:=w) (b:=b) (o:=L0.base+sLen*L0.sz) (vs:=news) (fun m hm=>(hcs m hm).1) m
  have hown:=h.own id _ L0 b hlk (by simp) hL0 hLb;have hnS:¬S b:=hown.2.2.2 hfz;have kS:Zcy S w (w.setCells b (L0.base+sLen*L0.sz) news):=fun b' hb' _=>Zp b _ _ _ b' (fun e=>hnS (e▸hb'))
  refine key ⟨some b,L0.base,L0.sz,sLen+xs.length,sCap⟩ _ rfl (ZV _ _ _ _) (ZS.setCells _ _ _ _) (fun b1 hb1=>by cases hb1;exact hLb) (fun b' hne=>Zp b _ _ _ b' (fun e=>hne (e▸hLb))) hrun (fun S' ρ' hS=> ?_) (fun S' ρ' hL=> ?_)
  ·have hlel:sLen<=es.length:=by omega
   refine⟨rfl,by simp;omega,hroom,by dsimp only;unfold ZO at hb2;unfold Zah;omega,by simp,fun b1 hb1 m hm=> ?_,ZgK sLen evs evs',fun j hj=> ?_,fun b1 hb1 j k v hj hv=> ?_,fun j x hx=> ?_⟩
   ·cases hb1;have hle2:sCap*L0.sz<=L0.cap*L0.sz:=ZmU _ hcap;obtain⟨⟨v,q⟩,q2⟩:=hcells b hLb m (by dsimp only at hm;omega);refine⟨?_,by rw[World.frozen?_setCells];exact q2⟩;dsimp only;rw[hcell'];split
    ·exact⟨_,ZmH (by omega)⟩
    ·exact⟨v,q⟩
   ·dsimp only at hj;unfold ZgK;split
    ·exact hev j (by omega)
    ·exact(n6 (j - sLen) (by omega)).1
   ·cases hb1;dsimp only at hj|-
    unfold ZgK at hv;rw[hcell'];split at hv
    ·rename_i hlt;have hk:k < L0.sz:=by have:=(Zmy.1 hv).1;have:=hev j (by omega);omega
     have:(j+1)*L0.sz<=sLen*L0.sz:=ZmU _ hlt;rw[ZmS,Nat.one_mul]at this;rw[if_neg (by omega)];exact hcell b hLb j k v (by omega) hv
    ·rename_i hlt;have:=(n6 (j - sLen) (by omega)).2 k v hv;have hl':(j - sLen)*L0.sz+k < news.length:=(ZmI.1 this).1;have hjs:j*L0.sz=sLen*L0.sz+(j - sLen)*L0.sz:=by rw[<-ZmS];congr 1;omega
     rw[if_pos (by omega),show L0.base+j*L0.sz+k - (L0.base+sLen*L0.sz)=(j - sLen)*L0.sz+k by omega];exact this
   ·unfold ZgK
    by_cases hlt:j < sLen
    ·rw[Znb (by simp;omega),ZmK,if_pos hlt]at hx;rw[if_pos hlt];exact(hrel j x hx).mono kS hS
    ·rw[Znc (by simp;omega)]at hx;rw[if_neg hlt];have:j - (es.take sLen).length=j - sLen:=by simp;omega
     rw[this]at hx;exact(n7 _ x hx).mono kS hS
  ·exact .sl _ 0 _ _ _ _ hL (by simp) ⟨by unfold ZO at hb2;unfold Zah;omega,hcm⟩ hroom (.inr ⟨b,rfl,by simp,by simp⟩)
theorem Zhj {args:Array Operand} {ats:Array TypeId} (ho:o.op= .call {callee:= .builtin .append,args,argTypes:=ats}) (hc:Zd C.E st.ep i o.op o.type st.slots st.objs=some e) (hcond:∀q∈e.cond,q=true) (hw:Zem st e=true):Zu C X st a w i o e:=by
 rw[ho]at hc hlit;simp only[Zd,ZI]at hc;unfold Zb7 at hc;split at hc<;>(try simp only[reduceCtorEq]at hc);rename_i t u s x hds hlen;have hats:ats= #[t,u]:=by rw[<-Zm3 (xs:=ats),hds]
 subst hats;have huse:∃te ds,C.E.elem t=some te/\C.E.prog.underlying u=some ds/\(((∀k,ds≠ .int k)/\ZaJ st.objs st.ep i te s x=some e)\/∃(k:IntKind) (n:Nat),ds= .int k/\x= .p (.int .i64 (n:Int))/\Z6 st.objs st.ep i te s (List.replicate n te.zeroP)=some e):=by
  split at hc
  ·rename_i te el hel htu;obtain⟨d,hu,hd⟩:=hE.und htu;exact⟨te,d,hel,hu,.inl ⟨fun k hk=>by subst hk;simp[Zau]at hd,hc⟩⟩
  ·rename_i te hel htu;obtain⟨d,hu,hd⟩:=hE.und htu;exact⟨te,d,hel,hu,.inl ⟨fun k hk=>by subst hk;simp[Zau]at hd,hc⟩⟩
  ·rename_i te k hel htu;obtain⟨d,hu,hd⟩:=hE.und htu;split at hc;rotate_left;simp at hc;rename_i a;split at hc;rotate_left;simp at hc;rename_i h0;have hdk:∃k,d= .int k:=by cases d<;>first |exact⟨_,rfl⟩ |(simp[Zau]at hd)
   obtain⟨k,rfl⟩:=hdk;exact⟨te,_,hel,hu,.inr ⟨k,a.toNat,rfl,by rw[Int.toNat_of_nonneg h0],hc⟩⟩
  ·simp at hc
 obtain⟨te,ds,hel,huu,hc'⟩:=huse;clear hc;have hc:=hc';clear hc';obtain⟨hl,hr⟩:=Zaf h args.toList [t,u] (fun x hx=>by simp[Op.operands,Call.operands]at hlit;obtain⟨j,hj,rfl⟩:=ZmA.1 (ZmB.1 hx);exact hlit j hj)
 simp only[List.toList_toArray]at hlen hl hr;rw[hlen]at hl hr;obtain⟨el,hty,hte⟩:∃el,(∃sz by_ ze,C.E.ty t=some {d:= .sl el,size:=sz,bytes:=by_,zero:=ze})/\C.E.ty el=some te:=by unfold Env.elem at hel;split at hel;rotate_left;simp at hel;rename_i e' _ _ _ hq;exact⟨e',⟨_,_,_,hq⟩,hel⟩
 obtain⟨_,_,_,hty⟩:=hty;have hut:=hE.slice hty rfl
 match hxx:args.toList,hl with
 | [xs0,xx0],_=>
  rw[hxx]at hr;have hrs:=hr 0 (a.eval xs0) s rfl rfl;have hrx:=hr 1 (a.eval xx0) x rfl rfl;have hargs:args.map a.eval= #[a.eval xs0,a.eval xx0]:=by rw[<-Zm3 (xs:=args),hxx];simp
  have hsrcs:∃xs,ZgJ C.E.prog w S t u el te (a.eval xx0) xs/\Z6 st.objs st.ep i te s xs=some e:=by
   rcases hc with ⟨hdsn,hc⟩ |⟨k,n,rfl,rfl,hc⟩
   ·unfold ZaJ at hc;split at hc
    ·simp at hc
    ·rename_i xs hxs;exact⟨xs,Zke hE hut hte huu hdsn (Zdu (P:=C.E.prog) h.objs hrx hxs),hc⟩
   ·obtain⟨e2,_,g2⟩:=ZbL hrx;refine⟨_, ?_,hc⟩;rw[e2];exact Zhs hE hut hte huu (by rw[show IntKind.max .i64=9223372036854775807 from by decide]at g2;unfold Zq;omega)
  obtain⟨xs,hnew,hc1⟩:=hsrcs;clear hc;revert hc1;intro hc
  ·generalize a.eval xx0=vx at hargs hnew hrx;unfold Z6 at hc;generalize hvs:a.eval xs0=vs at hargs hrs;split at hc
   ·
    rename_i sz0;simp only[ZmZ]at hc;cases hrs with
    |nils=>
    have hcnd:=of_decide_eq_true (hcond _ (by rw[<-hc];exact ZmO))
    by_cases h0:xs.length=0
    ·have hxs0:xs=[]:=Zm9 h0;subst hxs0;obtain⟨news,evs',n1,n2,n5,n6,n7,rin,rnil,rnew⟩:=hnew;have hrun:=rnil rfl o.type none 0;obtain⟨csb,hx⟩:=ZA (a:=a) (w:=w) (P:=C.E.prog) ho;have f:=h.fresh hi;let ρ':Id->Option Lay:=upd ρ (st.ep,i,0) (some ⟨none,0,te.size,0,0⟩);have hρ:∀id L,ρ id=some L->ρ' id=some L:=by
      intro id L' hL;simp only[ρ',upd];split
      ·rename_i hc;subst hc;rw[f]at hL;simp at hL
      ·exact hL
     have hbox:ρ' (st.ep,i,0)=some ⟨none,0,te.size,0,0⟩:=by simp[ρ',upd]
     subst hc;refine⟨_,_,w, ?_,.inl rfl,ρ',h.step (v:= .slice none 0 0) ρ' hi ht (ZmT _) (ZS.refl _) (fun _ _ _=>rfl) (by simp) hρ ?_ (by simp) ?_ ?_ (by simp) ?_⟩
     ·rw[hx,hargs];exact Zf0 hrun
     ·intro id hn;simp only[ρ',upd]at hn;split at hn
      ·rename_i hc;subst hc;exact .inr ⟨rfl,rfl⟩
      ·exact .inl hn
     ·intro k o' hm;simp only[ZmQ,Zm0]at hm;obtain⟨rfl,rfl⟩:=hm;exact⟨_,hbox,by simp,fun S' _ _ _=>ZaM te.size false⟩
     ·intro k o1 L1 k' o2 L2 b hm _ hL hb hm' _ hL' hb';simp only[ZmQ,Zm0]at hm hm';rw[hm.1,hm'.1]
     ·intro S' _ _ d _;exact .sl _ 0 0 0 none _ hbox (by simp) (by simp) (by simp) (.inl rfl)
    ·refine ZcV h hi ht (by rw[ho];exact hlit) hE ho hargs hut hte (es:=[]) ?_ hnew rfl (by omega) (by simpa using hcnd) (wr:=[]) (by simp) (by simp) (c:=[decide (xs.length*max te.bytes 1<=ZO)]) (by rw[<-hc];simp);exact Z8 (evs:=fun _=>default) rfl (by simp) (by simp) (by simp) (by simp)
   ·
    rename_i sz0 es _;split at hc;rotate_left;simp at hc;rename_i hsz0;subst hsz0;simp only[ZmZ]at hc;cases hrs with
    |clip ad n _ _ hp=>
    obtain⟨hne,hcnd⟩:=of_decide_eq_true (hcond _ (by rw[<-hc];exact ZmO));have hpos:0 < xs.length:=by
     rcases Nat.eq_zero_or_pos xs.length with h0 |h0
     ·rw[Zm9 h0]at hne;simp at hne
     ·exact h0
    cases hp with
    |sl _ _ _ _ _ evs hel' hm hc' hsz hcell hr'=>
     subst hel';refine ZcV h hi ht (by rw[ho];exact hlit) hE ho hargs hut hte (es:=es) ?_ hnew rfl (by omega) hcnd (wr:=[]) (by simp) (by simp) (c:=[decide (xs.isEmpty=false/\(es.length+xs.length)*max te.bytes 1<=ZO)]) (by rw[<-hc]);exact Z8 rfl hm hsz (fun i hi=>let ⟨b,o,h1,_,h2⟩:=hcell i hi;⟨b,o,h1,h2⟩) hr'
   ·
    rename_i id len _;split at hc;rotate_left;simp at hc;rename_i sz0 es hlk;split at hc;rotate_left;simp at hc;rename_i hsz0;subst hsz0;simp only[ZmZ]at hc;have hsrc:=Zdu (P:=C.E.prog) (sz:=te.size) (xs:=es.take len) h.objs hrs (by simp[ZcA,Zbh,hlk]);cases hrs with
    |sl _ _ _ cap ad L hL hll hm hcp ha=>
    have hcnd:=of_decide_eq_true (hcond _ (by rw[<-hc];exact ZmO));have hfz:st.fz id=false:=by rw[<-hc]at hw;simp only[Zem,ZmC,Zm5,ZmQ,forall_eq,Zm4]at hw;exact hw.1
    obtain⟨L',hL',hsz,hel2,hlc,_⟩:=h.objs id _ hlk (by simp);rw[hL]at hL';obtain rfl:=ZmY hL'
    by_cases hroom:len+xs.length<=cap
    ·refine Zkc h hi ht (by rw[ho];exact hlit) hE ho hargs hut hte hnew hlk hL hfz (by omega) hcp hm.2 ?_ hroom hcnd (c:=[decide ((len+xs.length)*max te.bytes 1<=ZO)]) (by rw[<-hc]);rcases ha with h0 |⟨b,h1,h2,h3⟩
     ·exact .inl h0
     ·exact .inr ⟨b,h1,by simpa using h2,by omega⟩
    ·refine ZcV h hi ht (by rw[ho];exact hlit) hE ho hargs hut hte hsrc hnew (by simp;omega) (by omega) hcnd (wr:=[(id,.gone)]) (by simp) ?_ (c:=[decide ((len+xs.length)*max te.bytes 1<=ZO)]) (by rw[<-hc]);intro id' o' hm;simp only[ZmQ,Zm0]at hm;obtain⟨rfl,rfl⟩:=hm;exact⟨hfz,_,hlk,by simp⟩
   ·simp at hc
end
end
end Eng
namespace Eng
open Go
section
variable {C:Ctx} {X:Nat->Prop} {ρ:Id->Option Lay} {S:Nat->Prop} {st:St} {a:Act} {w:World} {i:Nat} {o:Oper} {e:Eff}
variable (h:Rep C X ρ S st a.tmps w) (hi:¬X i) (ht:∀d,o.dst=some d->d < C.E.nt) (hlit:o.op.operands.all Zz=true) (hE:Zl C.E)
include h hi ht hlit hE
theorem Zj1 {args:Array Operand} {ats:Array TypeId} (ho:o.op= .call {callee:= .builtin .copy,args,argTypes:=ats}) (hc:Zd C.E st.ep i o.op o.type st.slots st.objs=some e) (hw:Zem st e=true):Zu C X st a w i o e:=by
 rw[ho]at hc hlit;simp only[Zd,ZI]at hc;unfold ZiQ at hc;split at hc<;>(try simp only[reduceCtorEq]at hc);rename_i t ts d s hds hlen;split at hc<;>(try simp only[reduceCtorEq]at hc);rename_i te hel;have hats:ats[0]? =some t:=by rw[<-Zm2,hds];rfl
 obtain⟨hl,hr⟩:=Zaf h args.toList ats.toList (fun x hx=>by simp[Op.operands,Call.operands]at hlit;obtain⟨j,hj,rfl⟩:=ZmA.1 (ZmB.1 hx);exact hlit j hj)
 rw[hlen]at hl hr;obtain⟨el,hty,hte⟩:∃el,(∃sz by_ ze,C.E.ty t=some {d:= .sl el,size:=sz,bytes:=by_,zero:=ze})/\C.E.ty el=some te:=by unfold Env.elem at hel;split at hel;rotate_left;simp at hel;rename_i e' _ _ _ hq;exact⟨e',⟨_,_,_,hq⟩,hel⟩
 obtain⟨_,_,_,hty⟩:=hty;have hut:=hE.slice hty rfl;have hszr:∀w,(Go.sizeOf el).run C.E.prog w= .ok te.size w:=ZM hE hte
 match hxx:args.toList,hl with
 | [xd0,xs0],_=>
  rw[hxx]at hr;have hrd:=hr 0 (a.eval xd0) d rfl rfl;have hrs:=hr 1 (a.eval xs0) s rfl rfl;have hargs:args.map a.eval= #[a.eval xd0,a.eval xs0]:=by rw[<-Zm3 (xs:=args),hxx];simp
  generalize a.eval xs0=vx at hargs hrs;generalize a.eval xd0=vd at hargs hrd;unfold ZfE at hc;split at hc<;>(try simp only[reduceCtorEq]at hc);rename_i id off len _;split at hc<;>(try simp only[reduceCtorEq]at hc);rename_i sz es fix hlk;split at hc<;>(try simp only[reduceCtorEq]at hc);rename_i xs hxs;split at hc<;>(try simp only[reduceCtorEq]at hc);rename_i hsz0;cases hc;obtain⟨news,evs',n1,n2,n3,n4,n5,n6,n7⟩:=Zdu (P:=C.E.prog) h.objs hrs hxs;cases hrd with
  |sl _ _ _ cap ad L hL hll hm hcp ha=>
  have hfz:st.fz id=false:=by simp only[Zem,ZmC,Zm5,ZmQ,forall_eq,Zm4]at hw;exact hw.1
  obtain⟨L',hL',hsz,hel2,hlc,hlm',hbn,hcells,evs,hev,hcell,hrel⟩:=h.objs id _ hlk (by simp);rw[hL]at hL';obtain rfl:=ZmY hL';have hmin:min xs.length len<=xs.length:=Nat.min_le_left _ _;have hmin2:min xs.length len<=len:=Nat.min_le_right _ _;generalize hn:min xs.length len=n at hmin hmin2;have hn':Nat.min xs.length len=n:=hn;have hnf:=n4 n hmin w rfl;rw[hsz0]at hnf;obtain⟨csb,hx⟩:=ZA (a:=a) (w:=w) (P:=C.E.prog) ho;have hval:IntKind.i64.min<=(n:Int)/\(n:Int)<=IntKind.i64.max:=ZdE (by omega);have hchg:∀w',w'.heap.size=w.heap.size->ZS w w'->(∀b,L.blk≠some b->w'.heap[b]? =w.heap[b]?)->(Builtin.copy_ ats o.type #[.slice ad len cap,vx]).run C.E.prog w= .ok (goInt n) w'->
    (∀S',(∀b,S b->S' b)->ZB w' S' ρ L (.arr sz (ZP es off (xs.take n)) fix))->
    Zu C X st a w i o {val:= .p (.int .i64 (n:Nat)),wr:=[(id,.arr sz (ZP es off (xs.take n)) fix)]}:=by
   intro w' hws hqu hkeep hrun hobj;refine⟨_,_,w', ?_,.inl rfl,ρ,h.step (v:= .int .i64 n) ρ hi ht (by omega) hqu ?_ ?_ (fun _ _ h=>h) (fun id h=> .inl h) (by simp) (fun _ _ hm=>by simp at hm) (fun _ _ _ _ _ _ _ hm=>by simp at hm) ?_ ?_⟩
   ·rw[hx,hargs];exact Zf0 hrun
   ·intro b hb hne;exact hkeep b (hne id _ L (ZmQ.2 rfl) hL)
   ·intro id' o' hm;simp only[ZmQ,Zm0]at hm;obtain⟨rfl,rfl⟩:=hm;exact⟨hfz,_,hlk,by simp⟩
   ·intro id' o' L1 hm _ hL1 S' hS _;simp only[ZmQ,Zm0]at hm;obtain⟨rfl,rfl⟩:=hm;rw[hL]at hL1;obtain rfl:=ZmY hL1;exact hobj S' hS
   ·intro S' _ _ d _;exact .p _ _ (.int _ _ hval.1 hval.2)
  rcases ha with h0 |⟨b,hLb,rfl,hcap⟩
  ·have hn0:n=0:=by omega
   subst hn0;refine hchg w rfl (ZS.refl _) (fun _ _=>rfl) ?_ (fun S' hS=> ?_)
   ·have hf:(Builtin.firstCells te.size 0 vx).run C.E.prog w= .ok #[] w:=by simpa using hnf
    cases ad<;>simp[Builtin.copy_,hats,Za hut,n3,hn',hszr,hf,storeCells]
   ·have hsp:ZP es off (xs.take 0)=es:=by simp[ZP]
    rw[hsp];exact(show ZB w S ρ L (.arr sz es fix)from ⟨hsz,hel2,hlc,hlm',hbn,hcells,evs,hev,hcell,hrel⟩).mono (fun _ _ _=>rfl) hS (fun _ _ h=>h) (fun _ _=>rfl)
  ·have hnl:(news.take (n*sz)).length=n*sz:=by have:n*sz<=xs.length*sz:=ZmU _ hmin;simp;omega
   have hin:∀m,m < n*sz->off*sz+m < L.cap*sz:=fun m hm=>by have:(off+n)*sz<=L.cap*sz:=ZmU _ (by omega);rw[ZmS]at this;omega
   have hcs:∀m,m < (news.take (n*sz)).length->(w.cell? ⟨b,L.base+off*sz+m,none⟩).isSome=true/\w.frozen? ⟨b,L.base+off*sz+m,none⟩=false:=fun m hm=>by obtain⟨⟨v,q⟩,q2⟩:=hcells b hLb (off*sz+m) (hin m (by omega));rw[show L.base+off*sz+m=L.base+(off*sz+m) by omega,q,q2];exact⟨rfl,rfl⟩
   have hst:=run_storeCells_cells (P:=C.E.prog) b (L.base+off*sz) (news.take (n*sz)) 0 w (fun m hm=>by simpa using (hcs m hm).1) (fun m hm=>by simpa using (hcs m hm).2) (fun u hu=>n5 u (List.mem_of_mem_take hu));have hcell':=fun m=>Zad (w:=w) (b:=b) (o:=L.base+off*sz) (vs:=news.take (n*sz)) (fun m hm=>(hcs m hm).1) m
   have hown:=h.own id _ L b hlk (by simp) hL hLb;have hnS:¬S b:=hown.2.2.2 hfz;have kS:Zcy S w (w.setCells b (L.base+off*sz) (news.take (n*sz))):=fun b' hb' _=>Zp b _ _ _ b' (fun e=>hnS (e▸hb'))
   simp only[Nat.add_zero]at hst;refine hchg (w.setCells b (L.base+off*sz) (news.take (n*sz))) (ZV _ _ _ _) (ZS.setCells _ _ _ _) (fun b' hne=>Zp b _ _ _ b' (fun e=>hne (e▸hLb))) ?_ (fun S' hS=> ?_)
   ·have hsz':∀w,(Go.sizeOf el).run C.E.prog w= .ok sz w:=fun w=>by rw[hszr,hsz0]
    rw[hsz];rw[<-hsz0]at hnf;simp[Builtin.copy_,hats,Za hut,n3,hn',hsz',hnf,hst]
   ·have hxt:(xs.take n).length=n:=by simp;omega
    have hsp:=ZbC es off (xs.take n) (by omega);refine⟨hsz,by rw[hsp];exact hel2,hlc,hlm',hbn,fun b1 hb1 m hm=> ?_,fun j=>if off<=j/\j < off+n then evs' (j - off)else evs j,fun j hj=> ?_,fun b1 hb1 j k u hj hu=> ?_,fun j z hz=> ?_⟩
    ·rw[hLb]at hb1;obtain rfl:=ZmY hb1;obtain⟨⟨v0,q1⟩,q2⟩:=hcells b hLb m hm;refine⟨?_,by rw[World.frozen?_setCells];exact q2⟩;rw[hcell'];split
     ·exact⟨_,ZmH (by omega)⟩
     ·exact⟨v0,q1⟩
    ·dsimp only;split
     ·exact(n6 (j - off) (by omega)).1
     ·exact hev j hj
    ·rw[hLb]at hb1;obtain rfl:=ZmY hb1;dsimp only at hu;rw[hcell'];split at hu
     ·rename_i hin';have hq:=(n6 (j - off) (by omega)).2 k u hu;have hk:k < sz:=by have:=(Zmy.1 hu).1;have:=(n6 (j - off) (by omega)).1;omega
      have h1:j*sz=off*sz+(j - off)*sz:=by rw[<-ZmS];congr 1;omega
      have h2:(j - off+1)*sz<=n*sz:=ZmU _ (by omega);rw[ZmS,Nat.one_mul]at h2;rw[if_pos (by omega),show L.base+j*sz+k - (L.base+off*sz)=(j - off)*sz+k by omega,ZmK,if_pos (by omega)];exact hq
     ·rename_i hout;have hk:k < sz:=by have:=(Zmy.1 hu).1;have:=hev j hj;omega
      rw[if_neg]
      ·exact hcell b hLb j k u hj hu
      ·rintro⟨r1,r2⟩;rcases Nat.lt_or_ge j off with hlt |hge
       ·have:(j+1)*sz<=off*sz:=ZmU _ hlt;rw[ZmS,Nat.one_mul]at this;omega
       ·have:(off+n)*sz<=j*sz:=ZmU _ (by omega);rw[ZmS]at this;omega
    ·rw[ZbD _ _ _ (by omega),hxt]at hz;dsimp only;split at hz
     ·rename_i hin';rw[if_pos hin'];rw[ZmK,if_pos (by omega)]at hz;exact(n7 _ z hz).mono kS hS
     ·rename_i hout;rw[if_neg hout];exact(hrel j z hz).mono kS hS
end
end Eng
namespace Eng
open Go
theorem Zaq {td:TD} {x y:P} (b:Zn td x=true) (a:Zn td y=true):P.key x y=true<->x=y:=by
 cases td<;>cases x<;>simp[Zn]at b<;>cases y<;>simp[Zn]at a
 ·simp[P.key,P.eqv,P.eqc]
 ·subst b;subst a;simp[P.key,P.eqv,P.eqc]
 ·simp[P.key,P.eqv,P.eqc]
theorem ZaO {td:TD} {x:P} (a:Zn td x=true):P.key x x=true:=(Zaq a a).2 rfl
def Zfb (td:TD) (c:List (P×P)):Prop:=(c.Pairwise fun a b=>P.key a.1 b.1=false)/\∀q∈c,Zn td q.1=true
theorem Zfb.perm {td:TD} {a b:List (P×P)} (h:Zfb td a) (k:a.Perm b):Zfb td b:=by
 have c:∀q∈b,Zn td q.1=true:=fun q l=>h.2 q (k.mem_iff.2 l)
 refine⟨?_,c⟩;have m:a.Pairwise fun x y=>x.1≠y.1:=h.1.imp_of_mem fun d f i e=>by have:=(Zaq (h.2 _ d) (h.2 _ f)).2 e;rw[i]at this;simp at this
 have j:b.Pairwise fun x y=>x.1≠y.1:=(k.pairwise_iff (fun g=>Ne.symm g)).1 m
 exact j.imp_of_mem fun d f i=>by
  cases hc:P.key _ _ with
  |false=>rfl
  |true=>exact absurd ((Zaq (c _ d) (c _ f)).1 hc) i
theorem Zfb.uniq {td:TD} {d:List (P×P)} (h:Zfb td d) {k v m:P} (l:(k,v)∈d) (o:(k,m)∈d):v=m:=by
 obtain⟨i,hi,f⟩:=Znj.1 l;obtain⟨j,n,a⟩:=Znj.1 o;have b:=ZaO (h.2 _ l);rcases Nat.lt_trichotomy i j with e |g |c
 ·have:=Znn.1 h.1 i j hi n e;rw[f,a]at this;simp[b]at this
 ·subst g;rw[f]at a;simpa using a
 ·have:=Znn.1 h.1 j i n hi c;rw[f,a]at this;simp[b]at this
theorem Zbp {td:TD} {b:List (P×P)} (h:Zfb td b) {k:P} (d:Zn td k=true) (v:P):Zbq b k=some v<->(k,v)∈b:=by
 unfold Zbq;rw[ZmX];constructor
 ·rintro⟨q,f,rfl⟩;have c:=List.find?_some f;have a:=List.mem_of_find?_eq_some f;have:=(Zaq d (h.2 _ a)).1 c;rw[this];exact a
 ·intro i;cases hf:b.find? fun e=>P.key k e.1 with
  |none=>
   have:=List.find?_eq_none.1 hf _ i;simp[ZaO d]at this
  |some q=>
   have c:=List.find?_some hf;have a:=List.mem_of_find?_eq_some hf;have g:=(Zaq d (h.2 _ a)).1 c;obtain⟨q1,j⟩:=q;simp only at g;subst g;exact⟨_,rfl,h.uniq a i⟩
theorem ZcM {td:TD} {a:List (P×P)} {k:P}:Zbq a k=none<->∀q∈a,P.key k q.1=false:=by unfold Zbq;simp
theorem ZeT {td:TD} {a b:List (P×P)} (h:Zfb td a) (d:a.Perm b) {k:P} (c:Zn td k=true):Zbq a k=Zbq b k:=by
 cases hb:Zbq b k with
 |some v=>exact(Zbp h c v).2 (d.mem_iff.2 ((Zbp (h.perm d) c v).1 hb))
 |none=>
  cases ha:Zbq a k with
  |none=>rfl
  |some v=>
   have:=(Zbp (h.perm d) c v).2 (d.mem_iff.1 ((Zbp h c v).1 ha));rw[hb]at this;simp at this
theorem ZhQ {td:TD} {c:List (P×P)} (n:Zfb td c) {k v s:P} (i:Zn td k=true) {j:Nat} (l:c[j]? =some (k,v)):Zi7 c k s=c.set j (k,s):=by
 have h:c.any (fun e=>P.key k e.1)=true:=Zm6.2 ⟨(k,v),Znm l,ZaO i⟩;unfold Zi7;rw[if_pos h];apply List.ext_getElem?;intro m;rw[ZmJ]
 by_cases o:m=j
 ·subst o;have a:m < c.length:=(ZmI.1 l).1;rw[l,List.getElem?_set_self a];simp[ZaO i]
 ·rw[List.getElem?_set_ne (Ne.symm o)];cases p:c[m]? with
  |none=>rfl
  |some q=>
   have:P.key k q.1=false:=by
    cases hc:P.key k q.1 with
    |false=>rfl
    |true=>
     exfalso;have g:=(Zaq i (n.2 q (Znm p))).1 hc;obtain⟨a,r⟩:=ZmI.1 l;obtain⟨b,f⟩:=ZmI.1 p;have d:=ZaO i;rcases Nat.lt_or_gt_of_ne o with t |u
     ·have:=Znn.1 n.1 m j b a t;rw[r,f,<-g]at this;simp[d]at this
     ·have:=Znn.1 n.1 j m a b u;rw[r,f,<-g]at this;simp[d]at this
   simp[this]
theorem Zgi {b:List (P×P)} {k v:P} (h:Zbq b k=none):Zi7 b k v=b++[(k,v)]:=by unfold Zi7;rw[if_neg];intro a;obtain⟨q,c,d⟩:=Zm6.1 a;have:=(ZcM (td:= .bool)).1 h q c;rw[d]at this;simp at this
theorem Zgh {td:TD} {a b:List (P×P)} (g:Zfb td a) (c:a.Perm b) {k v:P} (h:Zn td k=true):(Zi7 a k v).Perm (Zi7 b k v):=by
 unfold Zi7;have:a.any (fun e=>P.key k e.1)=b.any (fun e=>P.key k e.1):=by
  rw[Bool.eq_iff_iff,Zm6,Zm6];constructor
  ·rintro⟨q,f,d⟩;exact⟨q,c.mem_iff.1 f,d⟩
  ·rintro⟨q,f,d⟩;exact⟨q,c.mem_iff.2 f,d⟩
 rw[this];split
 ·exact c.map _
 ·exact c.append_right _
theorem Zgj {td:TD} {i:List (P×P)} (d:Zfb td i) {k v:P} (h:Zn td k=true):Zfb td (Zi7 i k v):=by
 unfold Zi7;split
 ·refine⟨?_, ?_⟩
  ·rw[List.pairwise_map];refine d.1.imp fun {a b} hab=> ?_
   by_cases h1:P.key k a.1<;>by_cases h2:P.key k b.1<;>simp[h1,h2,hab]
  ·intro q c;obtain⟨a,f,rfl⟩:=Znk.1 c;split<;>exact d.2 a f
 ·rename_i e;refine⟨List.pairwise_append.2 ⟨d.1,List.pairwise_singleton _ _,fun a f b j=> ?_⟩, ?_⟩
  ·simp only[ZmQ]at j;subst j;cases hc:P.key a.1 k with
   |false=>rfl
   |true=>
    exfalso;have g:=(Zaq (d.2 a f) h).1 hc;exact e (Zm6.2 ⟨a,f,by rw[g];exact ZaO h⟩)
  ·intro q c;rcases ZmM.1 c with c |c
   ·exact d.2 q c
   ·simp only[ZmQ]at c;subst c;exact h
theorem ZhR {td:TD} {b:List (P×P)} (d:Zfb td b) {k v:P} (f:Zn td k=true) {j:Nat} (c:b[j]? =some (k,v)):Zkl b k=b.eraseIdx j:=by
 unfold Zkl
 induction b generalizing j with
 |nil=>simp at c
 |cons q b i=>
  have g:Zfb td b:=⟨(List.pairwise_cons.1 d.1).2,fun q h=>d.2 q (by simp[h])⟩;cases j with
  |zero=>
   simp only[Zne,ZmZ]at c;subst c;simp only[List.filter_cons,ZaO f,Bool.not_true,Bool.false_eq_true,if_false,List.eraseIdx_cons_zero];apply List.filter_eq_self.2;intro a l;have:=(List.pairwise_cons.1 d.1).1 a l;simpa using this
  |succ j=>
   simp only[Znd]at c;have:P.key k q.1=false:=by
    cases hc:P.key k q.1 with
    |false=>rfl
    |true=>
     have e:=(Zaq f (d.2 q (by simp))).1 hc;have:=(List.pairwise_cons.1 d.1).1 _ (Znm c);rw[<-e,ZaO f]at this;simp at this
   simp only[List.filter_cons,this,Bool.not_false,if_true,List.eraseIdx_cons_succ];rw[i g c]
theorem Zgm {b:List (P×P)} {k:P} (h:Zbq b k=none):Zkl b k=b:=by unfold Zkl;apply List.filter_eq_self.2;intro a c;simp[(ZcM (td:= .bool)).1 h a c]
theorem Zgl {a b:List (P×P)} (c:a.Perm b) (k:P):(Zkl a k).Perm (Zkl b k):=c.filter _
theorem Zgn {td:TD} {a:List (P×P)} (b:Zfb td a) (k:P):Zfb td (Zkl a k):=
 ⟨b.1.filter _,fun q c=>b.2 q (List.mem_filter.1 c).1⟩
section
variable {w:World} {S:Nat->Prop}
def Zgk (d:TypeDesc) (td:TD):Prop:=Zau d td=true/\td.same td=true
theorem ZlC {a b:TD} (h:a.same b=true):a=b/\b.same b=true:=by cases a<;>cases b<;>simp[TD.same]at h|- <;>simp[h]
theorem Zgz (s t:List UInt8):((ByteArray.mk s.toArray) == (ByteArray.mk t.toArray))=(s == t):=by rw[beq_toListBytes,ZfP,ZfP]
theorem ZgT {d:TypeDesc} {td:TD} (f:Zgk d td) {x y:P} {u v:Value} (e:Zn td x=true) (c:Zn td y=true) (a:RelP w S u x) (b:RelP w S v y):Instr.sameNow d u v=some (P.key x y):=by
 obtain⟨h,g⟩:=f;cases td<;>simp[TD.same]at g<;>cases d<;>simp[Zau]at h<;>cases x<;>simp[Zn]at e<;>cases y<;>simp[Zn]at c
 ·rw[a.bool_inv,b.bool_inv];simp[Instr.sameNow,P.key,P.eqv,P.eqc]
 ·subst e;subst c;rw[a.int_inv.1,b.int_inv.1];simp[Instr.sameNow,P.key,P.eqv,P.eqc]
 ·rw[a.str_inv.1,b.str_inv.1];rename_i s t;simp only[Instr.sameNow,P.key,P.eqv,P.eqc,Option.getD_some,ZmZ];exact Zgz s t
theorem ZdW {d:TypeDesc} {td:TD} (hd:Zgk d td) {x:P} {u:Value} (hx:Zn td x=true) (hu:RelP w S u x):∀(es:List MapEntry) (kv:List (P×P)) (n:Nat),es.length=kv.length->(∀q∈kv,Zn td q.1=true)->
  (∀(i:Nat) e q,es[i]? =some e->kv[i]? =some q->RelP w S e.key q.1)->
  (∀q∈kv,P.key x q.1=false)/\Instr.findNow d u es n=some none\/
  ∃(j:Nat) (e:MapEntry) (q:P×P),es[j]? =some e/\kv[j]? =some q/\P.key x q.1=true/\Instr.findNow d u es n=some (some (n+j,e.val))
 | [],[],n,_,_,_=> .inl ⟨by simp,rfl⟩
 | [],_::_,n,h,_,_=>by simp at h
 |_::_,[],n,h,_,_=>by simp at h
 |e::es,q::kv,n,hl,hk,hr=>by
  have hs:=ZgT hd hx (hk q (by simp)) hu (hr 0 e q rfl rfl);simp only[Instr.findNow,hs];cases hc:P.key x q.1 with
  |true=>exact .inr ⟨0,e,q,rfl,rfl,hc,by simp⟩
  |false=>
   rcases ZdW hd hx hu es kv (n+1) (by simpa using hl) (fun q hq=>hk q (by simp[hq])) (fun i e q he hq=>hr (i+1) e q (by simpa using he) (by simpa using hq))with ⟨h1,h2⟩ |⟨j,e',q',h1,h2,h3,h4⟩
   ·exact .inl ⟨by simp[hc];exact fun a b hab=>h1 (a,b) hab,h2⟩
   ·exact .inr ⟨j+1,e',q',by simpa using h1,by simpa using h2,h3,by rw[h4,Nat.add_assoc,Nat.add_comm 1]⟩
theorem Zb4 {P:Program} {k:TypeId} {d:TypeDesc} {td:TD} (l:P.underlying k=some d) (o:Zgk d td) {x:Eng.P} {u:Value} (h:Zn td x=true) (r:RelP w S u x) {es:List MapEntry} {a:List (Eng.P×Eng.P)} (p:es.length=a.length) (g:Zfb td a)
  (f:∀(i:Nat) e q,es[i]? =some e->a[i]? =some q->RelP w S e.key q.1):
  (Zbq a x=none/\∀w',(Instr.findKey k u es).run P w'= .ok none w')\/
  ∃(j:Nat) (e:MapEntry) (v:Eng.P),es[j]? =some e/\a[j]? =some (x,v)/\Zbq a x=some v/\∀w',(Instr.findKey k u es).run P w'= .ok (some (j,e.val)) w':=by
 rcases ZdW o h r es a 0 p g.2 f with ⟨c,b⟩ |⟨j,e,q,c,b,s,t⟩
 ·exact .inl ⟨(ZcM (td:=td)).2 c,fun w'=>by simp[Instr.findKey,Za l,b]⟩
 ·have m:=Znm b;have:=(Zaq h (g.2 q m)).1 s;obtain⟨q1,n⟩:=q;simp only at this;subst this;exact .inr ⟨j,e,n,c,b,(Zbp g h n).2 m,fun w'=>by simp[Instr.findKey,Za l,t]⟩
theorem Zas {P:Program} {a:TypeId} {d:TypeDesc} {td:TD} (e:P.underlying a=some d) (c:Zgk d td) (b:Bool) (v:Value) (w':World):(Instr.checkKey b 10000 a v).run P w'= .ok () w':=by obtain⟨g,f⟩:=c;show (Instr.checkKey b (9999+1) a v).run P w'= .ok () w';generalize 9999=n;cases td<;>simp[TD.same]at f<;>cases d<;>simp[Zau]at g<;>simp[Instr.checkKey,Za e]
theorem ZcN {P:Program} {td:TD} {x:Eng.P} {u v:Value} (c:Zn td x=true) (b:RelP w S u x) (a:RelP w S v x) (w':World):(Instr.keyThatStays u v).run P w'= .ok v w':=by
 have:Instr.sameBits 10000 u v=true:=by
  cases td<;>cases x<;>simp[Zn]at c
  ·rw[b.bool_inv,a.bool_inv];simp[Instr.sameBits]
  ·rw[b.int_inv.1,a.int_inv.1];simp[Instr.sameBits]
  ·rw[b.str_inv.1,a.str_inv.1];simp[Instr.sameBits,Zgz]
 simp[Instr.keyThatStays,this]
end
end Eng
namespace Eng
open Go
section
variable {C:Ctx} {X:Nat->Prop} {ρ:Id->Option Lay} {S:Nat->Prop} {st:St} {a:Act} {w:World} {i:Nat} {o:Oper} {e:Eff}
theorem Zfu {td:TD} {S':Nat->Prop} {v:Value} {x:P} (c:Zn td x=true) (h:RelP w S v x):RelP w S' v x:=by
 cases td<;>cases x<;>simp[Zn]at c
 ·rw[h.bool_inv];exact .bool _
 ·obtain⟨rfl,a,b⟩:=h.int_inv;exact .int _ _ a b
 ·obtain⟨rfl,a⟩:=h.str_inv;exact .str _ a
theorem Zl.key {E:Env} (m:Zl E) {t:Nat} {ti:TI} {b j:Nat} (e:E.ty t=some ti) (f:ti.d= .map b j) {td:TD} (a:(E.keyTD t).same td=true):∃d,E.prog.underlying b=some d/\Zgk d td:=by
 have k:E.keyTD t=(match E.td b with |some d=>d |none=> .other):=by unfold Env.keyTD;rw[e];cases ti;simp only at f;subst f;rfl
 rw[k]at a;cases c:E.td b with
 |none=>rw[c]at a;simp[TD.same]at a
 |some d=>
  rw[c]at a;obtain⟨g,h⟩:=ZlC a;simp only at g;subst g;obtain⟨n,i,l⟩:=m.und c;exact⟨n,i,l,h⟩
section
variable (h:Rep C X ρ S st a.tmps w) (hi:¬X i) (ht:∀d,o.dst=some d->d < C.E.nt) (hlit:o.op.operands.all Zz=true) (hE:Zl C.E)
include h hi ht hlit hE
theorem Zhg {t:TypeId} {m k:Operand} {ok:Bool} (ho:o.op= .lookup t m k ok) (hc:Zd C.E st.ep i o.op o.type st.slots st.objs=some e):Zu C X st a w i o e:=by
 rw[ho]at hc hlit;simp[Op.operands]at hlit;have h1:=Zj h 0 hlit.1;simp only[Zd]at hc;split at hc;rotate_left;simp at hc;rename_i kt el sz by_ ze hty;have h2:=Zj h kt hlit.2;split at hc;rotate_left;simp at hc;rename_i te td kv kp hte hm hk;split at hc;rotate_left;simp at hc;rename_i hcnd;simp only[ZmC]at hcnd;obtain⟨hs,hleaf⟩:=hcnd;simp only[ZmZ]at hc;have hum:=hE.map hty rfl;obtain⟨d,hud,hkd⟩:=hE.key hty rfl hs;have hkp:RelP w S (a.eval k) kp:=Zfu (S:=fun _=>True) hleaf (ZaA (S':=fun _=>True) h.objs (fun _ _=>trivial) 1 _ _ _ h2 hk (fun _ _ _ _ _ _=>trivial));obtain⟨z,hz,hzs,hzr⟩:=Zb9 (w:=w) (S:=S) hE hte;generalize hvk:a.eval k=vk at hkp;generalize hvm:a.eval m=vm at h1;have hmap:(vm= .map none/\kv=[])\/∃r es clock kv',vm= .map (some r)/\w.heap[r]? =some (.map es clock)/\kv'.Perm kv/\es.size=kv'.length/\Zfb td kv'/\
   ∀(i:Nat) e q,es[i]? =some e->kv'[i]? =some q->RelP w S e.key q.1/\RelP w S e.val q.2:=by
  unfold Zfr at hm;split at hm
  ·rename_i td' kv' hx;simp only[ZmZ,Zm0]at hm;obtain⟨rfl,rfl⟩:=hm;rw[hx]at h1;have h1:=h1.of_p;cases h1 with
   |nilmap=>exact .inl ⟨rfl,rfl⟩
   |map td r es clock kv kv' hS hb hp hl hk hv hd hkey hborn hbd=>exact .inr ⟨r,es,clock,kv',rfl,hb,hp,hl,⟨hd,hkey⟩,fun i e q he hq=>⟨hk i e q he hq,hv i e q he hq⟩⟩
  ·rename_i id hx;split at hm;rotate_left;simp at hm;rename_i td' kv' hlk;simp only[ZmZ,Zm0]at hm;obtain⟨rfl,rfl⟩:=hm;rw[hx]at h1;cases h1 with
   |map id L r hL hLb=>
    obtain⟨L',hL',r',hr',es,clock,kv',hb,hp,hl,hkv,hd2,hkey,hborn,hbd⟩:=h.objs id _ hlk (by simp);rw[hL]at hL';obtain rfl:=ZmY hL';rw[hLb]at hr';obtain rfl:=ZmY hr';exact .inr ⟨r,es,clock,kv',rfl,hb,hp,hl,⟨hd2,hkey⟩,hkv⟩
  ·simp at hm
 have hout:∃v b,(Instr.lookup t vm vk ok).run C.E.prog w= .ok (if ok then .tuple #[v,.bool b]else v) w/\
   (match Zbq kv kp with |some x=>RelP w S v x/\b=true |none=>RelP w S v te.zeroP/\b=false):=by
  rcases hmap with ⟨rfl,rfl⟩ |⟨r,es,clock,kv',rfl,hb,hp,hl,hK,hrel⟩
  ·refine⟨z,false, ?_,hzr,rfl⟩;have hck:=Zas hud hkd true vk w;have hfk:(Instr.findKey kt vk (#[]:Array MapEntry).toList).run C.E.prog w= .ok none w:=by simp[Instr.findKey,Za hud,Instr.findNow]
   cases ok<;>simp[Instr.lookup,Za hum,hck,hfk,hz]<;>simpa using hfk
  ·have hck:=Zas hud hkd es.isEmpty vk w;rcases Zb4 (es:=es.toList) hud hkd hleaf hkp (by simpa using hl) hK (fun i e q he hq=>(hrel i e q (by simpa using he) hq).1)with ⟨g1,g2⟩ |⟨j,e',v',g1,g2,g3,g4⟩
   ·rw[<-ZeT hK hp hleaf,g1];refine⟨z,false, ?_,hzr,rfl⟩;cases ok<;>simp[Instr.lookup,Za hum,getObj,Sem.run,hb,hck,g2,hz]
   ·rw[<-ZeT hK hp hleaf,g3];refine⟨e'.val,true, ?_,(hrel j e' _ (by simpa using g1) g2).2,rfl⟩;cases ok<;>simp[Instr.lookup,Za hum,getObj,Sem.run,hb,hck,g4]
 obtain⟨v,b,hrun,hv⟩:=hout;subst hc;refine Zu.quiet h hi ht (v:=if ok then .tuple #[v,.bool b]else v) (by simp only[execOp,ho,hvm,hvk,Sem.run_bind,hrun,Result.andThen_ok,Sem.run_pure]) rfl rfl rfl ?_;have tup:∀(x:P),RelP w S v x->RelD w S ρ (.tuple #[v,.bool b]) (.tup [.p x,.p (.bool b)]):=by
  intro x hx;refine .tup _ _ rfl fun i u c hu hc=> ?_
  match i with
  |0=>simp at hu hc;subst hu hc;exact .p _ _ hx
  |1=>simp at hu hc;subst hu hc;exact .p _ _ (.bool b)
  |i+2=>simp at hc
 cases hf:Zbq kv kp with
 |some x=>
  rw[hf]at hv;obtain⟨hv,rfl⟩:=hv;cases ok
  ·exact .p _ _ hv
  ·exact tup x hv
 |none=>
  rw[hf]at hv;obtain⟨hv,rfl⟩:=hv;cases ok
  ·exact .p _ _ hv
  ·exact tup _ hv
theorem Zu.map {id:Id} {td:TD} {kv D:List (P×P)} {r:Nat} {L:Lay} {fs:List Id} {w':World} {c:List Bool} {n:Next} {es:Array MapEntry} {g:Nat} {p:List (P×P)}
  (y:st.objs id=some (.map td kv)) (M:ρ id=some L) (s:L.blk=some r) (E:st.fz id=false) (Y:∀f∈fs,∃o,st.objs f=some o/\o≠ .gone) (H:∀f∈fs,id≠f)
  (z:(execOp a.eval o).run C.E.prog w= .ok n w') (hn:n= .value undef\/n= .skip)
  (k:w'.heap=w.heap.setIfInBounds r (.map es g)) (R:ZS w w') (hK:Zfb td p) (hp:p.Perm D) (hl:es.size=p.length)
  (A:∀S',(∀b,S b->S' b)->(∀f,f∈fs->∀o L b,st.objs f=some o->o≠ .gone->ρ f=some L->L.blk=some b->S' b)->∀(i:Nat) e q,es[i]? =some e->p[i]? =some q->RelP w S' e.key q.1/\RelP w S' e.val q.2)
  (x:∀(i:Nat) e,es[i]? =some e->e.born < g) (Q:∀(i j:Nat) e e',es[i]? =some e->es[j]? =some e'->e.born=e'.born->i=j)
  (N:e={val:= .undef,wr:=[(id,.map td D)],frz:=fs,cond:=c}):Zu C X st a w i o e:=by
 subst N;have t:=h.own id _ L r y (by simp) M s;have Z:¬S r:=t.2.2.2 E;have u:∀b,b≠r->w'.heap[b]? =w.heap[b]? :=fun b l=>by rw[k];exact Array.getElem?_setIfInBounds_ne (Ne.symm l)
 have F:w'.heap[r]? =some (.map es g):=by rw[k];simp[t.1]
 have ab:w'.heap.size=w.heap.size:=by rw[k];simp
 let FS:Nat->Prop:=fun b=>S b\/∃f o L,f∈fs/\st.objs f=some o/\o≠ .gone/\ρ f=some L/\L.blk=some b
 have kF:Zcy FS w w':=fun b l _=>u b fun e=>by
  subst e;rcases l with l |⟨f,o',L',q1,v,I,B,K⟩
  ·exact Z l
  ·exact H f q1 (h.inj id _ L f o' L' b y (by simp) M s v I B K)
 refine⟨n,undef,w',z,by rcases hn with rfl |rfl;exact .inl rfl;exact .inr ⟨rfl,rfl⟩,ρ,h.step ρ hi ht (by omega) R ?_ ?_ (fun _ _ h=>h) (fun id h=> .inl h) ?_ (fun _ _ m=>by simp at m) (fun _ _ _ _ _ _ _ m=>by simp at m) ?_ ?_⟩
 ·intro b l T;exact u b (fun e=>T id _ L (ZmQ.2 rfl) M (e▸s))
 ·intro U o' m;simp only[ZmQ,Zm0]at m;obtain⟨rfl,rfl⟩:=m;exact⟨E,_,y,by simp⟩
 ·intro f O;obtain⟨o',q1,v⟩:=Y f O;obtain⟨L',W,_⟩:=h.objs f o' q1 v;refine⟨by simp[W],fun aa m=> ?_⟩;simp only[ZmQ,Zm0]at m;exact H f O m.1.symm
 ·intro U o' L1 m _ J S' hS hF;simp only[ZmQ,Zm0]at m;obtain⟨rfl,rfl⟩:=m;rw[M]at J;obtain rfl:=ZmY J;have G:∀b,FS b->S' b:=fun b l=>by
   rcases l with l |⟨V,o',L,q1,v,I,B,K⟩
   ·exact hS b l
   ·exact hF V q1 o' L b v I B K
  have hr:=A FS (fun b l=> .inl l) (fun f O o L b v I B K=> .inr ⟨f,o,L,O,v,I,B,K⟩);exact⟨r,s,es,g,p,F,hp,hl,fun i e q N hq=>⟨(hr i e q N hq).1.mono kF G,(hr i e q N hq).2.mono kF G⟩,hK.1,hK.2,x,Q⟩
 ·intro S' _ _ d _;exact .undef
theorem ZbV {t:TypeId} {m k v:Operand} (ho:o.op= .mapUpdate t m k v\/o.op= .insert t m k v) (hc:Zd C.E st.ep i o.op o.type st.slots st.objs=some e) (hw:Zem st e=true):Zu C X st a w i o e:=by
 have hlm:Zz m=true/\Zz k=true/\Zz v=true:=by rcases ho with ho |ho<;>rw[ho]at hlit<;>simpa[Op.operands,and_assoc]using hlit
 have hc:ZX C.E st.slots st.objs t m k v=some e:=by rcases ho with ho |ho<;>rw[ho]at hc<;>simpa[Zd]using hc
 have hexec:(execOp a.eval o).run C.E.prog w=((Instr.mapUpdate t (a.eval m) (a.eval k) (a.eval v)).run C.E.prog w).andThen fun _ w'=> .ok .skip w':=by rcases ho with ho |ho<;>simp only[execOp,ho,Sem.run_bind,Sem.run_pure]
 have h1:=Zj h 0 hlm.1;unfold ZX at hc;split at hc;rotate_left;simp at hc;rename_i kt vt sz by_ ze hty;have h2:=Zj h kt hlm.2.1;have h3:=Zj h vt hlm.2.2;split at hc;rotate_left;simp at hc;rename_i id hm;split at hc;rotate_left;simp at hc;rename_i td kv kp vp hlk hk hv;split at hc;rotate_left;simp at hc;rename_i hcnd;simp only[ZmC]at hcnd;obtain⟨hs,hleaf⟩:=hcnd;simp only[ZmZ]at hc;have hum:=hE.map hty rfl;obtain⟨d,hud,hkd⟩:=hE.key hty rfl hs;have hkp:RelP w S (a.eval k) kp:=Zfu (S:=fun _=>True) hleaf (ZaA (S':=fun _=>True) h.objs (fun _ _=>trivial) 1 _ _ _ h2 hk (fun _ _ _ _ _ _=>trivial));have hids:=Zbj depth _ _ hv;have hvp:∀S',(∀b,S b->S' b)->(∀f,f∈(ev C.E st.slots vt v).ids st.objs depth->∀o L b,st.objs f=some o->o≠ .gone->ρ f=some L->L.blk=some b->S' b)->RelP w S' (a.eval v) vp:=fun S' hS hF=>
  ZaA (S':=S') h.objs hS depth _ _ _ h3 hv (fun id hid L b hL hb=>by obtain⟨o',q1,q2⟩:=hids id hid;exact hF id hid o' L b q1 q2 hL hb)
 generalize hvk:a.eval k=vk at hkp hexec;generalize hvm:a.eval m=vm at h1 hexec;generalize hvv:a.eval v=vv at hvp hexec;rw[hm]at h1;rw[<-hc]at hw;simp only[Zem,ZmC,Zm5,ZmQ,forall_eq,Zm4,decide_eq_true_eq]at hw;cases h1 with
 |map _ L r hL hLb=>
  obtain⟨L',hL',r',hr',es,clock,kv',hb,hp,hl,hkv,hd2,hkey,hborn,hbd⟩:=h.objs id _ hlk (by simp);rw[hL]at hL';obtain rfl:=ZmY hL';rw[hLb]at hr';obtain rfl:=ZmY hr';have hK:Zfb td kv':=⟨hd2,hkey⟩;have hck:=Zas hud hkd false vk w;rcases Zb4 (es:=es.toList) hud hkd hleaf hkp (by simpa using hl) hK (fun i e q he hq=>(hkv i e q (by simpa using he) hq).1)with ⟨g1,g2⟩ |⟨j,e',v',g1,g2,g3,g4⟩
  ·refine Zu.map h hi ht hlit hE (w':={w with heap:=w.heap.setIfInBounds r (.map (es.push {key:=vk,val:=vv,born:=clock}) (clock+1))}) hlk hL hLb hw.1 hids hw.2 (n:= .skip) ?_ (.inr rfl) rfl ⟨rfl,rfl⟩ (Zgj hK hleaf (v:=vp)) (Zgh hK hp hleaf) ?_ ?_ ?_ ?_ (c:=[]) hc.symm
   ·rw[hexec];simp[Instr.mapUpdate,Za hum,getObj,setObj,Sem.run,hb,hck,g2]
   ·rw[Zgi g1];simp[hl]
   ·intro S' hS hF n e q he hq;rw[Zgi g1]at hq;rw[Array.getElem?_push]at he;split at he
    ·rename_i hn;cases he;rw[hn,hl,Znc (ZmT _)]at hq;simp at hq;subst hq;exact⟨hkp.mono (fun _ _ _=>rfl) hS,hvp S' hS hF⟩
    ·have hn:n < kv'.length:=by have:=(Zmy.1 he).1;omega
     rw[Znb hn]at hq;exact⟨(hkv n e q he hq).1.mono (fun _ _ _=>rfl) hS,(hkv n e q he hq).2.mono (fun _ _ _=>rfl) hS⟩
   ·intro n e he;rw[Array.getElem?_push]at he;split at he
    ·cases he;simp
    ·have:=hborn n e he;omega
   ·intro n m e e' he he' hb;rw[Array.getElem?_push]at he he';split at he<;>split at he'
    ·omega
    ·cases he;have:=hborn m e' he';simp at hb;omega
    ·simp only[ZmZ]at he';subst he';have:=hborn n e he;simp at hb;omega
    ·exact hbd n m e e' he he' hb
  ·have hje:es[j]? =some e':=by simpa using g1
   have hjl:j < es.size:=(Zmy.1 hje).1;refine Zu.map h hi ht hlit hE (w':={w with heap:=w.heap.setIfInBounds r (.map (es.modify j fun e=>{e with key:=vk,val:=vv}) clock)}) hlk hL hLb hw.1 hids hw.2 (n:= .skip) ?_ (.inr rfl) rfl ⟨rfl,rfl⟩ (Zgj hK hleaf (v:=vp)) (Zgh hK hp hleaf) ?_ ?_ ?_ ?_ (c:=[]) hc.symm
   ·have hst:=ZcN (P:=C.E.prog) hleaf (hkv j e' _ hje g2).1 hkp w;rw[hexec];simp[Instr.mapUpdate,Za hum,getObj,setObj,Sem.run,hb,hck,g4,hje,hst]
   ·rw[ZhQ hK hleaf g2];simp[hl]
   ·intro S' hS hF n e q he hq;rw[ZhQ hK hleaf g2]at hq;rw[Array.getElem?_modify]at he;split at he
    ·rename_i hjn;subst hjn;rw[hje]at he;simp only[Option.map_some,ZmZ]at he;subst he;rw[List.getElem?_set_self (by omega)]at hq;cases hq;exact⟨hkp.mono (fun _ _ _=>rfl) hS,hvp S' hS hF⟩
    ·rename_i hjn;rw[List.getElem?_set_ne hjn]at hq;exact⟨(hkv n e q he hq).1.mono (fun _ _ _=>rfl) hS,(hkv n e q he hq).2.mono (fun _ _ _=>rfl) hS⟩
   ·intro n e he;rw[Array.getElem?_modify]at he;split at he
    ·rename_i hjn;subst hjn;rw[hje]at he;simp only[Option.map_some,ZmZ]at he;subst he;exact hborn _ e' hje
    ·exact hborn n e he
   ·have hbm:∀(n:Nat) (e:MapEntry),(es.modify j fun e=>{e with key:=vk,val:=vv})[n]? =some e->∃e0,es[n]? =some e0/\e0.born=e.born:=by
     intro n e he;rw[Array.getElem?_modify]at he;split at he
     ·rename_i hjn;subst hjn;rw[hje]at he;simp only[Option.map_some,ZmZ]at he;subst he;exact⟨e',hje,rfl⟩
     ·exact⟨e,he,rfl⟩
    intro n m e1 e2 he1 he2 hb;obtain⟨a1,q1,q2⟩:=hbm n e1 he1;obtain⟨a2,q3,q4⟩:=hbm m e2 he2;exact hbd n m a1 a2 q1 q3 (by omega)
theorem ZjX {it:Operand} (J:o.op= .next it true) (f:Zd C.E st.ep i o.op o.type st.slots st.objs=some e) (hw:Zem st e=true):Zu C X st a w i o e:=by
 rw[J]at f hlit;simp[Op.operands]at hlit;have A:=Zj h 0 hlit;simp only[Zd]at f;split at f;rotate_left;simp at f;rename_i id N;rw[N]at A;generalize hv:a.eval it=v at A;split at f;rotate_left;simp at f;rename_i s g r;cases A with
 |it _ L b z l=>
 obtain⟨L',x,b',p,k,F⟩:=h.objs id _ r (by simp);rw[z]at x;obtain rfl:=ZmY x;rw[l]at p;obtain rfl:=ZmY p;split at f
 ·rename_i H;cases f;have B:st.fz id=false:=by simp only[Zem,ZmC,Zm5,ZmQ,forall_eq,Zm4]at hw;exact hw.1
  have t:=h.own id _ L b r (by simp) z l;have q:IntKind.i32.min<=((Utf8.decode ⟨s.toArray⟩ g).1:Int)/\((Utf8.decode ⟨s.toArray⟩ g).1:Int)<=IntKind.i32.max:=by
   have:=decode_le ⟨s.toArray⟩ g;have O:IntKind.i32.min= -2147483648:=by decide
   have P:IntKind.i32.max=2147483647:=by decide
   omega
  refine⟨.value (.tuple #[.bool true,goInt g,.int .i32 (Utf8.decode ⟨s.toArray⟩ g).1]),_,{w with heap:=w.heap.setIfInBounds b (.stringIter ⟨s.toArray⟩ (g+(Utf8.decode ⟨s.toArray⟩ g).2))}, ?_,.inl rfl,ρ,
   h.step (v:= .tuple #[.bool true,goInt g,.int .i32 (Utf8.decode ⟨s.toArray⟩ g).1]) ρ hi ht (by simp) ⟨rfl,rfl⟩ ?_ ?_ (fun _ _ h=>h) (fun id h=> .inl h) (by simp) (fun _ _ n=>by simp at n) (fun _ _ _ _ _ _ _ n=>by simp at n) ?_ ?_⟩
  ·simp[execOp,J,hv,Instr.next,getObj,setObj,Sem.run,k,ZaZ,H]
  ·intro K M I;have D:b≠K:=fun e=>I id _ L (ZmQ.2 rfl) z (by rw[l,e])
   exact Array.getElem?_setIfInBounds_ne D
  ·intro G o' n;simp only[ZmQ,Zm0]at n;obtain⟨rfl,rfl⟩:=n;exact⟨B,_,r,by simp⟩
  ·intro G o' L1 n _ y S' Q _;simp only[ZmQ,Zm0]at n;obtain⟨rfl,rfl⟩:=n;rw[z]at y;obtain rfl:=ZmY y;exact⟨b,l,by simp[t.1],F⟩
  ·intro S' _ _ d _;refine .tup _ _ rfl fun j u c m f=> ?_
   match j with
   |0=>simp at m f;subst m f;exact .p _ _ (.bool true)
   |1=>simp at m f;subst m f;exact .p _ _ (.int _ _ (ZdE (by omega)).1 (ZdE (by omega)).2)
   |2=>simp at m f;subst m f;exact .p _ _ (.int _ _ q.1 q.2)
   |j+3=>simp at f
 ·rename_i E;cases f;refine Zu.quiet h hi ht (v:= .tuple #[.bool false]) (by simp[execOp,J,hv,Instr.next,getObj,Sem.run,k,ZaZ,E]) rfl rfl rfl ?_;refine .tup _ _ rfl fun j u c m f=> ?_
  match j with
  |0=>simp at m f;subst m f;exact .p _ _ (.bool false)
  |j+1=>simp at f
theorem ZiK {it:Operand} (Q:o.op= .entry it) (d:Zd C.E st.ep i o.op o.type st.slots st.objs=some e):Zu C X st a w i o e:=by
 rw[Q]at d hlit;simp[Op.operands]at hlit;have s:=Zj h 0 hlit;simp only[Zd]at d;split at d;rotate_left;simp at d;rename_i id Y;rw[Y]at s;generalize hv:a.eval it=v at s;split at d;rotate_left;simp at d;rename_i rest k x O;cases s with
 |it _ L b V F=>
 obtain⟨L',A,b',g,B⟩:=h.objs id _ O (by simp);rw[V]at A;obtain rfl:=ZmY A;rw[F]at g;obtain rfl:=ZmY g;cases d;rcases B with ⟨_,_,_,_,_,I⟩ |⟨m,es,N,R,U,hm,G,K,Z,T,M,E,H,q,e',f,S,p⟩
 ·simp at I
 ·have l:es.find? (fun e=>e.born == e'.born)=some e':=by
   have r:∃y,es.find? (fun e=>e.born == e'.born)=some y:=by
    cases hf:es.find? (fun e=>e.born == e'.born)with
    |some y=>exact⟨y,rfl⟩
    |none=>
     have:=Array.find?_eq_none.1 hf e' (Array.mem_of_getElem? f);simp at this
   obtain⟨y,J⟩:=r;have s:=Array.find?_some J;have W:=Array.mem_of_find?_eq_some J;obtain⟨n,P,rfl⟩:=ZmA.1 W;simp only[beq_iff_eq]at s;have:=E n q es[n] e' (by simp[P]) f s;subst this;rw[J];simp[P]at f;rw[f]
  have t:(Instr.entry (.pointer (some ⟨b,0,none⟩))).run C.E.prog w= .ok (.tuple #[e'.key,e'.val]) w:=by simp[Instr.entry,getObj,Sem.run,K,G,p,l]
  refine Zu.quiet h hi ht (v:= .tuple #[e'.key,e'.val]) (by simp only[execOp,Q,hv,Sem.run_bind,t,Result.andThen_ok,Sem.run_pure]) rfl rfl rfl ?_;have z:=T q e' _ f S;refine .tup _ _ rfl fun j u c D d=> ?_
  match j with
  |0=>simp at D d;subst D d;exact .p _ _ z.1
  |1=>simp at D d;subst D d;exact .p _ _ z.2
  |j+2=>simp at d
theorem Zhh {args:Array Operand} {ats:Array TypeId} (ho:o.op= .call {callee:= .builtin .delete,args,argTypes:=ats}) (hc:Zd C.E st.ep i o.op o.type st.slots st.objs=some e) (hw:Zem st e=true):Zu C X st a w i o e:=by
 have hlit':=hlit;rw[ho]at hc hlit';simp only[Zd,ZI]at hc;unfold Zd4 at hc;split at hc<;>(try simp only[reduceCtorEq]at hc);rename_i t ts id k hds hlen;have hats:ats[0]? =some t:=by rw[<-Zm2,hds];rfl
 obtain⟨hl,hr⟩:=Zaf h args.toList ats.toList (fun x hx=>by simp[Op.operands,Call.operands]at hlit';obtain⟨j,hj,rfl⟩:=ZmA.1 (ZmB.1 hx);exact hlit' j hj)
 rw[hlen]at hl hr;split at hc<;>(try simp only[reduceCtorEq]at hc);rename_i kt el td kv kp htd hlk hk;split at hc<;>(try simp only[reduceCtorEq]at hc);rename_i hcnd;simp only[ZmC]at hcnd;obtain⟨hs,hleaf⟩:=hcnd;simp only[ZmZ]at hc;obtain⟨ti,hty,htid⟩:∃ti,C.E.ty t=some ti/\ti.d= .map kt el:=by unfold Env.td at htd;split at htd;rotate_left;simp at htd;rename_i ti hti;exact⟨ti,hti,by simpa using htd⟩
 have hum:=hE.map hty htid;obtain⟨d,hud,hkd⟩:=hE.key hty htid hs
 match hxx:args.toList,hl with
 | [xm0,xk0],_=>
  rw[hxx]at hr;have hrm:=hr 0 (a.eval xm0) (.map id) rfl rfl;have hrk:=hr 1 (a.eval xk0) k rfl rfl;have hargs:args.map a.eval= #[a.eval xm0,a.eval xk0]:=by rw[<-Zm3 (xs:=args),hxx];simp
  generalize a.eval xk0=vk at hargs hrk;generalize a.eval xm0=vm at hargs hrm;have hkp:RelP w S vk kp:=Zfu (S:=fun _=>True) hleaf (ZaA (S':=fun _=>True) h.objs (fun _ _=>trivial) 1 _ _ _ hrk hk (fun _ _ _ _ _ _=>trivial));obtain⟨csb,hx⟩:=ZA (a:=a) (w:=w) (P:=C.E.prog) ho;cases hrm with
  |map _ L r hL hLb=>
   have hw':=hw;rw[<-hc]at hw';simp only[Zem,ZmC,Zm5,ZmQ,forall_eq,Zm4,decide_eq_true_eq]at hw';obtain⟨L',hL',r',hr',es,clock,kv',hb,hp,hl,hkv,hd2,hkey,hborn,hbd⟩:=h.objs id _ hlk (by simp);rw[hL]at hL';obtain rfl:=ZmY hL';rw[hLb]at hr';obtain rfl:=ZmY hr';have hK:Zfb td kv':=⟨hd2,hkey⟩;have hck:=Zas hud hkd es.isEmpty vk w;rcases Zb4 (es:=es.toList) hud hkd hleaf hkp (by simpa using hl) hK (fun i e q he hq=>(hkv i e q (by simpa using he) hq).1)with ⟨g1,g2⟩ |⟨j,e',v',g1,g2,g3,g4⟩
   ·refine Zu.map h hi ht hlit hE (w':={w with heap:=w.heap.setIfInBounds r (.map es clock)}) (fs:=[]) hlk hL hLb hw'.1 (by simp) (by simp) (n:= .value (.tuple #[])) ?_ (.inl rfl) rfl ⟨rfl,rfl⟩ (Zgn hK kp) (Zgl hp kp) ?_ ?_ hborn hbd (c:=[]) hc.symm
    ·rw[hx,hargs];refine Zf0 ?_;simp[Builtin.delete_,hats,Za hum,getObj,setObj,Sem.run,hb,hck,g2]
    ·rw[Zgm g1];exact hl
    ·intro S' hS _ n e q he hq;rw[Zgm g1]at hq;exact⟨(hkv n e q he hq).1.mono (fun _ _ _=>rfl) hS,(hkv n e q he hq).2.mono (fun _ _ _=>rfl) hS⟩
   ·have hje:es[j]? =some e':=by simpa using g1
    have hjl:j < es.size:=(Zmy.1 hje).1;have her:∀n,(es.eraseIdxIfInBounds j)[n]? =if n < j then es[n]? else es[n+1]? :=by
     intro n;have hsub:(es.eraseIdxIfInBounds j).toList=es.toList.eraseIdx j:=by unfold Array.eraseIdxIfInBounds;simp[hjl]
     rw[<-Zm2,hsub,List.getElem?_eraseIdx];simp
    refine Zu.map h hi ht hlit hE (w':={w with heap:=w.heap.setIfInBounds r (.map (es.eraseIdxIfInBounds j) clock)}) (fs:=[]) hlk hL hLb hw'.1 (by simp) (by simp) (n:= .value (.tuple #[])) ?_ (.inl rfl) rfl ⟨rfl,rfl⟩ (Zgn hK kp) (Zgl hp kp) ?_ ?_ ?_ ?_ (c:=[]) hc.symm
    ·rw[hx,hargs];refine Zf0 ?_;simp[Builtin.delete_,hats,Za hum,getObj,setObj,Sem.run,hb,hck,g4]
    ·rw[ZhR hK hleaf g2];have:(es.eraseIdxIfInBounds j).size=es.size - 1:=by unfold Array.eraseIdxIfInBounds;simp[hjl]
     rw[this,List.length_eraseIdx,if_pos (by omega),hl]
    ·intro S' hS _ n e q he hq;rw[ZhR hK hleaf g2,List.getElem?_eraseIdx]at hq;rw[her]at he;split at he
     ·rename_i hn;rw[if_pos hn]at hq;exact⟨(hkv n e q he hq).1.mono (fun _ _ _=>rfl) hS,(hkv n e q he hq).2.mono (fun _ _ _=>rfl) hS⟩
     ·rename_i hn;rw[if_neg hn]at hq;exact⟨(hkv _ e q he hq).1.mono (fun _ _ _=>rfl) hS,(hkv _ e q he hq).2.mono (fun _ _ _=>rfl) hS⟩
    ·intro n e he;rw[her]at he;split at he
     ·exact hborn _ e he
     ·exact hborn _ e he
    ·intro n m e1 e2 he1 he2 hb;rw[her]at he1 he2;split at he1<;>split at he2
     ·exact hbd n m e1 e2 he1 he2 hb
     ·have:=hbd n (m+1) e1 e2 he1 he2 hb;omega
     ·have:=hbd (n+1) m e1 e2 he1 he2 hb;omega
     ·have:=hbd (n+1) (m+1) e1 e2 he1 he2 hb;omega
end
end
end Eng
namespace Eng
open Go
section
variable {C:Ctx} {X:Nat->Prop} {ρ:Id->Option Lay} {S:Nat->Prop} {st:St} {a:Act} {w:World} {i:Nat} {o:Oper} {e:Eff}
theorem Za9 {E:Env} (h:Zdc E o=true):∀d,o.dst=some d->d < E.nt:=fun d a=>by unfold Zdc at h;rw[a]at h;simpa using h
theorem does (h:Rep C X ρ S st a.tmps w) (hi:¬X i) (A:Zfk C.E o=true) (z:Zl C.E)
  (g:Zd C.E st.ep i o.op o.type st.slots st.objs=some e) (hw:Zem st e=true) (j:∀q∈e.cond,q=true):Zu C X st a w i o e:=by
 simp only[Zfk,ZmC]at A;obtain⟨D,d⟩:=A;have p:=Za9 D;cases ho:o.op with
 |move x=>exact ZjY h hi p d ho g
 |assign x=>exact Zhi h hi p d ho g
 |pick c x y=>exact ZjW h hi p d ho g
 |alloc t=>exact ZiN h hi p z ho g
 |box t x=>exact ZkU h hi p d z ho g
 |build t H=>exact ZiL h hi p d z ho g
 |buildSlice t n H=>exact Zd3 h hi p d z ho g
 |insert t m k v=>exact ZbV h hi p d z (.inr ho) g hw
 |load t x=>exact ZjZ h hi p d z ho g
 |store t x y=>exact ZiF h hi p d z ho g hw
 |nilCheck x=>exact ZfC h hi p d ho g
 |binOp b t x y u=>exact ZiM h hi p d z ho g j
 |unOp u t x=>exact ZjV h hi p d ho g j
 |convert s t x=>exact Zgw h hi p d z ho g j
 |makeFunc f fs cs=>exact ZfD h hi p d ho g
 |makeMap t r=>
  cases r with
  |none=>exact Zgu h hi p ho g
  |some r=>rw[ho]at g;simp[Zd]at g
 |makeSlice t l c=>exact Zes h hi p d z ho g j
 |slice t x lo G mx=>exact ZiG h hi p d z ho g j
 |fieldAddr t x f=>exact Zeu h hi p d z ho g
 |field t x f=>exact ZiJ h hi p d z ho g
 |indexAddr t x I=>exact Zet h hi p d z ho g j
 |index t x I=>exact ZiI h hi p d z ho g j
 |lookup t m k J=>exact Zhg h hi p d z ho g
 |mapUpdate t m k v=>exact ZbV h hi p d z (.inl ho) g hw
 |range t x=>exact ZiH h hi p d z ho g
 |next F s=>
  cases s with
  |true=>exact ZjX h hi p d z ho g hw
  |false=>rw[ho]at g;simp[Zd]at g
 |entry F=>exact ZiK h hi p d z ho g
 |extract x n=>exact Zgv h hi p d ho g
 |call c=>
  obtain⟨B,args,E⟩:=c;cases B with
  |builtin b=>
   cases b with
   |len=>exact ZkT h hi p d z ho g j
   |append=>exact Zhj h hi p d z ho g j hw
   |copy=>exact Zj1 h hi p d z ho g hw
   |max=>exact ZkS h hi p d ho g
   |min=>exact ZkR h hi p d ho g
   |delete=>exact Zhh h hi p d z ho g hw
   |_=>rw[ho]at g;simp[Zd,ZI]at g
  |_=>rw[ho]at g;simp[Zd]at g
 |_=>rw[ho]at g;simp[Zd]at g
end
end Eng
namespace Eng
open Go
def Zck (r:Option Nat):Fence:={fn:=fun _=>True,depth:=none,alive:=false,round:=r}
theorem Zx (P:Program) (r:Option Nat) (m:Machine):m.fenced P (Zck r):=by
 intro g _;refine⟨fun h=> ?_,Or.inl trivial,fun _ _=>trivial,fun _ h=> ?_⟩
 ·simp[Zck]at h
 ·simp[Zck]at h
def conc:Item->Go.Item
 | .c c=> .code c
 | .blk id=> .inBlock id
 | .lp c=> .inLoop c
 | .ops ops i=> .inRegion ops (List.range' i (ops.size - i))
def Xof:List Item->Nat->Prop
 | .ops _ i::_=>fun j=>j < i
 |_=>fun _=>False
abbrev Zkg:=Exit->Act->World->Prop
structure Fm where
 r:Option Nat
 ds:List Deferred
def AWP (C:Ctx) (r:Fm) (G:Zkg) (k:List Item) (d:St):Prop:=
 ∀ρ S a w,Rep C (Xof k) ρ S d a.tmps w->a.defers=r.ds->
  ∀(b:Frame) (k0:List Go.Item) (cs:List Frame),b.roundOf=r.r->
   ∃e c w',G e c w'/\ArrivesIn (Machine.fenced C.E.prog (Zck r.r)) C.E.prog (lone (b.atR a (k.map conc++k0)) cs w) b k0 cs e c w'
theorem Rep.weakX {C:Ctx} {X X':Nat->Prop} {ρ:Id->Option Lay} {S:Nat->Prop} {a:St} {tm:Array Value} {w:World} (h:Rep C X ρ S a tm w) (e:∀j,X j->X' j):Rep C X' ρ S a tm w:=
 {h with young:=fun id b=>(h.young id b).imp (fun h=>h) fun⟨d,c⟩=>⟨d,e _ c⟩}
theorem Rep.nextEp {C:Ctx} {X:Nat->Prop} {ρ:Id->Option Lay} {S:Nat->Prop} {b:St} {tm:Array Value} {w:World} (h:Rep C X ρ S b tm w):Rep C (fun _=>False) ρ S b.next tm w:=
 {h with
  young:=by
   intro id c;rcases h.young id c with a |⟨a,_⟩
   ·exact .inl (Nat.lt_succ_of_lt a)
   ·exact .inl (a▸Nat.lt_succ_self _)
  ep1:=Nat.le_succ_of_le h.ep1}
section
variable {C:Ctx} {r:Fm} {G:Zkg}
theorem Zcp {k k1:List Item} {j d:St}
  (h:∀ρ S a w,Rep C (Xof k) ρ S j a.tmps w->a.defers=r.ds->∃ρ' S' c w',Rep C (Xof k1) ρ' S' d c.tmps w'/\c.defers=r.ds/\
   ∀(b:Frame) (k0:List Go.Item) (cs:List Frame),b.roundOf=r.r->StepsIn (Machine.fenced C.E.prog (Zck r.r)) C.E.prog (lone (b.atR a (k.map conc++k0)) cs w) (lone (b.atR c (k1.map conc++k0)) cs w'))
  (o:AWP C r G k1 d):AWP C r G k j:=by
 intro ρ S a w n m b k0 cs l;obtain⟨ρ',S',c,w',g,i,p⟩:=h ρ S a w n m;obtain⟨e,t,q,s,f⟩:=o ρ' S' c w' g i b k0 cs l;exact⟨e,t,q,s,.of_steps (p b k0 cs l) f⟩
theorem Zby {k k1:List Item} {c:St} (g:∀j,Xof k j->Xof k1 j)
  (h:∀(a:Act) (w:World) (b:Frame) (k0:List Go.Item) (cs:List Frame),step C.E.prog (lone (b.atR a (k.map conc++k0)) cs w)= .next (lone (b.atR a (k1.map conc++k0)) cs w))
  (f:AWP C r G k1 c):AWP C r G k c:=
 Zcp (fun ρ S a w e d=>⟨ρ,S,a,w,e.weakX g,d,fun b k0 cs _=> .one (Zx _ _ _) (h a w b k0 cs)⟩) f
theorem ZaV {id:Nat}:∀{k a:List Item} {k0:List Go.Item},Zak id k=some a->exitTo id (k.map conc++k0)=some (a.map conc++k0)
 | [],_,_,h=>by simp[Zak]at h
 |x::k,a,k0,h=>by
  cases x with
  |blk j=>
   simp only[Zak]at h;split at h
   ·rename_i b;simp only[ZmZ]at h;subst h b;simp[exitTo,conc]
   ·rename_i b;have:(j == id)=false:=by simpa using b
    simp only[ZmL,Zm7,conc,exitTo,this,Bool.false_eq_true,if_false];exact ZaV h
  |c _=>simp only[Zak]at h;simp only[ZmL,Zm7,conc,exitTo];exact ZaV h
  |ops _ _=>simp only[Zak]at h;simp only[ZmL,Zm7,conc,exitTo];exact ZaV h
  |lp _=>simp only[Zak]at h;simp only[ZmL,Zm7,conc,exitTo];exact ZaV h
@[simp] theorem Zmn (a:Act) (d:Option Tmp) (v:Value):(a.put d v).defers=a.defers:=by cases d<;>rfl
theorem ZaT {ρ:Id->Option Lay} {S X:Nat->Prop} {f:St} {a:Act} {w:World} (h:Rep C X ρ S f a.tmps w) {ops:Array Oper} {o:Oper} {v:Bool} (c:ZQ ops f o.guard=some v):
  Region.wanted o (yielded ops a.tmps)=v:=by
 unfold Region.wanted;cases hgd:o.guard with
 |none=>rw[hgd]at c;simp[ZQ]at c;simp[c]
 |some i=>
  obtain⟨g,j⟩:=i;rw[hgd]at c;simp only[ZQ]at c;simp only[yielded];cases hb:(ops[g]?).bind (·.dst)with
  |none=>rw[hb]at c;simp at c;subst c;simp
  |some t=>
   rw[hb]at c;dsimp only at c;have e:=h.slots t;split at c
   ·rename_i b d;cases c;rw[d]at e;have:=e.of_p.bool_inv;simp only[Znq];cases hq:a.tmps[t]? with
    |none=>simp[hq]at this;simp[undef]at this
    |some v=>simp[hq]at this;subst this;simp
   ·rename_i d;cases c;rw[d]at e;generalize hv:a.tmps.getD t undef=v at e;cases e;simp only[Znq];cases hq:a.tmps[t]? with
    |none=>simp
    |some v=>simp[hq]at hv;subst hv;simp[undef]
   ·simp at c
theorem Za1 {n i:Nat} (h:i < n):List.range' i (n - i)=i::List.range' (i+1) (n - (i+1)):=by
 have:n - i=(n - (i+1))+1:=by omega
 rw[this,List.range'_succ]
theorem Zlm {ops:Array Oper} {i:Nat} {o:Oper} {k:List Item} {f:St} {e:Eff} (H:Zl C.E) (x:ops[i]? =some o) (D:ZQ ops f o.guard=some true)
  (y:Zd C.E f.ep i o.op o.type f.slots f.objs=some e) (t:Zfk C.E o=true) (hw:Zem f e=true) (g:∀q∈e.cond,q=true)
  (B:AWP C r G (.ops ops (i+1)::k) (f.app i o.dst e)):AWP C r G (.ops ops i::k) f:=by
 have hi:i < ops.size:=(Zmy.1 x).1;refine Zcp (fun ρ S a w A F=> ?_) B;have m:Rep C (fun j=>j < i) ρ S f a.tmps w:=A;obtain⟨n,v,w',l,E,ρ',S',p⟩:=does m (by omega) t H y hw g;have h:=ZaT m D;refine⟨ρ',S',a.put o.dst v,w',p.weakX (fun j J=> ?_),by simp[F],fun b k0 cs I=> ?_⟩
 ·simp only[Xof];omega
 ·have s:o.semAt b.roundOf a.eval=execOp a.eval o:=Oper.semAt_eq _ _ _ (fun c u=>by rw[u]at y;simp[Zd]at y);have z:=stepGR_op (P:=C.E.prog) (b:=b) (a:=a) (k:=k.map conc++k0) (cs:=cs) (w:=w) (i:=i) (rest:=List.range' (i+1) (ops.size - (i+1))) x h;have d:=Frame.finish_atR b a ops i (List.range' (i+1) (ops.size - (i+1))) (k.map conc++k0) v;simp only[x,Znq]at d;refine .one (Zx _ _ _) ?_;simp only[ZmL,Zm7,conc,Za1 hi];refine step_lone_go ?_;rw[z,s,<-d];rcases E with rfl |⟨rfl,rfl⟩<;>simp[stepG.apply,l]
theorem ZkY {ops:Array Oper} {i:Nat} {o:Oper} {k:List Item} {f:St} (p:ops[i]? =some o) (y:ZQ ops f o.guard=some false) (x:∀d,o.dst=some d->d < C.E.nt)
  (u:AWP C r G (.ops ops (i+1)::k) (f.setO o.dst .undef)):AWP C r G (.ops ops i::k) f:=by
 have hi:i < ops.size:=(Zmy.1 p).1;refine Zcp (fun ρ S a w s q=> ?_) u;have g:Rep C (fun j=>j < i) ρ S f a.tmps w:=s;have c:=ZaT g y;obtain⟨S',m⟩:=g.step (i:=i) (t:=o.dst) (e:={val:= .undef}) (v:=undef) (w':=w) ρ (by omega) x (ZmT _) (ZS.refl _) (fun _ _ _=>rfl) (by simp) (fun _ _ h=>h) (fun id h=> .inl h) (by simp) (fun _ _ n=>by simp at n) (fun _ _ _ _ _ _ _ n=>by simp at n) (by simp) (fun _ _ _ _ _=> .undef);refine⟨ρ,S',a.put o.dst undef,w, ?_,by simp[q],fun b k0 cs z=> ?_⟩
 ·have:f.app i o.dst {val:= .undef}=f.setO o.dst .undef:=by simp[St.app,St.objL,St.freezeL]
  rw[<-this];exact m.weakX (fun j A=>by simp only[Xof];omega)
 ·have l:=stepR_op_skip (P:=C.E.prog) (b:=b) (a:=a) (k:=k.map conc++k0) (cs:=cs) (w:=w) (ops:=ops) (i:=i) (rest:=List.range' (i+1) (ops.size - (i+1))) (by simp[p,c]);simp only[p,Znq]at l;refine .one (Zx _ _ _) ?_;simp only[ZmL,Zm7,conc,Za1 hi];exact l
theorem Zky {E:Env}:∀(n:Nat) (k:List Item) (f:St) (e:List Bool) {g:List Item} {d:St} {ps':List Bool},run E n k f e=some (g,d,ps')->∀p∈e,p∈ps':=by
 intro n
 induction n with
 |zero=>intro k f e g d ps' h;simp only[run,ZmZ,Zm0]at h;obtain⟨rfl,rfl,rfl⟩:=h;exact fun _ h=>h
 |succ n a=>
  intro k f e g d ps' h p b
  match k with
  | []=>simp[run]at h
  | .c c::k=>
   cases c with
   |region id ops j=>cases j<;>simp only[run,reduceCtorEq]at h;exact a _ _ _ h p b
   |cond c x y=>
    simp only[run]at h;split at h;rotate_left;simp at h;split at h
    ·exact a _ _ _ h p b
    ·exact a _ _ _ h p b
    ·simp at h
   |exit id=>
    simp only[run]at h;split at h;rotate_left;simp at h;exact a _ _ _ h p b
   |_=>first |(simp only[run]at h;exact a _ _ _ h p b) |simp[run]at h
  | .blk id::k=>simp only[run]at h;exact a _ _ _ h p b
  | .lp x::k=>simp only[run]at h;exact a _ _ _ h p b
  | .ops ops i::k=>
   simp only[run]at h;split at h
   ·exact a _ _ _ h p b
   ·split at h
    ·split at h;rotate_left;simp at h;exact a _ _ _ h p (Zng _ b)
    ·split at h;rotate_left;simp at h;exact a _ _ _ h p b
    ·simp at h
theorem Zal (Q:Zl C.E):∀(n:Nat) (k:List Item) (s:St) (E:List Bool) {B:List Item} {l:St} {ps':List Bool},run C.E n k s E=some (B,l,ps')->
  (∀p∈ps',p=true)->AWP C r G B l->AWP C r G k s:=by
 intro n
 induction n with
 |zero=>intro k s E B l ps' h _ d;simp only[run,ZmZ,Zm0]at h;obtain⟨rfl,rfl,rfl⟩:=h;exact d
 |succ n j=>
  intro k s E B l ps' h g d;have u:= @Zky C.E
  match k with
  | []=>simp[run]at h
  | .c c::k=>
   cases c with
   |skip=>simp only[run]at h;exact Zby (k1:=k) (fun _ h=>h.elim) (fun a w b k0 cs=>stepR_skip) (j _ _ _ h g d)
   |seq x y=>simp only[run]at h;exact Zby (k1:= .c x:: .c y::k) (fun _ h=>h.elim) (fun a w b k0 cs=>stepR_seq) (j _ _ _ h g d)
   |block id x=>simp only[run]at h;exact Zby (k1:= .c x:: .blk id::k) (fun _ h=>h.elim) (fun a w b k0 cs=>stepR_block) (j _ _ _ h g d)
   |loop x=>simp only[run]at h;exact Zby (k1:= .c x:: .lp x::k) (fun _ h=>h.elim) (fun a w b k0 cs=>stepR_loop) (j _ _ _ h g d)
   |region id ops M=>
    cases M with
    |true=>simp[run]at h
    |false=>
     simp only[run]at h;refine Zby (k1:= .ops ops 0::k) (fun _ h=>h.elim) (fun a w b k0 cs=> ?_) (j _ _ _ h g d);have:=stepR_region (P:=C.E.prog) (b:=b) (a:=a) (k:=k.map conc++k0) (cs:=cs) (w:=w) (ops:=ops) (id:=id);simpa[conc,List.range_eq_range']using this
   |cond c x y=>
    simp only[run]at h;have I:∀t:Bool,ev C.E s.slots 0 c= .p (.bool t)->Zz c=true->AWP C r G (.c (if t then x else y)::k) s->AWP C r G (.c (.cond c x y)::k) s:=by intro t N z L;refine Zcp (fun ρ S a w A v=>⟨ρ,S,a,w,A.weakX (fun _ h=>h.elim),v,fun b k0 cs _=> .one (Zx _ _ _) ?_⟩) L;have:=Zj A 0 z;rw[N]at this;exact stepR_cond this.of_p.bool_inv
    split at h;rotate_left;simp at h;rename_i z;split at h
    ·rename_i F;exact I true F z (j _ _ _ h g d)
    ·rename_i F;exact I false F z (j _ _ _ h g d)
    ·simp at h
   |exit id=>
    simp only[run]at h;split at h;rotate_left;simp at h;rename_i O U;exact Zby (k1:=O) (fun _ h=>h.elim) (fun a w b k0 cs=>stepR_exit (ZaV U)) (j _ _ _ h g d)
   |_=>simp[run]at h
  | .blk id::k=>simp only[run]at h;exact Zby (k1:=k) (fun _ h=>h.elim) (fun a w b k0 cs=>stepR_inBlock) (j _ _ _ h g d)
  | .lp x::k=>simp only[run]at h;exact Zby (k1:= .c x:: .lp x::k) (fun _ h=>h.elim) (fun a w b k0 cs=>stepR_inLoop) (j _ _ _ h g d)
  | .ops ops i::k=>
   simp only[run]at h;split at h
   ·
    rename_i K;refine Zcp (fun ρ S a w A v=>⟨ρ,S,a,w,(Rep.nextEp A).weakX (fun _ h=>h.elim),v,fun b k0 cs _=> .one (Zx _ _ _) ?_⟩) (j _ _ _ h g d);have hi:ops.size<=i:=by simpa using K
    have:ops.size - i=0:=by omega
    simp only[ZmL,Zm7,conc,this,List.range'_zero];exact stepR_region_end
   ·rename_i o H;split at h
    ·rename_i D;split at h;rotate_left;simp at h;rename_i T V f;unfold runOp at f;split at f;rotate_left;simp at f;rename_i e R;split at f;rotate_left;simp at f;rename_i m;simp only[ZmC]at m;simp only[ZmZ,Zm0]at f;obtain⟨rfl,rfl⟩:=f;exact Zlm Q H D R m.2 m.1 (fun q J=>g q (u _ _ _ _ h q (Znh _ J))) (j _ _ _ h g d)
    ·rename_i D;split at h;rotate_left;simp at h;rename_i v;exact ZkY H D (Za9 v) (j _ _ _ h g d)
    ·simp at h
end
end Eng
namespace Eng
open Go
theorem Rep.stepN {C:Ctx} {X:Nat->Prop} {ρ:Id->Option Lay} {S:Nat->Prop} {m:St} {a:Act} {w:World} (h:Rep C X ρ S m a.tmps w)
  {i:Nat} {t:Option Nat} {e:Eff} {v:Value} {w':World} (ρ':Id->Option Lay) (N:Nat->Prop)
  (hN:∀b,N b->b < w'.heap.size/\(w.heap.size<=b\/∃id o' L',(id,Obj.gone)∈e.wr/\m.objs id=some o'/\o'≠ .gone/\ρ id=some L'/\L'.blk=some b/\(∀E,(id,E)∈e.wr->E= .gone)))
  (a3:∀k o L b,(k,o)∈e.new->ρ' (m.ep,i,k)=some L->L.blk=some b->¬N b)
  (hi:¬X i) (ht:∀d,t=some d->d < C.E.nt)
  (a7:w.heap.size<=w'.heap.size) (hq:ZS w w')
  (ac:∀b,b < w.heap.size->(∀id o L,(id,o)∈e.wr->ρ id=some L->L.blk≠some b)->w'.heap[b]? =w.heap[b]?)
  (wr:∀id o,(id,o)∈e.wr->m.fz id=false/\∃o',m.objs id=some o'/\o'≠ .gone)
  (J:∀id L,ρ id=some L->ρ' id=some L)
  (ag:∀id,ρ' id≠none->ρ id≠none\/(id.1=m.ep/\id.2.1=i))
  (frz:∀id,id∈e.frz->ρ id≠none/\∀o',(id,o')∈e.wr->o'≠ .gone)
  (Q:∀k o,(k,o)∈e.new->∃L,ρ' (m.ep,i,k)=some L/\(∀b,L.blk=some b->
   (w.heap.size<=b\/∃id o' L',(id,Obj.gone)∈e.wr/\m.objs id=some o'/\o'≠ .gone/\ρ id=some L'/\L'.blk=some b/\(∀E,(id,E)∈e.wr->E= .gone))/\b < w'.heap.size)/\
   ∀S',(∀b,N b->S' b)->(∀b,S b->S' b)->(∀id,id∈e.frz->∀o L b,m.objs id=some o->o≠ .gone->ρ id=some L->L.blk=some b->S' b)->o≠ .gone->ZB w' S' ρ' L o)
  (am:∀k o L k' o' L' b,(k,o)∈e.new->o≠ .gone->ρ' (m.ep,i,k)=some L->L.blk=some b->(k',o')∈e.new->o'≠ .gone->ρ' (m.ep,i,k')=some L'->L'.blk=some b->k=k')
  (ab:∀id o L,(id,o)∈e.wr->o≠ .gone->ρ id=some L->∀S',(∀b,N b->S' b)->(∀b,S b->S' b)->(∀id,id∈e.frz->∀o L b,m.objs id=some o->o≠ .gone->ρ id=some L->L.blk=some b->S' b)->ZB w' S' ρ' L o)
  (a6:∀S',(∀b,N b->S' b)->(∀b,S b->S' b)->(∀id,id∈e.frz->∀o L b,m.objs id=some o->o≠ .gone->ρ id=some L->L.blk=some b->S' b)->(∀d,t=some d->RelD w' S' ρ' v e.val)):
  ∃S',Rep C (fun j=>X j\/j=i) ρ' S' (m.app i t e) (a.put t v).tmps w':=by
 let S':Nat->Prop:=fun b=>(S b\/N b)\/∃id o L,id∈e.frz/\m.objs id=some o/\o≠ .gone/\ρ id=some L/\L.blk=some b
 have T:∀b,S b->S' b:=fun b y=> .inl (.inl y)
 have ao:∀b,N b->S' b:=fun b y=> .inl (.inr y)
 have aw:∀b,S b->∀id o L,(id,o)∈e.wr->ρ id=some L->L.blk≠some b:=fun b y id o L q p c=>by obtain⟨D,o',l,r⟩:=wr id o q;exact((h.own id o' L b l r p c).2.2.2 D) y
 have kp:Zcy S w w':=fun b y _=>ac b (h.sIn b y) (aw b y)
 have a8:∀k,m.objs (m.ep,i,k)=none:=fun k=>by
  cases u:m.objs (m.ep,i,k)with
  |none=>rfl
  |some o=>
   have:=h.young _ (h.known (m.ep,i,k) (by simp[u]));simp[hi]at this
 have a2:∀id o L,m.objs id=some o->o≠ .gone->(∀o',(id,o')∉e.wr)->ρ id=some L->∀b,L.blk=some b->w'.heap[b]? =w.heap[b]? :=by
  intro id o L x r aa p b y;refine ac b (h.own id o L b x r p y).1 fun f o' L' q s M=> ?_
  obtain⟨_,E,av,ax⟩:=wr f o' q;have:=h.inj id o L f E L' b x r p y av ax s M;subst this;exact aa o' q
 have K:∀id L,ρ id≠none->ρ' id=some L->ρ id=some L:=fun id L hn p=>by
  cases u:ρ id with
  |none=>exact absurd u hn
  |some L0=>have:=J id L0 u;rw[p]at this;rw[this]
 have Z:∀k,ρ (m.ep,i,k)=none:=fun k=>by
  cases u:ρ (m.ep,i,k)with
  |none=>rfl
  |some L=>have:=h.young (m.ep,i,k) (by simp[u]);simp[hi]at this
 have O:∀id o L f o' L' b,m.objs id=some o->o≠ .gone->ρ id=some L->L.blk=some b->m.objs f=some o'->o'≠ .gone->ρ f=some L'->L'.blk=some b->id=f:=h.inj;refine⟨S',⟨?_,by have:=h.grow;omega, ?_,fun b y=> .inl (.inl (h.s0 b y)), ?_, ?_, ?_, ?_, ?_, ?_, ?_, ?_,fun g cs q=>(h.glob g cs q).mono kp T, ?_,by rw[Zcv];exact h.ep1,h.quiet.trans hq, ?_⟩⟩
 ·rw[<-h.nt];cases t<;>simp[Act.put]
 ·intro b y hl;rw[<-h.frame b y hl];refine ac b (by have:=h.grow;omega) fun id o L q p c=> ?_
  obtain⟨_,o',l,r⟩:=wr id o q;rcases(h.own id o' L b l r p c).2.1 with V |V
  ·omega
  ·exact hl V
 ·intro b y;rcases y with (y |y) |⟨id,o,L,q,x,r,p,c⟩
  ·have:=h.sIn b y;omega
  ·exact(hN b y).1
  ·have:=(h.own id o L b x r p c).1;omega
 ·intro k;rw[ZaK,ZhV a t v k (fun d hd=>by rw[h.nt];exact ht d hd)]
  by_cases hk:t=some k
  ·simp only[hk,if_true];exact a6 S' ao T (fun id q o L b x r p c=> .inr ⟨id,o,L,q,x,r,p,c⟩) k hk
  ·simp only[hk,if_false];exact(h.slots k).mono kp T J
 ·intro id o x r;rcases Z3 m i t e id o x with ⟨k,rfl,q⟩ |q |⟨aa,x⟩
  ·obtain⟨L,p,_,hr⟩:=Q k o q;exact⟨L,p,hr S' ao T (fun id q o L b x r p c=> .inr ⟨id,o,L,q,x,r,p,c⟩) r⟩
  ·obtain⟨_,o',l,n⟩:=wr id o q;obtain⟨L,p,_⟩:=h.objs id o' l n;exact⟨L,J _ _ p,ab id o L q r p S' ao T (fun id q o L b x r p c=> .inr ⟨id,o,L,q,x,r,p,c⟩)⟩
  ·obtain⟨L,p,hr⟩:=h.objs id o x r;exact⟨L,J _ _ p,hr.mono kp T J (a2 id o L x r aa p)⟩
 ·intro id o L b x r p c;rw[Zeg];rcases Z3 m i t e id o x with ⟨k,rfl,q⟩ |q |⟨aa,x⟩
  ·obtain⟨L',s,y,_⟩:=Q k o q;rw[p]at s;obtain rfl:=ZmY s;obtain⟨H,as⟩:=y b c;have a4:m.fz (m.ep,i,k)=false:=by
    cases u:m.fz (m.ep,i,k)with
    |false=>rfl
    |true=>exact absurd (Z k) (h.fzk _ u)
   have an:(m.ep,i,k)∉e.frz:=fun B=>(frz _ B).1 (Z k)
   have au:¬S' b:=by
    rintro((W |W) |⟨ai,U,L1,Y,z,F,I,R⟩)
    ·rcases H with H |⟨f,o',L',B,l,n,s,M,_⟩
     ·have:=h.sIn b W;omega
     ·exact(h.own f o' L' b l n s M).2.2.2 (wr _ _ B).1 W
    ·exact a3 k o L b q p c W
    ·rcases H with H |⟨f,o',L',B,l,n,s,M,_⟩
     ·have:=(h.own ai U L1 b z F I R).1;omega
     ·have:=O _ _ _ _ _ _ _ z F I R l n s M;subst this;exact(frz _ Y).2 _ B rfl
   refine⟨as, ?_,fun D=> ?_,fun _=>au⟩
   ·rcases H with H |⟨f,o',L',B,l,n,s,M,_⟩
    ·have:=h.grow;exact .inl (by omega)
    ·exact(h.own f o' L' b l n s M).2.1
   ·simp[a4,an]at D
  ·obtain⟨aq,o',l,n⟩:=wr id o q;have A:=K id L (h.known id (by simp[l])) p;obtain⟨V,h2,h3,h4⟩:=h.own id o' L b l n A c;refine⟨by omega,h2,fun D=> ?_,fun ap=> ?_⟩
   ·simp only[aq,Bool.or_false,Zm8]at D;exact .inr ⟨id,o',L,D,l,n,A,c⟩
   have an:id∉e.frz:=fun B=>by simp[B]at ap
   rintro((W |W) |⟨ai,U,L1,Y,z,F,I,R⟩)
   ·exact h4 aq W
   ·rcases(hN b W).2 with H |⟨ay,og,Lg,q1,q2,q3,q4,q5,q6⟩
    ·omega
    ·have:=O _ _ _ _ _ _ _ q2 q3 q4 q5 l n A c;subst this;exact r (q6 _ q)
   ·have:=O _ _ _ _ _ _ _ z F I R l n A c;subst this;exact an Y
  ·have A:=K id L (h.known id (by simp[x])) p;obtain⟨V,h2,h3,h4⟩:=h.own id o L b x r A c;refine⟨by omega,h2,fun D=> ?_,fun D=> ?_⟩
   ·simp only[Bool.or_eq_true,Zm8]at D;rcases D with D |D
    ·exact .inr ⟨id,o,L,D,x,r,A,c⟩
    ·exact .inl (.inl (h3 D))
   ·simp only[Bool.or_eq_false_iff]at D;rintro((W |W) |⟨ai,U,L1,Y,z,F,I,R⟩)
    ·exact h4 D.2 W
    ·rcases(hN b W).2 with H |⟨ay,og,Lg,q1,q2,q3,q4,q5,q6⟩
     ·omega
     ·have:=O _ _ _ _ _ _ _ q2 q3 q4 q5 x r A c;subst this;exact aa _ q1
    ·have:=O _ _ _ _ _ _ _ z F I R x r A c;subst this;have:=D.1;simp[Y]at this
 ·
  have P:∀k o L f o' L' b,(k,o)∈e.new->o≠ .gone->ρ' (m.ep,i,k)=some L->L.blk=some b->(m.app i t e).objs f=some o'->o'≠ .gone->
    ((f,o')∈e.wr\/((∀E,(f,E)∉e.wr)/\m.objs f=some o'))->ρ' f=some L'->L'.blk=some b->False:=by
   intro k o L f o' L' b q r p c _ n ae s G;obtain⟨L0,A,y,_⟩:=Q k o q;rw[p]at A;obtain rfl:=ZmY A;have ak:∃U,m.objs f=some U/\U≠ .gone:=by
    rcases ae with u |u
    ·exact(wr _ _ u).2
    ·exact⟨o',u.2,n⟩
   obtain⟨U,z,F⟩:=ak;have I:=K f L' (h.known f (by simp[z])) s;rcases(y b c).1 with H |⟨a9,o2,L2,a5,af,aj,a1,az,ar⟩
   ·have:=(h.own f U L' b z F I G).1;omega
   ·have:=O _ _ _ _ _ _ _ z F I G af aj a1 az;subst this;rcases ae with u |u
    ·exact n (ar _ u)
    ·exact u.1 _ a5
  intro id o L f o' L' b x r p c l n s G;rcases Z3 m i t e id o x with ⟨k,rfl,q⟩ |u
  ·rcases Z3 m i t e f o' l with ⟨k',rfl,B⟩ |al
   ·rw[am k o L k' o' L' b q r p c B n s G]
   ·exact(P k o L f o' L' b q r p c l n al s G).elim
  ·rcases Z3 m i t e f o' l with ⟨k',rfl,B⟩ |al
   ·exact(P k' o' L' id o L b B n s G x r u p c).elim
   ·have ah:∀id o,o≠ .gone->((id,o)∈e.wr\/((∀E,(id,E)∉e.wr)/\m.objs id=some o))->∃U,m.objs id=some U/\U≠ .gone:=by
     intro id o r u;rcases u with u |u
     ·exact(wr _ _ u).2
     ·exact⟨o,u.2,r⟩
    obtain⟨U,z,F⟩:=ah id o r u;obtain⟨o2,af,aj⟩:=ah f o' n al;exact O _ _ _ _ _ _ _ z F (K id L (h.known id (by simp[z])) p) c af aj (K f L' (h.known f (by simp[af])) s) G
 ·intro id hn;cases x:(m.app i t e).objs id with
  |none=>exact absurd x hn
  |some o=>
   rcases Z3 m i t e id o x with ⟨k,rfl,q⟩ |q |⟨_,x⟩
   ·obtain⟨L,p,_⟩:=Q k o q;simp[p]
   ·obtain⟨_,o',l,_⟩:=wr id o q;have:=h.known id (by simp[l]);cases u:ρ id with
    |none=>exact absurd u this
    |some L=>simp[J _ _ u]
   ·have:=h.known id (by simp[x]);cases u:ρ id with
    |none=>exact absurd u this
    |some L=>simp[J _ _ u]
 ·intro id hn;rw[Zcv];rcases ag id hn with V |⟨V,h2⟩
  ·rcases h.young id V with h2 |⟨h2,h3⟩
   ·exact .inl h2
   ·exact .inr ⟨h2,.inl h3⟩
  ·exact .inr ⟨V,.inr h2⟩
 ·intro id D;rw[Zeg]at D;simp only[Bool.or_eq_true,Zm8]at D;have:ρ id≠none:=by
   rcases D with D |D
   ·exact(frz id D).1
   ·exact h.fzk id D
  cases u:ρ id with
  |none=>exact absurd u this
  |some L=>simp[J _ _ u]
 ·intro b y;rcases y with (y |y) |⟨id,o,L,q,x,r,p,c⟩
  ·exact h.sOut b y
  ·rcases(hN b y).2 with H |⟨ay,og,Lg,q1,q2,q3,q4,q5,q6⟩
   ·have:=h.grow;exact .inr (.inl (by omega))
   ·exact .inr (h.own _ _ _ b q2 q3 q4 q5).2.1
  ·exact .inr (h.own id o L b x r p c).2.1
 ·intro k L hk hn;rcases ag _ hn with V |⟨V,_⟩
  ·exact J _ _ (h.lay k L hk V)
  ·have:=h.ep1;simp only at V;omega
end Eng
namespace Eng
open Go
def ren (pi:List (Id×Id)) (a:Id):Option Id:=
 match pi with
 | []=>none
 |(n,o)::r=>if o=a then some n else ren r a
def D.pur (lk:Id->Option Obj) (a:Id->Bool) (d:D):Option D:=
 if (d.ids lk depth).all a then match d.toP lk depth with |some x=>some (.p x) |none=>none else none
def D.can (lk:Id->Option Obj) (d:Id->Bool) (pi:List (Id×Id)):Nat->D->Option D
 |_,.p x=>some (.p x)
 |_,.dead=>some .dead
 |_,.val v=>some (.val v)
 |_,.undef=>some .undef
 |_,.anyb=>some .anyb
 |_,.nils sz=>some (.nils sz)
 |_,.clip sz es=>some (.clip sz es)
 |_,.sl id off len=>match ren pi id with
  |some c=>some (.sl c off len)
  |none=>D.pur lk d (.sl id off len)
 |_,.map id=>match ren pi id with
  |some c=>some (.map c)
  |none=>D.pur lk d (.map id)
 |_,.it id=>match ren pi id with
  |some c=>some (.it c)
  |none=>none
 |_,.ptr id i j=>match ren pi id with
  |some c=>some (.ptr c i j)
  |none=>D.pur lk d (.ptr id i j)
 |n+1,.agg cs=>match Zh (D.can lk d pi n) cs with
  |some e=>some (.mkAgg e)
  |none=>none
 |n+1,.tup cs=>match Zh (D.can lk d pi n) cs with
  |some e=>some (.tup e)
  |none=>none
 |n+1,.fn f a b=>match Zh (D.can lk d pi n) a,Zh (D.can lk d pi n) b with
  |some a',some b'=>some (match Zh D.pure? a',Zh D.pure? b' with
   |some x,some y=> .p (.fn f x y)
   |_,_=> .fn f a' b')
  |_,_=>none
 |_,_=>none
def Obj.can (lk:Id->Option Obj) (d:Id->Bool) (pi:List (Id×Id)):Obj->Option Obj
 | .box cs=>match Zh (D.can lk d pi depth) cs with
  |some e=>some (.box e)
  |none=>none
 | .arr sz es fix=>some (.arr sz es fix)
 | .map td c=>some (.map td c)
 | .sit s a=>some (.sit s a)
 | .mit rest b=>some (.mit rest b)
 | .gone=>none
def ZW (pi:List (Id×Id)) (ρ:Id->Option Lay):Id->Option Lay:=fun id=>match Ze pi id with
 |some a=>ρ a
 |none=>none
def Zan {c:Type} [DecidableEq c]:List c->Bool
 | []=>true
 |a::r=>r.all (fun b=>decide (b≠a))&&Zan r
def Zf5 (a:St) (pi:List (Id×Id)) (ep:Nat):Bool:=
 Zan (pi.map (·.1))&&Zan (pi.map (·.2))&&pi.all fun x=>decide (x.1.1 < ep)&& !a.fz x.2
theorem ZY {c β:Type} [DecidableEq c]:∀{l:List (c×β)} {a:c} {b:β},Ze l a=some b->(a,b)∈l
 | [],a,b,h=>by simp[Ze]at h
 |(x,y)::r,a,b,h=>by
  simp only[Ze]at h;split at h
  ·rename_i d;simp only[ZmZ]at h;subst d h;exact ZmO
  ·exact Zni _ (ZY h)
theorem Zae {c β:Type} [DecidableEq c]:∀{l:List (c×β)} {a:c} {b:β},Zan (l.map (·.1))=true->(a,b)∈l->Ze l a=some b
 | [],a,b,_,h=>by simp at h
 |(x,y)::r,a,b,hn,h=>by
  simp only[ZmL,Zan,ZmC]at hn;simp only[Ze];rcases ZmN.1 h with h |h
  ·simp only[Zm0]at h;obtain⟨rfl,rfl⟩:=h;simp
  ·have d:a≠x:=by have:=Zm5.1 hn.1 a (Znk.2 ⟨(a,b),h,rfl⟩);simpa using this
   rw[if_neg d];exact Zae hn.2 h
theorem Zjv {pi:List (Id×Id)} {b a:Id} (h:ren pi b=some a):(a,b)∈pi:=by
 induction pi with
 |nil=>simp[ren]at h
 |cons x r d=>
  obtain⟨n,o⟩:=x;simp only[ren]at h;split at h
  ·rename_i c;simp only[ZmZ]at h;subst c h;exact ZmO
  ·exact Zni _ (d h)
theorem Zga {pi:List (Id×Id)} (h:Zan (pi.map (·.2))=true) {a b o:Id} (d:(a,o)∈pi) (e:(b,o)∈pi):a=b:=by
 induction pi with
 |nil=>simp at d
 |cons x r g=>
  obtain⟨n,o'⟩:=x;simp only[ZmL,Zan,ZmC]at h;have f:∀c,(c,o)∈r->o≠o':=fun c i=>by have:=Zm5.1 h.1 o (Znk.2 ⟨(c,o),i,rfl⟩);simpa using this
  rcases ZmN.1 d with d |d<;>rcases ZmN.1 e with e |e
  ·simp only[Zm0]at d e;rw[d.1,e.1]
  ·simp only[Zm0]at d;exact absurd d.2 (f _ e)
  ·simp only[Zm0]at e;exact absurd e.2 (f _ d)
  ·exact g h.2 d e
section
variable {C:Ctx} {X:Nat->Prop} {ρ:Id->Option Lay} {S:Nat->Prop} {st:St} {tm:Array Value} {w:World}
theorem ZgW (h:Rep C X ρ S st tm w) {v:Value} {d d':D} (hr:RelD w S ρ v d) (hp:D.pur st.objs st.fz d=some d') {ρ':Id->Option Lay}:RelD w S ρ' v d':=by unfold D.pur at hp;split at hp;rotate_left;simp at hp;rename_i hall;split at hp;rotate_left;simp at hp;rename_i x hx;cases hp;refine .p _ _ (ZaA (S':=S) h.objs (fun _ h=>h) depth _ _ _ hr hx fun id hid L b hL hb=> ?_);obtain⟨o,q1,q2⟩:=Zbj depth _ _ hx id hid;exact(h.own id o L b q1 q2 hL hb).2.2.1 (Zm5.1 hall id hid)
theorem Zj6 (h:Rep C X ρ S st tm w) {pi:List (Id×Id)} (hn:Zan (pi.map (·.1))=true):∀(n:Nat) (v:Value) (d d':D),RelD w S ρ v d->d.can st.objs st.fz pi n=some d'->RelD w S (ZW pi ρ) v d':=by
 have hρ:∀{old new:Id} {L:Lay},ren pi old=some new->ρ old=some L->ZW pi ρ new=some L:=by intro old new L hr hL;simp only[ZW,Zae hn (Zjv hr)];exact hL
 have base:∀(n:Nat) (v:Value) (d d':D),(∀cs,d≠ .agg cs)->(∀cs,d≠ .tup cs)->(∀f a b,d≠ .fn f a b)->RelD w S ρ v d->d.can st.objs st.fz pi n=some d'->RelD w S (ZW pi ρ) v d':=by
  intro n v d d' h1 h2 h3 hr hc;cases hr with
  |p v x hp=>cases n<;>simp[D.can]at hc<;>subst hc<;>exact .p _ _ hp
  |dead v=>cases n<;>simp[D.can]at hc<;>subst hc<;>exact .dead _
  |val v=>cases n<;>simp[D.can]at hc<;>subst hc<;>exact .val _
  |undef=>cases n<;>simp[D.can]at hc<;>subst hc<;>exact .undef
  |anyb b=>cases n<;>simp[D.can]at hc<;>subst hc<;>exact .anyb _
  |nils sz=>cases n<;>simp[D.can]at hc<;>subst hc<;>exact .nils _
  |clip a m sz es hp=>cases n<;>simp[D.can]at hc<;>subst hc<;>exact .clip _ _ _ _ hp
  |agg vs cs=>exact absurd rfl (h1 cs)
  |tup vs cs=>exact absurd rfl (h2 cs)
  |fn f fs cs a b=>exact absurd rfl (h3 f a b)
  |sl id off len cap a L hL hl hm hcp ha=>
   have hc:(match ren pi id with |some id'=>some (D.sl id' off len) |none=>D.pur st.objs st.fz (.sl id off len))=some d':=by cases n<;>exact hc
   split at hc
   ·rename_i id' hid;cases hc;exact .sl id' off len cap a L (hρ hid hL) hl hm hcp ha
   ·exact ZgW h (.sl id off len cap a L hL hl hm hcp ha) hc
  |ptr id i j L b hL hi hb=>
   have hc:(match ren pi id with |some id'=>some (D.ptr id' i j) |none=>D.pur st.objs st.fz (.ptr id i j))=some d':=by cases n<;>exact hc
   split at hc
   ·rename_i id' hid;cases hc;exact .ptr id' i j L b (hρ hid hL) hi hb
   ·exact ZgW h (.ptr id i j L b hL hi hb) hc
  |map id L b hL hb=>
   have hc:(match ren pi id with |some id'=>some (D.map id') |none=>D.pur st.objs st.fz (.map id))=some d':=by cases n<;>exact hc
   split at hc
   ·rename_i id' hid;cases hc;exact .map id' L b (hρ hid hL) hb
   ·exact ZgW h (.map id L b hL hb) hc
  |it id L b hL hb=>
   have hc:(match ren pi id with |some id'=>some (D.it id') |none=>none)=some d':=by cases n<;>exact hc
   split at hc;rotate_left;simp at hc;rename_i id' hid;cases hc;exact .it id' L b (hρ hid hL) hb
 intro n
 induction n with
 |zero=>
  intro v d d' hr hc;refine base 0 v d d' ?_ ?_ ?_ hr hc
  all_goals (intros;intro he;subst he;simp[D.can]at hc)
 |succ n ih=>
  intro v d d' hr hc;cases hr with
  |agg vs cs hl h1 hh=>
   simp only[D.can]at hc;split at hc;rotate_left;simp at hc;rename_i ds hds;cases hc;obtain⟨q1,q2⟩:=Zk hds;refine Zgc (by omega) fun j u d hu hd=>⟨?_,h1 j u hu⟩
   have hj:j < cs.length:=by have:=(Zmy.1 hu).1;omega
   exact ih _ _ _ (hh j u cs[j] hu (by simp[hj])) (q2 j cs[j] d (by simp[hj]) hd)
  |tup vs cs hl hh=>
   simp only[D.can]at hc;split at hc;rotate_left;simp at hc;rename_i ds hds;cases hc;obtain⟨q1,q2⟩:=Zk hds;refine .tup _ _ (by omega) fun j u d hu hd=> ?_
   have hj:j < cs.length:=by have:=(Zmy.1 hu).1;omega
   exact ih _ _ _ (hh j u cs[j] hu (by simp[hj])) (q2 j cs[j] d (by simp[hj]) hd)
  |fn f fs cs a b hf hcl hh hh'=>
   simp only[D.can]at hc;split at hc;rotate_left;simp at hc;rename_i a' b' ha hb;cases hc;obtain⟨q1,q2⟩:=Zk ha;obtain⟨q3,q4⟩:=Zk hb;have e1:∀(j:Nat) u d,fs[j]? =some u->a'[j]? =some d->RelD w S (ZW pi ρ) u d:=fun j u d hu hd=>by
    have hj:j < a.length:=by have:=(Zmy.1 hu).1;omega
    exact ih _ _ _ (hh j u a[j] hu (by simp[hj])) (q2 j a[j] d (by simp[hj]) hd)
   have e2:∀(j:Nat) u d,cs[j]? =some u->b'[j]? =some d->RelD w S (ZW pi ρ) u d:=fun j u d hu hd=>by
    have hj:j < b.length:=by have:=(Zmy.1 hu).1;omega
    exact ih _ _ _ (hh' j u b[j] hu (by simp[hj])) (q4 j b[j] d (by simp[hj]) hd)
   split
   ·rename_i x y hx hy;have hx':=Zt hx;have hy':=Zt hy;subst hx' hy';simp only[List.length_map]at q1 q3;refine .p _ _ (.fn f fs cs x y (by omega) (by omega) (fun j u c hu hc=> ?_) (fun j u c hu hc=> ?_))
    ·exact(e1 j u (.p c) hu (by simp[hc])).of_p
    ·exact(e2 j u (.p c) hu (by simp[hc])).of_p
   ·exact .fn f fs cs a' b' (by omega) (by omega) e1 e2
  |_=>exact base (n+1) _ _ d' (by simp) (by simp) (by simp) (by constructor<;>assumption) hc
theorem Zir (h:Rep C X ρ S st tm w) {pi:List (Id×Id)} (hn:Zan (pi.map (·.1))=true) {L:Lay} {o o':Obj} (hr:ZB w S ρ L o) (hc:o.can st.objs st.fz pi=some o'):ZB w S (ZW pi ρ) L o':=by
 cases o with
 |box cs=>
  simp only[Obj.can]at hc;split at hc;rotate_left;simp at hc;rename_i ds hds;cases hc;obtain⟨q1,q2⟩:=Zk hds;obtain⟨b,r1,r2,r3,r4⟩:=hr;refine⟨b,r1,by omega,r3,fun j d hd=> ?_⟩;have hj:j < cs.length:=by have:=(ZmI.1 hd).1;omega
  obtain⟨v,s1,s2,s3,s4⟩:=r4 j cs[j] (by simp[hj]);exact⟨v,s1,s2,s3,Zj6 h hn _ _ _ _ s4 (q2 j cs[j] d (by simp[hj]) hd)⟩
 |arr sz es fix=>simp only[Obj.can,ZmZ]at hc;subst hc;exact hr
 |map td kv=>simp only[Obj.can,ZmZ]at hc;subst hc;exact hr
 |sit s pos=>simp only[Obj.can,ZmZ]at hc;subst hc;exact hr
 |mit rest cur=>simp only[Obj.can,ZmZ]at hc;subst hc;exact hr
 |gone=>simp[Obj.can]at hc
theorem Obj.can_gone {lk:Id->Option Obj} {b:Id->Bool} {pi:List (Id×Id)} {o o':Obj} (a:o.can lk b pi=some o'):o≠ .gone/\o'≠ .gone:=by
 cases o<;>simp[Obj.can]at a<;>refine⟨by simp, ?_⟩
 ·split at a<;>simp at a;subst a;simp
 all_goals (subst a;simp)
def Zma (a:St) (pi:List (Id×Id)):Option (List Obj):=Zh (fun x=>match a.objs x.2 with |some o=>o.can a.objs a.fz pi |none=>none) pi
def ZhL (pi:List (Id×Id)) (os:List Obj):Id->Option Obj:=Ze ((pi.map (·.1)).zip os)
theorem ZeI:∀{pi:List (Id×Id)} {os:List Obj} {id:Id} {o:Obj},ZhL pi os id=some o->∃(j:Nat) (a:Id),pi[j]? =some (id,a)/\os[j]? =some o
 | [],os,id,o,h=>by simp[ZhL,Ze]at h
 |x::r,[],id,o,h=>by simp[ZhL,Ze]at h
 |(n,a)::r,u::os,id,o,h=>by
  simp only[ZhL,ZmL,List.zip_cons_cons,Ze]at h;split at h
  ·rename_i d;simp only[ZmZ]at h;subst d h;exact⟨0,a,rfl,rfl⟩
  ·obtain⟨j,b,q1,c⟩:=ZeI (pi:=r) (os:=os) h;exact⟨j+1,b,by simpa using q1,by simpa using c⟩
theorem Rep.select (h:Rep C X ρ S st tm w) {pi:List (Id×Id)} {ep:Nat} {f:St} {r:Array Value} {C':Ctx}
  (D:Zf5 st pi ep=true) (d:∀e o',f.objs e=some o'->∃a o,(e,a)∈pi/\st.objs a=some o/\o≠ .gone/\∀L,ρ a=some L->ZB w S ρ L o->ZB w S (ZW pi ρ) L o')
  (hE:C'.E.globs=C.E.globs) (J:r.size=C'.E.nt)
  (R:ZS C'.W w) (s:C'.H.size<=w.heap.size) (m:∀b,b < C'.H.size->¬C'.Lt b->w.heap[b]? =C'.H[b]?) (N:∀b,C'.S0 b->S b)
  (M:∀e a o L b,(e,a)∈pi->st.objs a=some o->o≠ .gone->ρ a=some L->L.blk=some b->C'.H.size<=b\/C'.Lt b)
  (z:∀id,f.fz id=false) (x:f.ep=ep) (B:1<=ep) (l:∀k,RelD w S (ZW pi ρ) (r.getD k undef) (f.slots k))
  (I:∀b,S b->C'.S0 b\/C'.H.size<=b\/C'.Lt b) (v:∀k L,C'.lays k=some L->ZW pi ρ (0,k,0)≠none->ZW pi ρ (0,k,0)=some L):
  Rep C' (fun _=>False) (ZW pi ρ) S f r w:=by
 simp only[Zf5,ZmC,Zm5,decide_eq_true_eq,Zm4]at D;obtain⟨⟨T,O⟩,q⟩:=D;have c:∀{e a:Id},(e,a)∈pi->ZW pi ρ e=ρ a:=fun U=>by simp only[ZW,Zae T U]
 refine⟨J,s,m,N,h.sIn,l, ?_, ?_, ?_, ?_, ?_, ?_, ?_,I,x▸B,R,v⟩
 ·intro id o' p W;obtain⟨a,o,q1,n,t,E⟩:=d id o' p;obtain⟨L,j,hr⟩:=h.objs a o n t;exact⟨L,by rw[c q1];exact j,E L j hr⟩
 ·intro id o' L b p W j G;obtain⟨a,o,q1,n,t,E⟩:=d id o' p;rw[c q1]at j;obtain⟨F,Z,Y,V⟩:=h.own a o L b n t j G;have H:=(q _ q1).2;refine⟨F,M id a o L b q1 n t j G,fun u=> ?_,fun _=>V H⟩;rw[z id]at u;simp at u
 ·intro id o1 L K o2 L' b p W j G Q aa A P;obtain⟨a,o,q1,n,t,E⟩:=d id o1 p;obtain⟨y,o',F,Z,Y,V⟩:=d K o2 Q;rw[c q1]at j;rw[c F]at A;have:=h.inj a o L y o' L' b n t j G Z Y A P;subst this;exact Zga O q1 F
 ·intro id i;cases p:f.objs id with
  |none=>exact absurd p i
  |some o'=>
   obtain⟨a,o,q1,n,t,E⟩:=d id o' p;rw[c q1];exact h.known a (by simp[n])
 ·intro id i;left;rw[x];unfold ZW at i;cases u:Ze pi id with
  |none=>rw[u]at i;simp at i
  |some a=>exact(q _ (ZY u)).1
 ·intro id H;rw[z id]at H;simp at H
 ·intro g cs U;exact h.glob g cs (hE▸U)
def mkS (ep:Nat) (a:List (Nat×D)) (lo:List (Id×Obj)):St:={slots:=Zam .dead a,objs:=Ze lo,fz:=fun _=>false,ep:=ep}
theorem ZaI {b β:Type} [DecidableEq b] (d:β):∀(l:List (b×β)) (a:b),Zam d l a=d\/(a,Zam d l a)∈l
 | [],a=> .inl rfl
 |(x,y)::r,a=>by
  simp only[Zam];split
  ·rename_i c;subst c;exact .inr ZmO
  ·exact(ZaI d r a).imp (fun h=>h) fun h=>Zni _ h
def Zlc (pi:List (Id×Id)):Bool:=pi.all fun x=>decide (x.1.2.2≠0)||decide (x.1=x.2)
theorem Rep.canon (h:Rep C X ρ S st tm w) {pi:List (Id×Id)} {ep:Nat} {ls:List Nat} {ds:List D} {os:List Obj} (hep:1<=ep) (hpi:Zf5 st pi ep=true) (hkeep:Zlc pi=true) (hos:Zma st pi=some os)
  (hds:Zh (fun t=>(st.slots t).can st.objs st.fz pi depth) ls=some ds):Rep C (fun _=>False) (ZW pi ρ) S (mkS ep (ls.zip ds) ((pi.map (·.1)).zip os)) tm w:=by
 have hn1:Zan (pi.map (·.1))=true:=by simp only[Zf5,ZmC]at hpi;exact hpi.1.1
 obtain⟨hol,hoi⟩:=Zk hos;obtain⟨hdl,hdi⟩:=Zk hds;refine h.select hpi ?_ rfl h.nt h.quiet h.grow h.frame h.s0 (fun new old o L b _ q2 q3 q4 q5=>(h.own old o L b q2 q3 q4 q5).2.1) (fun _=>rfl) rfl hep ?_ h.sOut ?_
 ·intro new o' ho;obtain⟨j,old,q1,q2⟩:=ZeI ho;have:=hoi j _ _ q1 q2;have hm:=Znm q1;dsimp only at this;split at this;rotate_left;simp at this;rename_i o hoo;exact⟨old,o,hm,hoo,(Obj.can_gone this).1,fun L _ hr=>Zir h hn1 hr this⟩
 ·intro k;rcases ZaI D.dead (ls.zip ds) k with hk |hk
  ·show RelD _ _ _ _ (Zam D.dead (ls.zip ds) k);rw[hk];exact .dead _
  ·obtain⟨j,hj⟩:=List.mem_iff_getElem?.1 hk;rw[List.getElem?_zip_eq_some]at hj;have:=hdi j _ _ hj.1 hj.2;exact Zj6 h hn1 _ _ _ _ (h.slots k) this
 ·intro k L hk hn;unfold ZW at hn|-
  cases hq:Ze pi (0,k,0)with
  |none=>rw[hq]at hn;simp at hn
  |some old=>
   rw[hq]at hn;have hm:=ZY hq;have:=Zm5.1 hkeep _ hm;simp only[ne_eq,not_true_eq_false,decide_false,Bool.false_or,decide_eq_true_eq]at this;subst this;exact h.lay k L hk hn
end
def Zln:List Bool->Prop
 | []=>True
 | [a]=>a=true
 |a::r=>a=true/\Zln r
theorem Zdp:∀{l:List Bool},Zln l->∀p∈l,p=true
 | [],_,p,c=>by simp at c
 | [a],h,p,c=>by simp at c;subst c;exact h
 |a::b::r,h,p,c=>by
  rcases ZmN.1 c with rfl |c
  ·exact h.1
  ·exact Zdp h.2 p c
section
variable {C:Ctx} {r:Fm} {G:Zkg}
end
end Eng
namespace Eng
open Go
inductive Arg where
 |p (x:P)
 |box (cs:List P)
 |arr (sz:Nat) (es:List P)
 |map (td:TD) (kv:List (P×P))
 |part (sz:Nat) (es:List P) (off len:Nat)
 deriving Inhabited
inductive RV where
 |p (x:P)
 |own (sz:Nat) (es:List P)
 |box (cs:List P)
 |map (td:TD) (kv:List (P×P))
 |view (k off len:Nat)
 |aown (pre:List P) (sz:Nat) (es post:List P)
 deriving Inhabited
structure Ret where
 res:List RV
 outs:List (Nat×Arg):=[]
 deriving Inhabited
def Arg.d (k:Nat):Arg->D
 | .p x=> .p x
 | .box _=> .ptr (0,k,0) 0 0
 | .arr _ es=> .sl (0,k,0) 0 es.length
 | .map _ _=> .map (0,k,0)
 | .part _ _ a len=> .sl (0,k,0) a len
def Arg.o:Arg->Option Obj
 | .p _=>none
 | .box cs=>some (.box (cs.map .p))
 | .arr sz es=>some (.arr sz es false)
 | .map td a=>some (.map td a)
 | .part sz es _ _=>some (.arr sz es false)
def ZcU:Nat->List Arg->List (Nat×D)
 |_,[]=>[]
 |k,a::r=>(k,a.d k)::ZcU (k+1) r
def Zdf:Nat->List Arg->List (Id×Obj)
 |_,[]=>[]
 |k,a::r=>match a.o with
  |some o=>((0,k,0),o)::Zdf (k+1) r
  |none=>Zdf (k+1) r
def Zey (args:List Arg):St:=mkS 1 (ZcU 0 args) (Zdf 0 args)
def RV.d (j:Nat):RV->D
 | .p x=> .p x
 | .own _ es=> .sl (1,j,0) 0 es.length
 | .box _=> .ptr (1,j,0) 0 0
 | .map _ _=> .map (1,j,0)
 | .view k b len=> .sl (0,k,0) b len
 | .aown pre _ es a=> .agg (pre.map .p++ .sl (1,j,0) 0 es.length::a.map .p)
def RV.o:RV->Option Obj
 | .own sz es=>some (.arr sz es false)
 | .aown _ sz es _=>some (.arr sz es false)
 | .box cs=>some (.box (cs.map .p))
 | .map td a=>some (.map td a)
 |_=>none
def Zkj:Nat->List RV->List (Nat×D)
 |_,[]=>[]
 |j,x::r=>(j,x.d j)::Zkj (j+1) r
def ZhG:Nat->List RV->List (Id×Obj)
 |_,[]=>[]
 |j,x::r=>match x.o with
  |some o=>((1,j,0),o)::ZhG (j+1) r
  |none=>ZhG (j+1) r
def Zc9:List (Nat×Arg)->List (Id×Obj)
 | []=>[]
 |(k,a)::r=>match a.o with
  |some o=>((0,k,0),o)::Zc9 r
  |none=>Zc9 r
def ZcE (ret:Ret):St:=mkS 2 (Zkj 0 ret.res) (ZhG 0 ret.res++Zc9 ret.outs)
def ZgO (vs:Array Value):Value:=if h:vs.size=1 then vs[0]else .tuple vs
def Env.at (E:Env) (n:Nat):Env:={E with nt:=n}
def FunB (E:Env) (f:Nat) (args:List Arg) (ret:Ret):Prop:=
 (∃fn,E.prog.funcs[f]? =some fn/\(fn.name == "runtime.NumGoroutine")=false/\fn.body.isNone=false)/\
 ∀(w:World) (Lt S:Nat->Prop) (lays:Nat->Option Lay) (ρ:Id->Option Lay) (vals:Array Value),vals.size=args.length->
  Rep ⟨E.at vals.size,w,Lt,S,lays⟩ (fun _=>False) ρ S (Zey args) vals w->
  CallsIn (Zck none) 0 E.prog f vals w fun e w'=>∃vs ρ' S',e= .returned (ZgO vs)/\vs.size=ret.res.length/\
   Rep ⟨E.at vs.size,w,Lt,S,lays⟩ (fun _=>False) ρ' S' (ZcE ret) vs w'
def FunX (E:Env) (f:Nat) (args:List Arg) (ret:Ret):Prop:=
 (∃fn,E.prog.funcs[f]? =some fn/\fn.body.isNone=true)/\
 ∀(w:World) (Lt S:Nat->Prop) (b:Nat->Option Lay) (ρ:Id->Option Lay) (a:Array Value),a.size=args.length->
  Rep ⟨E.at a.size,w,Lt,S,b⟩ (fun _=>False) ρ S (Zey args) a w->
  ∃vs ρ' S' w',(callFunc f a).run E.prog w= .ok (.value (ZgO vs)) w'/\vs.size=ret.res.length/\
   Rep ⟨E.at vs.size,w,Lt,S,b⟩ (fun _=>False) ρ' S' (ZcE ret) vs w'
def Fun (E:Env) (f:Nat) (args:List Arg) (ret:Ret):Prop:=FunB E f args ret\/FunX E f args ret
def Zim (C:Ctx) (fn:Func) (ret:Ret):Zkg:=fun e a w'=>
 (e= .normal\/e= .ret)/\a.defers=[]/\∃vs ρ' S',(results fn a.tmps).run C.E.prog w'= .ok (ZgO vs) w'/\vs.size=ret.res.length/\
  Rep ⟨C.E.at vs.size,C.W,C.Lt,C.S0,C.lays⟩ (fun _=>False) ρ' S' (ZcE ret) vs w'
theorem ZiD {E:Env} {f:Nat} {fn:Func} {c:Code} {args:List Arg} {ret:Ret} (hf:E.prog.funcs[f]? =some fn) (hn:(fn.name == "runtime.NumGoroutine")=false) (hb:fn.body=some c) (hl:args.length<=fn.ntmps)
  (h:∀W Lt S0 lays,AWP ⟨E.at fn.ntmps,W,Lt,S0,lays⟩ ⟨none,[]⟩ (Zim ⟨E.at fn.ntmps,W,Lt,S0,lays⟩ fn ret) [.c c] (Zey args)):Fun E f args ret:=by
 refine .inl ⟨⟨fn,hf,hn,by rw[hb];rfl⟩,fun w Lt S lays ρ vals hv hrep=> ?_⟩;refine callsIn_of_wp hf hb trivial ?_ rfl;intro b k cs hro _ _;have hrep':Rep ⟨E.at fn.ntmps,w,Lt,S,lays⟩ (Xof [.c c]) ρ S (Zey args) (vals++Array.replicate (fn.ntmps - vals.size) undef) w:=by
  refine⟨by simp[Env.at];omega,hrep.grow,hrep.frame,hrep.s0,hrep.sIn,fun k=> ?_,hrep.objs,hrep.own,hrep.inj,hrep.known,fun id hn=>(hrep.young id hn).imp (fun h=>h) (fun h=>h.2.elim),hrep.fzk,hrep.glob,hrep.sOut,hrep.ep1,hrep.quiet,hrep.lay⟩;have:=hrep.slots k;have e:(vals++Array.replicate (fn.ntmps - vals.size) undef).getD k undef=vals.getD k undef:=by
   simp only[Array.getD_eq_getD_getElem?,Zm1];split
   ·rfl
   ·rename_i hk;rw[Array.getElem?_eq_none (Nat.le_of_not_lt hk),Array.getElem?_replicate];split<;>rfl
  rw[e];exact this
 obtain⟨e,a',w',⟨he,hd,vs,ρ',S',hres,hvs,hr⟩,harr⟩:=h w Lt S lays ρ S {tmps:=vals++Array.replicate (fn.ntmps - vals.size) undef,defers:=[]} w hrep' rfl b k cs hro;refine⟨e,a',w', ?_,harr⟩;have:a'.defers=[]/\∃v,(results fn a'.tmps).run E.prog w'= .ok v w'/\∃vs ρ' S',Ending.returned v= .returned (ZgO vs)/\vs.size=ret.res.length/\Rep ⟨E.at vs.size,w,Lt,S,lays⟩ (fun _=>False) ρ' S' (ZcE ret) vs w':=
  ⟨hd,_,hres,vs,ρ',S',rfl,hvs,hr⟩
 rcases he with rfl |rfl<;>exact this
end Eng
namespace Eng
open Go
section
variable {C:Ctx} {X:Nat->Prop} {ρ:Id->Option Lay} {S:Nat->Prop} {st:St} {tm:Array Value} {w:World}
theorem Rep.freeze (h:Rep C X ρ S st tm w) (fs:List Id) (m:∀f∈fs,∃o,st.objs f=some o/\o≠ .gone):∃S',(∀b,S b->S' b)/\(∀f∈fs,∀L b,ρ f=some L->L.blk=some b->S' b)/\Rep C X ρ S' (st.freezeL fs) tm w/\∀b,S' b->S b\/∃f L,f∈fs/\ρ f=some L/\L.blk=some b:=by
 let S':Nat->Prop:=fun b=>S b\/∃f L,f∈fs/\ρ f=some L/\L.blk=some b
 have j:∀b,S b->S' b:=fun b c=> .inl c
 have u:Zcy S w w:=fun _ _ _=>rfl
 refine⟨S',j,fun f a L b d c=> .inr ⟨f,L,a,d,c⟩,⟨h.nt,h.grow,h.frame,fun b c=> .inl (h.s0 b c), ?_, ?_, ?_, ?_, ?_, ?_, ?_, ?_,fun g cs z=>(h.glob g cs z).mono u j, ?_,by rw[ZeU];exact h.ep1,h.quiet,h.lay⟩,fun _ h=>h⟩
 ·intro b c;rcases c with c |⟨f,L,a,d,c⟩
  ·exact h.sIn b c
  ·obtain⟨o,e,i⟩:=m f a;exact(h.own f o L b e i d c).1
 ·intro k;rw[Zci];exact(h.slots k).mono u j fun _ _ h=>h
 ·intro id o e i;rw[ZH]at e;obtain⟨L,d,v⟩:=h.objs id o e i;exact⟨L,d,v.mono u j (fun _ _ h=>h) fun _ _=>rfl⟩
 ·intro id o L b e i d c;rw[ZH]at e;obtain⟨y,B,A,x⟩:=h.own id o L b e i d c;rw[freezeL_fz];refine⟨y,B,fun a=> ?_,fun a=> ?_⟩
  ·simp only[Bool.or_eq_true,Zm8]at a;rcases a with a |a
   ·exact .inr ⟨id,L,a,d,c⟩
   ·exact .inl (A a)
  ·simp only[Bool.or_eq_false_iff]at a;rintro(hS |⟨f,L',r,p,q⟩)
   ·exact x a.2 hS
   ·obtain⟨o',l,n⟩:=m f r;have:=h.inj id o L f o' L' b e i d c l n p q;subst this;have:=a.1;simp[r]at this
 ·intro id o L t o' L' b e i d c l n p q;rw[ZH]at e l;exact h.inj id o L t o' L' b e i d c l n p q
 ·intro id s;rw[ZH]at s;exact h.known id s
 ·intro id s;rw[ZeU];exact h.young id s
 ·intro id a;rw[freezeL_fz]at a;simp only[Bool.or_eq_true,Zm8]at a;rcases a with a |a
  ·obtain⟨o,e,i⟩:=m id a;obtain⟨L,d,_⟩:=h.objs id o e i;simp[d]
  ·exact h.fzk id a
 ·intro b c;rcases c with c |⟨f,L,a,d,c⟩
  ·exact h.sOut b c
  ·obtain⟨o,e,i⟩:=m f a;exact .inr (h.own f o L b e i d c).2.1
end
def Zk9 (E:Env) (a:St):ResultVar->Option D
 | .tmp t=>some (a.slots t)
 | .cell ad t=>match E.ty t with
  |some ti=>match a.slots ad with
   | .p (.ptr cs)=>match ZdK ti cs with
    |some x=>some (.p x)
    |none=>none
   | .ptr id 0 j=>match a.objs id with
    |some (.box cs)=>Zft ti (cs.drop j)
    |_=>none
   |_=>none
  |none=>none
inductive RM where
 |p |own |box |map |view |aown
 deriving Inhabited
def ZcZ:List D->Option (List P×Id×Nat×List P)
 | .p x::r=>match ZcZ r with
  |some (a,b)=>some (x::a,b)
  |none=>none
 | .sl id 0 len::r=>match Zh D.pure? r with
  |some q=>some ([],id,len,q)
  |none=>none
 |_=>none
theorem Zji:∀{cs:List D} {pre c:List P} {id:Id} {len:Nat},ZcZ cs=some (pre,id,len,c)->cs=pre.map .p++ .sl id 0 len::c.map .p:=by
 intro cs
 induction cs with
 |nil=>intro pre c id len h;simp[ZcZ]at h
 |cons d r j=>
  intro pre c id len h;unfold ZcZ at h;split at h
  ·rename_i x r' e;simp only[List.cons.injEq]at e;obtain⟨rfl,rfl⟩:=e;split at h;rotate_left;simp at h;rename_i a b k;simp only[ZmZ,Zm0]at h;obtain⟨rfl,rfl⟩:=h;rw[j k];rfl
  ·rename_i g f r' e;simp only[List.cons.injEq]at e;obtain⟨rfl,rfl⟩:=e;split at h;rotate_left;simp at h;rename_i q i;simp only[ZmZ,Zm0]at h;obtain⟨rfl,rfl,rfl,rfl⟩:=h;rw[Zt i];rfl
  ·simp at h
theorem Zk2 {s b:D} {a:List P}:∀{pre:List P} (i:Nat) c,(pre.map D.p++b::a.map D.p)[i]? =some c->
  (∃x,c= .p x/\(pre.map D.p++s::a.map D.p)[i]? =some (.p x))\/(c=b/\(pre.map D.p++s::a.map D.p)[i]? =some s):=by
 intro pre
 induction pre with
 |nil=>
  intro i c h;cases i with
  |zero=>simp at h;exact .inr ⟨h.symm,rfl⟩
  |succ i=>
   have d:(a.map D.p)[i]? =some c:=by simpa using h
   rw[ZmJ,ZmX]at d;obtain⟨x,f,rfl⟩:=d;exact .inl ⟨x,rfl,by simp[f]⟩
 |cons y pre e=>
  intro i c h;cases i with
  |zero=>simp at h;exact .inl ⟨y,h.symm,rfl⟩
  |succ i=>exact e i c (by simpa using h)
theorem RelD.aown {w:World} {S S':Nat->Prop} {ρ ρ':Id->Option Lay} {v:Value} {pre a:List P} {id d:Id} {n:Nat} (h:RelD w S ρ v (.agg (pre.map .p++ .sl id 0 n::a.map .p))) (m:∀b,S b->S' b) (e:ρ' d=ρ id):
  RelD w S' ρ' v (.agg (pre.map .p++ .sl d 0 n::a.map .p)):=by
 cases h with
 |agg vs cs f q h=>
  refine .agg vs _ (by rw[f];simp) q fun i u c k t=> ?_
  rcases Zk2 (s:= .sl id 0 n) i c t with ⟨x,rfl,j⟩ |⟨rfl,j⟩
  ·exact .p _ _ ((h i u _ k j).of_p.mono (fun _ _ _=>rfl) m)
  ·have o:=h i u _ k j;cases o with
   |sl _ _ _ cap ad L l f r g p=>exact .sl _ 0 _ cap ad L (by rw[e];exact l) f r g p
def Zab (b:St):Obj->Option (Arg×List Id)
 | .box a=>match Zh (fun d=>d.toP b.objs depth) a with
  |some cs=>some (.box cs,a.flatMap fun d=>d.ids b.objs depth)
  |none=>none
 | .arr sz es false=>some (.arr sz es,[])
 | .map td c=>some (.map td c,[])
 |_=>none
structure RE where
 rv:RV
 fs:List Id:=[]
 id:Option Id:=none
 cond:List Bool:=[]
def Zi6 (a:St) (m:RM) (d:D):Option RE:=
 match m,d with
 | .p,d=>match d.toP a.objs depth with
  |some x=>some {rv:= .p x,fs:=d.ids a.objs depth}
  |none=>none
 | .own,.sl id 0 len=>match a.objs id with
  |some (.arr sz es false)=>some {rv:= .own sz es,id:=some id,cond:=[decide (len=es.length)]}
  |_=>none
 | .box,.ptr id 0 0=>match a.objs id with
  |some (.box ds)=>match Zh (fun d=>d.toP a.objs depth) ds with
   |some cs=>some {rv:= .box cs,fs:=ds.flatMap fun d=>d.ids a.objs depth,id:=some id}
   |none=>none
  |_=>none
 | .map,.map id=>match a.objs id with
  |some (.map td kv)=>some {rv:= .map td kv,id:=some id}
  |_=>none
 | .view,.sl (0,k,0) off len=>some {rv:= .view k off len}
 | .aown,.agg cs=>match ZcZ cs with
  |some (pre,id,len,post)=>match a.objs id with
   |some (.arr sz es false)=>some {rv:= .aown pre sz es post,id:=some id,cond:=[decide (len=es.length)]}
   |_=>none
  |none=>none
 |_,_=>none
def Zmp (b:St) (k:Nat):Option ((Nat×Arg)×List Id):=
 match b.objs (0,k,0)with
 |some o=>match Zab b o with
  |some (a,fs)=>some ((k,a),fs)
  |none=>none
 |none=>none
def Zil:Nat->List RE->List (Id×Id)
 |_,[]=>[]
 |j,x::r=>match x.id with
  |some id=>((1,j,0),id)::Zil (j+1) r
  |none=>Zil (j+1) r
def ZfM (os:List Nat):RV->Bool
 | .view k _ _=>os.contains k
 |_=>true
def Zmm (E:Env) (a:St) (c:List ResultVar) (ms:List RM) (outs:List Nat):Option (Ret×List Bool):=
 match Zh (Zk9 E a) c with
 |some b=>if b.length=ms.length then match Zh (fun x=>Zi6 a x.1 x.2) (ms.zip b),Zh (Zmp a) outs with
  |some res,some os=>
   let fs:=res.flatMap (·.fs)++os.flatMap (·.2)
   let pi:=Zil 0 res++outs.map fun k=>((0,k,0),(0,k,0))
   if Zf5 (a.freezeL fs) pi 2&&res.all (fun x=>ZfM outs x.rv)then some (⟨res.map (·.rv),os.map (·.1)⟩,res.flatMap (·.cond))else none
  |_,_=>none
  else none
 |none=>none
theorem ZgV {P:Program} {fn:Func} {tm:Array Value} {w:World} {vs:List Value} (hl:vs.length=fn.results.size)
  (h:∀(j:Nat) rv v,fn.results[j]? =some rv->vs[j]? =some v->(match rv with | .tmp t=>pure (tm.getD t undef) | .cell a t=>do loadVar t (<-asAddr (tm.getD a undef)):Sem Value).run P w= .ok v w):
  (results fn tm).run P w= .ok (ZgO vs.toArray) w:=by
 have key:∀(l:List ResultVar) (us:List Value),us.length=l.length->(∀(j:Nat) rv v,l[j]? =some rv->us[j]? =some v->(match rv with | .tmp t=>pure (tm.getD t undef) | .cell a t=>do loadVar t (<-asAddr (tm.getD a undef)):Sem Value).run P w= .ok v w)->
   (l.mapM fun | .tmp t=>pure (tm.getD t undef) | .cell a t=>do loadVar t (<-asAddr (tm.getD a undef)):Sem (List Value)).run P w= .ok us w:=by
  intro l
  induction l with
  |nil=>intro us hu _;have:=Zm9 hu;subst this;simp
  |cons rv l ih=>
   intro us hu hh
   match us,hu with
   |v::us,hu=>
    have h0:=hh 0 rv v rfl rfl;have h1:=ih us (by simpa using hu) fun j rv v hr hv=>hh (j+1) rv v (by simpa using hr) (by simpa using hv)
    rw[List.mapM_cons,Sem.run_bind,h0,Result.andThen_ok,Sem.run_bind,h1,Result.andThen_ok,Sem.run_pure]
 have:=key fn.results.toList vs (by simpa using hl) (fun j rv v hr hv=>h j rv v (by simpa using hr) hv);unfold results;rw[Array.mapM_eq_mapM_toList];rw[Sem.run_bind,Sem.run_map]
 erw [this]
 simp only[Result.andThen_ok,Sem.run_pure];rfl
section
variable {C:Ctx} {X:Nat->Prop} {ρ:Id->Option Lay} {S:Nat->Prop} {st:St} {w:World}
theorem ZkB {a:Act} (hE:Zl C.E) (h:Rep C X ρ S st a.tmps w) {rv:ResultVar} {d:D} (hd:Zk9 C.E st rv=some d):
  ∃v,(match rv with | .tmp t=>pure (a.tmps.getD t undef) | .cell ad t=>do loadVar t (<-asAddr (a.tmps.getD ad undef)):Sem Value).run C.E.prog w= .ok v w/\RelD w S ρ v d:=by
 cases rv with
 |tmp t=>
  simp only[Zk9,ZmZ]at hd;subst hd;exact⟨_,by simp,h.slots t⟩
 |cell ad t=>
  simp only[Zk9]at hd;split at hd;rotate_left;simp at hd;rename_i ti hty;obtain⟨ii,ds,z,hti⟩:=hE.is hty;have hs:=h.slots ad;generalize hv:a.tmps.getD ad undef=pv at hs;split at hd
  ·rename_i cs hst;split at hd;rotate_left;simp at hd;rename_i x hx;cases hd;rw[hst]at hs;have hs:=hs.of_p;cases hs with
   |ptr b o' _ vs hS hcell h1 hr=>
    obtain⟨hle,hrel⟩:=Zcg (w:=w) (S:=S) hx hti.one;have get:∀(j:Nat) u,((List.range ti.size).map vs)[j]? =some u->j < ti.size/\u=vs j:=by
     intro j u hu;have hlt:j < ti.size:=by have:=(ZmI.1 hu).1;simpa using this
     simp[hlt]at hu;exact⟨hlt,hu.symm⟩
    have hrun:=Zb2 (C:=C) (w:=w) hE hty b o' ((List.range ti.size).map vs) (by simp) (fun j u hu=>by obtain⟨hlt,rfl⟩:=get j u hu;exact hcell j cs[j] (by simp))
    refine⟨Zao ti ((List.range ti.size).map vs).toArray,by
     have hv':a.tmps[ad]?.getD undef= .pointer (some ⟨b,o',none⟩):=by simpa using hv
     simp[asAddr,hv',hrun],.p _ _ (hrel _ (by simp) fun j u c hu hc=> ?_)⟩
    obtain⟨hlt,rfl⟩:=get j u hu;exact⟨hr j c hc,h1 j c hc⟩
  ·rename_i id j hst;split at hd;rotate_left;simp at hd;rename_i cs hlk;rw[hst]at hs;cases hs with
   |ptr _ _ _ L b hL hi hb=>
    obtain⟨hle,hrel⟩:=ZdL (w:=w) (S:=S) (ρ:=ρ) hd hti.one;obtain⟨L',hL',b',hb',hsz,hln,hcs⟩:=h.objs id _ hlk (by simp);rw[hL]at hL';obtain rfl:=ZmY hL';rw[hb]at hb';obtain rfl:=ZmY hb';have get:∀k,k < ti.size->∃u,w.cell? ⟨b,L.base+0*L.sz+j+k,none⟩=some u/\ZbP u/\∀c,(cs.drop j)[k]? =some c->RelD w S ρ u c:=by intro k hk;simp at hle;obtain⟨u,hu,_,h1,hr⟩:=hcs (j+k) cs[j+k] (by simp);refine⟨u,by rw[<-hu];congr 2;omega,h1,fun c hc=> ?_⟩;rw[List.getElem?_drop]at hc;obtain⟨_,rfl⟩:=ZmI.1 hc;exact hr
    let us:List Value:=(List.range ti.size).map fun k=>(w.cell? ⟨b,L.base+0*L.sz+j+k,none⟩).getD default
    have hus:∀(k:Nat) u,us[k]? =some u->k < ti.size/\w.cell? ⟨b,L.base+0*L.sz+j+k,none⟩=some u:=by
     intro k u hu;have hlt:k < ti.size:=by have:=(ZmI.1 hu).1;simpa[us]using this
     obtain⟨u',q1,_⟩:=get k hlt;simp[us,hlt]at hu;simp only[Nat.zero_mul,Nat.add_zero]at q1|-
     rw[q1]at hu;exact⟨hlt,by rw[q1];simpa using hu⟩
    have hrun:=Zb2 (C:=C) (w:=w) hE hty b (L.base+0*L.sz+j) us (by simp[us]) (fun k u hu=>(hus k u hu).2);refine⟨Zao ti us.toArray,by
     have hv':a.tmps[ad]?.getD undef= .pointer (some ⟨b,L.base+0*L.sz+j,none⟩):=by simpa using hv
     simp only[Nat.zero_mul,Nat.add_zero]at hv' hrun;simp[asAddr,hv',hrun],hrel _ (by simp[us]) fun k u c hu hc=> ?_⟩
    obtain⟨q1,q2⟩:=hus k u hu;obtain⟨u',r1,r2,r3⟩:=get k q1;rw[q2]at r1;obtain rfl:=ZmY r1;exact⟨r3 c hc,r2⟩
  ·simp at hd
end
theorem Zfh:∀(n:Nat) (l:List RE) (j:Nat) (x:RE) (id:Id),l[j]? =some x->x.id=some id->((1,n+j,0),id)∈Zil n l
 |n,[],j,x,id,h,_=>by simp at h
 |n,y::l,j,x,id,h,hid=>by
  cases j with
  |zero=>
   simp only[Zne,ZmZ]at h;subst h;simp[Zil,hid]
  |succ j=>
   simp only[Znd]at h;have:=Zfh (n+1) l j x id h hid;rw[show n+(j+1)=n+1+j by omega];unfold Zil;split
   ·exact Zni _ this
   ·exact this
theorem ZhH:∀(n:Nat) (l:List RV) (k:Nat) (d:D),(k,d)∈Zkj n l->∃j x,l[j]? =some x/\k=n+j/\d=x.d (n+j)
 |n,[],k,d,h=>by simp[Zkj]at h
 |n,x::l,k,d,h=>by
  rcases ZmN.1 h with h |h
  ·simp only[Zm0]at h;obtain⟨rfl,rfl⟩:=h;exact⟨0,x,rfl,rfl,rfl⟩
  ·obtain⟨j,a,q1,c,b⟩:=ZhH (n+1) l k d h;exact⟨j+1,a,by simpa using q1,by omega,by rw[b];congr 1;omega⟩
theorem ZhF:∀(n:Nat) (l:List RV) (id:Id) (o:Obj),(id,o)∈ZhG n l->∃j x,l[j]? =some x/\id=(1,n+j,0)/\x.o=some o
 |n,[],id,o,h=>by simp[ZhG]at h
 |n,x::l,id,o,h=>by
  have a:(id,o)∈ZhG (n+1) l->∃j b,(x::l)[j]? =some b/\id=(1,n+j,0)/\b.o=some o:=fun h=>by obtain⟨j,b,q1,e,c⟩:=ZhF (n+1) l id o h;exact⟨j+1,b,by simpa using q1,by rw[e];congr 2;omega,c⟩
  unfold ZhG at h;split at h
  ·rename_i u d;rcases ZmN.1 h with h |h
   ·simp only[Zm0]at h;obtain⟨rfl,rfl⟩:=h;exact⟨0,x,rfl,rfl,d⟩
   ·exact a h
  ·exact a h
theorem Zf6:∀(l:List (Nat×Arg)) (id:Id) (o:Obj),(id,o)∈Zc9 l->∃k a,(k,a)∈l/\id=(0,k,0)/\a.o=some o
 | [],id,o,h=>by simp[Zc9]at h
 |(k,a)::l,id,o,h=>by
  have b:(id,o)∈Zc9 l->∃d c,(d,c)∈(k,a)::l/\id=(0,d,0)/\c.o=some o:=fun h=>by obtain⟨d,c,q1,f⟩:=Zf6 l id o h;exact⟨d,c,Zni _ q1,f⟩
  unfold Zc9 at h;split at h
  ·rename_i u e;rcases ZmN.1 h with h |h
   ·simp only[Zm0]at h;obtain⟨rfl,rfl⟩:=h;exact⟨k,a,ZmO,rfl,e⟩
   ·exact b h
  ·exact b h
section
variable {C:Ctx} {X:Nat->Prop} {ρ ρ':Id->Option Lay} {S S':Nat->Prop} {st:St} {tm:Array Value} {w:World}
theorem ZbE (h:Rep C X ρ S st tm w) (l:∀b,S b->S' b) {L:Lay} {o:Obj} {a:Arg} {fs:List Id} (e:Zab st o=some (a,fs)) (n:∀f∈fs,∀L b,ρ f=some L->L.blk=some b->S' b) (i:ZB w S ρ L o):
  ∃o',a.o=some o'/\o≠ .gone/\ZB w S' ρ' L o':=by
 have q:Zcy S w w:=fun _ _ _=>rfl
 cases o with
 |box g=>
  simp only[Zab]at e;split at e;rotate_left;simp at e;rename_i cs k;simp only[ZmZ,Zm0]at e;obtain⟨rfl,rfl⟩:=e;obtain⟨q1,y⟩:=Zk k;obtain⟨b,x,F,D,t⟩:=i;refine⟨_,rfl,by simp,b,x,by simp;omega,D,fun j d p=> ?_⟩;rw[ZmJ,ZmX]at p;obtain⟨c,s,rfl⟩:=p;have r:j < g.length:=by have:=(ZmI.1 s).1;omega
  obtain⟨v,A,z,B,u⟩:=t j g[j] (by simp[r]);exact⟨v,A,z,B,.p _ _ (ZaA h.objs l depth _ _ _ u (y j g[j] c (by simp[r]) s) fun id m L b=>n id (ZmP.2 ⟨g[j],List.getElem_mem _,m⟩) L b)⟩
 |arr sz es fix=>
  cases fix with
  |true=>simp[Zab]at e
  |false=>
   simp only[Zab,ZmZ,Zm0]at e;obtain⟨rfl,rfl⟩:=e;exact⟨_,rfl,by simp,i.mono (ρ':=ρ) q l (fun _ _ h=>h) fun _ _=>rfl⟩
 |map td E=>
  simp only[Zab,ZmZ,Zm0]at e;obtain⟨rfl,rfl⟩:=e;exact⟨_,rfl,by simp,i.mono (ρ':=ρ) q l (fun _ _ h=>h) fun _ _=>rfl⟩
 |_=>simp[Zab]at e
theorem ZeJ (h:Rep C X ρ S st tm w) {o:Obj} {a:Arg} {fs:List Id} (b:Zab st o=some (a,fs)):∀f∈fs,∃o,st.objs f=some o/\o≠ .gone:=by
 intro f c;cases o with
 |box l=>
  simp only[Zab]at b;split at b;rotate_left;simp at b;rename_i cs g;simp only[ZmZ,Zm0]at b;obtain⟨rfl,rfl⟩:=b;obtain⟨q1,m⟩:=Zk g;obtain⟨d,k,e⟩:=ZmP.1 c;obtain⟨j,i,rfl⟩:=Znj.1 k;exact Zbj depth _ _ (m j l[j] cs[j] (by simp[i]) (by simp[q1,i])) f e
 |arr sz es fix=>
  cases fix<;>simp[Zab]at b;obtain⟨_,rfl⟩:=b;simp at c
 |map td n=>
  simp only[Zab,ZmZ,Zm0]at b;obtain⟨_,rfl⟩:=b;simp at c
 |_=>simp[Zab]at b
theorem ZkA {m:RM} {d:D} {x:RE} (a:Zi6 st m d=some x):∀f∈x.fs,∃o,st.objs f=some o/\o≠ .gone:=by
 intro f b;unfold Zi6 at a;split at a
 ·split at a;rotate_left;simp at a;rename_i y i;cases a;exact Zbj depth _ _ i f b
 ·split at a<;>simp at a;subst a;simp at b
 ·split at a;rotate_left;simp at a;rename_i l k;split at a;rotate_left;simp at a;rename_i cs e;cases a;obtain⟨q1,n⟩:=Zk e;obtain⟨d,h,c⟩:=ZmP.1 b;obtain⟨j,g,rfl⟩:=Znj.1 h;exact Zbj depth _ _ (n j l[j] cs[j] (by simp[g]) (by simp[q1,g])) f c
 ·split at a<;>simp at a;subst a;simp at b
 ·cases a;simp at b
 ·split at a;rotate_left;simp at a;split at a<;>simp at a;subst a;simp at b
 ·simp at a
end
section
variable {C:Ctx} {r:Fm}
theorem Zh7 {fn:Func} {k:List Item} {st:St} {ret0 ret:Ret} {ps:List Bool} (e:Exit) (he:e= .normal\/e= .ret) (ms:List RM) (outs:List Nat) (hE:Zl C.E) (hr:Zmm C.E st fn.results.toList ms outs=some (ret0,ps)) (hre:ret0=ret) (hp:Zln ps) (hds:r.ds=[])
  (hX:∀j,¬Xof k j)
  (harr:∀(a:Act) (w:World) (b:Frame) (k0:List Go.Item) (cs:List Frame),b.roundOf=r.r->ArrivesIn (Machine.fenced C.E.prog (Zck r.r)) C.E.prog (lone (b.atR a (k.map conc++k0)) cs w) b k0 cs e a w):AWP C r (Zim C fn ret) k st:=by
 subst hre;intro ρ S a w hrep hd b k0 cs hb;refine⟨e,a,w,⟨he,by rw[hd,hds], ?_⟩,harr a w b k0 cs hb⟩;unfold Zmm at hr;split at hr;rotate_left;simp at hr;rename_i ds hds';split at hr;rotate_left;simp at hr;rename_i hlen;split at hr;rotate_left;simp at hr;rename_i res os hres hos;dsimp only at hr;split at hr;rotate_left;simp at hr;rename_i hok;simp only[ZmC,Zm5]at hok;obtain⟨hpi,hview⟩:=hok;simp only[ZmZ,Zm0]at hr;obtain⟨rfl,rfl⟩:=hr;obtain⟨d1,d2⟩:=Zk hds';obtain⟨r1,r2⟩:=Zk hres;obtain⟨o1,o2⟩:=Zk hos;have hv:∀j:Nat,∃v,∀rv d,fn.results[j]? =some rv->ds[j]? =some d->(match rv with | .tmp t=>pure (a.tmps.getD t undef) | .cell ad t=>do loadVar t (<-asAddr (a.tmps.getD ad undef)):Sem Value).run C.E.prog w= .ok v w/\RelD w S ρ v d:=by
  intro j;cases hq:fn.results[j]? with
  |none=>exact⟨undef,fun rv d h=>by simp at h⟩
  |some rv=>
   have hj:j < ds.length:=by rw[d1];have:=(Zmy.1 hq).1;simpa using this
   obtain⟨v,q1,q2⟩:=ZkB (a:=a) hE hrep (d2 j rv ds[j] (by simpa using hq) (by simp[hj]));refine⟨v,fun rv' d h1 h2=> ?_⟩;obtain rfl:=ZmY h1;rw[ZmH hj]at h2;obtain rfl:=ZmY h2;exact⟨q1,q2⟩
 let f:Nat->Value:=fun j=>(hv j).choose
 have hf:∀(j:Nat) rv d,fn.results[j]? =some rv->ds[j]? =some d->_:=fun j=>(hv j).choose_spec
 let vs:List Value:=(List.range fn.results.size).map f;have hvl:vs.length=fn.results.size:=by simp[vs]
 have hvj:∀(j:Nat) v,vs[j]? =some v->j < fn.results.size/\v=f j:=by
  intro j v hv;have hj:j < fn.results.size:=by have:=(ZmI.1 hv).1;omega
  simp[vs,hj]at hv;exact⟨hj,hv.symm⟩
 have hrun:=ZgV (P:=C.E.prog) (fn:=fn) (tm:=a.tmps) (w:=w) hvl (fun j rv v hrv hv=>by
  obtain⟨hj,rfl⟩:=hvj j v hv;have hj':j < ds.length:=by rw[d1];simpa using hj
  exact(hf j rv ds[j] hrv (by simp[hj'])).1)
 have hlr:ds.length=fn.results.size:=by rw[d1];simp
 have hrl:res.length=fn.results.size:=by rw[r1,List.length_zip];omega
 let fs:=res.flatMap (·.fs)++os.flatMap (·.2);have hfs:∀g∈fs,∃o,st.objs g=some o/\o≠ .gone:=by
  intro g hg;rcases ZmM.1 hg with hg |hg
  ·obtain⟨x,hx,hgx⟩:=ZmP.1 hg;obtain⟨j,hj,rfl⟩:=Znj.1 hx;have hz:j < (ms.zip ds).length:=by omega
   exact ZkA (r2 j (ms.zip ds)[j] res[j] (by simp only[ZmH hz]) (ZmH hj)) g hgx
  ·obtain⟨x,hx,hgx⟩:=ZmP.1 hg;obtain⟨j,hj,rfl⟩:=Znj.1 hx;have hz:j < outs.length:=by omega
   have:=o2 j outs[j] os[j] (ZmH hz) (ZmH hj);unfold Zmp at this;split at this;rotate_left;simp at this;split at this;rotate_left;simp at this;rename_i a' fs' ha';have e1:=ZmY this;rw[<-e1]at hgx;exact ZeJ hrep ha' g hgx
 obtain⟨S',hSS,hFS,hrep',_⟩:=hrep.freeze fs hfs;let pi:=Zil 0 res++outs.map fun k=>(((0,k,0):Id),((0,k,0):Id))
 have hn1:Zan (pi.map (·.1))=true:=by have:=hpi;simp only[Zf5,ZmC]at this;exact this.1.1
 have hrho:∀{new old:Id},(new,old)∈pi->ZW pi ρ new=ρ old:=fun hm=>by simp only[ZW,Zae hn1 hm]
 refine⟨vs.toArray,ZW pi ρ,S',hrun,by simp[hvl,hrl],hrep'.select (C':=⟨C.E.at vs.toArray.size,C.W,C.Lt,C.S0,C.lays⟩) hpi ?_ rfl rfl hrep'.quiet hrep'.grow hrep'.frame hrep'.s0 (fun new old o L b _ q2 q3 q4 q5=>(hrep'.own old o L b q2 q3 q4 q5).2.1) (fun _=>rfl) rfl (by decide) ?_ hrep'.sOut ?_⟩
 ·intro new o' ho;have hm:=ZY ho;rw[ZH];rcases ZmM.1 hm with hm |hm
  ·obtain⟨j,x,q1,q2,q3⟩:=ZhF 0 _ _ _ hm;rw[Znp]at q2;rw[ZmJ,ZmX]at q1;obtain⟨re,q1,rfl⟩:=q1;have hj:j < res.length:=(ZmI.1 q1).1;have hz:j < (ms.zip ds).length:=by omega
   have hre:=r2 j (ms.zip ds)[j] re (by simp only[ZmH hz]) q1;generalize (ms.zip ds)[j]=md at hre;obtain⟨m,d⟩:=md;have hin:∀id,re.id=some id->(new,id)∈pi:=fun id hid=>Zng _ (by rw[q2];have:=Zfh 0 res j re id q1 hid;rwa [Znp]at this)
   have hfsm:∀g∈re.fs,∀L b,ρ g=some L->L.blk=some b->S' b:=fun g hg=>hFS g (Zng _ (ZmP.2 ⟨re,Znm q1,hg⟩))
   dsimp only at hre;unfold Zi6 at hre;split at hre
   ·split at hre;rotate_left;simp at hre;cases hre;simp[RV.o]at q3
   ·rename_i id len;split at hre;rotate_left;simp at hre;rename_i sz es hlk;cases hre;simp only[RV.o,ZmZ]at q3;subst q3;exact⟨id,_,hin id rfl,hlk,by simp,fun L _ hr=>hr⟩
   ·rename_i id;split at hre;rotate_left;simp at hre;rename_i dsb hlk;split at hre;rotate_left;simp at hre;rename_i csb hcs;cases hre;simp only[RV.o,ZmZ]at q3;subst q3;refine⟨id,_,hin id rfl,hlk,by simp,fun L hL _=> ?_⟩;obtain⟨L',hL',hro⟩:=hrep.objs id _ hlk (by simp);rw[hL]at hL';obtain rfl:=ZmY hL';obtain⟨o',p1,_,p3⟩:=ZbE (ρ':=ZW pi ρ) hrep hSS (a:= .box csb) (fs:=dsb.flatMap fun d=>d.ids st.objs depth) (by simp[Zab,hcs]) hfsm hro;simp only[Arg.o,ZmZ]at p1;subst p1;exact p3
   ·rename_i id;split at hre;rotate_left;simp at hre;rename_i td kv hlk;cases hre;simp only[RV.o,ZmZ]at q3;subst q3;exact⟨id,_,hin id rfl,hlk,by simp,fun L _ hr=>hr⟩
   ·cases hre;simp[RV.o]at q3
   ·split at hre;rotate_left;simp at hre;rename_i pre id len post _;split at hre;rotate_left;simp at hre;rename_i sz es hlk;cases hre;simp only[RV.o,ZmZ]at q3;subst q3;exact⟨id,_,hin id rfl,hlk,by simp,fun L _ hr=>hr⟩
   ·simp at hre
  ·obtain⟨kk,aa,q1,q2,q3⟩:=Zf6 _ _ _ hm;obtain⟨x,hx,hxe⟩:=Znk.1 q1;obtain⟨j,hj,rfl⟩:=Znj.1 hx;have hz:j < outs.length:=by omega
   have hout:=o2 j outs[j] os[j] (ZmH hz) (ZmH hj);unfold Zmp at hout;split at hout;rotate_left;simp at hout;rename_i o hlk;split at hout;rotate_left;simp at hout;rename_i a' fs' ha';have e1:=ZmY hout;rw[<-e1]at hxe;simp only[Zm0]at hxe;obtain⟨rfl,rfl⟩:=hxe;obtain⟨L,hL,hro⟩:=hrep.objs _ o hlk (ZbE (ρ':=ZW pi ρ) (S':=fun _=>True) hrep (fun _ _=>trivial) ha' (fun _ _ _ _ _ _=>trivial) (hrep.objs _ o hlk (by intro hg;subst hg;simp[Zab]at ha')).choose_spec.2).choose_spec.2.1;have hfsm:∀g∈fs',∀L b,ρ g=some L->L.blk=some b->S' b:=fun g hg=>hFS g (Znh _ (ZmP.2 ⟨os[j],List.getElem_mem hj,by rw[<-e1];exact hg⟩))
   obtain⟨o2',p1,p2,p3⟩:=ZbE (ρ':=ZW pi ρ) hrep hSS ha' hfsm hro;rw[p1]at q3;obtain rfl:=ZmY q3;refine⟨(0,outs[j],0),o,Znh _ (Znk.2 ⟨outs[j],List.getElem_mem hz,by rw[q2]⟩),hlk,p2,fun L' hL' _=> ?_⟩;rw[hL]at hL';obtain rfl:=ZmY hL';exact p3
 ·intro k';show RelD w S' (ZW pi ρ) (vs.toArray.getD k' undef) (Zam D.dead (Zkj 0 (res.map (·.rv))) k');rcases ZaI D.dead (Zkj 0 (res.map (·.rv))) k' with hk |hk
  ·rw[hk];exact .dead _
  ·obtain⟨j,x,q1,q2,q3⟩:=ZhH 0 _ _ _ hk;rw[Znp]at q2 q3;subst q2;rw[q3];rw[ZmJ,ZmX]at q1;obtain⟨re,q1,rfl⟩:=q1;have hj:k' < res.length:=(ZmI.1 q1).1;have hz:k' < (ms.zip ds).length:=by omega
   have hdj:k' < ds.length:=by omega
   have hre:=r2 k' (ms.zip ds)[k'] re (by simp only[ZmH hz]) q1;simp only[List.getElem_zip]at hre;have hjr:k' < fn.results.size:=by omega
   have hrel:RelD w S ρ (f k') ds[k']:=(hf k' fn.results[k'] ds[k'] (by simp[hjr]) (by simp[hdj])).2;have hval:vs.toArray.getD k' undef=f k':=by simp[vs,hjr]
   rw[hval];have hin:∀id,re.id=some id->((1,k',0),id)∈pi:=fun id hid=>Zng _ (by have:=Zfh 0 res k' re id q1 hid;rwa [Znp]at this)
   have hfsm:∀g∈re.fs,∀L b,ρ g=some L->L.blk=some b->S' b:=fun g hg=>hFS g (Zng _ (ZmP.2 ⟨re,Znm q1,hg⟩))
   have hcm:∀c∈re.cond,c=true:=fun c hc=>Zdp hp c (ZmP.2 ⟨re,Znm q1,hc⟩)
   have hvw:=hview re (Znm q1);generalize ds[k']=d at hre hrel;generalize f k'=v at hrel|-
   generalize ms[k']=m at hre;have kp:Zcy S w w:=fun _ _ _=>rfl
   unfold Zi6 at hre;split at hre
   ·split at hre;rotate_left;simp at hre;rename_i x hx;cases hre;exact .p _ _ (ZaA hrep.objs hSS depth _ _ _ hrel hx hfsm)
   ·rename_i id len;split at hre;rotate_left;simp at hre;rename_i sz es hlk;cases hre;have hle:len=es.length:=of_decide_eq_true (hcm _ ZmO);subst hle;cases hrel with
    |sl _ _ _ cap ad L hL hl hm hcp ha=>exact .sl _ 0 _ cap ad L (by rw[hrho (hin id rfl)];exact hL) hl hm hcp ha
   ·rename_i id;split at hre;rotate_left;simp at hre;split at hre;rotate_left;simp at hre;cases hre;cases hrel with
    |ptr _ _ _ L b hL hi hb=>exact .ptr _ 0 0 L b (by rw[hrho (hin id rfl)];exact hL) hi hb
   ·rename_i id;split at hre;rotate_left;simp at hre;cases hre;cases hrel with
    |map _ L b hL hb=>exact .map _ L b (by rw[hrho (hin id rfl)];exact hL) hb
   ·rename_i kk off len;cases hre;simp only[ZfM,Zm8]at hvw;cases hrel with
    |sl _ _ _ cap ad L hL hl hm hcp ha=>exact .sl _ off _ cap ad L (by rw[hrho (Znh _ (Znk.2 ⟨kk,hvw,rfl⟩))];exact hL) hl hm hcp ha
   ·split at hre;rotate_left;simp at hre;rename_i pre id len post hsp;split at hre;rotate_left;simp at hre;rename_i sz es hlk;cases hre;have hle:len=es.length:=of_decide_eq_true (hcm _ ZmO);subst hle;rw[Zji hsp]at hrel;exact hrel.aown hSS (hrho (hin id rfl))
   ·simp at hre
 ·intro k L hk hn;unfold ZW at hn|-
  cases hq:Ze pi (0,k,0)with
  |none=>rw[hq]at hn;simp at hn
  |some old=>
   rw[hq]at hn;have hm:=ZY hq;have:old=(0,k,0):=by
    rcases ZmM.1 hm with hm |hm
    ·exfalso;have:∀(n:Nat) (l:List RE) (a b:Id),(a,b)∈Zil n l->a.1=1:=by
      intro n l
      induction l generalizing n with
      |nil=>intro a b h;simp[Zil]at h
      |cons x l ih=>
       intro a b h;unfold Zil at h;split at h
       ·rcases ZmN.1 h with h |h
        ·simp only[Zm0]at h;rw[h.1]
        ·exact ih _ a b h
       ·exact ih _ a b h
     have:=this _ _ _ _ hm;simp at this
    ·obtain⟨j,_,he⟩:=Znk.1 hm;simp only[Zm0]at he;rw[<-he.2];have:=he.1.2.1;rw[this]
   subst this;exact hrep'.lay k L hk hn
end
end Eng
namespace Eng
open Go
section
variable {C:Ctx} {r:Fm}
theorem Zmd {fn:Func} {k:List Item} {c:St} {ret:Ret} (ret0:Ret) (d:List Bool) (ms:List RM) (outs:List Nat) (i:Zl C.E) (f:Zmm C.E c fn.results.toList ms outs=some (ret0,d)) (a:ret0=ret) (g:Zln d) (b:r.ds=[]):
  AWP C r (Zim C fn ret) (.c .ret::k) c:=
 Zh7 .ret (.inr rfl) ms outs i f a g b (fun _ h=>h.elim) fun _ _ _ k0 _ _=>
  ⟨fun e=>⟨_,.one (Zx _ _ _) (stepR_ret e)⟩,fun _=>⟨k.map conc++k0,.refl _⟩⟩
theorem Zme {fn:Func} {c:St} {ret:Ret} (ret0:Ret) (d:List Bool) (ms:List RM) (outs:List Nat) (g:Zl C.E) (e:Zmm C.E c fn.results.toList ms outs=some (ret0,d)) (a:ret0=ret) (f:Zln d) (b:r.ds=[]):
  AWP C r (Zim C fn ret) [] c:=
 Zh7 .normal (.inl rfl) ms outs g e a f b (fun _ h=>h.elim) fun _ _ _ _ _ _=> .refl _
end
inductive AM where
 |p |lend |part
 deriving Inhabited
structure AE where
 arg:Arg
 fs:List Id:=[]
 id:Option Id:=none
 cond:List Bool:=[]
def ZgE (a:St) (m:AM) (d:D):Option AE:=
 match m,d with
 | .p,d=>match d.toP a.objs depth with
  |some x=>some {arg:= .p x,fs:=d.ids a.objs depth}
  |none=>none
 | .lend,.ptr id 0 0=>match a.objs id with
  |some (.box ds)=>match Zh (fun d=>d.toP a.objs depth) ds with
   |some cs=>some {arg:= .box cs,fs:=ds.flatMap fun d=>d.ids a.objs depth,id:=some id}
   |none=>none
  |_=>none
 | .lend,.sl id 0 len=>match a.objs id with
  |some (.arr sz es false)=>some {arg:= .arr sz es,id:=some id,cond:=[decide (len=es.length)]}
  |_=>none
 | .lend,.map id=>match a.objs id with
  |some (.map td kv)=>some {arg:= .map td kv,id:=some id}
  |_=>none
 | .part,.sl id off len=>match a.objs id with
  |some (.arr sz es false)=>some {arg:= .part sz es off len,id:=some id}
  |_=>none
 |_,_=>none
def Zb6:D->Option (Nat×List D×List D)
 | .p (.fn f a b)=>some (f,a.map .p,b.map .p)
 | .fn f a b=>some (f,a,b)
 |_=>none
def Zaa:Nat->List AE->List (Id×Id)
 |_,[]=>[]
 |k,x::r=>match x.id with
  |some id=>((0,k,0),id)::Zaa (k+1) r
  |none=>Zaa (k+1) r
def Zex (outs:List (Nat×Arg)) (k:Nat):Obj:=match Ze outs k with
 |some a=>match a.o with
  |some o=>o
  |none=> .gone
 |none=> .gone
def Zbx (outs:List (Nat×Arg)):Nat->List AE->List (Id×Obj)
 |_,[]=>[]
 |k,x::r=>match x.id with
  |some id=>(id,Zex outs k)::Zbx outs (k+1) r
  |none=>Zbx outs (k+1) r
def RV.at (ep i:Nat) (d:List AE) (j:Nat):RV->Option D
 | .p x=>some (.p x)
 | .own _ es=>some (.sl (ep,i,j) 0 es.length)
 | .box _=>some (.ptr (ep,i,j) 0 0)
 | .map _ _=>some (.map (ep,i,j))
 | .view k c len=>match d[k]? with
  |some a=>match a.id with
   |some id=>some (.sl id c len)
   |none=>none
  |none=>none
 | .aown pre _ es b=>some (.agg (pre.map .p++ .sl (ep,i,j) 0 es.length::b.map .p))
def ZgU (ep i:Nat) (a:List AE):Nat->List RV->Option (List D)
 |_,[]=>some []
 |j,x::r=>match x.at ep i a j,ZgU ep i a (j+1) r with
  |some d,some ds=>some (d::ds)
  |_,_=>none
def Zbd:Nat->List RV->List (Nat×Obj)
 |_,[]=>[]
 |j,x::r=>match x.o with
  |some o=>(j,o)::Zbd (j+1) r
  |none=>Zbd (j+1) r
def tupD:List D->D
 | [d]=>d
 |ds=> .tup ds
def ZfG (c:St) (i:Nat) (a:List AE) (ret:Ret):Option Eff:=
 match ZgU c.ep i a 0 ret.res with
 |some b=>some {val:=tupD b,new:=Zbd 0 ret.res,wr:=Zbx ret.outs 0 a,frz:=a.flatMap (·.fs)}
 |none=>none
def Zla (E:Env) (a:St) (c:Call) (pts:List Nat) (ms:List AM):Option (Nat×List AE):=
 match c.callee with
 | .value f=>match Zb6 (ev E a.slots 0 f)with
  |some (g,first,caps)=>
   let d:=first++ZT E a.slots c.args.toList pts++caps
   if d.length=ms.length then match Zh (fun x=>ZgE a x.1 x.2) (ms.zip d)with
    |some b=>if Zf5 (a.freezeL (b.flatMap (·.fs))) (Zaa 0 b) 1&&(c.args.toList.all Zz)&&Zz f then some (g,b)else none
    |none=>none
   else none
  |none=>none
 |_=>none
end Eng
namespace Eng
open Go
theorem Zef:∀(n:Nat) (l:List Arg) (k:Nat) (d:D),(k,d)∈ZcU n l->∃j x,l[j]? =some x/\k=n+j/\d=x.d (n+j)
 |n,[],k,d,h=>by simp[ZcU]at h
 |n,x::l,k,d,h=>by
  rcases ZmN.1 h with h |h
  ·simp only[Zm0]at h;obtain⟨rfl,rfl⟩:=h;exact⟨0,x,rfl,rfl,rfl⟩
  ·obtain⟨j,a,q1,c,b⟩:=Zef (n+1) l k d h;exact⟨j+1,a,by simpa using q1,by omega,by rw[b];congr 1;omega⟩
theorem ZgD:∀(n:Nat) (l:List Arg) (id:Id) (o:Obj),(id,o)∈Zdf n l->∃j x,l[j]? =some x/\id=(0,n+j,0)/\x.o=some o
 |n,[],id,o,h=>by simp[Zdf]at h
 |n,x::l,id,o,h=>by
  have a:(id,o)∈Zdf (n+1) l->∃j b,(x::l)[j]? =some b/\id=(0,n+j,0)/\b.o=some o:=fun h=>by obtain⟨j,b,q1,e,c⟩:=ZgD (n+1) l id o h;exact⟨j+1,b,by simpa using q1,by rw[e];congr 2;omega,c⟩
  unfold Zdf at h;split at h
  ·rename_i u d;rcases ZmN.1 h with h |h
   ·simp only[Zm0]at h;obtain⟨rfl,rfl⟩:=h;exact⟨0,x,rfl,rfl,d⟩
   ·exact a h
  ·exact a h
theorem Zcs:∀(n:Nat) (l:List AE) (j:Nat) (x:AE) (id:Id),l[j]? =some x->x.id=some id->((0,n+j,0),id)∈Zaa n l
 |n,[],j,x,id,h,_=>by simp at h
 |n,y::l,j,x,id,h,hid=>by
  cases j with
  |zero=>
   simp only[Zne,ZmZ]at h;subst h;simp[Zaa,hid]
  |succ j=>
   simp only[Znd]at h;have:=Zcs (n+1) l j x id h hid;rw[show n+(j+1)=n+1+j by omega];unfold Zaa;split
   ·exact Zni _ this
   ·exact this
theorem Zbz:∀(n:Nat) (l:List AE) (a b:Id),(a,b)∈Zaa n l->∃j x,l[j]? =some x/\a=(0,n+j,0)/\x.id=some b
 |n,[],a,b,h=>by simp[Zaa]at h
 |n,x::l,a,b,h=>by
  have c:(a,b)∈Zaa (n+1) l->∃j d,(x::l)[j]? =some d/\a=(0,n+j,0)/\d.id=some b:=fun h=>by obtain⟨j,d,q1,g,e⟩:=Zbz (n+1) l a b h;exact⟨j+1,d,by simpa using q1,by rw[g];congr 2;omega,e⟩
  unfold Zaa at h;split at h
  ·rename_i u f;rcases ZmN.1 h with h |h
   ·simp only[Zm0]at h;obtain⟨rfl,rfl⟩:=h;exact⟨0,x,rfl,rfl,f⟩
   ·exact c h
  ·exact c h
theorem Zbw {outs:List (Nat×Arg)}:∀(n:Nat) (l:List AE) (id:Id) (o:Obj),(id,o)∈Zbx outs n l->∃j x,l[j]? =some x/\x.id=some id/\o=Zex outs (n+j)
 |n,[],id,o,h=>by simp[Zbx]at h
 |n,x::l,id,o,h=>by
  have a:(id,o)∈Zbx outs (n+1) l->∃j b,(x::l)[j]? =some b/\b.id=some id/\o=Zex outs (n+j):=fun h=>by obtain⟨j,b,q1,e,c⟩:=Zbw (n+1) l id o h;exact⟨j+1,b,by simpa using q1,e,by rw[c,show n+1+j=n+(j+1) by omega]⟩
  unfold Zbx at h;split at h
  ·rename_i u d;rcases ZmN.1 h with h |h
   ·simp only[Zm0]at h;obtain⟨rfl,rfl⟩:=h;exact⟨0,x,rfl,d,rfl⟩
   ·exact a h
  ·exact a h
theorem Zdo {outs:List (Nat×Arg)}:∀(n:Nat) (l:List AE) (j:Nat) (x:AE) (id:Id),l[j]? =some x->x.id=some id->(id,Zex outs (n+j))∈Zbx outs n l
 |n,[],j,x,id,h,_=>by simp at h
 |n,y::l,j,x,id,h,hid=>by
  cases j with
  |zero=>
   simp only[Zne,ZmZ]at h;subst h;simp[Zbx,hid]
  |succ j=>
   simp only[Znd]at h;have:=Zdo (outs:=outs) (n+1) l j x id h hid;rw[show n+(j+1)=n+1+j by omega];unfold Zbx;split
   ·exact Zni _ this
   ·exact this
theorem ZeE:∀(n:Nat) (l:List RV) (j:Nat) (o:Obj),(j,o)∈Zbd n l->∃m x,l[m]? =some x/\j=n+m/\x.o=some o
 |n,[],j,o,h=>by simp[Zbd]at h
 |n,x::l,j,o,h=>by
  have a:(j,o)∈Zbd (n+1) l->∃m b,(x::l)[m]? =some b/\j=n+m/\b.o=some o:=fun h=>by obtain⟨m,b,q1,e,c⟩:=ZeE (n+1) l j o h;exact⟨m+1,b,by simpa using q1,by omega,c⟩
  unfold Zbd at h;split at h
  ·rename_i u d;rcases ZmN.1 h with h |h
   ·simp only[Zm0]at h;obtain⟨rfl,rfl⟩:=h;exact⟨0,x,rfl,rfl,d⟩
   ·exact a h
  ·exact a h
theorem Zjs:∀(n:Nat) (l:List RV) (j:Nat) (x:RV) (o:Obj),l[j]? =some x->x.o=some o->Ze (ZhG n l) (1,n+j,0)=some o
 |n,[],j,x,o,h,_=>by simp at h
 |n,y::l,j,x,o,h,ho=>by
  cases j with
  |zero=>
   simp only[Zne,ZmZ]at h;subst h;simp[ZhG,ho,Ze]
  |succ j=>
   simp only[Znd]at h;have:=Zjs (n+1) l j x o h ho;rw[show n+(j+1)=n+1+j by omega];unfold ZhG;split
   ·simp only[Ze];rw[if_neg (by simp;omega)];exact this
   ·exact this
theorem ZfZ {ep i:Nat} {g:List AE}:∀(n:Nat) (l:List RV) (b:List D),ZgU ep i g n l=some b->b.length=l.length/\∀(j:Nat) x d,l[j]? =some x->b[j]? =some d->x.at ep i g (n+j)=some d
 |n,[],b,h=>by simp[ZgU]at h;subst h;exact⟨rfl,by simp⟩
 |n,x::l,b,h=>by
  unfold ZgU at h;split at h;rotate_left;simp at h;rename_i d e k f;cases h;obtain⟨q1,p⟩:=ZfZ (n+1) l e f;refine⟨by simp[q1],fun j m o c a=> ?_⟩;cases j with
  |zero=>simp at c a;subst c a;exact k
  |succ j=>
   simp at c a;have:=p j m o c a
   rwa [show n+(j+1)=n+1+j by omega]
section
variable {C:Ctx} {X:Nat->Prop} {ρ:Id->Option Lay} {S:Nat->Prop} {st:St} {a:Act} {w:World}
theorem ZiT (h:Rep C X ρ S st a.tmps w) {c:Call} {pts:List Nat} {f:Operand} (u:c.callee= .value f) {g:Nat} {b e:List D} (q:Zb6 (ev C.E st.slots 0 f)=some (g,b,e))
  (F:Zz f=true) (B:∀x∈c.args.toList,Zz x=true):∃n:Array Value,n.size=(b++ZT C.E st.slots c.args.toList pts++e).length/\
   (∀(j:Nat) v d,n[j]? =some v->(b++ZT C.E st.slots c.args.toList pts++e)[j]? =some d->RelD w S ρ v d)/\
   ∀(ty:TypeId),((do let d <-resolve a.eval c ty;invoke d.target d.args:Sem Next)).run C.E.prog w=(callFunc g n).run C.E.prog w:=by
 have o:=Zj h 0 F;have z:∃fs cs:Array Value,a.eval f= .func (.func g) fs cs/\fs.size=b.length/\cs.size=e.length/\(∀(j:Nat) v d,fs[j]? =some v->b[j]? =some d->RelD w S ρ v d)/\∀(j:Nat) v d,cs[j]? =some v->e[j]? =some d->RelD w S ρ v d:=by
  unfold Zb6 at q;split at q
  ·rename_i G x y m;simp only[ZmZ,Zm0]at q;obtain⟨rfl,rfl,rfl⟩:=q;rw[m]at o;generalize a.eval f=vf at o;have o:=o.of_p;cases o with
   |fn _ fs cs _ _ p t r s=>
    refine⟨fs,cs,rfl,by simpa using p,by simpa using t,fun j v d k i=> ?_,fun j v d k i=> ?_⟩
    ·rw[ZmJ,ZmX]at i;obtain⟨x,A,rfl⟩:=i;exact .p _ _ (r j v x k A)
    ·rw[ZmJ,ZmX]at i;obtain⟨x,A,rfl⟩:=i;exact .p _ _ (s j v x k A)
  ·rename_i G x y m;simp only[ZmZ,Zm0]at q;obtain⟨rfl,rfl,rfl⟩:=q;rw[m]at o;generalize a.eval f=vf at o;cases o with
   |fn _ fs cs _ _ p t r s=>exact⟨fs,cs,rfl,p,t,r,s⟩
  ·simp at q
 obtain⟨fs,cs,m,p,t,r,s⟩:=z;obtain⟨q1,I⟩:=Zaf h c.args.toList pts B;refine⟨fs++c.args.map a.eval++cs,by simp[p,t,q1],fun j v d k i=> ?_,fun ty=> ?_⟩
 ·rw[Zm1]at k;have H:(fs++c.args.map a.eval).size=(b++ZT C.E st.slots c.args.toList pts).length:=by simp[p,q1]
  split at k
  ·rename_i J;rw[Znb (by omega)]at i;rw[Zm1]at k;split at k
   ·rename_i E;rw[Znb (by omega)]at i;exact r j v d k i
   ·rename_i E;rw[Znc (by omega)]at i;refine I (j - b.length) v d ?_ i;rw[p]at k;have:=k;rw[<-Zm2]at this;simpa using this
  ·rename_i J;rw[Znc (by omega)]at i;rw[H]at k;exact s _ v d k i
 ·have l:c.callee= .value f:=u;simp[resolve,l,m,Deferred.ofValue,invoke,Array.append_assoc]
theorem ZiU {P:Program} {g:Nat} {fn:Func} (vals:Array Value) (w:World) (hfu:P.funcs[g]? =some fn) (hnm:(fn.name == "runtime.NumGoroutine")=false) (hbd:fn.body.isNone=false):(callFunc g vals).run P w= .ok (.enter g vals) w:=by
 have hnm':¬fn.name= "runtime.NumGoroutine" :=by simpa using hnm
 have hbd':¬fn.body=none:=by intro e;rw[e]at hbd;simp at hbd
 simp[callFunc,hfu,hnm',hbd']
theorem Zic {S1:Nat->Prop} (h:Rep C X ρ S st a.tmps w) (hSS:∀b,S b->S1 b) {m:AM} {d:D} {x:AE} (hx:ZgE st m d=some x) {v:Value} (hr:RelD w S ρ v d) (hfs:∀f∈x.fs,∀L b,ρ f=some L->L.blk=some b->S1 b)
  (hcond:∀c∈x.cond,c=true) {ρ':Id->Option Lay} {k:Nat} (hρ:∀id,x.id=some id->ρ' (0,k,0)=ρ id):
  RelD w S1 ρ' v (x.arg.d k)/\(∀f∈x.fs,∃o,st.objs f=some o/\o≠ .gone)/\(∀o',x.arg.o=some o'->∃id o,x.id=some id/\st.objs id=some o/\o≠ .gone/\o'≠ .gone/\∀L,ρ id=some L->ZB w S1 ρ L o->ZB w S1 ρ' L o')/\
   (∀id,x.id=some id->∃o,st.objs id=some o/\o≠ .gone):=by
 unfold ZgE at hx;split at hx
 ·split at hx;rotate_left;simp at hx;rename_i y hy;cases hx;exact⟨.p _ _ (ZaA h.objs hSS depth _ _ _ hr hy hfs),Zbj depth _ _ hy,fun o' ho=>by simp[Arg.o]at ho,fun id hid=>by simp at hid⟩
 ·rename_i id;split at hx;rotate_left;simp at hx;rename_i ds hlk;split at hx;rotate_left;simp at hx;rename_i cs hcs;cases hx;obtain⟨q1,q2⟩:=Zk hcs;refine⟨?_,ZeJ (a:= .box cs) (o:= .box ds) h (by simp[Zab,hcs]),fun o' ho=> ?_,fun id' hid=>by simp at hid;subst hid;exact⟨_,hlk,by simp⟩⟩
  ·cases hr with
   |ptr _ _ _ L b hL hi hb=>exact .ptr _ 0 0 L b (by rw[hρ id rfl];exact hL) hi hb
  ·simp only[Arg.o,ZmZ]at ho;subst ho;refine⟨id,_,rfl,hlk,by simp,by simp,fun L hL hro=> ?_⟩;obtain⟨L',hL',hro0⟩:=h.objs id _ hlk (by simp);rw[hL]at hL';obtain rfl:=ZmY hL';obtain⟨o',p1,_,p3⟩:=ZbE (ρ':=ρ') h hSS (a:= .box cs) (fs:=ds.flatMap fun d=>d.ids st.objs depth) (by simp[Zab,hcs]) hfs hro0;simp only[Arg.o,ZmZ]at p1;subst p1;exact p3
 ·rename_i id len;split at hx;rotate_left;simp at hx;rename_i sz es hlk;cases hx;have hle:len=es.length:=of_decide_eq_true (hcond _ ZmO);subst hle;refine⟨?_,fun f hf=>by simp at hf,fun o' ho=> ?_,fun id' hid=>by simp at hid;subst hid;exact⟨_,hlk,by simp⟩⟩
  ·cases hr with
   |sl _ _ _ cap ad L hL hl hm hcp ha=>exact .sl _ 0 _ cap ad L (by rw[hρ id rfl];exact hL) hl hm hcp ha
  ·simp only[Arg.o,ZmZ]at ho;subst ho;exact⟨id,_,rfl,hlk,by simp,by simp,fun L _ hr=>hr⟩
 ·rename_i id;split at hx;rotate_left;simp at hx;rename_i td kv hlk;cases hx;refine⟨?_,fun f hf=>by simp at hf,fun o' ho=> ?_,fun id' hid=>by simp at hid;subst hid;exact⟨_,hlk,by simp⟩⟩
  ·cases hr with
   |map _ L b hL hb=>exact .map _ L b (by rw[hρ id rfl];exact hL) hb
  ·simp only[Arg.o,ZmZ]at ho;subst ho;exact⟨id,_,rfl,hlk,by simp,by simp,fun L _ hr=>hr⟩
 ·rename_i id off len;split at hx;rotate_left;simp at hx;rename_i sz es hlk;cases hx;refine⟨?_,fun f hf=>by simp at hf,fun o' ho=> ?_,fun id' hid=>by simp at hid;subst hid;exact⟨_,hlk,by simp⟩⟩
  ·cases hr with
   |sl _ _ _ cap ad L hL hl hm hcp ha=>exact .sl _ off len cap ad L (by rw[hρ id rfl];exact hL) hl hm hcp ha
  ·simp only[Arg.o,ZmZ]at ho;subst ho;exact⟨id,_,rfl,hlk,by simp,by simp,fun L _ hr=>hr⟩
 ·simp at hx
end
end Eng
namespace Eng
open Go
theorem ZB.pureArg {w w':World} {S S':Nat->Prop} {ρ ρ':Id->Option Lay} {L:Lay} {a:Arg} {o:Obj} (c:a.o=some o) (g:Zcy S w w') (f:∀b,S b->S' b) (e:∀b,L.blk=some b->w'.heap[b]? =w.heap[b]?) (h:ZB w S ρ L o):ZB w' S' ρ' L o:=by
 cases a with
 |p x=>simp[Arg.o]at c
 |box cs=>
  simp only[Arg.o,ZmZ]at c;subst c;obtain⟨b,k,m,n,r⟩:=h;refine⟨b,k,m,n,fun j d i=> ?_⟩;obtain⟨v,q1,s,l,t⟩:=r j d i;rw[ZmJ,ZmX]at i;obtain⟨x,y,rfl⟩:=i;exact⟨v,by rw[ZaW (e b k)];exact q1,by rw[Za6 (e b k)];exact s,l,.p _ _ (t.of_p.mono g f)⟩
 |arr sz es=>
  simp only[Arg.o,ZmZ]at c;subst c;exact h.mono (ρ':=ρ) g f (fun _ _ h=>h) e
 |map td u=>
  simp only[Arg.o,ZmZ]at c;subst c;exact h.mono (ρ':=ρ) g f (fun _ _ h=>h) e
 |part sz es q len=>
  simp only[Arg.o,ZmZ]at c;subst c;exact h.mono (ρ':=ρ) g f (fun _ _ h=>h) e
theorem RV.o_arg {x:RV} {o:Obj} (h:x.o=some o):∃a:Arg,a.o=some o:=by
 cases x with
 |own sz es=>exact⟨.arr sz es,h⟩
 |aown pre sz es b=>exact⟨.arr sz es,h⟩
 |box cs=>exact⟨.box cs,h⟩
 |map td c=>exact⟨.map td c,h⟩
 |p x=>simp[RV.o]at h
 |view k d len=>simp[RV.o]at h
theorem Zf7:∀(l:List (Nat×Arg)) (k:Nat) (a:Arg) (o:Obj),Ze l k=some a->a.o=some o->Ze (Zc9 l) (0,k,0)=some o
 | [],k,a,o,h,_=>by simp[Ze]at h
 |(k',a')::l,k,a,o,h,ho=>by
  simp only[Ze]at h;split at h
  ·rename_i c;simp only[ZmZ]at h;subst c h;simp[Zc9,ho,Ze]
  ·rename_i b;have:=Zf7 l k a o h ho;unfold Zc9;split
   ·simp only[Ze];rw[if_neg (by simp;exact b)];exact this
   ·exact this
theorem Zcr {c β:Type} [DecidableEq c] (d e:List (c×β)) (a:c):Ze (d++e) a=match Ze d a with |some b=>some b |none=>Ze e a:=by
 induction d with
 |nil=>rfl
 |cons x r f=>
  simp only[Zm7,Ze];split
  ·rfl
  ·exact f
theorem ZcC:∀(n:Nat) (l:List RV) (k m:Nat),Ze (ZhG n l) (0,k,m)=none
 |n,[],k,m=>rfl
 |n,x::l,k,m=>by
  unfold ZhG;split
  ·simp only[Ze];rw[if_neg (by simp)];exact ZcC (n+1) l k m
  ·exact ZcC (n+1) l k m
theorem ZhI:∀(n:Nat) (l:List RV) (j:Nat) (x:RV),l[j]? =some x->Zam D.dead (Zkj n l) (n+j)=x.d (n+j)
 |n,[],j,x,h=>by simp at h
 |n,y::l,j,x,h=>by
  cases j with
  |zero=>
   simp only[Zne,ZmZ]at h;subst h;simp[Zkj,Zam]
  |succ j=>
   simp only[Znd]at h;have:=ZhI (n+1) l j x h;rw[show n+(j+1)=n+1+j by omega];simp only[Zkj,Zam];rw[if_neg (by omega)];exact this
theorem RV.o_gone {x:RV} {o:Obj} (h:x.o=some o):o≠ .gone:=by cases x<;>simp[RV.o]at h<;>subst h<;>simp
section
variable {C:Ctx} {r:Fm} {G:Zkg}
theorem ZjR {ops:Array Oper} {i:Nat} {o:Oper} {X:Nat->Prop} {st:St} {c:Call} (hnotX:¬X i) (hE:Zl C.E) (ho:ops[i]? =some o) (hg:ZQ ops st o.guard=some true) (hop:o.op= .call c) (hdst:Zdc C.E o=true)
  (pts:List Nat) (ms:List AM) {f:Nat} {as:List AE} (hpre:Zla C.E st c pts ms=some (f,as)) (hcnd:Zln (as.flatMap (·.cond))) {args:List Arg} {ret:Ret} (hargs:as.map (·.arg)=args) (hf:Fun C.E f args ret)
  {e:Eff} (he:ZfG st i as ret=some e) {ρ:Id->Option Lay} {S:Nat->Prop} {a:Act} {w:World} (hrep:Rep C X ρ S st a.tmps w) (hd:a.defers=r.ds) (b:Frame) (rest:List Nat) (kk:List Go.Item) (cs:List Frame) (hb:b.roundOf=r.r):
  ∃ρ' S' a' w',Rep C (fun j=>X j\/j=i) ρ' S' (st.app i o.dst e) a'.tmps w'/\a'.defers=r.ds/\
   StepsIn (Machine.fenced C.E.prog (Zck r.r)) C.E.prog (lone (b.atR a (.inRegion ops (i::rest)::kk)) cs w) (lone (b.atR a' (.inRegion ops rest::kk)) cs w'):=by
 subst hargs;have hi:i < ops.size:=(Zmy.1 ho).1;have hwant:=ZaT hrep hg;unfold Zla at hpre;split at hpre
 case h_2=>simp at hpre
 rename_i fo hcal;split at hpre
 case h_2=>simp at hpre
 rename_i g first caps hcd
 dsimp only at hpre;split at hpre
 case isFalse=>simp at hpre
 rename_i hlen;split at hpre
 case h_2=>simp at hpre
 rename_i as' has;split at hpre
 case isFalse=>simp at hpre
 rename_i hok;simp only[ZmZ,Zm0]at hpre;obtain⟨rfl,rfl⟩:=hpre;simp only[ZmC]at hok;obtain⟨⟨hpi,hal⟩,hfl⟩:=hok;obtain⟨vals,hvs,hvr,hrun⟩:=ZiT hrep (pts:=pts) hcal hcd hfl (fun x hx=>Zm5.1 hal x hx);generalize hds:first++ZT C.E st.slots c.args.toList pts++caps=ds at*
 have hrun:=hrun o.type;obtain⟨a1,a2⟩:=Zk has;have hal':as'.length=ds.length:=by rw[a1,List.length_zip];omega
 have hfs0:∀g∈as'.flatMap (·.fs),∃o,st.objs g=some o/\o≠ .gone:=by
  intro g hg;obtain⟨x,hx,hgx⟩:=ZmP.1 hg;obtain⟨j,hj,rfl⟩:=Znj.1 hx;have hz:j < (ms.zip ds).length:=by omega
  have hjd:j < ds.length:=by omega
  have hjv:j < vals.size:=by omega
  have hx':=a2 j (ms.zip ds)[j] as'[j] (ZmH hz) (ZmH hj);simp only[List.getElem_zip]at hx';exact(Zic (S1:=fun _=>True) (ρ':=fun id=>match as'[j].id with |some id=>ρ id |none=>none) (k:=0) hrep (fun _ _=>trivial) hx' (hvr j vals[j] ds[j] (by simp[hjv]) (by simp[hjd])) (fun _ _ _ _ _ _=>trivial)
   (fun c hc=>Zdp hcnd c (ZmP.2 ⟨as'[j],hx,hc⟩)) (fun id hid=>by simp[hid])).2.1 g hgx
 obtain⟨S1,hS1,hF1,hrep1,hS1i⟩:=hrep.freeze _ hfs0;have hn1:Zan ((Zaa 0 as').map (·.1))=true:=by have:=hpi;simp only[Zf5,ZmC]at this;exact this.1.1
 have hrho:∀{new old:Id},(new,old)∈Zaa 0 as'->ZW (Zaa 0 as') ρ new=ρ old:=fun hm=>by simp only[ZW,Zae hn1 hm]
 have harg:∀(j:Nat) (hj:j < as'.length) (hjv:j < vals.size),RelD w S1 (ZW (Zaa 0 as') ρ) vals[j] (as'[j].arg.d j)/\
   (∀o',as'[j].arg.o=some o'->∃id o,as'[j].id=some id/\st.objs id=some o/\o≠ .gone/\o'≠ .gone/\∀L,ρ id=some L->ZB w S1 ρ L o->ZB w S1 (ZW (Zaa 0 as') ρ) L o')/\
   (∀id,as'[j].id=some id->∃o,st.objs id=some o/\o≠ .gone):=by
  intro j hj hjv;have hz:j < (ms.zip ds).length:=by omega
  have hjd:j < ds.length:=by omega
  have hx':=a2 j (ms.zip ds)[j] as'[j] (ZmH hz) (ZmH hj);simp only[List.getElem_zip]at hx';have hxm:=List.getElem_mem hj;have:=Zic (S1:=S1) (ρ':=ZW (Zaa 0 as') ρ) (k:=j) hrep hS1 hx' (hvr j vals[j] ds[j] (by simp[hjv]) (by simp[hjd])) (fun f hf=>hF1 f (ZmP.2 ⟨_,hxm,hf⟩))
   (fun c hc=>Zdp hcnd c (ZmP.2 ⟨_,hxm,hc⟩)) (fun id hid=>hrho (by have:=Zcs 0 as' j _ id (ZmH hj) hid;rwa [Znp]at this))
  exact⟨this.1,this.2.2.1,this.2.2.2⟩
 let Lt:Nat->Prop:=fun b=>∃new old o L,(new,old)∈Zaa 0 as'/\st.objs old=some o/\o≠ .gone/\ρ old=some L/\L.blk=some b
 let C':Ctx:=⟨C.E.at vals.size,w,Lt,S1,fun k=>ZW (Zaa 0 as') ρ (0,k,0)⟩;have hvsz:vals.size=(as'.map (·.arg)).length:=by rw[List.length_map];omega
 have hcallee:Rep C' (fun _=>False) (ZW (Zaa 0 as') ρ) S1 (Zey (as'.map (·.arg))) vals w:=by
  refine hrep1.select (C':=C') hpi ?_ rfl rfl (ZS.refl _) (ZmT _) (fun _ _ _=>rfl) (fun _ h=>h) ?_ (fun _=>rfl) rfl (ZmT _) ?_ (fun b hb=> .inl hb) (fun k L hk _=>hk)
  ·intro new o' ho';obtain⟨j,x,q1,q2,q3⟩:=ZgD 0 _ _ _ (ZY ho');rw[Znp]at q2;rw[ZmJ,ZmX]at q1;obtain⟨ae,q1,rfl⟩:=q1;obtain⟨hj,rfl⟩:=ZmI.1 q1;obtain⟨id,o1,r1,r2,r3,r4,r5⟩:=(harg j hj (by omega)).2.1 o' q3;refine⟨id,o1, ?_,by rw[ZH];exact r2,r3,r5⟩;rw[q2];have:=Zcs 0 as' j _ id (ZmH hj) r1
   rwa [Znp]at this
  ·intro new old o1 L b1 hm q2 q3 q4 q5;rw[ZH]at q2;exact .inr ⟨new,old,o1,L,hm,q2,q3,q4,q5⟩
  ·intro k';show RelD w S1 _ (vals.getD k' undef) (Zam D.dead (ZcU 0 (as'.map (·.arg))) k');rcases ZaI D.dead (ZcU 0 (as'.map (·.arg))) k' with hk |hk
   ·rw[hk];exact .dead _
   ·obtain⟨j,x,q1,q2,q3⟩:=Zef 0 _ _ _ hk;rw[Znp]at q2 q3;subst q2;rw[q3];rw[ZmJ,ZmX]at q1;obtain⟨ae,q1,rfl⟩:=q1;obtain⟨hj,rfl⟩:=ZmI.1 q1;have hjv:k' < vals.size:=by omega
    have:vals.getD k' undef=vals[k']:=by simp[hjv]
    rw[this];exact(harg k' hj hjv).1
 have hsem:o.semAt b.roundOf a.eval=execOp a.eval o:=Oper.semAt_eq _ _ _ (fun c hc'=>by rw[hc']at hop;cases hop);have hst:=stepGR_op (P:=C.E.prog) (b:=b) (a:=a) (k:=kk) (cs:=cs) (w:=w) (i:=i) (rest:=rest) ho hwant;have hcg:∃vs ρ2 S2 w',vs.size=ret.res.length/\Rep ⟨C.E.at vs.size,w,Lt,S1,fun k=>ZW (Zaa 0 as') ρ (0,k,0)⟩ (fun _=>False) ρ2 S2 (ZcE ret) vs w'/\
   StepsIn (Machine.fenced C.E.prog (Zck r.r)) C.E.prog (lone (b.atR a (.inRegion ops (i::rest)::kk)) cs w) (lone (b.atR (a.put o.dst (ZgO vs)) (.inRegion ops rest::kk)) cs w'):=by
  rcases hf with hf |hf
  ·obtain⟨⟨fn,hfn1,hfn2,hfn3⟩,hcall⟩:=hf;obtain⟨_,hcall⟩:=hcall w Lt S1 _ _ vals hvsz hcallee;have hcg:=hcall (b.atR a (.inRegion ops (i::rest)::kk)::cs) (fun _ h=>by simp[Zck]at h);obtain⟨ee,w',fr,⟨vs,ρ2,S2,rfl,hvl,hrep2⟩,hsteps,hfrf,hleave⟩:=hcg;refine⟨vs,ρ2,S2,w',hvl,hrep2, ?_⟩;have hexec:(execOp a.eval o).run C.E.prog w= .ok (.enter g vals) w:=by simp only[execOp,hop];rw[hrun];exact ZiU vals w hfn1 hfn2 hfn3
   have hfin:=Frame.finish_atR b a ops i rest kk (ZgO vs);simp only[ho,Znq]at hfin;refine .head (Zx _ _ _) (step_lone_go (fr':=Frame.enter C.E.prog g vals .normal) (cs':=b.atR a (.inRegion ops (i::rest)::kk)::cs) (w':=w) ?_) ?_
   ·rw[hst,hsem];simp[stepG.apply,hexec,Frame.atR]
   ·refine StepsIn.trans hsteps (.one (Zx _ _ _) ?_);rw[<-hfin];exact step_leave_returned hleave
  ·obtain⟨vs,ρ2,S2,w',hv,hvl,hrep2⟩:=hf.2 w Lt S1 _ _ vals hvsz hcallee;refine⟨vs,ρ2,S2,w',hvl,hrep2, ?_⟩;have hexec:(execOp a.eval o).run C.E.prog w= .ok (.value (ZgO vs)) w':=by simp only[execOp,hop];rw[hrun];exact hv
   have hfin:=Frame.finish_atR b a ops i rest kk (ZgO vs);simp only[ho,Znq]at hfin;refine .one (Zx _ _ _) ?_;refine step_lone_go ?_;rw[hst,hsem,<-hfin];simp[stepG.apply,hexec]
 obtain⟨vs,ρ2,S2,w',hvl,hrep2,hsteps⟩:=hcg;have hall:∀x∈Zaa 0 as',st.fz x.2=false/\x.2∉as'.flatMap (·.fs):=by intro x hx;have:=hpi;simp only[Zf5,ZmC,Zm5,Zm4,decide_eq_true_eq]at this;have:=(this.2 x hx).2;rw[freezeL_fz]at this;simp only[Bool.or_eq_false_iff]at this;exact⟨this.2,by simpa using this.1⟩
 have hn2:Zan ((Zaa 0 as').map (·.2))=true:=by have:=hpi;simp only[Zf5,ZmC]at this;exact this.1.2
 have hlent:∀(j:Nat) (x:AE) id,as'[j]? =some x->x.id=some id->((0,j,0),id)∈Zaa 0 as'/\∃o L,st.objs id=some o/\o≠ .gone/\ρ id=some L/\ZW (Zaa 0 as') ρ (0,j,0)=some L:=by intro j x id hx hid;have hm:=Zcs 0 as' j x id hx hid;rw[Znp]at hm;obtain⟨hj,rfl⟩:=ZmI.1 hx;obtain⟨o,q1,q2⟩:=(harg j hj (by omega)).2.2 id hid;obtain⟨L,hL,_⟩:=hrep.objs id o q1 q2;exact⟨hm,o,L,q1,q2,hL,by rw[hrho hm];exact hL⟩
 have hsame:∀(j j':Nat) (x x':AE) id,as'[j]? =some x->x.id=some id->as'[j']? =some x'->x'.id=some id->j=j':=by intro j j' x x' id h1 h2 h3 h4;have:=Zga hn2 (hlent j x id h1 h2).1 (hlent j' x' id h3 h4).1;simpa using this
 have hout:∀(j:Nat) (x:AE) id o',as'[j]? =some x->x.id=some id->Zex ret.outs j=o'->o'≠ .gone->(∃aa:Arg,aa.o=some o')/\(ZcE ret).objs (0,j,0)=some o'/\∃L,ρ id=some L/\ρ2 (0,j,0)=some L/\ZB w' S2 ρ2 L o':=by
  intro j x id o' hx hid hb hg;unfold Zex at hb;split at hb;rotate_left;exact absurd hb.symm hg;rename_i aa haa;split at hb;rotate_left;exact absurd hb.symm hg;rename_i oo hoo;subst hb;have hobj:(ZcE ret).objs (0,j,0)=some oo:=by show Ze (ZhG 0 ret.res++Zc9 ret.outs) (0,j,0)=some oo;rw[Zcr,ZcC];exact Zf7 _ _ _ _ haa hoo
  obtain⟨L2,hL2,hro⟩:=hrep2.objs _ _ hobj hg;obtain⟨_,o1,L,q1,q2,q3,q4⟩:=hlent j x id hx hid;have:=hrep2.lay j L q4 (by rw[hL2];simp);rw[hL2]at this;obtain rfl:=ZmY this;exact⟨⟨aa,hoo⟩,hobj,L2,q3,hL2,hro⟩
 have hgone:∀b1,Lt b1->(∀j o',(ZcE ret).objs (0,j,0)=some o'->o'≠ .gone->∀L,ρ2 (0,j,0)=some L->L.blk≠some b1)->
   ∃id o' L',(id,Obj.gone)∈Zbx ret.outs 0 as'/\st.objs id=some o'/\o'≠ .gone/\ρ id=some L'/\L'.blk=some b1/\(∀o'',(id,o'')∈Zbx ret.outs 0 as'->o''= .gone):=by
  rintro b1 ⟨new,old,o1,L,hm,q1,q2,q3,q4⟩ hno;obtain⟨j,x,hx,hnw,hid⟩:=Zbz 0 as' new old hm;rw[Znp]at hnw;have hbg:Zex ret.outs j= .gone:=by
   cases hbo:Zex ret.outs j with
   |gone=>rfl
   |_=>
    exfalso;obtain⟨_,r1,L2,r2,r3,_⟩:=hout j x old _ hx hid hbo (by simp);rw[q3]at r2;obtain rfl:=ZmY r2;exact hno j _ r1 (by simp) _ r3 q4
  refine⟨old,o1,L, ?_,q1,q2,q3,q4,fun o'' hm''=> ?_⟩
  ·have:=Zdo (outs:=ret.outs) 0 as' j x old hx hid;rw[Znp,hbg]at this;exact this
  ·obtain⟨j',x',r1,r2,r3⟩:=Zbw 0 as' old o'' hm'';rw[Znp]at r3;rw[r3,<-hsame j j' x x' old hx hid r1 r2,hbg]
 unfold ZfG at he;split at he
 case h_2=>simp at he
 rename_i rds hrds;cases he;obtain⟨rl,rg⟩:=ZfZ 0 _ _ hrds;have hfresh:=hrep.fresh hnotX;let ρc:Id->Option Lay:=fun id=>if id.1=st.ep/\id.2.1=i then ρ2 (1,id.2.2,0)else ρ id
 have hρc:∀id L,ρ id=some L->ρc id=some L:=by
  intro id L hL;simp only[ρc];split
  ·rename_i hc;obtain⟨ep,jj,kk⟩:=id;simp only at hc;obtain⟨rfl,rfl⟩:=hc;rw[hfresh kk]at hL;simp at hL
  ·exact hL
 have hρn:∀m,ρc (st.ep,i,m)=ρ2 (1,m,0):=fun m=>by simp[ρc]
 have hmade:∀m o',(m,o')∈Zbd 0 ret.res->(∃aa:Arg,aa.o=some o')/\o'≠ .gone/\(ZcE ret).objs (1,m,0)=some o'/\∃L,ρ2 (1,m,0)=some L/\ZB w' S2 ρ2 L o':=by
  intro m o' hm;obtain⟨j,x,q1,q2,q3⟩:=ZeE 0 _ _ _ hm;have hg:=RV.o_gone q3;have hobj:(ZcE ret).objs (1,m,0)=some o':=by show Ze (ZhG 0 ret.res++Zc9 ret.outs) (1,m,0)=some o';rw[Zcr,q2,Zjs 0 _ j x o' q1 q3]
  obtain⟨L,hL,hro⟩:=hrep2.objs _ _ hobj hg;exact⟨RV.o_arg q3,hg,hobj,L,hL,hro⟩
 have hmb:∀m o' L b1,(m,o')∈Zbd 0 ret.res->ρ2 (1,m,0)=some L->L.blk=some b1->b1 < w'.heap.size/\¬S2 b1/\(w.heap.size<=b1\/∃id o' L',(id,Obj.gone)∈Zbx ret.outs 0 as'/\st.objs id=some o'/\o'≠ .gone/\ρ id=some L'/\L'.blk=some b1/\(∀o'',(id,o'')∈Zbx ret.outs 0 as'->o''= .gone)):=by
  intro m o' L b1 hm hL hb1;obtain⟨_,hg,hobj,_,_,_⟩:=hmade m o' hm;obtain⟨r1,r2,r3,r4⟩:=hrep2.own _ _ L b1 hobj hg hL hb1;refine⟨r1,r4 rfl, ?_⟩;rcases r2 with r2 |r2
  ·exact .inl r2
  ·refine .inr (hgone b1 r2 fun j o'' ho'' hg'' L'' hL'' hb''=> ?_);have:=hrep2.inj _ _ L _ _ L'' b1 hobj hg hL hb1 ho'' hg'' hL'' hb'';simp at this
 let N:Nat->Prop:=fun b=>S2 b/\¬S1 b
 obtain⟨S',hrepc⟩:=hrep.stepN (i:=i) (t:=o.dst) (e:={val:=tupD rds,new:=Zbd 0 ret.res,wr:=Zbx ret.outs 0 as',frz:=as'.flatMap (·.fs)}) (v:=ZgO vs) (w':=w') ρc N
  (by
   rintro b1 ⟨h2,h3⟩;refine⟨hrep2.sIn b1 h2, ?_⟩;rcases hrep2.sOut b1 h2 with h4 |h4 |h4
   ·exact absurd h4 h3
   ·exact .inl h4
   ·refine .inr (hgone b1 h4 fun j o'' ho'' hg'' L'' hL'' hb''=> ?_);exact(hrep2.own _ _ L'' b1 ho'' hg'' hL'' hb'').2.2.2 rfl h2)
  (by
   rintro m o' L b1 hm hL hb1 ⟨h2,_⟩;rw[hρn]at hL;exact(hmb m o' L b1 hm hL hb1).2.1 h2)
  hnotX (Za9 hdst) hrep2.grow hrep2.quiet
  (by
   intro b1 hb1 hne;refine hrep2.frame b1 hb1 ?_;rintro⟨new,old,o1,L,hm,q1,q2,q3,q4⟩;obtain⟨j,x,hx,hnw,hid⟩:=Zbz 0 as' new old hm;exact hne old _ L (Zdo (outs:=ret.outs) 0 as' j x old hx hid) q3 q4)
  (by
   intro id o' hm;obtain⟨j,x,q1,q2,q3⟩:=Zbw 0 as' id o' hm;obtain⟨r1,o1,L,r2,r3,_⟩:=hlent j x id q1 q2;exact⟨(hall _ r1).1,o1,r2,r3⟩)
  hρc
  (by
   intro id hn;simp only[ρc]at hn;split at hn
   ·rename_i hc;exact .inr hc
   ·exact .inl hn)
  (by
   intro id hm;obtain⟨o1,q1,q2⟩:=hfs0 id hm;obtain⟨L,hL,_⟩:=hrep.objs id o1 q1 q2;refine⟨by rw[hL];simp,fun o' hm'=> ?_⟩;obtain⟨j,x,r1,r2,_⟩:=Zbw 0 as' id o' hm';exact absurd hm (hall _ (hlent j x id r1 r2).1).2)
  (by
   intro m o' hm;obtain⟨⟨aa,haa⟩,hg,hobj,L,hL,hro⟩:=hmade m o' hm;refine⟨L,by rw[hρn];exact hL,fun b1 hb1=> ?_,fun S'' hN hS hF _=> ?_⟩
   ·have:=hmb m o' L b1 hm hL hb1;exact⟨this.2.2,this.1⟩
   ·refine ZB.pureArg haa (fun _ _ _=>rfl) (fun b1 hb1=> ?_) (fun _ _=>rfl) hro
    by_cases h1:S1 b1
    ·rcases hS1i b1 h1 with h2 |⟨g,Lg,h2,h3,h4⟩
     ·exact hS b1 h2
     ·obtain⟨o1,q1,q2⟩:=hfs0 g h2;exact hF g h2 o1 Lg b1 q1 q2 h3 h4
    ·exact hN b1 ⟨hb1,h1⟩)
  (by
   intro m o1 L1 m' o2 L2 b1 hm hg hL hb1 hm' hg' hL' hb1';rw[hρn]at hL hL';have:=hrep2.inj _ _ L1 _ _ L2 b1 (hmade m o1 hm).2.2.1 hg hL hb1 (hmade m' o2 hm').2.2.1 hg' hL' hb1';simpa using this)
  (by
   intro id o' L hm hg hL S'' hN hS hF;obtain⟨j,x,q1,q2,q3⟩:=Zbw 0 as' id o' hm;rw[Znp]at q3;obtain⟨⟨aa,haa⟩,_,L2,r2,r3,hro⟩:=hout j x id o' q1 q2 q3.symm hg;rw[hL]at r2;obtain rfl:=ZmY r2;refine ZB.pureArg haa (fun _ _ _=>rfl) (fun b1 hb1=> ?_) (fun _ _=>rfl) hro
   by_cases h1:S1 b1
   ·rcases hS1i b1 h1 with h2 |⟨g,Lg,h2,h3,h4⟩
    ·exact hS b1 h2
    ·obtain⟨o1,q1,q2⟩:=hfs0 g h2;exact hF g h2 o1 Lg b1 q1 q2 h3 h4
   ·exact hN b1 ⟨hb1,h1⟩)
  (by
   intro S'' hN hS hF _ _;have hS2:∀b1,S2 b1->S'' b1:=fun b1 hb1=>by
    by_cases h1:S1 b1
    ·rcases hS1i b1 h1 with h2 |⟨g,Lg,h2,h3,h4⟩
     ·exact hS b1 h2
     ·obtain⟨o1,q1,q2⟩:=hfs0 g h2;exact hF g h2 o1 Lg b1 q1 q2 h3 h4
    ·exact hN b1 ⟨hb1,h1⟩
   have each:∀(j:Nat) (hj:j < vs.size) (hjr:j < rds.length),RelD w' S'' ρc vs[j] rds[j]:=by
    intro j hj hjr;have hjl:j < ret.res.length:=by omega
    have hs:=hrep2.slots j;have hsv:vs.getD j undef=vs[j]:=by simp[hj]
    rw[hsv,show (ZcE ret).slots j=Zam D.dead (Zkj 0 ret.res) j from rfl]at hs;have:=ZhI 0 ret.res j ret.res[j] (ZmH hjl);rw[Znp]at this;rw[this]at hs;have hat:=rg j ret.res[j] rds[j] (ZmH hjl) (ZmH hjr);rw[Znp]at hat;generalize vs[j]=v at hs;generalize ret.res[j]=x at hs hat;generalize rds[j]=d at hat;cases x with
    |p x=>
     simp only[RV.at,ZmZ]at hat;subst hat;exact .p _ _ (hs.of_p.mono (fun _ _ _=>rfl) hS2)
    |own sz es=>
     simp only[RV.at,ZmZ]at hat;subst hat;cases hs with
     |sl _ _ _ cap ad L hL hl hm hcp ha=>exact .sl _ 0 _ cap ad L (by rw[hρn];exact hL) hl hm hcp ha
    |box cs=>
     simp only[RV.at,ZmZ]at hat;subst hat;cases hs with
     |ptr _ _ _ L b hL hi hb=>exact .ptr _ 0 0 L b (by rw[hρn];exact hL) hi hb
    |map td kv=>
     simp only[RV.at,ZmZ]at hat;subst hat;cases hs with
     |map _ L b hL hb=>exact .map _ L b (by rw[hρn];exact hL) hb
    |view kk off len=>
     simp only[RV.at]at hat;split at hat;rotate_left;simp at hat;rename_i x hx;split at hat;rotate_left;simp at hat;rename_i id hid;cases hat;cases hs with
     |sl _ _ _ cap ad L hL hl hm hcp ha=>
      obtain⟨_,o1,L0,q1,q2,q3,q4⟩:=hlent kk x id hx hid;have:=hrep2.lay kk L0 q4 (by rw[hL];simp);rw[hL]at this;obtain rfl:=ZmY this;exact .sl id off _ cap ad L (hρc _ _ q3) hl hm hcp ha
    |aown pre sz es post=>
     simp only[RV.at,ZmZ]at hat;subst hat;exact RelD.aown hs hS2 (hρn _)
   have hvr:vs.size=rds.length:=by omega
   show RelD _ _ _ _ (tupD rds);unfold tupD;split
   ·rename_i d;have h1:vs.size=1:=by simpa using hvr
    have:=each 0 (by omega) (by simp);unfold ZgO;rw[dif_pos h1];simpa using this
   ·rename_i hne;have h1:vs.size≠1:=fun h1=>by
     rw[h1]at hvr
     match rds,hvr with
     | [d],_=>exact hne d rfl
    unfold ZgO;rw[dif_neg h1];refine .tup _ _ hvr fun j u d hu hd=> ?_
    obtain⟨hj,rfl⟩:=Zmy.1 hu;obtain⟨hj',rfl⟩:=ZmI.1 hd;exact each j hj hj')
 exact⟨ρc,S',a.put o.dst (ZgO vs),w',hrepc,by simp[hd],hsteps⟩
end
end Eng
namespace Eng
open Go
def Zm (lk lk':Id->Option Obj) (l:List Id):Prop:=∀id∈l,lk id=lk' id
theorem ZkN {lk:Id->Option Obj}:∀(n:Nat) (d:D) (id:Id),id∈d.ids lk n->id∈d.ids lk (n+1):=by
 intro n
 induction n with
 |zero=>
  intro d id h;cases d with
  |ptr e i j=>simp only[D.ids,ZmQ]at h;subst h;simp[D.ids]
  |agg cs=>simp[D.ids]at h
  |tup cs=>simp[D.ids]at h
  |fn f a b=>simp[D.ids]at h
  |it e=>simpa[D.ids]using h
  |sl e o l=>simpa using h
  |map e=>simpa using h
  |_=>simp[D.ids]at h
 |succ n k=>
  intro d id h;have g:∀cs:List D,id∈cs.flatMap (D.ids lk n)->id∈cs.flatMap (D.ids lk (n+1)):=fun cs p=>by obtain⟨c,q,hi⟩:=ZmP.1 p;exact ZmP.2 ⟨c,q,k c id hi⟩
  cases d with
  |ptr e i j=>
   simp only[D.ids,ZmN]at h|-
   rcases h with h |h
   ·exact .inl h
   ·right;split at h;rotate_left;simp at h;rename_i cs m;exact g _ h
  |agg cs=>simp only[D.ids]at h|-;exact g _ h
  |tup cs=>simp only[D.ids]at h|-;exact g _ h
  |fn f a b=>
   simp only[D.ids,ZmM]at h|-
   exact h.imp (g _) (g _)
  |it e=>simpa[D.ids]using h
  |sl e o l=>simpa using h
  |map e=>simpa using h
  |_=>simp[D.ids]at h
theorem ZdQ {lk:Id->Option Obj} {n m:Nat} (h:n<=m) (d:D) {id:Id} (hi:id∈d.ids lk n):id∈d.ids lk m:=by
 induction h with
 |refl=>exact hi
 |step _ a=>exact ZkN _ _ _ a
theorem ZbK {a β:Type} {f g:a->Option β}:∀{l:List a},(∀x∈l,f x=g x)->Zh f l=Zh g l
 | [],_=>rfl
 |x::l,h=>by simp only[Zh,h x (by simp),ZbK (l:=l) fun y b=>h y (by simp[b])]
theorem ZC {lk lk':Id->Option Obj}:∀(n:Nat) (d:D),Zm lk lk' (d.ids lk n)->d.toP lk n=d.toP lk' n/\d.ids lk n=d.ids lk' n:=by
 intro n
 induction n with
 |zero=>
  intro d h;cases d with
  |sl id o l=>rw[Zbh,Zbh,h id (by simp)];simp
  |map id=>rw[Zbi,Zbi,h id (by simp)];simp
  |_=>simp[D.toP,D.ids]
 |succ n ih=>
  intro d h;have lst:∀cs:List D,(∀id∈cs.flatMap (D.ids lk n),lk id=lk' id)->Zh (D.toP lk n) cs=Zh (D.toP lk' n) cs/\cs.flatMap (D.ids lk n)=cs.flatMap (D.ids lk' n):=fun cs hm=>by
   have hh:∀c∈cs,D.toP lk n c=D.toP lk' n c/\D.ids lk n c=D.ids lk' n c:=fun c hc=>ih c fun id hid=>hm id (ZmP.2 ⟨c,hc,hid⟩)
   refine⟨ZbK fun c hc=>(hh c hc).1, ?_⟩;clear hm
   induction cs with
   |nil=>rfl
   |cons c cs ihc=>
    simp only[Zna,(hh c (by simp)).2,ihc fun c hc=>hh c (by simp[hc])]
  cases d with
  |sl id o l=>rw[Zbh,Zbh,h id (by simp)];simp
  |map id=>rw[Zbi,Zbi,h id (by simp)];simp
  |agg cs=>
   obtain⟨q1,q2⟩:=lst cs (fun id hid=>h id (by simpa[D.ids]using hid));simp[D.toP,D.ids,q1,q2]
  |ptr id i j=>
   have h0:=h id (by simp[D.ids]);cases hlk:lk id with
   |none=>rw[hlk]at h0;simp[D.toP,D.ids,hlk,<-h0]
   |some o=>
    rw[hlk]at h0;cases o with
    |box cs=>
     obtain⟨q1,q2⟩:=lst (cs.drop j) (fun id' hid=>h id' (by simp only[D.ids,hlk,ZmN];exact .inr hid));simp only[D.toP,D.ids,hlk,<-h0,q1,q2,and_self]
    |_=>simp[D.toP,D.ids,hlk,<-h0]
  |tup cs=>
   obtain⟨q1,q2⟩:=lst cs (fun id hid=>h id (by simpa[D.ids]using hid));simp[D.toP,D.ids,q2]
  |fn f a b=>
   obtain⟨q1,q2⟩:=lst a (fun id hid=>h id (by simp only[D.ids,ZmM];exact .inl hid));obtain⟨q3,q4⟩:=lst b (fun id hid=>h id (by simp only[D.ids,ZmM];exact .inr hid));simp[D.toP,D.ids,q1,q2,q3,q4]
  |_=>simp[D.toP,D.ids]
def Zda (E:Env) (sl:Nat->D) (lk:Id->Option Obj) (xs:List Operand):List Id:=xs.flatMap fun x=>(ev E sl 0 x).ids lk (depth+1)
theorem Zh0 {E:Env} {sl:Nat->D} {lk:Id->Option Obj} (n t:Nat) (x:Operand):(ev E sl t x).ids lk n=(ev E sl 0 x).ids lk n:=by
 cases x with
 |const v=>
  have:∀sz td,(D.ofV sz td v).ids lk n=[]:=by intro sz td;unfold D.ofV;split<;>cases n<;>simp[D.ids]
  simp only[ev,this]
 |_=>rfl
section
variable {E:Env} {sl sl':Nat->D} {lk lk':Id->Option Obj} {xs:List Operand}
theorem ZaD (h:Zm lk lk' (Zda E sl lk xs)) {x:Operand} (c:x∈xs) (t:Nat) {n:Nat} (b:n<=depth+1):Zm lk lk' ((ev E sl t x).ids lk n):=fun id a=>by refine h id (ZmP.2 ⟨x,c, ?_⟩);rw[<-Zh0 (depth+1) t x];exact ZdQ b _ a
theorem Zdv {d:D} {sz:Nat} (h:Zm lk lk' (d.ids lk 1)):ZcA lk sz d=ZcA lk' sz d:=by
 have:=(ZC 1 d h).1;unfold ZcA;split
 ·rfl
 ·rw[this]
theorem Ziz {d:D} {td:TD} (h:Zm lk lk' (d.ids lk 1)):Zgf lk td d=Zgf lk' td d:=by
 unfold Zgf;split<;>try rfl
 rename_i id _;rw[h _ (by simp)]
theorem Zg7 {d:D} (h:Zm lk lk' (d.ids lk 1)):Zfr lk d=Zfr lk' d:=by
 unfold Zfr;split<;>try rfl
 rw[h _ (by simp)]
theorem Zbr {t:Nat} {te:TI} (b:∀t x,x∈xs->ev E sl t x=ev E sl' t x) (h:Zm lk lk' (Zda E sl lk xs)):
  ∀(a:List (Nat×Operand)) (es:List P),(∀p∈a,p.2∈xs)->ZD E sl lk t te a es=ZD E sl' lk' t te a es
 | [],_,_=>rfl
 |(i,x)::r,es,hp=>by
  have d:=hp (i,x) (by simp);simp only[ZD,<-b t x d,<-(ZC depth _ (ZaD h d t (by decide))).1];split
  ·split
   ·exact Zbr b h r _ fun p c=>hp p (by simp[c])
   ·rfl
  ·rfl
theorem ZdR {t:Nat} (b:∀t x,x∈xs->ev E sl t x=ev E sl' t x) (h:Zm lk lk' (Zda E sl lk xs)):
  ∀(a:List (Nat×Operand)),(∀p∈a,p.2∈xs)->ZcP E sl lk t a=ZcP E sl' lk' t a
 | [],_=>rfl
 |(i,x)::r,hp=>by
  have d:=hp (i,x) (by simp);have:=ZdR (t:=t) b h r fun p c=>hp p (by simp[c])
  unfold ZcP at this|-
  simp only[Zna,<-b t x d,<-(ZC depth _ (ZaD h d t (by decide))).2,this]
theorem Zc4 {ti:TI} (b:∀t x,x∈xs->ev E sl t x=ev E sl' t x):∀(a:List (Nat×Operand)) (cs:List D),(∀p∈a,p.2∈xs)->ZbS E sl ti a cs=ZbS E sl' ti a cs
 | [],_,_=>rfl
 |(i,x)::r,cs,hp=>by
  have d:=hp (i,x) (by simp);simp only[ZbS];split
  ·split
   ·simp only[<-b _ x d];split
    ·exact Zc4 b r _ fun p c=>hp p (by simp[c])
    ·rfl
   ·rfl
  ·rfl
theorem Zba (a:∀t x,x∈xs->ev E sl t x=ev E sl' t x):∀(args:List Operand) (ts:List Nat),(∀x∈args,x∈xs)->ZT E sl args ts=ZT E sl' args ts
 | [],_,_=>by cases ‹List Nat› <;>rfl
 |x::r,[],h=>by simp only[ZT,a 0 x (h x (by simp)),Zba a r [] fun y b=>h y (by simp[b])]
 |x::r,t::ts,h=>by simp only[ZT,a t x (h x (by simp)),Zba a r ts fun y b=>h y (by simp[b])]
theorem Zec (h:Zm lk lk' (Zda E sl lk xs)):∀(args:List Operand) (ts:List Nat),(∀x∈args,x∈xs)->∀d∈ZT E sl args ts,Zm lk lk' (d.ids lk (depth+1))
 | [],ts,_,d,a=>by cases ts<;>simp[ZT]at a
 |x::r,[],hx,d,a=>by
  simp only[ZT,ZmN]at a;rcases a with rfl |a
  ·exact ZaD h (hx x (by simp)) 0 (ZmT _)
  ·exact Zec h r [] (fun y b=>hx y (by simp[b])) d a
 |x::r,t::ts,hx,d,a=>by
  simp only[ZT,ZmN]at a;rcases a with rfl |a
  ·exact ZaD h (hx x (by simp)) t (ZmT _)
  ·exact Zec h r ts (fun y b=>hx y (by simp[b])) d a
end
end Eng
namespace Eng
open Go
def D.shal:D->List Id
 | .sl id _ _=>[id]
 | .ptr id _ _=>[id]
 | .map id=>[id]
 | .it id=>[id]
 |_=>[]
def ZdU (E:Env) (op:Op) (sl:Nat->D) (lk:Id->Option Obj):List Id:=
 match op with
 | .move _ | .assign _ | .pick .. | .alloc _ | .box .. | .build .. | .nilCheck _ | .fieldAddr .. | .field .. | .binOp .. | .unOp .. | .extract .. | .makeFunc .. | .makeMap .. | .makeSlice .. | .index .. =>[]
 | .load _ a=>(ev E sl 0 a).shal
 | .store _ a x=>(ev E sl 0 a).shal++(ev E sl 0 x).ids lk depth
 | .indexAddr _ x _=>(ev E sl 0 x).shal
 | .slice _ x _ _ _=>(ev E sl 0 x).shal
 | .next x _=>(ev E sl 0 x).shal
 | .entry x=>(ev E sl 0 x).shal
 | .range _ x=>(ev E sl 0 x).shal
 |op=>Zda E sl lk op.operands.toList
theorem Zbm {E:Env} {sl sl':Nat->D} {x:Option Operand} (h:∀y,x=some y->ev E sl 0 y=ev E sl' 0 y):ZbO E sl x=ZbO E sl' x:=by
 cases x with
 |none=>rfl
 |some y=>simp only[ZbO,h y rfl]
theorem ZU {E:Env} {sl sl':Nat->D} {lk lk':Id->Option Obj}:∀{xs:List Operand},(∀t x,x∈xs->ev E sl t x=ev E sl' t x)->Zm lk lk' (Zda E sl lk xs)->Zda E sl lk xs=Zda E sl' lk' xs
 | [],_,_=>rfl
 |x::r,he,h=>by
  have d:Zm lk lk' ((ev E sl 0 x).ids lk (depth+1)):=fun id a=>h id (ZmP.2 ⟨x,by simp,a⟩)
  have c:Zm lk lk' (Zda E sl lk r):=fun id a=>by obtain⟨y,b,hi⟩:=ZmP.1 a;exact h id (ZmP.2 ⟨y,by simp[b],hi⟩)
  have:=ZU (xs:=r) (fun t y b=>he t y (by simp[b])) c;unfold Zda at this|-
  simp only[Zna,<-he 0 x (by simp),<-(ZC _ _ d).2,this]
section
variable {E:Env} {sl sl':Nat->D} {lk lk':Id->Option Obj}
theorem Zbe {t:Nat} {m k v:Operand} (a:∀t x,x∈[m,k,v]->ev E sl t x=ev E sl' t x) (h:Zm lk lk' (Zda E sl lk [m,k,v])):ZX E sl lk t m k v=ZX E sl' lk' t m k v:=by
 have e:=fun t=>a t m (by simp)
 have d:=fun t=>a t k (by simp)
 have g:=fun t=>a t v (by simp)
 have i:=fun t n=>ZaD (n:=n) h (x:=m) (by simp) t
 have f:=fun t=>(ZC 1 _ (ZaD h (x:=k) (by simp) t (by decide)))
 have b:=fun t=>(ZC depth _ (ZaD h (x:=v) (by simp) t (by decide)))
 unfold ZX;simp only[<-e,<-d,<-g,<-f,<-b];split<;>try rfl
 split<;>try rfl
 rename_i id c;have:=i 0 1 (by decide) id (by rw[c];simp);rw[this]
theorem Zev {ep i s t:Nat} {d:D} (h:Zm lk lk' (d.ids lk 1)):Zar E ep i lk s t d=Zar E ep i lk' s t d:=by
 have:=(ZC 1 d h).1;unfold Zar;split<;>try rfl
 rw[this]
theorem ZfW {sz:Option Nat} {d:D} {a b c:Option Int} (h:Zm lk lk' d.shal):ZaL lk sz d a b c=ZaL lk' sz d a b c:=by
 unfold ZaL;split<;>try rfl
 rename_i id _ _;rw[h id (by simp[D.shal])]
theorem Zcu {ep i:Nat} {te:TI} {s:D} {xs:List P} (a:Zm lk lk' (s.ids lk 1)):Z6 lk ep i te s xs=Z6 lk' ep i te s xs:=by
 unfold Z6;split<;>try rfl
 rename_i id _;rw[a id (by simp)]
theorem ZfI {ep i:Nat} {te:TI} {s x:D} (a:Zm lk lk' (s.ids lk 1)) (b:Zm lk lk' (x.ids lk 1)):ZaJ lk ep i te s x=ZaJ lk' ep i te s x:=by
 unfold ZaJ;rw[Zdv b];split
 ·rfl
 ·exact Zcu a
theorem Zhl {te:TI} {s x:D} (a:Zm lk lk' (s.ids lk 1)) (b:Zm lk lk' (x.ids lk 1)):ZfE lk te s x=ZfE lk' te s x:=by
 unfold ZfE;split<;>try rfl
 rename_i id _ _;rw[a id (by simp)];split<;>try rfl
 rw[Zdv b]
theorem Zew {ep i:Nat} {b:Builtin} {c:List Nat} {e:List D} (h:∀d∈e,Zm lk lk' (d.ids lk (depth+1))):ZI E ep i lk b c e=ZI E ep i lk' b c e:=by
 have a:∀d∈e,Zm lk lk' (d.ids lk 1):=fun d g id f=>h d g id (ZdQ (by decide) d f)
 unfold ZI;split<;>try rfl
 ·unfold Ziy;split<;>try rfl
  rename_i t d;simp only[show ∀td,Zgf lk td d=Zgf lk' td d from fun td=>Ziz (a d (by simp))]
 ·unfold Zb7;split<;>try rfl
  rename_i t u s x;simp only[show ∀te,ZaJ lk ep i te s x=ZaJ lk' ep i te s x from fun te=>ZfI (a s (by simp)) (a x (by simp)),show ∀te xs,Z6 lk ep i te s xs=Z6 lk' ep i te s xs from fun te xs=>Zcu (a s (by simp))]
 ·unfold ZiQ;split<;>try rfl
  rename_i t _ d s;simp only[show ∀te,ZfE lk te d s=ZfE lk' te d s from fun te=>Zhl (a d (by simp)) (a s (by simp))]
 ·unfold Zd4;split<;>try rfl
  rename_i t _ id k;rw[a (.map id) (by simp) id (by simp),(ZC 1 _ (a k (by simp))).1]
theorem ZiP {ep i:Nat} {A:Op} {ty:Nat} (d:∀t x,x∈A.operands.toList->ev E sl t x=ev E sl' t x) (h:Zm lk lk' (ZdU E A sl lk)):
  Zd E ep i A ty sl lk=Zd E ep i A ty sl' lk'/\ZdU E A sl lk=ZdU E A sl' lk':=by
 cases A with
 |move x=>have:=fun t=>d t x (by simp[Op.operands]);exact⟨by simp only[Zd,this],rfl⟩
 |assign x=>have:=fun t=>d t x (by simp[Op.operands]);exact⟨by simp only[Zd,this],rfl⟩
 |pick c a b=>
  have e:=fun t=>d t c (by simp[Op.operands])
  have q:=fun t=>d t a (by simp[Op.operands])
  have K:=fun t=>d t b (by simp[Op.operands])
  exact⟨by simp only[Zd,e,q,K],rfl⟩
 |alloc t=>exact⟨rfl,rfl⟩
 |box t x=>have:=fun t=>d t x (by simp[Op.operands]);exact⟨by simp only[Zd,this],rfl⟩
 |build t z=>
  refine⟨?_,rfl⟩;have:=fun ti cs=>Zc4 (E:=E) (sl:=sl) (sl':=sl') (ti:=ti) (xs:=z.toList.map (·.2)) (fun t x j=>d t x (by simpa[Op.operands]using j)) z.toList cs (fun p C=>Znl C)
  simp only[Zd,this]
 |buildSlice t n z=>
  have J:Zm lk lk' (Zda E sl lk (z.toList.map (·.2))):=by simpa[ZdU,Op.operands]using h
  have o:∀t x,x∈z.toList.map (·.2)->ev E sl t x=ev E sl' t x:=fun t x j=>d t x (by simpa[Op.operands]using j)
  have e:=fun t te es=>Zbr (t:=t) (te:=te) o J z.toList es (fun p C=>Znl C)
  have q:=fun t=>ZdR (t:=t) o J z.toList (fun p C=>Znl C)
  exact⟨by simp only[Zd,e,q],ZU d h⟩
 |insert t m k v=>
  have o:∀t x,x∈[m,k,v]->ev E sl t x=ev E sl' t x:=fun t x j=>d t x (by simpa[Op.operands]using j)
  exact⟨by simp only[Zd];exact Zbe o (by simpa[ZdU,Op.operands]using h),ZU d h⟩
 |mapUpdate t m k v=>
  have o:∀t x,x∈[m,k,v]->ev E sl t x=ev E sl' t x:=fun t x j=>d t x (by simpa[Op.operands]using j)
  exact⟨by simp only[Zd];exact Zbe o (by simpa[ZdU,Op.operands]using h),ZU d h⟩
 |load t x=>
  have e:=fun t=>d t x (by simp[Op.operands])
  refine⟨?_,by simp only[ZdU,e]⟩;simp only[ZdU]at h;simp only[Zd,<-e];split<;>try rfl
  split<;>try rfl
  rename_i id _ _ o;rw[h id (by rw[o];simp[D.shal])]
 |store t a x=>
  have e:=fun t=>d t a (by simp[Op.operands])
  have q:=fun t=>d t x (by simp[Op.operands])
  simp only[ZdU]at h;have j:Zm lk lk' ((ev E sl t x).ids lk depth):=fun id g=>h id (by rw[Zh0]at g;simp[g])
  have F:Zm lk lk' ((ev E sl 0 x).ids lk depth):=fun id g=>h id (by simp[g])
  refine⟨?_,by simp only[ZdU,<-e,<-q,<-(ZC depth _ F).2]⟩;simp only[Zd,<-e,<-q,<-(ZC depth _ j).1,<-(ZC depth _ j).2];split<;>try rfl
  split<;>try rfl
  rename_i id _ _ o;rw[h id (by rw[o];simp[D.shal])]
 |nilCheck x=>have:=fun t=>d t x (by simp[Op.operands]);exact⟨by simp only[Zd,this],rfl⟩
 |binOp b t x y u=>
  have e:=fun t=>d t x (by simp[Op.operands])
  have q:=fun t=>d t y (by simp[Op.operands])
  exact⟨by simp only[Zd,e,q],rfl⟩
 |unOp u t x=>have:=fun t=>d t x (by simp[Op.operands]);exact⟨by simp only[Zd,this],rfl⟩
 |convert s t x=>
  have e:=fun t=>d t x (by simp[Op.operands])
  refine⟨?_,ZU d h⟩;simp only[Zd,<-e];exact Zev fun id g=>h id (ZmP.2 ⟨x,by simp[Op.operands],ZdQ (by decide) _ g⟩)
 |makeFunc f fs cs=>
  refine⟨?_,rfl⟩;have e:fs.toList.map (ev E sl 0)=fs.toList.map (ev E sl' 0):=List.map_congr_left fun x j=>d 0 x (by simp[Op.operands]at j|-;exact .inl j)
  have q:cs.toList.map (ev E sl 0)=cs.toList.map (ev E sl' 0):=List.map_congr_left fun x j=>d 0 x (by simp[Op.operands]at j|-;exact .inr j)
  cases f<;>simp only[Zd,e,q]
 |makeMap t r=>refine⟨?_,rfl⟩;cases r<;>simp only[Zd]
 |makeSlice t l c=>
  have e:=fun t=>d t l (by simp[Op.operands])
  have q:=fun t=>d t c (by simp[Op.operands])
  exact⟨by simp only[Zd,e,q],rfl⟩
 |slice t x lo hi mx=>
  have e:=fun t=>d t x (by simp[Op.operands])
  have N:=Zbm (E:=E) (sl:=sl) (sl':=sl') (x:=lo) fun y B=>d 0 y (by subst B;simp[Op.operands])
  have M:=Zbm (E:=E) (sl:=sl) (sl':=sl') (x:=hi) fun y B=>d 0 y (by subst B;simp[Op.operands])
  have L:=Zbm (E:=E) (sl:=sl) (sl':=sl') (x:=mx) fun y B=>d 0 y (by subst B;simp[Op.operands])
  simp only[ZdU]at h;refine⟨?_,by simp only[ZdU,e]⟩;have:=fun sz a b c=>ZfW (sz:=sz) (a:=a) (b:=b) (c:=c) h
  simp only[Zd,<-e,<-N,<-M,<-L,this]
 |fieldAddr t x f=>have:=fun t=>d t x (by simp[Op.operands]);exact⟨by simp only[Zd,this],rfl⟩
 |field t x f=>have:=fun t=>d t x (by simp[Op.operands]);exact⟨by simp only[Zd,this],rfl⟩
 |indexAddr t x G=>
  have e:=fun t=>d t x (by simp[Op.operands])
  have q:=fun t=>d t G (by simp[Op.operands])
  simp only[ZdU]at h;refine⟨?_,by simp only[ZdU,e]⟩;simp only[Zd,<-e,<-q];split<;>try rfl
  split<;>try rfl
  split<;>try rfl
  split<;>try rfl
  rename_i id _ _ o;rw[h id (by rw[o];simp[D.shal])]
 |index t x G=>
  have e:=fun t=>d t x (by simp[Op.operands])
  have q:=fun t=>d t G (by simp[Op.operands])
  exact⟨by simp only[Zd,e,q],rfl⟩
 |lookup t m k Q=>
  have e:=fun t=>d t m (by simp[Op.operands])
  have q:=fun t=>d t k (by simp[Op.operands])
  refine⟨?_,ZU d h⟩;have P:Zfr lk (ev E sl 0 m)=Zfr lk' (ev E sl 0 m):=Zg7 fun id g=>h id (ZmP.2 ⟨m,by simp[Op.operands],ZdQ (by decide) _ g⟩)
  have O:=fun t=>(ZC (lk:=lk) (lk':=lk') 1 (ev E sl t k) fun id g=>h id (ZmP.2 ⟨k,by simp[Op.operands],by rw[Zh0]at g;exact ZdQ (by decide) _ g⟩)).1
  simp only[Zd,<-e,<-q,P,O]
 |range t x=>
  have e:=fun t=>d t x (by simp[Op.operands])
  simp only[ZdU]at h;refine⟨?_,by simp only[ZdU,e]⟩;simp only[Zd,<-e];split<;>try rfl
  rename_i id _ o;rw[h id (by rw[o];simp[D.shal])]
 |next x s=>
  have e:=fun t=>d t x (by simp[Op.operands])
  simp only[ZdU]at h;refine⟨?_,by simp only[ZdU,e]⟩;cases s with
  |false=>simp only[Zd]
  |true=>
   simp only[Zd,<-e];split<;>try rfl
   rename_i id o;rw[h id (by rw[o];simp[D.shal])]
 |entry x=>
  have e:=fun t=>d t x (by simp[Op.operands])
  simp only[ZdU]at h;refine⟨?_,by simp only[ZdU,e]⟩;simp only[Zd,<-e];split<;>try rfl
  rename_i id o;rw[h id (by rw[o];simp[D.shal])]
 |extract x n=>have:=fun t=>d t x (by simp[Op.operands]);exact⟨by simp only[Zd,this],rfl⟩
 |call c=>
  obtain⟨I,args,w⟩:=c;refine⟨?_,ZU d h⟩;cases I with
  |builtin b=>
   simp only[Zd];have j:∀x∈args.toList,x∈(Op.call {callee:= .builtin b,args:=args,argTypes:=w}).operands.toList:=fun x j=>by simpa[Op.operands,Call.operands]using j
   rw[<-Zba (xs:=args.toList) (fun t x H=>d t x (j x H)) args.toList w.toList (fun x j=>j)];exact Zew (Zec h args.toList w.toList j)
  |_=>simp only[Zd]
 |_=>exact⟨by simp only[Zd],ZU d h⟩
end
end Eng
namespace Eng
open Go
def Exec (C:Ctx) (r:Fm) (ops:Array Oper) (i:Nat) (f c:St):Prop:=
 ∀(X:Nat->Prop),¬X i->∀ρ S a w,Rep C X ρ S f a.tmps w->a.defers=r.ds->∀(b:Frame) (rest:List Nat) (e:List Go.Item) (cs:List Frame),b.roundOf=r.r->
  ∃ρ' S' d w',Rep C (fun j=>X j\/j=i) ρ' S' c d.tmps w'/\d.defers=r.ds/\
   StepsIn (Machine.fenced C.E.prog (Zck r.r)) C.E.prog (lone (b.atR a (.inRegion ops (i::rest)::e)) cs w) (lone (b.atR d (.inRegion ops rest::e)) cs w')
section
variable {C:Ctx} {r:Fm}
theorem Zl3 {ops:Array Oper} {i:Nat} {o:Oper} {g:St} {e:Eff} (E:Zl C.E) (z:ops[i]? =some o) (A:ZQ ops g o.guard=some true)
  (t:Zd C.E g.ep i o.op o.type g.slots g.objs=some e) (p:Zfk C.E o=true) (hw:Zem g e=true) (f:∀q∈e.cond,q=true):Exec C r ops i g (g.app i o.dst e):=by
 intro X F ρ S a w x B b rest y cs G;obtain⟨n,v,w',j,D,ρ',S',l⟩:=does x F p E t hw f;have h:=ZaT x A;refine⟨ρ',S',a.put o.dst v,w',l,by simp[B], ?_⟩;have m:o.semAt b.roundOf a.eval=execOp a.eval o:=Oper.semAt_eq _ _ _ (fun c s=>by rw[s]at t;simp[Zd]at t);have u:=stepGR_op (P:=C.E.prog) (b:=b) (a:=a) (k:=y) (cs:=cs) (w:=w) (i:=i) (rest:=rest) z h;have d:=Frame.finish_atR b a ops i rest y v;simp only[z,Znq]at d;refine .one (Zx _ _ _) ?_;refine step_lone_go ?_;rw[u,m,<-d];rcases D with rfl |⟨rfl,rfl⟩<;>simp[stepG.apply,j]
theorem Zgr {ops:Array Oper} {i:Nat} {o:Oper} {g:St} (m:ops[i]? =some o) (u:ZQ ops g o.guard=some false) (q:Zdc C.E o=true):Exec C r ops i g (g.app i o.dst {val:= .undef}):=by intro X s ρ S a w l n b rest p cs x;have c:=ZaT l u;obtain⟨S',f⟩:=l.step (i:=i) (t:=o.dst) (e:={val:= .undef}) (v:=undef) (w':=w) ρ s (Za9 q) (ZmT _) (ZS.refl _) (fun _ _ _=>rfl) (by simp) (fun _ _ h=>h) (fun id h=> .inl h) (by simp) (fun _ _ j=>by simp at j) (fun _ _ _ _ _ _ _ j=>by simp at j) (by simp) (fun _ _ _ _ _=> .undef);refine⟨ρ,S',a.put o.dst undef,w,f,by simp[n], ?_⟩;have d:=stepR_op_skip (P:=C.E.prog) (b:=b) (a:=a) (k:=p) (cs:=cs) (w:=w) (ops:=ops) (i:=i) (rest:=rest) (by simp[m,c]);simp only[m,Znq]at d;exact .one (Zx _ _ _) d
def ZaR (E:Env) (sl:Nat->D) (lk:Id->Option Obj) (xs:List Operand):List Id:=xs.flatMap fun x=>(ev E sl 0 x).ids lk (depth+2)
inductive OE (C:Ctx) (ops:Array Oper) (i:Nat) (o:Oper) (st:St):Eff->List Id->Prop
 |skip (hg:ZQ ops st o.guard=some false) (hd:Zdc C.E o=true):OE C ops i o st {val:= .undef} []
 |op {e:Eff} (hg:ZQ ops st o.guard=some true) (hc:Zd C.E st.ep i o.op o.type st.slots st.objs=some e) (hok:Zfk C.E o=true) (hw:Zem st e=true) (hcond:∀q∈e.cond,q=true):
   OE C ops i o st e (ZdU C.E o.op st.slots st.objs)
 |call {c:Call} {pts:List Nat} {ms:List AM} {f:Nat} {as:List AE} {ret:Ret} {e:Eff} (hg:ZQ ops st o.guard=some true) (hop:o.op= .call c) (hd:Zdc C.E o=true)
   (hpre:Zla C.E st c pts ms=some (f,as)) (hcnd:Zln (as.flatMap (·.cond))) (hf:Fun C.E f (as.map (·.arg)) ret) (he:ZfG st i as ret=some e):OE C ops i o st e (ZaR C.E st.slots st.objs c.operands.toList)
theorem OE.exec {ops:Array Oper} {i:Nat} {o:Oper} {l:St} {e:Eff} {R:List Id} (q:Zl C.E) (n:ops[i]? =some o) (h:OE C ops i o l e R):Exec C r ops i l (l.app i o.dst e):=by
 cases h with
 |skip f j=>exact Zgr n f j
 |op f z m hw c=>exact Zl3 q n f z m hw c
 |call f k j d g s x=>
  intro X y ρ S a w t p b rest v cs u;exact ZjR y q n f k j _ _ d g rfl s x t p b rest v cs u
theorem Zi0 {b a:St} {m:AM} {d:D} (h:Zm b.objs a.objs (d.ids b.objs (depth+1))):ZgE b m d=ZgE a m d:=by
 have n:=ZC depth d fun id i=>h id (ZdQ (by decide) d i)
 unfold ZgE;split
 ·rw[n.1,n.2]
 ·rename_i id;rw[<-h id (by simp[D.ids])];cases hlk:b.objs id with
  |none=>rfl
  |some o=>
   cases o with
   |box c=>
    have g:∀x∈c,x.toP b.objs depth=x.toP a.objs depth/\x.ids b.objs depth=x.ids a.objs depth:=fun x k=>ZC depth x fun f e=>h f (by
     simp only[D.ids,hlk,ZmN];exact .inr (ZmP.2 ⟨x,by simpa using k,e⟩))
    have j:Zh (fun d=>d.toP b.objs depth) c=Zh (fun d=>d.toP a.objs depth) c:=ZbK fun x k=>(g x k).1
    have l:(c.flatMap fun d=>d.ids b.objs depth)=c.flatMap fun d=>d.ids a.objs depth:=by
     clear hlk j
     induction c with
     |nil=>rfl
     |cons x r p=>simp only[Zna,(g x (by simp)).2,p fun y q=>g y (by simp[q])]
    simp only[j,l]
   |_=>rfl
 ·rename_i id len;rw[<-h id (by simp)]
 ·rename_i id;rw[<-h id (by simp)]
 ·rename_i id s len;rw[<-h id (by simp)]
 ·rename_i j l u v t
  first
   |rfl
   |(cases m<;>first |rfl |(cases d<;>simp_all))
theorem ZeY {lk:Id->Option Obj} {d:D} {g:Nat} {a c:List D} (h:Zb6 d=some (g,a,c)) (n:Nat):∀x,x∈a++c->∀id∈x.ids lk n,id∈d.ids lk (n+1):=by
 unfold Zb6 at h;split at h
 ·simp only[ZmZ,Zm0]at h;obtain⟨rfl,rfl,rfl⟩:=h;intro x e id b;simp only[ZmM,Znk]at e;rcases e with ⟨y,_,rfl⟩ |⟨y,_,rfl⟩<;>cases n<;>simp[D.ids]at b
 ·simp only[ZmZ,Zm0]at h;obtain⟨rfl,rfl,rfl⟩:=h;intro x e id b;simp only[D.ids,ZmM,ZmP];simp only[ZmM]at e;exact e.imp (fun h=>⟨x,h,b⟩) (fun h=>⟨x,h,b⟩)
 ·simp at h
theorem Zcn {E:Env} {sl sl':Nat->D} {lk lk':Id->Option Obj}:∀{xs:List Operand},(∀t x,x∈xs->ev E sl t x=ev E sl' t x)->Zm lk lk' (ZaR E sl lk xs)->ZaR E sl lk xs=ZaR E sl' lk' xs
 | [],_,_=>rfl
 |x::r,he,h=>by
  have d:Zm lk lk' ((ev E sl 0 x).ids lk (depth+2)):=fun id a=>h id (ZmP.2 ⟨x,by simp,a⟩)
  have c:Zm lk lk' (ZaR E sl lk r):=fun id a=>by obtain⟨y,b,hi⟩:=ZmP.1 a;exact h id (ZmP.2 ⟨y,by simp[b],hi⟩)
  have:=Zcn (xs:=r) (fun t y b=>he t y (by simp[b])) c;unfold ZaR at this|-
  simp only[Zna,<-he 0 x (by simp),<-(ZC _ _ d).2,this]
theorem Zeb {E:Env} {sl:Nat->D}:∀(args:List Operand) (ts:List Nat) (d:D),d∈ZT E sl args ts->∃x t,x∈args/\d=ev E sl t x
 | [],ts,d,h=>by cases ts<;>simp[ZT]at h
 |x::r,[],d,h=>by
  simp only[ZT,ZmN]at h;rcases h with rfl |h
  ·exact⟨x,0,by simp,rfl⟩
  ·obtain⟨y,t,a,rfl⟩:=Zeb r [] d h;exact⟨y,t,by simp[a],rfl⟩
 |x::r,t::ts,d,h=>by
  simp only[ZT,ZmN]at h;rcases h with rfl |h
  ·exact⟨x,t,by simp,rfl⟩
  ·obtain⟨y,t,a,rfl⟩:=Zeb r ts d h;exact⟨y,t,by simp[a],rfl⟩
theorem Zin {E:Env} {i a:St} {c:Call} {pts:List Nat} {ms:List AM} {f:Nat} {F:List AE} (z:∀t x,x∈c.operands.toList->ev E i.slots t x=ev E a.slots t x)
  (h:Zm i.objs a.objs (ZaR E i.slots i.objs c.operands.toList)) (H:∀k id,((0,k,0),id)∈Zaa 0 F->a.fz id=i.fz id) (l:Zla E i c pts ms=some (f,F)):Zla E a c pts ms=some (f,F):=by
 have p:∀x∈c.operands.toList,∀t,Zm i.objs a.objs ((ev E i.slots t x).ids i.objs (depth+2)):=fun x e t id n=>h id (ZmP.2 ⟨x,e,by rw[Zh0]at n;exact n⟩)
 unfold Zla at l|-
 split at l
 case h_2=>simp at l
 rename_i C s;have v:C∈c.operands.toList:=by simp[Call.operands,s]
 have o:∀x∈c.args.toList,x∈c.operands.toList:=fun x e=>by simp[Call.operands,s];exact .inr (by simpa using e)
 rw[<-z 0 C v];split at l
 case h_2=>simp at l
 rename_i g u A y
 simp only[<-Zba (xs:=c.operands.toList) z c.args.toList pts o];have B:∀d∈u++ZT E i.slots c.args.toList pts++A,∀m,ZgE i m d=ZgE a m d:=by
  intro d r m;refine Zi0 fun id n=> ?_
  simp only[ZmM]at r;rcases r with (r |r) |r
  ·exact p C v 0 id (ZeY y (depth+1) d (by simp[r]) id n)
  ·obtain⟨x,t,e,rfl⟩:=Zeb _ _ _ r;exact p x (o x e) t id (ZdQ (by decide) _ n)
  ·exact p C v 0 id (ZeY y (depth+1) d (by simp[r]) id n)
 rw[<-ZbK (f:=fun x:AM×D=>ZgE i x.1 x.2) (g:=fun x=>ZgE a x.1 x.2) fun x e=>B _ (List.of_mem_zip e).2 x.1];dsimp only at l|-
 split at l
 case isFalse=>simp at l
 rename_i w;simp only[w,if_true];split at l
 case h_2=>simp at l
 rename_i b J;split at l
 case isFalse=>simp at l
 rename_i G;simp only[ZmZ,Zm0]at l;obtain⟨rfl,rfl⟩:=l;have:Zf5 (a.freezeL (b.flatMap (·.fs))) (Zaa 0 b) 1=Zf5 (i.freezeL (b.flatMap (·.fs))) (Zaa 0 b) 1:=by
  unfold Zf5;congr 1;refine Bool.eq_iff_iff.2 ?_;simp only[Zm5];have I:∀x∈Zaa 0 b,(a.freezeL (b.flatMap (·.fs))).fz x.2=(i.freezeL (b.flatMap (·.fs))).fz x.2:=fun x e=>by obtain⟨j,L,_,K,_⟩:=Zbz 0 b x.1 x.2 e;rw[freezeL_fz,freezeL_fz,H (0+j) x.2 (by rw[<-K];exact e)]
  exact⟨fun q x e=>by have:=q x e;rwa [I x e]at this,fun q x e=>by have:=q x e;rwa [<-I x e]at this⟩
 simp only[this,G,if_true]
theorem Zhp {c a:St} {i:Nat} {b:List AE} {ret:Ret} (h:a.ep=c.ep):ZfG a i b ret=ZfG c i b ret:=by unfold ZfG;rw[h]
theorem Zfv {ops:Array Oper} {b a:St} {o:Oper} (h:∀t∈o.looksAt ops,a.slots t=b.slots t):ZQ ops a o.guard=ZQ ops b o.guard:=by
 cases hg:o.guard with
 |none=>rfl
 |some d=>
  obtain⟨g,w⟩:=d;simp only[ZQ];split
  ·rename_i t c;rw[h t (by simp[Oper.looksAt,hg,c])]
  ·rfl
theorem ZkQ {E:Env} {sl sl':Nat->D} {t:Nat} {x:Operand} (h:∀k,x= .tmp k->sl' k=sl k):ev E sl t x=ev E sl' t x:=by
 cases x with
 |tmp k=>simp only[ev,h k rfl]
 |_=>rfl
theorem OE.congr {ops:Array Oper} {i:Nat} {o:Oper} {b a:St} {e:Eff} {R:List Id} (h:OE C ops i o b e R) (E:∀t∈o.looksAt ops,a.slots t=b.slots t) (D:∀id∈R,a.objs id=b.objs id)
  (F:∀id∈e.wr.map (·.1),a.fz id=b.fz id) (q:a.ep=b.ep):OE C ops i o a e R:=by
 have v:∀t x,x∈o.op.operands.toList->ev C.E b.slots t x=ev C.E a.slots t x:=fun t x n=>ZkQ fun k K=>E k (by
  subst K;simp only[Oper.looksAt,ZmM,List.mem_filterMap];exact .inl ⟨.tmp k,n,rfl⟩)
 have l:=Zfv E;cases h with
 |skip u A=>exact .skip (by rw[l];exact u) A
 |op u H z hw g=>
  obtain⟨q1,G⟩:=ZiP (ep:=b.ep) (i:=i) (ty:=o.type) v (fun id m=>(D id m).symm);rw[G];refine .op (by rw[l];exact u) (by rw[q,<-q1];exact H) z ?_ g;unfold Zem at hw|-
  simp only[ZmC,Zm5]at hw|-
  exact⟨fun x n=>by rw[F x.1 (Znl n)];exact hw.1 x n,hw.2⟩
 |call u w A y s I r=>
  rename_i c pts ms f B ret;have d:∀t x,x∈c.operands.toList->ev C.E b.slots t x=ev C.E a.slots t x:=fun t x n=>v t x (by rw[w];exact n)
  have p:Zm b.objs a.objs (ZaR C.E b.slots b.objs c.operands.toList):=fun id m=>(D id m).symm
  rw[Zcn d p];refine .call (pts:=pts) (ms:=ms) (by rw[l];exact u) w A (Zin d p (fun k id L=> ?_) y) s I (by rw[Zhp q];exact r);obtain⟨j,x,q1,G,J⟩:=Zbz 0 B _ _ L;refine F id ?_;unfold ZfG at r;split at r;rotate_left;simp at r;cases r;exact Znk.2 ⟨_,Zdo 0 B j x id q1 J,rfl⟩
end
end Eng
