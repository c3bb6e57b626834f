/- The engine,text 2:an abstract evaluator of Go code over pure data,proved sound. -/
import Derived.Test.YtpddhnpfnefdeaaGreatDoorE1
import Derived.Laws.AppendOwn
import Derived.Laws.IdiomRangeMap
import Derived.Laws.RangeAny
import Derived.CallsIn
set_option linter.all false
open Array renaming getElem?_append->ZmT, getElem?_eq_some_iff->Zmp, getElem?_toList->ZmU, mem_iff_getElem->Zmr, mem_toList_iff->Zms, toArray_toList->ZmV
open Bool renaming and_eq_true->Zmt, not_eq_true'->ZmW
open List renaming all_eq_true->ZmX, any_eq_true->ZmY, cons_append->ZmZ, contains_iff_mem->Zm0, eq_nil_of_length_eq_zero->Zm1, flatMap_cons->Zm2, getElem?_append_left->Zm3, getElem?_append_right->Zm4, getElem?_cons_succ->Zm5, getElem?_cons_zero->Zm6, getElem?_eq_getElem->Zmz, getElem?_eq_some_iff->ZmA, getElem?_map->ZmB, getElem?_take->ZmC, length_replicate->Zm7, map_cons->ZmD, mem_append->ZmE, mem_append_left->Zm8, mem_append_right->Zm9, mem_cons->ZmF, mem_cons_of_mem->Zna, mem_cons_self->ZmG, mem_flatMap->ZmH, mem_iff_getElem->Znb, mem_map->Znc, mem_map_of_mem->Znd, mem_of_getElem?->Zne, mem_singleton->ZmI, pairwise_iff_getElem->Znf
open Nat renaming add_mul->ZmK, le_refl->ZmL, mul_le_mul_left->Zng, mul_le_mul_right->ZmM, zero_add->Znh
open Option renaming bind_some->Zni, map_eq_some_iff->ZmP, some.inj->ZmQ, some.injEq->ZmR
open Prod renaming mk.injEq->ZmS
namespace Eng
open Go
section
variable {C:Ctx} {X:Nat->Prop} {ρ:Id->Option Lay} {S:Nat->Prop} {st:St} {a:Act} {w:World} {i:Nat} {o:Oper} {e:Eff}
def flat (sz:Nat) (evs:Nat->Value):Nat->List Value
 |0=>[]
 |n+1=>flat sz evs n++(evs n).cells.toList
theorem Zdj {sz:Nat} {evs:Nat->Value}:∀{n:Nat},(∀j,j < n->(evs j).cells.size=sz)->(flat sz evs n).length=n*sz
 |0,_=>by simp[flat]
 |n+1,h=>by
  have:=Zdj (n:=n) fun j b=>h j (by omega)
  have a:=h n (by omega);simp only[flat,List.length_append,this,Array.length_toList,a,ZmK,Nat.one_mul]
theorem ZhT {sz:Nat} {evs:Nat->Value}:∀{n:Nat},(∀j,j < n->(evs j).cells.size=sz)->∀(j k:Nat) u,j < n->(evs j).cells[k]? =some u->(flat sz evs n)[j*sz+k]? =some u
 |0,_,j,k,u,a,_=>by omega
 |n+1,h,j,k,u,a,hu=>by
  have b:=Zdj (n:=n) fun j a=>h j (by omega)
  have c:k < sz:=by have:=(Zmp.1 hu).1;have:=h j a;omega
  simp only[flat]
  by_cases hjn:j=n
  ·subst hjn;rw[Zm4 (by omega),b,show j*sz+k - j*sz=k by omega];simpa using hu
  ·have:(j+1)*sz<=n*sz:=ZmM _ (by omega);rw[ZmK,Nat.one_mul]at this;rw[Zm3 (by omega)];exact ZhT (fun j a=>h j (by omega)) j k u (by omega) hu
theorem Zfv {sz:Nat} {evs:Nat->Value}:∀{n:Nat},(∀j,j < n->(evs j).cells.size=sz)->∀(m:Nat) u,(flat sz evs n)[m]? =some u->∃j k,j < n/\m=j*sz+k/\(evs j).cells[k]? =some u
 |0,_,m,u,a=>by simp[flat]at a
 |n+1,h,m,u,a=>by
  have c:=Zdj (n:=n) fun j e=>h j (by omega)
  simp only[flat]at a
  by_cases hm:m < n*sz
  ·rw[Zm3 (by omega)]at a;obtain⟨j,k,f,d,b⟩:=Zfv (fun j e=>h j (by omega)) m u a;exact⟨j,k,by omega,d,b⟩
  ·rw[Zm4 (by omega),c]at a;exact⟨n,m - n*sz,by omega,by omega,by simpa using a⟩
def Src (P:Program) (w:World) (S:Nat->Prop) (sz:Nat) (v:Value) (xs:List Eng.P):Prop:=
 ∃(news:List Value) (evs:Nat->Value),news.length=xs.length*sz/\xs.length<=Zq/\(∀w',(Builtin.lenOf v).run P w'= .ok xs.length w')/\
  (∀n,n<=xs.length->∀w',w'.heap=w.heap->(Builtin.firstCells sz n v).run P w'= .ok (news.take (n*sz)).toArray w')/\(∀u∈news,ZbO u)/\
  (∀j,j < xs.length->(evs j).cells.size=sz/\∀(k:Nat) u,(evs j).cells[k]? =some u->news[j*sz+k]? =some u)/\∀(j:Nat) x,xs[j]? =some x->RelP w S (evs j) x
theorem ZjW {w w':World} (h:w'.heap=w.heap) (x:Addr):w'.cell? x=w.cell? x:=by simp[World.cell?,h]
theorem Z8 {P:Program} {ad:Option Addr} {len cap sz:Nat} {es:List Eng.P} {evs:Nat->Value} (y:es.length=len) (z:len<=Zag)
  (a:∀i,i < len->(evs i).cells.size=sz)
  (c:∀i,i < len->∃b o,ad=some ⟨b,o,none⟩/\∀(j:Nat) v,(evs i).cells[j]? =some v->w.cell? ⟨b,o+i*sz+j,none⟩=some v)
  (t:∀(i:Nat) x,es[i]? =some x->RelP w S (evs i) x):Src P w S sz (.slice ad len cap) es:=by
 subst y;have r:=Zdj a;refine⟨flat sz evs es.length,evs,r,by unfold Zag at z;unfold Zq;omega,fun w'=>by simp[Builtin.lenOf],fun n B w' hw=> ?_,fun u d=> ?_,fun j e=>⟨a j e,fun k u d=>ZhT a j k u e d⟩,t⟩
 ·cases ad with
  |none=>
   have C:es.length=0:=by
    rcases Nat.eq_zero_or_pos es.length with h |h
    ·exact h
    ·obtain⟨b,o',l,_⟩:=c 0 h;simp at l
   have:n=0:=by omega
   subst this;simp[Builtin.firstCells]
  |some ad=>
   have f:((flat sz evs es.length).take (n*sz)).length=n*sz:=by have:n*sz<=es.length*sz:=ZmM _ B;simp;omega
   refine run_firstCells_some (P:=P) w' sz n ad es.length cap _ f fun m u d=> ?_
   rw[ZmC]at d;split at d;rotate_left;simp at d;obtain⟨j,k,e,rfl,g⟩:=Zfv a m u d;obtain⟨b,o',l,A⟩:=c j e;cases l;rw[Z4,ZjW hw,<-Nat.add_assoc];exact A k u g
 ·obtain⟨m,q,rfl⟩:=Znb.1 d;obtain⟨j,k,e,_,g⟩:=Zfv a m _ (Zmz q);have s:=t j es[j] (by simp[e]);have D:=s.size;have p:k < es[j].cells.length:=by have:=(Zmp.1 g).1;omega
  exact(s.cell g (Zmz p)).2
theorem Zds {P:Program} {lk:Id->Option Obj} (K:Objs w S ρ lk) {v:Value} {x:D} {sz:Nat} {xs:List Eng.P} (e:RelD w S ρ v x) (l:Zcz lk sz x=some xs):Src P w S sz v xs:=by
 unfold Zcz at l;split at l
 ·
  rename_i s;split at l;rotate_left;simp at l;rename_i r;subst r;cases l;obtain⟨rfl,m⟩:=e.of_p.str_inv;refine⟨s.map fun b=>Value.int .u8 b.toNat,fun j=> .int .u8 (s.getD j 0).toNat,by simp[ZaF],by simpa[ZaF]using m,fun w'=>by simp[Builtin.lenOf,ZaF,ZaY],fun n Z w' _=> ?_,fun u q=> ?_,fun j t=>⟨rfl,fun k u q=> ?_⟩,fun j x e=> ?_⟩
  ·simp only[ZaF,List.length_map]at Z;simp[Builtin.firstCells]
  ·obtain⟨b,_,rfl⟩:=Znc.1 q;rfl
  ·cases k with
   |succ k=>simp[Value.cells]at q
   |zero=>
    simp only[ZaF,List.length_map]at t;simp[Value.cells]at q;subst q;simp[t]
  ·have t:j < s.length:=by have:=(ZmA.1 e).1;simpa[ZaF]using this
   simp[ZaF,t]at e;subst e;have G:(s.getD j 0)=s[j]:=by simp[t]
   dsimp only;rw[G];have z:=s[j].toNat_lt;refine .int .u8 _ ?_ ?_<;>simp[IntKind.min,IntKind.max,IntKind.signed,IntKind.bits]<;>omega
 ·split at l;rotate_left;simp at l;rename_i V es c;split at l;rotate_left;simp at l;rename_i y;subst y;cases l;cases e with
  |p v x h=>
   simp at c;subst c;cases h with
   |sl ad len cap sz es evs m M N g d O=>
    exact Z8 m M g (fun i hi=>let ⟨b,o,r,_,h2⟩:=d i hi;⟨b,o,r,h2⟩) O
  |val v=>simp[D.toP]at c
  |nils sz=>
   simp at c;obtain⟨rfl,rfl⟩:=c;exact Z8 (evs:=fun _=>default) rfl (by simp) (by simp) (by simp) (by simp)
  |clip ad n sz es h=>
   simp at c;obtain⟨rfl,rfl⟩:=c;cases h with
   |sl ad len cap sz es evs m M N g d O=>
    exact Z8 m M g (fun i hi=>let ⟨b,o,r,_,h2⟩:=d i hi;⟨b,o,r,h2⟩) O
  |sl id B len cap ad L F m U N T=>
   rw[Zbh]at c;split at c;rotate_left;simp at c;rename_i sz es fix I;simp only[ZmR,Eng.P.sl.injEq]at c;obtain⟨rfl,rfl⟩:=c;obtain⟨L',C,g,R,Y,X,W,E,evs,J,d,A⟩:=K id _ I (by simp);rw[F]at C;obtain rfl:=ZmQ C;refine Z8 (evs:=fun i=>evs (B+i)) (by simp;omega) (by omega) (fun i H=>J _ (by omega)) (fun i H=> ?_) (fun i x e=> ?_)
   ·rcases T with h0 |⟨b,z,rfl,Q⟩
    ·omega
    ·refine⟨b,_,rfl,fun j u q=> ?_⟩;have:=d b z (B+i) j u (by omega) q;rw[ZmK]at this;rw[g,<-this];congr 2;omega
   ·rw[ZmC]at e;split at e;rotate_left;simp at e;rw[List.getElem?_drop]at e;exact A _ x e
  |dead v=>simp[D.toP]at c
  |undef=>simp[D.toP]at c
  |anyb b=>simp[D.toP]at c
  |agg vs cs m r h=>simp[D.toP]at c
  |tup vs cs m h=>simp[D.toP]at c
  |ptr id i j L b F hi z=>
   simp only[D.toP]at c;split at c
   ·split at c<;>simp at c
   ·simp at c
   ·simp at c
  |map id L b F z=>
   rw[Zbi]at c;split at c<;>simp at c
  |it id L b F z=>simp[D.toP]at c
  |fn f fs cs a b hf N h h'=>
   simp only[D.toP]at c;split at c<;>simp at c
theorem Zca {P:Program} {t u ty l:TypeId} {te:TI} {f:TypeDesc} {E:Env} (v:Zk E) (p:E.prog=P) (n:P.underlying t=some (.slice l)) (h:E.ty l=some te) (q:P.underlying u=some f) (g:∀k,f≠ .int k)
  {b o sLen sCap:Nat} {x:Value} {news:List Value} {m:Nat} (i:∀w',(Builtin.lenOf x).run P w'= .ok m w') (z:(Builtin.firstCells te.size m x).run P w= .ok news.toArray w)
  (a:sLen+m<=sCap) (y:∀j,j < news.length->(w.cell? ⟨b,o+sLen*te.size+j,none⟩).isSome=true) (r:∀j,j < news.length->w.frozen? ⟨b,o+sLen*te.size+j,none⟩=false) (s:∀u∈news,u.oneCell'=true):
  (Builtin.append_ #[t,u] ty #[.slice (some ⟨b,o,none⟩) sLen sCap,x]).run P w= .ok (.slice (some ⟨b,o,none⟩) (sLen+m) sCap) (w.setCells b (o+sLen*te.size) news):=by
 subst p;have c:∀w,(Go.sizeOf l).run E.prog w= .ok te.size w:=ZL v h;have e:=run_storeCells_cells (P:=E.prog) b (o+sLen*te.size) news 0 w (by simpa using y) (by simpa using r) s;simp only[Nat.add_zero]at e;have d:(match f with | .int _=>true |_=>false)=false:=by cases f<;>first |rfl |exact absurd rfl (g _)
 simp[Builtin.append_,Za n,Za q,c,d,i,a,z,Z4,e]
theorem Zbl {P:Program} {t u ty g:TypeId} {te:TI} {d:TypeDesc} {E:Env} (m:Zk E) (l:E.prog=P) (h:P.underlying t=some (.slice g)) (f:E.ty g=some te) (i:P.underlying u=some d) (e:∀k,d≠ .int k)
  {x:Value} {ad:Option Addr} {sCap:Nat} (c:∀w',(Builtin.lenOf x).run P w'= .ok 0 w') (j:(Builtin.firstCells te.size 0 x).run P w= .ok #[] w):
  (Builtin.append_ #[t,u] ty #[.slice ad 0 sCap,x]).run P w= .ok (.slice ad 0 sCap) w:=by
 subst l;have a:∀w,(Go.sizeOf g).run E.prog w= .ok te.size w:=ZL m f;have b:(match d with | .int _=>true |_=>false)=false:=by cases d<;>first |rfl |exact absurd rfl (e _)
 cases ad with
 |none=>simp[Builtin.append_,Za h,Za i,a,b,c,j]
 |some ad=>simp[Builtin.append_,Za h,Za i,a,b,c,j,storeCells]
theorem ZbM {P:Program} {t u ty b:TypeId} {te:TI} {j:TypeDesc} {E:Env} (s:Zk E) (B:E.prog=P) (A:P.underlying t=some (.slice b)) (e:E.ty b=some te) (D:P.underlying u=some j) (q:∀k,j≠ .int k)
  {ad:Option Addr} {sLen sCap:Nat} {x:Value} {olds news:List Value} {m:Nat} (r:∀w',(Builtin.lenOf x).run P w'= .ok m w') (F:∀w',w'.heap=w.heap->(Builtin.firstCells te.size m x).run P w'= .ok news.toArray w')
  (l:∀w',w'.heap=w.heap->(Builtin.firstCells te.size sLen (.slice ad sLen sCap)).run P w'= .ok olds.toArray w')
  (y:sCap < sLen+m) (o:sLen+m<=Zq) (h:(sLen+m)*te.bytes<=ZO):
  ∃(rest:Array Value),rest.size=(grownCap w (sLen+m) sCap b - (sLen+m))*te.size/\
  (Builtin.append_ #[t,u] ty #[.slice ad sLen sCap,x]).run P w=
   .ok (.slice (some ⟨w.heap.size,0,none⟩) (sLen+m) (grownCap w (sLen+m) sCap b)) (w.drew.alloc (.cells (olds.toArray++news.toArray++rest) b)):=by
 subst B;obtain⟨G,I,z,a⟩:=s.is e;have f:∀w,(Go.sizeOf b).run E.prog w= .ok te.size w:=ZL s e;have d:(match j with | .int _=>true |_=>false)=false:=by cases j<;>first |rfl |exact absurd rfl (q _)
 have H:¬(sLen+m<=sCap):=by omega
 have g:¬(9223372036854775807 < ((sLen:Int)+(m:Int))):=by unfold Zq at o;omega
 have v:=growslice_fits y h;have i:¬(281474976710656 < Builtin.nextslicecap (sLen+m) sCap*G.bytes):=by rw[a.bytes];omega
 have C:∀w,(zeroValue b).run E.prog w= .ok z w:=fun w=>Z1 a.info a.zero w
 have n:z.cells.size=te.size:=by have:=(Zde a.zs).1;simp at this;rw[this];exact a.zl
 refine⟨Builtin.zeroCells z.cells (grownCap w (sLen+m) sCap b - (sLen+m)),by rw[size_zeroCells,n], ?_⟩;have p:=F w.drew rfl;have c:=l w.drew rfl;simp[Builtin.append_,Za A,Za D,f,d,r,H,Zy a.info,g,i,Question.forced,p,c,C,newRow,grownCap];congr 2;apply Array.ext';simp[List.append_assoc]
def ZgE (Pg:Program) (w:World) (S:Nat->Prop) (t u a:TypeId) (te:TI) (x:Value) (xs:List P):Prop:=
 ∃(news:List Value) (evs:Nat->Value),news.length=xs.length*te.size/\xs.length<=Zq/\(∀u∈news,ZbO u)/\
  (∀j,j < xs.length->(evs j).cells.size=te.size/\∀(k:Nat) u,(evs j).cells[k]? =some u->news[j*te.size+k]? =some u)/\(∀(j:Nat) x,xs[j]? =some x->RelP w S (evs j) x)/\
  (∀(ty:TypeId) (b o sLen sCap:Nat),sLen+xs.length<=sCap->(sLen+xs.length)*te.bytes<=ZO->(∀j,j < news.length->(w.cell? ⟨b,o+sLen*te.size+j,none⟩).isSome=true)->(∀j,j < news.length->w.frozen? ⟨b,o+sLen*te.size+j,none⟩=false)->
   (Builtin.append_ #[t,u] ty #[.slice (some ⟨b,o,none⟩) sLen sCap,x]).run Pg w= .ok (.slice (some ⟨b,o,none⟩) (sLen+xs.length) sCap) (w.setCells b (o+sLen*te.size) news))/\
  (xs.length=0->∀(ty:TypeId) (ad:Option Addr) (sCap:Nat),(Builtin.append_ #[t,u] ty #[.slice ad 0 sCap,x]).run Pg w= .ok (.slice ad 0 sCap) w)/\
  ∀(ty:TypeId) (ad:Option Addr) (sLen sCap:Nat) (olds:List Value),(∀w',w'.heap=w.heap->(Builtin.firstCells te.size sLen (.slice ad sLen sCap)).run Pg w'= .ok olds.toArray w')->sCap < sLen+xs.length->sLen+xs.length<=Zq->(sLen+xs.length)*te.bytes<=ZO->
   ∃(rest:Array Value),rest.size=(grownCap w (sLen+xs.length) sCap a - (sLen+xs.length))*te.size/\
   (Builtin.append_ #[t,u] ty #[.slice ad sLen sCap,x]).run Pg w= .ok (.slice (some ⟨w.heap.size,0,none⟩) (sLen+xs.length) (grownCap w (sLen+xs.length) sCap a)) (w.drew.alloc (.cells (olds.toArray++news.toArray++rest) a))
theorem Zj6 {E:Env} (n:Zk E) {t u j:TypeId} {te:TI} {p:TypeDesc} (g:E.prog.underlying t=some (.slice j)) (a:E.ty j=some te) (i:E.prog.underlying u=some p) (c:∀k,p≠ .int k) {x:Value} {xs:List P} (v:Src E.prog w S te.size x xs):
  ZgE E.prog w S t u j te x xs:=by
 obtain⟨news,d,C,A,h,r,s,D,B⟩:=v;have q:∀w',w'.heap=w.heap->(Builtin.firstCells te.size xs.length x).run E.prog w'= .ok news.toArray w':=fun w' f=>by
  have:=r xs.length (ZmL _) w' f
  rwa [List.take_of_length_le (by omega)]at this
 exact⟨news,d,C,A,s,D,B,fun ty b o sLen sCap l _ e m=>Zca n rfl g a i c h (q w rfl) l e m s,
  fun z ty ad sCap=>Zbl n rfl g a i c (by rw[<-z];exact h) (by simpa using r 0 (by simp) w rfl),fun ty ad sLen sCap olds l e m y=>ZbM n rfl g a i c h q l e m y⟩
theorem Zhn {C:Ctx} (Y:Zk C.E) {t u N:TypeId} {te:TI} {k:IntKind} (H:C.E.prog.underlying t=some (.slice N)) (D:C.E.ty N=some te) (J:C.E.prog.underlying u=some (.int k)) {k':IntKind} {n:Nat} (V:n<=Zq):
  ZgE C.E.prog w S t u N te (.int k' (n:Int)) (List.replicate n te.zeroP):=by
 obtain⟨z,X,d,F⟩:=Zb8 (C:=C) (w:=w) (S:=S) Y D;obtain⟨ii,dd,z',c⟩:=Y.is D;have a:∀w,(Go.sizeOf N).run C.E.prog w= .ok te.size w:=ZL Y D;have p:IntKind.wrap .i64 (n:Int)=n:=by unfold Zq at V;rw[IntKind.wrap_i64];omega
 have i:¬(n:Int) < 0:=by omega
 have M:(Builtin.zeroCells z.cells n).size=n*te.size:=by rw[size_zeroCells,d]
 have g:∀j,j < n*te.size->(Builtin.zeroCells z.cells n)[j]? =some (z.cells[j % te.size]!):=fun j T=>by simp[Builtin.zeroCells,T,d]
 have y:∀v∈(Builtin.zeroCells z.cells n).toList,ZbO v:=fun v R=>by
  obtain⟨m,V,rfl⟩:=Zmr.1 (Zms.1 R);have L:m < n*te.size:=by omega
  have O:0 < te.size:=Nat.pos_of_ne_zero fun e=>by rw[e,Nat.mul_zero]at L;omega
  have l:m % te.size < z.cells.size:=by rw[d];exact Nat.mod_lt _ O
  have q:=g m L;rw[Array.getElem?_eq_getElem V]at q;have q:=ZmQ q;rw[q,getElem!_pos z.cells _ l];have ab:=F.size;exact(F.cell (Array.getElem?_eq_getElem l) (Zmz (by omega))).2
 have I:n*te.size=0->Builtin.zeroCells z.cells n= #[]:=fun h=>Array.eq_empty_of_size_eq_zero (by rw[M,h])
 have U:∀{m:Nat},(m+n)*te.bytes<=ZO->¬281474976710656 < (n:Int)*(ii.bytes:Int):=fun {m} h=>by
  have E:n*te.bytes<=ZO:=Nat.le_trans (ZmM _ (Nat.le_add_left _ _)) h;rw[c.bytes];have B:(n:Int)*(te.bytes:Int)=((n*te.bytes:Nat):Int):=by rw[Int.natCast_mul]
  unfold ZO at E;omega
 refine⟨(Builtin.zeroCells z.cells n).toList,fun _=>z,by simp[M],by rw[Zm7];exact V,y,fun j T=>⟨d,fun k v R=> ?_⟩,fun j x Q=> ?_,fun ty b o sLen sCap E B W G=> ?_,fun Z ty ad sCap=> ?_,fun ty ad sLen sCap olds E B W G=> ?_⟩
 ·rw[Zm7]at T;have hk:k < te.size:=by have:=(Zmp.1 R).1;rw[<-d];exact this
  have l:j*te.size+k < n*te.size:=by have:(j+1)*te.size<=n*te.size:=ZmM _ T;rw[ZmK]at this;omega
  rw[ZmU,g _ l];have:(j*te.size+k) % te.size=k:=by rw[Nat.mul_comm,Nat.mul_add_mod];exact Nat.mod_eq_of_lt hk
  rw[this,getElem!_def,R]
 ·rw[List.getElem?_replicate]at Q;split at Q;rotate_left;simp at Q;cases Q;exact F
 ·rw[Zm7]at E B|-
  have f:=run_storeCells_cells (P:=C.E.prog) b (o+sLen*te.size) (Builtin.zeroCells z.cells n).toList 0 w (by simpa using W) (by simpa using G) y;simp only[Nat.add_zero]at f
  by_cases K:n*te.size=0
  ·have I:=I K;rw[I]at f|-
   simp only[Array.toList_empty]at f;simp[Builtin.append_,Za H,Za J,a,asInt,asIntOf,p,i,Zy c.info,U B,E,K,Z4,f]
  ·simp[Builtin.append_,Za H,Za J,a,asInt,asIntOf,p,i,Zy c.info,U B,E,K,X,Z4,f]
 ·rw[Zm7]at Z;subst Z;cases ad with
  |none=>simp[Builtin.append_,Za H,Za J,a,asInt,asIntOf,IntKind.wrap_i64,Zy c.info]
  |some ad=>simp[Builtin.append_,Za H,Za J,a,asInt,asIntOf,IntKind.wrap_i64,Zy c.info,storeCells]
 ·rw[Zm7]at B W G|-
  have K:¬(sLen+n<=sCap):=by omega
  have s:¬(9223372036854775807 < ((sLen:Int)+(n:Int))):=by unfold Zq at W;omega
  have aa:=growslice_fits B G;have A:¬(281474976710656 < Builtin.nextslicecap (sLen+n) sCap*ii.bytes):=by rw[c.bytes];omega
  refine⟨Builtin.zeroCells z.cells (grownCap w (sLen+n) sCap N - (sLen+n)),by rw[size_zeroCells,d], ?_⟩;have r:=E w.drew rfl
  by_cases hn0:n*te.size=0
  ·have I:=I hn0;rw[I];simp[Builtin.append_,Za H,Za J,a,asInt,asIntOf,p,i,U G,K,hn0,Zy c.info,s,A,Question.forced,r,X,newRow,grownCap]
  ·simp[Builtin.append_,Za H,Za J,a,asInt,asIntOf,p,i,U G,K,hn0,Zy c.info,s,A,Question.forced,r,X,newRow,grownCap]
def ZgF (n:Nat) (f g:Nat->Value):Nat->Value:=fun j=>if j < n then f j else g (j - n)
section
variable (h:Rep C X ρ S st a.tmps w) (hi:¬X i) (ht:∀d,o.dst=some d->d < C.E.nt) (hlit:o.op.operands.all Zz=true) (hE:Zk C.E)
include h hi ht hlit hE
theorem ZcU {args:Array Operand} {t u q:Nat} {te:TI} (ho:o.op= .call {callee:= .builtin .append,args,argTypes:= #[t,u]}) {ad:Option Addr} {sLen sCap:Nat} {x:Value} (y:args.map a.eval= #[.slice ad sLen sCap,x])
  (ak:C.E.prog.underlying t=some (.slice q)) (aj:C.E.ty q=some te) {es xs:List P} (K:Src C.E.prog w S te.size (.slice ad sLen sCap) es) (H:ZgE C.E.prog w S t u q te x xs)
  (N:es.length=sLen) (Z:sCap < sLen+xs.length) (I:(sLen+xs.length)*max te.bytes 1<=ZO) {wr:List (Id×Obj)} (ab:∀x∈wr,x.2= .gone) (U:∀id o,(id,o)∈wr->st.fz id=false/\∃o',st.objs id=some o'/\o'≠ .gone) {c:List Bool}
  (he:e={val:= .sl (st.ep,i,0) 0 (sLen+xs.length),new:=[(0,.arr te.size (es++xs) false)],wr:=wr,cond:=c}):Zt C X st a w i o e:=by
 subst he;obtain⟨olds,evs,V,o2,o3,o4,o5,o6,o7⟩:=K;obtain⟨news,M,n1,n2,n5,n6,n7,ai,ae,E⟩:=H;have ac:(sLen+xs.length)*te.bytes<=ZO:=Nat.le_trans (Zng _ (Nat.le_max_left _ _)) I;have p:sLen+xs.length<=ZO:=by have:=Zng (sLen+xs.length) (Nat.le_max_right te.bytes 1);omega
 obtain⟨rest,G,r⟩:=E o.type ad sLen sCap olds (fun w' W=>by
   have:=o4 sLen (by omega) w' W
   rwa [List.take_of_length_le (by rw[V,N];exact ZmL _)]at this) Z (by unfold ZO at p;unfold Zq;omega) ac
 have l:=grownCap_ge w (sLen+xs.length) sCap q;have m:grownCap w (sLen+xs.length) sCap q<=Zq:=grownCap_le_maxLen w (sLen+xs.length) sCap q (by unfold ZO at p;unfold maxLen;omega);generalize grownCap w (sLen+xs.length) sCap q=cap at r G l m;let L:Lay:=⟨some w.heap.size,0,te.size,sLen+xs.length,cap⟩;let w':=w.drew.alloc (.cells (olds.toArray++news.toArray++rest) q);have hw:w'.heap=w.heap.push (.cells (olds.toArray++news.toArray++rest) q):=rfl;let ρ':Id->Option Lay:=upd ρ (st.ep,i,0) (some L);have f:=h.fresh hi;have R:∀id L,ρ id=some L->ρ' id=some L:=by
  intro id L' Q;simp only[ρ',upd];split
  ·rename_i B;subst B;rw[f]at Q;simp at Q
  ·exact Q
 have s:ρ' (st.ep,i,0)=some L:=by simp[ρ',upd]
 have kp:∀b,b < w.heap.size->w'.heap[b]? =w.heap[b]? :=fun b g=>Zao hw g
 have al:w'.heap.size=w.heap.size+1:=by rw[hw];simp
 have B:∀j,w'.cell? ⟨w.heap.size,j,none⟩=(olds.toArray++news.toArray++rest)[j]? :=fun j=>by simp[World.cell?,Z2 hw]
 have Y:∀j,w'.frozen? ⟨w.heap.size,j,none⟩=false:=fun j=>by simp[World.frozen?,Z2 hw]
 have T:olds.length=sLen*te.size:=by rw[V,N]
 have af:(olds.toArray++news.toArray++rest).size=cap*te.size:=by simp only[Array.size_append,List.size_toArray,T,n1,G];rw[<-ZmK,<-ZmK];congr 1;omega
 refine⟨_,_,w', ?_,.inl rfl,ρ',h.step (v:= .slice (some ⟨w.heap.size,0,none⟩) (sLen+xs.length) cap) ρ' hi ht (by omega) ⟨rfl,rfl⟩ (fun b g _=>kp b g) U R ?_ (by simp) ?_ ?_ (fun id o' L z Z=>absurd (ab _ z) Z) ?_⟩
 ·obtain⟨cs,A⟩:=ZA (a:=a) (w:=w) (P:=C.E.prog) ho;rw[A,y];exact ZfW r
 ·intro id hn;simp only[ρ',upd]at hn;split at hn
  ·rename_i B;subst B;exact .inr ⟨rfl,rfl⟩
  ·exact .inl hn
 ·intro k o' z;simp only[ZmI,ZmS]at z;obtain⟨rfl,rfl⟩:=z;refine⟨L,s,fun b g=> ?_,fun S' hS hF _=>⟨rfl,by simp[L,N],l,by simp only[L];unfold ZO at p;unfold Zag;omega,by simp[L],fun b g j F=> ?_,ZgF sLen evs M,fun j F=> ?_,fun b g j k v F O=> ?_,fun j x A=> ?_⟩⟩
  ·simp only[L,ZmR]at g;subst g;exact⟨.inl (ZmL _),by omega⟩
  ·simp only[L,ZmR]at g;subst g;simp only[L]at F;have aa:j < (olds.toArray++news.toArray++rest).size:=by omega
   exact⟨⟨_,by simp only[L,Znh,B];exact Array.getElem?_eq_getElem aa⟩,by simp[L,Y]⟩
  ·simp only[L]at F;unfold ZgF;split
   ·exact(o6 j (by omega)).1
   ·exact(n6 (j - sLen) (by omega)).1
  ·simp only[L,ZmR]at g;subst g;simp only[L]at F;simp only[L,Znh,B];unfold ZgF at O;split at O
   ·rename_i n;have:=(o6 j (by omega)).2 k v O;have J:j*te.size+k < olds.length:=(ZmA.1 this).1;rw[ZmT,if_pos (by simp;omega),ZmT,if_pos (by simpa using J)];simpa using this
   ·rename_i n;have:=(n6 (j - sLen) (by omega)).2 k v O;have J:(j - sLen)*te.size+k < news.length:=(ZmA.1 this).1;have ag:j*te.size=sLen*te.size+(j - sLen)*te.size:=by rw[<-ZmK];congr 1;omega
    rw[ZmT,if_pos (by simp;omega),ZmT,if_neg (by simp;omega)];simp only[List.size_toArray,List.getElem?_toArray];rw[show j*te.size+k - olds.length=(j - sLen)*te.size+k by omega];exact this
  ·have kS:Zcx S w w':=fun b _ g=>kp b g
   unfold ZgF
   by_cases n:j < sLen
   ·rw[Zm3 (by omega)]at A;rw[if_pos n];exact(o7 j x A).mono kS hS
   ·rw[Zm4 (by omega),N]at A;rw[if_neg n];exact(n7 _ x A).mono kS hS
 ·intro k V L1 k' o2 L2 b z _ Q g D _ am ah;simp only[ZmI,ZmS]at z D;rw[z.1,D.1]
 ·intro S' _ _ d _;exact .sl _ 0 _ cap _ L s (by simp[L]) ⟨by unfold ZO at p;unfold Zag;omega,m⟩ l (.inr ⟨w.heap.size,rfl,by simp[L],by simp[L]⟩)
theorem Zj4 {args:Array Operand} {t u el:Nat} {te:TI} (ho:o.op= .call {callee:= .builtin .append,args,argTypes:= #[t,u]}) {ad:Option Addr} {sLen sCap:Nat} {x:Value} (hargs:args.map a.eval= #[.slice ad sLen sCap,x])
  (hut:C.E.prog.underlying t=some (.slice el)) (hte:C.E.ty el=some te) {es xs:List P} (hnew:ZgE C.E.prog w S t u el te x xs) {id:Id} {L0:Lay} {fix:Bool}
  (hlk:st.objs id=some (.arr te.size es fix)) (hL0:ρ id=some L0) (hfz:st.fz id=false) (hle:sLen<=L0.len) (hlm:sLen<=sCap) (hcm:sCap<=Zq) (ha:sCap=0\/∃b,L0.blk=some b/\ad=some ⟨b,L0.base,none⟩/\sCap<=L0.cap)
  (hroom:sLen+xs.length<=sCap) (hfit:(sLen+xs.length)*max te.bytes 1<=ZO) {c:List Bool}
  (he:e={val:= .sl (st.ep,i,0) 0 (sLen+xs.length),new:=[(0,.arr te.size (es.take sLen++xs) false)],wr:=[(id,.gone)],cond:=c}):Zt C X st a w i o e:=by
 subst he;obtain⟨news,evs',n1,n2,n5,n6,n7,rin,rnil,rnew⟩:=hnew;have hb1:(sLen+xs.length)*te.bytes<=ZO:=Nat.le_trans (Zng _ (Nat.le_max_left _ _)) hfit;have hb2:sLen+xs.length<=ZO:=by have:=Zng (sLen+xs.length) (Nat.le_max_right te.bytes 1);omega
 obtain⟨L',hL',hsz,hel,hlc,hlm',hbn,hcells,evs,hev,hcell,hrel⟩:=h.objs id _ hlk (by simp);rw[hL0]at hL';obtain rfl:=ZmQ hL';have f:=h.fresh hi;have wrg:∀id' o',(id',o')∈[(id,Obj.gone)]->st.fz id'=false/\∃o',st.objs id'=some o'/\o'≠ .gone:=by intro id' o' hm;simp only[ZmI,ZmS]at hm;obtain⟨rfl,rfl⟩:=hm;exact⟨hfz,_,hlk,by simp⟩
 obtain⟨csb,hx⟩:=ZA (a:=a) (w:=w) (P:=C.E.prog) ho;have key:∀(L:Lay) (w':World),L.len=sLen+xs.length->(w'.heap.size=w.heap.size)->ZS w w'->(∀b,L.blk=some b->L0.blk=some b)->(∀b,L0.blk≠some b->w'.heap[b]? =w.heap[b]?)->
   (Builtin.append_ #[t,u] o.type #[.slice ad sLen sCap,x]).run C.E.prog w= .ok (.slice ad (sLen+xs.length) sCap) w'->
   (∀S' ρ',(∀b,S b->S' b)->ZB w' S' ρ' L (.arr te.size (es.take sLen++xs) false))->
   (∀S' ρ',ρ' (st.ep,i,0)=some L->RelD w' S' ρ' (.slice ad (sLen+xs.length) sCap) (.sl (st.ep,i,0) 0 (sLen+xs.length)))->
   Zt C X st a w i o {val:= .sl (st.ep,i,0) 0 (sLen+xs.length),new:=[(0,.arr te.size (es.take sLen++xs) false)],wr:=[(id,.gone)],cond:=c}:=by
  intro L w' _ hws hqu hLb hkeep hrun hobj hval;let ρ':Id->Option Lay:=upd ρ (st.ep,i,0) (some L);have hρ:∀id L,ρ id=some L->ρ' id=some L:=by
   intro id L' hL;simp only[ρ',upd];split
   ·rename_i hc;subst hc;rw[f]at hL;simp at hL
   ·exact hL
  have hbox:ρ' (st.ep,i,0)=some L:=by simp[ρ',upd]
  refine⟨_,_,w', ?_,.inl rfl,ρ',h.step (v:= .slice ad (sLen+xs.length) sCap) ρ' hi ht (by omega) hqu ?_ wrg hρ ?_ (by simp) ?_ ?_ (fun id o' L hm hg=>by simp only[ZmI,ZmS]at hm;exact absurd hm.2 hg) ?_⟩
  ·rw[hx,hargs];exact ZfW hrun
  ·intro b hb hne;exact hkeep b (hne id _ L0 (ZmI.2 rfl) hL0)
  ·intro id hn;simp only[ρ',upd]at hn;split at hn
   ·rename_i hc;subst hc;exact .inr ⟨rfl,rfl⟩
   ·exact .inl hn
  ·intro k o' hm;simp only[ZmI,ZmS]at hm;obtain⟨rfl,rfl⟩:=hm;refine⟨L,hbox,fun b hb=>⟨.inr ⟨id,_,L0,ZmI.2 rfl,hlk,by simp,hL0,hLb b hb,fun o'' hm=> ?_⟩, ?_⟩,fun S' hS hF _=>hobj S' ρ' hS⟩
   ·simp only[ZmI,ZmS]at hm;exact hm.2
   ·have:=(h.own id _ L0 b hlk (by simp) hL0 (hLb b hb)).1;omega
  ·intro k o1 L1 k' o2 L2 b hm _ hL hb hm' _ hL' hb';simp only[ZmI,ZmS]at hm hm';rw[hm.1,hm'.1]
  ·intro S' _ _ d _;exact hval S' ρ' hbox
 rcases ha with h0 |⟨b,hLb,rfl,hcap⟩
 ·
  have hs0:sLen=0:=by omega
  have hx0:xs.length=0:=by omega
  subst hs0;have hxs:xs=[]:=Zm1 hx0;subst hxs;refine key ⟨none,0,te.size,0,0⟩ w rfl rfl (ZS.refl _) (by simp) (fun _ _=>rfl) ?_ (fun S' ρ' _=> ?_) (fun S' ρ' hL=> ?_)
  ·exact rnil rfl o.type ad sCap
  ·simpa using ZaK te.size false
  ·exact .sl _ 0 _ _ _ _ hL (by simp) ⟨by simp,hcm⟩ (by simp) (.inl h0)
 ·have hcs:∀m,m < news.length->(w.cell? ⟨b,L0.base+sLen*te.size+m,none⟩).isSome=true/\w.frozen? ⟨b,L0.base+sLen*te.size+m,none⟩=false:=fun m hm=>by have hle2:(sLen+xs.length)*te.size<=L0.cap*te.size:=ZmM _ (by omega);rw[ZmK,<-n1]at hle2;obtain⟨⟨v,q⟩,q2⟩:=hcells b hLb (sLen*te.size+m) (by omega);rw[show L0.base+sLen*te.size+m=L0.base+(sLen*te.size+m) by omega,q,q2];exact⟨rfl,rfl⟩
  have hrun:=rin o.type b L0.base sLen sCap hroom hb1 (fun m hm=>(hcs m hm).1) (fun m hm=>(hcs m hm).2);clear hte hx rin rnil rnew;generalize te.size=tsz at*
  subst hsz;have hcell':=fun m=>Zac (w:=w) (b:=b) (o:=L0.base+sLen*L0.sz) (vs:=news) (fun m hm=>(hcs m hm).1) m
  have hown:=h.own id _ L0 b hlk (by simp) hL0 hLb;have hnS:¬S b:=hown.2.2.2 hfz;have kS:Zcx S w (w.setCells b (L0.base+sLen*L0.sz) news):=fun b' hb' _=>Zp b _ _ _ b' (fun e=>hnS (e▸hb'))
  refine key ⟨some b,L0.base,L0.sz,sLen+xs.length,sCap⟩ _ rfl (ZV _ _ _ _) (ZS.setCells _ _ _ _) (fun b1 hb1=>by cases hb1;exact hLb) (fun b' hne=>Zp b _ _ _ b' (fun e=>hne (e▸hLb))) hrun (fun S' ρ' hS=> ?_) (fun S' ρ' hL=> ?_)
  ·have hlel:sLen<=es.length:=by omega
   refine⟨rfl,by simp;omega,hroom,by dsimp only;unfold ZO at hb2;unfold Zag;omega,by simp,fun b1 hb1 m hm=> ?_,ZgF sLen evs evs',fun j hj=> ?_,fun b1 hb1 j k v hj hv=> ?_,fun j x hx=> ?_⟩
   ·cases hb1;have hle2:sCap*L0.sz<=L0.cap*L0.sz:=ZmM _ hcap;obtain⟨⟨v,q⟩,q2⟩:=hcells b hLb m (by dsimp only at hm;omega);refine⟨?_,by rw[World.frozen?_setCells];exact q2⟩;dsimp only;rw[hcell'];split
    ·exact⟨_,Zmz (by omega)⟩
    ·exact⟨v,q⟩
   ·dsimp only at hj;unfold ZgF;split
    ·exact hev j (by omega)
    ·exact(n6 (j - sLen) (by omega)).1
   ·cases hb1;dsimp only at hj|-
    unfold ZgF at hv;rw[hcell'];split at hv
    ·rename_i hlt;have hk:k < L0.sz:=by have:=(Zmp.1 hv).1;have:=hev j (by omega);omega
     have:(j+1)*L0.sz<=sLen*L0.sz:=ZmM _ hlt;rw[ZmK,Nat.one_mul]at this;rw[if_neg (by omega)];exact hcell b hLb j k v (by omega) hv
    ·rename_i hlt;have:=(n6 (j - sLen) (by omega)).2 k v hv;have hl':(j - sLen)*L0.sz+k < news.length:=(ZmA.1 this).1;have hjs:j*L0.sz=sLen*L0.sz+(j - sLen)*L0.sz:=by rw[<-ZmK];congr 1;omega
     rw[if_pos (by omega),show L0.base+j*L0.sz+k - (L0.base+sLen*L0.sz)=(j - sLen)*L0.sz+k by omega];exact this
   ·unfold ZgF
    by_cases hlt:j < sLen
    ·rw[Zm3 (by simp;omega),ZmC,if_pos hlt]at hx;rw[if_pos hlt];exact(hrel j x hx).mono kS hS
    ·rw[Zm4 (by simp;omega)]at hx;rw[if_neg hlt];have:j - (es.take sLen).length=j - sLen:=by simp;omega
     rw[this]at hx;exact(n7 _ x hx).mono kS hS
  ·exact .sl _ 0 _ _ _ _ hL (by simp) ⟨by unfold ZO at hb2;unfold Zag;omega,hcm⟩ hroom (.inr ⟨b,rfl,by simp,by simp⟩)
theorem Zhe {args:Array Operand} {ats:Array TypeId} (ho:o.op= .call {callee:= .builtin .append,args,argTypes:=ats}) (hc:Zd C.E st.ep i o.op o.type st.slots st.objs=some e) (hcond:∀q∈e.cond,q=true) (hw:Zek st e=true):Zt C X st a w i o e:=by
 rw[ho]at hc hlit;simp only[Zd,ZI]at hc;unfold Zb6 at hc;split at hc<;>(try simp only[reduceCtorEq]at hc);rename_i t u s x hds hlen;have hats:ats= #[t,u]:=by rw[<-ZmV (xs:=ats),hds]
 subst hats;have huse:∃te ds,C.E.elem t=some te/\C.E.prog.underlying u=some ds/\(((∀k,ds≠ .int k)/\ZaH st.objs st.ep i te s x=some e)\/∃(k:IntKind) (n:Nat),ds= .int k/\x= .p (.int .i64 (n:Int))/\Z6 st.objs st.ep i te s (List.replicate n te.zeroP)=some e):=by
  split at hc
  ·rename_i te el hel htu;obtain⟨d,hu,hd⟩:=hE.und htu;exact⟨te,d,hel,hu,.inl ⟨fun k hk=>by subst hk;simp[Zat]at hd,hc⟩⟩
  ·rename_i te hel htu;obtain⟨d,hu,hd⟩:=hE.und htu;exact⟨te,d,hel,hu,.inl ⟨fun k hk=>by subst hk;simp[Zat]at hd,hc⟩⟩
  ·rename_i te k hel htu;obtain⟨d,hu,hd⟩:=hE.und htu;split at hc;rotate_left;simp at hc;rename_i a;split at hc;rotate_left;simp at hc;rename_i h0;have hdk:∃k,d= .int k:=by cases d<;>first |exact⟨_,rfl⟩ |(simp[Zat]at hd)
   obtain⟨k,rfl⟩:=hdk;exact⟨te,_,hel,hu,.inr ⟨k,a.toNat,rfl,by rw[Int.toNat_of_nonneg h0],hc⟩⟩
  ·simp at hc
 obtain⟨te,ds,hel,huu,hc'⟩:=huse;clear hc;have hc:=hc';clear hc';obtain⟨hl,hr⟩:=Zae h args.toList [t,u] (fun x hx=>by simp[Op.operands,Call.operands]at hlit;obtain⟨j,hj,rfl⟩:=Zmr.1 (Zms.1 hx);exact hlit j hj)
 simp only[List.toList_toArray]at hlen hl hr;rw[hlen]at hl hr;obtain⟨el,hty,hte⟩:∃el,(∃sz by_ ze,C.E.ty t=some {d:= .sl el,size:=sz,bytes:=by_,zero:=ze})/\C.E.ty el=some te:=by unfold Env.elem at hel;split at hel;rotate_left;simp at hel;rename_i e' _ _ _ hq;exact⟨e',⟨_,_,_,hq⟩,hel⟩
 obtain⟨_,_,_,hty⟩:=hty;have hut:=hE.slice hty rfl
 match hxx:args.toList,hl with
 | [xs0,xx0],_=>
  rw[hxx]at hr;have hrs:=hr 0 (a.eval xs0) s rfl rfl;have hrx:=hr 1 (a.eval xx0) x rfl rfl;have hargs:args.map a.eval= #[a.eval xs0,a.eval xx0]:=by rw[<-ZmV (xs:=args),hxx];simp
  have hsrcs:∃xs,ZgE C.E.prog w S t u el te (a.eval xx0) xs/\Z6 st.objs st.ep i te s xs=some e:=by
   rcases hc with ⟨hdsn,hc⟩ |⟨k,n,rfl,rfl,hc⟩
   ·unfold ZaH at hc;split at hc
    ·simp at hc
    ·rename_i xs hxs;exact⟨xs,Zj6 hE hut hte huu hdsn (Zds (P:=C.E.prog) h.objs hrx hxs),hc⟩
   ·obtain⟨e2,_,g2⟩:=ZbK hrx;refine⟨_, ?_,hc⟩;rw[e2];exact Zhn hE hut hte huu (by rw[show IntKind.max .i64=9223372036854775807 from by decide]at g2;unfold Zq;omega)
  obtain⟨xs,hnew,hc1⟩:=hsrcs;clear hc;revert hc1;intro hc
  ·generalize a.eval xx0=vx at hargs hnew hrx;unfold Z6 at hc;generalize hvs:a.eval xs0=vs at hargs hrs;split at hc
   ·
    rename_i sz0;simp only[ZmR]at hc;cases hrs with
    |nils=>
    have hcnd:=of_decide_eq_true (hcond _ (by rw[<-hc];exact ZmG))
    by_cases h0:xs.length=0
    ·have hxs0:xs=[]:=Zm1 h0;subst hxs0;obtain⟨news,evs',n1,n2,n5,n6,n7,rin,rnil,rnew⟩:=hnew;have hrun:=rnil rfl o.type none 0;obtain⟨csb,hx⟩:=ZA (a:=a) (w:=w) (P:=C.E.prog) ho;have f:=h.fresh hi;let ρ':Id->Option Lay:=upd ρ (st.ep,i,0) (some ⟨none,0,te.size,0,0⟩);have hρ:∀id L,ρ id=some L->ρ' id=some L:=by
      intro id L' hL;simp only[ρ',upd];split
      ·rename_i hc;subst hc;rw[f]at hL;simp at hL
      ·exact hL
     have hbox:ρ' (st.ep,i,0)=some ⟨none,0,te.size,0,0⟩:=by simp[ρ',upd]
     subst hc;refine⟨_,_,w, ?_,.inl rfl,ρ',h.step (v:= .slice none 0 0) ρ' hi ht (ZmL _) (ZS.refl _) (fun _ _ _=>rfl) (by simp) hρ ?_ (by simp) ?_ ?_ (by simp) ?_⟩
     ·rw[hx,hargs];exact ZfW hrun
     ·intro id hn;simp only[ρ',upd]at hn;split at hn
      ·rename_i hc;subst hc;exact .inr ⟨rfl,rfl⟩
      ·exact .inl hn
     ·intro k o' hm;simp only[ZmI,ZmS]at hm;obtain⟨rfl,rfl⟩:=hm;exact⟨_,hbox,by simp,fun S' _ _ _=>ZaK te.size false⟩
     ·intro k o1 L1 k' o2 L2 b hm _ hL hb hm' _ hL' hb';simp only[ZmI,ZmS]at hm hm';rw[hm.1,hm'.1]
     ·intro S' _ _ d _;exact .sl _ 0 0 0 none _ hbox (by simp) (by simp) (by simp) (.inl rfl)
    ·refine ZcU h hi ht (by rw[ho];exact hlit) hE ho hargs hut hte (es:=[]) ?_ hnew rfl (by omega) (by simpa using hcnd) (wr:=[]) (by simp) (by simp) (c:=[decide (xs.length*max te.bytes 1<=ZO)]) (by rw[<-hc];simp);exact Z8 (evs:=fun _=>default) rfl (by simp) (by simp) (by simp) (by simp)
   ·
    rename_i sz0 es _;split at hc;rotate_left;simp at hc;rename_i hsz0;subst hsz0;simp only[ZmR]at hc;cases hrs with
    |clip ad n _ _ hp=>
    obtain⟨hne,hcnd⟩:=of_decide_eq_true (hcond _ (by rw[<-hc];exact ZmG));have hpos:0 < xs.length:=by
     rcases Nat.eq_zero_or_pos xs.length with h0 |h0
     ·rw[Zm1 h0]at hne;simp at hne
     ·exact h0
    cases hp with
    |sl _ _ _ _ _ evs hel' hm hc' hsz hcell hr'=>
     subst hel';refine ZcU h hi ht (by rw[ho];exact hlit) hE ho hargs hut hte (es:=es) ?_ hnew rfl (by omega) hcnd (wr:=[]) (by simp) (by simp) (c:=[decide (xs.isEmpty=false/\(es.length+xs.length)*max te.bytes 1<=ZO)]) (by rw[<-hc]);exact Z8 rfl hm hsz (fun i hi=>let ⟨b,o,h1,_,h2⟩:=hcell i hi;⟨b,o,h1,h2⟩) hr'
   ·
    rename_i id len _;split at hc;rotate_left;simp at hc;rename_i sz0 es hlk;split at hc;rotate_left;simp at hc;rename_i hsz0;subst hsz0;simp only[ZmR]at hc;have hsrc:=Zds (P:=C.E.prog) (sz:=te.size) (xs:=es.take len) h.objs hrs (by simp[Zcz,Zbh,hlk]);cases hrs with
    |sl _ _ _ cap ad L hL hll hm hcp ha=>
    have hcnd:=of_decide_eq_true (hcond _ (by rw[<-hc];exact ZmG));have hfz:st.fz id=false:=by rw[<-hc]at hw;simp only[Zek,Zmt,ZmX,ZmI,forall_eq,ZmW]at hw;exact hw.1
    obtain⟨L',hL',hsz,hel2,hlc,_⟩:=h.objs id _ hlk (by simp);rw[hL]at hL';obtain rfl:=ZmQ hL'
    by_cases hroom:len+xs.length<=cap
    ·refine Zj4 h hi ht (by rw[ho];exact hlit) hE ho hargs hut hte hnew hlk hL hfz (by omega) hcp hm.2 ?_ hroom hcnd (c:=[decide ((len+xs.length)*max te.bytes 1<=ZO)]) (by rw[<-hc]);rcases ha with h0 |⟨b,h1,h2,h3⟩
     ·exact .inl h0
     ·exact .inr ⟨b,h1,by simpa using h2,by omega⟩
    ·refine ZcU h hi ht (by rw[ho];exact hlit) hE ho hargs hut hte hsrc hnew (by simp;omega) (by omega) hcnd (wr:=[(id,.gone)]) (by simp) ?_ (c:=[decide ((len+xs.length)*max te.bytes 1<=ZO)]) (by rw[<-hc]);intro id' o' hm;simp only[ZmI,ZmS]at hm;obtain⟨rfl,rfl⟩:=hm;exact⟨hfz,_,hlk,by simp⟩
   ·simp at hc
end
end
end Eng
namespace Eng
open Go
section
variable {C:Ctx} {X:Nat->Prop} {ρ:Id->Option Lay} {S:Nat->Prop} {st:St} {a:Act} {w:World} {i:Nat} {o:Oper} {e:Eff}
variable (h:Rep C X ρ S st a.tmps w) (hi:¬X i) (ht:∀d,o.dst=some d->d < C.E.nt) (hlit:o.op.operands.all Zz=true) (hE:Zk C.E)
include h hi ht hlit hE
theorem ZjT {args:Array Operand} {ats:Array TypeId} (ho:o.op= .call {callee:= .builtin .copy,args,argTypes:=ats}) (hc:Zd C.E st.ep i o.op o.type st.slots st.objs=some e) (hw:Zek st e=true):Zt C X st a w i o e:=by
 rw[ho]at hc hlit;simp only[Zd,ZI]at hc;unfold ZiK at hc;split at hc<;>(try simp only[reduceCtorEq]at hc);rename_i t ts d s hds hlen;split at hc<;>(try simp only[reduceCtorEq]at hc);rename_i te hel;have hats:ats[0]? =some t:=by rw[<-ZmU,hds];rfl
 obtain⟨hl,hr⟩:=Zae h args.toList ats.toList (fun x hx=>by simp[Op.operands,Call.operands]at hlit;obtain⟨j,hj,rfl⟩:=Zmr.1 (Zms.1 hx);exact hlit j hj)
 rw[hlen]at hl hr;obtain⟨el,hty,hte⟩:∃el,(∃sz by_ ze,C.E.ty t=some {d:= .sl el,size:=sz,bytes:=by_,zero:=ze})/\C.E.ty el=some te:=by unfold Env.elem at hel;split at hel;rotate_left;simp at hel;rename_i e' _ _ _ hq;exact⟨e',⟨_,_,_,hq⟩,hel⟩
 obtain⟨_,_,_,hty⟩:=hty;have hut:=hE.slice hty rfl;have hszr:∀w,(Go.sizeOf el).run C.E.prog w= .ok te.size w:=ZL hE hte
 match hxx:args.toList,hl with
 | [xd0,xs0],_=>
  rw[hxx]at hr;have hrd:=hr 0 (a.eval xd0) d rfl rfl;have hrs:=hr 1 (a.eval xs0) s rfl rfl;have hargs:args.map a.eval= #[a.eval xd0,a.eval xs0]:=by rw[<-ZmV (xs:=args),hxx];simp
  generalize a.eval xs0=vx at hargs hrs;generalize a.eval xd0=vd at hargs hrd;unfold ZfC at hc;split at hc<;>(try simp only[reduceCtorEq]at hc);rename_i id off len _;split at hc<;>(try simp only[reduceCtorEq]at hc);rename_i sz es fix hlk;split at hc<;>(try simp only[reduceCtorEq]at hc);rename_i xs hxs;split at hc<;>(try simp only[reduceCtorEq]at hc);rename_i hsz0;cases hc;obtain⟨news,evs',n1,n2,n3,n4,n5,n6,n7⟩:=Zds (P:=C.E.prog) h.objs hrs hxs;cases hrd with
  |sl _ _ _ cap ad L hL hll hm hcp ha=>
  have hfz:st.fz id=false:=by simp only[Zek,Zmt,ZmX,ZmI,forall_eq,ZmW]at hw;exact hw.1
  obtain⟨L',hL',hsz,hel2,hlc,hlm',hbn,hcells,evs,hev,hcell,hrel⟩:=h.objs id _ hlk (by simp);rw[hL]at hL';obtain rfl:=ZmQ hL';have hmin:min xs.length len<=xs.length:=Nat.min_le_left _ _;have hmin2:min xs.length len<=len:=Nat.min_le_right _ _;generalize hn:min xs.length len=n at hmin hmin2;have hn':Nat.min xs.length len=n:=hn;have hnf:=n4 n hmin w rfl;rw[hsz0]at hnf;obtain⟨csb,hx⟩:=ZA (a:=a) (w:=w) (P:=C.E.prog) ho;have hval:IntKind.i64.min<=(n:Int)/\(n:Int)<=IntKind.i64.max:=ZdC (by omega);have hchg:∀w',w'.heap.size=w.heap.size->ZS w w'->(∀b,L.blk≠some b->w'.heap[b]? =w.heap[b]?)->(Builtin.copy_ ats o.type #[.slice ad len cap,vx]).run C.E.prog w= .ok (goInt n) w'->
    (∀S',(∀b,S b->S' b)->ZB w' S' ρ L (.arr sz (ZP es off (xs.take n)) fix))->
    Zt C X st a w i o {val:= .p (.int .i64 (n:Nat)),wr:=[(id,.arr sz (ZP es off (xs.take n)) fix)]}:=by
   intro w' hws hqu hkeep hrun hobj;refine⟨_,_,w', ?_,.inl rfl,ρ,h.step (v:= .int .i64 n) ρ hi ht (by omega) hqu ?_ ?_ (fun _ _ h=>h) (fun id h=> .inl h) (by simp) (fun _ _ hm=>by simp at hm) (fun _ _ _ _ _ _ _ hm=>by simp at hm) ?_ ?_⟩
   ·rw[hx,hargs];exact ZfW hrun
   ·intro b hb hne;exact hkeep b (hne id _ L (ZmI.2 rfl) hL)
   ·intro id' o' hm;simp only[ZmI,ZmS]at hm;obtain⟨rfl,rfl⟩:=hm;exact⟨hfz,_,hlk,by simp⟩
   ·intro id' o' L1 hm _ hL1 S' hS _;simp only[ZmI,ZmS]at hm;obtain⟨rfl,rfl⟩:=hm;rw[hL]at hL1;obtain rfl:=ZmQ hL1;exact hobj S' hS
   ·intro S' _ _ d _;exact .p _ _ (.int _ _ hval.1 hval.2)
  rcases ha with h0 |⟨b,hLb,rfl,hcap⟩
  ·have hn0:n=0:=by omega
   subst hn0;refine hchg w rfl (ZS.refl _) (fun _ _=>rfl) ?_ (fun S' hS=> ?_)
   ·have hf:(Builtin.firstCells te.size 0 vx).run C.E.prog w= .ok #[] w:=by simpa using hnf
    cases ad<;>simp[Builtin.copy_,hats,Za hut,n3,hn',hszr,hf,storeCells]
   ·have hsp:ZP es off (xs.take 0)=es:=by simp[ZP]
    rw[hsp];exact(show ZB w S ρ L (.arr sz es fix)from ⟨hsz,hel2,hlc,hlm',hbn,hcells,evs,hev,hcell,hrel⟩).mono (fun _ _ _=>rfl) hS (fun _ _ h=>h) (fun _ _=>rfl)
  ·have hnl:(news.take (n*sz)).length=n*sz:=by have:n*sz<=xs.length*sz:=ZmM _ hmin;simp;omega
   have hin:∀m,m < n*sz->off*sz+m < L.cap*sz:=fun m hm=>by have:(off+n)*sz<=L.cap*sz:=ZmM _ (by omega);rw[ZmK]at this;omega
   have hcs:∀m,m < (news.take (n*sz)).length->(w.cell? ⟨b,L.base+off*sz+m,none⟩).isSome=true/\w.frozen? ⟨b,L.base+off*sz+m,none⟩=false:=fun m hm=>by obtain⟨⟨v,q⟩,q2⟩:=hcells b hLb (off*sz+m) (hin m (by omega));rw[show L.base+off*sz+m=L.base+(off*sz+m) by omega,q,q2];exact⟨rfl,rfl⟩
   have hst:=run_storeCells_cells (P:=C.E.prog) b (L.base+off*sz) (news.take (n*sz)) 0 w (fun m hm=>by simpa using (hcs m hm).1) (fun m hm=>by simpa using (hcs m hm).2) (fun u hu=>n5 u (List.mem_of_mem_take hu));have hcell':=fun m=>Zac (w:=w) (b:=b) (o:=L.base+off*sz) (vs:=news.take (n*sz)) (fun m hm=>(hcs m hm).1) m
   have hown:=h.own id _ L b hlk (by simp) hL hLb;have hnS:¬S b:=hown.2.2.2 hfz;have kS:Zcx S w (w.setCells b (L.base+off*sz) (news.take (n*sz))):=fun b' hb' _=>Zp b _ _ _ b' (fun e=>hnS (e▸hb'))
   simp only[Nat.add_zero]at hst;refine hchg (w.setCells b (L.base+off*sz) (news.take (n*sz))) (ZV _ _ _ _) (ZS.setCells _ _ _ _) (fun b' hne=>Zp b _ _ _ b' (fun e=>hne (e▸hLb))) ?_ (fun S' hS=> ?_)
   ·have hsz':∀w,(Go.sizeOf el).run C.E.prog w= .ok sz w:=fun w=>by rw[hszr,hsz0]
    rw[hsz];rw[<-hsz0]at hnf;simp[Builtin.copy_,hats,Za hut,n3,hn',hsz',hnf,hst]
   ·have hxt:(xs.take n).length=n:=by simp;omega
    have hsp:=ZbB es off (xs.take n) (by omega);refine⟨hsz,by rw[hsp];exact hel2,hlc,hlm',hbn,fun b1 hb1 m hm=> ?_,fun j=>if off<=j/\j < off+n then evs' (j - off)else evs j,fun j hj=> ?_,fun b1 hb1 j k u hj hu=> ?_,fun j z hz=> ?_⟩
    ·rw[hLb]at hb1;obtain rfl:=ZmQ hb1;obtain⟨⟨v0,q1⟩,q2⟩:=hcells b hLb m hm;refine⟨?_,by rw[World.frozen?_setCells];exact q2⟩;rw[hcell'];split
     ·exact⟨_,Zmz (by omega)⟩
     ·exact⟨v0,q1⟩
    ·dsimp only;split
     ·exact(n6 (j - off) (by omega)).1
     ·exact hev j hj
    ·rw[hLb]at hb1;obtain rfl:=ZmQ hb1;dsimp only at hu;rw[hcell'];split at hu
     ·rename_i hin';have hq:=(n6 (j - off) (by omega)).2 k u hu;have hk:k < sz:=by have:=(Zmp.1 hu).1;have:=(n6 (j - off) (by omega)).1;omega
      have h1:j*sz=off*sz+(j - off)*sz:=by rw[<-ZmK];congr 1;omega
      have h2:(j - off+1)*sz<=n*sz:=ZmM _ (by omega);rw[ZmK,Nat.one_mul]at h2;rw[if_pos (by omega),show L.base+j*sz+k - (L.base+off*sz)=(j - off)*sz+k by omega,ZmC,if_pos (by omega)];exact hq
     ·rename_i hout;have hk:k < sz:=by have:=(Zmp.1 hu).1;have:=hev j hj;omega
      rw[if_neg]
      ·exact hcell b hLb j k u hj hu
      ·rintro⟨r1,r2⟩;rcases Nat.lt_or_ge j off with hlt |hge
       ·have:(j+1)*sz<=off*sz:=ZmM _ hlt;rw[ZmK,Nat.one_mul]at this;omega
       ·have:(off+n)*sz<=j*sz:=ZmM _ (by omega);rw[ZmK]at this;omega
    ·rw[ZbC _ _ _ (by omega),hxt]at hz;dsimp only;split at hz
     ·rename_i hin';rw[if_pos hin'];rw[ZmC,if_pos (by omega)]at hz;exact(n7 _ z hz).mono kS hS
     ·rename_i hout;rw[if_neg hout];exact(hrel j z hz).mono kS hS
end
end Eng
namespace Eng
open Go
theorem Zap {td:TD} {x y:P} (a:Zn td x=true) (b:Zn td y=true):P.key x y=true<->x=y:=by
 cases td<;>cases x<;>simp[Zn]at a<;>cases y<;>simp[Zn]at b
 ·simp[P.key,P.eqv,P.eqc]
 ·subst a;subst b;simp[P.key,P.eqv,P.eqc]
 ·simp[P.key,P.eqv,P.eqc]
theorem ZaM {td:TD} {x:P} (a:Zn td x=true):P.key x x=true:=(Zap a a).2 rfl
def Zfa (td:TD) (c:List (P×P)):Prop:=(c.Pairwise fun a b=>P.key a.1 b.1=false)/\∀q∈c,Zn td q.1=true
theorem Zfa.perm {td:TD} {a b:List (P×P)} (h:Zfa td a) (k:a.Perm b):Zfa td b:=by
 have i:∀q∈b,Zn td q.1=true:=fun q m=>h.2 q (k.mem_iff.2 m)
 refine⟨?_,i⟩;have l:a.Pairwise fun x y=>x.1≠y.1:=h.1.imp_of_mem fun j g f e=>by have:=(Zap (h.2 _ j) (h.2 _ g)).2 e;rw[f]at this;simp at this
 have d:b.Pairwise fun x y=>x.1≠y.1:=(k.pairwise_iff (fun c=>Ne.symm c)).1 l
 exact d.imp_of_mem fun j g f=>by
  cases hc:P.key _ _ with
  |false=>rfl
  |true=>exact absurd ((Zap (i _ j) (i _ g)).1 hc) f
theorem Zfa.uniq {td:TD} {g:List (P×P)} (h:Zfa td g) {k v l:P} (m:(k,v)∈g) (o:(k,l)∈g):v=l:=by
 obtain⟨i,hi,e⟩:=Znb.1 m;obtain⟨j,n,a⟩:=Znb.1 o;have b:=ZaM (h.2 _ m);rcases Nat.lt_trichotomy i j with c |f |d
 ·have:=Znf.1 h.1 i j hi n c;rw[e,a]at this;simp[b]at this
 ·subst f;rw[e]at a;simpa using a
 ·have:=Znf.1 h.1 j i n hi d;rw[e,a]at this;simp[b]at this
theorem Zbp {td:TD} {b:List (P×P)} (h:Zfa td b) {k:P} (c:Zn td k=true) (v:P):Zbq b k=some v<->(k,v)∈b:=by
 unfold Zbq;rw[ZmP];constructor
 ·rintro⟨q,i,rfl⟩;have d:=List.find?_some i;have a:=List.mem_of_find?_eq_some i;have:=(Zap c (h.2 _ a)).1 d;rw[this];exact a
 ·intro g;cases hf:b.find? fun e=>P.key k e.1 with
  |none=>
   have:=List.find?_eq_none.1 hf _ g;simp[ZaM c]at this
  |some q=>
   have d:=List.find?_some hf;have a:=List.mem_of_find?_eq_some hf;have f:=(Zap c (h.2 _ a)).1 d;obtain⟨q1,j⟩:=q;simp only at f;subst f;exact⟨_,rfl,h.uniq a g⟩
theorem ZcK {td:TD} {a:List (P×P)} {k:P}:Zbq a k=none<->∀q∈a,P.key k q.1=false:=by unfold Zbq;simp
theorem ZeS {td:TD} {a b:List (P×P)} (h:Zfa td a) (c:a.Perm b) {k:P} (d:Zn td k=true):Zbq a k=Zbq b k:=by
 cases hb:Zbq b k with
 |some v=>exact(Zbp h d v).2 (c.mem_iff.2 ((Zbp (h.perm c) d v).1 hb))
 |none=>
  cases ha:Zbq a k with
  |none=>rfl
  |some v=>
   have:=(Zbp (h.perm c) d v).2 (c.mem_iff.1 ((Zbp h d v).1 ha));rw[hb]at this;simp at this
theorem ZhM {td:TD} {c:List (P×P)} (n:Zfa td c) {k v p:P} (i:Zn td k=true) {j:Nat} (l:c[j]? =some (k,v)):Zi0 c k p=c.set j (k,p):=by
 have f:c.any (fun e=>P.key k e.1)=true:=ZmY.2 ⟨(k,v),Zne l,ZaM i⟩;unfold Zi0;rw[if_pos f];apply List.ext_getElem?;intro m;rw[ZmB]
 by_cases o:m=j
 ·subst o;have a:m < c.length:=(ZmA.1 l).1;rw[l,List.getElem?_set_self a];simp[ZaM i]
 ·rw[List.getElem?_set_ne (Ne.symm o)];cases r:c[m]? with
  |none=>rfl
  |some q=>
   have:P.key k q.1=false:=by
    cases hc:P.key k q.1 with
    |false=>rfl
    |true=>
     exfalso;have g:=(Zap i (n.2 q (Zne r))).1 hc;obtain⟨a,s⟩:=ZmA.1 l;obtain⟨b,h⟩:=ZmA.1 r;have d:=ZaM i;rcases Nat.lt_or_gt_of_ne o with u |t
     ·have:=Znf.1 n.1 m j b a u;rw[s,h,<-g]at this;simp[d]at this
     ·have:=Znf.1 n.1 j m a b t;rw[s,h,<-g]at this;simp[d]at this
   simp[this]
theorem Zgd {b:List (P×P)} {k v:P} (h:Zbq b k=none):Zi0 b k v=b++[(k,v)]:=by unfold Zi0;rw[if_neg];intro a;obtain⟨q,c,d⟩:=ZmY.1 a;have:=(ZcK (td:= .bool)).1 h q c;rw[d]at this;simp at this
theorem Zgc {td:TD} {a b:List (P×P)} (h:Zfa td a) (c:a.Perm b) {k v:P} (g:Zn td k=true):(Zi0 a k v).Perm (Zi0 b k v):=by
 unfold Zi0;have:a.any (fun e=>P.key k e.1)=b.any (fun e=>P.key k e.1):=by
  rw[Bool.eq_iff_iff,ZmY,ZmY];constructor
  ·rintro⟨q,d,f⟩;exact⟨q,c.mem_iff.1 d,f⟩
  ·rintro⟨q,d,f⟩;exact⟨q,c.mem_iff.2 d,f⟩
 rw[this];split
 ·exact c.map _
 ·exact c.append_right _
theorem Zge {td:TD} {j:List (P×P)} (e:Zfa td j) {k v:P} (g:Zn td k=true):Zfa td (Zi0 j k v):=by
 unfold Zi0;split
 ·refine⟨?_, ?_⟩
  ·rw[List.pairwise_map];refine e.1.imp fun {a b} hab=> ?_
   by_cases h1:P.key k a.1<;>by_cases h2:P.key k b.1<;>simp[h1,h2,hab]
  ·intro q c;obtain⟨a,f,rfl⟩:=Znc.1 c;split<;>exact e.2 a f
 ·rename_i d;refine⟨List.pairwise_append.2 ⟨e.1,List.pairwise_singleton _ _,fun a f b i=> ?_⟩, ?_⟩
  ·simp only[ZmI]at i;subst i;cases hc:P.key a.1 k with
   |false=>rfl
   |true=>
    exfalso;have h:=(Zap (e.2 a f) g).1 hc;exact d (ZmY.2 ⟨a,f,by rw[h];exact ZaM g⟩)
  ·intro q c;rcases ZmE.1 c with c |c
   ·exact e.2 q c
   ·simp only[ZmI]at c;subst c;exact g
theorem ZhN {td:TD} {b:List (P×P)} (d:Zfa td b) {k v:P} (e:Zn td k=true) {j:Nat} (c:b[j]? =some (k,v)):Zkd b k=b.eraseIdx j:=by
 unfold Zkd
 induction b generalizing j with
 |nil=>simp at c
 |cons q b h=>
  have f:Zfa td b:=⟨(List.pairwise_cons.1 d.1).2,fun q i=>d.2 q (by simp[i])⟩;cases j with
  |zero=>
   simp only[Zm6,ZmR]at c;subst c;simp only[List.filter_cons,ZaM e,Bool.not_true,Bool.false_eq_true,if_false,List.eraseIdx_cons_zero];apply List.filter_eq_self.2;intro a l;have:=(List.pairwise_cons.1 d.1).1 a l;simpa using this
  |succ j=>
   simp only[Zm5]at c;have:P.key k q.1=false:=by
    cases hc:P.key k q.1 with
    |false=>rfl
    |true=>
     have g:=(Zap e (d.2 q (by simp))).1 hc;have:=(List.pairwise_cons.1 d.1).1 _ (Zne c);rw[<-g,ZaM e]at this;simp at this
   simp only[List.filter_cons,this,Bool.not_false,if_true,List.eraseIdx_cons_succ];rw[h f c]
theorem Zgh {b:List (P×P)} {k:P} (h:Zbq b k=none):Zkd b k=b:=by unfold Zkd;apply List.filter_eq_self.2;intro a c;simp[(ZcK (td:= .bool)).1 h a c]
theorem Zgg {a b:List (P×P)} (c:a.Perm b) (k:P):(Zkd a k).Perm (Zkd b k):=c.filter _
theorem Zgi {td:TD} {b:List (P×P)} (a:Zfa td b) (k:P):Zfa td (Zkd b k):=
 ⟨a.1.filter _,fun q c=>a.2 q (List.mem_filter.1 c).1⟩
section
variable {w:World} {S:Nat->Prop}
def Zgf (d:TypeDesc) (td:TD):Prop:=Zat d td=true/\td.same td=true
theorem Zlt {a b:TD} (h:a.same b=true):a=b/\b.same b=true:=by cases a<;>cases b<;>simp[TD.same]at h|- <;>simp[h]
theorem Zgu (s t:List UInt8):((ByteArray.mk s.toArray) == (ByteArray.mk t.toArray))=(s == t):=by rw[beq_toListBytes,ZfN,ZfN]
theorem ZgO {d:TypeDesc} {td:TD} (h:Zgf d td) {x y:P} {u v:Value} (c:Zn td x=true) (e:Zn td y=true) (a:RelP w S u x) (b:RelP w S v y):Instr.sameNow d u v=some (P.key x y):=by
 obtain⟨f,g⟩:=h;cases td<;>simp[TD.same]at g<;>cases d<;>simp[Zat]at f<;>cases x<;>simp[Zn]at c<;>cases y<;>simp[Zn]at e
 ·rw[a.bool_inv,b.bool_inv];simp[Instr.sameNow,P.key,P.eqv,P.eqc]
 ·subst c;subst e;rw[a.int_inv.1,b.int_inv.1];simp[Instr.sameNow,P.key,P.eqv,P.eqc]
 ·rw[a.str_inv.1,b.str_inv.1];rename_i s t;simp only[Instr.sameNow,P.key,P.eqv,P.eqc,Option.getD_some,ZmR];exact Zgu s t
theorem ZdU {d:TypeDesc} {td:TD} (hd:Zgf d td) {x:P} {u:Value} (hx:Zn td x=true) (hu:RelP w S u x):∀(es:List MapEntry) (kv:List (P×P)) (n:Nat),es.length=kv.length->(∀q∈kv,Zn td q.1=true)->
  (∀(i:Nat) e q,es[i]? =some e->kv[i]? =some q->RelP w S e.key q.1)->
  (∀q∈kv,P.key x q.1=false)/\Instr.findNow d u es n=some none\/
  ∃(j:Nat) (e:MapEntry) (q:P×P),es[j]? =some e/\kv[j]? =some q/\P.key x q.1=true/\Instr.findNow d u es n=some (some (n+j,e.val))
 | [],[],n,_,_,_=> .inl ⟨by simp,rfl⟩
 | [],_::_,n,h,_,_=>by simp at h
 |_::_,[],n,h,_,_=>by simp at h
 |e::es,q::kv,n,hl,hk,hr=>by
  have hs:=ZgO hd hx (hk q (by simp)) hu (hr 0 e q rfl rfl);simp only[Instr.findNow,hs];cases hc:P.key x q.1 with
  |true=>exact .inr ⟨0,e,q,rfl,rfl,hc,by simp⟩
  |false=>
   rcases ZdU hd hx hu es kv (n+1) (by simpa using hl) (fun q hq=>hk q (by simp[hq])) (fun i e q he hq=>hr (i+1) e q (by simpa using he) (by simpa using hq))with ⟨h1,h2⟩ |⟨j,e',q',h1,h2,h3,h4⟩
   ·exact .inl ⟨by simp[hc];exact fun a b hab=>h1 (a,b) hab,h2⟩
   ·exact .inr ⟨j+1,e',q',by simpa using h1,by simpa using h2,h3,by rw[h4,Nat.add_assoc,Nat.add_comm 1]⟩
theorem Zb3 {P:Program} {h:TypeId} {d:TypeDesc} {td:TD} (l:P.underlying h=some d) (t:Zgf d td) {x:Eng.P} {u:Value} (c:Zn td x=true) (p:RelP w S u x) {es:List MapEntry} {a:List (Eng.P×Eng.P)} (s:es.length=a.length) (g:Zfa td a)
  (f:∀(i:Nat) e q,es[i]? =some e->a[i]? =some q->RelP w S e.key q.1):
  (Zbq a x=none/\∀w',(Instr.findKey h u es).run P w'= .ok none w')\/
  ∃(j:Nat) (e:MapEntry) (v:Eng.P),es[j]? =some e/\a[j]? =some (x,v)/\Zbq a x=some v/\∀w',(Instr.findKey h u es).run P w'= .ok (some (j,e.val)) w':=by
 rcases ZdU t c p es a 0 s g.2 f with ⟨k,b⟩ |⟨j,e,q,k,b,r,o⟩
 ·exact .inl ⟨(ZcK (td:=td)).2 k,fun w'=>by simp[Instr.findKey,Za l,b]⟩
 ·have m:=Zne b;have:=(Zap c (g.2 q m)).1 r;obtain⟨q1,n⟩:=q;simp only at this;subst this;exact .inr ⟨j,e,n,k,b,(Zbp g c n).2 m,fun w'=>by simp[Instr.findKey,Za l,o]⟩
theorem Zar {P:Program} {a:TypeId} {d:TypeDesc} {td:TD} (c:P.underlying a=some d) (g:Zgf d td) (b:Bool) (v:Value) (w':World):(Instr.checkKey b 10000 a v).run P w'= .ok () w':=by obtain⟨e,f⟩:=g;show (Instr.checkKey b (9999+1) a v).run P w'= .ok () w';generalize 9999=n;cases td<;>simp[TD.same]at f<;>cases d<;>simp[Zat]at e<;>simp[Instr.checkKey,Za c]
theorem ZcL {P:Program} {td:TD} {x:Eng.P} {u v:Value} (c:Zn td x=true) (a:RelP w S u x) (b:RelP w S v x) (w':World):(Instr.keyThatStays u v).run P w'= .ok v w':=by
 have:Instr.sameBits 10000 u v=true:=by
  cases td<;>cases x<;>simp[Zn]at c
  ·rw[a.bool_inv,b.bool_inv];simp[Instr.sameBits]
  ·rw[a.int_inv.1,b.int_inv.1];simp[Instr.sameBits]
  ·rw[a.str_inv.1,b.str_inv.1];simp[Instr.sameBits,Zgu]
 simp[Instr.keyThatStays,this]
end
end Eng
namespace Eng
open Go
section
variable {C:Ctx} {X:Nat->Prop} {ρ:Id->Option Lay} {S:Nat->Prop} {st:St} {a:Act} {w:World} {i:Nat} {o:Oper} {e:Eff}
theorem Zfs {td:TD} {S':Nat->Prop} {v:Value} {x:P} (b:Zn td x=true) (h:RelP w S v x):RelP w S' v x:=by
 cases td<;>cases x<;>simp[Zn]at b
 ·rw[h.bool_inv];exact .bool _
 ·obtain⟨rfl,a,c⟩:=h.int_inv;exact .int _ _ a c
 ·obtain⟨rfl,a⟩:=h.str_inv;exact .str _ a
theorem Zk.key {E:Env} (m:Zk E) {t:Nat} {ti:TI} {b l:Nat} (c:E.ty t=some ti) (g:ti.d= .map b l) {td:TD} (a:(E.keyTD t).same td=true):∃d,E.prog.underlying b=some d/\Zgf d td:=by
 have k:E.keyTD t=(match E.td b with |some d=>d |none=> .other):=by unfold Env.keyTD;rw[c];cases ti;simp only at g;subst g;rfl
 rw[k]at a;cases e:E.td b with
 |none=>rw[e]at a;simp[TD.same]at a
 |some d=>
  rw[e]at a;obtain⟨f,n⟩:=Zlt a;simp only at f;subst f;obtain⟨i,j,h⟩:=m.und e;exact⟨i,j,h,n⟩
section
variable (h:Rep C X ρ S st a.tmps w) (hi:¬X i) (ht:∀d,o.dst=some d->d < C.E.nt) (hlit:o.op.operands.all Zz=true) (hE:Zk C.E)
include h hi ht hlit hE
theorem Zhb {t:TypeId} {m k:Operand} {ok:Bool} (ho:o.op= .lookup t m k ok) (hc:Zd C.E st.ep i o.op o.type st.slots st.objs=some e):Zt C X st a w i o e:=by
 rw[ho]at hc hlit;simp[Op.operands]at hlit;have h1:=Zi h 0 hlit.1;simp only[Zd]at hc;split at hc;rotate_left;simp at hc;rename_i kt el sz by_ ze hty;have h2:=Zi h kt hlit.2;split at hc;rotate_left;simp at hc;rename_i te td kv kp hte hm hk;split at hc;rotate_left;simp at hc;rename_i hcnd;simp only[Zmt]at hcnd;obtain⟨hs,hleaf⟩:=hcnd;simp only[ZmR]at hc;have hum:=hE.map hty rfl;obtain⟨d,hud,hkd⟩:=hE.key hty rfl hs;have hkp:RelP w S (a.eval k) kp:=Zfs (S:=fun _=>True) hleaf (Zaz (S':=fun _=>True) h.objs (fun _ _=>trivial) 1 _ _ _ h2 hk (fun _ _ _ _ _ _=>trivial));obtain⟨z,hz,hzs,hzr⟩:=Zb8 (w:=w) (S:=S) hE hte;generalize hvk:a.eval k=vk at hkp;generalize hvm:a.eval m=vm at h1;have hmap:(vm= .map none/\kv=[])\/∃r es clock kv',vm= .map (some r)/\w.heap[r]? =some (.map es clock)/\kv'.Perm kv/\es.size=kv'.length/\Zfa td kv'/\
   ∀(i:Nat) e q,es[i]? =some e->kv'[i]? =some q->RelP w S e.key q.1/\RelP w S e.val q.2:=by
  unfold Zfp at hm;split at hm
  ·rename_i td' kv' hx;simp only[ZmR,ZmS]at hm;obtain⟨rfl,rfl⟩:=hm;rw[hx]at h1;have h1:=h1.of_p;cases h1 with
   |nilmap=>exact .inl ⟨rfl,rfl⟩
   |map td r es clock kv kv' hS hb hp hl hk hv hd hkey hborn hbd=>exact .inr ⟨r,es,clock,kv',rfl,hb,hp,hl,⟨hd,hkey⟩,fun i e q he hq=>⟨hk i e q he hq,hv i e q he hq⟩⟩
  ·rename_i id hx;split at hm;rotate_left;simp at hm;rename_i td' kv' hlk;simp only[ZmR,ZmS]at hm;obtain⟨rfl,rfl⟩:=hm;rw[hx]at h1;cases h1 with
   |map id L r hL hLb=>
    obtain⟨L',hL',r',hr',es,clock,kv',hb,hp,hl,hkv,hd2,hkey,hborn,hbd⟩:=h.objs id _ hlk (by simp);rw[hL]at hL';obtain rfl:=ZmQ hL';rw[hLb]at hr';obtain rfl:=ZmQ hr';exact .inr ⟨r,es,clock,kv',rfl,hb,hp,hl,⟨hd2,hkey⟩,hkv⟩
  ·simp at hm
 have hout:∃v b,(Instr.lookup t vm vk ok).run C.E.prog w= .ok (if ok then .tuple #[v,.bool b]else v) w/\
   (match Zbq kv kp with |some x=>RelP w S v x/\b=true |none=>RelP w S v te.zeroP/\b=false):=by
  rcases hmap with ⟨rfl,rfl⟩ |⟨r,es,clock,kv',rfl,hb,hp,hl,hK,hrel⟩
  ·refine⟨z,false, ?_,hzr,rfl⟩;have hck:=Zar hud hkd true vk w;have hfk:(Instr.findKey kt vk (#[]:Array MapEntry).toList).run C.E.prog w= .ok none w:=by simp[Instr.findKey,Za hud,Instr.findNow]
   cases ok<;>simp[Instr.lookup,Za hum,hck,hfk,hz]<;>simpa using hfk
  ·have hck:=Zar hud hkd es.isEmpty vk w;rcases Zb3 (es:=es.toList) hud hkd hleaf hkp (by simpa using hl) hK (fun i e q he hq=>(hrel i e q (by simpa using he) hq).1)with ⟨g1,g2⟩ |⟨j,e',v',g1,g2,g3,g4⟩
   ·rw[<-ZeS hK hp hleaf,g1];refine⟨z,false, ?_,hzr,rfl⟩;cases ok<;>simp[Instr.lookup,Za hum,getObj,Sem.run,hb,hck,g2,hz]
   ·rw[<-ZeS hK hp hleaf,g3];refine⟨e'.val,true, ?_,(hrel j e' _ (by simpa using g1) g2).2,rfl⟩;cases ok<;>simp[Instr.lookup,Za hum,getObj,Sem.run,hb,hck,g4]
 obtain⟨v,b,hrun,hv⟩:=hout;subst hc;refine Zt.quiet h hi ht (v:=if ok then .tuple #[v,.bool b]else v) (by simp only[execOp,ho,hvm,hvk,Sem.run_bind,hrun,Result.andThen_ok,Sem.run_pure]) rfl rfl rfl ?_;have tup:∀(x:P),RelP w S v x->RelD w S ρ (.tuple #[v,.bool b]) (.tup [.p x,.p (.bool b)]):=by
  intro x hx;refine .tup _ _ rfl fun i u c hu hc=> ?_
  match i with
  |0=>simp at hu hc;subst hu hc;exact .p _ _ hx
  |1=>simp at hu hc;subst hu hc;exact .p _ _ (.bool b)
  |i+2=>simp at hc
 cases hf:Zbq kv kp with
 |some x=>
  rw[hf]at hv;obtain⟨hv,rfl⟩:=hv;cases ok
  ·exact .p _ _ hv
  ·exact tup x hv
 |none=>
  rw[hf]at hv;obtain⟨hv,rfl⟩:=hv;cases ok
  ·exact .p _ _ hv
  ·exact tup _ hv
theorem Zt.map {id:Id} {td:TD} {kv z:List (P×P)} {r:Nat} {L:Lay} {fs:List Id} {w':World} {c:List Bool} {n:Next} {es:Array MapEntry} {g:Nat} {p:List (P×P)}
  (v:st.objs id=some (.map td kv)) (M:ρ id=some L) (s:L.blk=some r) (A:st.fz id=false) (U:∀f∈fs,∃o,st.objs f=some o/\o≠ .gone) (J:∀f∈fs,id≠f)
  (B:(execOp a.eval o).run C.E.prog w= .ok n w') (hn:n= .value undef\/n= .skip)
  (k:w'.heap=w.heap.setIfInBounds r (.map es g)) (Q:ZS w w') (hK:Zfa td p) (hp:p.Perm z) (hl:es.size=p.length)
  (I:∀S',(∀b,S b->S' b)->(∀f,f∈fs->∀o L b,st.objs f=some o->o≠ .gone->ρ f=some L->L.blk=some b->S' b)->∀(i:Nat) e q,es[i]? =some e->p[i]? =some q->RelP w S' e.key q.1/\RelP w S' e.val q.2)
  (x:∀(i:Nat) e,es[i]? =some e->e.born < g) (Z:∀(i j:Nat) e e',es[i]? =some e->es[j]? =some e'->e.born=e'.born->i=j)
  (N:e={val:= .undef,wr:=[(id,.map td z)],frz:=fs,cond:=c}):Zt C X st a w i o e:=by
 subst N;have t:=h.own id _ L r v (by simp) M s;have Y:¬S r:=t.2.2.2 A;have u:∀b,b≠r->w'.heap[b]? =w.heap[b]? :=fun b l=>by rw[k];exact Array.getElem?_setIfInBounds_ne (Ne.symm l)
 have G:w'.heap[r]? =some (.map es g):=by rw[k];simp[t.1]
 have ab:w'.heap.size=w.heap.size:=by rw[k];simp
 let FS:Nat->Prop:=fun b=>S b\/∃f o L,f∈fs/\st.objs f=some o/\o≠ .gone/\ρ f=some L/\L.blk=some b
 have kF:Zcx FS w w':=fun b l _=>u b fun e=>by
  subst e;rcases l with l |⟨f,o',L',q1,y,D,E,F⟩
  ·exact Y l
  ·exact J f q1 (h.inj id _ L f o' L' b v (by simp) M s y D E F)
 refine⟨n,undef,w',B,by rcases hn with rfl |rfl;exact .inl rfl;exact .inr ⟨rfl,rfl⟩,ρ,h.step ρ hi ht (by omega) Q ?_ ?_ (fun _ _ h=>h) (fun id h=> .inl h) ?_ (fun _ _ m=>by simp at m) (fun _ _ _ _ _ _ _ m=>by simp at m) ?_ ?_⟩
 ·intro b l R;exact u b (fun e=>R id _ L (ZmI.2 rfl) M (e▸s))
 ·intro T o' m;simp only[ZmI,ZmS]at m;obtain⟨rfl,rfl⟩:=m;exact⟨A,_,v,by simp⟩
 ·intro f O;obtain⟨o',q1,y⟩:=U f O;obtain⟨L',W,_⟩:=h.objs f o' q1 y;refine⟨by simp[W],fun aa m=> ?_⟩;simp only[ZmI,ZmS]at m;exact J f O m.1.symm
 ·intro T o' L1 m _ H S' hS hF;simp only[ZmI,ZmS]at m;obtain⟨rfl,rfl⟩:=m;rw[M]at H;obtain rfl:=ZmQ H;have K:∀b,FS b->S' b:=fun b l=>by
   rcases l with l |⟨V,o',L,q1,y,D,E,F⟩
   ·exact hS b l
   ·exact hF V q1 o' L b y D E F
  have hr:=I FS (fun b l=> .inl l) (fun f O o L b y D E F=> .inr ⟨f,o,L,O,y,D,E,F⟩);exact⟨r,s,es,g,p,G,hp,hl,fun i e q N hq=>⟨(hr i e q N hq).1.mono kF K,(hr i e q N hq).2.mono kF K⟩,hK.1,hK.2,x,Z⟩
 ·intro S' _ _ d _;exact .undef
theorem ZbU {t:TypeId} {m k v:Operand} (ho:o.op= .mapUpdate t m k v\/o.op= .insert t m k v) (hc:Zd C.E st.ep i o.op o.type st.slots st.objs=some e) (hw:Zek st e=true):Zt C X st a w i o e:=by
 have hlm:Zz m=true/\Zz k=true/\Zz v=true:=by rcases ho with ho |ho<;>rw[ho]at hlit<;>simpa[Op.operands,and_assoc]using hlit
 have hc:ZX C.E st.slots st.objs t m k v=some e:=by rcases ho with ho |ho<;>rw[ho]at hc<;>simpa[Zd]using hc
 have hexec:(execOp a.eval o).run C.E.prog w=((Instr.mapUpdate t (a.eval m) (a.eval k) (a.eval v)).run C.E.prog w).andThen fun _ w'=> .ok .skip w':=by rcases ho with ho |ho<;>simp only[execOp,ho,Sem.run_bind,Sem.run_pure]
 have h1:=Zi h 0 hlm.1;unfold ZX at hc;split at hc;rotate_left;simp at hc;rename_i kt vt sz by_ ze hty;have h2:=Zi h kt hlm.2.1;have h3:=Zi h vt hlm.2.2;split at hc;rotate_left;simp at hc;rename_i id hm;split at hc;rotate_left;simp at hc;rename_i td kv kp vp hlk hk hv;split at hc;rotate_left;simp at hc;rename_i hcnd;simp only[Zmt]at hcnd;obtain⟨hs,hleaf⟩:=hcnd;simp only[ZmR]at hc;have hum:=hE.map hty rfl;obtain⟨d,hud,hkd⟩:=hE.key hty rfl hs;have hkp:RelP w S (a.eval k) kp:=Zfs (S:=fun _=>True) hleaf (Zaz (S':=fun _=>True) h.objs (fun _ _=>trivial) 1 _ _ _ h2 hk (fun _ _ _ _ _ _=>trivial));have hids:=Zbj depth _ _ hv;have hvp:∀S',(∀b,S b->S' b)->(∀f,f∈(ev C.E st.slots vt v).ids st.objs depth->∀o L b,st.objs f=some o->o≠ .gone->ρ f=some L->L.blk=some b->S' b)->RelP w S' (a.eval v) vp:=fun S' hS hF=>
  Zaz (S':=S') h.objs hS depth _ _ _ h3 hv (fun id hid L b hL hb=>by obtain⟨o',q1,q2⟩:=hids id hid;exact hF id hid o' L b q1 q2 hL hb)
 generalize hvk:a.eval k=vk at hkp hexec;generalize hvm:a.eval m=vm at h1 hexec;generalize hvv:a.eval v=vv at hvp hexec;rw[hm]at h1;rw[<-hc]at hw;simp only[Zek,Zmt,ZmX,ZmI,forall_eq,ZmW,decide_eq_true_eq]at hw;cases h1 with
 |map _ L r hL hLb=>
  obtain⟨L',hL',r',hr',es,clock,kv',hb,hp,hl,hkv,hd2,hkey,hborn,hbd⟩:=h.objs id _ hlk (by simp);rw[hL]at hL';obtain rfl:=ZmQ hL';rw[hLb]at hr';obtain rfl:=ZmQ hr';have hK:Zfa td kv':=⟨hd2,hkey⟩;have hck:=Zar hud hkd false vk w;rcases Zb3 (es:=es.toList) hud hkd hleaf hkp (by simpa using hl) hK (fun i e q he hq=>(hkv i e q (by simpa using he) hq).1)with ⟨g1,g2⟩ |⟨j,e',v',g1,g2,g3,g4⟩
  ·refine Zt.map h hi ht hlit hE (w':={w with heap:=w.heap.setIfInBounds r (.map (es.push {key:=vk,val:=vv,born:=clock}) (clock+1))}) hlk hL hLb hw.1 hids hw.2 (n:= .skip) ?_ (.inr rfl) rfl ⟨rfl,rfl⟩ (Zge hK hleaf (v:=vp)) (Zgc hK hp hleaf) ?_ ?_ ?_ ?_ (c:=[]) hc.symm
   ·rw[hexec];simp[Instr.mapUpdate,Za hum,getObj,setObj,Sem.run,hb,hck,g2]
   ·rw[Zgd g1];simp[hl]
   ·intro S' hS hF n e q he hq;rw[Zgd g1]at hq;rw[Array.getElem?_push]at he;split at he
    ·rename_i hn;cases he;rw[hn,hl,Zm4 (ZmL _)]at hq;simp at hq;subst hq;exact⟨hkp.mono (fun _ _ _=>rfl) hS,hvp S' hS hF⟩
    ·have hn:n < kv'.length:=by have:=(Zmp.1 he).1;omega
     rw[Zm3 hn]at hq;exact⟨(hkv n e q he hq).1.mono (fun _ _ _=>rfl) hS,(hkv n e q he hq).2.mono (fun _ _ _=>rfl) hS⟩
   ·intro n e he;rw[Array.getElem?_push]at he;split at he
    ·cases he;simp
    ·have:=hborn n e he;omega
   ·intro n m e e' he he' hb;rw[Array.getElem?_push]at he he';split at he<;>split at he'
    ·omega
    ·cases he;have:=hborn m e' he';simp at hb;omega
    ·simp only[ZmR]at he';subst he';have:=hborn n e he;simp at hb;omega
    ·exact hbd n m e e' he he' hb
  ·have hje:es[j]? =some e':=by simpa using g1
   have hjl:j < es.size:=(Zmp.1 hje).1;refine Zt.map h hi ht hlit hE (w':={w with heap:=w.heap.setIfInBounds r (.map (es.modify j fun e=>{e with key:=vk,val:=vv}) clock)}) hlk hL hLb hw.1 hids hw.2 (n:= .skip) ?_ (.inr rfl) rfl ⟨rfl,rfl⟩ (Zge hK hleaf (v:=vp)) (Zgc hK hp hleaf) ?_ ?_ ?_ ?_ (c:=[]) hc.symm
   ·have hst:=ZcL (P:=C.E.prog) hleaf (hkv j e' _ hje g2).1 hkp w;rw[hexec];simp[Instr.mapUpdate,Za hum,getObj,setObj,Sem.run,hb,hck,g4,hje,hst]
   ·rw[ZhM hK hleaf g2];simp[hl]
   ·intro S' hS hF n e q he hq;rw[ZhM hK hleaf g2]at hq;rw[Array.getElem?_modify]at he;split at he
    ·rename_i hjn;subst hjn;rw[hje]at he;simp only[Option.map_some,ZmR]at he;subst he;rw[List.getElem?_set_self (by omega)]at hq;cases hq;exact⟨hkp.mono (fun _ _ _=>rfl) hS,hvp S' hS hF⟩
    ·rename_i hjn;rw[List.getElem?_set_ne hjn]at hq;exact⟨(hkv n e q he hq).1.mono (fun _ _ _=>rfl) hS,(hkv n e q he hq).2.mono (fun _ _ _=>rfl) hS⟩
   ·intro n e he;rw[Array.getElem?_modify]at he;split at he
    ·rename_i hjn;subst hjn;rw[hje]at he;simp only[Option.map_some,ZmR]at he;subst he;exact hborn _ e' hje
    ·exact hborn n e he
   ·have hbm:∀(n:Nat) (e:MapEntry),(es.modify j fun e=>{e with key:=vk,val:=vv})[n]? =some e->∃e0,es[n]? =some e0/\e0.born=e.born:=by
     intro n e he;rw[Array.getElem?_modify]at he;split at he
     ·rename_i hjn;subst hjn;rw[hje]at he;simp only[Option.map_some,ZmR]at he;subst he;exact⟨e',hje,rfl⟩
     ·exact⟨e,he,rfl⟩
    intro n m e1 e2 he1 he2 hb;obtain⟨a1,q1,q2⟩:=hbm n e1 he1;obtain⟨a2,q3,q4⟩:=hbm m e2 he2;exact hbd n m a1 a2 q1 q3 (by omega)
theorem ZjP {it:Operand} (J:o.op= .next it true) (f:Zd C.E st.ep i o.op o.type st.slots st.objs=some e) (hw:Zek st e=true):Zt C X st a w i o e:=by
 rw[J]at f hlit;simp[Op.operands]at hlit;have G:=Zi h 0 hlit;simp only[Zd]at f;split at f;rotate_left;simp at f;rename_i id K;rw[K]at G;generalize hv:a.eval it=v at G;split at f;rotate_left;simp at f;rename_i s g r;cases G with
 |it _ L b z l=>
 obtain⟨L',y,b',p,k,H⟩:=h.objs id _ r (by simp);rw[z]at y;obtain rfl:=ZmQ y;rw[l]at p;obtain rfl:=ZmQ p;split at f
 ·rename_i E;cases f;have D:st.fz id=false:=by simp only[Zek,Zmt,ZmX,ZmI,forall_eq,ZmW]at hw;exact hw.1
  have t:=h.own id _ L b r (by simp) z l;have q:IntKind.i32.min<=((Utf8.decode ⟨s.toArray⟩ g).1:Int)/\((Utf8.decode ⟨s.toArray⟩ g).1:Int)<=IntKind.i32.max:=by
   have:=decode_le ⟨s.toArray⟩ g;have Q:IntKind.i32.min= -2147483648:=by decide
   have O:IntKind.i32.max=2147483647:=by decide
   omega
  refine⟨.value (.tuple #[.bool true,goInt g,.int .i32 (Utf8.decode ⟨s.toArray⟩ g).1]),_,{w with heap:=w.heap.setIfInBounds b (.stringIter ⟨s.toArray⟩ (g+(Utf8.decode ⟨s.toArray⟩ g).2))}, ?_,.inl rfl,ρ,
   h.step (v:= .tuple #[.bool true,goInt g,.int .i32 (Utf8.decode ⟨s.toArray⟩ g).1]) ρ hi ht (by simp) ⟨rfl,rfl⟩ ?_ ?_ (fun _ _ h=>h) (fun id h=> .inl h) (by simp) (fun _ _ n=>by simp at n) (fun _ _ _ _ _ _ _ n=>by simp at n) ?_ ?_⟩
  ·simp[execOp,J,hv,Instr.next,getObj,setObj,Sem.run,k,ZaY,E]
  ·intro M N A;have I:b≠M:=fun e=>A id _ L (ZmI.2 rfl) z (by rw[l,e])
   exact Array.getElem?_setIfInBounds_ne I
  ·intro B o' n;simp only[ZmI,ZmS]at n;obtain⟨rfl,rfl⟩:=n;exact⟨D,_,r,by simp⟩
  ·intro B o' L1 n _ x S' P _;simp only[ZmI,ZmS]at n;obtain⟨rfl,rfl⟩:=n;rw[z]at x;obtain rfl:=ZmQ x;exact⟨b,l,by simp[t.1],H⟩
  ·intro S' _ _ d _;refine .tup _ _ rfl fun j u c m f=> ?_
   match j with
   |0=>simp at m f;subst m f;exact .p _ _ (.bool true)
   |1=>simp at m f;subst m f;exact .p _ _ (.int _ _ (ZdC (by omega)).1 (ZdC (by omega)).2)
   |2=>simp at m f;subst m f;exact .p _ _ (.int _ _ q.1 q.2)
   |j+3=>simp at f
 ·rename_i F;cases f;refine Zt.quiet h hi ht (v:= .tuple #[.bool false]) (by simp[execOp,J,hv,Instr.next,getObj,Sem.run,k,ZaY,F]) rfl rfl rfl ?_;refine .tup _ _ rfl fun j u c m f=> ?_
  match j with
  |0=>simp at m f;subst m f;exact .p _ _ (.bool false)
  |j+1=>simp at f
theorem ZiE {it:Operand} (R:o.op= .entry it) (d:Zd C.E st.ep i o.op o.type st.slots st.objs=some e):Zt C X st a w i o e:=by
 rw[R]at d hlit;simp[Op.operands]at hlit;have s:=Zi h 0 hlit;simp only[Zd]at d;split at d;rotate_left;simp at d;rename_i id S;rw[S]at s;generalize hv:a.eval it=v at s;split at d;rotate_left;simp at d;rename_i rest k x G;cases s with
 |it _ L b U J=>
 obtain⟨L',A,b',g,z⟩:=h.objs id _ G (by simp);rw[U]at A;obtain rfl:=ZmQ A;rw[J]at g;obtain rfl:=ZmQ g;cases d;rcases z with ⟨_,_,_,_,_,O⟩ |⟨m,es,E,Q,W,hm,H,I,Z,Y,N,F,K,q,e',f,V,p⟩
 ·simp at O
 ·have l:es.find? (fun e=>e.born == e'.born)=some e':=by
   have r:∃y,es.find? (fun e=>e.born == e'.born)=some y:=by
    cases hf:es.find? (fun e=>e.born == e'.born)with
    |some y=>exact⟨y,rfl⟩
    |none=>
     have:=Array.find?_eq_none.1 hf e' (Array.mem_of_getElem? f);simp at this
   obtain⟨y,M⟩:=r;have s:=Array.find?_some M;have T:=Array.mem_of_find?_eq_some M;obtain⟨n,P,rfl⟩:=Zmr.1 T;simp only[beq_iff_eq]at s;have:=F n q es[n] e' (by simp[P]) f s;subst this;rw[M];simp[P]at f;rw[f]
  have t:(Instr.entry (.pointer (some ⟨b,0,none⟩))).run C.E.prog w= .ok (.tuple #[e'.key,e'.val]) w:=by simp[Instr.entry,getObj,Sem.run,I,H,p,l]
  refine Zt.quiet h hi ht (v:= .tuple #[e'.key,e'.val]) (by simp only[execOp,R,hv,Sem.run_bind,t,Result.andThen_ok,Sem.run_pure]) rfl rfl rfl ?_;have B:=Y q e' _ f V;refine .tup _ _ rfl fun j u c D d=> ?_
  match j with
  |0=>simp at D d;subst D d;exact .p _ _ B.1
  |1=>simp at D d;subst D d;exact .p _ _ B.2
  |j+2=>simp at d
theorem Zhc {args:Array Operand} {ats:Array TypeId} (ho:o.op= .call {callee:= .builtin .delete,args,argTypes:=ats}) (hc:Zd C.E st.ep i o.op o.type st.slots st.objs=some e) (hw:Zek st e=true):Zt C X st a w i o e:=by
 have hlit':=hlit;rw[ho]at hc hlit';simp only[Zd,ZI]at hc;unfold Zd2 at hc;split at hc<;>(try simp only[reduceCtorEq]at hc);rename_i t ts id k hds hlen;have hats:ats[0]? =some t:=by rw[<-ZmU,hds];rfl
 obtain⟨hl,hr⟩:=Zae h args.toList ats.toList (fun x hx=>by simp[Op.operands,Call.operands]at hlit';obtain⟨j,hj,rfl⟩:=Zmr.1 (Zms.1 hx);exact hlit' j hj)
 rw[hlen]at hl hr;split at hc<;>(try simp only[reduceCtorEq]at hc);rename_i kt el td kv kp htd hlk hk;split at hc<;>(try simp only[reduceCtorEq]at hc);rename_i hcnd;simp only[Zmt]at hcnd;obtain⟨hs,hleaf⟩:=hcnd;simp only[ZmR]at hc;obtain⟨ti,hty,htid⟩:∃ti,C.E.ty t=some ti/\ti.d= .map kt el:=by unfold Env.td at htd;split at htd;rotate_left;simp at htd;rename_i ti hti;exact⟨ti,hti,by simpa using htd⟩
 have hum:=hE.map hty htid;obtain⟨d,hud,hkd⟩:=hE.key hty htid hs
 match hxx:args.toList,hl with
 | [xm0,xk0],_=>
  rw[hxx]at hr;have hrm:=hr 0 (a.eval xm0) (.map id) rfl rfl;have hrk:=hr 1 (a.eval xk0) k rfl rfl;have hargs:args.map a.eval= #[a.eval xm0,a.eval xk0]:=by rw[<-ZmV (xs:=args),hxx];simp
  generalize a.eval xk0=vk at hargs hrk;generalize a.eval xm0=vm at hargs hrm;have hkp:RelP w S vk kp:=Zfs (S:=fun _=>True) hleaf (Zaz (S':=fun _=>True) h.objs (fun _ _=>trivial) 1 _ _ _ hrk hk (fun _ _ _ _ _ _=>trivial));obtain⟨csb,hx⟩:=ZA (a:=a) (w:=w) (P:=C.E.prog) ho;cases hrm with
  |map _ L r hL hLb=>
   have hw':=hw;rw[<-hc]at hw';simp only[Zek,Zmt,ZmX,ZmI,forall_eq,ZmW,decide_eq_true_eq]at hw';obtain⟨L',hL',r',hr',es,clock,kv',hb,hp,hl,hkv,hd2,hkey,hborn,hbd⟩:=h.objs id _ hlk (by simp);rw[hL]at hL';obtain rfl:=ZmQ hL';rw[hLb]at hr';obtain rfl:=ZmQ hr';have hK:Zfa td kv':=⟨hd2,hkey⟩;have hck:=Zar hud hkd es.isEmpty vk w;rcases Zb3 (es:=es.toList) hud hkd hleaf hkp (by simpa using hl) hK (fun i e q he hq=>(hkv i e q (by simpa using he) hq).1)with ⟨g1,g2⟩ |⟨j,e',v',g1,g2,g3,g4⟩
   ·refine Zt.map h hi ht hlit hE (w':={w with heap:=w.heap.setIfInBounds r (.map es clock)}) (fs:=[]) hlk hL hLb hw'.1 (by simp) (by simp) (n:= .value (.tuple #[])) ?_ (.inl rfl) rfl ⟨rfl,rfl⟩ (Zgi hK kp) (Zgg hp kp) ?_ ?_ hborn hbd (c:=[]) hc.symm
    ·rw[hx,hargs];refine ZfW ?_;simp[Builtin.delete_,hats,Za hum,getObj,setObj,Sem.run,hb,hck,g2]
    ·rw[Zgh g1];exact hl
    ·intro S' hS _ n e q he hq;rw[Zgh g1]at hq;exact⟨(hkv n e q he hq).1.mono (fun _ _ _=>rfl) hS,(hkv n e q he hq).2.mono (fun _ _ _=>rfl) hS⟩
   ·have hje:es[j]? =some e':=by simpa using g1
    have hjl:j < es.size:=(Zmp.1 hje).1;have her:∀n,(es.eraseIdxIfInBounds j)[n]? =if n < j then es[n]? else es[n+1]? :=by
     intro n;have hsub:(es.eraseIdxIfInBounds j).toList=es.toList.eraseIdx j:=by unfold Array.eraseIdxIfInBounds;simp[hjl]
     rw[<-ZmU,hsub,List.getElem?_eraseIdx];simp
    refine Zt.map h hi ht hlit hE (w':={w with heap:=w.heap.setIfInBounds r (.map (es.eraseIdxIfInBounds j) clock)}) (fs:=[]) hlk hL hLb hw'.1 (by simp) (by simp) (n:= .value (.tuple #[])) ?_ (.inl rfl) rfl ⟨rfl,rfl⟩ (Zgi hK kp) (Zgg hp kp) ?_ ?_ ?_ ?_ (c:=[]) hc.symm
    ·rw[hx,hargs];refine ZfW ?_;simp[Builtin.delete_,hats,Za hum,getObj,setObj,Sem.run,hb,hck,g4]
    ·rw[ZhN hK hleaf g2];have:(es.eraseIdxIfInBounds j).size=es.size - 1:=by unfold Array.eraseIdxIfInBounds;simp[hjl]
     rw[this,List.length_eraseIdx,if_pos (by omega),hl]
    ·intro S' hS _ n e q he hq;rw[ZhN hK hleaf g2,List.getElem?_eraseIdx]at hq;rw[her]at he;split at he
     ·rename_i hn;rw[if_pos hn]at hq;exact⟨(hkv n e q he hq).1.mono (fun _ _ _=>rfl) hS,(hkv n e q he hq).2.mono (fun _ _ _=>rfl) hS⟩
     ·rename_i hn;rw[if_neg hn]at hq;exact⟨(hkv _ e q he hq).1.mono (fun _ _ _=>rfl) hS,(hkv _ e q he hq).2.mono (fun _ _ _=>rfl) hS⟩
    ·intro n e he;rw[her]at he;split at he
     ·exact hborn _ e he
     ·exact hborn _ e he
    ·intro n m e1 e2 he1 he2 hb;rw[her]at he1 he2;split at he1<;>split at he2
     ·exact hbd n m e1 e2 he1 he2 hb
     ·have:=hbd n (m+1) e1 e2 he1 he2 hb;omega
     ·have:=hbd (n+1) m e1 e2 he1 he2 hb;omega
     ·have:=hbd (n+1) (m+1) e1 e2 he1 he2 hb;omega
end
end
end Eng
namespace Eng
open Go
section
variable {C:Ctx} {X:Nat->Prop} {ρ:Id->Option Lay} {S:Nat->Prop} {st:St} {a:Act} {w:World} {i:Nat} {o:Oper} {e:Eff}
theorem Za9 {E:Env} (h:Zda E o=true):∀d,o.dst=some d->d < E.nt:=fun d a=>by unfold Zda at h;rw[a]at h;simpa using h
theorem does (h:Rep C X ρ S st a.tmps w) (hi:¬X i) (A:Zfj C.E o=true) (z:Zk C.E)
  (g:Zd C.E st.ep i o.op o.type st.slots st.objs=some e) (hw:Zek st e=true) (j:∀q∈e.cond,q=true):Zt C X st a w i o e:=by
 simp only[Zfj,Zmt]at A;obtain⟨I,d⟩:=A;have p:=Za9 I;cases ho:o.op with
 |move x=>exact ZjQ h hi p d ho g
 |assign x=>exact Zhd h hi p d ho g
 |pick c x y=>exact ZjO h hi p d ho g
 |alloc t=>exact ZiH h hi p z ho g
 |box t x=>exact ZkM h hi p d z ho g
 |build t H=>exact ZiF h hi p d z ho g
 |buildSlice t n H=>exact Zd1 h hi p d z ho g
 |insert t m k v=>exact ZbU h hi p d z (.inr ho) g hw
 |load t x=>exact ZjR h hi p d z ho g
 |store t x y=>exact Ziz h hi p d z ho g hw
 |nilCheck x=>exact ZfA h hi p d ho g
 |binOp b t x y u=>exact ZiG h hi p d z ho g j
 |unOp u t x=>exact ZjN h hi p d ho g j
 |convert s t x=>exact Zgr h hi p d z ho g j
 |makeFunc f fs cs=>exact ZfB h hi p d ho g
 |makeMap t r=>
  cases r with
  |none=>exact Zgp h hi p ho g
  |some r=>rw[ho]at g;simp[Zd]at g
 |makeSlice t l c=>exact Zeq h hi p d z ho g j
 |slice t x lo D mx=>exact ZiA h hi p d z ho g j
 |fieldAddr t x f=>exact Zes h hi p d z ho g
 |field t x f=>exact ZiD h hi p d z ho g
 |indexAddr t x E=>exact Zer h hi p d z ho g j
 |index t x E=>exact ZiC h hi p d z ho g j
 |lookup t m k J=>exact Zhb h hi p d z ho g
 |mapUpdate t m k v=>exact ZbU h hi p d z (.inl ho) g hw
 |range t x=>exact ZiB h hi p d z ho g
 |next F s=>
  cases s with
  |true=>exact ZjP h hi p d z ho g hw
  |false=>rw[ho]at g;simp[Zd]at g
 |entry F=>exact ZiE h hi p d z ho g
 |extract x n=>exact Zgq h hi p d ho g
 |call c=>
  obtain⟨B,args,G⟩:=c;cases B with
  |builtin b=>
   cases b with
   |len=>exact ZkL h hi p d z ho g j
   |append=>exact Zhe h hi p d z ho g j hw
   |copy=>exact ZjT h hi p d z ho g hw
   |max=>exact ZkK h hi p d ho g
   |min=>exact ZkJ h hi p d ho g
   |delete=>exact Zhc h hi p d z ho g hw
   |_=>rw[ho]at g;simp[Zd,ZI]at g
  |_=>rw[ho]at g;simp[Zd]at g
 |_=>rw[ho]at g;simp[Zd]at g
end
end Eng
namespace Eng
open Go
def Zcj (r:Option Nat):Fence:={fn:=fun _=>True,depth:=none,alive:=false,round:=r}
theorem Zx (P:Program) (r:Option Nat) (m:Machine):m.fenced P (Zcj r):=by
 intro g _;refine⟨fun h=> ?_,Or.inl trivial,fun _ _=>trivial,fun _ h=> ?_⟩
 ·simp[Zcj]at h
 ·simp[Zcj]at h
def conc:Item->Go.Item
 | .c c=> .code c
 | .blk id=> .inBlock id
 | .lp c=> .inLoop c
 | .ops ops i=> .inRegion ops (List.range' i (ops.size - i))
def Xof:List Item->Nat->Prop
 | .ops _ i::_=>fun j=>j < i
 |_=>fun _=>False
abbrev Zj8:=Exit->Act->World->Prop
structure Fm where
 r:Option Nat
 ds:List Deferred
def AWP (C:Ctx) (r:Fm) (G:Zj8) (k:List Item) (d:St):Prop:=
 ∀ρ S a w,Rep C (Xof k) ρ S d a.tmps w->a.defers=r.ds->
  ∀(b:Frame) (k0:List Go.Item) (cs:List Frame),b.roundOf=r.r->
   ∃e c w',G e c w'/\ArrivesIn (Machine.fenced C.E.prog (Zcj r.r)) C.E.prog (lone (b.atR a (k.map conc++k0)) cs w) b k0 cs e c w'
theorem Rep.weakX {C:Ctx} {X X':Nat->Prop} {ρ:Id->Option Lay} {S:Nat->Prop} {a:St} {tm:Array Value} {w:World} (h:Rep C X ρ S a tm w) (b:∀j,X j->X' j):Rep C X' ρ S a tm w:=
 {h with young:=fun id d=>(h.young id d).imp (fun h=>h) fun⟨c,e⟩=>⟨c,b _ e⟩}
theorem Rep.nextEp {C:Ctx} {X:Nat->Prop} {ρ:Id->Option Lay} {S:Nat->Prop} {b:St} {tm:Array Value} {w:World} (h:Rep C X ρ S b tm w):Rep C (fun _=>False) ρ S b.next tm w:=
 {h with
  young:=by
   intro id c;rcases h.young id c with a |⟨a,_⟩
   ·exact .inl (Nat.lt_succ_of_lt a)
   ·exact .inl (a▸Nat.lt_succ_self _)
  ep1:=Nat.le_succ_of_le h.ep1}
section
variable {C:Ctx} {r:Fm} {G:Zj8}
theorem Zco {k k1:List Item} {j d:St}
  (h:∀ρ S a w,Rep C (Xof k) ρ S j a.tmps w->a.defers=r.ds->∃ρ' S' f w',Rep C (Xof k1) ρ' S' d f.tmps w'/\f.defers=r.ds/\
   ∀(b:Frame) (k0:List Go.Item) (cs:List Frame),b.roundOf=r.r->StepsIn (Machine.fenced C.E.prog (Zcj r.r)) C.E.prog (lone (b.atR a (k.map conc++k0)) cs w) (lone (b.atR f (k1.map conc++k0)) cs w'))
  (o:AWP C r G k1 d):AWP C r G k j:=by
 intro ρ S a w t s b k0 cs l;obtain⟨ρ',S',f,w',i,g,q⟩:=h ρ S a w t s;obtain⟨e,m,p,n,c⟩:=o ρ' S' f w' i g b k0 cs l;exact⟨e,m,p,n,.of_steps (q b k0 cs l) c⟩
theorem Zbx {k k1:List Item} {c:St} (d:∀j,Xof k j->Xof k1 j)
  (h:∀(a:Act) (w:World) (b:Frame) (k0:List Go.Item) (cs:List Frame),step C.E.prog (lone (b.atR a (k.map conc++k0)) cs w)= .next (lone (b.atR a (k1.map conc++k0)) cs w))
  (e:AWP C r G k1 c):AWP C r G k c:=
 Zco (fun ρ S a w g f=>⟨ρ,S,a,w,g.weakX d,f,fun b k0 cs _=> .one (Zx _ _ _) (h a w b k0 cs)⟩) e
theorem ZaU {id:Nat}:∀{k b:List Item} {k0:List Go.Item},Zaj id k=some b->exitTo id (k.map conc++k0)=some (b.map conc++k0)
 | [],_,_,h=>by simp[Zaj]at h
 |x::k,b,k0,h=>by
  cases x with
  |blk j=>
   simp only[Zaj]at h;split at h
   ·rename_i a;simp only[ZmR]at h;subst h a;simp[exitTo,conc]
   ·rename_i a;have:(j == id)=false:=by simpa using a
    simp only[ZmD,ZmZ,conc,exitTo,this,Bool.false_eq_true,if_false];exact ZaU h
  |c _=>simp only[Zaj]at h;simp only[ZmD,ZmZ,conc,exitTo];exact ZaU h
  |ops _ _=>simp only[Zaj]at h;simp only[ZmD,ZmZ,conc,exitTo];exact ZaU h
  |lp _=>simp only[Zaj]at h;simp only[ZmD,ZmZ,conc,exitTo];exact ZaU h
@[simp] theorem Zme (a:Act) (d:Option Tmp) (v:Value):(a.put d v).defers=a.defers:=by cases d<;>rfl
theorem ZaS {ρ:Id->Option Lay} {S X:Nat->Prop} {f:St} {a:Act} {w:World} (h:Rep C X ρ S f a.tmps w) {ops:Array Oper} {o:Oper} {v:Bool} (c:ZQ ops f o.guard=some v):
  Region.wanted o (yielded ops a.tmps)=v:=by
 unfold Region.wanted;cases hgd:o.guard with
 |none=>rw[hgd]at c;simp[ZQ]at c;simp[c]
 |some i=>
  obtain⟨g,j⟩:=i;rw[hgd]at c;simp only[ZQ]at c;simp only[yielded];cases hb:(ops[g]?).bind (·.dst)with
  |none=>rw[hb]at c;simp at c;subst c;simp
  |some t=>
   rw[hb]at c;dsimp only at c;have e:=h.slots t;split at c
   ·rename_i b d;cases c;rw[d]at e;have:=e.of_p.bool_inv;simp only[Zni];cases hq:a.tmps[t]? with
    |none=>simp[hq]at this;simp[undef]at this
    |some v=>simp[hq]at this;subst this;simp
   ·rename_i d;cases c;rw[d]at e;generalize hv:a.tmps.getD t undef=v at e;cases e;simp only[Zni];cases hq:a.tmps[t]? with
    |none=>simp
    |some v=>simp[hq]at hv;subst hv;simp[undef]
   ·simp at c
theorem Za1 {n i:Nat} (h:i < n):List.range' i (n - i)=i::List.range' (i+1) (n - (i+1)):=by
 have:n - i=(n - (i+1))+1:=by omega
 rw[this,List.range'_succ]
theorem Zld {ops:Array Oper} {i:Nat} {o:Oper} {k:List Item} {d:St} {e:Eff} (E:Zk C.E) (x:ops[i]? =some o) (B:ZQ ops d o.guard=some true)
  (z:Zd C.E d.ep i o.op o.type d.slots d.objs=some e) (y:Zfj C.E o=true) (hw:Zek d e=true) (h:∀q∈e.cond,q=true)
  (D:AWP C r G (.ops ops (i+1)::k) (d.app i o.dst e)):AWP C r G (.ops ops i::k) d:=by
 have hi:i < ops.size:=(Zmp.1 x).1;refine Zco (fun ρ S a w H A=> ?_) D;have p:Rep C (fun j=>j < i) ρ S d a.tmps w:=H;obtain⟨n,v,w',m,F,ρ',S',s⟩:=does p (by omega) y E z hw h;have g:=ZaS p B;refine⟨ρ',S',a.put o.dst v,w',s.weakX (fun j I=> ?_),by simp[A],fun b k0 cs J=> ?_⟩
 ·simp only[Xof];omega
 ·have l:o.semAt b.roundOf a.eval=execOp a.eval o:=Oper.semAt_eq _ _ _ (fun c t=>by rw[t]at z;simp[Zd]at z);have u:=stepGR_op (P:=C.E.prog) (b:=b) (a:=a) (k:=k.map conc++k0) (cs:=cs) (w:=w) (i:=i) (rest:=List.range' (i+1) (ops.size - (i+1))) x g;have f:=Frame.finish_atR b a ops i (List.range' (i+1) (ops.size - (i+1))) (k.map conc++k0) v;simp only[x,Zni]at f;refine .one (Zx _ _ _) ?_;simp only[ZmD,ZmZ,conc,Za1 hi];refine step_lone_go ?_;rw[u,l,<-f];rcases F with rfl |⟨rfl,rfl⟩<;>simp[stepG.apply,m]
theorem ZkQ {ops:Array Oper} {i:Nat} {o:Oper} {k:List Item} {f:St} (p:ops[i]? =some o) (q:ZQ ops f o.guard=some false) (s:∀d,o.dst=some d->d < C.E.nt)
  (u:AWP C r G (.ops ops (i+1)::k) (f.setO o.dst .undef)):AWP C r G (.ops ops i::k) f:=by
 have hi:i < ops.size:=(Zmp.1 p).1;refine Zco (fun ρ S a w y x=> ?_) u;have m:Rep C (fun j=>j < i) ρ S f a.tmps w:=y;have c:=ZaS m q;obtain⟨S',l⟩:=m.step (i:=i) (t:=o.dst) (e:={val:= .undef}) (v:=undef) (w':=w) ρ (by omega) s (ZmL _) (ZS.refl _) (fun _ _ _=>rfl) (by simp) (fun _ _ h=>h) (fun id h=> .inl h) (by simp) (fun _ _ n=>by simp at n) (fun _ _ _ _ _ _ _ n=>by simp at n) (by simp) (fun _ _ _ _ _=> .undef);refine⟨ρ,S',a.put o.dst undef,w, ?_,by simp[x],fun b k0 cs z=> ?_⟩
 ·have:f.app i o.dst {val:= .undef}=f.setO o.dst .undef:=by simp[St.app,St.objL,St.freezeL]
  rw[<-this];exact l.weakX (fun j A=>by simp only[Xof];omega)
 ·have g:=stepR_op_skip (P:=C.E.prog) (b:=b) (a:=a) (k:=k.map conc++k0) (cs:=cs) (w:=w) (ops:=ops) (i:=i) (rest:=List.range' (i+1) (ops.size - (i+1))) (by simp[p,c]);simp only[p,Zni]at g;refine .one (Zx _ _ _) ?_;simp only[ZmD,ZmZ,conc,Za1 hi];exact g
theorem Zkq {E:Env}:∀(n:Nat) (k:List Item) (f:St) (e:List Bool) {g:List Item} {d:St} {ps':List Bool},run E n k f e=some (g,d,ps')->∀p∈e,p∈ps':=by
 intro n
 induction n with
 |zero=>intro k f e g d ps' h;simp only[run,ZmR,ZmS]at h;obtain⟨rfl,rfl,rfl⟩:=h;exact fun _ h=>h
 |succ n a=>
  intro k f e g d ps' h p b
  match k with
  | []=>simp[run]at h
  | .c c::k=>
   cases c with
   |region id ops j=>cases j<;>simp only[run,reduceCtorEq]at h;exact a _ _ _ h p b
   |cond c x y=>
    simp only[run]at h;split at h;rotate_left;simp at h;split at h
    ·exact a _ _ _ h p b
    ·exact a _ _ _ h p b
    ·simp at h
   |exit id=>
    simp only[run]at h;split at h;rotate_left;simp at h;exact a _ _ _ h p b
   |_=>first |(simp only[run]at h;exact a _ _ _ h p b) |simp[run]at h
  | .blk id::k=>simp only[run]at h;exact a _ _ _ h p b
  | .lp x::k=>simp only[run]at h;exact a _ _ _ h p b
  | .ops ops i::k=>
   simp only[run]at h;split at h
   ·exact a _ _ _ h p b
   ·split at h
    ·split at h;rotate_left;simp at h;exact a _ _ _ h p (Zm8 _ b)
    ·split at h;rotate_left;simp at h;exact a _ _ _ h p b
    ·simp at h
theorem Zak (T:Zk C.E):∀(n:Nat) (k:List Item) (m:St) (F:List Bool) {A:List Item} {l:St} {ps':List Bool},run C.E n k m F=some (A,l,ps')->
  (∀p∈ps',p=true)->AWP C r G A l->AWP C r G k m:=by
 intro n
 induction n with
 |zero=>intro k m F A l ps' h _ f;simp only[run,ZmR,ZmS]at h;obtain⟨rfl,rfl,rfl⟩:=h;exact f
 |succ n j=>
  intro k m F A l ps' h g f;have v:= @Zkq C.E
  match k with
  | []=>simp[run]at h
  | .c c::k=>
   cases c with
   |skip=>simp only[run]at h;exact Zbx (k1:=k) (fun _ h=>h.elim) (fun a w b k0 cs=>stepR_skip) (j _ _ _ h g f)
   |seq x y=>simp only[run]at h;exact Zbx (k1:= .c x:: .c y::k) (fun _ h=>h.elim) (fun a w b k0 cs=>stepR_seq) (j _ _ _ h g f)
   |block id x=>simp only[run]at h;exact Zbx (k1:= .c x:: .blk id::k) (fun _ h=>h.elim) (fun a w b k0 cs=>stepR_block) (j _ _ _ h g f)
   |loop x=>simp only[run]at h;exact Zbx (k1:= .c x:: .lp x::k) (fun _ h=>h.elim) (fun a w b k0 cs=>stepR_loop) (j _ _ _ h g f)
   |region id ops J=>
    cases J with
    |true=>simp[run]at h
    |false=>
     simp only[run]at h;refine Zbx (k1:= .ops ops 0::k) (fun _ h=>h.elim) (fun a w b k0 cs=> ?_) (j _ _ _ h g f);have:=stepR_region (P:=C.E.prog) (b:=b) (a:=a) (k:=k.map conc++k0) (cs:=cs) (w:=w) (ops:=ops) (id:=id);simpa[conc,List.range_eq_range']using this
   |cond c x y=>
    simp only[run]at h;have H:∀t:Bool,ev C.E m.slots 0 c= .p (.bool t)->Zz c=true->AWP C r G (.c (if t then x else y)::k) m->AWP C r G (.c (.cond c x y)::k) m:=by intro t M z L;refine Zco (fun ρ S a w B u=>⟨ρ,S,a,w,B.weakX (fun _ h=>h.elim),u,fun b k0 cs _=> .one (Zx _ _ _) ?_⟩) L;have:=Zi B 0 z;rw[M]at this;exact stepR_cond this.of_p.bool_inv
    split at h;rotate_left;simp at h;rename_i z;split at h
    ·rename_i D;exact H true D z (j _ _ _ h g f)
    ·rename_i D;exact H false D z (j _ _ _ h g f)
    ·simp at h
   |exit id=>
    simp only[run]at h;split at h;rotate_left;simp at h;rename_i K Q;exact Zbx (k1:=K) (fun _ h=>h.elim) (fun a w b k0 cs=>stepR_exit (ZaU Q)) (j _ _ _ h g f)
   |_=>simp[run]at h
  | .blk id::k=>simp only[run]at h;exact Zbx (k1:=k) (fun _ h=>h.elim) (fun a w b k0 cs=>stepR_inBlock) (j _ _ _ h g f)
  | .lp x::k=>simp only[run]at h;exact Zbx (k1:= .c x:: .lp x::k) (fun _ h=>h.elim) (fun a w b k0 cs=>stepR_inLoop) (j _ _ _ h g f)
  | .ops ops i::k=>
   simp only[run]at h;split at h
   ·
    rename_i U;refine Zco (fun ρ S a w B u=>⟨ρ,S,a,w,(Rep.nextEp B).weakX (fun _ h=>h.elim),u,fun b k0 cs _=> .one (Zx _ _ _) ?_⟩) (j _ _ _ h g f);have hi:ops.size<=i:=by simpa using U
    have:ops.size - i=0:=by omega
    simp only[ZmD,ZmZ,conc,this,List.range'_zero];exact stepR_region_end
   ·rename_i o I;split at h
    ·rename_i E;split at h;rotate_left;simp at h;rename_i R V d;unfold runOp at d;split at d;rotate_left;simp at d;rename_i e O;split at d;rotate_left;simp at d;rename_i s;simp only[Zmt]at s;simp only[ZmR,ZmS]at d;obtain⟨rfl,rfl⟩:=d;exact Zld T I E O s.2 s.1 (fun q N=>g q (v _ _ _ _ h q (Zm9 _ N))) (j _ _ _ h g f)
    ·rename_i E;split at h;rotate_left;simp at h;rename_i u;exact ZkQ I E (Za9 u) (j _ _ _ h g f)
    ·simp at h
end
end Eng
namespace Eng
open Go
theorem Rep.stepN {C:Ctx} {X:Nat->Prop} {ρ:Id->Option Lay} {S:Nat->Prop} {m:St} {a:Act} {w:World} (h:Rep C X ρ S m a.tmps w)
  {i:Nat} {t:Option Nat} {e:Eff} {v:Value} {w':World} (ρ':Id->Option Lay) (N:Nat->Prop)
  (hN:∀b,N b->b < w'.heap.size/\(w.heap.size<=b\/∃id o' L',(id,Obj.gone)∈e.wr/\m.objs id=some o'/\o'≠ .gone/\ρ id=some L'/\L'.blk=some b/\(∀E,(id,E)∈e.wr->E= .gone)))
  (a6:∀k o L b,(k,o)∈e.new->ρ' (m.ep,i,k)=some L->L.blk=some b->¬N b)
  (hi:¬X i) (ht:∀d,t=some d->d < C.E.nt)
  (a7:w.heap.size<=w'.heap.size) (hq:ZS w w')
  (Z:∀b,b < w.heap.size->(∀id o L,(id,o)∈e.wr->ρ id=some L->L.blk≠some b)->w'.heap[b]? =w.heap[b]?)
  (wr:∀id o,(id,o)∈e.wr->m.fz id=false/\∃o',m.objs id=some o'/\o'≠ .gone)
  (J:∀id L,ρ id=some L->ρ' id=some L)
  (ah:∀id,ρ' id≠none->ρ id≠none\/(id.1=m.ep/\id.2.1=i))
  (frz:∀id,id∈e.frz->ρ id≠none/\∀o',(id,o')∈e.wr->o'≠ .gone)
  (P:∀k o,(k,o)∈e.new->∃L,ρ' (m.ep,i,k)=some L/\(∀b,L.blk=some b->
   (w.heap.size<=b\/∃id o' L',(id,Obj.gone)∈e.wr/\m.objs id=some o'/\o'≠ .gone/\ρ id=some L'/\L'.blk=some b/\(∀E,(id,E)∈e.wr->E= .gone))/\b < w'.heap.size)/\
   ∀S',(∀b,N b->S' b)->(∀b,S b->S' b)->(∀id,id∈e.frz->∀o L b,m.objs id=some o->o≠ .gone->ρ id=some L->L.blk=some b->S' b)->o≠ .gone->ZB w' S' ρ' L o)
  (ao:∀k o L k' o' L' b,(k,o)∈e.new->o≠ .gone->ρ' (m.ep,i,k)=some L->L.blk=some b->(k',o')∈e.new->o'≠ .gone->ρ' (m.ep,i,k')=some L'->L'.blk=some b->k=k')
  (ae:∀id o L,(id,o)∈e.wr->o≠ .gone->ρ id=some L->∀S',(∀b,N b->S' b)->(∀b,S b->S' b)->(∀id,id∈e.frz->∀o L b,m.objs id=some o->o≠ .gone->ρ id=some L->L.blk=some b->S' b)->ZB w' S' ρ' L o)
  (a3:∀S',(∀b,N b->S' b)->(∀b,S b->S' b)->(∀id,id∈e.frz->∀o L b,m.objs id=some o->o≠ .gone->ρ id=some L->L.blk=some b->S' b)->(∀d,t=some d->RelD w' S' ρ' v e.val)):
  ∃S',Rep C (fun j=>X j\/j=i) ρ' S' (m.app i t e) (a.put t v).tmps w':=by
 let S':Nat->Prop:=fun b=>(S b\/N b)\/∃id o L,id∈e.frz/\m.objs id=some o/\o≠ .gone/\ρ id=some L/\L.blk=some b
 have T:∀b,S b->S' b:=fun b y=> .inl (.inl y)
 have ak:∀b,N b->S' b:=fun b y=> .inl (.inr y)
 have aw:∀b,S b->∀id o L,(id,o)∈e.wr->ρ id=some L->L.blk≠some b:=fun b y id o L q p c=>by obtain⟨B,o',l,r⟩:=wr id o q;exact((h.own id o' L b l r p c).2.2.2 B) y
 have kp:Zcx S w w':=fun b y _=>Z b (h.sIn b y) (aw b y)
 have a8:∀k,m.objs (m.ep,i,k)=none:=fun k=>by
  cases u:m.objs (m.ep,i,k)with
  |none=>rfl
  |some o=>
   have:=h.young _ (h.known (m.ep,i,k) (by simp[u]));simp[hi]at this
 have a2:∀id o L,m.objs id=some o->o≠ .gone->(∀o',(id,o')∉e.wr)->ρ id=some L->∀b,L.blk=some b->w'.heap[b]? =w.heap[b]? :=by
  intro id o L x r ac p b y;refine Z b (h.own id o L b x r p y).1 fun f o' L' q s M=> ?_
  obtain⟨_,E,ar,as⟩:=wr f o' q;have:=h.inj id o L f E L' b x r p y ar as s M;subst this;exact ac o' q
 have K:∀id L,ρ id≠none->ρ' id=some L->ρ id=some L:=fun id L hn p=>by
  cases u:ρ id with
  |none=>exact absurd u hn
  |some L0=>have:=J id L0 u;rw[p]at this;rw[this]
 have aa:∀k,ρ (m.ep,i,k)=none:=fun k=>by
  cases u:ρ (m.ep,i,k)with
  |none=>rfl
  |some L=>have:=h.young (m.ep,i,k) (by simp[u]);simp[hi]at this
 have O:∀id o L f o' L' b,m.objs id=some o->o≠ .gone->ρ id=some L->L.blk=some b->m.objs f=some o'->o'≠ .gone->ρ f=some L'->L'.blk=some b->id=f:=h.inj;refine⟨S',⟨?_,by have:=h.grow;omega, ?_,fun b y=> .inl (.inl (h.s0 b y)), ?_, ?_, ?_, ?_, ?_, ?_, ?_, ?_,fun g cs q=>(h.glob g cs q).mono kp T, ?_,by rw[Zcu];exact h.ep1,h.quiet.trans hq, ?_⟩⟩
 ·rw[<-h.nt];cases t<;>simp[Act.put]
 ·intro b y hl;rw[<-h.frame b y hl];refine Z b (by have:=h.grow;omega) fun id o L q p c=> ?_
  obtain⟨_,o',l,r⟩:=wr id o q;rcases(h.own id o' L b l r p c).2.1 with W |W
  ·omega
  ·exact hl W
 ·intro b y;rcases y with (y |y) |⟨id,o,L,q,x,r,p,c⟩
  ·have:=h.sIn b y;omega
  ·exact(hN b y).1
  ·have:=(h.own id o L b x r p c).1;omega
 ·intro k;rw[ZaI,ZhR a t v k (fun d hd=>by rw[h.nt];exact ht d hd)]
  by_cases hk:t=some k
  ·simp only[hk,if_true];exact a3 S' ak T (fun id q o L b x r p c=> .inr ⟨id,o,L,q,x,r,p,c⟩) k hk
  ·simp only[hk,if_false];exact(h.slots k).mono kp T J
 ·intro id o x r;rcases Z3 m i t e id o x with ⟨k,rfl,q⟩ |q |⟨ac,x⟩
  ·obtain⟨L,p,_,hr⟩:=P k o q;exact⟨L,p,hr S' ak T (fun id q o L b x r p c=> .inr ⟨id,o,L,q,x,r,p,c⟩) r⟩
  ·obtain⟨_,o',l,n⟩:=wr id o q;obtain⟨L,p,_⟩:=h.objs id o' l n;exact⟨L,J _ _ p,ae id o L q r p S' ak T (fun id q o L b x r p c=> .inr ⟨id,o,L,q,x,r,p,c⟩)⟩
  ·obtain⟨L,p,hr⟩:=h.objs id o x r;exact⟨L,J _ _ p,hr.mono kp T J (a2 id o L x r ac p)⟩
 ·intro id o L b x r p c;rw[Zee];rcases Z3 m i t e id o x with ⟨k,rfl,q⟩ |q |⟨ac,x⟩
  ·obtain⟨L',s,y,_⟩:=P k o q;rw[p]at s;obtain rfl:=ZmQ s;obtain⟨H,av⟩:=y b c;have az:m.fz (m.ep,i,k)=false:=by
    cases u:m.fz (m.ep,i,k)with
    |false=>rfl
    |true=>exact absurd (aa k) (h.fzk _ u)
   have am:(m.ep,i,k)∉e.frz:=fun D=>(frz _ D).1 (aa k)
   have au:¬S' b:=by
    rintro((V |V) |⟨al,U,L1,ab,z,G,I,R⟩)
    ·rcases H with H |⟨f,o',L',D,l,n,s,M,_⟩
     ·have:=h.sIn b V;omega
     ·exact(h.own f o' L' b l n s M).2.2.2 (wr _ _ D).1 V
    ·exact a6 k o L b q p c V
    ·rcases H with H |⟨f,o',L',D,l,n,s,M,_⟩
     ·have:=(h.own al U L1 b z G I R).1;omega
     ·have:=O _ _ _ _ _ _ _ z G I R l n s M;subst this;exact(frz _ ab).2 _ D rfl
   refine⟨av, ?_,fun B=> ?_,fun _=>au⟩
   ·rcases H with H |⟨f,o',L',D,l,n,s,M,_⟩
    ·have:=h.grow;exact .inl (by omega)
    ·exact(h.own f o' L' b l n s M).2.1
   ·simp[az,am]at B
  ·obtain⟨ax,o',l,n⟩:=wr id o q;have A:=K id L (h.known id (by simp[l])) p;obtain⟨W,h2,h3,h4⟩:=h.own id o' L b l n A c;refine⟨by omega,h2,fun B=> ?_,fun ap=> ?_⟩
   ·simp only[ax,Bool.or_false,Zm0]at B;exact .inr ⟨id,o',L,B,l,n,A,c⟩
   have am:id∉e.frz:=fun D=>by simp[D]at ap
   rintro((V |V) |⟨al,U,L1,ab,z,G,I,R⟩)
   ·exact h4 ax V
   ·rcases(hN b V).2 with H |⟨ay,og,Lg,q1,q2,q3,q4,q5,q6⟩
    ·omega
    ·have:=O _ _ _ _ _ _ _ q2 q3 q4 q5 l n A c;subst this;exact r (q6 _ q)
   ·have:=O _ _ _ _ _ _ _ z G I R l n A c;subst this;exact am ab
  ·have A:=K id L (h.known id (by simp[x])) p;obtain⟨W,h2,h3,h4⟩:=h.own id o L b x r A c;refine⟨by omega,h2,fun B=> ?_,fun B=> ?_⟩
   ·simp only[Bool.or_eq_true,Zm0]at B;rcases B with B |B
    ·exact .inr ⟨id,o,L,B,x,r,A,c⟩
    ·exact .inl (.inl (h3 B))
   ·simp only[Bool.or_eq_false_iff]at B;rintro((V |V) |⟨al,U,L1,ab,z,G,I,R⟩)
    ·exact h4 B.2 V
    ·rcases(hN b V).2 with H |⟨ay,og,Lg,q1,q2,q3,q4,q5,q6⟩
     ·omega
     ·have:=O _ _ _ _ _ _ _ q2 q3 q4 q5 x r A c;subst this;exact ac _ q1
    ·have:=O _ _ _ _ _ _ _ z G I R x r A c;subst this;have:=B.1;simp[ab]at this
 ·
  have Q:∀k o L f o' L' b,(k,o)∈e.new->o≠ .gone->ρ' (m.ep,i,k)=some L->L.blk=some b->(m.app i t e).objs f=some o'->o'≠ .gone->
    ((f,o')∈e.wr\/((∀E,(f,E)∉e.wr)/\m.objs f=some o'))->ρ' f=some L'->L'.blk=some b->False:=by
   intro k o L f o' L' b q r p c _ n Y s F;obtain⟨L0,A,y,_⟩:=P k o q;rw[p]at A;obtain rfl:=ZmQ A;have aj:∃U,m.objs f=some U/\U≠ .gone:=by
    rcases Y with u |u
    ·exact(wr _ _ u).2
    ·exact⟨o',u.2,n⟩
   obtain⟨U,z,G⟩:=aj;have I:=K f L' (h.known f (by simp[z])) s;rcases(y b c).1 with H |⟨a9,o2,L2,a4,af,an,a1,a5,aq⟩
   ·have:=(h.own f U L' b z G I F).1;omega
   ·have:=O _ _ _ _ _ _ _ z G I F af an a1 a5;subst this;rcases Y with u |u
    ·exact n (aq _ u)
    ·exact u.1 _ a4
  intro id o L f o' L' b x r p c l n s F;rcases Z3 m i t e id o x with ⟨k,rfl,q⟩ |u
  ·rcases Z3 m i t e f o' l with ⟨k',rfl,D⟩ |ai
   ·rw[ao k o L k' o' L' b q r p c D n s F]
   ·exact(Q k o L f o' L' b q r p c l n ai s F).elim
  ·rcases Z3 m i t e f o' l with ⟨k',rfl,D⟩ |ai
   ·exact(Q k' o' L' id o L b D n s F x r u p c).elim
   ·have ag:∀id o,o≠ .gone->((id,o)∈e.wr\/((∀E,(id,E)∉e.wr)/\m.objs id=some o))->∃U,m.objs id=some U/\U≠ .gone:=by
     intro id o r u;rcases u with u |u
     ·exact(wr _ _ u).2
     ·exact⟨o,u.2,r⟩
    obtain⟨U,z,G⟩:=ag id o r u;obtain⟨o2,af,an⟩:=ag f o' n ai;exact O _ _ _ _ _ _ _ z G (K id L (h.known id (by simp[z])) p) c af an (K f L' (h.known f (by simp[af])) s) F
 ·intro id hn;cases x:(m.app i t e).objs id with
  |none=>exact absurd x hn
  |some o=>
   rcases Z3 m i t e id o x with ⟨k,rfl,q⟩ |q |⟨_,x⟩
   ·obtain⟨L,p,_⟩:=P k o q;simp[p]
   ·obtain⟨_,o',l,_⟩:=wr id o q;have:=h.known id (by simp[l]);cases u:ρ id with
    |none=>exact absurd u this
    |some L=>simp[J _ _ u]
   ·have:=h.known id (by simp[x]);cases u:ρ id with
    |none=>exact absurd u this
    |some L=>simp[J _ _ u]
 ·intro id hn;rw[Zcu];rcases ah id hn with W |⟨W,h2⟩
  ·rcases h.young id W with h2 |⟨h2,h3⟩
   ·exact .inl h2
   ·exact .inr ⟨h2,.inl h3⟩
  ·exact .inr ⟨W,.inr h2⟩
 ·intro id B;rw[Zee]at B;simp only[Bool.or_eq_true,Zm0]at B;have:ρ id≠none:=by
   rcases B with B |B
   ·exact(frz id B).1
   ·exact h.fzk id B
  cases u:ρ id with
  |none=>exact absurd u this
  |some L=>simp[J _ _ u]
 ·intro b y;rcases y with (y |y) |⟨id,o,L,q,x,r,p,c⟩
  ·exact h.sOut b y
  ·rcases(hN b y).2 with H |⟨ay,og,Lg,q1,q2,q3,q4,q5,q6⟩
   ·have:=h.grow;exact .inr (.inl (by omega))
   ·exact .inr (h.own _ _ _ b q2 q3 q4 q5).2.1
  ·exact .inr (h.own id o L b x r p c).2.1
 ·intro k L hk hn;rcases ah _ hn with W |⟨W,_⟩
  ·exact J _ _ (h.lay k L hk W)
  ·have:=h.ep1;simp only at W;omega
end Eng
namespace Eng
open Go
def ren (pi:List (Id×Id)) (a:Id):Option Id:=
 match pi with
 | []=>none
 |(n,o)::r=>if o=a then some n else ren r a
def D.pur (lk:Id->Option Obj) (a:Id->Bool) (d:D):Option D:=
 if (d.ids lk depth).all a then match d.toP lk depth with |some x=>some (.p x) |none=>none else none
def D.can (lk:Id->Option Obj) (d:Id->Bool) (pi:List (Id×Id)):Nat->D->Option D
 |_,.p x=>some (.p x)
 |_,.dead=>some .dead
 |_,.val v=>some (.val v)
 |_,.undef=>some .undef
 |_,.anyb=>some .anyb
 |_,.nils sz=>some (.nils sz)
 |_,.clip sz es=>some (.clip sz es)
 |_,.sl id off len=>match ren pi id with
  |some c=>some (.sl c off len)
  |none=>D.pur lk d (.sl id off len)
 |_,.map id=>match ren pi id with
  |some c=>some (.map c)
  |none=>D.pur lk d (.map id)
 |_,.it id=>match ren pi id with
  |some c=>some (.it c)
  |none=>none
 |_,.ptr id i j=>match ren pi id with
  |some c=>some (.ptr c i j)
  |none=>D.pur lk d (.ptr id i j)
 |n+1,.agg cs=>match Zm (D.can lk d pi n) cs with
  |some e=>some (.mkAgg e)
  |none=>none
 |n+1,.tup cs=>match Zm (D.can lk d pi n) cs with
  |some e=>some (.tup e)
  |none=>none
 |n+1,.fn f a b=>match Zm (D.can lk d pi n) a,Zm (D.can lk d pi n) b with
  |some a',some b'=>some (match Zm D.pure? a',Zm D.pure? b' with
   |some x,some y=> .p (.fn f x y)
   |_,_=> .fn f a' b')
  |_,_=>none
 |_,_=>none
def Obj.can (lk:Id->Option Obj) (c:Id->Bool) (pi:List (Id×Id)):Obj->Option Obj
 | .box cs=>match Zm (D.can lk c pi depth) cs with
  |some d=>some (.box d)
  |none=>none
 | .arr sz es fix=>some (.arr sz es fix)
 | .map td e=>some (.map td e)
 | .sit s a=>some (.sit s a)
 | .mit rest b=>some (.mit rest b)
 | .gone=>none
def ZW (pi:List (Id×Id)) (ρ:Id->Option Lay):Id->Option Lay:=fun id=>match Ze pi id with
 |some a=>ρ a
 |none=>none
def Zam {c:Type} [DecidableEq c]:List c->Bool
 | []=>true
 |a::r=>r.all (fun b=>decide (b≠a))&&Zam r
def Zf0 (a:St) (pi:List (Id×Id)) (ep:Nat):Bool:=
 Zam (pi.map (·.1))&&Zam (pi.map (·.2))&&pi.all fun x=>decide (x.1.1 < ep)&& !a.fz x.2
theorem ZY {c β:Type} [DecidableEq c]:∀{l:List (c×β)} {a:c} {b:β},Ze l a=some b->(a,b)∈l
 | [],a,b,h=>by simp[Ze]at h
 |(x,y)::r,a,b,h=>by
  simp only[Ze]at h;split at h
  ·rename_i d;simp only[ZmR]at h;subst d h;exact ZmG
  ·exact Zna _ (ZY h)
theorem Zad {d β:Type} [DecidableEq d]:∀{l:List (d×β)} {a:d} {b:β},Zam (l.map (·.1))=true->(a,b)∈l->Ze l a=some b
 | [],a,b,_,h=>by simp at h
 |(x,y)::r,a,b,hn,h=>by
  simp only[ZmD,Zam,Zmt]at hn;simp only[Ze];rcases ZmF.1 h with h |h
  ·simp only[ZmS]at h;obtain⟨rfl,rfl⟩:=h;simp
  ·have c:a≠x:=by have:=ZmX.1 hn.1 a (Znc.2 ⟨(a,b),h,rfl⟩);simpa using this
   rw[if_neg c];exact Zad hn.2 h
theorem Zjn {pi:List (Id×Id)} {a b:Id} (h:ren pi a=some b):(b,a)∈pi:=by
 induction pi with
 |nil=>simp[ren]at h
 |cons x r c=>
  obtain⟨n,o⟩:=x;simp only[ren]at h;split at h
  ·rename_i d;simp only[ZmR]at h;subst d h;exact ZmG
  ·exact Zna _ (c h)
theorem Zf5 {pi:List (Id×Id)} (h:Zam (pi.map (·.2))=true) {a b o:Id} (d:(a,o)∈pi) (e:(b,o)∈pi):a=b:=by
 induction pi with
 |nil=>simp at d
 |cons x r g=>
  obtain⟨n,o'⟩:=x;simp only[ZmD,Zam,Zmt]at h;have f:∀c,(c,o)∈r->o≠o':=fun c i=>by have:=ZmX.1 h.1 o (Znc.2 ⟨(c,o),i,rfl⟩);simpa using this
  rcases ZmF.1 d with d |d<;>rcases ZmF.1 e with e |e
  ·simp only[ZmS]at d e;rw[d.1,e.1]
  ·simp only[ZmS]at d;exact absurd d.2 (f _ e)
  ·simp only[ZmS]at e;exact absurd e.2 (f _ d)
  ·exact g h.2 d e
section
variable {C:Ctx} {X:Nat->Prop} {ρ:Id->Option Lay} {S:Nat->Prop} {st:St} {tm:Array Value} {w:World}
theorem ZgR (h:Rep C X ρ S st tm w) {v:Value} {d d':D} (hr:RelD w S ρ v d) (hp:D.pur st.objs st.fz d=some d') {ρ':Id->Option Lay}:RelD w S ρ' v d':=by unfold D.pur at hp;split at hp;rotate_left;simp at hp;rename_i hall;split at hp;rotate_left;simp at hp;rename_i x hx;cases hp;refine .p _ _ (Zaz (S':=S) h.objs (fun _ h=>h) depth _ _ _ hr hx fun id hid L b hL hb=> ?_);obtain⟨o,q1,q2⟩:=Zbj depth _ _ hx id hid;exact(h.own id o L b q1 q2 hL hb).2.2.1 (ZmX.1 hall id hid)
theorem ZjY (h:Rep C X ρ S st tm w) {pi:List (Id×Id)} (hn:Zam (pi.map (·.1))=true):∀(n:Nat) (v:Value) (d d':D),RelD w S ρ v d->d.can st.objs st.fz pi n=some d'->RelD w S (ZW pi ρ) v d':=by
 have hρ:∀{old new:Id} {L:Lay},ren pi old=some new->ρ old=some L->ZW pi ρ new=some L:=by intro old new L hr hL;simp only[ZW,Zad hn (Zjn hr)];exact hL
 have base:∀(n:Nat) (v:Value) (d d':D),(∀cs,d≠ .agg cs)->(∀cs,d≠ .tup cs)->(∀f a b,d≠ .fn f a b)->RelD w S ρ v d->d.can st.objs st.fz pi n=some d'->RelD w S (ZW pi ρ) v d':=by
  intro n v d d' h1 h2 h3 hr hc;cases hr with
  |p v x hp=>cases n<;>simp[D.can]at hc<;>subst hc<;>exact .p _ _ hp
  |dead v=>cases n<;>simp[D.can]at hc<;>subst hc<;>exact .dead _
  |val v=>cases n<;>simp[D.can]at hc<;>subst hc<;>exact .val _
  |undef=>cases n<;>simp[D.can]at hc<;>subst hc<;>exact .undef
  |anyb b=>cases n<;>simp[D.can]at hc<;>subst hc<;>exact .anyb _
  |nils sz=>cases n<;>simp[D.can]at hc<;>subst hc<;>exact .nils _
  |clip a m sz es hp=>cases n<;>simp[D.can]at hc<;>subst hc<;>exact .clip _ _ _ _ hp
  |agg vs cs=>exact absurd rfl (h1 cs)
  |tup vs cs=>exact absurd rfl (h2 cs)
  |fn f fs cs a b=>exact absurd rfl (h3 f a b)
  |sl id off len cap a L hL hl hm hcp ha=>
   have hc:(match ren pi id with |some id'=>some (D.sl id' off len) |none=>D.pur st.objs st.fz (.sl id off len))=some d':=by cases n<;>exact hc
   split at hc
   ·rename_i id' hid;cases hc;exact .sl id' off len cap a L (hρ hid hL) hl hm hcp ha
   ·exact ZgR h (.sl id off len cap a L hL hl hm hcp ha) hc
  |ptr id i j L b hL hi hb=>
   have hc:(match ren pi id with |some id'=>some (D.ptr id' i j) |none=>D.pur st.objs st.fz (.ptr id i j))=some d':=by cases n<;>exact hc
   split at hc
   ·rename_i id' hid;cases hc;exact .ptr id' i j L b (hρ hid hL) hi hb
   ·exact ZgR h (.ptr id i j L b hL hi hb) hc
  |map id L b hL hb=>
   have hc:(match ren pi id with |some id'=>some (D.map id') |none=>D.pur st.objs st.fz (.map id))=some d':=by cases n<;>exact hc
   split at hc
   ·rename_i id' hid;cases hc;exact .map id' L b (hρ hid hL) hb
   ·exact ZgR h (.map id L b hL hb) hc
  |it id L b hL hb=>
   have hc:(match ren pi id with |some id'=>some (D.it id') |none=>none)=some d':=by cases n<;>exact hc
   split at hc;rotate_left;simp at hc;rename_i id' hid;cases hc;exact .it id' L b (hρ hid hL) hb
 intro n
 induction n with
 |zero=>
  intro v d d' hr hc;refine base 0 v d d' ?_ ?_ ?_ hr hc
  all_goals (intros;intro he;subst he;simp[D.can]at hc)
 |succ n ih=>
  intro v d d' hr hc;cases hr with
  |agg vs cs hl h1 hh=>
   simp only[D.can]at hc;split at hc;rotate_left;simp at hc;rename_i ds hds;cases hc;obtain⟨q1,q2⟩:=Zj hds;refine Zf7 (by omega) fun j u d hu hd=>⟨?_,h1 j u hu⟩
   have hj:j < cs.length:=by have:=(Zmp.1 hu).1;omega
   exact ih _ _ _ (hh j u cs[j] hu (by simp[hj])) (q2 j cs[j] d (by simp[hj]) hd)
  |tup vs cs hl hh=>
   simp only[D.can]at hc;split at hc;rotate_left;simp at hc;rename_i ds hds;cases hc;obtain⟨q1,q2⟩:=Zj hds;refine .tup _ _ (by omega) fun j u d hu hd=> ?_
   have hj:j < cs.length:=by have:=(Zmp.1 hu).1;omega
   exact ih _ _ _ (hh j u cs[j] hu (by simp[hj])) (q2 j cs[j] d (by simp[hj]) hd)
  |fn f fs cs a b hf hcl hh hh'=>
   simp only[D.can]at hc;split at hc;rotate_left;simp at hc;rename_i a' b' ha hb;cases hc;obtain⟨q1,q2⟩:=Zj ha;obtain⟨q3,q4⟩:=Zj hb;have e1:∀(j:Nat) u d,fs[j]? =some u->a'[j]? =some d->RelD w S (ZW pi ρ) u d:=fun j u d hu hd=>by
    have hj:j < a.length:=by have:=(Zmp.1 hu).1;omega
    exact ih _ _ _ (hh j u a[j] hu (by simp[hj])) (q2 j a[j] d (by simp[hj]) hd)
   have e2:∀(j:Nat) u d,cs[j]? =some u->b'[j]? =some d->RelD w S (ZW pi ρ) u d:=fun j u d hu hd=>by
    have hj:j < b.length:=by have:=(Zmp.1 hu).1;omega
    exact ih _ _ _ (hh' j u b[j] hu (by simp[hj])) (q4 j b[j] d (by simp[hj]) hd)
   split
   ·rename_i x y hx hy;have hx':=Zu hx;have hy':=Zu hy;subst hx' hy';simp only[List.length_map]at q1 q3;refine .p _ _ (.fn f fs cs x y (by omega) (by omega) (fun j u c hu hc=> ?_) (fun j u c hu hc=> ?_))
    ·exact(e1 j u (.p c) hu (by simp[hc])).of_p
    ·exact(e2 j u (.p c) hu (by simp[hc])).of_p
   ·exact .fn f fs cs a' b' (by omega) (by omega) e1 e2
  |_=>exact base (n+1) _ _ d' (by simp) (by simp) (by simp) (by constructor<;>assumption) hc
theorem Zim (h:Rep C X ρ S st tm w) {pi:List (Id×Id)} (hn:Zam (pi.map (·.1))=true) {L:Lay} {o o':Obj} (hr:ZB w S ρ L o) (hc:o.can st.objs st.fz pi=some o'):ZB w S (ZW pi ρ) L o':=by
 cases o with
 |box cs=>
  simp only[Obj.can]at hc;split at hc;rotate_left;simp at hc;rename_i ds hds;cases hc;obtain⟨q1,q2⟩:=Zj hds;obtain⟨b,r1,r2,r3,r4⟩:=hr;refine⟨b,r1,by omega,r3,fun j d hd=> ?_⟩;have hj:j < cs.length:=by have:=(ZmA.1 hd).1;omega
  obtain⟨v,s1,s2,s3,s4⟩:=r4 j cs[j] (by simp[hj]);exact⟨v,s1,s2,s3,ZjY h hn _ _ _ _ s4 (q2 j cs[j] d (by simp[hj]) hd)⟩
 |arr sz es fix=>simp only[Obj.can,ZmR]at hc;subst hc;exact hr
 |map td kv=>simp only[Obj.can,ZmR]at hc;subst hc;exact hr
 |sit s pos=>simp only[Obj.can,ZmR]at hc;subst hc;exact hr
 |mit rest cur=>simp only[Obj.can,ZmR]at hc;subst hc;exact hr
 |gone=>simp[Obj.can]at hc
theorem Obj.can_gone {lk:Id->Option Obj} {b:Id->Bool} {pi:List (Id×Id)} {o o':Obj} (a:o.can lk b pi=some o'):o≠ .gone/\o'≠ .gone:=by
 cases o<;>simp[Obj.can]at a<;>refine⟨by simp, ?_⟩
 ·split at a<;>simp at a;subst a;simp
 all_goals (subst a;simp)
def Zl1 (a:St) (pi:List (Id×Id)):Option (List Obj):=Zm (fun x=>match a.objs x.2 with |some o=>o.can a.objs a.fz pi |none=>none) pi
def ZhG (pi:List (Id×Id)) (os:List Obj):Id->Option Obj:=Ze ((pi.map (·.1)).zip os)
theorem ZeH:∀{pi:List (Id×Id)} {os:List Obj} {id:Id} {o:Obj},ZhG pi os id=some o->∃(j:Nat) (a:Id),pi[j]? =some (id,a)/\os[j]? =some o
 | [],os,id,o,h=>by simp[ZhG,Ze]at h
 |x::r,[],id,o,h=>by simp[ZhG,Ze]at h
 |(n,a)::r,u::os,id,o,h=>by
  simp only[ZhG,ZmD,List.zip_cons_cons,Ze]at h;split at h
  ·rename_i d;simp only[ZmR]at h;subst d h;exact⟨0,a,rfl,rfl⟩
  ·obtain⟨j,b,q1,c⟩:=ZeH (pi:=r) (os:=os) h;exact⟨j+1,b,by simpa using q1,by simpa using c⟩
theorem Rep.select (h:Rep C X ρ S st tm w) {pi:List (Id×Id)} {ep:Nat} {f:St} {s:Array Value} {C':Ctx}
  (v:Zf0 st pi ep=true) (c:∀e o',f.objs e=some o'->∃a o,(e,a)∈pi/\st.objs a=some o/\o≠ .gone/\∀L,ρ a=some L->ZB w S ρ L o->ZB w S (ZW pi ρ) L o')
  (hE:C'.E.globs=C.E.globs) (P:s.size=C'.E.nt)
  (Q:ZS C'.W w) (t:C'.H.size<=w.heap.size) (m:∀b,b < C'.H.size->¬C'.Lt b->w.heap[b]? =C'.H[b]?) (N:∀b,C'.S0 b->S b)
  (K:∀e a o L b,(e,a)∈pi->st.objs a=some o->o≠ .gone->ρ a=some L->L.blk=some b->C'.H.size<=b\/C'.Lt b)
  (u:∀id,f.fz id=false) (z:f.ep=ep) (y:1<=ep) (j:∀k,RelD w S (ZW pi ρ) (s.getD k undef) (f.slots k))
  (T:∀b,S b->C'.S0 b\/C'.H.size<=b\/C'.Lt b) (D:∀k L,C'.lays k=some L->ZW pi ρ (0,k,0)≠none->ZW pi ρ (0,k,0)=some L):
  Rep C' (fun _=>False) (ZW pi ρ) S f s w:=by
 simp only[Zf0,Zmt,ZmX,decide_eq_true_eq,ZmW]at v;obtain⟨⟨M,O⟩,n⟩:=v;have d:∀{e a:Id},(e,a)∈pi->ZW pi ρ e=ρ a:=fun R=>by simp only[ZW,Zad M R]
 refine⟨P,t,m,N,h.sIn,j, ?_, ?_, ?_, ?_, ?_, ?_, ?_,T,z▸y,Q,D⟩
 ·intro id o' q Z;obtain⟨a,o,q1,p,r,E⟩:=c id o' q;obtain⟨L,l,hr⟩:=h.objs a o p r;exact⟨L,by rw[d q1];exact l,E L l hr⟩
 ·intro id o' L b q Z l G;obtain⟨a,o,q1,p,r,E⟩:=c id o' q;rw[d q1]at l;obtain⟨F,Y,W,V⟩:=h.own a o L b p r l G;have H:=(n _ q1).2;refine⟨F,K id a o L b q1 p r l G,fun x=> ?_,fun _=>V H⟩;rw[u id]at x;simp at x
 ·intro id o1 L J o2 L' b q Z l G U aa B I;obtain⟨a,o,q1,p,r,E⟩:=c id o1 q;obtain⟨A,o',F,Y,W,V⟩:=c J o2 U;rw[d q1]at l;rw[d F]at B;have:=h.inj a o L A o' L' b p r l G Y W B I;subst this;exact Zf5 O q1 F
 ·intro id i;cases q:f.objs id with
  |none=>exact absurd q i
  |some o'=>
   obtain⟨a,o,q1,p,r,E⟩:=c id o' q;rw[d q1];exact h.known a (by simp[p])
 ·intro id i;left;rw[z];unfold ZW at i;cases x:Ze pi id with
  |none=>rw[x]at i;simp at i
  |some a=>exact(n _ (ZY x)).1
 ·intro id H;rw[u id]at H;simp at H
 ·intro g cs R;exact h.glob g cs (hE▸R)
def mkS (ep:Nat) (a:List (Nat×D)) (lo:List (Id×Obj)):St:={slots:=Zal .dead a,objs:=Ze lo,fz:=fun _=>false,ep:=ep}
theorem ZaG {b β:Type} [DecidableEq b] (d:β):∀(l:List (b×β)) (a:b),Zal d l a=d\/(a,Zal d l a)∈l
 | [],a=> .inl rfl
 |(x,y)::r,a=>by
  simp only[Zal];split
  ·rename_i c;subst c;exact .inr ZmG
  ·exact(ZaG d r a).imp (fun h=>h) fun h=>Zna _ h
def Zk3 (pi:List (Id×Id)):Bool:=pi.all fun x=>decide (x.1.2.2≠0)||decide (x.1=x.2)
theorem Rep.canon (h:Rep C X ρ S st tm w) {pi:List (Id×Id)} {ep:Nat} {ls:List Nat} {ds:List D} {os:List Obj} (hep:1<=ep) (hpi:Zf0 st pi ep=true) (hkeep:Zk3 pi=true) (hos:Zl1 st pi=some os)
  (hds:Zm (fun t=>(st.slots t).can st.objs st.fz pi depth) ls=some ds):Rep C (fun _=>False) (ZW pi ρ) S (mkS ep (ls.zip ds) ((pi.map (·.1)).zip os)) tm w:=by
 have hn1:Zam (pi.map (·.1))=true:=by simp only[Zf0,Zmt]at hpi;exact hpi.1.1
 obtain⟨hol,hoi⟩:=Zj hos;obtain⟨hdl,hdi⟩:=Zj hds;refine h.select hpi ?_ rfl h.nt h.quiet h.grow h.frame h.s0 (fun new old o L b _ q2 q3 q4 q5=>(h.own old o L b q2 q3 q4 q5).2.1) (fun _=>rfl) rfl hep ?_ h.sOut ?_
 ·intro new o' ho;obtain⟨j,old,q1,q2⟩:=ZeH ho;have:=hoi j _ _ q1 q2;have hm:=Zne q1;dsimp only at this;split at this;rotate_left;simp at this;rename_i o hoo;exact⟨old,o,hm,hoo,(Obj.can_gone this).1,fun L _ hr=>Zim h hn1 hr this⟩
 ·intro k;rcases ZaG D.dead (ls.zip ds) k with hk |hk
  ·show RelD _ _ _ _ (Zal D.dead (ls.zip ds) k);rw[hk];exact .dead _
  ·obtain⟨j,hj⟩:=List.mem_iff_getElem?.1 hk;rw[List.getElem?_zip_eq_some]at hj;have:=hdi j _ _ hj.1 hj.2;exact ZjY h hn1 _ _ _ _ (h.slots k) this
 ·intro k L hk hn;unfold ZW at hn|-
  cases hq:Ze pi (0,k,0)with
  |none=>rw[hq]at hn;simp at hn
  |some old=>
   rw[hq]at hn;have hm:=ZY hq;have:=ZmX.1 hkeep _ hm;simp only[ne_eq,not_true_eq_false,decide_false,Bool.false_or,decide_eq_true_eq]at this;subst this;exact h.lay k L hk hn
end
def Zle:List Bool->Prop
 | []=>True
 | [a]=>a=true
 |a::r=>a=true/\Zle r
theorem Zdn:∀{l:List Bool},Zle l->∀p∈l,p=true
 | [],_,p,c=>by simp at c
 | [a],h,p,c=>by simp at c;subst c;exact h
 |a::b::r,h,p,c=>by
  rcases ZmF.1 c with rfl |c
  ·exact h.1
  ·exact Zdn h.2 p c
section
variable {C:Ctx} {r:Fm} {G:Zj8}
end
end Eng
namespace Eng
open Go
inductive Arg where
 |p (x:P)
 |box (cs:List P)
 |arr (sz:Nat) (es:List P)
 |map (td:TD) (kv:List (P×P))
 |part (sz:Nat) (es:List P) (off len:Nat)
 deriving Inhabited
inductive RV where
 |p (x:P)
 |own (sz:Nat) (es:List P)
 |box (cs:List P)
 |map (td:TD) (kv:List (P×P))
 |view (k off len:Nat)
 deriving Inhabited
structure Ret where
 res:List RV
 outs:List (Nat×Arg):=[]
 deriving Inhabited
def Arg.d (k:Nat):Arg->D
 | .p x=> .p x
 | .box _=> .ptr (0,k,0) 0 0
 | .arr _ es=> .sl (0,k,0) 0 es.length
 | .map _ _=> .map (0,k,0)
 | .part _ _ a len=> .sl (0,k,0) a len
def Arg.o:Arg->Option Obj
 | .p _=>none
 | .box cs=>some (.box (cs.map .p))
 | .arr sz es=>some (.arr sz es false)
 | .map td a=>some (.map td a)
 | .part sz es _ _=>some (.arr sz es false)
def ZcT:Nat->List Arg->List (Nat×D)
 |_,[]=>[]
 |k,a::r=>(k,a.d k)::ZcT (k+1) r
def Zdd:Nat->List Arg->List (Id×Obj)
 |_,[]=>[]
 |k,a::r=>match a.o with
  |some o=>((0,k,0),o)::Zdd (k+1) r
  |none=>Zdd (k+1) r
def Zew (args:List Arg):St:=mkS 1 (ZcT 0 args) (Zdd 0 args)
def RV.d (j:Nat):RV->D
 | .p x=> .p x
 | .own _ es=> .sl (1,j,0) 0 es.length
 | .box _=> .ptr (1,j,0) 0 0
 | .map _ _=> .map (1,j,0)
 | .view k a len=> .sl (0,k,0) a len
def RV.o:RV->Option Obj
 | .own sz es=>some (.arr sz es false)
 | .box cs=>some (.box (cs.map .p))
 | .map td a=>some (.map td a)
 |_=>none
def Zkb:Nat->List RV->List (Nat×D)
 |_,[]=>[]
 |j,x::r=>(j,x.d j)::Zkb (j+1) r
def ZhB:Nat->List RV->List (Id×Obj)
 |_,[]=>[]
 |j,x::r=>match x.o with
  |some o=>((1,j,0),o)::ZhB (j+1) r
  |none=>ZhB (j+1) r
def Zc7:List (Nat×Arg)->List (Id×Obj)
 | []=>[]
 |(k,a)::r=>match a.o with
  |some o=>((0,k,0),o)::Zc7 r
  |none=>Zc7 r
def ZcC (ret:Ret):St:=mkS 2 (Zkb 0 ret.res) (ZhB 0 ret.res++Zc7 ret.outs)
def ZgJ (vs:Array Value):Value:=if h:vs.size=1 then vs[0]else .tuple vs
def Env.at (E:Env) (n:Nat):Env:={E with nt:=n}
def FunB (E:Env) (f:Nat) (args:List Arg) (ret:Ret):Prop:=
 (∃fn,E.prog.funcs[f]? =some fn/\(fn.name == "runtime.NumGoroutine")=false/\fn.body.isNone=false)/\
 ∀(w:World) (Lt S:Nat->Prop) (lays:Nat->Option Lay) (ρ:Id->Option Lay) (vals:Array Value),vals.size=args.length->
  Rep ⟨E.at vals.size,w,Lt,S,lays⟩ (fun _=>False) ρ S (Zew args) vals w->
  CallsIn (Zcj none) 0 E.prog f vals w fun e w'=>∃vs ρ' S',e= .returned (ZgJ vs)/\vs.size=ret.res.length/\
   Rep ⟨E.at vs.size,w,Lt,S,lays⟩ (fun _=>False) ρ' S' (ZcC ret) vs w'
def FunX (E:Env) (f:Nat) (args:List Arg) (ret:Ret):Prop:=
 (∃fn,E.prog.funcs[f]? =some fn/\fn.body.isNone=true)/\
 ∀(w:World) (Lt S:Nat->Prop) (b:Nat->Option Lay) (ρ:Id->Option Lay) (a:Array Value),a.size=args.length->
  Rep ⟨E.at a.size,w,Lt,S,b⟩ (fun _=>False) ρ S (Zew args) a w->
  ∃vs ρ' S' w',(callFunc f a).run E.prog w= .ok (.value (ZgJ vs)) w'/\vs.size=ret.res.length/\
   Rep ⟨E.at vs.size,w,Lt,S,b⟩ (fun _=>False) ρ' S' (ZcC ret) vs w'
def Fun (E:Env) (f:Nat) (args:List Arg) (ret:Ret):Prop:=FunB E f args ret\/FunX E f args ret
def Zih (C:Ctx) (fn:Func) (ret:Ret):Zj8:=fun e a w'=>
 (e= .normal\/e= .ret)/\a.defers=[]/\∃vs ρ' S',(results fn a.tmps).run C.E.prog w'= .ok (ZgJ vs) w'/\vs.size=ret.res.length/\
  Rep ⟨C.E.at vs.size,C.W,C.Lt,C.S0,C.lays⟩ (fun _=>False) ρ' S' (ZcC ret) vs w'
theorem Ziy {E:Env} {f:Nat} {fn:Func} {c:Code} {args:List Arg} {ret:Ret} (hf:E.prog.funcs[f]? =some fn) (hn:(fn.name == "runtime.NumGoroutine")=false) (hb:fn.body=some c) (hl:args.length<=fn.ntmps)
  (h:∀W Lt S0 lays,AWP ⟨E.at fn.ntmps,W,Lt,S0,lays⟩ ⟨none,[]⟩ (Zih ⟨E.at fn.ntmps,W,Lt,S0,lays⟩ fn ret) [.c c] (Zew args)):Fun E f args ret:=by
 refine .inl ⟨⟨fn,hf,hn,by rw[hb];rfl⟩,fun w Lt S lays ρ vals hv hrep=> ?_⟩;refine callsIn_of_wp hf hb trivial ?_ rfl;intro b k cs hro _ _;have hrep':Rep ⟨E.at fn.ntmps,w,Lt,S,lays⟩ (Xof [.c c]) ρ S (Zew args) (vals++Array.replicate (fn.ntmps - vals.size) undef) w:=by
  refine⟨by simp[Env.at];omega,hrep.grow,hrep.frame,hrep.s0,hrep.sIn,fun k=> ?_,hrep.objs,hrep.own,hrep.inj,hrep.known,fun id hn=>(hrep.young id hn).imp (fun h=>h) (fun h=>h.2.elim),hrep.fzk,hrep.glob,hrep.sOut,hrep.ep1,hrep.quiet,hrep.lay⟩;have:=hrep.slots k;have e:(vals++Array.replicate (fn.ntmps - vals.size) undef).getD k undef=vals.getD k undef:=by
   simp only[Array.getD_eq_getD_getElem?,ZmT];split
   ·rfl
   ·rename_i hk;rw[Array.getElem?_eq_none (Nat.le_of_not_lt hk),Array.getElem?_replicate];split<;>rfl
  rw[e];exact this
 obtain⟨e,a',w',⟨he,hd,vs,ρ',S',hres,hvs,hr⟩,harr⟩:=h w Lt S lays ρ S {tmps:=vals++Array.replicate (fn.ntmps - vals.size) undef,defers:=[]} w hrep' rfl b k cs hro;refine⟨e,a',w', ?_,harr⟩;have:a'.defers=[]/\∃v,(results fn a'.tmps).run E.prog w'= .ok v w'/\∃vs ρ' S',Ending.returned v= .returned (ZgJ vs)/\vs.size=ret.res.length/\Rep ⟨E.at vs.size,w,Lt,S,lays⟩ (fun _=>False) ρ' S' (ZcC ret) vs w':=
  ⟨hd,_,hres,vs,ρ',S',rfl,hvs,hr⟩
 rcases he with rfl |rfl<;>exact this
end Eng
namespace Eng
open Go
section
variable {C:Ctx} {X:Nat->Prop} {ρ:Id->Option Lay} {S:Nat->Prop} {st:St} {tm:Array Value} {w:World}
theorem Rep.freeze (h:Rep C X ρ S st tm w) (fs:List Id) (j:∀f∈fs,∃o,st.objs f=some o/\o≠ .gone):∃S',(∀b,S b->S' b)/\(∀f∈fs,∀L b,ρ f=some L->L.blk=some b->S' b)/\Rep C X ρ S' (st.freezeL fs) tm w/\∀b,S' b->S b\/∃f L,f∈fs/\ρ f=some L/\L.blk=some b:=by
 let S':Nat->Prop:=fun b=>S b\/∃f L,f∈fs/\ρ f=some L/\L.blk=some b
 have l:∀b,S b->S' b:=fun b c=> .inl c
 have u:Zcx S w w:=fun _ _ _=>rfl
 refine⟨S',l,fun f a L b d c=> .inr ⟨f,L,a,d,c⟩,⟨h.nt,h.grow,h.frame,fun b c=> .inl (h.s0 b c), ?_, ?_, ?_, ?_, ?_, ?_, ?_, ?_,fun g cs z=>(h.glob g cs z).mono u l, ?_,by rw[ZeT];exact h.ep1,h.quiet,h.lay⟩,fun _ h=>h⟩
 ·intro b c;rcases c with c |⟨f,L,a,d,c⟩
  ·exact h.sIn b c
  ·obtain⟨o,e,i⟩:=j f a;exact(h.own f o L b e i d c).1
 ·intro k;rw[Zch];exact(h.slots k).mono u l fun _ _ h=>h
 ·intro id o e i;rw[ZH]at e;obtain⟨L,d,B⟩:=h.objs id o e i;exact⟨L,d,B.mono u l (fun _ _ h=>h) fun _ _=>rfl⟩
 ·intro id o L b e i d c;rw[ZH]at e;obtain⟨y,x,A,v⟩:=h.own id o L b e i d c;rw[freezeL_fz];refine⟨y,x,fun a=> ?_,fun a=> ?_⟩
  ·simp only[Bool.or_eq_true,Zm0]at a;rcases a with a |a
   ·exact .inr ⟨id,L,a,d,c⟩
   ·exact .inl (A a)
  ·simp only[Bool.or_eq_false_iff]at a;rintro(hS |⟨f,L',r,q,n⟩)
   ·exact v a.2 hS
   ·obtain⟨o',m,p⟩:=j f r;have:=h.inj id o L f o' L' b e i d c m p q n;subst this;have:=a.1;simp[r]at this
 ·intro id o L t o' L' b e i d c m p q n;rw[ZH]at e m;exact h.inj id o L t o' L' b e i d c m p q n
 ·intro id s;rw[ZH]at s;exact h.known id s
 ·intro id s;rw[ZeT];exact h.young id s
 ·intro id a;rw[freezeL_fz]at a;simp only[Bool.or_eq_true,Zm0]at a;rcases a with a |a
  ·obtain⟨o,e,i⟩:=j id a;obtain⟨L,d,_⟩:=h.objs id o e i;simp[d]
  ·exact h.fzk id a
 ·intro b c;rcases c with c |⟨f,L,a,d,c⟩
  ·exact h.sOut b c
  ·obtain⟨o,e,i⟩:=j f a;exact .inr (h.own f o L b e i d c).2.1
end
def Zk0 (E:Env) (a:St):ResultVar->Option D
 | .tmp t=>some (a.slots t)
 | .cell ad t=>match E.ty t with
  |some ti=>match a.slots ad with
   | .p (.ptr cs)=>match ZdI ti cs with
    |some x=>some (.p x)
    |none=>none
   | .ptr id 0 j=>match a.objs id with
    |some (.box cs)=>Zfr ti (cs.drop j)
    |_=>none
   |_=>none
  |none=>none
inductive RM where
 |p |own |box |map |view
 deriving Inhabited
def Zab (a:St):Obj->Option (Arg×List Id)
 | .box b=>match Zm (fun d=>d.toP a.objs depth) b with
  |some cs=>some (.box cs,b.flatMap fun d=>d.ids a.objs depth)
  |none=>none
 | .arr sz es false=>some (.arr sz es,[])
 | .map td c=>some (.map td c,[])
 |_=>none
structure RE where
 rv:RV
 fs:List Id:=[]
 id:Option Id:=none
 cond:List Bool:=[]
def Zjl (a:St) (m:RM) (d:D):Option RE:=
 match m,d with
 | .p,d=>match d.toP a.objs depth with
  |some x=>some {rv:= .p x,fs:=d.ids a.objs depth}
  |none=>none
 | .own,.sl id 0 len=>match a.objs id with
  |some (.arr sz es false)=>some {rv:= .own sz es,id:=some id,cond:=[decide (len=es.length)]}
  |_=>none
 | .box,.ptr id 0 0=>match a.objs id with
  |some (.box ds)=>match Zm (fun d=>d.toP a.objs depth) ds with
   |some cs=>some {rv:= .box cs,fs:=ds.flatMap fun d=>d.ids a.objs depth,id:=some id}
   |none=>none
  |_=>none
 | .map,.map id=>match a.objs id with
  |some (.map td kv)=>some {rv:= .map td kv,id:=some id}
  |_=>none
 | .view,.sl (0,k,0) off len=>some {rv:= .view k off len}
 |_,_=>none
def Zmg (b:St) (k:Nat):Option ((Nat×Arg)×List Id):=
 match b.objs (0,k,0)with
 |some o=>match Zab b o with
  |some (a,fs)=>some ((k,a),fs)
  |none=>none
 |none=>none
def Zig:Nat->List RE->List (Id×Id)
 |_,[]=>[]
 |j,x::r=>match x.id with
  |some id=>((1,j,0),id)::Zig (j+1) r
  |none=>Zig (j+1) r
def ZfK (os:List Nat):RV->Bool
 | .view k _ _=>os.contains k
 |_=>true
def Zmd (E:Env) (a:St) (c:List ResultVar) (ms:List RM) (outs:List Nat):Option (Ret×List Bool):=
 match Zm (Zk0 E a) c with
 |some b=>if b.length=ms.length then match Zm (fun x=>Zjl a x.1 x.2) (ms.zip b),Zm (Zmg a) outs with
  |some res,some os=>
   let fs:=res.flatMap (·.fs)++os.flatMap (·.2)
   let pi:=Zig 0 res++outs.map fun k=>((0,k,0),(0,k,0))
   if Zf0 (a.freezeL fs) pi 2&&res.all (fun x=>ZfK outs x.rv)then some (⟨res.map (·.rv),os.map (·.1)⟩,res.flatMap (·.cond))else none
  |_,_=>none
  else none
 |none=>none
theorem ZgQ {P:Program} {fn:Func} {tm:Array Value} {w:World} {vs:List Value} (hl:vs.length=fn.results.size)
  (h:∀(j:Nat) rv v,fn.results[j]? =some rv->vs[j]? =some v->(match rv with | .tmp t=>pure (tm.getD t undef) | .cell a t=>do loadVar t (<-asAddr (tm.getD a undef)):Sem Value).run P w= .ok v w):
  (results fn tm).run P w= .ok (ZgJ vs.toArray) w:=by
 have key:∀(l:List ResultVar) (us:List Value),us.length=l.length->(∀(j:Nat) rv v,l[j]? =some rv->us[j]? =some v->(match rv with | .tmp t=>pure (tm.getD t undef) | .cell a t=>do loadVar t (<-asAddr (tm.getD a undef)):Sem Value).run P w= .ok v w)->
   (l.mapM fun | .tmp t=>pure (tm.getD t undef) | .cell a t=>do loadVar t (<-asAddr (tm.getD a undef)):Sem (List Value)).run P w= .ok us w:=by
  intro l
  induction l with
  |nil=>intro us hu _;have:=Zm1 hu;subst this;simp
  |cons rv l ih=>
   intro us hu hh
   match us,hu with
   |v::us,hu=>
    have h0:=hh 0 rv v rfl rfl;have h1:=ih us (by simpa using hu) fun j rv v hr hv=>hh (j+1) rv v (by simpa using hr) (by simpa using hv)
    rw[List.mapM_cons,Sem.run_bind,h0,Result.andThen_ok,Sem.run_bind,h1,Result.andThen_ok,Sem.run_pure]
 have:=key fn.results.toList vs (by simpa using hl) (fun j rv v hr hv=>h j rv v (by simpa using hr) hv);unfold results;rw[Array.mapM_eq_mapM_toList];rw[Sem.run_bind,Sem.run_map]
 erw [this]
 simp only[Result.andThen_ok,Sem.run_pure];rfl
section
variable {C:Ctx} {X:Nat->Prop} {ρ:Id->Option Lay} {S:Nat->Prop} {st:St} {w:World}
theorem Zkt {a:Act} (hE:Zk C.E) (h:Rep C X ρ S st a.tmps w) {rv:ResultVar} {d:D} (hd:Zk0 C.E st rv=some d):
  ∃v,(match rv with | .tmp t=>pure (a.tmps.getD t undef) | .cell ad t=>do loadVar t (<-asAddr (a.tmps.getD ad undef)):Sem Value).run C.E.prog w= .ok v w/\RelD w S ρ v d:=by
 cases rv with
 |tmp t=>
  simp only[Zk0,ZmR]at hd;subst hd;exact⟨_,by simp,h.slots t⟩
 |cell ad t=>
  simp only[Zk0]at hd;split at hd;rotate_left;simp at hd;rename_i ti hty;obtain⟨ii,ds,z,hti⟩:=hE.is hty;have hs:=h.slots ad;generalize hv:a.tmps.getD ad undef=pv at hs;split at hd
  ·rename_i cs hst;split at hd;rotate_left;simp at hd;rename_i x hx;cases hd;rw[hst]at hs;have hs:=hs.of_p;cases hs with
   |ptr b o' _ vs hS hcell h1 hr=>
    obtain⟨hle,hrel⟩:=Zcf (w:=w) (S:=S) hx hti.one;have get:∀(j:Nat) u,((List.range ti.size).map vs)[j]? =some u->j < ti.size/\u=vs j:=by
     intro j u hu;have hlt:j < ti.size:=by have:=(ZmA.1 hu).1;simpa using this
     simp[hlt]at hu;exact⟨hlt,hu.symm⟩
    have hrun:=Zb1 (C:=C) (w:=w) hE hty b o' ((List.range ti.size).map vs) (by simp) (fun j u hu=>by obtain⟨hlt,rfl⟩:=get j u hu;exact hcell j cs[j] (by simp))
    refine⟨Zan ti ((List.range ti.size).map vs).toArray,by
     have hv':a.tmps[ad]?.getD undef= .pointer (some ⟨b,o',none⟩):=by simpa using hv
     simp[asAddr,hv',hrun],.p _ _ (hrel _ (by simp) fun j u c hu hc=> ?_)⟩
    obtain⟨hlt,rfl⟩:=get j u hu;exact⟨hr j c hc,h1 j c hc⟩
  ·rename_i id j hst;split at hd;rotate_left;simp at hd;rename_i cs hlk;rw[hst]at hs;cases hs with
   |ptr _ _ _ L b hL hi hb=>
    obtain⟨hle,hrel⟩:=ZdJ (w:=w) (S:=S) (ρ:=ρ) hd hti.one;obtain⟨L',hL',b',hb',hsz,hln,hcs⟩:=h.objs id _ hlk (by simp);rw[hL]at hL';obtain rfl:=ZmQ hL';rw[hb]at hb';obtain rfl:=ZmQ hb';have get:∀k,k < ti.size->∃u,w.cell? ⟨b,L.base+0*L.sz+j+k,none⟩=some u/\ZbO u/\∀c,(cs.drop j)[k]? =some c->RelD w S ρ u c:=by intro k hk;simp at hle;obtain⟨u,hu,_,h1,hr⟩:=hcs (j+k) cs[j+k] (by simp);refine⟨u,by rw[<-hu];congr 2;omega,h1,fun c hc=> ?_⟩;rw[List.getElem?_drop]at hc;obtain⟨_,rfl⟩:=ZmA.1 hc;exact hr
    let us:List Value:=(List.range ti.size).map fun k=>(w.cell? ⟨b,L.base+0*L.sz+j+k,none⟩).getD default
    have hus:∀(k:Nat) u,us[k]? =some u->k < ti.size/\w.cell? ⟨b,L.base+0*L.sz+j+k,none⟩=some u:=by
     intro k u hu;have hlt:k < ti.size:=by have:=(ZmA.1 hu).1;simpa[us]using this
     obtain⟨u',q1,_⟩:=get k hlt;simp[us,hlt]at hu;simp only[Nat.zero_mul,Nat.add_zero]at q1|-
     rw[q1]at hu;exact⟨hlt,by rw[q1];simpa using hu⟩
    have hrun:=Zb1 (C:=C) (w:=w) hE hty b (L.base+0*L.sz+j) us (by simp[us]) (fun k u hu=>(hus k u hu).2);refine⟨Zan ti us.toArray,by
     have hv':a.tmps[ad]?.getD undef= .pointer (some ⟨b,L.base+0*L.sz+j,none⟩):=by simpa using hv
     simp only[Nat.zero_mul,Nat.add_zero]at hv' hrun;simp[asAddr,hv',hrun],hrel _ (by simp[us]) fun k u c hu hc=> ?_⟩
    obtain⟨q1,q2⟩:=hus k u hu;obtain⟨u',r1,r2,r3⟩:=get k q1;rw[q2]at r1;obtain rfl:=ZmQ r1;exact⟨r3 c hc,r2⟩
  ·simp at hd
end
theorem Zfg:∀(n:Nat) (l:List RE) (j:Nat) (x:RE) (id:Id),l[j]? =some x->x.id=some id->((1,n+j,0),id)∈Zig n l
 |n,[],j,x,id,h,_=>by simp at h
 |n,y::l,j,x,id,h,hid=>by
  cases j with
  |zero=>
   simp only[Zm6,ZmR]at h;subst h;simp[Zig,hid]
  |succ j=>
   simp only[Zm5]at h;have:=Zfg (n+1) l j x id h hid;rw[show n+(j+1)=n+1+j by omega];unfold Zig;split
   ·exact Zna _ this
   ·exact this
theorem ZhC:∀(n:Nat) (l:List RV) (k:Nat) (d:D),(k,d)∈Zkb n l->∃j x,l[j]? =some x/\k=n+j/\d=x.d (n+j)
 |n,[],k,d,h=>by simp[Zkb]at h
 |n,x::l,k,d,h=>by
  rcases ZmF.1 h with h |h
  ·simp only[ZmS]at h;obtain⟨rfl,rfl⟩:=h;exact⟨0,x,rfl,rfl,rfl⟩
  ·obtain⟨j,b,q1,c,a⟩:=ZhC (n+1) l k d h;exact⟨j+1,b,by simpa using q1,by omega,by rw[a];congr 1;omega⟩
theorem ZhA:∀(n:Nat) (l:List RV) (id:Id) (o:Obj),(id,o)∈ZhB n l->∃j x,l[j]? =some x/\id=(1,n+j,0)/\x.o=some o
 |n,[],id,o,h=>by simp[ZhB]at h
 |n,x::l,id,o,h=>by
  have a:(id,o)∈ZhB (n+1) l->∃j b,(x::l)[j]? =some b/\id=(1,n+j,0)/\b.o=some o:=fun h=>by obtain⟨j,b,q1,e,d⟩:=ZhA (n+1) l id o h;exact⟨j+1,b,by simpa using q1,by rw[e];congr 2;omega,d⟩
  unfold ZhB at h;split at h
  ·rename_i u c;rcases ZmF.1 h with h |h
   ·simp only[ZmS]at h;obtain⟨rfl,rfl⟩:=h;exact⟨0,x,rfl,rfl,c⟩
   ·exact a h
  ·exact a h
theorem Zf1:∀(l:List (Nat×Arg)) (id:Id) (o:Obj),(id,o)∈Zc7 l->∃k a,(k,a)∈l/\id=(0,k,0)/\a.o=some o
 | [],id,o,h=>by simp[Zc7]at h
 |(k,a)::l,id,o,h=>by
  have b:(id,o)∈Zc7 l->∃c d,(c,d)∈(k,a)::l/\id=(0,c,0)/\d.o=some o:=fun h=>by obtain⟨c,d,q1,f⟩:=Zf1 l id o h;exact⟨c,d,Zna _ q1,f⟩
  unfold Zc7 at h;split at h
  ·rename_i u e;rcases ZmF.1 h with h |h
   ·simp only[ZmS]at h;obtain⟨rfl,rfl⟩:=h;exact⟨k,a,ZmG,rfl,e⟩
   ·exact b h
  ·exact b h
section
variable {C:Ctx} {X:Nat->Prop} {ρ ρ':Id->Option Lay} {S S':Nat->Prop} {st:St} {tm:Array Value} {w:World}
theorem ZbD (h:Rep C X ρ S st tm w) (i:∀b,S b->S' b) {L:Lay} {o:Obj} {a:Arg} {fs:List Id} (e:Zab st o=some (a,fs)) (l:∀f∈fs,∀L b,ρ f=some L->L.blk=some b->S' b) (n:ZB w S ρ L o):
  ∃o',a.o=some o'/\o≠ .gone/\ZB w S' ρ' L o':=by
 have q:Zcx S w w:=fun _ _ _=>rfl
 cases o with
 |box g=>
  simp only[Zab]at e;split at e;rotate_left;simp at e;rename_i cs k;simp only[ZmR,ZmS]at e;obtain⟨rfl,rfl⟩:=e;obtain⟨q1,B⟩:=Zj k;obtain⟨b,z,F,D,u⟩:=n;refine⟨_,rfl,by simp,b,z,by simp;omega,D,fun j d p=> ?_⟩;rw[ZmB,ZmP]at p;obtain⟨c,s,rfl⟩:=p;have r:j < g.length:=by have:=(ZmA.1 s).1;omega
  obtain⟨v,t,x,A,y⟩:=u j g[j] (by simp[r]);exact⟨v,t,x,A,.p _ _ (Zaz h.objs i depth _ _ _ y (B j g[j] c (by simp[r]) s) fun id m L b=>l id (ZmH.2 ⟨g[j],List.getElem_mem _,m⟩) L b)⟩
 |arr sz es fix=>
  cases fix with
  |true=>simp[Zab]at e
  |false=>
   simp only[Zab,ZmR,ZmS]at e;obtain⟨rfl,rfl⟩:=e;exact⟨_,rfl,by simp,n.mono (ρ':=ρ) q i (fun _ _ h=>h) fun _ _=>rfl⟩
 |map td E=>
  simp only[Zab,ZmR,ZmS]at e;obtain⟨rfl,rfl⟩:=e;exact⟨_,rfl,by simp,n.mono (ρ':=ρ) q i (fun _ _ h=>h) fun _ _=>rfl⟩
 |_=>simp[Zab]at e
theorem ZeI (h:Rep C X ρ S st tm w) {o:Obj} {a:Arg} {fs:List Id} (b:Zab st o=some (a,fs)):∀f∈fs,∃o,st.objs f=some o/\o≠ .gone:=by
 intro f g;cases o with
 |box k=>
  simp only[Zab]at b;split at b;rotate_left;simp at b;rename_i cs c;simp only[ZmR,ZmS]at b;obtain⟨rfl,rfl⟩:=b;obtain⟨q1,m⟩:=Zj c;obtain⟨d,l,e⟩:=ZmH.1 g;obtain⟨j,i,rfl⟩:=Znb.1 l;exact Zbj depth _ _ (m j k[j] cs[j] (by simp[i]) (by simp[q1,i])) f e
 |arr sz es fix=>
  cases fix<;>simp[Zab]at b;obtain⟨_,rfl⟩:=b;simp at g
 |map td n=>
  simp only[Zab,ZmR,ZmS]at b;obtain⟨_,rfl⟩:=b;simp at g
 |_=>simp[Zab]at b
theorem Zks {m:RM} {d:D} {x:RE} (a:Zjl st m d=some x):∀f∈x.fs,∃o,st.objs f=some o/\o≠ .gone:=by
 intro f b;unfold Zjl at a;split at a
 ·split at a;rotate_left;simp at a;rename_i y i;cases a;exact Zbj depth _ _ i f b
 ·split at a<;>simp at a;subst a;simp at b
 ·split at a;rotate_left;simp at a;rename_i k h;split at a;rotate_left;simp at a;rename_i cs c;cases a;obtain⟨q1,n⟩:=Zj c;obtain⟨d,l,e⟩:=ZmH.1 b;obtain⟨j,g,rfl⟩:=Znb.1 l;exact Zbj depth _ _ (n j k[j] cs[j] (by simp[g]) (by simp[q1,g])) f e
 ·split at a<;>simp at a;subst a;simp at b
 ·cases a;simp at b
 ·simp at a
end
section
variable {C:Ctx} {r:Fm}
theorem Zh2 {fn:Func} {k:List Item} {st:St} {ret0 ret:Ret} {ps:List Bool} (e:Exit) (he:e= .normal\/e= .ret) (ms:List RM) (outs:List Nat) (hE:Zk C.E) (hr:Zmd C.E st fn.results.toList ms outs=some (ret0,ps)) (hre:ret0=ret) (hp:Zle ps) (hds:r.ds=[])
  (hX:∀j,¬Xof k j)
  (harr:∀(a:Act) (w:World) (b:Frame) (k0:List Go.Item) (cs:List Frame),b.roundOf=r.r->ArrivesIn (Machine.fenced C.E.prog (Zcj r.r)) C.E.prog (lone (b.atR a (k.map conc++k0)) cs w) b k0 cs e a w):AWP C r (Zih C fn ret) k st:=by
 subst hre;intro ρ S a w hrep hd b k0 cs hb;refine⟨e,a,w,⟨he,by rw[hd,hds], ?_⟩,harr a w b k0 cs hb⟩;unfold Zmd at hr;split at hr;rotate_left;simp at hr;rename_i ds hds';split at hr;rotate_left;simp at hr;rename_i hlen;split at hr;rotate_left;simp at hr;rename_i res os hres hos;dsimp only at hr;split at hr;rotate_left;simp at hr;rename_i hok;simp only[Zmt,ZmX]at hok;obtain⟨hpi,hview⟩:=hok;simp only[ZmR,ZmS]at hr;obtain⟨rfl,rfl⟩:=hr;obtain⟨d1,d2⟩:=Zj hds';obtain⟨r1,r2⟩:=Zj hres;obtain⟨o1,o2⟩:=Zj hos;have hv:∀j:Nat,∃v,∀rv d,fn.results[j]? =some rv->ds[j]? =some d->(match rv with | .tmp t=>pure (a.tmps.getD t undef) | .cell ad t=>do loadVar t (<-asAddr (a.tmps.getD ad undef)):Sem Value).run C.E.prog w= .ok v w/\RelD w S ρ v d:=by
  intro j;cases hq:fn.results[j]? with
  |none=>exact⟨undef,fun rv d h=>by simp at h⟩
  |some rv=>
   have hj:j < ds.length:=by rw[d1];have:=(Zmp.1 hq).1;simpa using this
   obtain⟨v,q1,q2⟩:=Zkt (a:=a) hE hrep (d2 j rv ds[j] (by simpa using hq) (by simp[hj]));refine⟨v,fun rv' d h1 h2=> ?_⟩;obtain rfl:=ZmQ h1;rw[Zmz hj]at h2;obtain rfl:=ZmQ h2;exact⟨q1,q2⟩
 let f:Nat->Value:=fun j=>(hv j).choose
 have hf:∀(j:Nat) rv d,fn.results[j]? =some rv->ds[j]? =some d->_:=fun j=>(hv j).choose_spec
 let vs:List Value:=(List.range fn.results.size).map f;have hvl:vs.length=fn.results.size:=by simp[vs]
 have hvj:∀(j:Nat) v,vs[j]? =some v->j < fn.results.size/\v=f j:=by
  intro j v hv;have hj:j < fn.results.size:=by have:=(ZmA.1 hv).1;omega
  simp[vs,hj]at hv;exact⟨hj,hv.symm⟩
 have hrun:=ZgQ (P:=C.E.prog) (fn:=fn) (tm:=a.tmps) (w:=w) hvl (fun j rv v hrv hv=>by
  obtain⟨hj,rfl⟩:=hvj j v hv;have hj':j < ds.length:=by rw[d1];simpa using hj
  exact(hf j rv ds[j] hrv (by simp[hj'])).1)
 have hlr:ds.length=fn.results.size:=by rw[d1];simp
 have hrl:res.length=fn.results.size:=by rw[r1,List.length_zip];omega
 let fs:=res.flatMap (·.fs)++os.flatMap (·.2);have hfs:∀g∈fs,∃o,st.objs g=some o/\o≠ .gone:=by
  intro g hg;rcases ZmE.1 hg with hg |hg
  ·obtain⟨x,hx,hgx⟩:=ZmH.1 hg;obtain⟨j,hj,rfl⟩:=Znb.1 hx;have hz:j < (ms.zip ds).length:=by omega
   exact Zks (r2 j (ms.zip ds)[j] res[j] (by simp only[Zmz hz]) (Zmz hj)) g hgx
  ·obtain⟨x,hx,hgx⟩:=ZmH.1 hg;obtain⟨j,hj,rfl⟩:=Znb.1 hx;have hz:j < outs.length:=by omega
   have:=o2 j outs[j] os[j] (Zmz hz) (Zmz hj);unfold Zmg at this;split at this;rotate_left;simp at this;split at this;rotate_left;simp at this;rename_i a' fs' ha';have e1:=ZmQ this;rw[<-e1]at hgx;exact ZeI hrep ha' g hgx
 obtain⟨S',hSS,hFS,hrep',_⟩:=hrep.freeze fs hfs;let pi:=Zig 0 res++outs.map fun k=>(((0,k,0):Id),((0,k,0):Id))
 have hn1:Zam (pi.map (·.1))=true:=by have:=hpi;simp only[Zf0,Zmt]at this;exact this.1.1
 have hrho:∀{new old:Id},(new,old)∈pi->ZW pi ρ new=ρ old:=fun hm=>by simp only[ZW,Zad hn1 hm]
 refine⟨vs.toArray,ZW pi ρ,S',hrun,by simp[hvl,hrl],hrep'.select (C':=⟨C.E.at vs.toArray.size,C.W,C.Lt,C.S0,C.lays⟩) hpi ?_ rfl rfl hrep'.quiet hrep'.grow hrep'.frame hrep'.s0 (fun new old o L b _ q2 q3 q4 q5=>(hrep'.own old o L b q2 q3 q4 q5).2.1) (fun _=>rfl) rfl (by decide) ?_ hrep'.sOut ?_⟩
 ·intro new o' ho;have hm:=ZY ho;rw[ZH];rcases ZmE.1 hm with hm |hm
  ·obtain⟨j,x,q1,q2,q3⟩:=ZhA 0 _ _ _ hm;rw[Znh]at q2;rw[ZmB,ZmP]at q1;obtain⟨re,q1,rfl⟩:=q1;have hj:j < res.length:=(ZmA.1 q1).1;have hz:j < (ms.zip ds).length:=by omega
   have hre:=r2 j (ms.zip ds)[j] re (by simp only[Zmz hz]) q1;generalize (ms.zip ds)[j]=md at hre;obtain⟨m,d⟩:=md;have hin:∀id,re.id=some id->(new,id)∈pi:=fun id hid=>Zm8 _ (by rw[q2];have:=Zfg 0 res j re id q1 hid;rwa [Znh]at this)
   have hfsm:∀g∈re.fs,∀L b,ρ g=some L->L.blk=some b->S' b:=fun g hg=>hFS g (Zm8 _ (ZmH.2 ⟨re,Zne q1,hg⟩))
   dsimp only at hre;unfold Zjl at hre;split at hre
   ·split at hre;rotate_left;simp at hre;cases hre;simp[RV.o]at q3
   ·rename_i id len;split at hre;rotate_left;simp at hre;rename_i sz es hlk;cases hre;simp only[RV.o,ZmR]at q3;subst q3;exact⟨id,_,hin id rfl,hlk,by simp,fun L _ hr=>hr⟩
   ·rename_i id;split at hre;rotate_left;simp at hre;rename_i dsb hlk;split at hre;rotate_left;simp at hre;rename_i csb hcs;cases hre;simp only[RV.o,ZmR]at q3;subst q3;refine⟨id,_,hin id rfl,hlk,by simp,fun L hL _=> ?_⟩;obtain⟨L',hL',hro⟩:=hrep.objs id _ hlk (by simp);rw[hL]at hL';obtain rfl:=ZmQ hL';obtain⟨o',p1,_,p3⟩:=ZbD (ρ':=ZW pi ρ) hrep hSS (a:= .box csb) (fs:=dsb.flatMap fun d=>d.ids st.objs depth) (by simp[Zab,hcs]) hfsm hro;simp only[Arg.o,ZmR]at p1;subst p1;exact p3
   ·rename_i id;split at hre;rotate_left;simp at hre;rename_i td kv hlk;cases hre;simp only[RV.o,ZmR]at q3;subst q3;exact⟨id,_,hin id rfl,hlk,by simp,fun L _ hr=>hr⟩
   ·cases hre;simp[RV.o]at q3
   ·simp at hre
  ·obtain⟨kk,aa,q1,q2,q3⟩:=Zf1 _ _ _ hm;obtain⟨x,hx,hxe⟩:=Znc.1 q1;obtain⟨j,hj,rfl⟩:=Znb.1 hx;have hz:j < outs.length:=by omega
   have hout:=o2 j outs[j] os[j] (Zmz hz) (Zmz hj);unfold Zmg at hout;split at hout;rotate_left;simp at hout;rename_i o hlk;split at hout;rotate_left;simp at hout;rename_i a' fs' ha';have e1:=ZmQ hout;rw[<-e1]at hxe;simp only[ZmS]at hxe;obtain⟨rfl,rfl⟩:=hxe;obtain⟨L,hL,hro⟩:=hrep.objs _ o hlk (ZbD (ρ':=ZW pi ρ) (S':=fun _=>True) hrep (fun _ _=>trivial) ha' (fun _ _ _ _ _ _=>trivial) (hrep.objs _ o hlk (by intro hg;subst hg;simp[Zab]at ha')).choose_spec.2).choose_spec.2.1;have hfsm:∀g∈fs',∀L b,ρ g=some L->L.blk=some b->S' b:=fun g hg=>hFS g (Zm9 _ (ZmH.2 ⟨os[j],List.getElem_mem hj,by rw[<-e1];exact hg⟩))
   obtain⟨o2',p1,p2,p3⟩:=ZbD (ρ':=ZW pi ρ) hrep hSS ha' hfsm hro;rw[p1]at q3;obtain rfl:=ZmQ q3;refine⟨(0,outs[j],0),o,Zm9 _ (Znc.2 ⟨outs[j],List.getElem_mem hz,by rw[q2]⟩),hlk,p2,fun L' hL' _=> ?_⟩;rw[hL]at hL';obtain rfl:=ZmQ hL';exact p3
 ·intro k';show RelD w S' (ZW pi ρ) (vs.toArray.getD k' undef) (Zal D.dead (Zkb 0 (res.map (·.rv))) k');rcases ZaG D.dead (Zkb 0 (res.map (·.rv))) k' with hk |hk
  ·rw[hk];exact .dead _
  ·obtain⟨j,x,q1,q2,q3⟩:=ZhC 0 _ _ _ hk;rw[Znh]at q2 q3;subst q2;rw[q3];rw[ZmB,ZmP]at q1;obtain⟨re,q1,rfl⟩:=q1;have hj:k' < res.length:=(ZmA.1 q1).1;have hz:k' < (ms.zip ds).length:=by omega
   have hdj:k' < ds.length:=by omega
   have hre:=r2 k' (ms.zip ds)[k'] re (by simp only[Zmz hz]) q1;simp only[List.getElem_zip]at hre;have hjr:k' < fn.results.size:=by omega
   have hrel:RelD w S ρ (f k') ds[k']:=(hf k' fn.results[k'] ds[k'] (by simp[hjr]) (by simp[hdj])).2;have hval:vs.toArray.getD k' undef=f k':=by simp[vs,hjr]
   rw[hval];have hin:∀id,re.id=some id->((1,k',0),id)∈pi:=fun id hid=>Zm8 _ (by have:=Zfg 0 res k' re id q1 hid;rwa [Znh]at this)
   have hfsm:∀g∈re.fs,∀L b,ρ g=some L->L.blk=some b->S' b:=fun g hg=>hFS g (Zm8 _ (ZmH.2 ⟨re,Zne q1,hg⟩))
   have hcm:∀c∈re.cond,c=true:=fun c hc=>Zdn hp c (ZmH.2 ⟨re,Zne q1,hc⟩)
   have hvw:=hview re (Zne q1);generalize ds[k']=d at hre hrel;generalize f k'=v at hrel|-
   generalize ms[k']=m at hre;have kp:Zcx S w w:=fun _ _ _=>rfl
   unfold Zjl at hre;split at hre
   ·split at hre;rotate_left;simp at hre;rename_i x hx;cases hre;exact .p _ _ (Zaz hrep.objs hSS depth _ _ _ hrel hx hfsm)
   ·rename_i id len;split at hre;rotate_left;simp at hre;rename_i sz es hlk;cases hre;have hle:len=es.length:=of_decide_eq_true (hcm _ ZmG);subst hle;cases hrel with
    |sl _ _ _ cap ad L hL hl hm hcp ha=>exact .sl _ 0 _ cap ad L (by rw[hrho (hin id rfl)];exact hL) hl hm hcp ha
   ·rename_i id;split at hre;rotate_left;simp at hre;split at hre;rotate_left;simp at hre;cases hre;cases hrel with
    |ptr _ _ _ L b hL hi hb=>exact .ptr _ 0 0 L b (by rw[hrho (hin id rfl)];exact hL) hi hb
   ·rename_i id;split at hre;rotate_left;simp at hre;cases hre;cases hrel with
    |map _ L b hL hb=>exact .map _ L b (by rw[hrho (hin id rfl)];exact hL) hb
   ·rename_i kk off len;cases hre;simp only[ZfK,Zm0]at hvw;cases hrel with
    |sl _ _ _ cap ad L hL hl hm hcp ha=>exact .sl _ off _ cap ad L (by rw[hrho (Zm9 _ (Znc.2 ⟨kk,hvw,rfl⟩))];exact hL) hl hm hcp ha
   ·simp at hre
 ·intro k L hk hn;unfold ZW at hn|-
  cases hq:Ze pi (0,k,0)with
  |none=>rw[hq]at hn;simp at hn
  |some old=>
   rw[hq]at hn;have hm:=ZY hq;have:old=(0,k,0):=by
    rcases ZmE.1 hm with hm |hm
    ·exfalso;have:∀(n:Nat) (l:List RE) (a b:Id),(a,b)∈Zig n l->a.1=1:=by
      intro n l
      induction l generalizing n with
      |nil=>intro a b h;simp[Zig]at h
      |cons x l ih=>
       intro a b h;unfold Zig at h;split at h
       ·rcases ZmF.1 h with h |h
        ·simp only[ZmS]at h;rw[h.1]
        ·exact ih _ a b h
       ·exact ih _ a b h
     have:=this _ _ _ _ hm;simp at this
    ·obtain⟨j,_,he⟩:=Znc.1 hm;simp only[ZmS]at he;rw[<-he.2];have:=he.1.2.1;rw[this]
   subst this;exact hrep'.lay k L hk hn
end
end Eng
namespace Eng
open Go
section
variable {C:Ctx} {r:Fm}
theorem Zl4 {fn:Func} {k:List Item} {c:St} {ret:Ret} (ret0:Ret) (d:List Bool) (ms:List RM) (outs:List Nat) (f:Zk C.E) (i:Zmd C.E c fn.results.toList ms outs=some (ret0,d)) (a:ret0=ret) (e:Zle d) (b:r.ds=[]):
  AWP C r (Zih C fn ret) (.c .ret::k) c:=
 Zh2 .ret (.inr rfl) ms outs f i a e b (fun _ h=>h.elim) fun _ _ _ k0 _ _=>
  ⟨fun g=>⟨_,.one (Zx _ _ _) (stepR_ret g)⟩,fun _=>⟨k.map conc++k0,.refl _⟩⟩
theorem Zl5 {fn:Func} {c:St} {ret:Ret} (ret0:Ret) (d:List Bool) (ms:List RM) (outs:List Nat) (f:Zk C.E) (g:Zmd C.E c fn.results.toList ms outs=some (ret0,d)) (a:ret0=ret) (e:Zle d) (b:r.ds=[]):
  AWP C r (Zih C fn ret) [] c:=
 Zh2 .normal (.inl rfl) ms outs f g a e b (fun _ h=>h.elim) fun _ _ _ _ _ _=> .refl _
end
inductive AM where
 |p |lend |part
 deriving Inhabited
structure AE where
 arg:Arg
 fs:List Id:=[]
 id:Option Id:=none
 cond:List Bool:=[]
def Zgz (a:St) (m:AM) (d:D):Option AE:=
 match m,d with
 | .p,d=>match d.toP a.objs depth with
  |some x=>some {arg:= .p x,fs:=d.ids a.objs depth}
  |none=>none
 | .lend,.ptr id 0 0=>match a.objs id with
  |some (.box ds)=>match Zm (fun d=>d.toP a.objs depth) ds with
   |some cs=>some {arg:= .box cs,fs:=ds.flatMap fun d=>d.ids a.objs depth,id:=some id}
   |none=>none
  |_=>none
 | .lend,.sl id 0 len=>match a.objs id with
  |some (.arr sz es false)=>some {arg:= .arr sz es,id:=some id,cond:=[decide (len=es.length)]}
  |_=>none
 | .lend,.map id=>match a.objs id with
  |some (.map td kv)=>some {arg:= .map td kv,id:=some id}
  |_=>none
 | .part,.sl id off len=>match a.objs id with
  |some (.arr sz es false)=>some {arg:= .part sz es off len,id:=some id}
  |_=>none
 |_,_=>none
def Zb5:D->Option (Nat×List D×List D)
 | .p (.fn f a b)=>some (f,a.map .p,b.map .p)
 | .fn f a b=>some (f,a,b)
 |_=>none
def Zaa:Nat->List AE->List (Id×Id)
 |_,[]=>[]
 |k,x::r=>match x.id with
  |some id=>((0,k,0),id)::Zaa (k+1) r
  |none=>Zaa (k+1) r
def Zev (outs:List (Nat×Arg)) (k:Nat):Obj:=match Ze outs k with
 |some a=>match a.o with
  |some o=>o
  |none=> .gone
 |none=> .gone
def Zbw (outs:List (Nat×Arg)):Nat->List AE->List (Id×Obj)
 |_,[]=>[]
 |k,x::r=>match x.id with
  |some id=>(id,Zev outs k)::Zbw outs (k+1) r
  |none=>Zbw outs (k+1) r
def RV.at (ep i:Nat) (c:List AE) (j:Nat):RV->Option D
 | .p x=>some (.p x)
 | .own _ es=>some (.sl (ep,i,j) 0 es.length)
 | .box _=>some (.ptr (ep,i,j) 0 0)
 | .map _ _=>some (.map (ep,i,j))
 | .view k b len=>match c[k]? with
  |some a=>match a.id with
   |some id=>some (.sl id b len)
   |none=>none
  |none=>none
def ZgP (ep i:Nat) (a:List AE):Nat->List RV->Option (List D)
 |_,[]=>some []
 |j,x::r=>match x.at ep i a j,ZgP ep i a (j+1) r with
  |some d,some ds=>some (d::ds)
  |_,_=>none
def Zbd:Nat->List RV->List (Nat×Obj)
 |_,[]=>[]
 |j,x::r=>match x.o with
  |some o=>(j,o)::Zbd (j+1) r
  |none=>Zbd (j+1) r
def tupD:List D->D
 | [d]=>d
 |ds=> .tup ds
def ZfE (b:St) (i:Nat) (a:List AE) (ret:Ret):Option Eff:=
 match ZgP b.ep i a 0 ret.res with
 |some c=>some {val:=tupD c,new:=Zbd 0 ret.res,wr:=Zbw ret.outs 0 a,frz:=a.flatMap (·.fs)}
 |none=>none
def Zk1 (E:Env) (a:St) (c:Call) (pts:List Nat) (ms:List AM):Option (Nat×List AE):=
 match c.callee with
 | .value f=>match Zb5 (ev E a.slots 0 f)with
  |some (g,first,caps)=>
   let d:=first++ZT E a.slots c.args.toList pts++caps
   if d.length=ms.length then match Zm (fun x=>Zgz a x.1 x.2) (ms.zip d)with
    |some b=>if Zf0 (a.freezeL (b.flatMap (·.fs))) (Zaa 0 b) 1&&(c.args.toList.all Zz)&&Zz f then some (g,b)else none
    |none=>none
   else none
  |none=>none
 |_=>none
end Eng
namespace Eng
open Go
theorem Zed:∀(n:Nat) (l:List Arg) (k:Nat) (d:D),(k,d)∈ZcT n l->∃j x,l[j]? =some x/\k=n+j/\d=x.d (n+j)
 |n,[],k,d,h=>by simp[ZcT]at h
 |n,x::l,k,d,h=>by
  rcases ZmF.1 h with h |h
  ·simp only[ZmS]at h;obtain⟨rfl,rfl⟩:=h;exact⟨0,x,rfl,rfl,rfl⟩
  ·obtain⟨j,b,q1,c,a⟩:=Zed (n+1) l k d h;exact⟨j+1,b,by simpa using q1,by omega,by rw[a];congr 1;omega⟩
theorem Zgy:∀(n:Nat) (l:List Arg) (id:Id) (o:Obj),(id,o)∈Zdd n l->∃j x,l[j]? =some x/\id=(0,n+j,0)/\x.o=some o
 |n,[],id,o,h=>by simp[Zdd]at h
 |n,x::l,id,o,h=>by
  have a:(id,o)∈Zdd (n+1) l->∃j b,(x::l)[j]? =some b/\id=(0,n+j,0)/\b.o=some o:=fun h=>by obtain⟨j,b,q1,e,d⟩:=Zgy (n+1) l id o h;exact⟨j+1,b,by simpa using q1,by rw[e];congr 2;omega,d⟩
  unfold Zdd at h;split at h
  ·rename_i u c;rcases ZmF.1 h with h |h
   ·simp only[ZmS]at h;obtain⟨rfl,rfl⟩:=h;exact⟨0,x,rfl,rfl,c⟩
   ·exact a h
  ·exact a h
theorem Zcr:∀(n:Nat) (l:List AE) (j:Nat) (x:AE) (id:Id),l[j]? =some x->x.id=some id->((0,n+j,0),id)∈Zaa n l
 |n,[],j,x,id,h,_=>by simp at h
 |n,y::l,j,x,id,h,hid=>by
  cases j with
  |zero=>
   simp only[Zm6,ZmR]at h;subst h;simp[Zaa,hid]
  |succ j=>
   simp only[Zm5]at h;have:=Zcr (n+1) l j x id h hid;rw[show n+(j+1)=n+1+j by omega];unfold Zaa;split
   ·exact Zna _ this
   ·exact this
theorem Zby:∀(n:Nat) (l:List AE) (a b:Id),(a,b)∈Zaa n l->∃j x,l[j]? =some x/\a=(0,n+j,0)/\x.id=some b
 |n,[],a,b,h=>by simp[Zaa]at h
 |n,x::l,a,b,h=>by
  have c:(a,b)∈Zaa (n+1) l->∃j d,(x::l)[j]? =some d/\a=(0,n+j,0)/\d.id=some b:=fun h=>by obtain⟨j,d,q1,g,f⟩:=Zby (n+1) l a b h;exact⟨j+1,d,by simpa using q1,by rw[g];congr 2;omega,f⟩
  unfold Zaa at h;split at h
  ·rename_i u e;rcases ZmF.1 h with h |h
   ·simp only[ZmS]at h;obtain⟨rfl,rfl⟩:=h;exact⟨0,x,rfl,rfl,e⟩
   ·exact c h
  ·exact c h
theorem Zbv {outs:List (Nat×Arg)}:∀(n:Nat) (l:List AE) (id:Id) (o:Obj),(id,o)∈Zbw outs n l->∃j x,l[j]? =some x/\x.id=some id/\o=Zev outs (n+j)
 |n,[],id,o,h=>by simp[Zbw]at h
 |n,x::l,id,o,h=>by
  have a:(id,o)∈Zbw outs (n+1) l->∃j b,(x::l)[j]? =some b/\b.id=some id/\o=Zev outs (n+j):=fun h=>by obtain⟨j,b,q1,e,d⟩:=Zbv (n+1) l id o h;exact⟨j+1,b,by simpa using q1,e,by rw[d,show n+1+j=n+(j+1) by omega]⟩
  unfold Zbw at h;split at h
  ·rename_i u c;rcases ZmF.1 h with h |h
   ·simp only[ZmS]at h;obtain⟨rfl,rfl⟩:=h;exact⟨0,x,rfl,c,rfl⟩
   ·exact a h
  ·exact a h
theorem Zdm {outs:List (Nat×Arg)}:∀(n:Nat) (l:List AE) (j:Nat) (x:AE) (id:Id),l[j]? =some x->x.id=some id->(id,Zev outs (n+j))∈Zbw outs n l
 |n,[],j,x,id,h,_=>by simp at h
 |n,y::l,j,x,id,h,hid=>by
  cases j with
  |zero=>
   simp only[Zm6,ZmR]at h;subst h;simp[Zbw,hid]
  |succ j=>
   simp only[Zm5]at h;have:=Zdm (outs:=outs) (n+1) l j x id h hid;rw[show n+(j+1)=n+1+j by omega];unfold Zbw;split
   ·exact Zna _ this
   ·exact this
theorem ZeC:∀(n:Nat) (l:List RV) (j:Nat) (o:Obj),(j,o)∈Zbd n l->∃m x,l[m]? =some x/\j=n+m/\x.o=some o
 |n,[],j,o,h=>by simp[Zbd]at h
 |n,x::l,j,o,h=>by
  have a:(j,o)∈Zbd (n+1) l->∃m b,(x::l)[m]? =some b/\j=n+m/\b.o=some o:=fun h=>by obtain⟨m,b,q1,e,d⟩:=ZeC (n+1) l j o h;exact⟨m+1,b,by simpa using q1,by omega,d⟩
  unfold Zbd at h;split at h
  ·rename_i u c;rcases ZmF.1 h with h |h
   ·simp only[ZmS]at h;obtain⟨rfl,rfl⟩:=h;exact⟨0,x,rfl,rfl,c⟩
   ·exact a h
  ·exact a h
theorem Zjj:∀(n:Nat) (l:List RV) (j:Nat) (x:RV) (o:Obj),l[j]? =some x->x.o=some o->Ze (ZhB n l) (1,n+j,0)=some o
 |n,[],j,x,o,h,_=>by simp at h
 |n,y::l,j,x,o,h,ho=>by
  cases j with
  |zero=>
   simp only[Zm6,ZmR]at h;subst h;simp[ZhB,ho,Ze]
  |succ j=>
   simp only[Zm5]at h;have:=Zjj (n+1) l j x o h ho;rw[show n+(j+1)=n+1+j by omega];unfold ZhB;split
   ·simp only[Ze];rw[if_neg (by simp;omega)];exact this
   ·exact this
theorem ZfV {ep i:Nat} {g:List AE}:∀(n:Nat) (l:List RV) (b:List D),ZgP ep i g n l=some b->b.length=l.length/\∀(j:Nat) x d,l[j]? =some x->b[j]? =some d->x.at ep i g (n+j)=some d
 |n,[],b,h=>by simp[ZgP]at h;subst h;exact⟨rfl,by simp⟩
 |n,x::l,b,h=>by
  unfold ZgP at h;split at h;rotate_left;simp at h;rename_i d f p e;cases h;obtain⟨q1,o⟩:=ZfV (n+1) l f e;refine⟨by simp[q1],fun j k m c a=> ?_⟩;cases j with
  |zero=>simp at c a;subst c a;exact p
  |succ j=>
   simp at c a;have:=o j k m c a
   rwa [show n+(j+1)=n+1+j by omega]
section
variable {C:Ctx} {X:Nat->Prop} {ρ:Id->Option Lay} {S:Nat->Prop} {st:St} {a:Act} {w:World}
theorem ZiN (h:Rep C X ρ S st a.tmps w) {c:Call} {pts:List Nat} {f:Operand} (t:c.callee= .value f) {g:Nat} {b e:List D} (q:Zb5 (ev C.E st.slots 0 f)=some (g,b,e))
  (G:Zz f=true) (A:∀x∈c.args.toList,Zz x=true):∃n:Array Value,n.size=(b++ZT C.E st.slots c.args.toList pts++e).length/\
   (∀(j:Nat) v d,n[j]? =some v->(b++ZT C.E st.slots c.args.toList pts++e)[j]? =some d->RelD w S ρ v d)/\
   ∀(ty:TypeId),((do let d <-resolve a.eval c ty;invoke d.target d.args:Sem Next)).run C.E.prog w=(callFunc g n).run C.E.prog w:=by
 have o:=Zi h 0 G;have B:∃fs cs:Array Value,a.eval f= .func (.func g) fs cs/\fs.size=b.length/\cs.size=e.length/\(∀(j:Nat) v d,fs[j]? =some v->b[j]? =some d->RelD w S ρ v d)/\∀(j:Nat) v d,cs[j]? =some v->e[j]? =some d->RelD w S ρ v d:=by
  unfold Zb5 at q;split at q
  ·rename_i F x y m;simp only[ZmR,ZmS]at q;obtain⟨rfl,rfl,rfl⟩:=q;rw[m]at o;generalize a.eval f=vf at o;have o:=o.of_p;cases o with
   |fn _ fs cs _ _ p s u r=>
    refine⟨fs,cs,rfl,by simpa using p,by simpa using s,fun j v d i k=> ?_,fun j v d i k=> ?_⟩
    ·rw[ZmB,ZmP]at k;obtain⟨x,z,rfl⟩:=k;exact .p _ _ (u j v x i z)
    ·rw[ZmB,ZmP]at k;obtain⟨x,z,rfl⟩:=k;exact .p _ _ (r j v x i z)
  ·rename_i F x y m;simp only[ZmR,ZmS]at q;obtain⟨rfl,rfl,rfl⟩:=q;rw[m]at o;generalize a.eval f=vf at o;cases o with
   |fn _ fs cs _ _ p s u r=>exact⟨fs,cs,rfl,p,s,u,r⟩
  ·simp at q
 obtain⟨fs,cs,m,p,s,u,r⟩:=B;obtain⟨q1,I⟩:=Zae h c.args.toList pts A;refine⟨fs++c.args.map a.eval++cs,by simp[p,s,q1],fun j v d i k=> ?_,fun ty=> ?_⟩
 ·rw[ZmT]at i;have J:(fs++c.args.map a.eval).size=(b++ZT C.E st.slots c.args.toList pts).length:=by simp[p,q1]
  split at i
  ·rename_i H;rw[Zm3 (by omega)]at k;rw[ZmT]at i;split at i
   ·rename_i E;rw[Zm3 (by omega)]at k;exact u j v d i k
   ·rename_i E;rw[Zm4 (by omega)]at k;refine I (j - b.length) v d ?_ k;rw[p]at i;have:=i;rw[<-ZmU]at this;simpa using this
  ·rename_i H;rw[Zm4 (by omega)]at k;rw[J]at i;exact r _ v d i k
 ·have l:c.callee= .value f:=t;simp[resolve,l,m,Deferred.ofValue,invoke,Array.append_assoc]
theorem ZiO {P:Program} {g:Nat} {fn:Func} (vals:Array Value) (w:World) (hfu:P.funcs[g]? =some fn) (hnm:(fn.name == "runtime.NumGoroutine")=false) (hbd:fn.body.isNone=false):(callFunc g vals).run P w= .ok (.enter g vals) w:=by
 have hnm':¬fn.name= "runtime.NumGoroutine" :=by simpa using hnm
 have hbd':¬fn.body=none:=by intro e;rw[e]at hbd;simp at hbd
 simp[callFunc,hfu,hnm',hbd']
theorem Zh7 {S1:Nat->Prop} (h:Rep C X ρ S st a.tmps w) (hSS:∀b,S b->S1 b) {m:AM} {d:D} {x:AE} (hx:Zgz st m d=some x) {v:Value} (hr:RelD w S ρ v d) (hfs:∀f∈x.fs,∀L b,ρ f=some L->L.blk=some b->S1 b)
  (hcond:∀c∈x.cond,c=true) {ρ':Id->Option Lay} {k:Nat} (hρ:∀id,x.id=some id->ρ' (0,k,0)=ρ id):
  RelD w S1 ρ' v (x.arg.d k)/\(∀f∈x.fs,∃o,st.objs f=some o/\o≠ .gone)/\(∀o',x.arg.o=some o'->∃id o,x.id=some id/\st.objs id=some o/\o≠ .gone/\o'≠ .gone/\∀L,ρ id=some L->ZB w S1 ρ L o->ZB w S1 ρ' L o')/\
   (∀id,x.id=some id->∃o,st.objs id=some o/\o≠ .gone):=by
 unfold Zgz at hx;split at hx
 ·split at hx;rotate_left;simp at hx;rename_i y hy;cases hx;exact⟨.p _ _ (Zaz h.objs hSS depth _ _ _ hr hy hfs),Zbj depth _ _ hy,fun o' ho=>by simp[Arg.o]at ho,fun id hid=>by simp at hid⟩
 ·rename_i id;split at hx;rotate_left;simp at hx;rename_i ds hlk;split at hx;rotate_left;simp at hx;rename_i cs hcs;cases hx;obtain⟨q1,q2⟩:=Zj hcs;refine⟨?_,ZeI (a:= .box cs) (o:= .box ds) h (by simp[Zab,hcs]),fun o' ho=> ?_,fun id' hid=>by simp at hid;subst hid;exact⟨_,hlk,by simp⟩⟩
  ·cases hr with
   |ptr _ _ _ L b hL hi hb=>exact .ptr _ 0 0 L b (by rw[hρ id rfl];exact hL) hi hb
  ·simp only[Arg.o,ZmR]at ho;subst ho;refine⟨id,_,rfl,hlk,by simp,by simp,fun L hL hro=> ?_⟩;obtain⟨L',hL',hro0⟩:=h.objs id _ hlk (by simp);rw[hL]at hL';obtain rfl:=ZmQ hL';obtain⟨o',p1,_,p3⟩:=ZbD (ρ':=ρ') h hSS (a:= .box cs) (fs:=ds.flatMap fun d=>d.ids st.objs depth) (by simp[Zab,hcs]) hfs hro0;simp only[Arg.o,ZmR]at p1;subst p1;exact p3
 ·rename_i id len;split at hx;rotate_left;simp at hx;rename_i sz es hlk;cases hx;have hle:len=es.length:=of_decide_eq_true (hcond _ ZmG);subst hle;refine⟨?_,fun f hf=>by simp at hf,fun o' ho=> ?_,fun id' hid=>by simp at hid;subst hid;exact⟨_,hlk,by simp⟩⟩
  ·cases hr with
   |sl _ _ _ cap ad L hL hl hm hcp ha=>exact .sl _ 0 _ cap ad L (by rw[hρ id rfl];exact hL) hl hm hcp ha
  ·simp only[Arg.o,ZmR]at ho;subst ho;exact⟨id,_,rfl,hlk,by simp,by simp,fun L _ hr=>hr⟩
 ·rename_i id;split at hx;rotate_left;simp at hx;rename_i td kv hlk;cases hx;refine⟨?_,fun f hf=>by simp at hf,fun o' ho=> ?_,fun id' hid=>by simp at hid;subst hid;exact⟨_,hlk,by simp⟩⟩
  ·cases hr with
   |map _ L b hL hb=>exact .map _ L b (by rw[hρ id rfl];exact hL) hb
  ·simp only[Arg.o,ZmR]at ho;subst ho;exact⟨id,_,rfl,hlk,by simp,by simp,fun L _ hr=>hr⟩
 ·rename_i id off len;split at hx;rotate_left;simp at hx;rename_i sz es hlk;cases hx;refine⟨?_,fun f hf=>by simp at hf,fun o' ho=> ?_,fun id' hid=>by simp at hid;subst hid;exact⟨_,hlk,by simp⟩⟩
  ·cases hr with
   |sl _ _ _ cap ad L hL hl hm hcp ha=>exact .sl _ off len cap ad L (by rw[hρ id rfl];exact hL) hl hm hcp ha
  ·simp only[Arg.o,ZmR]at ho;subst ho;exact⟨id,_,rfl,hlk,by simp,by simp,fun L _ hr=>hr⟩
 ·simp at hx
end
end Eng
namespace Eng
open Go
theorem ZB.pureArg {w w':World} {S S':Nat->Prop} {ρ ρ':Id->Option Lay} {L:Lay} {a:Arg} {o:Obj} (c:a.o=some o) (f:Zcx S w w') (g:∀b,S b->S' b) (e:∀b,L.blk=some b->w'.heap[b]? =w.heap[b]?) (h:ZB w S ρ L o):ZB w' S' ρ' L o:=by
 cases a with
 |p x=>simp[Arg.o]at c
 |box cs=>
  simp only[Arg.o,ZmR]at c;subst c;obtain⟨b,i,s,n,l⟩:=h;refine⟨b,i,s,n,fun j d k=> ?_⟩;obtain⟨v,q1,r,q,m⟩:=l j d k;rw[ZmB,ZmP]at k;obtain⟨x,u,rfl⟩:=k;exact⟨v,by rw[ZaV (e b i)];exact q1,by rw[Za6 (e b i)];exact r,q,.p _ _ (m.of_p.mono f g)⟩
 |arr sz es=>
  simp only[Arg.o,ZmR]at c;subst c;exact h.mono (ρ':=ρ) f g (fun _ _ h=>h) e
 |map td y=>
  simp only[Arg.o,ZmR]at c;subst c;exact h.mono (ρ':=ρ) f g (fun _ _ h=>h) e
 |part sz es t len=>
  simp only[Arg.o,ZmR]at c;subst c;exact h.mono (ρ':=ρ) f g (fun _ _ h=>h) e
theorem RV.o_arg {x:RV} {o:Obj} (h:x.o=some o):∃a:Arg,a.o=some o:=by
 cases x with
 |own sz es=>exact⟨.arr sz es,h⟩
 |box cs=>exact⟨.box cs,h⟩
 |map td c=>exact⟨.map td c,h⟩
 |p x=>simp[RV.o]at h
 |view k b len=>simp[RV.o]at h
theorem Zf2:∀(l:List (Nat×Arg)) (k:Nat) (a:Arg) (o:Obj),Ze l k=some a->a.o=some o->Ze (Zc7 l) (0,k,0)=some o
 | [],k,a,o,h,_=>by simp[Ze]at h
 |(k',a')::l,k,a,o,h,ho=>by
  simp only[Ze]at h;split at h
  ·rename_i c;simp only[ZmR]at h;subst c h;simp[Zc7,ho,Ze]
  ·rename_i b;have:=Zf2 l k a o h ho;unfold Zc7;split
   ·simp only[Ze];rw[if_neg (by simp;exact b)];exact this
   ·exact this
theorem Zcq {d β:Type} [DecidableEq d] (c e:List (d×β)) (a:d):Ze (c++e) a=match Ze c a with |some b=>some b |none=>Ze e a:=by
 induction c with
 |nil=>rfl
 |cons x r f=>
  simp only[ZmZ,Ze];split
  ·rfl
  ·exact f
theorem ZcB:∀(n:Nat) (l:List RV) (k m:Nat),Ze (ZhB n l) (0,k,m)=none
 |n,[],k,m=>rfl
 |n,x::l,k,m=>by
  unfold ZhB;split
  ·simp only[Ze];rw[if_neg (by simp)];exact ZcB (n+1) l k m
  ·exact ZcB (n+1) l k m
theorem ZhD:∀(n:Nat) (l:List RV) (j:Nat) (x:RV),l[j]? =some x->Zal D.dead (Zkb n l) (n+j)=x.d (n+j)
 |n,[],j,x,h=>by simp at h
 |n,y::l,j,x,h=>by
  cases j with
  |zero=>
   simp only[Zm6,ZmR]at h;subst h;simp[Zkb,Zal]
  |succ j=>
   simp only[Zm5]at h;have:=ZhD (n+1) l j x h;rw[show n+(j+1)=n+1+j by omega];simp only[Zkb,Zal];rw[if_neg (by omega)];exact this
theorem RV.o_gone {x:RV} {o:Obj} (h:x.o=some o):o≠ .gone:=by cases x<;>simp[RV.o]at h<;>subst h<;>simp
section
variable {C:Ctx} {r:Fm} {G:Zj8}
theorem ZjJ {ops:Array Oper} {i:Nat} {o:Oper} {X:Nat->Prop} {st:St} {c:Call} (hnotX:¬X i) (hE:Zk C.E) (ho:ops[i]? =some o) (hg:ZQ ops st o.guard=some true) (hop:o.op= .call c) (hdst:Zda C.E o=true)
  (pts:List Nat) (ms:List AM) {f:Nat} {as:List AE} (hpre:Zk1 C.E st c pts ms=some (f,as)) (hcnd:Zle (as.flatMap (·.cond))) {args:List Arg} {ret:Ret} (hargs:as.map (·.arg)=args) (hf:Fun C.E f args ret)
  {e:Eff} (he:ZfE st i as ret=some e) {ρ:Id->Option Lay} {S:Nat->Prop} {a:Act} {w:World} (hrep:Rep C X ρ S st a.tmps w) (hd:a.defers=r.ds) (b:Frame) (rest:List Nat) (kk:List Go.Item) (cs:List Frame) (hb:b.roundOf=r.r):
  ∃ρ' S' a' w',Rep C (fun j=>X j\/j=i) ρ' S' (st.app i o.dst e) a'.tmps w'/\a'.defers=r.ds/\
   StepsIn (Machine.fenced C.E.prog (Zcj r.r)) C.E.prog (lone (b.atR a (.inRegion ops (i::rest)::kk)) cs w) (lone (b.atR a' (.inRegion ops rest::kk)) cs w'):=by
 subst hargs;have hi:i < ops.size:=(Zmp.1 ho).1;have hwant:=ZaS hrep hg;unfold Zk1 at hpre;split at hpre
 case h_2=>simp at hpre
 rename_i fo hcal;split at hpre
 case h_2=>simp at hpre
 rename_i g first caps hcd
 dsimp only at hpre;split at hpre
 case isFalse=>simp at hpre
 rename_i hlen;split at hpre
 case h_2=>simp at hpre
 rename_i as' has;split at hpre
 case isFalse=>simp at hpre
 rename_i hok;simp only[ZmR,ZmS]at hpre;obtain⟨rfl,rfl⟩:=hpre;simp only[Zmt]at hok;obtain⟨⟨hpi,hal⟩,hfl⟩:=hok;obtain⟨vals,hvs,hvr,hrun⟩:=ZiN hrep (pts:=pts) hcal hcd hfl (fun x hx=>ZmX.1 hal x hx);generalize hds:first++ZT C.E st.slots c.args.toList pts++caps=ds at*
 have hrun:=hrun o.type;obtain⟨a1,a2⟩:=Zj has;have hal':as'.length=ds.length:=by rw[a1,List.length_zip];omega
 have hfs0:∀g∈as'.flatMap (·.fs),∃o,st.objs g=some o/\o≠ .gone:=by
  intro g hg;obtain⟨x,hx,hgx⟩:=ZmH.1 hg;obtain⟨j,hj,rfl⟩:=Znb.1 hx;have hz:j < (ms.zip ds).length:=by omega
  have hjd:j < ds.length:=by omega
  have hjv:j < vals.size:=by omega
  have hx':=a2 j (ms.zip ds)[j] as'[j] (Zmz hz) (Zmz hj);simp only[List.getElem_zip]at hx';exact(Zh7 (S1:=fun _=>True) (ρ':=fun id=>match as'[j].id with |some id=>ρ id |none=>none) (k:=0) hrep (fun _ _=>trivial) hx' (hvr j vals[j] ds[j] (by simp[hjv]) (by simp[hjd])) (fun _ _ _ _ _ _=>trivial)
   (fun c hc=>Zdn hcnd c (ZmH.2 ⟨as'[j],hx,hc⟩)) (fun id hid=>by simp[hid])).2.1 g hgx
 obtain⟨S1,hS1,hF1,hrep1,hS1i⟩:=hrep.freeze _ hfs0;have hn1:Zam ((Zaa 0 as').map (·.1))=true:=by have:=hpi;simp only[Zf0,Zmt]at this;exact this.1.1
 have hrho:∀{new old:Id},(new,old)∈Zaa 0 as'->ZW (Zaa 0 as') ρ new=ρ old:=fun hm=>by simp only[ZW,Zad hn1 hm]
 have harg:∀(j:Nat) (hj:j < as'.length) (hjv:j < vals.size),RelD w S1 (ZW (Zaa 0 as') ρ) vals[j] (as'[j].arg.d j)/\
   (∀o',as'[j].arg.o=some o'->∃id o,as'[j].id=some id/\st.objs id=some o/\o≠ .gone/\o'≠ .gone/\∀L,ρ id=some L->ZB w S1 ρ L o->ZB w S1 (ZW (Zaa 0 as') ρ) L o')/\
   (∀id,as'[j].id=some id->∃o,st.objs id=some o/\o≠ .gone):=by
  intro j hj hjv;have hz:j < (ms.zip ds).length:=by omega
  have hjd:j < ds.length:=by omega
  have hx':=a2 j (ms.zip ds)[j] as'[j] (Zmz hz) (Zmz hj);simp only[List.getElem_zip]at hx';have hxm:=List.getElem_mem hj;have:=Zh7 (S1:=S1) (ρ':=ZW (Zaa 0 as') ρ) (k:=j) hrep hS1 hx' (hvr j vals[j] ds[j] (by simp[hjv]) (by simp[hjd])) (fun f hf=>hF1 f (ZmH.2 ⟨_,hxm,hf⟩))
   (fun c hc=>Zdn hcnd c (ZmH.2 ⟨_,hxm,hc⟩)) (fun id hid=>hrho (by have:=Zcr 0 as' j _ id (Zmz hj) hid;rwa [Znh]at this))
  exact⟨this.1,this.2.2.1,this.2.2.2⟩
 let Lt:Nat->Prop:=fun b=>∃new old o L,(new,old)∈Zaa 0 as'/\st.objs old=some o/\o≠ .gone/\ρ old=some L/\L.blk=some b
 let C':Ctx:=⟨C.E.at vals.size,w,Lt,S1,fun k=>ZW (Zaa 0 as') ρ (0,k,0)⟩;have hvsz:vals.size=(as'.map (·.arg)).length:=by rw[List.length_map];omega
 have hcallee:Rep C' (fun _=>False) (ZW (Zaa 0 as') ρ) S1 (Zew (as'.map (·.arg))) vals w:=by
  refine hrep1.select (C':=C') hpi ?_ rfl rfl (ZS.refl _) (ZmL _) (fun _ _ _=>rfl) (fun _ h=>h) ?_ (fun _=>rfl) rfl (ZmL _) ?_ (fun b hb=> .inl hb) (fun k L hk _=>hk)
  ·intro new o' ho';obtain⟨j,x,q1,q2,q3⟩:=Zgy 0 _ _ _ (ZY ho');rw[Znh]at q2;rw[ZmB,ZmP]at q1;obtain⟨ae,q1,rfl⟩:=q1;obtain⟨hj,rfl⟩:=ZmA.1 q1;obtain⟨id,o1,r1,r2,r3,r4,r5⟩:=(harg j hj (by omega)).2.1 o' q3;refine⟨id,o1, ?_,by rw[ZH];exact r2,r3,r5⟩;rw[q2];have:=Zcr 0 as' j _ id (Zmz hj) r1
   rwa [Znh]at this
  ·intro new old o1 L b1 hm q2 q3 q4 q5;rw[ZH]at q2;exact .inr ⟨new,old,o1,L,hm,q2,q3,q4,q5⟩
  ·intro k';show RelD w S1 _ (vals.getD k' undef) (Zal D.dead (ZcT 0 (as'.map (·.arg))) k');rcases ZaG D.dead (ZcT 0 (as'.map (·.arg))) k' with hk |hk
   ·rw[hk];exact .dead _
   ·obtain⟨j,x,q1,q2,q3⟩:=Zed 0 _ _ _ hk;rw[Znh]at q2 q3;subst q2;rw[q3];rw[ZmB,ZmP]at q1;obtain⟨ae,q1,rfl⟩:=q1;obtain⟨hj,rfl⟩:=ZmA.1 q1;have hjv:k' < vals.size:=by omega
    have:vals.getD k' undef=vals[k']:=by simp[hjv]
    rw[this];exact(harg k' hj hjv).1
 have hsem:o.semAt b.roundOf a.eval=execOp a.eval o:=Oper.semAt_eq _ _ _ (fun c hc'=>by rw[hc']at hop;cases hop);have hst:=stepGR_op (P:=C.E.prog) (b:=b) (a:=a) (k:=kk) (cs:=cs) (w:=w) (i:=i) (rest:=rest) ho hwant;have hcg:∃vs ρ2 S2 w',vs.size=ret.res.length/\Rep ⟨C.E.at vs.size,w,Lt,S1,fun k=>ZW (Zaa 0 as') ρ (0,k,0)⟩ (fun _=>False) ρ2 S2 (ZcC ret) vs w'/\
   StepsIn (Machine.fenced C.E.prog (Zcj r.r)) C.E.prog (lone (b.atR a (.inRegion ops (i::rest)::kk)) cs w) (lone (b.atR (a.put o.dst (ZgJ vs)) (.inRegion ops rest::kk)) cs w'):=by
  rcases hf with hf |hf
  ·obtain⟨⟨fn,hfn1,hfn2,hfn3⟩,hcall⟩:=hf;obtain⟨_,hcall⟩:=hcall w Lt S1 _ _ vals hvsz hcallee;have hcg:=hcall (b.atR a (.inRegion ops (i::rest)::kk)::cs) (fun _ h=>by simp[Zcj]at h);obtain⟨ee,w',fr,⟨vs,ρ2,S2,rfl,hvl,hrep2⟩,hsteps,hfrf,hleave⟩:=hcg;refine⟨vs,ρ2,S2,w',hvl,hrep2, ?_⟩;have hexec:(execOp a.eval o).run C.E.prog w= .ok (.enter g vals) w:=by simp only[execOp,hop];rw[hrun];exact ZiO vals w hfn1 hfn2 hfn3
   have hfin:=Frame.finish_atR b a ops i rest kk (ZgJ vs);simp only[ho,Zni]at hfin;refine .head (Zx _ _ _) (step_lone_go (fr':=Frame.enter C.E.prog g vals .normal) (cs':=b.atR a (.inRegion ops (i::rest)::kk)::cs) (w':=w) ?_) ?_
   ·rw[hst,hsem];simp[stepG.apply,hexec,Frame.atR]
   ·refine StepsIn.trans hsteps (.one (Zx _ _ _) ?_);rw[<-hfin];exact step_leave_returned hleave
  ·obtain⟨vs,ρ2,S2,w',hv,hvl,hrep2⟩:=hf.2 w Lt S1 _ _ vals hvsz hcallee;refine⟨vs,ρ2,S2,w',hvl,hrep2, ?_⟩;have hexec:(execOp a.eval o).run C.E.prog w= .ok (.value (ZgJ vs)) w':=by simp only[execOp,hop];rw[hrun];exact hv
   have hfin:=Frame.finish_atR b a ops i rest kk (ZgJ vs);simp only[ho,Zni]at hfin;refine .one (Zx _ _ _) ?_;refine step_lone_go ?_;rw[hst,hsem,<-hfin];simp[stepG.apply,hexec]
 obtain⟨vs,ρ2,S2,w',hvl,hrep2,hsteps⟩:=hcg;have hall:∀x∈Zaa 0 as',st.fz x.2=false/\x.2∉as'.flatMap (·.fs):=by intro x hx;have:=hpi;simp only[Zf0,Zmt,ZmX,ZmW,decide_eq_true_eq]at this;have:=(this.2 x hx).2;rw[freezeL_fz]at this;simp only[Bool.or_eq_false_iff]at this;exact⟨this.2,by simpa using this.1⟩
 have hn2:Zam ((Zaa 0 as').map (·.2))=true:=by have:=hpi;simp only[Zf0,Zmt]at this;exact this.1.2
 have hlent:∀(j:Nat) (x:AE) id,as'[j]? =some x->x.id=some id->((0,j,0),id)∈Zaa 0 as'/\∃o L,st.objs id=some o/\o≠ .gone/\ρ id=some L/\ZW (Zaa 0 as') ρ (0,j,0)=some L:=by intro j x id hx hid;have hm:=Zcr 0 as' j x id hx hid;rw[Znh]at hm;obtain⟨hj,rfl⟩:=ZmA.1 hx;obtain⟨o,q1,q2⟩:=(harg j hj (by omega)).2.2 id hid;obtain⟨L,hL,_⟩:=hrep.objs id o q1 q2;exact⟨hm,o,L,q1,q2,hL,by rw[hrho hm];exact hL⟩
 have hsame:∀(j j':Nat) (x x':AE) id,as'[j]? =some x->x.id=some id->as'[j']? =some x'->x'.id=some id->j=j':=by intro j j' x x' id h1 h2 h3 h4;have:=Zf5 hn2 (hlent j x id h1 h2).1 (hlent j' x' id h3 h4).1;simpa using this
 have hout:∀(j:Nat) (x:AE) id o',as'[j]? =some x->x.id=some id->Zev ret.outs j=o'->o'≠ .gone->(∃aa:Arg,aa.o=some o')/\(ZcC ret).objs (0,j,0)=some o'/\∃L,ρ id=some L/\ρ2 (0,j,0)=some L/\ZB w' S2 ρ2 L o':=by
  intro j x id o' hx hid hb hg;unfold Zev at hb;split at hb;rotate_left;exact absurd hb.symm hg;rename_i aa haa;split at hb;rotate_left;exact absurd hb.symm hg;rename_i oo hoo;subst hb;have hobj:(ZcC ret).objs (0,j,0)=some oo:=by show Ze (ZhB 0 ret.res++Zc7 ret.outs) (0,j,0)=some oo;rw[Zcq,ZcB];exact Zf2 _ _ _ _ haa hoo
  obtain⟨L2,hL2,hro⟩:=hrep2.objs _ _ hobj hg;obtain⟨_,o1,L,q1,q2,q3,q4⟩:=hlent j x id hx hid;have:=hrep2.lay j L q4 (by rw[hL2];simp);rw[hL2]at this;obtain rfl:=ZmQ this;exact⟨⟨aa,hoo⟩,hobj,L2,q3,hL2,hro⟩
 have hgone:∀b1,Lt b1->(∀j o',(ZcC ret).objs (0,j,0)=some o'->o'≠ .gone->∀L,ρ2 (0,j,0)=some L->L.blk≠some b1)->
   ∃id o' L',(id,Obj.gone)∈Zbw ret.outs 0 as'/\st.objs id=some o'/\o'≠ .gone/\ρ id=some L'/\L'.blk=some b1/\(∀o'',(id,o'')∈Zbw ret.outs 0 as'->o''= .gone):=by
  rintro b1 ⟨new,old,o1,L,hm,q1,q2,q3,q4⟩ hno;obtain⟨j,x,hx,hnw,hid⟩:=Zby 0 as' new old hm;rw[Znh]at hnw;have hbg:Zev ret.outs j= .gone:=by
   cases hbo:Zev ret.outs j with
   |gone=>rfl
   |_=>
    exfalso;obtain⟨_,r1,L2,r2,r3,_⟩:=hout j x old _ hx hid hbo (by simp);rw[q3]at r2;obtain rfl:=ZmQ r2;exact hno j _ r1 (by simp) _ r3 q4
  refine⟨old,o1,L, ?_,q1,q2,q3,q4,fun o'' hm''=> ?_⟩
  ·have:=Zdm (outs:=ret.outs) 0 as' j x old hx hid;rw[Znh,hbg]at this;exact this
  ·obtain⟨j',x',r1,r2,r3⟩:=Zbv 0 as' old o'' hm'';rw[Znh]at r3;rw[r3,<-hsame j j' x x' old hx hid r1 r2,hbg]
 unfold ZfE at he;split at he
 case h_2=>simp at he
 rename_i rds hrds;cases he;obtain⟨rl,rg⟩:=ZfV 0 _ _ hrds;have hfresh:=hrep.fresh hnotX;let ρc:Id->Option Lay:=fun id=>if id.1=st.ep/\id.2.1=i then ρ2 (1,id.2.2,0)else ρ id
 have hρc:∀id L,ρ id=some L->ρc id=some L:=by
  intro id L hL;simp only[ρc];split
  ·rename_i hc;obtain⟨ep,jj,kk⟩:=id;simp only at hc;obtain⟨rfl,rfl⟩:=hc;rw[hfresh kk]at hL;simp at hL
  ·exact hL
 have hρn:∀m,ρc (st.ep,i,m)=ρ2 (1,m,0):=fun m=>by simp[ρc]
 have hmade:∀m o',(m,o')∈Zbd 0 ret.res->(∃aa:Arg,aa.o=some o')/\o'≠ .gone/\(ZcC ret).objs (1,m,0)=some o'/\∃L,ρ2 (1,m,0)=some L/\ZB w' S2 ρ2 L o':=by
  intro m o' hm;obtain⟨j,x,q1,q2,q3⟩:=ZeC 0 _ _ _ hm;have hg:=RV.o_gone q3;have hobj:(ZcC ret).objs (1,m,0)=some o':=by show Ze (ZhB 0 ret.res++Zc7 ret.outs) (1,m,0)=some o';rw[Zcq,q2,Zjj 0 _ j x o' q1 q3]
  obtain⟨L,hL,hro⟩:=hrep2.objs _ _ hobj hg;exact⟨RV.o_arg q3,hg,hobj,L,hL,hro⟩
 have hmb:∀m o' L b1,(m,o')∈Zbd 0 ret.res->ρ2 (1,m,0)=some L->L.blk=some b1->b1 < w'.heap.size/\¬S2 b1/\(w.heap.size<=b1\/∃id o' L',(id,Obj.gone)∈Zbw ret.outs 0 as'/\st.objs id=some o'/\o'≠ .gone/\ρ id=some L'/\L'.blk=some b1/\(∀o'',(id,o'')∈Zbw ret.outs 0 as'->o''= .gone)):=by
  intro m o' L b1 hm hL hb1;obtain⟨_,hg,hobj,_,_,_⟩:=hmade m o' hm;obtain⟨r1,r2,r3,r4⟩:=hrep2.own _ _ L b1 hobj hg hL hb1;refine⟨r1,r4 rfl, ?_⟩;rcases r2 with r2 |r2
  ·exact .inl r2
  ·refine .inr (hgone b1 r2 fun j o'' ho'' hg'' L'' hL'' hb''=> ?_);have:=hrep2.inj _ _ L _ _ L'' b1 hobj hg hL hb1 ho'' hg'' hL'' hb'';simp at this
 let N:Nat->Prop:=fun b=>S2 b/\¬S1 b
 obtain⟨S',hrepc⟩:=hrep.stepN (i:=i) (t:=o.dst) (e:={val:=tupD rds,new:=Zbd 0 ret.res,wr:=Zbw ret.outs 0 as',frz:=as'.flatMap (·.fs)}) (v:=ZgJ vs) (w':=w') ρc N
  (by
   rintro b1 ⟨h2,h3⟩;refine⟨hrep2.sIn b1 h2, ?_⟩;rcases hrep2.sOut b1 h2 with h4 |h4 |h4
   ·exact absurd h4 h3
   ·exact .inl h4
   ·refine .inr (hgone b1 h4 fun j o'' ho'' hg'' L'' hL'' hb''=> ?_);exact(hrep2.own _ _ L'' b1 ho'' hg'' hL'' hb'').2.2.2 rfl h2)
  (by
   rintro m o' L b1 hm hL hb1 ⟨h2,_⟩;rw[hρn]at hL;exact(hmb m o' L b1 hm hL hb1).2.1 h2)
  hnotX (Za9 hdst) hrep2.grow hrep2.quiet
  (by
   intro b1 hb1 hne;refine hrep2.frame b1 hb1 ?_;rintro⟨new,old,o1,L,hm,q1,q2,q3,q4⟩;obtain⟨j,x,hx,hnw,hid⟩:=Zby 0 as' new old hm;exact hne old _ L (Zdm (outs:=ret.outs) 0 as' j x old hx hid) q3 q4)
  (by
   intro id o' hm;obtain⟨j,x,q1,q2,q3⟩:=Zbv 0 as' id o' hm;obtain⟨r1,o1,L,r2,r3,_⟩:=hlent j x id q1 q2;exact⟨(hall _ r1).1,o1,r2,r3⟩)
  hρc
  (by
   intro id hn;simp only[ρc]at hn;split at hn
   ·rename_i hc;exact .inr hc
   ·exact .inl hn)
  (by
   intro id hm;obtain⟨o1,q1,q2⟩:=hfs0 id hm;obtain⟨L,hL,_⟩:=hrep.objs id o1 q1 q2;refine⟨by rw[hL];simp,fun o' hm'=> ?_⟩;obtain⟨j,x,r1,r2,_⟩:=Zbv 0 as' id o' hm';exact absurd hm (hall _ (hlent j x id r1 r2).1).2)
  (by
   intro m o' hm;obtain⟨⟨aa,haa⟩,hg,hobj,L,hL,hro⟩:=hmade m o' hm;refine⟨L,by rw[hρn];exact hL,fun b1 hb1=> ?_,fun S'' hN hS hF _=> ?_⟩
   ·have:=hmb m o' L b1 hm hL hb1;exact⟨this.2.2,this.1⟩
   ·refine ZB.pureArg haa (fun _ _ _=>rfl) (fun b1 hb1=> ?_) (fun _ _=>rfl) hro
    by_cases h1:S1 b1
    ·rcases hS1i b1 h1 with h2 |⟨g,Lg,h2,h3,h4⟩
     ·exact hS b1 h2
     ·obtain⟨o1,q1,q2⟩:=hfs0 g h2;exact hF g h2 o1 Lg b1 q1 q2 h3 h4
    ·exact hN b1 ⟨hb1,h1⟩)
  (by
   intro m o1 L1 m' o2 L2 b1 hm hg hL hb1 hm' hg' hL' hb1';rw[hρn]at hL hL';have:=hrep2.inj _ _ L1 _ _ L2 b1 (hmade m o1 hm).2.2.1 hg hL hb1 (hmade m' o2 hm').2.2.1 hg' hL' hb1';simpa using this)
  (by
   intro id o' L hm hg hL S'' hN hS hF;obtain⟨j,x,q1,q2,q3⟩:=Zbv 0 as' id o' hm;rw[Znh]at q3;obtain⟨⟨aa,haa⟩,_,L2,r2,r3,hro⟩:=hout j x id o' q1 q2 q3.symm hg;rw[hL]at r2;obtain rfl:=ZmQ r2;refine ZB.pureArg haa (fun _ _ _=>rfl) (fun b1 hb1=> ?_) (fun _ _=>rfl) hro
   by_cases h1:S1 b1
   ·rcases hS1i b1 h1 with h2 |⟨g,Lg,h2,h3,h4⟩
    ·exact hS b1 h2
    ·obtain⟨o1,q1,q2⟩:=hfs0 g h2;exact hF g h2 o1 Lg b1 q1 q2 h3 h4
   ·exact hN b1 ⟨hb1,h1⟩)
  (by
   intro S'' hN hS hF _ _;have hS2:∀b1,S2 b1->S'' b1:=fun b1 hb1=>by
    by_cases h1:S1 b1
    ·rcases hS1i b1 h1 with h2 |⟨g,Lg,h2,h3,h4⟩
     ·exact hS b1 h2
     ·obtain⟨o1,q1,q2⟩:=hfs0 g h2;exact hF g h2 o1 Lg b1 q1 q2 h3 h4
    ·exact hN b1 ⟨hb1,h1⟩
   have each:∀(j:Nat) (hj:j < vs.size) (hjr:j < rds.length),RelD w' S'' ρc vs[j] rds[j]:=by
    intro j hj hjr;have hjl:j < ret.res.length:=by omega
    have hs:=hrep2.slots j;have hsv:vs.getD j undef=vs[j]:=by simp[hj]
    rw[hsv,show (ZcC ret).slots j=Zal D.dead (Zkb 0 ret.res) j from rfl]at hs;have:=ZhD 0 ret.res j ret.res[j] (Zmz hjl);rw[Znh]at this;rw[this]at hs;have hat:=rg j ret.res[j] rds[j] (Zmz hjl) (Zmz hjr);rw[Znh]at hat;generalize vs[j]=v at hs;generalize ret.res[j]=x at hs hat;generalize rds[j]=d at hat;cases x with
    |p x=>
     simp only[RV.at,ZmR]at hat;subst hat;exact .p _ _ (hs.of_p.mono (fun _ _ _=>rfl) hS2)
    |own sz es=>
     simp only[RV.at,ZmR]at hat;subst hat;cases hs with
     |sl _ _ _ cap ad L hL hl hm hcp ha=>exact .sl _ 0 _ cap ad L (by rw[hρn];exact hL) hl hm hcp ha
    |box cs=>
     simp only[RV.at,ZmR]at hat;subst hat;cases hs with
     |ptr _ _ _ L b hL hi hb=>exact .ptr _ 0 0 L b (by rw[hρn];exact hL) hi hb
    |map td kv=>
     simp only[RV.at,ZmR]at hat;subst hat;cases hs with
     |map _ L b hL hb=>exact .map _ L b (by rw[hρn];exact hL) hb
    |view kk off len=>
     simp only[RV.at]at hat;split at hat;rotate_left;simp at hat;rename_i x hx;split at hat;rotate_left;simp at hat;rename_i id hid;cases hat;cases hs with
     |sl _ _ _ cap ad L hL hl hm hcp ha=>
      obtain⟨_,o1,L0,q1,q2,q3,q4⟩:=hlent kk x id hx hid;have:=hrep2.lay kk L0 q4 (by rw[hL];simp);rw[hL]at this;obtain rfl:=ZmQ this;exact .sl id off _ cap ad L (hρc _ _ q3) hl hm hcp ha
   have hvr:vs.size=rds.length:=by omega
   show RelD _ _ _ _ (tupD rds);unfold tupD;split
   ·rename_i d;have h1:vs.size=1:=by simpa using hvr
    have:=each 0 (by omega) (by simp);unfold ZgJ;rw[dif_pos h1];simpa using this
   ·rename_i hne;have h1:vs.size≠1:=fun h1=>by
     rw[h1]at hvr
     match rds,hvr with
     | [d],_=>exact hne d rfl
    unfold ZgJ;rw[dif_neg h1];refine .tup _ _ hvr fun j u d hu hd=> ?_
    obtain⟨hj,rfl⟩:=Zmp.1 hu;obtain⟨hj',rfl⟩:=ZmA.1 hd;exact each j hj hj')
 exact⟨ρc,S',a.put o.dst (ZgJ vs),w',hrepc,by simp[hd],hsteps⟩
end
end Eng
namespace Eng
open Go
def Zl (lk lk':Id->Option Obj) (l:List Id):Prop:=∀id∈l,lk id=lk' id
theorem ZkF {lk:Id->Option Obj}:∀(n:Nat) (d:D) (id:Id),id∈d.ids lk n->id∈d.ids lk (n+1):=by
 intro n
 induction n with
 |zero=>
  intro d id h;cases d with
  |ptr e i j=>simp only[D.ids,ZmI]at h;subst h;simp[D.ids]
  |agg cs=>simp[D.ids]at h
  |tup cs=>simp[D.ids]at h
  |fn f a b=>simp[D.ids]at h
  |it e=>simpa[D.ids]using h
  |sl e o l=>simpa using h
  |map e=>simpa using h
  |_=>simp[D.ids]at h
 |succ n m=>
  intro d id h;have g:∀cs:List D,id∈cs.flatMap (D.ids lk n)->id∈cs.flatMap (D.ids lk (n+1)):=fun cs p=>by obtain⟨c,q,hi⟩:=ZmH.1 p;exact ZmH.2 ⟨c,q,m c id hi⟩
  cases d with
  |ptr e i j=>
   simp only[D.ids,ZmF]at h|-
   rcases h with h |h
   ·exact .inl h
   ·right;split at h;rotate_left;simp at h;rename_i cs k;exact g _ h
  |agg cs=>simp only[D.ids]at h|-;exact g _ h
  |tup cs=>simp only[D.ids]at h|-;exact g _ h
  |fn f a b=>
   simp only[D.ids,ZmE]at h|-
   exact h.imp (g _) (g _)
  |it e=>simpa[D.ids]using h
  |sl e o l=>simpa using h
  |map e=>simpa using h
  |_=>simp[D.ids]at h
theorem ZdO {lk:Id->Option Obj} {n m:Nat} (h:n<=m) (d:D) {id:Id} (hi:id∈d.ids lk n):id∈d.ids lk m:=by
 induction h with
 |refl=>exact hi
 |step _ a=>exact ZkF _ _ _ a
theorem ZbJ {a β:Type} {f g:a->Option β}:∀{l:List a},(∀x∈l,f x=g x)->Zm f l=Zm g l
 | [],_=>rfl
 |x::l,h=>by simp only[Zm,h x (by simp),ZbJ (l:=l) fun y b=>h y (by simp[b])]
theorem ZC {lk lk':Id->Option Obj}:∀(n:Nat) (d:D),Zl lk lk' (d.ids lk n)->d.toP lk n=d.toP lk' n/\d.ids lk n=d.ids lk' n:=by
 intro n
 induction n with
 |zero=>
  intro d h;cases d with
  |sl id o l=>rw[Zbh,Zbh,h id (by simp)];simp
  |map id=>rw[Zbi,Zbi,h id (by simp)];simp
  |_=>simp[D.toP,D.ids]
 |succ n ih=>
  intro d h;have lst:∀cs:List D,(∀id∈cs.flatMap (D.ids lk n),lk id=lk' id)->Zm (D.toP lk n) cs=Zm (D.toP lk' n) cs/\cs.flatMap (D.ids lk n)=cs.flatMap (D.ids lk' n):=fun cs hm=>by
   have hh:∀c∈cs,D.toP lk n c=D.toP lk' n c/\D.ids lk n c=D.ids lk' n c:=fun c hc=>ih c fun id hid=>hm id (ZmH.2 ⟨c,hc,hid⟩)
   refine⟨ZbJ fun c hc=>(hh c hc).1, ?_⟩;clear hm
   induction cs with
   |nil=>rfl
   |cons c cs ihc=>
    simp only[Zm2,(hh c (by simp)).2,ihc fun c hc=>hh c (by simp[hc])]
  cases d with
  |sl id o l=>rw[Zbh,Zbh,h id (by simp)];simp
  |map id=>rw[Zbi,Zbi,h id (by simp)];simp
  |agg cs=>
   obtain⟨q1,q2⟩:=lst cs (fun id hid=>h id (by simpa[D.ids]using hid));simp[D.toP,D.ids,q1,q2]
  |ptr id i j=>
   have h0:=h id (by simp[D.ids]);cases hlk:lk id with
   |none=>rw[hlk]at h0;simp[D.toP,D.ids,hlk,<-h0]
   |some o=>
    rw[hlk]at h0;cases o with
    |box cs=>
     obtain⟨q1,q2⟩:=lst (cs.drop j) (fun id' hid=>h id' (by simp only[D.ids,hlk,ZmF];exact .inr hid));simp only[D.toP,D.ids,hlk,<-h0,q1,q2,and_self]
    |_=>simp[D.toP,D.ids,hlk,<-h0]
  |tup cs=>
   obtain⟨q1,q2⟩:=lst cs (fun id hid=>h id (by simpa[D.ids]using hid));simp[D.toP,D.ids,q2]
  |fn f a b=>
   obtain⟨q1,q2⟩:=lst a (fun id hid=>h id (by simp only[D.ids,ZmE];exact .inl hid));obtain⟨q3,q4⟩:=lst b (fun id hid=>h id (by simp only[D.ids,ZmE];exact .inr hid));simp[D.toP,D.ids,q1,q2,q3,q4]
  |_=>simp[D.toP,D.ids]
def Zc8 (E:Env) (sl:Nat->D) (lk:Id->Option Obj) (xs:List Operand):List Id:=xs.flatMap fun x=>(ev E sl 0 x).ids lk (depth+1)
theorem ZhW {E:Env} {sl:Nat->D} {lk:Id->Option Obj} (n t:Nat) (x:Operand):(ev E sl t x).ids lk n=(ev E sl 0 x).ids lk n:=by
 cases x with
 |const v=>
  have:∀sz td,(D.ofV sz td v).ids lk n=[]:=by intro sz td;unfold D.ofV;split<;>cases n<;>simp[D.ids]
  simp only[ev,this]
 |_=>rfl
section
variable {E:Env} {sl sl':Nat->D} {lk lk':Id->Option Obj} {xs:List Operand}
theorem ZaB (h:Zl lk lk' (Zc8 E sl lk xs)) {x:Operand} (b:x∈xs) (t:Nat) {n:Nat} (c:n<=depth+1):Zl lk lk' ((ev E sl t x).ids lk n):=fun id a=>by refine h id (ZmH.2 ⟨x,b, ?_⟩);rw[<-ZhW (depth+1) t x];exact ZdO c _ a
theorem Zdt {d:D} {sz:Nat} (h:Zl lk lk' (d.ids lk 1)):Zcz lk sz d=Zcz lk' sz d:=by
 have:=(ZC 1 d h).1;unfold Zcz;split
 ·rfl
 ·rw[this]
theorem Ziu {d:D} {td:TD} (h:Zl lk lk' (d.ids lk 1)):Zga lk td d=Zga lk' td d:=by
 unfold Zga;split<;>try rfl
 rename_i id _;rw[h _ (by simp)]
theorem Zg2 {d:D} (h:Zl lk lk' (d.ids lk 1)):Zfp lk d=Zfp lk' d:=by
 unfold Zfp;split<;>try rfl
 rw[h _ (by simp)]
theorem Zbr {t:Nat} {te:TI} (b:∀t x,x∈xs->ev E sl t x=ev E sl' t x) (h:Zl lk lk' (Zc8 E sl lk xs)):
  ∀(a:List (Nat×Operand)) (es:List P),(∀p∈a,p.2∈xs)->ZD E sl lk t te a es=ZD E sl' lk' t te a es
 | [],_,_=>rfl
 |(i,x)::r,es,hp=>by
  have d:=hp (i,x) (by simp);simp only[ZD,<-b t x d,<-(ZC depth _ (ZaB h d t (by decide))).1];split
  ·split
   ·exact Zbr b h r _ fun p c=>hp p (by simp[c])
   ·rfl
  ·rfl
theorem ZdP {t:Nat} (b:∀t x,x∈xs->ev E sl t x=ev E sl' t x) (h:Zl lk lk' (Zc8 E sl lk xs)):
  ∀(a:List (Nat×Operand)),(∀p∈a,p.2∈xs)->ZcN E sl lk t a=ZcN E sl' lk' t a
 | [],_=>rfl
 |(i,x)::r,hp=>by
  have d:=hp (i,x) (by simp);have:=ZdP (t:=t) b h r fun p c=>hp p (by simp[c])
  unfold ZcN at this|-
  simp only[Zm2,<-b t x d,<-(ZC depth _ (ZaB h d t (by decide))).2,this]
theorem Zc2 {ti:TI} (b:∀t x,x∈xs->ev E sl t x=ev E sl' t x):∀(a:List (Nat×Operand)) (cs:List D),(∀p∈a,p.2∈xs)->ZbR E sl ti a cs=ZbR E sl' ti a cs
 | [],_,_=>rfl
 |(i,x)::r,cs,hp=>by
  have d:=hp (i,x) (by simp);simp only[ZbR];split
  ·split
   ·simp only[<-b _ x d];split
    ·exact Zc2 b r _ fun p c=>hp p (by simp[c])
    ·rfl
   ·rfl
  ·rfl
theorem Zba (a:∀t x,x∈xs->ev E sl t x=ev E sl' t x):∀(args:List Operand) (ts:List Nat),(∀x∈args,x∈xs)->ZT E sl args ts=ZT E sl' args ts
 | [],_,_=>by cases ‹List Nat› <;>rfl
 |x::r,[],h=>by simp only[ZT,a 0 x (h x (by simp)),Zba a r [] fun y b=>h y (by simp[b])]
 |x::r,t::ts,h=>by simp only[ZT,a t x (h x (by simp)),Zba a r ts fun y b=>h y (by simp[b])]
theorem Zea (h:Zl lk lk' (Zc8 E sl lk xs)):∀(args:List Operand) (ts:List Nat),(∀x∈args,x∈xs)->∀d∈ZT E sl args ts,Zl lk lk' (d.ids lk (depth+1))
 | [],ts,_,d,a=>by cases ts<;>simp[ZT]at a
 |x::r,[],hx,d,a=>by
  simp only[ZT,ZmF]at a;rcases a with rfl |a
  ·exact ZaB h (hx x (by simp)) 0 (ZmL _)
  ·exact Zea h r [] (fun y b=>hx y (by simp[b])) d a
 |x::r,t::ts,hx,d,a=>by
  simp only[ZT,ZmF]at a;rcases a with rfl |a
  ·exact ZaB h (hx x (by simp)) t (ZmL _)
  ·exact Zea h r ts (fun y b=>hx y (by simp[b])) d a
end
end Eng
namespace Eng
open Go
def D.shal:D->List Id
 | .sl id _ _=>[id]
 | .ptr id _ _=>[id]
 | .map id=>[id]
 | .it id=>[id]
 |_=>[]
def ZdS (E:Env) (op:Op) (sl:Nat->D) (lk:Id->Option Obj):List Id:=
 match op with
 | .move _ | .assign _ | .pick .. | .alloc _ | .box .. | .build .. | .nilCheck _ | .fieldAddr .. | .field .. | .binOp .. | .unOp .. | .extract .. | .makeFunc .. | .makeMap .. | .makeSlice .. | .index .. =>[]
 | .load _ a=>(ev E sl 0 a).shal
 | .store _ a x=>(ev E sl 0 a).shal++(ev E sl 0 x).ids lk depth
 | .indexAddr _ x _=>(ev E sl 0 x).shal
 | .slice _ x _ _ _=>(ev E sl 0 x).shal
 | .next x _=>(ev E sl 0 x).shal
 | .entry x=>(ev E sl 0 x).shal
 | .range _ x=>(ev E sl 0 x).shal
 |op=>Zc8 E sl lk op.operands.toList
theorem Zbm {E:Env} {sl sl':Nat->D} {x:Option Operand} (h:∀y,x=some y->ev E sl 0 y=ev E sl' 0 y):ZbN E sl x=ZbN E sl' x:=by
 cases x with
 |none=>rfl
 |some y=>simp only[ZbN,h y rfl]
theorem ZU {E:Env} {sl sl':Nat->D} {lk lk':Id->Option Obj}:∀{xs:List Operand},(∀t x,x∈xs->ev E sl t x=ev E sl' t x)->Zl lk lk' (Zc8 E sl lk xs)->Zc8 E sl lk xs=Zc8 E sl' lk' xs
 | [],_,_=>rfl
 |x::r,he,h=>by
  have c:Zl lk lk' ((ev E sl 0 x).ids lk (depth+1)):=fun id a=>h id (ZmH.2 ⟨x,by simp,a⟩)
  have d:Zl lk lk' (Zc8 E sl lk r):=fun id a=>by obtain⟨y,b,hi⟩:=ZmH.1 a;exact h id (ZmH.2 ⟨y,by simp[b],hi⟩)
  have:=ZU (xs:=r) (fun t y b=>he t y (by simp[b])) d;unfold Zc8 at this|-
  simp only[Zm2,<-he 0 x (by simp),<-(ZC _ _ c).2,this]
section
variable {E:Env} {sl sl':Nat->D} {lk lk':Id->Option Obj}
theorem Zbe {t:Nat} {m k v:Operand} (a:∀t x,x∈[m,k,v]->ev E sl t x=ev E sl' t x) (h:Zl lk lk' (Zc8 E sl lk [m,k,v])):ZX E sl lk t m k v=ZX E sl' lk' t m k v:=by
 have f:=fun t=>a t m (by simp)
 have d:=fun t=>a t k (by simp)
 have i:=fun t=>a t v (by simp)
 have c:=fun t n=>ZaB (n:=n) h (x:=m) (by simp) t
 have b:=fun t=>(ZC 1 _ (ZaB h (x:=k) (by simp) t (by decide)))
 have e:=fun t=>(ZC depth _ (ZaB h (x:=v) (by simp) t (by decide)))
 unfold ZX;simp only[<-f,<-d,<-i,<-b,<-e];split<;>try rfl
 split<;>try rfl
 rename_i id g;have:=c 0 1 (by decide) id (by rw[g];simp);rw[this]
theorem Zet {ep i s t:Nat} {d:D} (h:Zl lk lk' (d.ids lk 1)):Zaq E ep i lk s t d=Zaq E ep i lk' s t d:=by
 have:=(ZC 1 d h).1;unfold Zaq;split<;>try rfl
 rw[this]
theorem ZfS {sz:Option Nat} {d:D} {a b c:Option Int} (h:Zl lk lk' d.shal):ZaJ lk sz d a b c=ZaJ lk' sz d a b c:=by
 unfold ZaJ;split<;>try rfl
 rename_i id _ _;rw[h id (by simp[D.shal])]
theorem Zct {ep i:Nat} {te:TI} {s:D} {xs:List P} (a:Zl lk lk' (s.ids lk 1)):Z6 lk ep i te s xs=Z6 lk' ep i te s xs:=by
 unfold Z6;split<;>try rfl
 rename_i id _;rw[a id (by simp)]
theorem ZfG {ep i:Nat} {te:TI} {s x:D} (b:Zl lk lk' (s.ids lk 1)) (a:Zl lk lk' (x.ids lk 1)):ZaH lk ep i te s x=ZaH lk' ep i te s x:=by
 unfold ZaH;rw[Zdt a];split
 ·rfl
 ·exact Zct b
theorem Zhg {te:TI} {s x:D} (b:Zl lk lk' (s.ids lk 1)) (a:Zl lk lk' (x.ids lk 1)):ZfC lk te s x=ZfC lk' te s x:=by
 unfold ZfC;split<;>try rfl
 rename_i id _ _;rw[b id (by simp)];split<;>try rfl
 rw[Zdt a]
theorem Zeu {ep i:Nat} {b:Builtin} {c:List Nat} {e:List D} (h:∀d∈e,Zl lk lk' (d.ids lk (depth+1))):ZI E ep i lk b c e=ZI E ep i lk' b c e:=by
 have a:∀d∈e,Zl lk lk' (d.ids lk 1):=fun d g id f=>h d g id (ZdO (by decide) d f)
 unfold ZI;split<;>try rfl
 ·unfold Zit;split<;>try rfl
  rename_i t d;simp only[show ∀td,Zga lk td d=Zga lk' td d from fun td=>Ziu (a d (by simp))]
 ·unfold Zb6;split<;>try rfl
  rename_i t u s x;simp only[show ∀te,ZaH lk ep i te s x=ZaH lk' ep i te s x from fun te=>ZfG (a s (by simp)) (a x (by simp)),show ∀te xs,Z6 lk ep i te s xs=Z6 lk' ep i te s xs from fun te xs=>Zct (a s (by simp))]
 ·unfold ZiK;split<;>try rfl
  rename_i t _ d s;simp only[show ∀te,ZfC lk te d s=ZfC lk' te d s from fun te=>Zhg (a d (by simp)) (a s (by simp))]
 ·unfold Zd2;split<;>try rfl
  rename_i t _ id k;rw[a (.map id) (by simp) id (by simp),(ZC 1 _ (a k (by simp))).1]
theorem ZiJ {ep i:Nat} {A:Op} {ty:Nat} (d:∀t x,x∈A.operands.toList->ev E sl t x=ev E sl' t x) (h:Zl lk lk' (ZdS E A sl lk)):
  Zd E ep i A ty sl lk=Zd E ep i A ty sl' lk'/\ZdS E A sl lk=ZdS E A sl' lk':=by
 cases A with
 |move x=>have:=fun t=>d t x (by simp[Op.operands]);exact⟨by simp only[Zd,this],rfl⟩
 |assign x=>have:=fun t=>d t x (by simp[Op.operands]);exact⟨by simp only[Zd,this],rfl⟩
 |pick c a b=>
  have e:=fun t=>d t c (by simp[Op.operands])
  have o:=fun t=>d t a (by simp[Op.operands])
  have N:=fun t=>d t b (by simp[Op.operands])
  exact⟨by simp only[Zd,e,o,N],rfl⟩
 |alloc t=>exact⟨rfl,rfl⟩
 |box t x=>have:=fun t=>d t x (by simp[Op.operands]);exact⟨by simp only[Zd,this],rfl⟩
 |build t w=>
  refine⟨?_,rfl⟩;have:=fun ti cs=>Zc2 (E:=E) (sl:=sl) (sl':=sl') (ti:=ti) (xs:=w.toList.map (·.2)) (fun t x g=>d t x (by simpa[Op.operands]using g)) w.toList cs (fun p B=>Znd B)
  simp only[Zd,this]
 |buildSlice t n w=>
  have J:Zl lk lk' (Zc8 E sl lk (w.toList.map (·.2))):=by simpa[ZdS,Op.operands]using h
  have q:∀t x,x∈w.toList.map (·.2)->ev E sl t x=ev E sl' t x:=fun t x g=>d t x (by simpa[Op.operands]using g)
  have e:=fun t te es=>Zbr (t:=t) (te:=te) q J w.toList es (fun p B=>Znd B)
  have o:=fun t=>ZdP (t:=t) q J w.toList (fun p B=>Znd B)
  exact⟨by simp only[Zd,e,o],ZU d h⟩
 |insert t m k v=>
  have q:∀t x,x∈[m,k,v]->ev E sl t x=ev E sl' t x:=fun t x g=>d t x (by simpa[Op.operands]using g)
  exact⟨by simp only[Zd];exact Zbe q (by simpa[ZdS,Op.operands]using h),ZU d h⟩
 |mapUpdate t m k v=>
  have q:∀t x,x∈[m,k,v]->ev E sl t x=ev E sl' t x:=fun t x g=>d t x (by simpa[Op.operands]using g)
  exact⟨by simp only[Zd];exact Zbe q (by simpa[ZdS,Op.operands]using h),ZU d h⟩
 |load t x=>
  have e:=fun t=>d t x (by simp[Op.operands])
  refine⟨?_,by simp only[ZdS,e]⟩;simp only[ZdS]at h;simp only[Zd,<-e];split<;>try rfl
  split<;>try rfl
  rename_i id _ _ q;rw[h id (by rw[q];simp[D.shal])]
 |store t a x=>
  have e:=fun t=>d t a (by simp[Op.operands])
  have o:=fun t=>d t x (by simp[Op.operands])
  simp only[ZdS]at h;have g:Zl lk lk' ((ev E sl t x).ids lk depth):=fun id j=>h id (by rw[ZhW]at j;simp[j])
  have H:Zl lk lk' ((ev E sl 0 x).ids lk depth):=fun id j=>h id (by simp[j])
  refine⟨?_,by simp only[ZdS,<-e,<-o,<-(ZC depth _ H).2]⟩;simp only[Zd,<-e,<-o,<-(ZC depth _ g).1,<-(ZC depth _ g).2];split<;>try rfl
  split<;>try rfl
  rename_i id _ _ q;rw[h id (by rw[q];simp[D.shal])]
 |nilCheck x=>have:=fun t=>d t x (by simp[Op.operands]);exact⟨by simp only[Zd,this],rfl⟩
 |binOp b t x y u=>
  have e:=fun t=>d t x (by simp[Op.operands])
  have o:=fun t=>d t y (by simp[Op.operands])
  exact⟨by simp only[Zd,e,o],rfl⟩
 |unOp u t x=>have:=fun t=>d t x (by simp[Op.operands]);exact⟨by simp only[Zd,this],rfl⟩
 |convert s t x=>
  have e:=fun t=>d t x (by simp[Op.operands])
  refine⟨?_,ZU d h⟩;simp only[Zd,<-e];exact Zet fun id j=>h id (ZmH.2 ⟨x,by simp[Op.operands],ZdO (by decide) _ j⟩)
 |makeFunc f fs cs=>
  refine⟨?_,rfl⟩;have e:fs.toList.map (ev E sl 0)=fs.toList.map (ev E sl' 0):=List.map_congr_left fun x g=>d 0 x (by simp[Op.operands]at g|-;exact .inl g)
  have o:cs.toList.map (ev E sl 0)=cs.toList.map (ev E sl' 0):=List.map_congr_left fun x g=>d 0 x (by simp[Op.operands]at g|-;exact .inr g)
  cases f<;>simp only[Zd,e,o]
 |makeMap t r=>refine⟨?_,rfl⟩;cases r<;>simp only[Zd]
 |makeSlice t l c=>
  have e:=fun t=>d t l (by simp[Op.operands])
  have o:=fun t=>d t c (by simp[Op.operands])
  exact⟨by simp only[Zd,e,o],rfl⟩
 |slice t x lo hi mx=>
  have e:=fun t=>d t x (by simp[Op.operands])
  have K:=Zbm (E:=E) (sl:=sl) (sl':=sl') (x:=lo) fun y C=>d 0 y (by subst C;simp[Op.operands])
  have M:=Zbm (E:=E) (sl:=sl) (sl':=sl') (x:=hi) fun y C=>d 0 y (by subst C;simp[Op.operands])
  have P:=Zbm (E:=E) (sl:=sl) (sl':=sl') (x:=mx) fun y C=>d 0 y (by subst C;simp[Op.operands])
  simp only[ZdS]at h;refine⟨?_,by simp only[ZdS,e]⟩;have:=fun sz a b c=>ZfS (sz:=sz) (a:=a) (b:=b) (c:=c) h
  simp only[Zd,<-e,<-K,<-M,<-P,this]
 |fieldAddr t x f=>have:=fun t=>d t x (by simp[Op.operands]);exact⟨by simp only[Zd,this],rfl⟩
 |field t x f=>have:=fun t=>d t x (by simp[Op.operands]);exact⟨by simp only[Zd,this],rfl⟩
 |indexAddr t x F=>
  have e:=fun t=>d t x (by simp[Op.operands])
  have o:=fun t=>d t F (by simp[Op.operands])
  simp only[ZdS]at h;refine⟨?_,by simp only[ZdS,e]⟩;simp only[Zd,<-e,<-o];split<;>try rfl
  split<;>try rfl
  split<;>try rfl
  split<;>try rfl
  rename_i id _ _ q;rw[h id (by rw[q];simp[D.shal])]
 |index t x F=>
  have e:=fun t=>d t x (by simp[Op.operands])
  have o:=fun t=>d t F (by simp[Op.operands])
  exact⟨by simp only[Zd,e,o],rfl⟩
 |lookup t m k Q=>
  have e:=fun t=>d t m (by simp[Op.operands])
  have o:=fun t=>d t k (by simp[Op.operands])
  refine⟨?_,ZU d h⟩;have L:Zfp lk (ev E sl 0 m)=Zfp lk' (ev E sl 0 m):=Zg2 fun id j=>h id (ZmH.2 ⟨m,by simp[Op.operands],ZdO (by decide) _ j⟩)
  have O:=fun t=>(ZC (lk:=lk) (lk':=lk') 1 (ev E sl t k) fun id j=>h id (ZmH.2 ⟨k,by simp[Op.operands],by rw[ZhW]at j;exact ZdO (by decide) _ j⟩)).1
  simp only[Zd,<-e,<-o,L,O]
 |range t x=>
  have e:=fun t=>d t x (by simp[Op.operands])
  simp only[ZdS]at h;refine⟨?_,by simp only[ZdS,e]⟩;simp only[Zd,<-e];split<;>try rfl
  rename_i id _ q;rw[h id (by rw[q];simp[D.shal])]
 |next x s=>
  have e:=fun t=>d t x (by simp[Op.operands])
  simp only[ZdS]at h;refine⟨?_,by simp only[ZdS,e]⟩;cases s with
  |false=>simp only[Zd]
  |true=>
   simp only[Zd,<-e];split<;>try rfl
   rename_i id q;rw[h id (by rw[q];simp[D.shal])]
 |entry x=>
  have e:=fun t=>d t x (by simp[Op.operands])
  simp only[ZdS]at h;refine⟨?_,by simp only[ZdS,e]⟩;simp only[Zd,<-e];split<;>try rfl
  rename_i id q;rw[h id (by rw[q];simp[D.shal])]
 |extract x n=>have:=fun t=>d t x (by simp[Op.operands]);exact⟨by simp only[Zd,this],rfl⟩
 |call c=>
  obtain⟨I,args,z⟩:=c;refine⟨?_,ZU d h⟩;cases I with
  |builtin b=>
   simp only[Zd];have g:∀x∈args.toList,x∈(Op.call {callee:= .builtin b,args:=args,argTypes:=z}).operands.toList:=fun x g=>by simpa[Op.operands,Call.operands]using g
   rw[<-Zba (xs:=args.toList) (fun t x G=>d t x (g x G)) args.toList z.toList (fun x g=>g)];exact Zeu (Zea h args.toList z.toList g)
  |_=>simp only[Zd]
 |_=>exact⟨by simp only[Zd],ZU d h⟩
end
end Eng
namespace Eng
open Go
def Exec (C:Ctx) (r:Fm) (ops:Array Oper) (i:Nat) (f d:St):Prop:=
 ∀(X:Nat->Prop),¬X i->∀ρ S a w,Rep C X ρ S f a.tmps w->a.defers=r.ds->∀(b:Frame) (rest:List Nat) (e:List Go.Item) (cs:List Frame),b.roundOf=r.r->
  ∃ρ' S' c w',Rep C (fun j=>X j\/j=i) ρ' S' d c.tmps w'/\c.defers=r.ds/\
   StepsIn (Machine.fenced C.E.prog (Zcj r.r)) C.E.prog (lone (b.atR a (.inRegion ops (i::rest)::e)) cs w) (lone (b.atR c (.inRegion ops rest::e)) cs w')
section
variable {C:Ctx} {r:Fm}
theorem ZlU {ops:Array Oper} {i:Nat} {o:Oper} {h:St} {e:Eff} (F:Zk C.E) (y:ops[i]? =some o) (B:ZQ ops h o.guard=some true)
  (u:Zd C.E h.ep i o.op o.type h.slots h.objs=some e) (t:Zfj C.E o=true) (hw:Zek h e=true) (g:∀q∈e.cond,q=true):Exec C r ops i h (h.app i o.dst e):=by
 intro X D ρ S a w z A b rest x cs G;obtain⟨n,v,w',l,E,ρ',S',m⟩:=does z D t F u hw g;have f:=ZaS z B;refine⟨ρ',S',a.put o.dst v,w',m,by simp[A], ?_⟩;have j:o.semAt b.roundOf a.eval=execOp a.eval o:=Oper.semAt_eq _ _ _ (fun c p=>by rw[p]at u;simp[Zd]at u);have s:=stepGR_op (P:=C.E.prog) (b:=b) (a:=a) (k:=x) (cs:=cs) (w:=w) (i:=i) (rest:=rest) y f;have d:=Frame.finish_atR b a ops i rest x v;simp only[y,Zni]at d;refine .one (Zx _ _ _) ?_;refine step_lone_go ?_;rw[s,j,<-d];rcases E with rfl |⟨rfl,rfl⟩<;>simp[stepG.apply,l]
theorem Zgm {ops:Array Oper} {i:Nat} {o:Oper} {g:St} (l:ops[i]? =some o) (n:ZQ ops g o.guard=some false) (p:Zda C.E o=true):Exec C r ops i g (g.app i o.dst {val:= .undef}):=by intro X q ρ S a w m u b rest s cs x;have c:=ZaS m n;obtain⟨S',f⟩:=m.step (i:=i) (t:=o.dst) (e:={val:= .undef}) (v:=undef) (w':=w) ρ q (Za9 p) (ZmL _) (ZS.refl _) (fun _ _ _=>rfl) (by simp) (fun _ _ h=>h) (fun id h=> .inl h) (by simp) (fun _ _ j=>by simp at j) (fun _ _ _ _ _ _ _ j=>by simp at j) (by simp) (fun _ _ _ _ _=> .undef);refine⟨ρ,S',a.put o.dst undef,w,f,by simp[u], ?_⟩;have d:=stepR_op_skip (P:=C.E.prog) (b:=b) (a:=a) (k:=s) (cs:=cs) (w:=w) (ops:=ops) (i:=i) (rest:=rest) (by simp[l,c]);simp only[l,Zni]at d;exact .one (Zx _ _ _) d
def ZaQ (E:Env) (sl:Nat->D) (lk:Id->Option Obj) (xs:List Operand):List Id:=xs.flatMap fun x=>(ev E sl 0 x).ids lk (depth+2)
inductive OE (C:Ctx) (ops:Array Oper) (i:Nat) (o:Oper) (st:St):Eff->List Id->Prop
 |skip (hg:ZQ ops st o.guard=some false) (hd:Zda C.E o=true):OE C ops i o st {val:= .undef} []
 |op {e:Eff} (hg:ZQ ops st o.guard=some true) (hc:Zd C.E st.ep i o.op o.type st.slots st.objs=some e) (hok:Zfj C.E o=true) (hw:Zek st e=true) (hcond:∀q∈e.cond,q=true):
   OE C ops i o st e (ZdS C.E o.op st.slots st.objs)
 |call {c:Call} {pts:List Nat} {ms:List AM} {f:Nat} {as:List AE} {ret:Ret} {e:Eff} (hg:ZQ ops st o.guard=some true) (hop:o.op= .call c) (hd:Zda C.E o=true)
   (hpre:Zk1 C.E st c pts ms=some (f,as)) (hcnd:Zle (as.flatMap (·.cond))) (hf:Fun C.E f (as.map (·.arg)) ret) (he:ZfE st i as ret=some e):OE C ops i o st e (ZaQ C.E st.slots st.objs c.operands.toList)
theorem OE.exec {ops:Array Oper} {i:Nat} {o:Oper} {k:St} {e:Eff} {R:List Id} (q:Zk C.E) (p:ops[i]? =some o) (h:OE C ops i o k e R):Exec C r ops i k (k.app i o.dst e):=by
 cases h with
 |skip d j=>exact Zgm p d j
 |op d v m hw c=>exact ZlU q p d v m hw c
 |call d l j f g y x=>
  intro X t ρ S a w z n b rest u cs s;exact ZjJ t q p d l j _ _ f g rfl y x z n b rest u cs s
theorem ZiU {b a:St} {m:AM} {d:D} (h:Zl b.objs a.objs (d.ids b.objs (depth+1))):Zgz b m d=Zgz a m d:=by
 have n:=ZC depth d fun id i=>h id (ZdO (by decide) d i)
 unfold Zgz;split
 ·rw[n.1,n.2]
 ·rename_i id;rw[<-h id (by simp[D.ids])];cases hlk:b.objs id with
  |none=>rfl
  |some o=>
   cases o with
   |box c=>
    have k:∀x∈c,x.toP b.objs depth=x.toP a.objs depth/\x.ids b.objs depth=x.ids a.objs depth:=fun x f=>ZC depth x fun g e=>h g (by
     simp only[D.ids,hlk,ZmF];exact .inr (ZmH.2 ⟨x,by simpa using f,e⟩))
    have j:Zm (fun d=>d.toP b.objs depth) c=Zm (fun d=>d.toP a.objs depth) c:=ZbJ fun x f=>(k x f).1
    have l:(c.flatMap fun d=>d.ids b.objs depth)=c.flatMap fun d=>d.ids a.objs depth:=by
     clear hlk j
     induction c with
     |nil=>rfl
     |cons x r p=>simp only[Zm2,(k x (by simp)).2,p fun y q=>k y (by simp[q])]
    simp only[j,l]
   |_=>rfl
 ·rename_i id len;rw[<-h id (by simp)]
 ·rename_i id;rw[<-h id (by simp)]
 ·rename_i id s len;rw[<-h id (by simp)]
 ·rename_i j l u t v
  first
   |rfl
   |(cases m<;>first |rfl |(cases d<;>simp_all))
theorem ZeX {lk:Id->Option Obj} {d:D} {g:Nat} {a c:List D} (h:Zb5 d=some (g,a,c)) (n:Nat):∀x,x∈a++c->∀id∈x.ids lk n,id∈d.ids lk (n+1):=by
 unfold Zb5 at h;split at h
 ·simp only[ZmR,ZmS]at h;obtain⟨rfl,rfl,rfl⟩:=h;intro x e id b;simp only[ZmE,Znc]at e;rcases e with ⟨y,_,rfl⟩ |⟨y,_,rfl⟩<;>cases n<;>simp[D.ids]at b
 ·simp only[ZmR,ZmS]at h;obtain⟨rfl,rfl,rfl⟩:=h;intro x e id b;simp only[D.ids,ZmE,ZmH];simp only[ZmE]at e;exact e.imp (fun h=>⟨x,h,b⟩) (fun h=>⟨x,h,b⟩)
 ·simp at h
theorem Zcm {E:Env} {sl sl':Nat->D} {lk lk':Id->Option Obj}:∀{xs:List Operand},(∀t x,x∈xs->ev E sl t x=ev E sl' t x)->Zl lk lk' (ZaQ E sl lk xs)->ZaQ E sl lk xs=ZaQ E sl' lk' xs
 | [],_,_=>rfl
 |x::r,he,h=>by
  have c:Zl lk lk' ((ev E sl 0 x).ids lk (depth+2)):=fun id a=>h id (ZmH.2 ⟨x,by simp,a⟩)
  have d:Zl lk lk' (ZaQ E sl lk r):=fun id a=>by obtain⟨y,b,hi⟩:=ZmH.1 a;exact h id (ZmH.2 ⟨y,by simp[b],hi⟩)
  have:=Zcm (xs:=r) (fun t y b=>he t y (by simp[b])) d;unfold ZaQ at this|-
  simp only[Zm2,<-he 0 x (by simp),<-(ZC _ _ c).2,this]
theorem Zd9 {E:Env} {sl:Nat->D}:∀(args:List Operand) (ts:List Nat) (d:D),d∈ZT E sl args ts->∃x t,x∈args/\d=ev E sl t x
 | [],ts,d,h=>by cases ts<;>simp[ZT]at h
 |x::r,[],d,h=>by
  simp only[ZT,ZmF]at h;rcases h with rfl |h
  ·exact⟨x,0,by simp,rfl⟩
  ·obtain⟨y,t,a,rfl⟩:=Zd9 r [] d h;exact⟨y,t,by simp[a],rfl⟩
 |x::r,t::ts,d,h=>by
  simp only[ZT,ZmF]at h;rcases h with rfl |h
  ·exact⟨x,t,by simp,rfl⟩
  ·obtain⟨y,t,a,rfl⟩:=Zd9 r ts d h;exact⟨y,t,by simp[a],rfl⟩
theorem Zii {E:Env} {l a:St} {c:Call} {pts:List Nat} {ms:List AM} {f:Nat} {G:List AE} (y:∀t x,x∈c.operands.toList->ev E l.slots t x=ev E a.slots t x)
  (h:Zl l.objs a.objs (ZaQ E l.slots l.objs c.operands.toList)) (F:∀k id,((0,k,0),id)∈Zaa 0 G->a.fz id=l.fz id) (i:Zk1 E l c pts ms=some (f,G)):Zk1 E a c pts ms=some (f,G):=by
 have o:∀x∈c.operands.toList,∀t,Zl l.objs a.objs ((ev E l.slots t x).ids l.objs (depth+2)):=fun x e t id n=>h id (ZmH.2 ⟨x,e,by rw[ZhW]at n;exact n⟩)
 unfold Zk1 at i|-
 split at i
 case h_2=>simp at i
 rename_i C s;have u:C∈c.operands.toList:=by simp[Call.operands,s]
 have p:∀x∈c.args.toList,x∈c.operands.toList:=fun x e=>by simp[Call.operands,s];exact .inr (by simpa using e)
 rw[<-y 0 C u];split at i
 case h_2=>simp at i
 rename_i g v A B
 simp only[<-Zba (xs:=c.operands.toList) y c.args.toList pts p];have z:∀d∈v++ZT E l.slots c.args.toList pts++A,∀m,Zgz l m d=Zgz a m d:=by
  intro d r m;refine ZiU fun id n=> ?_
  simp only[ZmE]at r;rcases r with (r |r) |r
  ·exact o C u 0 id (ZeX B (depth+1) d (by simp[r]) id n)
  ·obtain⟨x,t,e,rfl⟩:=Zd9 _ _ _ r;exact o x (p x e) t id (ZdO (by decide) _ n)
  ·exact o C u 0 id (ZeX B (depth+1) d (by simp[r]) id n)
 rw[<-ZbJ (f:=fun x:AM×D=>Zgz l x.1 x.2) (g:=fun x=>Zgz a x.1 x.2) fun x e=>z _ (List.of_mem_zip e).2 x.1];dsimp only at i|-
 split at i
 case isFalse=>simp at i
 rename_i w;simp only[w,if_true];split at i
 case h_2=>simp at i
 rename_i b J;split at i
 case isFalse=>simp at i
 rename_i H;simp only[ZmR,ZmS]at i;obtain⟨rfl,rfl⟩:=i;have:Zf0 (a.freezeL (b.flatMap (·.fs))) (Zaa 0 b) 1=Zf0 (l.freezeL (b.flatMap (·.fs))) (Zaa 0 b) 1:=by
  unfold Zf0;congr 1;refine Bool.eq_iff_iff.2 ?_;simp only[ZmX];have I:∀x∈Zaa 0 b,(a.freezeL (b.flatMap (·.fs))).fz x.2=(l.freezeL (b.flatMap (·.fs))).fz x.2:=fun x e=>by obtain⟨j,L,_,K,_⟩:=Zby 0 b x.1 x.2 e;rw[freezeL_fz,freezeL_fz,F (0+j) x.2 (by rw[<-K];exact e)]
  exact⟨fun q x e=>by have:=q x e;rwa [I x e]at this,fun q x e=>by have:=q x e;rwa [<-I x e]at this⟩
 simp only[this,H,if_true]
theorem Zhk {b a:St} {i:Nat} {c:List AE} {ret:Ret} (h:a.ep=b.ep):ZfE a i c ret=ZfE b i c ret:=by unfold ZfE;rw[h]
theorem Zft {ops:Array Oper} {b a:St} {o:Oper} (h:∀t∈o.looksAt ops,a.slots t=b.slots t):ZQ ops a o.guard=ZQ ops b o.guard:=by
 cases hg:o.guard with
 |none=>rfl
 |some c=>
  obtain⟨g,w⟩:=c;simp only[ZQ];split
  ·rename_i t d;rw[h t (by simp[Oper.looksAt,hg,d])]
  ·rfl
theorem ZkI {E:Env} {sl sl':Nat->D} {t:Nat} {x:Operand} (h:∀k,x= .tmp k->sl' k=sl k):ev E sl t x=ev E sl' t x:=by
 cases x with
 |tmp k=>simp only[ev,h k rfl]
 |_=>rfl
theorem OE.congr {ops:Array Oper} {i:Nat} {o:Oper} {b a:St} {e:Eff} {R:List Id} (h:OE C ops i o b e R) (F:∀t∈o.looksAt ops,a.slots t=b.slots t) (G:∀id∈R,a.objs id=b.objs id)
  (E:∀id∈e.wr.map (·.1),a.fz id=b.fz id) (w:a.ep=b.ep):OE C ops i o a e R:=by
 have r:∀t x,x∈o.op.operands.toList->ev C.E b.slots t x=ev C.E a.slots t x:=fun t x n=>ZkI fun k L=>F k (by
  subst L;simp only[Oper.looksAt,ZmE,List.mem_filterMap];exact .inl ⟨.tmp k,n,rfl⟩)
 have l:=Zft F;cases h with
 |skip p z=>exact .skip (by rw[l];exact p) z
 |op p J A hw g=>
  obtain⟨q1,D⟩:=ZiJ (ep:=b.ep) (i:=i) (ty:=o.type) r (fun id m=>(G id m).symm);rw[D];refine .op (by rw[l];exact p) (by rw[w,<-q1];exact J) A ?_ g;unfold Zek at hw|-
  simp only[Zmt,ZmX]at hw|-
  exact⟨fun x n=>by rw[E x.1 (Znd n)];exact hw.1 x n,hw.2⟩
 |call p v z q y K s=>
  rename_i c pts ms f B ret;have d:∀t x,x∈c.operands.toList->ev C.E b.slots t x=ev C.E a.slots t x:=fun t x n=>r t x (by rw[v];exact n)
  have u:Zl b.objs a.objs (ZaQ C.E b.slots b.objs c.operands.toList):=fun id m=>(G id m).symm
  rw[Zcm d u];refine .call (pts:=pts) (ms:=ms) (by rw[l];exact p) v z (Zii d u (fun k id I=> ?_) q) y K (by rw[Zhk w];exact s);obtain⟨j,x,q1,D,H⟩:=Zby 0 B _ _ I;refine E id ?_;unfold ZfE at s;split at s;rotate_left;simp at s;cases s;exact Znc.2 ⟨_,Zdm 0 B j x id q1 H,rfl⟩
end
end Eng
