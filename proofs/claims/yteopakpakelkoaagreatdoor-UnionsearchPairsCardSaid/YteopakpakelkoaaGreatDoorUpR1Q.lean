/- similarity.Words and profile.Values: their contracts, in the engine's form. -/
import Derived.Test.YteopakpakelkoaaGreatDoorUpU
import Derived.Test.YteopakpakelkoaaGreatDoorUpXV
import Derived.Test.YteopakpakelkoaaGreatDoorUpXWd
import Derived.Test.YteopakpakelkoaaGreatDoorUpXVc
set_option linter.all false
open List renaming length_map->ZVx
namespace Go.Proofs
open Go Eng Go.RowKit Go.Lib
theorem ZKF:∀(s a:List UInt8),(ZGh s a).length<=s.length/\∀x∈ZGh s a,x.length<=a.length+s.length
 | [],a=>by simp[ZGh]
 |b::s,a=>by
  obtain⟨f,d⟩:=ZKF s [];obtain⟨g,e⟩:=ZKF s (a++[xwC b]);unfold ZGh;cases xwC b == 0 with
  |true=>
   rw[cond_true];cases a.isEmpty with
   |true=>rw[cond_true];exact⟨by simp;omega,fun x c=>by have:=d x c;simp at this|-;omega⟩
   |false=>
    rw[cond_false];refine⟨by simp;omega,fun x c=> ?_⟩;rcases List.mem_cons.1 c with rfl |c
    ·simp
    ·have:=d x c;simp at this|-;omega
  |false=>
   rw[cond_false];refine⟨by simp;omega,fun x c=> ?_⟩;have:=e x c;simp at this|-
   omega
theorem ZNF (l:List (List UInt8)):(ZEf l).length<=l.length:=by
 induction l with
 |nil=>simp[ZEf]
 |cons x r a=>
  unfold ZEf;cases r.contains x with
  |true=>rw[cond_true];simp;omega
  |false=>rw[cond_false];simp;omega
theorem ZLj (l:List (List UInt8)):(ZxF l).length<=l.length:=by unfold ZxF;rw[List.length_mergeSort];exact ZNF l
theorem ZOw (a:Str) (r:List Str) (h:Zug a=some r):Fun X0.E 110 (([.str a]:List P).map Arg.p) ⟨[.p (.sl 1 (r.map P.str))],[]⟩:=by
 unfold Zug at h;rw[ZC7]at h;obtain⟨k,t⟩:=Zi h;simp only[decide_eq_true_eq]at k;obtain rfl:=Option.some.inj t;refine ZIy ⟨Tryz.f110,by kernel_rfl,by decide,by kernel_rfl⟩ fun w S d u f _ i=> ?_
 obtain⟨p⟩:=d
 match p,u with
 | [v0],_=>
  have q:=f 0 v0 _ rfl rfl;cases q with
  |str l j=>
   have:=callsIn_wide (n:=0) |>.2 (Tryz.Words_walk ⟨a.toArray⟩ w (by simpa[ByteArray.size]using k));refine CallsIn.mono this ?_;rintro e A ⟨v,rfl,g,c⟩;have y:((⟨a.toArray⟩:ByteArray)++⟨#[32]⟩).data.toList=a++[32]:=by rw[ByteArray.data_append];simp
   rw[y]at c;obtain⟨x,o⟩:=ZKF (a++[32]) [];refine⟨v,rfl,⟨⟨g.os,g.output⟩,g.size,g.block⟩,ZNe c (fun b _ m z=> .inr ⟨m,z⟩) (fun s j=> ?_) ?_⟩
   ·have:=o s ((ZDG _ _).1 j);simp at this;unfold Zr;omega
   ·have:=ZLj (ZGh (a++[32]) []);simp at x;unfold Z9;omega
theorem ZG7:Zez X0.E 110 ZFq.sig:=ZkU.ok uok fun v r h=>⟨ZOw v.1 r h,ZdP rfl⟩
theorem ZNf {w:World} {S:Fz} {v:Value} {s:List UInt8} (h:RelP w S v (.str s)):v= .string ⟨s.toArray⟩/\s.length<=9223372036854775807:=by cases h with |str _ h=>exact⟨rfl,h⟩
theorem ZQv {w:World} {S:Fz} {v:Value} {p:G_api_Cell} (h:RelP w S v (ZzY p)):v= .agg #[.bool p.Null,.string ⟨p.Text.toArray⟩]/\p.Text.length<=9223372036854775807:=by
 unfold ZzY at h;cases h with
 |agg e j g i h=>
  obtain⟨l⟩:=e
  match l,g with
  | [a,b],_=>
   have f:=h 0 a _ rfl rfl;obtain⟨d,c⟩:=ZNf (h 1 b _ rfl rfl);cases f;subst d;exact⟨rfl,c⟩
def ZLS (p:G_api_Cell):Bool×Txt:=(p.Null,if h:p.Text.length<=9223372036854775807 then ⟨p.Text,h⟩else ⟨[],by simp⟩)
theorem ZOM {w:World} {S:Fz} {v:Value} {l:List G_api_Cell} (C:∀b c,S b c->b < w.heap.size) (h:RelP w S v (.sl 2 (l.map ZzY))):(∃a f,v= .slice a l.length f)/\ZLd w.heap.size w v (l.map ZLS)/\∀p∈l,p.Text.length<=9223372036854775807:=by
 cases h with
 |sl a B f K I y A J L F d h=>
  rw[ZVx]at A;subst A;have m:∀i p,l[i]? =some p->y i= .agg #[.bool p.Null,.string ⟨p.Text.toArray⟩]/\p.Text.length<=9223372036854775807:=fun i p e=>ZQv (h i (ZzY p) (by rw[List.getElem?_map,e];rfl))
  refine⟨⟨a,f,rfl⟩,⟨a,f,by rw[ZVx],fun t=> ?_⟩,fun p e=> ?_⟩
  ·have g:0 < l.length:=by
    cases l with
    |nil=>simp at t
    |cons x r=>simp
   obtain⟨b,o,z,D⟩:=d 0 g;refine⟨b,o,z,C b _ (D 0 _ (by rw[(m 0 _ (List.getElem?_eq_getElem g)).1];rfl)).1,fun j p e=> ?_⟩;rw[List.getElem?_map]at e;cases s:l[j]? with
   |none=>rw[s]at e;simp at e
   |some q=>
    rw[s]at e;simp only[Option.map_some,Option.some.injEq]at e;subst e;have u:j < l.length:=(List.getElem?_eq_some_iff.1 s).1;obtain⟨M,H,k,n⟩:=d j u;rw[z]at k;simp only[Option.some.injEq,Addr.mk.injEq,and_true]at k;obtain⟨rfl,rfl⟩:=k;obtain⟨E,G⟩:=m j q s;rw[E]at n;refine⟨(n 0 _ rfl).2, ?_⟩;rw[show Txt.val (ZLS q).2= .string ⟨q.Text.toArray⟩ by unfold ZLS Txt.val;dsimp only;rw[dif_pos G]];exact(n 1 _ rfl).2
  ·obtain⟨j,u,rfl⟩:=List.getElem_of_mem e;exact(m j _ (List.getElem?_eq_getElem u)).2
theorem ZQi {l:List G_api_Cell} (h:∀p∈l,p.Text.length<=9223372036854775807):(tx (l.map ZLS)).map (·.1)=(l.filter fun x=> !x.Null).map fun x=>x.Text:=by
 induction l with
 |nil=>rfl
 |cons p l a=>
  have a:=a fun q b=>h q (by simp[b])
  unfold tx at a|-
  have c:=h p (by simp);rw[List.map_cons,List.filter_cons,List.filter_cons];cases hn:p.Null with
  |true=>simpa[ZLS,hn]using a
  |false=>
   simp only[ZLS,hn,Bool.not_false,if_true,List.map_cons,dif_pos c];exact congrArg _ (by simpa[ZLS]using a)
theorem ZNG (c:G_api_Column) (r:List Str) (h:ZwT c=some r):Fun X0.E 109 (([Zus c]:List P).map Arg.p) ⟨[.p (.sl 1 (r.map P.str))],[]⟩:=by
 unfold ZwT at h;rw[ZC7]at h;obtain⟨A,H⟩:=Zi h;simp only[decide_eq_true_eq]at A;obtain rfl:=Option.some.inj H;refine ZIy ⟨Tryz.f109,by kernel_rfl,by decide,by kernel_rfl⟩ fun w S m D g C u=> ?_
 obtain⟨G⟩:=m
 match G,D with
 | [v0],_=>
  have z:=g 0 v0 _ rfl rfl;unfold Zus at z;cases z with
  |agg I M y q i=>
   obtain⟨l⟩:=I
   match l,y with
   | [F,J],_=>
    obtain⟨rfl,_⟩:=ZNf (i 0 F _ rfl rfl);obtain⟨⟨a,t,rfl⟩,d,j⟩:=ZOM C (i 1 J _ rfl rfl);have:=callsIn_wide (n:=0) |>.2 (Tryz.Values_walk ⟨c.Name.toArray⟩ a c.Cells.length t (c.Cells.map ZLS) (by rw[ZVx];exact A) w d);refine CallsIn.mono this ?_;rintro e L ⟨v,K,rfl,k,o,f⟩;rw[ZQi j]at k;subst k;refine⟨v,rfl,⟨⟨o.os,o.output⟩,o.size,o.block⟩,ZNe f (fun b _ q i=> .inr ⟨q,i⟩) (fun s B=> ?_) ?_⟩
    ·have:=(ZDG _ _).1 B;obtain⟨p,E,rfl⟩:=List.mem_map.1 this;exact j p (List.mem_filter.1 E).1
    ·have q:=ZLj ((c.Cells.filter fun x=> !x.Null).map fun x=>x.Text);rw[ZVx]at q;have i:=List.length_filter_le (fun x:G_api_Cell=> !x.Null) c.Cells;unfold Z9;omega
theorem ZHI:Zez X0.E 109 ZGg.sig:=ZkU.ok uok fun v r h=>⟨ZNG v.1 r h,ZdP rfl⟩
end Go.Proofs
