/- similarity.Words and profile.Values: their contracts, in the engine's form. -/
import Derived.Test.YtdonkbljnbaacaaGreatDoorUtU
import Derived.Test.YtdonkbljnbaacaaGreatDoorUtXV
import Derived.Test.YtdonkbljnbaacaaGreatDoorUtXWd
import Derived.Test.YtdonkbljnbaacaaGreatDoorUtXVc
set_option linter.all false
open List renaming length_map->ZW1
namespace Go.Proofs
open Go Eng Go.RowKit Go.Lib
theorem ZLA:∀(s a:List UInt8),(ZGS s a).length<=s.length/\∀x∈ZGS s a,x.length<=a.length+s.length
 | [],a=>by simp[ZGS]
 |b::s,a=>by
  obtain⟨f,d⟩:=ZLA s [];obtain⟨g,e⟩:=ZLA s (a++[xwC b]);unfold ZGS;cases xwC b == 0 with
  |true=>
   rw[cond_true];cases a.isEmpty with
   |true=>rw[cond_true];exact⟨by simp;omega,fun x c=>by have:=d x c;simp at this|-;omega⟩
   |false=>
    rw[cond_false];refine⟨by simp;omega,fun x c=> ?_⟩;rcases List.mem_cons.1 c with rfl |c
    ·simp
    ·have:=d x c;simp at this|-;omega
  |false=>
   rw[cond_false];refine⟨by simp;omega,fun x c=> ?_⟩;have:=e x c;simp at this|-
   omega
theorem ZOI (l:List (List UInt8)):(ZEK l).length<=l.length:=by
 induction l with
 |nil=>simp[ZEK]
 |cons x r a=>
  unfold ZEK;cases r.contains x with
  |true=>rw[cond_true];simp;omega
  |false=>rw[cond_false];simp;omega
theorem ZMc (l:List (List UInt8)):(ZxO l).length<=l.length:=by unfold ZxO;rw[List.length_mergeSort];exact ZOI l
theorem ZPD (a:Str) (r:List Str) (h:Zue a=some r):Fun X0.E 110 (([.str a]:List P).map Arg.p) ⟨[.p (.sl 1 (r.map P.str))],[]⟩:=by
 unfold Zue at h;rw[ZDG]at h;obtain⟨j,u⟩:=Zi h;simp only[decide_eq_true_eq]at j;obtain rfl:=Option.some.inj u;refine ZJk ⟨Tryz.f110,by kernel_rfl,by decide,by kernel_rfl⟩ fun w S f x d _ i=> ?_
 obtain⟨o⟩:=f
 match o,x with
 | [v0],_=>
  have z:=d 0 v0 _ rfl rfl;cases z with
  |str l k=>
   have:=callsIn_wide (n:=0) |>.2 (Tryz.Words_walk ⟨a.toArray⟩ w (by simpa[ByteArray.size]using j));refine CallsIn.mono this ?_;rintro e A ⟨v,rfl,g,c⟩;have m:((⟨a.toArray⟩:ByteArray)++⟨#[32]⟩).data.toList=a++[32]:=by rw[ByteArray.data_append];simp
   rw[m]at c;obtain⟨q,t⟩:=ZLA (a++[32]) [];refine⟨v,rfl,⟨⟨g.os,g.output⟩,g.size,g.block⟩,ZOd c (fun b y p=> .inr ⟨y,p⟩) (fun s k=> ?_) ?_⟩
   ·have:=t s ((ZEb _ _).1 k);simp at this;unfold Zr;omega
   ·have:=ZMc (ZGS (a++[32]) []);simp at q;unfold Z9;omega
theorem ZHR:Zez X0.E 110 ZFW.sig:=ZkU.ok uok fun v r h=>⟨ZPD v.1 r h,ZdP rfl⟩
theorem ZOe {w:World} {S:Nat->Prop} {v:Value} {s:List UInt8} (h:RelP w S v (.str s)):v= .string ⟨s.toArray⟩/\s.length<=9223372036854775807:=by cases h with |str _ h=>exact⟨rfl,h⟩
theorem ZRD {w:World} {S:Nat->Prop} {v:Value} {p:G_api_Cell} (h:RelP w S v (ZAg p)):v= .agg #[.bool p.Null,.string ⟨p.Text.toArray⟩]/\p.Text.length<=9223372036854775807:=by
 unfold ZAg at h;cases h with
 |agg f i e j h=>
  obtain⟨l⟩:=f
  match l,e with
  | [a,b],_=>
   have d:=h 0 a _ rfl rfl;obtain⟨g,c⟩:=ZOe (h 1 b _ rfl rfl);cases d;subst g;exact⟨rfl,c⟩
def ZML (p:G_api_Cell):Bool×Txt:=(p.Null,if h:p.Text.length<=9223372036854775807 then ⟨p.Text,h⟩else ⟨[],by simp⟩)
theorem ZPY {w:World} {S:Nat->Prop} {v:Value} {l:List G_api_Cell} (D:∀b,S b->b < w.heap.size) (h:RelP w S v (.sl 2 (l.map ZAg))):(∃a e,v= .slice a l.length e)/\ZL9 w.heap.size w v (l.map ZML)/\∀p∈l,p.Text.length<=9223372036854775807:=by
 cases h with
 |sl a C e L G u A J M B c h=>
  rw[ZW1]at A;subst A;have k:∀i p,l[i]? =some p->u i= .agg #[.bool p.Null,.string ⟨p.Text.toArray⟩]/\p.Text.length<=9223372036854775807:=fun i p d=>ZRD (h i (ZAg p) (by rw[List.getElem?_map,d];rfl))
  refine⟨⟨a,e,rfl⟩,⟨a,e,by rw[ZW1],fun y=> ?_⟩,fun p d=> ?_⟩
  ·have m:0 < l.length:=by
    cases l with
    |nil=>simp at y
    |cons x r=>simp
   obtain⟨b,o,z,t,I⟩:=c 0 m;refine⟨b,o,z,D b t,fun j p d=> ?_⟩;rw[List.getElem?_map]at d;cases n:l[j]? with
   |none=>rw[n]at d;simp at d
   |some q=>
    rw[n]at d;simp only[Option.map_some,Option.some.injEq]at d;subst d;have s:j < l.length:=(List.getElem?_eq_some_iff.1 n).1;obtain⟨K,H,f,_,g⟩:=c j s;rw[z]at f;simp only[Option.some.injEq,Addr.mk.injEq,and_true]at f;obtain⟨rfl,rfl⟩:=f;obtain⟨F,E⟩:=k j q n;rw[F]at g;refine⟨g 0 _ rfl, ?_⟩;rw[show Txt.val (ZML q).2= .string ⟨q.Text.toArray⟩ by unfold ZML Txt.val;dsimp only;rw[dif_pos E]];exact g 1 _ rfl
  ·obtain⟨j,s,rfl⟩:=List.getElem_of_mem d;exact(k j _ (List.getElem?_eq_getElem s)).2
theorem ZRo {l:List G_api_Cell} (h:∀p∈l,p.Text.length<=9223372036854775807):(tx (l.map ZML)).map (·.1)=(l.filter fun x=> !x.Null).map fun x=>x.Text:=by
 induction l with
 |nil=>rfl
 |cons p l a=>
  have a:=a fun q b=>h q (by simp[b])
  unfold tx at a|-
  have c:=h p (by simp);rw[List.map_cons,List.filter_cons,List.filter_cons];cases hn:p.Null with
  |true=>simpa[ZML,hn]using a
  |false=>
   simp only[ZML,hn,Bool.not_false,if_true,List.map_cons,dif_pos c];exact congrArg _ (by simpa[ZML]using a)
theorem ZOJ (c:G_api_Column) (r:List Str) (h:ZwV c=some r):Fun X0.E 109 (([Zzo c]:List P).map Arg.p) ⟨[.p (.sl 1 (r.map P.str))],[]⟩:=by
 unfold ZwV at h;rw[ZDG]at h;obtain⟨z,J⟩:=Zi h;simp only[decide_eq_true_eq]at z;obtain rfl:=Option.some.inj J;refine ZJk ⟨Tryz.f109,by kernel_rfl,by decide,by kernel_rfl⟩ fun w S m G k H u=> ?_
 obtain⟨C⟩:=m
 match C,G with
 | [v0],_=>
  have A:=k 0 v0 _ rfl rfl;unfold Zzo at A;cases A with
  |agg F K y o f=>
   obtain⟨l⟩:=F
   match l,y with
   | [B,I],_=>
    obtain⟨rfl,_⟩:=ZOe (f 0 B _ rfl rfl);obtain⟨⟨a,t,rfl⟩,g,j⟩:=ZPY H (f 1 I _ rfl rfl);have:=callsIn_wide (n:=0) |>.2 (Tryz.Values_walk ⟨c.Name.toArray⟩ a c.Cells.length t (c.Cells.map ZML) (by rw[ZW1];exact z) w g);refine CallsIn.mono this ?_;rintro e M ⟨v,L,rfl,d,q,i⟩;rw[ZRo j]at d;subst d;refine⟨v,rfl,⟨⟨q.os,q.output⟩,q.size,q.block⟩,ZOd i (fun b o f=> .inr ⟨o,f⟩) (fun s E=> ?_) ?_⟩
    ·have:=(ZEb _ _).1 E;obtain⟨p,D,rfl⟩:=List.mem_map.1 this;exact j p (List.mem_filter.1 D).1
    ·have o:=ZMc ((c.Cells.filter fun x=> !x.Null).map fun x=>x.Text);rw[ZW1]at o;have f:=List.length_filter_le (fun x:G_api_Cell=> !x.Null) c.Cells;unfold Z9;omega
theorem ZIw:Zez X0.E 109 ZGR.sig:=ZkU.ok uok fun v r h=>⟨ZOJ v.1 r h,ZdP rfl⟩
end Go.Proofs
