/- similarity.Words and profile.Values: their contracts, in the engine's form. -/
import Derived.Test.YthefajbigloihaaGreatDoorScU
import Derived.Test.YthefajbigloihaaGreatDoorScXV
import Derived.Test.YthefajbigloihaaGreatDoorScXWd
import Derived.Test.YthefajbigloihaaGreatDoorScXVc
set_option linter.unusedVariables false
set_option linter.unusedSimpArgs false
set_option linter.unusedSectionVars false
open List renaming length_map→ZHb
namespace Go.Proofs
open Go Eng Go.RowKit Go.Lib
theorem ZA1:∀(s cur:List UInt8),(Zyx s cur).length≤s.length∧∀x∈Zyx s cur,x.length≤cur.length+s.length
 | [],cur=>by simp[Zyx]
 |b::s,cur=>by
  obtain⟨h1,h2⟩:=ZA1 s [];obtain⟨h3,h4⟩:=ZA1 s (cur++[xwC b]);unfold Zyx;cases xwC b == 0 with
  |true=>
   rw[cond_true];cases cur.isEmpty with
   |true=>rw[cond_true];exact⟨by simp;omega,fun x hx=>by have:=h2 x hx;simp at this⊢;omega⟩
   |false=>
    rw[cond_false];refine⟨by simp;omega,fun x hx=> ?_⟩;rcases List.mem_cons.1 hx with rfl |hx
    ·simp
    ·have:=h2 x hx;simp at this⊢;omega
  |false=>
   rw[cond_false];refine⟨by simp;omega,fun x hx=> ?_⟩;have:=h4 x hx;simp at this⊢
   omega
theorem ZCS (l:List (List UInt8)):(Zw2 l).length≤l.length:=by
 induction l with
 |nil=>simp[Zw2]
 |cons x r ih=>
  unfold Zw2;cases r.contains x with
  |true=>rw[cond_true];simp;omega
  |false=>rw[cond_false];simp;omega
theorem ZBv (l:List (List UInt8)):(Zs5 l).length≤l.length:=by unfold Zs5;rw[List.length_mergeSort];exact ZCS l
theorem ZDb (name:Str) (r:List Str) (h:Zpa name=some r):Fun X0.E 34 (([.str name]:List P).map Arg.p) ⟨[.p (.sl 1 (r.map P.str))],[]⟩:=by
 unfold Zpa at h;rw[Zwr]at h;obtain⟨hl,hr⟩:=Zo h;simp only[decide_eq_true_eq]at hl;obtain rfl:=Option.some.inj hr;refine ZzL ⟨Tryz.f34,by kernel_rfl,by decide,by kernel_rfl⟩ fun w S vals hv hrel _ hglob=> ?_
 obtain⟨vl⟩:=vals
 match vl,hv with
 | [v0],_=>
  have h0:=hrel 0 v0 _ rfl rfl;cases h0 with
  |str l hs=>
   have:=callsIn_wide (n:=0) |>.2 (Tryz.Words_walk ⟨name.toArray⟩ w (by simpa[ByteArray.size]using hl));refine CallsIn.mono this ?_;rintro e w' ⟨v,rfl,hb,hrow⟩;have e1:((⟨name.toArray⟩:ByteArray)++⟨#[32]⟩).data.toList=name++[32]:=by rw[ByteArray.data_append];simp
   rw[e1]at hrow;obtain⟨g1,g2⟩:=ZA1 (name++[32]) [];refine⟨v,rfl,⟨⟨hb.os,hb.output⟩,hb.size,hb.block⟩,ZCA hrow (fun b h1 h2=> .inr ⟨h1,h2⟩) (fun s hs=> ?_) ?_⟩
   ·have:=g2 s ((Zwq _ _).1 hs);simp at this;unfold Zq;omega
   ·have:=ZBv (Zyx (name++[32]) []);simp at g1;unfold Zag;omega
theorem ZwW:Zeg X0.E 34 Zwo.sig:=Zj9.ok uok fun v r h=>⟨ZDb v.1 r h,Zdx rfl⟩
theorem ZCB {w:World} {S:Nat→Prop} {v:Value} {s:List UInt8} (h:RelP w S v (.str s)):v= .string ⟨s.toArray⟩∧s.length≤9223372036854775807:=by cases h with |str _ h=>exact⟨rfl,h⟩
theorem ZEj {w:World} {S:Nat→Prop} {v:Value} {p:G_api_Cell} (h:RelP w S v (Zsa p)):v= .agg #[.bool p.Null,.string ⟨p.Text.toArray⟩]∧p.Text.length≤9223372036854775807:=by
 unfold Zsa at h;cases h with
 |agg vs cs hl h1 h=>
  obtain⟨l⟩:=vs
  match l,hl with
  | [a,b],_=>
   have ha:=h 0 a _ rfl rfl;obtain⟨hb,hlb⟩:=ZCB (h 1 b _ rfl rfl);cases ha;subst hb;exact⟨rfl,hlb⟩
def ZBU (p:G_api_Cell):Bool×Txt:=(p.Null,if h:p.Text.length≤9223372036854775807 then ⟨p.Text,h⟩else ⟨[],by simp⟩)
theorem ZDm {w:World} {S:Nat→Prop} {v:Value} {l:List G_api_Cell} (hS:∀b,S b→b < w.heap.size) (h:RelP w S v (.sl 2 (l.map Zsa))):(∃a cap,v= .slice a l.length cap)∧ZBs w.heap.size w v (l.map ZBU)∧∀p∈l,p.Text.length≤9223372036854775807:=by
 cases h with
 |sl a len cap sz es evs hl hm hc hsz hcell h=>
  rw[ZHb]at hl;subst hl;have hev:∀i p,l[i]? =some p→evs i= .agg #[.bool p.Null,.string ⟨p.Text.toArray⟩]∧p.Text.length≤9223372036854775807:=fun i p hp=>ZEj (h i (Zsa p) (by rw[List.getElem?_map,hp];rfl))
  refine⟨⟨a,cap,rfl⟩,⟨a,cap,by rw[ZHb],fun hne=> ?_⟩,fun p hp=> ?_⟩
  ·have hpos:0 < l.length:=by
    cases l with
    |nil=>simp at hne
    |cons x r=>simp
   obtain⟨b,o,ha,hSb,hv⟩:=hcell 0 hpos;refine⟨b,o,ha,hS b hSb,fun j p hp=> ?_⟩;rw[List.getElem?_map]at hp;cases hq:l[j]? with
   |none=>rw[hq]at hp;simp at hp
   |some q=>
    rw[hq]at hp;simp only[Option.map_some,Option.some.injEq]at hp;subst hp;have hj:j < l.length:=(List.getElem?_eq_some_iff.1 hq).1;obtain⟨b',o',ha',_,hv'⟩:=hcell j hj;rw[ha]at ha';simp only[Option.some.injEq,Addr.mk.injEq,and_true]at ha';obtain⟨rfl,rfl⟩:=ha';obtain⟨e1,e2⟩:=hev j q hq;rw[e1]at hv';refine⟨hv' 0 _ rfl, ?_⟩;rw[show Txt.val (ZBU q).2= .string ⟨q.Text.toArray⟩ by unfold ZBU Txt.val;dsimp only;rw[dif_pos e2]];exact hv' 1 _ rfl
  ·obtain⟨j,hj,rfl⟩:=List.getElem_of_mem hp;exact(hev j _ (List.getElem?_eq_getElem hj)).2
theorem ZEc {l:List G_api_Cell} (h:∀p∈l,p.Text.length≤9223372036854775807):(tx (l.map ZBU)).map (·.1)=(l.filter fun x=> !x.Null).map fun x=>x.Text:=by
 induction l with
 |nil=>rfl
 |cons p l ih=>
  have ih:=ih fun q hq=>h q (by simp[hq])
  unfold tx at ih⊢
  have hp:=h p (by simp);rw[List.map_cons,List.filter_cons,List.filter_cons];cases hn:p.Null with
  |true=>simpa[ZBU,hn]using ih
  |false=>
   simp only[ZBU,hn,Bool.not_false,if_true,List.map_cons,dif_pos hp];exact congrArg _ (by simpa[ZBU]using ih)
theorem ZCT (c:G_api_Column) (r:List Str) (h:ZsC c=some r):Fun X0.E 80 (([Zvi c]:List P).map Arg.p) ⟨[.p (.sl 1 (r.map P.str))],[]⟩:=by
 unfold ZsC at h;rw[Zwr]at h;obtain⟨hl,hr⟩:=Zo h;simp only[decide_eq_true_eq]at hl;obtain rfl:=Option.some.inj hr;refine ZzL ⟨Tryz.f80,by kernel_rfl,by decide,by kernel_rfl⟩ fun w S vals hv hrel hS hglob=> ?_
 obtain⟨vl⟩:=vals
 match vl,hv with
 | [v0],_=>
  have h0:=hrel 0 v0 _ rfl rfl;unfold Zvi at h0;cases h0 with
  |agg vs cs hls h1 h2=>
   obtain⟨l⟩:=vs
   match l,hls with
   | [va,vb],_=>
    obtain⟨rfl,_⟩:=ZCB (h2 0 va _ rfl rfl);obtain⟨⟨a,cap,rfl⟩,hcol,htl⟩:=ZDm hS (h2 1 vb _ rfl rfl);have:=callsIn_wide (n:=0) |>.2 (Tryz.Values_walk ⟨c.Name.toArray⟩ a c.Cells.length cap (c.Cells.map ZBU) (by rw[ZHb];exact hl) w hcol);refine CallsIn.mono this ?_;rintro e w' ⟨v,ss,rfl,hss,hb,hrow⟩;rw[ZEc htl]at hss;subst hss;refine⟨v,rfl,⟨⟨hb.os,hb.output⟩,hb.size,hb.block⟩,ZCA hrow (fun b h1 h2=> .inr ⟨h1,h2⟩) (fun s hs=> ?_) ?_⟩
    ·have:=(Zwq _ _).1 hs;obtain⟨p,hp,rfl⟩:=List.mem_map.1 this;exact htl p (List.mem_filter.1 hp).1
    ·have h1:=ZBv ((c.Cells.filter fun x=> !x.Null).map fun x=>x.Text);rw[ZHb]at h1;have h2:=List.length_filter_le (fun x:G_api_Cell=> !x.Null) c.Cells;unfold Zag;omega
theorem Zzh:Zeg X0.E 80 Zyp.sig:=Zj9.ok uok fun v r h=>⟨ZCT v.1 r h,Zdx rfl⟩
end Go.Proofs
