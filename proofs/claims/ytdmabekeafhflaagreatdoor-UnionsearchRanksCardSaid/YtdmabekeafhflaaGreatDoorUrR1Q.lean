/- similarity.Words and profile.Values: their contracts, in the engine's form. -/
import Derived.Test.YtdmabekeafhflaaGreatDoorUrU
import Derived.Test.YtdmabekeafhflaaGreatDoorUrXV
import Derived.Test.YtdmabekeafhflaaGreatDoorUrXWd
import Derived.Test.YtdmabekeafhflaaGreatDoorUrXVc
set_option linter.unusedVariables false
set_option linter.unusedSimpArgs false
set_option linter.unusedSectionVars false
open List renaming length_map→ZPK
namespace Go.Proofs
open Go Eng Go.RowKit Go.Lib
theorem ZGf:∀(s cur:List UInt8),(ZC7 s cur).length≤s.length∧∀x∈ZC7 s cur,x.length≤cur.length+s.length
 | [],cur=>by simp[ZC7]
 |b::s,cur=>by
  obtain⟨h1,h2⟩:=ZGf s [];obtain⟨h3,h4⟩:=ZGf s (cur++[xwC b]);unfold ZC7;cases xwC b == 0 with
  |true=>
   rw[cond_true];cases cur.isEmpty with
   |true=>rw[cond_true];exact⟨by simp;omega,fun x hx=>by have:=h2 x hx;simp at this⊢;omega⟩
   |false=>
    rw[cond_false];refine⟨by simp;omega,fun x hx=> ?_⟩;rcases List.mem_cons.1 hx with rfl |hx
    ·simp
    ·have:=h2 x hx;simp at this⊢;omega
  |false=>
   rw[cond_false];refine⟨by simp;omega,fun x hx=> ?_⟩;have:=h4 x hx;simp at this⊢
   omega
theorem ZIA (l:List (List UInt8)):(ZAJ l).length≤l.length:=by
 induction l with
 |nil=>simp[ZAJ]
 |cons x r ih=>
  unfold ZAJ;cases r.contains x with
  |true=>rw[cond_true];simp;omega
  |false=>rw[cond_false];simp;omega
theorem ZGI (l:List (List UInt8)):(ZAE l).length≤l.length:=by unfold ZAE;rw[List.length_mergeSort];exact ZIA l
theorem ZJx (name:Str) (r:List Str) (h:ZsI name=some r):Fun X0.E 95 (([.str name]:List P).map Arg.p) ⟨[.p (.sl 1 (r.map P.str))],[]⟩:=by
 unfold ZsI at h;rw[ZzN]at h;obtain⟨hl,hr⟩:=Zi h;simp only[decide_eq_true_eq]at hl;obtain rfl:=Option.some.inj hr;refine ZEn ⟨Tryz.f95,by kernel_rfl,by decide,by kernel_rfl⟩ fun w S vals hv hrel _ hglob=> ?_
 obtain⟨vl⟩:=vals
 match vl,hv with
 | [v0],_=>
  have h0:=hrel 0 v0 _ rfl rfl;cases h0 with
  |str l hs=>
   have:=callsIn_wide (n:=0) |>.2 (Tryz.Words_walk ⟨name.toArray⟩ w (by simpa[ByteArray.size]using hl));refine CallsIn.mono this ?_;rintro e w' ⟨v,rfl,hb,hrow⟩;have e1:((⟨name.toArray⟩:ByteArray)++⟨#[32]⟩).data.toList=name++[32]:=by rw[ByteArray.data_append];simp
   rw[e1]at hrow;obtain⟨g1,g2⟩:=ZGf (name++[32]) [];refine⟨v,rfl,⟨⟨hb.os,hb.output⟩,hb.size,hb.block⟩,ZId hrow (fun b h1 h2=> .inr ⟨h1,h2⟩) (fun s hs=> ?_) ?_⟩
   ·have:=g2 s ((ZBO _ _).1 hs);simp at this;unfold Zr;omega
   ·have:=ZGI (ZC7 (name++[32]) []);simp at g1;unfold Z9;omega
theorem ZC6:Zez X0.E 95 ZBz.sig:=ZkU.ok uok fun v r h=>⟨ZJx v.1 r h,ZdP rfl⟩
theorem ZIe {w:World} {S:Nat→Prop} {v:Value} {s:List UInt8} (h:RelP w S v (.str s)):v= .string ⟨s.toArray⟩∧s.length≤9223372036854775807:=by cases h with |str _ h=>exact⟨rfl,h⟩
theorem ZLi {w:World} {S:Nat→Prop} {v:Value} {p:ZoR} (h:RelP w S v (Zx5 p)):v= .agg #[.bool p.Null,.string ⟨p.Text.toArray⟩]∧p.Text.length≤9223372036854775807:=by
 unfold Zx5 at h;cases h with
 |agg vs cs hl h1 h=>
  obtain⟨l⟩:=vs
  match l,hl with
  | [a,b],_=>
   have ha:=h 0 a _ rfl rfl;obtain⟨hb,hlb⟩:=ZIe (h 1 b _ rfl rfl);cases ha;subst hb;exact⟨rfl,hlb⟩
def ZHc (p:ZoR):Bool×Txt:=(p.Null,if h:p.Text.length≤9223372036854775807 then ⟨p.Text,h⟩else ⟨[],by simp⟩)
theorem ZJZ {w:World} {S:Nat→Prop} {v:Value} {l:List ZoR} (hS:∀b,S b→b < w.heap.size) (h:RelP w S v (.sl 2 (l.map Zx5))):(∃a cap,v= .slice a l.length cap)∧ZGF w.heap.size w v (l.map ZHc)∧∀p∈l,p.Text.length≤9223372036854775807:=by
 cases h with
 |sl a len cap sz es evs hl hm hc hsz hcell h=>
  rw[ZPK]at hl;subst hl;have hev:∀i p,l[i]? =some p→evs i= .agg #[.bool p.Null,.string ⟨p.Text.toArray⟩]∧p.Text.length≤9223372036854775807:=fun i p hp=>ZLi (h i (Zx5 p) (by rw[List.getElem?_map,hp];rfl))
  refine⟨⟨a,cap,rfl⟩,⟨a,cap,by rw[ZPK],fun hne=> ?_⟩,fun p hp=> ?_⟩
  ·have hpos:0 < l.length:=by
    cases l with
    |nil=>simp at hne
    |cons x r=>simp
   obtain⟨b,o,ha,hSb,hv⟩:=hcell 0 hpos;refine⟨b,o,ha,hS b hSb,fun j p hp=> ?_⟩;rw[List.getElem?_map]at hp;cases hq:l[j]? with
   |none=>rw[hq]at hp;simp at hp
   |some q=>
    rw[hq]at hp;simp only[Option.map_some,Option.some.injEq]at hp;subst hp;have hj:j < l.length:=(List.getElem?_eq_some_iff.1 hq).1;obtain⟨b',o',ha',_,hv'⟩:=hcell j hj;rw[ha]at ha';simp only[Option.some.injEq,Addr.mk.injEq,and_true]at ha';obtain⟨rfl,rfl⟩:=ha';obtain⟨e1,e2⟩:=hev j q hq;rw[e1]at hv';refine⟨hv' 0 _ rfl, ?_⟩;rw[show Txt.val (ZHc q).2= .string ⟨q.Text.toArray⟩ by unfold ZHc Txt.val;dsimp only;rw[dif_pos e2]];exact hv' 1 _ rfl
  ·obtain⟨j,hj,rfl⟩:=List.getElem_of_mem hp;exact(hev j _ (List.getElem?_eq_getElem hj)).2
theorem ZK5 {l:List ZoR} (h:∀p∈l,p.Text.length≤9223372036854775807):(tx (l.map ZHc)).map (·.1)=(l.filter fun x=> !x.Null).map fun x=>x.Text:=by
 induction l with
 |nil=>rfl
 |cons p l ih=>
  have ih:=ih fun q hq=>h q (by simp[hq])
  unfold tx at ih⊢
  have hp:=h p (by simp);rw[List.map_cons,List.filter_cons,List.filter_cons];cases hn:p.Null with
  |true=>simpa[ZHc,hn]using ih
  |false=>
   simp only[ZHc,hn,Bool.not_false,if_true,List.map_cons,dif_pos hp];exact congrArg _ (by simpa[ZHc]using ih)
theorem ZIB (c:ZoL) (r:List Str) (h:Zuw c=some r):Fun X0.E 94 (([ZzW c]:List P).map Arg.p) ⟨[.p (.sl 1 (r.map P.str))],[]⟩:=by
 unfold Zuw at h;rw[ZzN]at h;obtain⟨hl,hr⟩:=Zi h;simp only[decide_eq_true_eq]at hl;obtain rfl:=Option.some.inj hr;refine ZEn ⟨Tryz.f94,by kernel_rfl,by decide,by kernel_rfl⟩ fun w S vals hv hrel hS hglob=> ?_
 obtain⟨vl⟩:=vals
 match vl,hv with
 | [v0],_=>
  have h0:=hrel 0 v0 _ rfl rfl;unfold ZzW at h0;cases h0 with
  |agg vs cs hls h1 h2=>
   obtain⟨l⟩:=vs
   match l,hls with
   | [va,vb],_=>
    obtain⟨rfl,_⟩:=ZIe (h2 0 va _ rfl rfl);obtain⟨⟨a,cap,rfl⟩,hcol,htl⟩:=ZJZ hS (h2 1 vb _ rfl rfl);have:=callsIn_wide (n:=0) |>.2 (Tryz.Values_walk ⟨c.Name.toArray⟩ a c.Cells.length cap (c.Cells.map ZHc) (by rw[ZPK];exact hl) w hcol);refine CallsIn.mono this ?_;rintro e w' ⟨v,ss,rfl,hss,hb,hrow⟩;rw[ZK5 htl]at hss;subst hss;refine⟨v,rfl,⟨⟨hb.os,hb.output⟩,hb.size,hb.block⟩,ZId hrow (fun b h1 h2=> .inr ⟨h1,h2⟩) (fun s hs=> ?_) ?_⟩
    ·have:=(ZBO _ _).1 hs;obtain⟨p,hp,rfl⟩:=List.mem_map.1 this;exact htl p (List.mem_filter.1 hp).1
    ·have h1:=ZGI ((c.Cells.filter fun x=> !x.Null).map fun x=>x.Text);rw[ZPK]at h1;have h2:=List.length_filter_le (fun x:ZoR=> !x.Null) c.Cells;unfold Z9;omega
theorem ZDC:Zez X0.E 94 ZCe.sig:=ZkU.ok uok fun v r h=>⟨ZIB v.1 r h,ZdP rfl⟩
end Go.Proofs
