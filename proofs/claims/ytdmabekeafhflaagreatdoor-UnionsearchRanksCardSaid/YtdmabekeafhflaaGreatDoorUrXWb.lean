/- The words of a name: from runes to bytes; what is kept of rows. -/
import Derived.Test.YtdmabekeafhflaaGreatDoorUrXWa
import Derived.Sort.OwnSorted
import Derived.Sort.EncStr
set_option linter.unusedVariables false
set_option linter.unusedSimpArgs false
set_option linter.unusedSectionVars false
namespace Go.Proofs
open Go Go.RowKit Go.Sort Go.Lib
theorem ZGL:((List.range 256).all fun n=>bif ZCL n then xwC n.toUInt8 == (ZJ9 n).toUInt8&&xwC n.toUInt8 != 0&&decide (ZJ9 n < 128)else xwC n.toUInt8 == 0)=true:=by kernel_rfl
theorem ZH2 {b:UInt8} (h:ZCL b.toNat=true):xwC b=(ZJ9 b.toNat).toUInt8∧xwC b≠0∧ZJ9 b.toNat < 128:=by have:=List.all_eq_true.1 ZGL b.toNat (List.mem_range.2 b.toNat_lt);rw[h,cond_true]at this;simp only[Bool.and_eq_true,beq_iff_eq,bne_iff_ne,decide_eq_true_eq]at this;rw[show b.toNat.toUInt8=b from UInt8.ofNat_toNat]at this;exact⟨this.1.1,this.1.2,this.2⟩
theorem ZK4 {b:UInt8} (h:ZCL b.toNat=false):xwC b=0:=by have:=List.all_eq_true.1 ZGL b.toNat (List.mem_range.2 b.toNat_lt);rw[h,cond_false]at this;rw[show b.toNat.toUInt8=b from UInt8.ofNat_toNat]at this;simpa using this
theorem ZFm {n:Nat} (h:128≤n):ZCL n=false:=by unfold ZCL;rw[decide_eq_false_iff_not];omega
def ZHm (cur:List UInt8) (r:List (List UInt8)):List (List UInt8):=bif cur.isEmpty then r else cur::r
theorem ZJw {b:UInt8} {s cur:List UInt8} (h:ZCL b.toNat=true):ZC7 (b::s) cur=ZC7 s (cur++[(ZJ9 b.toNat).toUInt8]):=by obtain⟨h1,h2,_⟩:=ZH2 h;rw[ZC7,←h1,beq_eq_false_iff_ne.2 h2,cond_false]
theorem ZGK {b:UInt8} {s cur:List UInt8} (h:ZCL b.toNat=false):ZC7 (b::s) cur=ZHm cur (ZC7 s []):=by rw[ZC7,ZK4 h];rfl
theorem ZGJ:∀(p q cur:List UInt8),p≠[]→(∀b∈p,ZCL b.toNat=false)→ZC7 (p++q) cur=ZHm cur (ZC7 q [])
 | [],q,cur,h,_=>absurd rfl h
 |b::p,q,cur,_,h=>by
  rw[List.cons_append,ZGK (h b (by simp))];cases p with
  |nil=>rfl
  |cons c p=>rw[ZGJ (c::p) q [] (by simp) (fun x hx=>h x (by simp[hx]))];rfl
theorem ZF9 (s:ByteArray) (pos:Nat) (h:pos < s.size):s.data.toList.drop pos=s[pos]::s.data.toList.drop (pos+1):=by
 have h':pos < s.data.toList.length:=by rw[Array.length_toList];exact h
 rw[List.drop_eq_getElem_cons h'];rfl
theorem ZJU (s:ByteArray) (pos:Nat) (h:pos < s.size) (cur:List UInt8):
  (ZCL (Utf8.decode s pos).1=true→(Utf8.decode s pos).2=1∧ZJ9 (Utf8.decode s pos).1 < 128∧ZC7 (s.data.toList.drop pos) cur=ZC7 (s.data.toList.drop (pos+1)) (cur++[(ZJ9 (Utf8.decode s pos).1).toUInt8]))∧
  (ZCL (Utf8.decode s pos).1=false→ZC7 (s.data.toList.drop pos) cur=ZHm cur (ZC7 (s.data.toList.drop (pos+(Utf8.decode s pos).2)) []))∧
  1≤(Utf8.decode s pos).2∧pos+(Utf8.decode s pos).2≤s.size:=by
 by_cases ha:(s[pos]'h).toNat < 128
 ·rw[decode_ascii s pos h ha];refine⟨fun hw=> ?_,fun hw=> ?_,Nat.le_refl _,h⟩
  ·dsimp only at hw⊢
   exact⟨rfl,(ZH2 hw).2.2,by rw[ZF9 s pos h,ZJw hw]⟩
  ·dsimp only at hw⊢
   rw[ZF9 s pos h,ZGK hw]
 ·have hh:128≤(s[pos]'h).toNat:=by omega
  obtain⟨h1,h2⟩:=decode_high s pos h hh;have hs:=ZLL s pos h hh;have hle:pos+(Utf8.decode s pos).2≤s.size:=by obtain⟨hj,_⟩:=hs ((Utf8.decode s pos).2 - 1) (by omega);omega
  refine⟨fun hw=> ?_,fun _=> ?_,h2,hle⟩
  ·rw[ZFm h1]at hw;cases hw
  ·have e:s.data.toList.drop pos=(s.data.toList.drop pos).take (Utf8.decode s pos).2++s.data.toList.drop (pos+(Utf8.decode s pos).2):=by rw[←List.drop_drop,List.take_append_drop]
   rw[e];refine ZGJ _ _ cur ?_ fun b hb=> ?_
   ·intro e0;have:=congrArg List.length e0;simp only[List.length_take,List.length_drop,List.length_nil,Array.length_toList]at this;have:s.data.size=s.size:=rfl;omega
   ·obtain⟨j,hj,rfl⟩:=List.getElem_of_mem hb;simp only[List.length_take,List.length_drop,Array.length_toList]at hj;obtain⟨hj2,hb2⟩:=hs j (by omega);refine ZFm ?_;rw[List.getElem_take,List.getElem_drop];exact hb2
theorem ZDO {w w':World} {B b:Nat} {e e' T:TypeId} {c:Array Value} {v:Value} {n:Nat} {xs:List Value} (h:w.ownsRow B e 1 v n xs) (hb:w.heap[b]? =some (.cells c T (0,0))) (hT:T≠e) (he:e≠e')
  (k:OthersKept e' (some b) w w'):w'.ownsRow B e 1 v n xs:=by
 refine⟨h.1, ?_⟩;rcases h.2 with hn |⟨g,cap,cur,rfl,hbg,hg,rest⟩
 ·exact .inl hn
 ·refine .inr ⟨g,cap,cur,rfl,hbg,k g _ hg ?_ ?_,rest⟩
  ·intro e1;obtain rfl:=Option.some.inj e1;rw[hg]at hb;simp only[Option.some.injEq,Obj.cells.injEq]at hb;exact hT hb.2.1.symm
  ·intro c' fz e1;simp only[Obj.cells.injEq]at e1;exact he e1.2.1
theorem ZEN {T e:TypeId} {B b:Nat} {bs:List Value} {w:World} (h:IsBuilderF T e B b bs w):∃p v,w.heap[b]? =some (.cells #[p,v] T (0,0)):=by
 rcases h with h |h
 ·obtain⟨_,v,hb,_⟩:=h;exact⟨_,v,hb⟩
 ·obtain⟨_,v,hb,_⟩:=h;exact⟨_,v,hb⟩
theorem ZGp {w:World} {B b:Nat} {e:TypeId} {v:Value} {n:Nat} {xs:List Value} {o:Obj} (h:w.ownsRow B e 1 v n xs) (hb:w.heap[b]? =some o) (ho:∀c fz,o≠ .cells c e fz):some b≠v.ownBlock:=by
 rcases h.2 with ⟨rfl,_⟩ |⟨g,cap,cur,rfl,_,hg,_⟩
 ·simp[Value.ownBlock]
 ·intro e1;simp only[Value.ownBlock,Option.some.injEq]at e1;subst e1;rw[hg]at hb;exact ho _ _ (Option.some.inj hb).symm
theorem ZEL {w w':World} {B:Nat} {e:TypeId} {v:Value} {n:Nat} {xs:List Value} (h:w.ownsRow B e 1 v n xs) (hk:∀g,v.ownBlock=some g→w'.heap[g]? =w.heap[g]?):w'.ownsRow B e 1 v n xs:=by
 refine⟨h.1, ?_⟩;rcases h.2 with hn |⟨g,cap,cur,rfl,hbg,hg,rest⟩
 ·exact .inl hn
 ·exact .inr ⟨g,cap,cur,rfl,hbg,(hk g rfl).trans hg,rest⟩
theorem ZHy {w:World} {base g cap q:Nat} {e:TypeId} {cur:Array Value} {ts rest:List (List UInt8)} (hbase:base≤g) (hb:w.heap[g]? =some (.cells cur e (0,0))) (h1:ts.length+rest.length≤cap) (h2:cap≤maxLen) (h3:cur.size=cap*1):
  (putRow encStr (Sort.ahead w q) g 0 (ts++rest).toArray).ownsRow base e 1 (.slice (some ⟨g,0,none⟩) ts.length cap) ts.length (ts.map encStr)∧w.grownBy (putRow encStr (Sort.ahead w q) g 0 (ts++rest).toArray) (some g):=by
 have hg:=heap_sorted (n:=q) (os:= #[]) (ts++rest).toArray hb;have hr:=grownBy_sorted (w:=w) (g:=g) (n:=q) (os:= #[]) (ts++rest).toArray;rw[grow_empty]at hg hr;refine⟨⟨by simp,.inr ⟨g,cap,_,rfl,hbase,hg,by omega,h2,by simp[putCells,h3], ?_⟩⟩,hr⟩;have:=take_putCells cur (ts++rest) (by rw[List.length_append];omega);have h4:=congrArg (List.take ts.length) this;rw[List.take_take,List.length_append,Nat.min_eq_left (by omega),List.map_append,List.take_left' (by simp)]at h4;rw[Nat.mul_one];exact h4
end Go.Proofs
