/- The words of a name: from runes to bytes; what is kept of rows. -/
import Derived.Test.YtdonkbljnbaacaaGreatDoorUtXWa
import Derived.Sort.OwnSorted
import Derived.Sort.EncStr
set_option linter.all false
namespace Go.Proofs
open Go Go.RowKit Go.Sort Go.Lib
theorem ZMf:((List.range 256).all fun n=>bif ZHr n then xwC n.toUInt8 == (ZQc n).toUInt8&&xwC n.toUInt8 != 0&&decide (ZQc n < 128)else xwC n.toUInt8 == 0)=true:=by kernel_rfl
theorem ZN4 {b:UInt8} (h:ZHr b.toNat=true):xwC b=(ZQc b.toNat).toUInt8/\xwC b≠0/\ZQc b.toNat < 128:=by have:=List.all_eq_true.1 ZMf b.toNat (List.mem_range.2 b.toNat_lt);rw[h,cond_true]at this;simp only[Bool.and_eq_true,beq_iff_eq,bne_iff_ne,decide_eq_true_eq]at this;rw[show b.toNat.toUInt8=b from UInt8.ofNat_toNat]at this;exact⟨this.1.1,this.1.2,this.2⟩
theorem ZRm {b:UInt8} (h:ZHr b.toNat=false):xwC b=0:=by have:=List.all_eq_true.1 ZMf b.toNat (List.mem_range.2 b.toNat_lt);rw[h,cond_false]at this;rw[show b.toNat.toUInt8=b from UInt8.ofNat_toNat]at this;simpa using this
theorem ZKK {n:Nat} (h:128<=n):ZHr n=false:=by unfold ZHr;rw[decide_eq_false_iff_not];omega
def ZM3 (a:List UInt8) (r:List (List UInt8)):List (List UInt8):=bif a.isEmpty then r else a::r
theorem ZPC {b:UInt8} {s a:List UInt8} (h:ZHr b.toNat=true):ZGS (b::s) a=ZGS s (a++[(ZQc b.toNat).toUInt8]):=by obtain⟨c,d,_⟩:=ZN4 h;rw[ZGS,<-c,beq_eq_false_iff_ne.2 d,cond_false]
theorem ZMe {b:UInt8} {s a:List UInt8} (h:ZHr b.toNat=false):ZGS (b::s) a=ZM3 a (ZGS s []):=by rw[ZGS,ZRm h];rfl
theorem ZMd:∀(p q a:List UInt8),p≠[]->(∀b∈p,ZHr b.toNat=false)->ZGS (p++q) a=ZM3 a (ZGS q [])
 | [],q,a,h,_=>absurd rfl h
 |b::p,q,a,_,h=>by
  rw[List.cons_append,ZMe (h b (by simp))];cases p with
  |nil=>rfl
  |cons c p=>rw[ZMd (c::p) q [] (by simp) (fun x d=>h x (by simp[d]))];rfl
theorem ZLw (s:ByteArray) (a:Nat) (h:a < s.size):s.data.toList.drop a=s[a]::s.data.toList.drop (a+1):=by
 have b:a < s.data.toList.length:=by rw[Array.length_toList];exact h
 rw[List.drop_eq_getElem_cons b];rfl
theorem ZPV (s:ByteArray) (a:Nat) (h:a < s.size) (c:List UInt8):
  (ZHr (Utf8.decode s a).1=true->(Utf8.decode s a).2=1/\ZQc (Utf8.decode s a).1 < 128/\ZGS (s.data.toList.drop a) c=ZGS (s.data.toList.drop (a+1)) (c++[(ZQc (Utf8.decode s a).1).toUInt8]))/\
  (ZHr (Utf8.decode s a).1=false->ZGS (s.data.toList.drop a) c=ZM3 c (ZGS (s.data.toList.drop (a+(Utf8.decode s a).2)) []))/\
  1<=(Utf8.decode s a).2/\a+(Utf8.decode s a).2<=s.size:=by
 by_cases ha:(s[a]'h).toNat < 128
 ·rw[decode_ascii s a h ha];refine⟨fun d=> ?_,fun d=> ?_,Nat.le_refl _,h⟩
  ·dsimp only at d|-
   exact⟨rfl,(ZN4 d).2.2,by rw[ZLw s a h,ZPC d]⟩
  ·dsimp only at d|-
   rw[ZLw s a h,ZMe d]
 ·have k:128<=(s[a]'h).toNat:=by omega
  obtain⟨p,m⟩:=decode_high s a h k;have l:=ZR6 s a h k;have f:a+(Utf8.decode s a).2<=s.size:=by obtain⟨i,_⟩:=l ((Utf8.decode s a).2 - 1) (by omega);omega
  refine⟨fun d=> ?_,fun _=> ?_,m,f⟩
  ·rw[ZKK p]at d;cases d
  ·have e:s.data.toList.drop a=(s.data.toList.drop a).take (Utf8.decode s a).2++s.data.toList.drop (a+(Utf8.decode s a).2):=by rw[<-List.drop_drop,List.take_append_drop]
   rw[e];refine ZMd _ _ c ?_ fun b q=> ?_
   ·intro n;have:=congrArg List.length n;simp only[List.length_take,List.length_drop,List.length_nil,Array.length_toList]at this;have:s.data.size=s.size:=rfl;omega
   ·obtain⟨j,i,rfl⟩:=List.getElem_of_mem q;simp only[List.length_take,List.length_drop,Array.length_toList]at i;obtain⟨o,g⟩:=l j (by omega);refine ZKK ?_;rw[List.getElem_take,List.getElem_drop];exact g
theorem ZIM {w m:World} {B b:Nat} {e p T:TypeId} {c:Array Value} {v:Value} {n:Nat} {o:List Value} (h:w.ownsRow B e 1 v n o) (j:w.heap[b]? =some (.cells c T (0,0))) (q:T≠e) (r:e≠p)
  (k:OthersKept p (some b) w m):m.ownsRow B e 1 v n o:=by
 refine⟨h.1, ?_⟩;rcases h.2 with s |⟨g,d,i,rfl,f,l,rest⟩
 ·exact .inl s
 ·refine .inr ⟨g,d,i,rfl,f,k g _ l ?_ ?_,rest⟩
  ·intro a;obtain rfl:=Option.some.inj a;rw[l]at j;simp only[Option.some.injEq,Obj.cells.injEq]at j;exact q j.2.1.symm
  ·intro t u a;simp only[Obj.cells.injEq]at a;exact r a.2.1
theorem ZJ3 {T e:TypeId} {B b:Nat} {c:List Value} {w:World} (h:IsBuilderF T e B b c w):∃p v,w.heap[b]? =some (.cells #[p,v] T (0,0)):=by
 rcases h with h |h
 ·obtain⟨_,v,a,_⟩:=h;exact⟨_,v,a⟩
 ·obtain⟨_,v,a,_⟩:=h;exact⟨_,v,a⟩
theorem ZLM {w:World} {B b:Nat} {e:TypeId} {v:Value} {n:Nat} {k:List Value} {o:Obj} (h:w.ownsRow B e 1 v n k) (d:w.heap[b]? =some o) (m:∀c l,o≠ .cells c e l):some b≠v.ownBlock:=by
 rcases h.2 with ⟨rfl,_⟩ |⟨g,f,j,rfl,_,i,_⟩
 ·simp[Value.ownBlock]
 ·intro a;simp only[Value.ownBlock,Option.some.injEq]at a;subst a;rw[i]at d;exact m _ _ (Option.some.inj d).symm
theorem ZJ0 {w d:World} {B:Nat} {e:TypeId} {v:Value} {n:Nat} {f:List Value} (h:w.ownsRow B e 1 v n f) (j:∀g,v.ownBlock=some g->d.heap[g]? =w.heap[g]?):d.ownsRow B e 1 v n f:=by
 refine⟨h.1, ?_⟩;rcases h.2 with k |⟨g,a,c,rfl,b,i,rest⟩
 ·exact .inl k
 ·exact .inr ⟨g,a,c,rfl,b,(j g rfl).trans i,rest⟩
theorem ZNm {w:World} {b g a q:Nat} {e:TypeId} {c:Array Value} {ts rest:List (List UInt8)} (d:b<=g) (k:w.heap[g]? =some (.cells c e (0,0))) (m:ts.length+rest.length<=a) (j:a<=maxLen) (l:c.size=a*1):
  (putRow encStr (Sort.ahead w q) g 0 (ts++rest).toArray).ownsRow b e 1 (.slice (some ⟨g,0,none⟩) ts.length a) ts.length (ts.map encStr)/\w.grownBy (putRow encStr (Sort.ahead w q) g 0 (ts++rest).toArray) (some g):=by
 have h:=heap_sorted (n:=q) (os:= #[]) (ts++rest).toArray k;have i:=grownBy_sorted (w:=w) (g:=g) (n:=q) (os:= #[]) (ts++rest).toArray;rw[grow_empty]at h i;refine⟨⟨by simp,.inr ⟨g,a,_,rfl,d,h,by omega,j,by simp[putCells,l], ?_⟩⟩,i⟩;have:=take_putCells c (ts++rest) (by rw[List.length_append];omega);have f:=congrArg (List.take ts.length) this;rw[List.take_take,List.length_append,Nat.min_eq_left (by omega),List.map_append,List.take_left' (by simp)]at f;rw[Nat.mul_one];exact f
end Go.Proofs
