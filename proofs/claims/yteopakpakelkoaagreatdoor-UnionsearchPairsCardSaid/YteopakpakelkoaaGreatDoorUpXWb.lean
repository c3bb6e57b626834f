/- The words of a name: from runes to bytes; what is kept of rows. -/
import Derived.Test.YteopakpakelkoaaGreatDoorUpXWa
import Derived.Sort.OwnSorted
import Derived.Sort.EncStr
set_option linter.all false
namespace Go.Proofs
open Go Go.RowKit Go.Sort Go.Lib
theorem ZLm:((List.range 256).all fun n=>bif ZGL n then xwC n.toUInt8 == (ZO3 n).toUInt8&&xwC n.toUInt8 != 0&&decide (ZO3 n < 128)else xwC n.toUInt8 == 0)=true:=by kernel_rfl
theorem ZM3 {b:UInt8} (h:ZGL b.toNat=true):xwC b=(ZO3 b.toNat).toUInt8/\xwC b≠0/\ZO3 b.toNat < 128:=by have:=List.all_eq_true.1 ZLm b.toNat (List.mem_range.2 b.toNat_lt);rw[h,cond_true]at this;simp only[Bool.and_eq_true,beq_iff_eq,bne_iff_ne,decide_eq_true_eq]at this;rw[show b.toNat.toUInt8=b from UInt8.ofNat_toNat]at this;exact⟨this.1.1,this.1.2,this.2⟩
theorem ZQf {b:UInt8} (h:ZGL b.toNat=false):xwC b=0:=by have:=List.all_eq_true.1 ZLm b.toNat (List.mem_range.2 b.toNat_lt);rw[h,cond_false]at this;rw[show b.toNat.toUInt8=b from UInt8.ofNat_toNat]at this;simpa using this
theorem ZJU {n:Nat} (h:128<=n):ZGL n=false:=by unfold ZGL;rw[decide_eq_false_iff_not];omega
def ZL6 (a:List UInt8) (r:List (List UInt8)):List (List UInt8):=bif a.isEmpty then r else a::r
theorem ZOv {b:UInt8} {s a:List UInt8} (h:ZGL b.toNat=true):ZGh (b::s) a=ZGh s (a++[(ZO3 b.toNat).toUInt8]):=by obtain⟨c,d,_⟩:=ZM3 h;rw[ZGh,<-c,beq_eq_false_iff_ne.2 d,cond_false]
theorem ZLl {b:UInt8} {s a:List UInt8} (h:ZGL b.toNat=false):ZGh (b::s) a=ZL6 a (ZGh s []):=by rw[ZGh,ZQf h];rfl
theorem ZLk:∀(p q a:List UInt8),p≠[]->(∀b∈p,ZGL b.toNat=false)->ZGh (p++q) a=ZL6 a (ZGh q [])
 | [],q,a,h,_=>absurd rfl h
 |b::p,q,a,_,h=>by
  rw[List.cons_append,ZLl (h b (by simp))];cases p with
  |nil=>rfl
  |cons c p=>rw[ZLk (c::p) q [] (by simp) (fun x d=>h x (by simp[d]))];rfl
theorem ZKA (s:ByteArray) (a:Nat) (h:a < s.size):s.data.toList.drop a=s[a]::s.data.toList.drop (a+1):=by
 have b:a < s.data.toList.length:=by rw[Array.length_toList];exact h
 rw[List.drop_eq_getElem_cons b];rfl
theorem ZOK (s:ByteArray) (a:Nat) (h:a < s.size) (c:List UInt8):
  (ZGL (Utf8.decode s a).1=true->(Utf8.decode s a).2=1/\ZO3 (Utf8.decode s a).1 < 128/\ZGh (s.data.toList.drop a) c=ZGh (s.data.toList.drop (a+1)) (c++[(ZO3 (Utf8.decode s a).1).toUInt8]))/\
  (ZGL (Utf8.decode s a).1=false->ZGh (s.data.toList.drop a) c=ZL6 c (ZGh (s.data.toList.drop (a+(Utf8.decode s a).2)) []))/\
  1<=(Utf8.decode s a).2/\a+(Utf8.decode s a).2<=s.size:=by
 by_cases ha:(s[a]'h).toNat < 128
 ·rw[decode_ascii s a h ha];refine⟨fun d=> ?_,fun d=> ?_,Nat.le_refl _,h⟩
  ·dsimp only at d|-
   exact⟨rfl,(ZM3 d).2.2,by rw[ZKA s a h,ZOv d]⟩
  ·dsimp only at d|-
   rw[ZKA s a h,ZLl d]
 ·have l:128<=(s[a]'h).toNat:=by omega
  obtain⟨o,q⟩:=decode_high s a h l;have k:=ZQR s a h l;have f:a+(Utf8.decode s a).2<=s.size:=by obtain⟨i,_⟩:=k ((Utf8.decode s a).2 - 1) (by omega);omega
  refine⟨fun d=> ?_,fun _=> ?_,q,f⟩
  ·rw[ZJU o]at d;cases d
  ·have e:s.data.toList.drop a=(s.data.toList.drop a).take (Utf8.decode s a).2++s.data.toList.drop (a+(Utf8.decode s a).2):=by rw[<-List.drop_drop,List.take_append_drop]
   rw[e];refine ZLk _ _ c ?_ fun b n=> ?_
   ·intro m;have:=congrArg List.length m;simp only[List.length_take,List.length_drop,List.length_nil,Array.length_toList]at this;have:s.data.size=s.size:=rfl;omega
   ·obtain⟨j,i,rfl⟩:=List.getElem_of_mem n;simp only[List.length_take,List.length_drop,Array.length_toList]at i;obtain⟨p,g⟩:=k j (by omega);refine ZJU ?_;rw[List.getElem_take,List.getElem_drop];exact g
theorem ZH0 {w m:World} {B b:Nat} {e p T:TypeId} {c:Array Value} {v:Value} {n:Nat} {o:List Value} (h:w.ownsRow B e 1 v n o) (d:w.heap[b]? =some (.cells c T (0,0))) (q:T≠e) (r:e≠p)
  (k:OthersKept p (some b) w m):m.ownsRow B e 1 v n o:=by
 refine⟨h.1, ?_⟩;rcases h.2 with s |⟨g,j,f,rfl,i,l,rest⟩
 ·exact .inl s
 ·refine .inr ⟨g,j,f,rfl,i,k g _ l ?_ ?_,rest⟩
  ·intro a;obtain rfl:=Option.some.inj a;rw[l]at d;simp only[Option.some.injEq,Obj.cells.injEq]at d;exact q d.2.1.symm
  ·intro t u a;simp only[Obj.cells.injEq]at a;exact r a.2.1
theorem ZI8 {T e:TypeId} {B b:Nat} {c:List Value} {w:World} (h:IsBuilderF T e B b c w):∃p v,w.heap[b]? =some (.cells #[p,v] T (0,0)):=by
 rcases h with h |h
 ·obtain⟨_,v,a,_⟩:=h;exact⟨_,v,a⟩
 ·obtain⟨_,v,a,_⟩:=h;exact⟨_,v,a⟩
theorem ZKP {w:World} {B b:Nat} {e:TypeId} {v:Value} {n:Nat} {j:List Value} {o:Obj} (h:w.ownsRow B e 1 v n j) (a:w.heap[b]? =some o) (i:∀c k,o≠ .cells c e k):some b≠v.ownBlock:=by
 rcases h.2 with ⟨rfl,_⟩ |⟨g,m,l,rfl,_,f,_⟩
 ·simp[Value.ownBlock]
 ·intro d;simp only[Value.ownBlock,Option.some.injEq]at d;subst d;rw[f]at a;exact i _ _ (Option.some.inj a).symm
theorem ZI5 {w d:World} {B:Nat} {e:TypeId} {v:Value} {n:Nat} {f:List Value} (h:w.ownsRow B e 1 v n f) (j:∀g,v.ownBlock=some g->d.heap[g]? =w.heap[g]?):d.ownsRow B e 1 v n f:=by
 refine⟨h.1, ?_⟩;rcases h.2 with k |⟨g,c,b,rfl,a,i,rest⟩
 ·exact .inl k
 ·exact .inr ⟨g,c,b,rfl,a,(j g rfl).trans i,rest⟩
theorem ZMq {w:World} {b g a q:Nat} {e:TypeId} {d:Array Value} {ts rest:List (List UInt8)} (c:b<=g) (j:w.heap[g]? =some (.cells d e (0,0))) (m:ts.length+rest.length<=a) (l:a<=maxLen) (k:d.size=a*1):
  (putRow encStr (Sort.ahead w q) g 0 (ts++rest).toArray).ownsRow b e 1 (.slice (some ⟨g,0,none⟩) ts.length a) ts.length (ts.map encStr)/\w.grownBy (putRow encStr (Sort.ahead w q) g 0 (ts++rest).toArray) (some g):=by
 have f:=heap_sorted (n:=q) (os:= #[]) (ts++rest).toArray j;have h:=grownBy_sorted (w:=w) (g:=g) (n:=q) (os:= #[]) (ts++rest).toArray;rw[grow_empty]at f h;refine⟨⟨by simp,.inr ⟨g,a,_,rfl,c,f,by omega,l,by simp[putCells,k], ?_⟩⟩,h⟩;have:=take_putCells d (ts++rest) (by rw[List.length_append];omega);have i:=congrArg (List.take ts.length) this;rw[List.take_take,List.length_append,Nat.min_eq_left (by omega),List.map_append,List.take_left' (by simp)]at i;rw[Nat.mul_one];exact i
end Go.Proofs
