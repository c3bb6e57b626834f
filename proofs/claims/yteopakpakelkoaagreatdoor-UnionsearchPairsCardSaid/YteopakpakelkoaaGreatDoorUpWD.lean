/- Texts as sorted sets, and the words of a name, byte by byte: plain Lean. -/

import Derived.Lib.SlicesCompact
import Derived.Laws.RangeAny
set_option linter.all false
open List renaming mergeSort_perm->ZVx, pairwise_mergeSort->Z0t
namespace Go.Proofs
open Go Go.Lib
def xwC (b:UInt8):UInt8:=bif decide (65<=b.toNat)&&decide (b.toNat<=90)then b+32 else bif (decide (97<=b.toNat)&&decide (b.toNat<=122))||(decide (48<=b.toNat)&&decide (b.toNat<=57))then b else 0
def ZGh:List UInt8->List UInt8->List (List UInt8)
 | [],_=>[]
 |b::s,cur=>bif xwC b == 0 then (bif cur.isEmpty then ZGh s []else cur::ZGh s [])else ZGh s (cur++[xwC b])
def ZEf:List (List UInt8)->List (List UInt8)
 | []=>[]
 |x::r=>bif r.contains x then ZEf r else x::ZEf r
def ZxF (l:List (List UInt8)):List (List UInt8):=(ZEf l).mergeSort fun x y=>decide (x<=y)
noncomputable def ZKg {b:Type} (a:b):b:=Classical.choose (⟨a,rfl⟩:∃x,x=a)
theorem ZC7 {b:Type} (a:b):ZKg a=a:=Classical.choose_spec (⟨a,rfl⟩:∃x,x=a)
theorem ZHO (l:List (List UInt8)) (x:List UInt8):x∈ZEf l<->x∈l:=by
 induction l with
 |nil=>simp[ZEf]
 |cons y r b=>
  unfold ZEf;cases h:r.contains y with
  |true=>
   rw[cond_true,b];constructor
   ·exact fun h=>List.mem_cons_of_mem _ h
   ·intro a;rcases List.mem_cons.1 a with rfl |a
    ·simpa using h
    ·exact a
  |false=>rw[cond_false];simp[b]
theorem ZHk (l:List (List UInt8)):(ZEf l).Nodup:=by
 induction l with
 |nil=>simp[ZEf]
 |cons y r a=>
  unfold ZEf;cases h:r.contains y with
  |true=>rw[cond_true];exact a
  |false=>
   rw[cond_false,List.nodup_cons];refine⟨fun b=> ?_,a⟩;rw[ZHO]at b;have:r.contains y=true:=by simpa using b
   rw[h]at this;cases this
theorem ZS1:∀a b c:List UInt8,decide (a<=b)=true->decide (b<=c)=true->decide (a<=c)=true:=fun a b c d e=>by simp only[decide_eq_true_eq]at*;exact List.le_trans d e
theorem ZS2:∀a b:List UInt8,(decide (a<=b)||decide (b<=a))=true:=fun a b=>by simp only[Bool.or_eq_true,decide_eq_true_eq];exact List.le_total a b
theorem ZDG (l:List (List UInt8)) (x:List UInt8):x∈ZxF l<->x∈l:=by unfold ZxF;rw[(ZVx _ _).mem_iff,ZHO]
theorem ZEg (l:List (List UInt8)):(ZxF l).Nodup:=(ZVx _ _).nodup_iff.2 (ZHk l)
theorem ZHN (l:List (List UInt8)):(ZxF l).Pairwise (fun a b=>a<=b):=(Z0t ZS1 ZS2 (ZEf l)).imp fun h=>by simpa using h
theorem ZGX {a b:List (List UInt8)} (e:a.Pairwise (fun a b=>a<=b)) (c:b.Pairwise (fun a b=>a<=b)) (g:a.Nodup) (f:b.Nodup) (h:∀x,x∈a<->x∈b):a=b:=
 List.Perm.eq_of_pairwise (le:=fun a b=>a<=b) (fun _ _ _ _ d i=>List.le_antisymm d i) e c ((List.perm_ext_iff_of_nodup g f).2 h)
theorem ZSc {a b:List (List UInt8)} (h:∀x,x∈a<->x∈b):ZxF a=ZxF b:=
 ZGX (ZHN a) (ZHN b) (ZEg a) (ZEg b) fun x=>by rw[ZDG,ZDG,h]
theorem ZNE {l a:List (List UInt8)} (b:a.Nodup) (h:∀x,x∈a<->x∈l):(a.mergeSort fun x y=>decide (x<=y))=ZxF l:=
 ZGX ((Z0t ZS1 ZS2 a).imp fun h=>by simpa using h) (ZHN l) ((ZVx _ _).nodup_iff.2 b) (ZEg l) fun x=>by rw[(ZVx _ _).mem_iff,ZDG,h]
theorem ZK0 (d:Array (List UInt8)):∀m,m<=d.size->∀x,x∈compactUpTo d m<->∃j,j < m/\d[j]! =x
 |0,_,x=>by simp[compactUpTo]
 |m+1,hm,x=>by
  rw[compactUpTo_succ,List.mem_append,ZK0 d m (by omega) x];cases hk:keeps d m with
  |true=>
   simp only[if_true,List.mem_singleton];constructor
   ·rintro(⟨j,a,e⟩ |e)
    ·exact⟨j,by omega,e⟩
    ·exact⟨m,by omega,e.symm⟩
   ·rintro⟨j,a,e⟩
    by_cases h:j=m
    ·subst h;exact .inr e.symm
    ·exact .inl ⟨j,by omega,e⟩
  |false=>
   have b:m≠0/\d[m]! =d[m - 1]! :=by simpa[keeps]using hk
   simp only[Bool.false_eq_true,if_false,List.not_mem_nil,or_false];constructor
   ·rintro⟨j,a,e⟩;exact⟨j,by omega,e⟩
   ·rintro⟨j,a,e⟩
    by_cases h:j=m
    ·subst h;exact⟨j - 1,by omega,by rw[<-b.2];exact e⟩
    ·exact⟨j,by omega,e⟩
theorem ZKx (d:Array (List UInt8)) (c:∀i j,i<=j->j < d.size->d[i]! <=d[j]!):∀m,m<=d.size->(compactUpTo d m).Pairwise (fun a b=>a<=b)/\(compactUpTo d m).Nodup
 |0,_=>by simp[compactUpTo]
 |m+1,hm=>by
  obtain⟨k,l⟩:=ZKx d c m (by omega);rw[compactUpTo_succ];cases hk:keeps d m with
  |false=>simpa using ⟨k,l⟩
  |true=>
   simp only[if_true];constructor
   ·refine List.pairwise_append.2 ⟨k,by simp,fun a h b g=> ?_⟩;obtain⟨j,n,rfl⟩:=(ZK0 d m (by omega) a).1 h;obtain rfl:=List.mem_singleton.1 g;exact c j m (by omega) (by omega)
   ·refine List.nodup_append.2 ⟨l,by simp,fun a h b g e=> ?_⟩;obtain⟨j,n,rfl⟩:=(ZK0 d m (by omega) a).1 h;obtain rfl:=List.mem_singleton.1 g;have f:m=0\/d[m]! ≠d[m - 1]! :=by simpa[keeps]using hk
    rcases f with o |f
    ·omega
    ·exact f (List.le_antisymm (by rw[<-e];exact c j (m - 1) (by omega) (by omega)) (c (m - 1) m (by omega) (by omega)))
theorem ZNx (l:List (List UInt8)):compactUpTo (l.mergeSort fun x y=>decide (x<=y)).toArray (l.mergeSort fun x y=>decide (x<=y)).toArray.size=ZxF l:=by
 have g:=ZVx l (fun x y=>decide (x<=y));have f:(l.mergeSort fun x y=>decide (x<=y)).Pairwise (fun a b=>a<=b):=(Z0t ZS1 ZS2 l).imp fun h=>by simpa using h
 generalize (l.mergeSort fun x y=>decide (x<=y))=s at g f;have d:∀i j,i<=j->j < s.toArray.size->s.toArray[i]! <=s.toArray[j]! :=by
  intro i j n c;have e:j < s.length:=by simpa using c
  rw[getElem!_pos s.toArray i (by simpa using (by omega:i < s.length)),getElem!_pos s.toArray j c];simp only[List.getElem_toArray];rcases Nat.lt_or_ge i j with h |h
  ·exact List.pairwise_iff_getElem.1 f i j (by omega) e h
  ·obtain rfl:i=j:=by omega
   exact List.le_refl _
 obtain⟨k,o⟩:=ZKx s.toArray d s.toArray.size (Nat.le_refl _);refine ZGX k (ZHN l) o (ZEg l) fun x=> ?_
 rw[ZK0 _ _ (Nat.le_refl _),ZDG,<-g.mem_iff];constructor
 ·rintro⟨j,c,rfl⟩;rw[getElem!_pos s.toArray j c];simp
 ·intro m;obtain⟨j,c,rfl⟩:=List.getElem_of_mem m;exact⟨j,by simpa using c,by rw[getElem!_pos s.toArray j (by simpa using c)];simp⟩
theorem ZTb (s:ByteArray) (a k:Nat) (h:a+k < s.size):s.get! (a+k)=s[a+k]'h:=by show s.get! (a+k)=_;simp[ByteArray.get!,getElem!_pos,h];rfl
theorem ZQR (s:ByteArray) (pos:Nat) (h:pos < s.size) (ha:128<=(s[pos]'h).toNat):∀j,j < (Utf8.decode s pos).2->∃hj:pos+j < s.size,128<=(s[pos+j]'hj).toNat:=by
 have hn:¬(s[pos]'h).toNat < 128:=by omega
 have h0:∃hj:pos+0 < s.size,128<=(s[pos+0]'hj).toNat:=⟨h,ha⟩;have hc:∀k,(decide (pos+k < s.size)&&(s.get! (pos+k)).toNat / 64 == 2)=true->∃hj:pos+k < s.size,128<=(s[pos+k]'hj).toNat:=by intro k hk;simp only[Bool.and_eq_true,decide_eq_true_eq,beq_iff_eq]at hk;obtain⟨h1,h2⟩:=hk;refine⟨h1, ?_⟩;rw[ZTb s pos k h1]at h2;omega
 have key:∀j,1<=j->j < (Utf8.decode s pos).2->(decide (pos+j < s.size)&&(s.get! (pos+j)).toNat / 64 == 2)=true:=by
  intro j h1 hj;simp only[Utf8.decode,get_at s pos h,hn,if_false]at hj;revert hj
  repeat' split
  all_goals intro hj
  all_goals first
   |(simp only at hj;omega)
   |(have h3:j=1\/j=2\/j=3:=by simp only at hj;omega
     rcases h3 with rfl |rfl |rfl<;>simp_all)
 intro j hj;rcases Nat.eq_zero_or_pos j with rfl |h1
 ·exact h0
 ·exact hc j (key j h1 hj)
end Go.Proofs
