/- Texts as sorted sets, and the words of a name, byte by byte: plain Lean. -/

import Derived.Lib.SlicesCompact
import Derived.Laws.RangeAny
set_option linter.unusedVariables false
set_option linter.unusedSimpArgs false
set_option linter.unusedSectionVars false
open List renaming mergeSort_perm→ZPK, pairwise_mergeSort→ZTV
namespace Go.Proofs
open Go Go.Lib
def xwC (b:UInt8):UInt8:=bif decide (65≤b.toNat)&&decide (b.toNat≤90)then b+32 else bif (decide (97≤b.toNat)&&decide (b.toNat≤122))||(decide (48≤b.toNat)&&decide (b.toNat≤57))then b else 0
def ZC7:List UInt8→List UInt8→List (List UInt8)
 | [],_=>[]
 |b::s,cur=>bif xwC b == 0 then (bif cur.isEmpty then ZC7 s []else cur::ZC7 s [])else ZC7 s (cur++[xwC b])
def ZAJ:List (List UInt8)→List (List UInt8)
 | []=>[]
 |x::r=>bif r.contains x then ZAJ r else x::ZAJ r
def ZAE (l:List (List UInt8)):List (List UInt8):=(ZAJ l).mergeSort fun x y=>decide (x≤y)
noncomputable def ZFR {α:Type} (a:α):α:=Classical.choose (⟨a,rfl⟩:∃x,x=a)
theorem ZzN {α:Type} (a:α):ZFR a=a:=Classical.choose_spec (⟨a,rfl⟩:∃x,x=a)
theorem ZDF (l:List (List UInt8)) (x:List UInt8):x∈ZAJ l↔x∈l:=by
 induction l with
 |nil=>simp[ZAJ]
 |cons y r ih=>
  unfold ZAJ;cases h:r.contains y with
  |true=>
   rw[cond_true,ih];constructor
   ·exact fun h=>List.mem_cons_of_mem _ h
   ·intro hx;rcases List.mem_cons.1 hx with rfl |hx
    ·simpa using h
    ·exact hx
  |false=>rw[cond_false];simp[ih]
theorem ZDg (l:List (List UInt8)):(ZAJ l).Nodup:=by
 induction l with
 |nil=>simp[ZAJ]
 |cons y r ih=>
  unfold ZAJ;cases h:r.contains y with
  |true=>rw[cond_true];exact ih
  |false=>
   rw[cond_false,List.nodup_cons];refine⟨fun hm=> ?_,ih⟩;rw[ZDF]at hm;have:r.contains y=true:=by simpa using hm
   rw[h]at this;cases this
theorem ZNv:∀a b c:List UInt8,decide (a≤b)=true→decide (b≤c)=true→decide (a≤c)=true:=fun a b c h1 h2=>by simp only[decide_eq_true_eq]at*;exact List.le_trans h1 h2
theorem ZNw:∀a b:List UInt8,(decide (a≤b)||decide (b≤a))=true:=fun a b=>by simp only[Bool.or_eq_true,decide_eq_true_eq];exact List.le_total a b
theorem ZBO (l:List (List UInt8)) (x:List UInt8):x∈ZAE l↔x∈l:=by unfold ZAE;rw[(ZPK _ _).mem_iff,ZDF]
theorem ZAL (l:List (List UInt8)):(ZAE l).Nodup:=(ZPK _ _).nodup_iff.2 (ZDg l)
theorem ZDE (l:List (List UInt8)):(ZAE l).Pairwise (fun a b=>a≤b):=(ZTV ZNv ZNw (ZAJ l)).imp fun h=>by simpa using h
theorem ZCW {a b:List (List UInt8)} (ha:a.Pairwise (fun a b=>a≤b)) (hb:b.Pairwise (fun a b=>a≤b)) (na:a.Nodup) (nb:b.Nodup) (h:∀x,x∈a↔x∈b):a=b:=
 List.Perm.eq_of_pairwise (le:=fun a b=>a≤b) (fun _ _ _ _ h1 h2=>List.le_antisymm h1 h2) ha hb ((List.perm_ext_iff_of_nodup na nb).2 h)
theorem ZMO {a b:List (List UInt8)} (h:∀x,x∈a↔x∈b):ZAE a=ZAE b:=
 ZCW (ZDE a) (ZDE b) (ZAL a) (ZAL b) fun x=>by rw[ZBO,ZBO,h]
theorem ZIz {l ss:List (List UInt8)} (hn:ss.Nodup) (h:∀x,x∈ss↔x∈l):(ss.mergeSort fun x y=>decide (x≤y))=ZAE l:=
 ZCW ((ZTV ZNv ZNw ss).imp fun h=>by simpa using h) (ZDE l) ((ZPK _ _).nodup_iff.2 hn) (ZAL l) fun x=>by rw[(ZPK _ _).mem_iff,ZBO,h]
theorem ZGy (d:Array (List UInt8)):∀m,m≤d.size→∀x,x∈compactUpTo d m↔∃j,j < m∧d[j]! =x
 |0,_,x=>by simp[compactUpTo]
 |m+1,hm,x=>by
  rw[compactUpTo_succ,List.mem_append,ZGy d m (by omega) x];cases hk:keeps d m with
  |true=>
   simp only[if_true,List.mem_singleton];constructor
   ·rintro(⟨j,hj,e⟩ |e)
    ·exact⟨j,by omega,e⟩
    ·exact⟨m,by omega,e.symm⟩
   ·rintro⟨j,hj,e⟩
    by_cases h:j=m
    ·subst h;exact .inr e.symm
    ·exact .inl ⟨j,by omega,e⟩
  |false=>
   have hd:m≠0∧d[m]! =d[m - 1]! :=by simpa[keeps]using hk
   simp only[Bool.false_eq_true,if_false,List.not_mem_nil,or_false];constructor
   ·rintro⟨j,hj,e⟩;exact⟨j,by omega,e⟩
   ·rintro⟨j,hj,e⟩
    by_cases h:j=m
    ·subst h;exact⟨j - 1,by omega,by rw[←hd.2];exact e⟩
    ·exact⟨j,by omega,e⟩
theorem ZF6 (d:Array (List UInt8)) (hs:∀i j,i≤j→j < d.size→d[i]! ≤d[j]!):∀m,m≤d.size→(compactUpTo d m).Pairwise (fun a b=>a≤b)∧(compactUpTo d m).Nodup
 |0,_=>by simp[compactUpTo]
 |m+1,hm=>by
  obtain⟨h1,h2⟩:=ZF6 d hs m (by omega);rw[compactUpTo_succ];cases hk:keeps d m with
  |false=>simpa using ⟨h1,h2⟩
  |true=>
   simp only[if_true];constructor
   ·refine List.pairwise_append.2 ⟨h1,by simp,fun a ha b hb=> ?_⟩;obtain⟨j,hj,rfl⟩:=(ZGy d m (by omega) a).1 ha;obtain rfl:=List.mem_singleton.1 hb;exact hs j m (by omega) (by omega)
   ·refine List.nodup_append.2 ⟨h2,by simp,fun a ha b hb e=> ?_⟩;obtain⟨j,hj,rfl⟩:=(ZGy d m (by omega) a).1 ha;obtain rfl:=List.mem_singleton.1 hb;have hd:m=0∨d[m]! ≠d[m - 1]! :=by simpa[keeps]using hk
    rcases hd with h0 |hd
    ·omega
    ·exact hd (List.le_antisymm (by rw[←e];exact hs j (m - 1) (by omega) (by omega)) (hs (m - 1) m (by omega) (by omega)))
theorem ZIo (l:List (List UInt8)):compactUpTo (l.mergeSort fun x y=>decide (x≤y)).toArray (l.mergeSort fun x y=>decide (x≤y)).toArray.size=ZAE l:=by
 have hp:=ZPK l (fun x y=>decide (x≤y));have hs:(l.mergeSort fun x y=>decide (x≤y)).Pairwise (fun a b=>a≤b):=(ZTV ZNv ZNw l).imp fun h=>by simpa using h
 generalize (l.mergeSort fun x y=>decide (x≤y))=s at hp hs;have hs':∀i j,i≤j→j < s.toArray.size→s.toArray[i]! ≤s.toArray[j]! :=by
  intro i j hij hj;have hj':j < s.length:=by simpa using hj
  rw[getElem!_pos s.toArray i (by simpa using (by omega:i < s.length)),getElem!_pos s.toArray j hj];simp only[List.getElem_toArray];rcases Nat.lt_or_ge i j with h |h
  ·exact List.pairwise_iff_getElem.1 hs i j (by omega) hj' h
  ·obtain rfl:i=j:=by omega
   exact List.le_refl _
 obtain⟨h1,h2⟩:=ZF6 s.toArray hs' s.toArray.size (Nat.le_refl _);refine ZCW h1 (ZDE l) h2 (ZAL l) fun x=> ?_
 rw[ZGy _ _ (Nat.le_refl _),ZBO,←hp.mem_iff];constructor
 ·rintro⟨j,hj,rfl⟩;rw[getElem!_pos s.toArray j hj];simp
 ·intro hx;obtain⟨j,hj,rfl⟩:=List.getElem_of_mem hx;exact⟨j,by simpa using hj,by rw[getElem!_pos s.toArray j (by simpa using hj)];simp⟩
theorem ZNF (s:ByteArray) (pos k:Nat) (h:pos+k < s.size):s.get! (pos+k)=s[pos+k]'h:=by show s.get! (pos+k)=_;simp[ByteArray.get!,getElem!_pos,h];rfl
theorem ZLL (s:ByteArray) (pos:Nat) (h:pos < s.size) (ha:128≤(s[pos]'h).toNat):∀j,j < (Utf8.decode s pos).2→∃hj:pos+j < s.size,128≤(s[pos+j]'hj).toNat:=by
 have hn:¬(s[pos]'h).toNat < 128:=by omega
 have h0:∃hj:pos+0 < s.size,128≤(s[pos+0]'hj).toNat:=⟨h,ha⟩;have hc:∀k,(decide (pos+k < s.size)&&(s.get! (pos+k)).toNat / 64 == 2)=true→∃hj:pos+k < s.size,128≤(s[pos+k]'hj).toNat:=by intro k hk;simp only[Bool.and_eq_true,decide_eq_true_eq,beq_iff_eq]at hk;obtain⟨h1,h2⟩:=hk;refine⟨h1, ?_⟩;rw[ZNF s pos k h1]at h2;omega
 have key:∀j,1≤j→j < (Utf8.decode s pos).2→(decide (pos+j < s.size)&&(s.get! (pos+j)).toNat / 64 == 2)=true:=by
  intro j h1 hj;simp only[Utf8.decode,get_at s pos h,hn,if_false]at hj;revert hj
  repeat' split
  all_goals intro hj
  all_goals first
   |(simp only at hj;omega)
   |(have h3:j=1∨j=2∨j=3:=by simp only at hj;omega
     rcases h3 with rfl |rfl |rfl<;>simp_all)
 intro j hj;rcases Nat.eq_zero_or_pos j with rfl |h1
 ·exact h0
 ·exact hc j (key j h1 hj)
end Go.Proofs
