/- A contract that comes from elsewhere and hands back new memory. -/
import Derived.Test.YtdmabekeafhflaaGreatDoorUrU
import Derived.Test.YtdmabekeafhflaaGreatDoorUrWD
import Derived.Sort.EncStr
set_option linter.unusedVariables false
set_option linter.unusedSimpArgs false
set_option linter.unusedSectionVars false
namespace Go.Proofs
open Go Eng Go.RowKit
theorem ZEn {E:Env} {f:Nat} {xs:List P} {y:P} (hf:∃fn,E.prog.funcs[f]? =some fn∧(fn.name == "runtime.NumGoroutine")=false∧fn.body.isNone=false)
  (h:∀(w:World) (S:Nat→Prop) (vals:Array Value),vals.size=xs.length→(∀(k:Nat) v x,vals[k]? =some v→xs[k]? =some x→RelP w S v x)→
   (∀b,S b→b < w.heap.size)→(∀g cs,(g,cs)∈E.globs→ZeC w S g cs)→
   CallsIn (Zcz none) 0 E.prog f vals w fun e w'=>∃v,e= .returned v∧ZjF w w'∧RelP w' (fun b=>S b∨(w.heap.size≤b∧b < w'.heap.size)) v y):Fun E f (xs.map .p) ⟨[.p y],[]⟩:=by
 refine .inl ⟨hf,fun w Lt S lays ρ vals hv hrep=> ?_⟩;rw[Zl1]at hv;refine CallsIn.mono (h w S vals hv ?_ hrep.sIn hrep.glob) ?_
 ·intro k v x hk hx;have h1:=hrep.slots k;have e1:(Zeu (xs.map Arg.p)).slots k= .p x:=ZiD hx;rw[e1]at h1;have hlt:=(Array.getElem?_eq_some_iff.1 hk).1;rw[show vals.getD k undef=v by simp[hk]]at h1;exact h1.of_p
 ·rintro e w' ⟨v,rfl,hk,hr⟩;have hK:ZbM S w w':=fun b _ hb=>hk.2.2 b hb
  refine⟨#[v],fun _=>none,fun b=>S b∨(w.heap.size≤b∧b < w'.heap.size),rfl,rfl, ?_⟩;have ho:∀id,(ZbY ⟨[.p y],[]⟩).objs id=none:=fun id=>rfl
  exact {
   nt:=rfl
   grow:=hk.2.1
   frame:=fun b hb _=>hk.2.2 b hb
   s0:=fun _ h=> .inl h
   sIn:=fun b hb=>hb.elim (fun hb=>Nat.lt_of_lt_of_le (hrep.sIn b hb) hk.2.1) (fun hb=>hb.2)
   slots:=fun k=>by
    cases k with
    |zero=>exact .p _ _ hr
    |succ k=>exact .dead _
   objs:=fun id o h=>by rw[ho id]at h;cases h
   own:=fun id o L b h=>by rw[ho id]at h;cases h
   inj:=fun id o L id' o' L' b h=>by rw[ho id]at h;cases h
   known:=fun id h=>absurd (ho id) h
   young:=fun id h=>absurd rfl h
   fzk:=fun id h=>by cases h
   glob:=fun g cs hg=>(hrep.glob g cs hg).mono hK fun _ h=> .inl h
   sOut:=fun b h=>h.elim .inl (fun h=> .inr (.inl h.1))
   ep1:=by show 1≤2;omega
   quiet:=hk.1
   lay:=fun k L h1 h2=>absurd rfl h2
   fam:=Fam.none fun id o h=>by rw[ho id]at h;cases h}
theorem ZId {w:World} {S:Nat→Prop} {base:Nat} {e:TypeId} {v:Value} {l:List (List UInt8)} (h:w.ownsRow base e 1 v l.length (l.map encStr)) (hS:∀b,base≤b→b < w.heap.size→S b) (hl:∀s∈l,s.length≤Zr) (hm:l.length≤Z9):
  RelP w S v (.sl 1 (l.map P.str)):=by
 have hrel:∀(i:Nat) x,(l.map P.str)[i]? =some x→RelP w S (encStr (l[i]?.getD [])) x:=by
  intro i x hx;rw[List.getElem?_map]at hx;cases hq:l[i]? with
  |none=>rw[hq]at hx;simp at hx
  |some s=>
   rw[hq]at hx;simp only[Option.map_some,Option.some.injEq]at hx;subst hx;exact .str s (hl s (List.mem_of_getElem? hq))
 rcases h.2 with ⟨rfl,h0⟩ |⟨g,cap,cur,rfl,hb,hg,hnc,hcm,hcs,htake⟩
 ·have:l=[]:=List.eq_nil_of_length_eq_zero h0;subst this;exact .sl none 0 0 1 [] (fun _=> .bool false) rfl (Nat.zero_le _) (Nat.le_refl _) (fun i hi=>absurd hi (Nat.not_lt_zero _)) (fun i hi=>absurd hi (Nat.not_lt_zero _)) (fun i e he=>by simp at he)
 ·refine .sl _ _ _ 1 _ (fun i=>encStr (l[i]?.getD [])) (by rw[List.length_map]) hm hnc (fun i _=>rfl) ?_ hrel;intro i hi;refine⟨g,0,rfl,hS g hb (Array.getElem?_eq_some_iff.1 hg).1,fun j u hu=> ?_⟩;have hj:j=0∧u=encStr (l[i]?.getD []):=by
   match j,hu with
   |0,hu=>exact⟨rfl,(Option.some.inj hu).symm⟩
   |j+1,hu=>simp[encStr,Value.cells]at hu
  obtain⟨rfl,rfl⟩:=hj;have hc:cur[i]? =some (encStr (l[i]?.getD [])):=by
   have:(cur.toList.take (l.length*1))[i]? =(l.map encStr)[i]? :=by rw[htake]
   rw[List.getElem?_take_of_lt (by omega),List.getElem?_map,List.getElem?_eq_getElem hi]at this;rw[List.getElem?_eq_getElem hi,←Array.getElem?_toList,this];rfl
  simp only[World.cell?,hg,Nat.zero_add,Nat.mul_one,Nat.add_zero];exact hc
end Go.Proofs
