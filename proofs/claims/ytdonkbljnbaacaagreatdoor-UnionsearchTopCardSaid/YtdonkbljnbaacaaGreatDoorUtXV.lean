/- A contract that comes from elsewhere and hands back new memory. -/
import Derived.Test.YtdonkbljnbaacaaGreatDoorUtU
import Derived.Test.YtdonkbljnbaacaaGreatDoorUtWD
import Derived.Sort.EncStr
set_option linter.all false
namespace Go.Proofs
open Go Eng Go.RowKit
theorem ZJk {E:Env} {f:Nat} {xs:List P} {y:P} (hf:∃fn,E.prog.funcs[f]? =some fn/\(fn.name == "runtime.NumGoroutine")=false/\fn.body.isNone=false)
  (h:∀(w:World) (S:Nat->Prop) (vals:Array Value),vals.size=xs.length->(∀(k:Nat) v x,vals[k]? =some v->xs[k]? =some x->RelP w S v x)->
   (∀b,S b->b < w.heap.size)->(∀g cs,(g,cs)∈E.globs->ZeC w S g cs)->
   CallsIn (Zcz none) 0 E.prog f vals w fun e w'=>∃v,e= .returned v/\ZjF w w'/\RelP w' (fun b=>S b\/(w.heap.size<=b/\b < w'.heap.size)) v y):Fun E f (xs.map .p) ⟨[.p y],[]⟩:=by
 refine .inl ⟨hf,fun w Lt S lays ρ vals hv hrep=> ?_⟩;rw[Zl1]at hv;refine CallsIn.mono (h w S vals hv ?_ hrep.sIn hrep.glob) ?_
 ·intro k v x hk hx;have h1:=hrep.slots k;have e1:(Zeu (xs.map Arg.p)).slots k= .p x:=ZiD hx;rw[e1]at h1;have hlt:=(Array.getElem?_eq_some_iff.1 hk).1;rw[show vals.getD k undef=v by simp[hk]]at h1;exact h1.of_p
 ·rintro e w' ⟨v,rfl,hk,hr⟩;have hK:ZbM S w w':=fun b _ hb=>hk.2.2 b hb
  refine⟨#[v],fun _=>none,fun b=>S b\/(w.heap.size<=b/\b < w'.heap.size),rfl,rfl, ?_⟩;have ho:∀id,(ZbY ⟨[.p y],[]⟩).objs id=none:=fun id=>rfl
  exact {
   nt:=rfl
   grow:=hk.2.1
   frame:=fun b hb _=>hk.2.2 b hb
   s0:=fun _ h=> .inl h
   sIn:=fun b hb=>hb.elim (fun hb=>Nat.lt_of_lt_of_le (hrep.sIn b hb) hk.2.1) (fun hb=>hb.2)
   slots:=fun k=>by
    cases k with
    |zero=>exact .p _ _ hr
    |succ k=>exact .dead _
   objs:=fun id o h=>by rw[ho id]at h;cases h
   own:=fun id o L b h=>by rw[ho id]at h;cases h
   inj:=fun id o L id' o' L' b h=>by rw[ho id]at h;cases h
   known:=fun id h=>absurd (ho id) h
   young:=fun id h=>absurd rfl h
   fzk:=fun id h=>by cases h
   glob:=fun g cs hg=>(hrep.glob g cs hg).mono hK fun _ h=> .inl h
   sOut:=fun b h=>h.elim .inl (fun h=> .inr (.inl h.1))
   ep1:=by show 1<=2;omega
   quiet:=hk.1
   lay:=fun k L h1 h2=>absurd rfl h2
   fam:=Fam.none fun id o h=>by rw[ho id]at h;cases h}
theorem ZOd {w:World} {S:Nat->Prop} {a:Nat} {e:TypeId} {v:Value} {l:List (List UInt8)} (h:w.ownsRow a e 1 v l.length (l.map encStr)) (z:∀b,a<=b->b < w.heap.size->S b) (C:∀s∈l,s.length<=Zr) (t:l.length<=Z9):
  RelP w S v (.sl 1 (l.map P.str)):=by
 have n:∀(i:Nat) x,(l.map P.str)[i]? =some x->RelP w S (encStr (l[i]?.getD [])) x:=by
  intro i x f;rw[List.getElem?_map]at f;cases hq:l[i]? with
  |none=>rw[hq]at f;simp at f
  |some s=>
   rw[hq]at f;simp only[Option.map_some,Option.some.injEq]at f;subst f;exact .str s (C s (List.mem_of_getElem? hq))
 rcases h.2 with ⟨rfl,F⟩ |⟨g,r,k,rfl,E,p,o,B,D,c⟩
 ·have:l=[]:=List.eq_nil_of_length_eq_zero F;subst this;exact .sl none 0 0 1 [] (fun _=> .bool false) rfl (Nat.zero_le _) (Nat.le_refl _) (fun i d=>absurd d (Nat.not_lt_zero _)) (fun i d=>absurd d (Nat.not_lt_zero _)) (fun i e y=>by simp at y)
 ·refine .sl _ _ _ 1 _ (fun i=>encStr (l[i]?.getD [])) (by rw[List.length_map]) t o (fun i _=>rfl) ?_ n;intro i d;refine⟨g,0,rfl,z g E (Array.getElem?_eq_some_iff.1 p).1,fun j u m=> ?_⟩;have q:j=0/\u=encStr (l[i]?.getD []):=by
   match j,m with
   |0,m=>exact⟨rfl,(Option.some.inj m).symm⟩
   |j+1,m=>simp[encStr,Value.cells]at m
  obtain⟨rfl,rfl⟩:=q;have A:k[i]? =some (encStr (l[i]?.getD [])):=by
   have:(k.toList.take (l.length*1))[i]? =(l.map encStr)[i]? :=by rw[c]
   rw[List.getElem?_take_of_lt (by omega),List.getElem?_map,List.getElem?_eq_getElem d]at this;rw[List.getElem?_eq_getElem d,<-Array.getElem?_toList,this];rfl
  simp only[World.cell?,p,Nat.zero_add,Nat.mul_one,Nat.add_zero];exact A
end Go.Proofs
