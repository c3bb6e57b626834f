/- A contract that comes from elsewhere and hands back new memory. -/
import Derived.Test.YteopakpakelkoaaGreatDoorUpU
import Derived.Test.YteopakpakelkoaaGreatDoorUpWD
import Derived.Sort.EncStr
set_option linter.all false
namespace Go.Proofs
open Go Eng Go.RowKit
theorem ZIy {E:Env} {f:Nat} {xs:List P} {y:P} (hf:∃fn,E.prog.funcs[f]? =some fn/\(fn.name == "runtime.NumGoroutine")=false/\fn.body.isNone=false)
  (h:∀(w:World) (S:Fz) (vals:Array Value),vals.size=xs.length->(∀(k:Nat) v x,vals[k]? =some v->xs[k]? =some x->RelP w S v x)->
   (∀b c,S b c->b < w.heap.size)->(∀g cs,(g,cs)∈E.globs->ZeC w S g cs)->
   CallsIn (Zcz none) 0 E.prog f vals w fun e w'=>∃v,e= .returned v/\ZjF w w'/\RelP w' (fun b c=>S b c\/(w.heap.size<=b/\b < w'.heap.size)) v y):Fun E f (xs.map .p) ⟨[.p y],[]⟩:=by
 refine .inl ⟨hf,fun w Lt S lays ρ vals hv hrep=> ?_⟩;rw[Zl1]at hv;refine CallsIn.mono (h w S vals hv ?_ hrep.sIn hrep.glob) ?_
 ·intro k v x hk hx;have h1:=hrep.slots k;have e1:(Zeu (xs.map Arg.p)).slots k= .p x:=ZiD hx;rw[e1]at h1;have hlt:=(Array.getElem?_eq_some_iff.1 hk).1;rw[show vals.getD k undef=v by simp[hk]]at h1;exact h1.of_p
 ·rintro e w' ⟨v,rfl,hk,hr⟩;have hK:ZbM S w w':= .of fun b _ _ hb=>hk.2.2 b hb
  refine⟨#[v],fun _=>none,fun b c=>S b c\/(w.heap.size<=b/\b < w'.heap.size),rfl,rfl, ?_⟩;have ho:∀id,(ZbY ⟨[.p y],[]⟩).objs id=none:=fun id=>rfl
  exact {
   nt:=rfl
   grow:=hk.2.1
   frame:=fun b hb _=>hk.2.2 b hb
   s0:=fun _ _ h=> .inl h
   sIn:=fun b c hb=>hb.elim (fun hb=>Nat.lt_of_lt_of_le (hrep.sIn b c hb) hk.2.1) (fun hb=>hb.2)
   slots:=fun k=>by
    cases k with
    |zero=>exact .p _ _ hr
    |succ k=>exact .dead _
   objs:=fun id o h=>by rw[ho id]at h;cases h
   own:=fun id o L b h=>by rw[ho id]at h;cases h
   inj:=fun id o L id' o' L' b h=>by rw[ho id]at h;cases h
   known:=fun id h=>absurd (ho id) h
   young:=fun id h=>absurd rfl h
   fzk:=fun id h=>by cases h
   glob:=fun g cs hg=>(hrep.glob g cs hg).mono hK fun _ _ h=> .inl h
   sOut:=fun b c h=>h.elim .inl (fun h=> .inr (.inl h.1))
   ep1:=by show 1<=2;omega
   quiet:=hk.1
   lay:=fun k L h1 h2=>absurd rfl h2
   fam:=Fam.none fun id o h=>by rw[ho id]at h;cases h}
theorem ZNe {w:World} {S:Fz} {a:Nat} {e:TypeId} {v:Value} {l:List (List UInt8)} (h:w.ownsRow a e 1 v l.length (l.map encStr)) (r:∀b c,a<=b->b < w.heap.size->S b c) (C:∀s∈l,s.length<=Zr) (y:l.length<=Z9):
  RelP w S v (.sl 1 (l.map P.str)):=by
 have m:∀(i:Nat) x,(l.map P.str)[i]? =some x->RelP w S (encStr (l[i]?.getD [])) x:=by
  intro i x f;rw[List.getElem?_map]at f;cases hq:l[i]? with
  |none=>rw[hq]at f;simp at f
  |some s=>
   rw[hq]at f;simp only[Option.map_some,Option.some.injEq]at f;subst f;exact .str s (C s (List.mem_of_getElem? hq))
 rcases h.2 with ⟨rfl,B⟩ |⟨g,D,n,rfl,t,q,p,F,G,d⟩
 ·have:l=[]:=List.eq_nil_of_length_eq_zero B;subst this;exact .sl none 0 0 1 [] (fun _=> .bool false) rfl (Nat.zero_le _) (Nat.le_refl _) (fun i k=>absurd k (Nat.not_lt_zero _)) (fun i k=>absurd k (Nat.not_lt_zero _)) (fun i e z=>by simp at z)
 ·refine .sl _ _ _ 1 _ (fun i=>encStr (l[i]?.getD [])) (by rw[List.length_map]) y p (fun i _=>rfl) ?_ m;intro i k;refine⟨g,0,rfl,fun j u o=>⟨r g _ t (Array.getElem?_eq_some_iff.1 q).1, ?_⟩⟩;have E:j=0/\u=encStr (l[i]?.getD []):=by
   match j,o with
   |0,o=>exact⟨rfl,(Option.some.inj o).symm⟩
   |j+1,o=>simp[encStr,Value.cells]at o
  obtain⟨rfl,rfl⟩:=E;have A:n[i]? =some (encStr (l[i]?.getD [])):=by
   have:(n.toList.take (l.length*1))[i]? =(l.map encStr)[i]? :=by rw[d]
   rw[List.getElem?_take_of_lt (by omega),List.getElem?_map,List.getElem?_eq_getElem k]at this;rw[List.getElem?_eq_getElem k,<-Array.getElem?_toList,this];rfl
  simp only[World.cell?,q,Nat.zero_add,Nat.mul_one,Nat.add_zero];exact A
end Go.Proofs
