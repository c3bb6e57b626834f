/- A package variable that holds a slice of one integer, out of a row's condition. -/
import Derived.Test.YtbjnddlpdlfknaaGreatDoorQ
set_option linter.unusedVariables false
set_option linter.unusedSimpArgs false
set_option linter.unusedSectionVars false
open List renaming getElem?_cons_zero→Zz9
namespace Eng
open Go Go.Lib
theorem globOk_one {Pg:Program} {w:World} {n:String} {g:Nat} {t e:TypeId} {k:IntKind} {z:Int} (hn:Pg.globalNamed n=some g) (hty:(Pg.globals[g]?).map (·.type)=some t)
  (ht:Pg.underlying t=some (.slice e)) (he:Pg.underlying e=some (.int k)) (hce:Pg.cellsOf e=1) (hz:k.min≤z∧z≤k.max)
  (h:VarReads Pg w n (.slice [.lit (.int k z)] [])):Zej w (fun b=>b < w.heap.size) g [P.sl 1 [.int k z]]:=by
 obtain⟨g',t',cs,fuel,p,hg,hty',hvar,hd⟩:=h;obtain rfl:=Option.some.inj (hn.symm.trans hg);obtain rfl:=Option.some.inj (hty.symm.trans hty');rcases DataW.trod_slice ht hd with ⟨_,hx⟩ |⟨a,len,cap,elems,rest,m,_,hcs,hx,_,hl,hcap,hlen,hel,_,_⟩
 ·cases congrArg Prod.fst hx
 ·have e0:=congrArg Prod.fst hx;simp only[DataW.slice.injEq]at e0;obtain⟨e1,_⟩:=e0
  match elems,e1 with
  | [(d,q)],e1=>
   simp only[List.map_cons,List.map_nil,List.cons.injEq,and_true]at e1;subst e1;have hlen1:len=1:=by simpa using hlen.symm
   subst hlen1;obtain⟨ci,hci,htr⟩:=Option.bind_eq_some_iff.1 (hel 0 (by decide));obtain⟨z',hc,hxx,_⟩:=DataW.trod_int he htr;have hzz:z'=z:=by have:=congrArg Prod.fst hxx;simpa using this.symm
   subst hzz;subst hc;rw[hce,Nat.zero_mul]at hci;obtain⟨_,_,hc2⟩:=World.cells?_some hci;have h0:=hc2 0 (by decide);have hb:w.cell? a=some (.int k z'):=by simpa[Addr.add]using h0
   have hspot:a.spot=none:=by
    unfold World.cell? at hb;cases hs:a.spot with
    |none=>rfl
    |some s=>rw[hs]at hb;split at hb<;>simp at hb
   have ha:a=⟨a.block,a.off,none⟩:=by cases a;simp at hspot;subst hspot;rfl
   have hlt:a.block < w.heap.size:=ZjV (by rw[ha]at hb;exact hb);have hcs1:cs.size=1:=by have:=congrArg List.length hcs;simpa using this
   refine ZvN (t:=0) (fr:= #[]) (Zwl hn hvar) _ (by rw[hcs1];rfl) fun j v p hv hp=> ?_
   have hj:j=0:=by have:=(Array.getElem?_eq_some_iff.1 hv).1;omega
   subst hj;simp only[Zz9,Option.some.injEq]at hp;subst hp;rw[←Array.getElem?_toList,hcs]at hv;simp only[Zz9,Option.some.injEq]at hv;subst hv;refine⟨.sl (some a) 1 cap _ _ (fun _=> .int k z') rfl (by decide) hl (fun i hi=>rfl) (fun i hi=> ?_) (fun i x hx=> ?_),rfl⟩
   ·have hi0:i=0:=by omega
    subst hi0;refine⟨a.block,a.off,by rw[←ha],hlt,fun j v hv=> ?_⟩;have hj:=(Array.getElem?_eq_some_iff.1 hv).1;have hj0:j=0:=by have:(Value.int k z').cells.size=1:=rfl;omega
    subst hj0;have hvv:v= .int k z':=by have:(Value.int k z').cells[0]? =some (.int k z'):=rfl;exact Option.some.inj (hv.symm.trans this)
    subst hvv;rw[ha]at hb;simpa using hb
   ·have hi0:i=0:=by have:=(List.getElem?_eq_some_iff.1 hx).1;simp at this;omega
    subst hi0;simp only[Zz9,Option.some.injEq]at hx;subst hx;exact .int k z' hz.1 hz.2
end Eng
