/- Plain reasoning over specs: what a spec comes to. -/
import Derived.Test.YtbjnddlpdlfknaaGreatDoorE4
import Derived.Laws.BitsLemmas
import Derived.Laws.Bits64
set_option linter.unusedVariables false
set_option linter.unusedSimpArgs false
set_option linter.unusedSectionVars false
namespace Go.Proofs
open Go Eng
def wp {α:Type} (o:Option α) (Q:α→Prop):Prop:=∃x,o=some x∧Q x
section
variable {α β:Type} {Q:α→Prop}
theorem ZnC {x:α}:wp (some x) Q↔Q x:=⟨fun⟨_,h,q⟩=>by cases h;exact q,fun q=>⟨x,rfl,q⟩⟩
theorem Zza:wp (none:Option α) Q↔False:=by simp[wp]
theorem ZnD {o:Option β} {f:β→Option α}:wp (o.bind f) Q↔wp o (fun a=>wp (f a) Q):=by
 constructor
 ·rintro⟨x,h,q⟩;obtain⟨a,ha,h⟩:=bind_some h;exact⟨a,ha,x,h,q⟩
 ·rintro⟨a,rfl,x,h,q⟩;exact⟨x,h,q⟩
theorem ZnF {b:Bool} {o:Option α}:wp (chk b o) Q↔b=true∧wp o Q:=by cases b<;>simp[chk,wp]
theorem Zob {b:Bool} {x y:Option α}:wp (bif b then x else y) Q↔(b=true→wp x Q)∧(b=false→wp y Q):=by cases b<;>simp
theorem ZzW {xs:List α} {i:Nat}:wp (xs[i]?) Q↔∃h:i < xs.length,Q xs[i]:=by
 constructor
 ·rintro⟨x,h,q⟩;obtain⟨h1,h2⟩:=List.getElem?_eq_some_iff.1 h;subst h2;exact⟨h1,q⟩
 ·rintro⟨h,q⟩;exact⟨_,List.getElem?_eq_getElem h,q⟩
theorem ZzV {xs:List α} {i:Int}:wp (idx xs i) Q↔0≤i∧∃h:i.toNat < xs.length,Q xs[i.toNat]:=by
 unfold idx;split
 ·rename_i h;rw[ZzW];simp[h]
 ·rename_i h;rw[Zza];simp[h]
theorem Zn5 {R:α→Prop} {o:Option α} (h:wp o Q) (hr:∀x,Q x→R x):wp o R:=by obtain⟨x,h,q⟩:=h;exact⟨x,h,hr x q⟩
theorem ZrO {o:Option α} {x:α} (h:wp o (· =x)):o=some x:=by obtain⟨y,h,rfl⟩:=h;exact h
theorem ZxF (a:Option α):agree a a=a:=by unfold agree;rw[if_pos rfl]
end
theorem ZnG {n:Int} (h: -9223372036854775808≤n∧n≤9223372036854775807):inK .i64 n=true:=by
 have h0:IntKind.i64.min= -9223372036854775808:=by decide
 have h1:IntKind.i64.max=9223372036854775807:=by decide
 simp only[inK,h0,h1];exact decide_eq_true h
theorem ZtS {n b:Nat} (h:n*(b+1)≤140737488355328):ZiZ n b=true:=decide_eq_true (Nat.le_trans (Nat.mul_le_mul_left n (by omega)) h)
theorem wrap_i64 {n:Int} (h: -9223372036854775808≤n∧n≤9223372036854775807):IntKind.wrap .i64 n=n:=by rw[IntKind.wrap_i64];omega
theorem wrap_u8 {n:Int} (h:0≤n∧n≤255):IntKind.wrap .u8 n=n:=by rw[IntKind.wrap_u8];omega
theorem wrap_u64 {n:Int} (h:0≤n∧n≤18446744073709551615):IntKind.wrap .u64 n=n:=by rw[IntKind.wrap_u64];omega
theorem ZqJ {n m:Int} (h:0≤n∧n < m):inR n m=true:=decide_eq_true h
theorem ZvG {a b c:Int} (h:0≤a∧a≤b∧b≤c):Zb9 a b c=true:=decide_eq_true h
theorem ZwA {m:Nat} (h:m≤36893488147419103231):m < big:=by rw[big_eq];omega
theorem ZzE (k:Nat) (h:k≤36893488147419103232):∃n,big=n+k:=⟨36893488147419103232 - k,by rw[big_eq];omega⟩
end Go.Proofs
