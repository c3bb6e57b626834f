/- bytealg.CompareString's contract, off the shelf. -/
import Derived.Test.YthefajbigloihaaGreatDoorSmU
import Derived.Test.YthefajbigloihaaGreatDoorSmR1Y
import Derived.Test.YthefajbigloihaaGreatDoorSmLayCmp
import Derived.Lib.Bytealg
set_option linter.unusedVariables false
set_option linter.unusedSimpArgs false
set_option linter.unusedSectionVars false
namespace Go.Proofs
open Go Eng
theorem ZCG:∀a b:List UInt8, -1≤Lib.compareBytes a b∧Lib.compareBytes a b≤1
 | [],[]=>by simp[Lib.compareBytes]
 | [],_::_=>by simp[Lib.compareBytes]
 |_::_,[]=>by simp[Lib.compareBytes]
 |x::a,y::b=>by
  unfold Lib.compareBytes;split
  ·omega
  ·split
   ·omega
   ·exact ZCG a b
theorem ZEz (a b:Str) (r:Int) (h:ZqY a b=some r):Fun X0.E 223 (([.str a,.str b]:List P).map Arg.p) ⟨[.p (.int .i64 r)],[]⟩:=by
 refine Zk7 ⟨Tryz.f223,by kernel_rfl,by decide,by kernel_rfl⟩ fun w S vals hv hrel hglob=> ?_
 obtain⟨vl⟩:=vals
 match vl,hv with
 | [v0,v1],_=>
  have h0:=hrel 0 v0 _ rfl rfl;have h1:=hrel 1 v1 _ rfl rfl;cases h0 with
  |str l hs=>
   cases h1 with
   |str l2 hs2=>
    have:=callsIn_wide (n:=0) |>.2 (Any.bytealg_CompareString Tryz.laysCmp ⟨a.toArray⟩ ⟨b.toArray⟩ w);refine CallsIn.mono this ?_;rintro e w' ⟨rfl,rfl⟩;obtain rfl:Lib.compareBytes a b=r:=Option.some.inj h;have hr:=ZCG a b;refine⟨_,rfl,⟨⟨rfl,rfl⟩,Nat.le_refl _,fun _ _=>rfl⟩,.int .i64 _ ?_ ?_⟩
    ·rw[show IntKind.i64.min= -9223372036854775808 from by decide];show _≤Lib.compareBytes a b;omega
    ·rw[show IntKind.i64.max=9223372036854775807 from by decide];show Lib.compareBytes a b≤_;omega
theorem Zyn:Zeg X0.E 223 Zvr.sig:=Zj9.ok uok fun v r h=>⟨ZEz v.1 v.2.1 r h,Zdx rfl⟩
end Go.Proofs
