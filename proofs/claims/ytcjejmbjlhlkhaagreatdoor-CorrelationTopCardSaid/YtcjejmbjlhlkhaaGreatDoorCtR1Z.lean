/- bytealg.CompareString's contract, off the shelf. -/
import Derived.Test.YtcjejmbjlhlkhaaGreatDoorCtU
import Derived.Test.YtcjejmbjlhlkhaaGreatDoorCtR1Y
import Derived.Test.YtcjejmbjlhlkhaaGreatDoorCtLayCmp
import Derived.Lib.Bytealg
set_option linter.all false
namespace Go.Proofs
open Go Eng
theorem ZL9:∀a b:List UInt8, -1<=Lib.compareBytes a b/\Lib.compareBytes a b<=1
 | [],[]=>by simp[Lib.compareBytes]
 | [],_::_=>by simp[Lib.compareBytes]
 |_::_,[]=>by simp[Lib.compareBytes]
 |x::a,y::b=>by
  unfold Lib.compareBytes;split
  ·omega
  ·split
   ·omega
   ·exact ZL9 a b
theorem ZPT (a b:Str) (r:Int) (h:Zrc a b=some r):Fun X0.E 90 (([.str a,.str b]:List P).map Arg.p) ⟨[.p (.int .i64 r)],[]⟩:=by
 refine Zlg ⟨Tryz.f90,by kernel_rfl,by decide,by kernel_rfl⟩ fun w S d m c f=> ?_
 obtain⟨g⟩:=d
 match g,m with
 | [v0,v1],_=>
  have k:=c 0 v0 _ rfl rfl;have j:=c 1 v1 _ rfl rfl;cases k with
  |str l p=>
   cases j with
   |str s i=>
    have:=callsIn_wide (n:=0) |>.2 (Any.bytealg_CompareString Tryz.laysCmp ⟨a.toArray⟩ ⟨b.toArray⟩ w);refine CallsIn.mono this ?_;rintro e o ⟨rfl,rfl⟩;obtain rfl:Lib.compareBytes a b=r:=Option.some.inj h;have q:=ZL9 a b;refine⟨_,rfl,⟨⟨rfl,rfl⟩,Nat.le_refl _,fun _ _=>rfl⟩,.int .i64 _ ?_ ?_⟩
    ·rw[show IntKind.i64.min= -9223372036854775808 from by decide];show _<=Lib.compareBytes a b;omega
    ·rw[show IntKind.i64.max=9223372036854775807 from by decide];show Lib.compareBytes a b<=_;omega
theorem ZEX:Zei X0.E 90 ZAu.sig:=Zkh.ok uok fun v r h=>⟨ZPT v.1 v.2.1 r h,Zdz rfl⟩
end Go.Proofs
