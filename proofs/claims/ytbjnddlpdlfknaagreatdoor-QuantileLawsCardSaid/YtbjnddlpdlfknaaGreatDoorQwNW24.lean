/- The second implementation: reading a bit. -/
import Derived.Test.YtbjnddlpdlfknaaGreatDoorQwNW23
set_option linter.unusedVariables false
set_option linter.unusedSimpArgs false
set_option linter.unusedSectionVars false
namespace Go.Proofs
open Go Eng
theorem ZyC (i:Nat):Int.tdiv (i:Int) 32=((i / 32:Nat):Int):=by rw[Int.tdiv_eq_ediv_of_nonneg (by omega)];norm_cast
theorem ZyB (i:Nat):IntKind.wrap .u64 (Int.tmod (i:Int) 32)=((i % 32:Nat):Int):=by rw[Int.tmod_eq_emod_of_nonneg (by omega),IntKind.wrap_u64];omega
theorem ZAG {l:List Nat} {i:Nat} (hd:Dg l) (h:i / 32 < l.length) (hi:i≤1000000000):Zqg (iL l) (i:Int)=some ((val l / 2 ^ i % 2:Nat):Int):=by have h1:=hd.get h;unfold Zqg;rw[ZyC,ZyB,decide_eq_true (by decide),chk_true,ZnG (by omega),chk_true,ZrN h,Option.bind_some,chk_true,decide_eq_true (by omega),chk_true,ZvW _ (by omega),show (1:Int)=((1:Nat):Int)from rfl,ZwW (Nat.lt_of_le_of_lt (Nat.div_le_self _ _) h1) (by decide),Nat.and_one_is_mod,Zx4 hd h]
end Go.Proofs
