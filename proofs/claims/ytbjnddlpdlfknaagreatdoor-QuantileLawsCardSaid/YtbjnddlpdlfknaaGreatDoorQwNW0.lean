/- Bits of words; the steps of math/bits, in numbers. -/
import Derived.Test.YtbjnddlpdlfknaaGreatDoorQwS
import Derived.Test.YtbjnddlpdlfknaaGreatDoorQwPKb
set_option linter.unusedVariables false
set_option linter.unusedSimpArgs false
set_option linter.unusedSectionVars false
namespace Go.Proofs
open Go Eng
theorem Zur (w a:Nat) (h:a < 2 ^ w):(BitVec.ofInt w (a:Int)).toNat=a:=by rw[BitVec.toNat_ofInt];have:((a:Int) % ((2 ^ w:Nat):Int))=(a:Int):=Int.emod_eq_of_lt (by omega) (by exact_mod_cast h);rw[this];simp
theorem ZwW {a b:Nat} (ha:a < 4294967296) (hb:b < 4294967296):andK .u32 (a:Int) (b:Int)=((a&&& b:Nat):Int):=by unfold andK;rw[show IntKind.bits .u32=32 from rfl,BitVec.toNat_and,Zur 32 a ha,Zur 32 b hb,IntKind.wrap_u32];have:=Nat.and_lt_two_pow (n:=32) a hb;omega
theorem Zw3 {a b:Nat} (ha:a < 4294967296) (hb:b < 4294967296):orK .u32 (a:Int) (b:Int)=((a|||b:Nat):Int):=by unfold orK;rw[show IntKind.bits .u32=32 from rfl,BitVec.toNat_or,Zur 32 a ha,Zur 32 b hb,IntKind.wrap_u32];have:=Nat.or_lt_two_pow (n:=32) ha hb;omega
theorem Zxa {a b:Nat} (ha:a < 4294967296) (hb:b < 4294967296):xorK .u32 (a:Int) (b:Int)=((a ^^^ b:Nat):Int):=by unfold xorK;rw[show IntKind.bits .u32=32 from rfl,BitVec.toNat_xor,Zur 32 a ha,Zur 32 b hb,IntKind.wrap_u32];have:=Nat.xor_lt_two_pow (n:=32) ha hb;omega
theorem ZAa {a b:Nat} (ha:a < 18446744073709551616) (hb:b < 18446744073709551616):orK .u64 (a:Int) (b:Int)=((a|||b:Nat):Int):=by unfold orK;rw[show IntKind.bits .u64=64 from rfl,BitVec.toNat_or,Zur 64 a ha,Zur 64 b hb,IntKind.wrap_u64];have:=Nat.or_lt_two_pow (n:=64) ha hb;omega
theorem Zvq {a:Nat} (k:Nat) (hk:k≤64):shrK .u64 (a:Int) (k:Int)=((a / 2 ^ k:Nat):Int):=by
 unfold shrK;rw[show IntKind.bits .u64=64 from rfl,Int.toNat_natCast,Nat.min_eq_left hk,Int.fdiv_eq_ediv_of_nonneg _ (Int.le_of_lt (Int.pow_pos (by decide)))]
 norm_cast
theorem ZvW {a:Nat} (k:Nat) (hk:k≤32):shrK .u32 (a:Int) (k:Int)=((a / 2 ^ k:Nat):Int):=by
 unfold shrK;rw[show IntKind.bits .u32=32 from rfl,Int.toNat_natCast,Nat.min_eq_left hk,Int.fdiv_eq_ediv_of_nonneg _ (Int.le_of_lt (Int.pow_pos (by decide)))]
 norm_cast
theorem Zsh (a:Nat):IntKind.wrap .u32 (a:Int)=((a % 4294967296:Nat):Int):=by rw[IntKind.wrap_u32];omega
theorem Zn4 {a:Nat} (h:a < 18446744073709551616):IntKind.wrap .u64 (a:Int)=(a:Int):=by rw[IntKind.wrap_u64];omega
theorem ZsF {a:Nat} (h:a < 4294967296):IntKind.wrap .u32 (a:Int)=(a:Int):=by rw[IntKind.wrap_u32];omega
theorem ZAI {a b c:Nat} (ha:a < 4294967296) (hb:b < 4294967296) (hc:c≤1):Zq4 (a:Int) (b:Int) (c:Int)=some ((((a+b+c) % 4294967296:Nat):Int),(((a+b+c) / 4294967296:Nat):Int)):=by
 unfold Zq4;have e:IntKind.wrap .u64 ((IntKind.wrap .u64 ((IntKind.wrap .u64 (a:Int))+(IntKind.wrap .u64 (b:Int))))+(IntKind.wrap .u64 (c:Int)))=((a+b+c:Nat):Int):=by rw[Zn4 (by omega),Zn4 (by omega),Zn4 (by omega),←Int.natCast_add,Zn4 (by omega),←Int.natCast_add,Zn4 (by omega)]
 rw[e,show (32:Int)=((32:Nat):Int)from rfl,Zvq 32 (by omega),Zsh,ZsF (a:=(a+b+c) / 2 ^ 32) (by omega)];rfl
theorem ZzD {a:Nat} (h:a < 4294967296):(a >>> 31=0∧a < 2147483648)∨(a >>> 31=1∧2147483648≤a):=by rw[Nat.shiftRight_eq_div_pow];omega
theorem Zzf {a b c:Nat} (ha:a < 4294967296) (hb:b < 4294967296) (hc:c≤1):Zqn (a:Int) (b:Int) (c:Int)=some ((((a+4294967296 - b - c) % 4294967296:Nat):Int),((if a < b+c then 1 else 0:Nat):Int)):=by
 unfold Zqn;have hM:(if IntKind.signed .u32 then (-1:Int)else IntKind.max .u32)=((4294967295:Nat):Int):=rfl;have e:IntKind.wrap .u32 ((IntKind.wrap .u32 ((a:Int) - (b:Int))) - (c:Int))=(((a+4294967296 - b - c) % 4294967296:Nat):Int):=by rw[IntKind.wrap_u32,IntKind.wrap_u32];omega
 have hD:(a+4294967296 - b - c) % 4294967296 < 4294967296:=Nat.mod_lt _ (by decide);rw[hM,e];generalize hd:(a+4294967296 - b - c) % 4294967296=D at hD⊢
 have h1:a ^^^ b < 4294967296:=Nat.xor_lt_two_pow (n:=32) ha hb;have h2:4294967295 ^^^ a < 4294967296:=Nat.xor_lt_two_pow (n:=32) (by decide) ha;have h3:4294967295 ^^^ (a ^^^ b) < 4294967296:=Nat.xor_lt_two_pow (n:=32) (by decide) h1;have h4:(4294967295 ^^^ a)&&& b < 4294967296:=Nat.and_lt_two_pow (n:=32) _ hb;have h5:(4294967295 ^^^ (a ^^^ b))&&& D < 4294967296:=Nat.and_lt_two_pow (n:=32) _ hD;rw[Zxa (by decide) ha,Zxa ha hb,Zxa (by decide) h1,ZwW h2 hb,ZwW h3 hD,Zw3 h4 h5,show (31:Int)=((31:Nat):Int)from rfl,ZvW 31 (by omega)];rw[←Nat.shiftRight_eq_div_pow,Nat.shiftRight_or_distrib,Nat.shiftRight_and_distrib,Nat.shiftRight_and_distrib,Nat.shiftRight_xor_distrib,Nat.shiftRight_xor_distrib,Nat.shiftRight_xor_distrib];have hm:(4294967295:Nat) >>> 31=1:=by decide
 rw[hm];have key:(1 ^^^ a >>> 31)&&& b >>> 31|||(1 ^^^ (a >>> 31 ^^^ b >>> 31))&&& D >>> 31=if a < b+c then 1 else 0:=by rcases ZzD ha with ⟨qa,pa⟩ |⟨qa,pa⟩<;>rcases ZzD hb with ⟨qb,pb⟩ |⟨qb,pb⟩<;>rcases ZzD hD with ⟨qd,pd⟩ |⟨qd,pd⟩<;>rw[qa,qb,qd]<;>split<;>first |rfl |(exfalso;omega)
 rw[key];rfl
theorem Zw5 {h l:Nat} (hh:h < 4294967296) (hl:l < 4294967296):orK .u64 (shlK .u64 (IntKind.wrap .u64 (h:Int)) 32) (IntKind.wrap .u64 (l:Int))=((h*4294967296+l:Nat):Int):=by
 have e1:shlK .u64 (IntKind.wrap .u64 (h:Int)) 32=((h*4294967296:Nat):Int):=by unfold shlK;rw[Zn4 (by omega),show min (32:Int).toNat (IntKind.bits .u64)=32 from by decide,IntKind.wrap_u64];omega
 rw[e1,Zn4 (by omega),ZAa (by omega) (by omega)];have:=Nat.shiftLeft_add_eq_or_of_lt (i:=32) (b:=l) (by omega) h;simp only[Nat.shiftLeft_eq,Nat.reducePow]at this;omega
theorem ZB7 {h l y:Nat} (hy:h < y) (hl:l < 4294967296) (hy2:y < 4294967296):Zst (h:Int) (l:Int) (y:Int)=some ((((h*4294967296+l) / y:Nat):Int),(((h*4294967296+l) % y:Nat):Int)):=by
 have hle:¬((y:Int)≤(h:Int)):=by omega
 have hq:(h*4294967296+l) / y < 4294967296:=(Nat.div_lt_iff_lt_mul (by omega)).2 (by
  have:(h+1)*4294967296≤y*4294967296:=Nat.mul_le_mul_right _ hy;omega)
 have hr:(h*4294967296+l) % y < y:=Nat.mod_lt _ (by omega);have hj:ZqS (h:Int) (l:Int) (y:Int) false=some ((((h*4294967296+l) / y:Nat):Int),(((h*4294967296+l) % y:Nat):Int)):=by
  unfold ZqS;rw[cond_false,Zw5 (by omega) hl,Zn4 (by omega)];have hne:decide ((y:Int)≠0)=true:=decide_eq_true (by omega);rw[hne,chk_true,chk_true];have e1:Int.tdiv ((h*4294967296+l:Nat):Int) (y:Int)=(((h*4294967296+l) / y:Nat):Int):=by rw[Int.tdiv_eq_ediv_of_nonneg (by omega)];norm_cast
  have e2:Int.tmod ((h*4294967296+l:Nat):Int) (y:Int)=(((h*4294967296+l) % y:Nat):Int):=by rw[Int.tmod_eq_emod_of_nonneg (by omega)];norm_cast
  rw[e1,e2,Zn4 (by omega),ZsF hq,ZsF (by omega)];rfl
 unfold Zst;rw[decide_eq_false hle,hj];cases ((y:Int) != 0)<;>rfl
def ZBJ:List Int:=[0,1,2,2,3,3,3,3,4,4,4,4,4,4,4,4]++List.replicate 16 5++List.replicate 32 6++List.replicate 64 7++List.replicate 128 8
theorem Zyq:Zp6=fun x n=>(idx (ZBJ.map fun n=>UInt8.ofNat n.toNat) (IntKind.wrap .u8 x)).bind fun c=>
 chk (inK .i64 (n+(IntKind.wrap .i64 ((c.toNat:Nat):Int)))) <|
 some (n+(IntKind.wrap .i64 ((c.toNat:Nat):Int))):=by kernel_rfl
theorem Zyr:((List.range 256).all fun v=>match (ZBJ.map fun n=>UInt8.ofNat n.toNat)[v]? with |some c=>decide (v < 2 ^ c.toNat∧2 ^ c.toNat≤2*v+(if v=0 then 1 else 0)∧c.toNat≤8) |none=>false)=true:=by kernel_rfl
theorem Zyp {v:Nat} (h:v < 256):∃c:UInt8,(ZBJ.map fun n=>UInt8.ofNat n.toNat)[v]? =some c∧v < 2 ^ c.toNat∧(v≠0→2 ^ c.toNat≤2*v)∧c.toNat≤8:=by have:=List.all_eq_true.1 Zyr v (List.mem_range.2 h);split at this;rotate_left;simp at this;rename_i c hc;obtain⟨h1,h2,h3⟩:=of_decide_eq_true this;refine⟨c,hc,h1,fun h0=> ?_,h3⟩;rw[if_neg h0]at h2;omega
theorem Zys {v:Nat} (h:v < 256) (n:Nat) (hn:n≤100):∃k:Nat,Zp6 (v:Int) (n:Int)=some (((n+k:Nat):Int))∧v < 2 ^ k∧(v≠0→2 ^ k≤2*v)∧k≤8:=by
 obtain⟨c,hc,h1,h2,h3⟩:=Zyp h;refine⟨c.toNat, ?_,h1,h2,h3⟩;have e:idx (ZBJ.map fun n=>UInt8.ofNat n.toNat) (IntKind.wrap .u8 (v:Int))=some c:=by rw[IntKind.wrap_u8,show (v:Int) % 256=(v:Int) by omega];unfold idx;rw[if_pos (by omega),Int.toNat_natCast,hc]
 rw[Zyq];dsimp only;rw[e,Option.bind_some,wrap_i64 (by omega),ZnG (by omega),chk_true]
 norm_cast
theorem ZAe {x:Nat} (h0:x≠0) (h:x < 4294967296):∃s:Nat,s≤31∧Zo2 (x:Int)=some (s:Int)∧2147483648≤x*2 ^ s∧x*2 ^ s < 4294967296:=by
 have key:∃k:Nat,Zsr (x:Int)=some (k:Int)∧x < 2 ^ k∧2 ^ k≤2*x∧k≤32:=by
  unfold Zsr Zr9;have d16:shrK .u32 (x:Int) 16=((x / 65536:Nat):Int):=ZvW 16 (by omega);have fin:∀(n v:Nat),n≤24→v < 256→v≠0→x / 2 ^ n=v→∃k:Nat,Zp6 (v:Int) (n:Int)=some (k:Int)∧x < 2 ^ k∧2 ^ k≤2*x∧k≤32:=fun n v hn hv hv0 hx=>by
   obtain⟨k,q1,q2,q3,q4⟩:=Zys hv n (by omega);refine⟨n+k,q1, ?_, ?_,by omega⟩
   ·rw[Nat.pow_add,Nat.mul_comm];exact(Nat.div_lt_iff_lt_mul (Nat.two_pow_pos n)).1 (by omega)
   ·rw[Nat.pow_add];have h1:2 ^ n*v≤x:=by rw[←hx];exact Nat.mul_div_le x (2 ^ n)
    have h2:2 ^ n*2 ^ k≤2 ^ n*(2*v):=Nat.mul_le_mul_left _ (q3 hv0);have h3:2 ^ n*(2*v)=2*(2 ^ n*v):=by rw[Nat.mul_left_comm]
    omega
  by_cases c1:65536≤x
  ·rw[decide_eq_true (by omega:(x:Int)≥65536),cond_true,d16];show ∃k:Nat,(bif decide (((x / 65536:Nat):Int)≥256)then _ else _)=_∧_
   by_cases c2:256≤x / 65536
   ·rw[decide_eq_true (by omega:((x / 65536:Nat):Int)≥256),cond_true];have d8:shrK .u32 ((x / 65536:Nat):Int) 8=((x / 65536 / 256:Nat):Int):=ZvW 8 (by omega);rw[d8];exact fin 24 (x / 65536 / 256) (by omega) (by omega) (by omega) (by omega)
   ·rw[decide_eq_false (by omega:¬((x / 65536:Nat):Int)≥256),cond_false];exact fin 16 (x / 65536) (by omega) (by omega) (by omega) (by omega)
  ·rw[decide_eq_false (by omega:¬(x:Int)≥65536),cond_false]
   by_cases c2:256≤x
   ·rw[decide_eq_true (by omega:(x:Int)≥256),cond_true];have d8:shrK .u32 (x:Int) 8=((x / 256:Nat):Int):=ZvW 8 (by omega);rw[d8];exact fin 8 (x / 256) (by omega) (by omega) (by omega) (by omega)
   ·rw[decide_eq_false (by omega:¬(x:Int)≥256),cond_false];exact fin 0 x (by omega) (by omega) h0 (by omega)
 obtain⟨k,hk,h1,h2,h3⟩:=key;have hk1:1≤k:=by
  rcases Nat.eq_zero_or_pos k with rfl |hp
  ·simp at h1;omega
  ·exact hp
 refine⟨32 - k,by omega, ?_, ?_, ?_⟩
 ·unfold Zo2;rw[hk,Option.bind_some,ZnG (by omega),chk_true,show (32:Int) - (k:Int)=((32 - k:Nat):Int) by omega]
 ·have e:2 ^ k*2 ^ (32 - k)=4294967296:=by rw[←Nat.pow_add,show k+(32 - k)=32 by omega]
  have:2 ^ k*2 ^ (32 - k)≤2*x*2 ^ (32 - k):=Nat.mul_le_mul_right _ h2;rw[Nat.mul_assoc]at this;omega
 ·have e:2 ^ k*2 ^ (32 - k)=4294967296:=by rw[←Nat.pow_add,show k+(32 - k)=32 by omega]
  have:x*2 ^ (32 - k) < 2 ^ k*2 ^ (32 - k):=Nat.mul_lt_mul_of_pos_right h1 (Nat.two_pow_pos _);omega
end Go.Proofs
