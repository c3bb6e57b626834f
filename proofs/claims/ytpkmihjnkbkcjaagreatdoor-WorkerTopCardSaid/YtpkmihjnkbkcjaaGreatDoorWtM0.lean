/- Plain laws over the specs, part 0. -/
import Derived.Test.YtpkmihjnkbkcjaaGreatDoorE4
import Derived.Laws.BitsLemmas
import Derived.Laws.Bits64
import Derived.KernelRfl
import Derived.Test.YtpkmihjnkbkcjaaGreatDoorWtS
set_option linter.unusedVariables false
set_option linter.unusedSimpArgs false
set_option linter.unusedSectionVars false
open Int renaming toNat_natCast→ZII, natCast_add→ZIG, natAbs_natCast→ZIE, natCast_mul→ZIH, natAbs_neg→ZIF, natAbs_mul→ZFw
open List renaming replicate→ZIW, take_of_length_le→ZI0, length_take→ZIU, length_append→ZIP, length_replicate→ZIR, getElem?_eq_getElem→ZIL, set_append_right→ZIX, getD_eq_getElem?_getD→ZIK, length_cons→ZIQ, mem_cons→ZIV, getElem_cons_drop→ZIO, drop_zero→ZIJ, length_set→ZIS, length_singleton→ZIT, take_append_drop→ZIZ, set_cons_zero→ZIY, getElem_append_right→ZIN, getElem?_eq_none→ZIM
open Nat renaming mul_add→ZJj, mul_assoc→ZJk, mul_comm→ZJl, mod_lt→ZJi, pow_succ→ZJy, add_mul→ZI1, mul_zero→ZJu, mul_le_mul_right→ZJo, mul_le_mul_left→ZJn, min_eq_left→ZJf, add_zero→ZI4, pow_add→ZJw, one_mul→ZJv, two_pow_pos→ZJB, mod_eq_of_lt→ZJh, div_lt_iff_lt_mul→ZI7, lt_or_ge→ZJd, eq_zero_or_pos→ZI8, lt_of_lt_of_le→ZJc, div_eq_of_lt→ZI6, pow_le_pow_right→ZJx, le_trans→ZJa, mod_add_div→ZJg, zero_add→ZJD, sub_self→ZJA, div_add_mod→ZI5, mul_one→ZJt, lt_trichotomy→ZJe, mul_le_mul→ZJm, mul_left_comm→ZJp, le_of_lt→ZI9, add_mul_div_right→ZI2, xor_lt_two_pow→ZJC, lt_of_le_of_lt→ZJb, shiftRight_xor_distrib→ZJz, mul_lt_mul_of_pos_right→ZJr, mul_mod_mul_right→ZJs, add_mul_mod_self_right→ZI3, mul_lt_mul_of_lt_of_le→ZJq
open Option renaming bind_some→ZJE
namespace Go.Proofs
open Go Eng
def wp {α:Type} (o:Option α) (Q:α→Prop):Prop:=∃x,o=some x∧Q x
section
variable {α β:Type} {Q:α→Prop}
theorem Zok {x:α}:wp (some x) Q↔Q x:=⟨fun⟨_,h,q⟩=>by cases h;exact q,fun q=>⟨x,rfl,q⟩⟩
theorem Zol {o:Option β} {f:β→Option α}:wp (o.bind f) Q↔wp o (fun a=>wp (f a) Q):=by
 constructor
 ·rintro⟨x,h,q⟩;obtain⟨a,ha,h⟩:=bind_some h;exact⟨a,ha,x,h,q⟩
 ·rintro⟨a,rfl,x,h,q⟩;exact⟨x,h,q⟩
theorem Zom {b:Bool} {o:Option α}:wp (chk b o) Q↔b=true∧wp o Q:=by cases b<;>simp[chk,wp]
theorem ZoW {b:Bool} {x y:Option α}:wp (bif b then x else y) Q↔(b=true→wp x Q)∧(b=false→wp y Q):=by cases b<;>simp
theorem Zow {R:α→Prop} {o:Option α} (h:wp o Q) (hr:∀x,Q x→R x):wp o R:=by obtain⟨x,h,q⟩:=h;exact⟨x,h,hr x q⟩
theorem ZHP {o:Option α} {x:α} (h:o=some x) (q:Q x):wp o Q:=⟨x,h,q⟩
theorem ZuQ {o:Option α} {x:α} (h:wp o (· =x)):o=some x:=by obtain⟨y,h,rfl⟩:=h;exact h
theorem Zx6 (a:Option α):agree a a=a:=by unfold agree;rw[if_pos rfl]
end
theorem Zoo {n:Int} (h: -9223372036854775808≤n∧n≤9223372036854775807):inK .i64 n=true:=by
 have h0:IntKind.i64.min= -9223372036854775808:=by decide
 have h1:IntKind.i64.max=9223372036854775807:=by decide
 exact Zkc.2 (by rw[h0,h1];exact h)
theorem Zxb {n b:Nat} (h:n*(b+1)≤140737488355328):Zjq n b=true:=decide_eq_true (ZJa (ZJn n (by omega)) h)
theorem wrap_i64 {n:Int} (h: -9223372036854775808≤n∧n≤9223372036854775807):IntKind.wrap .i64 n=n:=by rw[IntKind.wrap_i64];omega
theorem wrap_u8 {n:Int} (h:0≤n∧n≤255):IntKind.wrap .u8 n=n:=by rw[IntKind.wrap_u8];omega
theorem wrap_u64 {n:Int} (h:0≤n∧n≤18446744073709551615):IntKind.wrap .u64 n=n:=by rw[IntKind.wrap_u64];omega
theorem ZyQ (n:Int) {m:Int} (h0:0≤n) (hm:0 < m):0≤Int.tmod n m∧Int.tmod n m < m:=⟨Int.tmod_nonneg _ h0,Int.tmod_lt_of_pos _ hm⟩
theorem ZpA {n m:Int} (h:0≤n∧n < m):inR n m=true:=decide_eq_true h
theorem ZyC {a b c:Int} (h:0≤a∧a≤b∧b≤c):Zci a b c=true:=decide_eq_true h
theorem ZAE {m:Nat} (h:m≤36893488147419103231):m < big:=by rw[big_eq];omega
theorem ZA5 (k:Nat) (h:k≤36893488147419103232):∃n,big=n+k:=⟨36893488147419103232 - k,by rw[big_eq];omega⟩
end Go.Proofs
namespace Go.Proofs
open Go Eng
theorem Zz6 {α σ τ X:Type} {f:Nat→σ→Option X} {body:(σ→Option X)→σ→Option X} (hf:∀n s,f (n+1) s=body (f n) s)
  (xs:List α) (hlen:xs.length≤1000000000000000) (st:Int→τ→σ) (P:Nat→τ→Prop) {Q:X→Prop} (t0:τ) (h0:P 0 t0)
  (step:∀(rec:σ→Option X) (k:Nat) t (h:k < xs.length),P k t→(∀t',P (k+1) t'→wp (rec (st ((k:Int)+1) t')) Q)→wp (body rec (st (k:Int) t)) Q)
  (fin:∀(rec:σ→Option X) t,P xs.length t→wp (body rec (st (xs.length:Int) t)) Q):wp (f big (st 0 t0)) Q:=by
 have key:∀(n k:Nat) t,k≤xs.length→P k t→xs.length - k < n→wp (f n (st (k:Int) t)) Q:=by
  intro n
  induction n with
  |zero=>intro k t _ _ h;omega
  |succ n ih=>
   intro k t hk hP hm;rw[hf]
   by_cases hlt:k < xs.length
   ·refine step _ k t hlt hP fun t' h'=> ?_
    exact ih (k+1) t' (by omega) h' (by omega)
   ·have:k=xs.length:=by omega
    subst this;exact fin _ t hP
 exact key big 0 t0 (Nat.zero_le _) h0 (by rw[big_eq];omega)
theorem Zve {σ τ X:Type} {f:Nat→σ→Option X} {body:(σ→Option X)→σ→Option X} (hf:∀n s,f (n+1) s=body (f n) s)
  (m:Nat) (hlen:m≤1000000000000000) (st:Int→τ→σ) (P:Nat→τ→Prop) {Q:X→Prop} (t0:τ) (h0:P 0 t0)
  (step:∀(rec:σ→Option X) (k:Nat) t (h:k < m),P k t→(∀t',P (k+1) t'→wp (rec (st ((k:Int)+1) t')) Q)→wp (body rec (st (k:Int) t)) Q)
  (fin:∀(rec:σ→Option X) t,P m t→wp (body rec (st (m:Int) t)) Q):wp (f big (st 0 t0)) Q:=by
 have e:(ZIW m ()).length=m:=ZIR;refine Zz6 hf (ZIW m ()) (by omega) st P t0 h0 (fun rec k s h=>step rec k s (by omega)) (fun rec s h=> ?_);rw[e]at h⊢
 exact fin rec s h
theorem Zrk {σ τ X:Type} {f:Nat→σ→Option X} {body:(σ→Option X)→σ→Option X} (hf:∀n s,f (n+1) s=body (f n) s)
  (st:τ→σ) (P:τ→Prop) (m:τ→Nat) {Q:X→Prop} (t0:τ) (h0:P t0) (hm:m t0≤1000000000000000)
  (step:∀(rec:σ→Option X) t,P t→(∀t',P t'→m t' < m t→wp (rec (st t')) Q)→wp (body rec (st t)) Q):wp (f big (st t0)) Q:=by
 have key:∀(n:Nat) t,P t→m t < n→wp (f n (st t)) Q:=by
  intro n
  induction n with
  |zero=>intro t _ h;omega
  |succ n ih=>
   intro t hP hm;rw[hf];exact step _ t hP fun t' h' hlt=>ih t' h' (by omega)
 exact key big t0 h0 (by rw[big_eq];omega)
theorem Zie {α:Type} {xs:List α} {i:Int} (h0:0≤i) (h:i.toNat < xs.length):idx xs i=some xs[i.toNat]:=by unfold idx;rw[if_pos h0,ZIL h]
theorem ZyY {α:Type} {xs:List α} {k:Nat} (h:k < xs.length):idx xs (k:Int)=some xs[k]:=by rw[Zie (by omega) (by simpa using h)];simp
theorem ZoU {α:Type} {xs:List α} {k:Nat} (h:k < xs.length):inR (k:Int) (xs.length:Int)=true:=ZpA ⟨by omega,by omega⟩
end Go.Proofs
namespace Go.Proofs
open Go Eng
theorem ZFD (n:Int) {m:Int} (h:1≤m∧m≤1000000):wp (Zvf n m) (fun r=>0≤r∧r < m):=by have ha: -m < Int.tmod n m∧Int.tmod n m < m:=⟨Int.lt_tmod_of_pos n (by omega),Int.tmod_lt_of_pos n (by omega)⟩;unfold Zvf;have h3:decide (m < 1)=false:=decide_eq_false (by omega);have h4:decide (m≠0)=true:=decide_eq_true (by omega);rw[h3,cond_false,Zom,Zom,Zom,Zok];exact⟨h4,Zoo (by omega),h4,Int.tmod_nonneg _ (by omega),Int.tmod_lt_of_pos _ (by omega)⟩
end Go.Proofs
namespace Go.Proofs
open Go Eng
theorem ZxN (w a:Nat) (h:a < 2 ^ w):(BitVec.ofInt w (a:Int)).toNat=a:=by rw[BitVec.toNat_ofInt];have:((a:Int) % ((2 ^ w:Nat):Int))=(a:Int):=Int.emod_eq_of_lt (by omega) (by exact_mod_cast h);rw[this];simp
theorem ZBD {a b:Nat} (ha:a < 4294967296) (hb:b < 4294967296):andK .u32 (a:Int) (b:Int)=((a&&& b:Nat):Int):=by unfold andK;rw[show IntKind.bits .u32=32 from rfl,BitVec.toNat_and,ZxN 32 a ha,ZxN 32 b hb,IntKind.wrap_u32];have:=Nat.and_lt_two_pow (n:=32) a hb;omega
theorem ZBN {a b:Nat} (ha:a < 4294967296) (hb:b < 4294967296):orK .u32 (a:Int) (b:Int)=((a|||b:Nat):Int):=by unfold orK;rw[show IntKind.bits .u32=32 from rfl,BitVec.toNat_or,ZxN 32 a ha,ZxN 32 b hb,IntKind.wrap_u32];have:=Nat.or_lt_two_pow (n:=32) ha hb;omega
theorem ZBs {a b:Nat} (ha:a < 4294967296) (hb:b < 4294967296):xorK .u32 (a:Int) (b:Int)=((a ^^^ b:Nat):Int):=by unfold xorK;rw[show IntKind.bits .u32=32 from rfl,BitVec.toNat_xor,ZxN 32 a ha,ZxN 32 b hb,IntKind.wrap_u32];have:=ZJC (n:=32) ha hb;omega
theorem ZFA {a b:Nat} (ha:a < 18446744073709551616) (hb:b < 18446744073709551616):orK .u64 (a:Int) (b:Int)=((a|||b:Nat):Int):=by unfold orK;rw[show IntKind.bits .u64=64 from rfl,BitVec.toNat_or,ZxN 64 a ha,ZxN 64 b hb,IntKind.wrap_u64];have:=Nat.or_lt_two_pow (n:=64) ha hb;omega
theorem ZzF {a:Nat} (k:Nat) (hk:k≤64):shrK .u64 (a:Int) (k:Int)=((a / 2 ^ k:Nat):Int):=by
 unfold shrK;rw[show IntKind.bits .u64=64 from rfl,ZII,ZJf hk,Int.fdiv_eq_ediv_of_nonneg _ (Int.le_of_lt (Int.pow_pos (by decide)))]
 norm_cast
theorem ZzV {a:Nat} (k:Nat) (hk:k≤32):shrK .u32 (a:Int) (k:Int)=((a / 2 ^ k:Nat):Int):=by
 unfold shrK;rw[show IntKind.bits .u32=32 from rfl,ZII,ZJf hk,Int.fdiv_eq_ediv_of_nonneg _ (Int.le_of_lt (Int.pow_pos (by decide)))]
 norm_cast
theorem Zwx (a:Nat):IntKind.wrap .u32 (a:Int)=((a % 4294967296:Nat):Int):=by rw[IntKind.wrap_u32];omega
theorem Zph {a:Nat} (h:a < 18446744073709551616):IntKind.wrap .u64 (a:Int)=(a:Int):=by rw[IntKind.wrap_u64];omega
theorem ZwU {a:Nat} (h:a < 4294967296):IntKind.wrap .u32 (a:Int)=(a:Int):=by rw[IntKind.wrap_u32];omega
theorem ZGj {a b c:Nat} (ha:a < 4294967296) (hb:b < 4294967296) (hc:c≤1):Zvq (a:Int) (b:Int) (c:Int)=some ((((a+b+c) % 4294967296:Nat):Int),(((a+b+c) / 4294967296:Nat):Int)):=by
 unfold Zvq;have e:IntKind.wrap .u64 ((IntKind.wrap .u64 ((IntKind.wrap .u64 (a:Int))+(IntKind.wrap .u64 (b:Int))))+(IntKind.wrap .u64 (c:Int)))=((a+b+c:Nat):Int):=by rw[Zph (by omega),Zph (by omega),Zph (by omega),←ZIG,Zph (by omega),←ZIG,Zph (by omega)]
 rw[e,show (32:Int)=((32:Nat):Int)from rfl,ZzF 32 (by omega),Zwx,ZwU (a:=(a+b+c) / 2 ^ 32) (by omega)];rfl
theorem ZEr {a:Nat} (h:a < 4294967296):(a >>> 31=0∧a < 2147483648)∨(a >>> 31=1∧2147483648≤a):=by rw[Nat.shiftRight_eq_div_pow];omega
theorem ZDY {a b c:Nat} (ha:a < 4294967296) (hb:b < 4294967296) (hc:c≤1):Zt3 (a:Int) (b:Int) (c:Int)=some ((((a+4294967296 - b - c) % 4294967296:Nat):Int),((if a < b+c then 1 else 0:Nat):Int)):=by
 unfold Zt3;have hM:(if IntKind.signed .u32 then (-1:Int)else IntKind.max .u32)=((4294967295:Nat):Int):=rfl;have e:IntKind.wrap .u32 ((IntKind.wrap .u32 ((a:Int) - (b:Int))) - (c:Int))=(((a+4294967296 - b - c) % 4294967296:Nat):Int):=by rw[IntKind.wrap_u32,IntKind.wrap_u32];omega
 have hD:(a+4294967296 - b - c) % 4294967296 < 4294967296:=ZJi _ (by decide);rw[hM,e];generalize hd:(a+4294967296 - b - c) % 4294967296=D at hD⊢
 have h1:a ^^^ b < 4294967296:=ZJC (n:=32) ha hb;have h2:4294967295 ^^^ a < 4294967296:=ZJC (n:=32) (by decide) ha;have h3:4294967295 ^^^ (a ^^^ b) < 4294967296:=ZJC (n:=32) (by decide) h1;have h4:(4294967295 ^^^ a)&&& b < 4294967296:=Nat.and_lt_two_pow (n:=32) _ hb;have h5:(4294967295 ^^^ (a ^^^ b))&&& D < 4294967296:=Nat.and_lt_two_pow (n:=32) _ hD;rw[ZBs (by decide) ha,ZBs ha hb,ZBs (by decide) h1,ZBD h2 hb,ZBD h3 hD,ZBN h4 h5,show (31:Int)=((31:Nat):Int)from rfl,ZzV 31 (by omega)];rw[←Nat.shiftRight_eq_div_pow,Nat.shiftRight_or_distrib,Nat.shiftRight_and_distrib,Nat.shiftRight_and_distrib,ZJz,ZJz,ZJz];have hm:(4294967295:Nat) >>> 31=1:=by decide
 rw[hm];have key:(1 ^^^ a >>> 31)&&& b >>> 31|||(1 ^^^ (a >>> 31 ^^^ b >>> 31))&&& D >>> 31=if a < b+c then 1 else 0:=by rcases ZEr ha with ⟨qa,pa⟩ |⟨qa,pa⟩<;>rcases ZEr hb with ⟨qb,pb⟩ |⟨qb,pb⟩<;>rcases ZEr hD with ⟨qd,pd⟩ |⟨qd,pd⟩<;>rw[qa,qb,qd]<;>split<;>first |rfl |(exfalso;omega)
 rw[key];rfl
theorem ZBi {h l:Nat} (hh:h < 4294967296) (hl:l < 4294967296):orK .u64 (shlK .u64 (IntKind.wrap .u64 (h:Int)) 32) (IntKind.wrap .u64 (l:Int))=((h*4294967296+l:Nat):Int):=by
 have e1:shlK .u64 (IntKind.wrap .u64 (h:Int)) 32=((h*4294967296:Nat):Int):=by unfold shlK;rw[Zph (by omega),show min (32:Int).toNat (IntKind.bits .u64)=32 from by decide,IntKind.wrap_u64];omega
 rw[e1,Zph (by omega),ZFA (by omega) (by omega)];have:=Nat.shiftLeft_add_eq_or_of_lt (i:=32) (b:=l) (by omega) h;simp only[Nat.shiftLeft_eq,Nat.reducePow]at this;omega
theorem ZIf {h l y:Nat} (hy:h < y) (hl:l < 4294967296) (hy2:y < 4294967296):ZwH (h:Int) (l:Int) (y:Int)=some ((((h*4294967296+l) / y:Nat):Int),(((h*4294967296+l) % y:Nat):Int)):=by
 have hle:¬((y:Int)≤(h:Int)):=by omega
 have hq:(h*4294967296+l) / y < 4294967296:=(ZI7 (by omega)).2 (by
  have:(h+1)*4294967296≤y*4294967296:=ZJo _ hy;omega)
 have hr:(h*4294967296+l) % y < y:=ZJi _ (by omega);have hj:ZtO (h:Int) (l:Int) (y:Int) false=some ((((h*4294967296+l) / y:Nat):Int),(((h*4294967296+l) % y:Nat):Int)):=by
  unfold ZtO;rw[cond_false,ZBi (by omega) hl,Zph (by omega)];have hne:decide ((y:Int)≠0)=true:=decide_eq_true (by omega);rw[hne,chk_true,chk_true];have e1:Int.tdiv ((h*4294967296+l:Nat):Int) (y:Int)=(((h*4294967296+l) / y:Nat):Int):=by rw[Int.tdiv_eq_ediv_of_nonneg (by omega)];norm_cast
  have e2:Int.tmod ((h*4294967296+l:Nat):Int) (y:Int)=(((h*4294967296+l) % y:Nat):Int):=by rw[Int.tmod_eq_emod_of_nonneg (by omega)];norm_cast
  rw[e1,e2,Zph (by omega),ZwU hq,ZwU (by omega)];rfl
 unfold ZwH;rw[decide_eq_false hle,hj];cases ((y:Int) != 0)<;>rfl
def ZHK:List Int:=[0,1,2,2,3,3,3,3,4,4,4,4,4,4,4,4]++ZIW 16 5++ZIW 32 6++ZIW 64 7++ZIW 128 8
theorem ZC8:ZsD=fun x n=>(idx (ZHK.map fun n=>UInt8.ofNat n.toNat) (IntKind.wrap .u8 x)).bind fun c=>
 chk (inK .i64 (n+(IntKind.wrap .i64 ((c.toNat:Nat):Int)))) <|
 some (n+(IntKind.wrap .i64 ((c.toNat:Nat):Int))):=by kernel_rfl
theorem ZC9:((List.range 256).all fun v=>match (ZHK.map fun n=>UInt8.ofNat n.toNat)[v]? with |some c=>decide (v < 2 ^ c.toNat∧2 ^ c.toNat≤2*v+(if v=0 then 1 else 0)∧c.toNat≤8) |none=>false)=true:=by kernel_rfl
theorem ZC7 {v:Nat} (h:v < 256):∃c:UInt8,(ZHK.map fun n=>UInt8.ofNat n.toNat)[v]? =some c∧v < 2 ^ c.toNat∧(v≠0→2 ^ c.toNat≤2*v)∧c.toNat≤8:=by have:=List.all_eq_true.1 ZC9 v (List.mem_range.2 h);split at this;rotate_left;simp at this;rename_i c hc;obtain⟨h1,h2,h3⟩:=of_decide_eq_true this;refine⟨c,hc,h1,fun h0=> ?_,h3⟩;rw[if_neg h0]at h2;omega
theorem ZDa {v:Nat} (h:v < 256) (n:Nat) (hn:n≤100):∃k:Nat,ZsD (v:Int) (n:Int)=some (((n+k:Nat):Int))∧v < 2 ^ k∧(v≠0→2 ^ k≤2*v)∧k≤8:=by
 obtain⟨c,hc,h1,h2,h3⟩:=ZC7 h;refine⟨c.toNat, ?_,h1,h2,h3⟩;have e:idx (ZHK.map fun n=>UInt8.ofNat n.toNat) (IntKind.wrap .u8 (v:Int))=some c:=by rw[IntKind.wrap_u8,show (v:Int) % 256=(v:Int) by omega];unfold idx;rw[if_pos (by omega),ZII,hc]
 rw[ZC8];dsimp only;rw[e,ZJE,wrap_i64 (by omega),Zoo (by omega),chk_true]
 norm_cast
theorem ZFG {x:Nat} (h0:x≠0) (h:x < 4294967296):∃s:Nat,s≤31∧ZsM (x:Int)=some (s:Int)∧2147483648≤x*2 ^ s∧x*2 ^ s < 4294967296:=by
 have key:∃k:Nat,ZwG (x:Int)=some (k:Int)∧x < 2 ^ k∧2 ^ k≤2*x∧k≤32:=by
  unfold ZwG Zvg;have d16:shrK .u32 (x:Int) 16=((x / 65536:Nat):Int):=ZzV 16 (by omega);have fin:∀(n v:Nat),n≤24→v < 256→v≠0→x / 2 ^ n=v→∃k:Nat,ZsD (v:Int) (n:Int)=some (k:Int)∧x < 2 ^ k∧2 ^ k≤2*x∧k≤32:=fun n v hn hv hv0 hx=>by
   obtain⟨k,q1,q2,q3,q4⟩:=ZDa hv n (by omega);refine⟨n+k,q1, ?_, ?_,by omega⟩
   ·rw[ZJw,ZJl];exact(ZI7 (ZJB n)).1 (by omega)
   ·rw[ZJw];have h1:2 ^ n*v≤x:=by rw[←hx];exact Nat.mul_div_le x (2 ^ n)
    have h2:2 ^ n*2 ^ k≤2 ^ n*(2*v):=ZJn _ (q3 hv0);have h3:2 ^ n*(2*v)=2*(2 ^ n*v):=by rw[ZJp]
    omega
  by_cases c1:65536≤x
  ·rw[decide_eq_true (by omega:(x:Int)≥65536),cond_true,d16];show ∃k:Nat,(bif decide (((x / 65536:Nat):Int)≥256)then _ else _)=_∧_
   by_cases c2:256≤x / 65536
   ·rw[decide_eq_true (by omega:((x / 65536:Nat):Int)≥256),cond_true];have d8:shrK .u32 ((x / 65536:Nat):Int) 8=((x / 65536 / 256:Nat):Int):=ZzV 8 (by omega);rw[d8];exact fin 24 (x / 65536 / 256) (by omega) (by omega) (by omega) (by omega)
   ·rw[decide_eq_false (by omega:¬((x / 65536:Nat):Int)≥256),cond_false];exact fin 16 (x / 65536) (by omega) (by omega) (by omega) (by omega)
  ·rw[decide_eq_false (by omega:¬(x:Int)≥65536),cond_false]
   by_cases c2:256≤x
   ·rw[decide_eq_true (by omega:(x:Int)≥256),cond_true];have d8:shrK .u32 (x:Int) 8=((x / 256:Nat):Int):=ZzV 8 (by omega);rw[d8];exact fin 8 (x / 256) (by omega) (by omega) (by omega) (by omega)
   ·rw[decide_eq_false (by omega:¬(x:Int)≥256),cond_false];exact fin 0 x (by omega) (by omega) h0 (by omega)
 obtain⟨k,hk,h1,h2,h3⟩:=key;have hk1:1≤k:=by
  rcases ZI8 k with rfl |hp
  ·simp at h1;omega
  ·exact hp
 refine⟨32 - k,by omega, ?_, ?_, ?_⟩
 ·unfold ZsM;rw[hk,ZJE,Zoo (by omega),chk_true,show (32:Int) - (k:Int)=((32 - k:Nat):Int) by omega]
 ·have e:2 ^ k*2 ^ (32 - k)=4294967296:=by rw[←ZJw,show k+(32 - k)=32 by omega]
  have:2 ^ k*2 ^ (32 - k)≤2*x*2 ^ (32 - k):=ZJo _ h2;rw[ZJk]at this;omega
 ·have e:2 ^ k*2 ^ (32 - k)=4294967296:=by rw[←ZJw,show k+(32 - k)=32 by omega]
  have:x*2 ^ (32 - k) < 2 ^ k*2 ^ (32 - k):=ZJr h1 (ZJB _);omega
end Go.Proofs
namespace Go.Proofs
open Go Eng
def iL (l:List Nat):List Int:=l.map fun(n:Nat)=>(n:Int)
theorem ZoM (l:List Nat):(iL l).length=l.length:=by unfold iL;simp
theorem ZAz (a b:List Nat):iL (a++b)=iL a++iL b:=by unfold iL;simp
theorem ZFQ:iL []=[]:=rfl
theorem ZzB {l:List Nat} {i:Nat} (h:i < l.length):(iL l)[i]? =some (l[i]:Int):=by unfold iL;simp[h]
theorem Zvd {l:List Nat} {i:Nat} (h:i < l.length):idx (iL l) (i:Int)=some (l[i]:Int):=by unfold idx;rw[if_pos (by omega),ZII,ZzB h]
theorem ZyI (l:List Nat) (i x:Nat):(iL l).set i (x:Int)=iL (l.set i x):=by unfold iL;rw[List.map_set]
theorem ZBB (l:List Nat) (i:Nat):(iL l).take i=iL (l.take i):=by unfold iL;rw[List.map_take]
theorem ZAV (n:Nat):ZIW n (0:Int)=iL (ZIW n 0):=by unfold iL;rw[List.map_replicate];rfl
abbrev Bw:Nat:=4294967296
def val:List Nat→Nat
 | []=>0
 |d::r=>d+Bw*val r
def Dg (l:List Nat):Prop:=∀d∈l,d < Bw
theorem Dg.app {a b:List Nat} (ha:Dg a) (hb:Dg b):Dg (a++b):=fun d hd=>(List.mem_append.1 hd).elim (ha d) (hb d)
theorem Zzq:Dg []:=fun _ h=>by simp at h
theorem ZyJ {x:Nat} (h:x < Bw):Dg [x]:=fun d hd=>by simp only[List.mem_singleton]at hd;subst hd;exact h
theorem ZDH (n:Nat):Dg (ZIW n 0):=fun d hd=>by rw[List.mem_replicate]at hd;rw[hd.2];decide
theorem Dg.take {a:List Nat} (h:Dg a) (k:Nat):Dg (a.take k):=fun d hd=>h d (List.mem_of_mem_take hd)
theorem Dg.drop {a:List Nat} (h:Dg a) (k:Nat):Dg (a.drop k):=fun d hd=>h d (List.mem_of_mem_drop hd)
theorem Dg.set {a:List Nat} (h:Dg a) (i:Nat) {x:Nat} (hx:x < Bw):Dg (a.set i x):=fun d hd=>by
 rcases List.mem_or_eq_of_mem_set hd with h1 |h1
 ·exact h d h1
 ·rw[h1];exact hx
theorem Dg.get {a:List Nat} (h:Dg a) {i:Nat} (hi:i < a.length):a[i] < Bw:=h _ (List.getElem_mem hi)
theorem Zyt:∀a b:List Nat,val (a++b)=val a+Bw ^ a.length*val b
 | [],b=>by simp[val]
 |d::a,b=>by simp only[List.cons_append,val,Zyt a b,ZIQ,ZJy,ZJj];rw[ZJl (Bw ^ a.length) Bw,ZJk];omega
theorem Zv0 (a:List Nat) (x:Nat):val (a++[x])=val a+Bw ^ a.length*x:=by rw[Zyt];simp[val]
theorem ZwW:∀{l:List Nat},Dg l→val l < Bw ^ l.length
 | [],_=>by simp[val]
 |d::r,h=>by
  have h1:=h d (by simp);have h2:=ZwW (l:=r) fun x hx=>h x (by simp[hx])
  simp only[val,ZIQ,ZJy];have:Bw*(val r+1)≤Bw*Bw ^ r.length:=ZJn _ h2;rw[ZJl (Bw ^ r.length) Bw];rw[ZJj,ZJt]at this;exact ZJc (by omega) this
theorem ZCh (n:Nat):val (ZIW n 0)=0:=by
 induction n with
 |zero=>rfl
 |succ n ih=>rw[List.replicate_succ,val,ih,ZJu]
theorem Zpb {l:List Nat} {k:Nat} (h:k < l.length):val (l.take (k+1))=val (l.take k)+Bw ^ k*l[k]:=by rw[List.take_succ_eq_append_getElem h,Zv0,ZIU,ZJf (by omega)]
def wd (n:Nat):List Nat:=if h:n=0 then []else n % Bw::wd (n / Bw)
termination_by n
decreasing_by exact Nat.div_lt_self (Nat.pos_of_ne_zero h) (by decide)
theorem ZvC:wd 0=[]:=by unfold wd;simp
theorem Zzy {n:Nat} (h:n≠0):wd n=n % Bw::wd (n / Bw):=by rw[wd,dif_neg h]
theorem Zv6 (n:Nat):Dg (wd n):=by
 induction n using Nat.strongRecOn with
 |ind n ih=>
  by_cases h:n=0
  ·rw[h,ZvC];exact Zzq
  ·rw[Zzy h];intro d hd;rcases ZIV.1 hd with rfl |hd
   ·exact ZJi _ (by decide)
   ·exact ih (n / Bw) (Nat.div_lt_self (Nat.pos_of_ne_zero h) (by decide)) d hd
theorem Zti (n:Nat):val (wd n)=n:=by
 induction n using Nat.strongRecOn with
 |ind n ih=>
  by_cases h:n=0
  ·rw[h,ZvC];rfl
  ·rw[Zzy h,val,ih (n / Bw) (Nat.div_lt_self (Nat.pos_of_ne_zero h) (by decide))];exact ZJg n Bw
theorem Zx7 {n k:Nat} (h:n < Bw ^ k):(wd n).length≤k:=by
 induction k generalizing n with
 |zero=>
  have:n=0:=by simpa using h
  rw[this,ZvC];simp
 |succ k ih=>
  by_cases h0:n=0
  ·rw[h0,ZvC];simp
  ·rw[Zzy h0,ZIQ];have:n / Bw < Bw ^ k:=(ZI7 (by decide)).2 (by rw[←ZJy];exact h);have:=ih this;omega
theorem Zto {n:Nat} (h:n≠0):0 < (wd n).length:=by rw[Zzy h];simp
theorem ZFg {n:Nat}:wd n=[]↔n=0:=⟨fun h=>by have:=Zti n;rw[h]at this;exact this.symm,fun h=>by rw[h,ZvC]⟩
theorem ZwV (n:Nat):n < Bw ^ (wd n).length:=by have:=ZwW (Zv6 n);rwa [Zti]at this
def ZBb (l:List Nat):List Nat:=(l.reverse.dropWhile (· == 0)).reverse
theorem ZAP (l:List Nat) (x:Nat):ZBb (l++[x])=if x=0 then ZBb l else l++[x]:=by
 unfold ZBb;rw[List.reverse_append,List.reverse_singleton,List.singleton_append,List.dropWhile_cons]
 by_cases h:x=0
 ·simp[h]
 ·simp[h]
theorem ZBG:∀{l:List Nat} {x:Nat},Dg (l++[x])→x≠0→wd (val (l++[x]))=l++[x]
 | [],x,h,hx=>by have h1:x < Bw:=h x (by simp);simp only[List.nil_append,val,ZJu,ZI4];rw[Zzy hx,ZJh h1,ZI6 h1,ZvC]
 |d::l,x,h,hx=>by
  have h1:d < Bw:=h d (by simp);have ih:=ZBG (l:=l) (x:=x) (fun y hy=>h y (by simp only[List.cons_append,ZIV];exact .inr hy)) hx;have hne:val (l++[x])≠0:=fun e=>by rw[e,ZvC]at ih;simp at ih
  simp only[List.cons_append,val];rw[Zzy (by simp only[Bw];omega),Nat.add_mul_mod_self_left,ZJh h1,Nat.add_mul_div_left _ _ (by decide),ZI6 h1,ZJD,ih]
theorem ZBJ:∀(n:Nat) {l:List Nat},l.length=n→Dg l→ZBb l=wd (val l)
 |0,l,hl,_=>by rw[List.eq_nil_of_length_eq_zero hl];simp[ZBb,val,ZvC]
 |n+1,l,hl,h=>by
  rcases List.eq_nil_or_concat l with rfl |⟨v,x,rfl⟩
  ·simp at hl
  ·rw[List.concat_eq_append]at hl h⊢
   rw[ZAP];split
   ·rename_i h0;subst h0;rw[ZBJ n (by simpa using hl) (fun d hd=>h d (by simp[hd])),Zv0,ZJu,ZI4]
   ·rename_i h0;exact(ZBG h h0).symm
theorem Zze {l:List Nat} (h:Dg l) (hl:l.length≤1000000):Zpv (iL l)=some (iL (wd (val l))):=by
 rw[←ZBJ _ rfl h];refine ZuQ ?_;unfold Zpv Zwp;rw[Zol];refine Zow (Zrk ZyH (fun(w:List Nat)=>iL w) (fun w=>ZBb w=ZBb l∧w.length≤1000000) List.length (Q:=fun x=>x=iL (ZBb l)) l ⟨rfl,hl⟩ (by omega) ?_) (fun x hx=>by rw[Zok];exact hx);rintro rec w ⟨hw,hwl⟩ ih;unfold Zxm ZtX ZuN;rcases List.eq_nil_or_concat w with rfl |⟨v,x,rfl⟩
 ·show wp (some (iL [])) _;rw[Zok,←hw];rfl
 ·rw[List.concat_eq_append]at hw hwl⊢
  rw[ZAP]at hw;have hlen:(iL (v++[x])).length=v.length+1:=by rw[ZoM];simp
  rw[ZoW];refine⟨fun _=> ?_,fun h=>by simp only[decide_eq_false_iff_not]at h;omega⟩;have ei:((iL (v++[x])).length:Int) - 1=(v.length:Int):=by rw[hlen];omega
  have hx:(v++[x])[v.length]'(by simp)=x:=by simp
  rw[ei,Zom,Zol,Zvd (by simp),Zok,hx,ZoW];refine⟨Zoo (by simp at hwl;omega),fun h=> ?_,fun h=> ?_⟩
  ·have h0:x=0:=by have:=eq_of_beq h;omega
   rw[if_pos h0]at hw;rw[Zom,Zom];refine⟨Zoo (by simp at hwl;omega),ZyC (by omega), ?_⟩;have:(iL (v++[x])).take ((v.length:Int)).toNat=iL v:=by rw[ZBB,ZII];simp
   rw[this];exact ih v ⟨hw,by simp at hwl;omega⟩ (by simp)
  ·have h0:x≠0:=by intro e;subst e;simp at h
   rw[if_neg h0]at hw;rw[Zok,←hw]
theorem ZEv (l:List Nat) (i:Nat):Zs1 (iL l) (i:Int)=some ((l.getD i 0:Nat):Int):=by
 unfold Zs1;rw[ZoM]
 by_cases h:i < l.length
 ·rw[decide_eq_true (by omega),cond_true,Zvd h,ZJE,ZIK,ZIL h];rfl
 ·rw[decide_eq_false (by omega),cond_false,ZIK,ZIM (by omega)];rfl
theorem ZzH {l:List Nat} (h:Dg l) (i:Nat):l.getD i 0 < Bw:=by
 rw[ZIK]
 by_cases hi:i < l.length
 ·rw[ZIL hi];exact h.get hi
 ·rw[ZIM (by omega)];decide
theorem Zwy (l:List Nat) (k:Nat):val (l.take (k+1))=val (l.take k)+Bw ^ k*l.getD k 0:=by
 rw[ZIK]
 by_cases h:k < l.length
 ·rw[Zpb h,ZIL h];rfl
 ·rw[ZIM (by omega),ZI0 (by omega),ZI0 (by omega)];simp
theorem ZEa (a b:Nat) (ha:(wd a).length≤100000) (hb:(wd b).length≤100000):ZuM (iL (wd a)) (iL (wd b))=some (iL (wd (a+b))):=by
 obtain⟨m,hm,hma,hmb,hm2⟩:∃m:Nat,(if ((iL (wd b)).length:Int) > ((iL (wd a)).length:Int)then ((iL (wd b)).length:Int)else ((iL (wd a)).length:Int))=(m:Int)∧(wd a).length≤m∧(wd b).length≤m∧m≤100000:=by
  rw[ZoM,ZoM]
  by_cases h:((wd b).length:Int) > ((wd a).length:Int)
  ·exact⟨(wd b).length,by rw[if_pos h],by omega,by omega,hb⟩
  ·exact⟨(wd a).length,by rw[if_neg h],by omega,by omega,ha⟩
 refine ZuQ ?_;unfold ZuM;rw[hm,Zom,Zom,Zol];refine⟨Zoo (by omega),decide_eq_true (by unfold ZC;omega), ?_⟩;refine Zow (Zve Zye m (by omega) (fun i (s:Nat×List Nat)=>(iL (wd a),iL (wd b),(s.1:Int),(m:Int),i,iL s.2)) (fun i s=>s.1≤1∧s.2.length=i∧Dg s.2∧val s.2+Bw ^ i*s.1=val ((wd a).take i)+val ((wd b).take i))
  (Q:=fun y=>∃(c:Nat) (o:List Nat),y=((c:Int),iL o)∧c≤1∧Dg o∧o.length=m∧val o+Bw ^ m*c=a+b) (0,[]) ⟨by simp,rfl,Zzq,by simp[val]⟩ ?_ ?_) ?_
 ·rintro rec i ⟨c,o⟩ hlt ⟨hc,hl,hd,hv⟩ ih;dsimp only at hc hl hd hv ih;have h1:=ZzH (Zv6 a) i;have h2:=ZzH (Zv6 b) i;unfold ZuE ZsN;dsimp only;rw[ZoW];refine⟨fun _=> ?_,fun h=>by simp only[decide_eq_false_iff_not]at h;omega⟩;rw[ZEv,Zol,Zok,ZEv,Zol,Zok,ZGj h1 h2 hc,Zol,Zok];dsimp only;rw[Zom,Zom,ZoM];refine⟨Zxb (by simp only[ZIT];omega),Zoo (by omega), ?_⟩;generalize ex:(wd a).getD i 0=x at h1;generalize ey:(wd b).getD i 0=y at h2;have:=ih ((x+y+c) / Bw,o++[(x+y+c) % Bw]) ⟨?_,by simp[hl],hd.app (ZyJ (ZJi _ (by decide))), ?_⟩
  ·rw[ZAz]at this;exact this
  ·simp only[Bw]at h1 h2⊢;omega
  ·dsimp only;rw[Zv0,hl,ZJy,Zwy,Zwy,ex,ey,Nat.add_assoc,ZJk,←ZJj,ZJg,ZJj,ZJj];omega
 ·rintro rec ⟨c,o⟩ ⟨hc,hl,hd,hv⟩;unfold ZuE ZsN;dsimp only;rw[ZoW];refine⟨fun h=>by simp only[decide_eq_true_eq]at h;omega,fun _=> ?_⟩;rw[Zok];rw[ZI0 hma,ZI0 hmb,Zti,Zti]at hv;exact⟨c,o,rfl,hc,hd,hl,hv⟩
 ·rintro y ⟨c,o,rfl,hc,hd,hl,hv⟩;dsimp only;unfold Zvr;rw[Zom,ZoM];refine⟨Zxb (by simp only[ZIT];omega), ?_⟩;have e:iL o++[(c:Int)]=iL (o++[c]):=by rw[ZAz];rfl
  rw[e,Zze (hd.app (ZyJ (by unfold Bw;omega))) (by simp;omega),Zol,Zok,Zok,Zv0,hl,hv]
end Go.Proofs
namespace Go.Proofs
open Go Eng
theorem ZAp {σ τ X:Type} {f:Nat→σ→Option X} {body:(σ→Option X)→σ→Option X} (hf:∀n s,f (n+1) s=body (f n) s)
  (m:Nat) (hm:m≤1000000000000000) (st:Int→τ→σ) (P:Nat→τ→Prop) {Q:X→Prop} (t0:τ) (h0:P m t0)
  (step:∀(rec:σ→Option X) k t,k < m→P (k+1) t→(∀t',P k t'→wp (rec (st ((k:Int) - 1) t')) Q)→wp (body rec (st (k:Int) t)) Q)
  (fin:∀(rec:σ→Option X) t,P 0 t→wp (body rec (st (-1) t)) Q):wp (f big (st ((m:Int) - 1) t0)) Q:=by
 have key:∀(n k:Nat) t,k≤m→P k t→k < n→wp (f n (st ((k:Int) - 1) t)) Q:=by
  intro n
  induction n with
  |zero=>intro k t _ _ h;omega
  |succ n ih=>
   intro k t hk hP hn;rw[hf];cases k with
   |zero=>exact fin _ t hP
   |succ k=>
    have e:((k+1:Nat):Int) - 1=(k:Int):=by omega
    rw[e];exact step _ k t (by omega) hP fun t' h'=>ih k t' (by omega) h' (by omega)
 exact key big m t0 (Nat.le_refl _) h0 (ZAE (by omega))
theorem Zzv {n:Nat} (h:n≤1000000):mkOk (n:Int) (n:Int) 4=true:=by unfold mkOk ZC;exact decide_eq_true ⟨by omega,by omega,by omega,by omega⟩
def ZAT (a b:Nat):Int:=if a < b then -1 else if b < a then 1 else 0
theorem ZBl (a b:Nat):Zrj (a:Int) (b:Int)=some (ZAT a b):=by
 unfold Zrj Zwt ZAT;rw[ZJE,ZJE,bne_self_eq_false,bne_self_eq_false,cond_false,cond_false]
 by_cases h1:a < b
 ·rw[decide_eq_true (by omega:(a:Int) < b),if_pos h1];rfl
 ·rw[decide_eq_false (by omega:¬(a:Int) < b),if_neg h1,cond_false]
  by_cases h2:b < a
  ·rw[decide_eq_true (by omega:(a:Int) > b),if_pos h2];rfl
  ·rw[decide_eq_false (by omega:¬(a:Int) > b),if_neg h2];rfl
theorem ZEp (a b:Nat):ZwT (a:Int) (b:Int)=some (ZAT a b):=ZBl a b
theorem ZxR {a b:Nat} (h:a < b):ZAT a b= -1:=by unfold ZAT;rw[if_pos h]
theorem Zxx {a b:Nat} (h:b < a):ZAT a b=1:=by unfold ZAT;rw[if_neg (by omega),if_pos h]
theorem Zw6 (a:Nat):ZAT a a=0:=by unfold ZAT;rw[if_neg (by omega),if_neg (by omega)]
theorem ZA9 {n k:Nat} (h:k < (wd n).length):Bw ^ k≤n:=by
 rcases ZJd n (Bw ^ k)with h1 |h1
 ·have:=Zx7 h1;omega
 ·exact h1
theorem ZAU {a b:Nat} (h:(wd a).length < (wd b).length):a < b:=ZJc (ZwV a) (ZA9 h)
theorem ZyD {l:List Nat} {k:Nat} (h:k < l.length):val l=val (l.take k)+Bw ^ k*(l[k]+Bw*val (l.drop (k+1))):=by
 have e:l=l.take k++l[k]::l.drop (k+1):=by rw[ZIO,ZIZ]
 have hl:(l.take k).length=k:=by rw[ZIU];omega
 calc val l=val (l.take k++l[k]::l.drop (k+1)):=by rw[←e]
  _=_:=by rw[Zyt,hl];rfl
theorem ZAW {p q x y A B:Nat} {k:Nat} (hp:p < Bw ^ k) (h:x < y):p+Bw ^ k*x < q+Bw ^ k*y:=by have:Bw ^ k*(x+1)≤Bw ^ k*y:=ZJn _ h;rw[ZJj,ZJt]at this;omega
theorem Zz7 (a b:Nat) (ha:(wd a).length≤100000) (hb:(wd b).length≤100000):Zqe (iL (wd a)) (iL (wd b))=some (ZAT a b):=by
 refine ZuQ ?_;unfold Zqe;rw[ZoM,ZoM,ZBl,Zol,Zok,ZoW];refine⟨fun h=> ?_,fun h=> ?_⟩
 ·rw[Zok];rcases ZJe (wd a).length (wd b).length with h1 |h1 |h1
  ·rw[ZxR h1,ZxR (ZAU h1)]
  ·rw[h1,Zw6]at h;exact absurd h (by decide)
  ·rw[Zxx h1,Zxx (ZAU h1)]
 ·have hl:(wd a).length=(wd b).length:=by
   rcases ZJe (wd a).length (wd b).length with h1 |h1 |h1
   ·rw[ZxR h1]at h;exact absurd h (by decide)
   ·exact h1
   ·rw[Zxx h1]at h;exact absurd h (by decide)
  rw[Zom,Zol];refine⟨Zoo (by omega), ?_⟩;refine Zow (ZAp ZxH (wd a).length (by omega) (fun i (s:Unit)=>(iL (wd a),iL (wd b),i)) (fun k _=>(wd a).drop k=(wd b).drop k)
   (Q:=fun r=>r= .ret (ZAT a b)∧ZAT a b≠0∨r= .brk ()∧a=b) () (by rw[List.drop_length,hl,List.drop_length]) ?_ ?_) ?_
  ·rintro rec k ⟨⟩ hk hP ih;have hk2:k < (wd b).length:=by omega
   unfold ZtG ZrX;dsimp only;rw[ZoW];refine⟨fun _=> ?_,fun h=>by simp only[decide_eq_false_iff_not]at h;omega⟩;rw[Zvd hk,Zol,Zok,Zvd hk2,Zol,Zok,ZEp,Zol,Zok];have ha:=ZyD hk;have hb:=ZyD hk2;rw[Zti]at ha hb;have la:val ((wd a).take k) < Bw ^ k:=by have:=ZwW ((Zv6 a).take k);rwa [ZIU,ZJf (by omega)]at this
   have lb:val ((wd b).take k) < Bw ^ k:=by have:=ZwW ((Zv6 b).take k);rwa [ZIU,ZJf (by omega)]at this
   rw[ZoW];refine⟨fun hc=> ?_,fun hc=> ?_⟩
   ·rw[Zok];rcases ZJe (wd a)[k] (wd b)[k]with h1 |h1 |h1
    ·rw[ZxR h1];have:a < b:=by rw[ha,hb,hP];exact ZAW (A:=0) (B:=0) la (by omega)
     exact .inl ⟨by rw[ZxR this],by rw[ZxR this];decide⟩
    ·rw[h1,Zw6]at hc;exact absurd hc (by decide)
    ·rw[Zxx h1];have:b < a:=by rw[ha,hb,hP];exact ZAW (A:=0) (B:=0) lb (by omega)
     exact .inl ⟨by rw[Zxx this],by rw[Zxx this];decide⟩
   ·rw[Zom];refine⟨Zoo (by omega),ih () ?_⟩;have h1:(wd a)[k]=(wd b)[k]:=by
     rcases ZJe (wd a)[k] (wd b)[k]with h1 |h1 |h1
     ·rw[ZxR h1]at hc;exact absurd hc (by decide)
     ·exact h1
     ·rw[Zxx h1]at hc;exact absurd hc (by decide)
    rw[←ZIO (h:=hk),←ZIO (h:=hk2),h1,hP]
  ·rintro rec ⟨⟩ hP;unfold ZtG ZrX;dsimp only;rw[ZoW];refine⟨fun h=>by have:=of_decide_eq_true h;omega,fun _=> ?_⟩;rw[Zok];rw[ZIJ,ZIJ]at hP;exact .inr ⟨rfl,by rw[←Zti a,←Zti b,hP]⟩
  ·rintro r (⟨rfl,_⟩ |⟨rfl,rfl⟩)
   ·exact Zok.2 rfl
   ·unfold Zuj;exact Zok.2 (Zw6 a).symm
theorem ZD1 {o:List Nat} {n i:Nat} (x:Nat) (ho:o.length=i) (h:i < n):(o++ZIW (n - i) 0).set i x=(o++[x])++ZIW (n - (i+1)) 0:=by
 have:n - i=(n - (i+1))+1:=by omega
 rw[this,List.replicate_succ,ZIX _ _ (by omega),ho,ZJA,ZIY];simp
theorem ZBP (a b:Nat) (hab:b≤a) (ha:(wd a).length≤100000):ZsX (iL (wd a)) (iL (wd b))=some (iL (wd (a - b))):=by
 have hlb:(wd b).length≤(wd a).length:=by
  rcases ZJd (wd a).length (wd b).length with h |h
  ·have:=ZAU h;omega
  ·exact h
 refine ZuQ ?_;unfold ZsX;rw[ZoM,Zom,Zol,ZII,ZAV];refine⟨Zzv (by omega), ?_⟩;generalize hn:(wd a).length=n at ha hlb⊢
 rw[show iL (ZIW n 0)=iL ([]++ZIW (n - ([]:List Nat).length) 0) by simp];refine Zow (Zve Zx5 n (by omega) (fun i (s:Nat×List Nat)=>(iL (wd a),iL (wd b),(s.1:Int),(n:Int),i,iL (s.2++ZIW (n - s.2.length) 0))) (fun i s=>s.1≤1∧s.2.length=i∧Dg s.2∧val ((wd a).take i)+Bw ^ i*s.1=val s.2+val ((wd b).take i))
  (Q:=fun y=>∃(o:List Nat),y=iL o∧Dg o∧o.length=n∧val o=a - b) (0,[]) ⟨by simp,rfl,Zzq,by simp[val]⟩ ?_ ?_) ?_
 ·rintro rec i ⟨c,o⟩ hlt ⟨hc,hl,hd,hv⟩ ih;dsimp only at hc hl hd hv ih;have hi:i < (wd a).length:=by omega
  have h1:=(Zv6 a).get hi;have h2:=ZzH (Zv6 b) i;unfold Zui Zsz;dsimp only;rw[ZoW];refine⟨fun _=> ?_,fun h=>by simp only[decide_eq_false_iff_not]at h;omega⟩;rw[Zvd hi,Zol,Zok,ZEv,Zol,Zok,ZDY h1 h2 hc,Zol,Zok];dsimp only;rw[Zom,Zom,ZoM,ZII,ZyI,hl,ZD1 _ hl hlt];refine⟨ZpA ⟨by omega,by simp only[ZIP,ZIR];omega⟩,Zoo (by omega), ?_⟩;generalize ex:(wd a)[i]=x at h1;generalize ey:(wd b).getD i 0=y at h2;have:=ih ((if x < y+c then 1 else 0),o++[(x+4294967296 - y - c) % 4294967296]) ⟨by dsimp only;split<;>omega,by simp[hl],hd.app (ZyJ (ZJi _ (by decide))), ?_⟩
  ·rw[ZIP,ZIT,hl]at this;exact this
  ·dsimp only;rw[Zv0,hl,ZJy,Zpb hi,Zwy,ex,ey,ZJk];have e:x+Bw*(if x < y+c then 1 else 0)=(x+4294967296 - y - c) % 4294967296+y+c:=by simp only[Bw]at h1 h2⊢;split<;>omega
   have e2:Bw ^ i*(x+Bw*(if x < y+c then 1 else 0))=Bw ^ i*((x+4294967296 - y - c) % 4294967296+y+c):=by rw[e]
   rw[ZJj,ZJj,ZJj]at e2;omega
 ·rintro rec ⟨c,o⟩ ⟨hc,hl,hd,hv⟩;unfold Zui Zsz;dsimp only at hc hl hd hv⊢
  rw[ZoW];refine⟨fun h=>by simp only[decide_eq_true_eq]at h;omega,fun _=> ?_⟩;rw[Zok];rw[ZI0 (by omega),ZI0 (by omega),Zti,Zti]at hv;have:=ZwW hd;rw[hl]at this;have hc0:c=0:=by
   rcases ZI8 c with h |h
   ·exact h
   ·have:c=1:=by omega
    rw[this,ZJt]at hv;omega
  rw[hc0,ZJu]at hv;exact⟨o,by rw[hl,ZJA];simp,hd,hl,by omega⟩
 ·rintro y ⟨o,rfl,hd,hl,hv⟩;unfold Zu9;rw[Zze hd (by omega),Zol,Zok,Zok,hv]
theorem ZCZ (a d:Nat) (hd0:d≠0) (hd:d < Bw) (ha:(wd a).length≤100000):Zus (iL (wd a)) (d:Int)=some (iL (wd (a / d)),((a % d:Nat):Int)):=by
 refine ZuQ ?_;unfold Zus;rw[ZoM,Zom,Zom,Zol,ZII,ZAV];refine⟨Zzv (by omega),Zoo (by omega), ?_⟩;generalize hn:(wd a).length=n at ha⊢
 rw[show iL (ZIW n 0)=iL (ZIW (n - ([]:List Nat).length) 0++[]) by simp];refine Zow (ZAp Zx4 n (by omega) (fun i (s:Nat×List Nat)=>(iL (wd a),(d:Int),(s.1:Int),i,iL (ZIW (n - s.2.length) 0++s.2))) (fun k s=>s.1 < d∧s.2.length+k=n∧Dg s.2∧val ((wd a).drop k)=val s.2*d+s.1)
  (Q:=fun y=>∃(r:Nat) (o:List Nat),y=((r:Int),iL o)∧Dg o∧o.length=n∧r < d∧a=val o*d+r) (0,[]) ⟨by dsimp only;omega,by simp,Zzq,by rw[←hn,List.drop_length];simp[val]⟩ ?_ ?_) ?_
 ·rintro rec k ⟨r,o⟩ hk ⟨hr,hl,hdg,hv⟩ ih;dsimp only at hr hl hdg hv ih;have hi:k < (wd a).length:=by omega
  have h1:=(Zv6 a).get hi;unfold Zug Zsx;dsimp only;rw[ZoW];refine⟨fun _=> ?_,fun h=>by simp only[decide_eq_false_iff_not]at h;omega⟩;rw[Zvd hi,Zol,Zok,ZIf hr h1 hd,Zol,Zok];dsimp only;generalize ex:(wd a)[k]=x at h1;have hq:(r*4294967296+x) / d < Bw:=(ZI7 (by omega)).2 (by
   have:(r+1)*4294967296≤d*4294967296:=ZJo _ hr;simp only[Bw]at*
   omega)
  have es:(ZIW (n - o.length) 0++o).set k ((r*4294967296+x) / d)=ZIW (n - (o.length+1)) 0++((r*4294967296+x) / d)::o:=by
   have e:n - o.length=k+1:=by omega
   have e2:n - (o.length+1)=k:=by omega
   rw[e,e2,List.replicate_succ',List.append_assoc,ZIX _ _ (by simp),ZIR,ZJA];rfl
  rw[Zom,Zom,ZoM,ZII,ZyI,es];refine⟨ZpA ⟨by omega,by simp only[ZIP,ZIR];omega⟩,Zoo (by omega), ?_⟩;refine ih ((r*4294967296+x) % d,((r*4294967296+x) / d)::o) ⟨ZJi _ (by omega),by simp only[ZIQ];omega,fun y hy=> ?_, ?_⟩
  ·rcases ZIV.1 hy with rfl |hy
   ·exact hq
   ·exact hdg y hy
  ·dsimp only;rw[←ZIO (h:=hi),ex,val,hv,val];have:=ZI5 (r*4294967296+x) d;rw[ZI1,ZJl ((r*4294967296+x) / d) d,ZJj,ZJk];simp only[Bw]at*
   omega
 ·rintro rec ⟨r,o⟩ ⟨hr,hl,hdg,hv⟩;unfold Zug Zsx;dsimp only at hr hl hdg hv⊢
  rw[ZoW];refine⟨fun h=>by have:=of_decide_eq_true h;omega,fun _=> ?_⟩;rw[Zok];rw[ZIJ,Zti]at hv;refine⟨r,o, ?_,hdg,hl,hr,hv⟩;rw[show n - o.length=0 by omega];rfl
 ·rintro y ⟨r,o,rfl,hdg,hl,hr,hv⟩;dsimp only;unfold Zu8;rw[Zze hdg (by omega),Zol,Zok,Zok];have e1:a / d=val o:=by rw[hv,ZJl,Nat.mul_add_div (by omega),ZI6 hr,ZI4]
  have e2:a % d=r:=by rw[hv,ZJl,Nat.mul_add_mod,ZJh hr]
  rw[e1,e2]
end Go.Proofs
namespace Go.Proofs
open Go Eng
theorem ZyP:∀(l:List Nat) (i x:Nat) (h:i < l.length),val (l.set i x)+Bw ^ i*l[i]=val l+Bw ^ i*x
 | [],i,x,h=>absurd h (by simp)
 |d::l,0,x,h=>by simp only[ZIY,val,Nat.pow_zero,ZJv,List.getElem_cons_zero];omega
 |d::l,i+1,x,h=>by
  have:=ZyP l i x (by simpa using h);have e:Bw*(val (l.set i x)+Bw ^ i*l[i]'(by simpa using h))=Bw*(val l+Bw ^ i*x):=by rw[this]
  rw[ZJj,ZJj]at e;simp only[List.set_cons_succ,val,ZJy,List.getElem_cons_succ];rw[ZJl (Bw ^ i) Bw,ZJk,ZJk];omega
theorem ZEd {x y:Nat} (hx:x≤4294967295) (hy:y≤4294967295):x*y≤18446744065119617025:=ZJm hx hy
theorem Zzk {x y:Nat} (hx:x < Bw) (hy:y < Bw):x*y≤18446744065119617025:=ZEd (by simp only[Bw]at hx;omega) (by simp only[Bw]at hy;omega)
theorem ZFF {c x y e:Nat} (hc:c < Bw) (hx:x < Bw) (hy:y < Bw) (he:e < Bw):IntKind.wrap .u64 ((c:Int)+IntKind.wrap .u64 (IntKind.wrap .u64 (IntKind.wrap .u64 (x:Int)*IntKind.wrap .u64 (y:Int))+IntKind.wrap .u64 (e:Int)))=((c+x*y+e:Nat):Int):=by have:=Zzk hx hy;simp only[Bw]at hc hx hy he;rw[Zph (by omega),Zph (by omega),Zph (by omega),←ZIH,Zph (by omega),←ZIG,Zph (by omega),←ZIG,Zph (by omega)];congr 1;omega
theorem ZDD {c x y e:Nat} (hc:c < Bw) (hx:x < Bw) (hy:y < Bw) (he:e < Bw):(c+x*y+e) / Bw < Bw:=by
 have:=Zzk hx hy;simp only[Bw]at hc hx hy he⊢
 omega
theorem ZCW (a b:Nat) (ha:(wd a).length≤100000) (hb:(wd b).length≤100000):Zur (iL (wd a)) (iL (wd b))=some (iL (wd (a*b))):=by
 refine ZuQ ?_;unfold Zur;rw[ZoM,ZoM,Zom,Zom,Zol,←ZIG,ZII,ZAV];refine⟨Zoo (by omega),Zzv (by omega), ?_⟩;generalize hm:(wd a).length=m at ha⊢
 generalize hn:(wd b).length=n at hb⊢
 refine Zow (Zve Zx3 m (by omega) (fun i (s:List Nat)=>(iL (wd b),iL (wd a),(m:Int),i,iL s)) (fun i s=>s.length=m+n∧Dg s∧val s=val ((wd a).take i)*b∧∀k,i+n≤k→k < m+n→s[k]? =some 0)
  (Q:=fun y=>∃(o:List Nat),y=iL o∧Dg o∧o.length=m+n∧val o=a*b) (ZIW (m+n) 0) ⟨by simp,ZDH _,by rw[ZCh];simp[val],fun k _ h=>by rw[List.getElem?_replicate,if_pos h]⟩ ?_ ?_) ?_
 ·rintro rec i s hlt ⟨hl,hd,hv,hz⟩ ih;have hi:i < (wd a).length:=by omega
  have h1:=(Zv6 a).get hi;unfold Zuf Zsw;dsimp only;rw[ZoW];refine⟨fun _=> ?_,fun h=>by simp only[decide_eq_false_iff_not]at h;omega⟩;rw[Zvd hi,Zol,Zok,Zol,ZoM,hn];generalize ex:(wd a)[i]=x at h1;refine Zow (Zve Zx2 n (by omega) (fun j (t:Nat×List Nat)=>(iL (wd b),(i:Int),(x:Int),(t.1:Int),iL (wd a),(m:Int),(i:Int),iL (wd b),(n:Int),j,iL t.2)) (fun j t=>t.1 < Bw∧t.2.length=m+n∧Dg t.2∧val t.2+Bw ^ (i+j)*t.1=val s+Bw ^ i*(x*val ((wd b).take j))∧∀k,i+n≤k→k < m+n→t.2[k]? =some 0)
   (Q:=fun y=>∃(c:Nat) (o:List Nat),y=(iL (wd b),(i:Int),(c:Int),iL (wd a),(m:Int),(i:Int),iL o)∧c < Bw∧o.length=m+n∧Dg o∧val o+Bw ^ (i+n)*c=val s+Bw ^ i*(x*b)∧∀k,i+n≤k→k < m+n→o[k]? =some 0) (0,s) ⟨by simp only[Bw];omega,hl,hd,by simp[val],hz⟩ ?_ ?_) ?_
  ·rintro rec2 j ⟨c,o⟩ hj ⟨hc,hol,hod,hov,hoz⟩ ih2;dsimp only at hc hol hod hov hoz ih2;have hj2:j < (wd b).length:=by omega
   have h2:=(Zv6 b).get hj2;have hij:i+j < o.length:=by omega
   have h3:=hod.get hij;unfold Zue Zsv;dsimp only;rw[ZoW];refine⟨fun _=> ?_,fun h=>by simp only[decide_eq_false_iff_not]at h;omega⟩;rw[Zvd hj2,Zol,Zok,Zom,Zom,←ZIG,ZII,ZzB hij,Zol,Zok,Zom,Zom,Zom,Zom];generalize ey:(wd b)[j]=y at h2;generalize ee:o[i+j]=e at h3;rw[ZFF hc h1 h2 h3,Zwx,show (32:Int)=((32:Nat):Int)from rfl,ZzF 32 (by omega),ZoM,ZyI];refine⟨Zoo (by omega),ZpA ⟨by omega,by omega⟩,Zoo (by omega),ZpA ⟨by omega,by omega⟩,by decide,Zoo (by omega), ?_⟩;refine ih2 ((c+x*y+e) / Bw,o.set (i+j) ((c+x*y+e) % Bw)) ⟨ZDD hc h1 h2 h3,by simp[hol],hod.set _ (ZJi _ (by decide)), ?_,fun k hk hk2=> ?_⟩
   ·dsimp only;have q1:=ZyP o (i+j) ((c+x*y+e) % Bw) hij;rw[ee]at q1;have q2:Bw ^ (i+j)*((c+x*y+e) % Bw+Bw*((c+x*y+e) / Bw))=Bw ^ (i+j)*(c+x*y+e):=by rw[ZJg]
    rw[ZJj,ZJj,ZJj]at q2;rw[←Nat.add_assoc,ZJy,ZJk,Zpb hj2,ey,ZJj,ZJj];have q3:Bw ^ i*(x*(Bw ^ j*y))=Bw ^ (i+j)*(x*y):=by rw[ZJw,ZJk,ZJp x]
    omega
   ·dsimp only;rw[List.getElem?_set_ne (by omega)];exact hoz k hk hk2
  ·rintro rec2 ⟨c,o⟩ ⟨hc,hol,hod,hov,hoz⟩;dsimp only at hc hol hod hov hoz;unfold Zue Zsv;dsimp only;rw[ZoW];refine⟨fun h=>by have:=of_decide_eq_true h;omega,fun _=> ?_⟩;rw[Zok];rw[ZI0 (by omega),Zti]at hov;exact⟨c,o,rfl,hc,hol,hod,hov,hoz⟩
  ·rintro y ⟨c,o,rfl,hc,hol,hod,hov,hoz⟩;dsimp only;unfold Zu7;rw[ZoM,hn,Zom,Zom,Zom,←ZIG,ZII,ZwU hc,ZyI,ZoM];refine⟨Zoo (by omega),ZpA ⟨by omega,by omega⟩,Zoo (by omega), ?_⟩;have hp:i+n < o.length:=by omega
   have h0:o[i+n]=0:=by have:=hoz (i+n) (Nat.le_refl _) (by omega);rw[ZIL hp]at this;exact Option.some.inj this
   have q1:=ZyP o (i+n) c hp;rw[h0,ZJu,ZI4]at q1;refine ih (o.set (i+n) c) ⟨by simp[hol],hod.set _ hc, ?_,fun k hk hk2=> ?_⟩
   ·rw[q1,hov,hv,Zpb hi,ex,ZI1,ZJk]
   ·rw[List.getElem?_set_ne (by omega)];exact hoz k (by omega) hk2
 ·rintro rec s ⟨hl,hd,hv,hz⟩;unfold Zuf Zsw;dsimp only;rw[ZoW];refine⟨fun h=>by have:=of_decide_eq_true h;omega,fun _=> ?_⟩;rw[Zok];rw[ZI0 (by omega),Zti]at hv;exact⟨s,rfl,hd,hl,hv⟩
 ·rintro y ⟨o,rfl,hd,hl,hv⟩;unfold Zu6;rw[Zze hd (by omega),Zol,Zok,Zok,hv]
theorem ZA2 {c d s:Nat} (hs:s≤31) (hc:c < 2 ^ s) (hd:d < Bw):c|||(d*2 ^ s % Bw)=c+d*2 ^ s % Bw:=by
 have e:Bw=2 ^ (32 - s)*2 ^ s:=by rw[←ZJw,show 32 - s+s=32 by omega]
 rw[e,ZJs];have:=Nat.shiftLeft_add_eq_or_of_lt hc (d % 2 ^ (32 - s));rw[Nat.shiftLeft_eq]at this;rw[Nat.or_comm,←this,Nat.add_comm]
theorem ZD0 {d s:Nat} (hs:s≤32) (hd:d < Bw):shlK .u64 (IntKind.wrap .u64 (d:Int)) (s:Int)=((d*2 ^ s:Nat):Int):=by
 have h2:2 ^ s≤2 ^ 32:=ZJx (by decide) hs;have h3:d*2 ^ s≤4294967295*4294967296:=ZJm (by simp only[Bw]at hd;omega) h2;unfold shlK;simp only[Bw]at hd;rw[Zph (by omega),ZII,show IntKind.bits .u64=64 from rfl,ZJf (by omega)];have e:(d:Int)*(2:Int) ^ s=((d*2 ^ s:Nat):Int):=by push_cast;rfl
 rw[e,Zph (by omega)]
theorem ZAQ (l:List Nat) (s:Nat) (hs:s≤31) (hl:l.length≤100000) (hd:Dg l):∃o:List Nat,Zq0 (iL l) (s:Int)=some (iL o)∧Dg o∧o.length=l.length+1∧val o=val l*2 ^ s:=by
 have:wp (Zq0 (iL l) (s:Int)) (fun y=>∃o:List Nat,y=iL o∧Dg o∧o.length=l.length+1∧val o=val l*2 ^ s):=by
  have h2:2 ^ s≤2 ^ 31:=ZJx (by decide) hs;unfold Zq0 Zuh;rw[ZoM,Zom,Zom,Zol,show (l.length:Int)+1=((l.length+1:Nat):Int)from rfl,ZII,ZAV];refine⟨Zoo (by omega),Zzv (by omega), ?_⟩;refine Zow (Zve ZxG l.length (by omega) (fun i (t:List Nat×Nat)=>((s:Int),iL l,(l.length:Int),i,iL (t.1++t.2::ZIW (l.length - t.1.length) 0))) (fun i t=>t.1.length=i∧t.2 < 2 ^ s∧Dg t.1∧val t.1+Bw ^ i*t.2=val (l.take i)*2 ^ s)
   (Q:=fun y=>∃o:List Nat,y=iL o∧Dg o∧o.length=l.length+1∧val o=val l*2 ^ s) ([],0) ⟨rfl,ZJB s,Zzq,by simp[val]⟩ ?_ ?_) ?_
  ·rintro rec i ⟨o,c⟩ hi ⟨hol,hc,hod,hv⟩ ih;dsimp only at hol hc hod hv ih;have h1:=hd.get hi;have hcB:c < Bw:=by simp only[Bw];omega
   unfold ZtF ZrW;dsimp only;rw[ZoW];refine⟨fun _=> ?_,fun h=>by simp only[decide_eq_false_iff_not]at h;omega⟩;rw[Zvd hi,Zol,Zok];generalize ex:l[i]=x at h1;have hlen:(o++c::ZIW (l.length - o.length) 0).length=l.length+1:=by simp;omega
   have hg:(iL (o++c::ZIW (l.length - o.length) 0))[i]? =some (c:Int):=by rw[ZzB (by rw[hlen];omega)];congr 2;rw[ZIN (by omega)];simp[hol]
   rw[ZD0 (by omega) h1,show (32:Int)=((32:Nat):Int)from rfl,ZzF 32 (by omega),Zwx];have hx2:x*2 ^ s / 2 ^ 32 < 2 ^ s:=(ZI7 (by decide)).2 (by
    rw[ZJl (2 ^ s)];exact ZJr h1 (ZJB s))
   rw[ZwU (by omega),ZII,show ((i:Int)+1).toNat=i+1 by omega,hg];rw[Zom,Zom,Zol,Zok,Zom,Zom,Zom,Zom,Zom,ZBN hcB (ZJi _ (by decide)),ZA2 hs hc h1];have hsum:c+x*2 ^ s % Bw < Bw:=by
    have e:Bw=2 ^ (32 - s)*2 ^ s:=by rw[←ZJw,show 32 - s+s=32 by omega]
    have hm:x % 2 ^ (32 - s)+1≤2 ^ (32 - s):=ZJi _ (ZJB _);have:=ZJo (2 ^ s) hm;rw[ZI1,ZJv]at this;rw[e,ZJs];omega
   have es:((o++c::ZIW (l.length - o.length) 0).set i (c+x*2 ^ s % Bw)).set (i+1) (x*2 ^ s / 2 ^ 32)=(o++[c+x*2 ^ s % Bw])++(x*2 ^ s / 2 ^ 32)::ZIW (l.length - (o.length+1)) 0:=by rw[ZIX _ _ (by omega),hol,ZJA,ZIY,ZIX _ _ (by omega),hol,show i+1 - i=1 by omega,show l.length - i=(l.length - (i+1))+1 by omega,List.replicate_succ];simp
   rw[ZyI,ZyI,es];simp only[ZoM,ZIS,hlen];refine⟨by simp,ZpA ⟨by omega,by omega⟩,ZpA ⟨by omega,by omega⟩,Zoo (by omega),by decide,ZpA ⟨by omega,by omega⟩,Zoo (by omega), ?_⟩;have:=ih (o++[c+x*2 ^ s % Bw],x*2 ^ s / 2 ^ 32) ⟨by simp[hol],hx2,hod.app (ZyJ hsum), ?_⟩
   ·simp only[ZIP,ZIT]at this;exact this
   ·dsimp only;have q:Bw ^ i*(x*2 ^ s % Bw+Bw*(x*2 ^ s / 2 ^ 32))=Bw ^ i*(x*2 ^ s):=by have:=ZJg (x*2 ^ s) Bw;rw[show (2:Nat) ^ 32=Bw from rfl,this]
    rw[ZJj]at q;rw[Zv0,hol,ZJy,ZJk,Zpb hi,ex,ZJj,ZI1,ZJk (Bw ^ i) x];omega
  ·rintro rec ⟨o,c⟩ ⟨hol,hc,hod,hv⟩;dsimp only at hol hc hod hv;unfold ZtF ZrW;dsimp only;rw[ZoW];refine⟨fun h=>by have:=of_decide_eq_true h;omega,fun _=> ?_⟩;rw[Zok];rw[List.take_length]at hv;refine⟨o++[c], ?_,hod.app (ZyJ (by simp only[Bw];omega)),by simp[hol], ?_⟩
   ·rw[hol,ZJA];rfl
   ·rw[Zv0,hol];exact hv
  ·rintro y hy;exact Zok.2 hy
 obtain⟨y,hy,o,rfl,h1,h2,h3⟩:=this;exact⟨o,hy,h1,h2,h3⟩
end Go.Proofs
namespace Go.Proofs
open Go Eng
theorem ZFN {B P u0 u1 u2 wl d1 d2 dl:Nat} (hdl:dl < P) (hd2:d2 < B) (h:((u0*B+u1)*B+u2)*P+wl < B*((d1*B+d2)*P+dl)):u0≤d1:=by
 rcases ZJd d1 u0 with hlt |hge
 ·exfalso;have h1:(d1+1)*(B*(B*P))≤u0*(B*(B*P)):=ZJo _ hlt;have h2:(d2+1)*P≤B*P:=ZJo _ hd2;rw[ZI1,ZJv]at h2;have h3:B*(d2*P+dl)≤B*(B*P):=ZJn _ (by omega);have e:B*(d1*(B*P))=d1*(B*(B*P)):=ZJp _ _ _;simp only[ZI1,ZJj,ZJk,ZJv]at h h1 h3;omega
 ·exact hge
theorem ZFM {B P u0 u1 u2 wl d1 d2 dl q:Nat} (hw:wl < P) (hu2:u2 < B) (h:q*((d1*B+d2)*P+dl)≤((u0*B+u1)*B+u2)*P+wl):q*d1≤u0*B+u1:=by
 rcases ZJd (u0*B+u1) (q*d1)with hlt |hge
 ·exfalso;have h1:(u0*B+u1+1)*(B*P)≤q*d1*(B*P):=ZJo _ hlt;have h2:(u2+1)*P≤B*P:=ZJo _ hu2;simp only[ZI1,ZJj,ZJk,ZJv]at h h1 h2;omega
 ·exact hge
theorem ZFL {B P u0 u1 u2 wl d1 d2 dl rest g:Nat} (hw:wl < P) (hr:rest+g*d1=u0*B+u1) (hg:rest*B+u2 < g*d2):((u0*B+u1)*B+u2)*P+wl < g*((d1*B+d2)*P+dl):=by
 rw[←hr];have h1:(rest*B+u2+1)*P≤g*d2*P:=ZJo _ hg;simp only[ZI1,ZJj,ZJk,ZJv]at h1⊢
 omega
theorem ZFK {B P u0 u1 u2 wl d1 d2 dl rest g:Nat} (hdl:dl < P) (hB:g < B) (h1:1≤d1) (hr:rest+g*d1=u0*B+u1) (hg:g*d2≤rest*B+u2):g*((d1*B+d2)*P+dl) < (((u0*B+u1)*B+u2)*P+wl)+((d1*B+d2)*P+dl):=by
 rw[←hr];have h2:g*d2*P≤(rest*B+u2)*P:=ZJo _ hg;have h3:g*dl≤g*P:=ZJn _ (ZI9 hdl);have h4:(g+1)*P≤B*P:=ZJo _ hB;have h5:1*(B*P)≤d1*(B*P):=ZJo _ h1;simp only[ZI1,ZJj,ZJk,ZJv]at h2 h4 h5⊢
 omega
theorem rdw {pre w suf:List Nat} {k:Nat} (h:k < w.length):(iL (pre++(w++suf)))[pre.length+k]? =some (w[k]:Int):=by rw[ZzB (by simp;omega)];congr 2;rw[ZIN (by omega)];simp only[Nat.add_sub_cancel_left];rw[List.getElem_append_left h]
theorem stw {pre w suf:List Nat} {k:Nat} (x:Nat) (h:k < w.length):(iL (pre++(w++suf))).set (pre.length+k) (x:Int)=iL (pre++(w.set k x++suf)):=by rw[ZyI,ZIX _ _ (by omega),Nat.add_sub_cancel_left,List.set_append_left _ _ h]
theorem ZHR {l:List Nat} {m:Nat} (h:l.length=m+2):val l=(l[m+1]*Bw+l[m])*Bw ^ m+val (l.take m):=by have e:=ZyD (l:=l) (k:=m) (by omega);have e2:=ZyD (l:=l) (k:=m+1) (by omega);have h3:=Zpb (l:=l) (k:=m) (by omega);rw[List.drop_eq_nil_of_le (by omega)]at e2;simp only[val,ZJu,ZI4]at e2;rw[e2,h3,ZJy,ZI1,ZJl (l[m]),ZJl (Bw ^ m) Bw,ZJl (Bw*Bw ^ m),ZJk];omega
theorem top3 {l:List Nat} {m:Nat} (h:l.length=m+3):val l=((l[m+2]*Bw+l[m+1])*Bw+l[m])*Bw ^ m+val (l.take m):=by have e:val l=(l[m+2]*Bw+l[m+1])*Bw ^ (m+1)+val (l.take (m+1)):=ZHR (by omega);have h3:=Zpb (l:=l) (k:=m) (by omega);rw[e,h3,ZJy,ZJl (Bw ^ m) Bw,←ZJk,ZI1 ((l[m+2]*Bw+l[m+1])*Bw),ZJl (l[m])];omega
theorem ZEg {h l:Nat} (hh:h < 4294967296) (hl:l < 4294967296):orK .u64 (shlK .u64 (h:Int) 32) (IntKind.wrap .u64 (l:Int))=((h*4294967296+l:Nat):Int):=by
 have:=ZBi hh hl
 rwa [Zph (by omega)]at this
theorem ZEf {x y:Nat} (hx:x < Bw) (hy:y < Bw):IntKind.wrap .u64 ((x:Int)*IntKind.wrap .u64 (y:Int))=((x*y:Nat):Int):=by have:=Zzk hx hy;rw[Zph (by simp only[Bw]at hy;omega),←ZIH,Zph (by omega)]
theorem ZDf {pre w suf d:List Nat} {m:Nat} (hw:w.length=m+3) (hd:d.length=m+2) (hwd:Dg w) (hdd:Dg d) (h1:1≤d[m+1]) (hlt:val w < Bw*val d) (hm:m≤100000) {g r:Nat}
  (hg:g < Bw) (hq:val w / val d≤g) (hr:r+g*d[m+1]=w[m+2]*Bw+w[m+1]) (hr2:r < 2*Bw):
  wp (Zs3 big pre.length (m+3) (iL d) ((m+2:Nat):Int) (g:Int) (r:Int) (iL (pre++(w++suf)))) (fun y=>∃g:Nat,y=(pre.length,m+3,iL d,((m+2:Nat):Int),(g:Int),iL (pre++(w++suf)))∧g < Bw∧val w / val d≤g∧g*val d < val w+val d):=by
 have hw0:=hwd.get (i:=m) (by omega);have hd2:=hdd.get (i:=m) (by omega);have hd1:=hdd.get (i:=m+1) (by omega);have hdl:val (d.take m) < Bw ^ m:=by have:=ZwW (hdd.take m);rwa [ZIU,ZJf (by omega)]at this
 have hwl:val (w.take m) < Bw ^ m:=by have:=ZwW (hwd.take m);rwa [ZIU,ZJf (by omega)]at this
 have eW:=top3 hw;have eD:=ZHR hd;have rd:(iL (pre++(w++suf)))[pre.length+m]? =some (w[m]:Int):=rdw (by omega);have rdd:idx (iL d) (m:Int)=some (d[m]:Int):=Zvd (by omega);have rdd1:idx (iL d) ((m+1:Nat):Int)=some (d[m+1]:Int):=Zvd (by omega);generalize d[m+1]=d1 at*
 generalize d[m]=d2 at*
 generalize w[m+2]=u0 at*
 generalize w[m+1]=u1 at*
 generalize w[m]=u2 at*
 have hDpos:0 < val d:=by rw[eD];have:1*1≤(d1*Bw+d2)*Bw ^ m:=ZJm (by simp only[Bw];omega) (Nat.pow_pos (by decide));omega
 have hdiv:∀g,val w < g*val d→val w / val d < g:=fun g h=>(ZI7 hDpos).2 h
 generalize val w / val d=qq at*
 refine Zrk Zzc (fun(t:Nat×Nat)=>(pre.length,m+3,iL d,((m+2:Nat):Int),(t.1:Int),(t.2:Int),iL (pre++(w++suf)))) (fun t=>t.1 < Bw∧qq≤t.1∧t.2+t.1*d1=u0*Bw+u1∧t.2 < 2*Bw) (fun t=>t.1) (g,r) ⟨hg,hq,hr,hr2⟩ (by simp only[Bw]at hg;dsimp only;omega) ?_;rintro rec ⟨g,r⟩ ⟨hg,hq,hr,hr2⟩ ih;dsimp only at hg hq hr hr2 ih;unfold ZxL Zws;dsimp only;have e2:((m+2:Nat):Int) - 2=(m:Int):=by omega
 have e1:((m+2:Nat):Int) - 1=((m+1:Nat):Int):=by omega
 have fin:g*d2≤r*Bw+u2→wp (some (pre.length,m+3,iL d,((m+2:Nat):Int),(g:Int),iL (pre++(w++suf)))) (fun y=>∃g:Nat,y=(pre.length,m+3,iL d,((m+2:Nat):Int),(g:Int),iL (pre++(w++suf)))∧g < Bw∧qq≤g∧g*val d < val w+val d):=fun h=>by rw[Zok];refine⟨g,rfl,hg,hq, ?_⟩;rw[eW,eD];exact ZFK hdl hg h1 hr h
 rw[ZoW];refine⟨fun h=> ?_,fun h=> ?_⟩
 ·have hrB:r < 4294967296:=by have:=of_decide_eq_true h;omega
  rw[e2,Zom,rdd,Zol,Zok,Zom,Zom,Zom,Zol,ZII,rd,Zok,ZEf hg hd2,ZEg hrB hw0];refine⟨Zoo (by omega),by decide,Zoo (by omega),ZpA ⟨by omega,by omega⟩, ?_⟩;unfold Zul;rw[ZoW];refine⟨fun h=> ?_,fun h=> ?_⟩
  ·have hc:r*Bw+u2 < g*d2:=by have:=of_decide_eq_true h;simp only[Bw];omega
   have hlt2:val w < g*val d:=by rw[eW,eD];exact ZFL hwl hr hc
   have hqg:qq < g:=hdiv g hlt2;rw[e1,Zom,rdd1,Zol,Zok];refine⟨Zoo (by omega), ?_⟩;have eg:IntKind.wrap .u64 ((g:Int) - 1)=((g - 1:Nat):Int):=by simp only[Bw]at hg;rw[show (g:Int) - 1=((g - 1:Nat):Int) by omega,Zph (by omega)]
   have er:IntKind.wrap .u64 ((r:Int)+IntKind.wrap .u64 (d1:Int))=((r+d1:Nat):Int):=by simp only[Bw]at hd1;rw[Zph (by omega),←ZIG,Zph (by omega)]
   rw[eg,er];refine ih (g - 1,r+d1) ⟨by dsimp only;omega,by dsimp only;omega, ?_,by dsimp only;simp only[Bw]at hd1⊢;omega⟩ (by dsimp only;omega);dsimp only;rw[←hr,show g*d1=(g - 1+1)*d1 by rw[Nat.sub_add_cancel (by omega)],ZI1,ZJv];omega
  ·have hc:g*d2≤r*Bw+u2:=by have:=of_decide_eq_false h;simp only[Bw];omega
   exact fin hc
 ·have hrB:4294967296≤r:=by have:=of_decide_eq_false h;omega
  unfold Zul;rw[cond_false];refine fin ?_;have h1:=Zzk hg hd2;have h2:4294967296*4294967296≤r*Bw:=ZJm hrB (Nat.le_refl _);omega
end Go.Proofs
namespace Go.Proofs
open Go Eng
abbrev ZDu (pre suf:List Nat) (W D m:Nat) (y:Int×List Int):Prop:=∃w':List Nat,y=(((W / D:Nat):Int),iL (pre++(w'++suf)))∧w'.length=m+3∧Dg w'∧val w'=W % D
theorem ZEt {pre w suf d:List Nat} {m W:Nat} (hw:w.length=m+3) (hd:d.length=m+2) (hwd:Dg w) (hdd:Dg d) (hm:m≤100000) {g:Nat} (hg:g < Bw)
  (hg1:W < g*val d) (hg2:g*val d < W+val d) (hv:val w+g*val d=W+Bw ^ (m+3)):
  wp ((Zuk big pre.length (m+3) ((m+2:Nat):Int) (g:Int) (0:Int) (iL d) (d.length:Int) (0:Int) (iL (pre++(w++suf)))).bind fun(x0,x1,x2,x3,x4,x5)=>ZvM x0 x1 x2 x3 x4 x5) (ZDu pre suf W (val d) m):=by
 rw[Zol,hd];have hDpos:0 < val d:=by omega
 refine Zow (Zve Zza (m+2) (by omega) (fun i (t:Nat×List Nat)=>(pre.length,m+3,((m+2:Nat):Int),(g:Int),(t.1:Int),iL d,((m+2:Nat):Int),i,iL (pre++(t.2++suf)))) (fun i t=>t.1≤1∧t.2.length=m+3∧Dg t.2∧val t.2+Bw ^ i*t.1=val w+val (d.take i))
  (Q:=fun y=>∃(a:Nat) (w2:List Nat),y=(pre.length,m+3,((m+2:Nat):Int),(g:Int),(a:Int),iL (pre++(w2++suf)))∧a≤1∧w2.length=m+3∧Dg w2∧val w2+Bw ^ (m+2)*a=val w+val d) (0,w) ⟨by simp,hw,hwd,by simp[val]⟩ ?_ ?_) ?_
 ·rintro rec i ⟨a,o⟩ hi ⟨ha,hol,hod,hv⟩ ih;dsimp only at ha hol hod hv ih;have hi1:i < o.length:=by omega
  have hi2:i < d.length:=by omega
  have h1:=hod.get hi1;have h2:=hdd.get hi2;unfold Zwq ZuO;dsimp only;rw[ZoW];refine⟨fun _=> ?_,fun h=>by have:=of_decide_eq_false h;omega⟩;rw[Zvd hi2,Zol,Zok,Zom,Zol,ZII,rdw hi1,Zok,ZGj h1 h2 ha,Zol,Zok];dsimp only;rw[Zom,Zom,stw _ hi1];refine⟨ZpA ⟨by omega,by omega⟩,ZpA ⟨by omega,by omega⟩,Zoo (by omega), ?_⟩;generalize ex:d[i]=x at h2;generalize ee:o[i]=e at h1;refine ih ((e+x+a) / 4294967296,o.set i ((e+x+a) % 4294967296)) ⟨by simp only[Bw]at h1 h2;dsimp only;omega,by simp[hol],hod.set _ (ZJi _ (by decide)), ?_⟩;dsimp only;have q1:=ZyP o i ((e+x+a) % 4294967296) hi1;rw[ee]at q1;have q2:Bw ^ i*((e+x+a) % 4294967296+Bw*((e+x+a) / 4294967296))=Bw ^ i*(e+x+a):=by rw[ZJg]
  rw[ZJj,ZJj,ZJj]at q2;rw[ZJy,ZJk,Zpb hi2,ex];omega
 ·rintro rec ⟨a,o⟩ ⟨ha,hol,hod,hv⟩;dsimp only at ha hol hod hv;unfold Zwq ZuO;dsimp only;rw[ZoW];refine⟨fun h=>by have:=of_decide_eq_true h;omega,fun _=> ?_⟩;rw[Zok];rw[ZI0 (by omega)]at hv;exact⟨a,o,rfl,ha,hol,hod,hv⟩
 ·rintro y ⟨a,o,rfl,ha,hol,hod,hov⟩;dsimp only;have hi1:m+2 < o.length:=by omega
  have h1:=hod.get hi1;unfold ZvM;rw[Zom,Zol,ZII,rdw hi1,Zok,Zom];generalize ee:o[m+2]=e at h1;have ew:IntKind.wrap .u32 ((e:Int)+(a:Int))=(((e+a) % 4294967296:Nat):Int):=by rw[←ZIG,Zwx]
  have hgp:1≤g:=by
   rcases ZI8 g with h |h
   ·rw[h,Nat.zero_mul]at hg1;omega
   ·exact h
  have eg:IntKind.wrap .u32 (IntKind.wrap .u64 ((g:Int) - 1))=((g - 1:Nat):Int):=by simp only[Bw]at hg;rw[show (g:Int) - 1=((g - 1:Nat):Int) by omega,Zph (by omega),ZwU (by omega)]
  rw[ew,eg,stw _ hi1,Zok];refine⟨ZpA ⟨by omega,by omega⟩,ZpA ⟨by omega,by omega⟩, ?_⟩;have q1:=ZyP o (m+2) ((e+a) % 4294967296) hi1;rw[ee]at q1;have q2:Bw ^ (m+2)*((e+a) % 4294967296+Bw*((e+a) / 4294967296))=Bw ^ (m+2)*(e+a):=by rw[ZJg]
  rw[ZJj,ZJj,←ZJk,←ZJy]at q2;have hdn:Dg (o.set (m+2) ((e+a) % 4294967296)):=hod.set _ (ZJi _ (by decide));have hlt:=ZwW hdn;rw[ZIS,hol]at hlt;have hco:(e+a) / 4294967296≤1:=by simp only[Bw]at h1;omega
  have hpw:Bw ^ (m+2+1)=Bw ^ (m+3):=rfl;rw[hpw]at q2;have egD:g*val d=(g - 1)*val d+val d:=by rw[show g*val d=(g - 1+1)*val d by rw[Nat.sub_add_cancel hgp],ZI1,ZJv]
  have key:val (o.set (m+2) ((e+a) % 4294967296))+(g - 1)*val d=W:=by
   rcases ZI8 ((e+a) / 4294967296)with hz |hz
   ·rw[hz,ZJu]at q2;omega
   ·rw[show (e+a) / 4294967296=1 by omega,ZJt]at q2;omega
  have hl3:(o.set (m+2) ((e+a) % 4294967296)).length=m+3:=by rw[ZIS,hol]
  generalize o.set (m+2) ((e+a) % 4294967296)=w3 at*
  have hlt3:val w3 < val d:=by omega
  have eq1:W / val d=g - 1:=by rw[←key,ZI2 _ _ hDpos,ZI6 hlt3,ZJD]
  have eq2:W % val d=val w3:=by rw[←key,ZI3,ZJh hlt3]
  exact⟨w3,by rw[eq1],hl3,hdn,eq2.symm⟩
theorem ZDX {pre w suf d:List Nat} {m:Nat} (hw:w.length=m+3) (hd:d.length=m+2) (hwd:Dg w) (hdd:Dg d) (hm:m≤100000) {g:Nat} (hg:g < Bw)
  (hDpos:0 < val d) (hq:val w / val d≤g) (hg2:g*val d < val w+val d):
  wp (ZvN pre.length (m+3) (iL d) ((m+2:Nat):Int) (g:Int) (iL (pre++(w++suf)))) (ZDu pre suf (val w) (val d) m):=by
 unfold ZvN;rw[Zol,ZoM,hd];refine Zow (Zve Zzb (m+2) (by omega) (fun i (t:Nat×Nat×List Nat)=>(pre.length,m+3,iL d,((m+2:Nat):Int),(g:Int),(t.1:Int),(t.2.1:Int),iL d,((m+2:Nat):Int),i,iL (pre++(t.2.2++suf)))) (fun i t=>t.1≤1∧t.2.1 < Bw∧t.2.2.length=m+3∧Dg t.2.2∧val t.2.2+g*val (d.take i)=val w+Bw ^ i*(t.1+t.2.1))
  (Q:=fun y=>∃(b c:Nat) (w2:List Nat),y=(pre.length,m+3,iL d,((m+2:Nat):Int),(g:Int),(b:Int),(c:Int),iL (pre++(w2++suf)))∧b≤1∧c < Bw∧w2.length=m+3∧Dg w2∧val w2+g*val d=val w+Bw ^ (m+2)*(b+c)) (0,0,w) ⟨by simp,by simp,hw,hwd,by simp[val]⟩ ?_ ?_) ?_
 ·rintro rec i ⟨b,c,o⟩ hi ⟨hb,hc,hol,hod,hv⟩ ih;dsimp only at hb hc hol hod hv ih;have hi1:i < o.length:=by omega
  have hi2:i < d.length:=by omega
  have h1:=hod.get hi1;have h2:=hdd.get hi2;unfold Zwr ZuP;dsimp only;rw[ZoW];refine⟨fun _=> ?_,fun h=>by have:=of_decide_eq_false h;omega⟩;rw[Zvd hi2,Zol,Zok,Zom,Zol,ZII,rdw hi1,Zok];generalize ex:d[i]=x at h2;generalize ee:o[i]=e at h1;have hbd:=Zzk hg h2;have es:IntKind.wrap .u64 ((c:Int)+((g*x:Nat):Int))=((c+g*x:Nat):Int):=by simp only[Bw]at hc;rw[←ZIG,Zph (by omega)]
  rw[ZEf hg h2,es,Zwx,ZDY h1 (ZJi _ (by decide)) hb,Zol,Zok];dsimp only;rw[Zom,Zom,Zom,stw _ hi1,show (32:Int)=((32:Nat):Int)from rfl,ZzF 32 (by omega)];refine⟨ZpA ⟨by omega,by omega⟩,ZpA ⟨by omega,by omega⟩,by decide,Zoo (by omega), ?_⟩;have hlo:(c+g*x) % 4294967296 < 4294967296:=ZJi _ (by decide);have hhi:(c+g*x) / 2 ^ 32 < Bw:=by simp only[Bw]at hc⊢;omega
  have hs:(c+g*x) % 4294967296+Bw*((c+g*x) / 2 ^ 32)=c+g*x:=ZJg _ _;generalize (c+g*x) % 4294967296=lo at*
  generalize (c+g*x) / 2 ^ 32=hi' at*
  refine ih ((if e < lo+b then 1 else 0),hi',o.set i ((e+4294967296 - lo - b) % 4294967296)) ⟨by dsimp only;split<;>omega,hhi,by simp[hol],hod.set _ (ZJi _ (by decide)), ?_⟩;dsimp only;have q1:=ZyP o i ((e+4294967296 - lo - b) % 4294967296) hi1;rw[ee]at q1;have e1:e+Bw*(if e < lo+b then 1 else 0)=(e+4294967296 - lo - b) % 4294967296+lo+b:=by simp only[Bw]at h1⊢;split<;>omega
  have q2:Bw ^ i*(e+Bw*(if e < lo+b then 1 else 0))=Bw ^ i*((e+4294967296 - lo - b) % 4294967296+lo+b):=by rw[e1]
  have q3:Bw ^ i*(lo+Bw*hi')=Bw ^ i*(c+g*x):=by rw[hs]
  have q4:g*(Bw ^ i*x)=Bw ^ i*(g*x):=ZJp _ _ _;rw[ZJj,ZJj,ZJj]at q2;rw[ZJj,ZJj]at q3;rw[ZJj]at hv;rw[ZJy,ZJk,Zpb hi2,ex,ZJj,ZJj Bw,ZJj];omega
 ·rintro rec ⟨b,c,o⟩ ⟨hb,hc,hol,hod,hv⟩;dsimp only at hb hc hol hod hv;unfold Zwr ZuP;dsimp only;rw[ZoW];refine⟨fun h=>by have:=of_decide_eq_true h;omega,fun _=> ?_⟩;rw[Zok];rw[ZI0 (by omega)]at hv;exact⟨b,c,o,rfl,hb,hc,hol,hod,hv⟩
 ·rintro y ⟨b,c,o,rfl,hb,hc,hol,hod,hv⟩;dsimp only;have hi1:m+2 < o.length:=by omega
  have h1:=hod.get hi1;unfold Zxa;rw[Zom,Zol,ZII,rdw hi1,Zok,ZwU hc];generalize ee:o[m+2]=e at h1;rw[ZDY h1 hc hb,Zol,Zok];dsimp only;rw[Zom,stw _ hi1,ZwU hg];refine⟨ZpA ⟨by omega,by omega⟩,ZpA ⟨by omega,by omega⟩, ?_⟩;have q1:=ZyP o (m+2) ((e+4294967296 - c - b) % 4294967296) hi1;rw[ee]at q1;have e1:e+Bw*(if e < c+b then 1 else 0)=(e+4294967296 - c - b) % 4294967296+c+b:=by simp only[Bw]at h1 hc⊢;split<;>omega
  have q2:Bw ^ (m+2)*(e+Bw*(if e < c+b then 1 else 0))=Bw ^ (m+2)*((e+4294967296 - c - b) % 4294967296+c+b):=by rw[e1]
  rw[ZJj,ZJj,ZJj,←ZJk,←ZJy]at q2;rw[ZJj]at hv;have hpw:Bw ^ (m+2+1)=Bw ^ (m+3):=rfl;rw[hpw]at q2;have hdn:Dg (o.set (m+2) ((e+4294967296 - c - b) % 4294967296)):=hod.set _ (ZJi _ (by decide));have hlt:=ZwW hdn;rw[ZIS,hol]at hlt;have hl3:(o.set (m+2) ((e+4294967296 - c - b) % 4294967296)).length=m+3:=by rw[ZIS,hol]
  generalize o.set (m+2) ((e+4294967296 - c - b) % 4294967296)=w3 at*
  generalize (e+4294967296 - c - b) % 4294967296=dd at*
  by_cases hcc:e < c+b
  ·rw[if_pos hcc]at q2⊢
   rw[show (((1:Nat):Int) == 0)=false from rfl,cond_false];rw[ZoM d];exact ZEt (pre:=pre) (suf:=suf) hl3 hd hdn hdd hm hg (by omega) hg2 (by omega)
  ·rw[if_neg hcc]at q2⊢
   rw[show (((0:Nat):Int) == 0)=true from rfl,cond_true,Zok];have key:val w3+g*val d=val w:=by omega
   have hlt3:val w3 < val d:=by have h5:(val w / val d)*val d≤g*val d:=ZJo _ hq;have h6:=ZI5 (val w) (val d);have h7:=ZJi (val w) hDpos;rw[ZJl]at h6;omega
   have eq1:val w / val d=g:=by rw[←key,ZI2 _ _ hDpos,ZI6 hlt3,ZJD]
   have eq2:val w % val d=val w3:=by rw[←key,ZI3,ZJh hlt3]
   exact⟨w3,by rw[eq1],hl3,hdn,eq2.symm⟩
theorem ZDk {pre w suf d:List Nat} {m:Nat} (hw:w.length=m+3) (hd:d.length=m+2) (hwd:Dg w) (hdd:Dg d) (hm:m≤100000) (h1:1≤d[m+1]) (hlt:val w < Bw*val d):
  wp (Zv3 (iL (pre++(w++suf))) pre.length (m+3) (iL d)) (ZDu pre suf (val w) (val d) m):=by
 have hd1:=hdd.get (i:=m+1) (by omega);have hd2:=hdd.get (i:=m) (by omega);have h_u0:=hwd.get (i:=m+2) (by omega);have h_u1:=hwd.get (i:=m+1) (by omega);have h_u2:=hwd.get (i:=m) (by omega);have hdl:val (d.take m) < Bw ^ m:=by have:=ZwW (hdd.take m);rwa [ZIU,ZJf (by omega)]at this
 have hwl:val (w.take m) < Bw ^ m:=by have:=ZwW (hwd.take m);rwa [ZIU,ZJf (by omega)]at this
 have eW:=top3 hw;have eD:=ZHR hd;have hDpos:0 < val d:=by rw[eD];have:1*1≤(d[m+1]*Bw+d[m])*Bw ^ m:=ZJm (by simp only[Bw];omega) (Nat.pow_pos (by decide));omega
 have hk1:w[m+2]≤d[m+1]:=ZFN hdl hd2 (by rw[←eW,←eD];exact hlt);have hk2:(val w / val d)*d[m+1]≤w[m+2]*Bw+w[m+1]:=ZFM hwl h_u2 (by rw[←eW,←eD];exact Nat.div_mul_le_self _ _);have hqB:val w / val d < Bw:=(ZI7 hDpos).2 hlt;have hG:∃g:Nat,(if (4294967295:Int) < (IntKind.wrap .u64 (Int.tdiv (orK .u64 (shlK .u64 (IntKind.wrap .u64 (w[m+2]:Int)) 32) (IntKind.wrap .u64 (w[m+1]:Int))) (IntKind.wrap .u64 (d[m+1]:Int))))then (4294967295:Int)else (IntKind.wrap .u64 (Int.tdiv (orK .u64 (shlK .u64 (IntKind.wrap .u64 (w[m+2]:Int)) 32) (IntKind.wrap .u64 (w[m+1]:Int))) (IntKind.wrap .u64 (d[m+1]:Int)))))=(g:Int)∧g < Bw∧val w / val d≤g∧g*d[m+1]≤w[m+2]*Bw+w[m+1]∧w[m+2]*Bw+w[m+1] < g*d[m+1]+2*Bw:=by
  rw[ZBi h_u0 h_u1,Zph (by simp only[Bw]at hd1;omega)];have e1:Int.tdiv ((w[m+2]*4294967296+w[m+1]:Nat):Int) (d[m+1]:Int)=(((w[m+2]*4294967296+w[m+1]) / d[m+1]:Nat):Int):=by rw[Int.tdiv_eq_ediv_of_nonneg (by omega)];norm_cast
  have hnum:w[m+2]*4294967296+w[m+1] < 18446744073709551616:=by simp only[Bw]at h_u0 h_u1;omega
  have hle:(w[m+2]*4294967296+w[m+1]) / d[m+1]≤w[m+2]*4294967296+w[m+1]:=Nat.div_le_self _ _;rw[e1,Zph (by omega)];have hq2:val w / val d≤(w[m+2]*4294967296+w[m+1]) / d[m+1]:=(Nat.le_div_iff_mul_le (by omega)).2 hk2;have hdm:=ZI5 (w[m+2]*4294967296+w[m+1]) d[m+1];have hml:=ZJi (w[m+2]*4294967296+w[m+1]) (show 0 < d[m+1] by omega);rw[ZJl]at hdm;generalize (w[m+2]*4294967296+w[m+1]) / d[m+1]=q0 at*
  generalize (w[m+2]*4294967296+w[m+1]) % d[m+1]=r0 at*
  generalize val w / val d=qq at*
  by_cases hc:4294967295 < q0
  ·refine⟨4294967295,by rw[if_pos (by omega)];rfl,by simp only[Bw];omega,by simp only[Bw]at hqB;omega, ?_, ?_⟩
   ·have:=ZJo d[m+1] (show 4294967295≤q0 by omega);simp only[Bw];omega
   ·simp only[Bw]at*
    omega
  ·refine⟨q0,by rw[if_neg (by omega)],by simp only[Bw];omega,hq2, ?_, ?_⟩
   ·simp only[Bw];omega
   ·simp only[Bw]at*
    omega
 have h2:wp (Zw8 (iL (pre++(w++suf))) pre.length (m+3) (iL d)) (ZDu pre suf (val w) (val d) m):=by
  obtain⟨g,hg,hgB,hgq,hgd,hgr⟩:=hG;have e1:((m+2:Nat):Int) - 1=((m+1:Nat):Int):=by omega
  unfold Zw8;rw[ZoM,hd,e1,ZII,ZII,rdw (by omega),rdw (by omega),Zvd (by omega)];rw[Zom,Zol,Zok,Zom,Zom,Zom,Zol,Zok,Zom,Zol,Zok,Zom,Zom,Zol,Zok,hg,ZBi h_u0 h_u1,ZEf hgB hd1,Zol];have er:IntKind.wrap .u64 (((w[m+2]*4294967296+w[m+1]:Nat):Int) - ((g*d[m+1]:Nat):Int))=((w[m+2]*4294967296+w[m+1] - g*d[m+1]:Nat):Int):=by simp only[Bw]at hgd hgr;rw[←Int.ofNat_sub hgd,Zph (by omega)]
  rw[er];refine⟨ZpA ⟨by omega,by omega⟩,by decide,Zoo (by omega),ZpA ⟨by omega,by omega⟩,Zoo (by omega),decide_eq_true (by rw[Zph (by simp only[Bw]at hd1;omega)];omega),Zoo (by omega), ?_⟩;refine Zow (ZDf hw hd hwd hdd h1 hlt hm hgB hgq (by simp only[Bw]at hgd⊢;omega) (by simp only[Bw]at hgr⊢;omega)) ?_;rintro y ⟨g',rfl,h3,h4,h5⟩;exact ZDX hw hd hwd hdd hm h3 hDpos h4 h5
 unfold Zv3;rw[Zol];refine Zow h2 ?_;rintro y ⟨w',rfl,h3,h4,h5⟩;rw[Zom,Zok];refine⟨?_,w',rfl,h3,h4,h5⟩;dsimp only;rw[ZoM,ZoM];simp[h3,hw]
end Go.Proofs
namespace Go.Proofs
open Go Eng
theorem ZDl (l:List Nat) (h:l.length≤1000000):ZrQ (iL l)=some (iL l):=by
 cases l with
 |nil=>
  have e1:Zou [] true=some []:=rfl;have e2:Zou [] false=some []:=by kernel_rfl
  show agree (Zou [] true) (Zou [] false)=some [];rw[e1,e2,Zx6]
 |cons x l=>
  show Zou (iL (x::l)) false=_;unfold Zou;rw[cond_false,Zxb (by rw[ZoM,List.length_nil];omega),chk_true];rfl
theorem Zz8 {l:List Nat} {k:Nat} (h:val l < Bw ^ k):val (l.take k)=val l:=by
 rcases ZJd k l.length with hk |hk
 ·have e:val l=val (l.take k++l.drop k):=by rw[ZIZ]
  rw[Zyt,ZIU,ZJf (by omega)]at e;rcases ZI8 (val (l.drop k))with hz |hz
  ·rw[hz,ZJu,ZI4]at e;exact e.symm
  ·have:=ZJn (Bw ^ k) hz;omega
 ·rw[ZI0 hk]
theorem ZHQ (u:List Nat) (k:Nat) (hk:k≤u.length) (hk2:k≤1000000):∃k',k'≤k∧val (u.take k')=val (u.take k)∧Zut (iL u) 0 k=some (0,k',iL u):=by
 have h:wp (Zvi (iL u) 0 k) (fun y=>∃k',k'≤k∧val (u.take k')=val (u.take k)∧y=(0,k',iL u)):=by
  unfold Zvi ZvJ;rw[Zol];refine Zow (Zrk Zyn (fun(j:Nat)=>(0,j,iL u)) (fun j=>j≤k∧val (u.take j)=val (u.take k)) (fun j=>j) (Q:=fun y=>∃k',k'≤k∧val (u.take k')=val (u.take k)∧y=(0,k',iL u)) k ⟨Nat.le_refl _,rfl⟩ (by omega) ?_) (fun y hy=>Zok.2 hy);rintro rec j ⟨hj,hv⟩ ih;unfold Zw5 Zva ZtY;dsimp only;cases j with
  |zero=>exact Zok.2 ⟨0,hj,hv,rfl⟩
  |succ j=>
   have hju:j < u.length:=by omega
   have e1:((j+1:Nat):Int) - 1=(j:Int):=by omega
   rw[ZoW];refine⟨fun _=> ?_,fun h=>by have:=of_decide_eq_false h;omega⟩;rw[e1,ZII,ZJD,Zom,Zom,ZzB hju,Zol,Zok,ZoW];refine⟨Zoo (by omega),ZpA ⟨by omega,by omega⟩,fun h=> ?_,fun h=> ?_⟩
   ·have h0:u[j]=0:=by have:=eq_of_beq h;omega
    rw[Zom,Zom];refine⟨Zoo (by omega),ZyC ⟨by omega,by omega,by omega⟩,ih j ⟨by omega, ?_⟩ (by omega)⟩;rw[←hv,Zpb hju,h0,ZJu,ZI4]
   ·exact Zok.2 ⟨j+1,hj,hv,rfl⟩
 obtain⟨y,hy,k',h1,h2,rfl⟩:=h;refine⟨k',h1,h2, ?_⟩;unfold Zut;rw[hy,ZJE];simp
theorem ZCo {x y s:Nat} (hs:s≤31) (hx:x < Bw) (hy:y < Bw):((y*4294967296+x) / 2 ^ s % 4294967296)*2 ^ s+x % 2 ^ s=x+Bw*(y % 2 ^ s):=by
 have e:(4294967296:Nat)=2 ^ (32 - s)*2 ^ s:=by rw[←ZJw,show 32 - s+s=32 by omega]
 have hp:=ZJB s;have h1:=ZI5 x (2 ^ s);have h2:=ZI5 y (2 ^ s);have hx2:x / 2 ^ s < 2 ^ (32 - s):=(ZI7 hp).2 (by rw[←e];exact hx);have hy2:=ZJi y hp;have e1:(y*4294967296+x) / 2 ^ s=y*2 ^ (32 - s)+x / 2 ^ s:=by rw[e,←ZJk,Nat.add_comm,ZI2 _ _ hp,Nat.add_comm]
 have e2:y*2 ^ (32 - s)+x / 2 ^ s=(y % 2 ^ s)*2 ^ (32 - s)+x / 2 ^ s+4294967296*(y / 2 ^ s):=by
  rw[e];have:y*2 ^ (32 - s)=(2 ^ s*(y / 2 ^ s)+y % 2 ^ s)*2 ^ (32 - s):=by rw[h2]
  rw[this,ZI1,ZJl (2 ^ s),ZJl (2 ^ (32 - s)),ZJk (y / 2 ^ s),ZJl (y / 2 ^ s)];omega
 have hlt:(y % 2 ^ s)*2 ^ (32 - s)+x / 2 ^ s < 4294967296:=by have:=ZJo (2 ^ (32 - s)) (show y % 2 ^ s+1≤2 ^ s from hy2);rw[ZI1,ZJv,ZJl (2 ^ s),←e]at this;omega
 rw[e1,e2,Nat.add_mul_mod_self_left,ZJh hlt,ZI1,ZJk,←e,ZJl (x / 2 ^ s),ZJl (y % 2 ^ s)];simp only[Bw];omega
theorem ZFp {u:List Nat} {k s R:Nat} (q:List Int) (hs:s≤31) (hd:Dg u) (hk:k≤u.length) (hk2:k≤1000000) (hv:val (u.take k)=R*2 ^ s):
  wp (Zr8 big (s:Int) 0 k ((k:Nat):Int) (0:Int) q (iL u)) (fun y=>∃(o:List Nat),y=(0,k,q,iL (o++u.drop k))∧o.length=k∧Dg o∧val o=R):=by
 refine Zve Zyf k (by omega) (fun i (o:List Nat)=>((s:Int),0,k,(k:Int),i,q,iL (o++u.drop o.length))) (fun i o=>o.length=i∧Dg o∧val o*2 ^ s+(if 0 < k then u.getD 0 0 else 0) % 2 ^ s=val (u.take i)+Bw ^ i*((if i < k then u.getD i 0 else 0) % 2 ^ s)) [] ⟨rfl,Zzq,by simp[val]⟩ ?_ ?_
 ·rintro rec i o hi ⟨hol,hod,hov⟩ ih;have hiu:i < u.length:=by omega
  have h1:=hd.get hiu;unfold ZuF ZsO;dsimp only;rw[ZoW];refine⟨fun _=> ?_,fun h=>by have:=of_decide_eq_false h;omega⟩;have hlen:(o++u.drop o.length).length=u.length:=by simp;omega
  have gx:(iL (o++u.drop o.length))[i]? =some (u[i]:Int):=by rw[ZzB (by omega)];congr 2;rw[ZIN (by omega)];simp[hol]
  obtain⟨y,hy,hyB,hye⟩:∃y:Nat,ZtW (iL (o++u.drop o.length)) 0 k ((i:Int)+1)=some ((y:Int),iL (o++u.drop o.length))∧y < Bw∧y=(if i+1 < k then u.getD (i+1) 0 else 0):=by
   unfold ZtW Zwo
   by_cases hc:i+1 < k
   ·have hiu2:i+1 < u.length:=by omega
    have gy:(iL (o++u.drop o.length))[i+1]? =some (u[i+1]:Int):=by rw[ZzB (by omega)];congr 2;rw[ZIN (by omega)];simp[hol]
    refine⟨u[i+1], ?_,hd.get hiu2, ?_⟩
    ·rw[decide_eq_true (by omega),cond_true,ZpA ⟨by omega,by omega⟩,chk_true,ZJD,show ((i:Int)+1).toNat=i+1 by omega,gy];simp
    ·rw[if_pos hc,ZIK,ZIL hiu2];rfl
   ·refine⟨0, ?_,by decide,by rw[if_neg hc]⟩;rw[decide_eq_false (by omega),cond_false];simp
  rw[hy,Zom,Zol,Zok];dsimp only;rw[ZII,ZJD,gx,Zom,Zom,Zol,Zok,Zom,Zom,Zom,ZBi hyB h1,ZzF s (by omega),Zwx];refine⟨Zoo (by omega),by decide,ZpA ⟨by omega,by omega⟩,by simp,ZpA ⟨by omega,by omega⟩,Zoo (by omega), ?_⟩;generalize ez:(y*4294967296+u[i]) / 2 ^ s % 4294967296=z;have hz:z < Bw:=by rw[←ez];exact ZJi _ (by decide)
  have es:(iL (o++u.drop o.length)).set i (z:Int)=iL ((o++[z])++u.drop (o++[z]).length):=by rw[ZyI,ZIX _ _ (by omega),hol,ZJA,←ZIO (h:=hiu),ZIY];simp[hol]
  rw[es];refine ih (o++[z]) ⟨by simp[hol],hod.app (ZyJ hz), ?_⟩;have hd1:=ZCo hs h1 hyB;rw[ez]at hd1;have q1:Bw ^ i*(z*2 ^ s+u[i] % 2 ^ s)=Bw ^ i*(u[i]+Bw*(y % 2 ^ s)):=by rw[hd1]
  have eg:u.getD i 0=u[i]:=by rw[ZIK,ZIL hiu];rfl
  rw[if_pos hi,eg]at hov;rw[ZJj,ZJj]at q1;rw[Zv0,hol,Zpb hiu,←hye,ZJy,ZI1,ZJk,ZJk];omega
 ·rintro rec o ⟨hol,hod,hov⟩;unfold ZuF ZsO;dsimp only;rw[ZoW];refine⟨fun h=>by have:=of_decide_eq_true h;omega,fun _=> ?_⟩;rw[Zok];refine⟨o,by rw[hol],hol,hod, ?_⟩;rw[if_neg (Nat.lt_irrefl _),Nat.zero_mod,ZJu,ZI4,hv]at hov;have hp:=ZJB s;have:(val o*2 ^ s+(if 0 < k then u.getD 0 0 else 0) % 2 ^ s) / 2 ^ s=R*2 ^ s / 2 ^ s:=by rw[hov]
  rw[Nat.add_comm,ZI2 _ _ hp,ZI6 (ZJi _ hp),Nat.mul_div_cancel _ hp]at this;omega
theorem ZB7 {x s:Nat} (hs:s≤31) (h:x*2 ^ s < 4294967296):(x+1)*2 ^ s≤4294967296:=by
 have e:(4294967296:Nat)=2 ^ (32 - s)*2 ^ s:=by rw[←ZJw,show 32 - s+s=32 by omega]
 rw[e]at h⊢
 exact ZJo _ (Nat.lt_of_mul_lt_mul_right h)
theorem ZCX {d u:List Nat} {m K s U:Nat} (hd:d.length=m+2) (hdd:Dg d) (h1:1≤d[m+1]) (hu:u.length=K+m+2) (hud:Dg u) (hU:val u=U) (hlt:U < Bw ^ K*val d) (hK:K≤100000) (hm:m≤100000):
  wp (Zr9 big ((m+2:Nat):Int) (s:Int) (iL d) ((K:Int) - 1) (iL u) (iL (ZIW K 0))) (fun y=>∃u' qs:List Nat,y=(((m+2:Nat):Int),(s:Int),iL u',iL qs)∧u'.length=K+m+2∧Dg u'∧qs.length=K∧Dg qs∧val u'+val qs*val d=U∧val u' < val d):=by
 rw[show iL (ZIW K 0)=iL (ZIW (K - ([]:List Nat).length) 0++[]) by simp];have hDlt:=ZwW hdd;rw[hd]at hDlt;refine ZAp Zyg K (by omega) (fun i (t:List Nat×List Nat)=>(((m+2:Nat):Int),(s:Int),iL d,i,iL t.1,iL (ZIW (K - t.2.length) 0++t.2))) (fun k t=>t.1.length=K+m+2∧Dg t.1∧t.2.length+k=K∧Dg t.2∧val t.1+Bw ^ k*(val t.2*val d)=U∧val t.1 < Bw ^ k*val d) (u,[]) ⟨hu,hud,by simp,Zzq,by simp[val,hU],by rw[hU];exact hlt⟩ ?_ ?_
 ·rintro rec k ⟨v,qs⟩ hk ⟨hvl,hvd,hql,hqd,hv,hvlt⟩ ih;dsimp only at hvl hvd hql hqd hv hvlt ih;unfold ZuG ZsP;dsimp only;have hwl:((v.drop k).take (m+3)).length=m+3:=by simp;omega
  have hpl:(v.take k).length=k:=by simp;omega
  have esplit:v=v.take k++((v.drop k).take (m+3)++v.drop (k+(m+3))):=by rw[←List.drop_drop,ZIZ,ZIZ]
  have hvs:val v=val (v.take k)+Bw ^ k*(val ((v.drop k).take (m+3))+Bw ^ (m+3)*val (v.drop (k+(m+3)))):=by
   have:val v=val (v.take k++((v.drop k).take (m+3)++v.drop (k+(m+3)))):=by rw[←esplit]
   rw[this,Zyt,Zyt,hpl,hwl]
  have hpd:=ZwW (hvd.take k);rw[hpl]at hpd;have hwd:=(hvd.drop k).take (m+3);have hsd:=hvd.drop (k+(m+3));have hvd':=hvd;generalize v.take k=pre at*
  generalize (v.drop k).take (m+3)=w at*
  generalize v.drop (k+(m+3))=suf at*
  subst esplit;have hX:val w+Bw ^ (m+3)*val suf < Bw*val d:=by
   have:Bw ^ k*(val w+Bw ^ (m+3)*val suf) < Bw ^ k*(Bw*val d):=by rw[←ZJk,←ZJy];show _ < Bw ^ (k+1)*val d;omega
   exact Nat.lt_of_mul_lt_mul_left this
  have hs0:val suf=0:=by
   rcases ZI8 (val suf)with hz |hz
   ·exact hz
   ·exfalso;have h5:=ZJn (Bw ^ (m+3)) hz;have h6:Bw*val d≤Bw*Bw ^ (m+2):=ZJn _ (ZI9 hDlt);rw[ZJl Bw (Bw ^ (m+2)),←ZJy]at h6;have h7:Bw*val d≤Bw ^ (m+3):=h6;omega
  rw[hs0,ZJu,ZI4]at hX hvs;rw[ZoW];refine⟨fun _=> ?_,fun h=>by have:=of_decide_eq_false h;omega⟩;rw[Zom,Zom,Zom,Zol,ZoM,hvl];refine⟨Zoo (by omega),Zoo (by omega),ZyC ⟨by omega,by omega,by omega⟩, ?_⟩;rw[show ((k:Int)+((m+2:Nat):Int)+1).toNat - (k:Int).toNat=m+3 by omega,ZII];have hdw:=ZDk (pre:=pre) (suf:=suf) hwl hd hwd hdd hm h1 hX;rw[hpl]at hdw;refine Zow hdw ?_;rintro y ⟨w',rfl,hw'l,hw'd,hw'v⟩;dsimp only;have hDpos:0 < val d:=by
   rcases ZI8 (val d)with hz |hz
   ·rw[hz,ZJu]at hX;omega
   ·exact hz
  have hq:val w / val d < Bw:=(ZI7 hDpos).2 hX;have hdm:=ZI5 (val w) (val d);have hml:=ZJi (val w) hDpos;generalize val w / val d=q at*
  have es:(ZIW (K - qs.length) 0++qs).set k q=ZIW (K - (qs.length+1)) 0++q::qs:=by
   have e:K - qs.length=k+1:=by omega
   have e2:K - (qs.length+1)=k:=by omega
   rw[e,e2,List.replicate_succ',List.append_assoc,ZIX _ _ (by simp),ZIR,ZJA];rfl
  rw[Zom,Zom,ZyI,es];refine⟨ZpA ⟨by omega,by rw[ZoM];simp only[ZIP,ZIR];omega⟩,Zoo (by omega), ?_⟩;have hsl:suf.length+(k+(m+3))=K+m+2:=by rw[←hvl,ZIP,ZIP,hpl,hwl];omega
  refine ih (pre++(w'++suf),q::qs) ⟨?_, ?_,by simp only[ZIQ];omega,fun y hy=> ?_, ?_, ?_⟩
  ·simp only[ZIP,hpl,hw'l];omega
  ·refine Dg.app (fun y hy=>hvd' y (List.mem_append_left _ hy)) (Dg.app hw'd hsd)
  ·rcases ZIV.1 hy with rfl |hy
   ·exact hq
   ·exact hqd y hy
  ·dsimp only;rw[Zyt,Zyt,hpl,hs0,ZJu,ZI4,hw'v,val,ZI1,ZJj];rw[hvs,←hdm,ZJj,ZJy,ZJk]at hv;rw[ZJl q (val d),ZJk Bw];omega
  ·dsimp only;rw[Zyt,Zyt,hpl,hs0,ZJu,ZI4,hw'v];have:=ZJn (Bw ^ k) (show val w % val d+1≤val d from hml);rw[ZJj,ZJt]at this;omega
 ·rintro rec ⟨v,qs⟩ ⟨hvl,hvd,hql,hqd,hv,hvlt⟩;dsimp only at hvl hvd hql hqd hv hvlt;unfold ZuG ZsP;dsimp only;rw[ZoW];refine⟨fun h=>by have:=of_decide_eq_true h;omega,fun _=> ?_⟩;rw[Zok];rw[Nat.pow_zero,ZJv]at hv hvlt;refine⟨v,qs, ?_,hvl,hvd,hql,hqd,hv,hvlt⟩;rw[show K - qs.length=0 by omega];rfl
end Go.Proofs
namespace Go.Proofs
open Go Eng
theorem ZCt (a b:Nat) (hb0:b≠0) (ha:(wd a).length≤50000) (hb:(wd b).length≤50000):Ztn (iL (wd a)) (iL (wd b))=some (iL (wd (a / b)),iL (wd (a % b))):=by
 refine ZuQ ?_;unfold Ztn;rw[Zz7 a b (by omega) (by omega),Zol,Zok,ZoW];refine⟨fun h=> ?_,fun h=> ?_⟩
 ·have hab:a < b:=by
   have:=of_decide_eq_true h;rcases ZJe a b with h1 |h1 |h1
   ·exact h1
   ·rw[h1,Zw6]at this;omega
   ·rw[Zxx h1]at this;omega
  rw[ZDl _ (by omega),Zol,Zok,Zok,ZI6 hab,ZJh hab,ZvC,ZFQ]
 ·have hab:b≤a:=by
   have:=of_decide_eq_false h;rcases ZJe a b with h1 |h1 |h1
   ·rw[ZxR h1]at this;omega
   ·omega
   ·omega
  have hlb:=Zto hb0;rw[ZoM,ZoM,ZoW];refine⟨fun h=> ?_,fun h=> ?_⟩
  ·have h1:(wd b).length=1:=by have:=eq_of_beq h;omega
   have hbB:b < Bw:=by have:=ZwV b;rwa [h1,Nat.pow_one]at this
   have eb:idx (iL (wd b)) 0=some (b:Int):=by rw[Zzy hb0,ZJh hbB];rfl
   rw[eb,Zol,Zok,ZCZ a b hb0 hbB (by omega),Zol,Zok];dsimp only;have hr:a % b < Bw:=Nat.lt_trans (ZJi _ (by omega)) hbB;rw[show ([((a % b:Nat):Int)]:List Int)=iL [a % b]from rfl,Zze (ZyJ hr) (by simp),Zol,Zok,Zok];simp only[val,ZJu,ZI4]
  ·obtain⟨m,hm⟩:∃m,(wd b).length=m+2:=⟨(wd b).length - 2,by
    have:(wd b).length≠1:=fun e=>by rw[e]at h;exact absurd h (by decide)
    omega⟩
   have hla:m+2≤(wd a).length:=by
    rcases ZJd (wd a).length (wd b).length with h1 |h1
    ·have:=ZAU h1;omega
    ·omega
   have hi:m+1 < (wd b).length:=by omega
   have htop:(wd b)[m+1]≠0:=fun e=>by have h1:=Zpb hi;rw[e,ZJu,ZI4,ZI0 (by omega),Zti]at h1;have h2:=ZwW ((Zv6 b).take (m+1));rw[ZIU,ZJf (by omega)]at h2;have h3:=ZA9 hi;omega
   obtain⟨s,hs,hse,hs1,hs2⟩:=ZFG htop ((Zv6 b).get hi);have e1:((m+2:Nat):Int) - 1=((m+1:Nat):Int):=by omega
   rw[hm,e1,Zvd hi,Zom,Zol,Zok,hse,Zol,Zok];refine⟨Zoo (by omega), ?_⟩;obtain⟨u,hu,hud,hul,huv⟩:=ZAQ (wd a) s hs (by omega) (Zv6 a);obtain⟨v,hv,hvd,hvl,hvv⟩:=ZAQ (wd b) s hs (by omega) (Zv6 b);rw[hu,Zol,Zok,hv,Zol,Zok,Zom,Zom,Zom,Zom,Zom];rw[Zti]at huv hvv;have hvlt:val v < Bw ^ (m+2):=by
    have h1:=Zpb hi;rw[ZI0 (by omega),Zti]at h1;have h2:=ZwW ((Zv6 b).take (m+1));rw[ZIU,ZJf (by omega)]at h2;have h3:b+1≤Bw ^ (m+1)*((wd b)[m+1]+1):=by rw[ZJj,ZJt];omega
    have h4:=ZJo (2 ^ s) h3;have h5:=ZJn (Bw ^ (m+1)) (ZB7 hs hs2);rw[ZJk]at h4;have h6:=ZJB s;rw[ZI1,ZJv]at h4;rw[hvv,ZJy];show _ < Bw ^ (m+1)*4294967296;omega
   obtain⟨K,hK⟩:∃K,(wd a).length=K+m+1:=⟨(wd a).length - m - 1,by omega⟩;have eK:((wd a).length:Int) - ((m+2:Nat):Int)+1=(K:Int):=by omega
   have ed:((iL v).drop 0).take (((m+2:Nat):Int).toNat - 0)=iL (v.take (m+2)):=by rw[ZIJ,ZII,Nat.sub_zero,ZBB]
   have hdv:val (v.take (m+2))=b*2 ^ s:=by rw[Zz8 hvlt,hvv]
   have hdl:(v.take (m+2)).length=m+2:=by rw[ZIU];omega
   have hdd:=hvd.take (m+2);rw[eK,ed,ZII,ZAV,ZoM v,ZoM (ZIW K 0),ZIR];refine⟨ZyC ⟨by omega,by omega,by omega⟩,Zoo (by omega),Zoo (by omega),Zzv (by omega),Zoo (by omega), ?_⟩;generalize v.take (m+2)=d at*
   have hp:=ZJB s;have h1:1≤d[m+1]:=by
    rcases ZI8 d[m+1]with hz |hz
    ·exfalso;have h1:=Zpb (l:=d) (k:=m+1) (by omega);rw[hz,ZJu,ZI4,ZI0 (by omega)]at h1;have h2:=ZwW (hdd.take (m+1));rw[ZIU,ZJf (by omega)]at h2;rw[hdv]at h1;have h3:=ZA9 hi;have:=Nat.le_mul_of_pos_right b hp;omega
    ·exact hz
   have hUlt:a*2 ^ s < Bw ^ K*val d:=by have h2:=ZwV a;have h3:=ZJn (Bw ^ K) (ZA9 hi);rw[←ZJw,←Nat.add_assoc,←hK]at h3;rw[hdv,←ZJk];exact ZJr (by omega) hp
   rw[Zol];refine Zow (ZCX (s:=s) hdl hdd h1 (by omega) hud huv hUlt (by omega) (by omega)) ?_;rintro y ⟨u',qs,rfl,hu'l,hu'd,hql,hqd,hv',hlt'⟩;dsimp only;have hDpos:0 < val d:=by omega
   have eq1:val qs=a / b:=by rw[←Nat.mul_div_mul_right a b hp,←hdv,←hv',ZI2 _ _ hDpos,ZI6 hlt',ZJD]
   have eq2:val u'=a % b*2 ^ s:=by rw[←ZJs,←hdv,←hv',ZI3,ZJh hlt']
   have hDlt:=ZwW hdd;rw[hdl]at hDlt;have hut:val (u'.take (m+2))=val u':=Zz8 (by omega);obtain⟨k',hk',hkv,hke⟩:=ZHQ u' (m+2) (by omega) (by omega);unfold Zvt;rw[ZII,Nat.sub_zero,hke,Zom,Zol,Zok,ZoM];refine⟨ZyC ⟨by omega,by omega,by omega⟩, ?_⟩;dsimp only;rw[Zol];refine Zow (ZFp (R:=a % b) (iL qs) hs hu'd (by omega) (by omega) (by rw[hkv,hut,eq2])) ?_;rintro y ⟨o,rfl,hol,hod,hov⟩;dsimp only;unfold Zvs;have eo:((iL (o++u'.drop k')).drop 0).take k'=iL o:=by rw[ZIJ,ZBB,List.take_left' hol]
   rw[eo,Zze hqd (by omega),Zol,Zok,Zze hod (by omega),Zol,Zok,Zok,eq1,hov]
theorem ZvD {a b:Nat} (h:a≤b):(wd a).length≤(wd b).length:=Zx7 (ZJb h (ZwV b))
theorem ZAD:∀(n a b:Nat),b≤a→a*b < 2 ^ n→(wd a).length≤50000→∀f,n < f→ZpO f (iL (wd a)) (iL (wd b))=some (iL (wd (Nat.gcd a b)))
 |n,a,b,hba,hn,ha,0,hf=>absurd hf (by omega)
 |n,a,b,hba,hn,ha,f+1,hf=>by
  show ZqW (ZpO f) _ _=_;unfold ZqW;rw[ZoM]
  by_cases h0:b=0
  ·subst h0;rw[ZvC,Nat.gcd_zero_right];rfl
  ·have hl:=Zto h0;rw[decide_eq_true (by omega),cond_true,ZCt a b h0 ha (ZJa (ZvD hba) ha),ZJE];dsimp only;have hlt:=ZJi a (show 0 < b by omega);cases n with
   |zero=>
    have:1*1≤a*b:=ZJm (by omega) (by omega);rw[Nat.pow_zero]at hn;omega
   |succ n=>
    have hdm:=ZI5 a b;have hq:1≤a / b:=(Nat.le_div_iff_mul_le (by omega)).2 (by omega);have h1:=ZJn b hq;have h2:b*(2*(a % b))≤b*a:=ZJn b (by omega);rw[ZJp,ZJl b a]at h2;rw[ZAD n b (a % b) (by omega) (by rw[ZJy]at hn;omega) (ZJa (ZvD hba) ha) f (by omega),Nat.gcd_comm a b,Nat.gcd_rec b a,Nat.gcd_comm]
theorem ZCE (a b:Nat) (ha:(wd a).length≤50000) (hb:(wd b).length≤50000):ZtV (iL (wd a)) (iL (wd b))=some (iL (wd (Nat.gcd a b))):=by
 have bnd:∀x y:Nat,x*y < 2 ^ (32*(wd x).length+32*(wd y).length):=fun x y=>by
  have e:∀z,z < 2 ^ (32*(wd z).length):=fun z=>by
   have:=ZwV z
   rwa [show Bw=2 ^ 32 from rfl,←Nat.pow_mul]at this
  have h1:=ZJq (e x) (ZI9 (e y)) (ZJB _)
  rwa [←ZJw]at h1
 have key:ZpO big (iL (wd a)) (iL (wd b))=some (iL (wd (Nat.gcd a b))):=by
  obtain⟨k,hk,hk2⟩:∃k,big=k+1∧3200004 < k:=⟨36893488147419103231,by rw[big_eq],by omega⟩;rw[hk];rcases ZJd a b with h |h
  ·show ZqW (ZpO k) _ _=_;unfold ZqW;have h0:b≠0:=by omega
   have hl:=Zto h0;rw[ZoM,decide_eq_true (by omega),cond_true,ZCt a b h0 ha hb,ZJE];dsimp only;rw[ZJh h,ZAD _ b a (by omega) (bnd b a) hb k (by omega),Nat.gcd_comm]
  ·exact ZAD _ a b h (bnd a b) ha (k+1) (by omega)
 unfold ZtV ZuH;rw[key,ZJE]
end Go.Proofs
namespace Go.Proofs
open Go Eng
def bg (z:Int):Zoq:=⟨decide (z < 0),iL (wd z.natAbs)⟩
theorem ZxO (z:Int):(bg z).Neg=decide (z < 0):=rfl
theorem ZrY (z:Int):(bg z).Words=iL (wd z.natAbs):=rfl
abbrev Wl (n:Nat) (z:Int):Prop:=(wd z.natAbs).length≤n
theorem ZzN (neg:Bool) (n:Nat) (h:(wd n).length≤1000000):Zs2 neg (iL (wd n))=some (bg (if neg then -(n:Int)else n)):=by
 unfold Zs2 Zvj bg;have hr:Zjq (iL (wd n)).length 4=true:=Zxb (by rw[ZoM];omega);cases neg with
 |true=>
  rw[cond_true,hr,chk_true,ZoM,if_pos rfl,ZIF,ZIE];congr 2
  by_cases h0:n=0
  ·subst h0;rw[ZvC];rfl
  ·have:=Zto h0;rw[decide_eq_true (by omega),decide_eq_true (by omega)]
 |false=>
  rw[cond_false,hr,chk_true,if_neg (by decide),ZIE,decide_eq_false (by omega)]
theorem ZzE (z:Int) (h:Wl 256 z):Zum (bg z)=some true:=by
 unfold Wl at h;have top:∀hp:0 < (wd z.natAbs).length,∃x:Nat,idx (iL (wd z.natAbs)) (((wd z.natAbs).length:Int) - 1)=some (x:Int)∧x≠0:=fun hp=>by
  refine⟨(wd z.natAbs)[(wd z.natAbs).length - 1], ?_,fun e=> ?_⟩
  ·rw[show ((wd z.natAbs).length:Int) - 1=(((wd z.natAbs).length - 1:Nat):Int) by omega,Zvd (by omega)]
  ·have hi:(wd z.natAbs).length - 1 < (wd z.natAbs).length:=by omega
   have h1:=Zpb hi;rw[e,ZJu,ZI4,ZI0 (by omega),Zti]at h1;have h2:=ZwW ((Zv6 z.natAbs).take ((wd z.natAbs).length - 1));rw[ZIU,ZJf (by omega)]at h2;have h3:=ZA9 hi;omega
 unfold Zum Zp2;rw[ZrY,ZxO,ZoM,decide_eq_true (by omega),cond_true]
 by_cases h0:(wd z.natAbs).length=0
 ·have:z=0:=by have:=ZFg.1 (List.eq_nil_of_length_eq_zero h0);omega
  subst this;rw[h0];rfl
 ·obtain⟨x,hx,hx0⟩:=top (by omega);have e0:(((wd z.natAbs).length:Int) == 0)=false:=beq_eq_false_iff_ne.2 (by omega);have e1:((x:Int) != 0)=true:=by simp only[bne_iff_ne];omega
  rw[e0,cond_false,decide_eq_true (by omega),cond_true,Zoo (by omega),chk_true,hx,ZJE,e1]
theorem ZCF (x y:Int):(if (!((bg x).Neg == (bg y).Neg))=true then -((x.natAbs*y.natAbs:Nat):Int)else ((x.natAbs*y.natAbs:Nat):Int))=x*y:=by
 rw[ZxO,ZxO]
 by_cases hx:x < 0<;>by_cases hy:y < 0
 ·rw[decide_eq_true hx,decide_eq_true hy,if_neg (by decide),ZIH,show ((x.natAbs:Nat):Int)= -x by omega,show ((y.natAbs:Nat):Int)= -y by omega,Int.neg_mul_neg]
 ·rw[decide_eq_true hx,decide_eq_false hy,if_pos (by decide),ZIH,show ((x.natAbs:Nat):Int)= -x by omega,show ((y.natAbs:Nat):Int)=y by omega,Int.neg_mul,Int.neg_neg]
 ·rw[decide_eq_false hx,decide_eq_true hy,if_pos (by decide),ZIH,show ((x.natAbs:Nat):Int)=x by omega,show ((y.natAbs:Nat):Int)= -y by omega,Int.mul_neg,Int.neg_neg]
 ·rw[decide_eq_false hx,decide_eq_false hy,if_neg (by decide),ZIH,show ((x.natAbs:Nat):Int)=x by omega,show ((y.natAbs:Nat):Int)=y by omega]
theorem ZBF {x y:Nat} {n m:Nat} (hx:(wd x).length≤n) (hy:(wd y).length≤m):(wd (x*y)).length≤n+m:=by refine Zx7 ?_;have h1:=ZJq (ZwV x) (ZI9 (ZwV y)) (Nat.pow_pos (by decide));rw[←ZJw]at h1;exact ZJc h1 (ZJx (by decide) (by omega))
theorem ZAS (x y:Int) (hx:Wl 50000 x) (hy:Wl 50000 y):ZsC (bg x) (bg y)=some (bg (x*y)):=by unfold ZsC;have:=ZBF hx hy;rw[ZrY,ZrY,ZCW _ _ (by omega) (by omega),ZJE,ZzN _ _ (by omega),ZJE,ZCF]
theorem ZDw {x y n:Nat} (hx:(wd x).length≤n) (hy:(wd y).length≤n):(wd (x+y)).length≤n+1:=by refine Zx7 ?_;have h1:=ZJc (ZwV x) (ZJx (n:=Bw) (by decide) hx);have h2:=ZJc (ZwV y) (ZJx (n:=Bw) (by decide) hy);rw[ZJy];have:=ZJn (Bw ^ n) (show 2≤Bw by decide);omega
theorem ZFn (x y:Int) (hx:Wl 50000 x) (hy:Wl 50000 y):ZxA (bg x) (bg y)=some (bg (x+y)):=by
 unfold Wl at hx hy;unfold ZxA;have h1:=ZDw hx hy;rw[ZrY,ZrY,ZxO,ZxO];have opp:decide (x < 0)≠decide (y < 0)→Zqe (iL (wd x.natAbs)) (iL (wd y.natAbs))=some (ZAT x.natAbs y.natAbs):=fun _=>Zz7 _ _ (by omega) (by omega)
 by_cases hs:decide (x < 0)=decide (y < 0)
 ·rw[hs,beq_self_eq_true,cond_true,ZEa _ _ (by omega) (by omega),ZJE,ZzN _ _ (by omega),ZJE];congr 2
  by_cases hy0:y < 0
  ·have hx0:x < 0:=by rw[decide_eq_true hy0]at hs;exact of_decide_eq_true hs
   rw[decide_eq_true hy0,if_pos rfl];omega
  ·have hx0:¬x < 0:=by rw[decide_eq_false hy0]at hs;exact of_decide_eq_false hs
   rw[decide_eq_false hy0,if_neg (by decide)];omega
 ·rw[beq_eq_false_iff_ne.2 hs,cond_false,opp hs,ZJE];rcases ZJd x.natAbs y.natAbs with hlt |hge
  ·have:=ZvD (Nat.sub_le y.natAbs x.natAbs);rw[ZxR hlt,decide_eq_false (by omega),cond_false,ZBP _ _ (by omega) (by omega),ZJE,ZzN _ _ (by omega),ZJE];congr 2
   by_cases hy0:y < 0
   ·have hx0:¬x < 0:=fun h=>hs (by rw[decide_eq_true hy0,decide_eq_true h])
    rw[decide_eq_true hy0,if_pos rfl];omega
   ·have hx0:x < 0:=Decidable.byContradiction fun h=>hs (by rw[decide_eq_false hy0,decide_eq_false h])
    rw[decide_eq_false hy0,if_neg (by decide)];omega
  ·have hn:ZAT x.natAbs y.natAbs≥0:=by
    rcases ZJd y.natAbs x.natAbs with h |h
    ·rw[Zxx h];decide
    ·rw[show x.natAbs=y.natAbs by omega,Zw6];decide
   have:=ZvD (Nat.sub_le x.natAbs y.natAbs);rw[decide_eq_true hn,cond_true,ZBP _ _ hge (by omega),ZJE,ZzN _ _ (by omega),ZJE];congr 2
   by_cases hx0:x < 0
   ·have hy0:¬y < 0:=fun h=>hs (by rw[decide_eq_true hx0,decide_eq_true h])
    rw[decide_eq_true hx0,if_pos rfl];omega
   ·have hy0:y < 0:=Decidable.byContradiction fun h=>hs (by rw[decide_eq_false hx0,decide_eq_false h])
    rw[decide_eq_false hx0,if_neg (by decide)];omega
end Go.Proofs
namespace Go.Proofs
open Go Eng
def fOf (q:Rat):Zor:=⟨bg q.num,bg (q.den:Int)⟩
theorem ZFe {x y n:Nat} (hy:0 < y) (h:(wd y).length≤n):(wd (Nat.gcd x y)).length≤n:=ZJa (ZvD (Nat.gcd_le_right x hy)) h
theorem ZEs:∀l:List Int,l.length≤1000→(∀z∈l,Wl 256 z)→Zxn (l.map bg)=some true:=fun l hl h=>by
 refine ZuQ ?_;unfold Zxn;rw[Zol,List.length_map];refine Zow (Zve Zzf l.length (by omega) (fun i (_:Unit)=>(l.map bg,(l.length:Int),i)) (fun _ _=>True) (Q:=fun r=>r= .brk ()) () trivial ?_ ?_) ?_
 ·rintro rec i ⟨⟩ hi _ ih;unfold ZwS Zvk;dsimp only;rw[ZoW];refine⟨fun _=> ?_,fun h=>by have:=of_decide_eq_false h;omega⟩;rw[ZyY (by rw[List.length_map];exact hi),Zol,Zok,List.getElem_map,ZzE _ (h _ (List.getElem_mem hi)),Zol,Zok];rw[Bool.not_true,cond_false,Zom];exact⟨Zoo (by omega),ih () trivial⟩
 ·rintro rec ⟨⟩ _;unfold ZwS Zvk;dsimp only;rw[ZoW];refine⟨fun h=>by have:=of_decide_eq_true h;omega,fun _=>Zok.2 rfl⟩
 ·rintro r rfl;exact Zok.2 rfl
abbrev Wq (n:Nat) (q:Rat):Prop:=Wl n q.num∧Wl n (q.den:Int)
theorem ZAs:iL (wd 1)=[1]:=by rw[Zzy (by decide),show 1 / Bw=0 from rfl,ZvC];rfl
theorem ZBH (q:Rat) (h:Wq 256 q):ZvV (fOf q)=some true:=by
 unfold ZvV Zs4 fOf;have hb:=ZEs [q.num,(q.den:Int)] (by simp) (fun z hz=>by
  simp only[ZIV,List.not_mem_nil,or_false]at hz;rcases hz with rfl |rfl
  ·exact h.1
  ·exact h.2)
 have hd:=q.den_nz;have hl:=Zto (n:=(q.den:Int).natAbs) (by omega);have hn:=h.1;have hdl:=h.2;unfold Wl at hn hdl;dsimp only;rw[show ([bg q.num,bg (q.den:Int)]:List Zoq)=[q.num,(q.den:Int)].map bg from rfl,hb,ZJE,cond_true,ZrY,ZrY,ZoM,decide_eq_true (by omega),cond_true,ZxO,decide_eq_false (by omega),Bool.not_false,cond_true,ZCE _ _ (by omega) (by omega),ZJE];have hc:Nat.gcd q.num.natAbs (q.den:Int).natAbs=1:=q.reduced;have h1:(wd 1).length≤1:=Zx7 (by decide);rw[hc,←ZAs,Zz7 1 1 (by omega) (by omega),ZJE,Zw6];rfl
end Go.Proofs
namespace Go.Proofs
open Go Eng
def Sz (k:Nat) (q:Rat):Prop:=q.num.natAbs < 2 ^ k∧q.den < 2 ^ k
theorem Sz.mono {k l:Nat} {q:Rat} (h:Sz k q) (hl:k≤l):Sz l q:=⟨ZJc h.1 (ZJx (by decide) hl),ZJc h.2 (ZJx (by decide) hl)⟩
theorem ZCg {n k:Nat} (h:n < 2 ^ k) (m:Nat) (hk:k≤32*m):(wd n).length≤m:=by refine Zx7 (ZJc h ?_);rw[show Bw=2 ^ 32 from rfl,←Nat.pow_mul];exact ZJx (by decide) hk
theorem Sz.wq {k:Nat} {q:Rat} (h:Sz k q) (hk:k≤8192):Wq 256 q:=⟨ZCg h.1 256 (by omega),ZCg (n:=(q.den:Int).natAbs) (by rw[ZIE];exact h.2) 256 (by omega)⟩
theorem ZCi {x y:Int} {k:Nat} (hy:y≠0) (h1:x.natAbs < 2 ^ k) (h2:y.natAbs < 2 ^ k):Sz k (Rat.divInt x y):=by
 unfold Sz;rw[Rat.num_divInt,Rat.den_divInt,if_neg hy];refine⟨ZJb ?_ h1,ZJb (Nat.div_le_self _ _) h2⟩;have hd:((Int.gcd y x:Nat):Int)∣y.sign*x:=Int.dvd_trans (Int.gcd_dvd_right y x) (Int.dvd_mul_left _ _);rw[Int.natAbs_ediv_of_dvd hd,ZFw];refine ZJa (Nat.div_le_self _ _) ?_;have:y.sign.natAbs=1:=by rw[Int.natAbs_sign_of_ne_zero hy]
 rw[this,ZJv];exact Nat.le_refl _
theorem Zz1 {x y k l:Nat} (hx:x < 2 ^ k) (hy:y < 2 ^ l):x*y < 2 ^ (k+l):=by rw[ZJw];exact ZJq hx (ZI9 hy) (ZJB _)
theorem ZCa (a b:Rat):Rat.divInt (a.num*(b.den:Int)+b.num*(a.den:Int)) ((a.den:Int)*(b.den:Int))=a+b:=by have h1:=a.den_nz;have h2:=b.den_nz;rw[←Rat.divInt_add_divInt _ _ (by omega) (by omega),Rat.num_divInt_den,Rat.num_divInt_den]
theorem Sz.add {a b:Rat} {k l:Nat} (ha:Sz k a) (hb:Sz l b):Sz (k+l+1) (a+b):=by
 rw[←ZCa];have h1:=a.den_nz;have h2:=b.den_nz;have q1:=Zz1 ha.1 hb.2;have q2:=Zz1 ha.2 hb.1;have q3:=Zz1 ha.2 hb.2;have hp:=ZJB (k+l);refine ZCi (Int.mul_ne_zero (by omega) (by omega)) ?_ ?_
 ·rw[ZJy];refine ZJb (Int.natAbs_add_le _ _) ?_;rw[ZFw,ZFw,ZIE,ZIE,ZJl b.num.natAbs];omega
 ·rw[ZJy,ZFw,ZIE,ZIE];omega
theorem ZHS {q:Rat} (h:Wq 256 q):decide ((if ((fOf q).Den.Words.length:Int) > ((fOf q).Num.Words.length:Int)then ((fOf q).Den.Words.length:Int)else ((fOf q).Num.Words.length:Int)) > 256)=false:=by have h1:=h.1;have h2:=h.2;unfold Wl at h1 h2;refine decide_eq_false ?_;unfold fOf;rw[ZrY,ZrY,ZoM,ZoM];split<;>omega
theorem ZCD {y:Int} (hy:y≠0):(((bg y).Words.length:Int) == 0)=false:=by have:=Zto (n:=y.natAbs) (by omega);rw[ZrY,ZoM];exact beq_eq_false_iff_ne.2 (by omega)
end Go.Proofs
namespace Go.Proofs
open Go Eng
theorem ZBy (z:Int):ZvK (bg z)=some (bg (-z)):=by
 unfold ZvK Zuu;rw[ZxO,ZrY,ZoM]
 by_cases hz:z < 0
 ·rw[decide_eq_true hz,Bool.not_true,cond_false];unfold bg;rw[ZIF,decide_eq_false (by omega:¬ -z < 0)]
 ·rw[decide_eq_false hz,Bool.not_false,cond_true];unfold bg;rw[ZIF];congr 2
  by_cases h0:z=0
  ·subst h0;rw[show (0:Int).natAbs=0 from rfl,ZvC];rfl
  ·have:=Zto (n:=z.natAbs) (by omega);rw[decide_eq_true (by omega),decide_eq_true (by omega)]
theorem Sz.neg {q:Rat} {k:Nat} (h:Sz k q):Sz k (-q):=by show (-q.num).natAbs < 2 ^ k∧q.den < 2 ^ k;rw[ZIF];exact h
def ZA1 (a b:Rat):Int:=if a < b then -1 else if b < a then 1 else 0
theorem ZAm (a b:Rat):a < b↔a.num*(b.den:Int) < b.num*(a.den:Int):=Rat.lt_iff a b
theorem ZGb {a b:Rat} (qa:Wq 256 a) (qb:Wq 256 b):ZxB (fOf a) (fOf b)=some (ZA1 a b):=by
 have w:∀{x y:Int},Wl 256 x→Wl 256 y→Wl 50000 (x*y):=fun hx hy=>by unfold Wl;rw[ZFw];exact ZJa (ZBF hx hy) (by decide)
 have m:∀{x:Int},Wl 256 x→Wl 50000 x:=fun h=>ZJa h (by decide)
 unfold ZxB;rw[ZBH a qa,ZJE,Bool.not_true,cond_false,ZBH b qb,ZJE,Bool.not_true];unfold ZwI;rw[cond_false];show ((ZsC (bg a.num) (bg (b.den:Int))).bind fun q=>(ZsC (bg b.num) (bg (a.den:Int))).bind _)=_;rw[ZAS _ _ (m qa.1) (m qb.2),ZJE,ZAS _ _ (m qb.1) (m qa.2),ZJE,ZBy,ZJE];have w2:Wl 50000 (-(b.num*(a.den:Int))):=by unfold Wl;rw[ZIF];exact w qb.1 qa.2
 rw[ZFn _ _ (w qa.1 qb.2) w2,ZJE,ZxO,ZrY,ZoM];unfold ZA1;have h1:=ZAm a b;have h2:=ZAm b a;generalize a.num*(b.den:Int)=x at*
 generalize b.num*(a.den:Int)=y at*
 by_cases hl:a < b
 ·rw[if_pos hl,decide_eq_true (by have:=h1.1 hl;omega),cond_true]
 ·have hn:¬x < y:=fun h=>hl (h1.2 h)
  rw[if_neg hl,decide_eq_false (by omega),cond_false]
  by_cases hg:b < a
  ·have:=Zto (n:=(x+ -y).natAbs) (by have:=h2.1 hg;omega);rw[if_pos hg,decide_eq_true (by omega),cond_true]
  ·have hn2:¬y < x:=fun h=>hg (h2.2 h)
   rw[if_neg hg,show x+ -y=0 by omega,show (0:Int).natAbs=0 from rfl,ZvC];rfl
end Go.Proofs
namespace Go.Proofs
open Go Eng
theorem ZBI:∀n w,ZpI n w=Zqm n w
 |0,_=>rfl
 |n+1,w=>by have:ZpI n=Zqm n:=funext (ZBI n);show Zv1 (ZpI n) w=ZtX (Zqm n) w;rw[this];rfl
theorem ZBW (w:List Int):Zo0 w=Zpv w:=by unfold Zo0 Zpv;rw[ZBI];rfl
theorem ZzK {l:List Nat} (h:Dg l) (hl:l.length≤1000000):Zo0 (iL l)=some (iL (wd (val l))):=by rw[ZBW,Zze h hl]
theorem ZAF (neg:Bool) {l:List Nat} (h:Dg l) (hl:l.length≤1000000):ZoT neg (iL l)=some (bg (if neg then -(val l:Int)else val l)):=by
 unfold ZoT Ztb;rw[ZzK h hl,ZJE,ZoM];unfold bg;cases neg with
 |true=>
  rw[cond_true,if_pos rfl,ZIF,ZIE];congr 2
  by_cases h0:val l=0
  ·rw[h0,ZvC];rfl
  ·have:=Zto h0;rw[decide_eq_true (by omega),decide_eq_true (by omega)]
 |false=>rw[cond_false,if_neg (by decide),ZIE,decide_eq_false (by omega)]
theorem Zzz (a:Zoq):Zqa a=Zum a:=rfl
end Go.Proofs
