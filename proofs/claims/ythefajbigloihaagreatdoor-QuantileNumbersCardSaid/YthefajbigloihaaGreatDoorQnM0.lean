/- Plain laws over the specs, part 0. -/
import Derived.Test.YthefajbigloihaaGreatDoorE4
import Derived.Laws.BitsLemmas
import Derived.Laws.Bits64
import Derived.KernelRfl
import Derived.Test.YthefajbigloihaaGreatDoorQnS
set_option linter.unusedVariables false
set_option linter.unusedSimpArgs false
set_option linter.unusedSectionVars false
open Int renaming toNat_natCast→ZLJ, natCast_add→ZII, natCast_mul→ZLI
open List renaming replicate→ZLX, take_of_length_le→ZL1, length_take→ZLV, getElem?_eq_getElem→ZLM, length_append→ZLQ, length_replicate→ZLS, set_append_right→ZLY, mem_cons→ZLW, getD_eq_getElem?_getD→ZLL, length_cons→ZLR, getElem_cons_drop→ZLP, drop_zero→ZLK, length_set→ZLT, length_singleton→ZLU, take_append_drop→ZL0, set_cons_zero→ZLZ, getElem_append_right→ZLO, getElem?_eq_none→ZLN
open Nat renaming mul_add→ZMj, mul_assoc→ZMk, mod_lt→ZMi, mul_comm→ZMl, pow_succ→ZMx, mul_zero→ZMt, add_mul→ZL2, mul_le_mul_right→ZMo, add_zero→ZL5, mul_le_mul_left→ZMn, min_eq_left→ZMf, gcd→ZMa, pow_add→ZMv, one_mul→ZMu, two_pow_pos→ZMA, mod_eq_of_lt→ZMh, div_lt_iff_lt_mul→ZL8, lt_or_ge→ZMd, eq_zero_or_pos→ZL9, mod_add_div→ZMg, div_eq_of_lt→ZL7, le_trans→ZMb, zero_add→ZMC, sub_self→ZMz, div_add_mod→ZL6, mul_one→ZMs, lt_trichotomy→ZMe, mul_le_mul→ZMm, mul_left_comm→ZMp, lt_of_lt_of_le→ZMc, pow_le_pow_right→ZMw, add_mul_div_right→ZL3, xor_lt_two_pow→ZMB, shiftRight_xor_distrib→ZMy, mul_lt_mul_of_pos_right→ZMq, mul_mod_mul_right→ZMr, add_mul_mod_self_right→ZL4
open Option renaming bind_some→ZMD
namespace Go.Proofs
open Go Eng
def wp {α:Type} (o:Option α) (Q:α→Prop):Prop:=∃x,o=some x∧Q x
section
variable {α β:Type} {Q:α→Prop}
theorem ZnB {x:α}:wp (some x) Q↔Q x:=⟨fun⟨_,h,q⟩=>by cases h;exact q,fun q=>⟨x,rfl,q⟩⟩
theorem ZG0:wp (none:Option α) Q↔False:=by simp[wp]
theorem ZnC {o:Option β} {f:β→Option α}:wp (o.bind f) Q↔wp o (fun a=>wp (f a) Q):=by
 constructor
 ·rintro⟨x,h,q⟩;obtain⟨a,ha,h⟩:=bind_some h;exact⟨a,ha,x,h,q⟩
 ·rintro⟨a,rfl,x,h,q⟩;exact⟨x,h,q⟩
theorem ZnE {b:Bool} {o:Option α}:wp (chk b o) Q↔b=true∧wp o Q:=by cases b<;>simp[chk,wp]
theorem Zn3 {b:Bool} {x y:Option α}:wp (bif b then x else y) Q↔(b=true→wp x Q)∧(b=false→wp y Q):=by cases b<;>simp
theorem ZIs {xs:List α} {i:Nat}:wp (xs[i]?) Q↔∃h:i < xs.length,Q xs[i]:=by
 constructor
 ·rintro⟨x,h,q⟩;obtain⟨h1,h2⟩:=List.getElem?_eq_some_iff.1 h;subst h2;exact⟨h1,q⟩
 ·rintro⟨h,q⟩;exact⟨_,ZLM h,q⟩
theorem ZGi {xs:List α} {i:Int}:wp (idx xs i) Q↔0≤i∧∃h:i.toNat < xs.length,Q xs[i.toNat]:=by
 unfold idx;split
 ·rename_i h;rw[ZIs];simp[h]
 ·rename_i h;rw[ZG0];simp[h]
theorem ZnI {R:α→Prop} {o:Option α} (h:wp o Q) (hr:∀x,Q x→R x):wp o R:=by obtain⟨x,h,q⟩:=h;exact⟨x,h,hr x q⟩
theorem Zq6 {o:Option α} {x:α} (h:wp o (· =x)):o=some x:=by obtain⟨y,h,rfl⟩:=h;exact h
theorem ZEF (a:Option α):agree a a=a:=by unfold agree;rw[if_pos rfl]
end
theorem ZnH {n:Int} (h: -9223372036854775808≤n∧n≤9223372036854775807):inK .i64 n=true:=by
 have h0:IntKind.i64.min= -9223372036854775808:=by decide
 have h1:IntKind.i64.max=9223372036854775807:=by decide
 simp only[inK,h0,h1];exact decide_eq_true h
theorem Zyc {n b:Nat} (h:n*(b+1)≤140737488355328):ZiZ n b=true:=decide_eq_true (ZMb (ZMn n (by omega)) h)
theorem wrap_i64 {n:Int} (h: -9223372036854775808≤n∧n≤9223372036854775807):IntKind.wrap .i64 n=n:=by rw[IntKind.wrap_i64];omega
theorem wrap_u8 {n:Int} (h:0≤n∧n≤255):IntKind.wrap .u8 n=n:=by rw[IntKind.wrap_u8];omega
theorem wrap_u64 {n:Int} (h:0≤n∧n≤18446744073709551615):IntKind.wrap .u64 n=n:=by rw[IntKind.wrap_u64];omega
theorem Zpg {n m:Int} (h:0≤n∧n < m):inR n m=true:=decide_eq_true h
theorem Zsz {a b c:Int} (h:0≤a∧a≤b∧b≤c):Zb9 a b c=true:=decide_eq_true h
theorem ZCy {m:Nat} (h:m≤36893488147419103231):m < big:=by rw[big_eq];omega
theorem ZDY (k:Nat) (h:k≤36893488147419103232):∃n,big=n+k:=⟨36893488147419103232 - k,by rw[big_eq];omega⟩
end Go.Proofs
namespace Go.Proofs
open Go Eng
theorem ZAV {α σ τ X:Type} {f:Nat→σ→Option X} {body:(σ→Option X)→σ→Option X} (hf:∀n s,f (n+1) s=body (f n) s)
  (xs:List α) (hlen:xs.length≤1000000000000000) (st:Int→τ→σ) (P:Nat→τ→Prop) {Q:X→Prop} (t0:τ) (h0:P 0 t0)
  (step:∀(rec:σ→Option X) (k:Nat) t (h:k < xs.length),P k t→(∀t',P (k+1) t'→wp (rec (st ((k:Int)+1) t')) Q)→wp (body rec (st (k:Int) t)) Q)
  (fin:∀(rec:σ→Option X) t,P xs.length t→wp (body rec (st (xs.length:Int) t)) Q):wp (f big (st 0 t0)) Q:=by
 have key:∀(n k:Nat) t,k≤xs.length→P k t→xs.length - k < n→wp (f n (st (k:Int) t)) Q:=by
  intro n
  induction n with
  |zero=>intro k t _ _ h;omega
  |succ n ih=>
   intro k t hk hP hm;rw[hf]
   by_cases hlt:k < xs.length
   ·refine step _ k t hlt hP fun t' h'=> ?_
    exact ih (k+1) t' (by omega) h' (by omega)
   ·have:k=xs.length:=by omega
    subst this;exact fin _ t hP
 exact key big 0 t0 (Nat.zero_le _) h0 (by rw[big_eq];omega)
theorem Zuj {σ τ X:Type} {f:Nat→σ→Option X} {body:(σ→Option X)→σ→Option X} (hf:∀n s,f (n+1) s=body (f n) s)
  (m:Nat) (hlen:m≤1000000000000000) (st:Int→τ→σ) (P:Nat→τ→Prop) {Q:X→Prop} (t0:τ) (h0:P 0 t0)
  (step:∀(rec:σ→Option X) (k:Nat) t (h:k < m),P k t→(∀t',P (k+1) t'→wp (rec (st ((k:Int)+1) t')) Q)→wp (body rec (st (k:Int) t)) Q)
  (fin:∀(rec:σ→Option X) t,P m t→wp (body rec (st (m:Int) t)) Q):wp (f big (st 0 t0)) Q:=by
 have e:(ZLX m ()).length=m:=ZLS;refine ZAV hf (ZLX m ()) (by omega) st P t0 h0 (fun rec k s h=>step rec k s (by omega)) (fun rec s h=> ?_);rw[e]at h⊢
 exact fin rec s h
theorem Zpb {σ τ X:Type} {f:Nat→σ→Option X} {body:(σ→Option X)→σ→Option X} (hf:∀n s,f (n+1) s=body (f n) s)
  (st:τ→σ) (P:τ→Prop) (m:τ→Nat) {Q:X→Prop} (t0:τ) (h0:P t0) (hm:m t0≤1000000000000000)
  (step:∀(rec:σ→Option X) t,P t→(∀t',P t'→m t' < m t→wp (rec (st t')) Q)→wp (body rec (st t)) Q):wp (f big (st t0)) Q:=by
 have key:∀(n:Nat) t,P t→m t < n→wp (f n (st t)) Q:=by
  intro n
  induction n with
  |zero=>intro t _ h;omega
  |succ n ih=>
   intro t hP hm;rw[hf];exact step _ t hP fun t' h' hlt=>ih t' h' (by omega)
 exact key big t0 h0 (by rw[big_eq];omega)
theorem ZhP {α:Type} {xs:List α} {i:Int} (h0:0≤i) (h:i.toNat < xs.length):idx xs i=some xs[i.toNat]:=by unfold idx;rw[if_pos h0,ZLM h]
theorem ZuA {α:Type} {xs:List α} {k:Nat} (h:k < xs.length):idx xs (k:Int)=some xs[k]:=by rw[ZhP (by omega) (by simpa using h)];simp
theorem Zot {α:Type} {xs:List α} {k:Nat} (h:k < xs.length):inR (k:Int) (xs.length:Int)=true:=Zpg ⟨by omega,by omega⟩
end Go.Proofs
namespace Go.Proofs
open Go Eng
theorem ZIQ (n:Int) {m:Int} (h:1≤m∧m≤1000000):wp (ZuB n m) (fun r=>0≤r∧r < m):=by have ha: -m < Int.tmod n m∧Int.tmod n m < m:=⟨Int.lt_tmod_of_pos n (by omega),Int.tmod_lt_of_pos n (by omega)⟩;unfold ZuB;have h3:decide (m < 1)=false:=decide_eq_false (by omega);have h4:decide (m≠0)=true:=decide_eq_true (by omega);rw[h3,cond_false,ZnE,ZnE,ZnE,ZnB];exact⟨h4,ZnH (by omega),h4,Int.tmod_nonneg _ (by omega),Int.tmod_lt_of_pos _ (by omega)⟩
def ZAn (d:ZnG):Prop:=0≤d.at_∧d.at_≤d.l.length∧d.l.length≤500
theorem ZBT {d:ZnG} (hd:ZAn d) {n:Int} (hn:1≤n∧n≤1000000):wp (Zof d n) (fun r=>(0≤r.1∧r.1 < n)∧ZAn r.2):=by
 unfold Zof;have hd0:=hd;obtain⟨h0,h1,h2⟩:=hd0;rw[Zn3];refine⟨fun h=> ?_,fun h=> ?_⟩
 ·rw[ZnB];exact⟨by simp only;omega,hd⟩
 ·simp only[decide_eq_false_iff_not]at h;simp only[ZnE,ZnC,ZGi,ZnB];refine⟨ZnH (by omega),ZnH (by omega),by omega,by omega,ZnI (ZIQ _ hn) fun r hr=>⟨hr, ?_⟩⟩;simp only[ZAn];omega
end Go.Proofs
namespace Go.Proofs
open Go Eng
theorem Zzy (w a:Nat) (h:a < 2 ^ w):(BitVec.ofInt w (a:Int)).toNat=a:=by rw[BitVec.toNat_ofInt];have:((a:Int) % ((2 ^ w:Nat):Int))=(a:Int):=Int.emod_eq_of_lt (by omega) (by exact_mod_cast h);rw[this];simp
theorem ZDb {a b:Nat} (ha:a < 4294967296) (hb:b < 4294967296):andK .u32 (a:Int) (b:Int)=((a&&& b:Nat):Int):=by unfold andK;rw[show IntKind.bits .u32=32 from rfl,BitVec.toNat_and,Zzy 32 a ha,Zzy 32 b hb,IntKind.wrap_u32];have:=Nat.and_lt_two_pow (n:=32) a hb;omega
theorem ZDq {a b:Nat} (ha:a < 4294967296) (hb:b < 4294967296):orK .u32 (a:Int) (b:Int)=((a|||b:Nat):Int):=by unfold orK;rw[show IntKind.bits .u32=32 from rfl,BitVec.toNat_or,Zzy 32 a ha,Zzy 32 b hb,IntKind.wrap_u32];have:=Nat.or_lt_two_pow (n:=32) ha hb;omega
theorem ZDG {a b:Nat} (ha:a < 4294967296) (hb:b < 4294967296):xorK .u32 (a:Int) (b:Int)=((a ^^^ b:Nat):Int):=by unfold xorK;rw[show IntKind.bits .u32=32 from rfl,BitVec.toNat_xor,Zzy 32 a ha,Zzy 32 b hb,IntKind.wrap_u32];have:=ZMB (n:=32) ha hb;omega
theorem ZIL {a b:Nat} (ha:a < 18446744073709551616) (hb:b < 18446744073709551616):orK .u64 (a:Int) (b:Int)=((a|||b:Nat):Int):=by unfold orK;rw[show IntKind.bits .u64=64 from rfl,BitVec.toNat_or,Zzy 64 a ha,Zzy 64 b hb,IntKind.wrap_u64];have:=Nat.or_lt_two_pow (n:=64) ha hb;omega
theorem ZAO {a:Nat} (k:Nat) (hk:k≤64):shrK .u64 (a:Int) (k:Int)=((a / 2 ^ k:Nat):Int):=by
 unfold shrK;rw[show IntKind.bits .u64=64 from rfl,ZLJ,ZMf hk,Int.fdiv_eq_ediv_of_nonneg _ (Int.le_of_lt (Int.pow_pos (by decide)))]
 norm_cast
theorem ZBu {a:Nat} (k:Nat) (hk:k≤32):shrK .u32 (a:Int) (k:Int)=((a / 2 ^ k:Nat):Int):=by
 unfold shrK;rw[show IntKind.bits .u32=32 from rfl,ZLJ,ZMf hk,Int.fdiv_eq_ediv_of_nonneg _ (Int.le_of_lt (Int.pow_pos (by decide)))]
 norm_cast
theorem ZwA (a:Nat):IntKind.wrap .u32 (a:Int)=((a % 4294967296:Nat):Int):=by rw[IntKind.wrap_u32];omega
theorem ZoS {a:Nat} (h:a < 18446744073709551616):IntKind.wrap .u64 (a:Int)=(a:Int):=by rw[IntKind.wrap_u64];omega
theorem Zxg {a:Nat} (h:a < 4294967296):IntKind.wrap .u32 (a:Int)=(a:Int):=by rw[IntKind.wrap_u32];omega
theorem ZJs {a b c:Nat} (ha:a < 4294967296) (hb:b < 4294967296) (hc:c≤1):ZuY (a:Int) (b:Int) (c:Int)=some ((((a+b+c) % 4294967296:Nat):Int),(((a+b+c) / 4294967296:Nat):Int)):=by
 unfold ZuY;have e:IntKind.wrap .u64 ((IntKind.wrap .u64 ((IntKind.wrap .u64 (a:Int))+(IntKind.wrap .u64 (b:Int))))+(IntKind.wrap .u64 (c:Int)))=((a+b+c:Nat):Int):=by rw[ZoS (by omega),ZoS (by omega),ZoS (by omega),←ZII,ZoS (by omega),←ZII,ZoS (by omega)]
 rw[e,show (32:Int)=((32:Nat):Int)from rfl,ZAO 32 (by omega),ZwA,Zxg (a:=(a+b+c) / 2 ^ 32) (by omega)];rfl
theorem ZHI {a:Nat} (h:a < 4294967296):(a >>> 31=0∧a < 2147483648)∨(a >>> 31=1∧2147483648≤a):=by rw[Nat.shiftRight_eq_div_pow];omega
theorem ZG4 {a b c:Nat} (ha:a < 4294967296) (hb:b < 4294967296) (hc:c≤1):ZtR (a:Int) (b:Int) (c:Int)=some ((((a+4294967296 - b - c) % 4294967296:Nat):Int),((if a < b+c then 1 else 0:Nat):Int)):=by
 unfold ZtR;have hM:(if IntKind.signed .u32 then (-1:Int)else IntKind.max .u32)=((4294967295:Nat):Int):=rfl;have e:IntKind.wrap .u32 ((IntKind.wrap .u32 ((a:Int) - (b:Int))) - (c:Int))=(((a+4294967296 - b - c) % 4294967296:Nat):Int):=by rw[IntKind.wrap_u32,IntKind.wrap_u32];omega
 have hD:(a+4294967296 - b - c) % 4294967296 < 4294967296:=ZMi _ (by decide);rw[hM,e];generalize hd:(a+4294967296 - b - c) % 4294967296=D at hD⊢
 have h1:a ^^^ b < 4294967296:=ZMB (n:=32) ha hb;have h2:4294967295 ^^^ a < 4294967296:=ZMB (n:=32) (by decide) ha;have h3:4294967295 ^^^ (a ^^^ b) < 4294967296:=ZMB (n:=32) (by decide) h1;have h4:(4294967295 ^^^ a)&&& b < 4294967296:=Nat.and_lt_two_pow (n:=32) _ hb;have h5:(4294967295 ^^^ (a ^^^ b))&&& D < 4294967296:=Nat.and_lt_two_pow (n:=32) _ hD;rw[ZDG (by decide) ha,ZDG ha hb,ZDG (by decide) h1,ZDb h2 hb,ZDb h3 hD,ZDq h4 h5,show (31:Int)=((31:Nat):Int)from rfl,ZBu 31 (by omega)];rw[←Nat.shiftRight_eq_div_pow,Nat.shiftRight_or_distrib,Nat.shiftRight_and_distrib,Nat.shiftRight_and_distrib,ZMy,ZMy,ZMy];have hm:(4294967295:Nat) >>> 31=1:=by decide
 rw[hm];have key:(1 ^^^ a >>> 31)&&& b >>> 31|||(1 ^^^ (a >>> 31 ^^^ b >>> 31))&&& D >>> 31=if a < b+c then 1 else 0:=by rcases ZHI ha with ⟨qa,pa⟩ |⟨qa,pa⟩<;>rcases ZHI hb with ⟨qb,pb⟩ |⟨qb,pb⟩<;>rcases ZHI hD with ⟨qd,pd⟩ |⟨qd,pd⟩<;>rw[qa,qb,qd]<;>split<;>first |rfl |(exfalso;omega)
 rw[key];rfl
theorem ZDu {h l:Nat} (hh:h < 4294967296) (hl:l < 4294967296):orK .u64 (shlK .u64 (IntKind.wrap .u64 (h:Int)) 32) (IntKind.wrap .u64 (l:Int))=((h*4294967296+l:Nat):Int):=by
 have e1:shlK .u64 (IntKind.wrap .u64 (h:Int)) 32=((h*4294967296:Nat):Int):=by unfold shlK;rw[ZoS (by omega),show min (32:Int).toNat (IntKind.bits .u64)=32 from by decide,IntKind.wrap_u64];omega
 rw[e1,ZoS (by omega),ZIL (by omega) (by omega)];have:=Nat.shiftLeft_add_eq_or_of_lt (i:=32) (b:=l) (by omega) h;simp only[Nat.shiftLeft_eq,Nat.reducePow]at this;omega
theorem ZK9 {h l y:Nat} (hy:h < y) (hl:l < 4294967296) (hy2:y < 4294967296):ZwO (h:Int) (l:Int) (y:Int)=some ((((h*4294967296+l) / y:Nat):Int),(((h*4294967296+l) % y:Nat):Int)):=by
 have hle:¬((y:Int)≤(h:Int)):=by omega
 have hq:(h*4294967296+l) / y < 4294967296:=(ZL8 (by omega)).2 (by
  have:(h+1)*4294967296≤y*4294967296:=ZMo _ hy;omega)
 have hr:(h*4294967296+l) % y < y:=ZMi _ (by omega);have hj:ZuE (h:Int) (l:Int) (y:Int) false=some ((((h*4294967296+l) / y:Nat):Int),(((h*4294967296+l) % y:Nat):Int)):=by
  unfold ZuE;rw[cond_false,ZDu (by omega) hl,ZoS (by omega)];have hne:decide ((y:Int)≠0)=true:=decide_eq_true (by omega);rw[hne,chk_true,chk_true];have e1:Int.tdiv ((h*4294967296+l:Nat):Int) (y:Int)=(((h*4294967296+l) / y:Nat):Int):=by rw[Int.tdiv_eq_ediv_of_nonneg (by omega)];norm_cast
  have e2:Int.tmod ((h*4294967296+l:Nat):Int) (y:Int)=(((h*4294967296+l) % y:Nat):Int):=by rw[Int.tmod_eq_emod_of_nonneg (by omega)];norm_cast
  rw[e1,e2,ZoS (by omega),Zxg hq,Zxg (by omega)];rfl
 unfold ZwO;rw[decide_eq_false hle,hj];cases ((y:Int) != 0)<;>rfl
def ZKz:List Int:=[0,1,2,2,3,3,3,3,4,4,4,4,4,4,4,4]++ZLX 16 5++ZLX 32 6++ZLX 64 7++ZLX 128 8
theorem ZFV:Ztb=fun x n=>(idx (ZKz.map fun n=>UInt8.ofNat n.toNat) (IntKind.wrap .u8 x)).bind fun c=>
 chk (inK .i64 (n+(IntKind.wrap .i64 ((c.toNat:Nat):Int)))) <|
 some (n+(IntKind.wrap .i64 ((c.toNat:Nat):Int))):=by kernel_rfl
theorem ZFW:((List.range 256).all fun v=>match (ZKz.map fun n=>UInt8.ofNat n.toNat)[v]? with |some c=>decide (v < 2 ^ c.toNat∧2 ^ c.toNat≤2*v+(if v=0 then 1 else 0)∧c.toNat≤8) |none=>false)=true:=by kernel_rfl
theorem ZFU {v:Nat} (h:v < 256):∃c:UInt8,(ZKz.map fun n=>UInt8.ofNat n.toNat)[v]? =some c∧v < 2 ^ c.toNat∧(v≠0→2 ^ c.toNat≤2*v)∧c.toNat≤8:=by have:=List.all_eq_true.1 ZFW v (List.mem_range.2 h);split at this;rotate_left;simp at this;rename_i c hc;obtain⟨h1,h2,h3⟩:=of_decide_eq_true this;refine⟨c,hc,h1,fun h0=> ?_,h3⟩;rw[if_neg h0]at h2;omega
theorem ZFX {v:Nat} (h:v < 256) (n:Nat) (hn:n≤100):∃k:Nat,Ztb (v:Int) (n:Int)=some (((n+k:Nat):Int))∧v < 2 ^ k∧(v≠0→2 ^ k≤2*v)∧k≤8:=by
 obtain⟨c,hc,h1,h2,h3⟩:=ZFU h;refine⟨c.toNat, ?_,h1,h2,h3⟩;have e:idx (ZKz.map fun n=>UInt8.ofNat n.toNat) (IntKind.wrap .u8 (v:Int))=some c:=by rw[IntKind.wrap_u8,show (v:Int) % 256=(v:Int) by omega];unfold idx;rw[if_pos (by omega),ZLJ,hc]
 rw[ZFV];dsimp only;rw[e,ZMD,wrap_i64 (by omega),ZnH (by omega),chk_true]
 norm_cast
theorem ZIS {x:Nat} (h0:x≠0) (h:x < 4294967296):∃s:Nat,s≤31∧Zrs (x:Int)=some (s:Int)∧2147483648≤x*2 ^ s∧x*2 ^ s < 4294967296:=by
 have key:∃k:Nat,ZwM (x:Int)=some (k:Int)∧x < 2 ^ k∧2 ^ k≤2*x∧k≤32:=by
  unfold ZwM Zwt;have d16:shrK .u32 (x:Int) 16=((x / 65536:Nat):Int):=ZBu 16 (by omega);have fin:∀(n v:Nat),n≤24→v < 256→v≠0→x / 2 ^ n=v→∃k:Nat,Ztb (v:Int) (n:Int)=some (k:Int)∧x < 2 ^ k∧2 ^ k≤2*x∧k≤32:=fun n v hn hv hv0 hx=>by
   obtain⟨k,q1,q2,q3,q4⟩:=ZFX hv n (by omega);refine⟨n+k,q1, ?_, ?_,by omega⟩
   ·rw[ZMv,ZMl];exact(ZL8 (ZMA n)).1 (by omega)
   ·rw[ZMv];have h1:2 ^ n*v≤x:=by rw[←hx];exact Nat.mul_div_le x (2 ^ n)
    have h2:2 ^ n*2 ^ k≤2 ^ n*(2*v):=ZMn _ (q3 hv0);have h3:2 ^ n*(2*v)=2*(2 ^ n*v):=by rw[ZMp]
    omega
  by_cases c1:65536≤x
  ·rw[decide_eq_true (by omega:(x:Int)≥65536),cond_true,d16];show ∃k:Nat,(bif decide (((x / 65536:Nat):Int)≥256)then _ else _)=_∧_
   by_cases c2:256≤x / 65536
   ·rw[decide_eq_true (by omega:((x / 65536:Nat):Int)≥256),cond_true];have d8:shrK .u32 ((x / 65536:Nat):Int) 8=((x / 65536 / 256:Nat):Int):=ZBu 8 (by omega);rw[d8];exact fin 24 (x / 65536 / 256) (by omega) (by omega) (by omega) (by omega)
   ·rw[decide_eq_false (by omega:¬((x / 65536:Nat):Int)≥256),cond_false];exact fin 16 (x / 65536) (by omega) (by omega) (by omega) (by omega)
  ·rw[decide_eq_false (by omega:¬(x:Int)≥65536),cond_false]
   by_cases c2:256≤x
   ·rw[decide_eq_true (by omega:(x:Int)≥256),cond_true];have d8:shrK .u32 (x:Int) 8=((x / 256:Nat):Int):=ZBu 8 (by omega);rw[d8];exact fin 8 (x / 256) (by omega) (by omega) (by omega) (by omega)
   ·rw[decide_eq_false (by omega:¬(x:Int)≥256),cond_false];exact fin 0 x (by omega) (by omega) h0 (by omega)
 obtain⟨k,hk,h1,h2,h3⟩:=key;have hk1:1≤k:=by
  rcases ZL9 k with rfl |hp
  ·simp at h1;omega
  ·exact hp
 refine⟨32 - k,by omega, ?_, ?_, ?_⟩
 ·unfold Zrs;rw[hk,ZMD,ZnH (by omega),chk_true,show (32:Int) - (k:Int)=((32 - k:Nat):Int) by omega]
 ·have e:2 ^ k*2 ^ (32 - k)=4294967296:=by rw[←ZMv,show k+(32 - k)=32 by omega]
  have:2 ^ k*2 ^ (32 - k)≤2*x*2 ^ (32 - k):=ZMo _ h2;rw[ZMk]at this;omega
 ·have e:2 ^ k*2 ^ (32 - k)=4294967296:=by rw[←ZMv,show k+(32 - k)=32 by omega]
  have:x*2 ^ (32 - k) < 2 ^ k*2 ^ (32 - k):=ZMq h1 (ZMA _);omega
end Go.Proofs
namespace Go.Proofs
open Go Eng
def iL (l:List Nat):List Int:=l.map fun(n:Nat)=>(n:Int)
theorem Zn0 (l:List Nat):(iL l).length=l.length:=by unfold iL;simp
theorem ZCq (a b:List Nat):iL (a++b)=iL a++iL b:=by unfold iL;simp
theorem ZI3:iL []=[]:=rfl
theorem ZBg {l:List Nat} {i:Nat} (h:i < l.length):(iL l)[i]? =some (l[i]:Int):=by unfold iL;simp[h]
theorem ZvY {l:List Nat} {i:Nat} (h:i < l.length):idx (iL l) (i:Int)=some (l[i]:Int):=by unfold idx;rw[if_pos (by omega),ZLJ,ZBg h]
theorem ZAt (l:List Nat) (i x:Nat):(iL l).set i (x:Int)=iL (l.set i x):=by unfold iL;rw[List.map_set]
theorem ZDV (l:List Nat) (i:Nat):(iL l).take i=iL (l.take i):=by unfold iL;rw[List.map_take]
theorem ZCp (n:Nat):ZLX n (0:Int)=iL (ZLX n 0):=by unfold iL;rw[List.map_replicate];rfl
abbrev Bw:Nat:=4294967296
def val:List Nat→Nat
 | []=>0
 |d::r=>d+Bw*val r
def Dg (l:List Nat):Prop:=∀d∈l,d < Bw
theorem Dg.app {a b:List Nat} (ha:Dg a) (hb:Dg b):Dg (a++b):=fun d hd=>(List.mem_append.1 hd).elim (ha d) (hb d)
theorem ZBi:Dg []:=fun _ h=>by simp at h
theorem ZAK {x:Nat} (h:x < Bw):Dg [x]:=fun d hd=>by simp only[List.mem_singleton]at hd;subst hd;exact h
theorem ZFg (n:Nat):Dg (ZLX n 0):=fun d hd=>by rw[List.mem_replicate]at hd;rw[hd.2];decide
theorem Dg.take {a:List Nat} (h:Dg a) (k:Nat):Dg (a.take k):=fun d hd=>h d (List.mem_of_mem_take hd)
theorem Dg.drop {a:List Nat} (h:Dg a) (k:Nat):Dg (a.drop k):=fun d hd=>h d (List.mem_of_mem_drop hd)
theorem Dg.set {a:List Nat} (h:Dg a) (i:Nat) {x:Nat} (hx:x < Bw):Dg (a.set i x):=fun d hd=>by
 rcases List.mem_or_eq_of_mem_set hd with h1 |h1
 ·exact h d h1
 ·rw[h1];exact hx
theorem Dg.get {a:List Nat} (h:Dg a) {i:Nat} (hi:i < a.length):a[i] < Bw:=h _ (List.getElem_mem hi)
theorem ZAx:∀a b:List Nat,val (a++b)=val a+Bw ^ a.length*val b
 | [],b=>by simp[val]
 |d::a,b=>by simp only[List.cons_append,val,ZAx a b,ZLR,ZMx,ZMj];rw[ZMl (Bw ^ a.length) Bw,ZMk];omega
theorem Zxv (a:List Nat) (x:Nat):val (a++[x])=val a+Bw ^ a.length*x:=by rw[ZAx];simp[val]
theorem Zym:∀{l:List Nat},Dg l→val l < Bw ^ l.length
 | [],_=>by simp[val]
 |d::r,h=>by
  have h1:=h d (by simp);have h2:=Zym (l:=r) fun x hx=>h x (by simp[hx])
  simp only[val,ZLR,ZMx];have:Bw*(val r+1)≤Bw*Bw ^ r.length:=ZMn _ h2;rw[ZMl (Bw ^ r.length) Bw];rw[ZMj,ZMs]at this;exact ZMc (by omega) this
theorem ZDI (n:Nat):val (ZLX n 0)=0:=by
 induction n with
 |zero=>rfl
 |succ n ih=>rw[List.replicate_succ,val,ih,ZMt]
theorem ZoK {l:List Nat} {k:Nat} (h:k < l.length):val (l.take (k+1))=val (l.take k)+Bw ^ k*l[k]:=by rw[List.take_succ_eq_append_getElem h,Zxv,ZLV,ZMf (by omega)]
def wd (n:Nat):List Nat:=if h:n=0 then []else n % Bw::wd (n / Bw)
termination_by n
decreasing_by exact Nat.div_lt_self (Nat.pos_of_ne_zero h) (by decide)
theorem ZvZ:wd 0=[]:=by unfold wd;simp
theorem ZBA {n:Nat} (h:n≠0):wd n=n % Bw::wd (n / Bw):=by rw[wd,dif_neg h]
theorem Zxh (n:Nat):Dg (wd n):=by
 induction n using Nat.strongRecOn with
 |ind n ih=>
  by_cases h:n=0
  ·rw[h,ZvZ];exact ZBi
  ·rw[ZBA h];intro d hd;rcases ZLW.1 hd with rfl |hd
   ·exact ZMi _ (by decide)
   ·exact ih (n / Bw) (Nat.div_lt_self (Nat.pos_of_ne_zero h) (by decide)) d hd
theorem Ztc (n:Nat):val (wd n)=n:=by
 induction n using Nat.strongRecOn with
 |ind n ih=>
  by_cases h:n=0
  ·rw[h,ZvZ];rfl
  ·rw[ZBA h,val,ih (n / Bw) (Nat.div_lt_self (Nat.pos_of_ne_zero h) (by decide))];exact ZMg n Bw
theorem Zzm {n k:Nat} (h:n < Bw ^ k):(wd n).length≤k:=by
 induction k generalizing n with
 |zero=>
  have:n=0:=by simpa using h
  rw[this,ZvZ];simp
 |succ k ih=>
  by_cases h0:n=0
  ·rw[h0,ZvZ];simp
  ·rw[ZBA h0,ZLR];have:n / Bw < Bw ^ k:=(ZL8 (by decide)).2 (by rw[←ZMx];exact h);have:=ih this;omega
theorem ZtI {n:Nat} (h:n≠0):0 < (wd n).length:=by rw[ZBA h];simp
theorem ZIu {n:Nat}:wd n=[]↔n=0:=⟨fun h=>by have:=Ztc n;rw[h]at this;exact this.symm,fun h=>by rw[h,ZvZ]⟩
theorem ZxO (n:Nat):n < Bw ^ (wd n).length:=by have:=Zym (Zxh n);rwa [Ztc]at this
def ZDk (l:List Nat):List Nat:=(l.reverse.dropWhile (· == 0)).reverse
theorem ZCE (l:List Nat) (x:Nat):ZDk (l++[x])=if x=0 then ZDk l else l++[x]:=by
 unfold ZDk;rw[List.reverse_append,List.reverse_singleton,List.singleton_append,List.dropWhile_cons]
 by_cases h:x=0
 ·simp[h]
 ·simp[h]
theorem ZD6:∀{l:List Nat} {x:Nat},Dg (l++[x])→x≠0→wd (val (l++[x]))=l++[x]
 | [],x,h,hx=>by have h1:x < Bw:=h x (by simp);simp only[List.nil_append,val,ZMt,ZL5];rw[ZBA hx,ZMh h1,ZL7 h1,ZvZ]
 |d::l,x,h,hx=>by
  have h1:d < Bw:=h d (by simp);have ih:=ZD6 (l:=l) (x:=x) (fun y hy=>h y (by simp only[List.cons_append,ZLW];exact .inr hy)) hx;have hne:val (l++[x])≠0:=fun e=>by rw[e,ZvZ]at ih;simp at ih
  simp only[List.cons_append,val];rw[ZBA (by simp only[Bw];omega),Nat.add_mul_mod_self_left,ZMh h1,Nat.add_mul_div_left _ _ (by decide),ZL7 h1,ZMC,ih]
theorem ZEa:∀(n:Nat) {l:List Nat},l.length=n→Dg l→ZDk l=wd (val l)
 |0,l,hl,_=>by rw[List.eq_nil_of_length_eq_zero hl];simp[ZDk,val,ZvZ]
 |n+1,l,hl,h=>by
  rcases List.eq_nil_or_concat l with rfl |⟨v,x,rfl⟩
  ·simp at hl
  ·rw[List.concat_eq_append]at hl h⊢
   rw[ZCE];split
   ·rename_i h0;subst h0;rw[ZEa n (by simpa using hl) (fun d hd=>h d (by simp[hd])),Zxv,ZMt,ZL5]
   ·rename_i h0;exact(ZD6 h h0).symm
theorem ZAN {l:List Nat} (h:Dg l) (hl:l.length≤1000000):Zoz (iL l)=some (iL (wd (val l))):=by
 rw[←ZEa _ rfl h];refine Zq6 ?_;unfold Zoz Zx3;rw[ZnC];refine ZnI (Zpb ZAE (fun(w:List Nat)=>iL w) (fun w=>ZDk w=ZDk l∧w.length≤1000000) List.length (Q:=fun x=>x=iL (ZDk l)) l ⟨rfl,hl⟩ (by omega) ?_) (fun x hx=>by rw[ZnB];exact hx);rintro rec w ⟨hw,hwl⟩ ih;unfold Zy1 ZuT ZvS;rcases List.eq_nil_or_concat w with rfl |⟨v,x,rfl⟩
 ·show wp (some (iL [])) _;rw[ZnB,←hw];rfl
 ·rw[List.concat_eq_append]at hw hwl⊢
  rw[ZCE]at hw;have hlen:(iL (v++[x])).length=v.length+1:=by rw[Zn0];simp
  rw[Zn3];refine⟨fun _=> ?_,fun h=>by simp only[decide_eq_false_iff_not]at h;omega⟩;have ei:((iL (v++[x])).length:Int) - 1=(v.length:Int):=by rw[hlen];omega
  have hx:(v++[x])[v.length]'(by simp)=x:=by simp
  rw[ei,ZnE,ZnC,ZvY (by simp),ZnB,hx,Zn3];refine⟨ZnH (by simp at hwl;omega),fun h=> ?_,fun h=> ?_⟩
  ·have h0:x=0:=by have:=eq_of_beq h;omega
   rw[if_pos h0]at hw;rw[ZnE,ZnE];refine⟨ZnH (by simp at hwl;omega),Zsz (by omega), ?_⟩;have:(iL (v++[x])).take ((v.length:Int)).toNat=iL v:=by rw[ZDV,ZLJ];simp
   rw[this];exact ih v ⟨hw,by simp at hwl;omega⟩ (by simp)
  ·have h0:x≠0:=by intro e;subst e;simp at h
   rw[if_neg h0]at hw;rw[ZnB,←hw]
theorem ZHM (l:List Nat) (i:Nat):Zsi (iL l) (i:Int)=some ((l.getD i 0:Nat):Int):=by
 unfold Zsi;rw[Zn0]
 by_cases h:i < l.length
 ·rw[decide_eq_true (by omega),cond_true,ZvY h,ZMD,ZLL,ZLM h];rfl
 ·rw[decide_eq_false (by omega),cond_false,ZLL,ZLN (by omega)];rfl
theorem ZBw {l:List Nat} (h:Dg l) (i:Nat):l.getD i 0 < Bw:=by
 rw[ZLL]
 by_cases hi:i < l.length
 ·rw[ZLM hi];exact h.get hi
 ·rw[ZLN (by omega)];decide
theorem Zyf (l:List Nat) (k:Nat):val (l.take (k+1))=val (l.take k)+Bw ^ k*l.getD k 0:=by
 rw[ZLL]
 by_cases h:k < l.length
 ·rw[ZoK h,ZLM h];rfl
 ·rw[ZLN (by omega),ZL1 (by omega),ZL1 (by omega)];simp
theorem ZEU (a b:Nat) (ha:(wd a).length≤100000) (hb:(wd b).length≤100000):Zsl (iL (wd a)) (iL (wd b))=some (iL (wd (a+b))):=by
 obtain⟨m,hm,hma,hmb,hm2⟩:∃m:Nat,(if ((iL (wd b)).length:Int) > ((iL (wd a)).length:Int)then ((iL (wd b)).length:Int)else ((iL (wd a)).length:Int))=(m:Int)∧(wd a).length≤m∧(wd b).length≤m∧m≤100000:=by
  rw[Zn0,Zn0]
  by_cases h:((wd b).length:Int) > ((wd a).length:Int)
  ·exact⟨(wd b).length,by rw[if_pos h],by omega,by omega,hb⟩
  ·exact⟨(wd a).length,by rw[if_neg h],by omega,by omega,ha⟩
 refine Zq6 ?_;unfold Zsl;rw[hm,ZnE,ZnE,ZnC];refine⟨ZnH (by omega),decide_eq_true (by unfold ZO;omega), ?_⟩;refine ZnI (Zuj ZAc m (by omega) (fun i (s:Nat×List Nat)=>(iL (wd a),iL (wd b),(s.1:Int),(m:Int),i,iL s.2)) (fun i s=>s.1≤1∧s.2.length=i∧Dg s.2∧val s.2+Bw ^ i*s.1=val ((wd a).take i)+val ((wd b).take i))
  (Q:=fun y=>∃(c:Nat) (o:List Nat),y=((c:Int),iL o)∧c≤1∧Dg o∧o.length=m∧val o+Bw ^ m*c=a+b) (0,[]) ⟨by simp,rfl,ZBi,by simp[val]⟩ ?_ ?_) ?_
 ·rintro rec i ⟨c,o⟩ hlt ⟨hc,hl,hd,hv⟩ ih;dsimp only at hc hl hd hv ih;have h1:=ZBw (Zxh a) i;have h2:=ZBw (Zxh b) i;unfold ZvH Ztu;dsimp only;rw[Zn3];refine⟨fun _=> ?_,fun h=>by simp only[decide_eq_false_iff_not]at h;omega⟩;rw[ZHM,ZnC,ZnB,ZHM,ZnC,ZnB,ZJs h1 h2 hc,ZnC,ZnB];dsimp only;rw[ZnE,ZnE,Zn0];refine⟨Zyc (by simp only[ZLU];omega),ZnH (by omega), ?_⟩;generalize ex:(wd a).getD i 0=x at h1;generalize ey:(wd b).getD i 0=y at h2;have:=ih ((x+y+c) / Bw,o++[(x+y+c) % Bw]) ⟨?_,by simp[hl],hd.app (ZAK (ZMi _ (by decide))), ?_⟩
  ·rw[ZCq]at this;exact this
  ·simp only[Bw]at h1 h2⊢;omega
  ·dsimp only;rw[Zxv,hl,ZMx,Zyf,Zyf,ex,ey,Nat.add_assoc,ZMk,←ZMj,ZMg,ZMj,ZMj];omega
 ·rintro rec ⟨c,o⟩ ⟨hc,hl,hd,hv⟩;unfold ZvH Ztu;dsimp only;rw[Zn3];refine⟨fun h=>by simp only[decide_eq_true_eq]at h;omega,fun _=> ?_⟩;rw[ZnB];rw[ZL1 hma,ZL1 hmb,Ztc,Ztc]at hv;exact⟨c,o,rfl,hc,hd,hl,hv⟩
 ·rintro y ⟨c,o,rfl,hc,hd,hl,hv⟩;dsimp only;unfold ZwP;rw[ZnE,Zn0];refine⟨Zyc (by simp only[ZLU];omega), ?_⟩;have e:iL o++[(c:Int)]=iL (o++[c]):=by rw[ZCq];rfl
  rw[e,ZAN (hd.app (ZAK (by unfold Bw;omega))) (by simp;omega),ZnC,ZnB,ZnB,Zxv,hl,hv]
end Go.Proofs
namespace Go.Proofs
open Go Eng
theorem ZBO {σ τ X:Type} {f:Nat→σ→Option X} {body:(σ→Option X)→σ→Option X} (hf:∀n s,f (n+1) s=body (f n) s)
  (m:Nat) (hm:m≤1000000000000000) (st:Int→τ→σ) (P:Nat→τ→Prop) {Q:X→Prop} (t0:τ) (h0:P m t0)
  (step:∀(rec:σ→Option X) k t,k < m→P (k+1) t→(∀t',P k t'→wp (rec (st ((k:Int) - 1) t')) Q)→wp (body rec (st (k:Int) t)) Q)
  (fin:∀(rec:σ→Option X) t,P 0 t→wp (body rec (st (-1) t)) Q):wp (f big (st ((m:Int) - 1) t0)) Q:=by
 have key:∀(n k:Nat) t,k≤m→P k t→k < n→wp (f n (st ((k:Int) - 1) t)) Q:=by
  intro n
  induction n with
  |zero=>intro k t _ _ h;omega
  |succ n ih=>
   intro k t hk hP hn;rw[hf];cases k with
   |zero=>exact fin _ t hP
   |succ k=>
    have e:((k+1:Nat):Int) - 1=(k:Int):=by omega
    rw[e];exact step _ k t (by omega) hP fun t' h'=>ih k t' (by omega) h' (by omega)
 exact key big m t0 (Nat.le_refl _) h0 (ZCy (by omega))
theorem ZAT {n:Nat} (h:n≤1000000):mkOk (n:Int) (n:Int) 4=true:=by unfold mkOk ZO;exact decide_eq_true ⟨by omega,by omega,by omega,by omega⟩
def ZCL (a b:Nat):Int:=if a < b then -1 else if b < a then 1 else 0
theorem ZDz (a b:Nat):ZwT (a:Int) (b:Int)=some (ZCL a b):=by
 unfold ZwT Zya ZCL;rw[ZMD,ZMD,bne_self_eq_false,bne_self_eq_false,cond_false,cond_false]
 by_cases h1:a < b
 ·rw[decide_eq_true (by omega:(a:Int) < b),if_pos h1];rfl
 ·rw[decide_eq_false (by omega:¬(a:Int) < b),if_neg h1,cond_false]
  by_cases h2:b < a
  ·rw[decide_eq_true (by omega:(a:Int) > b),if_pos h2];rfl
  ·rw[decide_eq_false (by omega:¬(a:Int) > b),if_neg h2];rfl
theorem ZHF (a b:Nat):Zwz (a:Int) (b:Int)=some (ZCL a b):=ZDz a b
theorem Zzj {a b:Nat} (h:a < b):ZCL a b= -1:=by unfold ZCL;rw[if_pos h]
theorem Zy4 {a b:Nat} (h:b < a):ZCL a b=1:=by unfold ZCL;rw[if_neg (by omega),if_pos h]
theorem Zyd (a:Nat):ZCL a a=0:=by unfold ZCL;rw[if_neg (by omega),if_neg (by omega)]
theorem ZDh {n k:Nat} (h:k < (wd n).length):Bw ^ k≤n:=by
 rcases ZMd n (Bw ^ k)with h1 |h1
 ·have:=Zzm h1;omega
 ·exact h1
theorem ZCM {a b:Nat} (h:(wd a).length < (wd b).length):a < b:=ZMc (ZxO a) (ZDh h)
theorem Zz5 {l:List Nat} {k:Nat} (h:k < l.length):val l=val (l.take k)+Bw ^ k*(l[k]+Bw*val (l.drop (k+1))):=by
 have e:l=l.take k++l[k]::l.drop (k+1):=by rw[ZLP,ZL0]
 have hl:(l.take k).length=k:=by rw[ZLV];omega
 calc val l=val (l.take k++l[k]::l.drop (k+1)):=by rw[←e]
  _=_:=by rw[ZAx,hl];rfl
theorem ZCV {p q x y A B:Nat} {k:Nat} (hp:p < Bw ^ k) (h:x < y):p+Bw ^ k*x < q+Bw ^ k*y:=by have:Bw ^ k*(x+1)≤Bw ^ k*y:=ZMn _ h;rw[ZMj,ZMs]at this;omega
theorem ZBX (a b:Nat) (ha:(wd a).length≤100000) (hb:(wd b).length≤100000):Zpq (iL (wd a)) (iL (wd b))=some (ZCL a b):=by
 refine Zq6 ?_;unfold Zpq;rw[Zn0,Zn0,ZDz,ZnC,ZnB,Zn3];refine⟨fun h=> ?_,fun h=> ?_⟩
 ·rw[ZnB];rcases ZMe (wd a).length (wd b).length with h1 |h1 |h1
  ·rw[Zzj h1,Zzj (ZCM h1)]
  ·rw[h1,Zyd]at h;exact absurd h (by decide)
  ·rw[Zy4 h1,Zy4 (ZCM h1)]
 ·have hl:(wd a).length=(wd b).length:=by
   rcases ZMe (wd a).length (wd b).length with h1 |h1 |h1
   ·rw[Zzj h1]at h;exact absurd h (by decide)
   ·exact h1
   ·rw[Zy4 h1]at h;exact absurd h (by decide)
  rw[ZnE,ZnC];refine⟨ZnH (by omega), ?_⟩;refine ZnI (ZBO Zzs (wd a).length (by omega) (fun i (s:Unit)=>(iL (wd a),iL (wd b),i)) (fun k _=>(wd a).drop k=(wd b).drop k)
   (Q:=fun r=>r= .ret (ZCL a b)∧ZCL a b≠0∨r= .brk ()∧a=b) () (by rw[List.drop_length,hl,List.drop_length]) ?_ ?_) ?_
  ·rintro rec k ⟨⟩ hk hP ih;have hk2:k < (wd b).length:=by omega
   unfold Zuz Zsd;dsimp only;rw[Zn3];refine⟨fun _=> ?_,fun h=>by simp only[decide_eq_false_iff_not]at h;omega⟩;rw[ZvY hk,ZnC,ZnB,ZvY hk2,ZnC,ZnB,ZHF,ZnC,ZnB];have ha:=Zz5 hk;have hb:=Zz5 hk2;rw[Ztc]at ha hb;have la:val ((wd a).take k) < Bw ^ k:=by have:=Zym ((Zxh a).take k);rwa [ZLV,ZMf (by omega)]at this
   have lb:val ((wd b).take k) < Bw ^ k:=by have:=Zym ((Zxh b).take k);rwa [ZLV,ZMf (by omega)]at this
   rw[Zn3];refine⟨fun hc=> ?_,fun hc=> ?_⟩
   ·rw[ZnB];rcases ZMe (wd a)[k] (wd b)[k]with h1 |h1 |h1
    ·rw[Zzj h1];have:a < b:=by rw[ha,hb,hP];exact ZCV (A:=0) (B:=0) la (by omega)
     exact .inl ⟨by rw[Zzj this],by rw[Zzj this];decide⟩
    ·rw[h1,Zyd]at hc;exact absurd hc (by decide)
    ·rw[Zy4 h1];have:b < a:=by rw[ha,hb,hP];exact ZCV (A:=0) (B:=0) lb (by omega)
     exact .inl ⟨by rw[Zy4 this],by rw[Zy4 this];decide⟩
   ·rw[ZnE];refine⟨ZnH (by omega),ih () ?_⟩;have h1:(wd a)[k]=(wd b)[k]:=by
     rcases ZMe (wd a)[k] (wd b)[k]with h1 |h1 |h1
     ·rw[Zzj h1]at hc;exact absurd hc (by decide)
     ·exact h1
     ·rw[Zy4 h1]at hc;exact absurd hc (by decide)
    rw[←ZLP (h:=hk),←ZLP (h:=hk2),h1,hP]
  ·rintro rec ⟨⟩ hP;unfold Zuz Zsd;dsimp only;rw[Zn3];refine⟨fun h=>by have:=of_decide_eq_true h;omega,fun _=> ?_⟩;rw[ZnB];rw[ZLK,ZLK]at hP;exact .inr ⟨rfl,by rw[←Ztc a,←Ztc b,hP]⟩
  ·rintro r (⟨rfl,_⟩ |⟨rfl,rfl⟩)
   ·exact ZnB.2 rfl
   ·unfold Zvi;exact ZnB.2 (Zyd a).symm
theorem ZG8 {o:List Nat} {n i:Nat} (x:Nat) (ho:o.length=i) (h:i < n):(o++ZLX (n - i) 0).set i x=(o++[x])++ZLX (n - (i+1)) 0:=by
 have:n - i=(n - (i+1))+1:=by omega
 rw[this,List.replicate_succ,ZLY _ _ (by omega),ho,ZMz,ZLZ];simp
theorem ZEk (a b:Nat) (hab:b≤a) (ha:(wd a).length≤100000):ZrM (iL (wd a)) (iL (wd b))=some (iL (wd (a - b))):=by
 have hlb:(wd b).length≤(wd a).length:=by
  rcases ZMd (wd a).length (wd b).length with h |h
  ·have:=ZCM h;omega
  ·exact h
 refine Zq6 ?_;unfold ZrM;rw[Zn0,ZnE,ZnC,ZLJ,ZCp];refine⟨ZAT (by omega), ?_⟩;generalize hn:(wd a).length=n at ha hlb⊢
 rw[show iL (ZLX n 0)=iL ([]++ZLX (n - ([]:List Nat).length) 0) by simp];refine ZnI (Zuj Zz2 n (by omega) (fun i (s:Nat×List Nat)=>(iL (wd a),iL (wd b),(s.1:Int),(n:Int),i,iL (s.2++ZLX (n - s.2.length) 0))) (fun i s=>s.1≤1∧s.2.length=i∧Dg s.2∧val ((wd a).take i)+Bw ^ i*s.1=val s.2+val ((wd b).take i))
  (Q:=fun y=>∃(o:List Nat),y=iL o∧Dg o∧o.length=n∧val o=a - b) (0,[]) ⟨by simp,rfl,ZBi,by simp[val]⟩ ?_ ?_) ?_
 ·rintro rec i ⟨c,o⟩ hlt ⟨hc,hl,hd,hv⟩ ih;dsimp only at hc hl hd hv ih;have hi:i < (wd a).length:=by omega
  have h1:=(Zxh a).get hi;have h2:=ZBw (Zxh b) i;unfold Zvh Zs4;dsimp only;rw[Zn3];refine⟨fun _=> ?_,fun h=>by simp only[decide_eq_false_iff_not]at h;omega⟩;rw[ZvY hi,ZnC,ZnB,ZHM,ZnC,ZnB,ZG4 h1 h2 hc,ZnC,ZnB];dsimp only;rw[ZnE,ZnE,Zn0,ZLJ,ZAt,hl,ZG8 _ hl hlt];refine⟨Zpg ⟨by omega,by simp only[ZLQ,ZLS];omega⟩,ZnH (by omega), ?_⟩;generalize ex:(wd a)[i]=x at h1;generalize ey:(wd b).getD i 0=y at h2;have:=ih ((if x < y+c then 1 else 0),o++[(x+4294967296 - y - c) % 4294967296]) ⟨by dsimp only;split<;>omega,by simp[hl],hd.app (ZAK (ZMi _ (by decide))), ?_⟩
  ·rw[ZLQ,ZLU,hl]at this;exact this
  ·dsimp only;rw[Zxv,hl,ZMx,ZoK hi,Zyf,ex,ey,ZMk];have e:x+Bw*(if x < y+c then 1 else 0)=(x+4294967296 - y - c) % 4294967296+y+c:=by simp only[Bw]at h1 h2⊢;split<;>omega
   have e2:Bw ^ i*(x+Bw*(if x < y+c then 1 else 0))=Bw ^ i*((x+4294967296 - y - c) % 4294967296+y+c):=by rw[e]
   rw[ZMj,ZMj,ZMj]at e2;omega
 ·rintro rec ⟨c,o⟩ ⟨hc,hl,hd,hv⟩;unfold Zvh Zs4;dsimp only at hc hl hd hv⊢
  rw[Zn3];refine⟨fun h=>by simp only[decide_eq_true_eq]at h;omega,fun _=> ?_⟩;rw[ZnB];rw[ZL1 (by omega),ZL1 (by omega),Ztc,Ztc]at hv;have:=Zym hd;rw[hl]at this;have hc0:c=0:=by
   rcases ZL9 c with h |h
   ·exact h
   ·have:c=1:=by omega
    rw[this,ZMs]at hv;omega
  rw[hc0,ZMt]at hv;exact⟨o,by rw[hl,ZMz];simp,hd,hl,by omega⟩
 ·rintro y ⟨o,rfl,hd,hl,hv⟩;unfold Zwi;rw[ZAN hd (by omega),ZnC,ZnB,ZnB,hv]
theorem ZFI (a d:Nat) (hd0:d≠0) (hd:d < Bw) (ha:(wd a).length≤100000):ZtH (iL (wd a)) (d:Int)=some (iL (wd (a / d)),((a % d:Nat):Int)):=by
 refine Zq6 ?_;unfold ZtH;rw[Zn0,ZnE,ZnE,ZnC,ZLJ,ZCp];refine⟨ZAT (by omega),ZnH (by omega), ?_⟩;generalize hn:(wd a).length=n at ha⊢
 rw[show iL (ZLX n 0)=iL (ZLX (n - ([]:List Nat).length) 0++[]) by simp];refine ZnI (ZBO Zz1 n (by omega) (fun i (s:Nat×List Nat)=>(iL (wd a),(d:Int),(s.1:Int),i,iL (ZLX (n - s.2.length) 0++s.2))) (fun k s=>s.1 < d∧s.2.length+k=n∧Dg s.2∧val ((wd a).drop k)=val s.2*d+s.1)
  (Q:=fun y=>∃(r:Nat) (o:List Nat),y=((r:Int),iL o)∧Dg o∧o.length=n∧r < d∧a=val o*d+r) (0,[]) ⟨by dsimp only;omega,by simp,ZBi,by rw[←hn,List.drop_length];simp[val]⟩ ?_ ?_) ?_
 ·rintro rec k ⟨r,o⟩ hk ⟨hr,hl,hdg,hv⟩ ih;dsimp only at hr hl hdg hv ih;have hi:k < (wd a).length:=by omega
  have h1:=(Zxh a).get hi;unfold Zvf Zs2;dsimp only;rw[Zn3];refine⟨fun _=> ?_,fun h=>by simp only[decide_eq_false_iff_not]at h;omega⟩;rw[ZvY hi,ZnC,ZnB,ZK9 hr h1 hd,ZnC,ZnB];dsimp only;generalize ex:(wd a)[k]=x at h1;have hq:(r*4294967296+x) / d < Bw:=(ZL8 (by omega)).2 (by
   have:(r+1)*4294967296≤d*4294967296:=ZMo _ hr;simp only[Bw]at*
   omega)
  have es:(ZLX (n - o.length) 0++o).set k ((r*4294967296+x) / d)=ZLX (n - (o.length+1)) 0++((r*4294967296+x) / d)::o:=by
   have e:n - o.length=k+1:=by omega
   have e2:n - (o.length+1)=k:=by omega
   rw[e,e2,List.replicate_succ',List.append_assoc,ZLY _ _ (by simp),ZLS,ZMz];rfl
  rw[ZnE,ZnE,Zn0,ZLJ,ZAt,es];refine⟨Zpg ⟨by omega,by simp only[ZLQ,ZLS];omega⟩,ZnH (by omega), ?_⟩;refine ih ((r*4294967296+x) % d,((r*4294967296+x) / d)::o) ⟨ZMi _ (by omega),by simp only[ZLR];omega,fun y hy=> ?_, ?_⟩
  ·rcases ZLW.1 hy with rfl |hy
   ·exact hq
   ·exact hdg y hy
  ·dsimp only;rw[←ZLP (h:=hi),ex,val,hv,val];have:=ZL6 (r*4294967296+x) d;rw[ZL2,ZMl ((r*4294967296+x) / d) d,ZMj,ZMk];simp only[Bw]at*
   omega
 ·rintro rec ⟨r,o⟩ ⟨hr,hl,hdg,hv⟩;unfold Zvf Zs2;dsimp only at hr hl hdg hv⊢
  rw[Zn3];refine⟨fun h=>by have:=of_decide_eq_true h;omega,fun _=> ?_⟩;rw[ZnB];rw[ZLK,Ztc]at hv;refine⟨r,o, ?_,hdg,hl,hr,hv⟩;rw[show n - o.length=0 by omega];rfl
 ·rintro y ⟨r,o,rfl,hdg,hl,hr,hv⟩;dsimp only;unfold Zwh;rw[ZAN hdg (by omega),ZnC,ZnB,ZnB];have e1:a / d=val o:=by rw[hv,ZMl,Nat.mul_add_div (by omega),ZL7 hr,ZL5]
  have e2:a % d=r:=by rw[hv,ZMl,Nat.mul_add_mod,ZMh hr]
  rw[e1,e2]
end Go.Proofs
namespace Go.Proofs
open Go Eng
theorem ZAw:∀(l:List Nat) (i x:Nat) (h:i < l.length),val (l.set i x)+Bw ^ i*l[i]=val l+Bw ^ i*x
 | [],i,x,h=>absurd h (by simp)
 |d::l,0,x,h=>by simp only[ZLZ,val,Nat.pow_zero,ZMu,List.getElem_cons_zero];omega
 |d::l,i+1,x,h=>by
  have:=ZAw l i x (by simpa using h);have e:Bw*(val (l.set i x)+Bw ^ i*l[i]'(by simpa using h))=Bw*(val l+Bw ^ i*x):=by rw[this]
  rw[ZMj,ZMj]at e;simp only[List.set_cons_succ,val,ZMx,List.getElem_cons_succ];rw[ZMl (Bw ^ i) Bw,ZMk,ZMk];omega
theorem ZHl {x y:Nat} (hx:x≤4294967295) (hy:y≤4294967295):x*y≤18446744065119617025:=ZMm hx hy
theorem ZBd {x y:Nat} (hx:x < Bw) (hy:y < Bw):x*y≤18446744065119617025:=ZHl (by simp only[Bw]at hx;omega) (by simp only[Bw]at hy;omega)
theorem ZIR {c x y e:Nat} (hc:c < Bw) (hx:x < Bw) (hy:y < Bw) (he:e < Bw):IntKind.wrap .u64 ((c:Int)+IntKind.wrap .u64 (IntKind.wrap .u64 (IntKind.wrap .u64 (x:Int)*IntKind.wrap .u64 (y:Int))+IntKind.wrap .u64 (e:Int)))=((c+x*y+e:Nat):Int):=by have:=ZBd hx hy;simp only[Bw]at hc hx hy he;rw[ZoS (by omega),ZoS (by omega),ZoS (by omega),←ZLI,ZoS (by omega),←ZII,ZoS (by omega),←ZII,ZoS (by omega)];congr 1;omega
theorem ZGu {c x y e:Nat} (hc:c < Bw) (hx:x < Bw) (hy:y < Bw) (he:e < Bw):(c+x*y+e) / Bw < Bw:=by
 have:=ZBd hx hy;simp only[Bw]at hc hx hy he⊢
 omega
theorem ZCW (a b:Nat) (ha:(wd a).length≤100000) (hb:(wd b).length≤100000):ZqO (iL (wd a)) (iL (wd b))=some (iL (wd (a*b))):=by
 refine Zq6 ?_;unfold ZqO;rw[Zn0,Zn0,ZnE,ZnE,ZnC,←ZII,ZLJ,ZCp];refine⟨ZnH (by omega),ZAT (by omega), ?_⟩;generalize hm:(wd a).length=m at ha⊢
 generalize hn:(wd b).length=n at hb⊢
 refine ZnI (Zuj Zz0 m (by omega) (fun i (s:List Nat)=>(iL (wd b),iL (wd a),(m:Int),i,iL s)) (fun i s=>s.length=m+n∧Dg s∧val s=val ((wd a).take i)*b∧∀k,i+n≤k→k < m+n→s[k]? =some 0)
  (Q:=fun y=>∃(o:List Nat),y=iL o∧Dg o∧o.length=m+n∧val o=a*b) (ZLX (m+n) 0) ⟨by simp,ZFg _,by rw[ZDI];simp[val],fun k _ h=>by rw[List.getElem?_replicate,if_pos h]⟩ ?_ ?_) ?_
 ·rintro rec i s hlt ⟨hl,hd,hv,hz⟩ ih;have hi:i < (wd a).length:=by omega
  have h1:=(Zxh a).get hi;unfold Zve Zs1;dsimp only;rw[Zn3];refine⟨fun _=> ?_,fun h=>by simp only[decide_eq_false_iff_not]at h;omega⟩;rw[ZvY hi,ZnC,ZnB,ZnC,Zn0,hn];generalize ex:(wd a)[i]=x at h1;refine ZnI (Zuj ZzZ n (by omega) (fun j (t:Nat×List Nat)=>(iL (wd b),(i:Int),(x:Int),(t.1:Int),iL (wd a),(m:Int),(i:Int),iL (wd b),(n:Int),j,iL t.2)) (fun j t=>t.1 < Bw∧t.2.length=m+n∧Dg t.2∧val t.2+Bw ^ (i+j)*t.1=val s+Bw ^ i*(x*val ((wd b).take j))∧∀k,i+n≤k→k < m+n→t.2[k]? =some 0)
   (Q:=fun y=>∃(c:Nat) (o:List Nat),y=(iL (wd b),(i:Int),(c:Int),iL (wd a),(m:Int),(i:Int),iL o)∧c < Bw∧o.length=m+n∧Dg o∧val o+Bw ^ (i+n)*c=val s+Bw ^ i*(x*b)∧∀k,i+n≤k→k < m+n→o[k]? =some 0) (0,s) ⟨by simp only[Bw];omega,hl,hd,by simp[val],hz⟩ ?_ ?_) ?_
  ·rintro rec2 j ⟨c,o⟩ hj ⟨hc,hol,hod,hov,hoz⟩ ih2;dsimp only at hc hol hod hov hoz ih2;have hj2:j < (wd b).length:=by omega
   have h2:=(Zxh b).get hj2;have hij:i+j < o.length:=by omega
   have h3:=hod.get hij;unfold Zvd Zs0;dsimp only;rw[Zn3];refine⟨fun _=> ?_,fun h=>by simp only[decide_eq_false_iff_not]at h;omega⟩;rw[ZvY hj2,ZnC,ZnB,ZnE,ZnE,←ZII,ZLJ,ZBg hij,ZnC,ZnB,ZnE,ZnE,ZnE,ZnE];generalize ey:(wd b)[j]=y at h2;generalize ee:o[i+j]=e at h3;rw[ZIR hc h1 h2 h3,ZwA,show (32:Int)=((32:Nat):Int)from rfl,ZAO 32 (by omega),Zn0,ZAt];refine⟨ZnH (by omega),Zpg ⟨by omega,by omega⟩,ZnH (by omega),Zpg ⟨by omega,by omega⟩,by decide,ZnH (by omega), ?_⟩;refine ih2 ((c+x*y+e) / Bw,o.set (i+j) ((c+x*y+e) % Bw)) ⟨ZGu hc h1 h2 h3,by simp[hol],hod.set _ (ZMi _ (by decide)), ?_,fun k hk hk2=> ?_⟩
   ·dsimp only;have q1:=ZAw o (i+j) ((c+x*y+e) % Bw) hij;rw[ee]at q1;have q2:Bw ^ (i+j)*((c+x*y+e) % Bw+Bw*((c+x*y+e) / Bw))=Bw ^ (i+j)*(c+x*y+e):=by rw[ZMg]
    rw[ZMj,ZMj,ZMj]at q2;rw[←Nat.add_assoc,ZMx,ZMk,ZoK hj2,ey,ZMj,ZMj];have q3:Bw ^ i*(x*(Bw ^ j*y))=Bw ^ (i+j)*(x*y):=by rw[ZMv,ZMk,ZMp x]
    omega
   ·dsimp only;rw[List.getElem?_set_ne (by omega)];exact hoz k hk hk2
  ·rintro rec2 ⟨c,o⟩ ⟨hc,hol,hod,hov,hoz⟩;dsimp only at hc hol hod hov hoz;unfold Zvd Zs0;dsimp only;rw[Zn3];refine⟨fun h=>by have:=of_decide_eq_true h;omega,fun _=> ?_⟩;rw[ZnB];rw[ZL1 (by omega),Ztc]at hov;exact⟨c,o,rfl,hc,hol,hod,hov,hoz⟩
  ·rintro y ⟨c,o,rfl,hc,hol,hod,hov,hoz⟩;dsimp only;unfold Zwg;rw[Zn0,hn,ZnE,ZnE,ZnE,←ZII,ZLJ,Zxg hc,ZAt,Zn0];refine⟨ZnH (by omega),Zpg ⟨by omega,by omega⟩,ZnH (by omega), ?_⟩;have hp:i+n < o.length:=by omega
   have h0:o[i+n]=0:=by have:=hoz (i+n) (Nat.le_refl _) (by omega);rw[ZLM hp]at this;exact Option.some.inj this
   have q1:=ZAw o (i+n) c hp;rw[h0,ZMt,ZL5]at q1;refine ih (o.set (i+n) c) ⟨by simp[hol],hod.set _ hc, ?_,fun k hk hk2=> ?_⟩
   ·rw[q1,hov,hv,ZoK hi,ex,ZL2,ZMk]
   ·rw[List.getElem?_set_ne (by omega)];exact hoz k (by omega) hk2
 ·rintro rec s ⟨hl,hd,hv,hz⟩;unfold Zve Zs1;dsimp only;rw[Zn3];refine⟨fun h=>by have:=of_decide_eq_true h;omega,fun _=> ?_⟩;rw[ZnB];rw[ZL1 (by omega),Ztc]at hv;exact⟨s,rfl,hd,hl,hv⟩
 ·rintro y ⟨o,rfl,hd,hl,hv⟩;unfold Zwf;rw[ZAN hd (by omega),ZnC,ZnB,ZnB,hv]
theorem ZC6 {c d s:Nat} (hs:s≤31) (hc:c < 2 ^ s) (hd:d < Bw):c|||(d*2 ^ s % Bw)=c+d*2 ^ s % Bw:=by
 have e:Bw=2 ^ (32 - s)*2 ^ s:=by rw[←ZMv,show 32 - s+s=32 by omega]
 rw[e,ZMr];have:=Nat.shiftLeft_add_eq_or_of_lt hc (d % 2 ^ (32 - s));rw[Nat.shiftLeft_eq]at this;rw[Nat.or_comm,←this,Nat.add_comm]
theorem ZG6 {d s:Nat} (hs:s≤32) (hd:d < Bw):shlK .u64 (IntKind.wrap .u64 (d:Int)) (s:Int)=((d*2 ^ s:Nat):Int):=by
 have h2:2 ^ s≤2 ^ 32:=ZMw (by decide) hs;have h3:d*2 ^ s≤4294967295*4294967296:=ZMm (by simp only[Bw]at hd;omega) h2;unfold shlK;simp only[Bw]at hd;rw[ZoS (by omega),ZLJ,show IntKind.bits .u64=64 from rfl,ZMf (by omega)];have e:(d:Int)*(2:Int) ^ s=((d*2 ^ s:Nat):Int):=by push_cast;rfl
 rw[e,ZoS (by omega)]
theorem ZCH (l:List Nat) (s:Nat) (hs:s≤31) (hl:l.length≤100000) (hd:Dg l):∃o:List Nat,Zqa (iL l) (s:Int)=some (iL o)∧Dg o∧o.length=l.length+1∧val o=val l*2 ^ s:=by
 have:wp (Zqa (iL l) (s:Int)) (fun y=>∃o:List Nat,y=iL o∧Dg o∧o.length=l.length+1∧val o=val l*2 ^ s):=by
  have h2:2 ^ s≤2 ^ 31:=ZMw (by decide) hs;unfold Zqa Zvg;rw[Zn0,ZnE,ZnE,ZnC,show (l.length:Int)+1=((l.length+1:Nat):Int)from rfl,ZLJ,ZCp];refine⟨ZnH (by omega),ZAT (by omega), ?_⟩;refine ZnI (Zuj Zzr l.length (by omega) (fun i (t:List Nat×Nat)=>((s:Int),iL l,(l.length:Int),i,iL (t.1++t.2::ZLX (l.length - t.1.length) 0))) (fun i t=>t.1.length=i∧t.2 < 2 ^ s∧Dg t.1∧val t.1+Bw ^ i*t.2=val (l.take i)*2 ^ s)
   (Q:=fun y=>∃o:List Nat,y=iL o∧Dg o∧o.length=l.length+1∧val o=val l*2 ^ s) ([],0) ⟨rfl,ZMA s,ZBi,by simp[val]⟩ ?_ ?_) ?_
  ·rintro rec i ⟨o,c⟩ hi ⟨hol,hc,hod,hv⟩ ih;dsimp only at hol hc hod hv ih;have h1:=hd.get hi;have hcB:c < Bw:=by simp only[Bw];omega
   unfold Zuy Zsc;dsimp only;rw[Zn3];refine⟨fun _=> ?_,fun h=>by simp only[decide_eq_false_iff_not]at h;omega⟩;rw[ZvY hi,ZnC,ZnB];generalize ex:l[i]=x at h1;have hlen:(o++c::ZLX (l.length - o.length) 0).length=l.length+1:=by simp;omega
   have hg:(iL (o++c::ZLX (l.length - o.length) 0))[i]? =some (c:Int):=by rw[ZBg (by rw[hlen];omega)];congr 2;rw[ZLO (by omega)];simp[hol]
   rw[ZG6 (by omega) h1,show (32:Int)=((32:Nat):Int)from rfl,ZAO 32 (by omega),ZwA];have hx2:x*2 ^ s / 2 ^ 32 < 2 ^ s:=(ZL8 (by decide)).2 (by
    rw[ZMl (2 ^ s)];exact ZMq h1 (ZMA s))
   rw[Zxg (by omega),ZLJ,show ((i:Int)+1).toNat=i+1 by omega,hg];rw[ZnE,ZnE,ZnC,ZnB,ZnE,ZnE,ZnE,ZnE,ZnE,ZDq hcB (ZMi _ (by decide)),ZC6 hs hc h1];have hsum:c+x*2 ^ s % Bw < Bw:=by
    have e:Bw=2 ^ (32 - s)*2 ^ s:=by rw[←ZMv,show 32 - s+s=32 by omega]
    have hm:x % 2 ^ (32 - s)+1≤2 ^ (32 - s):=ZMi _ (ZMA _);have:=ZMo (2 ^ s) hm;rw[ZL2,ZMu]at this;rw[e,ZMr];omega
   have es:((o++c::ZLX (l.length - o.length) 0).set i (c+x*2 ^ s % Bw)).set (i+1) (x*2 ^ s / 2 ^ 32)=(o++[c+x*2 ^ s % Bw])++(x*2 ^ s / 2 ^ 32)::ZLX (l.length - (o.length+1)) 0:=by rw[ZLY _ _ (by omega),hol,ZMz,ZLZ,ZLY _ _ (by omega),hol,show i+1 - i=1 by omega,show l.length - i=(l.length - (i+1))+1 by omega,List.replicate_succ];simp
   rw[ZAt,ZAt,es];simp only[Zn0,ZLT,hlen];refine⟨by simp,Zpg ⟨by omega,by omega⟩,Zpg ⟨by omega,by omega⟩,ZnH (by omega),by decide,Zpg ⟨by omega,by omega⟩,ZnH (by omega), ?_⟩;have:=ih (o++[c+x*2 ^ s % Bw],x*2 ^ s / 2 ^ 32) ⟨by simp[hol],hx2,hod.app (ZAK hsum), ?_⟩
   ·simp only[ZLQ,ZLU]at this;exact this
   ·dsimp only;have q:Bw ^ i*(x*2 ^ s % Bw+Bw*(x*2 ^ s / 2 ^ 32))=Bw ^ i*(x*2 ^ s):=by have:=ZMg (x*2 ^ s) Bw;rw[show (2:Nat) ^ 32=Bw from rfl,this]
    rw[ZMj]at q;rw[Zxv,hol,ZMx,ZMk,ZoK hi,ex,ZMj,ZL2,ZMk (Bw ^ i) x];omega
  ·rintro rec ⟨o,c⟩ ⟨hol,hc,hod,hv⟩;dsimp only at hol hc hod hv;unfold Zuy Zsc;dsimp only;rw[Zn3];refine⟨fun h=>by have:=of_decide_eq_true h;omega,fun _=> ?_⟩;rw[ZnB];rw[List.take_length]at hv;refine⟨o++[c], ?_,hod.app (ZAK (by simp only[Bw];omega)),by simp[hol], ?_⟩
   ·rw[hol,ZMz];rfl
   ·rw[Zxv,hol];exact hv
  ·rintro y hy;exact ZnB.2 hy
 obtain⟨y,hy,o,rfl,h1,h2,h3⟩:=this;exact⟨o,hy,h1,h2,h3⟩
end Go.Proofs
namespace Go.Proofs
open Go Eng
theorem ZI0 {B P u0 u1 u2 wl d1 d2 dl:Nat} (hdl:dl < P) (hd2:d2 < B) (h:((u0*B+u1)*B+u2)*P+wl < B*((d1*B+d2)*P+dl)):u0≤d1:=by
 rcases ZMd d1 u0 with hlt |hge
 ·exfalso;have h1:(d1+1)*(B*(B*P))≤u0*(B*(B*P)):=ZMo _ hlt;have h2:(d2+1)*P≤B*P:=ZMo _ hd2;rw[ZL2,ZMu]at h2;have h3:B*(d2*P+dl)≤B*(B*P):=ZMn _ (by omega);have e:B*(d1*(B*P))=d1*(B*(B*P)):=ZMp _ _ _;simp only[ZL2,ZMj,ZMk,ZMu]at h h1 h3;omega
 ·exact hge
theorem ZIZ {B P u0 u1 u2 wl d1 d2 dl q:Nat} (hw:wl < P) (hu2:u2 < B) (h:q*((d1*B+d2)*P+dl)≤((u0*B+u1)*B+u2)*P+wl):q*d1≤u0*B+u1:=by
 rcases ZMd (u0*B+u1) (q*d1)with hlt |hge
 ·exfalso;have h1:(u0*B+u1+1)*(B*P)≤q*d1*(B*P):=ZMo _ hlt;have h2:(u2+1)*P≤B*P:=ZMo _ hu2;simp only[ZL2,ZMj,ZMk,ZMu]at h h1 h2;omega
 ·exact hge
theorem ZIY {B P u0 u1 u2 wl d1 d2 dl rest g:Nat} (hw:wl < P) (hr:rest+g*d1=u0*B+u1) (hg:rest*B+u2 < g*d2):((u0*B+u1)*B+u2)*P+wl < g*((d1*B+d2)*P+dl):=by
 rw[←hr];have h1:(rest*B+u2+1)*P≤g*d2*P:=ZMo _ hg;simp only[ZL2,ZMj,ZMk,ZMu]at h1⊢
 omega
theorem ZIX {B P u0 u1 u2 wl d1 d2 dl rest g:Nat} (hdl:dl < P) (hB:g < B) (h1:1≤d1) (hr:rest+g*d1=u0*B+u1) (hg:g*d2≤rest*B+u2):g*((d1*B+d2)*P+dl) < (((u0*B+u1)*B+u2)*P+wl)+((d1*B+d2)*P+dl):=by
 rw[←hr];have h2:g*d2*P≤(rest*B+u2)*P:=ZMo _ hg;have h3:g*dl≤g*P:=ZMn _ (Nat.le_of_lt hdl);have h4:(g+1)*P≤B*P:=ZMo _ hB;have h5:1*(B*P)≤d1*(B*P):=ZMo _ h1;simp only[ZL2,ZMj,ZMk,ZMu]at h2 h4 h5⊢
 omega
theorem rdw {pre w suf:List Nat} {k:Nat} (h:k < w.length):(iL (pre++(w++suf)))[pre.length+k]? =some (w[k]:Int):=by rw[ZBg (by simp;omega)];congr 2;rw[ZLO (by omega)];simp only[Nat.add_sub_cancel_left];rw[List.getElem_append_left h]
theorem stw {pre w suf:List Nat} {k:Nat} (x:Nat) (h:k < w.length):(iL (pre++(w++suf))).set (pre.length+k) (x:Int)=iL (pre++(w.set k x++suf)):=by rw[ZAt,ZLY _ _ (by omega),Nat.add_sub_cancel_left,List.set_append_left _ _ h]
theorem ZKK {l:List Nat} {m:Nat} (h:l.length=m+2):val l=(l[m+1]*Bw+l[m])*Bw ^ m+val (l.take m):=by have e:=Zz5 (l:=l) (k:=m) (by omega);have e2:=Zz5 (l:=l) (k:=m+1) (by omega);have h3:=ZoK (l:=l) (k:=m) (by omega);rw[List.drop_eq_nil_of_le (by omega)]at e2;simp only[val,ZMt,ZL5]at e2;rw[e2,h3,ZMx,ZL2,ZMl (l[m]),ZMl (Bw ^ m) Bw,ZMl (Bw*Bw ^ m),ZMk];omega
theorem top3 {l:List Nat} {m:Nat} (h:l.length=m+3):val l=((l[m+2]*Bw+l[m+1])*Bw+l[m])*Bw ^ m+val (l.take m):=by have e:val l=(l[m+2]*Bw+l[m+1])*Bw ^ (m+1)+val (l.take (m+1)):=ZKK (by omega);have h3:=ZoK (l:=l) (k:=m) (by omega);rw[e,h3,ZMx,ZMl (Bw ^ m) Bw,←ZMk,ZL2 ((l[m+2]*Bw+l[m+1])*Bw),ZMl (l[m])];omega
theorem ZHr {h l:Nat} (hh:h < 4294967296) (hl:l < 4294967296):orK .u64 (shlK .u64 (h:Int) 32) (IntKind.wrap .u64 (l:Int))=((h*4294967296+l:Nat):Int):=by
 have:=ZDu hh hl
 rwa [ZoS (by omega)]at this
theorem ZHn {x y:Nat} (hx:x < Bw) (hy:y < Bw):IntKind.wrap .u64 ((x:Int)*IntKind.wrap .u64 (y:Int))=((x*y:Nat):Int):=by have:=ZBd hx hy;rw[ZoS (by simp only[Bw]at hy;omega),←ZLI,ZoS (by omega)]
theorem ZF3 {pre w suf d:List Nat} {m:Nat} (hw:w.length=m+3) (hd:d.length=m+2) (hwd:Dg w) (hdd:Dg d) (h1:1≤d[m+1]) (hlt:val w < Bw*val d) (hm:m≤100000) {g r:Nat}
  (hg:g < Bw) (hq:val w / val d≤g) (hr:r+g*d[m+1]=w[m+2]*Bw+w[m+1]) (hr2:r < 2*Bw):
  wp (ZtS big pre.length (m+3) (iL d) ((m+2:Nat):Int) (g:Int) (r:Int) (iL (pre++(w++suf)))) (fun y=>∃g:Nat,y=(pre.length,m+3,iL d,((m+2:Nat):Int),(g:Int),iL (pre++(w++suf)))∧g < Bw∧val w / val d≤g∧g*val d < val w+val d):=by
 have hw0:=hwd.get (i:=m) (by omega);have hd2:=hdd.get (i:=m) (by omega);have hd1:=hdd.get (i:=m+1) (by omega);have hdl:val (d.take m) < Bw ^ m:=by have:=Zym (hdd.take m);rwa [ZLV,ZMf (by omega)]at this
 have hwl:val (w.take m) < Bw ^ m:=by have:=Zym (hwd.take m);rwa [ZLV,ZMf (by omega)]at this
 have eW:=top3 hw;have eD:=ZKK hd;have rd:(iL (pre++(w++suf)))[pre.length+m]? =some (w[m]:Int):=rdw (by omega);have rdd:idx (iL d) (m:Int)=some (d[m]:Int):=ZvY (by omega);have rdd1:idx (iL d) ((m+1:Nat):Int)=some (d[m+1]:Int):=ZvY (by omega);generalize d[m+1]=d1 at*
 generalize d[m]=d2 at*
 generalize w[m+2]=u0 at*
 generalize w[m+1]=u1 at*
 generalize w[m]=u2 at*
 have hDpos:0 < val d:=by rw[eD];have:1*1≤(d1*Bw+d2)*Bw ^ m:=ZMm (by simp only[Bw];omega) (Nat.pow_pos (by decide));omega
 have hdiv:∀g,val w < g*val d→val w / val d < g:=fun g h=>(ZL8 hDpos).2 h
 generalize val w / val d=qq at*
 refine Zpb ZA3 (fun(t:Nat×Nat)=>(pre.length,m+3,iL d,((m+2:Nat):Int),(t.1:Int),(t.2:Int),iL (pre++(w++suf)))) (fun t=>t.1 < Bw∧qq≤t.1∧t.2+t.1*d1=u0*Bw+u1∧t.2 < 2*Bw) (fun t=>t.1) (g,r) ⟨hg,hq,hr,hr2⟩ (by simp only[Bw]at hg;dsimp only;omega) ?_;rintro rec ⟨g,r⟩ ⟨hg,hq,hr,hr2⟩ ih;dsimp only at hg hq hr hr2 ih;unfold Zzw Zx6;dsimp only;have e2:((m+2:Nat):Int) - 2=(m:Int):=by omega
 have e1:((m+2:Nat):Int) - 1=((m+1:Nat):Int):=by omega
 have fin:g*d2≤r*Bw+u2→wp (some (pre.length,m+3,iL d,((m+2:Nat):Int),(g:Int),iL (pre++(w++suf)))) (fun y=>∃g:Nat,y=(pre.length,m+3,iL d,((m+2:Nat):Int),(g:Int),iL (pre++(w++suf)))∧g < Bw∧qq≤g∧g*val d < val w+val d):=fun h=>by rw[ZnB];refine⟨g,rfl,hg,hq, ?_⟩;rw[eW,eD];exact ZIX hdl hg h1 hr h
 rw[Zn3];refine⟨fun h=> ?_,fun h=> ?_⟩
 ·have hrB:r < 4294967296:=by have:=of_decide_eq_true h;omega
  rw[e2,ZnE,rdd,ZnC,ZnB,ZnE,ZnE,ZnE,ZnC,ZLJ,rd,ZnB,ZHn hg hd2,ZHr hrB hw0];refine⟨ZnH (by omega),by decide,ZnH (by omega),Zpg ⟨by omega,by omega⟩, ?_⟩;unfold Zvl;rw[Zn3];refine⟨fun h=> ?_,fun h=> ?_⟩
  ·have hc:r*Bw+u2 < g*d2:=by have:=of_decide_eq_true h;simp only[Bw];omega
   have hlt2:val w < g*val d:=by rw[eW,eD];exact ZIY hwl hr hc
   have hqg:qq < g:=hdiv g hlt2;rw[e1,ZnE,rdd1,ZnC,ZnB];refine⟨ZnH (by omega), ?_⟩;have eg:IntKind.wrap .u64 ((g:Int) - 1)=((g - 1:Nat):Int):=by simp only[Bw]at hg;rw[show (g:Int) - 1=((g - 1:Nat):Int) by omega,ZoS (by omega)]
   have er:IntKind.wrap .u64 ((r:Int)+IntKind.wrap .u64 (d1:Int))=((r+d1:Nat):Int):=by simp only[Bw]at hd1;rw[ZoS (by omega),←ZII,ZoS (by omega)]
   rw[eg,er];refine ih (g - 1,r+d1) ⟨by dsimp only;omega,by dsimp only;omega, ?_,by dsimp only;simp only[Bw]at hd1⊢;omega⟩ (by dsimp only;omega);dsimp only;rw[←hr,show g*d1=(g - 1+1)*d1 by rw[Nat.sub_add_cancel (by omega)],ZL2,ZMu];omega
  ·have hc:g*d2≤r*Bw+u2:=by have:=of_decide_eq_false h;simp only[Bw];omega
   exact fin hc
 ·have hrB:4294967296≤r:=by have:=of_decide_eq_false h;omega
  unfold Zvl;rw[cond_false];refine fin ?_;have h1:=ZBd hg hd2;have h2:4294967296*4294967296≤r*Bw:=ZMm hrB (Nat.le_refl _);omega
end Go.Proofs
namespace Go.Proofs
open Go Eng
abbrev ZGe (pre suf:List Nat) (W D m:Nat) (y:Int×List Int):Prop:=∃w':List Nat,y=(((W / D:Nat):Int),iL (pre++(w'++suf)))∧w'.length=m+3∧Dg w'∧val w'=W % D
theorem ZHL {pre w suf d:List Nat} {m W:Nat} (hw:w.length=m+3) (hd:d.length=m+2) (hwd:Dg w) (hdd:Dg d) (hm:m≤100000) {g:Nat} (hg:g < Bw)
  (hg1:W < g*val d) (hg2:g*val d < W+val d) (hv:val w+g*val d=W+Bw ^ (m+3)):
  wp ((Zvk big pre.length (m+3) ((m+2:Nat):Int) (g:Int) (0:Int) (iL d) (d.length:Int) (0:Int) (iL (pre++(w++suf)))).bind fun(x0,x1,x2,x3,x4,x5)=>Zxc x0 x1 x2 x3 x4 x5) (ZGe pre suf W (val d) m):=by
 rw[ZnC,hd];have hDpos:0 < val d:=by omega
 refine ZnI (Zuj ZA1 (m+2) (by omega) (fun i (t:Nat×List Nat)=>(pre.length,m+3,((m+2:Nat):Int),(g:Int),(t.1:Int),iL d,((m+2:Nat):Int),i,iL (pre++(t.2++suf)))) (fun i t=>t.1≤1∧t.2.length=m+3∧Dg t.2∧val t.2+Bw ^ i*t.1=val w+val (d.take i))
  (Q:=fun y=>∃(a:Nat) (w2:List Nat),y=(pre.length,m+3,((m+2:Nat):Int),(g:Int),(a:Int),iL (pre++(w2++suf)))∧a≤1∧w2.length=m+3∧Dg w2∧val w2+Bw ^ (m+2)*a=val w+val d) (0,w) ⟨by simp,hw,hwd,by simp[val]⟩ ?_ ?_) ?_
 ·rintro rec i ⟨a,o⟩ hi ⟨ha,hol,hod,hv⟩ ih;dsimp only at ha hol hod hv ih;have hi1:i < o.length:=by omega
  have hi2:i < d.length:=by omega
  have h1:=hod.get hi1;have h2:=hdd.get hi2;unfold Zx4 ZvT;dsimp only;rw[Zn3];refine⟨fun _=> ?_,fun h=>by have:=of_decide_eq_false h;omega⟩;rw[ZvY hi2,ZnC,ZnB,ZnE,ZnC,ZLJ,rdw hi1,ZnB,ZJs h1 h2 ha,ZnC,ZnB];dsimp only;rw[ZnE,ZnE,stw _ hi1];refine⟨Zpg ⟨by omega,by omega⟩,Zpg ⟨by omega,by omega⟩,ZnH (by omega), ?_⟩;generalize ex:d[i]=x at h2;generalize ee:o[i]=e at h1;refine ih ((e+x+a) / 4294967296,o.set i ((e+x+a) % 4294967296)) ⟨by simp only[Bw]at h1 h2;dsimp only;omega,by simp[hol],hod.set _ (ZMi _ (by decide)), ?_⟩;dsimp only;have q1:=ZAw o i ((e+x+a) % 4294967296) hi1;rw[ee]at q1;have q2:Bw ^ i*((e+x+a) % 4294967296+Bw*((e+x+a) / 4294967296))=Bw ^ i*(e+x+a):=by rw[ZMg]
  rw[ZMj,ZMj,ZMj]at q2;rw[ZMx,ZMk,ZoK hi2,ex];omega
 ·rintro rec ⟨a,o⟩ ⟨ha,hol,hod,hv⟩;dsimp only at ha hol hod hv;unfold Zx4 ZvT;dsimp only;rw[Zn3];refine⟨fun h=>by have:=of_decide_eq_true h;omega,fun _=> ?_⟩;rw[ZnB];rw[ZL1 (by omega)]at hv;exact⟨a,o,rfl,ha,hol,hod,hv⟩
 ·rintro y ⟨a,o,rfl,ha,hol,hod,hov⟩;dsimp only;have hi1:m+2 < o.length:=by omega
  have h1:=hod.get hi1;unfold Zxc;rw[ZnE,ZnC,ZLJ,rdw hi1,ZnB,ZnE];generalize ee:o[m+2]=e at h1;have ew:IntKind.wrap .u32 ((e:Int)+(a:Int))=(((e+a) % 4294967296:Nat):Int):=by rw[←ZII,ZwA]
  have hgp:1≤g:=by
   rcases ZL9 g with h |h
   ·rw[h,Nat.zero_mul]at hg1;omega
   ·exact h
  have eg:IntKind.wrap .u32 (IntKind.wrap .u64 ((g:Int) - 1))=((g - 1:Nat):Int):=by simp only[Bw]at hg;rw[show (g:Int) - 1=((g - 1:Nat):Int) by omega,ZoS (by omega),Zxg (by omega)]
  rw[ew,eg,stw _ hi1,ZnB];refine⟨Zpg ⟨by omega,by omega⟩,Zpg ⟨by omega,by omega⟩, ?_⟩;have q1:=ZAw o (m+2) ((e+a) % 4294967296) hi1;rw[ee]at q1;have q2:Bw ^ (m+2)*((e+a) % 4294967296+Bw*((e+a) / 4294967296))=Bw ^ (m+2)*(e+a):=by rw[ZMg]
  rw[ZMj,ZMj,←ZMk,←ZMx]at q2;have hdn:Dg (o.set (m+2) ((e+a) % 4294967296)):=hod.set _ (ZMi _ (by decide));have hlt:=Zym hdn;rw[ZLT,hol]at hlt;have hco:(e+a) / 4294967296≤1:=by simp only[Bw]at h1;omega
  have hpw:Bw ^ (m+2+1)=Bw ^ (m+3):=rfl;rw[hpw]at q2;have egD:g*val d=(g - 1)*val d+val d:=by rw[show g*val d=(g - 1+1)*val d by rw[Nat.sub_add_cancel hgp],ZL2,ZMu]
  have key:val (o.set (m+2) ((e+a) % 4294967296))+(g - 1)*val d=W:=by
   rcases ZL9 ((e+a) / 4294967296)with hz |hz
   ·rw[hz,ZMt]at q2;omega
   ·rw[show (e+a) / 4294967296=1 by omega,ZMs]at q2;omega
  have hl3:(o.set (m+2) ((e+a) % 4294967296)).length=m+3:=by rw[ZLT,hol]
  generalize o.set (m+2) ((e+a) % 4294967296)=w3 at*
  have hlt3:val w3 < val d:=by omega
  have eq1:W / val d=g - 1:=by rw[←key,ZL3 _ _ hDpos,ZL7 hlt3,ZMC]
  have eq2:W % val d=val w3:=by rw[←key,ZL4,ZMh hlt3]
  exact⟨w3,by rw[eq1],hl3,hdn,eq2.symm⟩
theorem ZG2 {pre w suf d:List Nat} {m:Nat} (hw:w.length=m+3) (hd:d.length=m+2) (hwd:Dg w) (hdd:Dg d) (hm:m≤100000) {g:Nat} (hg:g < Bw)
  (hDpos:0 < val d) (hq:val w / val d≤g) (hg2:g*val d < val w+val d):
  wp (Zxd pre.length (m+3) (iL d) ((m+2:Nat):Int) (g:Int) (iL (pre++(w++suf)))) (ZGe pre suf (val w) (val d) m):=by
 unfold Zxd;rw[ZnC,Zn0,hd];refine ZnI (Zuj ZA2 (m+2) (by omega) (fun i (t:Nat×Nat×List Nat)=>(pre.length,m+3,iL d,((m+2:Nat):Int),(g:Int),(t.1:Int),(t.2.1:Int),iL d,((m+2:Nat):Int),i,iL (pre++(t.2.2++suf)))) (fun i t=>t.1≤1∧t.2.1 < Bw∧t.2.2.length=m+3∧Dg t.2.2∧val t.2.2+g*val (d.take i)=val w+Bw ^ i*(t.1+t.2.1))
  (Q:=fun y=>∃(b c:Nat) (w2:List Nat),y=(pre.length,m+3,iL d,((m+2:Nat):Int),(g:Int),(b:Int),(c:Int),iL (pre++(w2++suf)))∧b≤1∧c < Bw∧w2.length=m+3∧Dg w2∧val w2+g*val d=val w+Bw ^ (m+2)*(b+c)) (0,0,w) ⟨by simp,by simp,hw,hwd,by simp[val]⟩ ?_ ?_) ?_
 ·rintro rec i ⟨b,c,o⟩ hi ⟨hb,hc,hol,hod,hv⟩ ih;dsimp only at hb hc hol hod hv ih;have hi1:i < o.length:=by omega
  have hi2:i < d.length:=by omega
  have h1:=hod.get hi1;have h2:=hdd.get hi2;unfold Zx5 ZvU;dsimp only;rw[Zn3];refine⟨fun _=> ?_,fun h=>by have:=of_decide_eq_false h;omega⟩;rw[ZvY hi2,ZnC,ZnB,ZnE,ZnC,ZLJ,rdw hi1,ZnB];generalize ex:d[i]=x at h2;generalize ee:o[i]=e at h1;have hbd:=ZBd hg h2;have es:IntKind.wrap .u64 ((c:Int)+((g*x:Nat):Int))=((c+g*x:Nat):Int):=by simp only[Bw]at hc;rw[←ZII,ZoS (by omega)]
  rw[ZHn hg h2,es,ZwA,ZG4 h1 (ZMi _ (by decide)) hb,ZnC,ZnB];dsimp only;rw[ZnE,ZnE,ZnE,stw _ hi1,show (32:Int)=((32:Nat):Int)from rfl,ZAO 32 (by omega)];refine⟨Zpg ⟨by omega,by omega⟩,Zpg ⟨by omega,by omega⟩,by decide,ZnH (by omega), ?_⟩;have hlo:(c+g*x) % 4294967296 < 4294967296:=ZMi _ (by decide);have hhi:(c+g*x) / 2 ^ 32 < Bw:=by simp only[Bw]at hc⊢;omega
  have hs:(c+g*x) % 4294967296+Bw*((c+g*x) / 2 ^ 32)=c+g*x:=ZMg _ _;generalize (c+g*x) % 4294967296=lo at*
  generalize (c+g*x) / 2 ^ 32=hi' at*
  refine ih ((if e < lo+b then 1 else 0),hi',o.set i ((e+4294967296 - lo - b) % 4294967296)) ⟨by dsimp only;split<;>omega,hhi,by simp[hol],hod.set _ (ZMi _ (by decide)), ?_⟩;dsimp only;have q1:=ZAw o i ((e+4294967296 - lo - b) % 4294967296) hi1;rw[ee]at q1;have e1:e+Bw*(if e < lo+b then 1 else 0)=(e+4294967296 - lo - b) % 4294967296+lo+b:=by simp only[Bw]at h1⊢;split<;>omega
  have q2:Bw ^ i*(e+Bw*(if e < lo+b then 1 else 0))=Bw ^ i*((e+4294967296 - lo - b) % 4294967296+lo+b):=by rw[e1]
  have q3:Bw ^ i*(lo+Bw*hi')=Bw ^ i*(c+g*x):=by rw[hs]
  have q4:g*(Bw ^ i*x)=Bw ^ i*(g*x):=ZMp _ _ _;rw[ZMj,ZMj,ZMj]at q2;rw[ZMj,ZMj]at q3;rw[ZMj]at hv;rw[ZMx,ZMk,ZoK hi2,ex,ZMj,ZMj Bw,ZMj];omega
 ·rintro rec ⟨b,c,o⟩ ⟨hb,hc,hol,hod,hv⟩;dsimp only at hb hc hol hod hv;unfold Zx5 ZvU;dsimp only;rw[Zn3];refine⟨fun h=>by have:=of_decide_eq_true h;omega,fun _=> ?_⟩;rw[ZnB];rw[ZL1 (by omega)]at hv;exact⟨b,c,o,rfl,hb,hc,hol,hod,hv⟩
 ·rintro y ⟨b,c,o,rfl,hb,hc,hol,hod,hv⟩;dsimp only;have hi1:m+2 < o.length:=by omega
  have h1:=hod.get hi1;unfold ZyN;rw[ZnE,ZnC,ZLJ,rdw hi1,ZnB,Zxg hc];generalize ee:o[m+2]=e at h1;rw[ZG4 h1 hc hb,ZnC,ZnB];dsimp only;rw[ZnE,stw _ hi1,Zxg hg];refine⟨Zpg ⟨by omega,by omega⟩,Zpg ⟨by omega,by omega⟩, ?_⟩;have q1:=ZAw o (m+2) ((e+4294967296 - c - b) % 4294967296) hi1;rw[ee]at q1;have e1:e+Bw*(if e < c+b then 1 else 0)=(e+4294967296 - c - b) % 4294967296+c+b:=by simp only[Bw]at h1 hc⊢;split<;>omega
  have q2:Bw ^ (m+2)*(e+Bw*(if e < c+b then 1 else 0))=Bw ^ (m+2)*((e+4294967296 - c - b) % 4294967296+c+b):=by rw[e1]
  rw[ZMj,ZMj,ZMj,←ZMk,←ZMx]at q2;rw[ZMj]at hv;have hpw:Bw ^ (m+2+1)=Bw ^ (m+3):=rfl;rw[hpw]at q2;have hdn:Dg (o.set (m+2) ((e+4294967296 - c - b) % 4294967296)):=hod.set _ (ZMi _ (by decide));have hlt:=Zym hdn;rw[ZLT,hol]at hlt;have hl3:(o.set (m+2) ((e+4294967296 - c - b) % 4294967296)).length=m+3:=by rw[ZLT,hol]
  generalize o.set (m+2) ((e+4294967296 - c - b) % 4294967296)=w3 at*
  generalize (e+4294967296 - c - b) % 4294967296=dd at*
  by_cases hcc:e < c+b
  ·rw[if_pos hcc]at q2⊢
   rw[show (((1:Nat):Int) == 0)=false from rfl,cond_false];rw[Zn0 d];exact ZHL (pre:=pre) (suf:=suf) hl3 hd hdn hdd hm hg (by omega) hg2 (by omega)
  ·rw[if_neg hcc]at q2⊢
   rw[show (((0:Nat):Int) == 0)=true from rfl,cond_true,ZnB];have key:val w3+g*val d=val w:=by omega
   have hlt3:val w3 < val d:=by have h5:(val w / val d)*val d≤g*val d:=ZMo _ hq;have h6:=ZL6 (val w) (val d);have h7:=ZMi (val w) hDpos;rw[ZMl]at h6;omega
   have eq1:val w / val d=g:=by rw[←key,ZL3 _ _ hDpos,ZL7 hlt3,ZMC]
   have eq2:val w % val d=val w3:=by rw[←key,ZL4,ZMh hlt3]
   exact⟨w3,by rw[eq1],hl3,hdn,eq2.symm⟩
theorem ZF8 {pre w suf d:List Nat} {m:Nat} (hw:w.length=m+3) (hd:d.length=m+2) (hwd:Dg w) (hdd:Dg d) (hm:m≤100000) (h1:1≤d[m+1]) (hlt:val w < Bw*val d):
  wp (ZxI (iL (pre++(w++suf))) pre.length (m+3) (iL d)) (ZGe pre suf (val w) (val d) m):=by
 have hd1:=hdd.get (i:=m+1) (by omega);have hd2:=hdd.get (i:=m) (by omega);have h_u0:=hwd.get (i:=m+2) (by omega);have h_u1:=hwd.get (i:=m+1) (by omega);have h_u2:=hwd.get (i:=m) (by omega);have hdl:val (d.take m) < Bw ^ m:=by have:=Zym (hdd.take m);rwa [ZLV,ZMf (by omega)]at this
 have hwl:val (w.take m) < Bw ^ m:=by have:=Zym (hwd.take m);rwa [ZLV,ZMf (by omega)]at this
 have eW:=top3 hw;have eD:=ZKK hd;have hDpos:0 < val d:=by rw[eD];have:1*1≤(d[m+1]*Bw+d[m])*Bw ^ m:=ZMm (by simp only[Bw];omega) (Nat.pow_pos (by decide));omega
 have hk1:w[m+2]≤d[m+1]:=ZI0 hdl hd2 (by rw[←eW,←eD];exact hlt);have hk2:(val w / val d)*d[m+1]≤w[m+2]*Bw+w[m+1]:=ZIZ hwl h_u2 (by rw[←eW,←eD];exact Nat.div_mul_le_self _ _);have hqB:val w / val d < Bw:=(ZL8 hDpos).2 hlt;have hG:∃g:Nat,(if (4294967295:Int) < (IntKind.wrap .u64 (Int.tdiv (orK .u64 (shlK .u64 (IntKind.wrap .u64 (w[m+2]:Int)) 32) (IntKind.wrap .u64 (w[m+1]:Int))) (IntKind.wrap .u64 (d[m+1]:Int))))then (4294967295:Int)else (IntKind.wrap .u64 (Int.tdiv (orK .u64 (shlK .u64 (IntKind.wrap .u64 (w[m+2]:Int)) 32) (IntKind.wrap .u64 (w[m+1]:Int))) (IntKind.wrap .u64 (d[m+1]:Int)))))=(g:Int)∧g < Bw∧val w / val d≤g∧g*d[m+1]≤w[m+2]*Bw+w[m+1]∧w[m+2]*Bw+w[m+1] < g*d[m+1]+2*Bw:=by
  rw[ZDu h_u0 h_u1,ZoS (by simp only[Bw]at hd1;omega)];have e1:Int.tdiv ((w[m+2]*4294967296+w[m+1]:Nat):Int) (d[m+1]:Int)=(((w[m+2]*4294967296+w[m+1]) / d[m+1]:Nat):Int):=by rw[Int.tdiv_eq_ediv_of_nonneg (by omega)];norm_cast
  have hnum:w[m+2]*4294967296+w[m+1] < 18446744073709551616:=by simp only[Bw]at h_u0 h_u1;omega
  have hle:(w[m+2]*4294967296+w[m+1]) / d[m+1]≤w[m+2]*4294967296+w[m+1]:=Nat.div_le_self _ _;rw[e1,ZoS (by omega)];have hq2:val w / val d≤(w[m+2]*4294967296+w[m+1]) / d[m+1]:=(Nat.le_div_iff_mul_le (by omega)).2 hk2;have hdm:=ZL6 (w[m+2]*4294967296+w[m+1]) d[m+1];have hml:=ZMi (w[m+2]*4294967296+w[m+1]) (show 0 < d[m+1] by omega);rw[ZMl]at hdm;generalize (w[m+2]*4294967296+w[m+1]) / d[m+1]=q0 at*
  generalize (w[m+2]*4294967296+w[m+1]) % d[m+1]=r0 at*
  generalize val w / val d=qq at*
  by_cases hc:4294967295 < q0
  ·refine⟨4294967295,by rw[if_pos (by omega)];rfl,by simp only[Bw];omega,by simp only[Bw]at hqB;omega, ?_, ?_⟩
   ·have:=ZMo d[m+1] (show 4294967295≤q0 by omega);simp only[Bw];omega
   ·simp only[Bw]at*
    omega
  ·refine⟨q0,by rw[if_neg (by omega)],by simp only[Bw];omega,hq2, ?_, ?_⟩
   ·simp only[Bw];omega
   ·simp only[Bw]at*
    omega
 have h2:wp (ZyL (iL (pre++(w++suf))) pre.length (m+3) (iL d)) (ZGe pre suf (val w) (val d) m):=by
  obtain⟨g,hg,hgB,hgq,hgd,hgr⟩:=hG;have e1:((m+2:Nat):Int) - 1=((m+1:Nat):Int):=by omega
  unfold ZyL;rw[Zn0,hd,e1,ZLJ,ZLJ,rdw (by omega),rdw (by omega),ZvY (by omega)];rw[ZnE,ZnC,ZnB,ZnE,ZnE,ZnE,ZnC,ZnB,ZnE,ZnC,ZnB,ZnE,ZnE,ZnC,ZnB,hg,ZDu h_u0 h_u1,ZHn hgB hd1,ZnC];have er:IntKind.wrap .u64 (((w[m+2]*4294967296+w[m+1]:Nat):Int) - ((g*d[m+1]:Nat):Int))=((w[m+2]*4294967296+w[m+1] - g*d[m+1]:Nat):Int):=by simp only[Bw]at hgd hgr;rw[←Int.ofNat_sub hgd,ZoS (by omega)]
  rw[er];refine⟨Zpg ⟨by omega,by omega⟩,by decide,ZnH (by omega),Zpg ⟨by omega,by omega⟩,ZnH (by omega),decide_eq_true (by rw[ZoS (by simp only[Bw]at hd1;omega)];omega),ZnH (by omega), ?_⟩;refine ZnI (ZF3 hw hd hwd hdd h1 hlt hm hgB hgq (by simp only[Bw]at hgd⊢;omega) (by simp only[Bw]at hgr⊢;omega)) ?_;rintro y ⟨g',rfl,h3,h4,h5⟩;exact ZG2 hw hd hwd hdd hm h3 hDpos h4 h5
 unfold ZxI;rw[ZnC];refine ZnI h2 ?_;rintro y ⟨w',rfl,h3,h4,h5⟩;rw[ZnE,ZnB];refine⟨?_,w',rfl,h3,h4,h5⟩;dsimp only;rw[Zn0,Zn0];simp[h3,hw]
end Go.Proofs
namespace Go.Proofs
open Go Eng
theorem ZEl (l:List Nat) (h:l.length≤1000000):Zo3 (iL l)=some (iL l):=by
 cases l with
 |nil=>
  have e1:ZnL [] true=some []:=rfl;have e2:ZnL [] false=some []:=by kernel_rfl
  show agree (ZnL [] true) (ZnL [] false)=some [];rw[e1,e2,ZEF]
 |cons x l=>
  show ZnL (iL (x::l)) false=_;unfold ZnL;rw[cond_false,Zyc (by rw[Zn0,List.length_nil];omega),chk_true];rfl
theorem ZB0 {l:List Nat} {k:Nat} (h:val l < Bw ^ k):val (l.take k)=val l:=by
 rcases ZMd k l.length with hk |hk
 ·have e:val l=val (l.take k++l.drop k):=by rw[ZL0]
  rw[ZAx,ZLV,ZMf (by omega)]at e;rcases ZL9 (val (l.drop k))with hz |hz
  ·rw[hz,ZMt,ZL5]at e;exact e.symm
  ·have:=ZMn (Bw ^ k) hz;omega
 ·rw[ZL1 hk]
theorem ZKJ (u:List Nat) (k:Nat) (hk:k≤u.length) (hk2:k≤1000000):∃k',k'≤k∧val (u.take k')=val (u.take k)∧Zvq (iL u) 0 k=some (0,k',iL u):=by
 have h:wp (Zww (iL u) 0 k) (fun y=>∃k',k'≤k∧val (u.take k')=val (u.take k)∧y=(0,k',iL u)):=by
  unfold Zww Zxa;rw[ZnC];refine ZnI (Zpb ZAp (fun(j:Nat)=>(0,j,iL u)) (fun j=>j≤k∧val (u.take j)=val (u.take k)) (fun j=>j) (Q:=fun y=>∃k',k'≤k∧val (u.take k')=val (u.take k)∧y=(0,k',iL u)) k ⟨Nat.le_refl _,rfl⟩ (by omega) ?_) (fun y hy=>ZnB.2 hy);rintro rec j ⟨hj,hv⟩ ih;unfold ZyH Zwj ZuU;dsimp only;cases j with
  |zero=>exact ZnB.2 ⟨0,hj,hv,rfl⟩
  |succ j=>
   have hju:j < u.length:=by omega
   have e1:((j+1:Nat):Int) - 1=(j:Int):=by omega
   rw[Zn3];refine⟨fun _=> ?_,fun h=>by have:=of_decide_eq_false h;omega⟩;rw[e1,ZLJ,ZMC,ZnE,ZnE,ZBg hju,ZnC,ZnB,Zn3];refine⟨ZnH (by omega),Zpg ⟨by omega,by omega⟩,fun h=> ?_,fun h=> ?_⟩
   ·have h0:u[j]=0:=by have:=eq_of_beq h;omega
    rw[ZnE,ZnE];refine⟨ZnH (by omega),Zsz ⟨by omega,by omega,by omega⟩,ih j ⟨by omega, ?_⟩ (by omega)⟩;rw[←hv,ZoK hju,h0,ZMt,ZL5]
   ·exact ZnB.2 ⟨j+1,hj,hv,rfl⟩
 obtain⟨y,hy,k',h1,h2,rfl⟩:=h;refine⟨k',h1,h2, ?_⟩;unfold Zvq;rw[hy,ZMD];simp
theorem ZER {x y s:Nat} (hs:s≤31) (hx:x < Bw) (hy:y < Bw):((y*4294967296+x) / 2 ^ s % 4294967296)*2 ^ s+x % 2 ^ s=x+Bw*(y % 2 ^ s):=by
 have e:(4294967296:Nat)=2 ^ (32 - s)*2 ^ s:=by rw[←ZMv,show 32 - s+s=32 by omega]
 have hp:=ZMA s;have h1:=ZL6 x (2 ^ s);have h2:=ZL6 y (2 ^ s);have hx2:x / 2 ^ s < 2 ^ (32 - s):=(ZL8 hp).2 (by rw[←e];exact hx);have hy2:=ZMi y hp;have e1:(y*4294967296+x) / 2 ^ s=y*2 ^ (32 - s)+x / 2 ^ s:=by rw[e,←ZMk,Nat.add_comm,ZL3 _ _ hp,Nat.add_comm]
 have e2:y*2 ^ (32 - s)+x / 2 ^ s=(y % 2 ^ s)*2 ^ (32 - s)+x / 2 ^ s+4294967296*(y / 2 ^ s):=by
  rw[e];have:y*2 ^ (32 - s)=(2 ^ s*(y / 2 ^ s)+y % 2 ^ s)*2 ^ (32 - s):=by rw[h2]
  rw[this,ZL2,ZMl (2 ^ s),ZMl (2 ^ (32 - s)),ZMk (y / 2 ^ s),ZMl (y / 2 ^ s)];omega
 have hlt:(y % 2 ^ s)*2 ^ (32 - s)+x / 2 ^ s < 4294967296:=by have:=ZMo (2 ^ (32 - s)) (show y % 2 ^ s+1≤2 ^ s from hy2);rw[ZL2,ZMu,ZMl (2 ^ s),←e]at this;omega
 rw[e1,e2,Nat.add_mul_mod_self_left,ZMh hlt,ZL2,ZMk,←e,ZMl (x / 2 ^ s),ZMl (y % 2 ^ s)];simp only[Bw];omega
theorem ZIG {u:List Nat} {k s R:Nat} (q:List Int) (hs:s≤31) (hd:Dg u) (hk:k≤u.length) (hk2:k≤1000000) (hv:val (u.take k)=R*2 ^ s):
  wp (Zsm big (s:Int) 0 k ((k:Nat):Int) (0:Int) q (iL u)) (fun y=>∃(o:List Nat),y=(0,k,q,iL (o++u.drop k))∧o.length=k∧Dg o∧val o=R):=by
 refine Zuj ZAd k (by omega) (fun i (o:List Nat)=>((s:Int),0,k,(k:Int),i,q,iL (o++u.drop o.length))) (fun i o=>o.length=i∧Dg o∧val o*2 ^ s+(if 0 < k then u.getD 0 0 else 0) % 2 ^ s=val (u.take i)+Bw ^ i*((if i < k then u.getD i 0 else 0) % 2 ^ s)) [] ⟨rfl,ZBi,by simp[val]⟩ ?_ ?_
 ·rintro rec i o hi ⟨hol,hod,hov⟩ ih;have hiu:i < u.length:=by omega
  have h1:=hd.get hiu;unfold ZvI Ztv;dsimp only;rw[Zn3];refine⟨fun _=> ?_,fun h=>by have:=of_decide_eq_false h;omega⟩;have hlen:(o++u.drop o.length).length=u.length:=by simp;omega
  have gx:(iL (o++u.drop o.length))[i]? =some (u[i]:Int):=by rw[ZBg (by omega)];congr 2;rw[ZLO (by omega)];simp[hol]
  obtain⟨y,hy,hyB,hye⟩:∃y:Nat,ZuS (iL (o++u.drop o.length)) 0 k ((i:Int)+1)=some ((y:Int),iL (o++u.drop o.length))∧y < Bw∧y=(if i+1 < k then u.getD (i+1) 0 else 0):=by
   unfold ZuS Zx2
   by_cases hc:i+1 < k
   ·have hiu2:i+1 < u.length:=by omega
    have gy:(iL (o++u.drop o.length))[i+1]? =some (u[i+1]:Int):=by rw[ZBg (by omega)];congr 2;rw[ZLO (by omega)];simp[hol]
    refine⟨u[i+1], ?_,hd.get hiu2, ?_⟩
    ·rw[decide_eq_true (by omega),cond_true,Zpg ⟨by omega,by omega⟩,chk_true,ZMC,show ((i:Int)+1).toNat=i+1 by omega,gy];simp
    ·rw[if_pos hc,ZLL,ZLM hiu2];rfl
   ·refine⟨0, ?_,by decide,by rw[if_neg hc]⟩;rw[decide_eq_false (by omega),cond_false];simp
  rw[hy,ZnE,ZnC,ZnB];dsimp only;rw[ZLJ,ZMC,gx,ZnE,ZnE,ZnC,ZnB,ZnE,ZnE,ZnE,ZDu hyB h1,ZAO s (by omega),ZwA];refine⟨ZnH (by omega),by decide,Zpg ⟨by omega,by omega⟩,by simp,Zpg ⟨by omega,by omega⟩,ZnH (by omega), ?_⟩;generalize ez:(y*4294967296+u[i]) / 2 ^ s % 4294967296=z;have hz:z < Bw:=by rw[←ez];exact ZMi _ (by decide)
  have es:(iL (o++u.drop o.length)).set i (z:Int)=iL ((o++[z])++u.drop (o++[z]).length):=by rw[ZAt,ZLY _ _ (by omega),hol,ZMz,←ZLP (h:=hiu),ZLZ];simp[hol]
  rw[es];refine ih (o++[z]) ⟨by simp[hol],hod.app (ZAK hz), ?_⟩;have hd1:=ZER hs h1 hyB;rw[ez]at hd1;have q1:Bw ^ i*(z*2 ^ s+u[i] % 2 ^ s)=Bw ^ i*(u[i]+Bw*(y % 2 ^ s)):=by rw[hd1]
  have eg:u.getD i 0=u[i]:=by rw[ZLL,ZLM hiu];rfl
  rw[if_pos hi,eg]at hov;rw[ZMj,ZMj]at q1;rw[Zxv,hol,ZoK hiu,←hye,ZMx,ZL2,ZMk,ZMk];omega
 ·rintro rec o ⟨hol,hod,hov⟩;unfold ZvI Ztv;dsimp only;rw[Zn3];refine⟨fun h=>by have:=of_decide_eq_true h;omega,fun _=> ?_⟩;rw[ZnB];refine⟨o,by rw[hol],hol,hod, ?_⟩;rw[if_neg (Nat.lt_irrefl _),Nat.zero_mod,ZMt,ZL5,hv]at hov;have hp:=ZMA s;have:(val o*2 ^ s+(if 0 < k then u.getD 0 0 else 0) % 2 ^ s) / 2 ^ s=R*2 ^ s / 2 ^ s:=by rw[hov]
  rw[Nat.add_comm,ZL3 _ _ hp,ZL7 (ZMi _ hp),Nat.mul_div_cancel _ hp]at this;omega
theorem ZEx {x s:Nat} (hs:s≤31) (h:x*2 ^ s < 4294967296):(x+1)*2 ^ s≤4294967296:=by
 have e:(4294967296:Nat)=2 ^ (32 - s)*2 ^ s:=by rw[←ZMv,show 32 - s+s=32 by omega]
 rw[e]at h⊢
 exact ZMo _ (Nat.lt_of_mul_lt_mul_right h)
theorem ZFF {d u:List Nat} {m K s U:Nat} (hd:d.length=m+2) (hdd:Dg d) (h1:1≤d[m+1]) (hu:u.length=K+m+2) (hud:Dg u) (hU:val u=U) (hlt:U < Bw ^ K*val d) (hK:K≤100000) (hm:m≤100000):
  wp (Zsn big ((m+2:Nat):Int) (s:Int) (iL d) ((K:Int) - 1) (iL u) (iL (ZLX K 0))) (fun y=>∃u' qs:List Nat,y=(((m+2:Nat):Int),(s:Int),iL u',iL qs)∧u'.length=K+m+2∧Dg u'∧qs.length=K∧Dg qs∧val u'+val qs*val d=U∧val u' < val d):=by
 rw[show iL (ZLX K 0)=iL (ZLX (K - ([]:List Nat).length) 0++[]) by simp];have hDlt:=Zym hdd;rw[hd]at hDlt;refine ZBO ZAe K (by omega) (fun i (t:List Nat×List Nat)=>(((m+2:Nat):Int),(s:Int),iL d,i,iL t.1,iL (ZLX (K - t.2.length) 0++t.2))) (fun k t=>t.1.length=K+m+2∧Dg t.1∧t.2.length+k=K∧Dg t.2∧val t.1+Bw ^ k*(val t.2*val d)=U∧val t.1 < Bw ^ k*val d) (u,[]) ⟨hu,hud,by simp,ZBi,by simp[val,hU],by rw[hU];exact hlt⟩ ?_ ?_
 ·rintro rec k ⟨v,qs⟩ hk ⟨hvl,hvd,hql,hqd,hv,hvlt⟩ ih;dsimp only at hvl hvd hql hqd hv hvlt ih;unfold ZvJ Ztw;dsimp only;have hwl:((v.drop k).take (m+3)).length=m+3:=by simp;omega
  have hpl:(v.take k).length=k:=by simp;omega
  have esplit:v=v.take k++((v.drop k).take (m+3)++v.drop (k+(m+3))):=by rw[←List.drop_drop,ZL0,ZL0]
  have hvs:val v=val (v.take k)+Bw ^ k*(val ((v.drop k).take (m+3))+Bw ^ (m+3)*val (v.drop (k+(m+3)))):=by
   have:val v=val (v.take k++((v.drop k).take (m+3)++v.drop (k+(m+3)))):=by rw[←esplit]
   rw[this,ZAx,ZAx,hpl,hwl]
  have hpd:=Zym (hvd.take k);rw[hpl]at hpd;have hwd:=(hvd.drop k).take (m+3);have hsd:=hvd.drop (k+(m+3));have hvd':=hvd;generalize v.take k=pre at*
  generalize (v.drop k).take (m+3)=w at*
  generalize v.drop (k+(m+3))=suf at*
  subst esplit;have hX:val w+Bw ^ (m+3)*val suf < Bw*val d:=by
   have:Bw ^ k*(val w+Bw ^ (m+3)*val suf) < Bw ^ k*(Bw*val d):=by rw[←ZMk,←ZMx];show _ < Bw ^ (k+1)*val d;omega
   exact Nat.lt_of_mul_lt_mul_left this
  have hs0:val suf=0:=by
   rcases ZL9 (val suf)with hz |hz
   ·exact hz
   ·exfalso;have h5:=ZMn (Bw ^ (m+3)) hz;have h6:Bw*val d≤Bw*Bw ^ (m+2):=ZMn _ (Nat.le_of_lt hDlt);rw[ZMl Bw (Bw ^ (m+2)),←ZMx]at h6;have h7:Bw*val d≤Bw ^ (m+3):=h6;omega
  rw[hs0,ZMt,ZL5]at hX hvs;rw[Zn3];refine⟨fun _=> ?_,fun h=>by have:=of_decide_eq_false h;omega⟩;rw[ZnE,ZnE,ZnE,ZnC,Zn0,hvl];refine⟨ZnH (by omega),ZnH (by omega),Zsz ⟨by omega,by omega,by omega⟩, ?_⟩;rw[show ((k:Int)+((m+2:Nat):Int)+1).toNat - (k:Int).toNat=m+3 by omega,ZLJ];have hdw:=ZF8 (pre:=pre) (suf:=suf) hwl hd hwd hdd hm h1 hX;rw[hpl]at hdw;refine ZnI hdw ?_;rintro y ⟨w',rfl,hw'l,hw'd,hw'v⟩;dsimp only;have hDpos:0 < val d:=by
   rcases ZL9 (val d)with hz |hz
   ·rw[hz,ZMt]at hX;omega
   ·exact hz
  have hq:val w / val d < Bw:=(ZL8 hDpos).2 hX;have hdm:=ZL6 (val w) (val d);have hml:=ZMi (val w) hDpos;generalize val w / val d=q at*
  have es:(ZLX (K - qs.length) 0++qs).set k q=ZLX (K - (qs.length+1)) 0++q::qs:=by
   have e:K - qs.length=k+1:=by omega
   have e2:K - (qs.length+1)=k:=by omega
   rw[e,e2,List.replicate_succ',List.append_assoc,ZLY _ _ (by simp),ZLS,ZMz];rfl
  rw[ZnE,ZnE,ZAt,es];refine⟨Zpg ⟨by omega,by rw[Zn0];simp only[ZLQ,ZLS];omega⟩,ZnH (by omega), ?_⟩;have hsl:suf.length+(k+(m+3))=K+m+2:=by rw[←hvl,ZLQ,ZLQ,hpl,hwl];omega
  refine ih (pre++(w'++suf),q::qs) ⟨?_, ?_,by simp only[ZLR];omega,fun y hy=> ?_, ?_, ?_⟩
  ·simp only[ZLQ,hpl,hw'l];omega
  ·refine Dg.app (fun y hy=>hvd' y (List.mem_append_left _ hy)) (Dg.app hw'd hsd)
  ·rcases ZLW.1 hy with rfl |hy
   ·exact hq
   ·exact hqd y hy
  ·dsimp only;rw[ZAx,ZAx,hpl,hs0,ZMt,ZL5,hw'v,val,ZL2,ZMj];rw[hvs,←hdm,ZMj,ZMx,ZMk]at hv;rw[ZMl q (val d),ZMk Bw];omega
  ·dsimp only;rw[ZAx,ZAx,hpl,hs0,ZMt,ZL5,hw'v];have:=ZMn (Bw ^ k) (show val w % val d+1≤val d from hml);rw[ZMj,ZMs]at this;omega
 ·rintro rec ⟨v,qs⟩ ⟨hvl,hvd,hql,hqd,hv,hvlt⟩;dsimp only at hvl hvd hql hqd hv hvlt;unfold ZvJ Ztw;dsimp only;rw[Zn3];refine⟨fun h=>by have:=of_decide_eq_true h;omega,fun _=> ?_⟩;rw[ZnB];rw[Nat.pow_zero,ZMu]at hv hvlt;refine⟨v,qs, ?_,hvl,hvd,hql,hqd,hv,hvlt⟩;rw[show K - qs.length=0 by omega];rfl
end Go.Proofs
namespace Go.Proofs
open Go Eng
theorem ZBR (a b:Nat) (hb0:b≠0) (ha:(wd a).length≤50000) (hb:(wd b).length≤50000):Zre (iL (wd a)) (iL (wd b))=some (iL (wd (a / b)),iL (wd (a % b))):=by
 refine Zq6 ?_;unfold Zre;rw[ZBX a b (by omega) (by omega),ZnC,ZnB,Zn3];refine⟨fun h=> ?_,fun h=> ?_⟩
 ·have hab:a < b:=by
   have:=of_decide_eq_true h;rcases ZMe a b with h1 |h1 |h1
   ·exact h1
   ·rw[h1,Zyd]at this;omega
   ·rw[Zy4 h1]at this;omega
  rw[ZEl _ (by omega),ZnC,ZnB,ZnB,ZL7 hab,ZMh hab,ZvZ,ZI3]
 ·have hab:b≤a:=by
   have:=of_decide_eq_false h;rcases ZMe a b with h1 |h1 |h1
   ·rw[Zzj h1]at this;omega
   ·omega
   ·omega
  have hlb:=ZtI hb0;rw[Zn0,Zn0,Zn3];refine⟨fun h=> ?_,fun h=> ?_⟩
  ·have h1:(wd b).length=1:=by have:=eq_of_beq h;omega
   have hbB:b < Bw:=by have:=ZxO b;rwa [h1,Nat.pow_one]at this
   have eb:idx (iL (wd b)) 0=some (b:Int):=by rw[ZBA hb0,ZMh hbB];rfl
   rw[eb,ZnC,ZnB,ZFI a b hb0 hbB (by omega),ZnC,ZnB];dsimp only;have hr:a % b < Bw:=Nat.lt_trans (ZMi _ (by omega)) hbB;rw[show ([((a % b:Nat):Int)]:List Int)=iL [a % b]from rfl,ZAN (ZAK hr) (by simp),ZnC,ZnB,ZnB];simp only[val,ZMt,ZL5]
  ·obtain⟨m,hm⟩:∃m,(wd b).length=m+2:=⟨(wd b).length - 2,by
    have:(wd b).length≠1:=fun e=>by rw[e]at h;exact absurd h (by decide)
    omega⟩
   have hla:m+2≤(wd a).length:=by
    rcases ZMd (wd a).length (wd b).length with h1 |h1
    ·have:=ZCM h1;omega
    ·omega
   have hi:m+1 < (wd b).length:=by omega
   have htop:(wd b)[m+1]≠0:=fun e=>by have h1:=ZoK hi;rw[e,ZMt,ZL5,ZL1 (by omega),Ztc]at h1;have h2:=Zym ((Zxh b).take (m+1));rw[ZLV,ZMf (by omega)]at h2;have h3:=ZDh hi;omega
   obtain⟨s,hs,hse,hs1,hs2⟩:=ZIS htop ((Zxh b).get hi);have e1:((m+2:Nat):Int) - 1=((m+1:Nat):Int):=by omega
   rw[hm,e1,ZvY hi,ZnE,ZnC,ZnB,hse,ZnC,ZnB];refine⟨ZnH (by omega), ?_⟩;obtain⟨u,hu,hud,hul,huv⟩:=ZCH (wd a) s hs (by omega) (Zxh a);obtain⟨v,hv,hvd,hvl,hvv⟩:=ZCH (wd b) s hs (by omega) (Zxh b);rw[hu,ZnC,ZnB,hv,ZnC,ZnB,ZnE,ZnE,ZnE,ZnE,ZnE];rw[Ztc]at huv hvv;have hvlt:val v < Bw ^ (m+2):=by
    have h1:=ZoK hi;rw[ZL1 (by omega),Ztc]at h1;have h2:=Zym ((Zxh b).take (m+1));rw[ZLV,ZMf (by omega)]at h2;have h3:b+1≤Bw ^ (m+1)*((wd b)[m+1]+1):=by rw[ZMj,ZMs];omega
    have h4:=ZMo (2 ^ s) h3;have h5:=ZMn (Bw ^ (m+1)) (ZEx hs hs2);rw[ZMk]at h4;have h6:=ZMA s;rw[ZL2,ZMu]at h4;rw[hvv,ZMx];show _ < Bw ^ (m+1)*4294967296;omega
   obtain⟨K,hK⟩:∃K,(wd a).length=K+m+1:=⟨(wd a).length - m - 1,by omega⟩;have eK:((wd a).length:Int) - ((m+2:Nat):Int)+1=(K:Int):=by omega
   have ed:((iL v).drop 0).take (((m+2:Nat):Int).toNat - 0)=iL (v.take (m+2)):=by rw[ZLK,ZLJ,Nat.sub_zero,ZDV]
   have hdv:val (v.take (m+2))=b*2 ^ s:=by rw[ZB0 hvlt,hvv]
   have hdl:(v.take (m+2)).length=m+2:=by rw[ZLV];omega
   have hdd:=hvd.take (m+2);rw[eK,ed,ZLJ,ZCp,Zn0 v,Zn0 (ZLX K 0),ZLS];refine⟨Zsz ⟨by omega,by omega,by omega⟩,ZnH (by omega),ZnH (by omega),ZAT (by omega),ZnH (by omega), ?_⟩;generalize v.take (m+2)=d at*
   have hp:=ZMA s;have h1:1≤d[m+1]:=by
    rcases ZL9 d[m+1]with hz |hz
    ·exfalso;have h1:=ZoK (l:=d) (k:=m+1) (by omega);rw[hz,ZMt,ZL5,ZL1 (by omega)]at h1;have h2:=Zym (hdd.take (m+1));rw[ZLV,ZMf (by omega)]at h2;rw[hdv]at h1;have h3:=ZDh hi;have:=Nat.le_mul_of_pos_right b hp;omega
    ·exact hz
   have hUlt:a*2 ^ s < Bw ^ K*val d:=by have h2:=ZxO a;have h3:=ZMn (Bw ^ K) (ZDh hi);rw[←ZMv,←Nat.add_assoc,←hK]at h3;rw[hdv,←ZMk];exact ZMq (by omega) hp
   rw[ZnC];refine ZnI (ZFF (s:=s) hdl hdd h1 (by omega) hud huv hUlt (by omega) (by omega)) ?_;rintro y ⟨u',qs,rfl,hu'l,hu'd,hql,hqd,hv',hlt'⟩;dsimp only;have hDpos:0 < val d:=by omega
   have eq1:val qs=a / b:=by rw[←Nat.mul_div_mul_right a b hp,←hdv,←hv',ZL3 _ _ hDpos,ZL7 hlt',ZMC]
   have eq2:val u'=a % b*2 ^ s:=by rw[←ZMr,←hdv,←hv',ZL4,ZMh hlt']
   have hDlt:=Zym hdd;rw[hdl]at hDlt;have hut:val (u'.take (m+2))=val u':=ZB0 (by omega);obtain⟨k',hk',hkv,hke⟩:=ZKJ u' (m+2) (by omega) (by omega);unfold ZwR;rw[ZLJ,Nat.sub_zero,hke,ZnE,ZnC,ZnB,Zn0];refine⟨Zsz ⟨by omega,by omega,by omega⟩, ?_⟩;dsimp only;rw[ZnC];refine ZnI (ZIG (R:=a % b) (iL qs) hs hu'd (by omega) (by omega) (by rw[hkv,hut,eq2])) ?_;rintro y ⟨o,rfl,hol,hod,hov⟩;dsimp only;unfold ZwQ;have eo:((iL (o++u'.drop k')).drop 0).take k'=iL o:=by rw[ZLK,ZDV,List.take_left' hol]
   rw[eo,ZAN hqd (by omega),ZnC,ZnB,ZAN hod (by omega),ZnC,ZnB,ZnB,eq1,hov]
theorem Zu0 {a b:Nat} (h:a≤b):(wd a).length≤(wd b).length:=Zzm (Nat.lt_of_le_of_lt h (ZxO b))
theorem ZCu:∀(n a b:Nat),b≤a→a*b < 2 ^ n→(wd a).length≤50000→∀f,n < f→Zpy f (iL (wd a)) (iL (wd b))=some (iL (wd (ZMa a b)))
 |n,a,b,hba,hn,ha,0,hf=>absurd hf (by omega)
 |n,a,b,hba,hn,ha,f+1,hf=>by
  show ZqW (Zpy f) _ _=_;unfold ZqW;rw[Zn0]
  by_cases h0:b=0
  ·subst h0;rw[ZvZ,Nat.gcd_zero_right];rfl
  ·have hl:=ZtI h0;rw[decide_eq_true (by omega),cond_true,ZBR a b h0 ha (ZMb (Zu0 hba) ha),ZMD];dsimp only;have hlt:=ZMi a (show 0 < b by omega);cases n with
   |zero=>
    have:1*1≤a*b:=ZMm (by omega) (by omega);rw[Nat.pow_zero]at hn;omega
   |succ n=>
    have hdm:=ZL6 a b;have hq:1≤a / b:=(Nat.le_div_iff_mul_le (by omega)).2 (by omega);have h1:=ZMn b hq;have h2:b*(2*(a % b))≤b*a:=ZMn b (by omega);rw[ZMp,ZMl b a]at h2;rw[ZCu n b (a % b) (by omega) (by rw[ZMx]at hn;omega) (ZMb (Zu0 hba) ha) f (by omega),Nat.gcd_comm a b,Nat.gcd_rec b a,Nat.gcd_comm]
theorem ZCv (a b:Nat) (ha:(wd a).length≤50000) (hb:(wd b).length≤50000):Zrk (iL (wd a)) (iL (wd b))=some (iL (wd (ZMa a b))):=by
 have bnd:∀x y:Nat,x*y < 2 ^ (32*(wd x).length+32*(wd y).length):=fun x y=>by
  have e:∀z,z < 2 ^ (32*(wd z).length):=fun z=>by
   have:=ZxO z
   rwa [show Bw=2 ^ 32 from rfl,←Nat.pow_mul]at this
  have h1:=Nat.mul_lt_mul_of_lt_of_le (e x) (Nat.le_of_lt (e y)) (ZMA _)
  rwa [←ZMv]at h1
 have key:Zpy big (iL (wd a)) (iL (wd b))=some (iL (wd (ZMa a b))):=by
  obtain⟨k,hk,hk2⟩:∃k,big=k+1∧3200004 < k:=⟨36893488147419103231,by rw[big_eq],by omega⟩;rw[hk];rcases ZMd a b with h |h
  ·show ZqW (Zpy k) _ _=_;unfold ZqW;have h0:b≠0:=by omega
   have hl:=ZtI h0;rw[Zn0,decide_eq_true (by omega),cond_true,ZBR a b h0 ha hb,ZMD];dsimp only;rw[ZMh h,ZCu _ b a (by omega) (bnd b a) hb k (by omega),Nat.gcd_comm]
  ·exact ZCu _ a b h (bnd a b) ha (k+1) (by omega)
 unfold Zrk ZvK;rw[key,ZMD]
end Go.Proofs
namespace Go.Proofs
open Go Eng
def bg (z:Int):ZnD:=⟨decide (z < 0),iL (wd z.natAbs)⟩
theorem Zy5 (z:Int):(bg z).Neg=decide (z < 0):=rfl
theorem ZpR (z:Int):(bg z).Words=iL (wd z.natAbs):=rfl
abbrev Wl (n:Nat) (z:Int):Prop:=(wd z.natAbs).length≤n
theorem Zxi (neg:Bool) (n:Nat) (h:(wd n).length≤1000000):ZoN neg (iL (wd n))=some (bg (if neg then -(n:Int)else n)):=by
 unfold ZoN Zwx bg;have hr:ZiZ (iL (wd n)).length 4=true:=Zyc (by rw[Zn0];omega);cases neg with
 |true=>
  rw[cond_true,hr,chk_true,Zn0,if_pos rfl,Int.natAbs_neg,Int.natAbs_natCast];congr 2
  by_cases h0:n=0
  ·subst h0;rw[ZvZ];rfl
  ·have:=ZtI h0;rw[decide_eq_true (by omega),decide_eq_true (by omega)]
 |false=>
  rw[cond_false,hr,chk_true,if_neg (by decide),Int.natAbs_natCast,decide_eq_false (by omega)]
theorem ZBU (n:Nat) (h:n < 18446744073709551616):Zs8 (n:Int)=some (iL (wd n)):=by
 unfold Zs8;have e:([IntKind.wrap .u32 (n:Int),IntKind.wrap .u32 (shrK .u64 (n:Int) 32)]:List Int)=iL [n % 4294967296,n / 4294967296]:=by rw[show (32:Int)=((32:Nat):Int)from rfl,ZAO 32 (by omega),ZwA,Zxg (by omega)];rfl
 have hd:Dg [n % 4294967296,n / 4294967296]:=fun d hd=>by
  simp only[ZLW,List.mem_singleton,List.not_mem_nil,or_false]at hd;rcases hd with rfl |rfl
  ·exact ZMi _ (by decide)
  ·simp only[Bw];omega
 rw[e,ZAN hd (by simp)];have hv:val [n % 4294967296,n / 4294967296]=n:=by simp only[val,ZMt,ZL5];exact ZMg n Bw
 rw[hv];rfl
theorem ZHp {n:Nat} (h:n < 18446744073709551616):(wd n).length≤2:=Zzm (by simp only[Bw];omega)
theorem ZCP (z:Int) (h1: -9223372036854775808≤z) (h2:z≤9223372036854775807):Zul z=some (bg z):=by
 unfold Zul
 by_cases hz:z < 0
 ·have e:IntKind.wrap .u64 (0 - IntKind.wrap .u64 z)=((z.natAbs:Nat):Int):=by rw[IntKind.wrap_u64,IntKind.wrap_u64];omega
  rw[decide_eq_true hz,cond_true,e,ZBU _ (by omega),ZMD,Zxi _ _ (ZMb (ZHp (by omega)) (by decide)),ZMD,if_pos rfl,show -((z.natAbs:Nat):Int)=z by omega]
 ·have e:IntKind.wrap .u64 z=((z.natAbs:Nat):Int):=by rw[IntKind.wrap_u64];omega
  rw[decide_eq_false hz,cond_false,e,ZBU _ (by omega),ZMD,Zxi _ _ (ZMb (ZHp (by omega)) (by decide)),ZMD,if_neg (by decide),show ((z.natAbs:Nat):Int)=z by omega]
theorem Zz4 (z:Int) (h:Wl 256 z):ZtU (bg z)=some true:=by
 unfold Wl at h;have top:∀hp:0 < (wd z.natAbs).length,∃x:Nat,idx (iL (wd z.natAbs)) (((wd z.natAbs).length:Int) - 1)=some (x:Int)∧x≠0:=fun hp=>by
  refine⟨(wd z.natAbs)[(wd z.natAbs).length - 1], ?_,fun e=> ?_⟩
  ·rw[show ((wd z.natAbs).length:Int) - 1=(((wd z.natAbs).length - 1:Nat):Int) by omega,ZvY (by omega)]
  ·have hi:(wd z.natAbs).length - 1 < (wd z.natAbs).length:=by omega
   have h1:=ZoK hi;rw[e,ZMt,ZL5,ZL1 (by omega),Ztc]at h1;have h2:=Zym ((Zxh z.natAbs).take ((wd z.natAbs).length - 1));rw[ZLV,ZMf (by omega)]at h2;have h3:=ZDh hi;omega
 unfold ZtU ZpY;rw[ZpR,Zy5,Zn0,decide_eq_true (by omega),cond_true]
 by_cases h0:(wd z.natAbs).length=0
 ·have:z=0:=by have:=ZIu.1 (List.eq_nil_of_length_eq_zero h0);omega
  subst this;rw[h0];rfl
 ·obtain⟨x,hx,hx0⟩:=top (by omega);have e0:(((wd z.natAbs).length:Int) == 0)=false:=beq_eq_false_iff_ne.2 (by omega);have e1:((x:Int) != 0)=true:=by simp only[bne_iff_ne];omega
  rw[e0,cond_false,decide_eq_true (by omega),cond_true,ZnH (by omega),chk_true,hx,ZMD,e1]
theorem ZFk (x y:Int):(if (!((bg x).Neg == (bg y).Neg))=true then -((x.natAbs*y.natAbs:Nat):Int)else ((x.natAbs*y.natAbs:Nat):Int))=x*y:=by
 rw[Zy5,Zy5]
 by_cases hx:x < 0<;>by_cases hy:y < 0
 ·rw[decide_eq_true hx,decide_eq_true hy,if_neg (by decide),ZLI,show ((x.natAbs:Nat):Int)= -x by omega,show ((y.natAbs:Nat):Int)= -y by omega,Int.neg_mul_neg]
 ·rw[decide_eq_true hx,decide_eq_false hy,if_pos (by decide),ZLI,show ((x.natAbs:Nat):Int)= -x by omega,show ((y.natAbs:Nat):Int)=y by omega,Int.neg_mul,Int.neg_neg]
 ·rw[decide_eq_false hx,decide_eq_true hy,if_pos (by decide),ZLI,show ((x.natAbs:Nat):Int)=x by omega,show ((y.natAbs:Nat):Int)= -y by omega,Int.mul_neg,Int.neg_neg]
 ·rw[decide_eq_false hx,decide_eq_false hy,if_neg (by decide),ZLI,show ((x.natAbs:Nat):Int)=x by omega,show ((y.natAbs:Nat):Int)=y by omega]
theorem ZDg {x y:Nat} {n m:Nat} (hx:(wd x).length≤n) (hy:(wd y).length≤m):(wd (x*y)).length≤n+m:=by refine Zzm ?_;have h1:=Nat.mul_lt_mul_of_lt_of_le (ZxO x) (Nat.le_of_lt (ZxO y)) (Nat.pow_pos (by decide));rw[←ZMv]at h1;exact ZMc h1 (ZMw (by decide) (by omega))
theorem ZCK (x y:Int) (hx:Wl 50000 x) (hy:Wl 50000 y):ZrG (bg x) (bg y)=some (bg (x*y)):=by unfold ZrG;have:=ZDg hx hy;rw[ZpR,ZpR,ZCW _ _ (by omega) (by omega),ZMD,Zxi _ _ (by omega),ZMD,ZFk]
theorem ZD5 {x y n:Nat} (hx:(wd x).length≤n) (hy:(wd y).length≤n):(wd (x+y)).length≤n+1:=by refine Zzm ?_;have h1:=ZMc (ZxO x) (ZMw (n:=Bw) (by decide) hx);have h2:=ZMc (ZxO y) (ZMw (n:=Bw) (by decide) hy);rw[ZMx];have:=ZMn (Bw ^ n) (show 2≤Bw by decide);omega
theorem ZIC (x y:Int) (hx:Wl 50000 x) (hy:Wl 50000 y):ZyI (bg x) (bg y)=some (bg (x+y)):=by
 unfold Wl at hx hy;unfold ZyI;have h1:=ZD5 hx hy;rw[ZpR,ZpR,Zy5,Zy5];have opp:decide (x < 0)≠decide (y < 0)→Zpq (iL (wd x.natAbs)) (iL (wd y.natAbs))=some (ZCL x.natAbs y.natAbs):=fun _=>ZBX _ _ (by omega) (by omega)
 by_cases hs:decide (x < 0)=decide (y < 0)
 ·rw[hs,beq_self_eq_true,cond_true,ZEU _ _ (by omega) (by omega),ZMD,Zxi _ _ (by omega),ZMD];congr 2
  by_cases hy0:y < 0
  ·have hx0:x < 0:=by rw[decide_eq_true hy0]at hs;exact of_decide_eq_true hs
   rw[decide_eq_true hy0,if_pos rfl];omega
  ·have hx0:¬x < 0:=by rw[decide_eq_false hy0]at hs;exact of_decide_eq_false hs
   rw[decide_eq_false hy0,if_neg (by decide)];omega
 ·rw[beq_eq_false_iff_ne.2 hs,cond_false,opp hs,ZMD];rcases ZMd x.natAbs y.natAbs with hlt |hge
  ·have:=Zu0 (Nat.sub_le y.natAbs x.natAbs);rw[Zzj hlt,decide_eq_false (by omega),cond_false,ZEk _ _ (by omega) (by omega),ZMD,Zxi _ _ (by omega),ZMD];congr 2
   by_cases hy0:y < 0
   ·have hx0:¬x < 0:=fun h=>hs (by rw[decide_eq_true hy0,decide_eq_true h])
    rw[decide_eq_true hy0,if_pos rfl];omega
   ·have hx0:x < 0:=Decidable.byContradiction fun h=>hs (by rw[decide_eq_false hy0,decide_eq_false h])
    rw[decide_eq_false hy0,if_neg (by decide)];omega
  ·have hn:ZCL x.natAbs y.natAbs≥0:=by
    rcases ZMd y.natAbs x.natAbs with h |h
    ·rw[Zy4 h];decide
    ·rw[show x.natAbs=y.natAbs by omega,Zyd];decide
   have:=Zu0 (Nat.sub_le x.natAbs y.natAbs);rw[decide_eq_true hn,cond_true,ZEk _ _ hge (by omega),ZMD,Zxi _ _ (by omega),ZMD];congr 2
   by_cases hx0:x < 0
   ·have hy0:¬y < 0:=fun h=>hs (by rw[decide_eq_true hx0,decide_eq_true h])
    rw[decide_eq_true hx0,if_pos rfl];omega
   ·have hy0:y < 0:=Decidable.byContradiction fun h=>hs (by rw[decide_eq_false hx0,decide_eq_false h])
    rw[decide_eq_false hx0,if_neg (by decide)];omega
end Go.Proofs
namespace Go.Proofs
open Go Eng
def fOf (q:Rat):ZnA:=⟨bg q.num,bg (q.den:Int)⟩
theorem ZD4 {x n:Nat} (g:Nat) (h:(wd x).length≤n):(wd (x / g)).length≤n:=ZMb (Zu0 (Nat.div_le_self x g)) h
theorem ZEI {x y n:Nat} (hy:0 < y) (h:(wd y).length≤n):(wd (ZMa x y)).length≤n:=ZMb (Zu0 (Nat.gcd_le_right x hy)) h
theorem ZBP (x y:Int) (hy:y≠0) (hx1:Wl 50000 x) (hy1:Wl 50000 y):Zs7 (bg x) (bg y)=some (fOf (Rat.divInt x y)):=by
 have hy0:0 < y.natAbs:=by omega
 have hg0:ZMa x.natAbs y.natAbs≠0:=fun e=>by have:=Nat.gcd_pos_of_pos_right x.natAbs hy0;omega
 have hgl:=ZEI (x:=x.natAbs) hy0 hy1;have hxl:=ZD4 (ZMa x.natAbs y.natAbs) hx1;have hyl:=ZD4 (ZMa x.natAbs y.natAbs) hy1;unfold Zs7;rw[ZpR,ZpR,ZCv _ _ hx1 hy1,ZMD,ZBR _ _ hg0 hx1 hgl,ZMD];dsimp only;rw[ZBR _ _ hg0 hy1 hgl,ZMD];dsimp only;rw[Zxi _ _ (by omega),ZMD,Zxi _ _ (by omega),ZMD,Zy5,Zy5];unfold fOf;rw[Rat.num_divInt,Rat.den_divInt,if_neg hy];have eg:Int.gcd y x=ZMa x.natAbs y.natAbs:=by rw[Int.gcd_comm];rfl
 rw[eg];have key:(if (!(decide (x < 0) == decide (y < 0)))=true then -((x.natAbs / ZMa x.natAbs y.natAbs:Nat):Int)else ((x.natAbs / ZMa x.natAbs y.natAbs:Nat):Int))=y.sign*x / (ZMa x.natAbs y.natAbs:Int):=by
  obtain⟨k,hk⟩:=Nat.gcd_dvd_left x.natAbs y.natAbs;generalize ZMa x.natAbs y.natAbs=g at*
  have hgp:0 < g:=by omega
  have e1:x.natAbs / g=k:=by rw[hk,Nat.mul_div_cancel_left _ hgp]
  have e2:((g:Int)*(k:Int)) / (g:Int)=k:=Int.mul_ediv_cancel_left _ (by omega);have e3:(-((g:Int)*(k:Int))) / (g:Int)= -k:=by rw[←Int.mul_neg,Int.mul_ediv_cancel_left _ (by omega)]
  have hk':((x.natAbs:Nat):Int)=(g:Int)*(k:Int):=by rw[hk];norm_cast
  rw[e1]
  by_cases hx0:x < 0<;>by_cases hy0:y < 0
  ·rw[decide_eq_true hx0,decide_eq_true hy0,if_neg (by decide),Int.sign_eq_neg_one_of_neg hy0,show -1*x=(g:Int)*k by omega,e2]
  ·rw[decide_eq_true hx0,decide_eq_false hy0,if_pos (by decide),Int.sign_eq_one_of_pos (by omega),show 1*x= -((g:Int)*k) by omega,e3]
  ·rw[decide_eq_false hx0,decide_eq_true hy0,if_pos (by decide),Int.sign_eq_neg_one_of_neg hy0,show -1*x= -((g:Int)*k) by omega,e3]
  ·rw[decide_eq_false hx0,decide_eq_false hy0,if_neg (by decide),Int.sign_eq_one_of_pos (by omega),show 1*x=(g:Int)*k by omega,e2]
 rw[key,if_neg Bool.false_ne_true]
theorem ZFj:∀l:List Int,l.length≤1000→(∀z∈l,Wl 256 z)→ZwS (l.map bg)=some true:=fun l hl h=>by
 refine Zq6 ?_;unfold ZwS;rw[ZnC,List.length_map];refine ZnI (Zuj ZA7 l.length (by omega) (fun i (_:Unit)=>(l.map bg,(l.length:Int),i)) (fun _ _=>True) (Q:=fun r=>r= .brk ()) () trivial ?_ ?_) ?_
 ·rintro rec i ⟨⟩ hi _ ih;unfold Zyz Zwy;dsimp only;rw[Zn3];refine⟨fun _=> ?_,fun h=>by have:=of_decide_eq_false h;omega⟩;rw[ZuA (by rw[List.length_map];exact hi),ZnC,ZnB,List.getElem_map,Zz4 _ (h _ (List.getElem_mem hi)),ZnC,ZnB];rw[Bool.not_true,cond_false,ZnE];exact⟨ZnH (by omega),ih () trivial⟩
 ·rintro rec ⟨⟩ _;unfold Zyz Zwy;dsimp only;rw[Zn3];refine⟨fun h=>by have:=of_decide_eq_true h;omega,fun _=>ZnB.2 rfl⟩
 ·rintro r rfl;exact ZnB.2 rfl
abbrev Wq (n:Nat) (q:Rat):Prop:=Wl n q.num∧Wl n (q.den:Int)
theorem ZCh:iL (wd 1)=[1]:=by rw[ZBA (by decide),show 1 / Bw=0 from rfl,ZvZ];rfl
theorem ZD7 (q:Rat) (h:Wq 256 q):ZvL (fOf q)=some true:=by
 unfold ZvL ZtT fOf;have hb:=ZFj [q.num,(q.den:Int)] (by simp) (fun z hz=>by
  simp only[ZLW,List.not_mem_nil,or_false]at hz;rcases hz with rfl |rfl
  ·exact h.1
  ·exact h.2)
 have hd:=q.den_nz;have hl:=ZtI (n:=(q.den:Int).natAbs) (by omega);have hn:=h.1;have hdl:=h.2;unfold Wl at hn hdl;dsimp only;rw[show ([bg q.num,bg (q.den:Int)]:List ZnD)=[q.num,(q.den:Int)].map bg from rfl,hb,ZMD,cond_true,ZpR,ZpR,Zn0,decide_eq_true (by omega),cond_true,Zy5,decide_eq_false (by omega),Bool.not_false,cond_true,ZCv _ _ (by omega) (by omega),ZMD];have hc:ZMa q.num.natAbs (q.den:Int).natAbs=1:=q.reduced;have h1:(wd 1).length≤1:=Zzm (by decide);rw[hc,←ZCh,ZBX 1 1 (by omega) (by omega),ZMD,Zyd];rfl
end Go.Proofs
