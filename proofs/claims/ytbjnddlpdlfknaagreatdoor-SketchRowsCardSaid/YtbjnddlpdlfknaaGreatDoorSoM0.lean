/- Plain laws over the specs, part 0. -/
import Derived.Test.YtbjnddlpdlfknaaGreatDoorE4
import Derived.Laws.BitsLemmas
import Derived.Laws.Bits64
import Derived.KernelRfl
import Derived.Test.YtbjnddlpdlfknaaGreatDoorSoS
set_option linter.unusedVariables false
set_option linter.unusedSimpArgs false
set_option linter.unusedSectionVars false
open Int renaming toNat_natCast→ZDV, natCast_add→ZBz, natCast_mul→ZDU
open List renaming replicate→ZD9, take_of_length_le→ZEd, length_take→ZD7, getElem?_eq_getElem→ZDY, length_append→ZD2, length_replicate→ZD4, set_append_right→ZEa, mem_cons→ZD8, getD_eq_getElem?_getD→ZDX, length_cons→ZD3, getElem_cons_drop→ZD1, drop_zero→ZDW, length_set→ZD5, length_singleton→ZD6, take_append_drop→ZEc, set_cons_zero→ZEb, getElem_append_right→ZD0, getElem?_eq_none→ZDZ
open Nat renaming mul_add→ZEv, mul_assoc→ZEw, mod_lt→ZEu, mul_comm→ZEx, pow_succ→ZEJ, mul_zero→ZEF, add_mul→ZEe, mul_le_mul_right→ZEA, add_zero→ZEh, mul_le_mul_left→ZEz, min_eq_left→ZEr, gcd→ZEm, pow_add→ZEH, one_mul→ZEG, two_pow_pos→ZEM, mod_eq_of_lt→ZEt, div_lt_iff_lt_mul→ZEk, lt_or_ge→ZEp, eq_zero_or_pos→ZEl, mod_add_div→ZEs, div_eq_of_lt→ZEj, le_trans→ZEn, zero_add→ZEO, sub_self→ZEL, div_add_mod→ZEi, mul_one→ZEE, lt_trichotomy→ZEq, mul_le_mul→ZEy, mul_left_comm→ZEB, lt_of_lt_of_le→ZEo, pow_le_pow_right→ZEI, add_mul_div_right→ZEf, xor_lt_two_pow→ZEN, shiftRight_xor_distrib→ZEK, mul_lt_mul_of_pos_right→ZEC, mul_mod_mul_right→ZED, add_mul_mod_self_right→ZEg
open Option renaming bind_some→ZEP
namespace Go.Proofs
open Go Eng
def wp {α:Type} (o:Option α) (Q:α→Prop):Prop:=∃x,o=some x∧Q x
section
variable {α β:Type} {Q:α→Prop}
theorem ZnC {x:α}:wp (some x) Q↔Q x:=⟨fun⟨_,h,q⟩=>by cases h;exact q,fun q=>⟨x,rfl,q⟩⟩
theorem ZAn:wp (none:Option α) Q↔False:=by simp[wp]
theorem ZnH {o:Option β} {f:β→Option α}:wp (o.bind f) Q↔wp o (fun a=>wp (f a) Q):=by
 constructor
 ·rintro⟨x,h,q⟩;obtain⟨a,ha,h⟩:=bind_some h;exact⟨a,ha,x,h,q⟩
 ·rintro⟨a,rfl,x,h,q⟩;exact⟨x,h,q⟩
theorem ZnJ {b:Bool} {o:Option α}:wp (chk b o) Q↔b=true∧wp o Q:=by cases b<;>simp[chk,wp]
theorem Zob {b:Bool} {x y:Option α}:wp (bif b then x else y) Q↔(b=true→wp x Q)∧(b=false→wp y Q):=by cases b<;>simp
theorem ZBp {xs:List α} {i:Nat}:wp (xs[i]?) Q↔∃h:i < xs.length,Q xs[i]:=by
 constructor
 ·rintro⟨x,h,q⟩;obtain⟨h1,h2⟩:=List.getElem?_eq_some_iff.1 h;subst h2;exact⟨h1,q⟩
 ·rintro⟨h,q⟩;exact⟨_,ZDY h,q⟩
theorem ZzN {xs:List α} {i:Int}:wp (idx xs i) Q↔0≤i∧∃h:i.toNat < xs.length,Q xs[i.toNat]:=by
 unfold idx;split
 ·rename_i h;rw[ZBp];simp[h]
 ·rename_i h;rw[ZAn];simp[h]
theorem Zn7 {R:α→Prop} {o:Option α} (h:wp o Q) (hr:∀x,Q x→R x):wp o R:=by obtain⟨x,h,q⟩:=h;exact⟨x,h,hr x q⟩
theorem Zqg {o:Option α} {x:α} (h:wp o (· =x)):o=some x:=by obtain⟨y,h,rfl⟩:=h;exact h
theorem Zyw (a:Option α):agree a a=a:=by unfold agree;rw[if_pos rfl]
end
theorem ZnP {n:Int} (h: -9223372036854775808≤n∧n≤9223372036854775807):inK .i64 n=true:=by
 have h0:IntKind.i64.min= -9223372036854775808:=by decide
 have h1:IntKind.i64.max=9223372036854775807:=by decide
 simp only[inK,h0,h1];exact decide_eq_true h
theorem ZtI {n b:Nat} (h:n*(b+1)≤140737488355328):ZiZ n b=true:=decide_eq_true (ZEn (ZEz n (by omega)) h)
theorem wrap_i64 {n:Int} (h: -9223372036854775808≤n∧n≤9223372036854775807):IntKind.wrap .i64 n=n:=by rw[IntKind.wrap_i64];omega
theorem wrap_u8 {n:Int} (h:0≤n∧n≤255):IntKind.wrap .u8 n=n:=by rw[IntKind.wrap_u8];omega
theorem wrap_u64 {n:Int} (h:0≤n∧n≤18446744073709551615):IntKind.wrap .u64 n=n:=by rw[IntKind.wrap_u64];omega
theorem ZqE {n m:Int} (h:0≤n∧n < m):inR n m=true:=decide_eq_true h
theorem ZsJ {a b c:Int} (h:0≤a∧a≤b∧b≤c):Zb9 a b c=true:=decide_eq_true h
theorem Zw0 {m:Nat} (h:m≤36893488147419103231):m < big:=by rw[big_eq];omega
theorem ZxV (k:Nat) (h:k≤36893488147419103232):∃n,big=n+k:=⟨36893488147419103232 - k,by rw[big_eq];omega⟩
end Go.Proofs
namespace Go.Proofs
open Go Eng
theorem Zvy {α σ τ X:Type} {f:Nat→σ→Option X} {body:(σ→Option X)→σ→Option X} (hf:∀n s,f (n+1) s=body (f n) s)
  (xs:List α) (hlen:xs.length≤1000000000000000) (st:Int→τ→σ) (P:Nat→τ→Prop) {Q:X→Prop} (t0:τ) (h0:P 0 t0)
  (step:∀(rec:σ→Option X) (k:Nat) t (h:k < xs.length),P k t→(∀t',P (k+1) t'→wp (rec (st ((k:Int)+1) t')) Q)→wp (body rec (st (k:Int) t)) Q)
  (fin:∀(rec:σ→Option X) t,P xs.length t→wp (body rec (st (xs.length:Int) t)) Q):wp (f big (st 0 t0)) Q:=by
 have key:∀(n k:Nat) t,k≤xs.length→P k t→xs.length - k < n→wp (f n (st (k:Int) t)) Q:=by
  intro n
  induction n with
  |zero=>intro k t _ _ h;omega
  |succ n ih=>
   intro k t hk hP hm;rw[hf]
   by_cases hlt:k < xs.length
   ·refine step _ k t hlt hP fun t' h'=> ?_
    exact ih (k+1) t' (by omega) h' (by omega)
   ·have:k=xs.length:=by omega
    subst this;exact fin _ t hP
 exact key big 0 t0 (Nat.zero_le _) h0 (by rw[big_eq];omega)
theorem Zsz {σ τ X:Type} {f:Nat→σ→Option X} {body:(σ→Option X)→σ→Option X} (hf:∀n s,f (n+1) s=body (f n) s)
  (m:Nat) (hlen:m≤1000000000000000) (st:Int→τ→σ) (P:Nat→τ→Prop) {Q:X→Prop} (t0:τ) (h0:P 0 t0)
  (step:∀(rec:σ→Option X) (k:Nat) t (h:k < m),P k t→(∀t',P (k+1) t'→wp (rec (st ((k:Int)+1) t')) Q)→wp (body rec (st (k:Int) t)) Q)
  (fin:∀(rec:σ→Option X) t,P m t→wp (body rec (st (m:Int) t)) Q):wp (f big (st 0 t0)) Q:=by
 have e:(ZD9 m ()).length=m:=ZD4;refine Zvy hf (ZD9 m ()) (by omega) st P t0 h0 (fun rec k s h=>step rec k s (by omega)) (fun rec s h=> ?_);rw[e]at h⊢
 exact fin rec s h
theorem ZvG {σ τ X:Type} {f:Nat→σ→Option X} {body:(σ→Option X)→σ→Option X} (hf:∀n s,f (n+1) s=body (f n) s)
  (st:τ→σ) (P:τ→Prop) (m:τ→Nat) {Q:X→Prop} (t0:τ) (h0:P t0) (hm:m t0≤1000000000000000)
  (step:∀(rec:σ→Option X) t,P t→(∀t',P t'→m t' < m t→wp (rec (st t')) Q)→wp (body rec (st t)) Q):wp (f big (st t0)) Q:=by
 have key:∀(n:Nat) t,P t→m t < n→wp (f n (st t)) Q:=by
  intro n
  induction n with
  |zero=>intro t _ h;omega
  |succ n ih=>
   intro t hP hm;rw[hf];exact step _ t hP fun t' h' hlt=>ih t' h' (by omega)
 exact key big t0 h0 (by rw[big_eq];omega)
theorem ZhP {α:Type} {xs:List α} {i:Int} (h0:0≤i) (h:i.toNat < xs.length):idx xs i=some xs[i.toNat]:=by unfold idx;rw[if_pos h0,ZDY h]
theorem Zua {α:Type} {xs:List α} {k:Nat} (h:k < xs.length):idx xs (k:Int)=some xs[k]:=by rw[ZhP (by omega) (by simpa using h)];simp
theorem ZxR {α:Type} {xs:List α} {k:Nat} (h:k < xs.length):inR (k:Int) (xs.length:Int)=true:=ZqE ⟨by omega,by omega⟩
end Go.Proofs
namespace Go.Proofs
open Go Eng
theorem ZyU (n:Int) {m:Int} (h:1≤m∧m≤1000000):wp (Zpj n m) (fun r=>0≤r∧r < m):=by have ha: -m < Int.tmod n m∧Int.tmod n m < m:=⟨Int.lt_tmod_of_pos n (by omega),Int.tmod_lt_of_pos n (by omega)⟩;unfold Zpj;have h3:decide (m < 1)=false:=decide_eq_false (by omega);have h4:decide (m≠0)=true:=decide_eq_true (by omega);rw[h3,cond_false,ZnJ,ZnJ,ZnJ,ZnC];exact⟨h4,ZnP (by omega),h4,Int.tmod_nonneg _ (by omega),Int.tmod_lt_of_pos _ (by omega)⟩
def Zu4 (d:ZnD):Prop:=0≤d.at_∧d.at_≤d.l.length∧d.l.length≤500
theorem Zwy {d:ZnD} (hd:Zu4 d) {n:Int} (hn:1≤n∧n≤1000000):wp (ZnX d n) (fun r=>(0≤r.1∧r.1 < n)∧Zu4 r.2):=by
 unfold ZnX;have hd0:=hd;obtain⟨h0,h1,h2⟩:=hd0;rw[Zob];refine⟨fun h=> ?_,fun h=> ?_⟩
 ·rw[ZnC];exact⟨by simp only;omega,hd⟩
 ·simp only[decide_eq_false_iff_not]at h;simp only[ZnJ,ZnH,ZzN,ZnC];refine⟨ZnP (by omega),ZnP (by omega),by omega,by omega,Zn7 (ZyU _ hn) fun r hr=>⟨hr, ?_⟩⟩;simp only[Zu4];omega
end Go.Proofs
namespace Go.Proofs
open Go Eng
theorem Zum (w a:Nat) (h:a < 2 ^ w):(BitVec.ofInt w (a:Int)).toNat=a:=by rw[BitVec.toNat_ofInt];have:((a:Int) % ((2 ^ w:Nat):Int))=(a:Int):=Int.emod_eq_of_lt (by omega) (by exact_mod_cast h);rw[this];simp
theorem Zxq {a b:Nat} (ha:a < 4294967296) (hb:b < 4294967296):andK .u32 (a:Int) (b:Int)=((a&&& b:Nat):Int):=by unfold andK;rw[show IntKind.bits .u32=32 from rfl,BitVec.toNat_and,Zum 32 a ha,Zum 32 b hb,IntKind.wrap_u32];have:=Nat.and_lt_two_pow (n:=32) a hb;omega
theorem Zxw {a b:Nat} (ha:a < 4294967296) (hb:b < 4294967296):orK .u32 (a:Int) (b:Int)=((a|||b:Nat):Int):=by unfold orK;rw[show IntKind.bits .u32=32 from rfl,BitVec.toNat_or,Zum 32 a ha,Zum 32 b hb,IntKind.wrap_u32];have:=Nat.or_lt_two_pow (n:=32) ha hb;omega
theorem ZxK {a b:Nat} (ha:a < 4294967296) (hb:b < 4294967296):xorK .u32 (a:Int) (b:Int)=((a ^^^ b:Nat):Int):=by unfold xorK;rw[show IntKind.bits .u32=32 from rfl,BitVec.toNat_xor,Zum 32 a ha,Zum 32 b hb,IntKind.wrap_u32];have:=ZEN (n:=32) ha hb;omega
theorem ZBA {a b:Nat} (ha:a < 18446744073709551616) (hb:b < 18446744073709551616):orK .u64 (a:Int) (b:Int)=((a|||b:Nat):Int):=by unfold orK;rw[show IntKind.bits .u64=64 from rfl,BitVec.toNat_or,Zum 64 a ha,Zum 64 b hb,IntKind.wrap_u64];have:=Nat.or_lt_two_pow (n:=64) ha hb;omega
theorem Zv8 {a:Nat} (k:Nat) (hk:k≤64):shrK .u64 (a:Int) (k:Int)=((a / 2 ^ k:Nat):Int):=by
 unfold shrK;rw[show IntKind.bits .u64=64 from rfl,ZDV,ZEr hk,Int.fdiv_eq_ediv_of_nonneg _ (Int.le_of_lt (Int.pow_pos (by decide)))]
 norm_cast
theorem Zv9 {a:Nat} (k:Nat) (hk:k≤32):shrK .u32 (a:Int) (k:Int)=((a / 2 ^ k:Nat):Int):=by
 unfold shrK;rw[show IntKind.bits .u32=32 from rfl,ZDV,ZEr hk,Int.fdiv_eq_ediv_of_nonneg _ (Int.le_of_lt (Int.pow_pos (by decide)))]
 norm_cast
theorem Zs8 (a:Nat):IntKind.wrap .u32 (a:Int)=((a % 4294967296:Nat):Int):=by rw[IntKind.wrap_u32];omega
theorem Zow {a:Nat} (h:a < 18446744073709551616):IntKind.wrap .u64 (a:Int)=(a:Int):=by rw[IntKind.wrap_u64];omega
theorem Ztt {a:Nat} (h:a < 4294967296):IntKind.wrap .u32 (a:Int)=(a:Int):=by rw[IntKind.wrap_u32];omega
theorem ZCa {a b c:Nat} (ha:a < 4294967296) (hb:b < 4294967296) (hc:c≤1):Zq2 (a:Int) (b:Int) (c:Int)=some ((((a+b+c) % 4294967296:Nat):Int),(((a+b+c) / 4294967296:Nat):Int)):=by
 unfold Zq2;have e:IntKind.wrap .u64 ((IntKind.wrap .u64 ((IntKind.wrap .u64 (a:Int))+(IntKind.wrap .u64 (b:Int))))+(IntKind.wrap .u64 (c:Int)))=((a+b+c:Nat):Int):=by rw[Zow (by omega),Zow (by omega),Zow (by omega),←ZBz,Zow (by omega),←ZBz,Zow (by omega)]
 rw[e,show (32:Int)=((32:Nat):Int)from rfl,Zv8 32 (by omega),Zs8,Ztt (a:=(a+b+c) / 2 ^ 32) (by omega)];rfl
theorem ZAX {a:Nat} (h:a < 4294967296):(a >>> 31=0∧a < 2147483648)∨(a >>> 31=1∧2147483648≤a):=by rw[Nat.shiftRight_eq_div_pow];omega
theorem ZAr {a b c:Nat} (ha:a < 4294967296) (hb:b < 4294967296) (hc:c≤1):Zqo (a:Int) (b:Int) (c:Int)=some ((((a+4294967296 - b - c) % 4294967296:Nat):Int),((if a < b+c then 1 else 0:Nat):Int)):=by
 unfold Zqo;have hM:(if IntKind.signed .u32 then (-1:Int)else IntKind.max .u32)=((4294967295:Nat):Int):=rfl;have e:IntKind.wrap .u32 ((IntKind.wrap .u32 ((a:Int) - (b:Int))) - (c:Int))=(((a+4294967296 - b - c) % 4294967296:Nat):Int):=by rw[IntKind.wrap_u32,IntKind.wrap_u32];omega
 have hD:(a+4294967296 - b - c) % 4294967296 < 4294967296:=ZEu _ (by decide);rw[hM,e];generalize hd:(a+4294967296 - b - c) % 4294967296=D at hD⊢
 have h1:a ^^^ b < 4294967296:=ZEN (n:=32) ha hb;have h2:4294967295 ^^^ a < 4294967296:=ZEN (n:=32) (by decide) ha;have h3:4294967295 ^^^ (a ^^^ b) < 4294967296:=ZEN (n:=32) (by decide) h1;have h4:(4294967295 ^^^ a)&&& b < 4294967296:=Nat.and_lt_two_pow (n:=32) _ hb;have h5:(4294967295 ^^^ (a ^^^ b))&&& D < 4294967296:=Nat.and_lt_two_pow (n:=32) _ hD;rw[ZxK (by decide) ha,ZxK ha hb,ZxK (by decide) h1,Zxq h2 hb,Zxq h3 hD,Zxw h4 h5,show (31:Int)=((31:Nat):Int)from rfl,Zv9 31 (by omega)];rw[←Nat.shiftRight_eq_div_pow,Nat.shiftRight_or_distrib,Nat.shiftRight_and_distrib,Nat.shiftRight_and_distrib,ZEK,ZEK,ZEK];have hm:(4294967295:Nat) >>> 31=1:=by decide
 rw[hm];have key:(1 ^^^ a >>> 31)&&& b >>> 31|||(1 ^^^ (a >>> 31 ^^^ b >>> 31))&&& D >>> 31=if a < b+c then 1 else 0:=by rcases ZAX ha with ⟨qa,pa⟩ |⟨qa,pa⟩<;>rcases ZAX hb with ⟨qb,pb⟩ |⟨qb,pb⟩<;>rcases ZAX hD with ⟨qd,pd⟩ |⟨qd,pd⟩<;>rw[qa,qb,qd]<;>split<;>first |rfl |(exfalso;omega)
 rw[key];rfl
theorem ZxB {h l:Nat} (hh:h < 4294967296) (hl:l < 4294967296):orK .u64 (shlK .u64 (IntKind.wrap .u64 (h:Int)) 32) (IntKind.wrap .u64 (l:Int))=((h*4294967296+l:Nat):Int):=by
 have e1:shlK .u64 (IntKind.wrap .u64 (h:Int)) 32=((h*4294967296:Nat):Int):=by unfold shlK;rw[Zow (by omega),show min (32:Int).toNat (IntKind.bits .u64)=32 from by decide,IntKind.wrap_u64];omega
 rw[e1,Zow (by omega),ZBA (by omega) (by omega)];have:=Nat.shiftLeft_add_eq_or_of_lt (i:=32) (b:=l) (by omega) h;simp only[Nat.shiftLeft_eq,Nat.reducePow]at this;omega
theorem ZDv {h l y:Nat} (hy:h < y) (hl:l < 4294967296) (hy2:y < 4294967296):Zr7 (h:Int) (l:Int) (y:Int)=some ((((h*4294967296+l) / y:Nat):Int),(((h*4294967296+l) % y:Nat):Int)):=by
 have hle:¬((y:Int)≤(h:Int)):=by omega
 have hq:(h*4294967296+l) / y < 4294967296:=(ZEk (by omega)).2 (by
  have:(h+1)*4294967296≤y*4294967296:=ZEA _ hy;omega)
 have hr:(h*4294967296+l) % y < y:=ZEu _ (by omega);have hj:ZqS (h:Int) (l:Int) (y:Int) false=some ((((h*4294967296+l) / y:Nat):Int),(((h*4294967296+l) % y:Nat):Int)):=by
  unfold ZqS;rw[cond_false,ZxB (by omega) hl,Zow (by omega)];have hne:decide ((y:Int)≠0)=true:=decide_eq_true (by omega);rw[hne,chk_true,chk_true];have e1:Int.tdiv ((h*4294967296+l:Nat):Int) (y:Int)=(((h*4294967296+l) / y:Nat):Int):=by rw[Int.tdiv_eq_ediv_of_nonneg (by omega)];norm_cast
  have e2:Int.tmod ((h*4294967296+l:Nat):Int) (y:Int)=(((h*4294967296+l) % y:Nat):Int):=by rw[Int.tmod_eq_emod_of_nonneg (by omega)];norm_cast
  rw[e1,e2,Zow (by omega),Ztt hq,Ztt (by omega)];rfl
 unfold Zr7;rw[decide_eq_false hle,hj];cases ((y:Int) != 0)<;>rfl
def ZDa:List Int:=[0,1,2,2,3,3,3,3,4,4,4,4,4,4,4,4]++ZD9 16 5++ZD9 32 6++ZD9 64 7++ZD9 128 8
theorem Zzy:Zp6=fun x n=>(idx (ZDa.map fun n=>UInt8.ofNat n.toNat) (IntKind.wrap .u8 x)).bind fun c=>
 chk (inK .i64 (n+(IntKind.wrap .i64 ((c.toNat:Nat):Int)))) <|
 some (n+(IntKind.wrap .i64 ((c.toNat:Nat):Int))):=by kernel_rfl
theorem Zzz:((List.range 256).all fun v=>match (ZDa.map fun n=>UInt8.ofNat n.toNat)[v]? with |some c=>decide (v < 2 ^ c.toNat∧2 ^ c.toNat≤2*v+(if v=0 then 1 else 0)∧c.toNat≤8) |none=>false)=true:=by kernel_rfl
theorem Zzx {v:Nat} (h:v < 256):∃c:UInt8,(ZDa.map fun n=>UInt8.ofNat n.toNat)[v]? =some c∧v < 2 ^ c.toNat∧(v≠0→2 ^ c.toNat≤2*v)∧c.toNat≤8:=by have:=List.all_eq_true.1 Zzz v (List.mem_range.2 h);split at this;rotate_left;simp at this;rename_i c hc;obtain⟨h1,h2,h3⟩:=of_decide_eq_true this;refine⟨c,hc,h1,fun h0=> ?_,h3⟩;rw[if_neg h0]at h2;omega
theorem ZzA {v:Nat} (h:v < 256) (n:Nat) (hn:n≤100):∃k:Nat,Zp6 (v:Int) (n:Int)=some (((n+k:Nat):Int))∧v < 2 ^ k∧(v≠0→2 ^ k≤2*v)∧k≤8:=by
 obtain⟨c,hc,h1,h2,h3⟩:=Zzx h;refine⟨c.toNat, ?_,h1,h2,h3⟩;have e:idx (ZDa.map fun n=>UInt8.ofNat n.toNat) (IntKind.wrap .u8 (v:Int))=some c:=by rw[IntKind.wrap_u8,show (v:Int) % 256=(v:Int) by omega];unfold idx;rw[if_pos (by omega),ZDV,hc]
 rw[Zzy];dsimp only;rw[e,ZEP,wrap_i64 (by omega),ZnP (by omega),chk_true]
 norm_cast
theorem ZBG {x:Nat} (h0:x≠0) (h:x < 4294967296):∃s:Nat,s≤31∧Zpi (x:Int)=some (s:Int)∧2147483648≤x*2 ^ s∧x*2 ^ s < 4294967296:=by
 have key:∃k:Nat,Zr6 (x:Int)=some (k:Int)∧x < 2 ^ k∧2 ^ k≤2*x∧k≤32:=by
  unfold Zr6 ZrX;have d16:shrK .u32 (x:Int) 16=((x / 65536:Nat):Int):=Zv9 16 (by omega);have fin:∀(n v:Nat),n≤24→v < 256→v≠0→x / 2 ^ n=v→∃k:Nat,Zp6 (v:Int) (n:Int)=some (k:Int)∧x < 2 ^ k∧2 ^ k≤2*x∧k≤32:=fun n v hn hv hv0 hx=>by
   obtain⟨k,q1,q2,q3,q4⟩:=ZzA hv n (by omega);refine⟨n+k,q1, ?_, ?_,by omega⟩
   ·rw[ZEH,ZEx];exact(ZEk (ZEM n)).1 (by omega)
   ·rw[ZEH];have h1:2 ^ n*v≤x:=by rw[←hx];exact Nat.mul_div_le x (2 ^ n)
    have h2:2 ^ n*2 ^ k≤2 ^ n*(2*v):=ZEz _ (q3 hv0);have h3:2 ^ n*(2*v)=2*(2 ^ n*v):=by rw[ZEB]
    omega
  by_cases c1:65536≤x
  ·rw[decide_eq_true (by omega:(x:Int)≥65536),cond_true,d16];show ∃k:Nat,(bif decide (((x / 65536:Nat):Int)≥256)then _ else _)=_∧_
   by_cases c2:256≤x / 65536
   ·rw[decide_eq_true (by omega:((x / 65536:Nat):Int)≥256),cond_true];have d8:shrK .u32 ((x / 65536:Nat):Int) 8=((x / 65536 / 256:Nat):Int):=Zv9 8 (by omega);rw[d8];exact fin 24 (x / 65536 / 256) (by omega) (by omega) (by omega) (by omega)
   ·rw[decide_eq_false (by omega:¬((x / 65536:Nat):Int)≥256),cond_false];exact fin 16 (x / 65536) (by omega) (by omega) (by omega) (by omega)
  ·rw[decide_eq_false (by omega:¬(x:Int)≥65536),cond_false]
   by_cases c2:256≤x
   ·rw[decide_eq_true (by omega:(x:Int)≥256),cond_true];have d8:shrK .u32 (x:Int) 8=((x / 256:Nat):Int):=Zv9 8 (by omega);rw[d8];exact fin 8 (x / 256) (by omega) (by omega) (by omega) (by omega)
   ·rw[decide_eq_false (by omega:¬(x:Int)≥256),cond_false];exact fin 0 x (by omega) (by omega) h0 (by omega)
 obtain⟨k,hk,h1,h2,h3⟩:=key;have hk1:1≤k:=by
  rcases ZEl k with rfl |hp
  ·simp at h1;omega
  ·exact hp
 refine⟨32 - k,by omega, ?_, ?_, ?_⟩
 ·unfold Zpi;rw[hk,ZEP,ZnP (by omega),chk_true,show (32:Int) - (k:Int)=((32 - k:Nat):Int) by omega]
 ·have e:2 ^ k*2 ^ (32 - k)=4294967296:=by rw[←ZEH,show k+(32 - k)=32 by omega]
  have:2 ^ k*2 ^ (32 - k)≤2*x*2 ^ (32 - k):=ZEA _ h2;rw[ZEw]at this;omega
 ·have e:2 ^ k*2 ^ (32 - k)=4294967296:=by rw[←ZEH,show k+(32 - k)=32 by omega]
  have:x*2 ^ (32 - k) < 2 ^ k*2 ^ (32 - k):=ZEC h1 (ZEM _);omega
end Go.Proofs
namespace Go.Proofs
open Go Eng
def iL (l:List Nat):List Int:=l.map fun(n:Nat)=>(n:Int)
theorem Zol (l:List Nat):(iL l).length=l.length:=by unfold iL;simp
theorem ZxE (a b:List Nat):iL (a++b)=iL a++iL b:=by unfold iL;simp
theorem ZBN:iL []=[]:=rfl
theorem Zv3 {l:List Nat} {i:Nat} (h:i < l.length):(iL l)[i]? =some (l[i]:Int):=by unfold iL;simp[h]
theorem Zst {l:List Nat} {i:Nat} (h:i < l.length):idx (iL l) (i:Int)=some (l[i]:Int):=by unfold idx;rw[if_pos (by omega),ZDV,Zv3 h]
theorem ZvB (l:List Nat) (i x:Nat):(iL l).set i (x:Int)=iL (l.set i x):=by unfold iL;rw[List.map_set]
theorem ZxS (l:List Nat) (i:Nat):(iL l).take i=iL (l.take i):=by unfold iL;rw[List.map_take]
theorem Zxa (n:Nat):ZD9 n (0:Int)=iL (ZD9 n 0):=by unfold iL;rw[List.map_replicate];rfl
abbrev Bw:Nat:=4294967296
def val:List Nat→Nat
 | []=>0
 |d::r=>d+Bw*val r
def Dg (l:List Nat):Prop:=∀d∈l,d < Bw
theorem Dg.app {a b:List Nat} (ha:Dg a) (hb:Dg b):Dg (a++b):=fun d hd=>(List.mem_append.1 hd).elim (ha d) (hb d)
theorem Zv5:Dg []:=fun _ h=>by simp at h
theorem ZvS {x:Nat} (h:x < Bw):Dg [x]:=fun d hd=>by simp only[List.mem_singleton]at hd;subst hd;exact h
theorem ZzZ (n:Nat):Dg (ZD9 n 0):=fun d hd=>by rw[List.mem_replicate]at hd;rw[hd.2];decide
theorem Dg.take {a:List Nat} (h:Dg a) (k:Nat):Dg (a.take k):=fun d hd=>h d (List.mem_of_mem_take hd)
theorem Dg.drop {a:List Nat} (h:Dg a) (k:Nat):Dg (a.drop k):=fun d hd=>h d (List.mem_of_mem_drop hd)
theorem Dg.set {a:List Nat} (h:Dg a) (i:Nat) {x:Nat} (hx:x < Bw):Dg (a.set i x):=fun d hd=>by
 rcases List.mem_or_eq_of_mem_set hd with h1 |h1
 ·exact h d h1
 ·rw[h1];exact hx
theorem Dg.get {a:List Nat} (h:Dg a) {i:Nat} (hi:i < a.length):a[i] < Bw:=h _ (List.getElem_mem hi)
theorem Zve:∀a b:List Nat,val (a++b)=val a+Bw ^ a.length*val b
 | [],b=>by simp[val]
 |d::a,b=>by simp only[List.cons_append,val,Zve a b,ZD3,ZEJ,ZEv];rw[ZEx (Bw ^ a.length) Bw,ZEw];omega
theorem Zty (a:List Nat) (x:Nat):val (a++[x])=val a+Bw ^ a.length*x:=by rw[Zve];simp[val]
theorem Ztg:∀{l:List Nat},Dg l→val l < Bw ^ l.length
 | [],_=>by simp[val]
 |d::r,h=>by
  have h1:=h d (by simp);have h2:=Ztg (l:=r) fun x hx=>h x (by simp[hx])
  simp only[val,ZD3,ZEJ];have:Bw*(val r+1)≤Bw*Bw ^ r.length:=ZEz _ h2;rw[ZEx (Bw ^ r.length) Bw];rw[ZEv,ZEE]at this;exact ZEo (by omega) this
theorem ZyE (n:Nat):val (ZD9 n 0)=0:=by
 induction n with
 |zero=>rfl
 |succ n ih=>rw[List.replicate_succ,val,ih,ZEF]
theorem Zom {l:List Nat} {k:Nat} (h:k < l.length):val (l.take (k+1))=val (l.take k)+Bw ^ k*l[k]:=by rw[List.take_succ_eq_append_getElem h,Zty,ZD7,ZEr (by omega)]
def wd (n:Nat):List Nat:=if h:n=0 then []else n % Bw::wd (n / Bw)
termination_by n
decreasing_by exact Nat.div_lt_self (Nat.pos_of_ne_zero h) (by decide)
theorem ZsK:wd 0=[]:=by unfold wd;simp
theorem Zwf {n:Nat} (h:n≠0):wd n=n % Bw::wd (n / Bw):=by rw[wd,dif_neg h]
theorem ZtZ (n:Nat):Dg (wd n):=by
 induction n using Nat.strongRecOn with
 |ind n ih=>
  by_cases h:n=0
  ·rw[h,ZsK];exact Zv5
  ·rw[Zwf h];intro d hd;rcases ZD8.1 hd with rfl |hd
   ·exact ZEu _ (by decide)
   ·exact ih (n / Bw) (Nat.div_lt_self (Nat.pos_of_ne_zero h) (by decide)) d hd
theorem ZrV (n:Nat):val (wd n)=n:=by
 induction n using Nat.strongRecOn with
 |ind n ih=>
  by_cases h:n=0
  ·rw[h,ZsK];rfl
  ·rw[Zwf h,val,ih (n / Bw) (Nat.div_lt_self (Nat.pos_of_ne_zero h) (by decide))];exact ZEs n Bw
theorem ZuN {n k:Nat} (h:n < Bw ^ k):(wd n).length≤k:=by
 induction k generalizing n with
 |zero=>
  have:n=0:=by simpa using h
  rw[this,ZsK];simp
 |succ k ih=>
  by_cases h0:n=0
  ·rw[h0,ZsK];simp
  ·rw[Zwf h0,ZD3];have:n / Bw < Bw ^ k:=(ZEk (by decide)).2 (by rw[←ZEJ];exact h);have:=ih this;omega
theorem Zsu {n:Nat} (h:n≠0):0 < (wd n).length:=by rw[Zwf h];simp
theorem ZBr {n:Nat}:wd n=[]↔n=0:=⟨fun h=>by have:=ZrV n;rw[h]at this;exact this.symm,fun h=>by rw[h,ZsK]⟩
theorem ZsL (n:Nat):n < Bw ^ (wd n).length:=by have:=Ztg (ZtZ n);rwa [ZrV]at this
def Zxt (l:List Nat):List Nat:=(l.reverse.dropWhile (· == 0)).reverse
theorem Zw2 (l:List Nat) (x:Nat):Zxt (l++[x])=if x=0 then Zxt l else l++[x]:=by
 unfold Zxt;rw[List.reverse_append,List.reverse_singleton,List.singleton_append,List.dropWhile_cons]
 by_cases h:x=0
 ·simp[h]
 ·simp[h]
theorem ZxY:∀{l:List Nat} {x:Nat},Dg (l++[x])→x≠0→wd (val (l++[x]))=l++[x]
 | [],x,h,hx=>by have h1:x < Bw:=h x (by simp);simp only[List.nil_append,val,ZEF,ZEh];rw[Zwf hx,ZEt h1,ZEj h1,ZsK]
 |d::l,x,h,hx=>by
  have h1:d < Bw:=h d (by simp);have ih:=ZxY (l:=l) (x:=x) (fun y hy=>h y (by simp only[List.cons_append,ZD8];exact .inr hy)) hx;have hne:val (l++[x])≠0:=fun e=>by rw[e,ZsK]at ih;simp at ih
  simp only[List.cons_append,val];rw[Zwf (by simp only[Bw];omega),Nat.add_mul_mod_self_left,ZEt h1,Nat.add_mul_div_left _ _ (by decide),ZEj h1,ZEO,ih]
theorem Zx2:∀(n:Nat) {l:List Nat},l.length=n→Dg l→Zxt l=wd (val l)
 |0,l,hl,_=>by rw[List.eq_nil_of_length_eq_zero hl];simp[Zxt,val,ZsK]
 |n+1,l,hl,h=>by
  rcases List.eq_nil_or_concat l with rfl |⟨v,x,rfl⟩
  ·simp at hl
  ·rw[List.concat_eq_append]at hl h⊢
   rw[Zw2];split
   ·rename_i h0;subst h0;rw[Zx2 n (by simpa using hl) (fun d hd=>h d (by simp[hd])),Zty,ZEF,ZEh]
   ·rename_i h0;exact(ZxY h h0).symm
theorem Zvs {l:List Nat} (h:Dg l) (hl:l.length≤1000000):Zn5 (iL l)=some (iL (wd (val l))):=by
 rw[←Zx2 _ rfl h];refine Zqg ?_;unfold Zn5 ZsV;rw[ZnH];refine Zn7 (ZvG Zvi (fun(w:List Nat)=>iL w) (fun w=>Zxt w=Zxt l∧w.length≤1000000) List.length (Q:=fun x=>x=iL (Zxt l)) l ⟨rfl,hl⟩ (by omega) ?_) (fun x hx=>by rw[ZnC];exact hx);rintro rec w ⟨hw,hwl⟩ ih;unfold ZtT ZqY ZrA;rcases List.eq_nil_or_concat w with rfl |⟨v,x,rfl⟩
 ·show wp (some (iL [])) _;rw[ZnC,←hw];rfl
 ·rw[List.concat_eq_append]at hw hwl⊢
  rw[Zw2]at hw;have hlen:(iL (v++[x])).length=v.length+1:=by rw[Zol];simp
  rw[Zob];refine⟨fun _=> ?_,fun h=>by simp only[decide_eq_false_iff_not]at h;omega⟩;have ei:((iL (v++[x])).length:Int) - 1=(v.length:Int):=by rw[hlen];omega
  have hx:(v++[x])[v.length]'(by simp)=x:=by simp
  rw[ei,ZnJ,ZnH,Zst (by simp),ZnC,hx,Zob];refine⟨ZnP (by simp at hwl;omega),fun h=> ?_,fun h=> ?_⟩
  ·have h0:x=0:=by have:=eq_of_beq h;omega
   rw[if_pos h0]at hw;rw[ZnJ,ZnJ];refine⟨ZnP (by simp at hwl;omega),ZsJ (by omega), ?_⟩;have:(iL (v++[x])).take ((v.length:Int)).toNat=iL v:=by rw[ZxS,ZDV];simp
   rw[this];exact ih v ⟨hw,by simp at hwl;omega⟩ (by simp)
  ·have h0:x≠0:=by intro e;subst e;simp at h
   rw[if_neg h0]at hw;rw[ZnC,←hw]
theorem ZA1 (l:List Nat) (i:Nat):ZpH (iL l) (i:Int)=some ((l.getD i 0:Nat):Int):=by
 unfold ZpH;rw[Zol]
 by_cases h:i < l.length
 ·rw[decide_eq_true (by omega),cond_true,Zst h,ZEP,ZDX,ZDY h];rfl
 ·rw[decide_eq_false (by omega),cond_false,ZDX,ZDZ (by omega)];rfl
theorem ZwW {l:List Nat} (h:Dg l) (i:Nat):l.getD i 0 < Bw:=by
 rw[ZDX]
 by_cases hi:i < l.length
 ·rw[ZDY hi];exact h.get hi
 ·rw[ZDZ (by omega)];decide
theorem ZuB (l:List Nat) (k:Nat):val (l.take (k+1))=val (l.take k)+Bw ^ k*l.getD k 0:=by
 rw[ZDX]
 by_cases h:k < l.length
 ·rw[Zom h,ZDY h];rfl
 ·rw[ZDZ (by omega),ZEd (by omega),ZEd (by omega)];simp
theorem ZAz (a b:Nat) (ha:(wd a).length≤100000) (hb:(wd b).length≤100000):ZpI (iL (wd a)) (iL (wd b))=some (iL (wd (a+b))):=by
 obtain⟨m,hm,hma,hmb,hm2⟩:∃m:Nat,(if ((iL (wd b)).length:Int) > ((iL (wd a)).length:Int)then ((iL (wd b)).length:Int)else ((iL (wd a)).length:Int))=(m:Int)∧(wd a).length≤m∧(wd b).length≤m∧m≤100000:=by
  rw[Zol,Zol]
  by_cases h:((wd b).length:Int) > ((wd a).length:Int)
  ·exact⟨(wd b).length,by rw[if_pos h],by omega,by omega,hb⟩
  ·exact⟨(wd a).length,by rw[if_neg h],by omega,by omega,ha⟩
 refine Zqg ?_;unfold ZpI;rw[hm,ZnJ,ZnJ,ZnH];refine⟨ZnP (by omega),decide_eq_true (by unfold ZO;omega), ?_⟩;refine Zn7 (Zsz ZuS m (by omega) (fun i (s:Nat×List Nat)=>(iL (wd a),iL (wd b),(s.1:Int),(m:Int),i,iL s.2)) (fun i s=>s.1≤1∧s.2.length=i∧Dg s.2∧val s.2+Bw ^ i*s.1=val ((wd a).take i)+val ((wd b).take i))
  (Q:=fun y=>∃(c:Nat) (o:List Nat),y=((c:Int),iL o)∧c≤1∧Dg o∧o.length=m∧val o+Bw ^ m*c=a+b) (0,[]) ⟨by simp,rfl,Zv5,by simp[val]⟩ ?_ ?_) ?_
 ·rintro rec i ⟨c,o⟩ hlt ⟨hc,hl,hd,hv⟩ ih;dsimp only at hc hl hd hv ih;have h1:=ZwW (ZtZ a) i;have h2:=ZwW (ZtZ b) i;unfold Zrt Zqd;dsimp only;rw[Zob];refine⟨fun _=> ?_,fun h=>by simp only[decide_eq_false_iff_not]at h;omega⟩;rw[ZA1,ZnH,ZnC,ZA1,ZnH,ZnC,ZCa h1 h2 hc,ZnH,ZnC];dsimp only;rw[ZnJ,ZnJ,Zol];refine⟨ZtI (by simp only[ZD6];omega),ZnP (by omega), ?_⟩;generalize ex:(wd a).getD i 0=x at h1;generalize ey:(wd b).getD i 0=y at h2;have:=ih ((x+y+c) / Bw,o++[(x+y+c) % Bw]) ⟨?_,by simp[hl],hd.app (ZvS (ZEu _ (by decide))), ?_⟩
  ·rw[ZxE]at this;exact this
  ·simp only[Bw]at h1 h2⊢;omega
  ·dsimp only;rw[Zty,hl,ZEJ,ZuB,ZuB,ex,ey,Nat.add_assoc,ZEw,←ZEv,ZEs,ZEv,ZEv];omega
 ·rintro rec ⟨c,o⟩ ⟨hc,hl,hd,hv⟩;unfold Zrt Zqd;dsimp only;rw[Zob];refine⟨fun h=>by simp only[decide_eq_true_eq]at h;omega,fun _=> ?_⟩;rw[ZnC];rw[ZEd hma,ZEd hmb,ZrV,ZrV]at hv;exact⟨c,o,rfl,hc,hd,hl,hv⟩
 ·rintro y ⟨c,o,rfl,hc,hd,hl,hv⟩;dsimp only;unfold Zr8;rw[ZnJ,Zol];refine⟨ZtI (by simp only[ZD6];omega), ?_⟩;have e:iL o++[(c:Int)]=iL (o++[c]):=by rw[ZxE];rfl
  rw[e,Zvs (hd.app (ZvS (by unfold Bw;omega))) (by simp;omega),ZnH,ZnC,ZnC,Zty,hl,hv]
end Go.Proofs
namespace Go.Proofs
open Go Eng
theorem Zwt {σ τ X:Type} {f:Nat→σ→Option X} {body:(σ→Option X)→σ→Option X} (hf:∀n s,f (n+1) s=body (f n) s)
  (m:Nat) (hm:m≤1000000000000000) (st:Int→τ→σ) (P:Nat→τ→Prop) {Q:X→Prop} (t0:τ) (h0:P m t0)
  (step:∀(rec:σ→Option X) k t,k < m→P (k+1) t→(∀t',P k t'→wp (rec (st ((k:Int) - 1) t')) Q)→wp (body rec (st (k:Int) t)) Q)
  (fin:∀(rec:σ→Option X) t,P 0 t→wp (body rec (st (-1) t)) Q):wp (f big (st ((m:Int) - 1) t0)) Q:=by
 have key:∀(n k:Nat) t,k≤m→P k t→k < n→wp (f n (st ((k:Int) - 1) t)) Q:=by
  intro n
  induction n with
  |zero=>intro k t _ _ h;omega
  |succ n ih=>
   intro k t hk hP hn;rw[hf];cases k with
   |zero=>exact fin _ t hP
   |succ k=>
    have e:((k+1:Nat):Int) - 1=(k:Int):=by omega
    rw[e];exact step _ k t (by omega) hP fun t' h'=>ih k t' (by omega) h' (by omega)
 exact key big m t0 (Nat.le_refl _) h0 (Zw0 (by omega))
theorem ZvU {n:Nat} (h:n≤1000000):mkOk (n:Int) (n:Int) 4=true:=by unfold mkOk ZO;exact decide_eq_true ⟨by omega,by omega,by omega,by omega⟩
def Zxr (a b:Nat):Int:=if a < b then -1 else if b < a then 1 else 0
theorem ZxG (a b:Nat):Zsc (a:Int) (b:Int)=some (Zxr a b):=by
 unfold Zsc Zs3 Zxr;rw[ZEP,ZEP,bne_self_eq_false,bne_self_eq_false,cond_false,cond_false]
 by_cases h1:a < b
 ·rw[decide_eq_true (by omega:(a:Int) < b),if_pos h1];rfl
 ·rw[decide_eq_false (by omega:¬(a:Int) < b),if_neg h1,cond_false]
  by_cases h2:b < a
  ·rw[decide_eq_true (by omega:(a:Int) > b),if_pos h2];rfl
  ·rw[decide_eq_false (by omega:¬(a:Int) > b),if_neg h2];rfl
theorem ZAV (a b:Nat):Zr3 (a:Int) (b:Int)=some (Zxr a b):=ZxG a b
theorem Zuu {a b:Nat} (h:a < b):Zxr a b= -1:=by unfold Zxr;rw[if_pos h]
theorem Zt8 {a b:Nat} (h:b < a):Zxr a b=1:=by unfold Zxr;rw[if_neg (by omega),if_pos h]
theorem Zun (a:Nat):Zxr a a=0:=by unfold Zxr;rw[if_neg (by omega),if_neg (by omega)]
theorem Zxs {n k:Nat} (h:k < (wd n).length):Bw ^ k≤n:=by
 rcases ZEp n (Bw ^ k)with h1 |h1
 ·have:=ZuN h1;omega
 ·exact h1
theorem Zw8 {a b:Nat} (h:(wd a).length < (wd b).length):a < b:=ZEo (ZsL a) (Zxs h)
theorem ZuO {l:List Nat} {k:Nat} (h:k < l.length):val l=val (l.take k)+Bw ^ k*(l[k]+Bw*val (l.drop (k+1))):=by
 have e:l=l.take k++l[k]::l.drop (k+1):=by rw[ZD1,ZEc]
 have hl:(l.take k).length=k:=by rw[ZD7];omega
 calc val l=val (l.take k++l[k]::l.drop (k+1)):=by rw[←e]
  _=_:=by rw[Zve,hl];rfl
theorem Zxh {p q x y A B:Nat} {k:Nat} (hp:p < Bw ^ k) (h:x < y):p+Bw ^ k*x < q+Bw ^ k*y:=by have:Bw ^ k*(x+1)≤Bw ^ k*y:=ZEz _ h;rw[ZEv,ZEE]at this;omega
theorem ZwB (a b:Nat) (ha:(wd a).length≤100000) (hb:(wd b).length≤100000):Zoo (iL (wd a)) (iL (wd b))=some (Zxr a b):=by
 refine Zqg ?_;unfold Zoo;rw[Zol,Zol,ZxG,ZnH,ZnC,Zob];refine⟨fun h=> ?_,fun h=> ?_⟩
 ·rw[ZnC];rcases ZEq (wd a).length (wd b).length with h1 |h1 |h1
  ·rw[Zuu h1,Zuu (Zw8 h1)]
  ·rw[h1,Zun]at h;exact absurd h (by decide)
  ·rw[Zt8 h1,Zt8 (Zw8 h1)]
 ·have hl:(wd a).length=(wd b).length:=by
   rcases ZEq (wd a).length (wd b).length with h1 |h1 |h1
   ·rw[Zuu h1]at h;exact absurd h (by decide)
   ·exact h1
   ·rw[Zt8 h1]at h;exact absurd h (by decide)
  rw[ZnJ,ZnH];refine⟨ZnP (by omega), ?_⟩;refine Zn7 (Zwt Zuf (wd a).length (by omega) (fun i (s:Unit)=>(iL (wd a),iL (wd b),i)) (fun k _=>(wd a).drop k=(wd b).drop k)
   (Q:=fun r=>r= .ret (Zxr a b)∧Zxr a b≠0∨r= .brk ()∧a=b) () (by rw[List.drop_length,hl,List.drop_length]) ?_ ?_) ?_
  ·rintro rec k ⟨⟩ hk hP ih;have hk2:k < (wd b).length:=by omega
   unfold ZqR ZpD;dsimp only;rw[Zob];refine⟨fun _=> ?_,fun h=>by simp only[decide_eq_false_iff_not]at h;omega⟩;rw[Zst hk,ZnH,ZnC,Zst hk2,ZnH,ZnC,ZAV,ZnH,ZnC];have ha:=ZuO hk;have hb:=ZuO hk2;rw[ZrV]at ha hb;have la:val ((wd a).take k) < Bw ^ k:=by have:=Ztg ((ZtZ a).take k);rwa [ZD7,ZEr (by omega)]at this
   have lb:val ((wd b).take k) < Bw ^ k:=by have:=Ztg ((ZtZ b).take k);rwa [ZD7,ZEr (by omega)]at this
   rw[Zob];refine⟨fun hc=> ?_,fun hc=> ?_⟩
   ·rw[ZnC];rcases ZEq (wd a)[k] (wd b)[k]with h1 |h1 |h1
    ·rw[Zuu h1];have:a < b:=by rw[ha,hb,hP];exact Zxh (A:=0) (B:=0) la (by omega)
     exact .inl ⟨by rw[Zuu this],by rw[Zuu this];decide⟩
    ·rw[h1,Zun]at hc;exact absurd hc (by decide)
    ·rw[Zt8 h1];have:b < a:=by rw[ha,hb,hP];exact Zxh (A:=0) (B:=0) lb (by omega)
     exact .inl ⟨by rw[Zt8 this],by rw[Zt8 this];decide⟩
   ·rw[ZnJ];refine⟨ZnP (by omega),ih () ?_⟩;have h1:(wd a)[k]=(wd b)[k]:=by
     rcases ZEq (wd a)[k] (wd b)[k]with h1 |h1 |h1
     ·rw[Zuu h1]at hc;exact absurd hc (by decide)
     ·exact h1
     ·rw[Zt8 h1]at hc;exact absurd hc (by decide)
    rw[←ZD1 (h:=hk),←ZD1 (h:=hk2),h1,hP]
  ·rintro rec ⟨⟩ hP;unfold ZqR ZpD;dsimp only;rw[Zob];refine⟨fun h=>by have:=of_decide_eq_true h;omega,fun _=> ?_⟩;rw[ZnC];rw[ZDW,ZDW]at hP;exact .inr ⟨rfl,by rw[←ZrV a,←ZrV b,hP]⟩
  ·rintro r (⟨rfl,_⟩ |⟨rfl,rfl⟩)
   ·exact ZnC.2 rfl
   ·unfold Zrg;exact ZnC.2 (Zun a).symm
theorem ZAw {o:List Nat} {n i:Nat} (x:Nat) (ho:o.length=i) (h:i < n):(o++ZD9 (n - i) 0).set i x=(o++[x])++ZD9 (n - (i+1)) 0:=by
 have:n - i=(n - (i+1))+1:=by omega
 rw[this,List.replicate_succ,ZEa _ _ (by omega),ho,ZEL,ZEb];simp
theorem Zya (a b:Nat) (hab:b≤a) (ha:(wd a).length≤100000):Zpp (iL (wd a)) (iL (wd b))=some (iL (wd (a - b))):=by
 have hlb:(wd b).length≤(wd a).length:=by
  rcases ZEp (wd a).length (wd b).length with h |h
  ·have:=Zw8 h;omega
  ·exact h
 refine Zqg ?_;unfold Zpp;rw[Zol,ZnJ,ZnH,ZDV,Zxa];refine⟨ZvU (by omega), ?_⟩;generalize hn:(wd a).length=n at ha hlb⊢
 rw[show iL (ZD9 n 0)=iL ([]++ZD9 (n - ([]:List Nat).length) 0) by simp];refine Zn7 (Zsz ZuM n (by omega) (fun i (s:Nat×List Nat)=>(iL (wd a),iL (wd b),(s.1:Int),(n:Int),i,iL (s.2++ZD9 (n - s.2.length) 0))) (fun i s=>s.1≤1∧s.2.length=i∧Dg s.2∧val ((wd a).take i)+Bw ^ i*s.1=val s.2+val ((wd b).take i))
  (Q:=fun y=>∃(o:List Nat),y=iL o∧Dg o∧o.length=n∧val o=a - b) (0,[]) ⟨by simp,rfl,Zv5,by simp[val]⟩ ?_ ?_) ?_
 ·rintro rec i ⟨c,o⟩ hlt ⟨hc,hl,hd,hv⟩ ih;dsimp only at hc hl hd hv ih;have hi:i < (wd a).length:=by omega
  have h1:=(ZtZ a).get hi;have h2:=ZwW (ZtZ b) i;unfold Zrf Zp1;dsimp only;rw[Zob];refine⟨fun _=> ?_,fun h=>by simp only[decide_eq_false_iff_not]at h;omega⟩;rw[Zst hi,ZnH,ZnC,ZA1,ZnH,ZnC,ZAr h1 h2 hc,ZnH,ZnC];dsimp only;rw[ZnJ,ZnJ,Zol,ZDV,ZvB,hl,ZAw _ hl hlt];refine⟨ZqE ⟨by omega,by simp only[ZD2,ZD4];omega⟩,ZnP (by omega), ?_⟩;generalize ex:(wd a)[i]=x at h1;generalize ey:(wd b).getD i 0=y at h2;have:=ih ((if x < y+c then 1 else 0),o++[(x+4294967296 - y - c) % 4294967296]) ⟨by dsimp only;split<;>omega,by simp[hl],hd.app (ZvS (ZEu _ (by decide))), ?_⟩
  ·rw[ZD2,ZD6,hl]at this;exact this
  ·dsimp only;rw[Zty,hl,ZEJ,Zom hi,ZuB,ex,ey,ZEw];have e:x+Bw*(if x < y+c then 1 else 0)=(x+4294967296 - y - c) % 4294967296+y+c:=by simp only[Bw]at h1 h2⊢;split<;>omega
   have e2:Bw ^ i*(x+Bw*(if x < y+c then 1 else 0))=Bw ^ i*((x+4294967296 - y - c) % 4294967296+y+c):=by rw[e]
   rw[ZEv,ZEv,ZEv]at e2;omega
 ·rintro rec ⟨c,o⟩ ⟨hc,hl,hd,hv⟩;unfold Zrf Zp1;dsimp only at hc hl hd hv⊢
  rw[Zob];refine⟨fun h=>by simp only[decide_eq_true_eq]at h;omega,fun _=> ?_⟩;rw[ZnC];rw[ZEd (by omega),ZEd (by omega),ZrV,ZrV]at hv;have:=Ztg hd;rw[hl]at this;have hc0:c=0:=by
   rcases ZEl c with h |h
   ·exact h
   ·have:c=1:=by omega
    rw[this,ZEE]at hv;omega
  rw[hc0,ZEF]at hv;exact⟨o,by rw[hl,ZEL];simp,hd,hl,by omega⟩
 ·rintro y ⟨o,rfl,hd,hl,hv⟩;unfold ZrS;rw[Zvs hd (by omega),ZnH,ZnC,ZnC,hv]
theorem Zzq (a d:Nat) (hd0:d≠0) (hd:d < Bw) (ha:(wd a).length≤100000):Zqk (iL (wd a)) (d:Int)=some (iL (wd (a / d)),((a % d:Nat):Int)):=by
 refine Zqg ?_;unfold Zqk;rw[Zol,ZnJ,ZnJ,ZnH,ZDV,Zxa];refine⟨ZvU (by omega),ZnP (by omega), ?_⟩;generalize hn:(wd a).length=n at ha⊢
 rw[show iL (ZD9 n 0)=iL (ZD9 (n - ([]:List Nat).length) 0++[]) by simp];refine Zn7 (Zwt ZuL n (by omega) (fun i (s:Nat×List Nat)=>(iL (wd a),(d:Int),(s.1:Int),i,iL (ZD9 (n - s.2.length) 0++s.2))) (fun k s=>s.1 < d∧s.2.length+k=n∧Dg s.2∧val ((wd a).drop k)=val s.2*d+s.1)
  (Q:=fun y=>∃(r:Nat) (o:List Nat),y=((r:Int),iL o)∧Dg o∧o.length=n∧r < d∧a=val o*d+r) (0,[]) ⟨by dsimp only;omega,by simp,Zv5,by rw[←hn,List.drop_length];simp[val]⟩ ?_ ?_) ?_
 ·rintro rec k ⟨r,o⟩ hk ⟨hr,hl,hdg,hv⟩ ih;dsimp only at hr hl hdg hv ih;have hi:k < (wd a).length:=by omega
  have h1:=(ZtZ a).get hi;unfold Zrd ZpZ;dsimp only;rw[Zob];refine⟨fun _=> ?_,fun h=>by simp only[decide_eq_false_iff_not]at h;omega⟩;rw[Zst hi,ZnH,ZnC,ZDv hr h1 hd,ZnH,ZnC];dsimp only;generalize ex:(wd a)[k]=x at h1;have hq:(r*4294967296+x) / d < Bw:=(ZEk (by omega)).2 (by
   have:(r+1)*4294967296≤d*4294967296:=ZEA _ hr;simp only[Bw]at*
   omega)
  have es:(ZD9 (n - o.length) 0++o).set k ((r*4294967296+x) / d)=ZD9 (n - (o.length+1)) 0++((r*4294967296+x) / d)::o:=by
   have e:n - o.length=k+1:=by omega
   have e2:n - (o.length+1)=k:=by omega
   rw[e,e2,List.replicate_succ',List.append_assoc,ZEa _ _ (by simp),ZD4,ZEL];rfl
  rw[ZnJ,ZnJ,Zol,ZDV,ZvB,es];refine⟨ZqE ⟨by omega,by simp only[ZD2,ZD4];omega⟩,ZnP (by omega), ?_⟩;refine ih ((r*4294967296+x) % d,((r*4294967296+x) / d)::o) ⟨ZEu _ (by omega),by simp only[ZD3];omega,fun y hy=> ?_, ?_⟩
  ·rcases ZD8.1 hy with rfl |hy
   ·exact hq
   ·exact hdg y hy
  ·dsimp only;rw[←ZD1 (h:=hi),ex,val,hv,val];have:=ZEi (r*4294967296+x) d;rw[ZEe,ZEx ((r*4294967296+x) / d) d,ZEv,ZEw];simp only[Bw]at*
   omega
 ·rintro rec ⟨r,o⟩ ⟨hr,hl,hdg,hv⟩;unfold Zrd ZpZ;dsimp only at hr hl hdg hv⊢
  rw[Zob];refine⟨fun h=>by have:=of_decide_eq_true h;omega,fun _=> ?_⟩;rw[ZnC];rw[ZDW,ZrV]at hv;refine⟨r,o, ?_,hdg,hl,hr,hv⟩;rw[show n - o.length=0 by omega];rfl
 ·rintro y ⟨r,o,rfl,hdg,hl,hr,hv⟩;dsimp only;unfold ZrR;rw[Zvs hdg (by omega),ZnH,ZnC,ZnC];have e1:a / d=val o:=by rw[hv,ZEx,Nat.mul_add_div (by omega),ZEj hr,ZEh]
  have e2:a % d=r:=by rw[hv,ZEx,Nat.mul_add_mod,ZEt hr]
  rw[e1,e2]
end Go.Proofs
namespace Go.Proofs
open Go Eng
theorem ZvH:∀(l:List Nat) (i x:Nat) (h:i < l.length),val (l.set i x)+Bw ^ i*l[i]=val l+Bw ^ i*x
 | [],i,x,h=>absurd h (by simp)
 |d::l,0,x,h=>by simp only[ZEb,val,Nat.pow_zero,ZEG,List.getElem_cons_zero];omega
 |d::l,i+1,x,h=>by
  have:=ZvH l i x (by simpa using h);have e:Bw*(val (l.set i x)+Bw ^ i*l[i]'(by simpa using h))=Bw*(val l+Bw ^ i*x):=by rw[this]
  rw[ZEv,ZEv]at e;simp only[List.set_cons_succ,val,ZEJ,List.getElem_cons_succ];rw[ZEx (Bw ^ i) Bw,ZEw,ZEw];omega
theorem ZAC {x y:Nat} (hx:x≤4294967295) (hy:y≤4294967295):x*y≤18446744065119617025:=ZEy hx hy
theorem ZvP {x y:Nat} (hx:x < Bw) (hy:y < Bw):x*y≤18446744065119617025:=ZAC (by simp only[Bw]at hx;omega) (by simp only[Bw]at hy;omega)
theorem ZDh {c x y e:Nat} (hc:c < Bw) (hx:x < Bw) (hy:y < Bw) (he:e < Bw):IntKind.wrap .u64 ((c:Int)+IntKind.wrap .u64 (IntKind.wrap .u64 (IntKind.wrap .u64 (x:Int)*IntKind.wrap .u64 (y:Int))+IntKind.wrap .u64 (e:Int)))=((c+x*y+e:Nat):Int):=by have:=ZvP hx hy;simp only[Bw]at hc hx hy he;rw[Zow (by omega),Zow (by omega),Zow (by omega),←ZDU,Zow (by omega),←ZBz,Zow (by omega),←ZBz,Zow (by omega)];congr 1;omega
theorem ZBF {c x y e:Nat} (hc:c < Bw) (hx:x < Bw) (hy:y < Bw) (he:e < Bw):(c+x*y+e) / Bw < Bw:=by
 have:=ZvP hx hy;simp only[Bw]at hc hx hy he⊢
 omega
theorem Zzn (a b:Nat) (ha:(wd a).length≤100000) (hb:(wd b).length≤100000):ZoS (iL (wd a)) (iL (wd b))=some (iL (wd (a*b))):=by
 refine Zqg ?_;unfold ZoS;rw[Zol,Zol,ZnJ,ZnJ,ZnH,←ZBz,ZDV,Zxa];refine⟨ZnP (by omega),ZvU (by omega), ?_⟩;generalize hm:(wd a).length=m at ha⊢
 generalize hn:(wd b).length=n at hb⊢
 refine Zn7 (Zsz ZuK m (by omega) (fun i (s:List Nat)=>(iL (wd b),iL (wd a),(m:Int),i,iL s)) (fun i s=>s.length=m+n∧Dg s∧val s=val ((wd a).take i)*b∧∀k,i+n≤k→k < m+n→s[k]? =some 0)
  (Q:=fun y=>∃(o:List Nat),y=iL o∧Dg o∧o.length=m+n∧val o=a*b) (ZD9 (m+n) 0) ⟨by simp,ZzZ _,by rw[ZyE];simp[val],fun k _ h=>by rw[List.getElem?_replicate,if_pos h]⟩ ?_ ?_) ?_
 ·rintro rec i s hlt ⟨hl,hd,hv,hz⟩ ih;have hi:i < (wd a).length:=by omega
  have h1:=(ZtZ a).get hi;unfold Zrc ZpY;dsimp only;rw[Zob];refine⟨fun _=> ?_,fun h=>by simp only[decide_eq_false_iff_not]at h;omega⟩;rw[Zst hi,ZnH,ZnC,ZnH,Zol,hn];generalize ex:(wd a)[i]=x at h1;refine Zn7 (Zsz ZuJ n (by omega) (fun j (t:Nat×List Nat)=>(iL (wd b),(i:Int),(x:Int),(t.1:Int),iL (wd a),(m:Int),(i:Int),iL (wd b),(n:Int),j,iL t.2)) (fun j t=>t.1 < Bw∧t.2.length=m+n∧Dg t.2∧val t.2+Bw ^ (i+j)*t.1=val s+Bw ^ i*(x*val ((wd b).take j))∧∀k,i+n≤k→k < m+n→t.2[k]? =some 0)
   (Q:=fun y=>∃(c:Nat) (o:List Nat),y=(iL (wd b),(i:Int),(c:Int),iL (wd a),(m:Int),(i:Int),iL o)∧c < Bw∧o.length=m+n∧Dg o∧val o+Bw ^ (i+n)*c=val s+Bw ^ i*(x*b)∧∀k,i+n≤k→k < m+n→o[k]? =some 0) (0,s) ⟨by simp only[Bw];omega,hl,hd,by simp[val],hz⟩ ?_ ?_) ?_
  ·rintro rec2 j ⟨c,o⟩ hj ⟨hc,hol,hod,hov,hoz⟩ ih2;dsimp only at hc hol hod hov hoz ih2;have hj2:j < (wd b).length:=by omega
   have h2:=(ZtZ b).get hj2;have hij:i+j < o.length:=by omega
   have h3:=hod.get hij;unfold Zrb ZpX;dsimp only;rw[Zob];refine⟨fun _=> ?_,fun h=>by simp only[decide_eq_false_iff_not]at h;omega⟩;rw[Zst hj2,ZnH,ZnC,ZnJ,ZnJ,←ZBz,ZDV,Zv3 hij,ZnH,ZnC,ZnJ,ZnJ,ZnJ,ZnJ];generalize ey:(wd b)[j]=y at h2;generalize ee:o[i+j]=e at h3;rw[ZDh hc h1 h2 h3,Zs8,show (32:Int)=((32:Nat):Int)from rfl,Zv8 32 (by omega),Zol,ZvB];refine⟨ZnP (by omega),ZqE ⟨by omega,by omega⟩,ZnP (by omega),ZqE ⟨by omega,by omega⟩,by decide,ZnP (by omega), ?_⟩;refine ih2 ((c+x*y+e) / Bw,o.set (i+j) ((c+x*y+e) % Bw)) ⟨ZBF hc h1 h2 h3,by simp[hol],hod.set _ (ZEu _ (by decide)), ?_,fun k hk hk2=> ?_⟩
   ·dsimp only;have q1:=ZvH o (i+j) ((c+x*y+e) % Bw) hij;rw[ee]at q1;have q2:Bw ^ (i+j)*((c+x*y+e) % Bw+Bw*((c+x*y+e) / Bw))=Bw ^ (i+j)*(c+x*y+e):=by rw[ZEs]
    rw[ZEv,ZEv,ZEv]at q2;rw[←Nat.add_assoc,ZEJ,ZEw,Zom hj2,ey,ZEv,ZEv];have q3:Bw ^ i*(x*(Bw ^ j*y))=Bw ^ (i+j)*(x*y):=by rw[ZEH,ZEw,ZEB x]
    omega
   ·dsimp only;rw[List.getElem?_set_ne (by omega)];exact hoz k hk hk2
  ·rintro rec2 ⟨c,o⟩ ⟨hc,hol,hod,hov,hoz⟩;dsimp only at hc hol hod hov hoz;unfold Zrb ZpX;dsimp only;rw[Zob];refine⟨fun h=>by have:=of_decide_eq_true h;omega,fun _=> ?_⟩;rw[ZnC];rw[ZEd (by omega),ZrV]at hov;exact⟨c,o,rfl,hc,hol,hod,hov,hoz⟩
  ·rintro y ⟨c,o,rfl,hc,hol,hod,hov,hoz⟩;dsimp only;unfold ZrQ;rw[Zol,hn,ZnJ,ZnJ,ZnJ,←ZBz,ZDV,Ztt hc,ZvB,Zol];refine⟨ZnP (by omega),ZqE ⟨by omega,by omega⟩,ZnP (by omega), ?_⟩;have hp:i+n < o.length:=by omega
   have h0:o[i+n]=0:=by have:=hoz (i+n) (Nat.le_refl _) (by omega);rw[ZDY hp]at this;exact Option.some.inj this
   have q1:=ZvH o (i+n) c hp;rw[h0,ZEF,ZEh]at q1;refine ih (o.set (i+n) c) ⟨by simp[hol],hod.set _ hc, ?_,fun k hk hk2=> ?_⟩
   ·rw[q1,hov,hv,Zom hi,ex,ZEe,ZEw]
   ·rw[List.getElem?_set_ne (by omega)];exact hoz k (by omega) hk2
 ·rintro rec s ⟨hl,hd,hv,hz⟩;unfold Zrc ZpY;dsimp only;rw[Zob];refine⟨fun h=>by have:=of_decide_eq_true h;omega,fun _=> ?_⟩;rw[ZnC];rw[ZEd (by omega),ZrV]at hv;exact⟨s,rfl,hd,hl,hv⟩
 ·rintro y ⟨o,rfl,hd,hl,hv⟩;unfold ZrP;rw[Zvs hd (by omega),ZnH,ZnC,ZnC,hv]
theorem Zxj {c d s:Nat} (hs:s≤31) (hc:c < 2 ^ s) (hd:d < Bw):c|||(d*2 ^ s % Bw)=c+d*2 ^ s % Bw:=by
 have e:Bw=2 ^ (32 - s)*2 ^ s:=by rw[←ZEH,show 32 - s+s=32 by omega]
 rw[e,ZED];have:=Nat.shiftLeft_add_eq_or_of_lt hc (d % 2 ^ (32 - s));rw[Nat.shiftLeft_eq]at this;rw[Nat.or_comm,←this,Nat.add_comm]
theorem ZAu {d s:Nat} (hs:s≤32) (hd:d < Bw):shlK .u64 (IntKind.wrap .u64 (d:Int)) (s:Int)=((d*2 ^ s:Nat):Int):=by
 have h2:2 ^ s≤2 ^ 32:=ZEI (by decide) hs;have h3:d*2 ^ s≤4294967295*4294967296:=ZEy (by simp only[Bw]at hd;omega) h2;unfold shlK;simp only[Bw]at hd;rw[Zow (by omega),ZDV,show IntKind.bits .u64=64 from rfl,ZEr (by omega)];have e:(d:Int)*(2:Int) ^ s=((d*2 ^ s:Nat):Int):=by push_cast;rfl
 rw[e,Zow (by omega)]
theorem Zw4 (l:List Nat) (s:Nat) (hs:s≤31) (hl:l.length≤100000) (hd:Dg l):∃o:List Nat,ZoF (iL l) (s:Int)=some (iL o)∧Dg o∧o.length=l.length+1∧val o=val l*2 ^ s:=by
 have:wp (ZoF (iL l) (s:Int)) (fun y=>∃o:List Nat,y=iL o∧Dg o∧o.length=l.length+1∧val o=val l*2 ^ s):=by
  have h2:2 ^ s≤2 ^ 31:=ZEI (by decide) hs;unfold ZoF Zre;rw[Zol,ZnJ,ZnJ,ZnH,show (l.length:Int)+1=((l.length+1:Nat):Int)from rfl,ZDV,Zxa];refine⟨ZnP (by omega),ZvU (by omega), ?_⟩;refine Zn7 (Zsz Zue l.length (by omega) (fun i (t:List Nat×Nat)=>((s:Int),iL l,(l.length:Int),i,iL (t.1++t.2::ZD9 (l.length - t.1.length) 0))) (fun i t=>t.1.length=i∧t.2 < 2 ^ s∧Dg t.1∧val t.1+Bw ^ i*t.2=val (l.take i)*2 ^ s)
   (Q:=fun y=>∃o:List Nat,y=iL o∧Dg o∧o.length=l.length+1∧val o=val l*2 ^ s) ([],0) ⟨rfl,ZEM s,Zv5,by simp[val]⟩ ?_ ?_) ?_
  ·rintro rec i ⟨o,c⟩ hi ⟨hol,hc,hod,hv⟩ ih;dsimp only at hol hc hod hv ih;have h1:=hd.get hi;have hcB:c < Bw:=by simp only[Bw];omega
   unfold ZqQ ZpC;dsimp only;rw[Zob];refine⟨fun _=> ?_,fun h=>by simp only[decide_eq_false_iff_not]at h;omega⟩;rw[Zst hi,ZnH,ZnC];generalize ex:l[i]=x at h1;have hlen:(o++c::ZD9 (l.length - o.length) 0).length=l.length+1:=by simp;omega
   have hg:(iL (o++c::ZD9 (l.length - o.length) 0))[i]? =some (c:Int):=by rw[Zv3 (by rw[hlen];omega)];congr 2;rw[ZD0 (by omega)];simp[hol]
   rw[ZAu (by omega) h1,show (32:Int)=((32:Nat):Int)from rfl,Zv8 32 (by omega),Zs8];have hx2:x*2 ^ s / 2 ^ 32 < 2 ^ s:=(ZEk (by decide)).2 (by
    rw[ZEx (2 ^ s)];exact ZEC h1 (ZEM s))
   rw[Ztt (by omega),ZDV,show ((i:Int)+1).toNat=i+1 by omega,hg];rw[ZnJ,ZnJ,ZnH,ZnC,ZnJ,ZnJ,ZnJ,ZnJ,ZnJ,Zxw hcB (ZEu _ (by decide)),Zxj hs hc h1];have hsum:c+x*2 ^ s % Bw < Bw:=by
    have e:Bw=2 ^ (32 - s)*2 ^ s:=by rw[←ZEH,show 32 - s+s=32 by omega]
    have hm:x % 2 ^ (32 - s)+1≤2 ^ (32 - s):=ZEu _ (ZEM _);have:=ZEA (2 ^ s) hm;rw[ZEe,ZEG]at this;rw[e,ZED];omega
   have es:((o++c::ZD9 (l.length - o.length) 0).set i (c+x*2 ^ s % Bw)).set (i+1) (x*2 ^ s / 2 ^ 32)=(o++[c+x*2 ^ s % Bw])++(x*2 ^ s / 2 ^ 32)::ZD9 (l.length - (o.length+1)) 0:=by rw[ZEa _ _ (by omega),hol,ZEL,ZEb,ZEa _ _ (by omega),hol,show i+1 - i=1 by omega,show l.length - i=(l.length - (i+1))+1 by omega,List.replicate_succ];simp
   rw[ZvB,ZvB,es];simp only[Zol,ZD5,hlen];refine⟨by simp,ZqE ⟨by omega,by omega⟩,ZqE ⟨by omega,by omega⟩,ZnP (by omega),by decide,ZqE ⟨by omega,by omega⟩,ZnP (by omega), ?_⟩;have:=ih (o++[c+x*2 ^ s % Bw],x*2 ^ s / 2 ^ 32) ⟨by simp[hol],hx2,hod.app (ZvS hsum), ?_⟩
   ·simp only[ZD2,ZD6]at this;exact this
   ·dsimp only;have q:Bw ^ i*(x*2 ^ s % Bw+Bw*(x*2 ^ s / 2 ^ 32))=Bw ^ i*(x*2 ^ s):=by have:=ZEs (x*2 ^ s) Bw;rw[show (2:Nat) ^ 32=Bw from rfl,this]
    rw[ZEv]at q;rw[Zty,hol,ZEJ,ZEw,Zom hi,ex,ZEv,ZEe,ZEw (Bw ^ i) x];omega
  ·rintro rec ⟨o,c⟩ ⟨hol,hc,hod,hv⟩;dsimp only at hol hc hod hv;unfold ZqQ ZpC;dsimp only;rw[Zob];refine⟨fun h=>by have:=of_decide_eq_true h;omega,fun _=> ?_⟩;rw[ZnC];rw[List.take_length]at hv;refine⟨o++[c], ?_,hod.app (ZvS (by simp only[Bw];omega)),by simp[hol], ?_⟩
   ·rw[hol,ZEL];rfl
   ·rw[Zty,hol];exact hv
  ·rintro y hy;exact ZnC.2 hy
 obtain⟨y,hy,o,rfl,h1,h2,h3⟩:=this;exact⟨o,hy,h1,h2,h3⟩
end Go.Proofs
namespace Go.Proofs
open Go Eng
theorem ZBM {B P u0 u1 u2 wl d1 d2 dl:Nat} (hdl:dl < P) (hd2:d2 < B) (h:((u0*B+u1)*B+u2)*P+wl < B*((d1*B+d2)*P+dl)):u0≤d1:=by
 rcases ZEp d1 u0 with hlt |hge
 ·exfalso;have h1:(d1+1)*(B*(B*P))≤u0*(B*(B*P)):=ZEA _ hlt;have h2:(d2+1)*P≤B*P:=ZEA _ hd2;rw[ZEe,ZEG]at h2;have h3:B*(d2*P+dl)≤B*(B*P):=ZEz _ (by omega);have e:B*(d1*(B*P))=d1*(B*(B*P)):=ZEB _ _ _;simp only[ZEe,ZEv,ZEw,ZEG]at h h1 h3;omega
 ·exact hge
theorem ZBL {B P u0 u1 u2 wl d1 d2 dl q:Nat} (hw:wl < P) (hu2:u2 < B) (h:q*((d1*B+d2)*P+dl)≤((u0*B+u1)*B+u2)*P+wl):q*d1≤u0*B+u1:=by
 rcases ZEp (u0*B+u1) (q*d1)with hlt |hge
 ·exfalso;have h1:(u0*B+u1+1)*(B*P)≤q*d1*(B*P):=ZEA _ hlt;have h2:(u2+1)*P≤B*P:=ZEA _ hu2;simp only[ZEe,ZEv,ZEw,ZEG]at h h1 h2;omega
 ·exact hge
theorem ZBK {B P u0 u1 u2 wl d1 d2 dl rest g:Nat} (hw:wl < P) (hr:rest+g*d1=u0*B+u1) (hg:rest*B+u2 < g*d2):((u0*B+u1)*B+u2)*P+wl < g*((d1*B+d2)*P+dl):=by
 rw[←hr];have h1:(rest*B+u2+1)*P≤g*d2*P:=ZEA _ hg;simp only[ZEe,ZEv,ZEw,ZEG]at h1⊢
 omega
theorem ZBJ {B P u0 u1 u2 wl d1 d2 dl rest g:Nat} (hdl:dl < P) (hB:g < B) (h1:1≤d1) (hr:rest+g*d1=u0*B+u1) (hg:g*d2≤rest*B+u2):g*((d1*B+d2)*P+dl) < (((u0*B+u1)*B+u2)*P+wl)+((d1*B+d2)*P+dl):=by
 rw[←hr];have h2:g*d2*P≤(rest*B+u2)*P:=ZEA _ hg;have h3:g*dl≤g*P:=ZEz _ (Nat.le_of_lt hdl);have h4:(g+1)*P≤B*P:=ZEA _ hB;have h5:1*(B*P)≤d1*(B*P):=ZEA _ h1;simp only[ZEe,ZEv,ZEw,ZEG]at h2 h4 h5⊢
 omega
theorem rdw {pre w suf:List Nat} {k:Nat} (h:k < w.length):(iL (pre++(w++suf)))[pre.length+k]? =some (w[k]:Int):=by rw[Zv3 (by simp;omega)];congr 2;rw[ZD0 (by omega)];simp only[Nat.add_sub_cancel_left];rw[List.getElem_append_left h]
theorem stw {pre w suf:List Nat} {k:Nat} (x:Nat) (h:k < w.length):(iL (pre++(w++suf))).set (pre.length+k) (x:Int)=iL (pre++(w.set k x++suf)):=by rw[ZvB,ZEa _ _ (by omega),Nat.add_sub_cancel_left,List.set_append_left _ _ h]
theorem ZDd {l:List Nat} {m:Nat} (h:l.length=m+2):val l=(l[m+1]*Bw+l[m])*Bw ^ m+val (l.take m):=by have e:=ZuO (l:=l) (k:=m) (by omega);have e2:=ZuO (l:=l) (k:=m+1) (by omega);have h3:=Zom (l:=l) (k:=m) (by omega);rw[List.drop_eq_nil_of_le (by omega)]at e2;simp only[val,ZEF,ZEh]at e2;rw[e2,h3,ZEJ,ZEe,ZEx (l[m]),ZEx (Bw ^ m) Bw,ZEx (Bw*Bw ^ m),ZEw];omega
theorem top3 {l:List Nat} {m:Nat} (h:l.length=m+3):val l=((l[m+2]*Bw+l[m+1])*Bw+l[m])*Bw ^ m+val (l.take m):=by have e:val l=(l[m+2]*Bw+l[m+1])*Bw ^ (m+1)+val (l.take (m+1)):=ZDd (by omega);have h3:=Zom (l:=l) (k:=m) (by omega);rw[e,h3,ZEJ,ZEx (Bw ^ m) Bw,←ZEw,ZEe ((l[m+2]*Bw+l[m+1])*Bw),ZEx (l[m])];omega
theorem ZAL {h l:Nat} (hh:h < 4294967296) (hl:l < 4294967296):orK .u64 (shlK .u64 (h:Int) 32) (IntKind.wrap .u64 (l:Int))=((h*4294967296+l:Nat):Int):=by
 have:=ZxB hh hl
 rwa [Zow (by omega)]at this
theorem ZAD {x y:Nat} (hx:x < Bw) (hy:y < Bw):IntKind.wrap .u64 ((x:Int)*IntKind.wrap .u64 (y:Int))=((x*y:Nat):Int):=by have:=ZvP hx hy;rw[Zow (by simp only[Bw]at hy;omega),←ZDU,Zow (by omega)]
theorem ZzG {pre w suf d:List Nat} {m:Nat} (hw:w.length=m+3) (hd:d.length=m+2) (hwd:Dg w) (hdd:Dg d) (h1:1≤d[m+1]) (hlt:val w < Bw*val d) (hm:m≤100000) {g r:Nat}
  (hg:g < Bw) (hq:val w / val d≤g) (hr:r+g*d[m+1]=w[m+2]*Bw+w[m+1]) (hr2:r < 2*Bw):
  wp (Zqq big pre.length (m+3) (iL d) ((m+2:Nat):Int) (g:Int) (r:Int) (iL (pre++(w++suf)))) (fun y=>∃g:Nat,y=(pre.length,m+3,iL d,((m+2:Nat):Int),(g:Int),iL (pre++(w++suf)))∧g < Bw∧val w / val d≤g∧g*val d < val w+val d):=by
 have hw0:=hwd.get (i:=m) (by omega);have hd2:=hdd.get (i:=m) (by omega);have hd1:=hdd.get (i:=m+1) (by omega);have hdl:val (d.take m) < Bw ^ m:=by have:=Ztg (hdd.take m);rwa [ZD7,ZEr (by omega)]at this
 have hwl:val (w.take m) < Bw ^ m:=by have:=Ztg (hwd.take m);rwa [ZD7,ZEr (by omega)]at this
 have eW:=top3 hw;have eD:=ZDd hd;have rd:(iL (pre++(w++suf)))[pre.length+m]? =some (w[m]:Int):=rdw (by omega);have rdd:idx (iL d) (m:Int)=some (d[m]:Int):=Zst (by omega);have rdd1:idx (iL d) ((m+1:Nat):Int)=some (d[m+1]:Int):=Zst (by omega);generalize d[m+1]=d1 at*
 generalize d[m]=d2 at*
 generalize w[m+2]=u0 at*
 generalize w[m+1]=u1 at*
 generalize w[m]=u2 at*
 have hDpos:0 < val d:=by rw[eD];have:1*1≤(d1*Bw+d2)*Bw ^ m:=ZEy (by simp only[Bw];omega) (Nat.pow_pos (by decide));omega
 have hdiv:∀g,val w < g*val d→val w / val d < g:=fun g h=>(ZEk hDpos).2 h
 generalize val w / val d=qq at*
 refine ZvG ZvF (fun(t:Nat×Nat)=>(pre.length,m+3,iL d,((m+2:Nat):Int),(t.1:Int),(t.2:Int),iL (pre++(w++suf)))) (fun t=>t.1 < Bw∧qq≤t.1∧t.2+t.1*d1=u0*Bw+u1∧t.2 < 2*Bw) (fun t=>t.1) (g,r) ⟨hg,hq,hr,hr2⟩ (by simp only[Bw]at hg;dsimp only;omega) ?_;rintro rec ⟨g,r⟩ ⟨hg,hq,hr,hr2⟩ ih;dsimp only at hg hq hr hr2 ih;unfold Zuj ZsY;dsimp only;have e2:((m+2:Nat):Int) - 2=(m:Int):=by omega
 have e1:((m+2:Nat):Int) - 1=((m+1:Nat):Int):=by omega
 have fin:g*d2≤r*Bw+u2→wp (some (pre.length,m+3,iL d,((m+2:Nat):Int),(g:Int),iL (pre++(w++suf)))) (fun y=>∃g:Nat,y=(pre.length,m+3,iL d,((m+2:Nat):Int),(g:Int),iL (pre++(w++suf)))∧g < Bw∧qq≤g∧g*val d < val w+val d):=fun h=>by rw[ZnC];refine⟨g,rfl,hg,hq, ?_⟩;rw[eW,eD];exact ZBJ hdl hg h1 hr h
 rw[Zob];refine⟨fun h=> ?_,fun h=> ?_⟩
 ·have hrB:r < 4294967296:=by have:=of_decide_eq_true h;omega
  rw[e2,ZnJ,rdd,ZnH,ZnC,ZnJ,ZnJ,ZnJ,ZnH,ZDV,rd,ZnC,ZAD hg hd2,ZAL hrB hw0];refine⟨ZnP (by omega),by decide,ZnP (by omega),ZqE ⟨by omega,by omega⟩, ?_⟩;unfold Zri;rw[Zob];refine⟨fun h=> ?_,fun h=> ?_⟩
  ·have hc:r*Bw+u2 < g*d2:=by have:=of_decide_eq_true h;simp only[Bw];omega
   have hlt2:val w < g*val d:=by rw[eW,eD];exact ZBK hwl hr hc
   have hqg:qq < g:=hdiv g hlt2;rw[e1,ZnJ,rdd1,ZnH,ZnC];refine⟨ZnP (by omega), ?_⟩;have eg:IntKind.wrap .u64 ((g:Int) - 1)=((g - 1:Nat):Int):=by simp only[Bw]at hg;rw[show (g:Int) - 1=((g - 1:Nat):Int) by omega,Zow (by omega)]
   have er:IntKind.wrap .u64 ((r:Int)+IntKind.wrap .u64 (d1:Int))=((r+d1:Nat):Int):=by simp only[Bw]at hd1;rw[Zow (by omega),←ZBz,Zow (by omega)]
   rw[eg,er];refine ih (g - 1,r+d1) ⟨by dsimp only;omega,by dsimp only;omega, ?_,by dsimp only;simp only[Bw]at hd1⊢;omega⟩ (by dsimp only;omega);dsimp only;rw[←hr,show g*d1=(g - 1+1)*d1 by rw[Nat.sub_add_cancel (by omega)],ZEe,ZEG];omega
  ·have hc:g*d2≤r*Bw+u2:=by have:=of_decide_eq_false h;simp only[Bw];omega
   exact fin hc
 ·have hrB:4294967296≤r:=by have:=of_decide_eq_false h;omega
  unfold Zri;rw[cond_false];refine fin ?_;have h1:=ZvP hg hd2;have h2:4294967296*4294967296≤r*Bw:=ZEy hrB (Nat.le_refl _);omega
end Go.Proofs
namespace Go.Proofs
open Go Eng
abbrev ZzM (pre suf:List Nat) (W D m:Nat) (y:Int×List Int):Prop:=∃w':List Nat,y=(((W / D:Nat):Int),iL (pre++(w'++suf)))∧w'.length=m+3∧Dg w'∧val w'=W % D
theorem ZA0 {pre w suf d:List Nat} {m W:Nat} (hw:w.length=m+3) (hd:d.length=m+2) (hwd:Dg w) (hdd:Dg d) (hm:m≤100000) {g:Nat} (hg:g < Bw)
  (hg1:W < g*val d) (hg2:g*val d < W+val d) (hv:val w+g*val d=W+Bw ^ (m+3)):
  wp ((Zrh big pre.length (m+3) ((m+2:Nat):Int) (g:Int) (0:Int) (iL d) (d.length:Int) (0:Int) (iL (pre++(w++suf)))).bind fun(x0,x1,x2,x3,x4,x5)=>Zsk x0 x1 x2 x3 x4 x5) (ZzM pre suf W (val d) m):=by
 rw[ZnH,hd];have hDpos:0 < val d:=by omega
 refine Zn7 (Zsz ZvD (m+2) (by omega) (fun i (t:Nat×List Nat)=>(pre.length,m+3,((m+2:Nat):Int),(g:Int),(t.1:Int),iL d,((m+2:Nat):Int),i,iL (pre++(t.2++suf)))) (fun i t=>t.1≤1∧t.2.length=m+3∧Dg t.2∧val t.2+Bw ^ i*t.1=val w+val (d.take i))
  (Q:=fun y=>∃(a:Nat) (w2:List Nat),y=(pre.length,m+3,((m+2:Nat):Int),(g:Int),(a:Int),iL (pre++(w2++suf)))∧a≤1∧w2.length=m+3∧Dg w2∧val w2+Bw ^ (m+2)*a=val w+val d) (0,w) ⟨by simp,hw,hwd,by simp[val]⟩ ?_ ?_) ?_
 ·rintro rec i ⟨a,o⟩ hi ⟨ha,hol,hod,hv⟩ ih;dsimp only at ha hol hod hv ih;have hi1:i < o.length:=by omega
  have hi2:i < d.length:=by omega
  have h1:=hod.get hi1;have h2:=hdd.get hi2;unfold ZsW ZrB;dsimp only;rw[Zob];refine⟨fun _=> ?_,fun h=>by have:=of_decide_eq_false h;omega⟩;rw[Zst hi2,ZnH,ZnC,ZnJ,ZnH,ZDV,rdw hi1,ZnC,ZCa h1 h2 ha,ZnH,ZnC];dsimp only;rw[ZnJ,ZnJ,stw _ hi1];refine⟨ZqE ⟨by omega,by omega⟩,ZqE ⟨by omega,by omega⟩,ZnP (by omega), ?_⟩;generalize ex:d[i]=x at h2;generalize ee:o[i]=e at h1;refine ih ((e+x+a) / 4294967296,o.set i ((e+x+a) % 4294967296)) ⟨by simp only[Bw]at h1 h2;dsimp only;omega,by simp[hol],hod.set _ (ZEu _ (by decide)), ?_⟩;dsimp only;have q1:=ZvH o i ((e+x+a) % 4294967296) hi1;rw[ee]at q1;have q2:Bw ^ i*((e+x+a) % 4294967296+Bw*((e+x+a) / 4294967296))=Bw ^ i*(e+x+a):=by rw[ZEs]
  rw[ZEv,ZEv,ZEv]at q2;rw[ZEJ,ZEw,Zom hi2,ex];omega
 ·rintro rec ⟨a,o⟩ ⟨ha,hol,hod,hv⟩;dsimp only at ha hol hod hv;unfold ZsW ZrB;dsimp only;rw[Zob];refine⟨fun h=>by have:=of_decide_eq_true h;omega,fun _=> ?_⟩;rw[ZnC];rw[ZEd (by omega)]at hv;exact⟨a,o,rfl,ha,hol,hod,hv⟩
 ·rintro y ⟨a,o,rfl,ha,hol,hod,hov⟩;dsimp only;have hi1:m+2 < o.length:=by omega
  have h1:=hod.get hi1;unfold Zsk;rw[ZnJ,ZnH,ZDV,rdw hi1,ZnC,ZnJ];generalize ee:o[m+2]=e at h1;have ew:IntKind.wrap .u32 ((e:Int)+(a:Int))=(((e+a) % 4294967296:Nat):Int):=by rw[←ZBz,Zs8]
  have hgp:1≤g:=by
   rcases ZEl g with h |h
   ·rw[h,Nat.zero_mul]at hg1;omega
   ·exact h
  have eg:IntKind.wrap .u32 (IntKind.wrap .u64 ((g:Int) - 1))=((g - 1:Nat):Int):=by simp only[Bw]at hg;rw[show (g:Int) - 1=((g - 1:Nat):Int) by omega,Zow (by omega),Ztt (by omega)]
  rw[ew,eg,stw _ hi1,ZnC];refine⟨ZqE ⟨by omega,by omega⟩,ZqE ⟨by omega,by omega⟩, ?_⟩;have q1:=ZvH o (m+2) ((e+a) % 4294967296) hi1;rw[ee]at q1;have q2:Bw ^ (m+2)*((e+a) % 4294967296+Bw*((e+a) / 4294967296))=Bw ^ (m+2)*(e+a):=by rw[ZEs]
  rw[ZEv,ZEv,←ZEw,←ZEJ]at q2;have hdn:Dg (o.set (m+2) ((e+a) % 4294967296)):=hod.set _ (ZEu _ (by decide));have hlt:=Ztg hdn;rw[ZD5,hol]at hlt;have hco:(e+a) / 4294967296≤1:=by simp only[Bw]at h1;omega
  have hpw:Bw ^ (m+2+1)=Bw ^ (m+3):=rfl;rw[hpw]at q2;have egD:g*val d=(g - 1)*val d+val d:=by rw[show g*val d=(g - 1+1)*val d by rw[Nat.sub_add_cancel hgp],ZEe,ZEG]
  have key:val (o.set (m+2) ((e+a) % 4294967296))+(g - 1)*val d=W:=by
   rcases ZEl ((e+a) / 4294967296)with hz |hz
   ·rw[hz,ZEF]at q2;omega
   ·rw[show (e+a) / 4294967296=1 by omega,ZEE]at q2;omega
  have hl3:(o.set (m+2) ((e+a) % 4294967296)).length=m+3:=by rw[ZD5,hol]
  generalize o.set (m+2) ((e+a) % 4294967296)=w3 at*
  have hlt3:val w3 < val d:=by omega
  have eq1:W / val d=g - 1:=by rw[←key,ZEf _ _ hDpos,ZEj hlt3,ZEO]
  have eq2:W % val d=val w3:=by rw[←key,ZEg,ZEt hlt3]
  exact⟨w3,by rw[eq1],hl3,hdn,eq2.symm⟩
theorem ZAp {pre w suf d:List Nat} {m:Nat} (hw:w.length=m+3) (hd:d.length=m+2) (hwd:Dg w) (hdd:Dg d) (hm:m≤100000) {g:Nat} (hg:g < Bw)
  (hDpos:0 < val d) (hq:val w / val d≤g) (hg2:g*val d < val w+val d):
  wp (Zsl pre.length (m+3) (iL d) ((m+2:Nat):Int) (g:Int) (iL (pre++(w++suf)))) (ZzM pre suf (val w) (val d) m):=by
 unfold Zsl;rw[ZnH,Zol,hd];refine Zn7 (Zsz ZvE (m+2) (by omega) (fun i (t:Nat×Nat×List Nat)=>(pre.length,m+3,iL d,((m+2:Nat):Int),(g:Int),(t.1:Int),(t.2.1:Int),iL d,((m+2:Nat):Int),i,iL (pre++(t.2.2++suf)))) (fun i t=>t.1≤1∧t.2.1 < Bw∧t.2.2.length=m+3∧Dg t.2.2∧val t.2.2+g*val (d.take i)=val w+Bw ^ i*(t.1+t.2.1))
  (Q:=fun y=>∃(b c:Nat) (w2:List Nat),y=(pre.length,m+3,iL d,((m+2:Nat):Int),(g:Int),(b:Int),(c:Int),iL (pre++(w2++suf)))∧b≤1∧c < Bw∧w2.length=m+3∧Dg w2∧val w2+g*val d=val w+Bw ^ (m+2)*(b+c)) (0,0,w) ⟨by simp,by simp,hw,hwd,by simp[val]⟩ ?_ ?_) ?_
 ·rintro rec i ⟨b,c,o⟩ hi ⟨hb,hc,hol,hod,hv⟩ ih;dsimp only at hb hc hol hod hv ih;have hi1:i < o.length:=by omega
  have hi2:i < d.length:=by omega
  have h1:=hod.get hi1;have h2:=hdd.get hi2;unfold ZsX ZrC;dsimp only;rw[Zob];refine⟨fun _=> ?_,fun h=>by have:=of_decide_eq_false h;omega⟩;rw[Zst hi2,ZnH,ZnC,ZnJ,ZnH,ZDV,rdw hi1,ZnC];generalize ex:d[i]=x at h2;generalize ee:o[i]=e at h1;have hbd:=ZvP hg h2;have es:IntKind.wrap .u64 ((c:Int)+((g*x:Nat):Int))=((c+g*x:Nat):Int):=by simp only[Bw]at hc;rw[←ZBz,Zow (by omega)]
  rw[ZAD hg h2,es,Zs8,ZAr h1 (ZEu _ (by decide)) hb,ZnH,ZnC];dsimp only;rw[ZnJ,ZnJ,ZnJ,stw _ hi1,show (32:Int)=((32:Nat):Int)from rfl,Zv8 32 (by omega)];refine⟨ZqE ⟨by omega,by omega⟩,ZqE ⟨by omega,by omega⟩,by decide,ZnP (by omega), ?_⟩;have hlo:(c+g*x) % 4294967296 < 4294967296:=ZEu _ (by decide);have hhi:(c+g*x) / 2 ^ 32 < Bw:=by simp only[Bw]at hc⊢;omega
  have hs:(c+g*x) % 4294967296+Bw*((c+g*x) / 2 ^ 32)=c+g*x:=ZEs _ _;generalize (c+g*x) % 4294967296=lo at*
  generalize (c+g*x) / 2 ^ 32=hi' at*
  refine ih ((if e < lo+b then 1 else 0),hi',o.set i ((e+4294967296 - lo - b) % 4294967296)) ⟨by dsimp only;split<;>omega,hhi,by simp[hol],hod.set _ (ZEu _ (by decide)), ?_⟩;dsimp only;have q1:=ZvH o i ((e+4294967296 - lo - b) % 4294967296) hi1;rw[ee]at q1;have e1:e+Bw*(if e < lo+b then 1 else 0)=(e+4294967296 - lo - b) % 4294967296+lo+b:=by simp only[Bw]at h1⊢;split<;>omega
  have q2:Bw ^ i*(e+Bw*(if e < lo+b then 1 else 0))=Bw ^ i*((e+4294967296 - lo - b) % 4294967296+lo+b):=by rw[e1]
  have q3:Bw ^ i*(lo+Bw*hi')=Bw ^ i*(c+g*x):=by rw[hs]
  have q4:g*(Bw ^ i*x)=Bw ^ i*(g*x):=ZEB _ _ _;rw[ZEv,ZEv,ZEv]at q2;rw[ZEv,ZEv]at q3;rw[ZEv]at hv;rw[ZEJ,ZEw,Zom hi2,ex,ZEv,ZEv Bw,ZEv];omega
 ·rintro rec ⟨b,c,o⟩ ⟨hb,hc,hol,hod,hv⟩;dsimp only at hb hc hol hod hv;unfold ZsX ZrC;dsimp only;rw[Zob];refine⟨fun h=>by have:=of_decide_eq_true h;omega,fun _=> ?_⟩;rw[ZnC];rw[ZEd (by omega)]at hv;exact⟨b,c,o,rfl,hb,hc,hol,hod,hv⟩
 ·rintro y ⟨b,c,o,rfl,hb,hc,hol,hod,hv⟩;dsimp only;have hi1:m+2 < o.length:=by omega
  have h1:=hod.get hi1;unfold ZtH;rw[ZnJ,ZnH,ZDV,rdw hi1,ZnC,Ztt hc];generalize ee:o[m+2]=e at h1;rw[ZAr h1 hc hb,ZnH,ZnC];dsimp only;rw[ZnJ,stw _ hi1,Ztt hg];refine⟨ZqE ⟨by omega,by omega⟩,ZqE ⟨by omega,by omega⟩, ?_⟩;have q1:=ZvH o (m+2) ((e+4294967296 - c - b) % 4294967296) hi1;rw[ee]at q1;have e1:e+Bw*(if e < c+b then 1 else 0)=(e+4294967296 - c - b) % 4294967296+c+b:=by simp only[Bw]at h1 hc⊢;split<;>omega
  have q2:Bw ^ (m+2)*(e+Bw*(if e < c+b then 1 else 0))=Bw ^ (m+2)*((e+4294967296 - c - b) % 4294967296+c+b):=by rw[e1]
  rw[ZEv,ZEv,ZEv,←ZEw,←ZEJ]at q2;rw[ZEv]at hv;have hpw:Bw ^ (m+2+1)=Bw ^ (m+3):=rfl;rw[hpw]at q2;have hdn:Dg (o.set (m+2) ((e+4294967296 - c - b) % 4294967296)):=hod.set _ (ZEu _ (by decide));have hlt:=Ztg hdn;rw[ZD5,hol]at hlt;have hl3:(o.set (m+2) ((e+4294967296 - c - b) % 4294967296)).length=m+3:=by rw[ZD5,hol]
  generalize o.set (m+2) ((e+4294967296 - c - b) % 4294967296)=w3 at*
  generalize (e+4294967296 - c - b) % 4294967296=dd at*
  by_cases hcc:e < c+b
  ·rw[if_pos hcc]at q2⊢
   rw[show (((1:Nat):Int) == 0)=false from rfl,cond_false];rw[Zol d];exact ZA0 (pre:=pre) (suf:=suf) hl3 hd hdn hdd hm hg (by omega) hg2 (by omega)
  ·rw[if_neg hcc]at q2⊢
   rw[show (((0:Nat):Int) == 0)=true from rfl,cond_true,ZnC];have key:val w3+g*val d=val w:=by omega
   have hlt3:val w3 < val d:=by have h5:(val w / val d)*val d≤g*val d:=ZEA _ hq;have h6:=ZEi (val w) (val d);have h7:=ZEu (val w) hDpos;rw[ZEx]at h6;omega
   have eq1:val w / val d=g:=by rw[←key,ZEf _ _ hDpos,ZEj hlt3,ZEO]
   have eq2:val w % val d=val w3:=by rw[←key,ZEg,ZEt hlt3]
   exact⟨w3,by rw[eq1],hl3,hdn,eq2.symm⟩
theorem ZzI {pre w suf d:List Nat} {m:Nat} (hw:w.length=m+3) (hd:d.length=m+2) (hwd:Dg w) (hdd:Dg d) (hm:m≤100000) (h1:1≤d[m+1]) (hlt:val w < Bw*val d):
  wp (ZsG (iL (pre++(w++suf))) pre.length (m+3) (iL d)) (ZzM pre suf (val w) (val d) m):=by
 have hd1:=hdd.get (i:=m+1) (by omega);have hd2:=hdd.get (i:=m) (by omega);have h_u0:=hwd.get (i:=m+2) (by omega);have h_u1:=hwd.get (i:=m+1) (by omega);have h_u2:=hwd.get (i:=m) (by omega);have hdl:val (d.take m) < Bw ^ m:=by have:=Ztg (hdd.take m);rwa [ZD7,ZEr (by omega)]at this
 have hwl:val (w.take m) < Bw ^ m:=by have:=Ztg (hwd.take m);rwa [ZD7,ZEr (by omega)]at this
 have eW:=top3 hw;have eD:=ZDd hd;have hDpos:0 < val d:=by rw[eD];have:1*1≤(d[m+1]*Bw+d[m])*Bw ^ m:=ZEy (by simp only[Bw];omega) (Nat.pow_pos (by decide));omega
 have hk1:w[m+2]≤d[m+1]:=ZBM hdl hd2 (by rw[←eW,←eD];exact hlt);have hk2:(val w / val d)*d[m+1]≤w[m+2]*Bw+w[m+1]:=ZBL hwl h_u2 (by rw[←eW,←eD];exact Nat.div_mul_le_self _ _);have hqB:val w / val d < Bw:=(ZEk hDpos).2 hlt;have hG:∃g:Nat,(if (4294967295:Int) < (IntKind.wrap .u64 (Int.tdiv (orK .u64 (shlK .u64 (IntKind.wrap .u64 (w[m+2]:Int)) 32) (IntKind.wrap .u64 (w[m+1]:Int))) (IntKind.wrap .u64 (d[m+1]:Int))))then (4294967295:Int)else (IntKind.wrap .u64 (Int.tdiv (orK .u64 (shlK .u64 (IntKind.wrap .u64 (w[m+2]:Int)) 32) (IntKind.wrap .u64 (w[m+1]:Int))) (IntKind.wrap .u64 (d[m+1]:Int)))))=(g:Int)∧g < Bw∧val w / val d≤g∧g*d[m+1]≤w[m+2]*Bw+w[m+1]∧w[m+2]*Bw+w[m+1] < g*d[m+1]+2*Bw:=by
  rw[ZxB h_u0 h_u1,Zow (by simp only[Bw]at hd1;omega)];have e1:Int.tdiv ((w[m+2]*4294967296+w[m+1]:Nat):Int) (d[m+1]:Int)=(((w[m+2]*4294967296+w[m+1]) / d[m+1]:Nat):Int):=by rw[Int.tdiv_eq_ediv_of_nonneg (by omega)];norm_cast
  have hnum:w[m+2]*4294967296+w[m+1] < 18446744073709551616:=by simp only[Bw]at h_u0 h_u1;omega
  have hle:(w[m+2]*4294967296+w[m+1]) / d[m+1]≤w[m+2]*4294967296+w[m+1]:=Nat.div_le_self _ _;rw[e1,Zow (by omega)];have hq2:val w / val d≤(w[m+2]*4294967296+w[m+1]) / d[m+1]:=(Nat.le_div_iff_mul_le (by omega)).2 hk2;have hdm:=ZEi (w[m+2]*4294967296+w[m+1]) d[m+1];have hml:=ZEu (w[m+2]*4294967296+w[m+1]) (show 0 < d[m+1] by omega);rw[ZEx]at hdm;generalize (w[m+2]*4294967296+w[m+1]) / d[m+1]=q0 at*
  generalize (w[m+2]*4294967296+w[m+1]) % d[m+1]=r0 at*
  generalize val w / val d=qq at*
  by_cases hc:4294967295 < q0
  ·refine⟨4294967295,by rw[if_pos (by omega)];rfl,by simp only[Bw];omega,by simp only[Bw]at hqB;omega, ?_, ?_⟩
   ·have:=ZEA d[m+1] (show 4294967295≤q0 by omega);simp only[Bw];omega
   ·simp only[Bw]at*
    omega
  ·refine⟨q0,by rw[if_neg (by omega)],by simp only[Bw];omega,hq2, ?_, ?_⟩
   ·simp only[Bw];omega
   ·simp only[Bw]at*
    omega
 have h2:wp (ZtC (iL (pre++(w++suf))) pre.length (m+3) (iL d)) (ZzM pre suf (val w) (val d) m):=by
  obtain⟨g,hg,hgB,hgq,hgd,hgr⟩:=hG;have e1:((m+2:Nat):Int) - 1=((m+1:Nat):Int):=by omega
  unfold ZtC;rw[Zol,hd,e1,ZDV,ZDV,rdw (by omega),rdw (by omega),Zst (by omega)];rw[ZnJ,ZnH,ZnC,ZnJ,ZnJ,ZnJ,ZnH,ZnC,ZnJ,ZnH,ZnC,ZnJ,ZnJ,ZnH,ZnC,hg,ZxB h_u0 h_u1,ZAD hgB hd1,ZnH];have er:IntKind.wrap .u64 (((w[m+2]*4294967296+w[m+1]:Nat):Int) - ((g*d[m+1]:Nat):Int))=((w[m+2]*4294967296+w[m+1] - g*d[m+1]:Nat):Int):=by simp only[Bw]at hgd hgr;rw[←Int.ofNat_sub hgd,Zow (by omega)]
  rw[er];refine⟨ZqE ⟨by omega,by omega⟩,by decide,ZnP (by omega),ZqE ⟨by omega,by omega⟩,ZnP (by omega),decide_eq_true (by rw[Zow (by simp only[Bw]at hd1;omega)];omega),ZnP (by omega), ?_⟩;refine Zn7 (ZzG hw hd hwd hdd h1 hlt hm hgB hgq (by simp only[Bw]at hgd⊢;omega) (by simp only[Bw]at hgr⊢;omega)) ?_;rintro y ⟨g',rfl,h3,h4,h5⟩;exact ZAp hw hd hwd hdd hm h3 hDpos h4 h5
 unfold ZsG;rw[ZnH];refine Zn7 h2 ?_;rintro y ⟨w',rfl,h3,h4,h5⟩;rw[ZnJ,ZnC];refine⟨?_,w',rfl,h3,h4,h5⟩;dsimp only;rw[Zol,Zol];simp[h3,hw]
end Go.Proofs
namespace Go.Proofs
open Go Eng
theorem ZzK (l:List Nat) (h:l.length≤1000000):Zok (iL l)=some (iL l):=by
 cases l with
 |nil=>
  have e1:ZnM [] true=some []:=rfl;have e2:ZnM [] false=some []:=by kernel_rfl
  show agree (ZnM [] true) (ZnM [] false)=some [];rw[e1,e2,Zyw]
 |cons x l=>
  show ZnM (iL (x::l)) false=_;unfold ZnM;rw[cond_false,ZtI (by rw[Zol,List.length_nil];omega),chk_true];rfl
theorem ZwC {l:List Nat} {k:Nat} (h:val l < Bw ^ k):val (l.take k)=val l:=by
 rcases ZEp k l.length with hk |hk
 ·have e:val l=val (l.take k++l.drop k):=by rw[ZEc]
  rw[Zve,ZD7,ZEr (by omega)]at e;rcases ZEl (val (l.drop k))with hz |hz
  ·rw[hz,ZEF,ZEh]at e;exact e.symm
  ·have:=ZEz (Bw ^ k) hz;omega
 ·rw[ZEd hk]
theorem ZDc (u:List Nat) (k:Nat) (hk:k≤u.length) (hk2:k≤1000000):∃k',k'≤k∧val (u.take k')=val (u.take k)∧Zrk (iL u) 0 k=some (0,k',iL u):=by
 have h:wp (ZrY (iL u) 0 k) (fun y=>∃k',k'≤k∧val (u.take k')=val (u.take k)∧y=(0,k',iL u)):=by
  unfold ZrY Zsi;rw[ZnH];refine Zn7 (ZvG Zu6 (fun(j:Nat)=>(0,j,iL u)) (fun j=>j≤k∧val (u.take j)=val (u.take k)) (fun j=>j) (Q:=fun y=>∃k',k'≤k∧val (u.take k')=val (u.take k)∧y=(0,k',iL u)) k ⟨Nat.le_refl _,rfl⟩ (by omega) ?_) (fun y hy=>ZnC.2 hy);rintro rec j ⟨hj,hv⟩ ih;unfold Ztv ZrT ZqZ;dsimp only;cases j with
  |zero=>exact ZnC.2 ⟨0,hj,hv,rfl⟩
  |succ j=>
   have hju:j < u.length:=by omega
   have e1:((j+1:Nat):Int) - 1=(j:Int):=by omega
   rw[Zob];refine⟨fun _=> ?_,fun h=>by have:=of_decide_eq_false h;omega⟩;rw[e1,ZDV,ZEO,ZnJ,ZnJ,Zv3 hju,ZnH,ZnC,Zob];refine⟨ZnP (by omega),ZqE ⟨by omega,by omega⟩,fun h=> ?_,fun h=> ?_⟩
   ·have h0:u[j]=0:=by have:=eq_of_beq h;omega
    rw[ZnJ,ZnJ];refine⟨ZnP (by omega),ZsJ ⟨by omega,by omega,by omega⟩,ih j ⟨by omega, ?_⟩ (by omega)⟩;rw[←hv,Zom hju,h0,ZEF,ZEh]
   ·exact ZnC.2 ⟨j+1,hj,hv,rfl⟩
 obtain⟨y,hy,k',h1,h2,rfl⟩:=h;refine⟨k',h1,h2, ?_⟩;unfold Zrk;rw[hy,ZEP];simp
theorem ZyG {x y s:Nat} (hs:s≤31) (hx:x < Bw) (hy:y < Bw):((y*4294967296+x) / 2 ^ s % 4294967296)*2 ^ s+x % 2 ^ s=x+Bw*(y % 2 ^ s):=by
 have e:(4294967296:Nat)=2 ^ (32 - s)*2 ^ s:=by rw[←ZEH,show 32 - s+s=32 by omega]
 have hp:=ZEM s;have h1:=ZEi x (2 ^ s);have h2:=ZEi y (2 ^ s);have hx2:x / 2 ^ s < 2 ^ (32 - s):=(ZEk hp).2 (by rw[←e];exact hx);have hy2:=ZEu y hp;have e1:(y*4294967296+x) / 2 ^ s=y*2 ^ (32 - s)+x / 2 ^ s:=by rw[e,←ZEw,Nat.add_comm,ZEf _ _ hp,Nat.add_comm]
 have e2:y*2 ^ (32 - s)+x / 2 ^ s=(y % 2 ^ s)*2 ^ (32 - s)+x / 2 ^ s+4294967296*(y / 2 ^ s):=by
  rw[e];have:y*2 ^ (32 - s)=(2 ^ s*(y / 2 ^ s)+y % 2 ^ s)*2 ^ (32 - s):=by rw[h2]
  rw[this,ZEe,ZEx (2 ^ s),ZEx (2 ^ (32 - s)),ZEw (y / 2 ^ s),ZEx (y / 2 ^ s)];omega
 have hlt:(y % 2 ^ s)*2 ^ (32 - s)+x / 2 ^ s < 4294967296:=by have:=ZEA (2 ^ (32 - s)) (show y % 2 ^ s+1≤2 ^ s from hy2);rw[ZEe,ZEG,ZEx (2 ^ s),←e]at this;omega
 rw[e1,e2,Nat.add_mul_mod_self_left,ZEt hlt,ZEe,ZEw,←e,ZEx (x / 2 ^ s),ZEx (y % 2 ^ s)];simp only[Bw];omega
theorem ZBw {u:List Nat} {k s R:Nat} (q:List Int) (hs:s≤31) (hd:Dg u) (hk:k≤u.length) (hk2:k≤1000000) (hv:val (u.take k)=R*2 ^ s):
  wp (ZpJ big (s:Int) 0 k ((k:Nat):Int) (0:Int) q (iL u)) (fun y=>∃(o:List Nat),y=(0,k,q,iL (o++u.drop k))∧o.length=k∧Dg o∧val o=R):=by
 refine Zsz ZuT k (by omega) (fun i (o:List Nat)=>((s:Int),0,k,(k:Int),i,q,iL (o++u.drop o.length))) (fun i o=>o.length=i∧Dg o∧val o*2 ^ s+(if 0 < k then u.getD 0 0 else 0) % 2 ^ s=val (u.take i)+Bw ^ i*((if i < k then u.getD i 0 else 0) % 2 ^ s)) [] ⟨rfl,Zv5,by simp[val]⟩ ?_ ?_
 ·rintro rec i o hi ⟨hol,hod,hov⟩ ih;have hiu:i < u.length:=by omega
  have h1:=hd.get hiu;unfold Zru Zqe;dsimp only;rw[Zob];refine⟨fun _=> ?_,fun h=>by have:=of_decide_eq_false h;omega⟩;have hlen:(o++u.drop o.length).length=u.length:=by simp;omega
  have gx:(iL (o++u.drop o.length))[i]? =some (u[i]:Int):=by rw[Zv3 (by omega)];congr 2;rw[ZD0 (by omega)];simp[hol]
  obtain⟨y,hy,hyB,hye⟩:∃y:Nat,ZqX (iL (o++u.drop o.length)) 0 k ((i:Int)+1)=some ((y:Int),iL (o++u.drop o.length))∧y < Bw∧y=(if i+1 < k then u.getD (i+1) 0 else 0):=by
   unfold ZqX ZsU
   by_cases hc:i+1 < k
   ·have hiu2:i+1 < u.length:=by omega
    have gy:(iL (o++u.drop o.length))[i+1]? =some (u[i+1]:Int):=by rw[Zv3 (by omega)];congr 2;rw[ZD0 (by omega)];simp[hol]
    refine⟨u[i+1], ?_,hd.get hiu2, ?_⟩
    ·rw[decide_eq_true (by omega),cond_true,ZqE ⟨by omega,by omega⟩,chk_true,ZEO,show ((i:Int)+1).toNat=i+1 by omega,gy];simp
    ·rw[if_pos hc,ZDX,ZDY hiu2];rfl
   ·refine⟨0, ?_,by decide,by rw[if_neg hc]⟩;rw[decide_eq_false (by omega),cond_false];simp
  rw[hy,ZnJ,ZnH,ZnC];dsimp only;rw[ZDV,ZEO,gx,ZnJ,ZnJ,ZnH,ZnC,ZnJ,ZnJ,ZnJ,ZxB hyB h1,Zv8 s (by omega),Zs8];refine⟨ZnP (by omega),by decide,ZqE ⟨by omega,by omega⟩,by simp,ZqE ⟨by omega,by omega⟩,ZnP (by omega), ?_⟩;generalize ez:(y*4294967296+u[i]) / 2 ^ s % 4294967296=z;have hz:z < Bw:=by rw[←ez];exact ZEu _ (by decide)
  have es:(iL (o++u.drop o.length)).set i (z:Int)=iL ((o++[z])++u.drop (o++[z]).length):=by rw[ZvB,ZEa _ _ (by omega),hol,ZEL,←ZD1 (h:=hiu),ZEb];simp[hol]
  rw[es];refine ih (o++[z]) ⟨by simp[hol],hod.app (ZvS hz), ?_⟩;have hd1:=ZyG hs h1 hyB;rw[ez]at hd1;have q1:Bw ^ i*(z*2 ^ s+u[i] % 2 ^ s)=Bw ^ i*(u[i]+Bw*(y % 2 ^ s)):=by rw[hd1]
  have eg:u.getD i 0=u[i]:=by rw[ZDX,ZDY hiu];rfl
  rw[if_pos hi,eg]at hov;rw[ZEv,ZEv]at q1;rw[Zty,hol,Zom hiu,←hye,ZEJ,ZEe,ZEw,ZEw];omega
 ·rintro rec o ⟨hol,hod,hov⟩;unfold Zru Zqe;dsimp only;rw[Zob];refine⟨fun h=>by have:=of_decide_eq_true h;omega,fun _=> ?_⟩;rw[ZnC];refine⟨o,by rw[hol],hol,hod, ?_⟩;rw[if_neg (Nat.lt_irrefl _),Nat.zero_mod,ZEF,ZEh,hv]at hov;have hp:=ZEM s;have:(val o*2 ^ s+(if 0 < k then u.getD 0 0 else 0) % 2 ^ s) / 2 ^ s=R*2 ^ s / 2 ^ s:=by rw[hov]
  rw[Nat.add_comm,ZEf _ _ hp,ZEj (ZEu _ hp),Nat.mul_div_cancel _ hp]at this;omega
theorem Zyo {x s:Nat} (hs:s≤31) (h:x*2 ^ s < 4294967296):(x+1)*2 ^ s≤4294967296:=by
 have e:(4294967296:Nat)=2 ^ (32 - s)*2 ^ s:=by rw[←ZEH,show 32 - s+s=32 by omega]
 rw[e]at h⊢
 exact ZEA _ (Nat.lt_of_mul_lt_mul_right h)
theorem Zzo {d u:List Nat} {m K s U:Nat} (hd:d.length=m+2) (hdd:Dg d) (h1:1≤d[m+1]) (hu:u.length=K+m+2) (hud:Dg u) (hU:val u=U) (hlt:U < Bw ^ K*val d) (hK:K≤100000) (hm:m≤100000):
  wp (ZpK big ((m+2:Nat):Int) (s:Int) (iL d) ((K:Int) - 1) (iL u) (iL (ZD9 K 0))) (fun y=>∃u' qs:List Nat,y=(((m+2:Nat):Int),(s:Int),iL u',iL qs)∧u'.length=K+m+2∧Dg u'∧qs.length=K∧Dg qs∧val u'+val qs*val d=U∧val u' < val d):=by
 rw[show iL (ZD9 K 0)=iL (ZD9 (K - ([]:List Nat).length) 0++[]) by simp];have hDlt:=Ztg hdd;rw[hd]at hDlt;refine Zwt ZuU K (by omega) (fun i (t:List Nat×List Nat)=>(((m+2:Nat):Int),(s:Int),iL d,i,iL t.1,iL (ZD9 (K - t.2.length) 0++t.2))) (fun k t=>t.1.length=K+m+2∧Dg t.1∧t.2.length+k=K∧Dg t.2∧val t.1+Bw ^ k*(val t.2*val d)=U∧val t.1 < Bw ^ k*val d) (u,[]) ⟨hu,hud,by simp,Zv5,by simp[val,hU],by rw[hU];exact hlt⟩ ?_ ?_
 ·rintro rec k ⟨v,qs⟩ hk ⟨hvl,hvd,hql,hqd,hv,hvlt⟩ ih;dsimp only at hvl hvd hql hqd hv hvlt ih;unfold Zrv Zqf;dsimp only;have hwl:((v.drop k).take (m+3)).length=m+3:=by simp;omega
  have hpl:(v.take k).length=k:=by simp;omega
  have esplit:v=v.take k++((v.drop k).take (m+3)++v.drop (k+(m+3))):=by rw[←List.drop_drop,ZEc,ZEc]
  have hvs:val v=val (v.take k)+Bw ^ k*(val ((v.drop k).take (m+3))+Bw ^ (m+3)*val (v.drop (k+(m+3)))):=by
   have:val v=val (v.take k++((v.drop k).take (m+3)++v.drop (k+(m+3)))):=by rw[←esplit]
   rw[this,Zve,Zve,hpl,hwl]
  have hpd:=Ztg (hvd.take k);rw[hpl]at hpd;have hwd:=(hvd.drop k).take (m+3);have hsd:=hvd.drop (k+(m+3));have hvd':=hvd;generalize v.take k=pre at*
  generalize (v.drop k).take (m+3)=w at*
  generalize v.drop (k+(m+3))=suf at*
  subst esplit;have hX:val w+Bw ^ (m+3)*val suf < Bw*val d:=by
   have:Bw ^ k*(val w+Bw ^ (m+3)*val suf) < Bw ^ k*(Bw*val d):=by rw[←ZEw,←ZEJ];show _ < Bw ^ (k+1)*val d;omega
   exact Nat.lt_of_mul_lt_mul_left this
  have hs0:val suf=0:=by
   rcases ZEl (val suf)with hz |hz
   ·exact hz
   ·exfalso;have h5:=ZEz (Bw ^ (m+3)) hz;have h6:Bw*val d≤Bw*Bw ^ (m+2):=ZEz _ (Nat.le_of_lt hDlt);rw[ZEx Bw (Bw ^ (m+2)),←ZEJ]at h6;have h7:Bw*val d≤Bw ^ (m+3):=h6;omega
  rw[hs0,ZEF,ZEh]at hX hvs;rw[Zob];refine⟨fun _=> ?_,fun h=>by have:=of_decide_eq_false h;omega⟩;rw[ZnJ,ZnJ,ZnJ,ZnH,Zol,hvl];refine⟨ZnP (by omega),ZnP (by omega),ZsJ ⟨by omega,by omega,by omega⟩, ?_⟩;rw[show ((k:Int)+((m+2:Nat):Int)+1).toNat - (k:Int).toNat=m+3 by omega,ZDV];have hdw:=ZzI (pre:=pre) (suf:=suf) hwl hd hwd hdd hm h1 hX;rw[hpl]at hdw;refine Zn7 hdw ?_;rintro y ⟨w',rfl,hw'l,hw'd,hw'v⟩;dsimp only;have hDpos:0 < val d:=by
   rcases ZEl (val d)with hz |hz
   ·rw[hz,ZEF]at hX;omega
   ·exact hz
  have hq:val w / val d < Bw:=(ZEk hDpos).2 hX;have hdm:=ZEi (val w) (val d);have hml:=ZEu (val w) hDpos;generalize val w / val d=q at*
  have es:(ZD9 (K - qs.length) 0++qs).set k q=ZD9 (K - (qs.length+1)) 0++q::qs:=by
   have e:K - qs.length=k+1:=by omega
   have e2:K - (qs.length+1)=k:=by omega
   rw[e,e2,List.replicate_succ',List.append_assoc,ZEa _ _ (by simp),ZD4,ZEL];rfl
  rw[ZnJ,ZnJ,ZvB,es];refine⟨ZqE ⟨by omega,by rw[Zol];simp only[ZD2,ZD4];omega⟩,ZnP (by omega), ?_⟩;have hsl:suf.length+(k+(m+3))=K+m+2:=by rw[←hvl,ZD2,ZD2,hpl,hwl];omega
  refine ih (pre++(w'++suf),q::qs) ⟨?_, ?_,by simp only[ZD3];omega,fun y hy=> ?_, ?_, ?_⟩
  ·simp only[ZD2,hpl,hw'l];omega
  ·refine Dg.app (fun y hy=>hvd' y (List.mem_append_left _ hy)) (Dg.app hw'd hsd)
  ·rcases ZD8.1 hy with rfl |hy
   ·exact hq
   ·exact hqd y hy
  ·dsimp only;rw[Zve,Zve,hpl,hs0,ZEF,ZEh,hw'v,val,ZEe,ZEv];rw[hvs,←hdm,ZEv,ZEJ,ZEw]at hv;rw[ZEx q (val d),ZEw Bw];omega
  ·dsimp only;rw[Zve,Zve,hpl,hs0,ZEF,ZEh,hw'v];have:=ZEz (Bw ^ k) (show val w % val d+1≤val d from hml);rw[ZEv,ZEE]at this;omega
 ·rintro rec ⟨v,qs⟩ ⟨hvl,hvd,hql,hqd,hv,hvlt⟩;dsimp only at hvl hvd hql hqd hv hvlt;unfold Zrv Zqf;dsimp only;rw[Zob];refine⟨fun h=>by have:=of_decide_eq_true h;omega,fun _=> ?_⟩;rw[ZnC];rw[Nat.pow_zero,ZEG]at hv hvlt;refine⟨v,qs, ?_,hvl,hvd,hql,hqd,hv,hvlt⟩;rw[show K - qs.length=0 by omega];rfl
end Go.Proofs
namespace Go.Proofs
open Go Eng
theorem Zwx (a b:Nat) (hb0:b≠0) (ha:(wd a).length≤50000) (hb:(wd b).length≤50000):Zo7 (iL (wd a)) (iL (wd b))=some (iL (wd (a / b)),iL (wd (a % b))):=by
 refine Zqg ?_;unfold Zo7;rw[ZwB a b (by omega) (by omega),ZnH,ZnC,Zob];refine⟨fun h=> ?_,fun h=> ?_⟩
 ·have hab:a < b:=by
   have:=of_decide_eq_true h;rcases ZEq a b with h1 |h1 |h1
   ·exact h1
   ·rw[h1,Zun]at this;omega
   ·rw[Zt8 h1]at this;omega
  rw[ZzK _ (by omega),ZnH,ZnC,ZnC,ZEj hab,ZEt hab,ZsK,ZBN]
 ·have hab:b≤a:=by
   have:=of_decide_eq_false h;rcases ZEq a b with h1 |h1 |h1
   ·rw[Zuu h1]at this;omega
   ·omega
   ·omega
  have hlb:=Zsu hb0;rw[Zol,Zol,Zob];refine⟨fun h=> ?_,fun h=> ?_⟩
  ·have h1:(wd b).length=1:=by have:=eq_of_beq h;omega
   have hbB:b < Bw:=by have:=ZsL b;rwa [h1,Nat.pow_one]at this
   have eb:idx (iL (wd b)) 0=some (b:Int):=by rw[Zwf hb0,ZEt hbB];rfl
   rw[eb,ZnH,ZnC,Zzq a b hb0 hbB (by omega),ZnH,ZnC];dsimp only;have hr:a % b < Bw:=Nat.lt_trans (ZEu _ (by omega)) hbB;rw[show ([((a % b:Nat):Int)]:List Int)=iL [a % b]from rfl,Zvs (ZvS hr) (by simp),ZnH,ZnC,ZnC];simp only[val,ZEF,ZEh]
  ·obtain⟨m,hm⟩:∃m,(wd b).length=m+2:=⟨(wd b).length - 2,by
    have:(wd b).length≠1:=fun e=>by rw[e]at h;exact absurd h (by decide)
    omega⟩
   have hla:m+2≤(wd a).length:=by
    rcases ZEp (wd a).length (wd b).length with h1 |h1
    ·have:=Zw8 h1;omega
    ·omega
   have hi:m+1 < (wd b).length:=by omega
   have htop:(wd b)[m+1]≠0:=fun e=>by have h1:=Zom hi;rw[e,ZEF,ZEh,ZEd (by omega),ZrV]at h1;have h2:=Ztg ((ZtZ b).take (m+1));rw[ZD7,ZEr (by omega)]at h2;have h3:=Zxs hi;omega
   obtain⟨s,hs,hse,hs1,hs2⟩:=ZBG htop ((ZtZ b).get hi);have e1:((m+2:Nat):Int) - 1=((m+1:Nat):Int):=by omega
   rw[hm,e1,Zst hi,ZnJ,ZnH,ZnC,hse,ZnH,ZnC];refine⟨ZnP (by omega), ?_⟩;obtain⟨u,hu,hud,hul,huv⟩:=Zw4 (wd a) s hs (by omega) (ZtZ a);obtain⟨v,hv,hvd,hvl,hvv⟩:=Zw4 (wd b) s hs (by omega) (ZtZ b);rw[hu,ZnH,ZnC,hv,ZnH,ZnC,ZnJ,ZnJ,ZnJ,ZnJ,ZnJ];rw[ZrV]at huv hvv;have hvlt:val v < Bw ^ (m+2):=by
    have h1:=Zom hi;rw[ZEd (by omega),ZrV]at h1;have h2:=Ztg ((ZtZ b).take (m+1));rw[ZD7,ZEr (by omega)]at h2;have h3:b+1≤Bw ^ (m+1)*((wd b)[m+1]+1):=by rw[ZEv,ZEE];omega
    have h4:=ZEA (2 ^ s) h3;have h5:=ZEz (Bw ^ (m+1)) (Zyo hs hs2);rw[ZEw]at h4;have h6:=ZEM s;rw[ZEe,ZEG]at h4;rw[hvv,ZEJ];show _ < Bw ^ (m+1)*4294967296;omega
   obtain⟨K,hK⟩:∃K,(wd a).length=K+m+1:=⟨(wd a).length - m - 1,by omega⟩;have eK:((wd a).length:Int) - ((m+2:Nat):Int)+1=(K:Int):=by omega
   have ed:((iL v).drop 0).take (((m+2:Nat):Int).toNat - 0)=iL (v.take (m+2)):=by rw[ZDW,ZDV,Nat.sub_zero,ZxS]
   have hdv:val (v.take (m+2))=b*2 ^ s:=by rw[ZwC hvlt,hvv]
   have hdl:(v.take (m+2)).length=m+2:=by rw[ZD7];omega
   have hdd:=hvd.take (m+2);rw[eK,ed,ZDV,Zxa,Zol v,Zol (ZD9 K 0),ZD4];refine⟨ZsJ ⟨by omega,by omega,by omega⟩,ZnP (by omega),ZnP (by omega),ZvU (by omega),ZnP (by omega), ?_⟩;generalize v.take (m+2)=d at*
   have hp:=ZEM s;have h1:1≤d[m+1]:=by
    rcases ZEl d[m+1]with hz |hz
    ·exfalso;have h1:=Zom (l:=d) (k:=m+1) (by omega);rw[hz,ZEF,ZEh,ZEd (by omega)]at h1;have h2:=Ztg (hdd.take (m+1));rw[ZD7,ZEr (by omega)]at h2;rw[hdv]at h1;have h3:=Zxs hi;have:=Nat.le_mul_of_pos_right b hp;omega
    ·exact hz
   have hUlt:a*2 ^ s < Bw ^ K*val d:=by have h2:=ZsL a;have h3:=ZEz (Bw ^ K) (Zxs hi);rw[←ZEH,←Nat.add_assoc,←hK]at h3;rw[hdv,←ZEw];exact ZEC (by omega) hp
   rw[ZnH];refine Zn7 (Zzo (s:=s) hdl hdd h1 (by omega) hud huv hUlt (by omega) (by omega)) ?_;rintro y ⟨u',qs,rfl,hu'l,hu'd,hql,hqd,hv',hlt'⟩;dsimp only;have hDpos:0 < val d:=by omega
   have eq1:val qs=a / b:=by rw[←Nat.mul_div_mul_right a b hp,←hdv,←hv',ZEf _ _ hDpos,ZEj hlt',ZEO]
   have eq2:val u'=a % b*2 ^ s:=by rw[←ZED,←hdv,←hv',ZEg,ZEt hlt']
   have hDlt:=Ztg hdd;rw[hdl]at hDlt;have hut:val (u'.take (m+2))=val u':=ZwC (by omega);obtain⟨k',hk',hkv,hke⟩:=ZDc u' (m+2) (by omega) (by omega);unfold Zsa;rw[ZDV,Nat.sub_zero,hke,ZnJ,ZnH,ZnC,Zol];refine⟨ZsJ ⟨by omega,by omega,by omega⟩, ?_⟩;dsimp only;rw[ZnH];refine Zn7 (ZBw (R:=a % b) (iL qs) hs hu'd (by omega) (by omega) (by rw[hkv,hut,eq2])) ?_;rintro y ⟨o,rfl,hol,hod,hov⟩;dsimp only;unfold Zr9;have eo:((iL (o++u'.drop k')).drop 0).take k'=iL o:=by rw[ZDW,ZxS,List.take_left' hol]
   rw[eo,Zvs hqd (by omega),ZnH,ZnC,Zvs hod (by omega),ZnH,ZnC,ZnC,eq1,hov]
theorem ZrG {a b:Nat} (h:a≤b):(wd a).length≤(wd b).length:=ZuN (Nat.lt_of_le_of_lt h (ZsL b))
theorem ZwY:∀(n a b:Nat),b≤a→a*b < 2 ^ n→(wd a).length≤50000→∀f,n < f→Zov f (iL (wd a)) (iL (wd b))=some (iL (wd (ZEm a b)))
 |n,a,b,hba,hn,ha,0,hf=>absurd hf (by omega)
 |n,a,b,hba,hn,ha,f+1,hf=>by
  show ZoT (Zov f) _ _=_;unfold ZoT;rw[Zol]
  by_cases h0:b=0
  ·subst h0;rw[ZsK,Nat.gcd_zero_right];rfl
  ·have hl:=Zsu h0;rw[decide_eq_true (by omega),cond_true,Zwx a b h0 ha (ZEn (ZrG hba) ha),ZEP];dsimp only;have hlt:=ZEu a (show 0 < b by omega);cases n with
   |zero=>
    have:1*1≤a*b:=ZEy (by omega) (by omega);rw[Nat.pow_zero]at hn;omega
   |succ n=>
    have hdm:=ZEi a b;have hq:1≤a / b:=(Nat.le_div_iff_mul_le (by omega)).2 (by omega);have h1:=ZEz b hq;have h2:b*(2*(a % b))≤b*a:=ZEz b (by omega);rw[ZEB,ZEx b a]at h2;rw[ZwY n b (a % b) (by omega) (by rw[ZEJ]at hn;omega) (ZEn (ZrG hba) ha) f (by omega),Nat.gcd_comm a b,Nat.gcd_rec b a,Nat.gcd_comm]
theorem ZwZ (a b:Nat) (ha:(wd a).length≤50000) (hb:(wd b).length≤50000):Zpd (iL (wd a)) (iL (wd b))=some (iL (wd (ZEm a b))):=by
 have bnd:∀x y:Nat,x*y < 2 ^ (32*(wd x).length+32*(wd y).length):=fun x y=>by
  have e:∀z,z < 2 ^ (32*(wd z).length):=fun z=>by
   have:=ZsL z
   rwa [show Bw=2 ^ 32 from rfl,←Nat.pow_mul]at this
  have h1:=Nat.mul_lt_mul_of_lt_of_le (e x) (Nat.le_of_lt (e y)) (ZEM _)
  rwa [←ZEH]at h1
 have key:Zov big (iL (wd a)) (iL (wd b))=some (iL (wd (ZEm a b))):=by
  obtain⟨k,hk,hk2⟩:∃k,big=k+1∧3200004 < k:=⟨36893488147419103231,by rw[big_eq],by omega⟩;rw[hk];rcases ZEp a b with h |h
  ·show ZoT (Zov k) _ _=_;unfold ZoT;have h0:b≠0:=by omega
   have hl:=Zsu h0;rw[Zol,decide_eq_true (by omega),cond_true,Zwx a b h0 ha hb,ZEP];dsimp only;rw[ZEt h,ZwY _ b a (by omega) (bnd b a) hb k (by omega),Nat.gcd_comm]
  ·exact ZwY _ a b h (bnd a b) ha (k+1) (by omega)
 unfold Zpd Zrw;rw[key,ZEP]
end Go.Proofs
namespace Go.Proofs
open Go Eng
def bg (z:Int):ZnI:=⟨decide (z < 0),iL (wd z.natAbs)⟩
theorem Zv6 (z:Int):(bg z).Neg=decide (z < 0):=rfl
theorem ZqL (z:Int):(bg z).Words=iL (wd z.natAbs):=rfl
abbrev Wl (n:Nat) (z:Int):Prop:=(wd z.natAbs).length≤n
theorem Zsm (neg:Bool) (n:Nat) (h:(wd n).length≤1000000):Zod neg (iL (wd n))=some (bg (if neg then -(n:Int)else n)):=by
 unfold Zod ZrZ bg;have hr:ZiZ (iL (wd n)).length 4=true:=ZtI (by rw[Zol];omega);cases neg with
 |true=>
  rw[cond_true,hr,chk_true,Zol,if_pos rfl,Int.natAbs_neg,Int.natAbs_natCast];congr 2
  by_cases h0:n=0
  ·subst h0;rw[ZsK];rfl
  ·have:=Zsu h0;rw[decide_eq_true (by omega),decide_eq_true (by omega)]
 |false=>
  rw[cond_false,hr,chk_true,if_neg (by decide),Int.natAbs_natCast,decide_eq_false (by omega)]
theorem Zw7 (n:Nat) (h:n < 18446744073709551616):Zp5 (n:Int)=some (iL (wd n)):=by
 unfold Zp5;have e:([IntKind.wrap .u32 (n:Int),IntKind.wrap .u32 (shrK .u64 (n:Int) 32)]:List Int)=iL [n % 4294967296,n / 4294967296]:=by rw[show (32:Int)=((32:Nat):Int)from rfl,Zv8 32 (by omega),Zs8,Ztt (by omega)];rfl
 have hd:Dg [n % 4294967296,n / 4294967296]:=fun d hd=>by
  simp only[ZD8,List.mem_singleton,List.not_mem_nil,or_false]at hd;rcases hd with rfl |rfl
  ·exact ZEu _ (by decide)
  ·simp only[Bw];omega
 rw[e,Zvs hd (by simp)];have hv:val [n % 4294967296,n / 4294967296]=n:=by simp only[val,ZEF,ZEh];exact ZEs n Bw
 rw[hv];rfl
theorem ZAH {n:Nat} (h:n < 18446744073709551616):(wd n).length≤2:=ZuN (by simp only[Bw];omega)
theorem Zxb (z:Int) (h1: -9223372036854775808≤z) (h2:z≤9223372036854775807):ZqJ z=some (bg z):=by
 unfold ZqJ
 by_cases hz:z < 0
 ·have e:IntKind.wrap .u64 (0 - IntKind.wrap .u64 z)=((z.natAbs:Nat):Int):=by rw[IntKind.wrap_u64,IntKind.wrap_u64];omega
  rw[decide_eq_true hz,cond_true,e,Zw7 _ (by omega),ZEP,Zsm _ _ (ZEn (ZAH (by omega)) (by decide)),ZEP,if_pos rfl,show -((z.natAbs:Nat):Int)=z by omega]
 ·have e:IntKind.wrap .u64 z=((z.natAbs:Nat):Int):=by rw[IntKind.wrap_u64];omega
  rw[decide_eq_false hz,cond_false,e,Zw7 _ (by omega),ZEP,Zsm _ _ (ZEn (ZAH (by omega)) (by decide)),ZEP,if_neg (by decide),show ((z.natAbs:Nat):Int)=z by omega]
theorem Zv7 (z:Int) (h:Wl 256 z):Zqs (bg z)=some true:=by
 unfold Wl at h;have top:∀hp:0 < (wd z.natAbs).length,∃x:Nat,idx (iL (wd z.natAbs)) (((wd z.natAbs).length:Int) - 1)=some (x:Int)∧x≠0:=fun hp=>by
  refine⟨(wd z.natAbs)[(wd z.natAbs).length - 1], ?_,fun e=> ?_⟩
  ·rw[show ((wd z.natAbs).length:Int) - 1=(((wd z.natAbs).length - 1:Nat):Int) by omega,Zst (by omega)]
  ·have hi:(wd z.natAbs).length - 1 < (wd z.natAbs).length:=by omega
   have h1:=Zom hi;rw[e,ZEF,ZEh,ZEd (by omega),ZrV]at h1;have h2:=Ztg ((ZtZ z.natAbs).take ((wd z.natAbs).length - 1));rw[ZD7,ZEr (by omega)]at h2;have h3:=Zxs hi;omega
 unfold Zqs ZoB;rw[ZqL,Zv6,Zol,decide_eq_true (by omega),cond_true]
 by_cases h0:(wd z.natAbs).length=0
 ·have:z=0:=by have:=ZBr.1 (List.eq_nil_of_length_eq_zero h0);omega
  subst this;rw[h0];rfl
 ·obtain⟨x,hx,hx0⟩:=top (by omega);have e0:(((wd z.natAbs).length:Int) == 0)=false:=beq_eq_false_iff_ne.2 (by omega);have e1:((x:Int) != 0)=true:=by simp only[bne_iff_ne];omega
  rw[e0,cond_false,decide_eq_true (by omega),cond_true,ZnP (by omega),chk_true,hx,ZEP,e1]
theorem ZAZ (x y:Int):(if (!((bg x).Neg == (bg y).Neg))=true then -((x.natAbs*y.natAbs:Nat):Int)else ((x.natAbs*y.natAbs:Nat):Int))=x*y:=by
 rw[Zv6,Zv6]
 by_cases hx:x < 0<;>by_cases hy:y < 0
 ·rw[decide_eq_true hx,decide_eq_true hy,if_neg (by decide),ZDU,show ((x.natAbs:Nat):Int)= -x by omega,show ((y.natAbs:Nat):Int)= -y by omega,Int.neg_mul_neg]
 ·rw[decide_eq_true hx,decide_eq_false hy,if_pos (by decide),ZDU,show ((x.natAbs:Nat):Int)= -x by omega,show ((y.natAbs:Nat):Int)=y by omega,Int.neg_mul,Int.neg_neg]
 ·rw[decide_eq_false hx,decide_eq_true hy,if_pos (by decide),ZDU,show ((x.natAbs:Nat):Int)=x by omega,show ((y.natAbs:Nat):Int)= -y by omega,Int.mul_neg,Int.neg_neg]
 ·rw[decide_eq_false hx,decide_eq_false hy,if_neg (by decide),ZDU,show ((x.natAbs:Nat):Int)=x by omega,show ((y.natAbs:Nat):Int)=y by omega]
theorem Zyz {x y:Nat} {n m:Nat} (hx:(wd x).length≤n) (hy:(wd y).length≤m):(wd (x*y)).length≤n+m:=by refine ZuN ?_;have h1:=Nat.mul_lt_mul_of_lt_of_le (ZsL x) (Nat.le_of_lt (ZsL y)) (Nat.pow_pos (by decide));rw[←ZEH]at h1;exact ZEo h1 (ZEI (by decide) (by omega))
theorem Zvk (x y:Int) (hx:Wl 50000 x) (hy:Wl 50000 y):Zn6 (bg x) (bg y)=some (bg (x*y)):=by unfold Zn6;have:=Zyz hx hy;rw[ZqL,ZqL,Zzn _ _ (by omega) (by omega),ZEP,Zsm _ _ (by omega),ZEP,ZAZ]
theorem ZyC {x y n:Nat} (hx:(wd x).length≤n) (hy:(wd y).length≤n):(wd (x+y)).length≤n+1:=by refine ZuN ?_;have h1:=ZEo (ZsL x) (ZEI (n:=Bw) (by decide) hx);have h2:=ZEo (ZsL y) (ZEI (n:=Bw) (by decide) hy);rw[ZEJ];have:=ZEz (Bw ^ n) (show 2≤Bw by decide);omega
theorem ZBt (x y:Int) (hx:Wl 50000 x) (hy:Wl 50000 y):Zsy (bg x) (bg y)=some (bg (x+y)):=by
 unfold Wl at hx hy;unfold Zsy;have h1:=ZyC hx hy;rw[ZqL,ZqL,Zv6,Zv6];have opp:decide (x < 0)≠decide (y < 0)→Zoo (iL (wd x.natAbs)) (iL (wd y.natAbs))=some (Zxr x.natAbs y.natAbs):=fun _=>ZwB _ _ (by omega) (by omega)
 by_cases hs:decide (x < 0)=decide (y < 0)
 ·rw[hs,beq_self_eq_true,cond_true,ZAz _ _ (by omega) (by omega),ZEP,Zsm _ _ (by omega),ZEP];congr 2
  by_cases hy0:y < 0
  ·have hx0:x < 0:=by rw[decide_eq_true hy0]at hs;exact of_decide_eq_true hs
   rw[decide_eq_true hy0,if_pos rfl];omega
  ·have hx0:¬x < 0:=by rw[decide_eq_false hy0]at hs;exact of_decide_eq_false hs
   rw[decide_eq_false hy0,if_neg (by decide)];omega
 ·rw[beq_eq_false_iff_ne.2 hs,cond_false,opp hs,ZEP];rcases ZEp x.natAbs y.natAbs with hlt |hge
  ·have:=ZrG (Nat.sub_le y.natAbs x.natAbs);rw[Zuu hlt,decide_eq_false (by omega),cond_false,Zya _ _ (by omega) (by omega),ZEP,Zsm _ _ (by omega),ZEP];congr 2
   by_cases hy0:y < 0
   ·have hx0:¬x < 0:=fun h=>hs (by rw[decide_eq_true hy0,decide_eq_true h])
    rw[decide_eq_true hy0,if_pos rfl];omega
   ·have hx0:x < 0:=Decidable.byContradiction fun h=>hs (by rw[decide_eq_false hy0,decide_eq_false h])
    rw[decide_eq_false hy0,if_neg (by decide)];omega
  ·have hn:Zxr x.natAbs y.natAbs≥0:=by
    rcases ZEp y.natAbs x.natAbs with h |h
    ·rw[Zt8 h];decide
    ·rw[show x.natAbs=y.natAbs by omega,Zun];decide
   have:=ZrG (Nat.sub_le x.natAbs y.natAbs);rw[decide_eq_true hn,cond_true,Zya _ _ hge (by omega),ZEP,Zsm _ _ (by omega),ZEP];congr 2
   by_cases hx0:x < 0
   ·have hy0:¬y < 0:=fun h=>hs (by rw[decide_eq_true hx0,decide_eq_true h])
    rw[decide_eq_true hx0,if_pos rfl];omega
   ·have hy0:y < 0:=Decidable.byContradiction fun h=>hs (by rw[decide_eq_false hx0,decide_eq_false h])
    rw[decide_eq_false hx0,if_neg (by decide)];omega
end Go.Proofs
namespace Go.Proofs
open Go Eng
def fOf (q:Rat):ZnB:=⟨bg q.num,bg (q.den:Int)⟩
theorem ZxX {x n:Nat} (g:Nat) (h:(wd x).length≤n):(wd (x / g)).length≤n:=ZEn (ZrG (Nat.div_le_self x g)) h
theorem ZyA {x y n:Nat} (hy:0 < y) (h:(wd y).length≤n):(wd (ZEm x y)).length≤n:=ZEn (ZrG (Nat.gcd_le_right x hy)) h
theorem Zvj (x y:Int) (hy:y≠0) (hx1:Wl 50000 x) (hy1:Wl 50000 y):ZoU (bg x) (bg y)=some (fOf (Rat.divInt x y)):=by
 have hy0:0 < y.natAbs:=by omega
 have hg0:ZEm x.natAbs y.natAbs≠0:=fun e=>by have:=Nat.gcd_pos_of_pos_right x.natAbs hy0;omega
 have hgl:=ZyA (x:=x.natAbs) hy0 hy1;have hxl:=ZxX (ZEm x.natAbs y.natAbs) hx1;have hyl:=ZxX (ZEm x.natAbs y.natAbs) hy1;unfold ZoU;rw[ZqL,ZqL,ZwZ _ _ hx1 hy1,ZEP,Zwx _ _ hg0 hx1 hgl,ZEP];dsimp only;rw[Zwx _ _ hg0 hy1 hgl,ZEP];dsimp only;rw[Zsm _ _ (by omega),ZEP,Zsm _ _ (by omega),ZEP,Zv6,Zv6];unfold fOf;rw[Rat.num_divInt,Rat.den_divInt,if_neg hy];have eg:Int.gcd y x=ZEm x.natAbs y.natAbs:=by rw[Int.gcd_comm];rfl
 rw[eg];have key:(if (!(decide (x < 0) == decide (y < 0)))=true then -((x.natAbs / ZEm x.natAbs y.natAbs:Nat):Int)else ((x.natAbs / ZEm x.natAbs y.natAbs:Nat):Int))=y.sign*x / (ZEm x.natAbs y.natAbs:Int):=by
  obtain⟨k,hk⟩:=Nat.gcd_dvd_left x.natAbs y.natAbs;generalize ZEm x.natAbs y.natAbs=g at*
  have hgp:0 < g:=by omega
  have e1:x.natAbs / g=k:=by rw[hk,Nat.mul_div_cancel_left _ hgp]
  have e2:((g:Int)*(k:Int)) / (g:Int)=k:=Int.mul_ediv_cancel_left _ (by omega);have e3:(-((g:Int)*(k:Int))) / (g:Int)= -k:=by rw[←Int.mul_neg,Int.mul_ediv_cancel_left _ (by omega)]
  have hk':((x.natAbs:Nat):Int)=(g:Int)*(k:Int):=by rw[hk];norm_cast
  rw[e1]
  by_cases hx0:x < 0<;>by_cases hy0:y < 0
  ·rw[decide_eq_true hx0,decide_eq_true hy0,if_neg (by decide),Int.sign_eq_neg_one_of_neg hy0,show -1*x=(g:Int)*k by omega,e2]
  ·rw[decide_eq_true hx0,decide_eq_false hy0,if_pos (by decide),Int.sign_eq_one_of_pos (by omega),show 1*x= -((g:Int)*k) by omega,e3]
  ·rw[decide_eq_false hx0,decide_eq_true hy0,if_pos (by decide),Int.sign_eq_neg_one_of_neg hy0,show -1*x= -((g:Int)*k) by omega,e3]
  ·rw[decide_eq_false hx0,decide_eq_false hy0,if_neg (by decide),Int.sign_eq_one_of_pos (by omega),show 1*x=(g:Int)*k by omega,e2]
 rw[key,if_neg Bool.false_ne_true]
theorem Zza:∀l:List Int,l.length≤1000→(∀z∈l,Wl 256 z)→Zsb (l.map bg)=some true:=fun l hl h=>by
 refine Zqg ?_;unfold Zsb;rw[ZnH,List.length_map];refine Zn7 (Zsz ZvM l.length (by omega) (fun i (_:Unit)=>(l.map bg,(l.length:Int),i)) (fun _ _=>True) (Q:=fun r=>r= .brk ()) () trivial ?_ ?_) ?_
 ·rintro rec i ⟨⟩ hi _ ih;unfold Ztp Zr1;dsimp only;rw[Zob];refine⟨fun _=> ?_,fun h=>by have:=of_decide_eq_false h;omega⟩;rw[Zua (by rw[List.length_map];exact hi),ZnH,ZnC,List.getElem_map,Zv7 _ (h _ (List.getElem_mem hi)),ZnH,ZnC];rw[Bool.not_true,cond_false,ZnJ];exact⟨ZnP (by omega),ih () trivial⟩
 ·rintro rec ⟨⟩ _;unfold Ztp Zr1;dsimp only;rw[Zob];refine⟨fun h=>by have:=of_decide_eq_true h;omega,fun _=>ZnC.2 rfl⟩
 ·rintro r rfl;exact ZnC.2 rfl
abbrev Wq (n:Nat) (q:Rat):Prop:=Wl n q.num∧Wl n (q.den:Int)
theorem ZyO:iL (wd 1)=[1]:=by rw[Zwf (by decide),show 1 / Bw=0 from rfl,ZsK];rfl
theorem Zwg (q:Rat) (h:Wq 256 q):ZpF (fOf q)=some true:=by
 unfold ZpF Zqr fOf;have hb:=Zza [q.num,(q.den:Int)] (by simp) (fun z hz=>by
  simp only[ZD8,List.not_mem_nil,or_false]at hz;rcases hz with rfl |rfl
  ·exact h.1
  ·exact h.2)
 have hd:=q.den_nz;have hl:=Zsu (n:=(q.den:Int).natAbs) (by omega);have hn:=h.1;have hdl:=h.2;unfold Wl at hn hdl;dsimp only;rw[show ([bg q.num,bg (q.den:Int)]:List ZnI)=[q.num,(q.den:Int)].map bg from rfl,hb,ZEP,cond_true,ZqL,ZqL,Zol,decide_eq_true (by omega),cond_true,Zv6,decide_eq_false (by omega),Bool.not_false,cond_true,ZwZ _ _ (by omega) (by omega),ZEP];have hc:ZEm q.num.natAbs (q.den:Int).natAbs=1:=q.reduced;have h1:(wd 1).length≤1:=ZuN (by decide);rw[hc,←ZyO,ZwB 1 1 (by omega) (by omega),ZEP,Zun];rfl
end Go.Proofs
