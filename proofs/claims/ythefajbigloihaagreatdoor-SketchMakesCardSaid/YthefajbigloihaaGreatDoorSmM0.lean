/- Plain laws over the specs, part 0. -/
import Derived.Test.YthefajbigloihaaGreatDoorE4
import Derived.Laws.BitsLemmas
import Derived.Laws.Bits64
import Derived.KernelRfl
import Derived.Test.YthefajbigloihaaGreatDoorSmS
set_option linter.unusedVariables false
set_option linter.unusedSimpArgs false
set_option linter.unusedSectionVars false
open Int renaming toNat_natCast→ZLO, natCast_add→ZIO, natCast_mul→ZLN
open List renaming replicate→ZL2, take_of_length_le→ZL6, length_take→ZL0, getElem?_eq_getElem→ZLR, length_append→ZLV, length_replicate→ZLX, set_append_right→ZL3, mem_cons→ZL1, getD_eq_getElem?_getD→ZLQ, length_cons→ZLW, getElem_cons_drop→ZLU, drop_zero→ZLP, length_set→ZLY, length_singleton→ZLZ, take_append_drop→ZL5, set_cons_zero→ZL4, getElem_append_right→ZLT, getElem?_eq_none→ZLS
open Nat renaming mul_add→ZMo, mul_assoc→ZMp, mod_lt→ZMn, mul_comm→ZMq, pow_succ→ZMC, mul_zero→ZMy, add_mul→ZL7, mul_le_mul_right→ZMt, add_zero→ZMa, mul_le_mul_left→ZMs, min_eq_left→ZMk, gcd→ZMf, pow_add→ZMA, one_mul→ZMz, two_pow_pos→ZMF, mod_eq_of_lt→ZMm, div_lt_iff_lt_mul→ZMd, lt_or_ge→ZMi, eq_zero_or_pos→ZMe, mod_add_div→ZMl, div_eq_of_lt→ZMc, le_trans→ZMg, zero_add→ZMH, sub_self→ZME, div_add_mod→ZMb, mul_one→ZMx, lt_trichotomy→ZMj, mul_le_mul→ZMr, mul_left_comm→ZMu, lt_of_lt_of_le→ZMh, pow_le_pow_right→ZMB, add_mul_div_right→ZL8, xor_lt_two_pow→ZMG, shiftRight_xor_distrib→ZMD, mul_lt_mul_of_pos_right→ZMv, mul_mod_mul_right→ZMw, add_mul_mod_self_right→ZL9
open Option renaming bind_some→ZMI
namespace Go.Proofs
open Go Eng
def wp {α:Type} (o:Option α) (Q:α→Prop):Prop:=∃x,o=some x∧Q x
section
variable {α β:Type} {Q:α→Prop}
theorem ZnB {x:α}:wp (some x) Q↔Q x:=⟨fun⟨_,h,q⟩=>by cases h;exact q,fun q=>⟨x,rfl,q⟩⟩
theorem ZG4:wp (none:Option α) Q↔False:=by simp[wp]
theorem ZnC {o:Option β} {f:β→Option α}:wp (o.bind f) Q↔wp o (fun a=>wp (f a) Q):=by
 constructor
 ·rintro⟨x,h,q⟩;obtain⟨a,ha,h⟩:=bind_some h;exact⟨a,ha,x,h,q⟩
 ·rintro⟨a,rfl,x,h,q⟩;exact⟨x,h,q⟩
theorem ZnF {b:Bool} {o:Option α}:wp (chk b o) Q↔b=true∧wp o Q:=by cases b<;>simp[chk,wp]
theorem Zog {b:Bool} {x y:Option α}:wp (bif b then x else y) Q↔(b=true→wp x Q)∧(b=false→wp y Q):=by cases b<;>simp
theorem ZIx {xs:List α} {i:Nat}:wp (xs[i]?) Q↔∃h:i < xs.length,Q xs[i]:=by
 constructor
 ·rintro⟨x,h,q⟩;obtain⟨h1,h2⟩:=List.getElem?_eq_some_iff.1 h;subst h2;exact⟨h1,q⟩
 ·rintro⟨h,q⟩;exact⟨_,ZLR h,q⟩
theorem ZGp {xs:List α} {i:Int}:wp (idx xs i) Q↔0≤i∧∃h:i.toNat < xs.length,Q xs[i.toNat]:=by
 unfold idx;split
 ·rename_i h;rw[ZIx];simp[h]
 ·rename_i h;rw[ZG4];simp[h]
theorem ZnK {R:α→Prop} {o:Option α} (h:wp o Q) (hr:∀x,Q x→R x):wp o R:=by obtain⟨x,h,q⟩:=h;exact⟨x,h,hr x q⟩
theorem Zqz {o:Option α} {x:α} (h:wp o (· =x)):o=some x:=by obtain⟨y,h,rfl⟩:=h;exact h
theorem ZEA (a:Option α):agree a a=a:=by unfold agree;rw[if_pos rfl]
end
theorem ZnJ {n:Int} (h: -9223372036854775808≤n∧n≤9223372036854775807):inK .i64 n=true:=by
 have h0:IntKind.i64.min= -9223372036854775808:=by decide
 have h1:IntKind.i64.max=9223372036854775807:=by decide
 simp only[inK,h0,h1];exact decide_eq_true h
theorem Zyk {n b:Nat} (h:n*(b+1)≤140737488355328):ZiZ n b=true:=decide_eq_true (ZMg (ZMs n (by omega)) h)
theorem wrap_i64 {n:Int} (h: -9223372036854775808≤n∧n≤9223372036854775807):IntKind.wrap .i64 n=n:=by rw[IntKind.wrap_i64];omega
theorem wrap_u8 {n:Int} (h:0≤n∧n≤255):IntKind.wrap .u8 n=n:=by rw[IntKind.wrap_u8];omega
theorem wrap_u64 {n:Int} (h:0≤n∧n≤18446744073709551615):IntKind.wrap .u64 n=n:=by rw[IntKind.wrap_u64];omega
theorem Zpk {n m:Int} (h:0≤n∧n < m):inR n m=true:=decide_eq_true h
theorem ZsO {a b c:Int} (h:0≤a∧a≤b∧b≤c):Zb9 a b c=true:=decide_eq_true h
theorem ZCo {m:Nat} (h:m≤36893488147419103231):m < big:=by rw[big_eq];omega
theorem ZC4 (k:Nat) (h:k≤36893488147419103232):∃n,big=n+k:=⟨36893488147419103232 - k,by rw[big_eq];omega⟩
end Go.Proofs
namespace Go.Proofs
open Go Eng
theorem Zzy {α σ τ X:Type} {f:Nat→σ→Option X} {body:(σ→Option X)→σ→Option X} (hf:∀n s,f (n+1) s=body (f n) s)
  (xs:List α) (hlen:xs.length≤1000000000000000) (st:Int→τ→σ) (P:Nat→τ→Prop) {Q:X→Prop} (t0:τ) (h0:P 0 t0)
  (step:∀(rec:σ→Option X) (k:Nat) t (h:k < xs.length),P k t→(∀t',P (k+1) t'→wp (rec (st ((k:Int)+1) t')) Q)→wp (body rec (st (k:Int) t)) Q)
  (fin:∀(rec:σ→Option X) t,P xs.length t→wp (body rec (st (xs.length:Int) t)) Q):wp (f big (st 0 t0)) Q:=by
 have key:∀(n k:Nat) t,k≤xs.length→P k t→xs.length - k < n→wp (f n (st (k:Int) t)) Q:=by
  intro n
  induction n with
  |zero=>intro k t _ _ h;omega
  |succ n ih=>
   intro k t hk hP hm;rw[hf]
   by_cases hlt:k < xs.length
   ·refine step _ k t hlt hP fun t' h'=> ?_
    exact ih (k+1) t' (by omega) h' (by omega)
   ·have:k=xs.length:=by omega
    subst this;exact fin _ t hP
 exact key big 0 t0 (Nat.zero_le _) h0 (by rw[big_eq];omega)
theorem Zug {σ τ X:Type} {f:Nat→σ→Option X} {body:(σ→Option X)→σ→Option X} (hf:∀n s,f (n+1) s=body (f n) s)
  (m:Nat) (hlen:m≤1000000000000000) (st:Int→τ→σ) (P:Nat→τ→Prop) {Q:X→Prop} (t0:τ) (h0:P 0 t0)
  (step:∀(rec:σ→Option X) (k:Nat) t (h:k < m),P k t→(∀t',P (k+1) t'→wp (rec (st ((k:Int)+1) t')) Q)→wp (body rec (st (k:Int) t)) Q)
  (fin:∀(rec:σ→Option X) t,P m t→wp (body rec (st (m:Int) t)) Q):wp (f big (st 0 t0)) Q:=by
 have e:(ZL2 m ()).length=m:=ZLX;refine Zzy hf (ZL2 m ()) (by omega) st P t0 h0 (fun rec k s h=>step rec k s (by omega)) (fun rec s h=> ?_);rw[e]at h⊢
 exact fin rec s h
theorem ZqA {σ τ X:Type} {f:Nat→σ→Option X} {body:(σ→Option X)→σ→Option X} (hf:∀n s,f (n+1) s=body (f n) s)
  (st:τ→σ) (P:τ→Prop) (m:τ→Nat) {Q:X→Prop} (t0:τ) (h0:P t0) (hm:m t0≤1000000000000000)
  (step:∀(rec:σ→Option X) t,P t→(∀t',P t'→m t' < m t→wp (rec (st t')) Q)→wp (body rec (st t)) Q):wp (f big (st t0)) Q:=by
 have key:∀(n:Nat) t,P t→m t < n→wp (f n (st t)) Q:=by
  intro n
  induction n with
  |zero=>intro t _ h;omega
  |succ n ih=>
   intro t hP hm;rw[hf];exact step _ t hP fun t' h' hlt=>ih t' h' (by omega)
 exact key big t0 h0 (by rw[big_eq];omega)
theorem ZhP {α:Type} {xs:List α} {i:Int} (h0:0≤i) (h:i.toNat < xs.length):idx xs i=some xs[i.toNat]:=by unfold idx;rw[if_pos h0,ZLR h]
theorem ZwV {α:Type} {xs:List α} {k:Nat} (h:k < xs.length):idx xs (k:Int)=some xs[k]:=by rw[ZhP (by omega) (by simpa using h)];simp
theorem Zop {α:Type} {xs:List α} {k:Nat} (h:k < xs.length):inR (k:Int) (xs.length:Int)=true:=Zpk ⟨by omega,by omega⟩
end Go.Proofs
namespace Go.Proofs
open Go Eng
theorem ZEZ (n:Int) {m:Int} (h:1≤m∧m≤1000000):wp (ZrD n m) (fun r=>0≤r∧r < m):=by have ha: -m < Int.tmod n m∧Int.tmod n m < m:=⟨Int.lt_tmod_of_pos n (by omega),Int.tmod_lt_of_pos n (by omega)⟩;unfold ZrD;have h3:decide (m < 1)=false:=decide_eq_false (by omega);have h4:decide (m≠0)=true:=decide_eq_true (by omega);rw[h3,cond_false,ZnF,ZnF,ZnF,ZnB];exact⟨h4,ZnJ (by omega),h4,Int.tmod_nonneg _ (by omega),Int.tmod_lt_of_pos _ (by omega)⟩
def ZAe (d:ZnI):Prop:=0≤d.at_∧d.at_≤d.l.length∧d.l.length≤500
theorem ZBE {d:ZnI} (hd:ZAe d) {n:Int} (hn:1≤n∧n≤1000000):wp (Zon d n) (fun r=>(0≤r.1∧r.1 < n)∧ZAe r.2):=by
 unfold Zon;have hd0:=hd;obtain⟨h0,h1,h2⟩:=hd0;rw[Zog];refine⟨fun h=> ?_,fun h=> ?_⟩
 ·rw[ZnB];exact⟨by simp only;omega,hd⟩
 ·simp only[decide_eq_false_iff_not]at h;simp only[ZnF,ZnC,ZGp,ZnB];refine⟨ZnJ (by omega),ZnJ (by omega),by omega,by omega,ZnK (ZEZ _ hn) fun r hr=>⟨hr, ?_⟩⟩;simp only[ZAe];omega
end Go.Proofs
namespace Go.Proofs
open Go Eng
theorem Zzk (w a:Nat) (h:a < 2 ^ w):(BitVec.ofInt w (a:Int)).toNat=a:=by rw[BitVec.toNat_ofInt];have:((a:Int) % ((2 ^ w:Nat):Int))=(a:Int):=Int.emod_eq_of_lt (by omega) (by exact_mod_cast h);rw[this];simp
theorem ZC5 {a b:Nat} (ha:a < 4294967296) (hb:b < 4294967296):andK .u32 (a:Int) (b:Int)=((a&&& b:Nat):Int):=by unfold andK;rw[show IntKind.bits .u32=32 from rfl,BitVec.toNat_and,Zzk 32 a ha,Zzk 32 b hb,IntKind.wrap_u32];have:=Nat.and_lt_two_pow (n:=32) a hb;omega
theorem ZDk {a b:Nat} (ha:a < 4294967296) (hb:b < 4294967296):orK .u32 (a:Int) (b:Int)=((a|||b:Nat):Int):=by unfold orK;rw[show IntKind.bits .u32=32 from rfl,BitVec.toNat_or,Zzk 32 a ha,Zzk 32 b hb,IntKind.wrap_u32];have:=Nat.or_lt_two_pow (n:=32) ha hb;omega
theorem ZDA {a b:Nat} (ha:a < 4294967296) (hb:b < 4294967296):xorK .u32 (a:Int) (b:Int)=((a ^^^ b:Nat):Int):=by unfold xorK;rw[show IntKind.bits .u32=32 from rfl,BitVec.toNat_xor,Zzk 32 a ha,Zzk 32 b hb,IntKind.wrap_u32];have:=ZMG (n:=32) ha hb;omega
theorem ZIS {a b:Nat} (ha:a < 18446744073709551616) (hb:b < 18446744073709551616):orK .u64 (a:Int) (b:Int)=((a|||b:Nat):Int):=by unfold orK;rw[show IntKind.bits .u64=64 from rfl,BitVec.toNat_or,Zzk 64 a ha,Zzk 64 b hb,IntKind.wrap_u64];have:=Nat.or_lt_two_pow (n:=64) ha hb;omega
theorem ZAD {a:Nat} (k:Nat) (hk:k≤64):shrK .u64 (a:Int) (k:Int)=((a / 2 ^ k:Nat):Int):=by
 unfold shrK;rw[show IntKind.bits .u64=64 from rfl,ZLO,ZMk hk,Int.fdiv_eq_ediv_of_nonneg _ (Int.le_of_lt (Int.pow_pos (by decide)))]
 norm_cast
theorem ZBh {a:Nat} (k:Nat) (hk:k≤32):shrK .u32 (a:Int) (k:Int)=((a / 2 ^ k:Nat):Int):=by
 unfold shrK;rw[show IntKind.bits .u32=32 from rfl,ZLO,ZMk hk,Int.fdiv_eq_ediv_of_nonneg _ (Int.le_of_lt (Int.pow_pos (by decide)))]
 norm_cast
theorem Zwr (a:Nat):IntKind.wrap .u32 (a:Int)=((a % 4294967296:Nat):Int):=by rw[IntKind.wrap_u32];omega
theorem Zo8 {a:Nat} (h:a < 18446744073709551616):IntKind.wrap .u64 (a:Int)=(a:Int):=by rw[IntKind.wrap_u64];omega
theorem ZwW {a:Nat} (h:a < 4294967296):IntKind.wrap .u32 (a:Int)=(a:Int):=by rw[IntKind.wrap_u32];omega
theorem ZJt {a b c:Nat} (ha:a < 4294967296) (hb:b < 4294967296) (hc:c≤1):ZuW (a:Int) (b:Int) (c:Int)=some ((((a+b+c) % 4294967296:Nat):Int),(((a+b+c) / 4294967296:Nat):Int)):=by
 unfold ZuW;have e:IntKind.wrap .u64 ((IntKind.wrap .u64 ((IntKind.wrap .u64 (a:Int))+(IntKind.wrap .u64 (b:Int))))+(IntKind.wrap .u64 (c:Int)))=((a+b+c:Nat):Int):=by rw[Zo8 (by omega),Zo8 (by omega),Zo8 (by omega),←ZIO,Zo8 (by omega),←ZIO,Zo8 (by omega)]
 rw[e,show (32:Int)=((32:Nat):Int)from rfl,ZAD 32 (by omega),Zwr,ZwW (a:=(a+b+c) / 2 ^ 32) (by omega)];rfl
theorem ZHO {a:Nat} (h:a < 4294967296):(a >>> 31=0∧a < 2147483648)∨(a >>> 31=1∧2147483648≤a):=by rw[Nat.shiftRight_eq_div_pow];omega
theorem ZHa {a b c:Nat} (ha:a < 4294967296) (hb:b < 4294967296) (hc:c≤1):ZtP (a:Int) (b:Int) (c:Int)=some ((((a+4294967296 - b - c) % 4294967296:Nat):Int),((if a < b+c then 1 else 0:Nat):Int)):=by
 unfold ZtP;have hM:(if IntKind.signed .u32 then (-1:Int)else IntKind.max .u32)=((4294967295:Nat):Int):=rfl;have e:IntKind.wrap .u32 ((IntKind.wrap .u32 ((a:Int) - (b:Int))) - (c:Int))=(((a+4294967296 - b - c) % 4294967296:Nat):Int):=by rw[IntKind.wrap_u32,IntKind.wrap_u32];omega
 have hD:(a+4294967296 - b - c) % 4294967296 < 4294967296:=ZMn _ (by decide);rw[hM,e];generalize hd:(a+4294967296 - b - c) % 4294967296=D at hD⊢
 have h1:a ^^^ b < 4294967296:=ZMG (n:=32) ha hb;have h2:4294967295 ^^^ a < 4294967296:=ZMG (n:=32) (by decide) ha;have h3:4294967295 ^^^ (a ^^^ b) < 4294967296:=ZMG (n:=32) (by decide) h1;have h4:(4294967295 ^^^ a)&&& b < 4294967296:=Nat.and_lt_two_pow (n:=32) _ hb;have h5:(4294967295 ^^^ (a ^^^ b))&&& D < 4294967296:=Nat.and_lt_two_pow (n:=32) _ hD;rw[ZDA (by decide) ha,ZDA ha hb,ZDA (by decide) h1,ZC5 h2 hb,ZC5 h3 hD,ZDk h4 h5,show (31:Int)=((31:Nat):Int)from rfl,ZBh 31 (by omega)];rw[←Nat.shiftRight_eq_div_pow,Nat.shiftRight_or_distrib,Nat.shiftRight_and_distrib,Nat.shiftRight_and_distrib,ZMD,ZMD,ZMD];have hm:(4294967295:Nat) >>> 31=1:=by decide
 rw[hm];have key:(1 ^^^ a >>> 31)&&& b >>> 31|||(1 ^^^ (a >>> 31 ^^^ b >>> 31))&&& D >>> 31=if a < b+c then 1 else 0:=by rcases ZHO ha with ⟨qa,pa⟩ |⟨qa,pa⟩<;>rcases ZHO hb with ⟨qb,pb⟩ |⟨qb,pb⟩<;>rcases ZHO hD with ⟨qd,pd⟩ |⟨qd,pd⟩<;>rw[qa,qb,qd]<;>split<;>first |rfl |(exfalso;omega)
 rw[key];rfl
theorem ZDr {h l:Nat} (hh:h < 4294967296) (hl:l < 4294967296):orK .u64 (shlK .u64 (IntKind.wrap .u64 (h:Int)) 32) (IntKind.wrap .u64 (l:Int))=((h*4294967296+l:Nat):Int):=by
 have e1:shlK .u64 (IntKind.wrap .u64 (h:Int)) 32=((h*4294967296:Nat):Int):=by unfold shlK;rw[Zo8 (by omega),show min (32:Int).toNat (IntKind.bits .u64)=32 from by decide,IntKind.wrap_u64];omega
 rw[e1,Zo8 (by omega),ZIS (by omega) (by omega)];have:=Nat.shiftLeft_add_eq_or_of_lt (i:=32) (b:=l) (by omega) h;simp only[Nat.shiftLeft_eq,Nat.reducePow]at this;omega
theorem ZLa {h l y:Nat} (hy:h < y) (hl:l < 4294967296) (hy2:y < 4294967296):ZwA (h:Int) (l:Int) (y:Int)=some ((((h*4294967296+l) / y:Nat):Int),(((h*4294967296+l) % y:Nat):Int)):=by
 have hle:¬((y:Int)≤(h:Int)):=by omega
 have hq:(h*4294967296+l) / y < 4294967296:=(ZMd (by omega)).2 (by
  have:(h+1)*4294967296≤y*4294967296:=ZMt _ hy;omega)
 have hr:(h*4294967296+l) % y < y:=ZMn _ (by omega);have hj:Zuv (h:Int) (l:Int) (y:Int) false=some ((((h*4294967296+l) / y:Nat):Int),(((h*4294967296+l) % y:Nat):Int)):=by
  unfold Zuv;rw[cond_false,ZDr (by omega) hl,Zo8 (by omega)];have hne:decide ((y:Int)≠0)=true:=decide_eq_true (by omega);rw[hne,chk_true,chk_true];have e1:Int.tdiv ((h*4294967296+l:Nat):Int) (y:Int)=(((h*4294967296+l) / y:Nat):Int):=by rw[Int.tdiv_eq_ediv_of_nonneg (by omega)];norm_cast
  have e2:Int.tmod ((h*4294967296+l:Nat):Int) (y:Int)=(((h*4294967296+l) % y:Nat):Int):=by rw[Int.tmod_eq_emod_of_nonneg (by omega)];norm_cast
  rw[e1,e2,Zo8 (by omega),ZwW hq,ZwW (by omega)];rfl
 unfold ZwA;rw[decide_eq_false hle,hj];cases ((y:Int) != 0)<;>rfl
def ZKw:List Int:=[0,1,2,2,3,3,3,3,4,4,4,4,4,4,4,4]++ZL2 16 5++ZL2 32 6++ZL2 64 7++ZL2 128 8
theorem ZF4:Ztk=fun x n=>(idx (ZKw.map fun n=>UInt8.ofNat n.toNat) (IntKind.wrap .u8 x)).bind fun c=>
 chk (inK .i64 (n+(IntKind.wrap .i64 ((c.toNat:Nat):Int)))) <|
 some (n+(IntKind.wrap .i64 ((c.toNat:Nat):Int))):=by kernel_rfl
theorem ZF5:((List.range 256).all fun v=>match (ZKw.map fun n=>UInt8.ofNat n.toNat)[v]? with |some c=>decide (v < 2 ^ c.toNat∧2 ^ c.toNat≤2*v+(if v=0 then 1 else 0)∧c.toNat≤8) |none=>false)=true:=by kernel_rfl
theorem ZF3 {v:Nat} (h:v < 256):∃c:UInt8,(ZKw.map fun n=>UInt8.ofNat n.toNat)[v]? =some c∧v < 2 ^ c.toNat∧(v≠0→2 ^ c.toNat≤2*v)∧c.toNat≤8:=by have:=List.all_eq_true.1 ZF5 v (List.mem_range.2 h);split at this;rotate_left;simp at this;rename_i c hc;obtain⟨h1,h2,h3⟩:=of_decide_eq_true this;refine⟨c,hc,h1,fun h0=> ?_,h3⟩;rw[if_neg h0]at h2;omega
theorem ZF6 {v:Nat} (h:v < 256) (n:Nat) (hn:n≤100):∃k:Nat,Ztk (v:Int) (n:Int)=some (((n+k:Nat):Int))∧v < 2 ^ k∧(v≠0→2 ^ k≤2*v)∧k≤8:=by
 obtain⟨c,hc,h1,h2,h3⟩:=ZF3 h;refine⟨c.toNat, ?_,h1,h2,h3⟩;have e:idx (ZKw.map fun n=>UInt8.ofNat n.toNat) (IntKind.wrap .u8 (v:Int))=some c:=by rw[IntKind.wrap_u8,show (v:Int) % 256=(v:Int) by omega];unfold idx;rw[if_pos (by omega),ZLO,hc]
 rw[ZF4];dsimp only;rw[e,ZMI,wrap_i64 (by omega),ZnJ (by omega),chk_true]
 norm_cast
theorem ZIW {x:Nat} (h0:x≠0) (h:x < 4294967296):∃s:Nat,s≤31∧ZrC (x:Int)=some (s:Int)∧2147483648≤x*2 ^ s∧x*2 ^ s < 4294967296:=by
 have key:∃k:Nat,Zwz (x:Int)=some (k:Int)∧x < 2 ^ k∧2 ^ k≤2*x∧k≤32:=by
  unfold Zwz Zwl;have d16:shrK .u32 (x:Int) 16=((x / 65536:Nat):Int):=ZBh 16 (by omega);have fin:∀(n v:Nat),n≤24→v < 256→v≠0→x / 2 ^ n=v→∃k:Nat,Ztk (v:Int) (n:Int)=some (k:Int)∧x < 2 ^ k∧2 ^ k≤2*x∧k≤32:=fun n v hn hv hv0 hx=>by
   obtain⟨k,q1,q2,q3,q4⟩:=ZF6 hv n (by omega);refine⟨n+k,q1, ?_, ?_,by omega⟩
   ·rw[ZMA,ZMq];exact(ZMd (ZMF n)).1 (by omega)
   ·rw[ZMA];have h1:2 ^ n*v≤x:=by rw[←hx];exact Nat.mul_div_le x (2 ^ n)
    have h2:2 ^ n*2 ^ k≤2 ^ n*(2*v):=ZMs _ (q3 hv0);have h3:2 ^ n*(2*v)=2*(2 ^ n*v):=by rw[ZMu]
    omega
  by_cases c1:65536≤x
  ·rw[decide_eq_true (by omega:(x:Int)≥65536),cond_true,d16];show ∃k:Nat,(bif decide (((x / 65536:Nat):Int)≥256)then _ else _)=_∧_
   by_cases c2:256≤x / 65536
   ·rw[decide_eq_true (by omega:((x / 65536:Nat):Int)≥256),cond_true];have d8:shrK .u32 ((x / 65536:Nat):Int) 8=((x / 65536 / 256:Nat):Int):=ZBh 8 (by omega);rw[d8];exact fin 24 (x / 65536 / 256) (by omega) (by omega) (by omega) (by omega)
   ·rw[decide_eq_false (by omega:¬((x / 65536:Nat):Int)≥256),cond_false];exact fin 16 (x / 65536) (by omega) (by omega) (by omega) (by omega)
  ·rw[decide_eq_false (by omega:¬(x:Int)≥65536),cond_false]
   by_cases c2:256≤x
   ·rw[decide_eq_true (by omega:(x:Int)≥256),cond_true];have d8:shrK .u32 (x:Int) 8=((x / 256:Nat):Int):=ZBh 8 (by omega);rw[d8];exact fin 8 (x / 256) (by omega) (by omega) (by omega) (by omega)
   ·rw[decide_eq_false (by omega:¬(x:Int)≥256),cond_false];exact fin 0 x (by omega) (by omega) h0 (by omega)
 obtain⟨k,hk,h1,h2,h3⟩:=key;have hk1:1≤k:=by
  rcases ZMe k with rfl |hp
  ·simp at h1;omega
  ·exact hp
 refine⟨32 - k,by omega, ?_, ?_, ?_⟩
 ·unfold ZrC;rw[hk,ZMI,ZnJ (by omega),chk_true,show (32:Int) - (k:Int)=((32 - k:Nat):Int) by omega]
 ·have e:2 ^ k*2 ^ (32 - k)=4294967296:=by rw[←ZMA,show k+(32 - k)=32 by omega]
  have:2 ^ k*2 ^ (32 - k)≤2*x*2 ^ (32 - k):=ZMt _ h2;rw[ZMp]at this;omega
 ·have e:2 ^ k*2 ^ (32 - k)=4294967296:=by rw[←ZMA,show k+(32 - k)=32 by omega]
  have:x*2 ^ (32 - k) < 2 ^ k*2 ^ (32 - k):=ZMv h1 (ZMF _);omega
end Go.Proofs
namespace Go.Proofs
open Go Eng
def iL (l:List Nat):List Int:=l.map fun(n:Nat)=>(n:Int)
theorem Zol (l:List Nat):(iL l).length=l.length:=by unfold iL;simp
theorem ZCj (a b:List Nat):iL (a++b)=iL a++iL b:=by unfold iL;simp
theorem ZI5:iL []=[]:=rfl
theorem ZA4 {l:List Nat} {i:Nat} (h:i < l.length):(iL l)[i]? =some (l[i]:Int):=by unfold iL;simp[h]
theorem ZvT {l:List Nat} {i:Nat} (h:i < l.length):idx (iL l) (i:Int)=some (l[i]:Int):=by unfold idx;rw[if_pos (by omega),ZLO,ZA4 h]
theorem ZAl (l:List Nat) (i x:Nat):(iL l).set i (x:Int)=iL (l.set i x):=by unfold iL;rw[List.map_set]
theorem ZDL (l:List Nat) (i:Nat):(iL l).take i=iL (l.take i):=by unfold iL;rw[List.map_take]
theorem ZCi (n:Nat):ZL2 n (0:Int)=iL (ZL2 n 0):=by unfold iL;rw[List.map_replicate];rfl
abbrev Bw:Nat:=4294967296
def val:List Nat→Nat
 | []=>0
 |d::r=>d+Bw*val r
def Dg (l:List Nat):Prop:=∀d∈l,d < Bw
theorem Dg.app {a b:List Nat} (ha:Dg a) (hb:Dg b):Dg (a++b):=fun d hd=>(List.mem_append.1 hd).elim (ha d) (hb d)
theorem ZA6:Dg []:=fun _ h=>by simp at h
theorem ZAA {x:Nat} (h:x < Bw):Dg [x]:=fun d hd=>by simp only[List.mem_singleton]at hd;subst hd;exact h
theorem ZFi (n:Nat):Dg (ZL2 n 0):=fun d hd=>by rw[List.mem_replicate]at hd;rw[hd.2];decide
theorem Dg.take {a:List Nat} (h:Dg a) (k:Nat):Dg (a.take k):=fun d hd=>h d (List.mem_of_mem_take hd)
theorem Dg.drop {a:List Nat} (h:Dg a) (k:Nat):Dg (a.drop k):=fun d hd=>h d (List.mem_of_mem_drop hd)
theorem Dg.set {a:List Nat} (h:Dg a) (i:Nat) {x:Nat} (hx:x < Bw):Dg (a.set i x):=fun d hd=>by
 rcases List.mem_or_eq_of_mem_set hd with h1 |h1
 ·exact h d h1
 ·rw[h1];exact hx
theorem Dg.get {a:List Nat} (h:Dg a) {i:Nat} (hi:i < a.length):a[i] < Bw:=h _ (List.getElem_mem hi)
theorem ZAr:∀a b:List Nat,val (a++b)=val a+Bw ^ a.length*val b
 | [],b=>by simp[val]
 |d::a,b=>by simp only[List.cons_append,val,ZAr a b,ZLW,ZMC,ZMo];rw[ZMq (Bw ^ a.length) Bw,ZMp];omega
theorem Zxi (a:List Nat) (x:Nat):val (a++[x])=val a+Bw ^ a.length*x:=by rw[ZAr];simp[val]
theorem Zx9:∀{l:List Nat},Dg l→val l < Bw ^ l.length
 | [],_=>by simp[val]
 |d::r,h=>by
  have h1:=h d (by simp);have h2:=Zx9 (l:=r) fun x hx=>h x (by simp[hx])
  simp only[val,ZLW,ZMC];have:Bw*(val r+1)≤Bw*Bw ^ r.length:=ZMs _ h2;rw[ZMq (Bw ^ r.length) Bw];rw[ZMo,ZMx]at this;exact ZMh (by omega) this
theorem ZDB (n:Nat):val (ZL2 n 0)=0:=by
 induction n with
 |zero=>rfl
 |succ n ih=>rw[List.replicate_succ,val,ih,ZMy]
theorem ZoQ {l:List Nat} {k:Nat} (h:k < l.length):val (l.take (k+1))=val (l.take k)+Bw ^ k*l[k]:=by rw[List.take_succ_eq_append_getElem h,Zxi,ZL0,ZMk (by omega)]
def wd (n:Nat):List Nat:=if h:n=0 then []else n % Bw::wd (n / Bw)
termination_by n
decreasing_by exact Nat.div_lt_self (Nat.pos_of_ne_zero h) (by decide)
theorem Zxg:wd 0=[]:=by unfold wd;simp
theorem ZBm {n:Nat} (h:n≠0):wd n=n % Bw::wd (n / Bw):=by rw[wd,dif_neg h]
theorem ZwX (n:Nat):Dg (wd n):=by
 induction n using Nat.strongRecOn with
 |ind n ih=>
  by_cases h:n=0
  ·rw[h,Zxg];exact ZA6
  ·rw[ZBm h];intro d hd;rcases ZL1.1 hd with rfl |hd
   ·exact ZMn _ (by decide)
   ·exact ih (n / Bw) (Nat.div_lt_self (Nat.pos_of_ne_zero h) (by decide)) d hd
theorem ZtU (n:Nat):val (wd n)=n:=by
 induction n using Nat.strongRecOn with
 |ind n ih=>
  by_cases h:n=0
  ·rw[h,Zxg];rfl
  ·rw[ZBm h,val,ih (n / Bw) (Nat.div_lt_self (Nat.pos_of_ne_zero h) (by decide))];exact ZMl n Bw
theorem Zy6 {n k:Nat} (h:n < Bw ^ k):(wd n).length≤k:=by
 induction k generalizing n with
 |zero=>
  have:n=0:=by simpa using h
  rw[this,Zxg];simp
 |succ k ih=>
  by_cases h0:n=0
  ·rw[h0,Zxg];simp
  ·rw[ZBm h0,ZLW];have:n / Bw < Bw ^ k:=(ZMd (by decide)).2 (by rw[←ZMC];exact h);have:=ih this;omega
theorem Zws {n:Nat} (h:n≠0):0 < (wd n).length:=by rw[ZBm h];simp
theorem ZIz {n:Nat}:wd n=[]↔n=0:=⟨fun h=>by have:=ZtU n;rw[h]at this;exact this.symm,fun h=>by rw[h,Zxg]⟩
theorem ZxD (n:Nat):n < Bw ^ (wd n).length:=by have:=Zx9 (ZwX n);rwa [ZtU]at this
def ZDd (l:List Nat):List Nat:=(l.reverse.dropWhile (· == 0)).reverse
theorem ZCv (l:List Nat) (x:Nat):ZDd (l++[x])=if x=0 then ZDd l else l++[x]:=by
 unfold ZDd;rw[List.reverse_append,List.reverse_singleton,List.singleton_append,List.dropWhile_cons]
 by_cases h:x=0
 ·simp[h]
 ·simp[h]
theorem ZDS:∀{l:List Nat} {x:Nat},Dg (l++[x])→x≠0→wd (val (l++[x]))=l++[x]
 | [],x,h,hx=>by have h1:x < Bw:=h x (by simp);simp only[List.nil_append,val,ZMy,ZMa];rw[ZBm hx,ZMm h1,ZMc h1,Zxg]
 |d::l,x,h,hx=>by
  have h1:d < Bw:=h d (by simp);have ih:=ZDS (l:=l) (x:=x) (fun y hy=>h y (by simp only[List.cons_append,ZL1];exact .inr hy)) hx;have hne:val (l++[x])≠0:=fun e=>by rw[e,Zxg]at ih;simp at ih
  simp only[List.cons_append,val];rw[ZBm (by simp only[Bw];omega),Nat.add_mul_mod_self_left,ZMm h1,Nat.add_mul_div_left _ _ (by decide),ZMc h1,ZMH,ih]
theorem ZDV:∀(n:Nat) {l:List Nat},l.length=n→Dg l→ZDd l=wd (val l)
 |0,l,hl,_=>by rw[List.eq_nil_of_length_eq_zero hl];simp[ZDd,val,Zxg]
 |n+1,l,hl,h=>by
  rcases List.eq_nil_or_concat l with rfl |⟨v,x,rfl⟩
  ·simp at hl
  ·rw[List.concat_eq_append]at hl h⊢
   rw[ZCv];split
   ·rename_i h0;subst h0;rw[ZDV n (by simpa using hl) (fun d hd=>h d (by simp[hd])),Zxi,ZMy,ZMa]
   ·rename_i h0;exact(ZDS h h0).symm
theorem ZAC {l:List Nat} (h:Dg l) (hl:l.length≤1000000):ZoD (iL l)=some (iL (wd (val l))):=by
 rw[←ZDV _ rfl h];refine Zqz ?_;unfold ZoD ZxS;rw[ZnC];refine ZnK (ZqA ZAu (fun(w:List Nat)=>iL w) (fun w=>ZDd w=ZDd l∧w.length≤1000000) List.length (Q:=fun x=>x=iL (ZDd l)) l ⟨rfl,hl⟩ (by omega) ?_) (fun x hx=>by rw[ZnB];exact hx);rintro rec w ⟨hw,hwl⟩ ih;unfold ZyL ZuM ZvM;rcases List.eq_nil_or_concat w with rfl |⟨v,x,rfl⟩
 ·show wp (some (iL [])) _;rw[ZnB,←hw];rfl
 ·rw[List.concat_eq_append]at hw hwl⊢
  rw[ZCv]at hw;have hlen:(iL (v++[x])).length=v.length+1:=by rw[Zol];simp
  rw[Zog];refine⟨fun _=> ?_,fun h=>by simp only[decide_eq_false_iff_not]at h;omega⟩;have ei:((iL (v++[x])).length:Int) - 1=(v.length:Int):=by rw[hlen];omega
  have hx:(v++[x])[v.length]'(by simp)=x:=by simp
  rw[ei,ZnF,ZnC,ZvT (by simp),ZnB,hx,Zog];refine⟨ZnJ (by simp at hwl;omega),fun h=> ?_,fun h=> ?_⟩
  ·have h0:x=0:=by have:=eq_of_beq h;omega
   rw[if_pos h0]at hw;rw[ZnF,ZnF];refine⟨ZnJ (by simp at hwl;omega),ZsO (by omega), ?_⟩;have:(iL (v++[x])).take ((v.length:Int)).toNat=iL v:=by rw[ZDL,ZLO];simp
   rw[this];exact ih v ⟨hw,by simp at hwl;omega⟩ (by simp)
  ·have h0:x≠0:=by intro e;subst e;simp at h
   rw[if_neg h0]at hw;rw[ZnB,←hw]
theorem ZHS (l:List Nat) (i:Nat):Zsn (iL l) (i:Int)=some ((l.getD i 0:Nat):Int):=by
 unfold Zsn;rw[Zol]
 by_cases h:i < l.length
 ·rw[decide_eq_true (by omega),cond_true,ZvT h,ZMI,ZLQ,ZLR h];rfl
 ·rw[decide_eq_false (by omega),cond_false,ZLQ,ZLS (by omega)];rfl
theorem ZBk {l:List Nat} (h:Dg l) (i:Nat):l.getD i 0 < Bw:=by
 rw[ZLQ]
 by_cases hi:i < l.length
 ·rw[ZLR hi];exact h.get hi
 ·rw[ZLS (by omega)];decide
theorem Zx4 (l:List Nat) (k:Nat):val (l.take (k+1))=val (l.take k)+Bw ^ k*l.getD k 0:=by
 rw[ZLQ]
 by_cases h:k < l.length
 ·rw[ZoQ h,ZLR h];rfl
 ·rw[ZLS (by omega),ZL6 (by omega),ZL6 (by omega)];simp
theorem ZEQ (a b:Nat) (ha:(wd a).length≤100000) (hb:(wd b).length≤100000):Zsx (iL (wd a)) (iL (wd b))=some (iL (wd (a+b))):=by
 obtain⟨m,hm,hma,hmb,hm2⟩:∃m:Nat,(if ((iL (wd b)).length:Int) > ((iL (wd a)).length:Int)then ((iL (wd b)).length:Int)else ((iL (wd a)).length:Int))=(m:Int)∧(wd a).length≤m∧(wd b).length≤m∧m≤100000:=by
  rw[Zol,Zol]
  by_cases h:((wd b).length:Int) > ((wd a).length:Int)
  ·exact⟨(wd b).length,by rw[if_pos h],by omega,by omega,hb⟩
  ·exact⟨(wd a).length,by rw[if_neg h],by omega,by omega,ha⟩
 refine Zqz ?_;unfold Zsx;rw[hm,ZnF,ZnF,ZnC];refine⟨ZnJ (by omega),decide_eq_true (by unfold ZO;omega), ?_⟩;refine ZnK (Zug Zz1 m (by omega) (fun i (s:Nat×List Nat)=>(iL (wd a),iL (wd b),(s.1:Int),(m:Int),i,iL s.2)) (fun i s=>s.1≤1∧s.2.length=i∧Dg s.2∧val s.2+Bw ^ i*s.1=val ((wd a).take i)+val ((wd b).take i))
  (Q:=fun y=>∃(c:Nat) (o:List Nat),y=((c:Int),iL o)∧c≤1∧Dg o∧o.length=m∧val o+Bw ^ m*c=a+b) (0,[]) ⟨by simp,rfl,ZA6,by simp[val]⟩ ?_ ?_) ?_
 ·rintro rec i ⟨c,o⟩ hlt ⟨hc,hl,hd,hv⟩ ih;dsimp only at hc hl hd hv ih;have h1:=ZBk (ZwX a) i;have h2:=ZBk (ZwX b) i;unfold ZvF Zty;dsimp only;rw[Zog];refine⟨fun _=> ?_,fun h=>by simp only[decide_eq_false_iff_not]at h;omega⟩;rw[ZHS,ZnC,ZnB,ZHS,ZnC,ZnB,ZJt h1 h2 hc,ZnC,ZnB];dsimp only;rw[ZnF,ZnF,Zol];refine⟨Zyk (by simp only[ZLZ];omega),ZnJ (by omega), ?_⟩;generalize ex:(wd a).getD i 0=x at h1;generalize ey:(wd b).getD i 0=y at h2;have:=ih ((x+y+c) / Bw,o++[(x+y+c) % Bw]) ⟨?_,by simp[hl],hd.app (ZAA (ZMn _ (by decide))), ?_⟩
  ·rw[ZCj]at this;exact this
  ·simp only[Bw]at h1 h2⊢;omega
  ·dsimp only;rw[Zxi,hl,ZMC,Zx4,Zx4,ex,ey,Nat.add_assoc,ZMp,←ZMo,ZMl,ZMo,ZMo];omega
 ·rintro rec ⟨c,o⟩ ⟨hc,hl,hd,hv⟩;unfold ZvF Zty;dsimp only;rw[Zog];refine⟨fun h=>by simp only[decide_eq_true_eq]at h;omega,fun _=> ?_⟩;rw[ZnB];rw[ZL6 hma,ZL6 hmb,ZtU,ZtU]at hv;exact⟨c,o,rfl,hc,hd,hl,hv⟩
 ·rintro y ⟨c,o,rfl,hc,hd,hl,hv⟩;dsimp only;unfold ZwB;rw[ZnF,Zol];refine⟨Zyk (by simp only[ZLZ];omega), ?_⟩;have e:iL o++[(c:Int)]=iL (o++[c]):=by rw[ZCj];rfl
  rw[e,ZAC (hd.app (ZAA (by unfold Bw;omega))) (by simp;omega),ZnC,ZnB,ZnB,Zxi,hl,hv]
end Go.Proofs
namespace Go.Proofs
open Go Eng
theorem ZBx {σ τ X:Type} {f:Nat→σ→Option X} {body:(σ→Option X)→σ→Option X} (hf:∀n s,f (n+1) s=body (f n) s)
  (m:Nat) (hm:m≤1000000000000000) (st:Int→τ→σ) (P:Nat→τ→Prop) {Q:X→Prop} (t0:τ) (h0:P m t0)
  (step:∀(rec:σ→Option X) k t,k < m→P (k+1) t→(∀t',P k t'→wp (rec (st ((k:Int) - 1) t')) Q)→wp (body rec (st (k:Int) t)) Q)
  (fin:∀(rec:σ→Option X) t,P 0 t→wp (body rec (st (-1) t)) Q):wp (f big (st ((m:Int) - 1) t0)) Q:=by
 have key:∀(n k:Nat) t,k≤m→P k t→k < n→wp (f n (st ((k:Int) - 1) t)) Q:=by
  intro n
  induction n with
  |zero=>intro k t _ _ h;omega
  |succ n ih=>
   intro k t hk hP hn;rw[hf];cases k with
   |zero=>exact fin _ t hP
   |succ k=>
    have e:((k+1:Nat):Int) - 1=(k:Int):=by omega
    rw[e];exact step _ k t (by omega) hP fun t' h'=>ih k t' (by omega) h' (by omega)
 exact key big m t0 (Nat.le_refl _) h0 (ZCo (by omega))
theorem ZAH {n:Nat} (h:n≤1000000):mkOk (n:Int) (n:Int) 4=true:=by unfold mkOk ZO;exact decide_eq_true ⟨by omega,by omega,by omega,by omega⟩
def ZCA (a b:Nat):Int:=if a < b then -1 else if b < a then 1 else 0
theorem ZDx (a b:Nat):ZwF (a:Int) (b:Int)=some (ZCA a b):=by
 unfold ZwF ZxZ ZCA;rw[ZMI,ZMI,bne_self_eq_false,bne_self_eq_false,cond_false,cond_false]
 by_cases h1:a < b
 ·rw[decide_eq_true (by omega:(a:Int) < b),if_pos h1];rfl
 ·rw[decide_eq_false (by omega:¬(a:Int) < b),if_neg h1,cond_false]
  by_cases h2:b < a
  ·rw[decide_eq_true (by omega:(a:Int) > b),if_pos h2];rfl
  ·rw[decide_eq_false (by omega:¬(a:Int) > b),if_neg h2];rfl
theorem ZHM (a b:Nat):Zwq (a:Int) (b:Int)=some (ZCA a b):=ZDx a b
theorem Zy3 {a b:Nat} (h:a < b):ZCA a b= -1:=by unfold ZCA;rw[if_pos h]
theorem ZyQ {a b:Nat} (h:b < a):ZCA a b=1:=by unfold ZCA;rw[if_neg (by omega),if_pos h]
theorem Zx2 (a:Nat):ZCA a a=0:=by unfold ZCA;rw[if_neg (by omega),if_neg (by omega)]
theorem ZC9 {n k:Nat} (h:k < (wd n).length):Bw ^ k≤n:=by
 rcases ZMi n (Bw ^ k)with h1 |h1
 ·have:=Zy6 h1;omega
 ·exact h1
theorem ZCB {a b:Nat} (h:(wd a).length < (wd b).length):a < b:=ZMh (ZxD a) (ZC9 h)
theorem ZzV {l:List Nat} {k:Nat} (h:k < l.length):val l=val (l.take k)+Bw ^ k*(l[k]+Bw*val (l.drop (k+1))):=by
 have e:l=l.take k++l[k]::l.drop (k+1):=by rw[ZLU,ZL5]
 have hl:(l.take k).length=k:=by rw[ZL0];omega
 calc val l=val (l.take k++l[k]::l.drop (k+1)):=by rw[←e]
  _=_:=by rw[ZAr,hl];rfl
theorem ZCL {p q x y A B:Nat} {k:Nat} (hp:p < Bw ^ k) (h:x < y):p+Bw ^ k*x < q+Bw ^ k*y:=by have:Bw ^ k*(x+1)≤Bw ^ k*y:=ZMs _ h;rw[ZMo,ZMx]at this;omega
theorem ZBK (a b:Nat) (ha:(wd a).length≤100000) (hb:(wd b).length≤100000):Zpr (iL (wd a)) (iL (wd b))=some (ZCA a b):=by
 refine Zqz ?_;unfold Zpr;rw[Zol,Zol,ZDx,ZnC,ZnB,Zog];refine⟨fun h=> ?_,fun h=> ?_⟩
 ·rw[ZnB];rcases ZMj (wd a).length (wd b).length with h1 |h1 |h1
  ·rw[Zy3 h1,Zy3 (ZCB h1)]
  ·rw[h1,Zx2]at h;exact absurd h (by decide)
  ·rw[ZyQ h1,ZyQ (ZCB h1)]
 ·have hl:(wd a).length=(wd b).length:=by
   rcases ZMj (wd a).length (wd b).length with h1 |h1 |h1
   ·rw[Zy3 h1]at h;exact absurd h (by decide)
   ·exact h1
   ·rw[ZyQ h1]at h;exact absurd h (by decide)
  rw[ZnF,ZnC];refine⟨ZnJ (by omega), ?_⟩;refine ZnK (ZBx Zzd (wd a).length (by omega) (fun i (s:Unit)=>(iL (wd a),iL (wd b),i)) (fun k _=>(wd a).drop k=(wd b).drop k)
   (Q:=fun r=>r= .ret (ZCA a b)∧ZCA a b≠0∨r= .brk ()∧a=b) () (by rw[List.drop_length,hl,List.drop_length]) ?_ ?_) ?_
  ·rintro rec k ⟨⟩ hk hP ih;have hk2:k < (wd b).length:=by omega
   unfold Zus Zsa;dsimp only;rw[Zog];refine⟨fun _=> ?_,fun h=>by simp only[decide_eq_false_iff_not]at h;omega⟩;rw[ZvT hk,ZnC,ZnB,ZvT hk2,ZnC,ZnB,ZHM,ZnC,ZnB];have ha:=ZzV hk;have hb:=ZzV hk2;rw[ZtU]at ha hb;have la:val ((wd a).take k) < Bw ^ k:=by have:=Zx9 ((ZwX a).take k);rwa [ZL0,ZMk (by omega)]at this
   have lb:val ((wd b).take k) < Bw ^ k:=by have:=Zx9 ((ZwX b).take k);rwa [ZL0,ZMk (by omega)]at this
   rw[Zog];refine⟨fun hc=> ?_,fun hc=> ?_⟩
   ·rw[ZnB];rcases ZMj (wd a)[k] (wd b)[k]with h1 |h1 |h1
    ·rw[Zy3 h1];have:a < b:=by rw[ha,hb,hP];exact ZCL (A:=0) (B:=0) la (by omega)
     exact .inl ⟨by rw[Zy3 this],by rw[Zy3 this];decide⟩
    ·rw[h1,Zx2]at hc;exact absurd hc (by decide)
    ·rw[ZyQ h1];have:b < a:=by rw[ha,hb,hP];exact ZCL (A:=0) (B:=0) lb (by omega)
     exact .inl ⟨by rw[ZyQ this],by rw[ZyQ this];decide⟩
   ·rw[ZnF];refine⟨ZnJ (by omega),ih () ?_⟩;have h1:(wd a)[k]=(wd b)[k]:=by
     rcases ZMj (wd a)[k] (wd b)[k]with h1 |h1 |h1
     ·rw[Zy3 h1]at hc;exact absurd hc (by decide)
     ·exact h1
     ·rw[ZyQ h1]at hc;exact absurd hc (by decide)
    rw[←ZLU (h:=hk),←ZLU (h:=hk2),h1,hP]
  ·rintro rec ⟨⟩ hP;unfold Zus Zsa;dsimp only;rw[Zog];refine⟨fun h=>by have:=of_decide_eq_true h;omega,fun _=> ?_⟩;rw[ZnB];rw[ZLP,ZLP]at hP;exact .inr ⟨rfl,by rw[←ZtU a,←ZtU b,hP]⟩
  ·rintro r (⟨rfl,_⟩ |⟨rfl,rfl⟩)
   ·exact ZnB.2 rfl
   ·unfold Zvj;exact ZnB.2 (Zx2 a).symm
theorem ZHe {o:List Nat} {n i:Nat} (x:Nat) (ho:o.length=i) (h:i < n):(o++ZL2 (n - i) 0).set i x=(o++[x])++ZL2 (n - (i+1)) 0:=by
 have:n - i=(n - (i+1))+1:=by omega
 rw[this,List.replicate_succ,ZL3 _ _ (by omega),ho,ZME,ZL4];simp
theorem ZEb (a b:Nat) (hab:b≤a) (ha:(wd a).length≤100000):ZrK (iL (wd a)) (iL (wd b))=some (iL (wd (a - b))):=by
 have hlb:(wd b).length≤(wd a).length:=by
  rcases ZMi (wd a).length (wd b).length with h |h
  ·have:=ZCB h;omega
  ·exact h
 refine Zqz ?_;unfold ZrK;rw[Zol,ZnF,ZnC,ZLO,ZCi];refine⟨ZAH (by omega), ?_⟩;generalize hn:(wd a).length=n at ha hlb⊢
 rw[show iL (ZL2 n 0)=iL ([]++ZL2 (n - ([]:List Nat).length) 0) by simp];refine ZnK (Zug ZzS n (by omega) (fun i (s:Nat×List Nat)=>(iL (wd a),iL (wd b),(s.1:Int),(n:Int),i,iL (s.2++ZL2 (n - s.2.length) 0))) (fun i s=>s.1≤1∧s.2.length=i∧Dg s.2∧val ((wd a).take i)+Bw ^ i*s.1=val s.2+val ((wd b).take i))
  (Q:=fun y=>∃(o:List Nat),y=iL o∧Dg o∧o.length=n∧val o=a - b) (0,[]) ⟨by simp,rfl,ZA6,by simp[val]⟩ ?_ ?_) ?_
 ·rintro rec i ⟨c,o⟩ hlt ⟨hc,hl,hd,hv⟩ ih;dsimp only at hc hl hd hv ih;have hi:i < (wd a).length:=by omega
  have h1:=(ZwX a).get hi;have h2:=ZBk (ZwX b) i;unfold Zvi Zte;dsimp only;rw[Zog];refine⟨fun _=> ?_,fun h=>by simp only[decide_eq_false_iff_not]at h;omega⟩;rw[ZvT hi,ZnC,ZnB,ZHS,ZnC,ZnB,ZHa h1 h2 hc,ZnC,ZnB];dsimp only;rw[ZnF,ZnF,Zol,ZLO,ZAl,hl,ZHe _ hl hlt];refine⟨Zpk ⟨by omega,by simp only[ZLV,ZLX];omega⟩,ZnJ (by omega), ?_⟩;generalize ex:(wd a)[i]=x at h1;generalize ey:(wd b).getD i 0=y at h2;have:=ih ((if x < y+c then 1 else 0),o++[(x+4294967296 - y - c) % 4294967296]) ⟨by dsimp only;split<;>omega,by simp[hl],hd.app (ZAA (ZMn _ (by decide))), ?_⟩
  ·rw[ZLV,ZLZ,hl]at this;exact this
  ·dsimp only;rw[Zxi,hl,ZMC,ZoQ hi,Zx4,ex,ey,ZMp];have e:x+Bw*(if x < y+c then 1 else 0)=(x+4294967296 - y - c) % 4294967296+y+c:=by simp only[Bw]at h1 h2⊢;split<;>omega
   have e2:Bw ^ i*(x+Bw*(if x < y+c then 1 else 0))=Bw ^ i*((x+4294967296 - y - c) % 4294967296+y+c):=by rw[e]
   rw[ZMo,ZMo,ZMo]at e2;omega
 ·rintro rec ⟨c,o⟩ ⟨hc,hl,hd,hv⟩;unfold Zvi Zte;dsimp only at hc hl hd hv⊢
  rw[Zog];refine⟨fun h=>by simp only[decide_eq_true_eq]at h;omega,fun _=> ?_⟩;rw[ZnB];rw[ZL6 (by omega),ZL6 (by omega),ZtU,ZtU]at hv;have:=Zx9 hd;rw[hl]at this;have hc0:c=0:=by
   rcases ZMe c with h |h
   ·exact h
   ·have:c=1:=by omega
    rw[this,ZMx]at hv;omega
  rw[hc0,ZMy]at hv;exact⟨o,by rw[hl,ZME];simp,hd,hl,by omega⟩
 ·rintro y ⟨o,rfl,hd,hl,hv⟩;unfold Zwg;rw[ZAC hd (by omega),ZnC,ZnB,ZnB,hv]
theorem ZFP (a d:Nat) (hd0:d≠0) (hd:d < Bw) (ha:(wd a).length≤100000):ZtH (iL (wd a)) (d:Int)=some (iL (wd (a / d)),((a % d:Nat):Int)):=by
 refine Zqz ?_;unfold ZtH;rw[Zol,ZnF,ZnF,ZnC,ZLO,ZCi];refine⟨ZAH (by omega),ZnJ (by omega), ?_⟩;generalize hn:(wd a).length=n at ha⊢
 rw[show iL (ZL2 n 0)=iL (ZL2 (n - ([]:List Nat).length) 0++[]) by simp];refine ZnK (ZBx ZzR n (by omega) (fun i (s:Nat×List Nat)=>(iL (wd a),(d:Int),(s.1:Int),i,iL (ZL2 (n - s.2.length) 0++s.2))) (fun k s=>s.1 < d∧s.2.length+k=n∧Dg s.2∧val ((wd a).drop k)=val s.2*d+s.1)
  (Q:=fun y=>∃(r:Nat) (o:List Nat),y=((r:Int),iL o)∧Dg o∧o.length=n∧r < d∧a=val o*d+r) (0,[]) ⟨by dsimp only;omega,by simp,ZA6,by rw[←hn,List.drop_length];simp[val]⟩ ?_ ?_) ?_
 ·rintro rec k ⟨r,o⟩ hk ⟨hr,hl,hdg,hv⟩ ih;dsimp only at hr hl hdg hv ih;have hi:k < (wd a).length:=by omega
  have h1:=(ZwX a).get hi;unfold Zvg Ztc;dsimp only;rw[Zog];refine⟨fun _=> ?_,fun h=>by simp only[decide_eq_false_iff_not]at h;omega⟩;rw[ZvT hi,ZnC,ZnB,ZLa hr h1 hd,ZnC,ZnB];dsimp only;generalize ex:(wd a)[k]=x at h1;have hq:(r*4294967296+x) / d < Bw:=(ZMd (by omega)).2 (by
   have:(r+1)*4294967296≤d*4294967296:=ZMt _ hr;simp only[Bw]at*
   omega)
  have es:(ZL2 (n - o.length) 0++o).set k ((r*4294967296+x) / d)=ZL2 (n - (o.length+1)) 0++((r*4294967296+x) / d)::o:=by
   have e:n - o.length=k+1:=by omega
   have e2:n - (o.length+1)=k:=by omega
   rw[e,e2,List.replicate_succ',List.append_assoc,ZL3 _ _ (by simp),ZLX,ZME];rfl
  rw[ZnF,ZnF,Zol,ZLO,ZAl,es];refine⟨Zpk ⟨by omega,by simp only[ZLV,ZLX];omega⟩,ZnJ (by omega), ?_⟩;refine ih ((r*4294967296+x) % d,((r*4294967296+x) / d)::o) ⟨ZMn _ (by omega),by simp only[ZLW];omega,fun y hy=> ?_, ?_⟩
  ·rcases ZL1.1 hy with rfl |hy
   ·exact hq
   ·exact hdg y hy
  ·dsimp only;rw[←ZLU (h:=hi),ex,val,hv,val];have:=ZMb (r*4294967296+x) d;rw[ZL7,ZMq ((r*4294967296+x) / d) d,ZMo,ZMp];simp only[Bw]at*
   omega
 ·rintro rec ⟨r,o⟩ ⟨hr,hl,hdg,hv⟩;unfold Zvg Ztc;dsimp only at hr hl hdg hv⊢
  rw[Zog];refine⟨fun h=>by have:=of_decide_eq_true h;omega,fun _=> ?_⟩;rw[ZnB];rw[ZLP,ZtU]at hv;refine⟨r,o, ?_,hdg,hl,hr,hv⟩;rw[show n - o.length=0 by omega];rfl
 ·rintro y ⟨r,o,rfl,hdg,hl,hr,hv⟩;dsimp only;unfold Zwf;rw[ZAC hdg (by omega),ZnC,ZnB,ZnB];have e1:a / d=val o:=by rw[hv,ZMq,Nat.mul_add_div (by omega),ZMc hr,ZMa]
  have e2:a % d=r:=by rw[hv,ZMq,Nat.mul_add_mod,ZMm hr]
  rw[e1,e2]
end Go.Proofs
namespace Go.Proofs
open Go Eng
theorem ZAq:∀(l:List Nat) (i x:Nat) (h:i < l.length),val (l.set i x)+Bw ^ i*l[i]=val l+Bw ^ i*x
 | [],i,x,h=>absurd h (by simp)
 |d::l,0,x,h=>by simp only[ZL4,val,Nat.pow_zero,ZMz,List.getElem_cons_zero];omega
 |d::l,i+1,x,h=>by
  have:=ZAq l i x (by simpa using h);have e:Bw*(val (l.set i x)+Bw ^ i*l[i]'(by simpa using h))=Bw*(val l+Bw ^ i*x):=by rw[this]
  rw[ZMo,ZMo]at e;simp only[List.set_cons_succ,val,ZMC,List.getElem_cons_succ];rw[ZMq (Bw ^ i) Bw,ZMp,ZMp];omega
theorem ZHu {x y:Nat} (hx:x≤4294967295) (hy:y≤4294967295):x*y≤18446744065119617025:=ZMr hx hy
theorem ZA1 {x y:Nat} (hx:x < Bw) (hy:y < Bw):x*y≤18446744065119617025:=ZHu (by simp only[Bw]at hx;omega) (by simp only[Bw]at hy;omega)
theorem ZIV {c x y e:Nat} (hc:c < Bw) (hx:x < Bw) (hy:y < Bw) (he:e < Bw):IntKind.wrap .u64 ((c:Int)+IntKind.wrap .u64 (IntKind.wrap .u64 (IntKind.wrap .u64 (x:Int)*IntKind.wrap .u64 (y:Int))+IntKind.wrap .u64 (e:Int)))=((c+x*y+e:Nat):Int):=by have:=ZA1 hx hy;simp only[Bw]at hc hx hy he;rw[Zo8 (by omega),Zo8 (by omega),Zo8 (by omega),←ZLN,Zo8 (by omega),←ZIO,Zo8 (by omega),←ZIO,Zo8 (by omega)];congr 1;omega
theorem ZGC {c x y e:Nat} (hc:c < Bw) (hx:x < Bw) (hy:y < Bw) (he:e < Bw):(c+x*y+e) / Bw < Bw:=by
 have:=ZA1 hx hy;simp only[Bw]at hc hx hy he⊢
 omega
theorem ZCN (a b:Nat) (ha:(wd a).length≤100000) (hb:(wd b).length≤100000):ZqG (iL (wd a)) (iL (wd b))=some (iL (wd (a*b))):=by
 refine Zqz ?_;unfold ZqG;rw[Zol,Zol,ZnF,ZnF,ZnC,←ZIO,ZLO,ZCi];refine⟨ZnJ (by omega),ZAH (by omega), ?_⟩;generalize hm:(wd a).length=m at ha⊢
 generalize hn:(wd b).length=n at hb⊢
 refine ZnK (Zug ZzQ m (by omega) (fun i (s:List Nat)=>(iL (wd b),iL (wd a),(m:Int),i,iL s)) (fun i s=>s.length=m+n∧Dg s∧val s=val ((wd a).take i)*b∧∀k,i+n≤k→k < m+n→s[k]? =some 0)
  (Q:=fun y=>∃(o:List Nat),y=iL o∧Dg o∧o.length=m+n∧val o=a*b) (ZL2 (m+n) 0) ⟨by simp,ZFi _,by rw[ZDB];simp[val],fun k _ h=>by rw[List.getElem?_replicate,if_pos h]⟩ ?_ ?_) ?_
 ·rintro rec i s hlt ⟨hl,hd,hv,hz⟩ ih;have hi:i < (wd a).length:=by omega
  have h1:=(ZwX a).get hi;unfold Zvf Ztb;dsimp only;rw[Zog];refine⟨fun _=> ?_,fun h=>by simp only[decide_eq_false_iff_not]at h;omega⟩;rw[ZvT hi,ZnC,ZnB,ZnC,Zol,hn];generalize ex:(wd a)[i]=x at h1;refine ZnK (Zug ZzP n (by omega) (fun j (t:Nat×List Nat)=>(iL (wd b),(i:Int),(x:Int),(t.1:Int),iL (wd a),(m:Int),(i:Int),iL (wd b),(n:Int),j,iL t.2)) (fun j t=>t.1 < Bw∧t.2.length=m+n∧Dg t.2∧val t.2+Bw ^ (i+j)*t.1=val s+Bw ^ i*(x*val ((wd b).take j))∧∀k,i+n≤k→k < m+n→t.2[k]? =some 0)
   (Q:=fun y=>∃(c:Nat) (o:List Nat),y=(iL (wd b),(i:Int),(c:Int),iL (wd a),(m:Int),(i:Int),iL o)∧c < Bw∧o.length=m+n∧Dg o∧val o+Bw ^ (i+n)*c=val s+Bw ^ i*(x*b)∧∀k,i+n≤k→k < m+n→o[k]? =some 0) (0,s) ⟨by simp only[Bw];omega,hl,hd,by simp[val],hz⟩ ?_ ?_) ?_
  ·rintro rec2 j ⟨c,o⟩ hj ⟨hc,hol,hod,hov,hoz⟩ ih2;dsimp only at hc hol hod hov hoz ih2;have hj2:j < (wd b).length:=by omega
   have h2:=(ZwX b).get hj2;have hij:i+j < o.length:=by omega
   have h3:=hod.get hij;unfold Zve Zta;dsimp only;rw[Zog];refine⟨fun _=> ?_,fun h=>by simp only[decide_eq_false_iff_not]at h;omega⟩;rw[ZvT hj2,ZnC,ZnB,ZnF,ZnF,←ZIO,ZLO,ZA4 hij,ZnC,ZnB,ZnF,ZnF,ZnF,ZnF];generalize ey:(wd b)[j]=y at h2;generalize ee:o[i+j]=e at h3;rw[ZIV hc h1 h2 h3,Zwr,show (32:Int)=((32:Nat):Int)from rfl,ZAD 32 (by omega),Zol,ZAl];refine⟨ZnJ (by omega),Zpk ⟨by omega,by omega⟩,ZnJ (by omega),Zpk ⟨by omega,by omega⟩,by decide,ZnJ (by omega), ?_⟩;refine ih2 ((c+x*y+e) / Bw,o.set (i+j) ((c+x*y+e) % Bw)) ⟨ZGC hc h1 h2 h3,by simp[hol],hod.set _ (ZMn _ (by decide)), ?_,fun k hk hk2=> ?_⟩
   ·dsimp only;have q1:=ZAq o (i+j) ((c+x*y+e) % Bw) hij;rw[ee]at q1;have q2:Bw ^ (i+j)*((c+x*y+e) % Bw+Bw*((c+x*y+e) / Bw))=Bw ^ (i+j)*(c+x*y+e):=by rw[ZMl]
    rw[ZMo,ZMo,ZMo]at q2;rw[←Nat.add_assoc,ZMC,ZMp,ZoQ hj2,ey,ZMo,ZMo];have q3:Bw ^ i*(x*(Bw ^ j*y))=Bw ^ (i+j)*(x*y):=by rw[ZMA,ZMp,ZMu x]
    omega
   ·dsimp only;rw[List.getElem?_set_ne (by omega)];exact hoz k hk hk2
  ·rintro rec2 ⟨c,o⟩ ⟨hc,hol,hod,hov,hoz⟩;dsimp only at hc hol hod hov hoz;unfold Zve Zta;dsimp only;rw[Zog];refine⟨fun h=>by have:=of_decide_eq_true h;omega,fun _=> ?_⟩;rw[ZnB];rw[ZL6 (by omega),ZtU]at hov;exact⟨c,o,rfl,hc,hol,hod,hov,hoz⟩
  ·rintro y ⟨c,o,rfl,hc,hol,hod,hov,hoz⟩;dsimp only;unfold Zwe;rw[Zol,hn,ZnF,ZnF,ZnF,←ZIO,ZLO,ZwW hc,ZAl,Zol];refine⟨ZnJ (by omega),Zpk ⟨by omega,by omega⟩,ZnJ (by omega), ?_⟩;have hp:i+n < o.length:=by omega
   have h0:o[i+n]=0:=by have:=hoz (i+n) (Nat.le_refl _) (by omega);rw[ZLR hp]at this;exact Option.some.inj this
   have q1:=ZAq o (i+n) c hp;rw[h0,ZMy,ZMa]at q1;refine ih (o.set (i+n) c) ⟨by simp[hol],hod.set _ hc, ?_,fun k hk hk2=> ?_⟩
   ·rw[q1,hov,hv,ZoQ hi,ex,ZL7,ZMp]
   ·rw[List.getElem?_set_ne (by omega)];exact hoz k (by omega) hk2
 ·rintro rec s ⟨hl,hd,hv,hz⟩;unfold Zvf Ztb;dsimp only;rw[Zog];refine⟨fun h=>by have:=of_decide_eq_true h;omega,fun _=> ?_⟩;rw[ZnB];rw[ZL6 (by omega),ZtU]at hv;exact⟨s,rfl,hd,hl,hv⟩
 ·rintro y ⟨o,rfl,hd,hl,hv⟩;unfold Zwd;rw[ZAC hd (by omega),ZnC,ZnB,ZnB,hv]
theorem ZCX {c d s:Nat} (hs:s≤31) (hc:c < 2 ^ s) (hd:d < Bw):c|||(d*2 ^ s % Bw)=c+d*2 ^ s % Bw:=by
 have e:Bw=2 ^ (32 - s)*2 ^ s:=by rw[←ZMA,show 32 - s+s=32 by omega]
 rw[e,ZMw];have:=Nat.shiftLeft_add_eq_or_of_lt hc (d % 2 ^ (32 - s));rw[Nat.shiftLeft_eq]at this;rw[Nat.or_comm,←this,Nat.add_comm]
theorem ZHc {d s:Nat} (hs:s≤32) (hd:d < Bw):shlK .u64 (IntKind.wrap .u64 (d:Int)) (s:Int)=((d*2 ^ s:Nat):Int):=by
 have h2:2 ^ s≤2 ^ 32:=ZMB (by decide) hs;have h3:d*2 ^ s≤4294967295*4294967296:=ZMr (by simp only[Bw]at hd;omega) h2;unfold shlK;simp only[Bw]at hd;rw[Zo8 (by omega),ZLO,show IntKind.bits .u64=64 from rfl,ZMk (by omega)];have e:(d:Int)*(2:Int) ^ s=((d*2 ^ s:Nat):Int):=by push_cast;rfl
 rw[e,Zo8 (by omega)]
theorem ZCx (l:List Nat) (s:Nat) (hs:s≤31) (hl:l.length≤100000) (hd:Dg l):∃o:List Nat,Zp6 (iL l) (s:Int)=some (iL o)∧Dg o∧o.length=l.length+1∧val o=val l*2 ^ s:=by
 have:wp (Zp6 (iL l) (s:Int)) (fun y=>∃o:List Nat,y=iL o∧Dg o∧o.length=l.length+1∧val o=val l*2 ^ s):=by
  have h2:2 ^ s≤2 ^ 31:=ZMB (by decide) hs;unfold Zp6 Zvh;rw[Zol,ZnF,ZnF,ZnC,show (l.length:Int)+1=((l.length+1:Nat):Int)from rfl,ZLO,ZCi];refine⟨ZnJ (by omega),ZAH (by omega), ?_⟩;refine ZnK (Zug Zzc l.length (by omega) (fun i (t:List Nat×Nat)=>((s:Int),iL l,(l.length:Int),i,iL (t.1++t.2::ZL2 (l.length - t.1.length) 0))) (fun i t=>t.1.length=i∧t.2 < 2 ^ s∧Dg t.1∧val t.1+Bw ^ i*t.2=val (l.take i)*2 ^ s)
   (Q:=fun y=>∃o:List Nat,y=iL o∧Dg o∧o.length=l.length+1∧val o=val l*2 ^ s) ([],0) ⟨rfl,ZMF s,ZA6,by simp[val]⟩ ?_ ?_) ?_
  ·rintro rec i ⟨o,c⟩ hi ⟨hol,hc,hod,hv⟩ ih;dsimp only at hol hc hod hv ih;have h1:=hd.get hi;have hcB:c < Bw:=by simp only[Bw];omega
   unfold Zur Zr9;dsimp only;rw[Zog];refine⟨fun _=> ?_,fun h=>by simp only[decide_eq_false_iff_not]at h;omega⟩;rw[ZvT hi,ZnC,ZnB];generalize ex:l[i]=x at h1;have hlen:(o++c::ZL2 (l.length - o.length) 0).length=l.length+1:=by simp;omega
   have hg:(iL (o++c::ZL2 (l.length - o.length) 0))[i]? =some (c:Int):=by rw[ZA4 (by rw[hlen];omega)];congr 2;rw[ZLT (by omega)];simp[hol]
   rw[ZHc (by omega) h1,show (32:Int)=((32:Nat):Int)from rfl,ZAD 32 (by omega),Zwr];have hx2:x*2 ^ s / 2 ^ 32 < 2 ^ s:=(ZMd (by decide)).2 (by
    rw[ZMq (2 ^ s)];exact ZMv h1 (ZMF s))
   rw[ZwW (by omega),ZLO,show ((i:Int)+1).toNat=i+1 by omega,hg];rw[ZnF,ZnF,ZnC,ZnB,ZnF,ZnF,ZnF,ZnF,ZnF,ZDk hcB (ZMn _ (by decide)),ZCX hs hc h1];have hsum:c+x*2 ^ s % Bw < Bw:=by
    have e:Bw=2 ^ (32 - s)*2 ^ s:=by rw[←ZMA,show 32 - s+s=32 by omega]
    have hm:x % 2 ^ (32 - s)+1≤2 ^ (32 - s):=ZMn _ (ZMF _);have:=ZMt (2 ^ s) hm;rw[ZL7,ZMz]at this;rw[e,ZMw];omega
   have es:((o++c::ZL2 (l.length - o.length) 0).set i (c+x*2 ^ s % Bw)).set (i+1) (x*2 ^ s / 2 ^ 32)=(o++[c+x*2 ^ s % Bw])++(x*2 ^ s / 2 ^ 32)::ZL2 (l.length - (o.length+1)) 0:=by rw[ZL3 _ _ (by omega),hol,ZME,ZL4,ZL3 _ _ (by omega),hol,show i+1 - i=1 by omega,show l.length - i=(l.length - (i+1))+1 by omega,List.replicate_succ];simp
   rw[ZAl,ZAl,es];simp only[Zol,ZLY,hlen];refine⟨by simp,Zpk ⟨by omega,by omega⟩,Zpk ⟨by omega,by omega⟩,ZnJ (by omega),by decide,Zpk ⟨by omega,by omega⟩,ZnJ (by omega), ?_⟩;have:=ih (o++[c+x*2 ^ s % Bw],x*2 ^ s / 2 ^ 32) ⟨by simp[hol],hx2,hod.app (ZAA hsum), ?_⟩
   ·simp only[ZLV,ZLZ]at this;exact this
   ·dsimp only;have q:Bw ^ i*(x*2 ^ s % Bw+Bw*(x*2 ^ s / 2 ^ 32))=Bw ^ i*(x*2 ^ s):=by have:=ZMl (x*2 ^ s) Bw;rw[show (2:Nat) ^ 32=Bw from rfl,this]
    rw[ZMo]at q;rw[Zxi,hol,ZMC,ZMp,ZoQ hi,ex,ZMo,ZL7,ZMp (Bw ^ i) x];omega
  ·rintro rec ⟨o,c⟩ ⟨hol,hc,hod,hv⟩;dsimp only at hol hc hod hv;unfold Zur Zr9;dsimp only;rw[Zog];refine⟨fun h=>by have:=of_decide_eq_true h;omega,fun _=> ?_⟩;rw[ZnB];rw[List.take_length]at hv;refine⟨o++[c], ?_,hod.app (ZAA (by simp only[Bw];omega)),by simp[hol], ?_⟩
   ·rw[hol,ZME];rfl
   ·rw[Zxi,hol];exact hv
  ·rintro y hy;exact ZnB.2 hy
 obtain⟨y,hy,o,rfl,h1,h2,h3⟩:=this;exact⟨o,hy,h1,h2,h3⟩
end Go.Proofs
namespace Go.Proofs
open Go Eng
theorem ZI2 {B P u0 u1 u2 wl d1 d2 dl:Nat} (hdl:dl < P) (hd2:d2 < B) (h:((u0*B+u1)*B+u2)*P+wl < B*((d1*B+d2)*P+dl)):u0≤d1:=by
 rcases ZMi d1 u0 with hlt |hge
 ·exfalso;have h1:(d1+1)*(B*(B*P))≤u0*(B*(B*P)):=ZMt _ hlt;have h2:(d2+1)*P≤B*P:=ZMt _ hd2;rw[ZL7,ZMz]at h2;have h3:B*(d2*P+dl)≤B*(B*P):=ZMs _ (by omega);have e:B*(d1*(B*P))=d1*(B*(B*P)):=ZMu _ _ _;simp only[ZL7,ZMo,ZMp,ZMz]at h h1 h3;omega
 ·exact hge
theorem ZI1 {B P u0 u1 u2 wl d1 d2 dl q:Nat} (hw:wl < P) (hu2:u2 < B) (h:q*((d1*B+d2)*P+dl)≤((u0*B+u1)*B+u2)*P+wl):q*d1≤u0*B+u1:=by
 rcases ZMi (u0*B+u1) (q*d1)with hlt |hge
 ·exfalso;have h1:(u0*B+u1+1)*(B*P)≤q*d1*(B*P):=ZMt _ hlt;have h2:(u2+1)*P≤B*P:=ZMt _ hu2;simp only[ZL7,ZMo,ZMp,ZMz]at h h1 h2;omega
 ·exact hge
theorem ZI0 {B P u0 u1 u2 wl d1 d2 dl rest g:Nat} (hw:wl < P) (hr:rest+g*d1=u0*B+u1) (hg:rest*B+u2 < g*d2):((u0*B+u1)*B+u2)*P+wl < g*((d1*B+d2)*P+dl):=by
 rw[←hr];have h1:(rest*B+u2+1)*P≤g*d2*P:=ZMt _ hg;simp only[ZL7,ZMo,ZMp,ZMz]at h1⊢
 omega
theorem ZIZ {B P u0 u1 u2 wl d1 d2 dl rest g:Nat} (hdl:dl < P) (hB:g < B) (h1:1≤d1) (hr:rest+g*d1=u0*B+u1) (hg:g*d2≤rest*B+u2):g*((d1*B+d2)*P+dl) < (((u0*B+u1)*B+u2)*P+wl)+((d1*B+d2)*P+dl):=by
 rw[←hr];have h2:g*d2*P≤(rest*B+u2)*P:=ZMt _ hg;have h3:g*dl≤g*P:=ZMs _ (Nat.le_of_lt hdl);have h4:(g+1)*P≤B*P:=ZMt _ hB;have h5:1*(B*P)≤d1*(B*P):=ZMt _ h1;simp only[ZL7,ZMo,ZMp,ZMz]at h2 h4 h5⊢
 omega
theorem rdw {pre w suf:List Nat} {k:Nat} (h:k < w.length):(iL (pre++(w++suf)))[pre.length+k]? =some (w[k]:Int):=by rw[ZA4 (by simp;omega)];congr 2;rw[ZLT (by omega)];simp only[Nat.add_sub_cancel_left];rw[List.getElem_append_left h]
theorem stw {pre w suf:List Nat} {k:Nat} (x:Nat) (h:k < w.length):(iL (pre++(w++suf))).set (pre.length+k) (x:Int)=iL (pre++(w.set k x++suf)):=by rw[ZAl,ZL3 _ _ (by omega),Nat.add_sub_cancel_left,List.set_append_left _ _ h]
theorem ZKL {l:List Nat} {m:Nat} (h:l.length=m+2):val l=(l[m+1]*Bw+l[m])*Bw ^ m+val (l.take m):=by have e:=ZzV (l:=l) (k:=m) (by omega);have e2:=ZzV (l:=l) (k:=m+1) (by omega);have h3:=ZoQ (l:=l) (k:=m) (by omega);rw[List.drop_eq_nil_of_le (by omega)]at e2;simp only[val,ZMy,ZMa]at e2;rw[e2,h3,ZMC,ZL7,ZMq (l[m]),ZMq (Bw ^ m) Bw,ZMq (Bw*Bw ^ m),ZMp];omega
theorem top3 {l:List Nat} {m:Nat} (h:l.length=m+3):val l=((l[m+2]*Bw+l[m+1])*Bw+l[m])*Bw ^ m+val (l.take m):=by have e:val l=(l[m+2]*Bw+l[m+1])*Bw ^ (m+1)+val (l.take (m+1)):=ZKL (by omega);have h3:=ZoQ (l:=l) (k:=m) (by omega);rw[e,h3,ZMC,ZMq (Bw ^ m) Bw,←ZMp,ZL7 ((l[m+2]*Bw+l[m+1])*Bw),ZMq (l[m])];omega
theorem ZHB {h l:Nat} (hh:h < 4294967296) (hl:l < 4294967296):orK .u64 (shlK .u64 (h:Int) 32) (IntKind.wrap .u64 (l:Int))=((h*4294967296+l:Nat):Int):=by
 have:=ZDr hh hl
 rwa [Zo8 (by omega)]at this
theorem ZHw {x y:Nat} (hx:x < Bw) (hy:y < Bw):IntKind.wrap .u64 ((x:Int)*IntKind.wrap .u64 (y:Int))=((x*y:Nat):Int):=by have:=ZA1 hx hy;rw[Zo8 (by simp only[Bw]at hy;omega),←ZLN,Zo8 (by omega)]
theorem ZGd {pre w suf d:List Nat} {m:Nat} (hw:w.length=m+3) (hd:d.length=m+2) (hwd:Dg w) (hdd:Dg d) (h1:1≤d[m+1]) (hlt:val w < Bw*val d) (hm:m≤100000) {g r:Nat}
  (hg:g < Bw) (hq:val w / val d≤g) (hr:r+g*d[m+1]=w[m+2]*Bw+w[m+1]) (hr2:r < 2*Bw):
  wp (ZtQ big pre.length (m+3) (iL d) ((m+2:Nat):Int) (g:Int) (r:Int) (iL (pre++(w++suf)))) (fun y=>∃g:Nat,y=(pre.length,m+3,iL d,((m+2:Nat):Int),(g:Int),iL (pre++(w++suf)))∧g < Bw∧val w / val d≤g∧g*val d < val w+val d):=by
 have hw0:=hwd.get (i:=m) (by omega);have hd2:=hdd.get (i:=m) (by omega);have hd1:=hdd.get (i:=m+1) (by omega);have hdl:val (d.take m) < Bw ^ m:=by have:=Zx9 (hdd.take m);rwa [ZL0,ZMk (by omega)]at this
 have hwl:val (w.take m) < Bw ^ m:=by have:=Zx9 (hwd.take m);rwa [ZL0,ZMk (by omega)]at this
 have eW:=top3 hw;have eD:=ZKL hd;have rd:(iL (pre++(w++suf)))[pre.length+m]? =some (w[m]:Int):=rdw (by omega);have rdd:idx (iL d) (m:Int)=some (d[m]:Int):=ZvT (by omega);have rdd1:idx (iL d) ((m+1:Nat):Int)=some (d[m+1]:Int):=ZvT (by omega);generalize d[m+1]=d1 at*
 generalize d[m]=d2 at*
 generalize w[m+2]=u0 at*
 generalize w[m+1]=u1 at*
 generalize w[m]=u2 at*
 have hDpos:0 < val d:=by rw[eD];have:1*1≤(d1*Bw+d2)*Bw ^ m:=ZMr (by simp only[Bw];omega) (Nat.pow_pos (by decide));omega
 have hdiv:∀g,val w < g*val d→val w / val d < g:=fun g h=>(ZMd hDpos).2 h
 generalize val w / val d=qq at*
 refine ZqA ZAQ (fun(t:Nat×Nat)=>(pre.length,m+3,iL d,((m+2:Nat):Int),(t.1:Int),(t.2:Int),iL (pre++(w++suf)))) (fun t=>t.1 < Bw∧qq≤t.1∧t.2+t.1*d1=u0*Bw+u1∧t.2 < 2*Bw) (fun t=>t.1) (g,r) ⟨hg,hq,hr,hr2⟩ (by simp only[Bw]at hg;dsimp only;omega) ?_;rintro rec ⟨g,r⟩ ⟨hg,hq,hr,hr2⟩ ih;dsimp only at hg hq hr hr2 ih;unfold Zzh ZxV;dsimp only;have e2:((m+2:Nat):Int) - 2=(m:Int):=by omega
 have e1:((m+2:Nat):Int) - 1=((m+1:Nat):Int):=by omega
 have fin:g*d2≤r*Bw+u2→wp (some (pre.length,m+3,iL d,((m+2:Nat):Int),(g:Int),iL (pre++(w++suf)))) (fun y=>∃g:Nat,y=(pre.length,m+3,iL d,((m+2:Nat):Int),(g:Int),iL (pre++(w++suf)))∧g < Bw∧qq≤g∧g*val d < val w+val d):=fun h=>by rw[ZnB];refine⟨g,rfl,hg,hq, ?_⟩;rw[eW,eD];exact ZIZ hdl hg h1 hr h
 rw[Zog];refine⟨fun h=> ?_,fun h=> ?_⟩
 ·have hrB:r < 4294967296:=by have:=of_decide_eq_true h;omega
  rw[e2,ZnF,rdd,ZnC,ZnB,ZnF,ZnF,ZnF,ZnC,ZLO,rd,ZnB,ZHw hg hd2,ZHB hrB hw0];refine⟨ZnJ (by omega),by decide,ZnJ (by omega),Zpk ⟨by omega,by omega⟩, ?_⟩;unfold Zvl;rw[Zog];refine⟨fun h=> ?_,fun h=> ?_⟩
  ·have hc:r*Bw+u2 < g*d2:=by have:=of_decide_eq_true h;simp only[Bw];omega
   have hlt2:val w < g*val d:=by rw[eW,eD];exact ZI0 hwl hr hc
   have hqg:qq < g:=hdiv g hlt2;rw[e1,ZnF,rdd1,ZnC,ZnB];refine⟨ZnJ (by omega), ?_⟩;have eg:IntKind.wrap .u64 ((g:Int) - 1)=((g - 1:Nat):Int):=by simp only[Bw]at hg;rw[show (g:Int) - 1=((g - 1:Nat):Int) by omega,Zo8 (by omega)]
   have er:IntKind.wrap .u64 ((r:Int)+IntKind.wrap .u64 (d1:Int))=((r+d1:Nat):Int):=by simp only[Bw]at hd1;rw[Zo8 (by omega),←ZIO,Zo8 (by omega)]
   rw[eg,er];refine ih (g - 1,r+d1) ⟨by dsimp only;omega,by dsimp only;omega, ?_,by dsimp only;simp only[Bw]at hd1⊢;omega⟩ (by dsimp only;omega);dsimp only;rw[←hr,show g*d1=(g - 1+1)*d1 by rw[Nat.sub_add_cancel (by omega)],ZL7,ZMz];omega
  ·have hc:g*d2≤r*Bw+u2:=by have:=of_decide_eq_false h;simp only[Bw];omega
   exact fin hc
 ·have hrB:4294967296≤r:=by have:=of_decide_eq_false h;omega
  unfold Zvl;rw[cond_false];refine fin ?_;have h1:=ZA1 hg hd2;have h2:4294967296*4294967296≤r*Bw:=ZMr hrB (Nat.le_refl _);omega
end Go.Proofs
namespace Go.Proofs
open Go Eng
abbrev ZGn (pre suf:List Nat) (W D m:Nat) (y:Int×List Int):Prop:=∃w':List Nat,y=(((W / D:Nat):Int),iL (pre++(w'++suf)))∧w'.length=m+3∧Dg w'∧val w'=W % D
theorem ZHR {pre w suf d:List Nat} {m W:Nat} (hw:w.length=m+3) (hd:d.length=m+2) (hwd:Dg w) (hdd:Dg d) (hm:m≤100000) {g:Nat} (hg:g < Bw)
  (hg1:W < g*val d) (hg2:g*val d < W+val d) (hv:val w+g*val d=W+Bw ^ (m+3)):
  wp ((Zvk big pre.length (m+3) ((m+2:Nat):Int) (g:Int) (0:Int) (iL d) (d.length:Int) (0:Int) (iL (pre++(w++suf)))).bind fun(x0,x1,x2,x3,x4,x5)=>ZwQ x0 x1 x2 x3 x4 x5) (ZGn pre suf W (val d) m):=by
 rw[ZnC,hd];have hDpos:0 < val d:=by omega
 refine ZnK (Zug ZAO (m+2) (by omega) (fun i (t:Nat×List Nat)=>(pre.length,m+3,((m+2:Nat):Int),(g:Int),(t.1:Int),iL d,((m+2:Nat):Int),i,iL (pre++(t.2++suf)))) (fun i t=>t.1≤1∧t.2.length=m+3∧Dg t.2∧val t.2+Bw ^ i*t.1=val w+val (d.take i))
  (Q:=fun y=>∃(a:Nat) (w2:List Nat),y=(pre.length,m+3,((m+2:Nat):Int),(g:Int),(a:Int),iL (pre++(w2++suf)))∧a≤1∧w2.length=m+3∧Dg w2∧val w2+Bw ^ (m+2)*a=val w+val d) (0,w) ⟨by simp,hw,hwd,by simp[val]⟩ ?_ ?_) ?_
 ·rintro rec i ⟨a,o⟩ hi ⟨ha,hol,hod,hv⟩ ih;dsimp only at ha hol hod hv ih;have hi1:i < o.length:=by omega
  have hi2:i < d.length:=by omega
  have h1:=hod.get hi1;have h2:=hdd.get hi2;unfold ZxT ZvN;dsimp only;rw[Zog];refine⟨fun _=> ?_,fun h=>by have:=of_decide_eq_false h;omega⟩;rw[ZvT hi2,ZnC,ZnB,ZnF,ZnC,ZLO,rdw hi1,ZnB,ZJt h1 h2 ha,ZnC,ZnB];dsimp only;rw[ZnF,ZnF,stw _ hi1];refine⟨Zpk ⟨by omega,by omega⟩,Zpk ⟨by omega,by omega⟩,ZnJ (by omega), ?_⟩;generalize ex:d[i]=x at h2;generalize ee:o[i]=e at h1;refine ih ((e+x+a) / 4294967296,o.set i ((e+x+a) % 4294967296)) ⟨by simp only[Bw]at h1 h2;dsimp only;omega,by simp[hol],hod.set _ (ZMn _ (by decide)), ?_⟩;dsimp only;have q1:=ZAq o i ((e+x+a) % 4294967296) hi1;rw[ee]at q1;have q2:Bw ^ i*((e+x+a) % 4294967296+Bw*((e+x+a) / 4294967296))=Bw ^ i*(e+x+a):=by rw[ZMl]
  rw[ZMo,ZMo,ZMo]at q2;rw[ZMC,ZMp,ZoQ hi2,ex];omega
 ·rintro rec ⟨a,o⟩ ⟨ha,hol,hod,hv⟩;dsimp only at ha hol hod hv;unfold ZxT ZvN;dsimp only;rw[Zog];refine⟨fun h=>by have:=of_decide_eq_true h;omega,fun _=> ?_⟩;rw[ZnB];rw[ZL6 (by omega)]at hv;exact⟨a,o,rfl,ha,hol,hod,hv⟩
 ·rintro y ⟨a,o,rfl,ha,hol,hod,hov⟩;dsimp only;have hi1:m+2 < o.length:=by omega
  have h1:=hod.get hi1;unfold ZwQ;rw[ZnF,ZnC,ZLO,rdw hi1,ZnB,ZnF];generalize ee:o[m+2]=e at h1;have ew:IntKind.wrap .u32 ((e:Int)+(a:Int))=(((e+a) % 4294967296:Nat):Int):=by rw[←ZIO,Zwr]
  have hgp:1≤g:=by
   rcases ZMe g with h |h
   ·rw[h,Nat.zero_mul]at hg1;omega
   ·exact h
  have eg:IntKind.wrap .u32 (IntKind.wrap .u64 ((g:Int) - 1))=((g - 1:Nat):Int):=by simp only[Bw]at hg;rw[show (g:Int) - 1=((g - 1:Nat):Int) by omega,Zo8 (by omega),ZwW (by omega)]
  rw[ew,eg,stw _ hi1,ZnB];refine⟨Zpk ⟨by omega,by omega⟩,Zpk ⟨by omega,by omega⟩, ?_⟩;have q1:=ZAq o (m+2) ((e+a) % 4294967296) hi1;rw[ee]at q1;have q2:Bw ^ (m+2)*((e+a) % 4294967296+Bw*((e+a) / 4294967296))=Bw ^ (m+2)*(e+a):=by rw[ZMl]
  rw[ZMo,ZMo,←ZMp,←ZMC]at q2;have hdn:Dg (o.set (m+2) ((e+a) % 4294967296)):=hod.set _ (ZMn _ (by decide));have hlt:=Zx9 hdn;rw[ZLY,hol]at hlt;have hco:(e+a) / 4294967296≤1:=by simp only[Bw]at h1;omega
  have hpw:Bw ^ (m+2+1)=Bw ^ (m+3):=rfl;rw[hpw]at q2;have egD:g*val d=(g - 1)*val d+val d:=by rw[show g*val d=(g - 1+1)*val d by rw[Nat.sub_add_cancel hgp],ZL7,ZMz]
  have key:val (o.set (m+2) ((e+a) % 4294967296))+(g - 1)*val d=W:=by
   rcases ZMe ((e+a) / 4294967296)with hz |hz
   ·rw[hz,ZMy]at q2;omega
   ·rw[show (e+a) / 4294967296=1 by omega,ZMx]at q2;omega
  have hl3:(o.set (m+2) ((e+a) % 4294967296)).length=m+3:=by rw[ZLY,hol]
  generalize o.set (m+2) ((e+a) % 4294967296)=w3 at*
  have hlt3:val w3 < val d:=by omega
  have eq1:W / val d=g - 1:=by rw[←key,ZL8 _ _ hDpos,ZMc hlt3,ZMH]
  have eq2:W % val d=val w3:=by rw[←key,ZL9,ZMm hlt3]
  exact⟨w3,by rw[eq1],hl3,hdn,eq2.symm⟩
theorem ZG7 {pre w suf d:List Nat} {m:Nat} (hw:w.length=m+3) (hd:d.length=m+2) (hwd:Dg w) (hdd:Dg d) (hm:m≤100000) {g:Nat} (hg:g < Bw)
  (hDpos:0 < val d) (hq:val w / val d≤g) (hg2:g*val d < val w+val d):
  wp (ZwR pre.length (m+3) (iL d) ((m+2:Nat):Int) (g:Int) (iL (pre++(w++suf)))) (ZGn pre suf (val w) (val d) m):=by
 unfold ZwR;rw[ZnC,Zol,hd];refine ZnK (Zug ZAP (m+2) (by omega) (fun i (t:Nat×Nat×List Nat)=>(pre.length,m+3,iL d,((m+2:Nat):Int),(g:Int),(t.1:Int),(t.2.1:Int),iL d,((m+2:Nat):Int),i,iL (pre++(t.2.2++suf)))) (fun i t=>t.1≤1∧t.2.1 < Bw∧t.2.2.length=m+3∧Dg t.2.2∧val t.2.2+g*val (d.take i)=val w+Bw ^ i*(t.1+t.2.1))
  (Q:=fun y=>∃(b c:Nat) (w2:List Nat),y=(pre.length,m+3,iL d,((m+2:Nat):Int),(g:Int),(b:Int),(c:Int),iL (pre++(w2++suf)))∧b≤1∧c < Bw∧w2.length=m+3∧Dg w2∧val w2+g*val d=val w+Bw ^ (m+2)*(b+c)) (0,0,w) ⟨by simp,by simp,hw,hwd,by simp[val]⟩ ?_ ?_) ?_
 ·rintro rec i ⟨b,c,o⟩ hi ⟨hb,hc,hol,hod,hv⟩ ih;dsimp only at hb hc hol hod hv ih;have hi1:i < o.length:=by omega
  have hi2:i < d.length:=by omega
  have h1:=hod.get hi1;have h2:=hdd.get hi2;unfold ZxU ZvO;dsimp only;rw[Zog];refine⟨fun _=> ?_,fun h=>by have:=of_decide_eq_false h;omega⟩;rw[ZvT hi2,ZnC,ZnB,ZnF,ZnC,ZLO,rdw hi1,ZnB];generalize ex:d[i]=x at h2;generalize ee:o[i]=e at h1;have hbd:=ZA1 hg h2;have es:IntKind.wrap .u64 ((c:Int)+((g*x:Nat):Int))=((c+g*x:Nat):Int):=by simp only[Bw]at hc;rw[←ZIO,Zo8 (by omega)]
  rw[ZHw hg h2,es,Zwr,ZHa h1 (ZMn _ (by decide)) hb,ZnC,ZnB];dsimp only;rw[ZnF,ZnF,ZnF,stw _ hi1,show (32:Int)=((32:Nat):Int)from rfl,ZAD 32 (by omega)];refine⟨Zpk ⟨by omega,by omega⟩,Zpk ⟨by omega,by omega⟩,by decide,ZnJ (by omega), ?_⟩;have hlo:(c+g*x) % 4294967296 < 4294967296:=ZMn _ (by decide);have hhi:(c+g*x) / 2 ^ 32 < Bw:=by simp only[Bw]at hc⊢;omega
  have hs:(c+g*x) % 4294967296+Bw*((c+g*x) / 2 ^ 32)=c+g*x:=ZMl _ _;generalize (c+g*x) % 4294967296=lo at*
  generalize (c+g*x) / 2 ^ 32=hi' at*
  refine ih ((if e < lo+b then 1 else 0),hi',o.set i ((e+4294967296 - lo - b) % 4294967296)) ⟨by dsimp only;split<;>omega,hhi,by simp[hol],hod.set _ (ZMn _ (by decide)), ?_⟩;dsimp only;have q1:=ZAq o i ((e+4294967296 - lo - b) % 4294967296) hi1;rw[ee]at q1;have e1:e+Bw*(if e < lo+b then 1 else 0)=(e+4294967296 - lo - b) % 4294967296+lo+b:=by simp only[Bw]at h1⊢;split<;>omega
  have q2:Bw ^ i*(e+Bw*(if e < lo+b then 1 else 0))=Bw ^ i*((e+4294967296 - lo - b) % 4294967296+lo+b):=by rw[e1]
  have q3:Bw ^ i*(lo+Bw*hi')=Bw ^ i*(c+g*x):=by rw[hs]
  have q4:g*(Bw ^ i*x)=Bw ^ i*(g*x):=ZMu _ _ _;rw[ZMo,ZMo,ZMo]at q2;rw[ZMo,ZMo]at q3;rw[ZMo]at hv;rw[ZMC,ZMp,ZoQ hi2,ex,ZMo,ZMo Bw,ZMo];omega
 ·rintro rec ⟨b,c,o⟩ ⟨hb,hc,hol,hod,hv⟩;dsimp only at hb hc hol hod hv;unfold ZxU ZvO;dsimp only;rw[Zog];refine⟨fun h=>by have:=of_decide_eq_true h;omega,fun _=> ?_⟩;rw[ZnB];rw[ZL6 (by omega)]at hv;exact⟨b,c,o,rfl,hb,hc,hol,hod,hv⟩
 ·rintro y ⟨b,c,o,rfl,hb,hc,hol,hod,hv⟩;dsimp only;have hi1:m+2 < o.length:=by omega
  have h1:=hod.get hi1;unfold ZyD;rw[ZnF,ZnC,ZLO,rdw hi1,ZnB,ZwW hc];generalize ee:o[m+2]=e at h1;rw[ZHa h1 hc hb,ZnC,ZnB];dsimp only;rw[ZnF,stw _ hi1,ZwW hg];refine⟨Zpk ⟨by omega,by omega⟩,Zpk ⟨by omega,by omega⟩, ?_⟩;have q1:=ZAq o (m+2) ((e+4294967296 - c - b) % 4294967296) hi1;rw[ee]at q1;have e1:e+Bw*(if e < c+b then 1 else 0)=(e+4294967296 - c - b) % 4294967296+c+b:=by simp only[Bw]at h1 hc⊢;split<;>omega
  have q2:Bw ^ (m+2)*(e+Bw*(if e < c+b then 1 else 0))=Bw ^ (m+2)*((e+4294967296 - c - b) % 4294967296+c+b):=by rw[e1]
  rw[ZMo,ZMo,ZMo,←ZMp,←ZMC]at q2;rw[ZMo]at hv;have hpw:Bw ^ (m+2+1)=Bw ^ (m+3):=rfl;rw[hpw]at q2;have hdn:Dg (o.set (m+2) ((e+4294967296 - c - b) % 4294967296)):=hod.set _ (ZMn _ (by decide));have hlt:=Zx9 hdn;rw[ZLY,hol]at hlt;have hl3:(o.set (m+2) ((e+4294967296 - c - b) % 4294967296)).length=m+3:=by rw[ZLY,hol]
  generalize o.set (m+2) ((e+4294967296 - c - b) % 4294967296)=w3 at*
  generalize (e+4294967296 - c - b) % 4294967296=dd at*
  by_cases hcc:e < c+b
  ·rw[if_pos hcc]at q2⊢
   rw[show (((1:Nat):Int) == 0)=false from rfl,cond_false];rw[Zol d];exact ZHR (pre:=pre) (suf:=suf) hl3 hd hdn hdd hm hg (by omega) hg2 (by omega)
  ·rw[if_neg hcc]at q2⊢
   rw[show (((0:Nat):Int) == 0)=true from rfl,cond_true,ZnB];have key:val w3+g*val d=val w:=by omega
   have hlt3:val w3 < val d:=by have h5:(val w / val d)*val d≤g*val d:=ZMt _ hq;have h6:=ZMb (val w) (val d);have h7:=ZMn (val w) hDpos;rw[ZMq]at h6;omega
   have eq1:val w / val d=g:=by rw[←key,ZL8 _ _ hDpos,ZMc hlt3,ZMH]
   have eq2:val w % val d=val w3:=by rw[←key,ZL9,ZMm hlt3]
   exact⟨w3,by rw[eq1],hl3,hdn,eq2.symm⟩
theorem ZGh {pre w suf d:List Nat} {m:Nat} (hw:w.length=m+3) (hd:d.length=m+2) (hwd:Dg w) (hdd:Dg d) (hm:m≤100000) (h1:1≤d[m+1]) (hlt:val w < Bw*val d):
  wp (ZxA (iL (pre++(w++suf))) pre.length (m+3) (iL d)) (ZGn pre suf (val w) (val d) m):=by
 have hd1:=hdd.get (i:=m+1) (by omega);have hd2:=hdd.get (i:=m) (by omega);have h_u0:=hwd.get (i:=m+2) (by omega);have h_u1:=hwd.get (i:=m+1) (by omega);have h_u2:=hwd.get (i:=m) (by omega);have hdl:val (d.take m) < Bw ^ m:=by have:=Zx9 (hdd.take m);rwa [ZL0,ZMk (by omega)]at this
 have hwl:val (w.take m) < Bw ^ m:=by have:=Zx9 (hwd.take m);rwa [ZL0,ZMk (by omega)]at this
 have eW:=top3 hw;have eD:=ZKL hd;have hDpos:0 < val d:=by rw[eD];have:1*1≤(d[m+1]*Bw+d[m])*Bw ^ m:=ZMr (by simp only[Bw];omega) (Nat.pow_pos (by decide));omega
 have hk1:w[m+2]≤d[m+1]:=ZI2 hdl hd2 (by rw[←eW,←eD];exact hlt);have hk2:(val w / val d)*d[m+1]≤w[m+2]*Bw+w[m+1]:=ZI1 hwl h_u2 (by rw[←eW,←eD];exact Nat.div_mul_le_self _ _);have hqB:val w / val d < Bw:=(ZMd hDpos).2 hlt;have hG:∃g:Nat,(if (4294967295:Int) < (IntKind.wrap .u64 (Int.tdiv (orK .u64 (shlK .u64 (IntKind.wrap .u64 (w[m+2]:Int)) 32) (IntKind.wrap .u64 (w[m+1]:Int))) (IntKind.wrap .u64 (d[m+1]:Int))))then (4294967295:Int)else (IntKind.wrap .u64 (Int.tdiv (orK .u64 (shlK .u64 (IntKind.wrap .u64 (w[m+2]:Int)) 32) (IntKind.wrap .u64 (w[m+1]:Int))) (IntKind.wrap .u64 (d[m+1]:Int)))))=(g:Int)∧g < Bw∧val w / val d≤g∧g*d[m+1]≤w[m+2]*Bw+w[m+1]∧w[m+2]*Bw+w[m+1] < g*d[m+1]+2*Bw:=by
  rw[ZDr h_u0 h_u1,Zo8 (by simp only[Bw]at hd1;omega)];have e1:Int.tdiv ((w[m+2]*4294967296+w[m+1]:Nat):Int) (d[m+1]:Int)=(((w[m+2]*4294967296+w[m+1]) / d[m+1]:Nat):Int):=by rw[Int.tdiv_eq_ediv_of_nonneg (by omega)];norm_cast
  have hnum:w[m+2]*4294967296+w[m+1] < 18446744073709551616:=by simp only[Bw]at h_u0 h_u1;omega
  have hle:(w[m+2]*4294967296+w[m+1]) / d[m+1]≤w[m+2]*4294967296+w[m+1]:=Nat.div_le_self _ _;rw[e1,Zo8 (by omega)];have hq2:val w / val d≤(w[m+2]*4294967296+w[m+1]) / d[m+1]:=(Nat.le_div_iff_mul_le (by omega)).2 hk2;have hdm:=ZMb (w[m+2]*4294967296+w[m+1]) d[m+1];have hml:=ZMn (w[m+2]*4294967296+w[m+1]) (show 0 < d[m+1] by omega);rw[ZMq]at hdm;generalize (w[m+2]*4294967296+w[m+1]) / d[m+1]=q0 at*
  generalize (w[m+2]*4294967296+w[m+1]) % d[m+1]=r0 at*
  generalize val w / val d=qq at*
  by_cases hc:4294967295 < q0
  ·refine⟨4294967295,by rw[if_pos (by omega)];rfl,by simp only[Bw];omega,by simp only[Bw]at hqB;omega, ?_, ?_⟩
   ·have:=ZMt d[m+1] (show 4294967295≤q0 by omega);simp only[Bw];omega
   ·simp only[Bw]at*
    omega
  ·refine⟨q0,by rw[if_neg (by omega)],by simp only[Bw];omega,hq2, ?_, ?_⟩
   ·simp only[Bw];omega
   ·simp only[Bw]at*
    omega
 have h2:wp (ZyA (iL (pre++(w++suf))) pre.length (m+3) (iL d)) (ZGn pre suf (val w) (val d) m):=by
  obtain⟨g,hg,hgB,hgq,hgd,hgr⟩:=hG;have e1:((m+2:Nat):Int) - 1=((m+1:Nat):Int):=by omega
  unfold ZyA;rw[Zol,hd,e1,ZLO,ZLO,rdw (by omega),rdw (by omega),ZvT (by omega)];rw[ZnF,ZnC,ZnB,ZnF,ZnF,ZnF,ZnC,ZnB,ZnF,ZnC,ZnB,ZnF,ZnF,ZnC,ZnB,hg,ZDr h_u0 h_u1,ZHw hgB hd1,ZnC];have er:IntKind.wrap .u64 (((w[m+2]*4294967296+w[m+1]:Nat):Int) - ((g*d[m+1]:Nat):Int))=((w[m+2]*4294967296+w[m+1] - g*d[m+1]:Nat):Int):=by simp only[Bw]at hgd hgr;rw[←Int.ofNat_sub hgd,Zo8 (by omega)]
  rw[er];refine⟨Zpk ⟨by omega,by omega⟩,by decide,ZnJ (by omega),Zpk ⟨by omega,by omega⟩,ZnJ (by omega),decide_eq_true (by rw[Zo8 (by simp only[Bw]at hd1;omega)];omega),ZnJ (by omega), ?_⟩;refine ZnK (ZGd hw hd hwd hdd h1 hlt hm hgB hgq (by simp only[Bw]at hgd⊢;omega) (by simp only[Bw]at hgr⊢;omega)) ?_;rintro y ⟨g',rfl,h3,h4,h5⟩;exact ZG7 hw hd hwd hdd hm h3 hDpos h4 h5
 unfold ZxA;rw[ZnC];refine ZnK h2 ?_;rintro y ⟨w',rfl,h3,h4,h5⟩;rw[ZnF,ZnB];refine⟨?_,w',rfl,h3,h4,h5⟩;dsimp only;rw[Zol,Zol];simp[h3,hw]
end Go.Proofs
namespace Go.Proofs
open Go Eng
theorem ZEe (l:List Nat) (h:l.length≤1000000):Zpi (iL l)=some (iL l):=by
 cases l with
 |nil=>
  have e1:ZnN [] true=some []:=rfl;have e2:ZnN [] false=some []:=by kernel_rfl
  show agree (ZnN [] true) (ZnN [] false)=some [];rw[e1,e2,ZEA]
 |cons x l=>
  show ZnN (iL (x::l)) false=_;unfold ZnN;rw[cond_false,Zyk (by rw[Zol,List.length_nil];omega),chk_true];rfl
theorem ZBL {l:List Nat} {k:Nat} (h:val l < Bw ^ k):val (l.take k)=val l:=by
 rcases ZMi k l.length with hk |hk
 ·have e:val l=val (l.take k++l.drop k):=by rw[ZL5]
  rw[ZAr,ZL0,ZMk (by omega)]at e;rcases ZMe (val (l.drop k))with hz |hz
  ·rw[hz,ZMy,ZMa]at e;exact e.symm
  ·have:=ZMs (Bw ^ k) hz;omega
 ·rw[ZL6 hk]
theorem ZKK (u:List Nat) (k:Nat) (hk:k≤u.length) (hk2:k≤1000000):∃k',k'≤k∧val (u.take k')=val (u.take k)∧Zvo (iL u) 0 k=some (0,k',iL u):=by
 have h:wp (Zwm (iL u) 0 k) (fun y=>∃k',k'≤k∧val (u.take k')=val (u.take k)∧y=(0,k',iL u)):=by
  unfold Zwm ZwO;rw[ZnC];refine ZnK (ZqA ZAf (fun(j:Nat)=>(0,j,iL u)) (fun j=>j≤k∧val (u.take j)=val (u.take k)) (fun j=>j) (Q:=fun y=>∃k',k'≤k∧val (u.take k')=val (u.take k)∧y=(0,k',iL u)) k ⟨Nat.le_refl _,rfl⟩ (by omega) ?_) (fun y hy=>ZnB.2 hy);rintro rec j ⟨hj,hv⟩ ih;unfold Zyv Zwh ZuN;dsimp only;cases j with
  |zero=>exact ZnB.2 ⟨0,hj,hv,rfl⟩
  |succ j=>
   have hju:j < u.length:=by omega
   have e1:((j+1:Nat):Int) - 1=(j:Int):=by omega
   rw[Zog];refine⟨fun _=> ?_,fun h=>by have:=of_decide_eq_false h;omega⟩;rw[e1,ZLO,ZMH,ZnF,ZnF,ZA4 hju,ZnC,ZnB,Zog];refine⟨ZnJ (by omega),Zpk ⟨by omega,by omega⟩,fun h=> ?_,fun h=> ?_⟩
   ·have h0:u[j]=0:=by have:=eq_of_beq h;omega
    rw[ZnF,ZnF];refine⟨ZnJ (by omega),ZsO ⟨by omega,by omega,by omega⟩,ih j ⟨by omega, ?_⟩ (by omega)⟩;rw[←hv,ZoQ hju,h0,ZMy,ZMa]
   ·exact ZnB.2 ⟨j+1,hj,hv,rfl⟩
 obtain⟨y,hy,k',h1,h2,rfl⟩:=h;refine⟨k',h1,h2, ?_⟩;unfold Zvo;rw[hy,ZMI];simp
theorem ZEM {x y s:Nat} (hs:s≤31) (hx:x < Bw) (hy:y < Bw):((y*4294967296+x) / 2 ^ s % 4294967296)*2 ^ s+x % 2 ^ s=x+Bw*(y % 2 ^ s):=by
 have e:(4294967296:Nat)=2 ^ (32 - s)*2 ^ s:=by rw[←ZMA,show 32 - s+s=32 by omega]
 have hp:=ZMF s;have h1:=ZMb x (2 ^ s);have h2:=ZMb y (2 ^ s);have hx2:x / 2 ^ s < 2 ^ (32 - s):=(ZMd hp).2 (by rw[←e];exact hx);have hy2:=ZMn y hp;have e1:(y*4294967296+x) / 2 ^ s=y*2 ^ (32 - s)+x / 2 ^ s:=by rw[e,←ZMp,Nat.add_comm,ZL8 _ _ hp,Nat.add_comm]
 have e2:y*2 ^ (32 - s)+x / 2 ^ s=(y % 2 ^ s)*2 ^ (32 - s)+x / 2 ^ s+4294967296*(y / 2 ^ s):=by
  rw[e];have:y*2 ^ (32 - s)=(2 ^ s*(y / 2 ^ s)+y % 2 ^ s)*2 ^ (32 - s):=by rw[h2]
  rw[this,ZL7,ZMq (2 ^ s),ZMq (2 ^ (32 - s)),ZMp (y / 2 ^ s),ZMq (y / 2 ^ s)];omega
 have hlt:(y % 2 ^ s)*2 ^ (32 - s)+x / 2 ^ s < 4294967296:=by have:=ZMt (2 ^ (32 - s)) (show y % 2 ^ s+1≤2 ^ s from hy2);rw[ZL7,ZMz,ZMq (2 ^ s),←e]at this;omega
 rw[e1,e2,Nat.add_mul_mod_self_left,ZMm hlt,ZL7,ZMp,←e,ZMq (x / 2 ^ s),ZMq (y % 2 ^ s)];simp only[Bw];omega
theorem ZIJ {u:List Nat} {k s R:Nat} (q:List Int) (hs:s≤31) (hd:Dg u) (hk:k≤u.length) (hk2:k≤1000000) (hv:val (u.take k)=R*2 ^ s):
  wp (Zsy big (s:Int) 0 k ((k:Nat):Int) (0:Int) q (iL u)) (fun y=>∃(o:List Nat),y=(0,k,q,iL (o++u.drop k))∧o.length=k∧Dg o∧val o=R):=by
 refine Zug Zz2 k (by omega) (fun i (o:List Nat)=>((s:Int),0,k,(k:Int),i,q,iL (o++u.drop o.length))) (fun i o=>o.length=i∧Dg o∧val o*2 ^ s+(if 0 < k then u.getD 0 0 else 0) % 2 ^ s=val (u.take i)+Bw ^ i*((if i < k then u.getD i 0 else 0) % 2 ^ s)) [] ⟨rfl,ZA6,by simp[val]⟩ ?_ ?_
 ·rintro rec i o hi ⟨hol,hod,hov⟩ ih;have hiu:i < u.length:=by omega
  have h1:=hd.get hiu;unfold ZvG Ztz;dsimp only;rw[Zog];refine⟨fun _=> ?_,fun h=>by have:=of_decide_eq_false h;omega⟩;have hlen:(o++u.drop o.length).length=u.length:=by simp;omega
  have gx:(iL (o++u.drop o.length))[i]? =some (u[i]:Int):=by rw[ZA4 (by omega)];congr 2;rw[ZLT (by omega)];simp[hol]
  obtain⟨y,hy,hyB,hye⟩:∃y:Nat,ZuL (iL (o++u.drop o.length)) 0 k ((i:Int)+1)=some ((y:Int),iL (o++u.drop o.length))∧y < Bw∧y=(if i+1 < k then u.getD (i+1) 0 else 0):=by
   unfold ZuL ZxR
   by_cases hc:i+1 < k
   ·have hiu2:i+1 < u.length:=by omega
    have gy:(iL (o++u.drop o.length))[i+1]? =some (u[i+1]:Int):=by rw[ZA4 (by omega)];congr 2;rw[ZLT (by omega)];simp[hol]
    refine⟨u[i+1], ?_,hd.get hiu2, ?_⟩
    ·rw[decide_eq_true (by omega),cond_true,Zpk ⟨by omega,by omega⟩,chk_true,ZMH,show ((i:Int)+1).toNat=i+1 by omega,gy];simp
    ·rw[if_pos hc,ZLQ,ZLR hiu2];rfl
   ·refine⟨0, ?_,by decide,by rw[if_neg hc]⟩;rw[decide_eq_false (by omega),cond_false];simp
  rw[hy,ZnF,ZnC,ZnB];dsimp only;rw[ZLO,ZMH,gx,ZnF,ZnF,ZnC,ZnB,ZnF,ZnF,ZnF,ZDr hyB h1,ZAD s (by omega),Zwr];refine⟨ZnJ (by omega),by decide,Zpk ⟨by omega,by omega⟩,by simp,Zpk ⟨by omega,by omega⟩,ZnJ (by omega), ?_⟩;generalize ez:(y*4294967296+u[i]) / 2 ^ s % 4294967296=z;have hz:z < Bw:=by rw[←ez];exact ZMn _ (by decide)
  have es:(iL (o++u.drop o.length)).set i (z:Int)=iL ((o++[z])++u.drop (o++[z]).length):=by rw[ZAl,ZL3 _ _ (by omega),hol,ZME,←ZLU (h:=hiu),ZL4];simp[hol]
  rw[es];refine ih (o++[z]) ⟨by simp[hol],hod.app (ZAA hz), ?_⟩;have hd1:=ZEM hs h1 hyB;rw[ez]at hd1;have q1:Bw ^ i*(z*2 ^ s+u[i] % 2 ^ s)=Bw ^ i*(u[i]+Bw*(y % 2 ^ s)):=by rw[hd1]
  have eg:u.getD i 0=u[i]:=by rw[ZLQ,ZLR hiu];rfl
  rw[if_pos hi,eg]at hov;rw[ZMo,ZMo]at q1;rw[Zxi,hol,ZoQ hiu,←hye,ZMC,ZL7,ZMp,ZMp];omega
 ·rintro rec o ⟨hol,hod,hov⟩;unfold ZvG Ztz;dsimp only;rw[Zog];refine⟨fun h=>by have:=of_decide_eq_true h;omega,fun _=> ?_⟩;rw[ZnB];refine⟨o,by rw[hol],hol,hod, ?_⟩;rw[if_neg (Nat.lt_irrefl _),Nat.zero_mod,ZMy,ZMa,hv]at hov;have hp:=ZMF s;have:(val o*2 ^ s+(if 0 < k then u.getD 0 0 else 0) % 2 ^ s) / 2 ^ s=R*2 ^ s / 2 ^ s:=by rw[hov]
  rw[Nat.add_comm,ZL8 _ _ hp,ZMc (ZMn _ hp),Nat.mul_div_cancel _ hp]at this;omega
theorem ZEr {x s:Nat} (hs:s≤31) (h:x*2 ^ s < 4294967296):(x+1)*2 ^ s≤4294967296:=by
 have e:(4294967296:Nat)=2 ^ (32 - s)*2 ^ s:=by rw[←ZMA,show 32 - s+s=32 by omega]
 rw[e]at h⊢
 exact ZMt _ (Nat.lt_of_mul_lt_mul_right h)
theorem ZFK {d u:List Nat} {m K s U:Nat} (hd:d.length=m+2) (hdd:Dg d) (h1:1≤d[m+1]) (hu:u.length=K+m+2) (hud:Dg u) (hU:val u=U) (hlt:U < Bw ^ K*val d) (hK:K≤100000) (hm:m≤100000):
  wp (Zsz big ((m+2:Nat):Int) (s:Int) (iL d) ((K:Int) - 1) (iL u) (iL (ZL2 K 0))) (fun y=>∃u' qs:List Nat,y=(((m+2:Nat):Int),(s:Int),iL u',iL qs)∧u'.length=K+m+2∧Dg u'∧qs.length=K∧Dg qs∧val u'+val qs*val d=U∧val u' < val d):=by
 rw[show iL (ZL2 K 0)=iL (ZL2 (K - ([]:List Nat).length) 0++[]) by simp];have hDlt:=Zx9 hdd;rw[hd]at hDlt;refine ZBx Zz3 K (by omega) (fun i (t:List Nat×List Nat)=>(((m+2:Nat):Int),(s:Int),iL d,i,iL t.1,iL (ZL2 (K - t.2.length) 0++t.2))) (fun k t=>t.1.length=K+m+2∧Dg t.1∧t.2.length+k=K∧Dg t.2∧val t.1+Bw ^ k*(val t.2*val d)=U∧val t.1 < Bw ^ k*val d) (u,[]) ⟨hu,hud,by simp,ZA6,by simp[val,hU],by rw[hU];exact hlt⟩ ?_ ?_
 ·rintro rec k ⟨v,qs⟩ hk ⟨hvl,hvd,hql,hqd,hv,hvlt⟩ ih;dsimp only at hvl hvd hql hqd hv hvlt ih;unfold ZvH ZtA;dsimp only;have hwl:((v.drop k).take (m+3)).length=m+3:=by simp;omega
  have hpl:(v.take k).length=k:=by simp;omega
  have esplit:v=v.take k++((v.drop k).take (m+3)++v.drop (k+(m+3))):=by rw[←List.drop_drop,ZL5,ZL5]
  have hvs:val v=val (v.take k)+Bw ^ k*(val ((v.drop k).take (m+3))+Bw ^ (m+3)*val (v.drop (k+(m+3)))):=by
   have:val v=val (v.take k++((v.drop k).take (m+3)++v.drop (k+(m+3)))):=by rw[←esplit]
   rw[this,ZAr,ZAr,hpl,hwl]
  have hpd:=Zx9 (hvd.take k);rw[hpl]at hpd;have hwd:=(hvd.drop k).take (m+3);have hsd:=hvd.drop (k+(m+3));have hvd':=hvd;generalize v.take k=pre at*
  generalize (v.drop k).take (m+3)=w at*
  generalize v.drop (k+(m+3))=suf at*
  subst esplit;have hX:val w+Bw ^ (m+3)*val suf < Bw*val d:=by
   have:Bw ^ k*(val w+Bw ^ (m+3)*val suf) < Bw ^ k*(Bw*val d):=by rw[←ZMp,←ZMC];show _ < Bw ^ (k+1)*val d;omega
   exact Nat.lt_of_mul_lt_mul_left this
  have hs0:val suf=0:=by
   rcases ZMe (val suf)with hz |hz
   ·exact hz
   ·exfalso;have h5:=ZMs (Bw ^ (m+3)) hz;have h6:Bw*val d≤Bw*Bw ^ (m+2):=ZMs _ (Nat.le_of_lt hDlt);rw[ZMq Bw (Bw ^ (m+2)),←ZMC]at h6;have h7:Bw*val d≤Bw ^ (m+3):=h6;omega
  rw[hs0,ZMy,ZMa]at hX hvs;rw[Zog];refine⟨fun _=> ?_,fun h=>by have:=of_decide_eq_false h;omega⟩;rw[ZnF,ZnF,ZnF,ZnC,Zol,hvl];refine⟨ZnJ (by omega),ZnJ (by omega),ZsO ⟨by omega,by omega,by omega⟩, ?_⟩;rw[show ((k:Int)+((m+2:Nat):Int)+1).toNat - (k:Int).toNat=m+3 by omega,ZLO];have hdw:=ZGh (pre:=pre) (suf:=suf) hwl hd hwd hdd hm h1 hX;rw[hpl]at hdw;refine ZnK hdw ?_;rintro y ⟨w',rfl,hw'l,hw'd,hw'v⟩;dsimp only;have hDpos:0 < val d:=by
   rcases ZMe (val d)with hz |hz
   ·rw[hz,ZMy]at hX;omega
   ·exact hz
  have hq:val w / val d < Bw:=(ZMd hDpos).2 hX;have hdm:=ZMb (val w) (val d);have hml:=ZMn (val w) hDpos;generalize val w / val d=q at*
  have es:(ZL2 (K - qs.length) 0++qs).set k q=ZL2 (K - (qs.length+1)) 0++q::qs:=by
   have e:K - qs.length=k+1:=by omega
   have e2:K - (qs.length+1)=k:=by omega
   rw[e,e2,List.replicate_succ',List.append_assoc,ZL3 _ _ (by simp),ZLX,ZME];rfl
  rw[ZnF,ZnF,ZAl,es];refine⟨Zpk ⟨by omega,by rw[Zol];simp only[ZLV,ZLX];omega⟩,ZnJ (by omega), ?_⟩;have hsl:suf.length+(k+(m+3))=K+m+2:=by rw[←hvl,ZLV,ZLV,hpl,hwl];omega
  refine ih (pre++(w'++suf),q::qs) ⟨?_, ?_,by simp only[ZLW];omega,fun y hy=> ?_, ?_, ?_⟩
  ·simp only[ZLV,hpl,hw'l];omega
  ·refine Dg.app (fun y hy=>hvd' y (List.mem_append_left _ hy)) (Dg.app hw'd hsd)
  ·rcases ZL1.1 hy with rfl |hy
   ·exact hq
   ·exact hqd y hy
  ·dsimp only;rw[ZAr,ZAr,hpl,hs0,ZMy,ZMa,hw'v,val,ZL7,ZMo];rw[hvs,←hdm,ZMo,ZMC,ZMp]at hv;rw[ZMq q (val d),ZMp Bw];omega
  ·dsimp only;rw[ZAr,ZAr,hpl,hs0,ZMy,ZMa,hw'v];have:=ZMs (Bw ^ k) (show val w % val d+1≤val d from hml);rw[ZMo,ZMx]at this;omega
 ·rintro rec ⟨v,qs⟩ ⟨hvl,hvd,hql,hqd,hv,hvlt⟩;dsimp only at hvl hvd hql hqd hv hvlt;unfold ZvH ZtA;dsimp only;rw[Zog];refine⟨fun h=>by have:=of_decide_eq_true h;omega,fun _=> ?_⟩;rw[ZnB];rw[Nat.pow_zero,ZMz]at hv hvlt;refine⟨v,qs, ?_,hvl,hvd,hql,hqd,hv,hvlt⟩;rw[show K - qs.length=0 by omega];rfl
end Go.Proofs
namespace Go.Proofs
open Go Eng
theorem ZBB (a b:Nat) (hb0:b≠0) (ha:(wd a).length≤50000) (hb:(wd b).length≤50000):Zrd (iL (wd a)) (iL (wd b))=some (iL (wd (a / b)),iL (wd (a % b))):=by
 refine Zqz ?_;unfold Zrd;rw[ZBK a b (by omega) (by omega),ZnC,ZnB,Zog];refine⟨fun h=> ?_,fun h=> ?_⟩
 ·have hab:a < b:=by
   have:=of_decide_eq_true h;rcases ZMj a b with h1 |h1 |h1
   ·exact h1
   ·rw[h1,Zx2]at this;omega
   ·rw[ZyQ h1]at this;omega
  rw[ZEe _ (by omega),ZnC,ZnB,ZnB,ZMc hab,ZMm hab,Zxg,ZI5]
 ·have hab:b≤a:=by
   have:=of_decide_eq_false h;rcases ZMj a b with h1 |h1 |h1
   ·rw[Zy3 h1]at this;omega
   ·omega
   ·omega
  have hlb:=Zws hb0;rw[Zol,Zol,Zog];refine⟨fun h=> ?_,fun h=> ?_⟩
  ·have h1:(wd b).length=1:=by have:=eq_of_beq h;omega
   have hbB:b < Bw:=by have:=ZxD b;rwa [h1,Nat.pow_one]at this
   have eb:idx (iL (wd b)) 0=some (b:Int):=by rw[ZBm hb0,ZMm hbB];rfl
   rw[eb,ZnC,ZnB,ZFP a b hb0 hbB (by omega),ZnC,ZnB];dsimp only;have hr:a % b < Bw:=Nat.lt_trans (ZMn _ (by omega)) hbB;rw[show ([((a % b:Nat):Int)]:List Int)=iL [a % b]from rfl,ZAC (ZAA hr) (by simp),ZnC,ZnB,ZnB];simp only[val,ZMy,ZMa]
  ·obtain⟨m,hm⟩:∃m,(wd b).length=m+2:=⟨(wd b).length - 2,by
    have:(wd b).length≠1:=fun e=>by rw[e]at h;exact absurd h (by decide)
    omega⟩
   have hla:m+2≤(wd a).length:=by
    rcases ZMi (wd a).length (wd b).length with h1 |h1
    ·have:=ZCB h1;omega
    ·omega
   have hi:m+1 < (wd b).length:=by omega
   have htop:(wd b)[m+1]≠0:=fun e=>by have h1:=ZoQ hi;rw[e,ZMy,ZMa,ZL6 (by omega),ZtU]at h1;have h2:=Zx9 ((ZwX b).take (m+1));rw[ZL0,ZMk (by omega)]at h2;have h3:=ZC9 hi;omega
   obtain⟨s,hs,hse,hs1,hs2⟩:=ZIW htop ((ZwX b).get hi);have e1:((m+2:Nat):Int) - 1=((m+1:Nat):Int):=by omega
   rw[hm,e1,ZvT hi,ZnF,ZnC,ZnB,hse,ZnC,ZnB];refine⟨ZnJ (by omega), ?_⟩;obtain⟨u,hu,hud,hul,huv⟩:=ZCx (wd a) s hs (by omega) (ZwX a);obtain⟨v,hv,hvd,hvl,hvv⟩:=ZCx (wd b) s hs (by omega) (ZwX b);rw[hu,ZnC,ZnB,hv,ZnC,ZnB,ZnF,ZnF,ZnF,ZnF,ZnF];rw[ZtU]at huv hvv;have hvlt:val v < Bw ^ (m+2):=by
    have h1:=ZoQ hi;rw[ZL6 (by omega),ZtU]at h1;have h2:=Zx9 ((ZwX b).take (m+1));rw[ZL0,ZMk (by omega)]at h2;have h3:b+1≤Bw ^ (m+1)*((wd b)[m+1]+1):=by rw[ZMo,ZMx];omega
    have h4:=ZMt (2 ^ s) h3;have h5:=ZMs (Bw ^ (m+1)) (ZEr hs hs2);rw[ZMp]at h4;have h6:=ZMF s;rw[ZL7,ZMz]at h4;rw[hvv,ZMC];show _ < Bw ^ (m+1)*4294967296;omega
   obtain⟨K,hK⟩:∃K,(wd a).length=K+m+1:=⟨(wd a).length - m - 1,by omega⟩;have eK:((wd a).length:Int) - ((m+2:Nat):Int)+1=(K:Int):=by omega
   have ed:((iL v).drop 0).take (((m+2:Nat):Int).toNat - 0)=iL (v.take (m+2)):=by rw[ZLP,ZLO,Nat.sub_zero,ZDL]
   have hdv:val (v.take (m+2))=b*2 ^ s:=by rw[ZBL hvlt,hvv]
   have hdl:(v.take (m+2)).length=m+2:=by rw[ZL0];omega
   have hdd:=hvd.take (m+2);rw[eK,ed,ZLO,ZCi,Zol v,Zol (ZL2 K 0),ZLX];refine⟨ZsO ⟨by omega,by omega,by omega⟩,ZnJ (by omega),ZnJ (by omega),ZAH (by omega),ZnJ (by omega), ?_⟩;generalize v.take (m+2)=d at*
   have hp:=ZMF s;have h1:1≤d[m+1]:=by
    rcases ZMe d[m+1]with hz |hz
    ·exfalso;have h1:=ZoQ (l:=d) (k:=m+1) (by omega);rw[hz,ZMy,ZMa,ZL6 (by omega)]at h1;have h2:=Zx9 (hdd.take (m+1));rw[ZL0,ZMk (by omega)]at h2;rw[hdv]at h1;have h3:=ZC9 hi;have:=Nat.le_mul_of_pos_right b hp;omega
    ·exact hz
   have hUlt:a*2 ^ s < Bw ^ K*val d:=by have h2:=ZxD a;have h3:=ZMs (Bw ^ K) (ZC9 hi);rw[←ZMA,←Nat.add_assoc,←hK]at h3;rw[hdv,←ZMp];exact ZMv (by omega) hp
   rw[ZnC];refine ZnK (ZFK (s:=s) hdl hdd h1 (by omega) hud huv hUlt (by omega) (by omega)) ?_;rintro y ⟨u',qs,rfl,hu'l,hu'd,hql,hqd,hv',hlt'⟩;dsimp only;have hDpos:0 < val d:=by omega
   have eq1:val qs=a / b:=by rw[←Nat.mul_div_mul_right a b hp,←hdv,←hv',ZL8 _ _ hDpos,ZMc hlt',ZMH]
   have eq2:val u'=a % b*2 ^ s:=by rw[←ZMw,←hdv,←hv',ZL9,ZMm hlt']
   have hDlt:=Zx9 hdd;rw[hdl]at hDlt;have hut:val (u'.take (m+2))=val u':=ZBL (by omega);obtain⟨k',hk',hkv,hke⟩:=ZKK u' (m+2) (by omega) (by omega);unfold ZwD;rw[ZLO,Nat.sub_zero,hke,ZnF,ZnC,ZnB,Zol];refine⟨ZsO ⟨by omega,by omega,by omega⟩, ?_⟩;dsimp only;rw[ZnC];refine ZnK (ZIJ (R:=a % b) (iL qs) hs hu'd (by omega) (by omega) (by rw[hkv,hut,eq2])) ?_;rintro y ⟨o,rfl,hol,hod,hov⟩;dsimp only;unfold ZwC;have eo:((iL (o++u'.drop k')).drop 0).take k'=iL o:=by rw[ZLP,ZDL,List.take_left' hol]
   rw[eo,ZAC hqd (by omega),ZnC,ZnB,ZAC hod (by omega),ZnC,ZnB,ZnB,eq1,hov]
theorem Zux {a b:Nat} (h:a≤b):(wd a).length≤(wd b).length:=Zy6 (Nat.lt_of_le_of_lt h (ZxD b))
theorem ZCl:∀(n a b:Nat),b≤a→a*b < 2 ^ n→(wd a).length≤50000→∀f,n < f→ZpD f (iL (wd a)) (iL (wd b))=some (iL (wd (ZMf a b)))
 |n,a,b,hba,hn,ha,0,hf=>absurd hf (by omega)
 |n,a,b,hba,hn,ha,f+1,hf=>by
  show ZqQ (ZpD f) _ _=_;unfold ZqQ;rw[Zol]
  by_cases h0:b=0
  ·subst h0;rw[Zxg,Nat.gcd_zero_right];rfl
  ·have hl:=Zws h0;rw[decide_eq_true (by omega),cond_true,ZBB a b h0 ha (ZMg (Zux hba) ha),ZMI];dsimp only;have hlt:=ZMn a (show 0 < b by omega);cases n with
   |zero=>
    have:1*1≤a*b:=ZMr (by omega) (by omega);rw[Nat.pow_zero]at hn;omega
   |succ n=>
    have hdm:=ZMb a b;have hq:1≤a / b:=(Nat.le_div_iff_mul_le (by omega)).2 (by omega);have h1:=ZMs b hq;have h2:b*(2*(a % b))≤b*a:=ZMs b (by omega);rw[ZMu,ZMq b a]at h2;rw[ZCl n b (a % b) (by omega) (by rw[ZMC]at hn;omega) (ZMg (Zux hba) ha) f (by omega),Nat.gcd_comm a b,Nat.gcd_rec b a,Nat.gcd_comm]
theorem ZCm (a b:Nat) (ha:(wd a).length≤50000) (hb:(wd b).length≤50000):Zrr (iL (wd a)) (iL (wd b))=some (iL (wd (ZMf a b))):=by
 have bnd:∀x y:Nat,x*y < 2 ^ (32*(wd x).length+32*(wd y).length):=fun x y=>by
  have e:∀z,z < 2 ^ (32*(wd z).length):=fun z=>by
   have:=ZxD z
   rwa [show Bw=2 ^ 32 from rfl,←Nat.pow_mul]at this
  have h1:=Nat.mul_lt_mul_of_lt_of_le (e x) (Nat.le_of_lt (e y)) (ZMF _)
  rwa [←ZMA]at h1
 have key:ZpD big (iL (wd a)) (iL (wd b))=some (iL (wd (ZMf a b))):=by
  obtain⟨k,hk,hk2⟩:∃k,big=k+1∧3200004 < k:=⟨36893488147419103231,by rw[big_eq],by omega⟩;rw[hk];rcases ZMi a b with h |h
  ·show ZqQ (ZpD k) _ _=_;unfold ZqQ;have h0:b≠0:=by omega
   have hl:=Zws h0;rw[Zol,decide_eq_true (by omega),cond_true,ZBB a b h0 ha hb,ZMI];dsimp only;rw[ZMm h,ZCl _ b a (by omega) (bnd b a) hb k (by omega),Nat.gcd_comm]
  ·exact ZCl _ a b h (bnd a b) ha (k+1) (by omega)
 unfold Zrr ZvI;rw[key,ZMI]
end Go.Proofs
namespace Go.Proofs
open Go Eng
def bg (z:Int):ZnD:=⟨decide (z < 0),iL (wd z.natAbs)⟩
theorem ZAp (z:Int):(bg z).Neg=decide (z < 0):=rfl
theorem ZqR (z:Int):(bg z).Words=iL (wd z.natAbs):=rfl
abbrev Wl (n:Nat) (z:Int):Prop:=(wd z.natAbs).length≤n
theorem ZwY (neg:Bool) (n:Nat) (h:(wd n).length≤1000000):ZoW neg (iL (wd n))=some (bg (if neg then -(n:Int)else n)):=by
 unfold ZoW Zwn bg;have hr:ZiZ (iL (wd n)).length 4=true:=Zyk (by rw[Zol];omega);cases neg with
 |true=>
  rw[cond_true,hr,chk_true,Zol,if_pos rfl,Int.natAbs_neg,Int.natAbs_natCast];congr 2
  by_cases h0:n=0
  ·subst h0;rw[Zxg];rfl
  ·have:=Zws h0;rw[decide_eq_true (by omega),decide_eq_true (by omega)]
 |false=>
  rw[cond_false,hr,chk_true,if_neg (by decide),Int.natAbs_natCast,decide_eq_false (by omega)]
theorem ZBF (n:Nat) (h:n < 18446744073709551616):Zti (n:Int)=some (iL (wd n)):=by
 unfold Zti;have e:([IntKind.wrap .u32 (n:Int),IntKind.wrap .u32 (shrK .u64 (n:Int) 32)]:List Int)=iL [n % 4294967296,n / 4294967296]:=by rw[show (32:Int)=((32:Nat):Int)from rfl,ZAD 32 (by omega),Zwr,ZwW (by omega)];rfl
 have hd:Dg [n % 4294967296,n / 4294967296]:=fun d hd=>by
  simp only[ZL1,List.mem_singleton,List.not_mem_nil,or_false]at hd;rcases hd with rfl |rfl
  ·exact ZMn _ (by decide)
  ·simp only[Bw];omega
 rw[e,ZAC hd (by simp)];have hv:val [n % 4294967296,n / 4294967296]=n:=by simp only[val,ZMy,ZMa];exact ZMl n Bw
 rw[hv];rfl
theorem ZHz {n:Nat} (h:n < 18446744073709551616):(wd n).length≤2:=Zy6 (by simp only[Bw];omega)
theorem ZCD (z:Int) (h1: -9223372036854775808≤z) (h2:z≤9223372036854775807):Zui z=some (bg z):=by
 unfold Zui
 by_cases hz:z < 0
 ·have e:IntKind.wrap .u64 (0 - IntKind.wrap .u64 z)=((z.natAbs:Nat):Int):=by rw[IntKind.wrap_u64,IntKind.wrap_u64];omega
  rw[decide_eq_true hz,cond_true,e,ZBF _ (by omega),ZMI,ZwY _ _ (ZMg (ZHz (by omega)) (by decide)),ZMI,if_pos rfl,show -((z.natAbs:Nat):Int)=z by omega]
 ·have e:IntKind.wrap .u64 z=((z.natAbs:Nat):Int):=by rw[IntKind.wrap_u64];omega
  rw[decide_eq_false hz,cond_false,e,ZBF _ (by omega),ZMI,ZwY _ _ (ZMg (ZHz (by omega)) (by decide)),ZMI,if_neg (by decide),show ((z.natAbs:Nat):Int)=z by omega]
theorem ZzU (z:Int) (h:Wl 256 z):ZtS (bg z)=some true:=by
 unfold Wl at h;have top:∀hp:0 < (wd z.natAbs).length,∃x:Nat,idx (iL (wd z.natAbs)) (((wd z.natAbs).length:Int) - 1)=some (x:Int)∧x≠0:=fun hp=>by
  refine⟨(wd z.natAbs)[(wd z.natAbs).length - 1], ?_,fun e=> ?_⟩
  ·rw[show ((wd z.natAbs).length:Int) - 1=(((wd z.natAbs).length - 1:Nat):Int) by omega,ZvT (by omega)]
  ·have hi:(wd z.natAbs).length - 1 < (wd z.natAbs).length:=by omega
   have h1:=ZoQ hi;rw[e,ZMy,ZMa,ZL6 (by omega),ZtU]at h1;have h2:=Zx9 ((ZwX z.natAbs).take ((wd z.natAbs).length - 1));rw[ZL0,ZMk (by omega)]at h2;have h3:=ZC9 hi;omega
 unfold ZtS ZpV;rw[ZqR,ZAp,Zol,decide_eq_true (by omega),cond_true]
 by_cases h0:(wd z.natAbs).length=0
 ·have:z=0:=by have:=ZIz.1 (List.eq_nil_of_length_eq_zero h0);omega
  subst this;rw[h0];rfl
 ·obtain⟨x,hx,hx0⟩:=top (by omega);have e0:(((wd z.natAbs).length:Int) == 0)=false:=beq_eq_false_iff_ne.2 (by omega);have e1:((x:Int) != 0)=true:=by simp only[bne_iff_ne];omega
  rw[e0,cond_false,decide_eq_true (by omega),cond_true,ZnJ (by omega),chk_true,hx,ZMI,e1]
theorem ZFn (x y:Int):(if (!((bg x).Neg == (bg y).Neg))=true then -((x.natAbs*y.natAbs:Nat):Int)else ((x.natAbs*y.natAbs:Nat):Int))=x*y:=by
 rw[ZAp,ZAp]
 by_cases hx:x < 0<;>by_cases hy:y < 0
 ·rw[decide_eq_true hx,decide_eq_true hy,if_neg (by decide),ZLN,show ((x.natAbs:Nat):Int)= -x by omega,show ((y.natAbs:Nat):Int)= -y by omega,Int.neg_mul_neg]
 ·rw[decide_eq_true hx,decide_eq_false hy,if_pos (by decide),ZLN,show ((x.natAbs:Nat):Int)= -x by omega,show ((y.natAbs:Nat):Int)=y by omega,Int.neg_mul,Int.neg_neg]
 ·rw[decide_eq_false hx,decide_eq_true hy,if_pos (by decide),ZLN,show ((x.natAbs:Nat):Int)=x by omega,show ((y.natAbs:Nat):Int)= -y by omega,Int.mul_neg,Int.neg_neg]
 ·rw[decide_eq_false hx,decide_eq_false hy,if_neg (by decide),ZLN,show ((x.natAbs:Nat):Int)=x by omega,show ((y.natAbs:Nat):Int)=y by omega]
theorem ZDQ {x y:Nat} {n m:Nat} (hx:(wd x).length≤n) (hy:(wd y).length≤m):(wd (x*y)).length≤n+m:=by refine Zy6 ?_;have h1:=Nat.mul_lt_mul_of_lt_of_le (ZxD x) (Nat.le_of_lt (ZxD y)) (Nat.pow_pos (by decide));rw[←ZMA]at h1;exact ZMh h1 (ZMB (by decide) (by omega))
theorem ZBA (x y:Int) (hx:Wl 50000 x) (hy:Wl 50000 y):Zp7 (bg x) (bg y)=some (bg (x*y)):=by unfold Zp7;have:=ZDQ hx hy;rw[ZqR,ZqR,ZCN _ _ (by omega) (by omega),ZMI,ZwY _ _ (by omega),ZMI,ZFn]
theorem ZC8 {x y n:Nat} (hx:(wd x).length≤n) (hy:(wd y).length≤n):(wd (x+y)).length≤n+1:=by refine Zy6 ?_;have h1:=ZMh (ZxD x) (ZMB (n:=Bw) (by decide) hx);have h2:=ZMh (ZxD y) (ZMB (n:=Bw) (by decide) hy);rw[ZMC];have:=ZMs (Bw ^ n) (show 2≤Bw by decide);omega
theorem ZIG (x y:Int) (hx:Wl 50000 x) (hy:Wl 50000 y):Zxe (bg x) (bg y)=some (bg (x+y)):=by
 unfold Wl at hx hy;unfold Zxe;have h1:=ZC8 hx hy;rw[ZqR,ZqR,ZAp,ZAp];have opp:decide (x < 0)≠decide (y < 0)→Zpr (iL (wd x.natAbs)) (iL (wd y.natAbs))=some (ZCA x.natAbs y.natAbs):=fun _=>ZBK _ _ (by omega) (by omega)
 by_cases hs:decide (x < 0)=decide (y < 0)
 ·rw[hs,beq_self_eq_true,cond_true,ZEQ _ _ (by omega) (by omega),ZMI,ZwY _ _ (by omega),ZMI];congr 2
  by_cases hy0:y < 0
  ·have hx0:x < 0:=by rw[decide_eq_true hy0]at hs;exact of_decide_eq_true hs
   rw[decide_eq_true hy0,if_pos rfl];omega
  ·have hx0:¬x < 0:=by rw[decide_eq_false hy0]at hs;exact of_decide_eq_false hs
   rw[decide_eq_false hy0,if_neg (by decide)];omega
 ·rw[beq_eq_false_iff_ne.2 hs,cond_false,opp hs,ZMI];rcases ZMi x.natAbs y.natAbs with hlt |hge
  ·have:=Zux (Nat.sub_le y.natAbs x.natAbs);rw[Zy3 hlt,decide_eq_false (by omega),cond_false,ZEb _ _ (by omega) (by omega),ZMI,ZwY _ _ (by omega),ZMI];congr 2
   by_cases hy0:y < 0
   ·have hx0:¬x < 0:=fun h=>hs (by rw[decide_eq_true hy0,decide_eq_true h])
    rw[decide_eq_true hy0,if_pos rfl];omega
   ·have hx0:x < 0:=Decidable.byContradiction fun h=>hs (by rw[decide_eq_false hy0,decide_eq_false h])
    rw[decide_eq_false hy0,if_neg (by decide)];omega
  ·have hn:ZCA x.natAbs y.natAbs≥0:=by
    rcases ZMi y.natAbs x.natAbs with h |h
    ·rw[ZyQ h];decide
    ·rw[show x.natAbs=y.natAbs by omega,Zx2];decide
   have:=Zux (Nat.sub_le x.natAbs y.natAbs);rw[decide_eq_true hn,cond_true,ZEb _ _ hge (by omega),ZMI,ZwY _ _ (by omega),ZMI];congr 2
   by_cases hx0:x < 0
   ·have hy0:¬y < 0:=fun h=>hs (by rw[decide_eq_true hx0,decide_eq_true h])
    rw[decide_eq_true hx0,if_pos rfl];omega
   ·have hy0:y < 0:=Decidable.byContradiction fun h=>hs (by rw[decide_eq_false hx0,decide_eq_false h])
    rw[decide_eq_false hx0,if_neg (by decide)];omega
end Go.Proofs
namespace Go.Proofs
open Go Eng
def fOf (q:Rat):ZnE:=⟨bg q.num,bg (q.den:Int)⟩
theorem ZDR {x n:Nat} (g:Nat) (h:(wd x).length≤n):(wd (x / g)).length≤n:=ZMg (Zux (Nat.div_le_self x g)) h
theorem ZEE {x y n:Nat} (hy:0 < y) (h:(wd y).length≤n):(wd (ZMf x y)).length≤n:=ZMg (Zux (Nat.gcd_le_right x hy)) h
theorem ZBa (x y:Int) (hy:y≠0) (hx1:Wl 50000 x) (hy1:Wl 50000 y):ZrF (bg x) (bg y)=some (fOf (Rat.divInt x y)):=by
 have hy0:0 < y.natAbs:=by omega
 have hg0:ZMf x.natAbs y.natAbs≠0:=fun e=>by have:=Nat.gcd_pos_of_pos_right x.natAbs hy0;omega
 have hgl:=ZEE (x:=x.natAbs) hy0 hy1;have hxl:=ZDR (ZMf x.natAbs y.natAbs) hx1;have hyl:=ZDR (ZMf x.natAbs y.natAbs) hy1;unfold ZrF;rw[ZqR,ZqR,ZCm _ _ hx1 hy1,ZMI,ZBB _ _ hg0 hx1 hgl,ZMI];dsimp only;rw[ZBB _ _ hg0 hy1 hgl,ZMI];dsimp only;rw[ZwY _ _ (by omega),ZMI,ZwY _ _ (by omega),ZMI,ZAp,ZAp];unfold fOf;rw[Rat.num_divInt,Rat.den_divInt,if_neg hy];have eg:Int.gcd y x=ZMf x.natAbs y.natAbs:=by rw[Int.gcd_comm];rfl
 rw[eg];have key:(if (!(decide (x < 0) == decide (y < 0)))=true then -((x.natAbs / ZMf x.natAbs y.natAbs:Nat):Int)else ((x.natAbs / ZMf x.natAbs y.natAbs:Nat):Int))=y.sign*x / (ZMf x.natAbs y.natAbs:Int):=by
  obtain⟨k,hk⟩:=Nat.gcd_dvd_left x.natAbs y.natAbs;generalize ZMf x.natAbs y.natAbs=g at*
  have hgp:0 < g:=by omega
  have e1:x.natAbs / g=k:=by rw[hk,Nat.mul_div_cancel_left _ hgp]
  have e2:((g:Int)*(k:Int)) / (g:Int)=k:=Int.mul_ediv_cancel_left _ (by omega);have e3:(-((g:Int)*(k:Int))) / (g:Int)= -k:=by rw[←Int.mul_neg,Int.mul_ediv_cancel_left _ (by omega)]
  have hk':((x.natAbs:Nat):Int)=(g:Int)*(k:Int):=by rw[hk];norm_cast
  rw[e1]
  by_cases hx0:x < 0<;>by_cases hy0:y < 0
  ·rw[decide_eq_true hx0,decide_eq_true hy0,if_neg (by decide),Int.sign_eq_neg_one_of_neg hy0,show -1*x=(g:Int)*k by omega,e2]
  ·rw[decide_eq_true hx0,decide_eq_false hy0,if_pos (by decide),Int.sign_eq_one_of_pos (by omega),show 1*x= -((g:Int)*k) by omega,e3]
  ·rw[decide_eq_false hx0,decide_eq_true hy0,if_pos (by decide),Int.sign_eq_neg_one_of_neg hy0,show -1*x= -((g:Int)*k) by omega,e3]
  ·rw[decide_eq_false hx0,decide_eq_false hy0,if_neg (by decide),Int.sign_eq_one_of_pos (by omega),show 1*x=(g:Int)*k by omega,e2]
 rw[key,if_neg Bool.false_ne_true]
theorem ZFm:∀l:List Int,l.length≤1000→(∀z∈l,Wl 256 z)→ZwE (l.map bg)=some true:=fun l hl h=>by
 refine Zqz ?_;unfold ZwE;rw[ZnC,List.length_map];refine ZnK (Zug ZAV l.length (by omega) (fun i (_:Unit)=>(l.map bg,(l.length:Int),i)) (fun _ _=>True) (Q:=fun r=>r= .brk ()) () trivial ?_ ?_) ?_
 ·rintro rec i ⟨⟩ hi _ ih;unfold Zyi Zwo;dsimp only;rw[Zog];refine⟨fun _=> ?_,fun h=>by have:=of_decide_eq_false h;omega⟩;rw[ZwV (by rw[List.length_map];exact hi),ZnC,ZnB,List.getElem_map,ZzU _ (h _ (List.getElem_mem hi)),ZnC,ZnB];rw[Bool.not_true,cond_false,ZnF];exact⟨ZnJ (by omega),ih () trivial⟩
 ·rintro rec ⟨⟩ _;unfold Zyi Zwo;dsimp only;rw[Zog];refine⟨fun h=>by have:=of_decide_eq_true h;omega,fun _=>ZnB.2 rfl⟩
 ·rintro r rfl;exact ZnB.2 rfl
abbrev Wq (n:Nat) (q:Rat):Prop:=Wl n q.num∧Wl n (q.den:Int)
theorem ZCa:iL (wd 1)=[1]:=by rw[ZBm (by decide),show 1 / Bw=0 from rfl,Zxg];rfl
theorem ZCK (q:Rat) (h:Wq 256 q):Zut (fOf q)=some true:=by
 unfold Zut ZtR fOf;have hb:=ZFm [q.num,(q.den:Int)] (by simp) (fun z hz=>by
  simp only[ZL1,List.not_mem_nil,or_false]at hz;rcases hz with rfl |rfl
  ·exact h.1
  ·exact h.2)
 have hd:=q.den_nz;have hl:=Zws (n:=(q.den:Int).natAbs) (by omega);have hn:=h.1;have hdl:=h.2;unfold Wl at hn hdl;dsimp only;rw[show ([bg q.num,bg (q.den:Int)]:List ZnD)=[q.num,(q.den:Int)].map bg from rfl,hb,ZMI,cond_true,ZqR,ZqR,Zol,decide_eq_true (by omega),cond_true,ZAp,decide_eq_false (by omega),Bool.not_false,cond_true,ZCm _ _ (by omega) (by omega),ZMI];have hc:ZMf q.num.natAbs (q.den:Int).natAbs=1:=q.reduced;have h1:(wd 1).length≤1:=Zy6 (by decide);rw[hc,←ZCa,ZBK 1 1 (by omega) (by omega),ZMI,Zx2];rfl
end Go.Proofs
