/- Plain laws over the specs, part 0. -/
import Derived.Test.YthefajbigloihaaGreatDoorE4
import Derived.Laws.BitsLemmas
import Derived.Laws.Bits64
import Derived.KernelRfl
import Derived.Test.YthefajbigloihaaGreatDoorSnS
set_option linter.unusedVariables false
set_option linter.unusedSimpArgs false
set_option linter.unusedSectionVars false
open Int renaming toNat_natCast→ZDt, natCast_add→ZBb, natCast_mul→ZDs
open List renaming replicate→ZDH, take_of_length_le→ZDL, length_take→ZDF, getElem?_eq_getElem→ZDw, length_append→ZDA, length_replicate→ZDC, set_append_right→ZDI, mem_cons→ZDG, getD_eq_getElem?_getD→ZDv, length_cons→ZDB, getElem_cons_drop→ZDz, drop_zero→ZDu, length_set→ZDD, length_singleton→ZDE, take_append_drop→ZDK, set_cons_zero→ZDJ, getElem_append_right→ZDy, getElem?_eq_none→ZDx
open Nat renaming mul_add→ZD3, mul_assoc→ZD4, mod_lt→ZD2, mul_comm→ZD5, pow_succ→ZEh, mul_zero→ZEd, add_mul→ZDM, mul_le_mul_right→ZD8, add_zero→ZDP, mul_le_mul_left→ZD7, min_eq_left→ZDZ, gcd→ZDU, pow_add→ZEf, one_mul→ZEe, two_pow_pos→ZEk, mod_eq_of_lt→ZD1, div_lt_iff_lt_mul→ZDS, lt_or_ge→ZDX, eq_zero_or_pos→ZDT, mod_add_div→ZD0, div_eq_of_lt→ZDR, le_trans→ZDV, zero_add→ZEm, sub_self→ZEj, div_add_mod→ZDQ, mul_one→ZEc, lt_trichotomy→ZDY, mul_le_mul→ZD6, mul_left_comm→ZD9, lt_of_lt_of_le→ZDW, pow_le_pow_right→ZEg, add_mul_div_right→ZDN, xor_lt_two_pow→ZEl, shiftRight_xor_distrib→ZEi, mul_lt_mul_of_pos_right→ZEa, mul_mod_mul_right→ZEb, add_mul_mod_self_right→ZDO
open Option renaming bind_some→ZEn
namespace Go.Proofs
open Go Eng
def wp {α:Type} (o:Option α) (Q:α→Prop):Prop:=∃x,o=some x∧Q x
section
variable {α β:Type} {Q:α→Prop}
theorem ZnB {x:α}:wp (some x) Q↔Q x:=⟨fun⟨_,h,q⟩=>by cases h;exact q,fun q=>⟨x,rfl,q⟩⟩
theorem Zz4:wp (none:Option α) Q↔False:=by simp[wp]
theorem ZnF {o:Option β} {f:β→Option α}:wp (o.bind f) Q↔wp o (fun a=>wp (f a) Q):=by
 constructor
 ·rintro⟨x,h,q⟩;obtain⟨a,ha,h⟩:=bind_some h;exact⟨a,ha,x,h,q⟩
 ·rintro⟨a,rfl,x,h,q⟩;exact⟨x,h,q⟩
theorem ZnE {b:Bool} {o:Option α}:wp (chk b o) Q↔b=true∧wp o Q:=by cases b<;>simp[chk,wp]
theorem ZnW {b:Bool} {x y:Option α}:wp (bif b then x else y) Q↔(b=true→wp x Q)∧(b=false→wp y Q):=by cases b<;>simp
theorem ZA2 {xs:List α} {i:Nat}:wp (xs[i]?) Q↔∃h:i < xs.length,Q xs[i]:=by
 constructor
 ·rintro⟨x,h,q⟩;obtain⟨h1,h2⟩:=List.getElem?_eq_some_iff.1 h;subst h2;exact⟨h1,q⟩
 ·rintro⟨h,q⟩;exact⟨_,ZDw h,q⟩
theorem Zzr {xs:List α} {i:Int}:wp (idx xs i) Q↔0≤i∧∃h:i.toNat < xs.length,Q xs[i.toNat]:=by
 unfold idx;split
 ·rename_i h;rw[ZA2];simp[h]
 ·rename_i h;rw[Zz4];simp[h]
theorem ZoD {R:α→Prop} {o:Option α} (h:wp o Q) (hr:∀x,Q x→R x):wp o R:=by obtain⟨x,h,q⟩:=h;exact⟨x,h,hr x q⟩
theorem ZqA {o:Option α} {x:α} (h:wp o (· =x)):o=some x:=by obtain⟨y,h,rfl⟩:=h;exact h
theorem Zye (a:Option α):agree a a=a:=by unfold agree;rw[if_pos rfl]
end
theorem ZnI {n:Int} (h: -9223372036854775808≤n∧n≤9223372036854775807):inK .i64 n=true:=by
 have h0:IntKind.i64.min= -9223372036854775808:=by decide
 have h1:IntKind.i64.max=9223372036854775807:=by decide
 simp only[inK,h0,h1];exact decide_eq_true h
theorem ZuE {n b:Nat} (h:n*(b+1)≤140737488355328):ZiZ n b=true:=decide_eq_true (ZDV (ZD7 n (by omega)) h)
theorem wrap_i64 {n:Int} (h: -9223372036854775808≤n∧n≤9223372036854775807):IntKind.wrap .i64 n=n:=by rw[IntKind.wrap_i64];omega
theorem wrap_u8 {n:Int} (h:0≤n∧n≤255):IntKind.wrap .u8 n=n:=by rw[IntKind.wrap_u8];omega
theorem wrap_u64 {n:Int} (h:0≤n∧n≤18446744073709551615):IntKind.wrap .u64 n=n:=by rw[IntKind.wrap_u64];omega
theorem Zrd {n m:Int} (h:0≤n∧n < m):inR n m=true:=decide_eq_true h
theorem Zuu {a b c:Int} (h:0≤a∧a≤b∧b≤c):Zb9 a b c=true:=decide_eq_true h
theorem Zws {m:Nat} (h:m≤36893488147419103231):m < big:=by rw[big_eq];omega
theorem ZAJ (k:Nat) (h:k≤36893488147419103232):∃n,big=n+k:=⟨36893488147419103232 - k,by rw[big_eq];omega⟩
end Go.Proofs
namespace Go.Proofs
open Go Eng
theorem ZwU {α σ τ X:Type} {f:Nat→σ→Option X} {body:(σ→Option X)→σ→Option X} (hf:∀n s,f (n+1) s=body (f n) s)
  (xs:List α) (hlen:xs.length≤1000000000000000) (st:Int→τ→σ) (P:Nat→τ→Prop) {Q:X→Prop} (t0:τ) (h0:P 0 t0)
  (step:∀(rec:σ→Option X) (k:Nat) t (h:k < xs.length),P k t→(∀t',P (k+1) t'→wp (rec (st ((k:Int)+1) t')) Q)→wp (body rec (st (k:Int) t)) Q)
  (fin:∀(rec:σ→Option X) t,P xs.length t→wp (body rec (st (xs.length:Int) t)) Q):wp (f big (st 0 t0)) Q:=by
 have key:∀(n k:Nat) t,k≤xs.length→P k t→xs.length - k < n→wp (f n (st (k:Int) t)) Q:=by
  intro n
  induction n with
  |zero=>intro k t _ _ h;omega
  |succ n ih=>
   intro k t hk hP hm;rw[hf]
   by_cases hlt:k < xs.length
   ·refine step _ k t hlt hP fun t' h'=> ?_
    exact ih (k+1) t' (by omega) h' (by omega)
   ·have:k=xs.length:=by omega
    subst this;exact fin _ t hP
 exact key big 0 t0 (Nat.zero_le _) h0 (by rw[big_eq];omega)
theorem Zrr {σ τ X:Type} {f:Nat→σ→Option X} {body:(σ→Option X)→σ→Option X} (hf:∀n s,f (n+1) s=body (f n) s)
  (m:Nat) (hlen:m≤1000000000000000) (st:Int→τ→σ) (P:Nat→τ→Prop) {Q:X→Prop} (t0:τ) (h0:P 0 t0)
  (step:∀(rec:σ→Option X) (k:Nat) t (h:k < m),P k t→(∀t',P (k+1) t'→wp (rec (st ((k:Int)+1) t')) Q)→wp (body rec (st (k:Int) t)) Q)
  (fin:∀(rec:σ→Option X) t,P m t→wp (body rec (st (m:Int) t)) Q):wp (f big (st 0 t0)) Q:=by
 have e:(ZDH m ()).length=m:=ZDC;refine ZwU hf (ZDH m ()) (by omega) st P t0 h0 (fun rec k s h=>step rec k s (by omega)) (fun rec s h=> ?_);rw[e]at h⊢
 exact fin rec s h
theorem ZuU {σ τ X:Type} {f:Nat→σ→Option X} {body:(σ→Option X)→σ→Option X} (hf:∀n s,f (n+1) s=body (f n) s)
  (st:τ→σ) (P:τ→Prop) (m:τ→Nat) {Q:X→Prop} (t0:τ) (h0:P t0) (hm:m t0≤1000000000000000)
  (step:∀(rec:σ→Option X) t,P t→(∀t',P t'→m t' < m t→wp (rec (st t')) Q)→wp (body rec (st t)) Q):wp (f big (st t0)) Q:=by
 have key:∀(n:Nat) t,P t→m t < n→wp (f n (st t)) Q:=by
  intro n
  induction n with
  |zero=>intro t _ h;omega
  |succ n ih=>
   intro t hP hm;rw[hf];exact step _ t hP fun t' h' hlt=>ih t' h' (by omega)
 exact key big t0 h0 (by rw[big_eq];omega)
theorem ZhP {α:Type} {xs:List α} {i:Int} (h0:0≤i) (h:i.toNat < xs.length):idx xs i=some xs[i.toNat]:=by unfold idx;rw[if_pos h0,ZDw h]
theorem Zua {α:Type} {xs:List α} {k:Nat} (h:k < xs.length):idx xs (k:Int)=some xs[k]:=by rw[ZhP (by omega) (by simpa using h)];simp
theorem ZAy {α:Type} {xs:List α} {k:Nat} (h:k < xs.length):inR (k:Int) (xs.length:Int)=true:=Zrd ⟨by omega,by omega⟩
end Go.Proofs
namespace Go.Proofs
open Go Eng
theorem ZBi (n:Int) {m:Int} (h:1≤m∧m≤1000000):wp (ZqJ n m) (fun r=>0≤r∧r < m):=by have ha: -m < Int.tmod n m∧Int.tmod n m < m:=⟨Int.lt_tmod_of_pos n (by omega),Int.tmod_lt_of_pos n (by omega)⟩;unfold ZqJ;have h3:decide (m < 1)=false:=decide_eq_false (by omega);have h4:decide (m≠0)=true:=decide_eq_true (by omega);rw[h3,cond_false,ZnE,ZnE,ZnE,ZnB];exact⟨h4,ZnI (by omega),h4,Int.tmod_nonneg _ (by omega),Int.tmod_lt_of_pos _ (by omega)⟩
def ZwH (d:ZnD):Prop:=0≤d.at_∧d.at_≤d.l.length∧d.l.length≤500
theorem ZyA {d:ZnD} (hd:ZwH d) {n:Int} (hn:1≤n∧n≤1000000):wp (Zor d n) (fun r=>(0≤r.1∧r.1 < n)∧ZwH r.2):=by
 unfold Zor;have hd0:=hd;obtain⟨h0,h1,h2⟩:=hd0;rw[ZnW];refine⟨fun h=> ?_,fun h=> ?_⟩
 ·rw[ZnB];exact⟨by simp only;omega,hd⟩
 ·simp only[decide_eq_false_iff_not]at h;simp only[ZnE,ZnF,Zzr,ZnB];refine⟨ZnI (by omega),ZnI (by omega),by omega,by omega,ZoD (ZBi _ hn) fun r hr=>⟨hr, ?_⟩⟩;simp only[ZwH];omega
end Go.Proofs
namespace Go.Proofs
open Go Eng
theorem Zt5 (w a:Nat) (h:a < 2 ^ w):(BitVec.ofInt w (a:Int)).toNat=a:=by rw[BitVec.toNat_ofInt];have:((a:Int) % ((2 ^ w:Nat):Int))=(a:Int):=Int.emod_eq_of_lt (by omega) (by exact_mod_cast h);rw[this];simp
theorem ZwX {a b:Nat} (ha:a < 4294967296) (hb:b < 4294967296):andK .u32 (a:Int) (b:Int)=((a&&& b:Nat):Int):=by unfold andK;rw[show IntKind.bits .u32=32 from rfl,BitVec.toNat_and,Zt5 32 a ha,Zt5 32 b hb,IntKind.wrap_u32];have:=Nat.and_lt_two_pow (n:=32) a hb;omega
theorem Zxc {a b:Nat} (ha:a < 4294967296) (hb:b < 4294967296):orK .u32 (a:Int) (b:Int)=((a|||b:Nat):Int):=by unfold orK;rw[show IntKind.bits .u32=32 from rfl,BitVec.toNat_or,Zt5 32 a ha,Zt5 32 b hb,IntKind.wrap_u32];have:=Nat.or_lt_two_pow (n:=32) ha hb;omega
theorem Zxo {a b:Nat} (ha:a < 4294967296) (hb:b < 4294967296):xorK .u32 (a:Int) (b:Int)=((a ^^^ b:Nat):Int):=by unfold xorK;rw[show IntKind.bits .u32=32 from rfl,BitVec.toNat_xor,Zt5 32 a ha,Zt5 32 b hb,IntKind.wrap_u32];have:=ZEl (n:=32) ha hb;omega
theorem ZBc {a b:Nat} (ha:a < 18446744073709551616) (hb:b < 18446744073709551616):orK .u64 (a:Int) (b:Int)=((a|||b:Nat):Int):=by unfold orK;rw[show IntKind.bits .u64=64 from rfl,BitVec.toNat_or,Zt5 64 a ha,Zt5 64 b hb,IntKind.wrap_u64];have:=Nat.or_lt_two_pow (n:=64) ha hb;omega
theorem Zvn {a:Nat} (k:Nat) (hk:k≤64):shrK .u64 (a:Int) (k:Int)=((a / 2 ^ k:Nat):Int):=by
 unfold shrK;rw[show IntKind.bits .u64=64 from rfl,ZDt,ZDZ hk,Int.fdiv_eq_ediv_of_nonneg _ (Int.le_of_lt (Int.pow_pos (by decide)))]
 norm_cast
theorem ZvH {a:Nat} (k:Nat) (hk:k≤32):shrK .u32 (a:Int) (k:Int)=((a / 2 ^ k:Nat):Int):=by
 unfold shrK;rw[show IntKind.bits .u32=32 from rfl,ZDt,ZDZ hk,Int.fdiv_eq_ediv_of_nonneg _ (Int.le_of_lt (Int.pow_pos (by decide)))]
 norm_cast
theorem Zs6 (a:Nat):IntKind.wrap .u32 (a:Int)=((a % 4294967296:Nat):Int):=by rw[IntKind.wrap_u32];omega
theorem Zn3 {a:Nat} (h:a < 18446744073709551616):IntKind.wrap .u64 (a:Int)=(a:Int):=by rw[IntKind.wrap_u64];omega
theorem Ztk {a:Nat} (h:a < 4294967296):IntKind.wrap .u32 (a:Int)=(a:Int):=by rw[IntKind.wrap_u32];omega
theorem ZBT {a b c:Nat} (ha:a < 4294967296) (hb:b < 4294967296) (hc:c≤1):ZqU (a:Int) (b:Int) (c:Int)=some ((((a+b+c) % 4294967296:Nat):Int),(((a+b+c) / 4294967296:Nat):Int)):=by
 unfold ZqU;have e:IntKind.wrap .u64 ((IntKind.wrap .u64 ((IntKind.wrap .u64 (a:Int))+(IntKind.wrap .u64 (b:Int))))+(IntKind.wrap .u64 (c:Int)))=((a+b+c:Nat):Int):=by rw[Zn3 (by omega),Zn3 (by omega),Zn3 (by omega),←ZBb,Zn3 (by omega),←ZBb,Zn3 (by omega)]
 rw[e,show (32:Int)=((32:Nat):Int)from rfl,Zvn 32 (by omega),Zs6,Ztk (a:=(a+b+c) / 2 ^ 32) (by omega)];rfl
theorem ZAI {a:Nat} (h:a < 4294967296):(a >>> 31=0∧a < 2147483648)∨(a >>> 31=1∧2147483648≤a):=by rw[Nat.shiftRight_eq_div_pow];omega
theorem ZAb {a b c:Nat} (ha:a < 4294967296) (hb:b < 4294967296) (hc:c≤1):Zp7 (a:Int) (b:Int) (c:Int)=some ((((a+4294967296 - b - c) % 4294967296:Nat):Int),((if a < b+c then 1 else 0:Nat):Int)):=by
 unfold Zp7;have hM:(if IntKind.signed .u32 then (-1:Int)else IntKind.max .u32)=((4294967295:Nat):Int):=rfl;have e:IntKind.wrap .u32 ((IntKind.wrap .u32 ((a:Int) - (b:Int))) - (c:Int))=(((a+4294967296 - b - c) % 4294967296:Nat):Int):=by rw[IntKind.wrap_u32,IntKind.wrap_u32];omega
 have hD:(a+4294967296 - b - c) % 4294967296 < 4294967296:=ZD2 _ (by decide);rw[hM,e];generalize hd:(a+4294967296 - b - c) % 4294967296=D at hD⊢
 have h1:a ^^^ b < 4294967296:=ZEl (n:=32) ha hb;have h2:4294967295 ^^^ a < 4294967296:=ZEl (n:=32) (by decide) ha;have h3:4294967295 ^^^ (a ^^^ b) < 4294967296:=ZEl (n:=32) (by decide) h1;have h4:(4294967295 ^^^ a)&&& b < 4294967296:=Nat.and_lt_two_pow (n:=32) _ hb;have h5:(4294967295 ^^^ (a ^^^ b))&&& D < 4294967296:=Nat.and_lt_two_pow (n:=32) _ hD;rw[Zxo (by decide) ha,Zxo ha hb,Zxo (by decide) h1,ZwX h2 hb,ZwX h3 hD,Zxc h4 h5,show (31:Int)=((31:Nat):Int)from rfl,ZvH 31 (by omega)];rw[←Nat.shiftRight_eq_div_pow,Nat.shiftRight_or_distrib,Nat.shiftRight_and_distrib,Nat.shiftRight_and_distrib,ZEi,ZEi,ZEi];have hm:(4294967295:Nat) >>> 31=1:=by decide
 rw[hm];have key:(1 ^^^ a >>> 31)&&& b >>> 31|||(1 ^^^ (a >>> 31 ^^^ b >>> 31))&&& D >>> 31=if a < b+c then 1 else 0:=by rcases ZAI ha with ⟨qa,pa⟩ |⟨qa,pa⟩<;>rcases ZAI hb with ⟨qb,pb⟩ |⟨qb,pb⟩<;>rcases ZAI hD with ⟨qd,pd⟩ |⟨qd,pd⟩<;>rw[qa,qb,qd]<;>split<;>first |rfl |(exfalso;omega)
 rw[key];rfl
theorem Zxf {h l:Nat} (hh:h < 4294967296) (hl:l < 4294967296):orK .u64 (shlK .u64 (IntKind.wrap .u64 (h:Int)) 32) (IntKind.wrap .u64 (l:Int))=((h*4294967296+l:Nat):Int):=by
 have e1:shlK .u64 (IntKind.wrap .u64 (h:Int)) 32=((h*4294967296:Nat):Int):=by unfold shlK;rw[Zn3 (by omega),show min (32:Int).toNat (IntKind.bits .u64)=32 from by decide,IntKind.wrap_u64];omega
 rw[e1,Zn3 (by omega),ZBc (by omega) (by omega)];have:=Nat.shiftLeft_add_eq_or_of_lt (i:=32) (b:=l) (by omega) h;simp only[Nat.shiftLeft_eq,Nat.reducePow]at this;omega
theorem ZDa {h l y:Nat} (hy:h < y) (hl:l < 4294967296) (hy2:y < 4294967296):Zr7 (h:Int) (l:Int) (y:Int)=some ((((h*4294967296+l) / y:Nat):Int),(((h*4294967296+l) % y:Nat):Int)):=by
 have hle:¬((y:Int)≤(h:Int)):=by omega
 have hq:(h*4294967296+l) / y < 4294967296:=(ZDS (by omega)).2 (by
  have:(h+1)*4294967296≤y*4294967296:=ZD8 _ hy;omega)
 have hr:(h*4294967296+l) % y < y:=ZD2 _ (by omega);have hj:ZqK (h:Int) (l:Int) (y:Int) false=some ((((h*4294967296+l) / y:Nat):Int),(((h*4294967296+l) % y:Nat):Int)):=by
  unfold ZqK;rw[cond_false,Zxf (by omega) hl,Zn3 (by omega)];have hne:decide ((y:Int)≠0)=true:=decide_eq_true (by omega);rw[hne,chk_true,chk_true];have e1:Int.tdiv ((h*4294967296+l:Nat):Int) (y:Int)=(((h*4294967296+l) / y:Nat):Int):=by rw[Int.tdiv_eq_ediv_of_nonneg (by omega)];norm_cast
  have e2:Int.tmod ((h*4294967296+l:Nat):Int) (y:Int)=(((h*4294967296+l) % y:Nat):Int):=by rw[Int.tmod_eq_emod_of_nonneg (by omega)];norm_cast
  rw[e1,e2,Zn3 (by omega),Ztk hq,Ztk (by omega)];rfl
 unfold Zr7;rw[decide_eq_false hle,hj];cases ((y:Int) != 0)<;>rfl
def ZCM:List Int:=[0,1,2,2,3,3,3,3,4,4,4,4,4,4,4,4]++ZDH 16 5++ZDH 32 6++ZDH 64 7++ZDH 128 8
theorem Zzg:ZpQ=fun x n=>(idx (ZCM.map fun n=>UInt8.ofNat n.toNat) (IntKind.wrap .u8 x)).bind fun c=>
 chk (inK .i64 (n+(IntKind.wrap .i64 ((c.toNat:Nat):Int)))) <|
 some (n+(IntKind.wrap .i64 ((c.toNat:Nat):Int))):=by kernel_rfl
theorem Zzh:((List.range 256).all fun v=>match (ZCM.map fun n=>UInt8.ofNat n.toNat)[v]? with |some c=>decide (v < 2 ^ c.toNat∧2 ^ c.toNat≤2*v+(if v=0 then 1 else 0)∧c.toNat≤8) |none=>false)=true:=by kernel_rfl
theorem Zzf {v:Nat} (h:v < 256):∃c:UInt8,(ZCM.map fun n=>UInt8.ofNat n.toNat)[v]? =some c∧v < 2 ^ c.toNat∧(v≠0→2 ^ c.toNat≤2*v)∧c.toNat≤8:=by have:=List.all_eq_true.1 Zzh v (List.mem_range.2 h);split at this;rotate_left;simp at this;rename_i c hc;obtain⟨h1,h2,h3⟩:=of_decide_eq_true this;refine⟨c,hc,h1,fun h0=> ?_,h3⟩;rw[if_neg h0]at h2;omega
theorem Zzi {v:Nat} (h:v < 256) (n:Nat) (hn:n≤100):∃k:Nat,ZpQ (v:Int) (n:Int)=some (((n+k:Nat):Int))∧v < 2 ^ k∧(v≠0→2 ^ k≤2*v)∧k≤8:=by
 obtain⟨c,hc,h1,h2,h3⟩:=Zzf h;refine⟨c.toNat, ?_,h1,h2,h3⟩;have e:idx (ZCM.map fun n=>UInt8.ofNat n.toNat) (IntKind.wrap .u8 (v:Int))=some c:=by rw[IntKind.wrap_u8,show (v:Int) % 256=(v:Int) by omega];unfold idx;rw[if_pos (by omega),ZDt,hc]
 rw[Zzg];dsimp only;rw[e,ZEn,wrap_i64 (by omega),ZnI (by omega),chk_true]
 norm_cast
theorem ZBl {x:Nat} (h0:x≠0) (h:x < 4294967296):∃s:Nat,s≤31∧Zo2 (x:Int)=some (s:Int)∧2147483648≤x*2 ^ s∧x*2 ^ s < 4294967296:=by
 have key:∃k:Nat,Zr6 (x:Int)=some (k:Int)∧x < 2 ^ k∧2 ^ k≤2*x∧k≤32:=by
  unfold Zr6 ZrS;have d16:shrK .u32 (x:Int) 16=((x / 65536:Nat):Int):=ZvH 16 (by omega);have fin:∀(n v:Nat),n≤24→v < 256→v≠0→x / 2 ^ n=v→∃k:Nat,ZpQ (v:Int) (n:Int)=some (k:Int)∧x < 2 ^ k∧2 ^ k≤2*x∧k≤32:=fun n v hn hv hv0 hx=>by
   obtain⟨k,q1,q2,q3,q4⟩:=Zzi hv n (by omega);refine⟨n+k,q1, ?_, ?_,by omega⟩
   ·rw[ZEf,ZD5];exact(ZDS (ZEk n)).1 (by omega)
   ·rw[ZEf];have h1:2 ^ n*v≤x:=by rw[←hx];exact Nat.mul_div_le x (2 ^ n)
    have h2:2 ^ n*2 ^ k≤2 ^ n*(2*v):=ZD7 _ (q3 hv0);have h3:2 ^ n*(2*v)=2*(2 ^ n*v):=by rw[ZD9]
    omega
  by_cases c1:65536≤x
  ·rw[decide_eq_true (by omega:(x:Int)≥65536),cond_true,d16];show ∃k:Nat,(bif decide (((x / 65536:Nat):Int)≥256)then _ else _)=_∧_
   by_cases c2:256≤x / 65536
   ·rw[decide_eq_true (by omega:((x / 65536:Nat):Int)≥256),cond_true];have d8:shrK .u32 ((x / 65536:Nat):Int) 8=((x / 65536 / 256:Nat):Int):=ZvH 8 (by omega);rw[d8];exact fin 24 (x / 65536 / 256) (by omega) (by omega) (by omega) (by omega)
   ·rw[decide_eq_false (by omega:¬((x / 65536:Nat):Int)≥256),cond_false];exact fin 16 (x / 65536) (by omega) (by omega) (by omega) (by omega)
  ·rw[decide_eq_false (by omega:¬(x:Int)≥65536),cond_false]
   by_cases c2:256≤x
   ·rw[decide_eq_true (by omega:(x:Int)≥256),cond_true];have d8:shrK .u32 (x:Int) 8=((x / 256:Nat):Int):=ZvH 8 (by omega);rw[d8];exact fin 8 (x / 256) (by omega) (by omega) (by omega) (by omega)
   ·rw[decide_eq_false (by omega:¬(x:Int)≥256),cond_false];exact fin 0 x (by omega) (by omega) h0 (by omega)
 obtain⟨k,hk,h1,h2,h3⟩:=key;have hk1:1≤k:=by
  rcases ZDT k with rfl |hp
  ·simp at h1;omega
  ·exact hp
 refine⟨32 - k,by omega, ?_, ?_, ?_⟩
 ·unfold Zo2;rw[hk,ZEn,ZnI (by omega),chk_true,show (32:Int) - (k:Int)=((32 - k:Nat):Int) by omega]
 ·have e:2 ^ k*2 ^ (32 - k)=4294967296:=by rw[←ZEf,show k+(32 - k)=32 by omega]
  have:2 ^ k*2 ^ (32 - k)≤2*x*2 ^ (32 - k):=ZD8 _ h2;rw[ZD4]at this;omega
 ·have e:2 ^ k*2 ^ (32 - k)=4294967296:=by rw[←ZEf,show k+(32 - k)=32 by omega]
  have:x*2 ^ (32 - k) < 2 ^ k*2 ^ (32 - k):=ZEa h1 (ZEk _);omega
end Go.Proofs
namespace Go.Proofs
open Go Eng
def iL (l:List Nat):List Int:=l.map fun(n:Nat)=>(n:Int)
theorem ZnV (l:List Nat):(iL l).length=l.length:=by unfold iL;simp
theorem Zxg (a b:List Nat):iL (a++b)=iL a++iL b:=by unfold iL;simp
theorem ZBs:iL []=[]:=rfl
theorem ZvE {l:List Nat} {i:Nat} (h:i < l.length):(iL l)[i]? =some (l[i]:Int):=by unfold iL;simp[h]
theorem Zsu {l:List Nat} {i:Nat} (h:i < l.length):idx (iL l) (i:Int)=some (l[i]:Int):=by unfold idx;rw[if_pos (by omega),ZDt,ZvE h]
theorem Zvc (l:List Nat) (i x:Nat):(iL l).set i (x:Int)=iL (l.set i x):=by unfold iL;rw[List.map_set]
theorem ZxB (l:List Nat) (i:Nat):(iL l).take i=iL (l.take i):=by unfold iL;rw[List.map_take]
theorem ZwB (n:Nat):ZDH n (0:Int)=iL (ZDH n 0):=by unfold iL;rw[List.map_replicate];rfl
abbrev Bw:Nat:=4294967296
def val:List Nat→Nat
 | []=>0
 |d::r=>d+Bw*val r
def Dg (l:List Nat):Prop:=∀d∈l,d < Bw
theorem Dg.app {a b:List Nat} (ha:Dg a) (hb:Dg b):Dg (a++b):=fun d hd=>(List.mem_append.1 hd).elim (ha d) (hb d)
theorem ZvF:Dg []:=fun _ h=>by simp at h
theorem Zvu {x:Nat} (h:x < Bw):Dg [x]:=fun d hd=>by simp only[List.mem_singleton]at hd;subst hd;exact h
theorem ZzB (n:Nat):Dg (ZDH n 0):=fun d hd=>by rw[List.mem_replicate]at hd;rw[hd.2];decide
theorem Dg.take {a:List Nat} (h:Dg a) (k:Nat):Dg (a.take k):=fun d hd=>h d (List.mem_of_mem_take hd)
theorem Dg.drop {a:List Nat} (h:Dg a) (k:Nat):Dg (a.drop k):=fun d hd=>h d (List.mem_of_mem_drop hd)
theorem Dg.set {a:List Nat} (h:Dg a) (i:Nat) {x:Nat} (hx:x < Bw):Dg (a.set i x):=fun d hd=>by
 rcases List.mem_or_eq_of_mem_set hd with h1 |h1
 ·exact h d h1
 ·rw[h1];exact hx
theorem Dg.get {a:List Nat} (h:Dg a) {i:Nat} (hi:i < a.length):a[i] < Bw:=h _ (List.getElem_mem hi)
theorem ZuP:∀a b:List Nat,val (a++b)=val a+Bw ^ a.length*val b
 | [],b=>by simp[val]
 |d::a,b=>by simp only[List.cons_append,val,ZuP a b,ZDB,ZEh,ZD3];rw[ZD5 (Bw ^ a.length) Bw,ZD4];omega
theorem Ztq (a:List Nat) (x:Nat):val (a++[x])=val a+Bw ^ a.length*x:=by rw[ZuP];simp[val]
theorem Ztb:∀{l:List Nat},Dg l→val l < Bw ^ l.length
 | [],_=>by simp[val]
 |d::r,h=>by
  have h1:=h d (by simp);have h2:=Ztb (l:=r) fun x hx=>h x (by simp[hx])
  simp only[val,ZDB,ZEh];have:Bw*(val r+1)≤Bw*Bw ^ r.length:=ZD7 _ h2;rw[ZD5 (Bw ^ r.length) Bw];rw[ZD3,ZEc]at this;exact ZDW (by omega) this
theorem Zyl (n:Nat):val (ZDH n 0)=0:=by
 induction n with
 |zero=>rfl
 |succ n ih=>rw[List.replicate_succ,val,ih,ZEd]
theorem Zn1 {l:List Nat} {k:Nat} (h:k < l.length):val (l.take (k+1))=val (l.take k)+Bw ^ k*l[k]:=by rw[List.take_succ_eq_append_getElem h,Ztq,ZDF,ZDZ (by omega)]
def wd (n:Nat):List Nat:=if h:n=0 then []else n % Bw::wd (n / Bw)
termination_by n
decreasing_by exact Nat.div_lt_self (Nat.pos_of_ne_zero h) (by decide)
theorem Zsf:wd 0=[]:=by unfold wd;simp
theorem ZvP {n:Nat} (h:n≠0):wd n=n % Bw::wd (n / Bw):=by rw[wd,dif_neg h]
theorem ZtJ (n:Nat):Dg (wd n):=by
 induction n using Nat.strongRecOn with
 |ind n ih=>
  by_cases h:n=0
  ·rw[h,Zsf];exact ZvF
  ·rw[ZvP h];intro d hd;rcases ZDG.1 hd with rfl |hd
   ·exact ZD2 _ (by decide)
   ·exact ih (n / Bw) (Nat.div_lt_self (Nat.pos_of_ne_zero h) (by decide)) d hd
theorem ZrR (n:Nat):val (wd n)=n:=by
 induction n using Nat.strongRecOn with
 |ind n ih=>
  by_cases h:n=0
  ·rw[h,Zsf];rfl
  ·rw[ZvP h,val,ih (n / Bw) (Nat.div_lt_self (Nat.pos_of_ne_zero h) (by decide))];exact ZD0 n Bw
theorem Zuv {n k:Nat} (h:n < Bw ^ k):(wd n).length≤k:=by
 induction k generalizing n with
 |zero=>
  have:n=0:=by simpa using h
  rw[this,Zsf];simp
 |succ k ih=>
  by_cases h0:n=0
  ·rw[h0,Zsf];simp
  ·rw[ZvP h0,ZDB];have:n / Bw < Bw ^ k:=(ZDS (by decide)).2 (by rw[←ZEh];exact h);have:=ih this;omega
theorem Zrq {n:Nat} (h:n≠0):0 < (wd n).length:=by rw[ZvP h];simp
theorem ZA4 {n:Nat}:wd n=[]↔n=0:=⟨fun h=>by have:=ZrR n;rw[h]at this;exact this.symm,fun h=>by rw[h,Zsf]⟩
theorem ZsH (n:Nat):n < Bw ^ (wd n).length:=by have:=Ztb (ZtJ n);rwa [ZrR]at this
def Zw6 (l:List Nat):List Nat:=(l.reverse.dropWhile (· == 0)).reverse
theorem Zww (l:List Nat) (x:Nat):Zw6 (l++[x])=if x=0 then Zw6 l else l++[x]:=by
 unfold Zw6;rw[List.reverse_append,List.reverse_singleton,List.singleton_append,List.dropWhile_cons]
 by_cases h:x=0
 ·simp[h]
 ·simp[h]
theorem ZxH:∀{l:List Nat} {x:Nat},Dg (l++[x])→x≠0→wd (val (l++[x]))=l++[x]
 | [],x,h,hx=>by have h1:x < Bw:=h x (by simp);simp only[List.nil_append,val,ZEd,ZDP];rw[ZvP hx,ZD1 h1,ZDR h1,Zsf]
 |d::l,x,h,hx=>by
  have h1:d < Bw:=h d (by simp);have ih:=ZxH (l:=l) (x:=x) (fun y hy=>h y (by simp only[List.cons_append,ZDG];exact .inr hy)) hx;have hne:val (l++[x])≠0:=fun e=>by rw[e,Zsf]at ih;simp at ih
  simp only[List.cons_append,val];rw[ZvP (by simp only[Bw];omega),Nat.add_mul_mod_self_left,ZD1 h1,Nat.add_mul_div_left _ _ (by decide),ZDR h1,ZEm,ih]
theorem ZxK:∀(n:Nat) {l:List Nat},l.length=n→Dg l→Zw6 l=wd (val l)
 |0,l,hl,_=>by rw[List.eq_nil_of_length_eq_zero hl];simp[Zw6,val,Zsf]
 |n+1,l,hl,h=>by
  rcases List.eq_nil_or_concat l with rfl |⟨v,x,rfl⟩
  ·simp at hl
  ·rw[List.concat_eq_append]at hl h⊢
   rw[Zww];split
   ·rename_i h0;subst h0;rw[ZxK n (by simpa using hl) (fun d hd=>h d (by simp[hd])),Ztq,ZEd,ZDP]
   ·rename_i h0;exact(ZxH h h0).symm
theorem Zu3 {l:List Nat} (h:Dg l) (hl:l.length≤1000000):ZnQ (iL l)=some (iL (wd (val l))):=by
 rw[←ZxK _ rfl h];refine ZqA ?_;unfold ZnQ ZsW;rw[ZnF];refine ZoD (ZuU ZuW (fun(w:List Nat)=>iL w) (fun w=>Zw6 w=Zw6 l∧w.length≤1000000) List.length (Q:=fun x=>x=iL (Zw6 l)) l ⟨rfl,hl⟩ (by omega) ?_) (fun x hx=>by rw[ZnB];exact hx);rintro rec w ⟨hw,hwl⟩ ih;unfold ZtF ZqS Zrv;rcases List.eq_nil_or_concat w with rfl |⟨v,x,rfl⟩
 ·show wp (some (iL [])) _;rw[ZnB,←hw];rfl
 ·rw[List.concat_eq_append]at hw hwl⊢
  rw[Zww]at hw;have hlen:(iL (v++[x])).length=v.length+1:=by rw[ZnV];simp
  rw[ZnW];refine⟨fun _=> ?_,fun h=>by simp only[decide_eq_false_iff_not]at h;omega⟩;have ei:((iL (v++[x])).length:Int) - 1=(v.length:Int):=by rw[hlen];omega
  have hx:(v++[x])[v.length]'(by simp)=x:=by simp
  rw[ei,ZnE,ZnF,Zsu (by simp),ZnB,hx,ZnW];refine⟨ZnI (by simp at hwl;omega),fun h=> ?_,fun h=> ?_⟩
  ·have h0:x=0:=by have:=eq_of_beq h;omega
   rw[if_pos h0]at hw;rw[ZnE,ZnE];refine⟨ZnI (by simp at hwl;omega),Zuu (by omega), ?_⟩;have:(iL (v++[x])).take ((v.length:Int)).toNat=iL v:=by rw[ZxB,ZDt];simp
   rw[this];exact ih v ⟨hw,by simp at hwl;omega⟩ (by simp)
  ·have h0:x≠0:=by intro e;subst e;simp at h
   rw[if_neg h0]at hw;rw[ZnB,←hw]
theorem ZAO (l:List Nat) (i:Nat):Zpr (iL l) (i:Int)=some ((l.getD i 0:Nat):Int):=by
 unfold Zpr;rw[ZnV]
 by_cases h:i < l.length
 ·rw[decide_eq_true (by omega),cond_true,Zsu h,ZEn,ZDv,ZDw h];rfl
 ·rw[decide_eq_false (by omega),cond_false,ZDv,ZDx (by omega)];rfl
theorem Zwo {l:List Nat} (h:Dg l) (i:Nat):l.getD i 0 < Bw:=by
 rw[ZDv]
 by_cases hi:i < l.length
 ·rw[ZDw hi];exact h.get hi
 ·rw[ZDx (by omega)];decide
theorem Zui (l:List Nat) (k:Nat):val (l.take (k+1))=val (l.take k)+Bw ^ k*l.getD k 0:=by
 rw[ZDv]
 by_cases h:k < l.length
 ·rw[Zn1 h,ZDw h];rfl
 ·rw[ZDx (by omega),ZDL (by omega),ZDL (by omega)];simp
theorem ZAk (a b:Nat) (ha:(wd a).length≤100000) (hb:(wd b).length≤100000):Zpu (iL (wd a)) (iL (wd b))=some (iL (wd (a+b))):=by
 obtain⟨m,hm,hma,hmb,hm2⟩:∃m:Nat,(if ((iL (wd b)).length:Int) > ((iL (wd a)).length:Int)then ((iL (wd b)).length:Int)else ((iL (wd a)).length:Int))=(m:Int)∧(wd a).length≤m∧(wd b).length≤m∧m≤100000:=by
  rw[ZnV,ZnV]
  by_cases h:((wd b).length:Int) > ((wd a).length:Int)
  ·exact⟨(wd b).length,by rw[if_pos h],by omega,by omega,hb⟩
  ·exact⟨(wd a).length,by rw[if_neg h],by omega,by omega,ha⟩
 refine ZqA ?_;unfold Zpu;rw[hm,ZnE,ZnE,ZnF];refine⟨ZnI (by omega),decide_eq_true (by unfold ZO;omega), ?_⟩;refine ZoD (Zrr ZuA m (by omega) (fun i (s:Nat×List Nat)=>(iL (wd a),iL (wd b),(s.1:Int),(m:Int),i,iL s.2)) (fun i s=>s.1≤1∧s.2.length=i∧Dg s.2∧val s.2+Bw ^ i*s.1=val ((wd a).take i)+val ((wd b).take i))
  (Q:=fun y=>∃(c:Nat) (o:List Nat),y=((c:Int),iL o)∧c≤1∧Dg o∧o.length=m∧val o+Bw ^ m*c=a+b) (0,[]) ⟨by simp,rfl,ZvF,by simp[val]⟩ ?_ ?_) ?_
 ·rintro rec i ⟨c,o⟩ hlt ⟨hc,hl,hd,hv⟩ ih;dsimp only at hc hl hd hv ih;have h1:=Zwo (ZtJ a) i;have h2:=Zwo (ZtJ b) i;unfold Zrm ZpV;dsimp only;rw[ZnW];refine⟨fun _=> ?_,fun h=>by simp only[decide_eq_false_iff_not]at h;omega⟩;rw[ZAO,ZnF,ZnB,ZAO,ZnF,ZnB,ZBT h1 h2 hc,ZnF,ZnB];dsimp only;rw[ZnE,ZnE,ZnV];refine⟨ZuE (by simp only[ZDE];omega),ZnI (by omega), ?_⟩;generalize ex:(wd a).getD i 0=x at h1;generalize ey:(wd b).getD i 0=y at h2;have:=ih ((x+y+c) / Bw,o++[(x+y+c) % Bw]) ⟨?_,by simp[hl],hd.app (Zvu (ZD2 _ (by decide))), ?_⟩
  ·rw[Zxg]at this;exact this
  ·simp only[Bw]at h1 h2⊢;omega
  ·dsimp only;rw[Ztq,hl,ZEh,Zui,Zui,ex,ey,Nat.add_assoc,ZD4,←ZD3,ZD0,ZD3,ZD3];omega
 ·rintro rec ⟨c,o⟩ ⟨hc,hl,hd,hv⟩;unfold Zrm ZpV;dsimp only;rw[ZnW];refine⟨fun h=>by simp only[decide_eq_true_eq]at h;omega,fun _=> ?_⟩;rw[ZnB];rw[ZDL hma,ZDL hmb,ZrR,ZrR]at hv;exact⟨c,o,rfl,hc,hd,hl,hv⟩
 ·rintro y ⟨c,o,rfl,hc,hd,hl,hv⟩;dsimp only;unfold Zr8;rw[ZnE,ZnV];refine⟨ZuE (by simp only[ZDE];omega), ?_⟩;have e:iL o++[(c:Int)]=iL (o++[c]):=by rw[Zxg];rfl
  rw[e,Zu3 (hd.app (Zvu (by unfold Bw;omega))) (by simp;omega),ZnF,ZnB,ZnB,Ztq,hl,hv]
end Go.Proofs
namespace Go.Proofs
open Go Eng
theorem ZvX {σ τ X:Type} {f:Nat→σ→Option X} {body:(σ→Option X)→σ→Option X} (hf:∀n s,f (n+1) s=body (f n) s)
  (m:Nat) (hm:m≤1000000000000000) (st:Int→τ→σ) (P:Nat→τ→Prop) {Q:X→Prop} (t0:τ) (h0:P m t0)
  (step:∀(rec:σ→Option X) k t,k < m→P (k+1) t→(∀t',P k t'→wp (rec (st ((k:Int) - 1) t')) Q)→wp (body rec (st (k:Int) t)) Q)
  (fin:∀(rec:σ→Option X) t,P 0 t→wp (body rec (st (-1) t)) Q):wp (f big (st ((m:Int) - 1) t0)) Q:=by
 have key:∀(n k:Nat) t,k≤m→P k t→k < n→wp (f n (st ((k:Int) - 1) t)) Q:=by
  intro n
  induction n with
  |zero=>intro k t _ _ h;omega
  |succ n ih=>
   intro k t hk hP hn;rw[hf];cases k with
   |zero=>exact fin _ t hP
   |succ k=>
    have e:((k+1:Nat):Int) - 1=(k:Int):=by omega
    rw[e];exact step _ k t (by omega) hP fun t' h'=>ih k t' (by omega) h' (by omega)
 exact key big m t0 (Nat.le_refl _) h0 (Zws (by omega))
theorem Zvz {n:Nat} (h:n≤1000000):mkOk (n:Int) (n:Int) 4=true:=by unfold mkOk ZO;exact decide_eq_true ⟨by omega,by omega,by omega,by omega⟩
def ZwZ (a b:Nat):Int:=if a < b then -1 else if b < a then 1 else 0
theorem Zxh (a b:Nat):Zsd (a:Int) (b:Int)=some (ZwZ a b):=by
 unfold Zsd Zs4 ZwZ;rw[ZEn,ZEn,bne_self_eq_false,bne_self_eq_false,cond_false,cond_false]
 by_cases h1:a < b
 ·rw[decide_eq_true (by omega:(a:Int) < b),if_pos h1];rfl
 ·rw[decide_eq_false (by omega:¬(a:Int) < b),if_neg h1,cond_false]
  by_cases h2:b < a
  ·rw[decide_eq_true (by omega:(a:Int) > b),if_pos h2];rfl
  ·rw[decide_eq_false (by omega:¬(a:Int) > b),if_neg h2];rfl
theorem ZAG (a b:Nat):ZrX (a:Int) (b:Int)=some (ZwZ a b):=Zxh a b
theorem Zt9 {a b:Nat} (h:a < b):ZwZ a b= -1:=by unfold ZwZ;rw[if_pos h]
theorem ZtT {a b:Nat} (h:b < a):ZwZ a b=1:=by unfold ZwZ;rw[if_neg (by omega),if_pos h]
theorem Zt6 (a:Nat):ZwZ a a=0:=by unfold ZwZ;rw[if_neg (by omega),if_neg (by omega)]
theorem Zw4 {n k:Nat} (h:k < (wd n).length):Bw ^ k≤n:=by
 rcases ZDX n (Bw ^ k)with h1 |h1
 ·have:=Zuv h1;omega
 ·exact h1
theorem ZwA {a b:Nat} (h:(wd a).length < (wd b).length):a < b:=ZDW (ZsH a) (Zw4 h)
theorem Zuw {l:List Nat} {k:Nat} (h:k < l.length):val l=val (l.take k)+Bw ^ k*(l[k]+Bw*val (l.drop (k+1))):=by
 have e:l=l.take k++l[k]::l.drop (k+1):=by rw[ZDz,ZDK]
 have hl:(l.take k).length=k:=by rw[ZDF];omega
 calc val l=val (l.take k++l[k]::l.drop (k+1)):=by rw[←e]
  _=_:=by rw[ZuP,hl];rfl
theorem ZwL {p q x y A B:Nat} {k:Nat} (hp:p < Bw ^ k) (h:x < y):p+Bw ^ k*x < q+Bw ^ k*y:=by have:Bw ^ k*(x+1)≤Bw ^ k*y:=ZD7 _ h;rw[ZD3,ZEc]at this;omega
theorem Zv2 (a b:Nat) (ha:(wd a).length≤100000) (hb:(wd b).length≤100000):Zn2 (iL (wd a)) (iL (wd b))=some (ZwZ a b):=by
 refine ZqA ?_;unfold Zn2;rw[ZnV,ZnV,Zxh,ZnF,ZnB,ZnW];refine⟨fun h=> ?_,fun h=> ?_⟩
 ·rw[ZnB];rcases ZDY (wd a).length (wd b).length with h1 |h1 |h1
  ·rw[Zt9 h1,Zt9 (ZwA h1)]
  ·rw[h1,Zt6]at h;exact absurd h (by decide)
  ·rw[ZtT h1,ZtT (ZwA h1)]
 ·have hl:(wd a).length=(wd b).length:=by
   rcases ZDY (wd a).length (wd b).length with h1 |h1 |h1
   ·rw[Zt9 h1]at h;exact absurd h (by decide)
   ·exact h1
   ·rw[ZtT h1]at h;exact absurd h (by decide)
  rw[ZnE,ZnF];refine⟨ZnI (by omega), ?_⟩;refine ZoD (ZvX ZtZ (wd a).length (by omega) (fun i (s:Unit)=>(iL (wd a),iL (wd b),i)) (fun k _=>(wd a).drop k=(wd b).drop k)
   (Q:=fun r=>r= .ret (ZwZ a b)∧ZwZ a b≠0∨r= .brk ()∧a=b) () (by rw[List.drop_length,hl,List.drop_length]) ?_ ?_) ?_
  ·rintro rec k ⟨⟩ hk hP ih;have hk2:k < (wd b).length:=by omega
   unfold ZqI Zpo;dsimp only;rw[ZnW];refine⟨fun _=> ?_,fun h=>by simp only[decide_eq_false_iff_not]at h;omega⟩;rw[Zsu hk,ZnF,ZnB,Zsu hk2,ZnF,ZnB,ZAG,ZnF,ZnB];have ha:=Zuw hk;have hb:=Zuw hk2;rw[ZrR]at ha hb;have la:val ((wd a).take k) < Bw ^ k:=by have:=Ztb ((ZtJ a).take k);rwa [ZDF,ZDZ (by omega)]at this
   have lb:val ((wd b).take k) < Bw ^ k:=by have:=Ztb ((ZtJ b).take k);rwa [ZDF,ZDZ (by omega)]at this
   rw[ZnW];refine⟨fun hc=> ?_,fun hc=> ?_⟩
   ·rw[ZnB];rcases ZDY (wd a)[k] (wd b)[k]with h1 |h1 |h1
    ·rw[Zt9 h1];have:a < b:=by rw[ha,hb,hP];exact ZwL (A:=0) (B:=0) la (by omega)
     exact .inl ⟨by rw[Zt9 this],by rw[Zt9 this];decide⟩
    ·rw[h1,Zt6]at hc;exact absurd hc (by decide)
    ·rw[ZtT h1];have:b < a:=by rw[ha,hb,hP];exact ZwL (A:=0) (B:=0) lb (by omega)
     exact .inl ⟨by rw[ZtT this],by rw[ZtT this];decide⟩
   ·rw[ZnE];refine⟨ZnI (by omega),ih () ?_⟩;have h1:(wd a)[k]=(wd b)[k]:=by
     rcases ZDY (wd a)[k] (wd b)[k]with h1 |h1 |h1
     ·rw[Zt9 h1]at hc;exact absurd hc (by decide)
     ·exact h1
     ·rw[ZtT h1]at hc;exact absurd hc (by decide)
    rw[←ZDz (h:=hk),←ZDz (h:=hk2),h1,hP]
  ·rintro rec ⟨⟩ hP;unfold ZqI Zpo;dsimp only;rw[ZnW];refine⟨fun h=>by have:=of_decide_eq_true h;omega,fun _=> ?_⟩;rw[ZnB];rw[ZDu,ZDu]at hP;exact .inr ⟨rfl,by rw[←ZrR a,←ZrR b,hP]⟩
  ·rintro r (⟨rfl,_⟩ |⟨rfl,rfl⟩)
   ·exact ZnB.2 rfl
   ·unfold Zra;exact ZnB.2 (Zt6 a).symm
theorem ZAg {o:List Nat} {n i:Nat} (x:Nat) (ho:o.length=i) (h:i < n):(o++ZDH (n - i) 0).set i x=(o++[x])++ZDH (n - (i+1)) 0:=by
 have:n - i=(n - (i+1))+1:=by omega
 rw[this,List.replicate_succ,ZDI _ _ (by omega),ho,ZEj,ZDJ];simp
theorem ZxU (a b:Nat) (hab:b≤a) (ha:(wd a).length≤100000):Zo9 (iL (wd a)) (iL (wd b))=some (iL (wd (a - b))):=by
 have hlb:(wd b).length≤(wd a).length:=by
  rcases ZDX (wd a).length (wd b).length with h |h
  ·have:=ZwA h;omega
  ·exact h
 refine ZqA ?_;unfold Zo9;rw[ZnV,ZnE,ZnF,ZDt,ZwB];refine⟨Zvz (by omega), ?_⟩;generalize hn:(wd a).length=n at ha hlb⊢
 rw[show iL (ZDH n 0)=iL ([]++ZDH (n - ([]:List Nat).length) 0) by simp];refine ZoD (Zrr Zut n (by omega) (fun i (s:Nat×List Nat)=>(iL (wd a),iL (wd b),(s.1:Int),(n:Int),i,iL (s.2++ZDH (n - s.2.length) 0))) (fun i s=>s.1≤1∧s.2.length=i∧Dg s.2∧val ((wd a).take i)+Bw ^ i*s.1=val s.2+val ((wd b).take i))
  (Q:=fun y=>∃(o:List Nat),y=iL o∧Dg o∧o.length=n∧val o=a - b) (0,[]) ⟨by simp,rfl,ZvF,by simp[val]⟩ ?_ ?_) ?_
 ·rintro rec i ⟨c,o⟩ hlt ⟨hc,hl,hd,hv⟩ ih;dsimp only at hc hl hd hv ih;have hi:i < (wd a).length:=by omega
  have h1:=(ZtJ a).get hi;have h2:=Zwo (ZtJ b) i;unfold Zq9 ZpM;dsimp only;rw[ZnW];refine⟨fun _=> ?_,fun h=>by simp only[decide_eq_false_iff_not]at h;omega⟩;rw[Zsu hi,ZnF,ZnB,ZAO,ZnF,ZnB,ZAb h1 h2 hc,ZnF,ZnB];dsimp only;rw[ZnE,ZnE,ZnV,ZDt,Zvc,hl,ZAg _ hl hlt];refine⟨Zrd ⟨by omega,by simp only[ZDA,ZDC];omega⟩,ZnI (by omega), ?_⟩;generalize ex:(wd a)[i]=x at h1;generalize ey:(wd b).getD i 0=y at h2;have:=ih ((if x < y+c then 1 else 0),o++[(x+4294967296 - y - c) % 4294967296]) ⟨by dsimp only;split<;>omega,by simp[hl],hd.app (Zvu (ZD2 _ (by decide))), ?_⟩
  ·rw[ZDA,ZDE,hl]at this;exact this
  ·dsimp only;rw[Ztq,hl,ZEh,Zn1 hi,Zui,ex,ey,ZD4];have e:x+Bw*(if x < y+c then 1 else 0)=(x+4294967296 - y - c) % 4294967296+y+c:=by simp only[Bw]at h1 h2⊢;split<;>omega
   have e2:Bw ^ i*(x+Bw*(if x < y+c then 1 else 0))=Bw ^ i*((x+4294967296 - y - c) % 4294967296+y+c):=by rw[e]
   rw[ZD3,ZD3,ZD3]at e2;omega
 ·rintro rec ⟨c,o⟩ ⟨hc,hl,hd,hv⟩;unfold Zq9 ZpM;dsimp only at hc hl hd hv⊢
  rw[ZnW];refine⟨fun h=>by simp only[decide_eq_true_eq]at h;omega,fun _=> ?_⟩;rw[ZnB];rw[ZDL (by omega),ZDL (by omega),ZrR,ZrR]at hv;have:=Ztb hd;rw[hl]at this;have hc0:c=0:=by
   rcases ZDT c with h |h
   ·exact h
   ·have:c=1:=by omega
    rw[this,ZEc]at hv;omega
  rw[hc0,ZEd]at hv;exact⟨o,by rw[hl,ZEj];simp,hd,hl,by omega⟩
 ·rintro y ⟨o,rfl,hd,hl,hv⟩;unfold ZrO;rw[Zu3 hd (by omega),ZnF,ZnB,ZnB,hv]
theorem Zza (a d:Nat) (hd0:d≠0) (hd:d < Bw) (ha:(wd a).length≤100000):Zp3 (iL (wd a)) (d:Int)=some (iL (wd (a / d)),((a % d:Nat):Int)):=by
 refine ZqA ?_;unfold Zp3;rw[ZnV,ZnE,ZnE,ZnF,ZDt,ZwB];refine⟨Zvz (by omega),ZnI (by omega), ?_⟩;generalize hn:(wd a).length=n at ha⊢
 rw[show iL (ZDH n 0)=iL (ZDH (n - ([]:List Nat).length) 0++[]) by simp];refine ZoD (ZvX Zus n (by omega) (fun i (s:Nat×List Nat)=>(iL (wd a),(d:Int),(s.1:Int),i,iL (ZDH (n - s.2.length) 0++s.2))) (fun k s=>s.1 < d∧s.2.length+k=n∧Dg s.2∧val ((wd a).drop k)=val s.2*d+s.1)
  (Q:=fun y=>∃(r:Nat) (o:List Nat),y=((r:Int),iL o)∧Dg o∧o.length=n∧r < d∧a=val o*d+r) (0,[]) ⟨by dsimp only;omega,by simp,ZvF,by rw[←hn,List.drop_length];simp[val]⟩ ?_ ?_) ?_
 ·rintro rec k ⟨r,o⟩ hk ⟨hr,hl,hdg,hv⟩ ih;dsimp only at hr hl hdg hv ih;have hi:k < (wd a).length:=by omega
  have h1:=(ZtJ a).get hi;unfold Zq7 ZpK;dsimp only;rw[ZnW];refine⟨fun _=> ?_,fun h=>by simp only[decide_eq_false_iff_not]at h;omega⟩;rw[Zsu hi,ZnF,ZnB,ZDa hr h1 hd,ZnF,ZnB];dsimp only;generalize ex:(wd a)[k]=x at h1;have hq:(r*4294967296+x) / d < Bw:=(ZDS (by omega)).2 (by
   have:(r+1)*4294967296≤d*4294967296:=ZD8 _ hr;simp only[Bw]at*
   omega)
  have es:(ZDH (n - o.length) 0++o).set k ((r*4294967296+x) / d)=ZDH (n - (o.length+1)) 0++((r*4294967296+x) / d)::o:=by
   have e:n - o.length=k+1:=by omega
   have e2:n - (o.length+1)=k:=by omega
   rw[e,e2,List.replicate_succ',List.append_assoc,ZDI _ _ (by simp),ZDC,ZEj];rfl
  rw[ZnE,ZnE,ZnV,ZDt,Zvc,es];refine⟨Zrd ⟨by omega,by simp only[ZDA,ZDC];omega⟩,ZnI (by omega), ?_⟩;refine ih ((r*4294967296+x) % d,((r*4294967296+x) / d)::o) ⟨ZD2 _ (by omega),by simp only[ZDB];omega,fun y hy=> ?_, ?_⟩
  ·rcases ZDG.1 hy with rfl |hy
   ·exact hq
   ·exact hdg y hy
  ·dsimp only;rw[←ZDz (h:=hi),ex,val,hv,val];have:=ZDQ (r*4294967296+x) d;rw[ZDM,ZD5 ((r*4294967296+x) / d) d,ZD3,ZD4];simp only[Bw]at*
   omega
 ·rintro rec ⟨r,o⟩ ⟨hr,hl,hdg,hv⟩;unfold Zq7 ZpK;dsimp only at hr hl hdg hv⊢
  rw[ZnW];refine⟨fun h=>by have:=of_decide_eq_true h;omega,fun _=> ?_⟩;rw[ZnB];rw[ZDu,ZrR]at hv;refine⟨r,o, ?_,hdg,hl,hr,hv⟩;rw[show n - o.length=0 by omega];rfl
 ·rintro y ⟨r,o,rfl,hdg,hl,hr,hv⟩;dsimp only;unfold ZrN;rw[Zu3 hdg (by omega),ZnF,ZnB,ZnB];have e1:a / d=val o:=by rw[hv,ZD5,Nat.mul_add_div (by omega),ZDR hr,ZDP]
  have e2:a % d=r:=by rw[hv,ZD5,Nat.mul_add_mod,ZD1 hr]
  rw[e1,e2]
end Go.Proofs
namespace Go.Proofs
open Go Eng
theorem Zvl:∀(l:List Nat) (i x:Nat) (h:i < l.length),val (l.set i x)+Bw ^ i*l[i]=val l+Bw ^ i*x
 | [],i,x,h=>absurd h (by simp)
 |d::l,0,x,h=>by simp only[ZDJ,val,Nat.pow_zero,ZEe,List.getElem_cons_zero];omega
 |d::l,i+1,x,h=>by
  have:=Zvl l i x (by simpa using h);have e:Bw*(val (l.set i x)+Bw ^ i*l[i]'(by simpa using h))=Bw*(val l+Bw ^ i*x):=by rw[this]
  rw[ZD3,ZD3]at e;simp only[List.set_cons_succ,val,ZEh,List.getElem_cons_succ];rw[ZD5 (Bw ^ i) Bw,ZD4,ZD4];omega
theorem ZAo {x y:Nat} (hx:x≤4294967295) (hy:y≤4294967295):x*y≤18446744065119617025:=ZD6 hx hy
theorem Zvr {x y:Nat} (hx:x < Bw) (hy:y < Bw):x*y≤18446744065119617025:=ZAo (by simp only[Bw]at hx;omega) (by simp only[Bw]at hy;omega)
theorem ZCX {c x y e:Nat} (hc:c < Bw) (hx:x < Bw) (hy:y < Bw) (he:e < Bw):IntKind.wrap .u64 ((c:Int)+IntKind.wrap .u64 (IntKind.wrap .u64 (IntKind.wrap .u64 (x:Int)*IntKind.wrap .u64 (y:Int))+IntKind.wrap .u64 (e:Int)))=((c+x*y+e:Nat):Int):=by have:=Zvr hx hy;simp only[Bw]at hc hx hy he;rw[Zn3 (by omega),Zn3 (by omega),Zn3 (by omega),←ZDs,Zn3 (by omega),←ZBb,Zn3 (by omega),←ZBb,Zn3 (by omega)];congr 1;omega
theorem ZBk {c x y e:Nat} (hc:c < Bw) (hx:x < Bw) (hy:y < Bw) (he:e < Bw):(c+x*y+e) / Bw < Bw:=by
 have:=Zvr hx hy;simp only[Bw]at hc hx hy he⊢
 omega
theorem Zy8 (a b:Nat) (ha:(wd a).length≤100000) (hb:(wd b).length≤100000):Zoz (iL (wd a)) (iL (wd b))=some (iL (wd (a*b))):=by
 refine ZqA ?_;unfold Zoz;rw[ZnV,ZnV,ZnE,ZnE,ZnF,←ZBb,ZDt,ZwB];refine⟨ZnI (by omega),Zvz (by omega), ?_⟩;generalize hm:(wd a).length=m at ha⊢
 generalize hn:(wd b).length=n at hb⊢
 refine ZoD (Zrr Zur m (by omega) (fun i (s:List Nat)=>(iL (wd b),iL (wd a),(m:Int),i,iL s)) (fun i s=>s.length=m+n∧Dg s∧val s=val ((wd a).take i)*b∧∀k,i+n≤k→k < m+n→s[k]? =some 0)
  (Q:=fun y=>∃(o:List Nat),y=iL o∧Dg o∧o.length=m+n∧val o=a*b) (ZDH (m+n) 0) ⟨by simp,ZzB _,by rw[Zyl];simp[val],fun k _ h=>by rw[List.getElem?_replicate,if_pos h]⟩ ?_ ?_) ?_
 ·rintro rec i s hlt ⟨hl,hd,hv,hz⟩ ih;have hi:i < (wd a).length:=by omega
  have h1:=(ZtJ a).get hi;unfold Zq6 ZpJ;dsimp only;rw[ZnW];refine⟨fun _=> ?_,fun h=>by simp only[decide_eq_false_iff_not]at h;omega⟩;rw[Zsu hi,ZnF,ZnB,ZnF,ZnV,hn];generalize ex:(wd a)[i]=x at h1;refine ZoD (Zrr Zuq n (by omega) (fun j (t:Nat×List Nat)=>(iL (wd b),(i:Int),(x:Int),(t.1:Int),iL (wd a),(m:Int),(i:Int),iL (wd b),(n:Int),j,iL t.2)) (fun j t=>t.1 < Bw∧t.2.length=m+n∧Dg t.2∧val t.2+Bw ^ (i+j)*t.1=val s+Bw ^ i*(x*val ((wd b).take j))∧∀k,i+n≤k→k < m+n→t.2[k]? =some 0)
   (Q:=fun y=>∃(c:Nat) (o:List Nat),y=(iL (wd b),(i:Int),(c:Int),iL (wd a),(m:Int),(i:Int),iL o)∧c < Bw∧o.length=m+n∧Dg o∧val o+Bw ^ (i+n)*c=val s+Bw ^ i*(x*b)∧∀k,i+n≤k→k < m+n→o[k]? =some 0) (0,s) ⟨by simp only[Bw];omega,hl,hd,by simp[val],hz⟩ ?_ ?_) ?_
  ·rintro rec2 j ⟨c,o⟩ hj ⟨hc,hol,hod,hov,hoz⟩ ih2;dsimp only at hc hol hod hov hoz ih2;have hj2:j < (wd b).length:=by omega
   have h2:=(ZtJ b).get hj2;have hij:i+j < o.length:=by omega
   have h3:=hod.get hij;unfold Zq5 ZpI;dsimp only;rw[ZnW];refine⟨fun _=> ?_,fun h=>by simp only[decide_eq_false_iff_not]at h;omega⟩;rw[Zsu hj2,ZnF,ZnB,ZnE,ZnE,←ZBb,ZDt,ZvE hij,ZnF,ZnB,ZnE,ZnE,ZnE,ZnE];generalize ey:(wd b)[j]=y at h2;generalize ee:o[i+j]=e at h3;rw[ZCX hc h1 h2 h3,Zs6,show (32:Int)=((32:Nat):Int)from rfl,Zvn 32 (by omega),ZnV,Zvc];refine⟨ZnI (by omega),Zrd ⟨by omega,by omega⟩,ZnI (by omega),Zrd ⟨by omega,by omega⟩,by decide,ZnI (by omega), ?_⟩;refine ih2 ((c+x*y+e) / Bw,o.set (i+j) ((c+x*y+e) % Bw)) ⟨ZBk hc h1 h2 h3,by simp[hol],hod.set _ (ZD2 _ (by decide)), ?_,fun k hk hk2=> ?_⟩
   ·dsimp only;have q1:=Zvl o (i+j) ((c+x*y+e) % Bw) hij;rw[ee]at q1;have q2:Bw ^ (i+j)*((c+x*y+e) % Bw+Bw*((c+x*y+e) / Bw))=Bw ^ (i+j)*(c+x*y+e):=by rw[ZD0]
    rw[ZD3,ZD3,ZD3]at q2;rw[←Nat.add_assoc,ZEh,ZD4,Zn1 hj2,ey,ZD3,ZD3];have q3:Bw ^ i*(x*(Bw ^ j*y))=Bw ^ (i+j)*(x*y):=by rw[ZEf,ZD4,ZD9 x]
    omega
   ·dsimp only;rw[List.getElem?_set_ne (by omega)];exact hoz k hk hk2
  ·rintro rec2 ⟨c,o⟩ ⟨hc,hol,hod,hov,hoz⟩;dsimp only at hc hol hod hov hoz;unfold Zq5 ZpI;dsimp only;rw[ZnW];refine⟨fun h=>by have:=of_decide_eq_true h;omega,fun _=> ?_⟩;rw[ZnB];rw[ZDL (by omega),ZrR]at hov;exact⟨c,o,rfl,hc,hol,hod,hov,hoz⟩
  ·rintro y ⟨c,o,rfl,hc,hol,hod,hov,hoz⟩;dsimp only;unfold ZrM;rw[ZnV,hn,ZnE,ZnE,ZnE,←ZBb,ZDt,Ztk hc,Zvc,ZnV];refine⟨ZnI (by omega),Zrd ⟨by omega,by omega⟩,ZnI (by omega), ?_⟩;have hp:i+n < o.length:=by omega
   have h0:o[i+n]=0:=by have:=hoz (i+n) (Nat.le_refl _) (by omega);rw[ZDw hp]at this;exact Option.some.inj this
   have q1:=Zvl o (i+n) c hp;rw[h0,ZEd,ZDP]at q1;refine ih (o.set (i+n) c) ⟨by simp[hol],hod.set _ hc, ?_,fun k hk hk2=> ?_⟩
   ·rw[q1,hov,hv,Zn1 hi,ex,ZDM,ZD4]
   ·rw[List.getElem?_set_ne (by omega)];exact hoz k (by omega) hk2
 ·rintro rec s ⟨hl,hd,hv,hz⟩;unfold Zq6 ZpJ;dsimp only;rw[ZnW];refine⟨fun h=>by have:=of_decide_eq_true h;omega,fun _=> ?_⟩;rw[ZnB];rw[ZDL (by omega),ZrR]at hv;exact⟨s,rfl,hd,hl,hv⟩
 ·rintro y ⟨o,rfl,hd,hl,hv⟩;unfold ZrL;rw[Zu3 hd (by omega),ZnF,ZnB,ZnB,hv]
theorem ZwP {c d s:Nat} (hs:s≤31) (hc:c < 2 ^ s) (hd:d < Bw):c|||(d*2 ^ s % Bw)=c+d*2 ^ s % Bw:=by
 have e:Bw=2 ^ (32 - s)*2 ^ s:=by rw[←ZEf,show 32 - s+s=32 by omega]
 rw[e,ZEb];have:=Nat.shiftLeft_add_eq_or_of_lt hc (d % 2 ^ (32 - s));rw[Nat.shiftLeft_eq]at this;rw[Nat.or_comm,←this,Nat.add_comm]
theorem ZAe {d s:Nat} (hs:s≤32) (hd:d < Bw):shlK .u64 (IntKind.wrap .u64 (d:Int)) (s:Int)=((d*2 ^ s:Nat):Int):=by
 have h2:2 ^ s≤2 ^ 32:=ZEg (by decide) hs;have h3:d*2 ^ s≤4294967295*4294967296:=ZD6 (by simp only[Bw]at hd;omega) h2;unfold shlK;simp only[Bw]at hd;rw[Zn3 (by omega),ZDt,show IntKind.bits .u64=64 from rfl,ZDZ (by omega)];have e:(d:Int)*(2:Int) ^ s=((d*2 ^ s:Nat):Int):=by push_cast;rfl
 rw[e,Zn3 (by omega)]
theorem Zwx (l:List Nat) (s:Nat) (hs:s≤31) (hl:l.length≤100000) (hd:Dg l):∃o:List Nat,Zom (iL l) (s:Int)=some (iL o)∧Dg o∧o.length=l.length+1∧val o=val l*2 ^ s:=by
 have:wp (Zom (iL l) (s:Int)) (fun y=>∃o:List Nat,y=iL o∧Dg o∧o.length=l.length+1∧val o=val l*2 ^ s):=by
  have h2:2 ^ s≤2 ^ 31:=ZEg (by decide) hs;unfold Zom Zq8;rw[ZnV,ZnE,ZnE,ZnF,show (l.length:Int)+1=((l.length+1:Nat):Int)from rfl,ZDt,ZwB];refine⟨ZnI (by omega),Zvz (by omega), ?_⟩;refine ZoD (Zrr ZtY l.length (by omega) (fun i (t:List Nat×Nat)=>((s:Int),iL l,(l.length:Int),i,iL (t.1++t.2::ZDH (l.length - t.1.length) 0))) (fun i t=>t.1.length=i∧t.2 < 2 ^ s∧Dg t.1∧val t.1+Bw ^ i*t.2=val (l.take i)*2 ^ s)
   (Q:=fun y=>∃o:List Nat,y=iL o∧Dg o∧o.length=l.length+1∧val o=val l*2 ^ s) ([],0) ⟨rfl,ZEk s,ZvF,by simp[val]⟩ ?_ ?_) ?_
  ·rintro rec i ⟨o,c⟩ hi ⟨hol,hc,hod,hv⟩ ih;dsimp only at hol hc hod hv ih;have h1:=hd.get hi;have hcB:c < Bw:=by simp only[Bw];omega
   unfold ZqH Zpn;dsimp only;rw[ZnW];refine⟨fun _=> ?_,fun h=>by simp only[decide_eq_false_iff_not]at h;omega⟩;rw[Zsu hi,ZnF,ZnB];generalize ex:l[i]=x at h1;have hlen:(o++c::ZDH (l.length - o.length) 0).length=l.length+1:=by simp;omega
   have hg:(iL (o++c::ZDH (l.length - o.length) 0))[i]? =some (c:Int):=by rw[ZvE (by rw[hlen];omega)];congr 2;rw[ZDy (by omega)];simp[hol]
   rw[ZAe (by omega) h1,show (32:Int)=((32:Nat):Int)from rfl,Zvn 32 (by omega),Zs6];have hx2:x*2 ^ s / 2 ^ 32 < 2 ^ s:=(ZDS (by decide)).2 (by
    rw[ZD5 (2 ^ s)];exact ZEa h1 (ZEk s))
   rw[Ztk (by omega),ZDt,show ((i:Int)+1).toNat=i+1 by omega,hg];rw[ZnE,ZnE,ZnF,ZnB,ZnE,ZnE,ZnE,ZnE,ZnE,Zxc hcB (ZD2 _ (by decide)),ZwP hs hc h1];have hsum:c+x*2 ^ s % Bw < Bw:=by
    have e:Bw=2 ^ (32 - s)*2 ^ s:=by rw[←ZEf,show 32 - s+s=32 by omega]
    have hm:x % 2 ^ (32 - s)+1≤2 ^ (32 - s):=ZD2 _ (ZEk _);have:=ZD8 (2 ^ s) hm;rw[ZDM,ZEe]at this;rw[e,ZEb];omega
   have es:((o++c::ZDH (l.length - o.length) 0).set i (c+x*2 ^ s % Bw)).set (i+1) (x*2 ^ s / 2 ^ 32)=(o++[c+x*2 ^ s % Bw])++(x*2 ^ s / 2 ^ 32)::ZDH (l.length - (o.length+1)) 0:=by rw[ZDI _ _ (by omega),hol,ZEj,ZDJ,ZDI _ _ (by omega),hol,show i+1 - i=1 by omega,show l.length - i=(l.length - (i+1))+1 by omega,List.replicate_succ];simp
   rw[Zvc,Zvc,es];simp only[ZnV,ZDD,hlen];refine⟨by simp,Zrd ⟨by omega,by omega⟩,Zrd ⟨by omega,by omega⟩,ZnI (by omega),by decide,Zrd ⟨by omega,by omega⟩,ZnI (by omega), ?_⟩;have:=ih (o++[c+x*2 ^ s % Bw],x*2 ^ s / 2 ^ 32) ⟨by simp[hol],hx2,hod.app (Zvu hsum), ?_⟩
   ·simp only[ZDA,ZDE]at this;exact this
   ·dsimp only;have q:Bw ^ i*(x*2 ^ s % Bw+Bw*(x*2 ^ s / 2 ^ 32))=Bw ^ i*(x*2 ^ s):=by have:=ZD0 (x*2 ^ s) Bw;rw[show (2:Nat) ^ 32=Bw from rfl,this]
    rw[ZD3]at q;rw[Ztq,hol,ZEh,ZD4,Zn1 hi,ex,ZD3,ZDM,ZD4 (Bw ^ i) x];omega
  ·rintro rec ⟨o,c⟩ ⟨hol,hc,hod,hv⟩;dsimp only at hol hc hod hv;unfold ZqH Zpn;dsimp only;rw[ZnW];refine⟨fun h=>by have:=of_decide_eq_true h;omega,fun _=> ?_⟩;rw[ZnB];rw[List.take_length]at hv;refine⟨o++[c], ?_,hod.app (Zvu (by simp only[Bw];omega)),by simp[hol], ?_⟩
   ·rw[hol,ZEj];rfl
   ·rw[Ztq,hol];exact hv
  ·rintro y hy;exact ZnB.2 hy
 obtain⟨y,hy,o,rfl,h1,h2,h3⟩:=this;exact⟨o,hy,h1,h2,h3⟩
end Go.Proofs
namespace Go.Proofs
open Go Eng
theorem ZBr {B P u0 u1 u2 wl d1 d2 dl:Nat} (hdl:dl < P) (hd2:d2 < B) (h:((u0*B+u1)*B+u2)*P+wl < B*((d1*B+d2)*P+dl)):u0≤d1:=by
 rcases ZDX d1 u0 with hlt |hge
 ·exfalso;have h1:(d1+1)*(B*(B*P))≤u0*(B*(B*P)):=ZD8 _ hlt;have h2:(d2+1)*P≤B*P:=ZD8 _ hd2;rw[ZDM,ZEe]at h2;have h3:B*(d2*P+dl)≤B*(B*P):=ZD7 _ (by omega);have e:B*(d1*(B*P))=d1*(B*(B*P)):=ZD9 _ _ _;simp only[ZDM,ZD3,ZD4,ZEe]at h h1 h3;omega
 ·exact hge
theorem ZBq {B P u0 u1 u2 wl d1 d2 dl q:Nat} (hw:wl < P) (hu2:u2 < B) (h:q*((d1*B+d2)*P+dl)≤((u0*B+u1)*B+u2)*P+wl):q*d1≤u0*B+u1:=by
 rcases ZDX (u0*B+u1) (q*d1)with hlt |hge
 ·exfalso;have h1:(u0*B+u1+1)*(B*P)≤q*d1*(B*P):=ZD8 _ hlt;have h2:(u2+1)*P≤B*P:=ZD8 _ hu2;simp only[ZDM,ZD3,ZD4,ZEe]at h h1 h2;omega
 ·exact hge
theorem ZBp {B P u0 u1 u2 wl d1 d2 dl rest g:Nat} (hw:wl < P) (hr:rest+g*d1=u0*B+u1) (hg:rest*B+u2 < g*d2):((u0*B+u1)*B+u2)*P+wl < g*((d1*B+d2)*P+dl):=by
 rw[←hr];have h1:(rest*B+u2+1)*P≤g*d2*P:=ZD8 _ hg;simp only[ZDM,ZD3,ZD4,ZEe]at h1⊢
 omega
theorem ZBo {B P u0 u1 u2 wl d1 d2 dl rest g:Nat} (hdl:dl < P) (hB:g < B) (h1:1≤d1) (hr:rest+g*d1=u0*B+u1) (hg:g*d2≤rest*B+u2):g*((d1*B+d2)*P+dl) < (((u0*B+u1)*B+u2)*P+wl)+((d1*B+d2)*P+dl):=by
 rw[←hr];have h2:g*d2*P≤(rest*B+u2)*P:=ZD8 _ hg;have h3:g*dl≤g*P:=ZD7 _ (Nat.le_of_lt hdl);have h4:(g+1)*P≤B*P:=ZD8 _ hB;have h5:1*(B*P)≤d1*(B*P):=ZD8 _ h1;simp only[ZDM,ZD3,ZD4,ZEe]at h2 h4 h5⊢
 omega
theorem rdw {pre w suf:List Nat} {k:Nat} (h:k < w.length):(iL (pre++(w++suf)))[pre.length+k]? =some (w[k]:Int):=by rw[ZvE (by simp;omega)];congr 2;rw[ZDy (by omega)];simp only[Nat.add_sub_cancel_left];rw[List.getElem_append_left h]
theorem stw {pre w suf:List Nat} {k:Nat} (x:Nat) (h:k < w.length):(iL (pre++(w++suf))).set (pre.length+k) (x:Int)=iL (pre++(w.set k x++suf)):=by rw[Zvc,ZDI _ _ (by omega),Nat.add_sub_cancel_left,List.set_append_left _ _ h]
theorem ZCU {l:List Nat} {m:Nat} (h:l.length=m+2):val l=(l[m+1]*Bw+l[m])*Bw ^ m+val (l.take m):=by have e:=Zuw (l:=l) (k:=m) (by omega);have e2:=Zuw (l:=l) (k:=m+1) (by omega);have h3:=Zn1 (l:=l) (k:=m) (by omega);rw[List.drop_eq_nil_of_le (by omega)]at e2;simp only[val,ZEd,ZDP]at e2;rw[e2,h3,ZEh,ZDM,ZD5 (l[m]),ZD5 (Bw ^ m) Bw,ZD5 (Bw*Bw ^ m),ZD4];omega
theorem top3 {l:List Nat} {m:Nat} (h:l.length=m+3):val l=((l[m+2]*Bw+l[m+1])*Bw+l[m])*Bw ^ m+val (l.take m):=by have e:val l=(l[m+2]*Bw+l[m+1])*Bw ^ (m+1)+val (l.take (m+1)):=ZCU (by omega);have h3:=Zn1 (l:=l) (k:=m) (by omega);rw[e,h3,ZEh,ZD5 (Bw ^ m) Bw,←ZD4,ZDM ((l[m+2]*Bw+l[m+1])*Bw),ZD5 (l[m])];omega
theorem ZAv {h l:Nat} (hh:h < 4294967296) (hl:l < 4294967296):orK .u64 (shlK .u64 (h:Int) 32) (IntKind.wrap .u64 (l:Int))=((h*4294967296+l:Nat):Int):=by
 have:=Zxf hh hl
 rwa [Zn3 (by omega)]at this
theorem ZAp {x y:Nat} (hx:x < Bw) (hy:y < Bw):IntKind.wrap .u64 ((x:Int)*IntKind.wrap .u64 (y:Int))=((x*y:Nat):Int):=by have:=Zvr hx hy;rw[Zn3 (by simp only[Bw]at hy;omega),←ZDs,Zn3 (by omega)]
theorem Zzl {pre w suf d:List Nat} {m:Nat} (hw:w.length=m+3) (hd:d.length=m+2) (hwd:Dg w) (hdd:Dg d) (h1:1≤d[m+1]) (hlt:val w < Bw*val d) (hm:m≤100000) {g r:Nat}
  (hg:g < Bw) (hq:val w / val d≤g) (hr:r+g*d[m+1]=w[m+2]*Bw+w[m+1]) (hr2:r < 2*Bw):
  wp (Zp9 big pre.length (m+3) (iL d) ((m+2:Nat):Int) (g:Int) (r:Int) (iL (pre++(w++suf)))) (fun y=>∃g:Nat,y=(pre.length,m+3,iL d,((m+2:Nat):Int),(g:Int),iL (pre++(w++suf)))∧g < Bw∧val w / val d≤g∧g*val d < val w+val d):=by
 have hw0:=hwd.get (i:=m) (by omega);have hd2:=hdd.get (i:=m) (by omega);have hd1:=hdd.get (i:=m+1) (by omega);have hdl:val (d.take m) < Bw ^ m:=by have:=Ztb (hdd.take m);rwa [ZDF,ZDZ (by omega)]at this
 have hwl:val (w.take m) < Bw ^ m:=by have:=Ztb (hwd.take m);rwa [ZDF,ZDZ (by omega)]at this
 have eW:=top3 hw;have eD:=ZCU hd;have rd:(iL (pre++(w++suf)))[pre.length+m]? =some (w[m]:Int):=rdw (by omega);have rdd:idx (iL d) (m:Int)=some (d[m]:Int):=Zsu (by omega);have rdd1:idx (iL d) ((m+1:Nat):Int)=some (d[m+1]:Int):=Zsu (by omega);generalize d[m+1]=d1 at*
 generalize d[m]=d2 at*
 generalize w[m+2]=u0 at*
 generalize w[m+1]=u1 at*
 generalize w[m]=u2 at*
 have hDpos:0 < val d:=by rw[eD];have:1*1≤(d1*Bw+d2)*Bw ^ m:=ZD6 (by simp only[Bw];omega) (Nat.pow_pos (by decide));omega
 have hdiv:∀g,val w < g*val d→val w / val d < g:=fun g h=>(ZDS hDpos).2 h
 generalize val w / val d=qq at*
 refine ZuU Zvj (fun(t:Nat×Nat)=>(pre.length,m+3,iL d,((m+2:Nat):Int),(t.1:Int),(t.2:Int),iL (pre++(w++suf)))) (fun t=>t.1 < Bw∧qq≤t.1∧t.2+t.1*d1=u0*Bw+u1∧t.2 < 2*Bw) (fun t=>t.1) (g,r) ⟨hg,hq,hr,hr2⟩ (by simp only[Bw]at hg;dsimp only;omega) ?_;rintro rec ⟨g,r⟩ ⟨hg,hq,hr,hr2⟩ ih;dsimp only at hg hq hr hr2 ih;unfold Zt3 ZsZ;dsimp only;have e2:((m+2:Nat):Int) - 2=(m:Int):=by omega
 have e1:((m+2:Nat):Int) - 1=((m+1:Nat):Int):=by omega
 have fin:g*d2≤r*Bw+u2→wp (some (pre.length,m+3,iL d,((m+2:Nat):Int),(g:Int),iL (pre++(w++suf)))) (fun y=>∃g:Nat,y=(pre.length,m+3,iL d,((m+2:Nat):Int),(g:Int),iL (pre++(w++suf)))∧g < Bw∧qq≤g∧g*val d < val w+val d):=fun h=>by rw[ZnB];refine⟨g,rfl,hg,hq, ?_⟩;rw[eW,eD];exact ZBo hdl hg h1 hr h
 rw[ZnW];refine⟨fun h=> ?_,fun h=> ?_⟩
 ·have hrB:r < 4294967296:=by have:=of_decide_eq_true h;omega
  rw[e2,ZnE,rdd,ZnF,ZnB,ZnE,ZnE,ZnE,ZnF,ZDt,rd,ZnB,ZAp hg hd2,ZAv hrB hw0];refine⟨ZnI (by omega),by decide,ZnI (by omega),Zrd ⟨by omega,by omega⟩, ?_⟩;unfold Zrc;rw[ZnW];refine⟨fun h=> ?_,fun h=> ?_⟩
  ·have hc:r*Bw+u2 < g*d2:=by have:=of_decide_eq_true h;simp only[Bw];omega
   have hlt2:val w < g*val d:=by rw[eW,eD];exact ZBp hwl hr hc
   have hqg:qq < g:=hdiv g hlt2;rw[e1,ZnE,rdd1,ZnF,ZnB];refine⟨ZnI (by omega), ?_⟩;have eg:IntKind.wrap .u64 ((g:Int) - 1)=((g - 1:Nat):Int):=by simp only[Bw]at hg;rw[show (g:Int) - 1=((g - 1:Nat):Int) by omega,Zn3 (by omega)]
   have er:IntKind.wrap .u64 ((r:Int)+IntKind.wrap .u64 (d1:Int))=((r+d1:Nat):Int):=by simp only[Bw]at hd1;rw[Zn3 (by omega),←ZBb,Zn3 (by omega)]
   rw[eg,er];refine ih (g - 1,r+d1) ⟨by dsimp only;omega,by dsimp only;omega, ?_,by dsimp only;simp only[Bw]at hd1⊢;omega⟩ (by dsimp only;omega);dsimp only;rw[←hr,show g*d1=(g - 1+1)*d1 by rw[Nat.sub_add_cancel (by omega)],ZDM,ZEe];omega
  ·have hc:g*d2≤r*Bw+u2:=by have:=of_decide_eq_false h;simp only[Bw];omega
   exact fin hc
 ·have hrB:4294967296≤r:=by have:=of_decide_eq_false h;omega
  unfold Zrc;rw[cond_false];refine fin ?_;have h1:=Zvr hg hd2;have h2:4294967296*4294967296≤r*Bw:=ZD6 hrB (Nat.le_refl _);omega
end Go.Proofs
namespace Go.Proofs
open Go Eng
abbrev Zzq (pre suf:List Nat) (W D m:Nat) (y:Int×List Int):Prop:=∃w':List Nat,y=(((W / D:Nat):Int),iL (pre++(w'++suf)))∧w'.length=m+3∧Dg w'∧val w'=W % D
theorem ZAM {pre w suf d:List Nat} {m W:Nat} (hw:w.length=m+3) (hd:d.length=m+2) (hwd:Dg w) (hdd:Dg d) (hm:m≤100000) {g:Nat} (hg:g < Bw)
  (hg1:W < g*val d) (hg2:g*val d < W+val d) (hv:val w+g*val d=W+Bw ^ (m+3)):
  wp ((Zrb big pre.length (m+3) ((m+2:Nat):Int) (g:Int) (0:Int) (iL d) (d.length:Int) (0:Int) (iL (pre++(w++suf)))).bind fun(x0,x1,x2,x3,x4,x5)=>Zsk x0 x1 x2 x3 x4 x5) (Zzq pre suf W (val d) m):=by
 rw[ZnF,hd];have hDpos:0 < val d:=by omega
 refine ZoD (Zrr Zvh (m+2) (by omega) (fun i (t:Nat×List Nat)=>(pre.length,m+3,((m+2:Nat):Int),(g:Int),(t.1:Int),iL d,((m+2:Nat):Int),i,iL (pre++(t.2++suf)))) (fun i t=>t.1≤1∧t.2.length=m+3∧Dg t.2∧val t.2+Bw ^ i*t.1=val w+val (d.take i))
  (Q:=fun y=>∃(a:Nat) (w2:List Nat),y=(pre.length,m+3,((m+2:Nat):Int),(g:Int),(a:Int),iL (pre++(w2++suf)))∧a≤1∧w2.length=m+3∧Dg w2∧val w2+Bw ^ (m+2)*a=val w+val d) (0,w) ⟨by simp,hw,hwd,by simp[val]⟩ ?_ ?_) ?_
 ·rintro rec i ⟨a,o⟩ hi ⟨ha,hol,hod,hv⟩ ih;dsimp only at ha hol hod hv ih;have hi1:i < o.length:=by omega
  have hi2:i < d.length:=by omega
  have h1:=hod.get hi1;have h2:=hdd.get hi2;unfold ZsX Zrw;dsimp only;rw[ZnW];refine⟨fun _=> ?_,fun h=>by have:=of_decide_eq_false h;omega⟩;rw[Zsu hi2,ZnF,ZnB,ZnE,ZnF,ZDt,rdw hi1,ZnB,ZBT h1 h2 ha,ZnF,ZnB];dsimp only;rw[ZnE,ZnE,stw _ hi1];refine⟨Zrd ⟨by omega,by omega⟩,Zrd ⟨by omega,by omega⟩,ZnI (by omega), ?_⟩;generalize ex:d[i]=x at h2;generalize ee:o[i]=e at h1;refine ih ((e+x+a) / 4294967296,o.set i ((e+x+a) % 4294967296)) ⟨by simp only[Bw]at h1 h2;dsimp only;omega,by simp[hol],hod.set _ (ZD2 _ (by decide)), ?_⟩;dsimp only;have q1:=Zvl o i ((e+x+a) % 4294967296) hi1;rw[ee]at q1;have q2:Bw ^ i*((e+x+a) % 4294967296+Bw*((e+x+a) / 4294967296))=Bw ^ i*(e+x+a):=by rw[ZD0]
  rw[ZD3,ZD3,ZD3]at q2;rw[ZEh,ZD4,Zn1 hi2,ex];omega
 ·rintro rec ⟨a,o⟩ ⟨ha,hol,hod,hv⟩;dsimp only at ha hol hod hv;unfold ZsX Zrw;dsimp only;rw[ZnW];refine⟨fun h=>by have:=of_decide_eq_true h;omega,fun _=> ?_⟩;rw[ZnB];rw[ZDL (by omega)]at hv;exact⟨a,o,rfl,ha,hol,hod,hv⟩
 ·rintro y ⟨a,o,rfl,ha,hol,hod,hov⟩;dsimp only;have hi1:m+2 < o.length:=by omega
  have h1:=hod.get hi1;unfold Zsk;rw[ZnE,ZnF,ZDt,rdw hi1,ZnB,ZnE];generalize ee:o[m+2]=e at h1;have ew:IntKind.wrap .u32 ((e:Int)+(a:Int))=(((e+a) % 4294967296:Nat):Int):=by rw[←ZBb,Zs6]
  have hgp:1≤g:=by
   rcases ZDT g with h |h
   ·rw[h,Nat.zero_mul]at hg1;omega
   ·exact h
  have eg:IntKind.wrap .u32 (IntKind.wrap .u64 ((g:Int) - 1))=((g - 1:Nat):Int):=by simp only[Bw]at hg;rw[show (g:Int) - 1=((g - 1:Nat):Int) by omega,Zn3 (by omega),Ztk (by omega)]
  rw[ew,eg,stw _ hi1,ZnB];refine⟨Zrd ⟨by omega,by omega⟩,Zrd ⟨by omega,by omega⟩, ?_⟩;have q1:=Zvl o (m+2) ((e+a) % 4294967296) hi1;rw[ee]at q1;have q2:Bw ^ (m+2)*((e+a) % 4294967296+Bw*((e+a) / 4294967296))=Bw ^ (m+2)*(e+a):=by rw[ZD0]
  rw[ZD3,ZD3,←ZD4,←ZEh]at q2;have hdn:Dg (o.set (m+2) ((e+a) % 4294967296)):=hod.set _ (ZD2 _ (by decide));have hlt:=Ztb hdn;rw[ZDD,hol]at hlt;have hco:(e+a) / 4294967296≤1:=by simp only[Bw]at h1;omega
  have hpw:Bw ^ (m+2+1)=Bw ^ (m+3):=rfl;rw[hpw]at q2;have egD:g*val d=(g - 1)*val d+val d:=by rw[show g*val d=(g - 1+1)*val d by rw[Nat.sub_add_cancel hgp],ZDM,ZEe]
  have key:val (o.set (m+2) ((e+a) % 4294967296))+(g - 1)*val d=W:=by
   rcases ZDT ((e+a) / 4294967296)with hz |hz
   ·rw[hz,ZEd]at q2;omega
   ·rw[show (e+a) / 4294967296=1 by omega,ZEc]at q2;omega
  have hl3:(o.set (m+2) ((e+a) % 4294967296)).length=m+3:=by rw[ZDD,hol]
  generalize o.set (m+2) ((e+a) % 4294967296)=w3 at*
  have hlt3:val w3 < val d:=by omega
  have eq1:W / val d=g - 1:=by rw[←key,ZDN _ _ hDpos,ZDR hlt3,ZEm]
  have eq2:W % val d=val w3:=by rw[←key,ZDO,ZD1 hlt3]
  exact⟨w3,by rw[eq1],hl3,hdn,eq2.symm⟩
theorem Zz9 {pre w suf d:List Nat} {m:Nat} (hw:w.length=m+3) (hd:d.length=m+2) (hwd:Dg w) (hdd:Dg d) (hm:m≤100000) {g:Nat} (hg:g < Bw)
  (hDpos:0 < val d) (hq:val w / val d≤g) (hg2:g*val d < val w+val d):
  wp (Zsl pre.length (m+3) (iL d) ((m+2:Nat):Int) (g:Int) (iL (pre++(w++suf)))) (Zzq pre suf (val w) (val d) m):=by
 unfold Zsl;rw[ZnF,ZnV,hd];refine ZoD (Zrr Zvi (m+2) (by omega) (fun i (t:Nat×Nat×List Nat)=>(pre.length,m+3,iL d,((m+2:Nat):Int),(g:Int),(t.1:Int),(t.2.1:Int),iL d,((m+2:Nat):Int),i,iL (pre++(t.2.2++suf)))) (fun i t=>t.1≤1∧t.2.1 < Bw∧t.2.2.length=m+3∧Dg t.2.2∧val t.2.2+g*val (d.take i)=val w+Bw ^ i*(t.1+t.2.1))
  (Q:=fun y=>∃(b c:Nat) (w2:List Nat),y=(pre.length,m+3,iL d,((m+2:Nat):Int),(g:Int),(b:Int),(c:Int),iL (pre++(w2++suf)))∧b≤1∧c < Bw∧w2.length=m+3∧Dg w2∧val w2+g*val d=val w+Bw ^ (m+2)*(b+c)) (0,0,w) ⟨by simp,by simp,hw,hwd,by simp[val]⟩ ?_ ?_) ?_
 ·rintro rec i ⟨b,c,o⟩ hi ⟨hb,hc,hol,hod,hv⟩ ih;dsimp only at hb hc hol hod hv ih;have hi1:i < o.length:=by omega
  have hi2:i < d.length:=by omega
  have h1:=hod.get hi1;have h2:=hdd.get hi2;unfold ZsY Zrx;dsimp only;rw[ZnW];refine⟨fun _=> ?_,fun h=>by have:=of_decide_eq_false h;omega⟩;rw[Zsu hi2,ZnF,ZnB,ZnE,ZnF,ZDt,rdw hi1,ZnB];generalize ex:d[i]=x at h2;generalize ee:o[i]=e at h1;have hbd:=Zvr hg h2;have es:IntKind.wrap .u64 ((c:Int)+((g*x:Nat):Int))=((c+g*x:Nat):Int):=by simp only[Bw]at hc;rw[←ZBb,Zn3 (by omega)]
  rw[ZAp hg h2,es,Zs6,ZAb h1 (ZD2 _ (by decide)) hb,ZnF,ZnB];dsimp only;rw[ZnE,ZnE,ZnE,stw _ hi1,show (32:Int)=((32:Nat):Int)from rfl,Zvn 32 (by omega)];refine⟨Zrd ⟨by omega,by omega⟩,Zrd ⟨by omega,by omega⟩,by decide,ZnI (by omega), ?_⟩;have hlo:(c+g*x) % 4294967296 < 4294967296:=ZD2 _ (by decide);have hhi:(c+g*x) / 2 ^ 32 < Bw:=by simp only[Bw]at hc⊢;omega
  have hs:(c+g*x) % 4294967296+Bw*((c+g*x) / 2 ^ 32)=c+g*x:=ZD0 _ _;generalize (c+g*x) % 4294967296=lo at*
  generalize (c+g*x) / 2 ^ 32=hi' at*
  refine ih ((if e < lo+b then 1 else 0),hi',o.set i ((e+4294967296 - lo - b) % 4294967296)) ⟨by dsimp only;split<;>omega,hhi,by simp[hol],hod.set _ (ZD2 _ (by decide)), ?_⟩;dsimp only;have q1:=Zvl o i ((e+4294967296 - lo - b) % 4294967296) hi1;rw[ee]at q1;have e1:e+Bw*(if e < lo+b then 1 else 0)=(e+4294967296 - lo - b) % 4294967296+lo+b:=by simp only[Bw]at h1⊢;split<;>omega
  have q2:Bw ^ i*(e+Bw*(if e < lo+b then 1 else 0))=Bw ^ i*((e+4294967296 - lo - b) % 4294967296+lo+b):=by rw[e1]
  have q3:Bw ^ i*(lo+Bw*hi')=Bw ^ i*(c+g*x):=by rw[hs]
  have q4:g*(Bw ^ i*x)=Bw ^ i*(g*x):=ZD9 _ _ _;rw[ZD3,ZD3,ZD3]at q2;rw[ZD3,ZD3]at q3;rw[ZD3]at hv;rw[ZEh,ZD4,Zn1 hi2,ex,ZD3,ZD3 Bw,ZD3];omega
 ·rintro rec ⟨b,c,o⟩ ⟨hb,hc,hol,hod,hv⟩;dsimp only at hb hc hol hod hv;unfold ZsY Zrx;dsimp only;rw[ZnW];refine⟨fun h=>by have:=of_decide_eq_true h;omega,fun _=> ?_⟩;rw[ZnB];rw[ZDL (by omega)]at hv;exact⟨b,c,o,rfl,hb,hc,hol,hod,hv⟩
 ·rintro y ⟨b,c,o,rfl,hb,hc,hol,hod,hv⟩;dsimp only;have hi1:m+2 < o.length:=by omega
  have h1:=hod.get hi1;unfold Ztt;rw[ZnE,ZnF,ZDt,rdw hi1,ZnB,Ztk hc];generalize ee:o[m+2]=e at h1;rw[ZAb h1 hc hb,ZnF,ZnB];dsimp only;rw[ZnE,stw _ hi1,Ztk hg];refine⟨Zrd ⟨by omega,by omega⟩,Zrd ⟨by omega,by omega⟩, ?_⟩;have q1:=Zvl o (m+2) ((e+4294967296 - c - b) % 4294967296) hi1;rw[ee]at q1;have e1:e+Bw*(if e < c+b then 1 else 0)=(e+4294967296 - c - b) % 4294967296+c+b:=by simp only[Bw]at h1 hc⊢;split<;>omega
  have q2:Bw ^ (m+2)*(e+Bw*(if e < c+b then 1 else 0))=Bw ^ (m+2)*((e+4294967296 - c - b) % 4294967296+c+b):=by rw[e1]
  rw[ZD3,ZD3,ZD3,←ZD4,←ZEh]at q2;rw[ZD3]at hv;have hpw:Bw ^ (m+2+1)=Bw ^ (m+3):=rfl;rw[hpw]at q2;have hdn:Dg (o.set (m+2) ((e+4294967296 - c - b) % 4294967296)):=hod.set _ (ZD2 _ (by decide));have hlt:=Ztb hdn;rw[ZDD,hol]at hlt;have hl3:(o.set (m+2) ((e+4294967296 - c - b) % 4294967296)).length=m+3:=by rw[ZDD,hol]
  generalize o.set (m+2) ((e+4294967296 - c - b) % 4294967296)=w3 at*
  generalize (e+4294967296 - c - b) % 4294967296=dd at*
  by_cases hcc:e < c+b
  ·rw[if_pos hcc]at q2⊢
   rw[show (((1:Nat):Int) == 0)=false from rfl,cond_false];rw[ZnV d];exact ZAM (pre:=pre) (suf:=suf) hl3 hd hdn hdd hm hg (by omega) hg2 (by omega)
  ·rw[if_neg hcc]at q2⊢
   rw[show (((0:Nat):Int) == 0)=true from rfl,cond_true,ZnB];have key:val w3+g*val d=val w:=by omega
   have hlt3:val w3 < val d:=by have h5:(val w / val d)*val d≤g*val d:=ZD8 _ hq;have h6:=ZDQ (val w) (val d);have h7:=ZD2 (val w) hDpos;rw[ZD5]at h6;omega
   have eq1:val w / val d=g:=by rw[←key,ZDN _ _ hDpos,ZDR hlt3,ZEm]
   have eq2:val w % val d=val w3:=by rw[←key,ZDO,ZD1 hlt3]
   exact⟨w3,by rw[eq1],hl3,hdn,eq2.symm⟩
theorem Zzm {pre w suf d:List Nat} {m:Nat} (hw:w.length=m+3) (hd:d.length=m+2) (hwd:Dg w) (hdd:Dg d) (hm:m≤100000) (h1:1≤d[m+1]) (hlt:val w < Bw*val d):
  wp (ZsC (iL (pre++(w++suf))) pre.length (m+3) (iL d)) (Zzq pre suf (val w) (val d) m):=by
 have hd1:=hdd.get (i:=m+1) (by omega);have hd2:=hdd.get (i:=m) (by omega);have h_u0:=hwd.get (i:=m+2) (by omega);have h_u1:=hwd.get (i:=m+1) (by omega);have h_u2:=hwd.get (i:=m) (by omega);have hdl:val (d.take m) < Bw ^ m:=by have:=Ztb (hdd.take m);rwa [ZDF,ZDZ (by omega)]at this
 have hwl:val (w.take m) < Bw ^ m:=by have:=Ztb (hwd.take m);rwa [ZDF,ZDZ (by omega)]at this
 have eW:=top3 hw;have eD:=ZCU hd;have hDpos:0 < val d:=by rw[eD];have:1*1≤(d[m+1]*Bw+d[m])*Bw ^ m:=ZD6 (by simp only[Bw];omega) (Nat.pow_pos (by decide));omega
 have hk1:w[m+2]≤d[m+1]:=ZBr hdl hd2 (by rw[←eW,←eD];exact hlt);have hk2:(val w / val d)*d[m+1]≤w[m+2]*Bw+w[m+1]:=ZBq hwl h_u2 (by rw[←eW,←eD];exact Nat.div_mul_le_self _ _);have hqB:val w / val d < Bw:=(ZDS hDpos).2 hlt;have hG:∃g:Nat,(if (4294967295:Int) < (IntKind.wrap .u64 (Int.tdiv (orK .u64 (shlK .u64 (IntKind.wrap .u64 (w[m+2]:Int)) 32) (IntKind.wrap .u64 (w[m+1]:Int))) (IntKind.wrap .u64 (d[m+1]:Int))))then (4294967295:Int)else (IntKind.wrap .u64 (Int.tdiv (orK .u64 (shlK .u64 (IntKind.wrap .u64 (w[m+2]:Int)) 32) (IntKind.wrap .u64 (w[m+1]:Int))) (IntKind.wrap .u64 (d[m+1]:Int)))))=(g:Int)∧g < Bw∧val w / val d≤g∧g*d[m+1]≤w[m+2]*Bw+w[m+1]∧w[m+2]*Bw+w[m+1] < g*d[m+1]+2*Bw:=by
  rw[Zxf h_u0 h_u1,Zn3 (by simp only[Bw]at hd1;omega)];have e1:Int.tdiv ((w[m+2]*4294967296+w[m+1]:Nat):Int) (d[m+1]:Int)=(((w[m+2]*4294967296+w[m+1]) / d[m+1]:Nat):Int):=by rw[Int.tdiv_eq_ediv_of_nonneg (by omega)];norm_cast
  have hnum:w[m+2]*4294967296+w[m+1] < 18446744073709551616:=by simp only[Bw]at h_u0 h_u1;omega
  have hle:(w[m+2]*4294967296+w[m+1]) / d[m+1]≤w[m+2]*4294967296+w[m+1]:=Nat.div_le_self _ _;rw[e1,Zn3 (by omega)];have hq2:val w / val d≤(w[m+2]*4294967296+w[m+1]) / d[m+1]:=(Nat.le_div_iff_mul_le (by omega)).2 hk2;have hdm:=ZDQ (w[m+2]*4294967296+w[m+1]) d[m+1];have hml:=ZD2 (w[m+2]*4294967296+w[m+1]) (show 0 < d[m+1] by omega);rw[ZD5]at hdm;generalize (w[m+2]*4294967296+w[m+1]) / d[m+1]=q0 at*
  generalize (w[m+2]*4294967296+w[m+1]) % d[m+1]=r0 at*
  generalize val w / val d=qq at*
  by_cases hc:4294967295 < q0
  ·refine⟨4294967295,by rw[if_pos (by omega)];rfl,by simp only[Bw];omega,by simp only[Bw]at hqB;omega, ?_, ?_⟩
   ·have:=ZD8 d[m+1] (show 4294967295≤q0 by omega);simp only[Bw];omega
   ·simp only[Bw]at*
    omega
  ·refine⟨q0,by rw[if_neg (by omega)],by simp only[Bw];omega,hq2, ?_, ?_⟩
   ·simp only[Bw];omega
   ·simp only[Bw]at*
    omega
 have h2:wp (Ztr (iL (pre++(w++suf))) pre.length (m+3) (iL d)) (Zzq pre suf (val w) (val d) m):=by
  obtain⟨g,hg,hgB,hgq,hgd,hgr⟩:=hG;have e1:((m+2:Nat):Int) - 1=((m+1:Nat):Int):=by omega
  unfold Ztr;rw[ZnV,hd,e1,ZDt,ZDt,rdw (by omega),rdw (by omega),Zsu (by omega)];rw[ZnE,ZnF,ZnB,ZnE,ZnE,ZnE,ZnF,ZnB,ZnE,ZnF,ZnB,ZnE,ZnE,ZnF,ZnB,hg,Zxf h_u0 h_u1,ZAp hgB hd1,ZnF];have er:IntKind.wrap .u64 (((w[m+2]*4294967296+w[m+1]:Nat):Int) - ((g*d[m+1]:Nat):Int))=((w[m+2]*4294967296+w[m+1] - g*d[m+1]:Nat):Int):=by simp only[Bw]at hgd hgr;rw[←Int.ofNat_sub hgd,Zn3 (by omega)]
  rw[er];refine⟨Zrd ⟨by omega,by omega⟩,by decide,ZnI (by omega),Zrd ⟨by omega,by omega⟩,ZnI (by omega),decide_eq_true (by rw[Zn3 (by simp only[Bw]at hd1;omega)];omega),ZnI (by omega), ?_⟩;refine ZoD (Zzl hw hd hwd hdd h1 hlt hm hgB hgq (by simp only[Bw]at hgd⊢;omega) (by simp only[Bw]at hgr⊢;omega)) ?_;rintro y ⟨g',rfl,h3,h4,h5⟩;exact Zz9 hw hd hwd hdd hm h3 hDpos h4 h5
 unfold ZsC;rw[ZnF];refine ZoD h2 ?_;rintro y ⟨w',rfl,h3,h4,h5⟩;rw[ZnE,ZnB];refine⟨?_,w',rfl,h3,h4,h5⟩;dsimp only;rw[ZnV,ZnV];simp[h3,hw]
end Go.Proofs
namespace Go.Proofs
open Go Eng
theorem Zzo (l:List Nat) (h:l.length≤1000000):ZnZ (iL l)=some (iL l):=by
 cases l with
 |nil=>
  have e1:ZnH [] true=some []:=rfl;have e2:ZnH [] false=some []:=by kernel_rfl
  show agree (ZnH [] true) (ZnH [] false)=some [];rw[e1,e2,Zye]
 |cons x l=>
  show ZnH (iL (x::l)) false=_;unfold ZnH;rw[cond_false,ZuE (by rw[ZnV,List.length_nil];omega),chk_true];rfl
theorem Zv4 {l:List Nat} {k:Nat} (h:val l < Bw ^ k):val (l.take k)=val l:=by
 rcases ZDX k l.length with hk |hk
 ·have e:val l=val (l.take k++l.drop k):=by rw[ZDK]
  rw[ZuP,ZDF,ZDZ (by omega)]at e;rcases ZDT (val (l.drop k))with hz |hz
  ·rw[hz,ZEd,ZDP]at e;exact e.symm
  ·have:=ZD7 (Bw ^ k) hz;omega
 ·rw[ZDL hk]
theorem ZCT (u:List Nat) (k:Nat) (hk:k≤u.length) (hk2:k≤1000000):∃k',k'≤k∧val (u.take k')=val (u.take k)∧Zrg (iL u) 0 k=some (0,k',iL u):=by
 have h:wp (ZrT (iL u) 0 k) (fun y=>∃k',k'≤k∧val (u.take k')=val (u.take k)∧y=(0,k',iL u)):=by
  unfold ZrT Zsi;rw[ZnF];refine ZoD (ZuU ZuJ (fun(j:Nat)=>(0,j,iL u)) (fun j=>j≤k∧val (u.take j)=val (u.take k)) (fun j=>j) (Q:=fun y=>∃k',k'≤k∧val (u.take k')=val (u.take k)∧y=(0,k',iL u)) k ⟨Nat.le_refl _,rfl⟩ (by omega) ?_) (fun y hy=>ZnB.2 hy);rintro rec j ⟨hj,hv⟩ ih;unfold Ztm ZrP ZqT;dsimp only;cases j with
  |zero=>exact ZnB.2 ⟨0,hj,hv,rfl⟩
  |succ j=>
   have hju:j < u.length:=by omega
   have e1:((j+1:Nat):Int) - 1=(j:Int):=by omega
   rw[ZnW];refine⟨fun _=> ?_,fun h=>by have:=of_decide_eq_false h;omega⟩;rw[e1,ZDt,ZEm,ZnE,ZnE,ZvE hju,ZnF,ZnB,ZnW];refine⟨ZnI (by omega),Zrd ⟨by omega,by omega⟩,fun h=> ?_,fun h=> ?_⟩
   ·have h0:u[j]=0:=by have:=eq_of_beq h;omega
    rw[ZnE,ZnE];refine⟨ZnI (by omega),Zuu ⟨by omega,by omega,by omega⟩,ih j ⟨by omega, ?_⟩ (by omega)⟩;rw[←hv,Zn1 hju,h0,ZEd,ZDP]
   ·exact ZnB.2 ⟨j+1,hj,hv,rfl⟩
 obtain⟨y,hy,k',h1,h2,rfl⟩:=h;refine⟨k',h1,h2, ?_⟩;unfold Zrg;rw[hy,ZEn];simp
theorem Zyo {x y s:Nat} (hs:s≤31) (hx:x < Bw) (hy:y < Bw):((y*4294967296+x) / 2 ^ s % 4294967296)*2 ^ s+x % 2 ^ s=x+Bw*(y % 2 ^ s):=by
 have e:(4294967296:Nat)=2 ^ (32 - s)*2 ^ s:=by rw[←ZEf,show 32 - s+s=32 by omega]
 have hp:=ZEk s;have h1:=ZDQ x (2 ^ s);have h2:=ZDQ y (2 ^ s);have hx2:x / 2 ^ s < 2 ^ (32 - s):=(ZDS hp).2 (by rw[←e];exact hx);have hy2:=ZD2 y hp;have e1:(y*4294967296+x) / 2 ^ s=y*2 ^ (32 - s)+x / 2 ^ s:=by rw[e,←ZD4,Nat.add_comm,ZDN _ _ hp,Nat.add_comm]
 have e2:y*2 ^ (32 - s)+x / 2 ^ s=(y % 2 ^ s)*2 ^ (32 - s)+x / 2 ^ s+4294967296*(y / 2 ^ s):=by
  rw[e];have:y*2 ^ (32 - s)=(2 ^ s*(y / 2 ^ s)+y % 2 ^ s)*2 ^ (32 - s):=by rw[h2]
  rw[this,ZDM,ZD5 (2 ^ s),ZD5 (2 ^ (32 - s)),ZD4 (y / 2 ^ s),ZD5 (y / 2 ^ s)];omega
 have hlt:(y % 2 ^ s)*2 ^ (32 - s)+x / 2 ^ s < 4294967296:=by have:=ZD8 (2 ^ (32 - s)) (show y % 2 ^ s+1≤2 ^ s from hy2);rw[ZDM,ZEe,ZD5 (2 ^ s),←e]at this;omega
 rw[e1,e2,Nat.add_mul_mod_self_left,ZD1 hlt,ZDM,ZD4,←e,ZD5 (x / 2 ^ s),ZD5 (y % 2 ^ s)];simp only[Bw];omega
theorem ZA8 {u:List Nat} {k s R:Nat} (q:List Int) (hs:s≤31) (hd:Dg u) (hk:k≤u.length) (hk2:k≤1000000) (hv:val (u.take k)=R*2 ^ s):
  wp (Zpv big (s:Int) 0 k ((k:Nat):Int) (0:Int) q (iL u)) (fun y=>∃(o:List Nat),y=(0,k,q,iL (o++u.drop k))∧o.length=k∧Dg o∧val o=R):=by
 refine Zrr ZuB k (by omega) (fun i (o:List Nat)=>((s:Int),0,k,(k:Int),i,q,iL (o++u.drop o.length))) (fun i o=>o.length=i∧Dg o∧val o*2 ^ s+(if 0 < k then u.getD 0 0 else 0) % 2 ^ s=val (u.take i)+Bw ^ i*((if i < k then u.getD i 0 else 0) % 2 ^ s)) [] ⟨rfl,ZvF,by simp[val]⟩ ?_ ?_
 ·rintro rec i o hi ⟨hol,hod,hov⟩ ih;have hiu:i < u.length:=by omega
  have h1:=hd.get hiu;unfold Zrn ZpW;dsimp only;rw[ZnW];refine⟨fun _=> ?_,fun h=>by have:=of_decide_eq_false h;omega⟩;have hlen:(o++u.drop o.length).length=u.length:=by simp;omega
  have gx:(iL (o++u.drop o.length))[i]? =some (u[i]:Int):=by rw[ZvE (by omega)];congr 2;rw[ZDy (by omega)];simp[hol]
  obtain⟨y,hy,hyB,hye⟩:∃y:Nat,ZqR (iL (o++u.drop o.length)) 0 k ((i:Int)+1)=some ((y:Int),iL (o++u.drop o.length))∧y < Bw∧y=(if i+1 < k then u.getD (i+1) 0 else 0):=by
   unfold ZqR ZsV
   by_cases hc:i+1 < k
   ·have hiu2:i+1 < u.length:=by omega
    have gy:(iL (o++u.drop o.length))[i+1]? =some (u[i+1]:Int):=by rw[ZvE (by omega)];congr 2;rw[ZDy (by omega)];simp[hol]
    refine⟨u[i+1], ?_,hd.get hiu2, ?_⟩
    ·rw[decide_eq_true (by omega),cond_true,Zrd ⟨by omega,by omega⟩,chk_true,ZEm,show ((i:Int)+1).toNat=i+1 by omega,gy];simp
    ·rw[if_pos hc,ZDv,ZDw hiu2];rfl
   ·refine⟨0, ?_,by decide,by rw[if_neg hc]⟩;rw[decide_eq_false (by omega),cond_false];simp
  rw[hy,ZnE,ZnF,ZnB];dsimp only;rw[ZDt,ZEm,gx,ZnE,ZnE,ZnF,ZnB,ZnE,ZnE,ZnE,Zxf hyB h1,Zvn s (by omega),Zs6];refine⟨ZnI (by omega),by decide,Zrd ⟨by omega,by omega⟩,by simp,Zrd ⟨by omega,by omega⟩,ZnI (by omega), ?_⟩;generalize ez:(y*4294967296+u[i]) / 2 ^ s % 4294967296=z;have hz:z < Bw:=by rw[←ez];exact ZD2 _ (by decide)
  have es:(iL (o++u.drop o.length)).set i (z:Int)=iL ((o++[z])++u.drop (o++[z]).length):=by rw[Zvc,ZDI _ _ (by omega),hol,ZEj,←ZDz (h:=hiu),ZDJ];simp[hol]
  rw[es];refine ih (o++[z]) ⟨by simp[hol],hod.app (Zvu hz), ?_⟩;have hd1:=Zyo hs h1 hyB;rw[ez]at hd1;have q1:Bw ^ i*(z*2 ^ s+u[i] % 2 ^ s)=Bw ^ i*(u[i]+Bw*(y % 2 ^ s)):=by rw[hd1]
  have eg:u.getD i 0=u[i]:=by rw[ZDv,ZDw hiu];rfl
  rw[if_pos hi,eg]at hov;rw[ZD3,ZD3]at q1;rw[Ztq,hol,Zn1 hiu,←hye,ZEh,ZDM,ZD4,ZD4];omega
 ·rintro rec o ⟨hol,hod,hov⟩;unfold Zrn ZpW;dsimp only;rw[ZnW];refine⟨fun h=>by have:=of_decide_eq_true h;omega,fun _=> ?_⟩;rw[ZnB];refine⟨o,by rw[hol],hol,hod, ?_⟩;rw[if_neg (Nat.lt_irrefl _),Nat.zero_mod,ZEd,ZDP,hv]at hov;have hp:=ZEk s;have:(val o*2 ^ s+(if 0 < k then u.getD 0 0 else 0) % 2 ^ s) / 2 ^ s=R*2 ^ s / 2 ^ s:=by rw[hov]
  rw[Nat.add_comm,ZDN _ _ hp,ZDR (ZD2 _ hp),Nat.mul_div_cancel _ hp]at this;omega
theorem Zya {x s:Nat} (hs:s≤31) (h:x*2 ^ s < 4294967296):(x+1)*2 ^ s≤4294967296:=by
 have e:(4294967296:Nat)=2 ^ (32 - s)*2 ^ s:=by rw[←ZEf,show 32 - s+s=32 by omega]
 rw[e]at h⊢
 exact ZD8 _ (Nat.lt_of_mul_lt_mul_right h)
theorem Zy9 {d u:List Nat} {m K s U:Nat} (hd:d.length=m+2) (hdd:Dg d) (h1:1≤d[m+1]) (hu:u.length=K+m+2) (hud:Dg u) (hU:val u=U) (hlt:U < Bw ^ K*val d) (hK:K≤100000) (hm:m≤100000):
  wp (Zpw big ((m+2:Nat):Int) (s:Int) (iL d) ((K:Int) - 1) (iL u) (iL (ZDH K 0))) (fun y=>∃u' qs:List Nat,y=(((m+2:Nat):Int),(s:Int),iL u',iL qs)∧u'.length=K+m+2∧Dg u'∧qs.length=K∧Dg qs∧val u'+val qs*val d=U∧val u' < val d):=by
 rw[show iL (ZDH K 0)=iL (ZDH (K - ([]:List Nat).length) 0++[]) by simp];have hDlt:=Ztb hdd;rw[hd]at hDlt;refine ZvX ZuC K (by omega) (fun i (t:List Nat×List Nat)=>(((m+2:Nat):Int),(s:Int),iL d,i,iL t.1,iL (ZDH (K - t.2.length) 0++t.2))) (fun k t=>t.1.length=K+m+2∧Dg t.1∧t.2.length+k=K∧Dg t.2∧val t.1+Bw ^ k*(val t.2*val d)=U∧val t.1 < Bw ^ k*val d) (u,[]) ⟨hu,hud,by simp,ZvF,by simp[val,hU],by rw[hU];exact hlt⟩ ?_ ?_
 ·rintro rec k ⟨v,qs⟩ hk ⟨hvl,hvd,hql,hqd,hv,hvlt⟩ ih;dsimp only at hvl hvd hql hqd hv hvlt ih;unfold Zro ZpX;dsimp only;have hwl:((v.drop k).take (m+3)).length=m+3:=by simp;omega
  have hpl:(v.take k).length=k:=by simp;omega
  have esplit:v=v.take k++((v.drop k).take (m+3)++v.drop (k+(m+3))):=by rw[←List.drop_drop,ZDK,ZDK]
  have hvs:val v=val (v.take k)+Bw ^ k*(val ((v.drop k).take (m+3))+Bw ^ (m+3)*val (v.drop (k+(m+3)))):=by
   have:val v=val (v.take k++((v.drop k).take (m+3)++v.drop (k+(m+3)))):=by rw[←esplit]
   rw[this,ZuP,ZuP,hpl,hwl]
  have hpd:=Ztb (hvd.take k);rw[hpl]at hpd;have hwd:=(hvd.drop k).take (m+3);have hsd:=hvd.drop (k+(m+3));have hvd':=hvd;generalize v.take k=pre at*
  generalize (v.drop k).take (m+3)=w at*
  generalize v.drop (k+(m+3))=suf at*
  subst esplit;have hX:val w+Bw ^ (m+3)*val suf < Bw*val d:=by
   have:Bw ^ k*(val w+Bw ^ (m+3)*val suf) < Bw ^ k*(Bw*val d):=by rw[←ZD4,←ZEh];show _ < Bw ^ (k+1)*val d;omega
   exact Nat.lt_of_mul_lt_mul_left this
  have hs0:val suf=0:=by
   rcases ZDT (val suf)with hz |hz
   ·exact hz
   ·exfalso;have h5:=ZD7 (Bw ^ (m+3)) hz;have h6:Bw*val d≤Bw*Bw ^ (m+2):=ZD7 _ (Nat.le_of_lt hDlt);rw[ZD5 Bw (Bw ^ (m+2)),←ZEh]at h6;have h7:Bw*val d≤Bw ^ (m+3):=h6;omega
  rw[hs0,ZEd,ZDP]at hX hvs;rw[ZnW];refine⟨fun _=> ?_,fun h=>by have:=of_decide_eq_false h;omega⟩;rw[ZnE,ZnE,ZnE,ZnF,ZnV,hvl];refine⟨ZnI (by omega),ZnI (by omega),Zuu ⟨by omega,by omega,by omega⟩, ?_⟩;rw[show ((k:Int)+((m+2:Nat):Int)+1).toNat - (k:Int).toNat=m+3 by omega,ZDt];have hdw:=Zzm (pre:=pre) (suf:=suf) hwl hd hwd hdd hm h1 hX;rw[hpl]at hdw;refine ZoD hdw ?_;rintro y ⟨w',rfl,hw'l,hw'd,hw'v⟩;dsimp only;have hDpos:0 < val d:=by
   rcases ZDT (val d)with hz |hz
   ·rw[hz,ZEd]at hX;omega
   ·exact hz
  have hq:val w / val d < Bw:=(ZDS hDpos).2 hX;have hdm:=ZDQ (val w) (val d);have hml:=ZD2 (val w) hDpos;generalize val w / val d=q at*
  have es:(ZDH (K - qs.length) 0++qs).set k q=ZDH (K - (qs.length+1)) 0++q::qs:=by
   have e:K - qs.length=k+1:=by omega
   have e2:K - (qs.length+1)=k:=by omega
   rw[e,e2,List.replicate_succ',List.append_assoc,ZDI _ _ (by simp),ZDC,ZEj];rfl
  rw[ZnE,ZnE,Zvc,es];refine⟨Zrd ⟨by omega,by rw[ZnV];simp only[ZDA,ZDC];omega⟩,ZnI (by omega), ?_⟩;have hsl:suf.length+(k+(m+3))=K+m+2:=by rw[←hvl,ZDA,ZDA,hpl,hwl];omega
  refine ih (pre++(w'++suf),q::qs) ⟨?_, ?_,by simp only[ZDB];omega,fun y hy=> ?_, ?_, ?_⟩
  ·simp only[ZDA,hpl,hw'l];omega
  ·refine Dg.app (fun y hy=>hvd' y (List.mem_append_left _ hy)) (Dg.app hw'd hsd)
  ·rcases ZDG.1 hy with rfl |hy
   ·exact hq
   ·exact hqd y hy
  ·dsimp only;rw[ZuP,ZuP,hpl,hs0,ZEd,ZDP,hw'v,val,ZDM,ZD3];rw[hvs,←hdm,ZD3,ZEh,ZD4]at hv;rw[ZD5 q (val d),ZD4 Bw];omega
  ·dsimp only;rw[ZuP,ZuP,hpl,hs0,ZEd,ZDP,hw'v];have:=ZD7 (Bw ^ k) (show val w % val d+1≤val d from hml);rw[ZD3,ZEc]at this;omega
 ·rintro rec ⟨v,qs⟩ ⟨hvl,hvd,hql,hqd,hv,hvlt⟩;dsimp only at hvl hvd hql hqd hv hvlt;unfold Zro ZpX;dsimp only;rw[ZnW];refine⟨fun h=>by have:=of_decide_eq_true h;omega,fun _=> ?_⟩;rw[ZnB];rw[Nat.pow_zero,ZEe]at hv hvlt;refine⟨v,qs, ?_,hvl,hvd,hql,hqd,hv,hvlt⟩;rw[show K - qs.length=0 by omega];rfl
end Go.Proofs
namespace Go.Proofs
open Go Eng
theorem Zv0 (a b:Nat) (hb0:b≠0) (ha:(wd a).length≤50000) (hb:(wd b).length≤50000):ZoS (iL (wd a)) (iL (wd b))=some (iL (wd (a / b)),iL (wd (a % b))):=by
 refine ZqA ?_;unfold ZoS;rw[Zv2 a b (by omega) (by omega),ZnF,ZnB,ZnW];refine⟨fun h=> ?_,fun h=> ?_⟩
 ·have hab:a < b:=by
   have:=of_decide_eq_true h;rcases ZDY a b with h1 |h1 |h1
   ·exact h1
   ·rw[h1,Zt6]at this;omega
   ·rw[ZtT h1]at this;omega
  rw[Zzo _ (by omega),ZnF,ZnB,ZnB,ZDR hab,ZD1 hab,Zsf,ZBs]
 ·have hab:b≤a:=by
   have:=of_decide_eq_false h;rcases ZDY a b with h1 |h1 |h1
   ·rw[Zt9 h1]at this;omega
   ·omega
   ·omega
  have hlb:=Zrq hb0;rw[ZnV,ZnV,ZnW];refine⟨fun h=> ?_,fun h=> ?_⟩
  ·have h1:(wd b).length=1:=by have:=eq_of_beq h;omega
   have hbB:b < Bw:=by have:=ZsH b;rwa [h1,Nat.pow_one]at this
   have eb:idx (iL (wd b)) 0=some (b:Int):=by rw[ZvP hb0,ZD1 hbB];rfl
   rw[eb,ZnF,ZnB,Zza a b hb0 hbB (by omega),ZnF,ZnB];dsimp only;have hr:a % b < Bw:=Nat.lt_trans (ZD2 _ (by omega)) hbB;rw[show ([((a % b:Nat):Int)]:List Int)=iL [a % b]from rfl,Zu3 (Zvu hr) (by simp),ZnF,ZnB,ZnB];simp only[val,ZEd,ZDP]
  ·obtain⟨m,hm⟩:∃m,(wd b).length=m+2:=⟨(wd b).length - 2,by
    have:(wd b).length≠1:=fun e=>by rw[e]at h;exact absurd h (by decide)
    omega⟩
   have hla:m+2≤(wd a).length:=by
    rcases ZDX (wd a).length (wd b).length with h1 |h1
    ·have:=ZwA h1;omega
    ·omega
   have hi:m+1 < (wd b).length:=by omega
   have htop:(wd b)[m+1]≠0:=fun e=>by have h1:=Zn1 hi;rw[e,ZEd,ZDP,ZDL (by omega),ZrR]at h1;have h2:=Ztb ((ZtJ b).take (m+1));rw[ZDF,ZDZ (by omega)]at h2;have h3:=Zw4 hi;omega
   obtain⟨s,hs,hse,hs1,hs2⟩:=ZBl htop ((ZtJ b).get hi);have e1:((m+2:Nat):Int) - 1=((m+1:Nat):Int):=by omega
   rw[hm,e1,Zsu hi,ZnE,ZnF,ZnB,hse,ZnF,ZnB];refine⟨ZnI (by omega), ?_⟩;obtain⟨u,hu,hud,hul,huv⟩:=Zwx (wd a) s hs (by omega) (ZtJ a);obtain⟨v,hv,hvd,hvl,hvv⟩:=Zwx (wd b) s hs (by omega) (ZtJ b);rw[hu,ZnF,ZnB,hv,ZnF,ZnB,ZnE,ZnE,ZnE,ZnE,ZnE];rw[ZrR]at huv hvv;have hvlt:val v < Bw ^ (m+2):=by
    have h1:=Zn1 hi;rw[ZDL (by omega),ZrR]at h1;have h2:=Ztb ((ZtJ b).take (m+1));rw[ZDF,ZDZ (by omega)]at h2;have h3:b+1≤Bw ^ (m+1)*((wd b)[m+1]+1):=by rw[ZD3,ZEc];omega
    have h4:=ZD8 (2 ^ s) h3;have h5:=ZD7 (Bw ^ (m+1)) (Zya hs hs2);rw[ZD4]at h4;have h6:=ZEk s;rw[ZDM,ZEe]at h4;rw[hvv,ZEh];show _ < Bw ^ (m+1)*4294967296;omega
   obtain⟨K,hK⟩:∃K,(wd a).length=K+m+1:=⟨(wd a).length - m - 1,by omega⟩;have eK:((wd a).length:Int) - ((m+2:Nat):Int)+1=(K:Int):=by omega
   have ed:((iL v).drop 0).take (((m+2:Nat):Int).toNat - 0)=iL (v.take (m+2)):=by rw[ZDu,ZDt,Nat.sub_zero,ZxB]
   have hdv:val (v.take (m+2))=b*2 ^ s:=by rw[Zv4 hvlt,hvv]
   have hdl:(v.take (m+2)).length=m+2:=by rw[ZDF];omega
   have hdd:=hvd.take (m+2);rw[eK,ed,ZDt,ZwB,ZnV v,ZnV (ZDH K 0),ZDC];refine⟨Zuu ⟨by omega,by omega,by omega⟩,ZnI (by omega),ZnI (by omega),Zvz (by omega),ZnI (by omega), ?_⟩;generalize v.take (m+2)=d at*
   have hp:=ZEk s;have h1:1≤d[m+1]:=by
    rcases ZDT d[m+1]with hz |hz
    ·exfalso;have h1:=Zn1 (l:=d) (k:=m+1) (by omega);rw[hz,ZEd,ZDP,ZDL (by omega)]at h1;have h2:=Ztb (hdd.take (m+1));rw[ZDF,ZDZ (by omega)]at h2;rw[hdv]at h1;have h3:=Zw4 hi;have:=Nat.le_mul_of_pos_right b hp;omega
    ·exact hz
   have hUlt:a*2 ^ s < Bw ^ K*val d:=by have h2:=ZsH a;have h3:=ZD7 (Bw ^ K) (Zw4 hi);rw[←ZEf,←Nat.add_assoc,←hK]at h3;rw[hdv,←ZD4];exact ZEa (by omega) hp
   rw[ZnF];refine ZoD (Zy9 (s:=s) hdl hdd h1 (by omega) hud huv hUlt (by omega) (by omega)) ?_;rintro y ⟨u',qs,rfl,hu'l,hu'd,hql,hqd,hv',hlt'⟩;dsimp only;have hDpos:0 < val d:=by omega
   have eq1:val qs=a / b:=by rw[←Nat.mul_div_mul_right a b hp,←hdv,←hv',ZDN _ _ hDpos,ZDR hlt',ZEm]
   have eq2:val u'=a % b*2 ^ s:=by rw[←ZEb,←hdv,←hv',ZDO,ZD1 hlt']
   have hDlt:=Ztb hdd;rw[hdl]at hDlt;have hut:val (u'.take (m+2))=val u':=Zv4 (by omega);obtain⟨k',hk',hkv,hke⟩:=ZCT u' (m+2) (by omega) (by omega);unfold Zsa;rw[ZDt,Nat.sub_zero,hke,ZnE,ZnF,ZnB,ZnV];refine⟨Zuu ⟨by omega,by omega,by omega⟩, ?_⟩;dsimp only;rw[ZnF];refine ZoD (ZA8 (R:=a % b) (iL qs) hs hu'd (by omega) (by omega) (by rw[hkv,hut,eq2])) ?_;rintro y ⟨o,rfl,hol,hod,hov⟩;dsimp only;unfold Zr9;have eo:((iL (o++u'.drop k')).drop 0).take k'=iL o:=by rw[ZDu,ZxB,List.take_left' hol]
   rw[eo,Zu3 hqd (by omega),ZnF,ZnB,Zu3 hod (by omega),ZnF,ZnB,ZnB,eq1,hov]
theorem ZrB {a b:Nat} (h:a≤b):(wd a).length≤(wd b).length:=Zuv (Nat.lt_of_le_of_lt h (ZsH b))
theorem Zwq:∀(n a b:Nat),b≤a→a*b < 2 ^ n→(wd a).length≤50000→∀f,n < f→Zn6 f (iL (wd a)) (iL (wd b))=some (iL (wd (ZDU a b)))
 |n,a,b,hba,hn,ha,0,hf=>absurd hf (by omega)
 |n,a,b,hba,hn,ha,f+1,hf=>by
  show ZoB (Zn6 f) _ _=_;unfold ZoB;rw[ZnV]
  by_cases h0:b=0
  ·subst h0;rw[Zsf,Nat.gcd_zero_right];rfl
  ·have hl:=Zrq h0;rw[decide_eq_true (by omega),cond_true,Zv0 a b h0 ha (ZDV (ZrB hba) ha),ZEn];dsimp only;have hlt:=ZD2 a (show 0 < b by omega);cases n with
   |zero=>
    have:1*1≤a*b:=ZD6 (by omega) (by omega);rw[Nat.pow_zero]at hn;omega
   |succ n=>
    have hdm:=ZDQ a b;have hq:1≤a / b:=(Nat.le_div_iff_mul_le (by omega)).2 (by omega);have h1:=ZD7 b hq;have h2:b*(2*(a % b))≤b*a:=ZD7 b (by omega);rw[ZD9,ZD5 b a]at h2;rw[Zwq n b (a % b) (by omega) (by rw[ZEh]at hn;omega) (ZDV (ZrB hba) ha) f (by omega),Nat.gcd_comm a b,Nat.gcd_rec b a,Nat.gcd_comm]
theorem Zwr (a b:Nat) (ha:(wd a).length≤50000) (hb:(wd b).length≤50000):ZoX (iL (wd a)) (iL (wd b))=some (iL (wd (ZDU a b))):=by
 have bnd:∀x y:Nat,x*y < 2 ^ (32*(wd x).length+32*(wd y).length):=fun x y=>by
  have e:∀z,z < 2 ^ (32*(wd z).length):=fun z=>by
   have:=ZsH z
   rwa [show Bw=2 ^ 32 from rfl,←Nat.pow_mul]at this
  have h1:=Nat.mul_lt_mul_of_lt_of_le (e x) (Nat.le_of_lt (e y)) (ZEk _)
  rwa [←ZEf]at h1
 have key:Zn6 big (iL (wd a)) (iL (wd b))=some (iL (wd (ZDU a b))):=by
  obtain⟨k,hk,hk2⟩:∃k,big=k+1∧3200004 < k:=⟨36893488147419103231,by rw[big_eq],by omega⟩;rw[hk];rcases ZDX a b with h |h
  ·show ZoB (Zn6 k) _ _=_;unfold ZoB;have h0:b≠0:=by omega
   have hl:=Zrq h0;rw[ZnV,decide_eq_true (by omega),cond_true,Zv0 a b h0 ha hb,ZEn];dsimp only;rw[ZD1 h,Zwq _ b a (by omega) (bnd b a) hb k (by omega),Nat.gcd_comm]
  ·exact Zwq _ a b h (bnd a b) ha (k+1) (by omega)
 unfold ZoX Zrp;rw[key,ZEn]
end Go.Proofs
namespace Go.Proofs
open Go Eng
def bg (z:Int):ZnC:=⟨decide (z < 0),iL (wd z.natAbs)⟩
theorem Zvg (z:Int):(bg z).Neg=decide (z < 0):=rfl
theorem ZpY (z:Int):(bg z).Words=iL (wd z.natAbs):=rfl
abbrev Wl (n:Nat) (z:Int):Prop:=(wd z.natAbs).length≤n
theorem Zso (neg:Bool) (n:Nat) (h:(wd n).length≤1000000):ZnU neg (iL (wd n))=some (bg (if neg then -(n:Int)else n)):=by
 unfold ZnU ZrU bg;have hr:ZiZ (iL (wd n)).length 4=true:=ZuE (by rw[ZnV];omega);cases neg with
 |true=>
  rw[cond_true,hr,chk_true,ZnV,if_pos rfl,Int.natAbs_neg,Int.natAbs_natCast];congr 2
  by_cases h0:n=0
  ·subst h0;rw[Zsf];rfl
  ·have:=Zrq h0;rw[decide_eq_true (by omega),decide_eq_true (by omega)]
 |false=>
  rw[cond_false,hr,chk_true,if_neg (by decide),Int.natAbs_natCast,decide_eq_false (by omega)]
theorem Zwz (n:Nat) (h:n < 18446744073709551616):ZpP (n:Int)=some (iL (wd n)):=by
 unfold ZpP;have e:([IntKind.wrap .u32 (n:Int),IntKind.wrap .u32 (shrK .u64 (n:Int) 32)]:List Int)=iL [n % 4294967296,n / 4294967296]:=by rw[show (32:Int)=((32:Nat):Int)from rfl,Zvn 32 (by omega),Zs6,Ztk (by omega)];rfl
 have hd:Dg [n % 4294967296,n / 4294967296]:=fun d hd=>by
  simp only[ZDG,List.mem_singleton,List.not_mem_nil,or_false]at hd;rcases hd with rfl |rfl
  ·exact ZD2 _ (by decide)
  ·simp only[Bw];omega
 rw[e,Zu3 hd (by simp)];have hv:val [n % 4294967296,n / 4294967296]=n:=by simp only[val,ZEd,ZDP];exact ZD0 n Bw
 rw[hv];rfl
theorem ZAs {n:Nat} (h:n < 18446744073709551616):(wd n).length≤2:=Zuv (by simp only[Bw];omega)
theorem ZwC (z:Int) (h1: -9223372036854775808≤z) (h2:z≤9223372036854775807):Zqy z=some (bg z):=by
 unfold Zqy
 by_cases hz:z < 0
 ·have e:IntKind.wrap .u64 (0 - IntKind.wrap .u64 z)=((z.natAbs:Nat):Int):=by rw[IntKind.wrap_u64,IntKind.wrap_u64];omega
  rw[decide_eq_true hz,cond_true,e,Zwz _ (by omega),ZEn,Zso _ _ (ZDV (ZAs (by omega)) (by decide)),ZEn,if_pos rfl,show -((z.natAbs:Nat):Int)=z by omega]
 ·have e:IntKind.wrap .u64 z=((z.natAbs:Nat):Int):=by rw[IntKind.wrap_u64];omega
  rw[decide_eq_false hz,cond_false,e,Zwz _ (by omega),ZEn,Zso _ _ (ZDV (ZAs (by omega)) (by decide)),ZEn,if_neg (by decide),show ((z.natAbs:Nat):Int)=z by omega]
theorem ZvG (z:Int) (h:Wl 256 z):Zqb (bg z)=some true:=by
 unfold Wl at h;have top:∀hp:0 < (wd z.natAbs).length,∃x:Nat,idx (iL (wd z.natAbs)) (((wd z.natAbs).length:Int) - 1)=some (x:Int)∧x≠0:=fun hp=>by
  refine⟨(wd z.natAbs)[(wd z.natAbs).length - 1], ?_,fun e=> ?_⟩
  ·rw[show ((wd z.natAbs).length:Int) - 1=(((wd z.natAbs).length - 1:Nat):Int) by omega,Zsu (by omega)]
  ·have hi:(wd z.natAbs).length - 1 < (wd z.natAbs).length:=by omega
   have h1:=Zn1 hi;rw[e,ZEd,ZDP,ZDL (by omega),ZrR]at h1;have h2:=Ztb ((ZtJ z.natAbs).take ((wd z.natAbs).length - 1));rw[ZDF,ZDZ (by omega)]at h2;have h3:=Zw4 hi;omega
 unfold Zqb Zof;rw[ZpY,Zvg,ZnV,decide_eq_true (by omega),cond_true]
 by_cases h0:(wd z.natAbs).length=0
 ·have:z=0:=by have:=ZA4.1 (List.eq_nil_of_length_eq_zero h0);omega
  subst this;rw[h0];rfl
 ·obtain⟨x,hx,hx0⟩:=top (by omega);have e0:(((wd z.natAbs).length:Int) == 0)=false:=beq_eq_false_iff_ne.2 (by omega);have e1:((x:Int) != 0)=true:=by simp only[bne_iff_ne];omega
  rw[e0,cond_false,decide_eq_true (by omega),cond_true,ZnI (by omega),chk_true,hx,ZEn,e1]
theorem ZAL (x y:Int):(if (!((bg x).Neg == (bg y).Neg))=true then -((x.natAbs*y.natAbs:Nat):Int)else ((x.natAbs*y.natAbs:Nat):Int))=x*y:=by
 rw[Zvg,Zvg]
 by_cases hx:x < 0<;>by_cases hy:y < 0
 ·rw[decide_eq_true hx,decide_eq_true hy,if_neg (by decide),ZDs,show ((x.natAbs:Nat):Int)= -x by omega,show ((y.natAbs:Nat):Int)= -y by omega,Int.neg_mul_neg]
 ·rw[decide_eq_true hx,decide_eq_false hy,if_pos (by decide),ZDs,show ((x.natAbs:Nat):Int)= -x by omega,show ((y.natAbs:Nat):Int)=y by omega,Int.neg_mul,Int.neg_neg]
 ·rw[decide_eq_false hx,decide_eq_true hy,if_pos (by decide),ZDs,show ((x.natAbs:Nat):Int)=x by omega,show ((y.natAbs:Nat):Int)= -y by omega,Int.mul_neg,Int.neg_neg]
 ·rw[decide_eq_false hx,decide_eq_false hy,if_neg (by decide),ZDs,show ((x.natAbs:Nat):Int)=x by omega,show ((y.natAbs:Nat):Int)=y by omega]
theorem ZxF {x y:Nat} {n m:Nat} (hx:(wd x).length≤n) (hy:(wd y).length≤m):(wd (x*y)).length≤n+m:=by refine Zuv ?_;have h1:=Nat.mul_lt_mul_of_lt_of_le (ZsH x) (Nat.le_of_lt (ZsH y)) (Nat.pow_pos (by decide));rw[←ZEf]at h1;exact ZDW h1 (ZEg (by decide) (by omega))
theorem ZtR (x y:Int) (hx:Wl 50000 x) (hy:Wl 50000 y):ZnK (bg x) (bg y)=some (bg (x*y)):=by unfold ZnK;have:=ZxF hx hy;rw[ZpY,ZpY,Zy8 _ _ (by omega) (by omega),ZEn,Zso _ _ (by omega),ZEn,ZAL]
theorem Zyk {x y n:Nat} (hx:(wd x).length≤n) (hy:(wd y).length≤n):(wd (x+y)).length≤n+1:=by refine Zuv ?_;have h1:=ZDW (ZsH x) (ZEg (n:=Bw) (by decide) hx);have h2:=ZDW (ZsH y) (ZEg (n:=Bw) (by decide) hy);rw[ZEh];have:=ZD7 (Bw ^ n) (show 2≤Bw by decide);omega
theorem Zzv (x y:Int) (hx:Wl 50000 x) (hy:Wl 50000 y):ZrQ (bg x) (bg y)=some (bg (x+y)):=by
 unfold Wl at hx hy;unfold ZrQ;have h1:=Zyk hx hy;rw[ZpY,ZpY,Zvg,Zvg];have opp:decide (x < 0)≠decide (y < 0)→Zn2 (iL (wd x.natAbs)) (iL (wd y.natAbs))=some (ZwZ x.natAbs y.natAbs):=fun _=>Zv2 _ _ (by omega) (by omega)
 by_cases hs:decide (x < 0)=decide (y < 0)
 ·rw[hs,beq_self_eq_true,cond_true,ZAk _ _ (by omega) (by omega),ZEn,Zso _ _ (by omega),ZEn];congr 2
  by_cases hy0:y < 0
  ·have hx0:x < 0:=by rw[decide_eq_true hy0]at hs;exact of_decide_eq_true hs
   rw[decide_eq_true hy0,if_pos rfl];omega
  ·have hx0:¬x < 0:=by rw[decide_eq_false hy0]at hs;exact of_decide_eq_false hs
   rw[decide_eq_false hy0,if_neg (by decide)];omega
 ·rw[beq_eq_false_iff_ne.2 hs,cond_false,opp hs,ZEn];rcases ZDX x.natAbs y.natAbs with hlt |hge
  ·have:=ZrB (Nat.sub_le y.natAbs x.natAbs);rw[Zt9 hlt,decide_eq_false (by omega),cond_false,ZxU _ _ (by omega) (by omega),ZEn,Zso _ _ (by omega),ZEn];congr 2
   by_cases hy0:y < 0
   ·have hx0:¬x < 0:=fun h=>hs (by rw[decide_eq_true hy0,decide_eq_true h])
    rw[decide_eq_true hy0,if_pos rfl];omega
   ·have hx0:x < 0:=Decidable.byContradiction fun h=>hs (by rw[decide_eq_false hy0,decide_eq_false h])
    rw[decide_eq_false hy0,if_neg (by decide)];omega
  ·have hn:ZwZ x.natAbs y.natAbs≥0:=by
    rcases ZDX y.natAbs x.natAbs with h |h
    ·rw[ZtT h];decide
    ·rw[show x.natAbs=y.natAbs by omega,Zt6];decide
   have:=ZrB (Nat.sub_le x.natAbs y.natAbs);rw[decide_eq_true hn,cond_true,ZxU _ _ hge (by omega),ZEn,Zso _ _ (by omega),ZEn];congr 2
   by_cases hx0:x < 0
   ·have hy0:¬y < 0:=fun h=>hs (by rw[decide_eq_true hx0,decide_eq_true h])
    rw[decide_eq_true hx0,if_pos rfl];omega
   ·have hy0:y < 0:=Decidable.byContradiction fun h=>hs (by rw[decide_eq_false hx0,decide_eq_false h])
    rw[decide_eq_false hx0,if_neg (by decide)];omega
end Go.Proofs
namespace Go.Proofs
open Go Eng
def fOf (q:Rat):ZnA:=⟨bg q.num,bg (q.den:Int)⟩
theorem ZxG {x n:Nat} (g:Nat) (h:(wd x).length≤n):(wd (x / g)).length≤n:=ZDV (ZrB (Nat.div_le_self x g)) h
theorem Zyi {x y n:Nat} (hy:0 < y) (h:(wd y).length≤n):(wd (ZDU x y)).length≤n:=ZDV (ZrB (Nat.gcd_le_right x hy)) h
theorem ZuX (x y:Int) (hy:y≠0) (hx1:Wl 50000 x) (hy1:Wl 50000 y):ZoC (bg x) (bg y)=some (fOf (Rat.divInt x y)):=by
 have hy0:0 < y.natAbs:=by omega
 have hg0:ZDU x.natAbs y.natAbs≠0:=fun e=>by have:=Nat.gcd_pos_of_pos_right x.natAbs hy0;omega
 have hgl:=Zyi (x:=x.natAbs) hy0 hy1;have hxl:=ZxG (ZDU x.natAbs y.natAbs) hx1;have hyl:=ZxG (ZDU x.natAbs y.natAbs) hy1;unfold ZoC;rw[ZpY,ZpY,Zwr _ _ hx1 hy1,ZEn,Zv0 _ _ hg0 hx1 hgl,ZEn];dsimp only;rw[Zv0 _ _ hg0 hy1 hgl,ZEn];dsimp only;rw[Zso _ _ (by omega),ZEn,Zso _ _ (by omega),ZEn,Zvg,Zvg];unfold fOf;rw[Rat.num_divInt,Rat.den_divInt,if_neg hy];have eg:Int.gcd y x=ZDU x.natAbs y.natAbs:=by rw[Int.gcd_comm];rfl
 rw[eg];have key:(if (!(decide (x < 0) == decide (y < 0)))=true then -((x.natAbs / ZDU x.natAbs y.natAbs:Nat):Int)else ((x.natAbs / ZDU x.natAbs y.natAbs:Nat):Int))=y.sign*x / (ZDU x.natAbs y.natAbs:Int):=by
  obtain⟨k,hk⟩:=Nat.gcd_dvd_left x.natAbs y.natAbs;generalize ZDU x.natAbs y.natAbs=g at*
  have hgp:0 < g:=by omega
  have e1:x.natAbs / g=k:=by rw[hk,Nat.mul_div_cancel_left _ hgp]
  have e2:((g:Int)*(k:Int)) / (g:Int)=k:=Int.mul_ediv_cancel_left _ (by omega);have e3:(-((g:Int)*(k:Int))) / (g:Int)= -k:=by rw[←Int.mul_neg,Int.mul_ediv_cancel_left _ (by omega)]
  have hk':((x.natAbs:Nat):Int)=(g:Int)*(k:Int):=by rw[hk];norm_cast
  rw[e1]
  by_cases hx0:x < 0<;>by_cases hy0:y < 0
  ·rw[decide_eq_true hx0,decide_eq_true hy0,if_neg (by decide),Int.sign_eq_neg_one_of_neg hy0,show -1*x=(g:Int)*k by omega,e2]
  ·rw[decide_eq_true hx0,decide_eq_false hy0,if_pos (by decide),Int.sign_eq_one_of_pos (by omega),show 1*x= -((g:Int)*k) by omega,e3]
  ·rw[decide_eq_false hx0,decide_eq_true hy0,if_pos (by decide),Int.sign_eq_neg_one_of_neg hy0,show -1*x= -((g:Int)*k) by omega,e3]
  ·rw[decide_eq_false hx0,decide_eq_false hy0,if_neg (by decide),Int.sign_eq_one_of_pos (by omega),show 1*x=(g:Int)*k by omega,e2]
 rw[key,if_neg Bool.false_ne_true]
theorem ZyP:∀l:List Int,l.length≤1000→(∀z∈l,Wl 256 z)→Zsb (l.map bg)=some true:=fun l hl h=>by
 refine ZqA ?_;unfold Zsb;rw[ZnF,List.length_map];refine ZoD (Zrr Zvp l.length (by omega) (fun i (_:Unit)=>(l.map bg,(l.length:Int),i)) (fun _ _=>True) (Q:=fun r=>r= .brk ()) () trivial ?_ ?_) ?_
 ·rintro rec i ⟨⟩ hi _ ih;unfold Zth ZrW;dsimp only;rw[ZnW];refine⟨fun _=> ?_,fun h=>by have:=of_decide_eq_false h;omega⟩;rw[Zua (by rw[List.length_map];exact hi),ZnF,ZnB,List.getElem_map,ZvG _ (h _ (List.getElem_mem hi)),ZnF,ZnB];rw[Bool.not_true,cond_false,ZnE];exact⟨ZnI (by omega),ih () trivial⟩
 ·rintro rec ⟨⟩ _;unfold Zth ZrW;dsimp only;rw[ZnW];refine⟨fun h=>by have:=of_decide_eq_true h;omega,fun _=>ZnB.2 rfl⟩
 ·rintro r rfl;exact ZnB.2 rfl
abbrev Wq (n:Nat) (q:Rat):Prop:=Wl n q.num∧Wl n (q.den:Int)
theorem Zyv:iL (wd 1)=[1]:=by rw[ZvP (by decide),show 1 / Bw=0 from rfl,Zsf];rfl
theorem Zu2 (q:Rat) (h:Wq 256 q):Zov (fOf q)=some true:=by
 unfold Zov Zqa fOf;have hb:=ZyP [q.num,(q.den:Int)] (by simp) (fun z hz=>by
  simp only[ZDG,List.not_mem_nil,or_false]at hz;rcases hz with rfl |rfl
  ·exact h.1
  ·exact h.2)
 have hd:=q.den_nz;have hl:=Zrq (n:=(q.den:Int).natAbs) (by omega);have hn:=h.1;have hdl:=h.2;unfold Wl at hn hdl;dsimp only;rw[show ([bg q.num,bg (q.den:Int)]:List ZnC)=[q.num,(q.den:Int)].map bg from rfl,hb,ZEn,cond_true,ZpY,ZpY,ZnV,decide_eq_true (by omega),cond_true,Zvg,decide_eq_false (by omega),Bool.not_false,cond_true,Zwr _ _ (by omega) (by omega),ZEn];have hc:ZDU q.num.natAbs (q.den:Int).natAbs=1:=q.reduced;have h1:(wd 1).length≤1:=Zuv (by decide);rw[hc,←Zyv,Zv2 1 1 (by omega) (by omega),ZEn,Zt6];rfl
end Go.Proofs
