/- Plain laws over the specs, part 0. -/
import Derived.Test.YthefajbigloihaaGreatDoorE4
import Derived.Laws.BitsLemmas
import Derived.Laws.Bits64
import Derived.KernelRfl
import Derived.Test.YthefajbigloihaaGreatDoorQoS
set_option linter.unusedVariables false
set_option linter.unusedSimpArgs false
set_option linter.unusedSectionVars false
open Int renaming toNat_natCast→ZOM, natCast_add→ZLj, natCast_mul→ZOL
open List renaming replicate→ZO0, take_of_length_le→ZO4, length_take→ZOY, getElem?_eq_getElem→ZOP, length_append→ZOT, length_replicate→ZOV, set_append_right→ZO1, mem_cons→ZOZ, getD_eq_getElem?_getD→ZOO, length_cons→ZOU, getElem_cons_drop→ZOS, drop_zero→ZON, length_set→ZOW, length_singleton→ZOX, take_append_drop→ZO3, set_cons_zero→ZO2, getElem_append_right→ZOR, getElem?_eq_none→ZOQ
open Nat renaming mul_add→ZPm, mul_assoc→ZPn, mod_lt→ZPl, mul_comm→ZPo, pow_succ→ZPA, mul_zero→ZPw, add_mul→ZO5, mul_le_mul_right→ZPr, add_zero→ZO8, mul_le_mul_left→ZPq, min_eq_left→ZPi, gcd→ZPd, pow_add→ZPy, one_mul→ZPx, two_pow_pos→ZPD, mod_eq_of_lt→ZPk, div_lt_iff_lt_mul→ZPb, lt_or_ge→ZPg, eq_zero_or_pos→ZPc, mod_add_div→ZPj, div_eq_of_lt→ZPa, le_trans→ZPe, zero_add→ZPF, sub_self→ZPC, div_add_mod→ZO9, mul_one→ZPv, lt_trichotomy→ZPh, mul_le_mul→ZPp, mul_left_comm→ZPs, lt_of_lt_of_le→ZPf, pow_le_pow_right→ZPz, add_mul_div_right→ZO6, xor_lt_two_pow→ZPE, shiftRight_xor_distrib→ZPB, mul_lt_mul_of_pos_right→ZPt, mul_mod_mul_right→ZPu, add_mul_mod_self_right→ZO7
open Option renaming bind_some→ZPG
namespace Go.Proofs
open Go Eng
def wp {α:Type} (o:Option α) (Q:α→Prop):Prop:=∃x,o=some x∧Q x
section
variable {α β:Type} {Q:α→Prop}
theorem ZnD {x:α}:wp (some x) Q↔Q x:=⟨fun⟨_,h,q⟩=>by cases h;exact q,fun q=>⟨x,rfl,q⟩⟩
theorem ZI0:wp (none:Option α) Q↔False:=by simp[wp]
theorem ZnE {o:Option β} {f:β→Option α}:wp (o.bind f) Q↔wp o (fun a=>wp (f a) Q):=by
 constructor
 ·rintro⟨x,h,q⟩;obtain⟨a,ha,h⟩:=bind_some h;exact⟨a,ha,x,h,q⟩
 ·rintro⟨a,rfl,x,h,q⟩;exact⟨x,h,q⟩
theorem ZnH {b:Bool} {o:Option α}:wp (chk b o) Q↔b=true∧wp o Q:=by cases b<;>simp[chk,wp]
theorem ZnV {b:Bool} {x y:Option α}:wp (bif b then x else y) Q↔(b=true→wp x Q)∧(b=false→wp y Q):=by cases b<;>simp
theorem ZKW {xs:List α} {i:Nat}:wp (xs[i]?) Q↔∃h:i < xs.length,Q xs[i]:=by
 constructor
 ·rintro⟨x,h,q⟩;obtain⟨h1,h2⟩:=List.getElem?_eq_some_iff.1 h;subst h2;exact⟨h1,q⟩
 ·rintro⟨h,q⟩;exact⟨_,ZOP h,q⟩
theorem ZGz {xs:List α} {i:Int}:wp (idx xs i) Q↔0≤i∧∃h:i.toNat < xs.length,Q xs[i.toNat]:=by
 unfold idx;split
 ·rename_i h;rw[ZKW];simp[h]
 ·rename_i h;rw[ZI0];simp[h]
theorem ZnM {R:α→Prop} {o:Option α} (h:wp o Q) (hr:∀x,Q x→R x):wp o R:=by obtain⟨x,h,q⟩:=h;exact⟨x,h,hr x q⟩
theorem ZrY {o:Option α} {x:α} (h:wp o (· =x)):o=some x:=by obtain⟨y,h,rfl⟩:=h;exact h
theorem ZGu (a:Option α):agree a a=a:=by unfold agree;rw[if_pos rfl]
end
theorem ZnI {n:Int} (h: -9223372036854775808≤n∧n≤9223372036854775807):inK .i64 n=true:=by
 have h0:IntKind.i64.min= -9223372036854775808:=by decide
 have h1:IntKind.i64.max=9223372036854775807:=by decide
 simp only[inK,h0,h1];exact decide_eq_true h
theorem Zvm {n b:Nat} (h:n*(b+1)≤140737488355328):ZiZ n b=true:=decide_eq_true (ZPe (ZPq n (by omega)) h)
theorem wrap_i64 {n:Int} (h: -9223372036854775808≤n∧n≤9223372036854775807):IntKind.wrap .i64 n=n:=by rw[IntKind.wrap_i64];omega
theorem wrap_u8 {n:Int} (h:0≤n∧n≤255):IntKind.wrap .u8 n=n:=by rw[IntKind.wrap_u8];omega
theorem wrap_u64 {n:Int} (h:0≤n∧n≤18446744073709551615):IntKind.wrap .u64 n=n:=by rw[IntKind.wrap_u64];omega
theorem Zo3 {n m:Int} (h:0≤n∧n < m):inR n m=true:=decide_eq_true h
theorem ZAT {a b c:Int} (h:0≤a∧a≤b∧b≤c):Zb9 a b c=true:=decide_eq_true h
theorem ZEm {m:Nat} (h:m≤36893488147419103231):m < big:=by rw[big_eq];omega
theorem ZEn (k:Nat) (h:k≤36893488147419103232):∃n,big=n+k:=⟨36893488147419103232 - k,by rw[big_eq];omega⟩
end Go.Proofs
namespace Go.Proofs
open Go Eng
theorem Zxm {α σ τ X:Type} {f:Nat→σ→Option X} {body:(σ→Option X)→σ→Option X} (hf:∀n s,f (n+1) s=body (f n) s)
  (xs:List α) (hlen:xs.length≤1000000000000000) (st:Int→τ→σ) (P:Nat→τ→Prop) {Q:X→Prop} (t0:τ) (h0:P 0 t0)
  (step:∀(rec:σ→Option X) (k:Nat) t (h:k < xs.length),P k t→(∀t',P (k+1) t'→wp (rec (st ((k:Int)+1) t')) Q)→wp (body rec (st (k:Int) t)) Q)
  (fin:∀(rec:σ→Option X) t,P xs.length t→wp (body rec (st (xs.length:Int) t)) Q):wp (f big (st 0 t0)) Q:=by
 have key:∀(n k:Nat) t,k≤xs.length→P k t→xs.length - k < n→wp (f n (st (k:Int) t)) Q:=by
  intro n
  induction n with
  |zero=>intro k t _ _ h;omega
  |succ n ih=>
   intro k t hk hP hm;rw[hf]
   by_cases hlt:k < xs.length
   ·refine step _ k t hlt hP fun t' h'=> ?_
    exact ih (k+1) t' (by omega) h' (by omega)
   ·have:k=xs.length:=by omega
    subst this;exact fin _ t hP
 exact key big 0 t0 (Nat.zero_le _) h0 (by rw[big_eq];omega)
theorem Zwo {σ τ X:Type} {f:Nat→σ→Option X} {body:(σ→Option X)→σ→Option X} (hf:∀n s,f (n+1) s=body (f n) s)
  (m:Nat) (hlen:m≤1000000000000000) (st:Int→τ→σ) (P:Nat→τ→Prop) {Q:X→Prop} (t0:τ) (h0:P 0 t0)
  (step:∀(rec:σ→Option X) (k:Nat) t (h:k < m),P k t→(∀t',P (k+1) t'→wp (rec (st ((k:Int)+1) t')) Q)→wp (body rec (st (k:Int) t)) Q)
  (fin:∀(rec:σ→Option X) t,P m t→wp (body rec (st (m:Int) t)) Q):wp (f big (st 0 t0)) Q:=by
 have e:(ZO0 m ()).length=m:=ZOV;refine Zxm hf (ZO0 m ()) (by omega) st P t0 h0 (fun rec k s h=>step rec k s (by omega)) (fun rec s h=> ?_);rw[e]at h⊢
 exact fin rec s h
theorem ZoV {σ τ X:Type} {f:Nat→σ→Option X} {body:(σ→Option X)→σ→Option X} (hf:∀n s,f (n+1) s=body (f n) s)
  (st:τ→σ) (P:τ→Prop) (m:τ→Nat) {Q:X→Prop} (t0:τ) (h0:P t0) (hm:m t0≤1000000000000000)
  (step:∀(rec:σ→Option X) t,P t→(∀t',P t'→m t' < m t→wp (rec (st t')) Q)→wp (body rec (st t)) Q):wp (f big (st t0)) Q:=by
 have key:∀(n:Nat) t,P t→m t < n→wp (f n (st t)) Q:=by
  intro n
  induction n with
  |zero=>intro t _ h;omega
  |succ n ih=>
   intro t hP hm;rw[hf];exact step _ t hP fun t' h' hlt=>ih t' h' (by omega)
 exact key big t0 h0 (by rw[big_eq];omega)
theorem ZhP {α:Type} {xs:List α} {i:Int} (h0:0≤i) (h:i.toNat < xs.length):idx xs i=some xs[i.toNat]:=by unfold idx;rw[if_pos h0,ZOP h]
theorem ZsQ {α:Type} {xs:List α} {k:Nat} (h:k < xs.length):idx xs (k:Int)=some xs[k]:=by rw[ZhP (by omega) (by simpa using h)];simp
theorem Zoj {α:Type} {xs:List α} {k:Nat} (h:k < xs.length):inR (k:Int) (xs.length:Int)=true:=Zo3 ⟨by omega,by omega⟩
end Go.Proofs
namespace Go.Proofs
open Go Eng
theorem ZLr (n:Int) {m:Int} (h:1≤m∧m≤1000000):wp (ZtH n m) (fun r=>0≤r∧r < m):=by have ha: -m < Int.tmod n m∧Int.tmod n m < m:=⟨Int.lt_tmod_of_pos n (by omega),Int.tmod_lt_of_pos n (by omega)⟩;unfold ZtH;have h3:decide (m < 1)=false:=decide_eq_false (by omega);have h4:decide (m≠0)=true:=decide_eq_true (by omega);rw[h3,cond_false,ZnH,ZnH,ZnH,ZnD];exact⟨h4,ZnI (by omega),h4,Int.tmod_nonneg _ (by omega),Int.tmod_lt_of_pos _ (by omega)⟩
def ZsF (d:ZnA):Prop:=0≤d.at_∧d.at_≤d.l.length∧d.l.length≤500
theorem Zx7 {d:ZnA} (hd:ZsF d) {n:Int} (hn:1≤n∧n≤1000000):wp (ZnL d n) (fun r=>(0≤r.1∧r.1 < n)∧ZsF r.2):=by
 unfold ZnL;have hd0:=hd;obtain⟨h0,h1,h2⟩:=hd0;rw[ZnV];refine⟨fun h=> ?_,fun h=> ?_⟩
 ·rw[ZnD];exact⟨by simp only;omega,hd⟩
 ·simp only[decide_eq_false_iff_not]at h;simp only[ZnH,ZnE,ZGz,ZnD];refine⟨ZnI (by omega),ZnI (by omega),by omega,by omega,ZnM (ZLr _ hn) fun r hr=>⟨hr, ?_⟩⟩;simp only[ZsF];omega
end Go.Proofs
namespace Go.Proofs
open Go Eng
theorem ZA8 (w a:Nat) (h:a < 2 ^ w):(BitVec.ofInt w (a:Int)).toNat=a:=by rw[BitVec.toNat_ofInt];have:((a:Int) % ((2 ^ w:Nat):Int))=(a:Int):=Int.emod_eq_of_lt (by omega) (by exact_mod_cast h);rw[this];simp
theorem ZE3 {a b:Nat} (ha:a < 4294967296) (hb:b < 4294967296):andK .u32 (a:Int) (b:Int)=((a&&& b:Nat):Int):=by unfold andK;rw[show IntKind.bits .u32=32 from rfl,BitVec.toNat_and,ZA8 32 a ha,ZA8 32 b hb,IntKind.wrap_u32];have:=Nat.and_lt_two_pow (n:=32) a hb;omega
theorem ZFg {a b:Nat} (ha:a < 4294967296) (hb:b < 4294967296):orK .u32 (a:Int) (b:Int)=((a|||b:Nat):Int):=by unfold orK;rw[show IntKind.bits .u32=32 from rfl,BitVec.toNat_or,ZA8 32 a ha,ZA8 32 b hb,IntKind.wrap_u32];have:=Nat.or_lt_two_pow (n:=32) ha hb;omega
theorem ZFB {a b:Nat} (ha:a < 4294967296) (hb:b < 4294967296):xorK .u32 (a:Int) (b:Int)=((a ^^^ b:Nat):Int):=by unfold xorK;rw[show IntKind.bits .u32=32 from rfl,BitVec.toNat_xor,ZA8 32 a ha,ZA8 32 b hb,IntKind.wrap_u32];have:=ZPE (n:=32) ha hb;omega
theorem ZLm {a b:Nat} (ha:a < 18446744073709551616) (hb:b < 18446744073709551616):orK .u64 (a:Int) (b:Int)=((a|||b:Nat):Int):=by unfold orK;rw[show IntKind.bits .u64=64 from rfl,BitVec.toNat_or,ZA8 64 a ha,ZA8 64 b hb,IntKind.wrap_u64];have:=Nat.or_lt_two_pow (n:=64) ha hb;omega
theorem ZCs {a:Nat} (k:Nat) (hk:k≤64):shrK .u64 (a:Int) (k:Int)=((a / 2 ^ k:Nat):Int):=by
 unfold shrK;rw[show IntKind.bits .u64=64 from rfl,ZOM,ZPi hk,Int.fdiv_eq_ediv_of_nonneg _ (Int.le_of_lt (Int.pow_pos (by decide)))]
 norm_cast
theorem ZDh {a:Nat} (k:Nat) (hk:k≤32):shrK .u32 (a:Int) (k:Int)=((a / 2 ^ k:Nat):Int):=by
 unfold shrK;rw[show IntKind.bits .u32=32 from rfl,ZOM,ZPi hk,Int.fdiv_eq_ediv_of_nonneg _ (Int.le_of_lt (Int.pow_pos (by decide)))]
 norm_cast
theorem ZxA (a:Nat):IntKind.wrap .u32 (a:Int)=((a % 4294967296:Nat):Int):=by rw[IntKind.wrap_u32];omega
theorem ZoU {a:Nat} (h:a < 18446744073709551616):IntKind.wrap .u64 (a:Int)=(a:Int):=by rw[IntKind.wrap_u64];omega
theorem Zx8 {a:Nat} (h:a < 4294967296):IntKind.wrap .u32 (a:Int)=(a:Int):=by rw[IntKind.wrap_u32];omega
theorem ZL7 {a b c:Nat} (ha:a < 4294967296) (hb:b < 4294967296) (hc:c≤1):ZvU (a:Int) (b:Int) (c:Int)=some ((((a+b+c) % 4294967296:Nat):Int),(((a+b+c) / 4294967296:Nat):Int)):=by
 unfold ZvU;have e:IntKind.wrap .u64 ((IntKind.wrap .u64 ((IntKind.wrap .u64 (a:Int))+(IntKind.wrap .u64 (b:Int))))+(IntKind.wrap .u64 (c:Int)))=((a+b+c:Nat):Int):=by rw[ZoU (by omega),ZoU (by omega),ZoU (by omega),←ZLj,ZoU (by omega),←ZLj,ZoU (by omega)]
 rw[e,show (32:Int)=((32:Nat):Int)from rfl,ZCs 32 (by omega),ZxA,Zx8 (a:=(a+b+c) / 2 ^ 32) (by omega)];rfl
theorem ZJM {a:Nat} (h:a < 4294967296):(a >>> 31=0∧a < 2147483648)∨(a >>> 31=1∧2147483648≤a):=by rw[Nat.shiftRight_eq_div_pow];omega
theorem ZI7 {a b c:Nat} (ha:a < 4294967296) (hb:b < 4294967296) (hc:c≤1):Zuo (a:Int) (b:Int) (c:Int)=some ((((a+4294967296 - b - c) % 4294967296:Nat):Int),((if a < b+c then 1 else 0:Nat):Int)):=by
 unfold Zuo;have hM:(if IntKind.signed .u32 then (-1:Int)else IntKind.max .u32)=((4294967295:Nat):Int):=rfl;have e:IntKind.wrap .u32 ((IntKind.wrap .u32 ((a:Int) - (b:Int))) - (c:Int))=(((a+4294967296 - b - c) % 4294967296:Nat):Int):=by rw[IntKind.wrap_u32,IntKind.wrap_u32];omega
 have hD:(a+4294967296 - b - c) % 4294967296 < 4294967296:=ZPl _ (by decide);rw[hM,e];generalize hd:(a+4294967296 - b - c) % 4294967296=D at hD⊢
 have h1:a ^^^ b < 4294967296:=ZPE (n:=32) ha hb;have h2:4294967295 ^^^ a < 4294967296:=ZPE (n:=32) (by decide) ha;have h3:4294967295 ^^^ (a ^^^ b) < 4294967296:=ZPE (n:=32) (by decide) h1;have h4:(4294967295 ^^^ a)&&& b < 4294967296:=Nat.and_lt_two_pow (n:=32) _ hb;have h5:(4294967295 ^^^ (a ^^^ b))&&& D < 4294967296:=Nat.and_lt_two_pow (n:=32) _ hD;rw[ZFB (by decide) ha,ZFB ha hb,ZFB (by decide) h1,ZE3 h2 hb,ZE3 h3 hD,ZFg h4 h5,show (31:Int)=((31:Nat):Int)from rfl,ZDh 31 (by omega)];rw[←Nat.shiftRight_eq_div_pow,Nat.shiftRight_or_distrib,Nat.shiftRight_and_distrib,Nat.shiftRight_and_distrib,ZPB,ZPB,ZPB];have hm:(4294967295:Nat) >>> 31=1:=by decide
 rw[hm];have key:(1 ^^^ a >>> 31)&&& b >>> 31|||(1 ^^^ (a >>> 31 ^^^ b >>> 31))&&& D >>> 31=if a < b+c then 1 else 0:=by rcases ZJM ha with ⟨qa,pa⟩ |⟨qa,pa⟩<;>rcases ZJM hb with ⟨qb,pb⟩ |⟨qb,pb⟩<;>rcases ZJM hD with ⟨qd,pd⟩ |⟨qd,pd⟩<;>rw[qa,qb,qd]<;>split<;>first |rfl |(exfalso;omega)
 rw[key];rfl
theorem ZFl {h l:Nat} (hh:h < 4294967296) (hl:l < 4294967296):orK .u64 (shlK .u64 (IntKind.wrap .u64 (h:Int)) 32) (IntKind.wrap .u64 (l:Int))=((h*4294967296+l:Nat):Int):=by
 have e1:shlK .u64 (IntKind.wrap .u64 (h:Int)) 32=((h*4294967296:Nat):Int):=by unfold shlK;rw[ZoU (by omega),show min (32:Int).toNat (IntKind.bits .u64)=32 from by decide,IntKind.wrap_u64];omega
 rw[e1,ZoU (by omega),ZLm (by omega) (by omega)];have:=Nat.shiftLeft_add_eq_or_of_lt (i:=32) (b:=l) (by omega) h;simp only[Nat.shiftLeft_eq,Nat.reducePow]at this;omega
theorem ZNI {h l y:Nat} (hy:h < y) (hl:l < 4294967296) (hy2:y < 4294967296):ZxL (h:Int) (l:Int) (y:Int)=some ((((h*4294967296+l) / y:Nat):Int),(((h*4294967296+l) % y:Nat):Int)):=by
 have hle:¬((y:Int)≤(h:Int)):=by omega
 have hq:(h*4294967296+l) / y < 4294967296:=(ZPb (by omega)).2 (by
  have:(h+1)*4294967296≤y*4294967296:=ZPr _ hy;omega)
 have hr:(h*4294967296+l) % y < y:=ZPl _ (by omega);have hj:ZvA (h:Int) (l:Int) (y:Int) false=some ((((h*4294967296+l) / y:Nat):Int),(((h*4294967296+l) % y:Nat):Int)):=by
  unfold ZvA;rw[cond_false,ZFl (by omega) hl,ZoU (by omega)];have hne:decide ((y:Int)≠0)=true:=decide_eq_true (by omega);rw[hne,chk_true,chk_true];have e1:Int.tdiv ((h*4294967296+l:Nat):Int) (y:Int)=(((h*4294967296+l) / y:Nat):Int):=by rw[Int.tdiv_eq_ediv_of_nonneg (by omega)];norm_cast
  have e2:Int.tmod ((h*4294967296+l:Nat):Int) (y:Int)=(((h*4294967296+l) % y:Nat):Int):=by rw[Int.tmod_eq_emod_of_nonneg (by omega)];norm_cast
  rw[e1,e2,ZoU (by omega),Zx8 hq,Zx8 (by omega)];rfl
 unfold ZxL;rw[decide_eq_false hle,hj];cases ((y:Int) != 0)<;>rfl
def ZM4:List Int:=[0,1,2,2,3,3,3,3,4,4,4,4,4,4,4,4]++ZO0 16 5++ZO0 32 6++ZO0 64 7++ZO0 128 8
theorem ZHY:ZtI=fun x n=>(idx (ZM4.map fun n=>UInt8.ofNat n.toNat) (IntKind.wrap .u8 x)).bind fun c=>
 chk (inK .i64 (n+(IntKind.wrap .i64 ((c.toNat:Nat):Int)))) <|
 some (n+(IntKind.wrap .i64 ((c.toNat:Nat):Int))):=by kernel_rfl
theorem ZHZ:((List.range 256).all fun v=>match (ZM4.map fun n=>UInt8.ofNat n.toNat)[v]? with |some c=>decide (v < 2 ^ c.toNat∧2 ^ c.toNat≤2*v+(if v=0 then 1 else 0)∧c.toNat≤8) |none=>false)=true:=by kernel_rfl
theorem ZHX {v:Nat} (h:v < 256):∃c:UInt8,(ZM4.map fun n=>UInt8.ofNat n.toNat)[v]? =some c∧v < 2 ^ c.toNat∧(v≠0→2 ^ c.toNat≤2*v)∧c.toNat≤8:=by have:=List.all_eq_true.1 ZHZ v (List.mem_range.2 h);split at this;rotate_left;simp at this;rename_i c hc;obtain⟨h1,h2,h3⟩:=of_decide_eq_true this;refine⟨c,hc,h1,fun h0=> ?_,h3⟩;rw[if_neg h0]at h2;omega
theorem ZH0 {v:Nat} (h:v < 256) (n:Nat) (hn:n≤100):∃k:Nat,ZtI (v:Int) (n:Int)=some (((n+k:Nat):Int))∧v < 2 ^ k∧(v≠0→2 ^ k≤2*v)∧k≤8:=by
 obtain⟨c,hc,h1,h2,h3⟩:=ZHX h;refine⟨c.toNat, ?_,h1,h2,h3⟩;have e:idx (ZM4.map fun n=>UInt8.ofNat n.toNat) (IntKind.wrap .u8 (v:Int))=some c:=by rw[IntKind.wrap_u8,show (v:Int) % 256=(v:Int) by omega];unfold idx;rw[if_pos (by omega),ZOM,hc]
 rw[ZHY];dsimp only;rw[e,ZPG,wrap_i64 (by omega),ZnI (by omega),chk_true]
 norm_cast
theorem ZLt {x:Nat} (h0:x≠0) (h:x < 4294967296):∃s:Nat,s≤31∧ZrK (x:Int)=some (s:Int)∧2147483648≤x*2 ^ s∧x*2 ^ s < 4294967296:=by
 have key:∃k:Nat,ZxK (x:Int)=some (k:Int)∧x < 2 ^ k∧2 ^ k≤2*x∧k≤32:=by
  unfold ZxK Zxr;have d16:shrK .u32 (x:Int) 16=((x / 65536:Nat):Int):=ZDh 16 (by omega);have fin:∀(n v:Nat),n≤24→v < 256→v≠0→x / 2 ^ n=v→∃k:Nat,ZtI (v:Int) (n:Int)=some (k:Int)∧x < 2 ^ k∧2 ^ k≤2*x∧k≤32:=fun n v hn hv hv0 hx=>by
   obtain⟨k,q1,q2,q3,q4⟩:=ZH0 hv n (by omega);refine⟨n+k,q1, ?_, ?_,by omega⟩
   ·rw[ZPy,ZPo];exact(ZPb (ZPD n)).1 (by omega)
   ·rw[ZPy];have h1:2 ^ n*v≤x:=by rw[←hx];exact Nat.mul_div_le x (2 ^ n)
    have h2:2 ^ n*2 ^ k≤2 ^ n*(2*v):=ZPq _ (q3 hv0);have h3:2 ^ n*(2*v)=2*(2 ^ n*v):=by rw[ZPs]
    omega
  by_cases c1:65536≤x
  ·rw[decide_eq_true (by omega:(x:Int)≥65536),cond_true,d16];show ∃k:Nat,(bif decide (((x / 65536:Nat):Int)≥256)then _ else _)=_∧_
   by_cases c2:256≤x / 65536
   ·rw[decide_eq_true (by omega:((x / 65536:Nat):Int)≥256),cond_true];have d8:shrK .u32 ((x / 65536:Nat):Int) 8=((x / 65536 / 256:Nat):Int):=ZDh 8 (by omega);rw[d8];exact fin 24 (x / 65536 / 256) (by omega) (by omega) (by omega) (by omega)
   ·rw[decide_eq_false (by omega:¬((x / 65536:Nat):Int)≥256),cond_false];exact fin 16 (x / 65536) (by omega) (by omega) (by omega) (by omega)
  ·rw[decide_eq_false (by omega:¬(x:Int)≥65536),cond_false]
   by_cases c2:256≤x
   ·rw[decide_eq_true (by omega:(x:Int)≥256),cond_true];have d8:shrK .u32 (x:Int) 8=((x / 256:Nat):Int):=ZDh 8 (by omega);rw[d8];exact fin 8 (x / 256) (by omega) (by omega) (by omega) (by omega)
   ·rw[decide_eq_false (by omega:¬(x:Int)≥256),cond_false];exact fin 0 x (by omega) (by omega) h0 (by omega)
 obtain⟨k,hk,h1,h2,h3⟩:=key;have hk1:1≤k:=by
  rcases ZPc k with rfl |hp
  ·simp at h1;omega
  ·exact hp
 refine⟨32 - k,by omega, ?_, ?_, ?_⟩
 ·unfold ZrK;rw[hk,ZPG,ZnI (by omega),chk_true,show (32:Int) - (k:Int)=((32 - k:Nat):Int) by omega]
 ·have e:2 ^ k*2 ^ (32 - k)=4294967296:=by rw[←ZPy,show k+(32 - k)=32 by omega]
  have:2 ^ k*2 ^ (32 - k)≤2*x*2 ^ (32 - k):=ZPr _ h2;rw[ZPn]at this;omega
 ·have e:2 ^ k*2 ^ (32 - k)=4294967296:=by rw[←ZPy,show k+(32 - k)=32 by omega]
  have:x*2 ^ (32 - k) < 2 ^ k*2 ^ (32 - k):=ZPt h1 (ZPD _);omega
end Go.Proofs
namespace Go.Proofs
open Go Eng
def iL (l:List Nat):List Int:=l.map fun(n:Nat)=>(n:Int)
theorem Zn3 (l:List Nat):(iL l).length=l.length:=by unfold iL;simp
theorem ZEe (a b:List Nat):iL (a++b)=iL a++iL b:=by unfold iL;simp
theorem ZLD:iL []=[]:=rfl
theorem ZCZ {l:List Nat} {i:Nat} (h:i < l.length):(iL l)[i]? =some (l[i]:Int):=by unfold iL;simp[h]
theorem ZwY {l:List Nat} {i:Nat} (h:i < l.length):idx (iL l) (i:Int)=some (l[i]:Int):=by unfold idx;rw[if_pos (by omega),ZOM,ZCZ h]
theorem ZB8 (l:List Nat) (i x:Nat):(iL l).set i (x:Int)=iL (l.set i x):=by unfold iL;rw[List.map_set]
theorem ZFK (l:List Nat) (i:Nat):(iL l).take i=iL (l.take i):=by unfold iL;rw[List.map_take]
theorem ZEd (n:Nat):ZO0 n (0:Int)=iL (ZO0 n 0):=by unfold iL;rw[List.map_replicate];rfl
abbrev Bw:Nat:=4294967296
def val:List Nat→Nat
 | []=>0
 |d::r=>d+Bw*val r
def Dg (l:List Nat):Prop:=∀d∈l,d < Bw
theorem Dg.app {a b:List Nat} (ha:Dg a) (hb:Dg b):Dg (a++b):=fun d hd=>(List.mem_append.1 hd).elim (ha d) (hb d)
theorem ZC3:Dg []:=fun _ h=>by simp at h
theorem ZCn {x:Nat} (h:x < Bw):Dg [x]:=fun d hd=>by simp only[List.mem_singleton]at hd;subst hd;exact h
theorem ZG6 (n:Nat):Dg (ZO0 n 0):=fun d hd=>by rw[List.mem_replicate]at hd;rw[hd.2];decide
theorem Dg.take {a:List Nat} (h:Dg a) (k:Nat):Dg (a.take k):=fun d hd=>h d (List.mem_of_mem_take hd)
theorem Dg.drop {a:List Nat} (h:Dg a) (k:Nat):Dg (a.drop k):=fun d hd=>h d (List.mem_of_mem_drop hd)
theorem Dg.set {a:List Nat} (h:Dg a) (i:Nat) {x:Nat} (hx:x < Bw):Dg (a.set i x):=fun d hd=>by
 rcases List.mem_or_eq_of_mem_set hd with h1 |h1
 ·exact h d h1
 ·rw[h1];exact hx
theorem Dg.get {a:List Nat} (h:Dg a) {i:Nat} (hi:i < a.length):a[i] < Bw:=h _ (List.getElem_mem hi)
theorem ZCc:∀a b:List Nat,val (a++b)=val a+Bw ^ a.length*val b
 | [],b=>by simp[val]
 |d::a,b=>by simp only[List.cons_append,val,ZCc a b,ZOU,ZPA,ZPm];rw[ZPo (Bw ^ a.length) Bw,ZPn];omega
theorem Zyv (a:List Nat) (x:Nat):val (a++[x])=val a+Bw ^ a.length*x:=by rw[ZCc];simp[val]
theorem ZzF:∀{l:List Nat},Dg l→val l < Bw ^ l.length
 | [],_=>by simp[val]
 |d::r,h=>by
  have h1:=h d (by simp);have h2:=ZzF (l:=r) fun x hx=>h x (by simp[hx])
  simp only[val,ZOU,ZPA];have:Bw*(val r+1)≤Bw*Bw ^ r.length:=ZPq _ h2;rw[ZPo (Bw ^ r.length) Bw];rw[ZPm,ZPv]at this;exact ZPf (by omega) this
theorem ZFC (n:Nat):val (ZO0 n 0)=0:=by
 induction n with
 |zero=>rfl
 |succ n ih=>rw[List.replicate_succ,val,ih,ZPw]
theorem ZoL {l:List Nat} {k:Nat} (h:k < l.length):val (l.take (k+1))=val (l.take k)+Bw ^ k*l[k]:=by rw[List.take_succ_eq_append_getElem h,Zyv,ZOY,ZPi (by omega)]
def wd (n:Nat):List Nat:=if h:n=0 then []else n % Bw::wd (n / Bw)
termination_by n
decreasing_by exact Nat.div_lt_self (Nat.pos_of_ne_zero h) (by decide)
theorem Zw0:wd 0=[]:=by unfold wd;simp
theorem ZDq {n:Nat} (h:n≠0):wd n=n % Bw::wd (n / Bw):=by rw[wd,dif_neg h]
theorem Zx9 (n:Nat):Dg (wd n):=by
 induction n using Nat.strongRecOn with
 |ind n ih=>
  by_cases h:n=0
  ·rw[h,Zw0];exact ZC3
  ·rw[ZDq h];intro d hd;rcases ZOZ.1 hd with rfl |hd
   ·exact ZPl _ (by decide)
   ·exact ih (n / Bw) (Nat.div_lt_self (Nat.pos_of_ne_zero h) (by decide)) d hd
theorem ZtJ (n:Nat):val (wd n)=n:=by
 induction n using Nat.strongRecOn with
 |ind n ih=>
  by_cases h:n=0
  ·rw[h,Zw0];rfl
  ·rw[ZDq h,val,ih (n / Bw) (Nat.div_lt_self (Nat.pos_of_ne_zero h) (by decide))];exact ZPj n Bw
theorem ZAU {n k:Nat} (h:n < Bw ^ k):(wd n).length≤k:=by
 induction k generalizing n with
 |zero=>
  have:n=0:=by simpa using h
  rw[this,Zw0];simp
 |succ k ih=>
  by_cases h0:n=0
  ·rw[h0,Zw0];simp
  ·rw[ZDq h0,ZOU];have:n / Bw < Bw ^ k:=(ZPb (by decide)).2 (by rw[←ZPA];exact h);have:=ih this;omega
theorem Zuk {n:Nat} (h:n≠0):0 < (wd n).length:=by rw[ZDq h];simp
theorem ZKY {n:Nat}:wd n=[]↔n=0:=⟨fun h=>by have:=ZtJ n;rw[h]at this;exact this.symm,fun h=>by rw[h,Zw0]⟩
theorem ZyO (n:Nat):n < Bw ^ (wd n).length:=by have:=ZzF (Zx9 n);rwa [ZtJ]at this
def ZE9 (l:List Nat):List Nat:=(l.reverse.dropWhile (· == 0)).reverse
theorem ZEu (l:List Nat) (x:Nat):ZE9 (l++[x])=if x=0 then ZE9 l else l++[x]:=by
 unfold ZE9;rw[List.reverse_append,List.reverse_singleton,List.singleton_append,List.dropWhile_cons]
 by_cases h:x=0
 ·simp[h]
 ·simp[h]
theorem ZFQ:∀{l:List Nat} {x:Nat},Dg (l++[x])→x≠0→wd (val (l++[x]))=l++[x]
 | [],x,h,hx=>by have h1:x < Bw:=h x (by simp);simp only[List.nil_append,val,ZPw,ZO8];rw[ZDq hx,ZPk h1,ZPa h1,Zw0]
 |d::l,x,h,hx=>by
  have h1:d < Bw:=h d (by simp);have ih:=ZFQ (l:=l) (x:=x) (fun y hy=>h y (by simp only[List.cons_append,ZOZ];exact .inr hy)) hx;have hne:val (l++[x])≠0:=fun e=>by rw[e,Zw0]at ih;simp at ih
  simp only[List.cons_append,val];rw[ZDq (by simp only[Bw];omega),Nat.add_mul_mod_self_left,ZPk h1,Nat.add_mul_div_left _ _ (by decide),ZPa h1,ZPF,ih]
theorem ZFU:∀(n:Nat) {l:List Nat},l.length=n→Dg l→ZE9 l=wd (val l)
 |0,l,hl,_=>by rw[List.eq_nil_of_length_eq_zero hl];simp[ZE9,val,Zw0]
 |n+1,l,hl,h=>by
  rcases List.eq_nil_or_concat l with rfl |⟨v,x,rfl⟩
  ·simp at hl
  ·rw[List.concat_eq_append]at hl h⊢
   rw[ZEu];split
   ·rename_i h0;subst h0;rw[ZFU n (by simpa using hl) (fun d hd=>h d (by simp[hd])),Zyv,ZPw,ZO8]
   ·rename_i h0;exact(ZFQ h h0).symm
theorem ZCr {l:List Nat} (h:Dg l) (hl:l.length≤1000000):Zot (iL l)=some (iL (wd (val l))):=by
 rw[←ZFU _ rfl h];refine ZrY ?_;unfold Zot Zzd;rw[ZnE];refine ZnM (ZoV ZCk (fun(w:List Nat)=>iL w) (fun w=>ZE9 w=ZE9 l∧w.length≤1000000) List.length (Q:=fun x=>x=iL (ZE9 l)) l ⟨rfl,hl⟩ (by omega) ?_) (fun x hx=>by rw[ZnD];exact hx);rintro rec w ⟨hw,hwl⟩ ih;unfold ZAr ZvQ ZwT;rcases List.eq_nil_or_concat w with rfl |⟨v,x,rfl⟩
 ·show wp (some (iL [])) _;rw[ZnD,←hw];rfl
 ·rw[List.concat_eq_append]at hw hwl⊢
  rw[ZEu]at hw;have hlen:(iL (v++[x])).length=v.length+1:=by rw[Zn3];simp
  rw[ZnV];refine⟨fun _=> ?_,fun h=>by simp only[decide_eq_false_iff_not]at h;omega⟩;have ei:((iL (v++[x])).length:Int) - 1=(v.length:Int):=by rw[hlen];omega
  have hx:(v++[x])[v.length]'(by simp)=x:=by simp
  rw[ei,ZnH,ZnE,ZwY (by simp),ZnD,hx,ZnV];refine⟨ZnI (by simp at hwl;omega),fun h=> ?_,fun h=> ?_⟩
  ·have h0:x=0:=by have:=eq_of_beq h;omega
   rw[if_pos h0]at hw;rw[ZnH,ZnH];refine⟨ZnI (by simp at hwl;omega),ZAT (by omega), ?_⟩;have:(iL (v++[x])).take ((v.length:Int)).toNat=iL v:=by rw[ZFK,ZOM];simp
   rw[this];exact ih v ⟨hw,by simp at hwl;omega⟩ (by simp)
  ·have h0:x≠0:=by intro e;subst e;simp at h
   rw[if_neg h0]at hw;rw[ZnD,←hw]
theorem ZJP (l:List Nat) (i:Nat):ZsO (iL l) (i:Int)=some ((l.getD i 0:Nat):Int):=by
 unfold ZsO;rw[Zn3]
 by_cases h:i < l.length
 ·rw[decide_eq_true (by omega),cond_true,ZwY h,ZPG,ZOO,ZOP h];rfl
 ·rw[decide_eq_false (by omega),cond_false,ZOO,ZOQ (by omega)];rfl
theorem ZDk {l:List Nat} (h:Dg l) (i:Nat):l.getD i 0 < Bw:=by
 rw[ZOO]
 by_cases hi:i < l.length
 ·rw[ZOP hi];exact h.get hi
 ·rw[ZOQ (by omega)];decide
theorem Zzo (l:List Nat) (k:Nat):val (l.take (k+1))=val (l.take k)+Bw ^ k*l.getD k 0:=by
 rw[ZOO]
 by_cases h:k < l.length
 ·rw[ZoL h,ZOP h];rfl
 ·rw[ZOQ (by omega),ZO4 (by omega),ZO4 (by omega)];simp
theorem ZJk (a b:Nat) (ha:(wd a).length≤100000) (hb:(wd b).length≤100000):ZsU (iL (wd a)) (iL (wd b))=some (iL (wd (a+b))):=by
 obtain⟨m,hm,hma,hmb,hm2⟩:∃m:Nat,(if ((iL (wd b)).length:Int) > ((iL (wd a)).length:Int)then ((iL (wd b)).length:Int)else ((iL (wd a)).length:Int))=(m:Int)∧(wd a).length≤m∧(wd b).length≤m∧m≤100000:=by
  rw[Zn3,Zn3]
  by_cases h:((wd b).length:Int) > ((wd a).length:Int)
  ·exact⟨(wd b).length,by rw[if_pos h],by omega,by omega,hb⟩
  ·exact⟨(wd a).length,by rw[if_neg h],by omega,by omega,ha⟩
 refine ZrY ?_;unfold ZsU;rw[hm,ZnH,ZnH,ZnE];refine⟨ZnI (by omega),decide_eq_true (by unfold ZO;omega), ?_⟩;refine ZnM (Zwo ZBQ m (by omega) (fun i (s:Nat×List Nat)=>(iL (wd a),iL (wd b),(s.1:Int),(m:Int),i,iL s.2)) (fun i s=>s.1≤1∧s.2.length=i∧Dg s.2∧val s.2+Bw ^ i*s.1=val ((wd a).take i)+val ((wd b).take i))
  (Q:=fun y=>∃(c:Nat) (o:List Nat),y=((c:Int),iL o)∧c≤1∧Dg o∧o.length=m∧val o+Bw ^ m*c=a+b) (0,[]) ⟨by simp,rfl,ZC3,by simp[val]⟩ ?_ ?_) ?_
 ·rintro rec i ⟨c,o⟩ hlt ⟨hc,hl,hd,hv⟩ ih;dsimp only at hc hl hd hv ih;have h1:=ZDk (Zx9 a) i;have h2:=ZDk (Zx9 b) i;unfold ZwK ZtZ;dsimp only;rw[ZnV];refine⟨fun _=> ?_,fun h=>by simp only[decide_eq_false_iff_not]at h;omega⟩;rw[ZJP,ZnE,ZnD,ZJP,ZnE,ZnD,ZL7 h1 h2 hc,ZnE,ZnD];dsimp only;rw[ZnH,ZnH,Zn3];refine⟨Zvm (by simp only[ZOX];omega),ZnI (by omega), ?_⟩;generalize ex:(wd a).getD i 0=x at h1;generalize ey:(wd b).getD i 0=y at h2;have:=ih ((x+y+c) / Bw,o++[(x+y+c) % Bw]) ⟨?_,by simp[hl],hd.app (ZCn (ZPl _ (by decide))), ?_⟩
  ·rw[ZEe]at this;exact this
  ·simp only[Bw]at h1 h2⊢;omega
  ·dsimp only;rw[Zyv,hl,ZPA,Zzo,Zzo,ex,ey,Nat.add_assoc,ZPn,←ZPm,ZPj,ZPm,ZPm];omega
 ·rintro rec ⟨c,o⟩ ⟨hc,hl,hd,hv⟩;unfold ZwK ZtZ;dsimp only;rw[ZnV];refine⟨fun h=>by simp only[decide_eq_true_eq]at h;omega,fun _=> ?_⟩;rw[ZnD];rw[ZO4 hma,ZO4 hmb,ZtJ,ZtJ]at hv;exact⟨c,o,rfl,hc,hd,hl,hv⟩
 ·rintro y ⟨c,o,rfl,hc,hd,hl,hv⟩;dsimp only;unfold ZxM;rw[ZnH,Zn3];refine⟨Zvm (by simp only[ZOX];omega), ?_⟩;have e:iL o++[(c:Int)]=iL (o++[c]):=by rw[ZEe];rfl
  rw[e,ZCr (hd.app (ZCn (by unfold Bw;omega))) (by simp;omega),ZnE,ZnD,ZnD,Zyv,hl,hv]
end Go.Proofs
namespace Go.Proofs
open Go Eng
theorem ZDz {σ τ X:Type} {f:Nat→σ→Option X} {body:(σ→Option X)→σ→Option X} (hf:∀n s,f (n+1) s=body (f n) s)
  (m:Nat) (hm:m≤1000000000000000) (st:Int→τ→σ) (P:Nat→τ→Prop) {Q:X→Prop} (t0:τ) (h0:P m t0)
  (step:∀(rec:σ→Option X) k t,k < m→P (k+1) t→(∀t',P k t'→wp (rec (st ((k:Int) - 1) t')) Q)→wp (body rec (st (k:Int) t)) Q)
  (fin:∀(rec:σ→Option X) t,P 0 t→wp (body rec (st (-1) t)) Q):wp (f big (st ((m:Int) - 1) t0)) Q:=by
 have key:∀(n k:Nat) t,k≤m→P k t→k < n→wp (f n (st ((k:Int) - 1) t)) Q:=by
  intro n
  induction n with
  |zero=>intro k t _ _ h;omega
  |succ n ih=>
   intro k t hk hP hn;rw[hf];cases k with
   |zero=>exact fin _ t hP
   |succ k=>
    have e:((k+1:Nat):Int) - 1=(k:Int):=by omega
    rw[e];exact step _ k t (by omega) hP fun t' h'=>ih k t' (by omega) h' (by omega)
 exact key big m t0 (Nat.le_refl _) h0 (ZEm (by omega))
theorem ZCB {n:Nat} (h:n≤1000000):mkOk (n:Int) (n:Int) 4=true:=by unfold mkOk ZO;exact decide_eq_true ⟨by omega,by omega,by omega,by omega⟩
def ZEA (a b:Nat):Int:=if a < b then -1 else if b < a then 1 else 0
theorem ZFs (a b:Nat):Zru (a:Int) (b:Int)=some (ZEA a b):=by
 unfold Zru ZxQ ZEA;rw[ZPG,ZPG,bne_self_eq_false,bne_self_eq_false,cond_false,cond_false]
 by_cases h1:a < b
 ·rw[decide_eq_true (by omega:(a:Int) < b),if_pos h1];rfl
 ·rw[decide_eq_false (by omega:¬(a:Int) < b),if_neg h1,cond_false]
  by_cases h2:b < a
  ·rw[decide_eq_true (by omega:(a:Int) > b),if_pos h2];rfl
  ·rw[decide_eq_false (by omega:¬(a:Int) > b),if_neg h2];rfl
theorem ZJI (a b:Nat):Zxy (a:Int) (b:Int)=some (ZEA a b):=ZFs a b
theorem ZAP {a b:Nat} (h:a < b):ZEA a b= -1:=by unfold ZEA;rw[if_pos h]
theorem ZAv {a b:Nat} (h:b < a):ZEA a b=1:=by unfold ZEA;rw[if_neg (by omega),if_pos h]
theorem Zzm (a:Nat):ZEA a a=0:=by unfold ZEA;rw[if_neg (by omega),if_neg (by omega)]
theorem ZE8 {n k:Nat} (h:k < (wd n).length):Bw ^ k≤n:=by
 rcases ZPg n (Bw ^ k)with h1 |h1
 ·have:=ZAU h1;omega
 ·exact h1
theorem ZEC {a b:Nat} (h:(wd a).length < (wd b).length):a < b:=ZPf (ZyO a) (ZE8 h)
theorem ZBL {l:List Nat} {k:Nat} (h:k < l.length):val l=val (l.take k)+Bw ^ k*(l[k]+Bw*val (l.drop (k+1))):=by
 have e:l=l.take k++l[k]::l.drop (k+1):=by rw[ZOS,ZO3]
 have hl:(l.take k).length=k:=by rw[ZOY];omega
 calc val l=val (l.take k++l[k]::l.drop (k+1)):=by rw[←e]
  _=_:=by rw[ZCc,hl];rfl
theorem ZEM {p q x y A B:Nat} {k:Nat} (hp:p < Bw ^ k) (h:x < y):p+Bw ^ k*x < q+Bw ^ k*y:=by have:Bw ^ k*(x+1)≤Bw ^ k*y:=ZPq _ h;rw[ZPm,ZPv]at this;omega
theorem ZDJ (a b:Nat) (ha:(wd a).length≤100000) (hb:(wd b).length≤100000):Zpg (iL (wd a)) (iL (wd b))=some (ZEA a b):=by
 refine ZrY ?_;unfold Zpg;rw[Zn3,Zn3,ZFs,ZnE,ZnD,ZnV];refine⟨fun h=> ?_,fun h=> ?_⟩
 ·rw[ZnD];rcases ZPh (wd a).length (wd b).length with h1 |h1 |h1
  ·rw[ZAP h1,ZAP (ZEC h1)]
  ·rw[h1,Zzm]at h;exact absurd h (by decide)
  ·rw[ZAv h1,ZAv (ZEC h1)]
 ·have hl:(wd a).length=(wd b).length:=by
   rcases ZPh (wd a).length (wd b).length with h1 |h1 |h1
   ·rw[ZAP h1]at h;exact absurd h (by decide)
   ·exact h1
   ·rw[ZAv h1]at h;exact absurd h (by decide)
  rw[ZnH,ZnE];refine⟨ZnI (by omega), ?_⟩;refine ZnM (ZDz ZA2 (wd a).length (by omega) (fun i (s:Unit)=>(iL (wd a),iL (wd b),i)) (fun k _=>(wd a).drop k=(wd b).drop k)
   (Q:=fun r=>r= .ret (ZEA a b)∧ZEA a b≠0∨r= .brk ()∧a=b) () (by rw[List.drop_length,hl,List.drop_length]) ?_ ?_) ?_
  ·rintro rec k ⟨⟩ hk hP ih;have hk2:k < (wd b).length:=by omega
   unfold Zvl ZsE;dsimp only;rw[ZnV];refine⟨fun _=> ?_,fun h=>by simp only[decide_eq_false_iff_not]at h;omega⟩;rw[ZwY hk,ZnE,ZnD,ZwY hk2,ZnE,ZnD,ZJI,ZnE,ZnD];have ha:=ZBL hk;have hb:=ZBL hk2;rw[ZtJ]at ha hb;have la:val ((wd a).take k) < Bw ^ k:=by have:=ZzF ((Zx9 a).take k);rwa [ZOY,ZPi (by omega)]at this
   have lb:val ((wd b).take k) < Bw ^ k:=by have:=ZzF ((Zx9 b).take k);rwa [ZOY,ZPi (by omega)]at this
   rw[ZnV];refine⟨fun hc=> ?_,fun hc=> ?_⟩
   ·rw[ZnD];rcases ZPh (wd a)[k] (wd b)[k]with h1 |h1 |h1
    ·rw[ZAP h1];have:a < b:=by rw[ha,hb,hP];exact ZEM (A:=0) (B:=0) la (by omega)
     exact .inl ⟨by rw[ZAP this],by rw[ZAP this];decide⟩
    ·rw[h1,Zzm]at hc;exact absurd hc (by decide)
    ·rw[ZAv h1];have:b < a:=by rw[ha,hb,hP];exact ZEM (A:=0) (B:=0) lb (by omega)
     exact .inl ⟨by rw[ZAv this],by rw[ZAv this];decide⟩
   ·rw[ZnH];refine⟨ZnI (by omega),ih () ?_⟩;have h1:(wd a)[k]=(wd b)[k]:=by
     rcases ZPh (wd a)[k] (wd b)[k]with h1 |h1 |h1
     ·rw[ZAP h1]at hc;exact absurd hc (by decide)
     ·exact h1
     ·rw[ZAv h1]at hc;exact absurd hc (by decide)
    rw[←ZOS (h:=hk),←ZOS (h:=hk2),h1,hP]
  ·rintro rec ⟨⟩ hP;unfold Zvl ZsE;dsimp only;rw[ZnV];refine⟨fun h=>by have:=of_decide_eq_true h;omega,fun _=> ?_⟩;rw[ZnD];rw[ZON,ZON]at hP;exact .inr ⟨rfl,by rw[←ZtJ a,←ZtJ b,hP]⟩
  ·rintro r (⟨rfl,_⟩ |⟨rfl,rfl⟩)
   ·exact ZnD.2 rfl
   ·unfold Zwk;exact ZnD.2 (Zzm a).symm
theorem ZJc {o:List Nat} {n i:Nat} (x:Nat) (ho:o.length=i) (h:i < n):(o++ZO0 (n - i) 0).set i x=(o++[x])++ZO0 (n - (i+1)) 0:=by
 have:n - i=(n - (i+1))+1:=by omega
 rw[this,List.replicate_succ,ZO1 _ _ (by omega),ho,ZPC,ZO2];simp
theorem ZF7 (a b:Nat) (hab:b≤a) (ha:(wd a).length≤100000):Zr3 (iL (wd a)) (iL (wd b))=some (iL (wd (a - b))):=by
 have hlb:(wd b).length≤(wd a).length:=by
  rcases ZPg (wd a).length (wd b).length with h |h
  ·have:=ZEC h;omega
  ·exact h
 refine ZrY ?_;unfold Zr3;rw[Zn3,ZnH,ZnE,ZOM,ZEd];refine⟨ZCB (by omega), ?_⟩;generalize hn:(wd a).length=n at ha hlb⊢
 rw[show iL (ZO0 n 0)=iL ([]++ZO0 (n - ([]:List Nat).length) 0) by simp];refine ZnM (Zwo ZBJ n (by omega) (fun i (s:Nat×List Nat)=>(iL (wd a),iL (wd b),(s.1:Int),(n:Int),i,iL (s.2++ZO0 (n - s.2.length) 0))) (fun i s=>s.1≤1∧s.2.length=i∧Dg s.2∧val ((wd a).take i)+Bw ^ i*s.1=val s.2+val ((wd b).take i))
  (Q:=fun y=>∃(o:List Nat),y=iL o∧Dg o∧o.length=n∧val o=a - b) (0,[]) ⟨by simp,rfl,ZC3,by simp[val]⟩ ?_ ?_) ?_
 ·rintro rec i ⟨c,o⟩ hlt ⟨hc,hl,hd,hv⟩ ih;dsimp only at hc hl hd hv ih;have hi:i < (wd a).length:=by omega
  have h1:=(Zx9 a).get hi;have h2:=ZDk (Zx9 b) i;unfold Zwj ZtD;dsimp only;rw[ZnV];refine⟨fun _=> ?_,fun h=>by simp only[decide_eq_false_iff_not]at h;omega⟩;rw[ZwY hi,ZnE,ZnD,ZJP,ZnE,ZnD,ZI7 h1 h2 hc,ZnE,ZnD];dsimp only;rw[ZnH,ZnH,Zn3,ZOM,ZB8,hl,ZJc _ hl hlt];refine⟨Zo3 ⟨by omega,by simp only[ZOT,ZOV];omega⟩,ZnI (by omega), ?_⟩;generalize ex:(wd a)[i]=x at h1;generalize ey:(wd b).getD i 0=y at h2;have:=ih ((if x < y+c then 1 else 0),o++[(x+4294967296 - y - c) % 4294967296]) ⟨by dsimp only;split<;>omega,by simp[hl],hd.app (ZCn (ZPl _ (by decide))), ?_⟩
  ·rw[ZOT,ZOX,hl]at this;exact this
  ·dsimp only;rw[Zyv,hl,ZPA,ZoL hi,Zzo,ex,ey,ZPn];have e:x+Bw*(if x < y+c then 1 else 0)=(x+4294967296 - y - c) % 4294967296+y+c:=by simp only[Bw]at h1 h2⊢;split<;>omega
   have e2:Bw ^ i*(x+Bw*(if x < y+c then 1 else 0))=Bw ^ i*((x+4294967296 - y - c) % 4294967296+y+c):=by rw[e]
   rw[ZPm,ZPm,ZPm]at e2;omega
 ·rintro rec ⟨c,o⟩ ⟨hc,hl,hd,hv⟩;unfold Zwj ZtD;dsimp only at hc hl hd hv⊢
  rw[ZnV];refine⟨fun h=>by simp only[decide_eq_true_eq]at h;omega,fun _=> ?_⟩;rw[ZnD];rw[ZO4 (by omega),ZO4 (by omega),ZtJ,ZtJ]at hv;have:=ZzF hd;rw[hl]at this;have hc0:c=0:=by
   rcases ZPc c with h |h
   ·exact h
   ·have:c=1:=by omega
    rw[this,ZPv]at hv;omega
  rw[hc0,ZPw]at hv;exact⟨o,by rw[hl,ZPC];simp,hd,hl,by omega⟩
 ·rintro y ⟨o,rfl,hd,hl,hv⟩;unfold Zxj;rw[ZCr hd (by omega),ZnE,ZnD,ZnD,hv]
theorem ZHL (a d:Nat) (hd0:d≠0) (hd:d < Bw) (ha:(wd a).length≤100000):Zuj (iL (wd a)) (d:Int)=some (iL (wd (a / d)),((a % d:Nat):Int)):=by
 refine ZrY ?_;unfold Zuj;rw[Zn3,ZnH,ZnH,ZnE,ZOM,ZEd];refine⟨ZCB (by omega),ZnI (by omega), ?_⟩;generalize hn:(wd a).length=n at ha⊢
 rw[show iL (ZO0 n 0)=iL (ZO0 (n - ([]:List Nat).length) 0++[]) by simp];refine ZnM (ZDz ZBI n (by omega) (fun i (s:Nat×List Nat)=>(iL (wd a),(d:Int),(s.1:Int),i,iL (ZO0 (n - s.2.length) 0++s.2))) (fun k s=>s.1 < d∧s.2.length+k=n∧Dg s.2∧val ((wd a).drop k)=val s.2*d+s.1)
  (Q:=fun y=>∃(r:Nat) (o:List Nat),y=((r:Int),iL o)∧Dg o∧o.length=n∧r < d∧a=val o*d+r) (0,[]) ⟨by dsimp only;omega,by simp,ZC3,by rw[←hn,List.drop_length];simp[val]⟩ ?_ ?_) ?_
 ·rintro rec k ⟨r,o⟩ hk ⟨hr,hl,hdg,hv⟩ ih;dsimp only at hr hl hdg hv ih;have hi:k < (wd a).length:=by omega
  have h1:=(Zx9 a).get hi;unfold Zwh ZtB;dsimp only;rw[ZnV];refine⟨fun _=> ?_,fun h=>by simp only[decide_eq_false_iff_not]at h;omega⟩;rw[ZwY hi,ZnE,ZnD,ZNI hr h1 hd,ZnE,ZnD];dsimp only;generalize ex:(wd a)[k]=x at h1;have hq:(r*4294967296+x) / d < Bw:=(ZPb (by omega)).2 (by
   have:(r+1)*4294967296≤d*4294967296:=ZPr _ hr;simp only[Bw]at*
   omega)
  have es:(ZO0 (n - o.length) 0++o).set k ((r*4294967296+x) / d)=ZO0 (n - (o.length+1)) 0++((r*4294967296+x) / d)::o:=by
   have e:n - o.length=k+1:=by omega
   have e2:n - (o.length+1)=k:=by omega
   rw[e,e2,List.replicate_succ',List.append_assoc,ZO1 _ _ (by simp),ZOV,ZPC];rfl
  rw[ZnH,ZnH,Zn3,ZOM,ZB8,es];refine⟨Zo3 ⟨by omega,by simp only[ZOT,ZOV];omega⟩,ZnI (by omega), ?_⟩;refine ih ((r*4294967296+x) % d,((r*4294967296+x) / d)::o) ⟨ZPl _ (by omega),by simp only[ZOU];omega,fun y hy=> ?_, ?_⟩
  ·rcases ZOZ.1 hy with rfl |hy
   ·exact hq
   ·exact hdg y hy
  ·dsimp only;rw[←ZOS (h:=hi),ex,val,hv,val];have:=ZO9 (r*4294967296+x) d;rw[ZO5,ZPo ((r*4294967296+x) / d) d,ZPm,ZPn];simp only[Bw]at*
   omega
 ·rintro rec ⟨r,o⟩ ⟨hr,hl,hdg,hv⟩;unfold Zwh ZtB;dsimp only at hr hl hdg hv⊢
  rw[ZnV];refine⟨fun h=>by have:=of_decide_eq_true h;omega,fun _=> ?_⟩;rw[ZnD];rw[ZON,ZtJ]at hv;refine⟨r,o, ?_,hdg,hl,hr,hv⟩;rw[show n - o.length=0 by omega];rfl
 ·rintro y ⟨r,o,rfl,hdg,hl,hr,hv⟩;dsimp only;unfold Zxi;rw[ZCr hdg (by omega),ZnE,ZnD,ZnD];have e1:a / d=val o:=by rw[hv,ZPo,Nat.mul_add_div (by omega),ZPa hr,ZO8]
  have e2:a % d=r:=by rw[hv,ZPo,Nat.mul_add_mod,ZPk hr]
  rw[e1,e2]
end Go.Proofs
namespace Go.Proofs
open Go Eng
theorem ZCb:∀(l:List Nat) (i x:Nat) (h:i < l.length),val (l.set i x)+Bw ^ i*l[i]=val l+Bw ^ i*x
 | [],i,x,h=>absurd h (by simp)
 |d::l,0,x,h=>by simp only[ZO2,val,Nat.pow_zero,ZPx,List.getElem_cons_zero];omega
 |d::l,i+1,x,h=>by
  have:=ZCb l i x (by simpa using h);have e:Bw*(val (l.set i x)+Bw ^ i*l[i]'(by simpa using h))=Bw*(val l+Bw ^ i*x):=by rw[this]
  rw[ZPm,ZPm]at e;simp only[List.set_cons_succ,val,ZPA,List.getElem_cons_succ];rw[ZPo (Bw ^ i) Bw,ZPn,ZPn];omega
theorem ZJp {x y:Nat} (hx:x≤4294967295) (hy:y≤4294967295):x*y≤18446744065119617025:=ZPp hx hy
theorem ZCW {x y:Nat} (hx:x < Bw) (hy:y < Bw):x*y≤18446744065119617025:=ZJp (by simp only[Bw]at hx;omega) (by simp only[Bw]at hy;omega)
theorem ZLs {c x y e:Nat} (hc:c < Bw) (hx:x < Bw) (hy:y < Bw) (he:e < Bw):IntKind.wrap .u64 ((c:Int)+IntKind.wrap .u64 (IntKind.wrap .u64 (IntKind.wrap .u64 (x:Int)*IntKind.wrap .u64 (y:Int))+IntKind.wrap .u64 (e:Int)))=((c+x*y+e:Nat):Int):=by have:=ZCW hx hy;simp only[Bw]at hc hx hy he;rw[ZoU (by omega),ZoU (by omega),ZoU (by omega),←ZOL,ZoU (by omega),←ZLj,ZoU (by omega),←ZLj,ZoU (by omega)];congr 1;omega
theorem ZIw {c x y e:Nat} (hc:c < Bw) (hx:x < Bw) (hy:y < Bw) (he:e < Bw):(c+x*y+e) / Bw < Bw:=by
 have:=ZCW hx hy;simp only[Bw]at hc hx hy he⊢
 omega
theorem ZHF (a b:Nat) (ha:(wd a).length≤100000) (hb:(wd b).length≤100000):ZqP (iL (wd a)) (iL (wd b))=some (iL (wd (a*b))):=by
 refine ZrY ?_;unfold ZqP;rw[Zn3,Zn3,ZnH,ZnH,ZnE,←ZLj,ZOM,ZEd];refine⟨ZnI (by omega),ZCB (by omega), ?_⟩;generalize hm:(wd a).length=m at ha⊢
 generalize hn:(wd b).length=n at hb⊢
 refine ZnM (Zwo ZBH m (by omega) (fun i (s:List Nat)=>(iL (wd b),iL (wd a),(m:Int),i,iL s)) (fun i s=>s.length=m+n∧Dg s∧val s=val ((wd a).take i)*b∧∀k,i+n≤k→k < m+n→s[k]? =some 0)
  (Q:=fun y=>∃(o:List Nat),y=iL o∧Dg o∧o.length=m+n∧val o=a*b) (ZO0 (m+n) 0) ⟨by simp,ZG6 _,by rw[ZFC];simp[val],fun k _ h=>by rw[List.getElem?_replicate,if_pos h]⟩ ?_ ?_) ?_
 ·rintro rec i s hlt ⟨hl,hd,hv,hz⟩ ih;have hi:i < (wd a).length:=by omega
  have h1:=(Zx9 a).get hi;unfold Zwg ZtA;dsimp only;rw[ZnV];refine⟨fun _=> ?_,fun h=>by simp only[decide_eq_false_iff_not]at h;omega⟩;rw[ZwY hi,ZnE,ZnD,ZnE,Zn3,hn];generalize ex:(wd a)[i]=x at h1;refine ZnM (Zwo ZBG n (by omega) (fun j (t:Nat×List Nat)=>(iL (wd b),(i:Int),(x:Int),(t.1:Int),iL (wd a),(m:Int),(i:Int),iL (wd b),(n:Int),j,iL t.2)) (fun j t=>t.1 < Bw∧t.2.length=m+n∧Dg t.2∧val t.2+Bw ^ (i+j)*t.1=val s+Bw ^ i*(x*val ((wd b).take j))∧∀k,i+n≤k→k < m+n→t.2[k]? =some 0)
   (Q:=fun y=>∃(c:Nat) (o:List Nat),y=(iL (wd b),(i:Int),(c:Int),iL (wd a),(m:Int),(i:Int),iL o)∧c < Bw∧o.length=m+n∧Dg o∧val o+Bw ^ (i+n)*c=val s+Bw ^ i*(x*b)∧∀k,i+n≤k→k < m+n→o[k]? =some 0) (0,s) ⟨by simp only[Bw];omega,hl,hd,by simp[val],hz⟩ ?_ ?_) ?_
  ·rintro rec2 j ⟨c,o⟩ hj ⟨hc,hol,hod,hov,hoz⟩ ih2;dsimp only at hc hol hod hov hoz ih2;have hj2:j < (wd b).length:=by omega
   have h2:=(Zx9 b).get hj2;have hij:i+j < o.length:=by omega
   have h3:=hod.get hij;unfold Zwf Ztz;dsimp only;rw[ZnV];refine⟨fun _=> ?_,fun h=>by simp only[decide_eq_false_iff_not]at h;omega⟩;rw[ZwY hj2,ZnE,ZnD,ZnH,ZnH,←ZLj,ZOM,ZCZ hij,ZnE,ZnD,ZnH,ZnH,ZnH,ZnH];generalize ey:(wd b)[j]=y at h2;generalize ee:o[i+j]=e at h3;rw[ZLs hc h1 h2 h3,ZxA,show (32:Int)=((32:Nat):Int)from rfl,ZCs 32 (by omega),Zn3,ZB8];refine⟨ZnI (by omega),Zo3 ⟨by omega,by omega⟩,ZnI (by omega),Zo3 ⟨by omega,by omega⟩,by decide,ZnI (by omega), ?_⟩;refine ih2 ((c+x*y+e) / Bw,o.set (i+j) ((c+x*y+e) % Bw)) ⟨ZIw hc h1 h2 h3,by simp[hol],hod.set _ (ZPl _ (by decide)), ?_,fun k hk hk2=> ?_⟩
   ·dsimp only;have q1:=ZCb o (i+j) ((c+x*y+e) % Bw) hij;rw[ee]at q1;have q2:Bw ^ (i+j)*((c+x*y+e) % Bw+Bw*((c+x*y+e) / Bw))=Bw ^ (i+j)*(c+x*y+e):=by rw[ZPj]
    rw[ZPm,ZPm,ZPm]at q2;rw[←Nat.add_assoc,ZPA,ZPn,ZoL hj2,ey,ZPm,ZPm];have q3:Bw ^ i*(x*(Bw ^ j*y))=Bw ^ (i+j)*(x*y):=by rw[ZPy,ZPn,ZPs x]
    omega
   ·dsimp only;rw[List.getElem?_set_ne (by omega)];exact hoz k hk hk2
  ·rintro rec2 ⟨c,o⟩ ⟨hc,hol,hod,hov,hoz⟩;dsimp only at hc hol hod hov hoz;unfold Zwf Ztz;dsimp only;rw[ZnV];refine⟨fun h=>by have:=of_decide_eq_true h;omega,fun _=> ?_⟩;rw[ZnD];rw[ZO4 (by omega),ZtJ]at hov;exact⟨c,o,rfl,hc,hol,hod,hov,hoz⟩
  ·rintro y ⟨c,o,rfl,hc,hol,hod,hov,hoz⟩;dsimp only;unfold Zxh;rw[Zn3,hn,ZnH,ZnH,ZnH,←ZLj,ZOM,Zx8 hc,ZB8,Zn3];refine⟨ZnI (by omega),Zo3 ⟨by omega,by omega⟩,ZnI (by omega), ?_⟩;have hp:i+n < o.length:=by omega
   have h0:o[i+n]=0:=by have:=hoz (i+n) (Nat.le_refl _) (by omega);rw[ZOP hp]at this;exact Option.some.inj this
   have q1:=ZCb o (i+n) c hp;rw[h0,ZPw,ZO8]at q1;refine ih (o.set (i+n) c) ⟨by simp[hol],hod.set _ hc, ?_,fun k hk hk2=> ?_⟩
   ·rw[q1,hov,hv,ZoL hi,ex,ZO5,ZPn]
   ·rw[List.getElem?_set_ne (by omega)];exact hoz k (by omega) hk2
 ·rintro rec s ⟨hl,hd,hv,hz⟩;unfold Zwg ZtA;dsimp only;rw[ZnV];refine⟨fun h=>by have:=of_decide_eq_true h;omega,fun _=> ?_⟩;rw[ZnD];rw[ZO4 (by omega),ZtJ]at hv;exact⟨s,rfl,hd,hl,hv⟩
 ·rintro y ⟨o,rfl,hd,hl,hv⟩;unfold Zxg;rw[ZCr hd (by omega),ZnE,ZnD,ZnD,hv]
theorem ZEV {c d s:Nat} (hs:s≤31) (hc:c < 2 ^ s) (hd:d < Bw):c|||(d*2 ^ s % Bw)=c+d*2 ^ s % Bw:=by
 have e:Bw=2 ^ (32 - s)*2 ^ s:=by rw[←ZPy,show 32 - s+s=32 by omega]
 rw[e,ZPu];have:=Nat.shiftLeft_add_eq_or_of_lt hc (d % 2 ^ (32 - s));rw[Nat.shiftLeft_eq]at this;rw[Nat.or_comm,←this,Nat.add_comm]
theorem ZJa {d s:Nat} (hs:s≤32) (hd:d < Bw):shlK .u64 (IntKind.wrap .u64 (d:Int)) (s:Int)=((d*2 ^ s:Nat):Int):=by
 have h2:2 ^ s≤2 ^ 32:=ZPz (by decide) hs;have h3:d*2 ^ s≤4294967295*4294967296:=ZPp (by simp only[Bw]at hd;omega) h2;unfold shlK;simp only[Bw]at hd;rw[ZoU (by omega),ZOM,show IntKind.bits .u64=64 from rfl,ZPi (by omega)];have e:(d:Int)*(2:Int) ^ s=((d*2 ^ s:Nat):Int):=by push_cast;rfl
 rw[e,ZoU (by omega)]
theorem ZEw (l:List Nat) (s:Nat) (hs:s≤31) (hl:l.length≤100000) (hd:Dg l):∃o:List Nat,Zp7 (iL l) (s:Int)=some (iL o)∧Dg o∧o.length=l.length+1∧val o=val l*2 ^ s:=by
 have:wp (Zp7 (iL l) (s:Int)) (fun y=>∃o:List Nat,y=iL o∧Dg o∧o.length=l.length+1∧val o=val l*2 ^ s):=by
  have h2:2 ^ s≤2 ^ 31:=ZPz (by decide) hs;unfold Zp7 Zwi;rw[Zn3,ZnH,ZnH,ZnE,show (l.length:Int)+1=((l.length+1:Nat):Int)from rfl,ZOM,ZEd];refine⟨ZnI (by omega),ZCB (by omega), ?_⟩;refine ZnM (Zwo ZA1 l.length (by omega) (fun i (t:List Nat×Nat)=>((s:Int),iL l,(l.length:Int),i,iL (t.1++t.2::ZO0 (l.length - t.1.length) 0))) (fun i t=>t.1.length=i∧t.2 < 2 ^ s∧Dg t.1∧val t.1+Bw ^ i*t.2=val (l.take i)*2 ^ s)
   (Q:=fun y=>∃o:List Nat,y=iL o∧Dg o∧o.length=l.length+1∧val o=val l*2 ^ s) ([],0) ⟨rfl,ZPD s,ZC3,by simp[val]⟩ ?_ ?_) ?_
  ·rintro rec i ⟨o,c⟩ hi ⟨hol,hc,hod,hv⟩ ih;dsimp only at hol hc hod hv ih;have h1:=hd.get hi;have hcB:c < Bw:=by simp only[Bw];omega
   unfold Zvk ZsD;dsimp only;rw[ZnV];refine⟨fun _=> ?_,fun h=>by simp only[decide_eq_false_iff_not]at h;omega⟩;rw[ZwY hi,ZnE,ZnD];generalize ex:l[i]=x at h1;have hlen:(o++c::ZO0 (l.length - o.length) 0).length=l.length+1:=by simp;omega
   have hg:(iL (o++c::ZO0 (l.length - o.length) 0))[i]? =some (c:Int):=by rw[ZCZ (by rw[hlen];omega)];congr 2;rw[ZOR (by omega)];simp[hol]
   rw[ZJa (by omega) h1,show (32:Int)=((32:Nat):Int)from rfl,ZCs 32 (by omega),ZxA];have hx2:x*2 ^ s / 2 ^ 32 < 2 ^ s:=(ZPb (by decide)).2 (by
    rw[ZPo (2 ^ s)];exact ZPt h1 (ZPD s))
   rw[Zx8 (by omega),ZOM,show ((i:Int)+1).toNat=i+1 by omega,hg];rw[ZnH,ZnH,ZnE,ZnD,ZnH,ZnH,ZnH,ZnH,ZnH,ZFg hcB (ZPl _ (by decide)),ZEV hs hc h1];have hsum:c+x*2 ^ s % Bw < Bw:=by
    have e:Bw=2 ^ (32 - s)*2 ^ s:=by rw[←ZPy,show 32 - s+s=32 by omega]
    have hm:x % 2 ^ (32 - s)+1≤2 ^ (32 - s):=ZPl _ (ZPD _);have:=ZPr (2 ^ s) hm;rw[ZO5,ZPx]at this;rw[e,ZPu];omega
   have es:((o++c::ZO0 (l.length - o.length) 0).set i (c+x*2 ^ s % Bw)).set (i+1) (x*2 ^ s / 2 ^ 32)=(o++[c+x*2 ^ s % Bw])++(x*2 ^ s / 2 ^ 32)::ZO0 (l.length - (o.length+1)) 0:=by rw[ZO1 _ _ (by omega),hol,ZPC,ZO2,ZO1 _ _ (by omega),hol,show i+1 - i=1 by omega,show l.length - i=(l.length - (i+1))+1 by omega,List.replicate_succ];simp
   rw[ZB8,ZB8,es];simp only[Zn3,ZOW,hlen];refine⟨by simp,Zo3 ⟨by omega,by omega⟩,Zo3 ⟨by omega,by omega⟩,ZnI (by omega),by decide,Zo3 ⟨by omega,by omega⟩,ZnI (by omega), ?_⟩;have:=ih (o++[c+x*2 ^ s % Bw],x*2 ^ s / 2 ^ 32) ⟨by simp[hol],hx2,hod.app (ZCn hsum), ?_⟩
   ·simp only[ZOT,ZOX]at this;exact this
   ·dsimp only;have q:Bw ^ i*(x*2 ^ s % Bw+Bw*(x*2 ^ s / 2 ^ 32))=Bw ^ i*(x*2 ^ s):=by have:=ZPj (x*2 ^ s) Bw;rw[show (2:Nat) ^ 32=Bw from rfl,this]
    rw[ZPm]at q;rw[Zyv,hol,ZPA,ZPn,ZoL hi,ex,ZPm,ZO5,ZPn (Bw ^ i) x];omega
  ·rintro rec ⟨o,c⟩ ⟨hol,hc,hod,hv⟩;dsimp only at hol hc hod hv;unfold Zvk ZsD;dsimp only;rw[ZnV];refine⟨fun h=>by have:=of_decide_eq_true h;omega,fun _=> ?_⟩;rw[ZnD];rw[List.take_length]at hv;refine⟨o++[c], ?_,hod.app (ZCn (by simp only[Bw];omega)),by simp[hol], ?_⟩
   ·rw[hol,ZPC];rfl
   ·rw[Zyv,hol];exact hv
  ·rintro y hy;exact ZnD.2 hy
 obtain⟨y,hy,o,rfl,h1,h2,h3⟩:=this;exact⟨o,hy,h1,h2,h3⟩
end Go.Proofs
namespace Go.Proofs
open Go Eng
theorem ZLA {B P u0 u1 u2 wl d1 d2 dl:Nat} (hdl:dl < P) (hd2:d2 < B) (h:((u0*B+u1)*B+u2)*P+wl < B*((d1*B+d2)*P+dl)):u0≤d1:=by
 rcases ZPg d1 u0 with hlt |hge
 ·exfalso;have h1:(d1+1)*(B*(B*P))≤u0*(B*(B*P)):=ZPr _ hlt;have h2:(d2+1)*P≤B*P:=ZPr _ hd2;rw[ZO5,ZPx]at h2;have h3:B*(d2*P+dl)≤B*(B*P):=ZPq _ (by omega);have e:B*(d1*(B*P))=d1*(B*(B*P)):=ZPs _ _ _;simp only[ZO5,ZPm,ZPn,ZPx]at h h1 h3;omega
 ·exact hge
theorem ZLz {B P u0 u1 u2 wl d1 d2 dl q:Nat} (hw:wl < P) (hu2:u2 < B) (h:q*((d1*B+d2)*P+dl)≤((u0*B+u1)*B+u2)*P+wl):q*d1≤u0*B+u1:=by
 rcases ZPg (u0*B+u1) (q*d1)with hlt |hge
 ·exfalso;have h1:(u0*B+u1+1)*(B*P)≤q*d1*(B*P):=ZPr _ hlt;have h2:(u2+1)*P≤B*P:=ZPr _ hu2;simp only[ZO5,ZPm,ZPn,ZPx]at h h1 h2;omega
 ·exact hge
theorem ZLy {B P u0 u1 u2 wl d1 d2 dl rest g:Nat} (hw:wl < P) (hr:rest+g*d1=u0*B+u1) (hg:rest*B+u2 < g*d2):((u0*B+u1)*B+u2)*P+wl < g*((d1*B+d2)*P+dl):=by
 rw[←hr];have h1:(rest*B+u2+1)*P≤g*d2*P:=ZPr _ hg;simp only[ZO5,ZPm,ZPn,ZPx]at h1⊢
 omega
theorem ZLx {B P u0 u1 u2 wl d1 d2 dl rest g:Nat} (hdl:dl < P) (hB:g < B) (h1:1≤d1) (hr:rest+g*d1=u0*B+u1) (hg:g*d2≤rest*B+u2):g*((d1*B+d2)*P+dl) < (((u0*B+u1)*B+u2)*P+wl)+((d1*B+d2)*P+dl):=by
 rw[←hr];have h2:g*d2*P≤(rest*B+u2)*P:=ZPr _ hg;have h3:g*dl≤g*P:=ZPq _ (Nat.le_of_lt hdl);have h4:(g+1)*P≤B*P:=ZPr _ hB;have h5:1*(B*P)≤d1*(B*P):=ZPr _ h1;simp only[ZO5,ZPm,ZPn,ZPx]at h2 h4 h5⊢
 omega
theorem rdw {pre w suf:List Nat} {k:Nat} (h:k < w.length):(iL (pre++(w++suf)))[pre.length+k]? =some (w[k]:Int):=by rw[ZCZ (by simp;omega)];congr 2;rw[ZOR (by omega)];simp only[Nat.add_sub_cancel_left];rw[List.getElem_append_left h]
theorem stw {pre w suf:List Nat} {k:Nat} (x:Nat) (h:k < w.length):(iL (pre++(w++suf))).set (pre.length+k) (x:Int)=iL (pre++(w.set k x++suf)):=by rw[ZB8,ZO1 _ _ (by omega),Nat.add_sub_cancel_left,List.set_append_left _ _ h]
theorem ZNj {l:List Nat} {m:Nat} (h:l.length=m+2):val l=(l[m+1]*Bw+l[m])*Bw ^ m+val (l.take m):=by have e:=ZBL (l:=l) (k:=m) (by omega);have e2:=ZBL (l:=l) (k:=m+1) (by omega);have h3:=ZoL (l:=l) (k:=m) (by omega);rw[List.drop_eq_nil_of_le (by omega)]at e2;simp only[val,ZPw,ZO8]at e2;rw[e2,h3,ZPA,ZO5,ZPo (l[m]),ZPo (Bw ^ m) Bw,ZPo (Bw*Bw ^ m),ZPn];omega
theorem top3 {l:List Nat} {m:Nat} (h:l.length=m+3):val l=((l[m+2]*Bw+l[m+1])*Bw+l[m])*Bw ^ m+val (l.take m):=by have e:val l=(l[m+2]*Bw+l[m+1])*Bw ^ (m+1)+val (l.take (m+1)):=ZNj (by omega);have h3:=ZoL (l:=l) (k:=m) (by omega);rw[e,h3,ZPA,ZPo (Bw ^ m) Bw,←ZPn,ZO5 ((l[m+2]*Bw+l[m+1])*Bw),ZPo (l[m])];omega
theorem ZJv {h l:Nat} (hh:h < 4294967296) (hl:l < 4294967296):orK .u64 (shlK .u64 (h:Int) 32) (IntKind.wrap .u64 (l:Int))=((h*4294967296+l:Nat):Int):=by
 have:=ZFl hh hl
 rwa [ZoU (by omega)]at this
theorem ZJr {x y:Nat} (hx:x < Bw) (hy:y < Bw):IntKind.wrap .u64 ((x:Int)*IntKind.wrap .u64 (y:Int))=((x*y:Nat):Int):=by have:=ZCW hx hy;rw[ZoU (by simp only[Bw]at hy;omega),←ZOL,ZoU (by omega)]
theorem ZH5 {pre w suf d:List Nat} {m:Nat} (hw:w.length=m+3) (hd:d.length=m+2) (hwd:Dg w) (hdd:Dg d) (h1:1≤d[m+1]) (hlt:val w < Bw*val d) (hm:m≤100000) {g r:Nat}
  (hg:g < Bw) (hq:val w / val d≤g) (hr:r+g*d[m+1]=w[m+2]*Bw+w[m+1]) (hr2:r < 2*Bw):
  wp (Zuq big pre.length (m+3) (iL d) ((m+2:Nat):Int) (g:Int) (r:Int) (iL (pre++(w++suf)))) (fun y=>∃g:Nat,y=(pre.length,m+3,iL d,((m+2:Nat):Int),(g:Int),iL (pre++(w++suf)))∧g < Bw∧val w / val d≤g∧g*val d < val w+val d):=by
 have hw0:=hwd.get (i:=m) (by omega);have hd2:=hdd.get (i:=m) (by omega);have hd1:=hdd.get (i:=m+1) (by omega);have hdl:val (d.take m) < Bw ^ m:=by have:=ZzF (hdd.take m);rwa [ZOY,ZPi (by omega)]at this
 have hwl:val (w.take m) < Bw ^ m:=by have:=ZzF (hwd.take m);rwa [ZOY,ZPi (by omega)]at this
 have eW:=top3 hw;have eD:=ZNj hd;have rd:(iL (pre++(w++suf)))[pre.length+m]? =some (w[m]:Int):=rdw (by omega);have rdd:idx (iL d) (m:Int)=some (d[m]:Int):=ZwY (by omega);have rdd1:idx (iL d) ((m+1:Nat):Int)=some (d[m+1]:Int):=ZwY (by omega);generalize d[m+1]=d1 at*
 generalize d[m]=d2 at*
 generalize w[m+2]=u0 at*
 generalize w[m+1]=u1 at*
 generalize w[m]=u2 at*
 have hDpos:0 < val d:=by rw[eD];have:1*1≤(d1*Bw+d2)*Bw ^ m:=ZPp (by simp only[Bw];omega) (Nat.pow_pos (by decide));omega
 have hdiv:∀g,val w < g*val d→val w / val d < g:=fun g h=>(ZPb hDpos).2 h
 generalize val w / val d=qq at*
 refine ZoV ZCK (fun(t:Nat×Nat)=>(pre.length,m+3,iL d,((m+2:Nat):Int),(t.1:Int),(t.2:Int),iL (pre++(w++suf)))) (fun t=>t.1 < Bw∧qq≤t.1∧t.2+t.1*d1=u0*Bw+u1∧t.2 < 2*Bw) (fun t=>t.1) (g,r) ⟨hg,hq,hr,hr2⟩ (by simp only[Bw]at hg;dsimp only;omega) ?_;rintro rec ⟨g,r⟩ ⟨hg,hq,hr,hr2⟩ ih;dsimp only at hg hq hr hr2 ih;unfold ZA6 Zzg;dsimp only;have e2:((m+2:Nat):Int) - 2=(m:Int):=by omega
 have e1:((m+2:Nat):Int) - 1=((m+1:Nat):Int):=by omega
 have fin:g*d2≤r*Bw+u2→wp (some (pre.length,m+3,iL d,((m+2:Nat):Int),(g:Int),iL (pre++(w++suf)))) (fun y=>∃g:Nat,y=(pre.length,m+3,iL d,((m+2:Nat):Int),(g:Int),iL (pre++(w++suf)))∧g < Bw∧qq≤g∧g*val d < val w+val d):=fun h=>by rw[ZnD];refine⟨g,rfl,hg,hq, ?_⟩;rw[eW,eD];exact ZLx hdl hg h1 hr h
 rw[ZnV];refine⟨fun h=> ?_,fun h=> ?_⟩
 ·have hrB:r < 4294967296:=by have:=of_decide_eq_true h;omega
  rw[e2,ZnH,rdd,ZnE,ZnD,ZnH,ZnH,ZnH,ZnE,ZOM,rd,ZnD,ZJr hg hd2,ZJv hrB hw0];refine⟨ZnI (by omega),by decide,ZnI (by omega),Zo3 ⟨by omega,by omega⟩, ?_⟩;unfold Zwm;rw[ZnV];refine⟨fun h=> ?_,fun h=> ?_⟩
  ·have hc:r*Bw+u2 < g*d2:=by have:=of_decide_eq_true h;simp only[Bw];omega
   have hlt2:val w < g*val d:=by rw[eW,eD];exact ZLy hwl hr hc
   have hqg:qq < g:=hdiv g hlt2;rw[e1,ZnH,rdd1,ZnE,ZnD];refine⟨ZnI (by omega), ?_⟩;have eg:IntKind.wrap .u64 ((g:Int) - 1)=((g - 1:Nat):Int):=by simp only[Bw]at hg;rw[show (g:Int) - 1=((g - 1:Nat):Int) by omega,ZoU (by omega)]
   have er:IntKind.wrap .u64 ((r:Int)+IntKind.wrap .u64 (d1:Int))=((r+d1:Nat):Int):=by simp only[Bw]at hd1;rw[ZoU (by omega),←ZLj,ZoU (by omega)]
   rw[eg,er];refine ih (g - 1,r+d1) ⟨by dsimp only;omega,by dsimp only;omega, ?_,by dsimp only;simp only[Bw]at hd1⊢;omega⟩ (by dsimp only;omega);dsimp only;rw[←hr,show g*d1=(g - 1+1)*d1 by rw[Nat.sub_add_cancel (by omega)],ZO5,ZPx];omega
  ·have hc:g*d2≤r*Bw+u2:=by have:=of_decide_eq_false h;simp only[Bw];omega
   exact fin hc
 ·have hrB:4294967296≤r:=by have:=of_decide_eq_false h;omega
  unfold Zwm;rw[cond_false];refine fin ?_;have h1:=ZCW hg hd2;have h2:4294967296*4294967296≤r*Bw:=ZPp hrB (Nat.le_refl _);omega
end Go.Proofs
namespace Go.Proofs
open Go Eng
abbrev ZIg (pre suf:List Nat) (W D m:Nat) (y:Int×List Int):Prop:=∃w':List Nat,y=(((W / D:Nat):Int),iL (pre++(w'++suf)))∧w'.length=m+3∧Dg w'∧val w'=W % D
theorem ZJO {pre w suf d:List Nat} {m W:Nat} (hw:w.length=m+3) (hd:d.length=m+2) (hwd:Dg w) (hdd:Dg d) (hm:m≤100000) {g:Nat} (hg:g < Bw)
  (hg1:W < g*val d) (hg2:g*val d < W+val d) (hv:val w+g*val d=W+Bw ^ (m+3)):
  wp ((Zwl big pre.length (m+3) ((m+2:Nat):Int) (g:Int) (0:Int) (iL d) (d.length:Int) (0:Int) (iL (pre++(w++suf)))).bind fun(x0,x1,x2,x3,x4,x5)=>Zx5 x0 x1 x2 x3 x4 x5) (ZIg pre suf W (val d) m):=by
 rw[ZnE,hd];have hDpos:0 < val d:=by omega
 refine ZnM (Zwo ZCI (m+2) (by omega) (fun i (t:Nat×List Nat)=>(pre.length,m+3,((m+2:Nat):Int),(g:Int),(t.1:Int),iL d,((m+2:Nat):Int),i,iL (pre++(t.2++suf)))) (fun i t=>t.1≤1∧t.2.length=m+3∧Dg t.2∧val t.2+Bw ^ i*t.1=val w+val (d.take i))
  (Q:=fun y=>∃(a:Nat) (w2:List Nat),y=(pre.length,m+3,((m+2:Nat):Int),(g:Int),(a:Int),iL (pre++(w2++suf)))∧a≤1∧w2.length=m+3∧Dg w2∧val w2+Bw ^ (m+2)*a=val w+val d) (0,w) ⟨by simp,hw,hwd,by simp[val]⟩ ?_ ?_) ?_
 ·rintro rec i ⟨a,o⟩ hi ⟨ha,hol,hod,hv⟩ ih;dsimp only at ha hol hod hv ih;have hi1:i < o.length:=by omega
  have hi2:i < d.length:=by omega
  have h1:=hod.get hi1;have h2:=hdd.get hi2;unfold Zze ZwU;dsimp only;rw[ZnV];refine⟨fun _=> ?_,fun h=>by have:=of_decide_eq_false h;omega⟩;rw[ZwY hi2,ZnE,ZnD,ZnH,ZnE,ZOM,rdw hi1,ZnD,ZL7 h1 h2 ha,ZnE,ZnD];dsimp only;rw[ZnH,ZnH,stw _ hi1];refine⟨Zo3 ⟨by omega,by omega⟩,Zo3 ⟨by omega,by omega⟩,ZnI (by omega), ?_⟩;generalize ex:d[i]=x at h2;generalize ee:o[i]=e at h1;refine ih ((e+x+a) / 4294967296,o.set i ((e+x+a) % 4294967296)) ⟨by simp only[Bw]at h1 h2;dsimp only;omega,by simp[hol],hod.set _ (ZPl _ (by decide)), ?_⟩;dsimp only;have q1:=ZCb o i ((e+x+a) % 4294967296) hi1;rw[ee]at q1;have q2:Bw ^ i*((e+x+a) % 4294967296+Bw*((e+x+a) / 4294967296))=Bw ^ i*(e+x+a):=by rw[ZPj]
  rw[ZPm,ZPm,ZPm]at q2;rw[ZPA,ZPn,ZoL hi2,ex];omega
 ·rintro rec ⟨a,o⟩ ⟨ha,hol,hod,hv⟩;dsimp only at ha hol hod hv;unfold Zze ZwU;dsimp only;rw[ZnV];refine⟨fun h=>by have:=of_decide_eq_true h;omega,fun _=> ?_⟩;rw[ZnD];rw[ZO4 (by omega)]at hv;exact⟨a,o,rfl,ha,hol,hod,hv⟩
 ·rintro y ⟨a,o,rfl,ha,hol,hod,hov⟩;dsimp only;have hi1:m+2 < o.length:=by omega
  have h1:=hod.get hi1;unfold Zx5;rw[ZnH,ZnE,ZOM,rdw hi1,ZnD,ZnH];generalize ee:o[m+2]=e at h1;have ew:IntKind.wrap .u32 ((e:Int)+(a:Int))=(((e+a) % 4294967296:Nat):Int):=by rw[←ZLj,ZxA]
  have hgp:1≤g:=by
   rcases ZPc g with h |h
   ·rw[h,Nat.zero_mul]at hg1;omega
   ·exact h
  have eg:IntKind.wrap .u32 (IntKind.wrap .u64 ((g:Int) - 1))=((g - 1:Nat):Int):=by simp only[Bw]at hg;rw[show (g:Int) - 1=((g - 1:Nat):Int) by omega,ZoU (by omega),Zx8 (by omega)]
  rw[ew,eg,stw _ hi1,ZnD];refine⟨Zo3 ⟨by omega,by omega⟩,Zo3 ⟨by omega,by omega⟩, ?_⟩;have q1:=ZCb o (m+2) ((e+a) % 4294967296) hi1;rw[ee]at q1;have q2:Bw ^ (m+2)*((e+a) % 4294967296+Bw*((e+a) / 4294967296))=Bw ^ (m+2)*(e+a):=by rw[ZPj]
  rw[ZPm,ZPm,←ZPn,←ZPA]at q2;have hdn:Dg (o.set (m+2) ((e+a) % 4294967296)):=hod.set _ (ZPl _ (by decide));have hlt:=ZzF hdn;rw[ZOW,hol]at hlt;have hco:(e+a) / 4294967296≤1:=by simp only[Bw]at h1;omega
  have hpw:Bw ^ (m+2+1)=Bw ^ (m+3):=rfl;rw[hpw]at q2;have egD:g*val d=(g - 1)*val d+val d:=by rw[show g*val d=(g - 1+1)*val d by rw[Nat.sub_add_cancel hgp],ZO5,ZPx]
  have key:val (o.set (m+2) ((e+a) % 4294967296))+(g - 1)*val d=W:=by
   rcases ZPc ((e+a) / 4294967296)with hz |hz
   ·rw[hz,ZPw]at q2;omega
   ·rw[show (e+a) / 4294967296=1 by omega,ZPv]at q2;omega
  have hl3:(o.set (m+2) ((e+a) % 4294967296)).length=m+3:=by rw[ZOW,hol]
  generalize o.set (m+2) ((e+a) % 4294967296)=w3 at*
  have hlt3:val w3 < val d:=by omega
  have eq1:W / val d=g - 1:=by rw[←key,ZO6 _ _ hDpos,ZPa hlt3,ZPF]
  have eq2:W % val d=val w3:=by rw[←key,ZO7,ZPk hlt3]
  exact⟨w3,by rw[eq1],hl3,hdn,eq2.symm⟩
theorem ZI2 {pre w suf d:List Nat} {m:Nat} (hw:w.length=m+3) (hd:d.length=m+2) (hwd:Dg w) (hdd:Dg d) (hm:m≤100000) {g:Nat} (hg:g < Bw)
  (hDpos:0 < val d) (hq:val w / val d≤g) (hg2:g*val d < val w+val d):
  wp (Zx6 pre.length (m+3) (iL d) ((m+2:Nat):Int) (g:Int) (iL (pre++(w++suf)))) (ZIg pre suf (val w) (val d) m):=by
 unfold Zx6;rw[ZnE,Zn3,hd];refine ZnM (Zwo ZCJ (m+2) (by omega) (fun i (t:Nat×Nat×List Nat)=>(pre.length,m+3,iL d,((m+2:Nat):Int),(g:Int),(t.1:Int),(t.2.1:Int),iL d,((m+2:Nat):Int),i,iL (pre++(t.2.2++suf)))) (fun i t=>t.1≤1∧t.2.1 < Bw∧t.2.2.length=m+3∧Dg t.2.2∧val t.2.2+g*val (d.take i)=val w+Bw ^ i*(t.1+t.2.1))
  (Q:=fun y=>∃(b c:Nat) (w2:List Nat),y=(pre.length,m+3,iL d,((m+2:Nat):Int),(g:Int),(b:Int),(c:Int),iL (pre++(w2++suf)))∧b≤1∧c < Bw∧w2.length=m+3∧Dg w2∧val w2+g*val d=val w+Bw ^ (m+2)*(b+c)) (0,0,w) ⟨by simp,by simp,hw,hwd,by simp[val]⟩ ?_ ?_) ?_
 ·rintro rec i ⟨b,c,o⟩ hi ⟨hb,hc,hol,hod,hv⟩ ih;dsimp only at hb hc hol hod hv ih;have hi1:i < o.length:=by omega
  have hi2:i < d.length:=by omega
  have h1:=hod.get hi1;have h2:=hdd.get hi2;unfold Zzf ZwV;dsimp only;rw[ZnV];refine⟨fun _=> ?_,fun h=>by have:=of_decide_eq_false h;omega⟩;rw[ZwY hi2,ZnE,ZnD,ZnH,ZnE,ZOM,rdw hi1,ZnD];generalize ex:d[i]=x at h2;generalize ee:o[i]=e at h1;have hbd:=ZCW hg h2;have es:IntKind.wrap .u64 ((c:Int)+((g*x:Nat):Int))=((c+g*x:Nat):Int):=by simp only[Bw]at hc;rw[←ZLj,ZoU (by omega)]
  rw[ZJr hg h2,es,ZxA,ZI7 h1 (ZPl _ (by decide)) hb,ZnE,ZnD];dsimp only;rw[ZnH,ZnH,ZnH,stw _ hi1,show (32:Int)=((32:Nat):Int)from rfl,ZCs 32 (by omega)];refine⟨Zo3 ⟨by omega,by omega⟩,Zo3 ⟨by omega,by omega⟩,by decide,ZnI (by omega), ?_⟩;have hlo:(c+g*x) % 4294967296 < 4294967296:=ZPl _ (by decide);have hhi:(c+g*x) / 2 ^ 32 < Bw:=by simp only[Bw]at hc⊢;omega
  have hs:(c+g*x) % 4294967296+Bw*((c+g*x) / 2 ^ 32)=c+g*x:=ZPj _ _;generalize (c+g*x) % 4294967296=lo at*
  generalize (c+g*x) / 2 ^ 32=hi' at*
  refine ih ((if e < lo+b then 1 else 0),hi',o.set i ((e+4294967296 - lo - b) % 4294967296)) ⟨by dsimp only;split<;>omega,hhi,by simp[hol],hod.set _ (ZPl _ (by decide)), ?_⟩;dsimp only;have q1:=ZCb o i ((e+4294967296 - lo - b) % 4294967296) hi1;rw[ee]at q1;have e1:e+Bw*(if e < lo+b then 1 else 0)=(e+4294967296 - lo - b) % 4294967296+lo+b:=by simp only[Bw]at h1⊢;split<;>omega
  have q2:Bw ^ i*(e+Bw*(if e < lo+b then 1 else 0))=Bw ^ i*((e+4294967296 - lo - b) % 4294967296+lo+b):=by rw[e1]
  have q3:Bw ^ i*(lo+Bw*hi')=Bw ^ i*(c+g*x):=by rw[hs]
  have q4:g*(Bw ^ i*x)=Bw ^ i*(g*x):=ZPs _ _ _;rw[ZPm,ZPm,ZPm]at q2;rw[ZPm,ZPm]at q3;rw[ZPm]at hv;rw[ZPA,ZPn,ZoL hi2,ex,ZPm,ZPm Bw,ZPm];omega
 ·rintro rec ⟨b,c,o⟩ ⟨hb,hc,hol,hod,hv⟩;dsimp only at hb hc hol hod hv;unfold Zzf ZwV;dsimp only;rw[ZnV];refine⟨fun h=>by have:=of_decide_eq_true h;omega,fun _=> ?_⟩;rw[ZnD];rw[ZO4 (by omega)]at hv;exact⟨b,c,o,rfl,hb,hc,hol,hod,hv⟩
 ·rintro y ⟨b,c,o,rfl,hb,hc,hol,hod,hv⟩;dsimp only;have hi1:m+2 < o.length:=by omega
  have h1:=hod.get hi1;unfold Zz3;rw[ZnH,ZnE,ZOM,rdw hi1,ZnD,Zx8 hc];generalize ee:o[m+2]=e at h1;rw[ZI7 h1 hc hb,ZnE,ZnD];dsimp only;rw[ZnH,stw _ hi1,Zx8 hg];refine⟨Zo3 ⟨by omega,by omega⟩,Zo3 ⟨by omega,by omega⟩, ?_⟩;have q1:=ZCb o (m+2) ((e+4294967296 - c - b) % 4294967296) hi1;rw[ee]at q1;have e1:e+Bw*(if e < c+b then 1 else 0)=(e+4294967296 - c - b) % 4294967296+c+b:=by simp only[Bw]at h1 hc⊢;split<;>omega
  have q2:Bw ^ (m+2)*(e+Bw*(if e < c+b then 1 else 0))=Bw ^ (m+2)*((e+4294967296 - c - b) % 4294967296+c+b):=by rw[e1]
  rw[ZPm,ZPm,ZPm,←ZPn,←ZPA]at q2;rw[ZPm]at hv;have hpw:Bw ^ (m+2+1)=Bw ^ (m+3):=rfl;rw[hpw]at q2;have hdn:Dg (o.set (m+2) ((e+4294967296 - c - b) % 4294967296)):=hod.set _ (ZPl _ (by decide));have hlt:=ZzF hdn;rw[ZOW,hol]at hlt;have hl3:(o.set (m+2) ((e+4294967296 - c - b) % 4294967296)).length=m+3:=by rw[ZOW,hol]
  generalize o.set (m+2) ((e+4294967296 - c - b) % 4294967296)=w3 at*
  generalize (e+4294967296 - c - b) % 4294967296=dd at*
  by_cases hcc:e < c+b
  ·rw[if_pos hcc]at q2⊢
   rw[show (((1:Nat):Int) == 0)=false from rfl,cond_false];rw[Zn3 d];exact ZJO (pre:=pre) (suf:=suf) hl3 hd hdn hdd hm hg (by omega) hg2 (by omega)
  ·rw[if_neg hcc]at q2⊢
   rw[show (((0:Nat):Int) == 0)=true from rfl,cond_true,ZnD];have key:val w3+g*val d=val w:=by omega
   have hlt3:val w3 < val d:=by have h5:(val w / val d)*val d≤g*val d:=ZPr _ hq;have h6:=ZO9 (val w) (val d);have h7:=ZPl (val w) hDpos;rw[ZPo]at h6;omega
   have eq1:val w / val d=g:=by rw[←key,ZO6 _ _ hDpos,ZPa hlt3,ZPF]
   have eq2:val w % val d=val w3:=by rw[←key,ZO7,ZPk hlt3]
   exact⟨w3,by rw[eq1],hl3,hdn,eq2.symm⟩
theorem ZIc {pre w suf d:List Nat} {m:Nat} (hw:w.length=m+3) (hd:d.length=m+2) (hwd:Dg w) (hdd:Dg d) (hm:m≤100000) (h1:1≤d[m+1]) (hlt:val w < Bw*val d):
  wp (ZyJ (iL (pre++(w++suf))) pre.length (m+3) (iL d)) (ZIg pre suf (val w) (val d) m):=by
 have hd1:=hdd.get (i:=m+1) (by omega);have hd2:=hdd.get (i:=m) (by omega);have h_u0:=hwd.get (i:=m+2) (by omega);have h_u1:=hwd.get (i:=m+1) (by omega);have h_u2:=hwd.get (i:=m) (by omega);have hdl:val (d.take m) < Bw ^ m:=by have:=ZzF (hdd.take m);rwa [ZOY,ZPi (by omega)]at this
 have hwl:val (w.take m) < Bw ^ m:=by have:=ZzF (hwd.take m);rwa [ZOY,ZPi (by omega)]at this
 have eW:=top3 hw;have eD:=ZNj hd;have hDpos:0 < val d:=by rw[eD];have:1*1≤(d[m+1]*Bw+d[m])*Bw ^ m:=ZPp (by simp only[Bw];omega) (Nat.pow_pos (by decide));omega
 have hk1:w[m+2]≤d[m+1]:=ZLA hdl hd2 (by rw[←eW,←eD];exact hlt);have hk2:(val w / val d)*d[m+1]≤w[m+2]*Bw+w[m+1]:=ZLz hwl h_u2 (by rw[←eW,←eD];exact Nat.div_mul_le_self _ _);have hqB:val w / val d < Bw:=(ZPb hDpos).2 hlt;have hG:∃g:Nat,(if (4294967295:Int) < (IntKind.wrap .u64 (Int.tdiv (orK .u64 (shlK .u64 (IntKind.wrap .u64 (w[m+2]:Int)) 32) (IntKind.wrap .u64 (w[m+1]:Int))) (IntKind.wrap .u64 (d[m+1]:Int))))then (4294967295:Int)else (IntKind.wrap .u64 (Int.tdiv (orK .u64 (shlK .u64 (IntKind.wrap .u64 (w[m+2]:Int)) 32) (IntKind.wrap .u64 (w[m+1]:Int))) (IntKind.wrap .u64 (d[m+1]:Int)))))=(g:Int)∧g < Bw∧val w / val d≤g∧g*d[m+1]≤w[m+2]*Bw+w[m+1]∧w[m+2]*Bw+w[m+1] < g*d[m+1]+2*Bw:=by
  rw[ZFl h_u0 h_u1,ZoU (by simp only[Bw]at hd1;omega)];have e1:Int.tdiv ((w[m+2]*4294967296+w[m+1]:Nat):Int) (d[m+1]:Int)=(((w[m+2]*4294967296+w[m+1]) / d[m+1]:Nat):Int):=by rw[Int.tdiv_eq_ediv_of_nonneg (by omega)];norm_cast
  have hnum:w[m+2]*4294967296+w[m+1] < 18446744073709551616:=by simp only[Bw]at h_u0 h_u1;omega
  have hle:(w[m+2]*4294967296+w[m+1]) / d[m+1]≤w[m+2]*4294967296+w[m+1]:=Nat.div_le_self _ _;rw[e1,ZoU (by omega)];have hq2:val w / val d≤(w[m+2]*4294967296+w[m+1]) / d[m+1]:=(Nat.le_div_iff_mul_le (by omega)).2 hk2;have hdm:=ZO9 (w[m+2]*4294967296+w[m+1]) d[m+1];have hml:=ZPl (w[m+2]*4294967296+w[m+1]) (show 0 < d[m+1] by omega);rw[ZPo]at hdm;generalize (w[m+2]*4294967296+w[m+1]) / d[m+1]=q0 at*
  generalize (w[m+2]*4294967296+w[m+1]) % d[m+1]=r0 at*
  generalize val w / val d=qq at*
  by_cases hc:4294967295 < q0
  ·refine⟨4294967295,by rw[if_pos (by omega)];rfl,by simp only[Bw];omega,by simp only[Bw]at hqB;omega, ?_, ?_⟩
   ·have:=ZPr d[m+1] (show 4294967295≤q0 by omega);simp only[Bw];omega
   ·simp only[Bw]at*
    omega
  ·refine⟨q0,by rw[if_neg (by omega)],by simp only[Bw];omega,hq2, ?_, ?_⟩
   ·simp only[Bw];omega
   ·simp only[Bw]at*
    omega
 have h2:wp (ZzZ (iL (pre++(w++suf))) pre.length (m+3) (iL d)) (ZIg pre suf (val w) (val d) m):=by
  obtain⟨g,hg,hgB,hgq,hgd,hgr⟩:=hG;have e1:((m+2:Nat):Int) - 1=((m+1:Nat):Int):=by omega
  unfold ZzZ;rw[Zn3,hd,e1,ZOM,ZOM,rdw (by omega),rdw (by omega),ZwY (by omega)];rw[ZnH,ZnE,ZnD,ZnH,ZnH,ZnH,ZnE,ZnD,ZnH,ZnE,ZnD,ZnH,ZnH,ZnE,ZnD,hg,ZFl h_u0 h_u1,ZJr hgB hd1,ZnE];have er:IntKind.wrap .u64 (((w[m+2]*4294967296+w[m+1]:Nat):Int) - ((g*d[m+1]:Nat):Int))=((w[m+2]*4294967296+w[m+1] - g*d[m+1]:Nat):Int):=by simp only[Bw]at hgd hgr;rw[←Int.ofNat_sub hgd,ZoU (by omega)]
  rw[er];refine⟨Zo3 ⟨by omega,by omega⟩,by decide,ZnI (by omega),Zo3 ⟨by omega,by omega⟩,ZnI (by omega),decide_eq_true (by rw[ZoU (by simp only[Bw]at hd1;omega)];omega),ZnI (by omega), ?_⟩;refine ZnM (ZH5 hw hd hwd hdd h1 hlt hm hgB hgq (by simp only[Bw]at hgd⊢;omega) (by simp only[Bw]at hgr⊢;omega)) ?_;rintro y ⟨g',rfl,h3,h4,h5⟩;exact ZI2 hw hd hwd hdd hm h3 hDpos h4 h5
 unfold ZyJ;rw[ZnE];refine ZnM h2 ?_;rintro y ⟨w',rfl,h3,h4,h5⟩;rw[ZnH,ZnD];refine⟨?_,w',rfl,h3,h4,h5⟩;dsimp only;rw[Zn3,Zn3];simp[h3,hw]
end Go.Proofs
namespace Go.Proofs
open Go Eng
theorem ZId (l:List Nat) (h:l.length≤1000000):Zo2 (iL l)=some (iL l):=by
 cases l with
 |nil=>
  have e1:ZnT [] true=some []:=rfl;have e2:ZnT [] false=some []:=by kernel_rfl
  show agree (ZnT [] true) (ZnT [] false)=some [];rw[e1,e2,ZGu]
 |cons x l=>
  show ZnT (iL (x::l)) false=_;unfold ZnT;rw[cond_false,Zvm (by rw[Zn3,List.length_nil];omega),chk_true];rfl
theorem ZDM {l:List Nat} {k:Nat} (h:val l < Bw ^ k):val (l.take k)=val l:=by
 rcases ZPg k l.length with hk |hk
 ·have e:val l=val (l.take k++l.drop k):=by rw[ZO3]
  rw[ZCc,ZOY,ZPi (by omega)]at e;rcases ZPc (val (l.drop k))with hz |hz
  ·rw[hz,ZPw,ZO8]at e;exact e.symm
  ·have:=ZPq (Bw ^ k) hz;omega
 ·rw[ZO4 hk]
theorem ZNi (u:List Nat) (k:Nat) (hk:k≤u.length) (hk2:k≤1000000):∃k',k'≤k∧val (u.take k')=val (u.take k)∧Zws (iL u) 0 k=some (0,k',iL u):=by
 have h:wp (Zxu (iL u) 0 k) (fun y=>∃k',k'≤k∧val (u.take k')=val (u.take k)∧y=(0,k',iL u)):=by
  unfold Zxu Zx3;rw[ZnE];refine ZnM (ZoV ZB4 (fun(j:Nat)=>(0,j,iL u)) (fun j=>j≤k∧val (u.take j)=val (u.take k)) (fun j=>j) (Q:=fun y=>∃k',k'≤k∧val (u.take k')=val (u.take k)∧y=(0,k',iL u)) k ⟨Nat.le_refl _,rfl⟩ (by omega) ?_) (fun y hy=>ZnD.2 hy);rintro rec j ⟨hj,hv⟩ ih;unfold ZzX Zxk ZvR;dsimp only;cases j with
  |zero=>exact ZnD.2 ⟨0,hj,hv,rfl⟩
  |succ j=>
   have hju:j < u.length:=by omega
   have e1:((j+1:Nat):Int) - 1=(j:Int):=by omega
   rw[ZnV];refine⟨fun _=> ?_,fun h=>by have:=of_decide_eq_false h;omega⟩;rw[e1,ZOM,ZPF,ZnH,ZnH,ZCZ hju,ZnE,ZnD,ZnV];refine⟨ZnI (by omega),Zo3 ⟨by omega,by omega⟩,fun h=> ?_,fun h=> ?_⟩
   ·have h0:u[j]=0:=by have:=eq_of_beq h;omega
    rw[ZnH,ZnH];refine⟨ZnI (by omega),ZAT ⟨by omega,by omega,by omega⟩,ih j ⟨by omega, ?_⟩ (by omega)⟩;rw[←hv,ZoL hju,h0,ZPw,ZO8]
   ·exact ZnD.2 ⟨j+1,hj,hv,rfl⟩
 obtain⟨y,hy,k',h1,h2,rfl⟩:=h;refine⟨k',h1,h2, ?_⟩;unfold Zws;rw[hy,ZPG];simp
theorem ZGJ {x y s:Nat} (hs:s≤31) (hx:x < Bw) (hy:y < Bw):((y*4294967296+x) / 2 ^ s % 4294967296)*2 ^ s+x % 2 ^ s=x+Bw*(y % 2 ^ s):=by
 have e:(4294967296:Nat)=2 ^ (32 - s)*2 ^ s:=by rw[←ZPy,show 32 - s+s=32 by omega]
 have hp:=ZPD s;have h1:=ZO9 x (2 ^ s);have h2:=ZO9 y (2 ^ s);have hx2:x / 2 ^ s < 2 ^ (32 - s):=(ZPb hp).2 (by rw[←e];exact hx);have hy2:=ZPl y hp;have e1:(y*4294967296+x) / 2 ^ s=y*2 ^ (32 - s)+x / 2 ^ s:=by rw[e,←ZPn,Nat.add_comm,ZO6 _ _ hp,Nat.add_comm]
 have e2:y*2 ^ (32 - s)+x / 2 ^ s=(y % 2 ^ s)*2 ^ (32 - s)+x / 2 ^ s+4294967296*(y / 2 ^ s):=by
  rw[e];have:y*2 ^ (32 - s)=(2 ^ s*(y / 2 ^ s)+y % 2 ^ s)*2 ^ (32 - s):=by rw[h2]
  rw[this,ZO5,ZPo (2 ^ s),ZPo (2 ^ (32 - s)),ZPn (y / 2 ^ s),ZPo (y / 2 ^ s)];omega
 have hlt:(y % 2 ^ s)*2 ^ (32 - s)+x / 2 ^ s < 4294967296:=by have:=ZPr (2 ^ (32 - s)) (show y % 2 ^ s+1≤2 ^ s from hy2);rw[ZO5,ZPx,ZPo (2 ^ s),←e]at this;omega
 rw[e1,e2,Nat.add_mul_mod_self_left,ZPk hlt,ZO5,ZPn,←e,ZPo (x / 2 ^ s),ZPo (y % 2 ^ s)];simp only[Bw];omega
theorem ZLc {u:List Nat} {k s R:Nat} (q:List Int) (hs:s≤31) (hd:Dg u) (hk:k≤u.length) (hk2:k≤1000000) (hv:val (u.take k)=R*2 ^ s):
  wp (ZsV big (s:Int) 0 k ((k:Nat):Int) (0:Int) q (iL u)) (fun y=>∃(o:List Nat),y=(0,k,q,iL (o++u.drop k))∧o.length=k∧Dg o∧val o=R):=by
 refine Zwo ZBR k (by omega) (fun i (o:List Nat)=>((s:Int),0,k,(k:Int),i,q,iL (o++u.drop o.length))) (fun i o=>o.length=i∧Dg o∧val o*2 ^ s+(if 0 < k then u.getD 0 0 else 0) % 2 ^ s=val (u.take i)+Bw ^ i*((if i < k then u.getD i 0 else 0) % 2 ^ s)) [] ⟨rfl,ZC3,by simp[val]⟩ ?_ ?_
 ·rintro rec i o hi ⟨hol,hod,hov⟩ ih;have hiu:i < u.length:=by omega
  have h1:=hd.get hiu;unfold ZwL Zt0;dsimp only;rw[ZnV];refine⟨fun _=> ?_,fun h=>by have:=of_decide_eq_false h;omega⟩;have hlen:(o++u.drop o.length).length=u.length:=by simp;omega
  have gx:(iL (o++u.drop o.length))[i]? =some (u[i]:Int):=by rw[ZCZ (by omega)];congr 2;rw[ZOR (by omega)];simp[hol]
  obtain⟨y,hy,hyB,hye⟩:∃y:Nat,ZvP (iL (o++u.drop o.length)) 0 k ((i:Int)+1)=some ((y:Int),iL (o++u.drop o.length))∧y < Bw∧y=(if i+1 < k then u.getD (i+1) 0 else 0):=by
   unfold ZvP Zzc
   by_cases hc:i+1 < k
   ·have hiu2:i+1 < u.length:=by omega
    have gy:(iL (o++u.drop o.length))[i+1]? =some (u[i+1]:Int):=by rw[ZCZ (by omega)];congr 2;rw[ZOR (by omega)];simp[hol]
    refine⟨u[i+1], ?_,hd.get hiu2, ?_⟩
    ·rw[decide_eq_true (by omega),cond_true,Zo3 ⟨by omega,by omega⟩,chk_true,ZPF,show ((i:Int)+1).toNat=i+1 by omega,gy];simp
    ·rw[if_pos hc,ZOO,ZOP hiu2];rfl
   ·refine⟨0, ?_,by decide,by rw[if_neg hc]⟩;rw[decide_eq_false (by omega),cond_false];simp
  rw[hy,ZnH,ZnE,ZnD];dsimp only;rw[ZOM,ZPF,gx,ZnH,ZnH,ZnE,ZnD,ZnH,ZnH,ZnH,ZFl hyB h1,ZCs s (by omega),ZxA];refine⟨ZnI (by omega),by decide,Zo3 ⟨by omega,by omega⟩,by simp,Zo3 ⟨by omega,by omega⟩,ZnI (by omega), ?_⟩;generalize ez:(y*4294967296+u[i]) / 2 ^ s % 4294967296=z;have hz:z < Bw:=by rw[←ez];exact ZPl _ (by decide)
  have es:(iL (o++u.drop o.length)).set i (z:Int)=iL ((o++[z])++u.drop (o++[z]).length):=by rw[ZB8,ZO1 _ _ (by omega),hol,ZPC,←ZOS (h:=hiu),ZO2];simp[hol]
  rw[es];refine ih (o++[z]) ⟨by simp[hol],hod.app (ZCn hz), ?_⟩;have hd1:=ZGJ hs h1 hyB;rw[ez]at hd1;have q1:Bw ^ i*(z*2 ^ s+u[i] % 2 ^ s)=Bw ^ i*(u[i]+Bw*(y % 2 ^ s)):=by rw[hd1]
  have eg:u.getD i 0=u[i]:=by rw[ZOO,ZOP hiu];rfl
  rw[if_pos hi,eg]at hov;rw[ZPm,ZPm]at q1;rw[Zyv,hol,ZoL hiu,←hye,ZPA,ZO5,ZPn,ZPn];omega
 ·rintro rec o ⟨hol,hod,hov⟩;unfold ZwL Zt0;dsimp only;rw[ZnV];refine⟨fun h=>by have:=of_decide_eq_true h;omega,fun _=> ?_⟩;rw[ZnD];refine⟨o,by rw[hol],hol,hod, ?_⟩;rw[if_neg (Nat.lt_irrefl _),Nat.zero_mod,ZPw,ZO8,hv]at hov;have hp:=ZPD s;have:(val o*2 ^ s+(if 0 < k then u.getD 0 0 else 0) % 2 ^ s) / 2 ^ s=R*2 ^ s / 2 ^ s:=by rw[hov]
  rw[Nat.add_comm,ZO6 _ _ hp,ZPa (ZPl _ hp),Nat.mul_div_cancel _ hp]at this;omega
theorem ZGm {x s:Nat} (hs:s≤31) (h:x*2 ^ s < 4294967296):(x+1)*2 ^ s≤4294967296:=by
 have e:(4294967296:Nat)=2 ^ (32 - s)*2 ^ s:=by rw[←ZPy,show 32 - s+s=32 by omega]
 rw[e]at h⊢
 exact ZPr _ (Nat.lt_of_mul_lt_mul_right h)
theorem ZHI {d u:List Nat} {m K s U:Nat} (hd:d.length=m+2) (hdd:Dg d) (h1:1≤d[m+1]) (hu:u.length=K+m+2) (hud:Dg u) (hU:val u=U) (hlt:U < Bw ^ K*val d) (hK:K≤100000) (hm:m≤100000):
  wp (ZsW big ((m+2:Nat):Int) (s:Int) (iL d) ((K:Int) - 1) (iL u) (iL (ZO0 K 0))) (fun y=>∃u' qs:List Nat,y=(((m+2:Nat):Int),(s:Int),iL u',iL qs)∧u'.length=K+m+2∧Dg u'∧qs.length=K∧Dg qs∧val u'+val qs*val d=U∧val u' < val d):=by
 rw[show iL (ZO0 K 0)=iL (ZO0 (K - ([]:List Nat).length) 0++[]) by simp];have hDlt:=ZzF hdd;rw[hd]at hDlt;refine ZDz ZBS K (by omega) (fun i (t:List Nat×List Nat)=>(((m+2:Nat):Int),(s:Int),iL d,i,iL t.1,iL (ZO0 (K - t.2.length) 0++t.2))) (fun k t=>t.1.length=K+m+2∧Dg t.1∧t.2.length+k=K∧Dg t.2∧val t.1+Bw ^ k*(val t.2*val d)=U∧val t.1 < Bw ^ k*val d) (u,[]) ⟨hu,hud,by simp,ZC3,by simp[val,hU],by rw[hU];exact hlt⟩ ?_ ?_
 ·rintro rec k ⟨v,qs⟩ hk ⟨hvl,hvd,hql,hqd,hv,hvlt⟩ ih;dsimp only at hvl hvd hql hqd hv hvlt ih;unfold ZwM Zt1;dsimp only;have hwl:((v.drop k).take (m+3)).length=m+3:=by simp;omega
  have hpl:(v.take k).length=k:=by simp;omega
  have esplit:v=v.take k++((v.drop k).take (m+3)++v.drop (k+(m+3))):=by rw[←List.drop_drop,ZO3,ZO3]
  have hvs:val v=val (v.take k)+Bw ^ k*(val ((v.drop k).take (m+3))+Bw ^ (m+3)*val (v.drop (k+(m+3)))):=by
   have:val v=val (v.take k++((v.drop k).take (m+3)++v.drop (k+(m+3)))):=by rw[←esplit]
   rw[this,ZCc,ZCc,hpl,hwl]
  have hpd:=ZzF (hvd.take k);rw[hpl]at hpd;have hwd:=(hvd.drop k).take (m+3);have hsd:=hvd.drop (k+(m+3));have hvd':=hvd;generalize v.take k=pre at*
  generalize (v.drop k).take (m+3)=w at*
  generalize v.drop (k+(m+3))=suf at*
  subst esplit;have hX:val w+Bw ^ (m+3)*val suf < Bw*val d:=by
   have:Bw ^ k*(val w+Bw ^ (m+3)*val suf) < Bw ^ k*(Bw*val d):=by rw[←ZPn,←ZPA];show _ < Bw ^ (k+1)*val d;omega
   exact Nat.lt_of_mul_lt_mul_left this
  have hs0:val suf=0:=by
   rcases ZPc (val suf)with hz |hz
   ·exact hz
   ·exfalso;have h5:=ZPq (Bw ^ (m+3)) hz;have h6:Bw*val d≤Bw*Bw ^ (m+2):=ZPq _ (Nat.le_of_lt hDlt);rw[ZPo Bw (Bw ^ (m+2)),←ZPA]at h6;have h7:Bw*val d≤Bw ^ (m+3):=h6;omega
  rw[hs0,ZPw,ZO8]at hX hvs;rw[ZnV];refine⟨fun _=> ?_,fun h=>by have:=of_decide_eq_false h;omega⟩;rw[ZnH,ZnH,ZnH,ZnE,Zn3,hvl];refine⟨ZnI (by omega),ZnI (by omega),ZAT ⟨by omega,by omega,by omega⟩, ?_⟩;rw[show ((k:Int)+((m+2:Nat):Int)+1).toNat - (k:Int).toNat=m+3 by omega,ZOM];have hdw:=ZIc (pre:=pre) (suf:=suf) hwl hd hwd hdd hm h1 hX;rw[hpl]at hdw;refine ZnM hdw ?_;rintro y ⟨w',rfl,hw'l,hw'd,hw'v⟩;dsimp only;have hDpos:0 < val d:=by
   rcases ZPc (val d)with hz |hz
   ·rw[hz,ZPw]at hX;omega
   ·exact hz
  have hq:val w / val d < Bw:=(ZPb hDpos).2 hX;have hdm:=ZO9 (val w) (val d);have hml:=ZPl (val w) hDpos;generalize val w / val d=q at*
  have es:(ZO0 (K - qs.length) 0++qs).set k q=ZO0 (K - (qs.length+1)) 0++q::qs:=by
   have e:K - qs.length=k+1:=by omega
   have e2:K - (qs.length+1)=k:=by omega
   rw[e,e2,List.replicate_succ',List.append_assoc,ZO1 _ _ (by simp),ZOV,ZPC];rfl
  rw[ZnH,ZnH,ZB8,es];refine⟨Zo3 ⟨by omega,by rw[Zn3];simp only[ZOT,ZOV];omega⟩,ZnI (by omega), ?_⟩;have hsl:suf.length+(k+(m+3))=K+m+2:=by rw[←hvl,ZOT,ZOT,hpl,hwl];omega
  refine ih (pre++(w'++suf),q::qs) ⟨?_, ?_,by simp only[ZOU];omega,fun y hy=> ?_, ?_, ?_⟩
  ·simp only[ZOT,hpl,hw'l];omega
  ·refine Dg.app (fun y hy=>hvd' y (List.mem_append_left _ hy)) (Dg.app hw'd hsd)
  ·rcases ZOZ.1 hy with rfl |hy
   ·exact hq
   ·exact hqd y hy
  ·dsimp only;rw[ZCc,ZCc,hpl,hs0,ZPw,ZO8,hw'v,val,ZO5,ZPm];rw[hvs,←hdm,ZPm,ZPA,ZPn]at hv;rw[ZPo q (val d),ZPn Bw];omega
  ·dsimp only;rw[ZCc,ZCc,hpl,hs0,ZPw,ZO8,hw'v];have:=ZPq (Bw ^ k) (show val w % val d+1≤val d from hml);rw[ZPm,ZPv]at this;omega
 ·rintro rec ⟨v,qs⟩ ⟨hvl,hvd,hql,hqd,hv,hvlt⟩;dsimp only at hvl hvd hql hqd hv hvlt;unfold ZwM Zt1;dsimp only;rw[ZnV];refine⟨fun h=>by have:=of_decide_eq_true h;omega,fun _=> ?_⟩;rw[ZnD];rw[Nat.pow_zero,ZPx]at hv hvlt;refine⟨v,qs, ?_,hvl,hvd,hql,hqd,hv,hvlt⟩;rw[show K - qs.length=0 by omega];rfl
end Go.Proofs
namespace Go.Proofs
open Go Eng
theorem ZDE (a b:Nat) (hb0:b≠0) (ha:(wd a).length≤50000) (hb:(wd b).length≤50000):Zre (iL (wd a)) (iL (wd b))=some (iL (wd (a / b)),iL (wd (a % b))):=by
 refine ZrY ?_;unfold Zre;rw[ZDJ a b (by omega) (by omega),ZnE,ZnD,ZnV];refine⟨fun h=> ?_,fun h=> ?_⟩
 ·have hab:a < b:=by
   have:=of_decide_eq_true h;rcases ZPh a b with h1 |h1 |h1
   ·exact h1
   ·rw[h1,Zzm]at this;omega
   ·rw[ZAv h1]at this;omega
  rw[ZId _ (by omega),ZnE,ZnD,ZnD,ZPa hab,ZPk hab,Zw0,ZLD]
 ·have hab:b≤a:=by
   have:=of_decide_eq_false h;rcases ZPh a b with h1 |h1 |h1
   ·rw[ZAP h1]at this;omega
   ·omega
   ·omega
  have hlb:=Zuk hb0;rw[Zn3,Zn3,ZnV];refine⟨fun h=> ?_,fun h=> ?_⟩
  ·have h1:(wd b).length=1:=by have:=eq_of_beq h;omega
   have hbB:b < Bw:=by have:=ZyO b;rwa [h1,Nat.pow_one]at this
   have eb:idx (iL (wd b)) 0=some (b:Int):=by rw[ZDq hb0,ZPk hbB];rfl
   rw[eb,ZnE,ZnD,ZHL a b hb0 hbB (by omega),ZnE,ZnD];dsimp only;have hr:a % b < Bw:=Nat.lt_trans (ZPl _ (by omega)) hbB;rw[show ([((a % b:Nat):Int)]:List Int)=iL [a % b]from rfl,ZCr (ZCn hr) (by simp),ZnE,ZnD,ZnD];simp only[val,ZPw,ZO8]
  ·obtain⟨m,hm⟩:∃m,(wd b).length=m+2:=⟨(wd b).length - 2,by
    have:(wd b).length≠1:=fun e=>by rw[e]at h;exact absurd h (by decide)
    omega⟩
   have hla:m+2≤(wd a).length:=by
    rcases ZPg (wd a).length (wd b).length with h1 |h1
    ·have:=ZEC h1;omega
    ·omega
   have hi:m+1 < (wd b).length:=by omega
   have htop:(wd b)[m+1]≠0:=fun e=>by have h1:=ZoL hi;rw[e,ZPw,ZO8,ZO4 (by omega),ZtJ]at h1;have h2:=ZzF ((Zx9 b).take (m+1));rw[ZOY,ZPi (by omega)]at h2;have h3:=ZE8 hi;omega
   obtain⟨s,hs,hse,hs1,hs2⟩:=ZLt htop ((Zx9 b).get hi);have e1:((m+2:Nat):Int) - 1=((m+1:Nat):Int):=by omega
   rw[hm,e1,ZwY hi,ZnH,ZnE,ZnD,hse,ZnE,ZnD];refine⟨ZnI (by omega), ?_⟩;obtain⟨u,hu,hud,hul,huv⟩:=ZEw (wd a) s hs (by omega) (Zx9 a);obtain⟨v,hv,hvd,hvl,hvv⟩:=ZEw (wd b) s hs (by omega) (Zx9 b);rw[hu,ZnE,ZnD,hv,ZnE,ZnD,ZnH,ZnH,ZnH,ZnH,ZnH];rw[ZtJ]at huv hvv;have hvlt:val v < Bw ^ (m+2):=by
    have h1:=ZoL hi;rw[ZO4 (by omega),ZtJ]at h1;have h2:=ZzF ((Zx9 b).take (m+1));rw[ZOY,ZPi (by omega)]at h2;have h3:b+1≤Bw ^ (m+1)*((wd b)[m+1]+1):=by rw[ZPm,ZPv];omega
    have h4:=ZPr (2 ^ s) h3;have h5:=ZPq (Bw ^ (m+1)) (ZGm hs hs2);rw[ZPn]at h4;have h6:=ZPD s;rw[ZO5,ZPx]at h4;rw[hvv,ZPA];show _ < Bw ^ (m+1)*4294967296;omega
   obtain⟨K,hK⟩:∃K,(wd a).length=K+m+1:=⟨(wd a).length - m - 1,by omega⟩;have eK:((wd a).length:Int) - ((m+2:Nat):Int)+1=(K:Int):=by omega
   have ed:((iL v).drop 0).take (((m+2:Nat):Int).toNat - 0)=iL (v.take (m+2)):=by rw[ZON,ZOM,Nat.sub_zero,ZFK]
   have hdv:val (v.take (m+2))=b*2 ^ s:=by rw[ZDM hvlt,hvv]
   have hdl:(v.take (m+2)).length=m+2:=by rw[ZOY];omega
   have hdd:=hvd.take (m+2);rw[eK,ed,ZOM,ZEd,Zn3 v,Zn3 (ZO0 K 0),ZOV];refine⟨ZAT ⟨by omega,by omega,by omega⟩,ZnI (by omega),ZnI (by omega),ZCB (by omega),ZnI (by omega), ?_⟩;generalize v.take (m+2)=d at*
   have hp:=ZPD s;have h1:1≤d[m+1]:=by
    rcases ZPc d[m+1]with hz |hz
    ·exfalso;have h1:=ZoL (l:=d) (k:=m+1) (by omega);rw[hz,ZPw,ZO8,ZO4 (by omega)]at h1;have h2:=ZzF (hdd.take (m+1));rw[ZOY,ZPi (by omega)]at h2;rw[hdv]at h1;have h3:=ZE8 hi;have:=Nat.le_mul_of_pos_right b hp;omega
    ·exact hz
   have hUlt:a*2 ^ s < Bw ^ K*val d:=by have h2:=ZyO a;have h3:=ZPq (Bw ^ K) (ZE8 hi);rw[←ZPy,←Nat.add_assoc,←hK]at h3;rw[hdv,←ZPn];exact ZPt (by omega) hp
   rw[ZnE];refine ZnM (ZHI (s:=s) hdl hdd h1 (by omega) hud huv hUlt (by omega) (by omega)) ?_;rintro y ⟨u',qs,rfl,hu'l,hu'd,hql,hqd,hv',hlt'⟩;dsimp only;have hDpos:0 < val d:=by omega
   have eq1:val qs=a / b:=by rw[←Nat.mul_div_mul_right a b hp,←hdv,←hv',ZO6 _ _ hDpos,ZPa hlt',ZPF]
   have eq2:val u'=a % b*2 ^ s:=by rw[←ZPu,←hdv,←hv',ZO7,ZPk hlt']
   have hDlt:=ZzF hdd;rw[hdl]at hDlt;have hut:val (u'.take (m+2))=val u':=ZDM (by omega);obtain⟨k',hk',hkv,hke⟩:=ZNi u' (m+2) (by omega) (by omega);unfold ZxO;rw[ZOM,Nat.sub_zero,hke,ZnH,ZnE,ZnD,Zn3];refine⟨ZAT ⟨by omega,by omega,by omega⟩, ?_⟩;dsimp only;rw[ZnE];refine ZnM (ZLc (R:=a % b) (iL qs) hs hu'd (by omega) (by omega) (by rw[hkv,hut,eq2])) ?_;rintro y ⟨o,rfl,hol,hod,hov⟩;dsimp only;unfold ZxN;have eo:((iL (o++u'.drop k')).drop 0).take k'=iL o:=by rw[ZON,ZFK,List.take_left' hol]
   rw[eo,ZCr hqd (by omega),ZnE,ZnD,ZCr hod (by omega),ZnE,ZnD,ZnD,eq1,hov]
theorem ZvB {a b:Nat} (h:a≤b):(wd a).length≤(wd b).length:=ZAU (Nat.lt_of_le_of_lt h (ZyO b))
theorem ZEj:∀(n a b:Nat),b≤a→a*b < 2 ^ n→(wd a).length≤50000→∀f,n < f→Zpx f (iL (wd a)) (iL (wd b))=some (iL (wd (ZPd a b)))
 |n,a,b,hba,hn,ha,0,hf=>absurd hf (by omega)
 |n,a,b,hba,hn,ha,f+1,hf=>by
  show ZqV (Zpx f) _ _=_;unfold ZqV;rw[Zn3]
  by_cases h0:b=0
  ·subst h0;rw[Zw0,Nat.gcd_zero_right];rfl
  ·have hl:=Zuk h0;rw[decide_eq_true (by omega),cond_true,ZDE a b h0 ha (ZPe (ZvB hba) ha),ZPG];dsimp only;have hlt:=ZPl a (show 0 < b by omega);cases n with
   |zero=>
    have:1*1≤a*b:=ZPp (by omega) (by omega);rw[Nat.pow_zero]at hn;omega
   |succ n=>
    have hdm:=ZO9 a b;have hq:1≤a / b:=(Nat.le_div_iff_mul_le (by omega)).2 (by omega);have h1:=ZPq b hq;have h2:b*(2*(a % b))≤b*a:=ZPq b (by omega);rw[ZPs,ZPo b a]at h2;rw[ZEj n b (a % b) (by omega) (by rw[ZPA]at hn;omega) (ZPe (ZvB hba) ha) f (by omega),Nat.gcd_comm a b,Nat.gcd_rec b a,Nat.gcd_comm]
theorem ZEk (a b:Nat) (ha:(wd a).length≤50000) (hb:(wd b).length≤50000):Zrt (iL (wd a)) (iL (wd b))=some (iL (wd (ZPd a b))):=by
 have bnd:∀x y:Nat,x*y < 2 ^ (32*(wd x).length+32*(wd y).length):=fun x y=>by
  have e:∀z,z < 2 ^ (32*(wd z).length):=fun z=>by
   have:=ZyO z
   rwa [show Bw=2 ^ 32 from rfl,←Nat.pow_mul]at this
  have h1:=Nat.mul_lt_mul_of_lt_of_le (e x) (Nat.le_of_lt (e y)) (ZPD _)
  rwa [←ZPy]at h1
 have key:Zpx big (iL (wd a)) (iL (wd b))=some (iL (wd (ZPd a b))):=by
  obtain⟨k,hk,hk2⟩:∃k,big=k+1∧3200004 < k:=⟨36893488147419103231,by rw[big_eq],by omega⟩;rw[hk];rcases ZPg a b with h |h
  ·show ZqV (Zpx k) _ _=_;unfold ZqV;have h0:b≠0:=by omega
   have hl:=Zuk h0;rw[Zn3,decide_eq_true (by omega),cond_true,ZDE a b h0 ha hb,ZPG];dsimp only;rw[ZPk h,ZEj _ b a (by omega) (bnd b a) hb k (by omega),Nat.gcd_comm]
  ·exact ZEj _ a b h (bnd a b) ha (k+1) (by omega)
 unfold Zrt ZwN;rw[key,ZPG]
end Go.Proofs
namespace Go.Proofs
open Go Eng
def bg (z:Int):ZnK:=⟨decide (z < 0),iL (wd z.natAbs)⟩
theorem ZAw (z:Int):(bg z).Neg=decide (z < 0):=rfl
theorem ZpN (z:Int):(bg z).Words=iL (wd z.natAbs):=rfl
abbrev Wl (n:Nat) (z:Int):Prop:=(wd z.natAbs).length≤n
theorem Zya (neg:Bool) (n:Nat) (h:(wd n).length≤1000000):ZoQ neg (iL (wd n))=some (bg (if neg then -(n:Int)else n)):=by
 unfold ZoQ Zxv bg;have hr:ZiZ (iL (wd n)).length 4=true:=Zvm (by rw[Zn3];omega);cases neg with
 |true=>
  rw[cond_true,hr,chk_true,Zn3,if_pos rfl,Int.natAbs_neg,Int.natAbs_natCast];congr 2
  by_cases h0:n=0
  ·subst h0;rw[Zw0];rfl
  ·have:=Zuk h0;rw[decide_eq_true (by omega),decide_eq_true (by omega)]
 |false=>
  rw[cond_false,hr,chk_true,if_neg (by decide),Int.natAbs_natCast,decide_eq_false (by omega)]
theorem ZEz (n:Nat) (h:n < 18446744073709551616):ZtG (n:Int)=some (iL (wd n)):=by
 unfold ZtG;have e:([IntKind.wrap .u32 (n:Int),IntKind.wrap .u32 (shrK .u64 (n:Int) 32)]:List Int)=iL [n % 4294967296,n / 4294967296]:=by rw[show (32:Int)=((32:Nat):Int)from rfl,ZCs 32 (by omega),ZxA,Zx8 (by omega)];rfl
 have hd:Dg [n % 4294967296,n / 4294967296]:=fun d hd=>by
  simp only[ZOZ,List.mem_singleton,List.not_mem_nil,or_false]at hd;rcases hd with rfl |rfl
  ·exact ZPl _ (by decide)
  ·simp only[Bw];omega
 rw[e,ZCr hd (by simp)];have hv:val [n % 4294967296,n / 4294967296]=n:=by simp only[val,ZPw,ZO8];exact ZPj n Bw
 rw[hv];rfl
theorem ZJt {n:Nat} (h:n < 18446744073709551616):(wd n).length≤2:=ZAU (by simp only[Bw];omega)
theorem ZEH (z:Int) (h1: -9223372036854775808≤z) (h2:z≤9223372036854775807):Zu6 z=some (bg z):=by
 unfold Zu6
 by_cases hz:z < 0
 ·have e:IntKind.wrap .u64 (0 - IntKind.wrap .u64 z)=((z.natAbs:Nat):Int):=by rw[IntKind.wrap_u64,IntKind.wrap_u64];omega
  rw[decide_eq_true hz,cond_true,e,ZEz _ (by omega),ZPG,Zya _ _ (ZPe (ZJt (by omega)) (by decide)),ZPG,if_pos rfl,show -((z.natAbs:Nat):Int)=z by omega]
 ·have e:IntKind.wrap .u64 z=((z.natAbs:Nat):Int):=by rw[IntKind.wrap_u64];omega
  rw[decide_eq_false hz,cond_false,e,ZEz _ (by omega),ZPG,Zya _ _ (ZPe (ZJt (by omega)) (by decide)),ZPG,if_neg (by decide),show ((z.natAbs:Nat):Int)=z by omega]
theorem ZBK (z:Int) (h:Wl 256 z):Zus (bg z)=some true:=by
 unfold Wl at h;have top:∀hp:0 < (wd z.natAbs).length,∃x:Nat,idx (iL (wd z.natAbs)) (((wd z.natAbs).length:Int) - 1)=some (x:Int)∧x≠0:=fun hp=>by
  refine⟨(wd z.natAbs)[(wd z.natAbs).length - 1], ?_,fun e=> ?_⟩
  ·rw[show ((wd z.natAbs).length:Int) - 1=(((wd z.natAbs).length - 1:Nat):Int) by omega,ZwY (by omega)]
  ·have hi:(wd z.natAbs).length - 1 < (wd z.natAbs).length:=by omega
   have h1:=ZoL hi;rw[e,ZPw,ZO8,ZO4 (by omega),ZtJ]at h1;have h2:=ZzF ((Zx9 z.natAbs).take ((wd z.natAbs).length - 1));rw[ZOY,ZPi (by omega)]at h2;have h3:=ZE8 hi;omega
 unfold Zus ZpQ;rw[ZpN,ZAw,Zn3,decide_eq_true (by omega),cond_true]
 by_cases h0:(wd z.natAbs).length=0
 ·have:z=0:=by have:=ZKY.1 (List.eq_nil_of_length_eq_zero h0);omega
  subst this;rw[h0];rfl
 ·obtain⟨x,hx,hx0⟩:=top (by omega);have e0:(((wd z.natAbs).length:Int) == 0)=false:=beq_eq_false_iff_ne.2 (by omega);have e1:((x:Int) != 0)=true:=by simp only[bne_iff_ne];omega
  rw[e0,cond_false,decide_eq_true (by omega),cond_true,ZnI (by omega),chk_true,hx,ZPG,e1]
theorem ZHa (x y:Int):(if (!((bg x).Neg == (bg y).Neg))=true then -((x.natAbs*y.natAbs:Nat):Int)else ((x.natAbs*y.natAbs:Nat):Int))=x*y:=by
 rw[ZAw,ZAw]
 by_cases hx:x < 0<;>by_cases hy:y < 0
 ·rw[decide_eq_true hx,decide_eq_true hy,if_neg (by decide),ZOL,show ((x.natAbs:Nat):Int)= -x by omega,show ((y.natAbs:Nat):Int)= -y by omega,Int.neg_mul_neg]
 ·rw[decide_eq_true hx,decide_eq_false hy,if_pos (by decide),ZOL,show ((x.natAbs:Nat):Int)= -x by omega,show ((y.natAbs:Nat):Int)=y by omega,Int.neg_mul,Int.neg_neg]
 ·rw[decide_eq_false hx,decide_eq_true hy,if_pos (by decide),ZOL,show ((x.natAbs:Nat):Int)=x by omega,show ((y.natAbs:Nat):Int)= -y by omega,Int.mul_neg,Int.neg_neg]
 ·rw[decide_eq_false hx,decide_eq_false hy,if_neg (by decide),ZOL,show ((x.natAbs:Nat):Int)=x by omega,show ((y.natAbs:Nat):Int)=y by omega]
theorem ZEt {x y:Nat} {n m:Nat} (hx:(wd x).length≤n) (hy:(wd y).length≤m):(wd (x*y)).length≤n+m:=by refine ZAU ?_;have h1:=Nat.mul_lt_mul_of_lt_of_le (ZyO x) (Nat.le_of_lt (ZyO y)) (Nat.pow_pos (by decide));rw[←ZPy]at h1;exact ZPf h1 (ZPz (by decide) (by omega))
theorem ZCl (x y:Int) (hx:Wl 50000 x) (hy:Wl 50000 y):Zou (bg x) (bg y)=some (bg (x*y)):=by unfold Zou;have:=ZEt hx hy;rw[ZpN,ZpN,ZHF _ _ (by omega) (by omega),ZPG,Zya _ _ (by omega),ZPG,ZHa]
theorem ZE7 {x y n:Nat} (hx:(wd x).length≤n) (hy:(wd y).length≤n):(wd (x+y)).length≤n+1:=by refine ZAU ?_;have h1:=ZPf (ZyO x) (ZPz (n:=Bw) (by decide) hx);have h2:=ZPf (ZyO y) (ZPz (n:=Bw) (by decide) hy);rw[ZPA];have:=ZPq (Bw ^ n) (show 2≤Bw by decide);omega
theorem ZIp (x y:Int) (hx:Wl 50000 x) (hy:Wl 50000 y):Zxl (bg x) (bg y)=some (bg (x+y)):=by
 unfold Wl at hx hy;unfold Zxl;have h1:=ZE7 hx hy;rw[ZpN,ZpN,ZAw,ZAw];have opp:decide (x < 0)≠decide (y < 0)→Zpg (iL (wd x.natAbs)) (iL (wd y.natAbs))=some (ZEA x.natAbs y.natAbs):=fun _=>ZDJ _ _ (by omega) (by omega)
 by_cases hs:decide (x < 0)=decide (y < 0)
 ·rw[hs,beq_self_eq_true,cond_true,ZJk _ _ (by omega) (by omega),ZPG,Zya _ _ (by omega),ZPG];congr 2
  by_cases hy0:y < 0
  ·have hx0:x < 0:=by rw[decide_eq_true hy0]at hs;exact of_decide_eq_true hs
   rw[decide_eq_true hy0,if_pos rfl];omega
  ·have hx0:¬x < 0:=by rw[decide_eq_false hy0]at hs;exact of_decide_eq_false hs
   rw[decide_eq_false hy0,if_neg (by decide)];omega
 ·rw[beq_eq_false_iff_ne.2 hs,cond_false,opp hs,ZPG];rcases ZPg x.natAbs y.natAbs with hlt |hge
  ·have:=ZvB (Nat.sub_le y.natAbs x.natAbs);rw[ZAP hlt,decide_eq_false (by omega),cond_false,ZF7 _ _ (by omega) (by omega),ZPG,Zya _ _ (by omega),ZPG];congr 2
   by_cases hy0:y < 0
   ·have hx0:¬x < 0:=fun h=>hs (by rw[decide_eq_true hy0,decide_eq_true h])
    rw[decide_eq_true hy0,if_pos rfl];omega
   ·have hx0:x < 0:=Decidable.byContradiction fun h=>hs (by rw[decide_eq_false hy0,decide_eq_false h])
    rw[decide_eq_false hy0,if_neg (by decide)];omega
  ·have hn:ZEA x.natAbs y.natAbs≥0:=by
    rcases ZPg y.natAbs x.natAbs with h |h
    ·rw[ZAv h];decide
    ·rw[show x.natAbs=y.natAbs by omega,Zzm];decide
   have:=ZvB (Nat.sub_le x.natAbs y.natAbs);rw[decide_eq_true hn,cond_true,ZF7 _ _ hge (by omega),ZPG,Zya _ _ (by omega),ZPG];congr 2
   by_cases hx0:x < 0
   ·have hy0:¬y < 0:=fun h=>hs (by rw[decide_eq_true hx0,decide_eq_true h])
    rw[decide_eq_true hx0,if_pos rfl];omega
   ·have hy0:y < 0:=Decidable.byContradiction fun h=>hs (by rw[decide_eq_false hx0,decide_eq_false h])
    rw[decide_eq_false hx0,if_neg (by decide)];omega
end Go.Proofs
namespace Go.Proofs
open Go Eng
def fOf (q:Rat):ZnC:=⟨bg q.num,bg (q.den:Int)⟩
theorem ZFP {x n:Nat} (g:Nat) (h:(wd x).length≤n):(wd (x / g)).length≤n:=ZPe (ZvB (Nat.div_le_self x g)) h
theorem ZGA {x y n:Nat} (hy:0 < y) (h:(wd y).length≤n):(wd (ZPd x y)).length≤n:=ZPe (ZvB (Nat.gcd_le_right x hy)) h
theorem ZC9 (x y:Int) (hy:y≠0) (hx1:Wl 50000 x) (hy1:Wl 50000 y):ZrW (bg x) (bg y)=some (fOf (Rat.divInt x y)):=by
 have hy0:0 < y.natAbs:=by omega
 have hg0:ZPd x.natAbs y.natAbs≠0:=fun e=>by have:=Nat.gcd_pos_of_pos_right x.natAbs hy0;omega
 have hgl:=ZGA (x:=x.natAbs) hy0 hy1;have hxl:=ZFP (ZPd x.natAbs y.natAbs) hx1;have hyl:=ZFP (ZPd x.natAbs y.natAbs) hy1;unfold ZrW;rw[ZpN,ZpN,ZEk _ _ hx1 hy1,ZPG,ZDE _ _ hg0 hx1 hgl,ZPG];dsimp only;rw[ZDE _ _ hg0 hy1 hgl,ZPG];dsimp only;rw[Zya _ _ (by omega),ZPG,Zya _ _ (by omega),ZPG,ZAw,ZAw];unfold fOf;rw[Rat.num_divInt,Rat.den_divInt,if_neg hy];have eg:Int.gcd y x=ZPd x.natAbs y.natAbs:=by rw[Int.gcd_comm];rfl
 rw[eg];have key:(if (!(decide (x < 0) == decide (y < 0)))=true then -((x.natAbs / ZPd x.natAbs y.natAbs:Nat):Int)else ((x.natAbs / ZPd x.natAbs y.natAbs:Nat):Int))=y.sign*x / (ZPd x.natAbs y.natAbs:Int):=by
  obtain⟨k,hk⟩:=Nat.gcd_dvd_left x.natAbs y.natAbs;generalize ZPd x.natAbs y.natAbs=g at*
  have hgp:0 < g:=by omega
  have e1:x.natAbs / g=k:=by rw[hk,Nat.mul_div_cancel_left _ hgp]
  have e2:((g:Int)*(k:Int)) / (g:Int)=k:=Int.mul_ediv_cancel_left _ (by omega);have e3:(-((g:Int)*(k:Int))) / (g:Int)= -k:=by rw[←Int.mul_neg,Int.mul_ediv_cancel_left _ (by omega)]
  have hk':((x.natAbs:Nat):Int)=(g:Int)*(k:Int):=by rw[hk];norm_cast
  rw[e1]
  by_cases hx0:x < 0<;>by_cases hy0:y < 0
  ·rw[decide_eq_true hx0,decide_eq_true hy0,if_neg (by decide),Int.sign_eq_neg_one_of_neg hy0,show -1*x=(g:Int)*k by omega,e2]
  ·rw[decide_eq_true hx0,decide_eq_false hy0,if_pos (by decide),Int.sign_eq_one_of_pos (by omega),show 1*x= -((g:Int)*k) by omega,e3]
  ·rw[decide_eq_false hx0,decide_eq_true hy0,if_pos (by decide),Int.sign_eq_neg_one_of_neg hy0,show -1*x= -((g:Int)*k) by omega,e3]
  ·rw[decide_eq_false hx0,decide_eq_false hy0,if_neg (by decide),Int.sign_eq_one_of_pos (by omega),show 1*x=(g:Int)*k by omega,e2]
 rw[key,if_neg Bool.false_ne_true]
theorem ZG9:∀l:List Int,l.length≤1000→(∀z∈l,Wl 256 z)→ZxP (l.map bg)=some true:=fun l hl h=>by
 refine ZrY ?_;unfold ZxP;rw[ZnE,List.length_map];refine ZnM (Zwo ZCQ l.length (by omega) (fun i (_:Unit)=>(l.map bg,(l.length:Int),i)) (fun _ _=>True) (Q:=fun r=>r= .brk ()) () trivial ?_ ?_) ?_
 ·rintro rec i ⟨⟩ hi _ ih;unfold ZzT Zxx;dsimp only;rw[ZnV];refine⟨fun _=> ?_,fun h=>by have:=of_decide_eq_false h;omega⟩;rw[ZsQ (by rw[List.length_map];exact hi),ZnE,ZnD,List.getElem_map,ZBK _ (h _ (List.getElem_mem hi)),ZnE,ZnD];rw[Bool.not_true,cond_false,ZnH];exact⟨ZnI (by omega),ih () trivial⟩
 ·rintro rec ⟨⟩ _;unfold ZzT Zxx;dsimp only;rw[ZnV];refine⟨fun h=>by have:=of_decide_eq_true h;omega,fun _=>ZnD.2 rfl⟩
 ·rintro r rfl;exact ZnD.2 rfl
abbrev Wq (n:Nat) (q:Rat):Prop:=Wl n q.num∧Wl n (q.den:Int)
theorem ZD6:iL (wd 1)=[1]:=by rw[ZDq (by decide),show 1 / Bw=0 from rfl,Zw0];rfl
theorem ZDr (q:Rat) (h:Wq 256 q):Zrf (fOf q)=some true:=by
 unfold Zrf Zur fOf;have hb:=ZG9 [q.num,(q.den:Int)] (by simp) (fun z hz=>by
  simp only[ZOZ,List.not_mem_nil,or_false]at hz;rcases hz with rfl |rfl
  ·exact h.1
  ·exact h.2)
 have hd:=q.den_nz;have hl:=Zuk (n:=(q.den:Int).natAbs) (by omega);have hn:=h.1;have hdl:=h.2;unfold Wl at hn hdl;dsimp only;rw[show ([bg q.num,bg (q.den:Int)]:List ZnK)=[q.num,(q.den:Int)].map bg from rfl,hb,ZPG,cond_true,ZpN,ZpN,Zn3,decide_eq_true (by omega),cond_true,ZAw,decide_eq_false (by omega),Bool.not_false,cond_true,ZEk _ _ (by omega) (by omega),ZPG];have hc:ZPd q.num.natAbs (q.den:Int).natAbs=1:=q.reduced;have h1:(wd 1).length≤1:=ZAU (by decide);rw[hc,←ZD6,ZDJ 1 1 (by omega) (by omega),ZPG,Zzm];rfl
end Go.Proofs
