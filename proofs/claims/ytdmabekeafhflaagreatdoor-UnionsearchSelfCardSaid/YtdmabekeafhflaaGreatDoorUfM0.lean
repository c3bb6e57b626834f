/- Plain laws over the specs, part 0. -/
import Derived.Test.YtdmabekeafhflaaGreatDoorE5
import Derived.Laws.BitsLemmas
import Derived.Laws.Bits64
import Derived.KernelRfl
import Derived.Test.YtdmabekeafhflaaGreatDoorUfS
set_option linter.unusedVariables false
set_option linter.unusedSimpArgs false
set_option linter.unusedSectionVars false
open Int renaming toNat_natCast→ZNF, natCast_add→ZKg
open List renaming replicate→ZNS, take_of_length_le→ZNW, getElem?_eq_getElem→ZNH, length_take→ZNR, length_append→ZNM, length_cons→ZNN, set_append_right→ZNT, length_replicate→ZNO, getD_eq_getElem?_getD→ZNG, getElem_mem→ZNL, getElem_cons_drop→ZNK, length_set→ZNP, length_singleton→ZNQ, take_append_drop→ZNV, set_cons_zero→ZNU, getElem_append_right→ZNJ, take_succ_eq_append_getElem→ZNX, getElem?_eq_none→ZNI
open Nat renaming mul_add→ZOc, mul_assoc→ZOd, mul_comm→ZOe, mod_lt→ZOb, pow_succ→ZOm, add_mul→ZNY, mul_le_mul_right→ZOh, mul_zero→ZOj, min_eq_left→ZN8, add_zero→ZN0, one_mul→ZOk, mul_le_mul_left→ZOg, div_lt_iff_lt_mul→ZN3, pow_add→ZOl, two_pow_pos→ZOp, eq_zero_or_pos→ZN4, mod_add_div→ZN9, sub_self→ZOo, le_refl→ZN5, mod_eq_of_lt→ZOa, div_eq_of_lt→ZN2, zero_add→ZOr, div_add_mod→ZN1, lt_or_ge→ZN6, mul_le_mul→ZOf, xor_lt_two_pow→ZOq, mul_left_comm→ZOi, lt_trichotomy→ZN7, add_mul_div_right→ZNZ, shiftRight_xor_distrib→ZOn
open Option renaming bind_some→ZOs
namespace Go.Proofs
open Go Eng
def wp {α:Type} (o:Option α) (Q:α→Prop):Prop:=∃x,o=some x∧Q x
section
variable {α β:Type} {Q:α→Prop}
theorem ZoK {x:α}:wp (some x) Q↔Q x:=⟨fun⟨_,h,q⟩=>by cases h;exact q,fun q=>⟨x,rfl,q⟩⟩
theorem ZHV:wp (none:Option α) Q↔False:=by simp[wp]
theorem ZoN {o:Option β} {f:β→Option α}:wp (o.bind f) Q↔wp o (fun a=>wp (f a) Q):=by
 constructor
 ·rintro⟨x,h,q⟩;obtain⟨a,ha,h⟩:=bind_some h;exact⟨a,ha,x,h,q⟩
 ·rintro⟨a,rfl,x,h,q⟩;exact⟨x,h,q⟩
theorem ZoO {b:Bool} {o:Option α}:wp (chk b o) Q↔b=true∧wp o Q:=by cases b<;>simp[chk,wp]
theorem Zo6 {b:Bool} {x y:Option α}:wp (bif b then x else y) Q↔(b=true→wp x Q)∧(b=false→wp y Q):=by cases b<;>simp
theorem ZJX {xs:List α} {i:Nat}:wp (xs[i]?) Q↔∃h:i < xs.length,Q xs[i]:=by
 constructor
 ·rintro⟨x,h,q⟩;obtain⟨h1,h2⟩:=List.getElem?_eq_some_iff.1 h;subst h2;exact⟨h1,q⟩
 ·rintro⟨h,q⟩;exact⟨_,ZNH h,q⟩
theorem ZBU {xs:List α} {i:Int}:wp (idx xs i) Q↔0≤i∧∃h:i.toNat < xs.length,Q xs[i.toNat]:=by
 unfold idx;split
 ·rename_i h;rw[ZJX];simp[h]
 ·rename_i h;rw[ZHV];simp[h]
theorem Zo4 {R:α→Prop} {o:Option α} (h:wp o Q) (hr:∀x,Q x→R x):wp o R:=by obtain⟨x,h,q⟩:=h;exact⟨x,h,hr x q⟩
theorem Zqy {o:Option α} {x:α} (h:wp o (· =x)):o=some x:=by obtain⟨y,h,rfl⟩:=h;exact h
theorem ZAZ (a:Option α):agree a a=a:=by unfold agree;rw[if_pos rfl]
end
theorem ZoS {n:Int} (h: -9223372036854775808≤n∧n≤9223372036854775807):inK .i64 n=true:=by
 have h0:IntKind.i64.min= -9223372036854775808:=by decide
 have h1:IntKind.i64.max=9223372036854775807:=by decide
 exact Zkn.2 (by rw[h0,h1];exact h)
theorem Zuo {n b:Nat} (h:n*(b+1)≤140737488355328):ZjC n b=true:=decide_eq_true (Nat.le_trans (ZOg n (by omega)) h)
theorem wrap_i64 {n:Int} (h: -9223372036854775808≤n∧n≤9223372036854775807):IntKind.wrap .i64 n=n:=by rw[IntKind.wrap_i64];omega
theorem wrap_u8 {n:Int} (h:0≤n∧n≤255):IntKind.wrap .u8 n=n:=by rw[IntKind.wrap_u8];omega
theorem wrap_u64 {n:Int} (h:0≤n∧n≤18446744073709551615):IntKind.wrap .u64 n=n:=by rw[IntKind.wrap_u64];omega
theorem ZrN {n m:Int} (h:0≤n∧n < m):inR n m=true:=decide_eq_true h
theorem ZpZ {a b c:Int} (h:0≤a∧a≤b∧b≤c):Zcp a b c=true:=decide_eq_true h
theorem ZCs {σ X:Type} {f:Nat→σ→Option X} {body:(σ→Option X)→σ→Option X} (hf:∀n s,f (n+1) s=body (f n) s) (I:σ→Prop) (m:σ→Nat) (Post:X→Prop)
  (h:∀(rec:σ→Option X) s,I s→(∀s',I s'→m s' < m s→wp (rec s') Post)→wp (body rec s) Post):∀n s,I s→m s < n→wp (f n s) Post:=by
 intro n
 induction n with
 |zero=>intro s _ h0;omega
 |succ n ih=>
  intro s hi hm;rw[hf];exact h (f n) s hi fun s' hi' hlt=>ih s' hi' (by omega)
theorem Zz1 {m:Nat} (h:m≤36893488147419103231):m < big:=by rw[big_eq];omega
theorem ZFR (k:Nat) (h:k≤36893488147419103232):∃n,big=n+k:=⟨36893488147419103232 - k,by rw[big_eq];omega⟩
end Go.Proofs
namespace Go.Proofs
open Go Eng
theorem ZwH {α σ τ X:Type} {f:Nat→σ→Option X} {body:(σ→Option X)→σ→Option X} (hf:∀n s,f (n+1) s=body (f n) s)
  (xs:List α) (hlen:xs.length≤1000000000000000) (st:Int→τ→σ) (P:Nat→τ→Prop) {Q:X→Prop} (t0:τ) (h0:P 0 t0)
  (step:∀(rec:σ→Option X) (k:Nat) t (h:k < xs.length),P k t→(∀t',P (k+1) t'→wp (rec (st ((k:Int)+1) t')) Q)→wp (body rec (st (k:Int) t)) Q)
  (fin:∀(rec:σ→Option X) t,P xs.length t→wp (body rec (st (xs.length:Int) t)) Q):wp (f big (st 0 t0)) Q:=by
 have key:∀(n k:Nat) t,k≤xs.length→P k t→xs.length - k < n→wp (f n (st (k:Int) t)) Q:=by
  intro n
  induction n with
  |zero=>intro k t _ _ h;omega
  |succ n ih=>
   intro k t hk hP hm;rw[hf]
   by_cases hlt:k < xs.length
   ·refine step _ k t hlt hP fun t' h'=> ?_
    exact ih (k+1) t' (by omega) h' (by omega)
   ·have:k=xs.length:=by omega
    subst this;exact fin _ t hP
 exact key big 0 t0 (Nat.zero_le _) h0 (by rw[big_eq];omega)
theorem Ztq {σ τ X:Type} {f:Nat→σ→Option X} {body:(σ→Option X)→σ→Option X} (hf:∀n s,f (n+1) s=body (f n) s)
  (m:Nat) (hlen:m≤1000000000000000) (st:Int→τ→σ) (P:Nat→τ→Prop) {Q:X→Prop} (t0:τ) (h0:P 0 t0)
  (step:∀(rec:σ→Option X) (k:Nat) t (h:k < m),P k t→(∀t',P (k+1) t'→wp (rec (st ((k:Int)+1) t')) Q)→wp (body rec (st (k:Int) t)) Q)
  (fin:∀(rec:σ→Option X) t,P m t→wp (body rec (st (m:Int) t)) Q):wp (f big (st 0 t0)) Q:=by
 have e:(ZNS m ()).length=m:=ZNO;refine ZwH hf (ZNS m ()) (by omega) st P t0 h0 (fun rec k s h=>step rec k s (by omega)) (fun rec s h=> ?_);rw[e]at h⊢
 exact fin rec s h
theorem ZAp {σ τ X:Type} {f:Nat→σ→Option X} {body:(σ→Option X)→σ→Option X} (hf:∀n s,f (n+1) s=body (f n) s)
  (st:τ→σ) (P:τ→Prop) (m:τ→Nat) {Q:X→Prop} (t0:τ) (h0:P t0) (hm:m t0≤1000000000000000)
  (step:∀(rec:σ→Option X) t,P t→(∀t',P t'→m t' < m t→wp (rec (st t')) Q)→wp (body rec (st t)) Q):wp (f big (st t0)) Q:=by
 have key:∀(n:Nat) t,P t→m t < n→wp (f n (st t)) Q:=by
  intro n
  induction n with
  |zero=>intro t _ h;omega
  |succ n ih=>
   intro t hP hm;rw[hf];exact step _ t hP fun t' h' hlt=>ih t' h' (by omega)
 exact key big t0 h0 (by rw[big_eq];omega)
theorem Zin {α:Type} {xs:List α} {i:Int} (h0:0≤i) (h:i.toNat < xs.length):idx xs i=some xs[i.toNat]:=by unfold idx;rw[if_pos h0,ZNH h]
theorem Zto {α:Type} {xs:List α} {k:Nat} (h:k < xs.length):idx xs (k:Int)=some xs[k]:=by rw[Zin (by omega) (by simpa using h)];simp
theorem ZDs {α:Type} {xs:List α} {k:Nat} (h:k < xs.length):inR (k:Int) (xs.length:Int)=true:=ZrN ⟨by omega,by omega⟩
end Go.Proofs
namespace Go.Proofs
open Go Eng
theorem ZHj (n:Int) {m:Int} (h:1≤m∧m≤1000000):wp (Zrl n m) (fun r=>0≤r∧r < m):=by have ha: -m < Int.tmod n m∧Int.tmod n m < m:=⟨Int.lt_tmod_of_pos n (by omega),Int.tmod_lt_of_pos n (by omega)⟩;unfold Zrl;have h3:decide (m < 1)=false:=decide_eq_false (by omega);have h4:decide (m≠0)=true:=decide_eq_true (by omega);rw[h3,cond_false,ZoO,ZoO,ZoO,ZoK];exact⟨h4,ZoS (by omega),h4,Int.tmod_nonneg _ (by omega),Int.tmod_lt_of_pos _ (by omega)⟩
def ZBL (d:ZoM):Prop:=0≤d.at_∧d.at_≤d.l.length∧d.l.length≤500
theorem ZDr {d:ZoM} (hd:ZBL d) {n:Int} (hn:1≤n∧n≤1000000):wp (Zpo d n) (fun r=>(0≤r.1∧r.1 < n)∧ZBL r.2):=by
 unfold Zpo;have hd0:=hd;obtain⟨h0,h1,h2⟩:=hd0;rw[Zo6];refine⟨fun h=> ?_,fun h=> ?_⟩
 ·rw[ZoK];exact⟨by simp only;omega,hd⟩
 ·simp only[decide_eq_false_iff_not]at h;simp only[ZoO,ZoN,ZBU,ZoK];refine⟨ZoS (by omega),ZoS (by omega),by omega,by omega,Zo4 (ZHj _ hn) fun r hr=>⟨hr, ?_⟩⟩;simp only[ZBL];omega
end Go.Proofs
namespace Go.Proofs
open Go Eng
theorem Zzl {s:Str} (h:8≤s.length):wp (Zo0 s) (fun _=>True):=by unfold Zo0;simp only[ZoN,ZBU,ZoO,ZoK];refine⟨by omega,by omega,by omega,by omega,by decide,by omega,by omega,by decide,by omega,by omega,by decide,by omega,by omega,by decide,by omega,by omega,by decide,by omega,by omega,by decide,by omega,by omega,by decide,trivial⟩
def ZH7 (cs:List (Lf Zvg)):Bool:=cs.all fun l=>match l.as (.int .u8)with |some x=>decide (0≤x∧x≤255) |none=>false
theorem ZE7 {cs:List (Lf Zvg)} (hc:ZH7 cs=true) {n:Nat} (h:n < cs.length):wp (tabB (car:=Zvg) (.int .u8) cs n) (fun x:Int=>0≤x∧x≤255):=by unfold tabB;rw[ZNH h];have:=List.all_eq_true.1 hc _ (ZNL h);dsimp only;split at this;rotate_left;simp at this;rename_i x hx;exact⟨x,hx,of_decide_eq_true this⟩
theorem ZGQ:ZH7 Zxv=true:=by kernel_rfl
theorem ZDa:ZH7 ZrO=true:=by kernel_rfl
theorem ZFF:Zxv.length=256:=by kernel_rfl
theorem ZCb:ZrO.length=32:=by kernel_rfl
theorem ZGu:((List.range 256).all fun n=>decide (0≤shrK .u8 (n:Int) 4∧shrK .u8 (n:Int) 4≤15))=true:=by kernel_rfl
theorem shr4 {c:Int} (h:0≤c∧c≤255):0≤shrK .u8 c 4∧shrK .u8 c 4≤15:=by
 have:=List.all_eq_true.1 ZGu c.toNat (List.mem_range.2 (by omega));have e:((c.toNat:Nat):Int)=c:=by omega
 rw[e]at this;exact of_decide_eq_true this
theorem ZHY (s:Str) (hs:s.length≤9223372036854775807):wp (Zpq big s) (fun r=>r.length≤s.length):=by
 refine ZCs (f:=fun n s=>Zpq n s) (body:=fun rec s=>ZrP rec s) (fun n s=>rfl)
  (fun t=>t.length≤s.length) (fun t=>t.length) _ ?_ big s (ZN5 _) (Zz1 (by omega))
 intro rec t ht ih;unfold ZrP ZqJ;rw[Zo6];refine⟨fun h=> ?_,fun h=> ?_⟩
 ·simp only[decide_eq_true_eq]at h;have d8:(t.drop ((8:Int)).toNat).length=t.length - 8:=by simp
  have d16:(t.drop ((16:Int)).toNat).length=t.length - 16:=by simp
  have d24:(t.drop ((24:Int)).toNat).length=t.length - 24:=by simp
  have d32:(t.drop ((32:Int)).toNat).length=t.length - 32:=by simp
  rw[ZoN];refine Zo4 (Zzl (by omega)) fun _ _=> ?_
  rw[ZoO,ZoN];refine⟨ZpZ (by omega),Zo4 (Zzl (by omega)) fun _ _=> ?_⟩;rw[ZoO,ZoN];refine⟨ZpZ (by omega),Zo4 (Zzl (by omega)) fun _ _=> ?_⟩;rw[ZoO,ZoN];refine⟨ZpZ (by omega),Zo4 (Zzl (by omega)) fun _ _=> ?_⟩;rw[Zo6];refine⟨fun _=> ?_,fun _=> ?_⟩
  ·rw[ZoO];exact⟨ZpZ (by omega),ih _ (by omega) (by omega)⟩
  ·rw[ZoK];exact ht
 ·simp only[cond_false,ZoK];exact ht
theorem ZHZ (s:Str) (hs:s.length≤9223372036854775807):wp (ZoV big s) (fun _=>True):=by
 refine ZCs (f:=fun n s=>ZoV n s) (body:=fun rec s=>ZrQ rec s) (fun n s=>rfl)
  (fun t=>t.length≤s.length) (fun t=>t.length) _ ?_ big s (ZN5 _) (Zz1 (by omega))
 intro rec t ht ih;have go:∀k:Nat,0 < k→k≤t.length→wp (rec (t.drop k)) (fun _=>True):=fun k h0 h=>ih _ (by rw[List.length_drop];omega) (by rw[List.length_drop];omega)
 have go':∀t':Str,t'.length < t.length→wp (rec t') (fun _=>True):=fun t' h=>ih _ (by omega) h
 unfold ZrQ;rw[Zo6];refine⟨fun h=> ?_,fun h=>by rw[ZoK];trivial⟩;simp only[decide_eq_true_eq]at h;rw[ZoN,ZBU];refine⟨by omega,by omega, ?_⟩;rw[Zo6];refine⟨fun hc=> ?_,fun hc=> ?_⟩
 ·have d1:(t.drop ((1:Int)).toNat).length=t.length - 1:=by simp
  have d9:((t.drop ((1:Int)).toNat).drop ((8:Int)).toNat).length=t.length - 9:=by simp
  have d17:(((t.drop ((1:Int)).toNat).drop ((8:Int)).toNat).drop ((8:Int)).toNat).length=t.length - 17:=by simp
  have d25:(((t.drop ((1:Int)).toNat).drop ((8:Int)).toNat).drop ((16:Int)).toNat).length=t.length - 25:=by simp
  generalize h1:t.drop ((1:Int)).toNat=t1 at*
  generalize h9:t1.drop ((8:Int)).toNat=t9 at*
  have j2:∀b,16 < t9.length∨b=false→wp (ZpS rec t9 b) (fun _=>True):=fun b hb=>by unfold ZpS ZpR Zsw;rw[Zo6];refine⟨fun hb'=> ?_,fun _=>go' _ (by omega)⟩;have:16 < t9.length:=hb.resolve_right (by simp[hb']);rw[ZoO,ZoN];exact⟨ZpZ (by omega),Zo4 (ZHY _ (by omega)) fun r hr=>go' _ (by omega)⟩
  have j1:∀b,8 < t1.length∨b=false→wp (ZpT rec t1 b) (fun _=>True):=fun b hb=>by
   unfold ZpT ZpR;rw[h9,Zo6];refine⟨fun hb'=> ?_,fun _=>go' _ (by omega)⟩;have:8 < t1.length:=hb.resolve_right (by simp[hb']);rw[ZoO,Zo6];refine⟨ZpZ (by omega),fun h16=> ?_,fun h16=>j2 _ (.inr rfl)⟩;simp only[decide_eq_true_eq]at h16;rw[ZoN];refine Zo4 (Zzl (by omega)) fun _ _=> ?_
   rw[ZoO,ZoN];exact⟨ZpZ (by omega),Zo4 (Zzl (by omega)) fun _ _=>j2 _ (.inl (by omega))⟩
  rw[ZoO,Zo6];refine⟨ZpZ (by omega),fun h8=> ?_,fun h8=>j1 _ (.inr rfl)⟩;simp only[decide_eq_true_eq]at h8;rw[ZoN];exact Zo4 (Zzl (by omega)) fun _ _=>j1 _ (.inl (by omega))
 ·have hcb:((t[(0:Int).toNat].toNat:Nat):Int) < 256:=by have:=t[(0:Int).toNat].toNat_lt;omega
  generalize t[(0:Int).toNat].toNat=c at*
  rw[ZoO,ZoN];refine⟨ZrN (by omega),Zo4 (ZE7 ZGQ (by rw[ZFF];omega)) fun x hx=> ?_⟩;have hsh:=shr4 hx;rw[ZoO,ZoO,ZoN];refine⟨by decide,ZrN (by omega),Zo4 (ZE7 ZDa (by rw[ZCb];omega)) fun lo _=> ?_⟩;rw[ZoN];refine Zo4 (ZE7 ZDa (by rw[ZCb];omega)) fun hi _=> ?_
  have j6:∀b,2≤t.length∨b=true→wp (Zpr rec t b) (fun _=>True):=fun b hb=>by unfold Zpr;rw[Zo6,ZoK,ZoO];refine⟨fun _=>trivial,fun hb'=> ?_⟩;have:2≤t.length:=hb.resolve_right (by simp[hb']);exact⟨ZpZ (by omega),go 2 (by omega) this⟩
  have j7:∀b,3≤t.length∨b=true→wp (Zo5 rec t b) (fun _=>True):=fun b hb=>by unfold Zo5;rw[Zo6,ZoK,ZoO];refine⟨fun _=>trivial,fun hb'=> ?_⟩;have:3≤t.length:=hb.resolve_right (by simp[hb']);exact⟨ZpZ (by omega),go 3 (by omega) this⟩
  have j8:∀b,4≤t.length∨b=true→wp (ZoX rec t b) (fun _=>True):=fun b hb=>by unfold ZoX;rw[Zo6,ZoK,ZoO];refine⟨fun _=>trivial,fun hb'=> ?_⟩;have:4≤t.length:=hb.resolve_right (by simp[hb']);exact⟨ZpZ (by omega),go 4 (by omega) this⟩
  simp only[Zo6,ZoN,ZBU,ZoK,decide_eq_true_eq,decide_eq_false_iff_not];refine⟨fun _=>⟨fun _=>j6 _ (.inr rfl),fun _=>⟨by omega,by omega,fun _=>j6 _ (.inr rfl),fun _=>⟨by omega,by omega,j6 _ (.inl (by omega))⟩⟩⟩,
   fun _=>⟨fun _=>⟨fun _=>j7 _ (.inr rfl),fun _=>⟨by omega,by omega,fun _=>j7 _ (.inr rfl),fun _=>⟨by omega,by omega,fun _=>j7 _ (.inr rfl),fun _=>⟨by omega,by omega,fun _=>j7 _ (.inr rfl),fun _=>⟨by omega,by omega,j7 _ (.inl (by omega))⟩⟩⟩⟩⟩,
    fun _=>⟨fun _=>⟨fun _=>j8 _ (.inr rfl),fun _=>⟨by omega,by omega,fun _=>j8 _ (.inr rfl),fun _=>⟨by omega,by omega,fun _=>j8 _ (.inr rfl),fun _=>⟨by omega,by omega,fun _=>j8 _ (.inr rfl),fun _=>⟨by omega,by omega,fun _=>j8 _ (.inr rfl),fun _=>⟨by omega,by omega,fun _=>j8 _ (.inr rfl),fun _=>⟨by omega,by omega,j8 _ (.inl (by omega))⟩⟩⟩⟩⟩⟩⟩,fun _=>trivial⟩⟩⟩
theorem ZHW (s:Str) (hs:s.length≤9223372036854775807):wp (ZpK s) (fun _=>True):=by
 unfold ZpK Zsv;rw[ZoN];refine Zo4 (ZHZ s hs) fun r _=> ?_
 cases r with
 |ret b=>rw[ZoK];trivial
 |brk u=>rw[ZoK];trivial
def vs (s:Str):Bool:=(ZpK s).getD false
theorem ZHX (s:Str) (hs:s.length≤9223372036854775807):ZpK s=some (vs s):=by obtain⟨b,hb,_⟩:=ZHW s hs;unfold vs;rw[hb];rfl
end Go.Proofs
namespace Go.Proofs
open Go Eng
theorem ZGZ {α X:Type} {f:Nat→Int→Option (Out Unit X)} {body:(Int→Option (Out Unit X))→Int→Option (Out Unit X)} (xs:List α) (p:α→Bool) (x:X) (hf:∀n i,f (n+1) i=body (f n) i) (hlen:xs.length≤1000000000000)
  (hb:∀(rec:Int→Option (Out Unit X)) (i:Nat) (h:i < xs.length) (Q:Out Unit X→Prop),(p xs[i]=false→Q (.ret x))→(p xs[i]=true→wp (rec ((i:Int)+1)) Q)→wp (body rec i) Q)
  (he:∀(rec:Int→Option (Out Unit X)) (Q:Out Unit X→Prop),Q (.brk ())→wp (body rec (xs.length:Int)) Q):
  wp (f big 0) (fun r=>r=if xs.all p then .brk ()else .ret x):=by
 refine ZCs hf (fun i=>∃k:Nat,k≤xs.length∧i=(k:Int)∧(xs.take k).all p=true) (fun i=>xs.length - i.toNat) _ ?_ big 0 ⟨0,Nat.zero_le _,rfl,by simp⟩ (Zz1 (by omega));rintro rec i ⟨k,hk,rfl,hp⟩ ih
 by_cases hlt:k < xs.length
 ·refine hb rec k hlt _ (fun h=> ?_) (fun h=>ih _ ⟨k+1,by omega,by omega, ?_⟩ (by omega))
  ·have:xs.all p=false:=List.all_eq_false.2 ⟨xs[k],ZNL _,by rw[h];simp⟩;rw[this];rfl
  ·rw[ZNX hlt,List.all_append,hp];simp[h]
 ·have:k=xs.length:=by omega
  subst this;refine he rec _ ?_;rw[List.take_length]at hp;rw[hp];rfl
def ZAl (s:Str):Bool:=decide ((s.length:Int)≤1024)&&vs s
def ZDz (c:ZoR):Bool:=ZAl c.Text&&(!c.Null||c.Text == [])
def Zyq (t:ZoG):Int:=match t.Columns with | []=>0 |c::_=>c.Cells.length
def ZGU (n:Int) (c:ZoJ):Bool:=ZAl c.Name&&((c.Cells.length:Int) == n&&c.Cells.all ZDz)
def ZDV (t:ZoG):Bool:=decide (0≤t.ID)&&(decide (t.ID≤1073741824)&&(ZAl t.Name&&(decide ((t.Columns.length:Int)≤64)&&(decide (Zyq t≤4096)&&t.Columns.all (ZGU (Zyq t))))))
end Go.Proofs
namespace Go.Proofs
open Go Eng
theorem ZDv (s:Str):Zw4 s=some (ZAl s):=by
 unfold Zw4 Zw8 ZzL ZAl
 by_cases h:(s.length:Int)≤1024
 ·rw[decide_eq_true h,ZHX s (by omega)];rfl
 ·rw[decide_eq_false h];rfl
theorem ZGp (c:ZoR):Zwg c=some (ZDz c):=by unfold Zwg ZsF ZDz;rw[ZDv];cases ZAl c.Text<;>cases c.Null<;>simp
theorem ZGR (l:List ZoR) (hl:l.length≤1000000000000):Ztz l=some (l.all ZDz):=by
 refine Zqy ?_;unfold Ztz Zug;rw[ZoN];refine Zo4 (ZGZ (f:=fun n i=>Zr5 n l (l.length:Int) i) (body:=fun rec i=>Zq9 (fun _ _ i=>rec i) l (l.length:Int) i) l ZDz false (fun n i=>rfl) hl (fun rec i h Q h0 h1=> ?_) (fun rec Q h0=> ?_)) ?_
 ·unfold Zq9;simp only[Zo6,ZoN,ZBU,ZoO,ZoK,ZGp,decide_eq_true_eq,decide_eq_false_iff_not,ZNF,Bool.not_eq_true',Bool.not_eq_false'];exact⟨fun _=>⟨by omega,h,h0,fun hc=>⟨ZoS (by omega),h1 hc⟩⟩,fun hc=>absurd (by omega) hc⟩
 ·unfold Zq9;simp only[Zo6,ZoK,decide_eq_true_eq,decide_eq_false_iff_not];exact⟨fun hc=>absurd hc (by omega),fun _=>h0⟩
 ·rintro r rfl;cases l.all ZDz<;>simp[ZoK]
theorem ZAr (t:ZoG):ZuT t=some (Zyq t):=by
 unfold ZuT Zyq;cases t.Columns with
 |nil=>rfl
 |cons c l=>
  have:(((c::l).length:Int) == 0)=false:=by rw[ZNN,beq_eq_false_iff_ne];omega
  rw[this];rfl
theorem ZH5 (c:ZoJ) (t:ZoG) (hc:c.Cells.length≤1000000000000):Zw9 c t=some (!ZGU (Zyq t) c):=by
 unfold Zw9 ZtR ZGU;rw[ZDv,ZAr,ZGR _ hc];cases ZAl c.Name
 ·rfl
 ·simp only[ZOs,Bool.not_true,cond_false,bne,Bool.true_and];cases (c.Cells.length:Int) == Zyq t<;>rfl
theorem ZGN (l:List ZoJ) (t:ZoG) (hl:l.length≤1000000000000) (hc:∀c∈l,c.Cells.length≤1000000000000):Zpe l t=some (!l.all (ZGU (Zyq t))):=by
 refine Zqy ?_;unfold Zpe Zp1 ZpO;rw[ZoN,ZoN];refine Zo4 (ZCs (f:=fun n i=>Zpd n l t (l.length:Int) i) (body:=fun rec i=>ZpE (fun _ _ _ i=>rec i) l t (l.length:Int) i) (fun n i=>rfl)
  (fun i=>∃k:Nat,k≤l.length∧i=(k:Int)∧(l.take k).all (ZGU (Zyq t))=true) (fun i=>l.length - i.toNat)
  (fun r=>(r= .brk ()∧l.all (ZGU (Zyq t))=true)∨∃k:Nat,r= .ret (k:Int)∧l.all (ZGU (Zyq t))=false) ?_ big 0 ⟨0,Nat.zero_le _,rfl,by simp⟩ (Zz1 (by omega))) ?_
 ·rintro rec i ⟨k,hk,rfl,hp⟩ ih;unfold ZpE;rw[Zo6];refine⟨fun h=> ?_,fun h=> ?_⟩
  ·simp only[decide_eq_true_eq]at h;have hlt:k < l.length:=by omega
   rw[ZoN,ZBU];refine⟨by omega,by omega, ?_⟩;simp only[ZNF];rw[ZH5 _ _ (hc _ (ZNL _)),ZoN,ZoK,Zo6,ZoK,ZoO];refine⟨fun h1=> .inr ⟨k,rfl, ?_⟩,fun h1=>⟨ZoS (by omega),ih _ ⟨k+1,by omega,by omega, ?_⟩ (by omega)⟩⟩
   ·simp only[Bool.not_eq_true']at h1;exact List.all_eq_false.2 ⟨l[k],ZNL _,by rw[h1];simp⟩
   ·simp only[Bool.not_eq_false']at h1;rw[ZNX hlt,List.all_append,hp];simp[h1]
  ·simp only[decide_eq_false_iff_not]at h;have:k=l.length:=by omega
   subst this;rw[List.take_length]at hp;rw[ZoK];exact .inl ⟨rfl,hp⟩
 ·rintro r (⟨rfl,h⟩ |⟨k,rfl,h⟩)
  ·simp only[ZoK,h];rfl
  ·simp only[ZoK,h,Bool.not_false,decide_eq_true_eq];omega
theorem ZCl (t:ZoG) (hl:t.Columns.length≤1000000000000) (hc:∀c∈t.Columns,c.Cells.length≤1000000000000):ZqO t=some (ZDV t):=by
 unfold ZqO Zsz ZDV;rw[ZDv,ZAr,ZGN _ _ hl hc];simp only[ZOs]
 by_cases h1:t.ID < 0
 ·simp[h1];omega
 by_cases h2:t.ID > 1073741824
 ·simp[h1,h2];omega
 cases h3:ZAl t.Name
 ·simp[h1,h2]
 by_cases h4:(t.Columns.length:Int) > 64
 ·simp[h1,h2,h4];omega
 by_cases h5:Zyq t > 4096
 ·simp[h1,h2,h4,h5];omega
 have e1:0≤t.ID:=by omega
 have e2:t.ID≤1073741824:=by omega
 have e4:(t.Columns.length:Int)≤64:=by omega
 have e5:Zyq t≤4096:=by omega
 rw[decide_eq_false h1,decide_eq_false h2,decide_eq_false h4,decide_eq_false h5,decide_eq_true e1,decide_eq_true e2,decide_eq_true e4,decide_eq_true e5];simp
end Go.Proofs
namespace Go.Proofs
open Go Eng
theorem ZGy (t:ZoG):ZsL t=some (Zyq t):=by
 unfold ZsL Zyq;cases t.Columns with
 |nil=>rfl
 |cons c l=>
  have:(((c::l).length:Int) == 0)=false:=by rw[ZNN,beq_eq_false_iff_ne];omega
  rw[this];rfl
end Go.Proofs
namespace Go.Proofs
open Go Eng
theorem ZxX (w a:Nat) (h:a < 2 ^ w):(BitVec.ofInt w (a:Int)).toNat=a:=by rw[BitVec.toNat_ofInt];have:((a:Int) % ((2 ^ w:Nat):Int))=(a:Int):=Int.emod_eq_of_lt (by omega) (by exact_mod_cast h);rw[this];simp
theorem ZCz {a b:Nat} (ha:a < 4294967296) (hb:b < 4294967296):andK .u32 (a:Int) (b:Int)=((a&&& b:Nat):Int):=by unfold andK;rw[show IntKind.bits .u32=32 from rfl,BitVec.toNat_and,ZxX 32 a ha,ZxX 32 b hb,IntKind.wrap_u32];have:=Nat.and_lt_two_pow (n:=32) a hb;omega
theorem ZCX {a b:Nat} (ha:a < 4294967296) (hb:b < 4294967296):orK .u32 (a:Int) (b:Int)=((a|||b:Nat):Int):=by unfold orK;rw[show IntKind.bits .u32=32 from rfl,BitVec.toNat_or,ZxX 32 a ha,ZxX 32 b hb,IntKind.wrap_u32];have:=Nat.or_lt_two_pow (n:=32) ha hb;omega
theorem ZDh {a b:Nat} (ha:a < 4294967296) (hb:b < 4294967296):xorK .u32 (a:Int) (b:Int)=((a ^^^ b:Nat):Int):=by unfold xorK;rw[show IntKind.bits .u32=32 from rfl,BitVec.toNat_xor,ZxX 32 a ha,ZxX 32 b hb,IntKind.wrap_u32];have:=ZOq (n:=32) ha hb;omega
theorem ZKj {a b:Nat} (ha:a < 18446744073709551616) (hb:b < 18446744073709551616):orK .u64 (a:Int) (b:Int)=((a|||b:Nat):Int):=by unfold orK;rw[show IntKind.bits .u64=64 from rfl,BitVec.toNat_or,ZxX 64 a ha,ZxX 64 b hb,IntKind.wrap_u64];have:=Nat.or_lt_two_pow (n:=64) ha hb;omega
theorem ZzK {a:Nat} (k:Nat) (hk:k≤64):shrK .u64 (a:Int) (k:Int)=((a / 2 ^ k:Nat):Int):=by
 unfold shrK;rw[show IntKind.bits .u64=64 from rfl,ZNF,ZN8 hk,Int.fdiv_eq_ediv_of_nonneg _ (Int.le_of_lt (Int.pow_pos (by decide)))]
 norm_cast
theorem ZAi {a:Nat} (k:Nat) (hk:k≤32):shrK .u32 (a:Int) (k:Int)=((a / 2 ^ k:Nat):Int):=by
 unfold shrK;rw[show IntKind.bits .u32=32 from rfl,ZNF,ZN8 hk,Int.fdiv_eq_ediv_of_nonneg _ (Int.le_of_lt (Int.pow_pos (by decide)))]
 norm_cast
theorem Zwe (a:Nat):IntKind.wrap .u32 (a:Int)=((a % 4294967296:Nat):Int):=by rw[IntKind.wrap_u32];omega
theorem Zpm {a:Nat} (h:a < 18446744073709551616):IntKind.wrap .u64 (a:Int)=(a:Int):=by rw[IntKind.wrap_u64];omega
theorem ZwK {a:Nat} (h:a < 4294967296):IntKind.wrap .u32 (a:Int)=(a:Int):=by rw[IntKind.wrap_u32];omega
theorem ZK5 {a b c:Nat} (ha:a < 4294967296) (hb:b < 4294967296) (hc:c≤1):ZuJ (a:Int) (b:Int) (c:Int)=some ((((a+b+c) % 4294967296:Nat):Int),(((a+b+c) / 4294967296:Nat):Int)):=by
 unfold ZuJ;have e:IntKind.wrap .u64 ((IntKind.wrap .u64 ((IntKind.wrap .u64 (a:Int))+(IntKind.wrap .u64 (b:Int))))+(IntKind.wrap .u64 (c:Int)))=((a+b+c:Nat):Int):=by rw[Zpm (by omega),Zpm (by omega),Zpm (by omega),←ZKg,Zpm (by omega),←ZKg,Zpm (by omega)]
 rw[e,show (32:Int)=((32:Nat):Int)from rfl,ZzK 32 (by omega),Zwe,ZwK (a:=(a+b+c) / 2 ^ 32) (by omega)];rfl
theorem ZIT {a:Nat} (h:a < 4294967296):(a >>> 31=0∧a < 2147483648)∨(a >>> 31=1∧2147483648≤a):=by rw[Nat.shiftRight_eq_div_pow];omega
theorem ZH8 {a b c:Nat} (ha:a < 4294967296) (hb:b < 4294967296) (hc:c≤1):Zs3 (a:Int) (b:Int) (c:Int)=some ((((a+4294967296 - b - c) % 4294967296:Nat):Int),((if a < b+c then 1 else 0:Nat):Int)):=by
 unfold Zs3;have hM:(if IntKind.signed .u32 then (-1:Int)else IntKind.max .u32)=((4294967295:Nat):Int):=rfl;have e:IntKind.wrap .u32 ((IntKind.wrap .u32 ((a:Int) - (b:Int))) - (c:Int))=(((a+4294967296 - b - c) % 4294967296:Nat):Int):=by rw[IntKind.wrap_u32,IntKind.wrap_u32];omega
 have hD:(a+4294967296 - b - c) % 4294967296 < 4294967296:=ZOb _ (by decide);rw[hM,e];generalize hd:(a+4294967296 - b - c) % 4294967296=D at hD⊢
 have h1:a ^^^ b < 4294967296:=ZOq (n:=32) ha hb;have h2:4294967295 ^^^ a < 4294967296:=ZOq (n:=32) (by decide) ha;have h3:4294967295 ^^^ (a ^^^ b) < 4294967296:=ZOq (n:=32) (by decide) h1;have h4:(4294967295 ^^^ a)&&& b < 4294967296:=Nat.and_lt_two_pow (n:=32) _ hb;have h5:(4294967295 ^^^ (a ^^^ b))&&& D < 4294967296:=Nat.and_lt_two_pow (n:=32) _ hD;rw[ZDh (by decide) ha,ZDh ha hb,ZDh (by decide) h1,ZCz h2 hb,ZCz h3 hD,ZCX h4 h5,show (31:Int)=((31:Nat):Int)from rfl,ZAi 31 (by omega)];rw[←Nat.shiftRight_eq_div_pow,Nat.shiftRight_or_distrib,Nat.shiftRight_and_distrib,Nat.shiftRight_and_distrib,ZOn,ZOn,ZOn];have hm:(4294967295:Nat) >>> 31=1:=by decide
 rw[hm];have key:(1 ^^^ a >>> 31)&&& b >>> 31|||(1 ^^^ (a >>> 31 ^^^ b >>> 31))&&& D >>> 31=if a < b+c then 1 else 0:=by rcases ZIT ha with ⟨qa,pa⟩ |⟨qa,pa⟩<;>rcases ZIT hb with ⟨qb,pb⟩ |⟨qb,pb⟩<;>rcases ZIT hD with ⟨qd,pd⟩ |⟨qd,pd⟩<;>rw[qa,qb,qd]<;>split<;>first |rfl |(exfalso;omega)
 rw[key];rfl
theorem ZC2 {h l:Nat} (hh:h < 4294967296) (hl:l < 4294967296):orK .u64 (shlK .u64 (IntKind.wrap .u64 (h:Int)) 32) (IntKind.wrap .u64 (l:Int))=((h*4294967296+l:Nat):Int):=by
 have e1:shlK .u64 (IntKind.wrap .u64 (h:Int)) 32=((h*4294967296:Nat):Int):=by unfold shlK;rw[Zpm (by omega),show min (32:Int).toNat (IntKind.bits .u64)=32 from by decide,IntKind.wrap_u64];omega
 rw[e1,Zpm (by omega),ZKj (by omega) (by omega)];have:=Nat.shiftLeft_add_eq_or_of_lt (i:=32) (b:=l) (by omega) h;simp only[Nat.shiftLeft_eq,Nat.reducePow]at this;omega
theorem ZMO {h l y:Nat} (hy:h < y) (hl:l < 4294967296) (hy2:y < 4294967296):Zwl (h:Int) (l:Int) (y:Int)=some ((((h*4294967296+l) / y:Nat):Int),(((h*4294967296+l) % y:Nat):Int)):=by
 have hle:¬((y:Int)≤(h:Int)):=by omega
 have hq:(h*4294967296+l) / y < 4294967296:=(ZN3 (by omega)).2 (by
  have:(h+1)*4294967296≤y*4294967296:=ZOh _ hy;omega)
 have hr:(h*4294967296+l) % y < y:=ZOb _ (by omega);have hj:ZsI (h:Int) (l:Int) (y:Int) false=some ((((h*4294967296+l) / y:Nat):Int),(((h*4294967296+l) % y:Nat):Int)):=by
  unfold ZsI;rw[cond_false,ZC2 (by omega) hl,Zpm (by omega)];have hne:decide ((y:Int)≠0)=true:=decide_eq_true (by omega);rw[hne,chk_true,chk_true];have e1:Int.tdiv ((h*4294967296+l:Nat):Int) (y:Int)=(((h*4294967296+l) / y:Nat):Int):=by rw[Int.tdiv_eq_ediv_of_nonneg (by omega)];norm_cast
  have e2:Int.tmod ((h*4294967296+l:Nat):Int) (y:Int)=(((h*4294967296+l) % y:Nat):Int):=by rw[Int.tmod_eq_emod_of_nonneg (by omega)];norm_cast
  rw[e1,e2,Zpm (by omega),ZwK hq,ZwK (by omega)];rfl
 unfold Zwl;rw[decide_eq_false hle,hj];cases ((y:Int) != 0)<;>rfl
def ZMc:List Int:=[0,1,2,2,3,3,3,3,4,4,4,4,4,4,4,4]++ZNS 16 5++ZNS 32 6++ZNS 64 7++ZNS 128 8
theorem ZGG:Zrm=fun x n=>(idx (ZMc.map fun n=>UInt8.ofNat n.toNat) (IntKind.wrap .u8 x)).bind fun c=>
 chk (inK .i64 (n+(IntKind.wrap .i64 ((c.toNat:Nat):Int)))) <|
 some (n+(IntKind.wrap .i64 ((c.toNat:Nat):Int))):=by kernel_rfl
theorem ZGH:((List.range 256).all fun v=>match (ZMc.map fun n=>UInt8.ofNat n.toNat)[v]? with |some c=>decide (v < 2 ^ c.toNat∧2 ^ c.toNat≤2*v+(if v=0 then 1 else 0)∧c.toNat≤8) |none=>false)=true:=by kernel_rfl
theorem ZGF {v:Nat} (h:v < 256):∃c:UInt8,(ZMc.map fun n=>UInt8.ofNat n.toNat)[v]? =some c∧v < 2 ^ c.toNat∧(v≠0→2 ^ c.toNat≤2*v)∧c.toNat≤8:=by have:=List.all_eq_true.1 ZGH v (List.mem_range.2 h);split at this;rotate_left;simp at this;rename_i c hc;obtain⟨h1,h2,h3⟩:=of_decide_eq_true this;refine⟨c,hc,h1,fun h0=> ?_,h3⟩;rw[if_neg h0]at h2;omega
theorem ZGI {v:Nat} (h:v < 256) (n:Nat) (hn:n≤100):∃k:Nat,Zrm (v:Int) (n:Int)=some (((n+k:Nat):Int))∧v < 2 ^ k∧(v≠0→2 ^ k≤2*v)∧k≤8:=by
 obtain⟨c,hc,h1,h2,h3⟩:=ZGF h;refine⟨c.toNat, ?_,h1,h2,h3⟩;have e:idx (ZMc.map fun n=>UInt8.ofNat n.toNat) (IntKind.wrap .u8 (v:Int))=some c:=by rw[IntKind.wrap_u8,show (v:Int) % 256=(v:Int) by omega];unfold idx;rw[if_pos (by omega),ZNF,hc]
 rw[ZGG];dsimp only;rw[e,ZOs,wrap_i64 (by omega),ZoS (by omega),chk_true]
 norm_cast
theorem ZKq {x:Nat} (h0:x≠0) (h:x < 4294967296):∃s:Nat,s≤31∧Zrw (x:Int)=some (s:Int)∧2147483648≤x*2 ^ s∧x*2 ^ s < 4294967296:=by
 have key:∃k:Nat,Zwk (x:Int)=some (k:Int)∧x < 2 ^ k∧2 ^ k≤2*x∧k≤32:=by
  unfold Zwk Zux;have d16:shrK .u32 (x:Int) 16=((x / 65536:Nat):Int):=ZAi 16 (by omega);have fin:∀(n v:Nat),n≤24→v < 256→v≠0→x / 2 ^ n=v→∃k:Nat,Zrm (v:Int) (n:Int)=some (k:Int)∧x < 2 ^ k∧2 ^ k≤2*x∧k≤32:=fun n v hn hv hv0 hx=>by
   obtain⟨k,q1,q2,q3,q4⟩:=ZGI hv n (by omega);refine⟨n+k,q1, ?_, ?_,by omega⟩
   ·rw[ZOl,ZOe];exact(ZN3 (ZOp n)).1 (by omega)
   ·rw[ZOl];have h1:2 ^ n*v≤x:=by rw[←hx];exact Nat.mul_div_le x (2 ^ n)
    have h2:2 ^ n*2 ^ k≤2 ^ n*(2*v):=ZOg _ (q3 hv0);have h3:2 ^ n*(2*v)=2*(2 ^ n*v):=by rw[ZOi]
    omega
  by_cases c1:65536≤x
  ·rw[decide_eq_true (by omega:(x:Int)≥65536),cond_true,d16];show ∃k:Nat,(bif decide (((x / 65536:Nat):Int)≥256)then _ else _)=_∧_
   by_cases c2:256≤x / 65536
   ·rw[decide_eq_true (by omega:((x / 65536:Nat):Int)≥256),cond_true];have d8:shrK .u32 ((x / 65536:Nat):Int) 8=((x / 65536 / 256:Nat):Int):=ZAi 8 (by omega);rw[d8];exact fin 24 (x / 65536 / 256) (by omega) (by omega) (by omega) (by omega)
   ·rw[decide_eq_false (by omega:¬((x / 65536:Nat):Int)≥256),cond_false];exact fin 16 (x / 65536) (by omega) (by omega) (by omega) (by omega)
  ·rw[decide_eq_false (by omega:¬(x:Int)≥65536),cond_false]
   by_cases c2:256≤x
   ·rw[decide_eq_true (by omega:(x:Int)≥256),cond_true];have d8:shrK .u32 (x:Int) 8=((x / 256:Nat):Int):=ZAi 8 (by omega);rw[d8];exact fin 8 (x / 256) (by omega) (by omega) (by omega) (by omega)
   ·rw[decide_eq_false (by omega:¬(x:Int)≥256),cond_false];exact fin 0 x (by omega) (by omega) h0 (by omega)
 obtain⟨k,hk,h1,h2,h3⟩:=key;have hk1:1≤k:=by
  rcases ZN4 k with rfl |hp
  ·simp at h1;omega
  ·exact hp
 refine⟨32 - k,by omega, ?_, ?_, ?_⟩
 ·unfold Zrw;rw[hk,ZOs,ZoS (by omega),chk_true,show (32:Int) - (k:Int)=((32 - k:Nat):Int) by omega]
 ·have e:2 ^ k*2 ^ (32 - k)=4294967296:=by rw[←ZOl,show k+(32 - k)=32 by omega]
  have:2 ^ k*2 ^ (32 - k)≤2*x*2 ^ (32 - k):=ZOh _ h2;rw[ZOd]at this;omega
 ·have e:2 ^ k*2 ^ (32 - k)=4294967296:=by rw[←ZOl,show k+(32 - k)=32 by omega]
  have:x*2 ^ (32 - k) < 2 ^ k*2 ^ (32 - k):=Nat.mul_lt_mul_of_pos_right h1 (ZOp _);omega
end Go.Proofs
namespace Go.Proofs
open Go Eng
def iL (l:List Nat):List Int:=l.map fun(n:Nat)=>(n:Int)
theorem Zpb (l:List Nat):(iL l).length=l.length:=by unfold iL;simp
theorem ZC3 (a b:List Nat):iL (a++b)=iL a++iL b:=by unfold iL;simp
theorem ZKy:iL []=[]:=rfl
theorem ZAe {l:List Nat} {i:Nat} (h:i < l.length):(iL l)[i]? =some (l[i]:Int):=by unfold iL;simp[h]
theorem Zvf {l:List Nat} {i:Nat} (h:i < l.length):idx (iL l) (i:Int)=some (l[i]:Int):=by unfold idx;rw[if_pos (by omega),ZNF,ZAe h]
theorem Zzz (l:List Nat) (i x:Nat):(iL l).set i (x:Int)=iL (l.set i x):=by unfold iL;rw[List.map_set]
theorem ZDt (l:List Nat) (i:Nat):(iL l).take i=iL (l.take i):=by unfold iL;rw[List.map_take]
theorem ZB1 (n:Nat):ZNS n (0:Int)=iL (ZNS n 0):=by unfold iL;rw[List.map_replicate];rfl
abbrev Bw:Nat:=4294967296
def val:List Nat→Nat
 | []=>0
 |d::r=>d+Bw*val r
def Dg (l:List Nat):Prop:=∀d∈l,d < Bw
theorem Dg.app {a b:List Nat} (ha:Dg a) (hb:Dg b):Dg (a++b):=fun d hd=>(List.mem_append.1 hd).elim (ha d) (hb d)
theorem ZAg:Dg []:=fun _ h=>by simp at h
theorem ZzZ {x:Nat} (h:x < Bw):Dg [x]:=fun d hd=>by simp only[List.mem_singleton]at hd;subst hd;exact h
theorem ZHn (n:Nat):Dg (ZNS n 0):=fun d hd=>by rw[List.mem_replicate]at hd;rw[hd.2];decide
theorem Dg.take {a:List Nat} (h:Dg a) (k:Nat):Dg (a.take k):=fun d hd=>h d (List.mem_of_mem_take hd)
theorem Dg.drop {a:List Nat} (h:Dg a) (k:Nat):Dg (a.drop k):=fun d hd=>h d (List.mem_of_mem_drop hd)
theorem Dg.set {a:List Nat} (h:Dg a) (i:Nat) {x:Nat} (hx:x < Bw):Dg (a.set i x):=fun d hd=>by
 rcases List.mem_or_eq_of_mem_set hd with h1 |h1
 ·exact h d h1
 ·rw[h1];exact hx
theorem Dg.get {a:List Nat} (h:Dg a) {i:Nat} (hi:i < a.length):a[i] < Bw:=h _ (ZNL hi)
theorem ZyM:∀a b:List Nat,val (a++b)=val a+Bw ^ a.length*val b
 | [],b=>by simp[val]
 |d::a,b=>by simp only[List.cons_append,val,ZyM a b,ZNN,ZOm,ZOc];rw[ZOe (Bw ^ a.length) Bw,ZOd];omega
theorem ZwR (a:List Nat) (x:Nat):val (a++[x])=val a+Bw ^ a.length*x:=by rw[ZyM];simp[val]
theorem Zwr:∀{l:List Nat},Dg l→val l < Bw ^ l.length
 | [],_=>by simp[val]
 |d::r,h=>by
  have h1:=h d (by simp);have h2:=Zwr (l:=r) fun x hx=>h x (by simp[hx])
  simp only[val,ZNN,ZOm];have:Bw*(val r+1)≤Bw*Bw ^ r.length:=ZOg _ h2;rw[ZOe (Bw ^ r.length) Bw];rw[ZOc,Nat.mul_one]at this;exact Nat.lt_of_lt_of_le (by omega) this
theorem ZE4 (n:Nat):val (ZNS n 0)=0:=by
 induction n with
 |zero=>rfl
 |succ n ih=>rw[List.replicate_succ,val,ih,ZOj]
theorem Zpl {l:List Nat} {k:Nat} (h:k < l.length):val (l.take (k+1))=val (l.take k)+Bw ^ k*l[k]:=by rw[ZNX h,ZwR,ZNR,ZN8 (by omega)]
def wd (n:Nat):List Nat:=if h:n=0 then []else n % Bw::wd (n / Bw)
termination_by n
decreasing_by exact Nat.div_lt_self (Nat.pos_of_ne_zero h) (by decide)
theorem ZuU:wd 0=[]:=by unfold wd;simp
theorem ZAq {n:Nat} (h:n≠0):wd n=n % Bw::wd (n / Bw):=by rw[wd,dif_neg h]
theorem Zxy (n:Nat):Dg (wd n):=by
 induction n using Nat.strongRecOn with
 |ind n ih=>
  by_cases h:n=0
  ·rw[h,ZuU];exact ZAg
  ·rw[ZAq h];intro d hd;rcases List.mem_cons.1 hd with rfl |hd
   ·exact ZOb _ (by decide)
   ·exact ih (n / Bw) (Nat.div_lt_self (Nat.pos_of_ne_zero h) (by decide)) d hd
theorem Zup (n:Nat):val (wd n)=n:=by
 induction n using Nat.strongRecOn with
 |ind n ih=>
  by_cases h:n=0
  ·rw[h,ZuU];rfl
  ·rw[ZAq h,val,ih (n / Bw) (Nat.div_lt_self (Nat.pos_of_ne_zero h) (by decide))];exact ZN9 n Bw
theorem Zyr {n k:Nat} (h:n < Bw ^ k):(wd n).length≤k:=by
 induction k generalizing n with
 |zero=>
  have:n=0:=by simpa using h
  rw[this,ZuU];simp
 |succ k ih=>
  by_cases h0:n=0
  ·rw[h0,ZuU];simp
  ·rw[ZAq h0,ZNN];have:n / Bw < Bw ^ k:=(ZN3 (by decide)).2 (by rw[←ZOm];exact h);have:=ih this;omega
theorem ZtP {n:Nat} (h:n≠0):0 < (wd n).length:=by rw[ZAq h];simp
theorem ZJZ {n:Nat}:wd n=[]↔n=0:=⟨fun h=>by have:=Zup n;rw[h]at this;exact this.symm,fun h=>by rw[h,ZuU]⟩
theorem ZvO (n:Nat):n < Bw ^ (wd n).length:=by have:=Zwr (Zxy n);rwa [Zup]at this
def ZCN (l:List Nat):List Nat:=(l.reverse.dropWhile (· == 0)).reverse
theorem ZBW (l:List Nat) (x:Nat):ZCN (l++[x])=if x=0 then ZCN l else l++[x]:=by
 unfold ZCN;rw[List.reverse_append,List.reverse_singleton,List.singleton_append,List.dropWhile_cons]
 by_cases h:x=0
 ·simp[h]
 ·simp[h]
theorem ZDP:∀{l:List Nat} {x:Nat},Dg (l++[x])→x≠0→wd (val (l++[x]))=l++[x]
 | [],x,h,hx=>by have h1:x < Bw:=h x (by simp);simp only[List.nil_append,val,ZOj,ZN0];rw[ZAq hx,ZOa h1,ZN2 h1,ZuU]
 |d::l,x,h,hx=>by
  have h1:d < Bw:=h d (by simp);have ih:=ZDP (l:=l) (x:=x) (fun y hy=>h y (by simp only[List.cons_append,List.mem_cons];exact .inr hy)) hx;have hne:val (l++[x])≠0:=fun e=>by rw[e,ZuU]at ih;simp at ih
  simp only[List.cons_append,val];rw[ZAq (by simp only[Bw];omega),Nat.add_mul_mod_self_left,ZOa h1,Nat.add_mul_div_left _ _ (by decide),ZN2 h1,ZOr,ih]
theorem ZDU:∀(n:Nat) {l:List Nat},l.length=n→Dg l→ZCN l=wd (val l)
 |0,l,hl,_=>by rw[List.eq_nil_of_length_eq_zero hl];simp[ZCN,val,ZuU]
 |n+1,l,hl,h=>by
  rcases List.eq_nil_or_concat l with rfl |⟨v,x,rfl⟩
  ·simp at hl
  ·rw[List.concat_eq_append]at hl h⊢
   rw[ZBW];split
   ·rename_i h0;subst h0;rw[ZDU n (by simpa using hl) (fun d hd=>h d (by simp[hd])),ZwR,ZOj,ZN0]
   ·rename_i h0;exact(ZDP h h0).symm
theorem Zzm {l:List Nat} (h:Dg l) (hl:l.length≤1000000):Zo9 (iL l)=some (iL (wd (val l))):=by
 rw[←ZDU _ rfl h];refine Zqy ?_;unfold Zo9 Zv2;rw[ZoN];refine Zo4 (ZAp Zy5 (fun(w:List Nat)=>iL w) (fun w=>ZCN w=ZCN l∧w.length≤1000000) List.length (Q:=fun x=>x=iL (ZCN l)) l ⟨rfl,hl⟩ (by omega) ?_) (fun x hx=>by rw[ZoK];exact hx);rintro rec w ⟨hw,hwl⟩ ih;unfold Zxh ZsS ZtW;rcases List.eq_nil_or_concat w with rfl |⟨v,x,rfl⟩
 ·show wp (some (iL [])) _;rw[ZoK,←hw];rfl
 ·rw[List.concat_eq_append]at hw hwl⊢
  rw[ZBW]at hw;have hlen:(iL (v++[x])).length=v.length+1:=by rw[Zpb];simp
  rw[Zo6];refine⟨fun _=> ?_,fun h=>by simp only[decide_eq_false_iff_not]at h;omega⟩;have ei:((iL (v++[x])).length:Int) - 1=(v.length:Int):=by rw[hlen];omega
  have hx:(v++[x])[v.length]'(by simp)=x:=by simp
  rw[ei,ZoO,ZoN,Zvf (by simp),ZoK,hx,Zo6];refine⟨ZoS (by simp at hwl;omega),fun h=> ?_,fun h=> ?_⟩
  ·have h0:x=0:=by have:=eq_of_beq h;omega
   rw[if_pos h0]at hw;rw[ZoO,ZoO];refine⟨ZoS (by simp at hwl;omega),ZpZ (by omega), ?_⟩;have:(iL (v++[x])).take ((v.length:Int)).toNat=iL v:=by rw[ZDt,ZNF];simp
   rw[this];exact ih v ⟨hw,by simp at hwl;omega⟩ (by simp)
  ·have h0:x≠0:=by intro e;subst e;simp at h
   rw[if_neg h0]at hw;rw[ZoK,←hw]
theorem ZIY (l:List Nat) (i:Nat):ZrS (iL l) (i:Int)=some ((l.getD i 0:Nat):Int):=by
 unfold ZrS;rw[Zpb]
 by_cases h:i < l.length
 ·rw[decide_eq_true (by omega),cond_true,Zvf h,ZOs,ZNG,ZNH h];rfl
 ·rw[decide_eq_false (by omega),cond_false,ZNG,ZNI (by omega)];rfl
theorem ZBA {l:List Nat} (h:Dg l) (i:Nat):l.getD i 0 < Bw:=by
 rw[ZNG]
 by_cases hi:i < l.length
 ·rw[ZNH hi];exact h.get hi
 ·rw[ZNI (by omega)];decide
theorem Zyh (l:List Nat) (k:Nat):val (l.take (k+1))=val (l.take k)+Bw ^ k*l.getD k 0:=by
 rw[ZNG]
 by_cases h:k < l.length
 ·rw[Zpl h,ZNH h];rfl
 ·rw[ZNI (by omega),ZNW (by omega),ZNW (by omega)];simp
theorem ZFp (a b:Nat) (ha:(wd a).length≤100000) (hb:(wd b).length≤100000):Zsi (iL (wd a)) (iL (wd b))=some (iL (wd (a+b))):=by
 obtain⟨m,hm,hma,hmb,hm2⟩:∃m:Nat,(if ((iL (wd b)).length:Int) > ((iL (wd a)).length:Int)then ((iL (wd b)).length:Int)else ((iL (wd a)).length:Int))=(m:Int)∧(wd a).length≤m∧(wd b).length≤m∧m≤100000:=by
  rw[Zpb,Zpb]
  by_cases h:((wd b).length:Int) > ((wd a).length:Int)
  ·exact⟨(wd b).length,by rw[if_pos h],by omega,by omega,hb⟩
  ·exact⟨(wd a).length,by rw[if_neg h],by omega,by omega,ha⟩
 refine Zqy ?_;unfold Zsi;rw[hm,ZoO,ZoO,ZoN];refine⟨ZoS (by omega),decide_eq_true (by unfold ZD;omega), ?_⟩;refine Zo4 (Ztq Zyw m (by omega) (fun i (s:Nat×List Nat)=>(iL (wd a),iL (wd b),(s.1:Int),(m:Int),i,iL s.2)) (fun i s=>s.1≤1∧s.2.length=i∧Dg s.2∧val s.2+Bw ^ i*s.1=val ((wd a).take i)+val ((wd b).take i))
  (Q:=fun y=>∃(c:Nat) (o:List Nat),y=((c:Int),iL o)∧c≤1∧Dg o∧o.length=m∧val o+Bw ^ m*c=a+b) (0,[]) ⟨by simp,rfl,ZAg,by simp[val]⟩ ?_ ?_) ?_
 ·rintro rec i ⟨c,o⟩ hlt ⟨hc,hl,hd,hv⟩ ih;dsimp only at hc hl hd hv ih;have h1:=ZBA (Zxy a) i;have h2:=ZBA (Zxy b) i;unfold ZtK Zrx;dsimp only;rw[Zo6];refine⟨fun _=> ?_,fun h=>by simp only[decide_eq_false_iff_not]at h;omega⟩;rw[ZIY,ZoN,ZoK,ZIY,ZoN,ZoK,ZK5 h1 h2 hc,ZoN,ZoK];dsimp only;rw[ZoO,ZoO,Zpb];refine⟨Zuo (by simp only[ZNQ];omega),ZoS (by omega), ?_⟩;generalize ex:(wd a).getD i 0=x at h1;generalize ey:(wd b).getD i 0=y at h2;have:=ih ((x+y+c) / Bw,o++[(x+y+c) % Bw]) ⟨?_,by simp[hl],hd.app (ZzZ (ZOb _ (by decide))), ?_⟩
  ·rw[ZC3]at this;exact this
  ·simp only[Bw]at h1 h2⊢;omega
  ·dsimp only;rw[ZwR,hl,ZOm,Zyh,Zyh,ex,ey,Nat.add_assoc,ZOd,←ZOc,ZN9,ZOc,ZOc];omega
 ·rintro rec ⟨c,o⟩ ⟨hc,hl,hd,hv⟩;unfold ZtK Zrx;dsimp only;rw[Zo6];refine⟨fun h=>by simp only[decide_eq_true_eq]at h;omega,fun _=> ?_⟩;rw[ZoK];rw[ZNW hma,ZNW hmb,Zup,Zup]at hv;exact⟨c,o,rfl,hc,hd,hl,hv⟩
 ·rintro y ⟨c,o,rfl,hc,hd,hl,hv⟩;dsimp only;unfold ZuK;rw[ZoO,Zpb];refine⟨Zuo (by simp only[ZNQ];omega), ?_⟩;have e:iL o++[(c:Int)]=iL (o++[c]):=by rw[ZC3];rfl
  rw[e,Zzm (hd.app (ZzZ (by unfold Bw;omega))) (by simp;omega),ZoN,ZoK,ZoK,ZwR,hl,hv]
end Go.Proofs
namespace Go.Proofs
open Go Eng
theorem ZAK {σ τ X:Type} {f:Nat→σ→Option X} {body:(σ→Option X)→σ→Option X} (hf:∀n s,f (n+1) s=body (f n) s)
  (m:Nat) (hm:m≤1000000000000000) (st:Int→τ→σ) (P:Nat→τ→Prop) {Q:X→Prop} (t0:τ) (h0:P m t0)
  (step:∀(rec:σ→Option X) k t,k < m→P (k+1) t→(∀t',P k t'→wp (rec (st ((k:Int) - 1) t')) Q)→wp (body rec (st (k:Int) t)) Q)
  (fin:∀(rec:σ→Option X) t,P 0 t→wp (body rec (st (-1) t)) Q):wp (f big (st ((m:Int) - 1) t0)) Q:=by
 have key:∀(n k:Nat) t,k≤m→P k t→k < n→wp (f n (st ((k:Int) - 1) t)) Q:=by
  intro n
  induction n with
  |zero=>intro k t _ _ h;omega
  |succ n ih=>
   intro k t hk hP hn;rw[hf];cases k with
   |zero=>exact fin _ t hP
   |succ k=>
    have e:((k+1:Nat):Int) - 1=(k:Int):=by omega
    rw[e];exact step _ k t (by omega) hP fun t' h'=>ih k t' (by omega) h' (by omega)
 exact key big m t0 (ZN5 _) h0 (Zz1 (by omega))
theorem Zz7 {n:Nat} (h:n≤1000000):mkOk (n:Int) (n:Int) 4=true:=by unfold mkOk ZD;exact decide_eq_true ⟨by omega,by omega,by omega,by omega⟩
def ZCE (a b:Nat):Int:=if a < b then -1 else if b < a then 1 else 0
theorem ZC7 (a b:Nat):ZuO (a:Int) (b:Int)=some (ZCE a b):=by
 unfold ZuO Zxn ZCE;rw[ZOs,ZOs,bne_self_eq_false,bne_self_eq_false,cond_false,cond_false]
 by_cases h1:a < b
 ·rw[decide_eq_true (by omega:(a:Int) < b),if_pos h1];rfl
 ·rw[decide_eq_false (by omega:¬(a:Int) < b),if_neg h1,cond_false]
  by_cases h2:b < a
  ·rw[decide_eq_true (by omega:(a:Int) > b),if_pos h2];rfl
  ·rw[decide_eq_false (by omega:¬(a:Int) > b),if_neg h2];rfl
theorem ZIR (a b:Nat):ZwE (a:Int) (b:Int)=some (ZCE a b):=ZC7 a b
theorem Zx7 {a b:Nat} (h:a < b):ZCE a b= -1:=by unfold ZCE;rw[if_pos h]
theorem ZxJ {a b:Nat} (h:b < a):ZCE a b=1:=by unfold ZCE;rw[if_neg (by omega),if_pos h]
theorem ZxY (a:Nat):ZCE a a=0:=by unfold ZCE;rw[if_neg (by omega),if_neg (by omega)]
theorem ZCK {n k:Nat} (h:k < (wd n).length):Bw ^ k≤n:=by
 rcases ZN6 n (Bw ^ k)with h1 |h1
 ·have:=Zyr h1;omega
 ·exact h1
theorem ZB0 {a b:Nat} (h:(wd a).length < (wd b).length):a < b:=Nat.lt_of_lt_of_le (ZvO a) (ZCK h)
theorem Zys {l:List Nat} {k:Nat} (h:k < l.length):val l=val (l.take k)+Bw ^ k*(l[k]+Bw*val (l.drop (k+1))):=by
 have e:l=l.take k++l[k]::l.drop (k+1):=by rw[ZNK,ZNV]
 have hl:(l.take k).length=k:=by rw[ZNR];omega
 calc val l=val (l.take k++l[k]::l.drop (k+1)):=by rw[←e]
  _=_:=by rw[ZyM,hl];rfl
theorem ZCh {p q x y A B:Nat} {k:Nat} (hp:p < Bw ^ k) (h:x < y):p+Bw ^ k*x < q+Bw ^ k*y:=by have:Bw ^ k*(x+1)≤Bw ^ k*y:=ZOg _ h;rw[ZOc,Nat.mul_one]at this;omega
theorem ZAY (a b:Nat) (ha:(wd a).length≤100000) (hb:(wd b).length≤100000):ZpF (iL (wd a)) (iL (wd b))=some (ZCE a b):=by
 refine Zqy ?_;unfold ZpF;rw[Zpb,Zpb,ZC7,ZoN,ZoK,Zo6];refine⟨fun h=> ?_,fun h=> ?_⟩
 ·rw[ZoK];rcases ZN7 (wd a).length (wd b).length with h1 |h1 |h1
  ·rw[Zx7 h1,Zx7 (ZB0 h1)]
  ·rw[h1,ZxY]at h;exact absurd h (by decide)
  ·rw[ZxJ h1,ZxJ (ZB0 h1)]
 ·have hl:(wd a).length=(wd b).length:=by
   rcases ZN7 (wd a).length (wd b).length with h1 |h1 |h1
   ·rw[Zx7 h1]at h;exact absurd h (by decide)
   ·exact h1
   ·rw[ZxJ h1]at h;exact absurd h (by decide)
  rw[ZoO,ZoN];refine⟨ZoS (by omega), ?_⟩;refine Zo4 (ZAK ZxS (wd a).length (by omega) (fun i (s:Unit)=>(iL (wd a),iL (wd b),i)) (fun k _=>(wd a).drop k=(wd b).drop k)
   (Q:=fun r=>r= .ret (ZCE a b)∧ZCE a b≠0∨r= .brk ()∧a=b) () (by rw[List.drop_length,hl,List.drop_length]) ?_ ?_) ?_
  ·rintro rec k ⟨⟩ hk hP ih;have hk2:k < (wd b).length:=by omega
   unfold ZsC ZqQ;dsimp only;rw[Zo6];refine⟨fun _=> ?_,fun h=>by simp only[decide_eq_false_iff_not]at h;omega⟩;rw[Zvf hk,ZoN,ZoK,Zvf hk2,ZoN,ZoK,ZIR,ZoN,ZoK];have ha:=Zys hk;have hb:=Zys hk2;rw[Zup]at ha hb;have la:val ((wd a).take k) < Bw ^ k:=by have:=Zwr ((Zxy a).take k);rwa [ZNR,ZN8 (by omega)]at this
   have lb:val ((wd b).take k) < Bw ^ k:=by have:=Zwr ((Zxy b).take k);rwa [ZNR,ZN8 (by omega)]at this
   rw[Zo6];refine⟨fun hc=> ?_,fun hc=> ?_⟩
   ·rw[ZoK];rcases ZN7 (wd a)[k] (wd b)[k]with h1 |h1 |h1
    ·rw[Zx7 h1];have:a < b:=by rw[ha,hb,hP];exact ZCh (A:=0) (B:=0) la (by omega)
     exact .inl ⟨by rw[Zx7 this],by rw[Zx7 this];decide⟩
    ·rw[h1,ZxY]at hc;exact absurd hc (by decide)
    ·rw[ZxJ h1];have:b < a:=by rw[ha,hb,hP];exact ZCh (A:=0) (B:=0) lb (by omega)
     exact .inl ⟨by rw[ZxJ this],by rw[ZxJ this];decide⟩
   ·rw[ZoO];refine⟨ZoS (by omega),ih () ?_⟩;have h1:(wd a)[k]=(wd b)[k]:=by
     rcases ZN7 (wd a)[k] (wd b)[k]with h1 |h1 |h1
     ·rw[Zx7 h1]at hc;exact absurd hc (by decide)
     ·exact h1
     ·rw[ZxJ h1]at hc;exact absurd hc (by decide)
    rw[←ZNK (h:=hk),←ZNK (h:=hk2),h1,hP]
  ·rintro rec ⟨⟩ hP;unfold ZsC ZqQ;dsimp only;rw[Zo6];refine⟨fun h=>by have:=of_decide_eq_true h;omega,fun _=> ?_⟩;rw[ZoK];rw[List.drop_zero,List.drop_zero]at hP;exact .inr ⟨rfl,by rw[←Zup a,←Zup b,hP]⟩
  ·rintro r (⟨rfl,_⟩ |⟨rfl,rfl⟩)
   ·exact ZoK.2 rfl
   ·unfold Ztj;exact ZoK.2 (ZxY a).symm
theorem ZIi {o:List Nat} {n i:Nat} (x:Nat) (ho:o.length=i) (h:i < n):(o++ZNS (n - i) 0).set i x=(o++[x])++ZNS (n - (i+1)) 0:=by
 have:n - i=(n - (i+1))+1:=by omega
 rw[this,List.replicate_succ,ZNT _ _ (by omega),ho,ZOo,ZNU];simp
theorem ZD6 (a b:Nat) (hab:b≤a) (ha:(wd a).length≤100000):ZrM (iL (wd a)) (iL (wd b))=some (iL (wd (a - b))):=by
 have hlb:(wd b).length≤(wd a).length:=by
  rcases ZN6 (wd a).length (wd b).length with h |h
  ·have:=ZB0 h;omega
  ·exact h
 refine Zqy ?_;unfold ZrM;rw[Zpb,ZoO,ZoN,ZNF,ZB1];refine⟨Zz7 (by omega), ?_⟩;generalize hn:(wd a).length=n at ha hlb⊢
 rw[show iL (ZNS n 0)=iL ([]++ZNS (n - ([]:List Nat).length) 0) by simp];refine Zo4 (Ztq Zyp n (by omega) (fun i (s:Nat×List Nat)=>(iL (wd a),iL (wd b),(s.1:Int),(n:Int),i,iL (s.2++ZNS (n - s.2.length) 0))) (fun i s=>s.1≤1∧s.2.length=i∧Dg s.2∧val ((wd a).take i)+Bw ^ i*s.1=val s.2+val ((wd b).take i))
  (Q:=fun y=>∃(o:List Nat),y=iL o∧Dg o∧o.length=n∧val o=a - b) (0,[]) ⟨by simp,rfl,ZAg,by simp[val]⟩ ?_ ?_) ?_
 ·rintro rec i ⟨c,o⟩ hlt ⟨hc,hl,hd,hv⟩ ih;dsimp only at hc hl hd hv ih;have hi:i < (wd a).length:=by omega
  have h1:=(Zxy a).get hi;have h2:=ZBA (Zxy b) i;unfold Zti Zrh;dsimp only;rw[Zo6];refine⟨fun _=> ?_,fun h=>by simp only[decide_eq_false_iff_not]at h;omega⟩;rw[Zvf hi,ZoN,ZoK,ZIY,ZoN,ZoK,ZH8 h1 h2 hc,ZoN,ZoK];dsimp only;rw[ZoO,ZoO,Zpb,ZNF,Zzz,hl,ZIi _ hl hlt];refine⟨ZrN ⟨by omega,by simp only[ZNM,ZNO];omega⟩,ZoS (by omega), ?_⟩;generalize ex:(wd a)[i]=x at h1;generalize ey:(wd b).getD i 0=y at h2;have:=ih ((if x < y+c then 1 else 0),o++[(x+4294967296 - y - c) % 4294967296]) ⟨by dsimp only;split<;>omega,by simp[hl],hd.app (ZzZ (ZOb _ (by decide))), ?_⟩
  ·rw[ZNM,ZNQ,hl]at this;exact this
  ·dsimp only;rw[ZwR,hl,ZOm,Zpl hi,Zyh,ex,ey,ZOd];have e:x+Bw*(if x < y+c then 1 else 0)=(x+4294967296 - y - c) % 4294967296+y+c:=by simp only[Bw]at h1 h2⊢;split<;>omega
   have e2:Bw ^ i*(x+Bw*(if x < y+c then 1 else 0))=Bw ^ i*((x+4294967296 - y - c) % 4294967296+y+c):=by rw[e]
   rw[ZOc,ZOc,ZOc]at e2;omega
 ·rintro rec ⟨c,o⟩ ⟨hc,hl,hd,hv⟩;unfold Zti Zrh;dsimp only at hc hl hd hv⊢
  rw[Zo6];refine⟨fun h=>by simp only[decide_eq_true_eq]at h;omega,fun _=> ?_⟩;rw[ZoK];rw[ZNW (by omega),ZNW (by omega),Zup,Zup]at hv;have:=Zwr hd;rw[hl]at this;have hc0:c=0:=by
   rcases ZN4 c with h |h
   ·exact h
   ·have:c=1:=by omega
    rw[this,Nat.mul_one]at hv;omega
  rw[hc0,ZOj]at hv;exact⟨o,by rw[hl,ZOo];simp,hd,hl,by omega⟩
 ·rintro y ⟨o,rfl,hd,hl,hv⟩;unfold Zul;rw[Zzm hd (by omega),ZoN,ZoK,ZoK,hv]
theorem ZGv (a d:Nat) (hd0:d≠0) (hd:d < Bw) (ha:(wd a).length≤100000):ZtC (iL (wd a)) (d:Int)=some (iL (wd (a / d)),((a % d:Nat):Int)):=by
 refine Zqy ?_;unfold ZtC;rw[Zpb,ZoO,ZoO,ZoN,ZNF,ZB1];refine⟨Zz7 (by omega),ZoS (by omega), ?_⟩;generalize hn:(wd a).length=n at ha⊢
 rw[show iL (ZNS n 0)=iL (ZNS (n - ([]:List Nat).length) 0++[]) by simp];refine Zo4 (ZAK Zyo n (by omega) (fun i (s:Nat×List Nat)=>(iL (wd a),(d:Int),(s.1:Int),i,iL (ZNS (n - s.2.length) 0++s.2))) (fun k s=>s.1 < d∧s.2.length+k=n∧Dg s.2∧val ((wd a).drop k)=val s.2*d+s.1)
  (Q:=fun y=>∃(r:Nat) (o:List Nat),y=((r:Int),iL o)∧Dg o∧o.length=n∧r < d∧a=val o*d+r) (0,[]) ⟨by dsimp only;omega,by simp,ZAg,by rw[←hn,List.drop_length];simp[val]⟩ ?_ ?_) ?_
 ·rintro rec k ⟨r,o⟩ hk ⟨hr,hl,hdg,hv⟩ ih;dsimp only at hr hl hdg hv ih;have hi:k < (wd a).length:=by omega
  have h1:=(Zxy a).get hi;unfold Ztg Zrf;dsimp only;rw[Zo6];refine⟨fun _=> ?_,fun h=>by simp only[decide_eq_false_iff_not]at h;omega⟩;rw[Zvf hi,ZoN,ZoK,ZMO hr h1 hd,ZoN,ZoK];dsimp only;generalize ex:(wd a)[k]=x at h1;have hq:(r*4294967296+x) / d < Bw:=(ZN3 (by omega)).2 (by
   have:(r+1)*4294967296≤d*4294967296:=ZOh _ hr;simp only[Bw]at*
   omega)
  have es:(ZNS (n - o.length) 0++o).set k ((r*4294967296+x) / d)=ZNS (n - (o.length+1)) 0++((r*4294967296+x) / d)::o:=by
   have e:n - o.length=k+1:=by omega
   have e2:n - (o.length+1)=k:=by omega
   rw[e,e2,List.replicate_succ',List.append_assoc,ZNT _ _ (by simp),ZNO,ZOo];rfl
  rw[ZoO,ZoO,Zpb,ZNF,Zzz,es];refine⟨ZrN ⟨by omega,by simp only[ZNM,ZNO];omega⟩,ZoS (by omega), ?_⟩;refine ih ((r*4294967296+x) % d,((r*4294967296+x) / d)::o) ⟨ZOb _ (by omega),by simp only[ZNN];omega,fun y hy=> ?_, ?_⟩
  ·rcases List.mem_cons.1 hy with rfl |hy
   ·exact hq
   ·exact hdg y hy
  ·dsimp only;rw[←ZNK (h:=hi),ex,val,hv,val];have:=ZN1 (r*4294967296+x) d;rw[ZNY,ZOe ((r*4294967296+x) / d) d,ZOc,ZOd];simp only[Bw]at*
   omega
 ·rintro rec ⟨r,o⟩ ⟨hr,hl,hdg,hv⟩;unfold Ztg Zrf;dsimp only at hr hl hdg hv⊢
  rw[Zo6];refine⟨fun h=>by have:=of_decide_eq_true h;omega,fun _=> ?_⟩;rw[ZoK];rw[List.drop_zero,Zup]at hv;refine⟨r,o, ?_,hdg,hl,hr,hv⟩;rw[show n - o.length=0 by omega];rfl
 ·rintro y ⟨r,o,rfl,hdg,hl,hr,hv⟩;dsimp only;unfold Zuk;rw[Zzm hdg (by omega),ZoN,ZoK,ZoK];have e1:a / d=val o:=by rw[hv,ZOe,Nat.mul_add_div (by omega),ZN2 hr,ZN0]
  have e2:a % d=r:=by rw[hv,ZOe,Nat.mul_add_mod,ZOa hr]
  rw[e1,e2]
end Go.Proofs
namespace Go.Proofs
open Go Eng
theorem ZzI:∀(l:List Nat) (i x:Nat) (h:i < l.length),val (l.set i x)+Bw ^ i*l[i]=val l+Bw ^ i*x
 | [],i,x,h=>absurd h (by simp)
 |d::l,0,x,h=>by simp only[ZNU,val,Nat.pow_zero,ZOk,List.getElem_cons_zero];omega
 |d::l,i+1,x,h=>by
  have:=ZzI l i x (by simpa using h);have e:Bw*(val (l.set i x)+Bw ^ i*l[i]'(by simpa using h))=Bw*(val l+Bw ^ i*x):=by rw[this]
  rw[ZOc,ZOc]at e;simp only[List.set_cons_succ,val,ZOm,List.getElem_cons_succ];rw[ZOe (Bw ^ i) Bw,ZOd,ZOd];omega
theorem ZIx {x y:Nat} (hx:x≤4294967295) (hy:y≤4294967295):x*y≤18446744065119617025:=ZOf hx hy
theorem ZzW {x y:Nat} (hx:x < Bw) (hy:y < Bw):x*y≤18446744065119617025:=ZIx (by simp only[Bw]at hx;omega) (by simp only[Bw]at hy;omega)
theorem ZMA {c x y e:Nat} (hc:c < Bw) (hx:x < Bw) (hy:y < Bw) (he:e < Bw):IntKind.wrap .u64 ((c:Int)+IntKind.wrap .u64 (IntKind.wrap .u64 (IntKind.wrap .u64 (x:Int)*IntKind.wrap .u64 (y:Int))+IntKind.wrap .u64 (e:Int)))=((c+x*y+e:Nat):Int):=by have:=ZzW hx hy;simp only[Bw]at hc hx hy he;rw[Zpm (by omega),Zpm (by omega),Zpm (by omega),←Int.natCast_mul,Zpm (by omega),←ZKg,Zpm (by omega),←ZKg,Zpm (by omega)];congr 1;omega
theorem ZKp {c x y e:Nat} (hc:c < Bw) (hx:x < Bw) (hy:y < Bw) (he:e < Bw):(c+x*y+e) / Bw < Bw:=by
 have:=ZzW hx hy;simp only[Bw]at hc hx hy he⊢
 omega
theorem ZCk (a b:Nat) (ha:(wd a).length≤100000) (hb:(wd b).length≤100000):Zqz (iL (wd a)) (iL (wd b))=some (iL (wd (a*b))):=by
 refine Zqy ?_;unfold Zqz;rw[Zpb,Zpb,ZoO,ZoO,ZoN,←ZKg,ZNF,ZB1];refine⟨ZoS (by omega),Zz7 (by omega), ?_⟩;generalize hm:(wd a).length=m at ha⊢
 generalize hn:(wd b).length=n at hb⊢
 refine Zo4 (Ztq Zyn m (by omega) (fun i (s:List Nat)=>(iL (wd b),iL (wd a),(m:Int),i,iL s)) (fun i s=>s.length=m+n∧Dg s∧val s=val ((wd a).take i)*b∧∀k,i+n≤k→k < m+n→s[k]? =some 0)
  (Q:=fun y=>∃(o:List Nat),y=iL o∧Dg o∧o.length=m+n∧val o=a*b) (ZNS (m+n) 0) ⟨by simp,ZHn _,by rw[ZE4];simp[val],fun k _ h=>by rw[List.getElem?_replicate,if_pos h]⟩ ?_ ?_) ?_
 ·rintro rec i s hlt ⟨hl,hd,hv,hz⟩ ih;have hi:i < (wd a).length:=by omega
  have h1:=(Zxy a).get hi;unfold Ztf Zre;dsimp only;rw[Zo6];refine⟨fun _=> ?_,fun h=>by simp only[decide_eq_false_iff_not]at h;omega⟩;rw[Zvf hi,ZoN,ZoK,ZoN,Zpb,hn];generalize ex:(wd a)[i]=x at h1;refine Zo4 (Ztq Zym n (by omega) (fun j (t:Nat×List Nat)=>(iL (wd b),(i:Int),(x:Int),(t.1:Int),iL (wd a),(m:Int),(i:Int),iL (wd b),(n:Int),j,iL t.2)) (fun j t=>t.1 < Bw∧t.2.length=m+n∧Dg t.2∧val t.2+Bw ^ (i+j)*t.1=val s+Bw ^ i*(x*val ((wd b).take j))∧∀k,i+n≤k→k < m+n→t.2[k]? =some 0)
   (Q:=fun y=>∃(c:Nat) (o:List Nat),y=(iL (wd b),(i:Int),(c:Int),iL (wd a),(m:Int),(i:Int),iL o)∧c < Bw∧o.length=m+n∧Dg o∧val o+Bw ^ (i+n)*c=val s+Bw ^ i*(x*b)∧∀k,i+n≤k→k < m+n→o[k]? =some 0) (0,s) ⟨by simp only[Bw];omega,hl,hd,by simp[val],hz⟩ ?_ ?_) ?_
  ·rintro rec2 j ⟨c,o⟩ hj ⟨hc,hol,hod,hov,hoz⟩ ih2;dsimp only at hc hol hod hov hoz ih2;have hj2:j < (wd b).length:=by omega
   have h2:=(Zxy b).get hj2;have hij:i+j < o.length:=by omega
   have h3:=hod.get hij;unfold Zte Zrd;dsimp only;rw[Zo6];refine⟨fun _=> ?_,fun h=>by simp only[decide_eq_false_iff_not]at h;omega⟩;rw[Zvf hj2,ZoN,ZoK,ZoO,ZoO,←ZKg,ZNF,ZAe hij,ZoN,ZoK,ZoO,ZoO,ZoO,ZoO];generalize ey:(wd b)[j]=y at h2;generalize ee:o[i+j]=e at h3;rw[ZMA hc h1 h2 h3,Zwe,show (32:Int)=((32:Nat):Int)from rfl,ZzK 32 (by omega),Zpb,Zzz];refine⟨ZoS (by omega),ZrN ⟨by omega,by omega⟩,ZoS (by omega),ZrN ⟨by omega,by omega⟩,by decide,ZoS (by omega), ?_⟩;refine ih2 ((c+x*y+e) / Bw,o.set (i+j) ((c+x*y+e) % Bw)) ⟨ZKp hc h1 h2 h3,by simp[hol],hod.set _ (ZOb _ (by decide)), ?_,fun k hk hk2=> ?_⟩
   ·dsimp only;have q1:=ZzI o (i+j) ((c+x*y+e) % Bw) hij;rw[ee]at q1;have q2:Bw ^ (i+j)*((c+x*y+e) % Bw+Bw*((c+x*y+e) / Bw))=Bw ^ (i+j)*(c+x*y+e):=by rw[ZN9]
    rw[ZOc,ZOc,ZOc]at q2;rw[←Nat.add_assoc,ZOm,ZOd,Zpl hj2,ey,ZOc,ZOc];have q3:Bw ^ i*(x*(Bw ^ j*y))=Bw ^ (i+j)*(x*y):=by rw[ZOl,ZOd,ZOi x]
    omega
   ·dsimp only;rw[List.getElem?_set_ne (by omega)];exact hoz k hk hk2
  ·rintro rec2 ⟨c,o⟩ ⟨hc,hol,hod,hov,hoz⟩;dsimp only at hc hol hod hov hoz;unfold Zte Zrd;dsimp only;rw[Zo6];refine⟨fun h=>by have:=of_decide_eq_true h;omega,fun _=> ?_⟩;rw[ZoK];rw[ZNW (by omega),Zup]at hov;exact⟨c,o,rfl,hc,hol,hod,hov,hoz⟩
  ·rintro y ⟨c,o,rfl,hc,hol,hod,hov,hoz⟩;dsimp only;unfold Zuj;rw[Zpb,hn,ZoO,ZoO,ZoO,←ZKg,ZNF,ZwK hc,Zzz,Zpb];refine⟨ZoS (by omega),ZrN ⟨by omega,by omega⟩,ZoS (by omega), ?_⟩;have hp:i+n < o.length:=by omega
   have h0:o[i+n]=0:=by have:=hoz (i+n) (ZN5 _) (by omega);rw[ZNH hp]at this;exact Option.some.inj this
   have q1:=ZzI o (i+n) c hp;rw[h0,ZOj,ZN0]at q1;refine ih (o.set (i+n) c) ⟨by simp[hol],hod.set _ hc, ?_,fun k hk hk2=> ?_⟩
   ·rw[q1,hov,hv,Zpl hi,ex,ZNY,ZOd]
   ·rw[List.getElem?_set_ne (by omega)];exact hoz k (by omega) hk2
 ·rintro rec s ⟨hl,hd,hv,hz⟩;unfold Ztf Zre;dsimp only;rw[Zo6];refine⟨fun h=>by have:=of_decide_eq_true h;omega,fun _=> ?_⟩;rw[ZoK];rw[ZNW (by omega),Zup]at hv;exact⟨s,rfl,hd,hl,hv⟩
 ·rintro y ⟨o,rfl,hd,hl,hv⟩;unfold Zui;rw[Zzm hd (by omega),ZoN,ZoK,ZoK,hv]
theorem ZCq {c d s:Nat} (hs:s≤31) (hc:c < 2 ^ s) (hd:d < Bw):c|||(d*2 ^ s % Bw)=c+d*2 ^ s % Bw:=by
 have e:Bw=2 ^ (32 - s)*2 ^ s:=by rw[←ZOl,show 32 - s+s=32 by omega]
 rw[e,Nat.mul_mod_mul_right];have:=Nat.shiftLeft_add_eq_or_of_lt hc (d % 2 ^ (32 - s));rw[Nat.shiftLeft_eq]at this;rw[Nat.or_comm,←this,Nat.add_comm]
theorem ZIg {d s:Nat} (hs:s≤32) (hd:d < Bw):shlK .u64 (IntKind.wrap .u64 (d:Int)) (s:Int)=((d*2 ^ s:Nat):Int):=by
 have h2:2 ^ s≤2 ^ 32:=Nat.pow_le_pow_right (by decide) hs;have h3:d*2 ^ s≤4294967295*4294967296:=ZOf (by simp only[Bw]at hd;omega) h2;unfold shlK;simp only[Bw]at hd;rw[Zpm (by omega),ZNF,show IntKind.bits .u64=64 from rfl,ZN8 (by omega)];have e:(d:Int)*(2:Int) ^ s=((d*2 ^ s:Nat):Int):=by push_cast;rfl
 rw[e,Zpm (by omega)]
theorem ZBX (l:List Nat) (s:Nat) (hs:s≤31) (hl:l.length≤100000) (hd:Dg l):∃o:List Nat,Zp4 (iL l) (s:Int)=some (iL o)∧Dg o∧o.length=l.length+1∧val o=val l*2 ^ s:=by
 have:wp (Zp4 (iL l) (s:Int)) (fun y=>∃o:List Nat,y=iL o∧Dg o∧o.length=l.length+1∧val o=val l*2 ^ s):=by
  have h2:2 ^ s≤2 ^ 31:=Nat.pow_le_pow_right (by decide) hs;unfold Zp4 Zth;rw[Zpb,ZoO,ZoO,ZoN,show (l.length:Int)+1=((l.length+1:Nat):Int)from rfl,ZNF,ZB1];refine⟨ZoS (by omega),Zz7 (by omega), ?_⟩;refine Zo4 (Ztq ZxR l.length (by omega) (fun i (t:List Nat×Nat)=>((s:Int),iL l,(l.length:Int),i,iL (t.1++t.2::ZNS (l.length - t.1.length) 0))) (fun i t=>t.1.length=i∧t.2 < 2 ^ s∧Dg t.1∧val t.1+Bw ^ i*t.2=val (l.take i)*2 ^ s)
   (Q:=fun y=>∃o:List Nat,y=iL o∧Dg o∧o.length=l.length+1∧val o=val l*2 ^ s) ([],0) ⟨rfl,ZOp s,ZAg,by simp[val]⟩ ?_ ?_) ?_
  ·rintro rec i ⟨o,c⟩ hi ⟨hol,hc,hod,hv⟩ ih;dsimp only at hol hc hod hv ih;have h1:=hd.get hi;have hcB:c < Bw:=by simp only[Bw];omega
   unfold ZsB ZqP;dsimp only;rw[Zo6];refine⟨fun _=> ?_,fun h=>by simp only[decide_eq_false_iff_not]at h;omega⟩;rw[Zvf hi,ZoN,ZoK];generalize ex:l[i]=x at h1;have hlen:(o++c::ZNS (l.length - o.length) 0).length=l.length+1:=by simp;omega
   have hg:(iL (o++c::ZNS (l.length - o.length) 0))[i]? =some (c:Int):=by rw[ZAe (by rw[hlen];omega)];congr 2;rw[ZNJ (by omega)];simp[hol]
   rw[ZIg (by omega) h1,show (32:Int)=((32:Nat):Int)from rfl,ZzK 32 (by omega),Zwe];have hx2:x*2 ^ s / 2 ^ 32 < 2 ^ s:=(ZN3 (by decide)).2 (by
    rw[ZOe (2 ^ s)];exact Nat.mul_lt_mul_of_pos_right h1 (ZOp s))
   rw[ZwK (by omega),ZNF,show ((i:Int)+1).toNat=i+1 by omega,hg];rw[ZoO,ZoO,ZoN,ZoK,ZoO,ZoO,ZoO,ZoO,ZoO,ZCX hcB (ZOb _ (by decide)),ZCq hs hc h1];have hsum:c+x*2 ^ s % Bw < Bw:=by
    have e:Bw=2 ^ (32 - s)*2 ^ s:=by rw[←ZOl,show 32 - s+s=32 by omega]
    have hm:x % 2 ^ (32 - s)+1≤2 ^ (32 - s):=ZOb _ (ZOp _);have:=ZOh (2 ^ s) hm;rw[ZNY,ZOk]at this;rw[e,Nat.mul_mod_mul_right];omega
   have es:((o++c::ZNS (l.length - o.length) 0).set i (c+x*2 ^ s % Bw)).set (i+1) (x*2 ^ s / 2 ^ 32)=(o++[c+x*2 ^ s % Bw])++(x*2 ^ s / 2 ^ 32)::ZNS (l.length - (o.length+1)) 0:=by rw[ZNT _ _ (by omega),hol,ZOo,ZNU,ZNT _ _ (by omega),hol,show i+1 - i=1 by omega,show l.length - i=(l.length - (i+1))+1 by omega,List.replicate_succ];simp
   rw[Zzz,Zzz,es];simp only[Zpb,ZNP,hlen];refine⟨by simp,ZrN ⟨by omega,by omega⟩,ZrN ⟨by omega,by omega⟩,ZoS (by omega),by decide,ZrN ⟨by omega,by omega⟩,ZoS (by omega), ?_⟩;have:=ih (o++[c+x*2 ^ s % Bw],x*2 ^ s / 2 ^ 32) ⟨by simp[hol],hx2,hod.app (ZzZ hsum), ?_⟩
   ·simp only[ZNM,ZNQ]at this;exact this
   ·dsimp only;have q:Bw ^ i*(x*2 ^ s % Bw+Bw*(x*2 ^ s / 2 ^ 32))=Bw ^ i*(x*2 ^ s):=by have:=ZN9 (x*2 ^ s) Bw;rw[show (2:Nat) ^ 32=Bw from rfl,this]
    rw[ZOc]at q;rw[ZwR,hol,ZOm,ZOd,Zpl hi,ex,ZOc,ZNY,ZOd (Bw ^ i) x];omega
  ·rintro rec ⟨o,c⟩ ⟨hol,hc,hod,hv⟩;dsimp only at hol hc hod hv;unfold ZsB ZqP;dsimp only;rw[Zo6];refine⟨fun h=>by have:=of_decide_eq_true h;omega,fun _=> ?_⟩;rw[ZoK];rw[List.take_length]at hv;refine⟨o++[c], ?_,hod.app (ZzZ (by simp only[Bw];omega)),by simp[hol], ?_⟩
   ·rw[hol,ZOo];rfl
   ·rw[ZwR,hol];exact hv
  ·rintro y hy;exact ZoK.2 hy
 obtain⟨y,hy,o,rfl,h1,h2,h3⟩:=this;exact⟨o,hy,h1,h2,h3⟩
end Go.Proofs
namespace Go.Proofs
open Go Eng
theorem ZKw {B P u0 u1 u2 wl d1 d2 dl:Nat} (hdl:dl < P) (hd2:d2 < B) (h:((u0*B+u1)*B+u2)*P+wl < B*((d1*B+d2)*P+dl)):u0≤d1:=by
 rcases ZN6 d1 u0 with hlt |hge
 ·exfalso;have h1:(d1+1)*(B*(B*P))≤u0*(B*(B*P)):=ZOh _ hlt;have h2:(d2+1)*P≤B*P:=ZOh _ hd2;rw[ZNY,ZOk]at h2;have h3:B*(d2*P+dl)≤B*(B*P):=ZOg _ (by omega);have e:B*(d1*(B*P))=d1*(B*(B*P)):=ZOi _ _ _;simp only[ZNY,ZOc,ZOd,ZOk]at h h1 h3;omega
 ·exact hge
theorem ZKv {B P u0 u1 u2 wl d1 d2 dl q:Nat} (hw:wl < P) (hu2:u2 < B) (h:q*((d1*B+d2)*P+dl)≤((u0*B+u1)*B+u2)*P+wl):q*d1≤u0*B+u1:=by
 rcases ZN6 (u0*B+u1) (q*d1)with hlt |hge
 ·exfalso;have h1:(u0*B+u1+1)*(B*P)≤q*d1*(B*P):=ZOh _ hlt;have h2:(u2+1)*P≤B*P:=ZOh _ hu2;simp only[ZNY,ZOc,ZOd,ZOk]at h h1 h2;omega
 ·exact hge
theorem ZKu {B P u0 u1 u2 wl d1 d2 dl rest g:Nat} (hw:wl < P) (hr:rest+g*d1=u0*B+u1) (hg:rest*B+u2 < g*d2):((u0*B+u1)*B+u2)*P+wl < g*((d1*B+d2)*P+dl):=by
 rw[←hr];have h1:(rest*B+u2+1)*P≤g*d2*P:=ZOh _ hg;simp only[ZNY,ZOc,ZOd,ZOk]at h1⊢
 omega
theorem ZKt {B P u0 u1 u2 wl d1 d2 dl rest g:Nat} (hdl:dl < P) (hB:g < B) (h1:1≤d1) (hr:rest+g*d1=u0*B+u1) (hg:g*d2≤rest*B+u2):g*((d1*B+d2)*P+dl) < (((u0*B+u1)*B+u2)*P+wl)+((d1*B+d2)*P+dl):=by
 rw[←hr];have h2:g*d2*P≤(rest*B+u2)*P:=ZOh _ hg;have h3:g*dl≤g*P:=ZOg _ (Nat.le_of_lt hdl);have h4:(g+1)*P≤B*P:=ZOh _ hB;have h5:1*(B*P)≤d1*(B*P):=ZOh _ h1;simp only[ZNY,ZOc,ZOd,ZOk]at h2 h4 h5⊢
 omega
theorem rdw {pre w suf:List Nat} {k:Nat} (h:k < w.length):(iL (pre++(w++suf)))[pre.length+k]? =some (w[k]:Int):=by rw[ZAe (by simp;omega)];congr 2;rw[ZNJ (by omega)];simp only[Nat.add_sub_cancel_left];rw[List.getElem_append_left h]
theorem stw {pre w suf:List Nat} {k:Nat} (x:Nat) (h:k < w.length):(iL (pre++(w++suf))).set (pre.length+k) (x:Int)=iL (pre++(w.set k x++suf)):=by rw[Zzz,ZNT _ _ (by omega),Nat.add_sub_cancel_left,List.set_append_left _ _ h]
theorem ZMv {l:List Nat} {m:Nat} (h:l.length=m+2):val l=(l[m+1]*Bw+l[m])*Bw ^ m+val (l.take m):=by have e:=Zys (l:=l) (k:=m) (by omega);have e2:=Zys (l:=l) (k:=m+1) (by omega);have h3:=Zpl (l:=l) (k:=m) (by omega);rw[List.drop_eq_nil_of_le (by omega)]at e2;simp only[val,ZOj,ZN0]at e2;rw[e2,h3,ZOm,ZNY,ZOe (l[m]),ZOe (Bw ^ m) Bw,ZOe (Bw*Bw ^ m),ZOd];omega
theorem top3 {l:List Nat} {m:Nat} (h:l.length=m+3):val l=((l[m+2]*Bw+l[m+1])*Bw+l[m])*Bw ^ m+val (l.take m):=by have e:val l=(l[m+2]*Bw+l[m+1])*Bw ^ (m+1)+val (l.take (m+1)):=ZMv (by omega);have h3:=Zpl (l:=l) (k:=m) (by omega);rw[e,h3,ZOm,ZOe (Bw ^ m) Bw,←ZOd,ZNY ((l[m+2]*Bw+l[m+1])*Bw),ZOe (l[m])];omega
theorem ZIF {h l:Nat} (hh:h < 4294967296) (hl:l < 4294967296):orK .u64 (shlK .u64 (h:Int) 32) (IntKind.wrap .u64 (l:Int))=((h*4294967296+l:Nat):Int):=by
 have:=ZC2 hh hl
 rwa [Zpm (by omega)]at this
theorem ZIy {x y:Nat} (hx:x < Bw) (hy:y < Bw):IntKind.wrap .u64 ((x:Int)*IntKind.wrap .u64 (y:Int))=((x*y:Nat):Int):=by have:=ZzW hx hy;rw[Zpm (by simp only[Bw]at hy;omega),←Int.natCast_mul,Zpm (by omega)]
theorem ZGO {pre w suf d:List Nat} {m:Nat} (hw:w.length=m+3) (hd:d.length=m+2) (hwd:Dg w) (hdd:Dg d) (h1:1≤d[m+1]) (hlt:val w < Bw*val d) (hm:m≤100000) {g r:Nat}
  (hg:g < Bw) (hq:val w / val d≤g) (hr:r+g*d[m+1]=w[m+2]*Bw+w[m+1]) (hr2:r < 2*Bw):
  wp (ZrU big pre.length (m+3) (iL d) ((m+2:Nat):Int) (g:Int) (r:Int) (iL (pre++(w++suf)))) (fun y=>∃g:Nat,y=(pre.length,m+3,iL d,((m+2:Nat):Int),(g:Int),iL (pre++(w++suf)))∧g < Bw∧val w / val d≤g∧g*val d < val w+val d):=by
 have hw0:=hwd.get (i:=m) (by omega);have hd2:=hdd.get (i:=m) (by omega);have hd1:=hdd.get (i:=m+1) (by omega);have hdl:val (d.take m) < Bw ^ m:=by have:=Zwr (hdd.take m);rwa [ZNR,ZN8 (by omega)]at this
 have hwl:val (w.take m) < Bw ^ m:=by have:=Zwr (hwd.take m);rwa [ZNR,ZN8 (by omega)]at this
 have eW:=top3 hw;have eD:=ZMv hd;have rd:(iL (pre++(w++suf)))[pre.length+m]? =some (w[m]:Int):=rdw (by omega);have rdd:idx (iL d) (m:Int)=some (d[m]:Int):=Zvf (by omega);have rdd1:idx (iL d) ((m+1:Nat):Int)=some (d[m+1]:Int):=Zvf (by omega);generalize d[m+1]=d1 at*
 generalize d[m]=d2 at*
 generalize w[m+2]=u0 at*
 generalize w[m+1]=u1 at*
 generalize w[m]=u2 at*
 have hDpos:0 < val d:=by rw[eD];have:1*1≤(d1*Bw+d2)*Bw ^ m:=ZOf (by simp only[Bw];omega) (Nat.pow_pos (by decide));omega
 have hdiv:∀g,val w < g*val d→val w / val d < g:=fun g h=>(ZN3 hDpos).2 h
 generalize val w / val d=qq at*
 refine ZAp ZzF (fun(t:Nat×Nat)=>(pre.length,m+3,iL d,((m+2:Nat):Int),(t.1:Int),(t.2:Int),iL (pre++(w++suf)))) (fun t=>t.1 < Bw∧qq≤t.1∧t.2+t.1*d1=u0*Bw+u1∧t.2 < 2*Bw) (fun t=>t.1) (g,r) ⟨hg,hq,hr,hr2⟩ (by simp only[Bw]at hg;dsimp only;omega) ?_;rintro rec ⟨g,r⟩ ⟨hg,hq,hr,hr2⟩ ih;dsimp only at hg hq hr hr2 ih;unfold ZxW Zv5;dsimp only;have e2:((m+2:Nat):Int) - 2=(m:Int):=by omega
 have e1:((m+2:Nat):Int) - 1=((m+1:Nat):Int):=by omega
 have fin:g*d2≤r*Bw+u2→wp (some (pre.length,m+3,iL d,((m+2:Nat):Int),(g:Int),iL (pre++(w++suf)))) (fun y=>∃g:Nat,y=(pre.length,m+3,iL d,((m+2:Nat):Int),(g:Int),iL (pre++(w++suf)))∧g < Bw∧qq≤g∧g*val d < val w+val d):=fun h=>by rw[ZoK];refine⟨g,rfl,hg,hq, ?_⟩;rw[eW,eD];exact ZKt hdl hg h1 hr h
 rw[Zo6];refine⟨fun h=> ?_,fun h=> ?_⟩
 ·have hrB:r < 4294967296:=by have:=of_decide_eq_true h;omega
  rw[e2,ZoO,rdd,ZoN,ZoK,ZoO,ZoO,ZoO,ZoN,ZNF,rd,ZoK,ZIy hg hd2,ZIF hrB hw0];refine⟨ZoS (by omega),by decide,ZoS (by omega),ZrN ⟨by omega,by omega⟩, ?_⟩;unfold Ztl;rw[Zo6];refine⟨fun h=> ?_,fun h=> ?_⟩
  ·have hc:r*Bw+u2 < g*d2:=by have:=of_decide_eq_true h;simp only[Bw];omega
   have hlt2:val w < g*val d:=by rw[eW,eD];exact ZKu hwl hr hc
   have hqg:qq < g:=hdiv g hlt2;rw[e1,ZoO,rdd1,ZoN,ZoK];refine⟨ZoS (by omega), ?_⟩;have eg:IntKind.wrap .u64 ((g:Int) - 1)=((g - 1:Nat):Int):=by simp only[Bw]at hg;rw[show (g:Int) - 1=((g - 1:Nat):Int) by omega,Zpm (by omega)]
   have er:IntKind.wrap .u64 ((r:Int)+IntKind.wrap .u64 (d1:Int))=((r+d1:Nat):Int):=by simp only[Bw]at hd1;rw[Zpm (by omega),←ZKg,Zpm (by omega)]
   rw[eg,er];refine ih (g - 1,r+d1) ⟨by dsimp only;omega,by dsimp only;omega, ?_,by dsimp only;simp only[Bw]at hd1⊢;omega⟩ (by dsimp only;omega);dsimp only;rw[←hr,show g*d1=(g - 1+1)*d1 by rw[Nat.sub_add_cancel (by omega)],ZNY,ZOk];omega
  ·have hc:g*d2≤r*Bw+u2:=by have:=of_decide_eq_false h;simp only[Bw];omega
   exact fin hc
 ·have hrB:4294967296≤r:=by have:=of_decide_eq_false h;omega
  unfold Ztl;rw[cond_false];refine fin ?_;have h1:=ZzW hg hd2;have h2:4294967296*4294967296≤r*Bw:=ZOf hrB (ZN5 _);omega
end Go.Proofs
namespace Go.Proofs
open Go Eng
abbrev ZG6 (pre suf:List Nat) (W D m:Nat) (y:Int×List Int):Prop:=∃w':List Nat,y=(((W / D:Nat):Int),iL (pre++(w'++suf)))∧w'.length=m+3∧Dg w'∧val w'=W % D
theorem ZIX {pre w suf d:List Nat} {m W:Nat} (hw:w.length=m+3) (hd:d.length=m+2) (hwd:Dg w) (hdd:Dg d) (hm:m≤100000) {g:Nat} (hg:g < Bw)
  (hg1:W < g*val d) (hg2:g*val d < W+val d) (hv:val w+g*val d=W+Bw ^ (m+3)):
  wp ((Ztk big pre.length (m+3) ((m+2:Nat):Int) (g:Int) (0:Int) (iL d) (d.length:Int) (0:Int) (iL (pre++(w++suf)))).bind fun(x0,x1,x2,x3,x4,x5)=>Zu2 x0 x1 x2 x3 x4 x5) (ZG6 pre suf W (val d) m):=by
 rw[ZoN,hd];have hDpos:0 < val d:=by omega
 refine Zo4 (Ztq ZzD (m+2) (by omega) (fun i (t:Nat×List Nat)=>(pre.length,m+3,((m+2:Nat):Int),(g:Int),(t.1:Int),iL d,((m+2:Nat):Int),i,iL (pre++(t.2++suf)))) (fun i t=>t.1≤1∧t.2.length=m+3∧Dg t.2∧val t.2+Bw ^ i*t.1=val w+val (d.take i))
  (Q:=fun y=>∃(a:Nat) (w2:List Nat),y=(pre.length,m+3,((m+2:Nat):Int),(g:Int),(a:Int),iL (pre++(w2++suf)))∧a≤1∧w2.length=m+3∧Dg w2∧val w2+Bw ^ (m+2)*a=val w+val d) (0,w) ⟨by simp,hw,hwd,by simp[val]⟩ ?_ ?_) ?_
 ·rintro rec i ⟨a,o⟩ hi ⟨ha,hol,hod,hv⟩ ih;dsimp only at ha hol hod hv ih;have hi1:i < o.length:=by omega
  have hi2:i < d.length:=by omega
  have h1:=hod.get hi1;have h2:=hdd.get hi2;unfold Zv3 ZtX;dsimp only;rw[Zo6];refine⟨fun _=> ?_,fun h=>by have:=of_decide_eq_false h;omega⟩;rw[Zvf hi2,ZoN,ZoK,ZoO,ZoN,ZNF,rdw hi1,ZoK,ZK5 h1 h2 ha,ZoN,ZoK];dsimp only;rw[ZoO,ZoO,stw _ hi1];refine⟨ZrN ⟨by omega,by omega⟩,ZrN ⟨by omega,by omega⟩,ZoS (by omega), ?_⟩;generalize ex:d[i]=x at h2;generalize ee:o[i]=e at h1;refine ih ((e+x+a) / 4294967296,o.set i ((e+x+a) % 4294967296)) ⟨by simp only[Bw]at h1 h2;dsimp only;omega,by simp[hol],hod.set _ (ZOb _ (by decide)), ?_⟩;dsimp only;have q1:=ZzI o i ((e+x+a) % 4294967296) hi1;rw[ee]at q1;have q2:Bw ^ i*((e+x+a) % 4294967296+Bw*((e+x+a) / 4294967296))=Bw ^ i*(e+x+a):=by rw[ZN9]
  rw[ZOc,ZOc,ZOc]at q2;rw[ZOm,ZOd,Zpl hi2,ex];omega
 ·rintro rec ⟨a,o⟩ ⟨ha,hol,hod,hv⟩;dsimp only at ha hol hod hv;unfold Zv3 ZtX;dsimp only;rw[Zo6];refine⟨fun h=>by have:=of_decide_eq_true h;omega,fun _=> ?_⟩;rw[ZoK];rw[ZNW (by omega)]at hv;exact⟨a,o,rfl,ha,hol,hod,hv⟩
 ·rintro y ⟨a,o,rfl,ha,hol,hod,hov⟩;dsimp only;have hi1:m+2 < o.length:=by omega
  have h1:=hod.get hi1;unfold Zu2;rw[ZoO,ZoN,ZNF,rdw hi1,ZoK,ZoO];generalize ee:o[m+2]=e at h1;have ew:IntKind.wrap .u32 ((e:Int)+(a:Int))=(((e+a) % 4294967296:Nat):Int):=by rw[←ZKg,Zwe]
  have hgp:1≤g:=by
   rcases ZN4 g with h |h
   ·rw[h,Nat.zero_mul]at hg1;omega
   ·exact h
  have eg:IntKind.wrap .u32 (IntKind.wrap .u64 ((g:Int) - 1))=((g - 1:Nat):Int):=by simp only[Bw]at hg;rw[show (g:Int) - 1=((g - 1:Nat):Int) by omega,Zpm (by omega),ZwK (by omega)]
  rw[ew,eg,stw _ hi1,ZoK];refine⟨ZrN ⟨by omega,by omega⟩,ZrN ⟨by omega,by omega⟩, ?_⟩;have q1:=ZzI o (m+2) ((e+a) % 4294967296) hi1;rw[ee]at q1;have q2:Bw ^ (m+2)*((e+a) % 4294967296+Bw*((e+a) / 4294967296))=Bw ^ (m+2)*(e+a):=by rw[ZN9]
  rw[ZOc,ZOc,←ZOd,←ZOm]at q2;have hdn:Dg (o.set (m+2) ((e+a) % 4294967296)):=hod.set _ (ZOb _ (by decide));have hlt:=Zwr hdn;rw[ZNP,hol]at hlt;have hco:(e+a) / 4294967296≤1:=by simp only[Bw]at h1;omega
  have hpw:Bw ^ (m+2+1)=Bw ^ (m+3):=rfl;rw[hpw]at q2;have egD:g*val d=(g - 1)*val d+val d:=by rw[show g*val d=(g - 1+1)*val d by rw[Nat.sub_add_cancel hgp],ZNY,ZOk]
  have key:val (o.set (m+2) ((e+a) % 4294967296))+(g - 1)*val d=W:=by
   rcases ZN4 ((e+a) / 4294967296)with hz |hz
   ·rw[hz,ZOj]at q2;omega
   ·rw[show (e+a) / 4294967296=1 by omega,Nat.mul_one]at q2;omega
  have hl3:(o.set (m+2) ((e+a) % 4294967296)).length=m+3:=by rw[ZNP,hol]
  generalize o.set (m+2) ((e+a) % 4294967296)=w3 at*
  have hlt3:val w3 < val d:=by omega
  have eq1:W / val d=g - 1:=by rw[←key,ZNZ _ _ hDpos,ZN2 hlt3,ZOr]
  have eq2:W % val d=val w3:=by rw[←key,Nat.add_mul_mod_self_right,ZOa hlt3]
  exact⟨w3,by rw[eq1],hl3,hdn,eq2.symm⟩
theorem ZH6 {pre w suf d:List Nat} {m:Nat} (hw:w.length=m+3) (hd:d.length=m+2) (hwd:Dg w) (hdd:Dg d) (hm:m≤100000) {g:Nat} (hg:g < Bw)
  (hDpos:0 < val d) (hq:val w / val d≤g) (hg2:g*val d < val w+val d):
  wp (Zu3 pre.length (m+3) (iL d) ((m+2:Nat):Int) (g:Int) (iL (pre++(w++suf)))) (ZG6 pre suf (val w) (val d) m):=by
 unfold Zu3;rw[ZoN,Zpb,hd];refine Zo4 (Ztq ZzE (m+2) (by omega) (fun i (t:Nat×Nat×List Nat)=>(pre.length,m+3,iL d,((m+2:Nat):Int),(g:Int),(t.1:Int),(t.2.1:Int),iL d,((m+2:Nat):Int),i,iL (pre++(t.2.2++suf)))) (fun i t=>t.1≤1∧t.2.1 < Bw∧t.2.2.length=m+3∧Dg t.2.2∧val t.2.2+g*val (d.take i)=val w+Bw ^ i*(t.1+t.2.1))
  (Q:=fun y=>∃(b c:Nat) (w2:List Nat),y=(pre.length,m+3,iL d,((m+2:Nat):Int),(g:Int),(b:Int),(c:Int),iL (pre++(w2++suf)))∧b≤1∧c < Bw∧w2.length=m+3∧Dg w2∧val w2+g*val d=val w+Bw ^ (m+2)*(b+c)) (0,0,w) ⟨by simp,by simp,hw,hwd,by simp[val]⟩ ?_ ?_) ?_
 ·rintro rec i ⟨b,c,o⟩ hi ⟨hb,hc,hol,hod,hv⟩ ih;dsimp only at hb hc hol hod hv ih;have hi1:i < o.length:=by omega
  have hi2:i < d.length:=by omega
  have h1:=hod.get hi1;have h2:=hdd.get hi2;unfold Zv4 ZtY;dsimp only;rw[Zo6];refine⟨fun _=> ?_,fun h=>by have:=of_decide_eq_false h;omega⟩;rw[Zvf hi2,ZoN,ZoK,ZoO,ZoN,ZNF,rdw hi1,ZoK];generalize ex:d[i]=x at h2;generalize ee:o[i]=e at h1;have hbd:=ZzW hg h2;have es:IntKind.wrap .u64 ((c:Int)+((g*x:Nat):Int))=((c+g*x:Nat):Int):=by simp only[Bw]at hc;rw[←ZKg,Zpm (by omega)]
  rw[ZIy hg h2,es,Zwe,ZH8 h1 (ZOb _ (by decide)) hb,ZoN,ZoK];dsimp only;rw[ZoO,ZoO,ZoO,stw _ hi1,show (32:Int)=((32:Nat):Int)from rfl,ZzK 32 (by omega)];refine⟨ZrN ⟨by omega,by omega⟩,ZrN ⟨by omega,by omega⟩,by decide,ZoS (by omega), ?_⟩;have hlo:(c+g*x) % 4294967296 < 4294967296:=ZOb _ (by decide);have hhi:(c+g*x) / 2 ^ 32 < Bw:=by simp only[Bw]at hc⊢;omega
  have hs:(c+g*x) % 4294967296+Bw*((c+g*x) / 2 ^ 32)=c+g*x:=ZN9 _ _;generalize (c+g*x) % 4294967296=lo at*
  generalize (c+g*x) / 2 ^ 32=hi' at*
  refine ih ((if e < lo+b then 1 else 0),hi',o.set i ((e+4294967296 - lo - b) % 4294967296)) ⟨by dsimp only;split<;>omega,hhi,by simp[hol],hod.set _ (ZOb _ (by decide)), ?_⟩;dsimp only;have q1:=ZzI o i ((e+4294967296 - lo - b) % 4294967296) hi1;rw[ee]at q1;have e1:e+Bw*(if e < lo+b then 1 else 0)=(e+4294967296 - lo - b) % 4294967296+lo+b:=by simp only[Bw]at h1⊢;split<;>omega
  have q2:Bw ^ i*(e+Bw*(if e < lo+b then 1 else 0))=Bw ^ i*((e+4294967296 - lo - b) % 4294967296+lo+b):=by rw[e1]
  have q3:Bw ^ i*(lo+Bw*hi')=Bw ^ i*(c+g*x):=by rw[hs]
  have q4:g*(Bw ^ i*x)=Bw ^ i*(g*x):=ZOi _ _ _;rw[ZOc,ZOc,ZOc]at q2;rw[ZOc,ZOc]at q3;rw[ZOc]at hv;rw[ZOm,ZOd,Zpl hi2,ex,ZOc,ZOc Bw,ZOc];omega
 ·rintro rec ⟨b,c,o⟩ ⟨hb,hc,hol,hod,hv⟩;dsimp only at hb hc hol hod hv;unfold Zv4 ZtY;dsimp only;rw[Zo6];refine⟨fun h=>by have:=of_decide_eq_true h;omega,fun _=> ?_⟩;rw[ZoK];rw[ZNW (by omega)]at hv;exact⟨b,c,o,rfl,hb,hc,hol,hod,hv⟩
 ·rintro y ⟨b,c,o,rfl,hb,hc,hol,hod,hv⟩;dsimp only;have hi1:m+2 < o.length:=by omega
  have h1:=hod.get hi1;unfold ZwX;rw[ZoO,ZoN,ZNF,rdw hi1,ZoK,ZwK hc];generalize ee:o[m+2]=e at h1;rw[ZH8 h1 hc hb,ZoN,ZoK];dsimp only;rw[ZoO,stw _ hi1,ZwK hg];refine⟨ZrN ⟨by omega,by omega⟩,ZrN ⟨by omega,by omega⟩, ?_⟩;have q1:=ZzI o (m+2) ((e+4294967296 - c - b) % 4294967296) hi1;rw[ee]at q1;have e1:e+Bw*(if e < c+b then 1 else 0)=(e+4294967296 - c - b) % 4294967296+c+b:=by simp only[Bw]at h1 hc⊢;split<;>omega
  have q2:Bw ^ (m+2)*(e+Bw*(if e < c+b then 1 else 0))=Bw ^ (m+2)*((e+4294967296 - c - b) % 4294967296+c+b):=by rw[e1]
  rw[ZOc,ZOc,ZOc,←ZOd,←ZOm]at q2;rw[ZOc]at hv;have hpw:Bw ^ (m+2+1)=Bw ^ (m+3):=rfl;rw[hpw]at q2;have hdn:Dg (o.set (m+2) ((e+4294967296 - c - b) % 4294967296)):=hod.set _ (ZOb _ (by decide));have hlt:=Zwr hdn;rw[ZNP,hol]at hlt;have hl3:(o.set (m+2) ((e+4294967296 - c - b) % 4294967296)).length=m+3:=by rw[ZNP,hol]
  generalize o.set (m+2) ((e+4294967296 - c - b) % 4294967296)=w3 at*
  generalize (e+4294967296 - c - b) % 4294967296=dd at*
  by_cases hcc:e < c+b
  ·rw[if_pos hcc]at q2⊢
   rw[show (((1:Nat):Int) == 0)=false from rfl,cond_false];rw[Zpb d];exact ZIX (pre:=pre) (suf:=suf) hl3 hd hdn hdd hm hg (by omega) hg2 (by omega)
  ·rw[if_neg hcc]at q2⊢
   rw[show (((0:Nat):Int) == 0)=true from rfl,cond_true,ZoK];have key:val w3+g*val d=val w:=by omega
   have hlt3:val w3 < val d:=by have h5:(val w / val d)*val d≤g*val d:=ZOh _ hq;have h6:=ZN1 (val w) (val d);have h7:=ZOb (val w) hDpos;rw[ZOe]at h6;omega
   have eq1:val w / val d=g:=by rw[←key,ZNZ _ _ hDpos,ZN2 hlt3,ZOr]
   have eq2:val w % val d=val w3:=by rw[←key,Nat.add_mul_mod_self_right,ZOa hlt3]
   exact⟨w3,by rw[eq1],hl3,hdn,eq2.symm⟩
theorem ZGS {pre w suf d:List Nat} {m:Nat} (hw:w.length=m+3) (hd:d.length=m+2) (hwd:Dg w) (hdd:Dg d) (hm:m≤100000) (h1:1≤d[m+1]) (hlt:val w < Bw*val d):
  wp (ZvH (iL (pre++(w++suf))) pre.length (m+3) (iL d)) (ZG6 pre suf (val w) (val d) m):=by
 have hd1:=hdd.get (i:=m+1) (by omega);have hd2:=hdd.get (i:=m) (by omega);have h_u0:=hwd.get (i:=m+2) (by omega);have h_u1:=hwd.get (i:=m+1) (by omega);have h_u2:=hwd.get (i:=m) (by omega);have hdl:val (d.take m) < Bw ^ m:=by have:=Zwr (hdd.take m);rwa [ZNR,ZN8 (by omega)]at this
 have hwl:val (w.take m) < Bw ^ m:=by have:=Zwr (hwd.take m);rwa [ZNR,ZN8 (by omega)]at this
 have eW:=top3 hw;have eD:=ZMv hd;have hDpos:0 < val d:=by rw[eD];have:1*1≤(d[m+1]*Bw+d[m])*Bw ^ m:=ZOf (by simp only[Bw];omega) (Nat.pow_pos (by decide));omega
 have hk1:w[m+2]≤d[m+1]:=ZKw hdl hd2 (by rw[←eW,←eD];exact hlt);have hk2:(val w / val d)*d[m+1]≤w[m+2]*Bw+w[m+1]:=ZKv hwl h_u2 (by rw[←eW,←eD];exact Nat.div_mul_le_self _ _);have hqB:val w / val d < Bw:=(ZN3 hDpos).2 hlt;have hG:∃g:Nat,(if (4294967295:Int) < (IntKind.wrap .u64 (Int.tdiv (orK .u64 (shlK .u64 (IntKind.wrap .u64 (w[m+2]:Int)) 32) (IntKind.wrap .u64 (w[m+1]:Int))) (IntKind.wrap .u64 (d[m+1]:Int))))then (4294967295:Int)else (IntKind.wrap .u64 (Int.tdiv (orK .u64 (shlK .u64 (IntKind.wrap .u64 (w[m+2]:Int)) 32) (IntKind.wrap .u64 (w[m+1]:Int))) (IntKind.wrap .u64 (d[m+1]:Int)))))=(g:Int)∧g < Bw∧val w / val d≤g∧g*d[m+1]≤w[m+2]*Bw+w[m+1]∧w[m+2]*Bw+w[m+1] < g*d[m+1]+2*Bw:=by
  rw[ZC2 h_u0 h_u1,Zpm (by simp only[Bw]at hd1;omega)];have e1:Int.tdiv ((w[m+2]*4294967296+w[m+1]:Nat):Int) (d[m+1]:Int)=(((w[m+2]*4294967296+w[m+1]) / d[m+1]:Nat):Int):=by rw[Int.tdiv_eq_ediv_of_nonneg (by omega)];norm_cast
  have hnum:w[m+2]*4294967296+w[m+1] < 18446744073709551616:=by simp only[Bw]at h_u0 h_u1;omega
  have hle:(w[m+2]*4294967296+w[m+1]) / d[m+1]≤w[m+2]*4294967296+w[m+1]:=Nat.div_le_self _ _;rw[e1,Zpm (by omega)];have hq2:val w / val d≤(w[m+2]*4294967296+w[m+1]) / d[m+1]:=(Nat.le_div_iff_mul_le (by omega)).2 hk2;have hdm:=ZN1 (w[m+2]*4294967296+w[m+1]) d[m+1];have hml:=ZOb (w[m+2]*4294967296+w[m+1]) (show 0 < d[m+1] by omega);rw[ZOe]at hdm;generalize (w[m+2]*4294967296+w[m+1]) / d[m+1]=q0 at*
  generalize (w[m+2]*4294967296+w[m+1]) % d[m+1]=r0 at*
  generalize val w / val d=qq at*
  by_cases hc:4294967295 < q0
  ·refine⟨4294967295,by rw[if_pos (by omega)];rfl,by simp only[Bw];omega,by simp only[Bw]at hqB;omega, ?_, ?_⟩
   ·have:=ZOh d[m+1] (show 4294967295≤q0 by omega);simp only[Bw];omega
   ·simp only[Bw]at*
    omega
  ·refine⟨q0,by rw[if_neg (by omega)],by simp only[Bw];omega,hq2, ?_, ?_⟩
   ·simp only[Bw];omega
   ·simp only[Bw]at*
    omega
 have h2:wp (ZwT (iL (pre++(w++suf))) pre.length (m+3) (iL d)) (ZG6 pre suf (val w) (val d) m):=by
  obtain⟨g,hg,hgB,hgq,hgd,hgr⟩:=hG;have e1:((m+2:Nat):Int) - 1=((m+1:Nat):Int):=by omega
  unfold ZwT;rw[Zpb,hd,e1,ZNF,ZNF,rdw (by omega),rdw (by omega),Zvf (by omega)];rw[ZoO,ZoN,ZoK,ZoO,ZoO,ZoO,ZoN,ZoK,ZoO,ZoN,ZoK,ZoO,ZoO,ZoN,ZoK,hg,ZC2 h_u0 h_u1,ZIy hgB hd1,ZoN];have er:IntKind.wrap .u64 (((w[m+2]*4294967296+w[m+1]:Nat):Int) - ((g*d[m+1]:Nat):Int))=((w[m+2]*4294967296+w[m+1] - g*d[m+1]:Nat):Int):=by simp only[Bw]at hgd hgr;rw[←Int.ofNat_sub hgd,Zpm (by omega)]
  rw[er];refine⟨ZrN ⟨by omega,by omega⟩,by decide,ZoS (by omega),ZrN ⟨by omega,by omega⟩,ZoS (by omega),decide_eq_true (by rw[Zpm (by simp only[Bw]at hd1;omega)];omega),ZoS (by omega), ?_⟩;refine Zo4 (ZGO hw hd hwd hdd h1 hlt hm hgB hgq (by simp only[Bw]at hgd⊢;omega) (by simp only[Bw]at hgr⊢;omega)) ?_;rintro y ⟨g',rfl,h3,h4,h5⟩;exact ZH6 hw hd hwd hdd hm h3 hDpos h4 h5
 unfold ZvH;rw[ZoN];refine Zo4 h2 ?_;rintro y ⟨w',rfl,h3,h4,h5⟩;rw[ZoO,ZoK];refine⟨?_,w',rfl,h3,h4,h5⟩;dsimp only;rw[Zpb,Zpb];simp[h3,hw]
end Go.Proofs
namespace Go.Proofs
open Go Eng
theorem ZEb (l:List Nat) (h:l.length≤1000000):ZpH (iL l)=some (iL l):=by
 cases l with
 |nil=>
  have e1:ZoT [] true=some []:=rfl;have e2:ZoT [] false=some []:=by kernel_rfl
  show agree (ZoT [] true) (ZoT [] false)=some [];rw[e1,e2,ZAZ]
 |cons x l=>
  show ZoT (iL (x::l)) false=_;unfold ZoT;rw[cond_false,Zuo (by rw[Zpb,List.length_nil];omega),chk_true];rfl
theorem ZA0 {l:List Nat} {k:Nat} (h:val l < Bw ^ k):val (l.take k)=val l:=by
 rcases ZN6 k l.length with hk |hk
 ·have e:val l=val (l.take k++l.drop k):=by rw[ZNV]
  rw[ZyM,ZNR,ZN8 (by omega)]at e;rcases ZN4 (val (l.drop k))with hz |hz
  ·rw[hz,ZOj,ZN0]at e;exact e.symm
  ·have:=ZOg (Bw ^ k) hz;omega
 ·rw[ZNW hk]
theorem ZMu (u:List Nat) (k:Nat) (hk:k≤u.length) (hk2:k≤1000000):∃k',k'≤k∧val (u.take k')=val (u.take k)∧ZtD (iL u) 0 k=some (0,k',iL u):=by
 have h:wp (Zuy (iL u) 0 k) (fun y=>∃k',k'≤k∧val (u.take k')=val (u.take k)∧y=(0,k',iL u)):=by
  unfold Zuy Zu0;rw[ZoN];refine Zo4 (ZAp ZyG (fun(j:Nat)=>(0,j,iL u)) (fun j=>j≤k∧val (u.take j)=val (u.take k)) (fun j=>j) (Q:=fun y=>∃k',k'≤k∧val (u.take k')=val (u.take k)∧y=(0,k',iL u)) k ⟨ZN5 _,rfl⟩ (by omega) ?_) (fun y hy=>ZoK.2 hy);rintro rec j ⟨hj,hv⟩ ih;unfold ZwO Zum ZsT;dsimp only;cases j with
  |zero=>exact ZoK.2 ⟨0,hj,hv,rfl⟩
  |succ j=>
   have hju:j < u.length:=by omega
   have e1:((j+1:Nat):Int) - 1=(j:Int):=by omega
   rw[Zo6];refine⟨fun _=> ?_,fun h=>by have:=of_decide_eq_false h;omega⟩;rw[e1,ZNF,ZOr,ZoO,ZoO,ZAe hju,ZoN,ZoK,Zo6];refine⟨ZoS (by omega),ZrN ⟨by omega,by omega⟩,fun h=> ?_,fun h=> ?_⟩
   ·have h0:u[j]=0:=by have:=eq_of_beq h;omega
    rw[ZoO,ZoO];refine⟨ZoS (by omega),ZpZ ⟨by omega,by omega,by omega⟩,ih j ⟨by omega, ?_⟩ (by omega)⟩;rw[←hv,Zpl hju,h0,ZOj,ZN0]
   ·exact ZoK.2 ⟨j+1,hj,hv,rfl⟩
 obtain⟨y,hy,k',h1,h2,rfl⟩:=h;refine⟨k',h1,h2, ?_⟩;unfold ZtD;rw[hy,ZOs];simp
theorem ZFd {x y s:Nat} (hs:s≤31) (hx:x < Bw) (hy:y < Bw):((y*4294967296+x) / 2 ^ s % 4294967296)*2 ^ s+x % 2 ^ s=x+Bw*(y % 2 ^ s):=by
 have e:(4294967296:Nat)=2 ^ (32 - s)*2 ^ s:=by rw[←ZOl,show 32 - s+s=32 by omega]
 have hp:=ZOp s;have h1:=ZN1 x (2 ^ s);have h2:=ZN1 y (2 ^ s);have hx2:x / 2 ^ s < 2 ^ (32 - s):=(ZN3 hp).2 (by rw[←e];exact hx);have hy2:=ZOb y hp;have e1:(y*4294967296+x) / 2 ^ s=y*2 ^ (32 - s)+x / 2 ^ s:=by rw[e,←ZOd,Nat.add_comm,ZNZ _ _ hp,Nat.add_comm]
 have e2:y*2 ^ (32 - s)+x / 2 ^ s=(y % 2 ^ s)*2 ^ (32 - s)+x / 2 ^ s+4294967296*(y / 2 ^ s):=by
  rw[e];have:y*2 ^ (32 - s)=(2 ^ s*(y / 2 ^ s)+y % 2 ^ s)*2 ^ (32 - s):=by rw[h2]
  rw[this,ZNY,ZOe (2 ^ s),ZOe (2 ^ (32 - s)),ZOd (y / 2 ^ s),ZOe (y / 2 ^ s)];omega
 have hlt:(y % 2 ^ s)*2 ^ (32 - s)+x / 2 ^ s < 4294967296:=by have:=ZOh (2 ^ (32 - s)) (show y % 2 ^ s+1≤2 ^ s from hy2);rw[ZNY,ZOk,ZOe (2 ^ s),←e]at this;omega
 rw[e1,e2,Nat.add_mul_mod_self_left,ZOa hlt,ZNY,ZOd,←e,ZOe (x / 2 ^ s),ZOe (y % 2 ^ s)];simp only[Bw];omega
theorem ZJ8 {u:List Nat} {k s R:Nat} (q:List Int) (hs:s≤31) (hd:Dg u) (hk:k≤u.length) (hk2:k≤1000000) (hv:val (u.take k)=R*2 ^ s):
  wp (ZqU big (s:Int) 0 k ((k:Nat):Int) (0:Int) q (iL u)) (fun y=>∃(o:List Nat),y=(0,k,q,iL (o++u.drop k))∧o.length=k∧Dg o∧val o=R):=by
 refine Ztq Zyx k (by omega) (fun i (o:List Nat)=>((s:Int),0,k,(k:Int),i,q,iL (o++u.drop o.length))) (fun i o=>o.length=i∧Dg o∧val o*2 ^ s+(if 0 < k then u.getD 0 0 else 0) % 2 ^ s=val (u.take i)+Bw ^ i*((if i < k then u.getD i 0 else 0) % 2 ^ s)) [] ⟨rfl,ZAg,by simp[val]⟩ ?_ ?_
 ·rintro rec i o hi ⟨hol,hod,hov⟩ ih;have hiu:i < u.length:=by omega
  have h1:=hd.get hiu;unfold ZtL Zry;dsimp only;rw[Zo6];refine⟨fun _=> ?_,fun h=>by have:=of_decide_eq_false h;omega⟩;have hlen:(o++u.drop o.length).length=u.length:=by simp;omega
  have gx:(iL (o++u.drop o.length))[i]? =some (u[i]:Int):=by rw[ZAe (by omega)];congr 2;rw[ZNJ (by omega)];simp[hol]
  obtain⟨y,hy,hyB,hye⟩:∃y:Nat,ZsR (iL (o++u.drop o.length)) 0 k ((i:Int)+1)=some ((y:Int),iL (o++u.drop o.length))∧y < Bw∧y=(if i+1 < k then u.getD (i+1) 0 else 0):=by
   unfold ZsR Zv1
   by_cases hc:i+1 < k
   ·have hiu2:i+1 < u.length:=by omega
    have gy:(iL (o++u.drop o.length))[i+1]? =some (u[i+1]:Int):=by rw[ZAe (by omega)];congr 2;rw[ZNJ (by omega)];simp[hol]
    refine⟨u[i+1], ?_,hd.get hiu2, ?_⟩
    ·rw[decide_eq_true (by omega),cond_true,ZrN ⟨by omega,by omega⟩,chk_true,ZOr,show ((i:Int)+1).toNat=i+1 by omega,gy];simp
    ·rw[if_pos hc,ZNG,ZNH hiu2];rfl
   ·refine⟨0, ?_,by decide,by rw[if_neg hc]⟩;rw[decide_eq_false (by omega),cond_false];simp
  rw[hy,ZoO,ZoN,ZoK];dsimp only;rw[ZNF,ZOr,gx,ZoO,ZoO,ZoN,ZoK,ZoO,ZoO,ZoO,ZC2 hyB h1,ZzK s (by omega),Zwe];refine⟨ZoS (by omega),by decide,ZrN ⟨by omega,by omega⟩,by simp,ZrN ⟨by omega,by omega⟩,ZoS (by omega), ?_⟩;generalize ez:(y*4294967296+u[i]) / 2 ^ s % 4294967296=z;have hz:z < Bw:=by rw[←ez];exact ZOb _ (by decide)
  have es:(iL (o++u.drop o.length)).set i (z:Int)=iL ((o++[z])++u.drop (o++[z]).length):=by rw[Zzz,ZNT _ _ (by omega),hol,ZOo,←ZNK (h:=hiu),ZNU];simp[hol]
  rw[es];refine ih (o++[z]) ⟨by simp[hol],hod.app (ZzZ hz), ?_⟩;have hd1:=ZFd hs h1 hyB;rw[ez]at hd1;have q1:Bw ^ i*(z*2 ^ s+u[i] % 2 ^ s)=Bw ^ i*(u[i]+Bw*(y % 2 ^ s)):=by rw[hd1]
  have eg:u.getD i 0=u[i]:=by rw[ZNG,ZNH hiu];rfl
  rw[if_pos hi,eg]at hov;rw[ZOc,ZOc]at q1;rw[ZwR,hol,Zpl hiu,←hye,ZOm,ZNY,ZOd,ZOd];omega
 ·rintro rec o ⟨hol,hod,hov⟩;unfold ZtL Zry;dsimp only;rw[Zo6];refine⟨fun h=>by have:=of_decide_eq_true h;omega,fun _=> ?_⟩;rw[ZoK];refine⟨o,by rw[hol],hol,hod, ?_⟩;rw[if_neg (Nat.lt_irrefl _),Nat.zero_mod,ZOj,ZN0,hv]at hov;have hp:=ZOp s;have:(val o*2 ^ s+(if 0 < k then u.getD 0 0 else 0) % 2 ^ s) / 2 ^ s=R*2 ^ s / 2 ^ s:=by rw[hov]
  rw[Nat.add_comm,ZNZ _ _ hp,ZN2 (ZOb _ hp),Nat.mul_div_cancel _ hp]at this;omega
theorem ZEC {x s:Nat} (hs:s≤31) (h:x*2 ^ s < 4294967296):(x+1)*2 ^ s≤4294967296:=by
 have e:(4294967296:Nat)=2 ^ (32 - s)*2 ^ s:=by rw[←ZOl,show 32 - s+s=32 by omega]
 rw[e]at h⊢
 exact ZOh _ (Nat.lt_of_mul_lt_mul_right h)
theorem ZGs {d u:List Nat} {m K s U:Nat} (hd:d.length=m+2) (hdd:Dg d) (h1:1≤d[m+1]) (hu:u.length=K+m+2) (hud:Dg u) (hU:val u=U) (hlt:U < Bw ^ K*val d) (hK:K≤100000) (hm:m≤100000):
  wp (ZqV big ((m+2:Nat):Int) (s:Int) (iL d) ((K:Int) - 1) (iL u) (iL (ZNS K 0))) (fun y=>∃u' qs:List Nat,y=(((m+2:Nat):Int),(s:Int),iL u',iL qs)∧u'.length=K+m+2∧Dg u'∧qs.length=K∧Dg qs∧val u'+val qs*val d=U∧val u' < val d):=by
 rw[show iL (ZNS K 0)=iL (ZNS (K - ([]:List Nat).length) 0++[]) by simp];have hDlt:=Zwr hdd;rw[hd]at hDlt;refine ZAK Zyy K (by omega) (fun i (t:List Nat×List Nat)=>(((m+2:Nat):Int),(s:Int),iL d,i,iL t.1,iL (ZNS (K - t.2.length) 0++t.2))) (fun k t=>t.1.length=K+m+2∧Dg t.1∧t.2.length+k=K∧Dg t.2∧val t.1+Bw ^ k*(val t.2*val d)=U∧val t.1 < Bw ^ k*val d) (u,[]) ⟨hu,hud,by simp,ZAg,by simp[val,hU],by rw[hU];exact hlt⟩ ?_ ?_
 ·rintro rec k ⟨v,qs⟩ hk ⟨hvl,hvd,hql,hqd,hv,hvlt⟩ ih;dsimp only at hvl hvd hql hqd hv hvlt ih;unfold ZtM Zrz;dsimp only;have hwl:((v.drop k).take (m+3)).length=m+3:=by simp;omega
  have hpl:(v.take k).length=k:=by simp;omega
  have esplit:v=v.take k++((v.drop k).take (m+3)++v.drop (k+(m+3))):=by rw[←List.drop_drop,ZNV,ZNV]
  have hvs:val v=val (v.take k)+Bw ^ k*(val ((v.drop k).take (m+3))+Bw ^ (m+3)*val (v.drop (k+(m+3)))):=by
   have:val v=val (v.take k++((v.drop k).take (m+3)++v.drop (k+(m+3)))):=by rw[←esplit]
   rw[this,ZyM,ZyM,hpl,hwl]
  have hpd:=Zwr (hvd.take k);rw[hpl]at hpd;have hwd:=(hvd.drop k).take (m+3);have hsd:=hvd.drop (k+(m+3));have hvd':=hvd;generalize v.take k=pre at*
  generalize (v.drop k).take (m+3)=w at*
  generalize v.drop (k+(m+3))=suf at*
  subst esplit;have hX:val w+Bw ^ (m+3)*val suf < Bw*val d:=by
   have:Bw ^ k*(val w+Bw ^ (m+3)*val suf) < Bw ^ k*(Bw*val d):=by rw[←ZOd,←ZOm];show _ < Bw ^ (k+1)*val d;omega
   exact Nat.lt_of_mul_lt_mul_left this
  have hs0:val suf=0:=by
   rcases ZN4 (val suf)with hz |hz
   ·exact hz
   ·exfalso;have h5:=ZOg (Bw ^ (m+3)) hz;have h6:Bw*val d≤Bw*Bw ^ (m+2):=ZOg _ (Nat.le_of_lt hDlt);rw[ZOe Bw (Bw ^ (m+2)),←ZOm]at h6;have h7:Bw*val d≤Bw ^ (m+3):=h6;omega
  rw[hs0,ZOj,ZN0]at hX hvs;rw[Zo6];refine⟨fun _=> ?_,fun h=>by have:=of_decide_eq_false h;omega⟩;rw[ZoO,ZoO,ZoO,ZoN,Zpb,hvl];refine⟨ZoS (by omega),ZoS (by omega),ZpZ ⟨by omega,by omega,by omega⟩, ?_⟩;rw[show ((k:Int)+((m+2:Nat):Int)+1).toNat - (k:Int).toNat=m+3 by omega,ZNF];have hdw:=ZGS (pre:=pre) (suf:=suf) hwl hd hwd hdd hm h1 hX;rw[hpl]at hdw;refine Zo4 hdw ?_;rintro y ⟨w',rfl,hw'l,hw'd,hw'v⟩;dsimp only;have hDpos:0 < val d:=by
   rcases ZN4 (val d)with hz |hz
   ·rw[hz,ZOj]at hX;omega
   ·exact hz
  have hq:val w / val d < Bw:=(ZN3 hDpos).2 hX;have hdm:=ZN1 (val w) (val d);have hml:=ZOb (val w) hDpos;generalize val w / val d=q at*
  have es:(ZNS (K - qs.length) 0++qs).set k q=ZNS (K - (qs.length+1)) 0++q::qs:=by
   have e:K - qs.length=k+1:=by omega
   have e2:K - (qs.length+1)=k:=by omega
   rw[e,e2,List.replicate_succ',List.append_assoc,ZNT _ _ (by simp),ZNO,ZOo];rfl
  rw[ZoO,ZoO,Zzz,es];refine⟨ZrN ⟨by omega,by rw[Zpb];simp only[ZNM,ZNO];omega⟩,ZoS (by omega), ?_⟩;have hsl:suf.length+(k+(m+3))=K+m+2:=by rw[←hvl,ZNM,ZNM,hpl,hwl];omega
  refine ih (pre++(w'++suf),q::qs) ⟨?_, ?_,by simp only[ZNN];omega,fun y hy=> ?_, ?_, ?_⟩
  ·simp only[ZNM,hpl,hw'l];omega
  ·refine Dg.app (fun y hy=>hvd' y (List.mem_append_left _ hy)) (Dg.app hw'd hsd)
  ·rcases List.mem_cons.1 hy with rfl |hy
   ·exact hq
   ·exact hqd y hy
  ·dsimp only;rw[ZyM,ZyM,hpl,hs0,ZOj,ZN0,hw'v,val,ZNY,ZOc];rw[hvs,←hdm,ZOc,ZOm,ZOd]at hv;rw[ZOe q (val d),ZOd Bw];omega
  ·dsimp only;rw[ZyM,ZyM,hpl,hs0,ZOj,ZN0,hw'v];have:=ZOg (Bw ^ k) (show val w % val d+1≤val d from hml);rw[ZOc,Nat.mul_one]at this;omega
 ·rintro rec ⟨v,qs⟩ ⟨hvl,hvd,hql,hqd,hv,hvlt⟩;dsimp only at hvl hvd hql hqd hv hvlt;unfold ZtM Zrz;dsimp only;rw[Zo6];refine⟨fun h=>by have:=of_decide_eq_true h;omega,fun _=> ?_⟩;rw[ZoK];rw[Nat.pow_zero,ZOk]at hv hvlt;refine⟨v,qs, ?_,hvl,hvd,hql,hqd,hv,hvlt⟩;rw[show K - qs.length=0 by omega];rfl
end Go.Proofs
