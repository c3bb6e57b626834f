/- Plain laws over the specs, part 0. -/
import Derived.Test.YtdmabekeafhflaaGreatDoorE5
import Derived.Laws.BitsLemmas
import Derived.Laws.Bits64
import Derived.KernelRfl
import Derived.Test.YtdmabekeafhflaaGreatDoorUrS
set_option linter.unusedVariables false
set_option linter.unusedSimpArgs false
set_option linter.unusedSectionVars false
open Bool renaming not_eq_true'→ZTV, not_eq_false'→ZPK
open Int renaming toNat_natCast→ZTX, natCast_add→ZTW
open List renaming replicate→ZUb, take_of_length_le→ZUe, getElem_mem→ZT4, length_take→ZUa, getElem?_eq_getElem→ZT1, length_cons→ZT6, take_succ_eq_append_getElem→ZUf, take_length→ZUd, set_append_right→ZUc, length_set→ZT8, length_replicate→ZT7, all_eq_false→ZTZ, all_append→ZTY, getD_eq_getElem?_getD→ZT0, length_singleton→ZT9, getElem_cons_drop→ZT3, length_append→ZT5, getElem?_eq_none→ZT2
open Nat renaming mul_add→ZUq, mul_assoc→ZUr, mod_lt→ZUp, mul_comm→ZUs, mul_le_mul_right→ZUv, pow_succ→ZUA, add_mul→ZUg, min_eq_left→ZUm, one_mul→ZUy, div_lt_iff_lt_mul→ZUj, pow_add→ZUz, mul_zero→ZUx, mod_add_div→ZUn, mul_le_mul_left→ZUu, two_pow_pos→ZUD, add_zero→ZUh, mod_eq_of_lt→ZUo, div_eq_of_lt→ZUi, sub_self→ZUC, mul_le_mul→ZUt, xor_lt_two_pow→ZUE, mul_left_comm→ZUw, eq_zero_or_pos→ZUk, lt_trichotomy→ZUl, shiftRight_xor_distrib→ZUB
open Option renaming bind_some→ZUF
namespace Go.Proofs
open Go Eng
def wp {α:Type} (o:Option α) (Q:α→Prop):Prop:=∃x,o=some x∧Q x
section
variable {α β:Type} {Q:α→Prop}
theorem ZoJ {x:α}:wp (some x) Q↔Q x:=⟨fun⟨_,h,q⟩=>by simp_all,fun q=>⟨x,rfl,q⟩⟩
theorem ZMP:wp (none:Option α) Q↔False:=by simp[wp]
theorem ZoM {o:Option β} {f:β→Option α}:wp (o.bind f) Q↔wp o (fun a=>wp (f a) Q):=by
 constructor
 ·rintro⟨x,h,q⟩;obtain⟨a,ha,h⟩:=bind_some h;exact⟨a,ha,x,h,q⟩
 ·rintro⟨a,rfl,x,h,q⟩;exact⟨x,h,q⟩
theorem ZoO {b:Bool} {o:Option α}:wp (chk b o) Q↔b=true∧wp o Q:=by cases b<;>simp[chk,wp]
theorem ZoX {b:Bool} {x y:Option α}:wp (bif b then x else y) Q↔(b=true→wp x Q)∧(b=false→wp y Q):=by grind
theorem ZPn {xs:List α} {i:Nat}:wp (xs[i]?) Q↔∃h:i < xs.length,Q xs[i]:=by
 constructor
 ·rintro⟨x,h,q⟩;grind
 ·rintro⟨h,q⟩;exact⟨_,ZT1 h,q⟩
theorem ZDh {xs:List α} {i:Int}:wp (idx xs i) Q↔0≤i∧∃h:i.toNat < xs.length,Q xs[i.toNat]:=by
 grind[idx,ZPn,ZMP]
theorem ZoT {R:α→Prop} {o:Option α} (h:wp o Q) (hr:∀x,Q x→R x):wp o R:=by obtain⟨x,h,q⟩:=h;exact⟨x,h,hr x q⟩
theorem Zp6 {o:Option α} {x:α} (h:wp o (· =x)):o=some x:=by obtain⟨y,h,rfl⟩:=h;omega
theorem ZEF (a:Option α):agree a a=a:=by grind[agree]
end
theorem ZoQ {n:Int} (h: -9223372036854775808≤n∧n≤9223372036854775807):inK .i64 n=true:=by
 have h0:IntKind.i64.min= -9223372036854775808:=by decide
 have h1:IntKind.i64.max=9223372036854775807:=by decide
 exact Zkn.2 (by omega)
theorem ZrX {n b:Nat} (h:n*(b+1)≤140737488355328):ZjC n b=true:=decide_eq_true (Nat.le_trans (ZUu n (by omega)) h)
theorem wrap_i64 {n:Int} (h: -9223372036854775808≤n∧n≤9223372036854775807):IntKind.wrap .i64 n=n:=by grind[IntKind.wrap_i64]
theorem wrap_u8 {n:Int} (h:0≤n∧n≤255):IntKind.wrap .u8 n=n:=by grind[IntKind.wrap_u8]
theorem wrap_u64 {n:Int} (h:0≤n∧n≤18446744073709551615):IntKind.wrap .u64 n=n:=by grind[IntKind.wrap_u64]
theorem Zr7 {n m:Int} (h:0≤n∧n < m):inR n m=true:=decide_eq_true h
theorem Zp8 {a b c:Int} (h:0≤a∧a≤b∧b≤c):Zcp a b c=true:=decide_eq_true h
theorem ZEB {σ X:Type} {f:Nat→σ→Option X} {body:(σ→Option X)→σ→Option X} (hf:∀n s,f (n+1) s=body (f n) s) (I:σ→Prop) (m:σ→Nat) (Post:X→Prop)
  (h:∀(rec:σ→Option X) s,I s→(∀s',I s'→m s' < m s→wp (rec s') Post)→wp (body rec s) Post):∀n s,I s→m s < n→wp (f n s) Post:=by
 intro n
 induction n with
 |zero=>omega
 |succ n ih=>
  grind
theorem ZCQ {m:Nat} (h:m≤36893488147419103231):m < big:=by grind[big_eq]
theorem ZFB (k:Nat) (h:k≤36893488147419103232):∃n,big=n+k:=⟨36893488147419103232 - k,by grind[big_eq]⟩
end Go.Proofs
namespace Go.Proofs
open Go Eng
theorem ZsS {α σ τ X:Type} {f:Nat→σ→Option X} {body:(σ→Option X)→σ→Option X} (hf:∀n s,f (n+1) s=body (f n) s)
  (xs:List α) (hlen:xs.length≤1000000000000000) (st:Int→τ→σ) (P:Nat→τ→Prop) {Q:X→Prop} (t0:τ) (h0:P 0 t0)
  (step:∀(rec:σ→Option X) (k:Nat) t (h:k < xs.length),P k t→(∀t',P (k+1) t'→wp (rec (st ((k:Int)+1) t')) Q)→wp (body rec (st (k:Int) t)) Q)
  (fin:∀(rec:σ→Option X) t,P xs.length t→wp (body rec (st (xs.length:Int) t)) Q):wp (f big (st 0 t0)) Q:=by
 have key:∀(n k:Nat) t,k≤xs.length→P k t→xs.length - k < n→wp (f n (st (k:Int) t)) Q:=by
  intro n
  induction n with
  |zero=>omega
  |succ n ih=>
   grind
 exact key big 0 t0 (Nat.zero_le _) h0 (by grind[big_eq])
theorem ZtG {σ τ X:Type} {f:Nat→σ→Option X} {body:(σ→Option X)→σ→Option X} (hf:∀n s,f (n+1) s=body (f n) s)
  (m:Nat) (hlen:m≤1000000000000000) (st:Int→τ→σ) (P:Nat→τ→Prop) {Q:X→Prop} (t0:τ) (h0:P 0 t0)
  (step:∀(rec:σ→Option X) (k:Nat) t (h:k < m),P k t→(∀t',P (k+1) t'→wp (rec (st ((k:Int)+1) t')) Q)→wp (body rec (st (k:Int) t)) Q)
  (fin:∀(rec:σ→Option X) t,P m t→wp (body rec (st (m:Int) t)) Q):wp (f big (st 0 t0)) Q:=by
 have e:(ZUb m ()).length=m:=ZT7;refine ZsS hf (ZUb m ()) (by omega) st P t0 h0 (fun rec k s h=>step rec k s (by omega)) (fun rec s h=> ?_);simp_all
theorem ZzO {σ τ X:Type} {f:Nat→σ→Option X} {body:(σ→Option X)→σ→Option X} (hf:∀n s,f (n+1) s=body (f n) s)
  (st:τ→σ) (P:τ→Prop) (m:τ→Nat) {Q:X→Prop} (t0:τ) (h0:P t0) (hm:m t0≤1000000000000000)
  (step:∀(rec:σ→Option X) t,P t→(∀t',P t'→m t' < m t→wp (rec (st t')) Q)→wp (body rec (st t)) Q):wp (f big (st t0)) Q:=by
 have key:∀(n:Nat) t,P t→m t < n→wp (f n (st t)) Q:=by
  intro n
  induction n with
  |zero=>omega
  |succ n ih=>
   grind
 grind[big_eq]
theorem Zin {α:Type} {xs:List α} {i:Int} (h0:0≤i) (h:i.toNat < xs.length):idx xs i=some xs[i.toNat]:=by grind[idx]
theorem Zqj {α:Type} {xs:List α} {k:Nat} (h:k < xs.length):idx xs (k:Int)=some xs[k]:=by grind[Zin]
theorem ZFp {α:Type} {xs:List α} {k:Nat} (h:k < xs.length):inR (k:Int) (xs.length:Int)=true:=Zr7 ⟨by omega,by omega⟩
end Go.Proofs
namespace Go.Proofs
open Go Eng
theorem ZMa (n:Int) {m:Int} (h:1≤m∧m≤1000000):wp (Zrh n m) (fun r=>0≤r∧r < m):=by have ha: -m < Int.tmod n m∧Int.tmod n m < m:=⟨Int.lt_tmod_of_pos n (by omega),Int.tmod_lt_of_pos n (by omega)⟩;grind[Zrh,ZoO,ZoJ,ZoQ,Int.tmod_nonneg,Int.tmod_lt_of_pos]
def ZrK (d:ZoH):Prop:=0≤d.at_∧d.at_≤d.l.length∧d.l.length≤500
theorem ZxR {d:ZoH} (hd:ZrK d) {n:Int} (hn:1≤n∧n≤1000000):wp (ZoP d n) (fun r=>(0≤r.1∧r.1 < n)∧ZrK r.2):=by
 unfold ZoP;grind[ZoJ,ZoO,ZoM,ZDh,ZoQ,ZoT,ZMa,ZrK]
end Go.Proofs
namespace Go.Proofs
open Go Eng
theorem ZCU {s:Str} (h:8≤s.length):wp (Zo8 s) (fun _=>True):=by unfold Zo8;simp only[ZoM,ZDh,ZoO,ZoJ];grind
def ZM0 (cs:List (Lf Zxw)):Bool:=cs.all fun l=>match l.as (.int .u8)with |some x=>decide (0≤x∧x≤255) |none=>false
theorem ZJF {cs:List (Lf Zxw)} (hc:ZM0 cs=true) {n:Nat} (h:n < cs.length):wp (tabB (car:=Zxw) (.int .u8) cs n) (fun x:Int=>0≤x∧x≤255):=by unfold tabB;rw[ZT1 h];have:=List.all_eq_true.1 hc _ (ZT4 h);dsimp only;split at this;rotate_left;simp at this;rename_i x hx;exact⟨x,hx,of_decide_eq_true this⟩
theorem ZLG:ZM0 ZAC=true:=by kernel_rfl
theorem ZHe:ZM0 Ztq=true:=by kernel_rfl
theorem ZKn:ZAC.length=256:=by kernel_rfl
theorem ZGc:Ztq.length=32:=by kernel_rfl
theorem ZLe:((List.range 256).all fun n=>decide (0≤shrK .u8 (n:Int) 4∧shrK .u8 (n:Int) 4≤15))=true:=by kernel_rfl
theorem shr4 {c:Int} (h:0≤c∧c≤255):0≤shrK .u8 c 4∧shrK .u8 c 4≤15:=by
 have:=List.all_eq_true.1 ZLe c.toNat (List.mem_range.2 (by omega));grind
theorem ZMR (s:Str) (hs:s.length≤9223372036854775807):wp (ZpJ big s) (fun r=>r.length≤s.length):=by
 refine ZEB (f:=fun n s=>ZpJ n s) (body:=fun rec s=>Zts rec s) (fun n s=>rfl)
  (fun t=>t.length≤s.length) (fun t=>t.length) _ ?_ big s (Nat.le_refl _) (ZCQ (by omega))
 intro rec t ht ih;unfold Zts ZrL;rw[ZoX];refine⟨fun h=> ?_,fun h=> ?_⟩
 ·simp only[decide_eq_true_eq]at h;have d8:(t.drop ((8:Int)).toNat).length=t.length - 8:=by simp
  have d16:(t.drop ((16:Int)).toNat).length=t.length - 16:=by simp
  have d24:(t.drop ((24:Int)).toNat).length=t.length - 24:=by simp
  have d32:(t.drop ((32:Int)).toNat).length=t.length - 32:=by simp
  rw[ZoM];refine ZoT (ZCU (by omega)) fun _ _=> ?_
  rw[ZoO,ZoM];refine⟨Zp8 (by omega),ZoT (ZCU (by omega)) fun _ _=> ?_⟩;grind[ZoO,ZoM,Zp8,ZoT,ZCU,ZoJ]
 grind[ZoJ]
theorem ZMS (s:Str) (hs:s.length≤9223372036854775807):wp (ZoZ big s) (fun _=>True):=by
 refine ZEB (f:=fun n s=>ZoZ n s) (body:=fun rec s=>Ztt rec s) (fun n s=>rfl)
  (fun t=>t.length≤s.length) (fun t=>t.length) _ ?_ big s (Nat.le_refl _) (ZCQ (by omega))
 intro rec t ht ih;have go:∀k:Nat,0 < k→k≤t.length→wp (rec (t.drop k)) (fun _=>True):=fun k h0 h=>ih _ (by grind) (by grind)
 have go':∀t':Str,t'.length < t.length→wp (rec t') (fun _=>True):=fun t' h=>ih _ (by omega) h
 unfold Ztt;rw[ZoX];refine⟨fun h=> ?_,fun h=>by grind[ZoJ]⟩;simp only[decide_eq_true_eq]at h;rw[ZoM,ZDh];refine⟨by omega,by omega, ?_⟩;rw[ZoX];refine⟨fun hc=> ?_,fun hc=> ?_⟩
 ·have d1:(t.drop ((1:Int)).toNat).length=t.length - 1:=by simp
  have d9:((t.drop ((1:Int)).toNat).drop ((8:Int)).toNat).length=t.length - 9:=by simp
  have d17:(((t.drop ((1:Int)).toNat).drop ((8:Int)).toNat).drop ((8:Int)).toNat).length=t.length - 17:=by simp
  have d25:(((t.drop ((1:Int)).toNat).drop ((8:Int)).toNat).drop ((16:Int)).toNat).length=t.length - 25:=by simp
  generalize h1:t.drop ((1:Int)).toNat=t1 at*
  generalize h9:t1.drop ((8:Int)).toNat=t9 at*
  have j2:∀b,16 < t9.length∨b=false→wp (Zql rec t9 b) (fun _=>True):=fun b hb=>by unfold Zql Zqk Zun;rw[ZoX];refine⟨fun hb'=> ?_,fun _=>go' _ (by omega)⟩;grind[ZoO,ZoM,Zp8,ZoT,ZMR]
  have j1:∀b,8 < t1.length∨b=false→wp (Zqm rec t1 b) (fun _=>True):=fun b hb=>by
   unfold Zqm Zqk;rw[h9,ZoX];refine⟨fun hb'=> ?_,fun _=>go' _ (by omega)⟩;have:8 < t1.length:=hb.resolve_right (by simp[hb']);rw[ZoO,ZoX];refine⟨Zp8 (by omega),fun h16=> ?_,fun h16=>j2 _ (.inr rfl)⟩;simp only[decide_eq_true_eq]at h16;rw[ZoM];refine ZoT (ZCU (by omega)) fun _ _=> ?_
   grind[ZoO,ZoM,Zp8,ZCU]
  rw[ZoO,ZoX];grind[Zp8,ZoM,ZoT,ZCU]
 ·have hcb:((t[(0:Int).toNat].toNat:Nat):Int) < 256:=by have:=t[(0:Int).toNat].toNat_lt;omega
  generalize t[(0:Int).toNat].toNat=c at*
  rw[ZoO,ZoM];refine⟨Zr7 (by omega),ZoT (ZJF ZLG (by rw[ZKn];omega)) fun x hx=> ?_⟩;have hsh:=shr4 hx;rw[ZoO,ZoO,ZoM];refine⟨by decide,Zr7 (by omega),ZoT (ZJF ZHe (by rw[ZGc];omega)) fun lo _=> ?_⟩;rw[ZoM];refine ZoT (ZJF ZHe (by rw[ZGc];omega)) fun hi _=> ?_
  have j6:∀b,2≤t.length∨b=true→wp (ZpK rec t b) (fun _=>True):=fun b hb=>by unfold ZpK;rw[ZoX,ZoJ,ZoO];refine⟨fun _=>trivial,fun hb'=> ?_⟩;have:2≤t.length:=hb.resolve_right (by simp[hb']);exact⟨Zp8 (by omega),go 2 (by omega) this⟩
  have j7:∀b,3≤t.length∨b=true→wp (Zph rec t b) (fun _=>True):=fun b hb=>by unfold Zph;rw[ZoX,ZoJ,ZoO];refine⟨fun _=>trivial,fun hb'=> ?_⟩;have:3≤t.length:=hb.resolve_right (by simp[hb']);exact⟨Zp8 (by omega),go 3 (by omega) this⟩
  have j8:∀b,4≤t.length∨b=true→wp (Zo2 rec t b) (fun _=>True):=fun b hb=>by unfold Zo2;rw[ZoX,ZoJ,ZoO];refine⟨fun _=>trivial,fun hb'=> ?_⟩;have:4≤t.length:=hb.resolve_right (by simp[hb']);exact⟨Zp8 (by omega),go 4 (by omega) this⟩
  simp only[ZoX,ZoM,ZDh,ZoJ,decide_eq_true_eq,decide_eq_false_iff_not];refine⟨fun _=>⟨fun _=>j6 _ (.inr rfl),fun _=>⟨by omega,by omega,fun _=>j6 _ (.inr rfl),fun _=>⟨by omega,by omega,j6 _ (.inl (by omega))⟩⟩⟩,
   fun _=>⟨fun _=>⟨fun _=>j7 _ (.inr rfl),fun _=>⟨by omega,by omega,fun _=>j7 _ (.inr rfl),fun _=>⟨by omega,by omega,fun _=>j7 _ (.inr rfl),fun _=>⟨by omega,by omega,fun _=>j7 _ (.inr rfl),fun _=>⟨by omega,by omega,j7 _ (.inl (by omega))⟩⟩⟩⟩⟩,
    fun _=>⟨fun _=>⟨fun _=>j8 _ (.inr rfl),fun _=>⟨by omega,by omega,fun _=>j8 _ (.inr rfl),fun _=>⟨by omega,by omega,fun _=>j8 _ (.inr rfl),fun _=>⟨by omega,by omega,fun _=>j8 _ (.inr rfl),fun _=>⟨by omega,by omega,fun _=>j8 _ (.inr rfl),fun _=>⟨by omega,by omega,fun _=>j8 _ (.inr rfl),fun _=>⟨by omega,by omega,j8 _ (.inl (by omega))⟩⟩⟩⟩⟩⟩⟩,fun _=>trivial⟩⟩⟩
theorem ZMQ (s:Str) (hs:s.length≤9223372036854775807):wp (ZpF s) (fun _=>True):=by
 grind[ZpF,Zum,ZoM,ZMS,ZoJ]
def vs (s:Str):Bool:=(ZpF s).getD false
theorem ZHo (s:Str) (hs:s.length≤9223372036854775807):ZpF s=some (vs s):=by obtain⟨b,hb,_⟩:=ZMQ s hs;grind[vs]
end Go.Proofs
namespace Go.Proofs
open Go Eng
theorem ZLR {α X:Type} {f:Nat→Int→Option (Out Unit X)} {body:(Int→Option (Out Unit X))→Int→Option (Out Unit X)} (xs:List α) (p:α→Bool) (x:X) (hf:∀n i,f (n+1) i=body (f n) i) (hlen:xs.length≤1000000000000)
  (hb:∀(rec:Int→Option (Out Unit X)) (i:Nat) (h:i < xs.length) (Q:Out Unit X→Prop),(p xs[i]=false→Q (.ret x))→(p xs[i]=true→wp (rec ((i:Int)+1)) Q)→wp (body rec i) Q)
  (he:∀(rec:Int→Option (Out Unit X)) (Q:Out Unit X→Prop),Q (.brk ())→wp (body rec (xs.length:Int)) Q):
  wp (f big 0) (fun r=>r=if xs.all p then .brk ()else .ret x):=by
 refine ZEB hf (fun i=>∃k:Nat,k≤xs.length∧i=(k:Int)∧(xs.take k).all p=true) (fun i=>xs.length - i.toNat) _ ?_ big 0 ⟨0,Nat.zero_le _,rfl,by simp⟩ (ZCQ (by omega));rintro rec i ⟨k,hk,rfl,hp⟩ ih
 by_cases hlt:k < xs.length
 ·refine hb rec k hlt _ (fun h=> ?_) (fun h=>ih _ ⟨k+1,by omega,by omega, ?_⟩ (by omega))
  all_goals grind[ZUf]
 grind
def ZDY (s:Str):Bool:=decide ((s.length:Int)≤1024)&&vs s
def ZDL (c:ZoR):Bool:=ZDY c.Text&&(!c.Null||c.Text == [])
def ZsX (t:ZoF):Int:=match t.Columns with | []=>0 |c::_=>c.Cells.length
def ZK1 (n:Int) (c:ZoL):Bool:=ZDY c.Name&&((c.Cells.length:Int) == n&&c.Cells.all ZDL)
def ZE7 (t:ZoF):Bool:=decide (0≤t.ID)&&(decide (t.ID≤1073741824)&&(ZDY t.Name&&(decide ((t.Columns.length:Int)≤64)&&(decide (ZsX t≤4096)&&t.Columns.all (ZK1 (ZsX t))))))
def ZM8:List ZoL→Int
 | []=>0
 |c::_=>(c.Cells.length:Int)
theorem ZJW:∀(cs:List ZoL) (h:0 < cs.length),ZM8 cs=(cs[0].Cells.length:Int)
 |_::_,_=>rfl
theorem ZLh (t:ZoF):ZsX t=ZM8 t.Columns:=by grind[ZsX,ZM8]
def ZHS (t:ZoF):Prop:=t.Name.length≤9223372036854775807∧∀c∈t.Columns,c.Name.length≤9223372036854775807∧∀x∈c.Cells,x.Text.length≤9223372036854775807
def ZDS (n:Int) (c:ZoL):Bool:=ZDY c.Name&&(decide ((c.Cells.length:Int)≤4096)&&((c.Cells.length:Int) == n&&c.Cells.all ZDL))
end Go.Proofs
namespace Go.Proofs
open Go Eng
theorem ZHC (s:Str):Zz8 s=some (ZDY s):=by
 grind[Zz8,ZAe,ZDj,ZDY,ZHo]
theorem ZK9 (c:ZoR):Zzk c=some (ZDL c):=by grind[Zzk,ZuC,ZDL,ZHC]
theorem ZLI (l:List ZoR) (hl:l.length≤1000000000000):ZvW l=some (l.all ZDL):=by
 refine Zp6 ?_;unfold ZvW ZwR;rw[ZoM];refine ZoT (ZLR (f:=fun n i=>ZtU n l (l.length:Int) i) (body:=fun rec i=>ZsF (fun _ _ i=>rec i) l (l.length:Int) i) l ZDL false (fun n i=>rfl) hl (fun rec i h Q h0 h1=> ?_) (fun rec Q h0=> ?_)) ?_
 ·grind[ZsF,ZoM,ZDh,ZoO,ZoJ,ZK9,ZoQ]
 all_goals grind[ZsF,ZoJ]
theorem ZD4 (t:ZoF):ZxA t=some (ZsX t):=by
 unfold ZxA ZsX;cases t.Columns with
 |nil=>rfl
 |cons c l=>
  have:(((c::l).length:Int) == 0)=false:=by grind
  rw[this];rfl
theorem ZMY (c:ZoL) (t:ZoF) (hc:c.Cells.length≤1000000000000):ZAf c t=some (!ZK1 (ZsX t) c):=by
 unfold ZAf Zwm ZK1;grind[ZHC,ZD4,ZLI]
theorem ZLC (l:List ZoL) (t:ZoF) (hl:l.length≤1000000000000) (hc:∀c∈l,c.Cells.length≤1000000000000):Zpu l t=some (!l.all (ZK1 (ZsX t))):=by
 refine Zp6 ?_;unfold Zpu ZqD Zqg;rw[ZoM,ZoM];refine ZoT (ZEB (f:=fun n i=>Zpt n l t (l.length:Int) i) (body:=fun rec i=>Zp1 (fun _ _ _ i=>rec i) l t (l.length:Int) i) (fun n i=>rfl)
  (fun i=>∃k:Nat,k≤l.length∧i=(k:Int)∧(l.take k).all (ZK1 (ZsX t))=true) (fun i=>l.length - i.toNat)
  (fun r=>(r= .brk ()∧l.all (ZK1 (ZsX t))=true)∨∃k:Nat,r= .ret (k:Int)∧l.all (ZK1 (ZsX t))=false) ?_ big 0 ⟨0,Nat.zero_le _,rfl,by simp⟩ (ZCQ (by omega))) ?_
 ·rintro rec i ⟨k,hk,rfl,hp⟩ ih;unfold Zp1;rw[ZoX];refine⟨fun h=> ?_,fun h=> ?_⟩
  ·simp only[decide_eq_true_eq]at h;have hlt:k < l.length:=by omega
   rw[ZoM,ZDh];refine⟨by omega,by omega, ?_⟩;simp only[ZTX];rw[ZMY _ _ (hc _ (ZT4 _)),ZoM,ZoJ,ZoX,ZoJ,ZoO];refine⟨fun h1=> .inr ⟨k,rfl, ?_⟩,fun h1=>⟨ZoQ (by omega),ih _ ⟨k+1,by omega,by omega, ?_⟩ (by omega)⟩⟩
   all_goals grind[ZUf]
  grind[ZoJ]
 grind[ZoJ]
theorem ZGl (t:ZoF) (hl:t.Columns.length≤1000000000000) (hc:∀c∈t.Columns,c.Cells.length≤1000000000000):ZrS t=some (ZE7 t):=by
 unfold ZrS Zuv ZE7;rw[ZHC,ZD4,ZLC _ _ hl hc];grind
end Go.Proofs
namespace Go.Proofs
open Go Eng
theorem ZJ6 (s:Str) (hs:s.length≤9223372036854775807):Zst s=some (ZDY s):=by grind[Zst,Zs3,ZrZ,ZDY,ZHo]
theorem ZLj (c:ZoR) (hs:c.Text.length≤9223372036854775807):Zsd c=some (ZDL c):=by grind[Zsd,Zpx,ZrZ,ZDL,ZDY,ZHo]
theorem ZGo (t:ZoF):ZqZ t=some (ZsX t):=by
 unfold ZqZ ZsX;cases t.Columns with
 |nil=>rfl
 |cons c l=>
  have:(((c::l).length:Int) == 0)=false:=by grind
  rw[this];rfl
theorem ZHw (a:List ZoL) (b d:Int) (l:List ZoR) (t:ZoF) (hl:l.length≤1000000000000) (hx:∀x∈l,x.Text.length≤9223372036854775807):
  wp (ZqM big a b d l (l.length:Int) 0 t) (fun r=>r=if l.all ZDL then .brk (a,b,d,t)else .ret false):=by
 refine ZEB (f:=fun n i=>ZqM n a b d l (l.length:Int) i t) (body:=fun rec i=>Zuq (fun _ _ _ _ _ i _=>rec i) a b d l (l.length:Int) i t) (fun n i=>rfl)
  (fun i=>∃k:Nat,k≤l.length∧i=(k:Int)∧(l.take k).all ZDL=true) (fun i=>l.length - i.toNat) _ ?_ big 0 ⟨0,Nat.zero_le _,rfl,by simp⟩ (ZCQ (by omega))
 rintro rec i ⟨k,hk,rfl,hp⟩ ih;unfold Zuq;rw[ZoX];refine⟨fun h=> ?_,fun h=> ?_⟩
 ·simp only[decide_eq_true_eq]at h;have hlt:k < l.length:=by omega
  rw[ZoM,ZDh];refine⟨by omega,by omega, ?_⟩;simp only[ZTX];rw[ZLj _ (hx _ (ZT4 _)),ZoM,ZoJ,ZoX,ZoJ,ZoO];refine⟨fun h1=> ?_,fun h1=>⟨ZoQ (by omega),ih _ ⟨k+1,by omega,by omega, ?_⟩ (by omega)⟩⟩
  all_goals grind[ZUf]
 grind[ZoJ]
theorem ZIJ (t:ZoF) (ht:ZHS t) (hl:t.Columns.length≤1000000000000):
  wp (Zpn big t.Columns (t.Columns.length:Int) 0 t) (fun r=>r=if t.Columns.all (ZDS (ZsX t))then .brk ()else .ret false):=by
 refine ZEB (f:=fun n s=>Zpn n s.1 s.2.1 s.2.2.1 s.2.2.2) (body:=fun rec s=>Zur (fun a b c d=>rec (a,b,c,d)) s.1 s.2.1 s.2.2.1 s.2.2.2) (fun n s=>rfl)
  (fun s=>∃k:Nat,k≤t.Columns.length∧s=(t.Columns,(t.Columns.length:Int),(k:Int),t)∧(t.Columns.take k).all (ZDS (ZsX t))=true) (fun s=>t.Columns.length - s.2.2.1.toNat) _ ?_ big (t.Columns,(t.Columns.length:Int),0,t) ⟨0,Nat.zero_le _,rfl,by simp⟩ (ZCQ (by omega))
 rintro rec s ⟨k,hk,rfl,hp⟩ ih;dsimp only at ih⊢
 unfold Zur;rw[ZoX];refine⟨fun h=> ?_,fun h=> ?_⟩
 ·simp only[decide_eq_true_eq]at h;have hlt:k < t.Columns.length:=by omega
  obtain⟨hn,hcx⟩:=ht.2 _ (ZT4 hlt);rw[ZoM,ZDh];refine⟨by omega,by omega, ?_⟩;simp only[ZTX];rw[ZJ6 _ hn,ZoM,ZoJ];have bad:ZDS (ZsX t) t.Columns[k]=false→(Out.ret false:Out Unit Bool)=if t.Columns.all (ZDS (ZsX t))then .brk ()else .ret false:=fun hb=>by grind
  have fin:∀q:Bool,(ZDS (ZsX t) t.Columns[k]=(!q&&t.Columns[k].Cells.all ZDL))→(q=false→t.Columns[k].Cells.length≤4096)→
    wp (ZpV (fun a b c d=>rec (a,b,c,d)) t.Columns (t.Columns.length:Int) (k:Int) q t t.Columns[k]) (fun r=>r=if t.Columns.all (ZDS (ZsX t))then .brk ()else .ret false):=fun q hq hsz=>by
   unfold ZpV Zvk;cases q with
   |true=>grind[ZoJ]
   |false=>
    rw[cond_false,ZoM];refine ZoT (ZHw _ _ _ _ _ (by grind) hcx) ?_;rintro r rfl;cases hall:t.Columns[k].Cells.all ZDL with
    |true=>
     simp only[if_true,ZoO];refine⟨ZoQ (by omega),ih _ ⟨k+1,by omega,by simp, ?_⟩ (by grind)⟩;grind[ZUf]
    |false=>
     grind[ZoJ]
  rw[ZoX];refine⟨fun hf=>fin true ?_ (fun h=>nomatch h),fun hf=> ?_⟩
  ·grind[ZDS]
  ·simp only[ZPK]at hf;rw[ZoX];refine⟨fun hg=>fin true ?_ (fun h=>nomatch h),fun hg=> ?_⟩
   ·grind[ZDS]
   ·simp only[decide_eq_false_iff_not]at hg;rw[ZoM,ZDh];refine⟨by omega,by omega,fin _ ?_ (fun _=>by omega)⟩;have h1:decide ((t.Columns[k].Cells.length:Int)≤4096)=true:=decide_eq_true (by omega);have h2:ZsX t=(t.Columns[(0:Int).toNat].Cells.length:Int):=(ZLh t).trans (ZJW t.Columns (by omega));simp only[ZDS,hf,h1,h2,Bool.true_and,bne,Bool.not_not]
 grind[ZoJ]
theorem ZJV (t:ZoF) (ht:ZHS t) (hl:t.Columns.length≤1000000000000):ZpX t=some (ZE7 t):=by
 have key:t.Columns.all (ZDS (ZsX t))=(decide (ZsX t≤4096)&&t.Columns.all (ZK1 (ZsX t))):=by
  grind[ZsX,ZDS,ZK1]
 unfold ZpX ZpW Zvj ZE7;rw[ZJ6 _ ht.1,←key];have hloop:(Zpn big t.Columns (t.Columns.length:Int) 0 t)=some (if t.Columns.all (ZDS (ZsX t))then .brk ()else .ret false):=Zp6 (ZIJ t ht hl);grind
end Go.Proofs
namespace Go.Proofs
open Go Eng
theorem ZBb (w a:Nat) (h:a < 2 ^ w):(BitVec.ofInt w (a:Int)).toNat=a:=by grind
theorem ZGB {a b:Nat} (ha:a < 4294967296) (hb:b < 4294967296):andK .u32 (a:Int) (b:Int)=((a&&& b:Nat):Int):=by grind[andK,IntKind.bits,IntKind.wrap_u32]
theorem ZGZ {a b:Nat} (ha:a < 4294967296) (hb:b < 4294967296):orK .u32 (a:Int) (b:Int)=((a|||b:Nat):Int):=by grind[orK,IntKind.bits,IntKind.wrap_u32]
theorem ZHn {a b:Nat} (ha:a < 4294967296) (hb:b < 4294967296):xorK .u32 (a:Int) (b:Int)=((a ^^^ b:Nat):Int):=by grind[xorK,IntKind.bits,IntKind.wrap_u32]
theorem ZPN {a b:Nat} (ha:a < 18446744073709551616) (hb:b < 18446744073709551616):orK .u64 (a:Int) (b:Int)=((a|||b:Nat):Int):=by grind[orK,IntKind.bits,IntKind.wrap_u64]
theorem ZCh {a:Nat} (k:Nat) (hk:k≤64):shrK .u64 (a:Int) (k:Int)=((a / 2 ^ k:Nat):Int):=by
 grind[shrK,IntKind.bits]
theorem ZDR {a:Nat} (k:Nat) (hk:k≤32):shrK .u32 (a:Int) (k:Int)=((a / 2 ^ k:Nat):Int):=by
 grind[shrK,IntKind.bits]
theorem Zxc (a:Nat):IntKind.wrap .u32 (a:Int)=((a % 4294967296:Nat):Int):=by grind[IntKind.wrap_u32]
theorem Zpp {a:Nat} (h:a < 18446744073709551616):IntKind.wrap .u64 (a:Int)=(a:Int):=by grind[IntKind.wrap_u64]
theorem ZxS {a:Nat} (h:a < 4294967296):IntKind.wrap .u32 (a:Int)=(a:Int):=by grind[IntKind.wrap_u32]
theorem ZQD {a b c:Nat} (ha:a < 4294967296) (hb:b < 4294967296) (hc:c≤1):Zxo (a:Int) (b:Int) (c:Int)=some ((((a+b+c) % 4294967296:Nat):Int),(((a+b+c) / 4294967296:Nat):Int)):=by
 unfold Zxo;have e:IntKind.wrap .u64 ((IntKind.wrap .u64 ((IntKind.wrap .u64 (a:Int))+(IntKind.wrap .u64 (b:Int))))+(IntKind.wrap .u64 (c:Int)))=((a+b+c:Nat):Int):=by rw[Zpp (by omega),Zpp (by omega),Zpp (by omega),←ZTW,Zpp (by omega),←ZTW,Zpp (by omega)]
 rw[e,show (32:Int)=((32:Nat):Int)from rfl,ZCh 32 (by omega),Zxc,ZxS (a:=(a+b+c) / 2 ^ 32) (by omega)];rfl
theorem ZNP {a:Nat} (h:a < 4294967296):(a >>> 31=0∧a < 2147483648)∨(a >>> 31=1∧2147483648≤a):=by omega
theorem ZM1 {a b c:Nat} (ha:a < 4294967296) (hb:b < 4294967296) (hc:c≤1):Zvd (a:Int) (b:Int) (c:Int)=some ((((a+4294967296 - b - c) % 4294967296:Nat):Int),((if a < b+c then 1 else 0:Nat):Int)):=by
 unfold Zvd;have hM:(if IntKind.signed .u32 then (-1:Int)else IntKind.max .u32)=((4294967295:Nat):Int):=rfl;have e:IntKind.wrap .u32 ((IntKind.wrap .u32 ((a:Int) - (b:Int))) - (c:Int))=(((a+4294967296 - b - c) % 4294967296:Nat):Int):=by grind[IntKind.wrap_u32]
 have hD:(a+4294967296 - b - c) % 4294967296 < 4294967296:=ZUp _ (by decide);rw[hM,e];generalize hd:(a+4294967296 - b - c) % 4294967296=D at hD⊢
 have h1:a ^^^ b < 4294967296:=ZUE (n:=32) ha hb;have h2:4294967295 ^^^ a < 4294967296:=ZUE (n:=32) (by decide) ha;have h3:4294967295 ^^^ (a ^^^ b) < 4294967296:=ZUE (n:=32) (by decide) h1;have h4:(4294967295 ^^^ a)&&& b < 4294967296:=Nat.and_lt_two_pow (n:=32) _ hb;have h5:(4294967295 ^^^ (a ^^^ b))&&& D < 4294967296:=Nat.and_lt_two_pow (n:=32) _ hD;rw[ZHn (by decide) ha,ZHn ha hb,ZHn (by decide) h1,ZGB h2 hb,ZGB h3 hD,ZGZ h4 h5,show (31:Int)=((31:Nat):Int)from rfl,ZDR 31 (by omega)];rw[←Nat.shiftRight_eq_div_pow,Nat.shiftRight_or_distrib,Nat.shiftRight_and_distrib,Nat.shiftRight_and_distrib,ZUB,ZUB,ZUB];have hm:(4294967295:Nat) >>> 31=1:=by decide
 rw[hm];have key:(1 ^^^ a >>> 31)&&& b >>> 31|||(1 ^^^ (a >>> 31 ^^^ b >>> 31))&&& D >>> 31=if a < b+c then 1 else 0:=by rcases ZNP ha with ⟨qa,pa⟩ |⟨qa,pa⟩<;>rcases ZNP hb with ⟨qb,pb⟩ |⟨qb,pb⟩<;>rcases ZNP hD with ⟨qd,pd⟩ |⟨qd,pd⟩<;>rw[qa,qb,qd]<;>split<;>first |rfl |(exfalso;omega)
 simp_all
theorem ZG3 {h l:Nat} (hh:h < 4294967296) (hl:l < 4294967296):orK .u64 (shlK .u64 (IntKind.wrap .u64 (h:Int)) 32) (IntKind.wrap .u64 (l:Int))=((h*4294967296+l:Nat):Int):=by
 have e1:shlK .u64 (IntKind.wrap .u64 (h:Int)) 32=((h*4294967296:Nat):Int):=by unfold shlK;rw[Zpp (by omega),show min (32:Int).toNat (IntKind.bits .u64)=32 from by decide,IntKind.wrap_u64];omega
 rw[e1,Zpp (by omega),ZPN (by omega) (by omega)];have:=Nat.shiftLeft_add_eq_or_of_lt (i:=32) (b:=l) (by omega) h;grind[Nat.shiftLeft_eq]
theorem ZSK {h l y:Nat} (hy:h < y) (hl:l < 4294967296) (hy2:y < 4294967296):Zzo (h:Int) (l:Int) (y:Int)=some ((((h*4294967296+l) / y:Nat):Int),(((h*4294967296+l) % y:Nat):Int)):=by
 have hle:¬((y:Int)≤(h:Int)):=by omega
 have hq:(h*4294967296+l) / y < 4294967296:=(ZUj (by omega)).2 (by
  omega)
 have hr:(h*4294967296+l) % y < y:=ZUp _ (by omega);have hj:ZuE (h:Int) (l:Int) (y:Int) false=some ((((h*4294967296+l) / y:Nat):Int),(((h*4294967296+l) % y:Nat):Int)):=by
  unfold ZuE;rw[cond_false,ZG3 (by omega) hl,Zpp (by omega)];have hne:decide ((y:Int)≠0)=true:=decide_eq_true (by omega);rw[hne,chk_true,chk_true];have e1:Int.tdiv ((h*4294967296+l:Nat):Int) (y:Int)=(((h*4294967296+l) / y:Nat):Int):=by grind
  have e2:Int.tmod ((h*4294967296+l:Nat):Int) (y:Int)=(((h*4294967296+l) % y:Nat):Int):=by grind
  rw[e1,e2,Zpp (by omega),ZxS hq,ZxS (by omega)];rfl
 grind[Zzo]
def ZR2:List Int:=[0,1,2,2,3,3,3,3,4,4,4,4,4,4,4,4]++ZUb 16 5++ZUb 32 6++ZUb 64 7++ZUb 128 8
theorem ZLv:ZsT=fun x n=>(idx (ZR2.map fun n=>UInt8.ofNat n.toNat) (IntKind.wrap .u8 x)).bind fun c=>
 chk (inK .i64 (n+(IntKind.wrap .i64 ((c.toNat:Nat):Int)))) <|
 some (n+(IntKind.wrap .i64 ((c.toNat:Nat):Int))):=by kernel_rfl
theorem ZLw:((List.range 256).all fun v=>match (ZR2.map fun n=>UInt8.ofNat n.toNat)[v]? with |some c=>decide (v < 2 ^ c.toNat∧2 ^ c.toNat≤2*v+(if v=0 then 1 else 0)∧c.toNat≤8) |none=>false)=true:=by kernel_rfl
theorem ZLu {v:Nat} (h:v < 256):∃c:UInt8,(ZR2.map fun n=>UInt8.ofNat n.toNat)[v]? =some c∧v < 2 ^ c.toNat∧(v≠0→2 ^ c.toNat≤2*v)∧c.toNat≤8:=by have:=List.all_eq_true.1 ZLw v (List.mem_range.2 h);split at this;all_goals grind
theorem ZLx {v:Nat} (h:v < 256) (n:Nat) (hn:n≤100):∃k:Nat,ZsT (v:Int) (n:Int)=some (((n+k:Nat):Int))∧v < 2 ^ k∧(v≠0→2 ^ k≤2*v)∧k≤8:=by
 obtain⟨c,hc,h1,h2,h3⟩:=ZLu h;refine⟨c.toNat, ?_,h1,h2,h3⟩;have e:idx (ZR2.map fun n=>UInt8.ofNat n.toNat) (IntKind.wrap .u8 (v:Int))=some c:=by rw[IntKind.wrap_u8,show (v:Int) % 256=(v:Int) by omega];simp_all[idx]
 rw[ZLv];dsimp only;rw[e,ZUF,wrap_i64 (by omega),ZoQ (by omega),chk_true]
 grind
theorem ZPW {x:Nat} (h0:x≠0) (h:x < 4294967296):∃s:Nat,s≤31∧Zs8 (x:Int)=some (s:Int)∧2147483648≤x*2 ^ s∧x*2 ^ s < 4294967296:=by
 have key:∃k:Nat,Zzn (x:Int)=some (k:Int)∧x < 2 ^ k∧2 ^ k≤2*x∧k≤32:=by
  unfold Zzn Zw8;have d16:shrK .u32 (x:Int) 16=((x / 65536:Nat):Int):=ZDR 16 (by omega);have fin:∀(n v:Nat),n≤24→v < 256→v≠0→x / 2 ^ n=v→∃k:Nat,ZsT (v:Int) (n:Int)=some (k:Int)∧x < 2 ^ k∧2 ^ k≤2*x∧k≤32:=fun n v hn hv hv0 hx=>by
   obtain⟨k,q1,q2,q3,q4⟩:=ZLx hv n (by omega);refine⟨n+k,q1, ?_, ?_,by omega⟩
   ·grind[ZUj]
   ·rw[ZUz];have h1:2 ^ n*v≤x:=by rw[←hx];exact Nat.mul_div_le x (2 ^ n)
    have h2:2 ^ n*2 ^ k≤2 ^ n*(2*v):=ZUu _ (q3 hv0);grind
  by_cases c1:65536≤x
  ·rw[decide_eq_true (by omega:(x:Int)≥65536),cond_true,d16];show ∃k:Nat,(bif decide (((x / 65536:Nat):Int)≥256)then _ else _)=_∧_
   by_cases c2:256≤x / 65536
   ·rw[decide_eq_true (by omega:((x / 65536:Nat):Int)≥256),cond_true];have d8:shrK .u32 ((x / 65536:Nat):Int) 8=((x / 65536 / 256:Nat):Int):=ZDR 8 (by omega);rw[d8];exact fin 24 (x / 65536 / 256) (by omega) (by omega) (by omega) (by omega)
   ·rw[decide_eq_false (by omega:¬((x / 65536:Nat):Int)≥256),cond_false];exact fin 16 (x / 65536) (by omega) (by omega) (by omega) (by omega)
  ·rw[decide_eq_false (by omega:¬(x:Int)≥65536),cond_false]
   by_cases c2:256≤x
   ·rw[decide_eq_true (by omega:(x:Int)≥256),cond_true];have d8:shrK .u32 (x:Int) 8=((x / 256:Nat):Int):=ZDR 8 (by omega);rw[d8];exact fin 8 (x / 256) (by omega) (by omega) (by omega) (by omega)
   ·rw[decide_eq_false (by omega:¬(x:Int)≥256),cond_false];exact fin 0 x (by omega) (by omega) h0 (by omega)
 obtain⟨k,hk,h1,h2,h3⟩:=key;have hk1:1≤k:=by
  rcases ZUk k with rfl |hp
  ·simp at h1;omega
  ·exact hp
 refine⟨32 - k,by omega, ?_, ?_, ?_⟩
 ·unfold Zs8;rw[hk,ZUF,ZoQ (by omega),chk_true,show (32:Int) - (k:Int)=((32 - k:Nat):Int) by omega]
 ·have e:2 ^ k*2 ^ (32 - k)=4294967296:=by rw[←ZUz,show k+(32 - k)=32 by omega]
  have:2 ^ k*2 ^ (32 - k)≤2*x*2 ^ (32 - k):=ZUv _ h2;rw[ZUr]at this;omega
 ·have e:2 ^ k*2 ^ (32 - k)=4294967296:=by rw[←ZUz,show k+(32 - k)=32 by omega]
  have:x*2 ^ (32 - k) < 2 ^ k*2 ^ (32 - k):=Nat.mul_lt_mul_of_pos_right h1 (ZUD _);omega
end Go.Proofs
namespace Go.Proofs
open Go Eng
def iL (l:List Nat):List Int:=l.map fun(n:Nat)=>(n:Int)
theorem Zo7 (l:List Nat):(iL l).length=l.length:=by grind[iL]
theorem ZFr (a b:List Nat):iL (a++b)=iL a++iL b:=by grind[iL]
theorem ZP5:iL []=[]:=rfl
theorem ZDv {l:List Nat} {i:Nat} (h:i < l.length):(iL l)[i]? =some (l[i]:Int):=by grind[iL]
theorem ZwA {l:List Nat} {i:Nat} (h:i < l.length):idx (iL l) (i:Int)=some (l[i]:Int):=by grind[idx,ZDv]
theorem ZB9 (l:List Nat) (i x:Nat):(iL l).set i (x:Int)=iL (l.set i x):=by grind[iL,List.map_set]
theorem ZHA (l:List Nat) (i:Nat):(iL l).take i=iL (l.take i):=by grind[iL,List.map_take]
theorem ZFq (n:Nat):ZUb n (0:Int)=iL (ZUb n 0):=by grind[iL,List.map_replicate]
abbrev Bw:Nat:=4294967296
def val:List Nat→Nat
 | []=>0
 |d::r=>d+Bw*val r
def Dg (l:List Nat):Prop:=∀d∈l,d < Bw
theorem Dg.app {a b:List Nat} (ha:Dg a) (hb:Dg b):Dg (a++b):=fun d hd=>(List.mem_append.1 hd).elim (ha d) (hb d)
theorem ZDy:Dg []:=fun _ h=>by grind
theorem ZCM {x:Nat} (h:x < Bw):Dg [x]:=fun d hd=>by simp_all
theorem ZKq (n:Nat):Dg (ZUb n 0):=fun d hd=>by simp_all
theorem Dg.take {a:List Nat} (h:Dg a) (k:Nat):Dg (a.take k):=fun d hd=>h d (List.mem_of_mem_take hd)
theorem Dg.drop {a:List Nat} (h:Dg a) (k:Nat):Dg (a.drop k):=fun d hd=>h d (List.mem_of_mem_drop hd)
theorem Dg.set {a:List Nat} (h:Dg a) (i:Nat) {x:Nat} (hx:x < Bw):Dg (a.set i x):=fun d hd=>by
 rcases List.mem_or_eq_of_mem_set hd with h1 |h1
 ·exact h d h1
 omega
theorem Dg.get {a:List Nat} (h:Dg a) {i:Nat} (hi:i < a.length):a[i] < Bw:=h _ (ZT4 hi)
theorem ZCg:∀a b:List Nat,val (a++b)=val a+Bw ^ a.length*val b
 | [],b=>by simp[val]
 |d::a,b=>by simp only[List.cons_append,val,ZCg a b,ZT6,ZUA,ZUq];grind
theorem Zym (a:List Nat) (x:Nat):val (a++[x])=val a+Bw ^ a.length*x:=by grind[ZCg,val]
theorem Zzv:∀{l:List Nat},Dg l→val l < Bw ^ l.length
 | [],_=>by simp[val]
 |d::r,h=>by
  have h1:=h d (by simp);have h2:=Zzv (l:=r) fun x hx=>h x (by grind)
  grind[val]
theorem ZHp (n:Nat):val (ZUb n 0)=0:=by
 induction n with
 |zero=>rfl
 |succ n ih=>grind[val]
theorem Zpq {l:List Nat} {k:Nat} (h:k < l.length):val (l.take (k+1))=val (l.take k)+Bw ^ k*l[k]:=by grind[ZUf,Zym]
def wd (n:Nat):List Nat:=if h:n=0 then []else n % Bw::wd (n / Bw)
termination_by n
decreasing_by exact Nat.div_lt_self (Nat.pos_of_ne_zero h) (by decide)
theorem ZwC:wd 0=[]:=by grind[wd]
theorem ZD3 {n:Nat} (h:n≠0):wd n=n % Bw::wd (n / Bw):=by grind[wd]
theorem ZxT (n:Nat):Dg (wd n):=by
 induction n using Nat.strongRecOn with
 |ind n ih=>
  by_cases h:n=0
  ·grind[ZwC,ZDy]
  ·rw[ZD3 h];intro d hd;rcases List.mem_cons.1 hd with rfl |hd
   ·grind
   ·exact ih (n / Bw) (Nat.div_lt_self (Nat.pos_of_ne_zero h) (by decide)) d hd
theorem ZtB (n:Nat):val (wd n)=n:=by
 induction n using Nat.strongRecOn with
 |ind n ih=>
  grind[ZwC,ZD3,val]
theorem ZA0 {n k:Nat} (h:n < Bw ^ k):(wd n).length≤k:=by
 induction k generalizing n with
 |zero=>
  grind[ZwC]
 |succ k ih=>
  grind[ZD3]
theorem Ztr {n:Nat} (h:n≠0):0 < (wd n).length:=by grind[ZD3]
theorem ZPp {n:Nat}:wd n=[]↔n=0:=⟨fun h=>by have:=ZtB n;rw[h]at this;exact this.symm,fun h=>by rw[h,ZwC]⟩
theorem ZyK (n:Nat):n < Bw ^ (wd n).length:=by grind[Zzv,ZxT,ZtB]
def ZGR (l:List Nat):List Nat:=(l.reverse.dropWhile (· == 0)).reverse
theorem ZFT (l:List Nat) (x:Nat):ZGR (l++[x])=if x=0 then ZGR l else l++[x]:=by
 grind[ZGR,List.dropWhile_cons]
theorem ZH6:∀{l:List Nat} {x:Nat},Dg (l++[x])→x≠0→wd (val (l++[x]))=l++[x]
 | [],x,h,hx=>by have h1:x < Bw:=h x (by simp);grind[val,ZD3,ZwC]
 |d::l,x,h,hx=>by
  have h1:d < Bw:=h d (by simp);have ih:=ZH6 (l:=l) (x:=x) (fun y hy=>h y (by simp_all)) hx;have hne:val (l++[x])≠0:=fun e=>by simp_all[ZwC]
  simp only[List.cons_append,val];grind[ZD3]
theorem ZH9:∀(n:Nat) {l:List Nat},l.length=n→Dg l→ZGR l=wd (val l)
 |0,l,hl,_=>by simp_all[ZGR,val,ZwC]
 |n+1,l,hl,h=>by
  rcases List.eq_nil_or_concat l with rfl |⟨v,x,rfl⟩
  ·simp_all
  ·rw[List.concat_eq_append]at hl h⊢
   rw[ZFT];split
   ·rename_i h0;subst h0;rw[ZH9 n (by simp_all) (fun d hd=>h d (by grind)),Zym,ZUx,ZUh]
   grind[ZH6]
theorem ZCV {l:List Nat} (h:Dg l) (hl:l.length≤1000000):Zpr (iL l)=some (iL (wd (val l))):=by
 rw[←ZH9 _ rfl h];refine Zp6 ?_;unfold Zpr Zy4;rw[ZoM];refine ZoT (ZzO ZCC (fun(w:List Nat)=>iL w) (fun w=>ZGR w=ZGR l∧w.length≤1000000) List.length (Q:=fun x=>x=iL (ZGR l)) l ⟨rfl,hl⟩ (by omega) ?_) (fun x hx=>by grind[ZoJ]);rintro rec w ⟨hw,hwl⟩ ih;unfold ZAm Zu2 Zwq;rcases List.eq_nil_or_concat w with rfl |⟨v,x,rfl⟩
 ·show wp (some (iL [])) _;rw[ZoJ,←hw];rfl
 ·rw[List.concat_eq_append]at hw hwl⊢
  rw[ZFT]at hw;have hlen:(iL (v++[x])).length=v.length+1:=by grind[Zo7]
  rw[ZoX];refine⟨fun _=> ?_,fun h=>by simp_all⟩;have ei:((iL (v++[x])).length:Int) - 1=(v.length:Int):=by omega
  have hx:(v++[x])[v.length]'(by simp)=x:=by simp
  grind[ZoO,ZwA,ZoJ,ZoQ,Zp8,ZHA,ZTX]
theorem ZNT (l:List Nat) (i:Nat):Ztw (iL l) (i:Int)=some ((l.getD i 0:Nat):Int):=by
 grind[Ztw,Zo7,ZwA]
theorem ZDW {l:List Nat} (h:Dg l) (i:Nat):l.getD i 0 < Bw:=by
 rw[ZT0]
 by_cases hi:i < l.length
 ·rw[ZT1 hi];exact h.get hi
 simp_all
theorem Zzi (l:List Nat) (k:Nat):val (l.take (k+1))=val (l.take k)+Bw ^ k*l.getD k 0:=by
 grind[Zpq,ZUe]
theorem ZJ2 (a b:Nat) (ha:(wd a).length≤100000) (hb:(wd b).length≤100000):Zt7 (iL (wd a)) (iL (wd b))=some (iL (wd (a+b))):=by
 obtain⟨m,hm,hma,hmb,hm2⟩:∃m:Nat,(if ((iL (wd b)).length:Int) > ((iL (wd a)).length:Int)then ((iL (wd b)).length:Int)else ((iL (wd a)).length:Int))=(m:Int)∧(wd a).length≤m∧(wd b).length≤m∧m≤100000:=by
  grind[Zo7]
 refine Zp6 ?_;unfold Zt7;rw[hm,ZoO,ZoO,ZoM];refine⟨ZoQ (by omega),decide_eq_true (by grind[ZD]), ?_⟩;refine ZoT (ZtG ZBV m (by omega) (fun i (s:Nat×List Nat)=>(iL (wd a),iL (wd b),(s.1:Int),(m:Int),i,iL s.2)) (fun i s=>s.1≤1∧s.2.length=i∧Dg s.2∧val s.2+Bw ^ i*s.1=val ((wd a).take i)+val ((wd b).take i))
  (Q:=fun y=>∃(c:Nat) (o:List Nat),y=((c:Int),iL o)∧c≤1∧Dg o∧o.length=m∧val o+Bw ^ m*c=a+b) (0,[]) ⟨by simp,rfl,ZDy,by simp[val]⟩ ?_ ?_) ?_
 ·rintro rec i ⟨c,o⟩ hlt ⟨hc,hl,hd,hv⟩ ih;dsimp only at hc hl hd hv ih;have h1:=ZDW (ZxT a) i;have h2:=ZDW (ZxT b) i;unfold Zwe Zs9;dsimp only;rw[ZoX];refine⟨fun _=> ?_,fun h=>by simp_all⟩;rw[ZNT,ZoM,ZoJ,ZNT,ZoM,ZoJ,ZQD h1 h2 hc,ZoM,ZoJ];dsimp only;rw[ZoO,ZoO,Zo7];refine⟨ZrX (by grind),ZoQ (by omega), ?_⟩;generalize ex:(wd a).getD i 0=x at h1;generalize ey:(wd b).getD i 0=y at h2;have:=ih ((x+y+c) / Bw,o++[(x+y+c) % Bw]) ⟨?_,by grind,hd.app (ZCM (ZUp _ (by decide))), ?_⟩
  ·rw[ZFr]at this;exact this
  all_goals grind[Zym,Zzi,ZUn]
 ·grind[Zwe,Zs9,ZoJ,ZUe,ZtB]
 ·rintro y ⟨c,o,rfl,hc,hd,hl,hv⟩;dsimp only;unfold Zxp;rw[ZoO,Zo7];refine⟨ZrX (by simp only[ZT9];omega), ?_⟩;have e:iL o++[(c:Int)]=iL (o++[c]):=by rw[ZFr];rfl
  rw[e,ZCV (hd.app (ZCM (by unfold Bw;omega))) (by simp;omega),ZoM,ZoJ,ZoJ,Zym,hl,hv]
end Go.Proofs
namespace Go.Proofs
open Go Eng
theorem ZEp {σ τ X:Type} {f:Nat→σ→Option X} {body:(σ→Option X)→σ→Option X} (hf:∀n s,f (n+1) s=body (f n) s)
  (m:Nat) (hm:m≤1000000000000000) (st:Int→τ→σ) (P:Nat→τ→Prop) {Q:X→Prop} (t0:τ) (h0:P m t0)
  (step:∀(rec:σ→Option X) k t,k < m→P (k+1) t→(∀t',P k t'→wp (rec (st ((k:Int) - 1) t')) Q)→wp (body rec (st (k:Int) t)) Q)
  (fin:∀(rec:σ→Option X) t,P 0 t→wp (body rec (st (-1) t)) Q):wp (f big (st ((m:Int) - 1) t0)) Q:=by
 have key:∀(n k:Nat) t,k≤m→P k t→k < n→wp (f n (st ((k:Int) - 1) t)) Q:=by
  intro n
  induction n with
  |zero=>omega
  |succ n ih=>
   intro k t hk hP hn;rw[hf];cases k with
   |zero=>simp_all
   |succ k=>
    grind
 grind[ZCQ]
theorem ZC2 {n:Nat} (h:n≤1000000):mkOk (n:Int) (n:Int) 4=true:=by grind[mkOk,ZD]
def ZFZ (a b:Nat):Int:=if a < b then -1 else if b < a then 1 else 0
theorem ZHb (a b:Nat):ZtA (a:Int) (b:Int)=some (ZFZ a b):=by
 grind[ZtA,Zxt,ZFZ]
theorem ZNK (a b:Nat):ZzJ (a:Int) (b:Int)=some (ZFZ a b):=ZHb a b
theorem ZAS {a b:Nat} (h:a < b):ZFZ a b= -1:=by grind[ZFZ]
theorem ZAz {a b:Nat} (h:b < a):ZFZ a b=1:=by grind[ZFZ]
theorem Zzg (a:Nat):ZFZ a a=0:=by grind[ZFZ]
theorem ZGN {n k:Nat} (h:k < (wd n).length):Bw ^ k≤n:=by
 grind[Nat.lt_or_ge,ZA0]
theorem ZF1 {a b:Nat} (h:(wd a).length < (wd b).length):a < b:=Nat.lt_of_lt_of_le (ZyK a) (ZGN h)
theorem ZBQ {l:List Nat} {k:Nat} (h:k < l.length):val l=val (l.take k)+Bw ^ k*(l[k]+Bw*val (l.drop (k+1))):=by
 grind[ZT3,List.take_append_drop,val,ZCg]
theorem ZGh {p q x y A B:Nat} {k:Nat} (hp:p < Bw ^ k) (h:x < y):p+Bw ^ k*x < q+Bw ^ k*y:=by have:Bw ^ k*(x+1)≤Bw ^ k*y:=ZUu _ h;grind
theorem ZEE (a b:Nat) (ha:(wd a).length≤100000) (hb:(wd b).length≤100000):Zp2 (iL (wd a)) (iL (wd b))=some (ZFZ a b):=by
 refine Zp6 ?_;unfold Zp2;rw[Zo7,Zo7,ZHb,ZoM,ZoJ,ZoX];refine⟨fun h=> ?_,fun h=> ?_⟩
 ·grind[ZoJ,ZAS,ZF1,Zzg,ZAz]
 ·have hl:(wd a).length=(wd b).length:=by
   grind[ZAS,ZAz]
  rw[ZoO,ZoM];refine⟨ZoQ (by omega), ?_⟩;refine ZoT (ZEp ZA6 (wd a).length (by omega) (fun i (s:Unit)=>(iL (wd a),iL (wd b),i)) (fun k _=>(wd a).drop k=(wd b).drop k)
   (Q:=fun r=>r= .ret (ZFZ a b)∧ZFZ a b≠0∨r= .brk ()∧a=b) () (by simp_all) ?_ ?_) ?_
  ·rintro rec k ⟨⟩ hk hP ih;have hk2:k < (wd b).length:=by omega
   unfold Zuy ZrU;dsimp only;rw[ZoX];refine⟨fun _=> ?_,fun h=>by simp_all⟩;rw[ZwA hk,ZoM,ZoJ,ZwA hk2,ZoM,ZoJ,ZNK,ZoM,ZoJ];have ha:=ZBQ hk;have hb:=ZBQ hk2;rw[ZtB]at ha hb;have la:val ((wd a).take k) < Bw ^ k:=by have:=Zzv ((ZxT a).take k);grind
   have lb:val ((wd b).take k) < Bw ^ k:=by have:=Zzv ((ZxT b).take k);grind
   rw[ZoX];refine⟨fun hc=> ?_,fun hc=> ?_⟩
   ·rw[ZoJ];rcases ZUl (wd a)[k] (wd b)[k]with h1 |h1 |h1
    ·rw[ZAS h1];have:a < b:=by rw[ha,hb,hP];exact ZGh (A:=0) (B:=0) la (by omega)
     grind[ZAS]
    ·grind[Zzg]
    ·rw[ZAz h1];have:b < a:=by rw[ha,hb,hP];exact ZGh (A:=0) (B:=0) lb (by omega)
     grind[ZAz]
   ·rw[ZoO];refine⟨ZoQ (by omega),ih () ?_⟩;grind[ZAS,ZAz,ZT3]
  all_goals grind[Zuy,ZrU,ZoJ,ZtB,ZvD,Zzg]
theorem ZM6 {o:List Nat} {n i:Nat} (x:Nat) (ho:o.length=i) (h:i < n):(o++ZUb (n - i) 0).set i x=(o++[x])++ZUb (n - (i+1)) 0:=by
 have:n - i=(n - (i+1))+1:=by omega
 simp_all[List.replicate_succ]
theorem ZIm (a b:Nat) (hab:b≤a) (ha:(wd a).length≤100000):Ztp (iL (wd a)) (iL (wd b))=some (iL (wd (a - b))):=by
 have hlb:(wd b).length≤(wd a).length:=by
  rcases Nat.lt_or_ge (wd a).length (wd b).length with h |h
  ·have:=ZF1 h;omega
  omega
 refine Zp6 ?_;unfold Ztp;rw[Zo7,ZoO,ZoM,ZTX,ZFq];refine⟨ZC2 (by omega), ?_⟩;generalize hn:(wd a).length=n at ha hlb⊢
 rw[show iL (ZUb n 0)=iL ([]++ZUb (n - ([]:List Nat).length) 0) by simp];refine ZoT (ZtG ZBN n (by omega) (fun i (s:Nat×List Nat)=>(iL (wd a),iL (wd b),(s.1:Int),(n:Int),i,iL (s.2++ZUb (n - s.2.length) 0))) (fun i s=>s.1≤1∧s.2.length=i∧Dg s.2∧val ((wd a).take i)+Bw ^ i*s.1=val s.2+val ((wd b).take i))
  (Q:=fun y=>∃(o:List Nat),y=iL o∧Dg o∧o.length=n∧val o=a - b) (0,[]) ⟨by simp,rfl,ZDy,by simp[val]⟩ ?_ ?_) ?_
 ·rintro rec i ⟨c,o⟩ hlt ⟨hc,hl,hd,hv⟩ ih;dsimp only at hc hl hd hv ih;have hi:i < (wd a).length:=by omega
  have h1:=(ZxT a).get hi;have h2:=ZDW (ZxT b) i;unfold ZvC ZsO;dsimp only;rw[ZoX];refine⟨fun _=> ?_,fun h=>by simp_all⟩;rw[ZwA hi,ZoM,ZoJ,ZNT,ZoM,ZoJ,ZM1 h1 h2 hc,ZoM,ZoJ];dsimp only;rw[ZoO,ZoO,Zo7,ZTX,ZB9,hl,ZM6 _ hl hlt];refine⟨Zr7 ⟨by omega,by grind⟩,ZoQ (by omega), ?_⟩;generalize ex:(wd a)[i]=x at h1;generalize ey:(wd b).getD i 0=y at h2;have:=ih ((if x < y+c then 1 else 0),o++[(x+4294967296 - y - c) % 4294967296]) ⟨by grind,by grind,hd.app (ZCM (ZUp _ (by decide))), ?_⟩
  ·simp_all
  ·dsimp only;rw[Zym,hl,ZUA,Zpq hi,Zzi,ex,ey,ZUr];have e:x+Bw*(if x < y+c then 1 else 0)=(x+4294967296 - y - c) % 4294967296+y+c:=by simp only[Bw]at h1 h2⊢;split<;>omega
   grind
 ·rintro rec ⟨c,o⟩ ⟨hc,hl,hd,hv⟩;unfold ZvC ZsO;dsimp only at hc hl hd hv⊢
  rw[ZoX];refine⟨fun h=>by simp only[decide_eq_true_eq]at h;omega,fun _=> ?_⟩;rw[ZoJ];rw[ZUe (by omega),ZUe (by omega),ZtB,ZtB]at hv;have:=Zzv hd;rw[hl]at this;have hc0:c=0:=by
   rcases ZUk c with h |h
   ·exact h
   ·have:c=1:=by omega
    rw[this,Nat.mul_one]at hv;omega
  rw[hc0,ZUx]at hv;exact⟨o,by rw[hl,ZUC];simp,hd,hl,by omega⟩
 grind[ZwW,ZCV,ZoJ]
theorem ZLf (a d:Nat) (hd0:d≠0) (hd:d < Bw) (ha:(wd a).length≤100000):ZvZ (iL (wd a)) (d:Int)=some (iL (wd (a / d)),((a % d:Nat):Int)):=by
 refine Zp6 ?_;unfold ZvZ;rw[Zo7,ZoO,ZoO,ZoM,ZTX,ZFq];refine⟨ZC2 (by omega),ZoQ (by omega), ?_⟩;generalize hn:(wd a).length=n at ha⊢
 rw[show iL (ZUb n 0)=iL (ZUb (n - ([]:List Nat).length) 0++[]) by simp];refine ZoT (ZEp ZBM n (by omega) (fun i (s:Nat×List Nat)=>(iL (wd a),(d:Int),(s.1:Int),i,iL (ZUb (n - s.2.length) 0++s.2))) (fun k s=>s.1 < d∧s.2.length+k=n∧Dg s.2∧val ((wd a).drop k)=val s.2*d+s.1)
  (Q:=fun y=>∃(r:Nat) (o:List Nat),y=((r:Int),iL o)∧Dg o∧o.length=n∧r < d∧a=val o*d+r) (0,[]) ⟨by omega,by simp,ZDy,by grind[val]⟩ ?_ ?_) ?_
 ·rintro rec k ⟨r,o⟩ hk ⟨hr,hl,hdg,hv⟩ ih;dsimp only at hr hl hdg hv ih;have hi:k < (wd a).length:=by omega
  have h1:=(ZxT a).get hi;unfold ZvA ZsM;dsimp only;rw[ZoX];refine⟨fun _=> ?_,fun h=>by simp_all⟩;rw[ZwA hi,ZoM,ZoJ,ZSK hr h1 hd,ZoM,ZoJ];dsimp only;generalize ex:(wd a)[k]=x at h1;have hq:(r*4294967296+x) / d < Bw:=(ZUj (by omega)).2 (by
   grind)
  have es:(ZUb (n - o.length) 0++o).set k ((r*4294967296+x) / d)=ZUb (n - (o.length+1)) 0++((r*4294967296+x) / d)::o:=by
   have e:n - o.length=k+1:=by omega
   have e2:n - (o.length+1)=k:=by omega
   simp_all[List.replicate_succ']
  rw[ZoO,ZoO,Zo7,ZTX,ZB9,es];refine⟨Zr7 ⟨by omega,by grind⟩,ZoQ (by omega), ?_⟩;refine ih ((r*4294967296+x) % d,((r*4294967296+x) / d)::o) ⟨ZUp _ (by omega),by grind,fun y hy=> ?_, ?_⟩
  ·rcases List.mem_cons.1 hy with rfl |hy
   ·omega
   ·exact hdg y hy
  grind[ZT3,val,Nat.div_add_mod]
 ·rintro rec ⟨r,o⟩ ⟨hr,hl,hdg,hv⟩;unfold ZvA ZsM;dsimp only at hr hl hdg hv⊢
  rw[ZoX];refine⟨fun h=>by simp_all,fun _=> ?_⟩;rw[ZoJ];rw[List.drop_zero,ZtB]at hv;refine⟨r,o, ?_,hdg,hl,hr,hv⟩;simp_all
 grind[ZwV,ZCV,ZoJ,ZUs,Nat.mul_add_div,ZUi,Nat.mul_add_mod,ZUo]
end Go.Proofs
namespace Go.Proofs
open Go Eng
theorem ZCf:∀(l:List Nat) (i x:Nat) (h:i < l.length),val (l.set i x)+Bw ^ i*l[i]=val l+Bw ^ i*x
 | [],i,x,h=>absurd h (by simp)
 |d::l,0,x,h=>by grind[val]
 |d::l,i+1,x,h=>by
  have:=ZCf l i x (by simpa using h);have e:Bw*(val (l.set i x)+Bw ^ i*l[i]'(by simpa using h))=Bw*(val l+Bw ^ i*x):=by rw[this]
  rw[ZUq,ZUq]at e;simp only[List.set_cons_succ,val,ZUA,List.getElem_cons_succ];grind
theorem ZNn {x y:Nat} (hx:x≤4294967295) (hy:y≤4294967295):x*y≤18446744065119617025:=ZUt hx hy
theorem ZDt {x y:Nat} (hx:x < Bw) (hy:y < Bw):x*y≤18446744065119617025:=ZNn (by grind) (by grind)
theorem ZPU {c x y e:Nat} (hc:c < Bw) (hx:x < Bw) (hy:y < Bw) (he:e < Bw):IntKind.wrap .u64 ((c:Int)+IntKind.wrap .u64 (IntKind.wrap .u64 (IntKind.wrap .u64 (x:Int)*IntKind.wrap .u64 (y:Int))+IntKind.wrap .u64 (e:Int)))=((c+x*y+e:Nat):Int):=by have:=ZDt hx hy;simp only[Bw]at hc hx hy he;rw[Zpp (by omega),Zpp (by omega),Zpp (by omega),←Int.natCast_mul,Zpp (by omega),←ZTW,Zpp (by omega),←ZTW,Zpp (by omega)];omega
theorem ZMb {c x y e:Nat} (hc:c < Bw) (hx:x < Bw) (hy:y < Bw) (he:e < Bw):(c+x*y+e) / Bw < Bw:=by
 have:=ZDt hx hy;grind
theorem ZGk (a b:Nat) (ha:(wd a).length≤100000) (hb:(wd b).length≤100000):Zrr (iL (wd a)) (iL (wd b))=some (iL (wd (a*b))):=by
 refine Zp6 ?_;unfold Zrr;rw[Zo7,Zo7,ZoO,ZoO,ZoM,←ZTW,ZTX,ZFq];refine⟨ZoQ (by omega),ZC2 (by omega), ?_⟩;generalize hm:(wd a).length=m at ha⊢
 generalize hn:(wd b).length=n at hb⊢
 refine ZoT (ZtG ZBL m (by omega) (fun i (s:List Nat)=>(iL (wd b),iL (wd a),(m:Int),i,iL s)) (fun i s=>s.length=m+n∧Dg s∧val s=val ((wd a).take i)*b∧∀k,i+n≤k→k < m+n→s[k]? =some 0)
  (Q:=fun y=>∃(o:List Nat),y=iL o∧Dg o∧o.length=m+n∧val o=a*b) (ZUb (m+n) 0) ⟨by simp,ZKq _,by grind[ZHp,val],fun k _ h=>by simp_all⟩ ?_ ?_) ?_
 ·rintro rec i s hlt ⟨hl,hd,hv,hz⟩ ih;have hi:i < (wd a).length:=by omega
  have h1:=(ZxT a).get hi;unfold Zvz ZsL;dsimp only;rw[ZoX];refine⟨fun _=> ?_,fun h=>by simp_all⟩;rw[ZwA hi,ZoM,ZoJ,ZoM,Zo7,hn];generalize ex:(wd a)[i]=x at h1;refine ZoT (ZtG ZBK n (by omega) (fun j (t:Nat×List Nat)=>(iL (wd b),(i:Int),(x:Int),(t.1:Int),iL (wd a),(m:Int),(i:Int),iL (wd b),(n:Int),j,iL t.2)) (fun j t=>t.1 < Bw∧t.2.length=m+n∧Dg t.2∧val t.2+Bw ^ (i+j)*t.1=val s+Bw ^ i*(x*val ((wd b).take j))∧∀k,i+n≤k→k < m+n→t.2[k]? =some 0)
   (Q:=fun y=>∃(c:Nat) (o:List Nat),y=(iL (wd b),(i:Int),(c:Int),iL (wd a),(m:Int),(i:Int),iL o)∧c < Bw∧o.length=m+n∧Dg o∧val o+Bw ^ (i+n)*c=val s+Bw ^ i*(x*b)∧∀k,i+n≤k→k < m+n→o[k]? =some 0) (0,s) ⟨by omega,hl,hd,by simp[val],hz⟩ ?_ ?_) ?_
  ·rintro rec2 j ⟨c,o⟩ hj ⟨hc,hol,hod,hov,hoz⟩ ih2;dsimp only at hc hol hod hov hoz ih2;have hj2:j < (wd b).length:=by omega
   have h2:=(ZxT b).get hj2;have hij:i+j < o.length:=by omega
   have h3:=hod.get hij;unfold Zvy ZsK;dsimp only;rw[ZoX];refine⟨fun _=> ?_,fun h=>by grind⟩;rw[ZwA hj2,ZoM,ZoJ,ZoO,ZoO,←ZTW,ZTX,ZDv hij,ZoM,ZoJ,ZoO,ZoO,ZoO,ZoO];generalize ey:(wd b)[j]=y at h2;generalize ee:o[i+j]=e at h3;rw[ZPU hc h1 h2 h3,Zxc,show (32:Int)=((32:Nat):Int)from rfl,ZCh 32 (by omega),Zo7,ZB9];refine⟨ZoQ (by omega),Zr7 ⟨by omega,by omega⟩,ZoQ (by omega),Zr7 ⟨by omega,by omega⟩,by decide,ZoQ (by omega), ?_⟩;refine ih2 ((c+x*y+e) / Bw,o.set (i+j) ((c+x*y+e) % Bw)) ⟨ZMb hc h1 h2 h3,by grind,hod.set _ (ZUp _ (by decide)), ?_,fun k hk hk2=> ?_⟩
   ·dsimp only;have q1:=ZCf o (i+j) ((c+x*y+e) % Bw) hij;grind[ZUn,Zpq]
   grind
  ·rintro rec2 ⟨c,o⟩ ⟨hc,hol,hod,hov,hoz⟩;dsimp only at hc hol hod hov hoz;unfold Zvy ZsK;dsimp only;rw[ZoX];refine⟨fun h=>by have:=of_decide_eq_true h;omega,fun _=> ?_⟩;rw[ZoJ];rw[ZUe (by omega),ZtB]at hov;exact⟨c,o,rfl,hc,hol,hod,hov,hoz⟩
  ·rintro y ⟨c,o,rfl,hc,hol,hod,hov,hoz⟩;dsimp only;unfold ZwU;rw[Zo7,hn,ZoO,ZoO,ZoO,←ZTW,ZTX,ZxS hc,ZB9,Zo7];refine⟨ZoQ (by omega),Zr7 ⟨by omega,by omega⟩,ZoQ (by omega), ?_⟩;have hp:i+n < o.length:=by omega
   have h0:o[i+n]=0:=by have:=hoz (i+n) (Nat.le_refl _) (by omega);rw[ZT1 hp]at this;exact Option.some.inj this
   have q1:=ZCf o (i+n) c hp;rw[h0,ZUx,ZUh]at q1;refine ih (o.set (i+n) c) ⟨by simp[hol],hod.set _ hc, ?_,fun k hk hk2=> ?_⟩
   ·rw[q1,hov,hv,Zpq hi,ex,ZUg,ZUr]
   ·rw[List.getElem?_set_ne (by omega)];exact hoz k (by omega) hk2
 all_goals grind[Zvz,ZsL,ZoJ,ZtB,ZwT,ZCV]
theorem ZGs {c d s:Nat} (hs:s≤31) (hc:c < 2 ^ s) (hd:d < Bw):c|||(d*2 ^ s % Bw)=c+d*2 ^ s % Bw:=by
 have e:Bw=2 ^ (32 - s)*2 ^ s:=by rw[←ZUz,show 32 - s+s=32 by omega]
 rw[e,Nat.mul_mod_mul_right];have:=Nat.shiftLeft_add_eq_or_of_lt hc (d % 2 ^ (32 - s));grind[Nat.shiftLeft_eq]
theorem ZM4 {d s:Nat} (hs:s≤32) (hd:d < Bw):shlK .u64 (IntKind.wrap .u64 (d:Int)) (s:Int)=((d*2 ^ s:Nat):Int):=by
 have h2:2 ^ s≤2 ^ 32:=Nat.pow_le_pow_right (by decide) hs;have h3:d*2 ^ s≤4294967295*4294967296:=ZUt (by grind) h2;unfold shlK;simp only[Bw]at hd;rw[Zpp (by omega),ZTX,show IntKind.bits .u64=64 from rfl,ZUm (by omega)];have e:(d:Int)*(2:Int) ^ s=((d*2 ^ s:Nat):Int):=by simp_all
 rw[e,Zpp (by omega)]
theorem ZFU (l:List Nat) (s:Nat) (hs:s≤31) (hl:l.length≤100000) (hd:Dg l):∃o:List Nat,ZqF (iL l) (s:Int)=some (iL o)∧Dg o∧o.length=l.length+1∧val o=val l*2 ^ s:=by
 have:wp (ZqF (iL l) (s:Int)) (fun y=>∃o:List Nat,y=iL o∧Dg o∧o.length=l.length+1∧val o=val l*2 ^ s):=by
  have h2:2 ^ s≤2 ^ 31:=Nat.pow_le_pow_right (by decide) hs;unfold ZqF ZvB;rw[Zo7,ZoO,ZoO,ZoM,show (l.length:Int)+1=((l.length+1:Nat):Int)from rfl,ZTX,ZFq];refine⟨ZoQ (by omega),ZC2 (by omega), ?_⟩;refine ZoT (ZtG ZA5 l.length (by omega) (fun i (t:List Nat×Nat)=>((s:Int),iL l,(l.length:Int),i,iL (t.1++t.2::ZUb (l.length - t.1.length) 0))) (fun i t=>t.1.length=i∧t.2 < 2 ^ s∧Dg t.1∧val t.1+Bw ^ i*t.2=val (l.take i)*2 ^ s)
   (Q:=fun y=>∃o:List Nat,y=iL o∧Dg o∧o.length=l.length+1∧val o=val l*2 ^ s) ([],0) ⟨rfl,ZUD s,ZDy,by simp[val]⟩ ?_ ?_) ?_
  ·rintro rec i ⟨o,c⟩ hi ⟨hol,hc,hod,hv⟩ ih;dsimp only at hol hc hod hv ih;have h1:=hd.get hi;have hcB:c < Bw:=by grind
   unfold Zux ZrT;dsimp only;rw[ZoX];refine⟨fun _=> ?_,fun h=>by simp_all⟩;rw[ZwA hi,ZoM,ZoJ];generalize ex:l[i]=x at h1;have hlen:(o++c::ZUb (l.length - o.length) 0).length=l.length+1:=by grind
   have hg:(iL (o++c::ZUb (l.length - o.length) 0))[i]? =some (c:Int):=by grind[ZDv]
   rw[ZM4 (by omega) h1,show (32:Int)=((32:Nat):Int)from rfl,ZCh 32 (by omega),Zxc];have hx2:x*2 ^ s / 2 ^ 32 < 2 ^ s:=(ZUj (by decide)).2 (by
    rw[ZUs (2 ^ s)];simp_all[ZUD])
   rw[ZxS (by omega),ZTX,show ((i:Int)+1).toNat=i+1 by omega,hg];rw[ZoO,ZoO,ZoM,ZoJ,ZoO,ZoO,ZoO,ZoO,ZoO,ZGZ hcB (ZUp _ (by decide)),ZGs hs hc h1];have hsum:c+x*2 ^ s % Bw < Bw:=by
    have e:Bw=2 ^ (32 - s)*2 ^ s:=by rw[←ZUz,show 32 - s+s=32 by omega]
    have hm:x % 2 ^ (32 - s)+1≤2 ^ (32 - s):=ZUp _ (ZUD _);have:=ZUv (2 ^ s) hm;grind[Nat.mul_mod_mul_right]
   have es:((o++c::ZUb (l.length - o.length) 0).set i (c+x*2 ^ s % Bw)).set (i+1) (x*2 ^ s / 2 ^ 32)=(o++[c+x*2 ^ s % Bw])++(x*2 ^ s / 2 ^ 32)::ZUb (l.length - (o.length+1)) 0:=by rw[ZUc _ _ (by omega),hol,ZUC,List.set_cons_zero,ZUc _ _ (by omega),hol,show i+1 - i=1 by omega,show l.length - i=(l.length - (i+1))+1 by omega,List.replicate_succ];simp
   rw[ZB9,ZB9,es];simp only[Zo7,ZT8,hlen];refine⟨by simp,Zr7 ⟨by omega,by omega⟩,Zr7 ⟨by omega,by omega⟩,ZoQ (by omega),by decide,Zr7 ⟨by omega,by omega⟩,ZoQ (by omega), ?_⟩;have:=ih (o++[c+x*2 ^ s % Bw],x*2 ^ s / 2 ^ 32) ⟨by grind,hx2,hod.app (ZCM hsum), ?_⟩
   ·simp_all
   grind[ZUn,Zym,Zpq]
  ·rintro rec ⟨o,c⟩ ⟨hol,hc,hod,hv⟩;dsimp only at hol hc hod hv;unfold Zux ZrT;dsimp only;rw[ZoX];refine⟨fun h=>by simp_all,fun _=> ?_⟩;rw[ZoJ];rw[ZUd]at hv;refine⟨o++[c], ?_,hod.app (ZCM (by grind)),by grind, ?_⟩
   all_goals simp_all[Zym]
  grind[ZoJ]
 obtain⟨y,hy,o,rfl,h1,h2,h3⟩:=this;grind
end Go.Proofs
namespace Go.Proofs
open Go Eng
theorem ZP2 {B P u0 u1 u2 wl d1 d2 dl:Nat} (hdl:dl < P) (hd2:d2 < B) (h:((u0*B+u1)*B+u2)*P+wl < B*((d1*B+d2)*P+dl)):u0≤d1:=by
 rcases Nat.lt_or_ge d1 u0 with hlt |hge
 ·exfalso;have h1:(d1+1)*(B*(B*P))≤u0*(B*(B*P)):=ZUv _ hlt;have h2:(d2+1)*P≤B*P:=ZUv _ hd2;rw[ZUg,ZUy]at h2;have h3:B*(d2*P+dl)≤B*(B*P):=ZUu _ (by omega);grind
 omega
theorem ZP1 {B P u0 u1 u2 wl d1 d2 dl q:Nat} (hw:wl < P) (hu2:u2 < B) (h:q*((d1*B+d2)*P+dl)≤((u0*B+u1)*B+u2)*P+wl):q*d1≤u0*B+u1:=by
 rcases Nat.lt_or_ge (u0*B+u1) (q*d1)with hlt |hge
 ·exfalso;have h1:(u0*B+u1+1)*(B*P)≤q*d1*(B*P):=ZUv _ hlt;have h2:(u2+1)*P≤B*P:=ZUv _ hu2;grind
 omega
theorem ZP0 {B P u0 u1 u2 wl d1 d2 dl rest g:Nat} (hw:wl < P) (hr:rest+g*d1=u0*B+u1) (hg:rest*B+u2 < g*d2):((u0*B+u1)*B+u2)*P+wl < g*((d1*B+d2)*P+dl):=by
 rw[←hr];have h1:(rest*B+u2+1)*P≤g*d2*P:=ZUv _ hg;grind
theorem ZPZ {B P u0 u1 u2 wl d1 d2 dl rest g:Nat} (hdl:dl < P) (hB:g < B) (h1:1≤d1) (hr:rest+g*d1=u0*B+u1) (hg:g*d2≤rest*B+u2):g*((d1*B+d2)*P+dl) < (((u0*B+u1)*B+u2)*P+wl)+((d1*B+d2)*P+dl):=by
 rw[←hr];have h2:g*d2*P≤(rest*B+u2)*P:=ZUv _ hg;have h3:g*dl≤g*P:=ZUu _ (Nat.le_of_lt hdl);have h4:(g+1)*P≤B*P:=ZUv _ hB;have h5:1*(B*P)≤d1*(B*P):=ZUv _ h1;grind
theorem rdw {pre w suf:List Nat} {k:Nat} (h:k < w.length):(iL (pre++(w++suf)))[pre.length+k]? =some (w[k]:Int):=by grind[ZDv]
theorem stw {pre w suf:List Nat} {k:Nat} (x:Nat) (h:k < w.length):(iL (pre++(w++suf))).set (pre.length+k) (x:Int)=iL (pre++(w.set k x++suf)):=by grind[ZB9]
theorem ZSk {l:List Nat} {m:Nat} (h:l.length=m+2):val l=(l[m+1]*Bw+l[m])*Bw ^ m+val (l.take m):=by have e:=ZBQ (l:=l) (k:=m) (by omega);have e2:=ZBQ (l:=l) (k:=m+1) (by omega);have h3:=Zpq (l:=l) (k:=m) (by omega);rw[List.drop_eq_nil_of_le (by omega)]at e2;simp only[val,ZUx,ZUh]at e2;grind
theorem top3 {l:List Nat} {m:Nat} (h:l.length=m+3):val l=((l[m+2]*Bw+l[m+1])*Bw+l[m])*Bw ^ m+val (l.take m):=by have e:val l=(l[m+2]*Bw+l[m+1])*Bw ^ (m+1)+val (l.take (m+1)):=ZSk (by omega);grind[Zpq]
theorem ZNx {h l:Nat} (hh:h < 4294967296) (hl:l < 4294967296):orK .u64 (shlK .u64 (h:Int) 32) (IntKind.wrap .u64 (l:Int))=((h*4294967296+l:Nat):Int):=by
 grind[ZG3,Zpp]
theorem ZNp {x y:Nat} (hx:x < Bw) (hy:y < Bw):IntKind.wrap .u64 ((x:Int)*IntKind.wrap .u64 (y:Int))=((x*y:Nat):Int):=by have:=ZDt hx hy;rw[Zpp (by grind),←Int.natCast_mul,Zpp (by omega)]
theorem ZLE {pre w suf d:List Nat} {m:Nat} (hw:w.length=m+3) (hd:d.length=m+2) (hwd:Dg w) (hdd:Dg d) (h1:1≤d[m+1]) (hlt:val w < Bw*val d) (hm:m≤100000) {g r:Nat}
  (hg:g < Bw) (hq:val w / val d≤g) (hr:r+g*d[m+1]=w[m+2]*Bw+w[m+1]) (hr2:r < 2*Bw):
  wp (Zty big pre.length (m+3) (iL d) ((m+2:Nat):Int) (g:Int) (r:Int) (iL (pre++(w++suf)))) (fun y=>∃g:Nat,y=(pre.length,m+3,iL d,((m+2:Nat):Int),(g:Int),iL (pre++(w++suf)))∧g < Bw∧val w / val d≤g∧g*val d < val w+val d):=by
 have hw0:=hwd.get (i:=m) (by omega);have hd2:=hdd.get (i:=m) (by omega);have hd1:=hdd.get (i:=m+1) (by omega);have hdl:val (d.take m) < Bw ^ m:=by have:=Zzv (hdd.take m);simp_all
 have hwl:val (w.take m) < Bw ^ m:=by have:=Zzv (hwd.take m);simp_all
 have eW:=top3 hw;have eD:=ZSk hd;have rd:(iL (pre++(w++suf)))[pre.length+m]? =some (w[m]:Int):=rdw (by omega);have rdd:idx (iL d) (m:Int)=some (d[m]:Int):=ZwA (by omega);have rdd1:idx (iL d) ((m+1:Nat):Int)=some (d[m+1]:Int):=ZwA (by omega);generalize d[m+1]=d1 at*
 generalize d[m]=d2 at*
 generalize w[m+2]=u0 at*
 generalize w[m+1]=u1 at*
 generalize w[m]=u2 at*
 have hDpos:0 < val d:=by grind
 have hdiv:∀g,val w < g*val d→val w / val d < g:=fun g h=>(ZUj hDpos).2 h
 generalize val w / val d=qq at*
 refine ZzO ZDe (fun(t:Nat×Nat)=>(pre.length,m+3,iL d,((m+2:Nat):Int),(t.1:Int),(t.2:Int),iL (pre++(w++suf)))) (fun t=>t.1 < Bw∧qq≤t.1∧t.2+t.1*d1=u0*Bw+u1∧t.2 < 2*Bw) (fun t=>t.1) (g,r) ⟨hg,hq,hr,hr2⟩ (by grind) ?_;rintro rec ⟨g,r⟩ ⟨hg,hq,hr,hr2⟩ ih;dsimp only at hg hq hr hr2 ih;unfold ZBa Zy7;dsimp only;have e2:((m+2:Nat):Int) - 2=(m:Int):=by omega
 have e1:((m+2:Nat):Int) - 1=((m+1:Nat):Int):=by omega
 have fin:g*d2≤r*Bw+u2→wp (some (pre.length,m+3,iL d,((m+2:Nat):Int),(g:Int),iL (pre++(w++suf)))) (fun y=>∃g:Nat,y=(pre.length,m+3,iL d,((m+2:Nat):Int),(g:Int),iL (pre++(w++suf)))∧g < Bw∧qq≤g∧g*val d < val w+val d):=fun h=>by rw[ZoJ];refine⟨g,rfl,hg,hq, ?_⟩;rw[eW,eD];exact ZPZ hdl hg h1 hr h
 rw[ZoX];refine⟨fun h=> ?_,fun h=> ?_⟩
 ·have hrB:r < 4294967296:=by grind
  rw[e2,ZoO,rdd,ZoM,ZoJ,ZoO,ZoO,ZoO,ZoM,ZTX,rd,ZoJ,ZNp hg hd2,ZNx hrB hw0];refine⟨ZoQ (by omega),by decide,ZoQ (by omega),Zr7 ⟨by omega,by omega⟩, ?_⟩;unfold ZvF;rw[ZoX];refine⟨fun h=> ?_,fun h=> ?_⟩
  ·have hc:r*Bw+u2 < g*d2:=by grind
   have hlt2:val w < g*val d:=by rw[eW,eD];exact ZP0 hwl hr hc
   have hqg:qq < g:=hdiv g hlt2;rw[e1,ZoO,rdd1,ZoM,ZoJ];refine⟨ZoQ (by omega), ?_⟩;have eg:IntKind.wrap .u64 ((g:Int) - 1)=((g - 1:Nat):Int):=by grind[Zpp]
   have er:IntKind.wrap .u64 ((r:Int)+IntKind.wrap .u64 (d1:Int))=((r+d1:Nat):Int):=by simp only[Bw]at hd1;rw[Zpp (by omega),←ZTW,Zpp (by omega)]
   rw[eg,er];refine ih (g - 1,r+d1) ⟨by omega,by omega, ?_,by grind⟩ (by omega);dsimp only;rw[←hr,show g*d1=(g - 1+1)*d1 by grind,ZUg,ZUy];omega
  grind
 ·have hrB:4294967296≤r:=by have:=of_decide_eq_false h;omega
  unfold ZvF;rw[cond_false];refine fin ?_;have h1:=ZDt hg hd2;have h2:4294967296*4294967296≤r*Bw:=ZUt hrB (Nat.le_refl _);omega
end Go.Proofs
namespace Go.Proofs
open Go Eng
abbrev ZLY (pre suf:List Nat) (W D m:Nat) (y:Int×List Int):Prop:=∃w':List Nat,y=(((W / D:Nat):Int),iL (pre++(w'++suf)))∧w'.length=m+3∧Dg w'∧val w'=W % D
theorem ZNS {pre w suf d:List Nat} {m W:Nat} (hw:w.length=m+3) (hd:d.length=m+2) (hwd:Dg w) (hdd:Dg d) (hm:m≤100000) {g:Nat} (hg:g < Bw)
  (hg1:W < g*val d) (hg2:g*val d < W+val d) (hv:val w+g*val d=W+Bw ^ (m+3)):
  wp ((ZvE big pre.length (m+3) ((m+2:Nat):Int) (g:Int) (0:Int) (iL d) (d.length:Int) (0:Int) (iL (pre++(w++suf)))).bind fun(x0,x1,x2,x3,x4,x5)=>ZxJ x0 x1 x2 x3 x4 x5) (ZLY pre suf W (val d) m):=by
 rw[ZoM,hd];have hDpos:0 < val d:=by omega
 refine ZoT (ZtG ZDc (m+2) (by omega) (fun i (t:Nat×List Nat)=>(pre.length,m+3,((m+2:Nat):Int),(g:Int),(t.1:Int),iL d,((m+2:Nat):Int),i,iL (pre++(t.2++suf)))) (fun i t=>t.1≤1∧t.2.length=m+3∧Dg t.2∧val t.2+Bw ^ i*t.1=val w+val (d.take i))
  (Q:=fun y=>∃(a:Nat) (w2:List Nat),y=(pre.length,m+3,((m+2:Nat):Int),(g:Int),(a:Int),iL (pre++(w2++suf)))∧a≤1∧w2.length=m+3∧Dg w2∧val w2+Bw ^ (m+2)*a=val w+val d) (0,w) ⟨by simp,hw,hwd,by simp[val]⟩ ?_ ?_) ?_
 ·rintro rec i ⟨a,o⟩ hi ⟨ha,hol,hod,hv⟩ ih;dsimp only at ha hol hod hv ih;have hi1:i < o.length:=by omega
  have hi2:i < d.length:=by omega
  have h1:=hod.get hi1;have h2:=hdd.get hi2;unfold Zy5 Zwr;dsimp only;rw[ZoX];refine⟨fun _=> ?_,fun h=>by grind⟩;rw[ZwA hi2,ZoM,ZoJ,ZoO,ZoM,ZTX,rdw hi1,ZoJ,ZQD h1 h2 ha,ZoM,ZoJ];dsimp only;rw[ZoO,ZoO,stw _ hi1];refine⟨Zr7 ⟨by omega,by omega⟩,Zr7 ⟨by omega,by omega⟩,ZoQ (by omega), ?_⟩;generalize ex:d[i]=x at h2;generalize ee:o[i]=e at h1;refine ih ((e+x+a) / 4294967296,o.set i ((e+x+a) % 4294967296)) ⟨by grind,by grind,hod.set _ (ZUp _ (by decide)), ?_⟩;grind[ZCf,ZUn,Zpq]
 ·rintro rec ⟨a,o⟩ ⟨ha,hol,hod,hv⟩;dsimp only at ha hol hod hv;unfold Zy5 Zwr;dsimp only;rw[ZoX];refine⟨fun h=>by have:=of_decide_eq_true h;omega,fun _=> ?_⟩;rw[ZoJ];rw[ZUe (by omega)]at hv;grind
 ·rintro y ⟨a,o,rfl,ha,hol,hod,hov⟩;dsimp only;have hi1:m+2 < o.length:=by omega
  have h1:=hod.get hi1;unfold ZxJ;rw[ZoO,ZoM,ZTX,rdw hi1,ZoJ,ZoO];generalize ee:o[m+2]=e at h1;have ew:IntKind.wrap .u32 ((e:Int)+(a:Int))=(((e+a) % 4294967296:Nat):Int):=by rw[←ZTW,Zxc]
  have hgp:1≤g:=by
   rcases ZUk g with h |h
   ·rw[h,Nat.zero_mul]at hg1;omega
   ·exact h
  have eg:IntKind.wrap .u32 (IntKind.wrap .u64 ((g:Int) - 1))=((g - 1:Nat):Int):=by simp only[Bw]at hg;rw[show (g:Int) - 1=((g - 1:Nat):Int) by omega,Zpp (by omega),ZxS (by omega)]
  rw[ew,eg,stw _ hi1,ZoJ];refine⟨Zr7 ⟨by omega,by omega⟩,Zr7 ⟨by omega,by omega⟩, ?_⟩;have q1:=ZCf o (m+2) ((e+a) % 4294967296) hi1;rw[ee]at q1;have q2:Bw ^ (m+2)*((e+a) % 4294967296+Bw*((e+a) / 4294967296))=Bw ^ (m+2)*(e+a):=by rw[ZUn]
  rw[ZUq,ZUq,←ZUr,←ZUA]at q2;have hdn:Dg (o.set (m+2) ((e+a) % 4294967296)):=hod.set _ (ZUp _ (by decide));have hlt:=Zzv hdn;rw[ZT8,hol]at hlt;have hco:(e+a) / 4294967296≤1:=by simp only[Bw]at h1;omega
  have hpw:Bw ^ (m+2+1)=Bw ^ (m+3):=rfl;rw[hpw]at q2;have egD:g*val d=(g - 1)*val d+val d:=by rw[show g*val d=(g - 1+1)*val d by rw[Nat.sub_add_cancel hgp],ZUg,ZUy]
  have key:val (o.set (m+2) ((e+a) % 4294967296))+(g - 1)*val d=W:=by
   rcases ZUk ((e+a) / 4294967296)with hz |hz
   ·rw[hz,ZUx]at q2;omega
   ·rw[show (e+a) / 4294967296=1 by omega,Nat.mul_one]at q2;omega
  have hl3:(o.set (m+2) ((e+a) % 4294967296)).length=m+3:=by rw[ZT8,hol]
  generalize o.set (m+2) ((e+a) % 4294967296)=w3 at*
  have hlt3:val w3 < val d:=by omega
  have eq1:W / val d=g - 1:=by rw[←key,Nat.add_mul_div_right _ _ hDpos,ZUi hlt3,Nat.zero_add]
  have eq2:W % val d=val w3:=by rw[←key,Nat.add_mul_mod_self_right,ZUo hlt3]
  exact⟨w3,by rw[eq1],hl3,hdn,eq2.symm⟩
theorem ZMZ {pre w suf d:List Nat} {m:Nat} (hw:w.length=m+3) (hd:d.length=m+2) (hwd:Dg w) (hdd:Dg d) (hm:m≤100000) {g:Nat} (hg:g < Bw)
  (hDpos:0 < val d) (hq:val w / val d≤g) (hg2:g*val d < val w+val d):
  wp (ZxK pre.length (m+3) (iL d) ((m+2:Nat):Int) (g:Int) (iL (pre++(w++suf)))) (ZLY pre suf (val w) (val d) m):=by
 unfold ZxK;rw[ZoM,Zo7,hd];refine ZoT (ZtG ZDd (m+2) (by omega) (fun i (t:Nat×Nat×List Nat)=>(pre.length,m+3,iL d,((m+2:Nat):Int),(g:Int),(t.1:Int),(t.2.1:Int),iL d,((m+2:Nat):Int),i,iL (pre++(t.2.2++suf)))) (fun i t=>t.1≤1∧t.2.1 < Bw∧t.2.2.length=m+3∧Dg t.2.2∧val t.2.2+g*val (d.take i)=val w+Bw ^ i*(t.1+t.2.1))
  (Q:=fun y=>∃(b c:Nat) (w2:List Nat),y=(pre.length,m+3,iL d,((m+2:Nat):Int),(g:Int),(b:Int),(c:Int),iL (pre++(w2++suf)))∧b≤1∧c < Bw∧w2.length=m+3∧Dg w2∧val w2+g*val d=val w+Bw ^ (m+2)*(b+c)) (0,0,w) ⟨by simp,by simp,hw,hwd,by simp[val]⟩ ?_ ?_) ?_
 ·rintro rec i ⟨b,c,o⟩ hi ⟨hb,hc,hol,hod,hv⟩ ih;dsimp only at hb hc hol hod hv ih;have hi1:i < o.length:=by omega
  have hi2:i < d.length:=by omega
  have h1:=hod.get hi1;have h2:=hdd.get hi2;unfold Zy6 Zws;dsimp only;rw[ZoX];refine⟨fun _=> ?_,fun h=>by grind⟩;rw[ZwA hi2,ZoM,ZoJ,ZoO,ZoM,ZTX,rdw hi1,ZoJ];generalize ex:d[i]=x at h2;generalize ee:o[i]=e at h1;have hbd:=ZDt hg h2;have es:IntKind.wrap .u64 ((c:Int)+((g*x:Nat):Int))=((c+g*x:Nat):Int):=by simp only[Bw]at hc;rw[←ZTW,Zpp (by omega)]
  rw[ZNp hg h2,es,Zxc,ZM1 h1 (ZUp _ (by decide)) hb,ZoM,ZoJ];dsimp only;rw[ZoO,ZoO,ZoO,stw _ hi1,show (32:Int)=((32:Nat):Int)from rfl,ZCh 32 (by omega)];refine⟨Zr7 ⟨by omega,by omega⟩,Zr7 ⟨by omega,by omega⟩,by decide,ZoQ (by omega), ?_⟩;have hlo:(c+g*x) % 4294967296 < 4294967296:=ZUp _ (by decide);have hhi:(c+g*x) / 2 ^ 32 < Bw:=by grind
  have hs:(c+g*x) % 4294967296+Bw*((c+g*x) / 2 ^ 32)=c+g*x:=ZUn _ _;generalize (c+g*x) % 4294967296=lo at*
  generalize (c+g*x) / 2 ^ 32=hi' at*
  refine ih ((if e < lo+b then 1 else 0),hi',o.set i ((e+4294967296 - lo - b) % 4294967296)) ⟨by grind,hhi,by grind,hod.set _ (ZUp _ (by decide)), ?_⟩;dsimp only;have q1:=ZCf o i ((e+4294967296 - lo - b) % 4294967296) hi1;rw[ee]at q1;have e1:e+Bw*(if e < lo+b then 1 else 0)=(e+4294967296 - lo - b) % 4294967296+lo+b:=by grind
  grind[Zpq]
 ·rintro rec ⟨b,c,o⟩ ⟨hb,hc,hol,hod,hv⟩;dsimp only at hb hc hol hod hv;unfold Zy6 Zws;dsimp only;rw[ZoX];refine⟨fun h=>by have:=of_decide_eq_true h;omega,fun _=> ?_⟩;rw[ZoJ];rw[ZUe (by omega)]at hv;grind
 ·rintro y ⟨b,c,o,rfl,hb,hc,hol,hod,hv⟩;dsimp only;have hi1:m+2 < o.length:=by omega
  have h1:=hod.get hi1;unfold ZzZ;rw[ZoO,ZoM,ZTX,rdw hi1,ZoJ,ZxS hc];generalize ee:o[m+2]=e at h1;rw[ZM1 h1 hc hb,ZoM,ZoJ];dsimp only;rw[ZoO,stw _ hi1,ZxS hg];refine⟨Zr7 ⟨by omega,by omega⟩,Zr7 ⟨by omega,by omega⟩, ?_⟩;have q1:=ZCf o (m+2) ((e+4294967296 - c - b) % 4294967296) hi1;rw[ee]at q1;have e1:e+Bw*(if e < c+b then 1 else 0)=(e+4294967296 - c - b) % 4294967296+c+b:=by simp only[Bw]at h1 hc⊢;split<;>omega
  have q2:Bw ^ (m+2)*(e+Bw*(if e < c+b then 1 else 0))=Bw ^ (m+2)*((e+4294967296 - c - b) % 4294967296+c+b):=by rw[e1]
  rw[ZUq,ZUq,ZUq,←ZUr,←ZUA]at q2;rw[ZUq]at hv;have hpw:Bw ^ (m+2+1)=Bw ^ (m+3):=rfl;rw[hpw]at q2;have hdn:Dg (o.set (m+2) ((e+4294967296 - c - b) % 4294967296)):=hod.set _ (ZUp _ (by decide));have hlt:=Zzv hdn;rw[ZT8,hol]at hlt;have hl3:(o.set (m+2) ((e+4294967296 - c - b) % 4294967296)).length=m+3:=by rw[ZT8,hol]
  generalize o.set (m+2) ((e+4294967296 - c - b) % 4294967296)=w3 at*
  generalize (e+4294967296 - c - b) % 4294967296=dd at*
  by_cases hcc:e < c+b
  ·rw[if_pos hcc]at q2⊢
   rw[show (((1:Nat):Int) == 0)=false from rfl,cond_false];rw[Zo7 d];exact ZNS (pre:=pre) (suf:=suf) hl3 hd hdn hdd hm hg (by omega) hg2 (by omega)
  ·rw[if_neg hcc]at q2⊢
   rw[show (((0:Nat):Int) == 0)=true from rfl,cond_true,ZoJ];have key:val w3+g*val d=val w:=by omega
   have hlt3:val w3 < val d:=by have h5:(val w / val d)*val d≤g*val d:=ZUv _ hq;have h6:=Nat.div_add_mod (val w) (val d);have h7:=ZUp (val w) hDpos;rw[ZUs]at h6;omega
   have eq1:val w / val d=g:=by rw[←key,Nat.add_mul_div_right _ _ hDpos,ZUi hlt3,Nat.zero_add]
   have eq2:val w % val d=val w3:=by rw[←key,Nat.add_mul_mod_self_right,ZUo hlt3]
   exact⟨w3,by rw[eq1],hl3,hdn,eq2.symm⟩
theorem ZLK {pre w suf d:List Nat} {m:Nat} (hw:w.length=m+3) (hd:d.length=m+2) (hwd:Dg w) (hdd:Dg d) (hm:m≤100000) (h1:1≤d[m+1]) (hlt:val w < Bw*val d):
  wp (ZyF (iL (pre++(w++suf))) pre.length (m+3) (iL d)) (ZLY pre suf (val w) (val d) m):=by
 have hd1:=hdd.get (i:=m+1) (by omega);have hd2:=hdd.get (i:=m) (by omega);have h_u0:=hwd.get (i:=m+2) (by omega);have h_u1:=hwd.get (i:=m+1) (by omega);have h_u2:=hwd.get (i:=m) (by omega);have hdl:val (d.take m) < Bw ^ m:=by have:=Zzv (hdd.take m);simp_all
 have hwl:val (w.take m) < Bw ^ m:=by have:=Zzv (hwd.take m);simp_all
 have eW:=top3 hw;have eD:=ZSk hd;have hDpos:0 < val d:=by grind
 have hk1:w[m+2]≤d[m+1]:=ZP2 hdl hd2 (by rw[←eW,←eD];omega);have hk2:(val w / val d)*d[m+1]≤w[m+2]*Bw+w[m+1]:=ZP1 hwl h_u2 (by rw[←eW,←eD];exact Nat.div_mul_le_self _ _);have hqB:val w / val d < Bw:=(ZUj hDpos).2 hlt;have hG:∃g:Nat,(if (4294967295:Int) < (IntKind.wrap .u64 (Int.tdiv (orK .u64 (shlK .u64 (IntKind.wrap .u64 (w[m+2]:Int)) 32) (IntKind.wrap .u64 (w[m+1]:Int))) (IntKind.wrap .u64 (d[m+1]:Int))))then (4294967295:Int)else (IntKind.wrap .u64 (Int.tdiv (orK .u64 (shlK .u64 (IntKind.wrap .u64 (w[m+2]:Int)) 32) (IntKind.wrap .u64 (w[m+1]:Int))) (IntKind.wrap .u64 (d[m+1]:Int)))))=(g:Int)∧g < Bw∧val w / val d≤g∧g*d[m+1]≤w[m+2]*Bw+w[m+1]∧w[m+2]*Bw+w[m+1] < g*d[m+1]+2*Bw:=by
  rw[ZG3 h_u0 h_u1,Zpp (by grind)];have e1:Int.tdiv ((w[m+2]*4294967296+w[m+1]:Nat):Int) (d[m+1]:Int)=(((w[m+2]*4294967296+w[m+1]) / d[m+1]:Nat):Int):=by grind
  have hnum:w[m+2]*4294967296+w[m+1] < 18446744073709551616:=by grind
  have hle:(w[m+2]*4294967296+w[m+1]) / d[m+1]≤w[m+2]*4294967296+w[m+1]:=Nat.div_le_self _ _;rw[e1,Zpp (by omega)];have hq2:val w / val d≤(w[m+2]*4294967296+w[m+1]) / d[m+1]:=(Nat.le_div_iff_mul_le (by omega)).2 hk2;have hdm:=Nat.div_add_mod (w[m+2]*4294967296+w[m+1]) d[m+1];have hml:=ZUp (w[m+2]*4294967296+w[m+1]) (show 0 < d[m+1] by omega);rw[ZUs]at hdm;generalize (w[m+2]*4294967296+w[m+1]) / d[m+1]=q0 at*
  generalize (w[m+2]*4294967296+w[m+1]) % d[m+1]=r0 at*
  generalize val w / val d=qq at*
  by_cases hc:4294967295 < q0
  ·refine⟨4294967295,by omega,by simp_all,by grind, ?_, ?_⟩
   ·have:=ZUv d[m+1] (show 4294967295≤q0 by omega);grind
   grind
  ·refine⟨q0,by omega,by grind,hq2, ?_, ?_⟩
   all_goals grind
 have h2:wp (ZzV (iL (pre++(w++suf))) pre.length (m+3) (iL d)) (ZLY pre suf (val w) (val d) m):=by
  obtain⟨g,hg,hgB,hgq,hgd,hgr⟩:=hG;have e1:((m+2:Nat):Int) - 1=((m+1:Nat):Int):=by omega
  unfold ZzV;rw[Zo7,hd,e1,ZTX,ZTX,rdw (by omega),rdw (by omega),ZwA (by omega)];rw[ZoO,ZoM,ZoJ,ZoO,ZoO,ZoO,ZoM,ZoJ,ZoO,ZoM,ZoJ,ZoO,ZoO,ZoM,ZoJ,hg,ZG3 h_u0 h_u1,ZNp hgB hd1,ZoM];have er:IntKind.wrap .u64 (((w[m+2]*4294967296+w[m+1]:Nat):Int) - ((g*d[m+1]:Nat):Int))=((w[m+2]*4294967296+w[m+1] - g*d[m+1]:Nat):Int):=by simp only[Bw]at hgd hgr;rw[←Int.ofNat_sub hgd,Zpp (by omega)]
  rw[er];refine⟨Zr7 ⟨by omega,by omega⟩,by decide,ZoQ (by omega),Zr7 ⟨by omega,by omega⟩,ZoQ (by omega),decide_eq_true (by rw[Zpp (by simp only[Bw]at hd1;omega)];omega),ZoQ (by omega), ?_⟩;refine ZoT (ZLE hw hd hwd hdd h1 hlt hm hgB hgq (by simp only[Bw]at hgd⊢;omega) (by simp only[Bw]at hgr⊢;omega)) ?_;rintro y ⟨g',rfl,h3,h4,h5⟩;grind[ZMZ]
 unfold ZyF;rw[ZoM];refine ZoT h2 ?_;grind[ZoO,ZoJ,Zo7]
end Go.Proofs
