/- Plain laws over the specs, part 0. -/
import Derived.Test.YtpddhnpfnefdeaaGreatDoorE4
import Derived.Laws.BitsLemmas
import Derived.Laws.Bits64
import Derived.KernelRfl
import Derived.Test.YtpddhnpfnefdeaaGreatDoorQtS
set_option linter.all false
open Bool renaming not_eq_true'->ZXi, not_eq_false'->ZSL
open Int renaming toNat_natCast->ZXk, natCast_add->ZXj
open List renaming replicate->ZXy, take_of_length_le->ZXB, getElem_mem->ZXr, length_take->ZXx, getElem?_eq_getElem->ZXo, length_cons->ZXt, take_succ_eq_append_getElem->ZXC, take_length->ZXA, set_append_right->ZXz, length_set->ZXv, length_replicate->ZXu, all_eq_false->ZXm, all_append->ZXl, getD_eq_getElem?_getD->ZXn, length_singleton->ZXw, getElem_cons_drop->ZXq, length_append->ZXs, getElem?_eq_none->ZXp
open Nat renaming mul_add->ZXN, mul_assoc->ZXO, mod_lt->ZXM, mul_comm->ZXP, mul_le_mul_right->ZXS, pow_succ->ZXX, add_mul->ZXD, min_eq_left->ZXJ, one_mul->ZXV, div_lt_iff_lt_mul->ZXG, pow_add->ZXW, mul_zero->ZXU, mod_add_div->ZXK, mul_le_mul_left->ZXR, two_pow_pos->ZX0, add_zero->ZXE, mod_eq_of_lt->ZXL, div_eq_of_lt->ZXF, sub_self->ZXZ, mul_le_mul->ZXQ, xor_lt_two_pow->ZX1, mul_left_comm->ZXT, eq_zero_or_pos->ZXH, lt_trichotomy->ZXI, shiftRight_xor_distrib->ZXY
open Option renaming bind_some->ZX2
namespace Go.Proofs
open Go Eng
def wp {a:Type} (o:Option a) (Q:a->Prop):Prop:=∃x,o=some x/\Q x
section
variable {α β:Type} {Q:α->Prop}
theorem ZnA {x:α}:wp (some x) Q<->Q x:=⟨fun⟨_,h,q⟩=>by cases h;exact q,fun q=>⟨x,rfl,q⟩⟩
theorem ZPk:wp (none:Option α) Q<->False:=by simp[wp]
theorem ZnD {o:Option β} {f:β->Option α}:wp (o.bind f) Q<->wp o (fun a=>wp (f a) Q):=by
 constructor
 ·rintro⟨x,h,q⟩;obtain⟨a,b,h⟩:=bind_some h;exact⟨a,b,x,h,q⟩
 ·rintro⟨a,rfl,x,h,q⟩;exact⟨x,h,q⟩
theorem ZnF {b:Bool} {o:Option α}:wp (chk b o) Q<->b=true/\wp o Q:=by cases b<;>simp[chk,wp]
theorem ZnP {b:Bool} {x y:Option α}:wp (bif b then x else y) Q<->(b=true->wp x Q)/\(b=false->wp y Q):=by cases b<;>simp
theorem ZSm {a:List α} {i:Nat}:wp (a[i]?) Q<->∃h:i < a.length,Q a[i]:=by
 constructor
 ·rintro⟨x,h,q⟩;obtain⟨c,b⟩:=List.getElem?_eq_some_iff.1 h;subst b;exact⟨c,q⟩
 ·rintro⟨h,q⟩;exact⟨_,ZXo h,q⟩
theorem ZF9 {a:List α} {i:Int}:wp (idx a i) Q<->0<=i/\∃h:i.toNat < a.length,Q a[i.toNat]:=by
 unfold idx;split
 ·rename_i h;rw[ZSm];simp[h]
 ·rename_i h;rw[ZPk];simp[h]
theorem ZnK {R:α->Prop} {o:Option α} (h:wp o Q) (a:∀x,Q x->R x):wp o R:=by obtain⟨x,h,q⟩:=h;exact⟨x,h,a x q⟩
theorem ZpD {o:Option α} {x:α} (h:wp o (· =x)):o=some x:=by obtain⟨y,h,rfl⟩:=h;exact h
theorem ZLG (a:Option α):agree a a=a:=by unfold agree;rw[if_pos rfl]
end
theorem ZnH {n:Int} (h: -9223372036854775808<=n/\n<=9223372036854775807):inK .i64 n=true:=by
 have a:IntKind.i64.min= -9223372036854775808:=by decide
 have b:IntKind.i64.max=9223372036854775807:=by decide
 simp only[inK,a,b];exact decide_eq_true h
theorem Ztn {n b:Nat} (h:n*(b+1)<=140737488355328):ZiZ n b=true:=decide_eq_true (Nat.le_trans (ZXR n (by omega)) h)
theorem wrap_i64 {n:Int} (h: -9223372036854775808<=n/\n<=9223372036854775807):IntKind.wrap .i64 n=n:=by rw[IntKind.wrap_i64];omega
theorem wrap_u8 {n:Int} (h:0<=n/\n<=255):IntKind.wrap .u8 n=n:=by rw[IntKind.wrap_u8];omega
theorem wrap_u64 {n:Int} (h:0<=n/\n<=18446744073709551615):IntKind.wrap .u64 n=n:=by rw[IntKind.wrap_u64];omega
theorem ZoH {n m:Int} (h:0<=n/\n < m):inR n m=true:=decide_eq_true h
theorem Zou {a b c:Int} (h:0<=a/\a<=b/\b<=c):Zb9 a b c=true:=decide_eq_true h
theorem ZHp {a X:Type} {f:Nat->a->Option X} {body:(a->Option X)->a->Option X} (e:∀n s,f (n+1) s=body (f n) s) (I:a->Prop) (m:a->Nat) (Post:X->Prop)
  (h:∀(b:a->Option X) s,I s->(∀c,I c->m c < m s->wp (b c) Post)->wp (body b s) Post):∀n s,I s->m s < n->wp (f n s) Post:=by
 intro n
 induction n with
 |zero=>intro s _ k;omega
 |succ n i=>
  intro s hi j;rw[e];exact h (f n) s hi fun c d g=>i c d (by omega)
theorem ZFN {m:Nat} (h:m<=36893488147419103231):m < big:=by rw[big_eq];omega
theorem ZIn (k:Nat) (h:k<=36893488147419103232):∃n,big=n+k:=⟨36893488147419103232 - k,by rw[big_eq];omega⟩
end Go.Proofs
namespace Go.Proofs
open Go Eng
theorem ZwT {u c i X:Type} {f:Nat->c->Option X} {body:(c->Option X)->c->Option X} (q:∀n s,f (n+1) s=body (f n) s)
  (b:List u) (o:b.length<=1000000000000000) (d:Int->i->c) (P:Nat->i->Prop) {Q:X->Prop} (m:i) (w:P 0 m)
  (e:∀(a:c->Option X) (k:Nat) t (h:k < b.length),P k t->(∀g,P (k+1) g->wp (a (d ((k:Int)+1) g)) Q)->wp (body a (d (k:Int) t)) Q)
  (l:∀(a:c->Option X) t,P b.length t->wp (body a (d (b.length:Int) t)) Q):wp (f big (d 0 m)) Q:=by
 have j:∀(n k:Nat) t,k<=b.length->P k t->b.length - k < n->wp (f n (d (k:Int) t)) Q:=by
  intro n
  induction n with
  |zero=>intro k t _ _ h;omega
  |succ n v=>
   intro k t x p y;rw[q]
   by_cases hlt:k < b.length
   ·refine e _ k t hlt p fun g r=> ?_
    exact v (k+1) g (by omega) r (by omega)
   ·have:k=b.length:=by omega
    subst this;exact l _ t p
 exact j big 0 m (Nat.zero_le _) w (by rw[big_eq];omega)
theorem ZvD {b g X:Type} {f:Nat->b->Option X} {body:(b->Option X)->b->Option X} (p:∀n s,f (n+1) s=body (f n) s)
  (m:Nat) (o:m<=1000000000000000) (c:Int->g->b) (P:Nat->g->Prop) {Q:X->Prop} (j:g) (q:P 0 j)
  (d:∀(a:b->Option X) (k:Nat) t (h:k < m),P k t->(∀l,P (k+1) l->wp (a (c ((k:Int)+1) l)) Q)->wp (body a (c (k:Int) t)) Q)
  (i:∀(a:b->Option X) t,P m t->wp (body a (c (m:Int) t)) Q):wp (f big (c 0 j)) Q:=by
 have e:(ZXy m ()).length=m:=ZXu;refine ZwT p (ZXy m ()) (by omega) c P j q (fun a k s h=>d a k s (by omega)) (fun a s h=> ?_);rw[e]at h|-
 exact i a s h
theorem Zoh {c e X:Type} {f:Nat->c->Option X} {body:(c->Option X)->c->Option X} (k:∀n s,f (n+1) s=body (f n) s)
  (g:e->c) (P:e->Prop) (m:e->Nat) {Q:X->Prop} (i:e) (l:P i) (q:m i<=1000000000000000)
  (d:∀(b:c->Option X) t,P t->(∀a,P a->m a < m t->wp (b (g a)) Q)->wp (body b (g t)) Q):wp (f big (g i)) Q:=by
 have j:∀(n:Nat) t,P t->m t < n->wp (f n (g t)) Q:=by
  intro n
  induction n with
  |zero=>intro t _ h;omega
  |succ n r=>
   intro t u q;rw[k];exact d _ t u fun a p o=>r a p (by omega)
 exact j big i l (by rw[big_eq];omega)
theorem ZhP {c:Type} {a:List c} {i:Int} (b:0<=i) (h:i.toNat < a.length):idx a i=some a[i.toNat]:=by unfold idx;rw[if_pos b,ZXo h]
theorem Zqj {b:Type} {a:List b} {k:Nat} (h:k < a.length):idx a (k:Int)=some a[k]:=by rw[ZhP (by omega) (by simpa using h)];simp
theorem Zoj {b:Type} {a:List b} {k:Nat} (h:k < a.length):inR (k:Int) (a.length:Int)=true:=ZoH ⟨by omega,by omega⟩
end Go.Proofs
namespace Go.Proofs
open Go Eng
theorem ZMo (n:Int) {m:Int} (h:1<=m/\m<=1000000):wp (Zsl n m) (fun r=>0<=r/\r < m):=by have c: -m < Int.tmod n m/\Int.tmod n m < m:=⟨Int.lt_tmod_of_pos n (by omega),Int.tmod_lt_of_pos n (by omega)⟩;unfold Zsl;have b:decide (m < 1)=false:=decide_eq_false (by omega);have a:decide (m≠0)=true:=decide_eq_true (by omega);rw[b,cond_false,ZnF,ZnF,ZnF,ZnA];exact⟨a,ZnH (by omega),a,Int.tmod_nonneg _ (by omega),Int.tmod_lt_of_pos _ (by omega)⟩
def Ztf (d:ZnC):Prop:=0<=d.at_/\d.at_<=d.l.length/\d.l.length<=500
theorem ZAy {d:ZnC} (b:Ztf d) {n:Int} (c:1<=n/\n<=1000000):wp (ZnL d n) (fun r=>(0<=r.1/\r.1 < n)/\Ztf r.2):=by
 unfold ZnL;have a:=b;obtain⟨i,g,f⟩:=a;rw[ZnP];refine⟨fun h=> ?_,fun h=> ?_⟩
 ·rw[ZnA];exact⟨by simp only;omega,b⟩
 ·simp only[decide_eq_false_iff_not]at h;simp only[ZnF,ZnD,ZF9,ZnA];refine⟨ZnH (by omega),ZnH (by omega),by omega,by omega,ZnK (ZMo _ c) fun r e=>⟨e, ?_⟩⟩;simp only[Ztf];omega
end Go.Proofs
namespace Go.Proofs
open Go Eng
theorem ZFQ {s:Str} (h:8<=s.length):wp (Zoa s) (fun _=>True):=by unfold Zoa;simp only[ZnD,ZF9,ZnF,ZnA];refine⟨by omega,by omega,by omega,by omega,by decide,by omega,by omega,by decide,by omega,by omega,by decide,by omega,by omega,by decide,by omega,by omega,by decide,by omega,by omega,by decide,by omega,by omega,by decide,trivial⟩
def ZPs (a:List (Lf ZCz)):Bool:=a.all fun l=>match l.as (.int .u8)with |some x=>decide (0<=x/\x<=255) |none=>false
theorem ZL5 {a:List (Lf ZCz)} (c:ZPs a=true) {n:Nat} (h:n < a.length):wp (tabB (car:=ZCz) (.int .u8) a n) (fun x:Int=>0<=x/\x<=255):=by unfold tabB;rw[ZXo h];have:=List.all_eq_true.1 c _ (ZXr h);dsimp only;split at this;rotate_left;simp at this;rename_i x b;exact⟨x,b,of_decide_eq_true this⟩
theorem ZNZ:ZPs ZDq=true:=by kernel_rfl
theorem ZJN:ZPs Zvh=true:=by kernel_rfl
theorem ZMD:ZDq.length=256:=by kernel_rfl
theorem ZIU:Zvh.length=32:=by kernel_rfl
theorem ZNy:((List.range 256).all fun n=>decide (0<=shrK .u8 (n:Int) 4/\shrK .u8 (n:Int) 4<=15))=true:=by kernel_rfl
theorem shr4 {c:Int} (h:0<=c/\c<=255):0<=shrK .u8 c 4/\shrK .u8 c 4<=15:=by
 have:=List.all_eq_true.1 ZNy c.toNat (List.mem_range.2 (by omega));have e:((c.toNat:Nat):Int)=c:=by omega
 rw[e]at this;exact of_decide_eq_true this
theorem ZPm (s:Str) (j:s.length<=9223372036854775807):wp (Zpw big s) (fun r=>r.length<=s.length):=by
 refine ZHp (f:=fun n s=>Zpw n s) (body:=fun a s=>Zvk a s) (fun n s=>rfl)
  (fun t=>t.length<=s.length) (fun t=>t.length) _ ?_ big s (Nat.le_refl _) (ZFN (by omega))
 intro a t b g;unfold Zvk Zs0;rw[ZnP];refine⟨fun h=> ?_,fun h=> ?_⟩
 ·simp only[decide_eq_true_eq]at h;have i:(t.drop ((8:Int)).toNat).length=t.length - 8:=by simp
  have c:(t.drop ((16:Int)).toNat).length=t.length - 16:=by simp
  have e:(t.drop ((24:Int)).toNat).length=t.length - 24:=by simp
  have d:(t.drop ((32:Int)).toNat).length=t.length - 32:=by simp
  rw[ZnD];refine ZnK (ZFQ (by omega)) fun _ _=> ?_
  rw[ZnF,ZnD];refine⟨Zou (by omega),ZnK (ZFQ (by omega)) fun _ _=> ?_⟩;rw[ZnF,ZnD];refine⟨Zou (by omega),ZnK (ZFQ (by omega)) fun _ _=> ?_⟩;rw[ZnF,ZnD];refine⟨Zou (by omega),ZnK (ZFQ (by omega)) fun _ _=> ?_⟩;rw[ZnP];refine⟨fun _=> ?_,fun _=> ?_⟩
  ·rw[ZnF];exact⟨Zou (by omega),g _ (by omega) (by omega)⟩
  ·rw[ZnA];exact b
 ·simp only[cond_false,ZnA];exact b
theorem ZPn (s:Str) (H:s.length<=9223372036854775807):wp (ZnR big s) (fun _=>True):=by
 refine ZHp (f:=fun n s=>ZnR n s) (body:=fun a s=>Zvl a s) (fun n s=>rfl)
  (fun t=>t.length<=s.length) (fun t=>t.length) _ ?_ big s (Nat.le_refl _) (ZFN (by omega))
 intro a t F u;have m:∀k:Nat,0 < k->k<=t.length->wp (a (t.drop k)) (fun _=>True):=fun k I h=>u _ (by rw[List.length_drop];omega) (by rw[List.length_drop];omega)
 have g:∀o:Str,o.length < t.length->wp (a o) (fun _=>True):=fun o h=>u _ (by omega) h
 unfold Zvl;rw[ZnP];refine⟨fun h=> ?_,fun h=>by rw[ZnA];trivial⟩;simp only[decide_eq_true_eq]at h;rw[ZnD,ZF9];refine⟨by omega,by omega, ?_⟩;rw[ZnP];refine⟨fun D=> ?_,fun D=> ?_⟩
 ·have J:(t.drop ((1:Int)).toNat).length=t.length - 1:=by simp
  have G:((t.drop ((1:Int)).toNat).drop ((8:Int)).toNat).length=t.length - 9:=by simp
  have B:(((t.drop ((1:Int)).toNat).drop ((8:Int)).toNat).drop ((8:Int)).toNat).length=t.length - 17:=by simp
  have z:(((t.drop ((1:Int)).toNat).drop ((8:Int)).toNat).drop ((16:Int)).toNat).length=t.length - 25:=by simp
  generalize h1:t.drop ((1:Int)).toNat=t1 at*
  generalize h9:t1.drop ((8:Int)).toNat=t9 at*
  have w:∀b,16 < t9.length\/b=false->wp (ZqT a t9 b) (fun _=>True):=fun b e=>by unfold ZqT ZqS ZwA;rw[ZnP];refine⟨fun d=> ?_,fun _=>g _ (by omega)⟩;have:16 < t9.length:=e.resolve_right (by simp[d]);rw[ZnF,ZnD];exact⟨Zou (by omega),ZnK (ZPm _ (by omega)) fun r E=>g _ (by omega)⟩
  have q:∀b,8 < t1.length\/b=false->wp (ZqU a t1 b) (fun _=>True):=fun b e=>by
   unfold ZqU ZqS;rw[h9,ZnP];refine⟨fun d=> ?_,fun _=>g _ (by omega)⟩;have:8 < t1.length:=e.resolve_right (by simp[d]);rw[ZnF,ZnP];refine⟨Zou (by omega),fun l=> ?_,fun l=>w _ (.inr rfl)⟩;simp only[decide_eq_true_eq]at l;rw[ZnD];refine ZnK (ZFQ (by omega)) fun _ _=> ?_
   rw[ZnF,ZnD];exact⟨Zou (by omega),ZnK (ZFQ (by omega)) fun _ _=>w _ (.inl (by omega))⟩
  rw[ZnF,ZnP];refine⟨Zou (by omega),fun v=> ?_,fun v=>q _ (.inr rfl)⟩;simp only[decide_eq_true_eq]at v;rw[ZnD];exact ZnK (ZFQ (by omega)) fun _ _=>q _ (.inl (by omega))
 ·have A:((t[(0:Int).toNat].toNat:Nat):Int) < 256:=by have:=t[(0:Int).toNat].toNat_lt;omega
  generalize t[(0:Int).toNat].toNat=c at*
  rw[ZnF,ZnD];refine⟨ZoH (by omega),ZnK (ZL5 ZNZ (by rw[ZMD];omega)) fun x y=> ?_⟩;have C:=shr4 y;rw[ZnF,ZnF,ZnD];refine⟨by decide,ZoH (by omega),ZnK (ZL5 ZJN (by rw[ZIU];omega)) fun lo _=> ?_⟩;rw[ZnD];refine ZnK (ZL5 ZJN (by rw[ZIU];omega)) fun hi _=> ?_
  have p:∀b,2<=t.length\/b=true->wp (Zpx a t b) (fun _=>True):=fun b e=>by unfold Zpx;rw[ZnP,ZnA,ZnF];refine⟨fun _=>trivial,fun d=> ?_⟩;have:2<=t.length:=e.resolve_right (by simp[d]);exact⟨Zou (by omega),m 2 (by omega) this⟩
  have j:∀b,3<=t.length\/b=true->wp (Zom a t b) (fun _=>True):=fun b e=>by unfold Zom;rw[ZnP,ZnA,ZnF];refine⟨fun _=>trivial,fun d=> ?_⟩;have:3<=t.length:=e.resolve_right (by simp[d]);exact⟨Zou (by omega),m 3 (by omega) this⟩
  have i:∀b,4<=t.length\/b=true->wp (ZnY a t b) (fun _=>True):=fun b e=>by unfold ZnY;rw[ZnP,ZnA,ZnF];refine⟨fun _=>trivial,fun d=> ?_⟩;have:4<=t.length:=e.resolve_right (by simp[d]);exact⟨Zou (by omega),m 4 (by omega) this⟩
  simp only[ZnP,ZnD,ZF9,ZnA,decide_eq_true_eq,decide_eq_false_iff_not];refine⟨fun _=>⟨fun _=>p _ (.inr rfl),fun _=>⟨by omega,by omega,fun _=>p _ (.inr rfl),fun _=>⟨by omega,by omega,p _ (.inl (by omega))⟩⟩⟩,
   fun _=>⟨fun _=>⟨fun _=>j _ (.inr rfl),fun _=>⟨by omega,by omega,fun _=>j _ (.inr rfl),fun _=>⟨by omega,by omega,fun _=>j _ (.inr rfl),fun _=>⟨by omega,by omega,fun _=>j _ (.inr rfl),fun _=>⟨by omega,by omega,j _ (.inl (by omega))⟩⟩⟩⟩⟩,
    fun _=>⟨fun _=>⟨fun _=>i _ (.inr rfl),fun _=>⟨by omega,by omega,fun _=>i _ (.inr rfl),fun _=>⟨by omega,by omega,fun _=>i _ (.inr rfl),fun _=>⟨by omega,by omega,fun _=>i _ (.inr rfl),fun _=>⟨by omega,by omega,fun _=>i _ (.inr rfl),fun _=>⟨by omega,by omega,fun _=>i _ (.inr rfl),fun _=>⟨by omega,by omega,i _ (.inl (by omega))⟩⟩⟩⟩⟩⟩⟩,fun _=>trivial⟩⟩⟩
theorem ZPl (s:Str) (a:s.length<=9223372036854775807):wp (Zpo s) (fun _=>True):=by
 unfold Zpo Zwz;rw[ZnD];refine ZnK (ZPn s a) fun r _=> ?_
 cases r with
 |ret b=>rw[ZnA];trivial
 |brk u=>rw[ZnA];trivial
def vs (s:Str):Bool:=(Zpo s).getD false
theorem ZJ5 (s:Str) (a:s.length<=9223372036854775807):Zpo s=some (vs s):=by obtain⟨b,c,_⟩:=ZPl s a;unfold vs;rw[c];rfl
end Go.Proofs
namespace Go.Proofs
open Go Eng
theorem ZOd {e X:Type} {f:Nat->Int->Option (Out Unit X)} {body:(Int->Option (Out Unit X))->Int->Option (Out Unit X)} (b:List e) (p:e->Bool) (x:X) (j:∀n i,f (n+1) i=body (f n) i) (d:b.length<=1000000000000)
  (l:∀(a:Int->Option (Out Unit X)) (i:Nat) (h:i < b.length) (Q:Out Unit X->Prop),(p b[i]=false->Q (.ret x))->(p b[i]=true->wp (a ((i:Int)+1)) Q)->wp (body a i) Q)
  (g:∀(a:Int->Option (Out Unit X)) (Q:Out Unit X->Prop),Q (.brk ())->wp (body a (b.length:Int)) Q):
  wp (f big 0) (fun r=>r=if b.all p then .brk ()else .ret x):=by
 refine ZHp j (fun i=>∃k:Nat,k<=b.length/\i=(k:Int)/\(b.take k).all p=true) (fun i=>b.length - i.toNat) _ ?_ big 0 ⟨0,Nat.zero_le _,rfl,by simp⟩ (ZFN (by omega));rintro a i ⟨k,o,rfl,c⟩ m
 by_cases hlt:k < b.length
 ·refine l a k hlt _ (fun h=> ?_) (fun h=>m _ ⟨k+1,by omega,by omega, ?_⟩ (by omega))
  ·have:b.all p=false:=ZXm.2 ⟨b[k],ZXr _,by rw[h];simp⟩;rw[this];rfl
  ·rw[ZXC hlt,ZXl,c];simp[h]
 ·have:k=b.length:=by omega
  subst this;refine g a _ ?_;rw[ZXA]at c;rw[c];rfl
def ZGW (s:Str):Bool:=decide ((s.length:Int)<=1024)&&vs s
def ZGK (c:G_api_Cell):Bool:=ZGW c.Text&&(!c.Null||c.Text == [])
def ZwR (t:G_api_Table):Int:=match t.Columns with | []=>0 |c::_=>c.Cells.length
def ZNn (n:Int) (c:G_api_Column):Bool:=ZGW c.Name&&((c.Cells.length:Int) == n&&c.Cells.all ZGK)
def ZEU (t:G_api_Table):Bool:=decide (0<=t.ID)&&(decide (t.ID<=1073741824)&&(ZGW t.Name&&(decide ((t.Columns.length:Int)<=64)&&(decide (ZwR t<=4096)&&t.Columns.all (ZNn (ZwR t))))))
def ZPG:List G_api_Column->Int
 | []=>0
 |c::_=>(c.Cells.length:Int)
theorem ZMc:∀(a:List G_api_Column) (h:0 < a.length),ZPG a=(a[0].Cells.length:Int)
 |_::_,_=>rfl
theorem ZNC (t:G_api_Table):ZwR t=ZPG t.Columns:=by unfold ZwR ZPG;rfl
def ZHA (t:G_api_Table):Prop:=t.Name.length<=9223372036854775807/\∀c∈t.Columns,c.Name.length<=9223372036854775807/\∀x∈c.Cells,x.Text.length<=9223372036854775807
def ZGS (n:Int) (c:G_api_Column):Bool:=ZGW c.Name&&(decide ((c.Cells.length:Int)<=4096)&&((c.Cells.length:Int) == n&&c.Cells.all ZGK))
end Go.Proofs
namespace Go.Proofs
open Go Eng
theorem ZKo (s:Str):ZCX s=some (ZGW s):=by
 unfold ZCX ZDa ZGb ZGW
 by_cases h:(s.length:Int)<=1024
 ·rw[decide_eq_true h,ZJ5 s (by omega)];rfl
 ·rw[decide_eq_false h];rfl
theorem ZNs (c:G_api_Cell):ZB3 c=some (ZGK c):=by unfold ZB3 ZwU ZGK;rw[ZKo];cases ZGW c.Text<;>cases c.Null<;>simp
theorem ZN2 (l:List G_api_Cell) (d:l.length<=1000000000000):Zyl l=some (l.all ZGK):=by
 refine ZpD ?_;unfold Zyl Zzr;rw[ZnD];refine ZnK (ZOd (f:=fun n i=>ZvY n l (l.length:Int) i) (body:=fun a i=>Zug (fun _ _ i=>a i) l (l.length:Int) i) l ZGK false (fun n i=>rfl) d (fun a i h Q c e=> ?_) (fun a Q c=> ?_)) ?_
 ·unfold Zug;simp only[ZnP,ZnD,ZF9,ZnF,ZnA,ZNs,decide_eq_true_eq,decide_eq_false_iff_not,ZXk,ZXi,ZSL];exact⟨fun _=>⟨by omega,h,c,fun b=>⟨ZnH (by omega),e b⟩⟩,fun b=>absurd (by omega) b⟩
 ·unfold Zug;simp only[ZnP,ZnA,decide_eq_true_eq,decide_eq_false_iff_not];exact⟨fun b=>absurd b (by omega),fun _=>c⟩
 ·rintro r rfl;cases l.all ZGK<;>simp[ZnA]
theorem ZKP (t:G_api_Table):ZDY t=some (ZwR t):=by
 unfold ZDY ZwR;cases t.Columns with
 |nil=>rfl
 |cons c l=>
  have:(((c::l).length:Int) == 0)=false:=by rw[ZXt,beq_eq_false_iff_ne];omega
  rw[this];rfl
theorem ZPq (c:G_api_Column) (t:G_api_Table) (a:c.Cells.length<=1000000000000):ZDb c t=some (!ZNn (ZwR t) c):=by
 unfold ZDb ZyS ZNn;rw[ZKo,ZKP,ZN2 _ a];cases ZGW c.Name
 ·rfl
 ·simp only[ZX2,Bool.not_true,cond_false,bne,Bool.true_and];cases (c.Cells.length:Int) == ZwR t<;>rfl
theorem ZNU (l:List G_api_Column) (t:G_api_Table) (m:l.length<=1000000000000) (g:∀c∈l,c.Cells.length<=1000000000000):Zo0 l t=some (!l.all (ZNn (ZwR t))):=by
 refine ZpD ?_;unfold Zo0 Zru ZqP;rw[ZnD,ZnD];refine ZnK (ZHp (f:=fun n i=>ZoZ n l t (l.length:Int) i) (body:=fun a i=>Zqh (fun _ _ _ i=>a i) l t (l.length:Int) i) (fun n i=>rfl)
  (fun i=>∃k:Nat,k<=l.length/\i=(k:Int)/\(l.take k).all (ZNn (ZwR t))=true) (fun i=>l.length - i.toNat)
  (fun r=>(r= .brk ()/\l.all (ZNn (ZwR t))=true)\/∃k:Nat,r= .ret (k:Int)/\l.all (ZNn (ZwR t))=false) ?_ big 0 ⟨0,Nat.zero_le _,rfl,by simp⟩ (ZFN (by omega))) ?_
 ·rintro a i ⟨k,o,rfl,d⟩ j;unfold Zqh;rw[ZnP];refine⟨fun h=> ?_,fun h=> ?_⟩
  ·simp only[decide_eq_true_eq]at h;have e:k < l.length:=by omega
   rw[ZnD,ZF9];refine⟨by omega,by omega, ?_⟩;simp only[ZXk];rw[ZPq _ _ (g _ (ZXr _)),ZnD,ZnA,ZnP,ZnA,ZnF];refine⟨fun b=> .inr ⟨k,rfl, ?_⟩,fun b=>⟨ZnH (by omega),j _ ⟨k+1,by omega,by omega, ?_⟩ (by omega)⟩⟩
   ·simp only[ZXi]at b;exact ZXm.2 ⟨l[k],ZXr _,by rw[b];simp⟩
   ·simp only[ZSL]at b;rw[ZXC e,ZXl,d];simp[b]
  ·simp only[decide_eq_false_iff_not]at h;have:k=l.length:=by omega
   subst this;rw[ZXA]at d;rw[ZnA];exact .inl ⟨rfl,d⟩
 ·rintro r (⟨rfl,h⟩ |⟨k,rfl,h⟩)
  ·simp only[ZnA,h];rfl
  ·simp only[ZnA,h,Bool.not_false,decide_eq_true_eq];omega
theorem ZNu (t:G_api_Table) (a:t.Columns.length<=1000000000000) (b:∀c∈t.Columns,c.Cells.length<=1000000000000):ZEL t=some (ZEU t):=by
 unfold ZEL ZwO ZEU;rw[ZKo,ZKP,ZNU _ _ a b];simp only[ZX2]
 by_cases h1:t.ID < 0
 ·simp[h1];omega
 by_cases h2:t.ID > 1073741824
 ·simp[h1,h2];omega
 cases h3:ZGW t.Name
 ·simp[h1,h2]
 by_cases h4:(t.Columns.length:Int) > 64
 ·simp[h1,h2,h4];omega
 by_cases h5:ZwR t > 4096
 ·simp[h1,h2,h4,h5];omega
 have f:0<=t.ID:=by omega
 have g:t.ID<=1073741824:=by omega
 have e:(t.Columns.length:Int)<=64:=by omega
 have d:ZwR t<=4096:=by omega
 rw[decide_eq_false h1,decide_eq_false h2,decide_eq_false h4,decide_eq_false h5,decide_eq_true f,decide_eq_true g,decide_eq_true e,decide_eq_true d];simp
end Go.Proofs
namespace Go.Proofs
open Go Eng
theorem ZMm (s:Str) (a:s.length<=9223372036854775807):ZtX s=some (ZGW s):=by unfold ZtX ZuR Zto ZGW;rw[ZJ5 s a];cases vs s<;>simp
theorem ZNE (c:G_api_Cell) (a:c.Text.length<=9223372036854775807):ZtF c=some (ZGK c):=by unfold ZtF Zo5 Zto ZGK ZGW;rw[ZJ5 _ a];cases vs c.Text<;>cases h:decide ((c.Text.length:Int)<=1024)<;>cases c.Null<;>simp
theorem ZKV (t:G_api_Table):ZtZ t=some (ZwR t):=by
 unfold ZtZ ZwR;cases t.Columns with
 |nil=>rfl
 |cons c l=>
  have:(((c::l).length:Int) == 0)=false:=by rw[ZXt,beq_eq_false_iff_ne];omega
  rw[this];rfl
theorem ZKe (a:List G_api_Column) (b d:Int) (l:List G_api_Cell) (t:G_api_Table) (p:l.length<=1000000000000) (m:∀x∈l,x.Text.length<=9223372036854775807):
  wp (ZrA big a b d l (l.length:Int) 0 t) (fun r=>r=if l.all ZGK then .brk (a,b,d,t)else .ret false):=by
 refine ZHp (f:=fun n i=>ZrA n a b d l (l.length:Int) i t) (body:=fun c i=>ZwF (fun _ _ _ _ _ i _=>c i) a b d l (l.length:Int) i t) (fun n i=>rfl)
  (fun i=>∃k:Nat,k<=l.length/\i=(k:Int)/\(l.take k).all ZGK=true) (fun i=>l.length - i.toNat) _ ?_ big 0 ⟨0,Nat.zero_le _,rfl,by simp⟩ (ZFN (by omega))
 rintro c i ⟨k,q,rfl,j⟩ o;unfold ZwF;rw[ZnP];refine⟨fun h=> ?_,fun h=> ?_⟩
 ·simp only[decide_eq_true_eq]at h;have g:k < l.length:=by omega
  rw[ZnD,ZF9];refine⟨by omega,by omega, ?_⟩;simp only[ZXk];rw[ZNE _ (m _ (ZXr _)),ZnD,ZnA,ZnP,ZnA,ZnF];refine⟨fun e=> ?_,fun e=>⟨ZnH (by omega),o _ ⟨k+1,by omega,by omega, ?_⟩ (by omega)⟩⟩
  ·simp only[ZXi]at e;have:l.all ZGK=false:=ZXm.2 ⟨l[k],ZXr _,by rw[e];simp⟩;rw[this];rfl
  ·simp only[ZSL]at e;rw[ZXC g,ZXl,j];simp[e]
 ·simp only[decide_eq_false_iff_not]at h;have:k=l.length:=by omega
  subst this;rw[ZXA]at j;rw[ZnA,j];rfl
theorem ZLr (t:G_api_Table) (B:ZHA t) (C:t.Columns.length<=1000000000000):
  wp (ZoC big t.Columns (t.Columns.length:Int) 0 t) (fun r=>r=if t.Columns.all (ZGS (ZwR t))then .brk ()else .ret false):=by
 refine ZHp (f:=fun n s=>ZoC n s.1 s.2.1 s.2.2.1 s.2.2.2) (body:=fun i s=>ZwG (fun a b c d=>i (a,b,c,d)) s.1 s.2.1 s.2.2.1 s.2.2.2) (fun n s=>rfl)
  (fun s=>∃k:Nat,k<=t.Columns.length/\s=(t.Columns,(t.Columns.length:Int),(k:Int),t)/\(t.Columns.take k).all (ZGS (ZwR t))=true) (fun s=>t.Columns.length - s.2.2.1.toNat) _ ?_ big (t.Columns,(t.Columns.length:Int),0,t) ⟨0,Nat.zero_le _,rfl,by simp⟩ (ZFN (by dsimp only;omega))
 rintro i s ⟨k,D,rfl,p⟩ w;dsimp only at w|-
 unfold ZwG;rw[ZnP];refine⟨fun h=> ?_,fun h=> ?_⟩
 ·simp only[decide_eq_true_eq]at h;have g:k < t.Columns.length:=by omega
  obtain⟨z,m⟩:=B.2 _ (ZXr g);rw[ZnD,ZF9];refine⟨by omega,by omega, ?_⟩;simp only[ZXk];rw[ZMm _ z,ZnD,ZnA];have j:ZGS (ZwR t) t.Columns[k]=false->(Out.ret false:Out Unit Bool)=if t.Columns.all (ZGS (ZwR t))then .brk ()else .ret false:=fun x=>by have:t.Columns.all (ZGS (ZwR t))=false:=ZXm.2 ⟨_,ZXr g,by rw[x];simp⟩;rw[this];rfl
  have e:∀q:Bool,(ZGS (ZwR t) t.Columns[k]=(!q&&t.Columns[k].Cells.all ZGK))->(q=false->t.Columns[k].Cells.length<=4096)->
    wp (Zp6 (fun a b c d=>i (a,b,c,d)) t.Columns (t.Columns.length:Int) (k:Int) q t t.Columns[k]) (fun r=>r=if t.Columns.all (ZGS (ZwR t))then .brk ()else .ret false):=fun q u v=>by
   unfold Zp6 ZxL;cases q with
   |true=>rw[cond_true,ZnA];exact j (by rw[u];rfl)
   |false=>
    rw[cond_false,ZnD];refine ZnK (ZKe _ _ _ _ _ (by have:=v rfl;omega) m) ?_;rintro r rfl;cases hall:t.Columns[k].Cells.all ZGK with
    |true=>
     simp only[if_true,ZnF];refine⟨ZnH (by omega),w _ ⟨k+1,by omega,by simp, ?_⟩ (by dsimp only;omega)⟩;rw[ZXC g,ZXl,p];simp[u,hall]
    |false=>
     simp only[Bool.false_eq_true,if_false,ZnA];exact j (by rw[u,hall];rfl)
  rw[ZnP];refine⟨fun l=>e true ?_ (fun h=>nomatch h),fun l=> ?_⟩
  ·simp only[ZXi]at l;simp[ZGS,l]
  ·simp only[ZSL]at l;rw[ZnP];refine⟨fun o=>e true ?_ (fun h=>nomatch h),fun o=> ?_⟩
   ·simp only[decide_eq_true_eq]at o;have:decide ((t.Columns[k].Cells.length:Int)<=4096)=false:=decide_eq_false (by omega);simp[ZGS,this]
   ·simp only[decide_eq_false_iff_not]at o;rw[ZnD,ZF9];refine⟨by omega,by omega,e _ ?_ (fun _=>by omega)⟩;have A:decide ((t.Columns[k].Cells.length:Int)<=4096)=true:=decide_eq_true (by omega);have y:ZwR t=(t.Columns[(0:Int).toNat].Cells.length:Int):=(ZNC t).trans (ZMc t.Columns (by omega));simp only[ZGS,l,A,y,Bool.true_and,bne,Bool.not_not]
 ·simp only[decide_eq_false_iff_not]at h;have:k=t.Columns.length:=by omega
  subst this;rw[ZXA]at p;rw[ZnA,p];rfl
theorem ZJw (t:G_api_Table) (d:ZHA t) (e:t.Columns.length<=1000000000000):Zpf t=some (ZEU t):=by
 have b:t.Columns.all (ZGS (ZwR t))=(decide (ZwR t<=4096)&&t.Columns.all (ZNn (ZwR t))):=by
  by_cases h5:ZwR t<=4096
  ·rw[decide_eq_true h5,Bool.true_and];congr 1;funext c;unfold ZGS ZNn;cases h:(c.Cells.length:Int) == ZwR t with
   |false=>simp
   |true=>
    have:(c.Cells.length:Int)<=4096:=by rw[beq_iff_eq]at h;omega
    rw[decide_eq_true this,Bool.true_and]
  ·rw[decide_eq_false h5,Bool.false_and];unfold ZwR at h5;cases hcs:t.Columns with
   |nil=>rw[hcs]at h5;simp at h5
   |cons c l=>
    rw[hcs]at h5;dsimp only at h5;have:decide ((c.Cells.length:Int)<=4096)=false:=decide_eq_false h5;simp[ZGS,this]
 unfold Zpf Zp7 ZxK ZEU;rw[ZMm _ d.1,<-b];have a:(ZoC big t.Columns (t.Columns.length:Int) 0 t)=some (if t.Columns.all (ZGS (ZwR t))then .brk ()else .ret false):=ZpD (ZLr t d e);rw[a];simp only[ZX2]
 by_cases h1:t.ID < 0
 ·simp[h1];omega
 by_cases h2:t.ID > 1073741824
 ·simp[h1,h2];omega
 cases h3:ZGW t.Name
 ·simp[h1,h2]
 by_cases h4:(t.Columns.length:Int) > 64
 ·simp[h1,h2,h4];omega
 have g:0<=t.ID:=by omega
 have i:t.ID<=1073741824:=by omega
 have f:(t.Columns.length:Int)<=64:=by omega
 rw[decide_eq_false h1,decide_eq_false h2,decide_eq_false h4,decide_eq_true g,decide_eq_true i,decide_eq_true f];cases t.Columns.all (ZGS (ZwR t))<;>rfl
end Go.Proofs
namespace Go.Proofs
open Go Eng
theorem ZD8 (w a:Nat) (h:a < 2 ^ w):(BitVec.ofInt w (a:Int)).toNat=a:=by rw[BitVec.toNat_ofInt];have:((a:Int) % ((2 ^ w:Nat):Int))=(a:Int):=Int.emod_eq_of_lt (by omega) (by exact_mod_cast h);rw[this];simp
theorem ZJj {a b:Nat} (ha:a < 4294967296) (hb:b < 4294967296):andK .u32 (a:Int) (b:Int)=((a&&& b:Nat):Int):=by unfold andK;rw[show IntKind.bits .u32=32 from rfl,BitVec.toNat_and,ZD8 32 a ha,ZD8 32 b hb,IntKind.wrap_u32];have:=Nat.and_lt_two_pow (n:=32) a hb;omega
theorem ZJA {a b:Nat} (ha:a < 4294967296) (hb:b < 4294967296):orK .u32 (a:Int) (b:Int)=((a|||b:Nat):Int):=by unfold orK;rw[show IntKind.bits .u32=32 from rfl,BitVec.toNat_or,ZD8 32 a ha,ZD8 32 b hb,IntKind.wrap_u32];have:=Nat.or_lt_two_pow (n:=32) ha hb;omega
theorem ZJ4 {a b:Nat} (ha:a < 4294967296) (hb:b < 4294967296):xorK .u32 (a:Int) (b:Int)=((a ^^^ b:Nat):Int):=by unfold xorK;rw[show IntKind.bits .u32=32 from rfl,BitVec.toNat_xor,ZD8 32 a ha,ZD8 32 b hb,IntKind.wrap_u32];have:=ZX1 (n:=32) ha hb;omega
theorem ZSP {a b:Nat} (ha:a < 18446744073709551616) (hb:b < 18446744073709551616):orK .u64 (a:Int) (b:Int)=((a|||b:Nat):Int):=by unfold orK;rw[show IntKind.bits .u64=64 from rfl,BitVec.toNat_or,ZD8 64 a ha,ZD8 64 b hb,IntKind.wrap_u64];have:=Nat.or_lt_two_pow (n:=64) ha hb;omega
theorem ZFS {a:Nat} (k:Nat) (hk:k<=64):shrK .u64 (a:Int) (k:Int)=((a / 2 ^ k:Nat):Int):=by
 unfold shrK;rw[show IntKind.bits .u64=64 from rfl,ZXk,ZXJ hk,Int.fdiv_eq_ediv_of_nonneg _ (Int.le_of_lt (Int.pow_pos (by decide)))]
 norm_cast
theorem ZGQ {a:Nat} (k:Nat) (hk:k<=32):shrK .u32 (a:Int) (k:Int)=((a / 2 ^ k:Nat):Int):=by
 unfold shrK;rw[show IntKind.bits .u32=32 from rfl,ZXk,ZXJ hk,Int.fdiv_eq_ediv_of_nonneg _ (Int.le_of_lt (Int.pow_pos (by decide)))]
 norm_cast
theorem ZzQ (a:Nat):IntKind.wrap .u32 (a:Int)=((a % 4294967296:Nat):Int):=by rw[IntKind.wrap_u32];omega
theorem ZoV {a:Nat} (h:a < 18446744073709551616):IntKind.wrap .u64 (a:Int)=(a:Int):=by rw[IntKind.wrap_u64];omega
theorem ZAz {a:Nat} (h:a < 4294967296):IntKind.wrap .u32 (a:Int)=(a:Int):=by rw[IntKind.wrap_u32];omega
theorem ZTA {a b c:Nat} (ha:a < 4294967296) (hb:b < 4294967296) (hc:c<=1):Zz4 (a:Int) (b:Int) (c:Int)=some ((((a+b+c) % 4294967296:Nat):Int),(((a+b+c) / 4294967296:Nat):Int)):=by
 unfold Zz4;have e:IntKind.wrap .u64 ((IntKind.wrap .u64 ((IntKind.wrap .u64 (a:Int))+(IntKind.wrap .u64 (b:Int))))+(IntKind.wrap .u64 (c:Int)))=((a+b+c:Nat):Int):=by rw[ZoV (by omega),ZoV (by omega),ZoV (by omega),<-ZXj,ZoV (by omega),<-ZXj,ZoV (by omega)]
 rw[e,show (32:Int)=((32:Nat):Int)from rfl,ZFS 32 (by omega),ZzQ,ZAz (a:=(a+b+c) / 2 ^ 32) (by omega)];rfl
theorem ZQq {a:Nat} (h:a < 4294967296):(a >>> 31=0/\a < 2147483648)\/(a >>> 31=1/\2147483648<=a):=by rw[Nat.shiftRight_eq_div_pow];omega
theorem ZPv {a b c:Nat} (ha:a < 4294967296) (hb:b < 4294967296) (hc:c<=1):ZxC (a:Int) (b:Int) (c:Int)=some ((((a+4294967296 - b - c) % 4294967296:Nat):Int),((if a < b+c then 1 else 0:Nat):Int)):=by
 unfold ZxC;have hM:(if IntKind.signed .u32 then (-1:Int)else IntKind.max .u32)=((4294967295:Nat):Int):=rfl;have e:IntKind.wrap .u32 ((IntKind.wrap .u32 ((a:Int) - (b:Int))) - (c:Int))=(((a+4294967296 - b - c) % 4294967296:Nat):Int):=by rw[IntKind.wrap_u32,IntKind.wrap_u32];omega
 have hD:(a+4294967296 - b - c) % 4294967296 < 4294967296:=ZXM _ (by decide);rw[hM,e];generalize hd:(a+4294967296 - b - c) % 4294967296=D at hD|-
 have h1:a ^^^ b < 4294967296:=ZX1 (n:=32) ha hb;have h2:4294967295 ^^^ a < 4294967296:=ZX1 (n:=32) (by decide) ha;have h3:4294967295 ^^^ (a ^^^ b) < 4294967296:=ZX1 (n:=32) (by decide) h1;have h4:(4294967295 ^^^ a)&&& b < 4294967296:=Nat.and_lt_two_pow (n:=32) _ hb;have h5:(4294967295 ^^^ (a ^^^ b))&&& D < 4294967296:=Nat.and_lt_two_pow (n:=32) _ hD;rw[ZJ4 (by decide) ha,ZJ4 ha hb,ZJ4 (by decide) h1,ZJj h2 hb,ZJj h3 hD,ZJA h4 h5,show (31:Int)=((31:Nat):Int)from rfl,ZGQ 31 (by omega)];rw[<-Nat.shiftRight_eq_div_pow,Nat.shiftRight_or_distrib,Nat.shiftRight_and_distrib,Nat.shiftRight_and_distrib,ZXY,ZXY,ZXY];have hm:(4294967295:Nat) >>> 31=1:=by decide
 rw[hm];have key:(1 ^^^ a >>> 31)&&& b >>> 31|||(1 ^^^ (a >>> 31 ^^^ b >>> 31))&&& D >>> 31=if a < b+c then 1 else 0:=by rcases ZQq ha with ⟨qa,pa⟩ |⟨qa,pa⟩<;>rcases ZQq hb with ⟨qb,pb⟩ |⟨qb,pb⟩<;>rcases ZQq hD with ⟨qd,pd⟩ |⟨qd,pd⟩<;>rw[qa,qb,qd]<;>split<;>first |rfl |(exfalso;omega)
 rw[key];rfl
theorem ZJE {h l:Nat} (hh:h < 4294967296) (hl:l < 4294967296):orK .u64 (shlK .u64 (IntKind.wrap .u64 (h:Int)) 32) (IntKind.wrap .u64 (l:Int))=((h*4294967296+l:Nat):Int):=by
 have e1:shlK .u64 (IntKind.wrap .u64 (h:Int)) 32=((h*4294967296:Nat):Int):=by unfold shlK;rw[ZoV (by omega),show min (32:Int).toNat (IntKind.bits .u64)=32 from by decide,IntKind.wrap_u64];omega
 rw[e1,ZoV (by omega),ZSP (by omega) (by omega)];have:=Nat.shiftLeft_add_eq_or_of_lt (i:=32) (b:=l) (by omega) h;simp only[Nat.shiftLeft_eq,Nat.reducePow]at this;omega
theorem ZV1 {h l y:Nat} (hy:h < y) (hl:l < 4294967296) (hy2:y < 4294967296):ZCa (h:Int) (l:Int) (y:Int)=some ((((h*4294967296+l) / y:Nat):Int),(((h*4294967296+l) % y:Nat):Int)):=by
 have hle:¬((y:Int)<=(h:Int)):=by omega
 have hq:(h*4294967296+l) / y < 4294967296:=(ZXG (by omega)).2 (by
  have:(h+1)*4294967296<=y*4294967296:=ZXS _ hy;omega)
 have hr:(h*4294967296+l) % y < y:=ZXM _ (by omega);have hj:Zw1 (h:Int) (l:Int) (y:Int) false=some ((((h*4294967296+l) / y:Nat):Int),(((h*4294967296+l) % y:Nat):Int)):=by
  unfold Zw1;rw[cond_false,ZJE (by omega) hl,ZoV (by omega)];have hne:decide ((y:Int)≠0)=true:=decide_eq_true (by omega);rw[hne,chk_true,chk_true];have e1:Int.tdiv ((h*4294967296+l:Nat):Int) (y:Int)=(((h*4294967296+l) / y:Nat):Int):=by rw[Int.tdiv_eq_ediv_of_nonneg (by omega)];norm_cast
  have e2:Int.tmod ((h*4294967296+l:Nat):Int) (y:Int)=(((h*4294967296+l) % y:Nat):Int):=by rw[Int.tmod_eq_emod_of_nonneg (by omega)];norm_cast
  rw[e1,e2,ZoV (by omega),ZAz hq,ZAz (by omega)];rfl
 unfold ZCa;rw[decide_eq_false hle,hj];cases ((y:Int) != 0)<;>rfl
def ZVb:List Int:=[0,1,2,2,3,3,3,3,4,4,4,4,4,4,4,4]++ZXy 16 5++ZXy 32 6++ZXy 64 7++ZXy 128 8
theorem ZNP:Zuz=fun x n=>(idx (ZVb.map fun n=>UInt8.ofNat n.toNat) (IntKind.wrap .u8 x)).bind fun c=>
 chk (inK .i64 (n+(IntKind.wrap .i64 ((c.toNat:Nat):Int)))) <|
 some (n+(IntKind.wrap .i64 ((c.toNat:Nat):Int))):=by kernel_rfl
theorem ZNQ:((List.range 256).all fun v=>match (ZVb.map fun n=>UInt8.ofNat n.toNat)[v]? with |some c=>decide (v < 2 ^ c.toNat/\2 ^ c.toNat<=2*v+(if v=0 then 1 else 0)/\c.toNat<=8) |none=>false)=true:=by kernel_rfl
theorem ZNO {v:Nat} (h:v < 256):∃c:UInt8,(ZVb.map fun n=>UInt8.ofNat n.toNat)[v]? =some c/\v < 2 ^ c.toNat/\(v≠0->2 ^ c.toNat<=2*v)/\c.toNat<=8:=by have:=List.all_eq_true.1 ZNQ v (List.mem_range.2 h);split at this;rotate_left;simp at this;rename_i c b;obtain⟨e,d,a⟩:=of_decide_eq_true this;refine⟨c,b,e,fun f=> ?_,a⟩;rw[if_neg f]at d;omega
theorem ZNR {v:Nat} (h:v < 256) (n:Nat) (hn:n<=100):∃k:Nat,Zuz (v:Int) (n:Int)=some (((n+k:Nat):Int))/\v < 2 ^ k/\(v≠0->2 ^ k<=2*v)/\k<=8:=by
 obtain⟨c,hc,h1,h2,h3⟩:=ZNO h;refine⟨c.toNat, ?_,h1,h2,h3⟩;have e:idx (ZVb.map fun n=>UInt8.ofNat n.toNat) (IntKind.wrap .u8 (v:Int))=some c:=by rw[IntKind.wrap_u8,show (v:Int) % 256=(v:Int) by omega];unfold idx;rw[if_pos (by omega),ZXk,hc]
 rw[ZNP];dsimp only;rw[e,ZX2,wrap_i64 (by omega),ZnH (by omega),chk_true]
 norm_cast
theorem ZSU {x:Nat} (h0:x≠0) (h:x < 4294967296):∃s:Nat,s<=31/\ZuZ (x:Int)=some (s:Int)/\2147483648<=x*2 ^ s/\x*2 ^ s < 4294967296:=by
 have key:∃k:Nat,ZB9 (x:Int)=some (k:Int)/\x < 2 ^ k/\2 ^ k<=2*x/\k<=32:=by
  unfold ZB9 ZzK;have d16:shrK .u32 (x:Int) 16=((x / 65536:Nat):Int):=ZGQ 16 (by omega);have fin:∀(n v:Nat),n<=24->v < 256->v≠0->x / 2 ^ n=v->∃k:Nat,Zuz (v:Int) (n:Int)=some (k:Int)/\x < 2 ^ k/\2 ^ k<=2*x/\k<=32:=fun n v hn hv hv0 hx=>by
   obtain⟨k,q1,q2,q3,q4⟩:=ZNR hv n (by omega);refine⟨n+k,q1, ?_, ?_,by omega⟩
   ·rw[ZXW,ZXP];exact(ZXG (ZX0 n)).1 (by omega)
   ·rw[ZXW];have h1:2 ^ n*v<=x:=by rw[<-hx];exact Nat.mul_div_le x (2 ^ n)
    have h2:2 ^ n*2 ^ k<=2 ^ n*(2*v):=ZXR _ (q3 hv0);have h3:2 ^ n*(2*v)=2*(2 ^ n*v):=by rw[ZXT]
    omega
  by_cases c1:65536<=x
  ·rw[decide_eq_true (by omega:(x:Int)>=65536),cond_true,d16];show ∃k:Nat,(bif decide (((x / 65536:Nat):Int)>=256)then _ else _)=_/\_
   by_cases c2:256<=x / 65536
   ·rw[decide_eq_true (by omega:((x / 65536:Nat):Int)>=256),cond_true];have d8:shrK .u32 ((x / 65536:Nat):Int) 8=((x / 65536 / 256:Nat):Int):=ZGQ 8 (by omega);rw[d8];exact fin 24 (x / 65536 / 256) (by omega) (by omega) (by omega) (by omega)
   ·rw[decide_eq_false (by omega:¬((x / 65536:Nat):Int)>=256),cond_false];exact fin 16 (x / 65536) (by omega) (by omega) (by omega) (by omega)
  ·rw[decide_eq_false (by omega:¬(x:Int)>=65536),cond_false]
   by_cases c2:256<=x
   ·rw[decide_eq_true (by omega:(x:Int)>=256),cond_true];have d8:shrK .u32 (x:Int) 8=((x / 256:Nat):Int):=ZGQ 8 (by omega);rw[d8];exact fin 8 (x / 256) (by omega) (by omega) (by omega) (by omega)
   ·rw[decide_eq_false (by omega:¬(x:Int)>=256),cond_false];exact fin 0 x (by omega) (by omega) h0 (by omega)
 obtain⟨k,hk,h1,h2,h3⟩:=key;have hk1:1<=k:=by
  rcases ZXH k with rfl |hp
  ·simp at h1;omega
  ·exact hp
 refine⟨32 - k,by omega, ?_, ?_, ?_⟩
 ·unfold ZuZ;rw[hk,ZX2,ZnH (by omega),chk_true,show (32:Int) - (k:Int)=((32 - k:Nat):Int) by omega]
 ·have e:2 ^ k*2 ^ (32 - k)=4294967296:=by rw[<-ZXW,show k+(32 - k)=32 by omega]
  have:2 ^ k*2 ^ (32 - k)<=2*x*2 ^ (32 - k):=ZXS _ h2;rw[ZXO]at this;omega
 ·have e:2 ^ k*2 ^ (32 - k)=4294967296:=by rw[<-ZXW,show k+(32 - k)=32 by omega]
  have:x*2 ^ (32 - k) < 2 ^ k*2 ^ (32 - k):=Nat.mul_lt_mul_of_pos_right h1 (ZX0 _);omega
end Go.Proofs
namespace Go.Proofs
open Go Eng
def iL (l:List Nat):List Int:=l.map fun(n:Nat)=>(n:Int)
theorem Zn0 (l:List Nat):(iL l).length=l.length:=by unfold iL;simp
theorem ZIg (a b:List Nat):iL (a++b)=iL a++iL b:=by unfold iL;simp
theorem ZS5:iL []=[]:=rfl
theorem ZGo {l:List Nat} {i:Nat} (h:i < l.length):(iL l)[i]? =some (l[i]:Int):=by unfold iL;simp[h]
theorem Zy3 {l:List Nat} {i:Nat} (h:i < l.length):idx (iL l) (i:Int)=some (l[i]:Int):=by unfold idx;rw[if_pos (by omega),ZXk,ZGo h]
theorem ZFo (l:List Nat) (i x:Nat):(iL l).set i (x:Int)=iL (l.set i x):=by unfold iL;rw[List.map_set]
theorem ZKm (l:List Nat) (i:Nat):(iL l).take i=iL (l.take i):=by unfold iL;rw[List.map_take]
theorem ZIf (n:Nat):ZXy n (0:Int)=iL (ZXy n 0):=by unfold iL;rw[List.map_replicate];rfl
abbrev Bw:Nat:=4294967296
def val:List Nat->Nat
 | []=>0
 |d::r=>d+Bw*val r
def Dg (l:List Nat):Prop:=∀d∈l,d < Bw
theorem Dg.app {a b:List Nat} (c:Dg a) (e:Dg b):Dg (a++b):=fun d f=>(List.mem_append.1 f).elim (c d) (e d)
theorem ZGs:Dg []:=fun _ h=>by simp at h
theorem ZFK {x:Nat} (h:x < Bw):Dg [x]:=fun d a=>by simp only[List.mem_singleton]at a;subst a;exact h
theorem ZMG (n:Nat):Dg (ZXy n 0):=fun d a=>by rw[List.mem_replicate]at a;rw[a.2];decide
theorem Dg.take {a:List Nat} (h:Dg a) (k:Nat):Dg (a.take k):=fun d b=>h d (List.mem_of_mem_take b)
theorem Dg.drop {a:List Nat} (h:Dg a) (k:Nat):Dg (a.drop k):=fun d b=>h d (List.mem_of_mem_drop b)
theorem Dg.set {a:List Nat} (h:Dg a) (i:Nat) {x:Nat} (c:x < Bw):Dg (a.set i x):=fun d e=>by
 rcases List.mem_or_eq_of_mem_set e with b |b
 ·exact h d b
 ·rw[b];exact c
theorem Dg.get {a:List Nat} (h:Dg a) {i:Nat} (hi:i < a.length):a[i] < Bw:=h _ (ZXr hi)
theorem ZFt:∀a b:List Nat,val (a++b)=val a+Bw ^ a.length*val b
 | [],b=>by simp[val]
 |d::a,b=>by simp only[List.cons_append,val,ZFt a b,ZXt,ZXX,ZXN];rw[ZXP (Bw ^ a.length) Bw,ZXO];omega
theorem ZAV (a:List Nat) (x:Nat):val (a++[x])=val a+Bw ^ a.length*x:=by rw[ZFt];simp[val]
theorem ZCg:∀{l:List Nat},Dg l->val l < Bw ^ l.length
 | [],_=>by simp[val]
 |d::r,h=>by
  have c:=h d (by simp);have b:=ZCg (l:=r) fun x a=>h x (by simp[a])
  simp only[val,ZXt,ZXX];have:Bw*(val r+1)<=Bw*Bw ^ r.length:=ZXR _ b;rw[ZXP (Bw ^ r.length) Bw];rw[ZXN,Nat.mul_one]at this;exact Nat.lt_of_lt_of_le (by omega) this
theorem ZJ6 (n:Nat):val (ZXy n 0)=0:=by
 induction n with
 |zero=>rfl
 |succ n a=>rw[List.replicate_succ,val,a,ZXU]
theorem ZoJ {l:List Nat} {k:Nat} (h:k < l.length):val (l.take (k+1))=val (l.take k)+Bw ^ k*l[k]:=by rw[ZXC h,ZAV,ZXx,ZXJ (by omega)]
def wd (n:Nat):List Nat:=if h:n=0 then []else n % Bw::wd (n / Bw)
termination_by n
decreasing_by exact Nat.div_lt_self (Nat.pos_of_ne_zero h) (by decide)
theorem Zy5:wd 0=[]:=by unfold wd;simp
theorem ZG2 {n:Nat} (h:n≠0):wd n=n % Bw::wd (n / Bw):=by rw[wd,dif_neg h]
theorem ZAA (n:Nat):Dg (wd n):=by
 induction n using Nat.strongRecOn with
 |ind n b=>
  by_cases h:n=0
  ·rw[h,Zy5];exact ZGs
  ·rw[ZG2 h];intro d a;rcases List.mem_cons.1 a with rfl |a
   ·exact ZXM _ (by decide)
   ·exact b (n / Bw) (Nat.div_lt_self (Nat.pos_of_ne_zero h) (by decide)) d a
theorem ZuA (n:Nat):val (wd n)=n:=by
 induction n using Nat.strongRecOn with
 |ind n a=>
  by_cases h:n=0
  ·rw[h,Zy5];rfl
  ·rw[ZG2 h,val,a (n / Bw) (Nat.div_lt_self (Nat.pos_of_ne_zero h) (by decide))];exact ZXK n Bw
theorem ZDR {n k:Nat} (h:n < Bw ^ k):(wd n).length<=k:=by
 induction k generalizing n with
 |zero=>
  have:n=0:=by simpa using h
  rw[this,Zy5];simp
 |succ k a=>
  by_cases h0:n=0
  ·rw[h0,Zy5];simp
  ·rw[ZG2 h0,ZXt];have:n / Bw < Bw ^ k:=(ZXG (by decide)).2 (by rw[<-ZXX];exact h);have:=a this;omega
theorem Zvj {n:Nat} (h:n≠0):0 < (wd n).length:=by rw[ZG2 h];simp
theorem ZSo {n:Nat}:wd n=[]<->n=0:=⟨fun h=>by have:=ZuA n;rw[h]at this;exact this.symm,fun h=>by rw[h,Zy5]⟩
theorem ZBl (n:Nat):n < Bw ^ (wd n).length:=by have:=ZCg (ZAA n);rwa [ZuA]at this
def ZJr (l:List Nat):List Nat:=(l.reverse.dropWhile (· == 0)).reverse
theorem ZIC (l:List Nat) (x:Nat):ZJr (l++[x])=if x=0 then ZJr l else l++[x]:=by
 unfold ZJr;rw[List.reverse_append,List.reverse_singleton,List.singleton_append,List.dropWhile_cons]
 by_cases h:x=0
 ·simp[h]
 ·simp[h]
theorem ZKN:∀{l:List Nat} {x:Nat},Dg (l++[x])->x≠0->wd (val (l++[x]))=l++[x]
 | [],x,h,hx=>by have a:x < Bw:=h x (by simp);simp only[List.nil_append,val,ZXU,ZXE];rw[ZG2 hx,ZXL a,ZXF a,Zy5]
 |d::l,x,h,hx=>by
  have a:d < Bw:=h d (by simp);have b:=ZKN (l:=l) (x:=x) (fun y f=>h y (by simp only[List.cons_append,List.mem_cons];exact .inr f)) hx;have c:val (l++[x])≠0:=fun e=>by rw[e,Zy5]at b;simp at b
  simp only[List.cons_append,val];rw[ZG2 (by simp only[Bw];omega),Nat.add_mul_mod_self_left,ZXL a,Nat.add_mul_div_left _ _ (by decide),ZXF a,Nat.zero_add,b]
theorem ZKR:∀(n:Nat) {l:List Nat},l.length=n->Dg l->ZJr l=wd (val l)
 |0,l,hl,_=>by rw[List.eq_nil_of_length_eq_zero hl];simp[ZJr,val,Zy5]
 |n+1,l,hl,h=>by
  rcases List.eq_nil_or_concat l with rfl |⟨v,x,rfl⟩
  ·simp at hl
  ·rw[List.concat_eq_append]at hl h|-
   rw[ZIC];split
   ·rename_i a;subst a;rw[ZKR n (by simpa using hl) (fun d b=>h d (by simp[b])),ZAV,ZXU,ZXE]
   ·rename_i a;exact(ZKN h a).symm
theorem ZFR {l:List Nat} (h:Dg l) (g:l.length<=1000000):ZoQ (iL l)=some (iL (wd (val l))):=by
 rw[<-ZKR _ rfl h];refine ZpD ?_;unfold ZoQ ZBQ;rw[ZnD];refine ZnK (Zoh ZFF (fun(w:List Nat)=>iL w) (fun w=>ZJr w=ZJr l/\w.length<=1000000) List.length (Q:=fun x=>x=iL (ZJr l)) l ⟨rfl,g⟩ (by omega) ?_) (fun x c=>by rw[ZnA];exact c);rintro i w ⟨hw,a⟩ j;unfold ZDg Zxt ZyW;rcases List.eq_nil_or_concat w with rfl |⟨v,x,rfl⟩
 ·show wp (some (iL [])) _;rw[ZnA,<-hw];rfl
 ·rw[List.concat_eq_append]at hw a|-
  rw[ZIC]at hw;have b:(iL (v++[x])).length=v.length+1:=by rw[Zn0];simp
  rw[ZnP];refine⟨fun _=> ?_,fun h=>by simp only[decide_eq_false_iff_not]at h;omega⟩;have f:((iL (v++[x])).length:Int) - 1=(v.length:Int):=by rw[b];omega
  have c:(v++[x])[v.length]'(by simp)=x:=by simp
  rw[f,ZnF,ZnD,Zy3 (by simp),ZnA,c,ZnP];refine⟨ZnH (by simp at a;omega),fun h=> ?_,fun h=> ?_⟩
  ·have d:x=0:=by have:=eq_of_beq h;omega
   rw[if_pos d]at hw;rw[ZnF,ZnF];refine⟨ZnH (by simp at a;omega),Zou (by omega), ?_⟩;have:(iL (v++[x])).take ((v.length:Int)).toNat=iL v:=by rw[ZKm,ZXk];simp
   rw[this];exact j v ⟨hw,by simp at a;omega⟩ (by simp)
  ·have d:x≠0:=by intro e;subst e;simp at h
   rw[if_neg d]at hw;rw[ZnA,<-hw]
theorem ZQu (l:List Nat) (i:Nat):Zvx (iL l) (i:Int)=some ((l.getD i 0:Nat):Int):=by
 unfold Zvx;rw[Zn0]
 by_cases h:i < l.length
 ·rw[decide_eq_true (by omega),cond_true,Zy3 h,ZX2,ZXn,ZXo h];rfl
 ·rw[decide_eq_false (by omega),cond_false,ZXn,ZXp (by omega)];rfl
theorem ZGV {l:List Nat} (h:Dg l) (i:Nat):l.getD i 0 < Bw:=by
 rw[ZXn]
 by_cases hi:i < l.length
 ·rw[ZXo hi];exact h.get hi
 ·rw[ZXp (by omega)];decide
theorem ZB1 (l:List Nat) (k:Nat):val (l.take (k+1))=val (l.take k)+Bw ^ k*l.getD k 0:=by
 rw[ZXn]
 by_cases h:k < l.length
 ·rw[ZoJ h,ZXo h];rfl
 ·rw[ZXp (by omega),ZXB (by omega),ZXB (by omega)];simp
theorem ZMf (a b:Nat) (ha:(wd a).length<=100000) (hb:(wd b).length<=100000):Zwi (iL (wd a)) (iL (wd b))=some (iL (wd (a+b))):=by
 obtain⟨m,hm,hma,hmb,hm2⟩:∃m:Nat,(if ((iL (wd b)).length:Int) > ((iL (wd a)).length:Int)then ((iL (wd b)).length:Int)else ((iL (wd a)).length:Int))=(m:Int)/\(wd a).length<=m/\(wd b).length<=m/\m<=100000:=by
  rw[Zn0,Zn0]
  by_cases h:((wd b).length:Int) > ((wd a).length:Int)
  ·exact⟨(wd b).length,by rw[if_pos h],by omega,by omega,hb⟩
  ·exact⟨(wd a).length,by rw[if_neg h],by omega,by omega,ha⟩
 refine ZpD ?_;unfold Zwi;rw[hm,ZnF,ZnF,ZnD];refine⟨ZnH (by omega),decide_eq_true (by unfold ZO;omega), ?_⟩;refine ZnK (ZvD ZE2 m (by omega) (fun i (s:Nat×List Nat)=>(iL (wd a),iL (wd b),(s.1:Int),(m:Int),i,iL s.2)) (fun i s=>s.1<=1/\s.2.length=i/\Dg s.2/\val s.2+Bw ^ i*s.1=val ((wd a).take i)+val ((wd b).take i))
  (Q:=fun y=>∃(c:Nat) (o:List Nat),y=((c:Int),iL o)/\c<=1/\Dg o/\o.length=m/\val o+Bw ^ m*c=a+b) (0,[]) ⟨by simp,rfl,ZGs,by simp[val]⟩ ?_ ?_) ?_
 ·rintro rec i ⟨c,o⟩ hlt ⟨hc,hl,hd,hv⟩ ih;dsimp only at hc hl hd hv ih;have h1:=ZGV (ZAA a) i;have h2:=ZGV (ZAA b) i;unfold ZyM Zu0;dsimp only;rw[ZnP];refine⟨fun _=> ?_,fun h=>by simp only[decide_eq_false_iff_not]at h;omega⟩;rw[ZQu,ZnD,ZnA,ZQu,ZnD,ZnA,ZTA h1 h2 hc,ZnD,ZnA];dsimp only;rw[ZnF,ZnF,Zn0];refine⟨Ztn (by simp only[ZXw];omega),ZnH (by omega), ?_⟩;generalize ex:(wd a).getD i 0=x at h1;generalize ey:(wd b).getD i 0=y at h2;have:=ih ((x+y+c) / Bw,o++[(x+y+c) % Bw]) ⟨?_,by simp[hl],hd.app (ZFK (ZXM _ (by decide))), ?_⟩
  ·rw[ZIg]at this;exact this
  ·simp only[Bw]at h1 h2|-;omega
  ·dsimp only;rw[ZAV,hl,ZXX,ZB1,ZB1,ex,ey,Nat.add_assoc,ZXO,<-ZXN,ZXK,ZXN,ZXN];omega
 ·rintro rec ⟨c,o⟩ ⟨hc,hl,hd,hv⟩;unfold ZyM Zu0;dsimp only;rw[ZnP];refine⟨fun h=>by simp only[decide_eq_true_eq]at h;omega,fun _=> ?_⟩;rw[ZnA];rw[ZXB hma,ZXB hmb,ZuA,ZuA]at hv;exact⟨c,o,rfl,hc,hd,hl,hv⟩
 ·rintro y ⟨c,o,rfl,hc,hd,hl,hv⟩;dsimp only;unfold Zz5;rw[ZnF,Zn0];refine⟨Ztn (by simp only[ZXw];omega), ?_⟩;have e:iL o++[(c:Int)]=iL (o++[c]):=by rw[ZIg];rfl
  rw[e,ZFR (hd.app (ZFK (by unfold Bw;omega))) (by simp;omega),ZnD,ZnA,ZnA,ZAV,hl,hv]
end Go.Proofs
namespace Go.Proofs
open Go Eng
theorem ZHe {b i X:Type} {f:Nat->b->Option X} {body:(b->Option X)->b->Option X} (q:∀n s,f (n+1) s=body (f n) s)
  (m:Nat) (y:m<=1000000000000000) (c:Int->i->b) (P:Nat->i->Prop) {Q:X->Prop} (o:i) (r:P m o)
  (d:∀(a:b->Option X) k t,k < m->P (k+1) t->(∀g,P k g->wp (a (c ((k:Int) - 1) g)) Q)->wp (body a (c (k:Int) t)) Q)
  (j:∀(a:b->Option X) t,P 0 t->wp (body a (c (-1) t)) Q):wp (f big (c ((m:Int) - 1) o)) Q:=by
 have l:∀(n k:Nat) t,k<=m->P k t->k < n->wp (f n (c ((k:Int) - 1) t)) Q:=by
  intro n
  induction n with
  |zero=>intro k t _ _ h;omega
  |succ n v=>
   intro k t w p x;rw[q];cases k with
   |zero=>exact j _ t p
   |succ k=>
    have e:((k+1:Nat):Int) - 1=(k:Int):=by omega
    rw[e];exact d _ k t (by omega) p fun g u=>v k g (by omega) u (by omega)
 exact l big m o (Nat.le_refl _) r (ZFN (by omega))
theorem ZFW {n:Nat} (h:n<=1000000):mkOk (n:Int) (n:Int) 4=true:=by unfold mkOk ZO;exact decide_eq_true ⟨by omega,by omega,by omega,by omega⟩
def ZIK (a b:Nat):Int:=if a < b then -1 else if b < a then 1 else 0
theorem ZJL (a b:Nat):Ztv (a:Int) (b:Int)=some (ZIK a b):=by
 unfold Ztv ZBX ZIK;rw[ZX2,ZX2,bne_self_eq_false,bne_self_eq_false,cond_false,cond_false]
 by_cases h1:a < b
 ·rw[decide_eq_true (by omega:(a:Int) < b),if_pos h1];rfl
 ·rw[decide_eq_false (by omega:¬(a:Int) < b),if_neg h1,cond_false]
  by_cases h2:b < a
  ·rw[decide_eq_true (by omega:(a:Int) > b),if_pos h2];rfl
  ·rw[decide_eq_false (by omega:¬(a:Int) > b),if_neg h2];rfl
theorem ZQm (a b:Nat):ZCx (a:Int) (b:Int)=some (ZIK a b):=ZJL a b
theorem ZDN {a b:Nat} (h:a < b):ZIK a b= -1:=by unfold ZIK;rw[if_pos h]
theorem ZDo {a b:Nat} (h:b < a):ZIK a b=1:=by unfold ZIK;rw[if_neg (by omega),if_pos h]
theorem ZBZ (a:Nat):ZIK a a=0:=by unfold ZIK;rw[if_neg (by omega),if_neg (by omega)]
theorem ZJo {n k:Nat} (h:k < (wd n).length):Bw ^ k<=n:=by
 rcases Nat.lt_or_ge n (Bw ^ k)with a |a
 ·have:=ZDR a;omega
 ·exact a
theorem ZIL {a b:Nat} (h:(wd a).length < (wd b).length):a < b:=Nat.lt_of_lt_of_le (ZBl a) (ZJo h)
theorem ZES {l:List Nat} {k:Nat} (h:k < l.length):val l=val (l.take k)+Bw ^ k*(l[k]+Bw*val (l.drop (k+1))):=by
 have e:l=l.take k++l[k]::l.drop (k+1):=by rw[ZXq,List.take_append_drop]
 have a:(l.take k).length=k:=by rw[ZXx];omega
 calc val l=val (l.take k++l[k]::l.drop (k+1)):=by rw[<-e]
  _=_:=by rw[ZFt,a];rfl
theorem ZIW {p q x y A B k:Nat} (a:p < Bw ^ k) (h:x < y):p+Bw ^ k*x < q+Bw ^ k*y:=by have:Bw ^ k*(x+1)<=Bw ^ k*y:=ZXR _ h;rw[ZXN,Nat.mul_one]at this;omega
theorem ZHr (a b:Nat) (ha:(wd a).length<=100000) (hb:(wd b).length<=100000):Zqi (iL (wd a)) (iL (wd b))=some (ZIK a b):=by
 refine ZpD ?_;unfold Zqi;rw[Zn0,Zn0,ZJL,ZnD,ZnA,ZnP];refine⟨fun h=> ?_,fun h=> ?_⟩
 ·rw[ZnA];rcases ZXI (wd a).length (wd b).length with h1 |h1 |h1
  ·rw[ZDN h1,ZDN (ZIL h1)]
  ·rw[h1,ZBZ]at h;exact absurd h (by decide)
  ·rw[ZDo h1,ZDo (ZIL h1)]
 ·have hl:(wd a).length=(wd b).length:=by
   rcases ZXI (wd a).length (wd b).length with h1 |h1 |h1
   ·rw[ZDN h1]at h;exact absurd h (by decide)
   ·exact h1
   ·rw[ZDo h1]at h;exact absurd h (by decide)
  rw[ZnF,ZnD];refine⟨ZnH (by omega), ?_⟩;refine ZnK (ZHe ZD1 (wd a).length (by omega) (fun i (s:Unit)=>(iL (wd a),iL (wd b),i)) (fun k _=>(wd a).drop k=(wd b).drop k)
   (Q:=fun r=>r= .ret (ZIK a b)/\ZIK a b≠0\/r= .brk ()/\a=b) () (by rw[List.drop_length,hl,List.drop_length]) ?_ ?_) ?_
  ·rintro rec k ⟨⟩ hk hP ih;have hk2:k < (wd b).length:=by omega
   unfold ZwQ Ztd;dsimp only;rw[ZnP];refine⟨fun _=> ?_,fun h=>by simp only[decide_eq_false_iff_not]at h;omega⟩;rw[Zy3 hk,ZnD,ZnA,Zy3 hk2,ZnD,ZnA,ZQm,ZnD,ZnA];have ha:=ZES hk;have hb:=ZES hk2;rw[ZuA]at ha hb;have la:val ((wd a).take k) < Bw ^ k:=by have:=ZCg ((ZAA a).take k);rwa [ZXx,ZXJ (by omega)]at this
   have lb:val ((wd b).take k) < Bw ^ k:=by have:=ZCg ((ZAA b).take k);rwa [ZXx,ZXJ (by omega)]at this
   rw[ZnP];refine⟨fun hc=> ?_,fun hc=> ?_⟩
   ·rw[ZnA];rcases ZXI (wd a)[k] (wd b)[k]with h1 |h1 |h1
    ·rw[ZDN h1];have:a < b:=by rw[ha,hb,hP];exact ZIW (A:=0) (B:=0) la (by omega)
     exact .inl ⟨by rw[ZDN this],by rw[ZDN this];decide⟩
    ·rw[h1,ZBZ]at hc;exact absurd hc (by decide)
    ·rw[ZDo h1];have:b < a:=by rw[ha,hb,hP];exact ZIW (A:=0) (B:=0) lb (by omega)
     exact .inl ⟨by rw[ZDo this],by rw[ZDo this];decide⟩
   ·rw[ZnF];refine⟨ZnH (by omega),ih () ?_⟩;have h1:(wd a)[k]=(wd b)[k]:=by
     rcases ZXI (wd a)[k] (wd b)[k]with h1 |h1 |h1
     ·rw[ZDN h1]at hc;exact absurd hc (by decide)
     ·exact h1
     ·rw[ZDo h1]at hc;exact absurd hc (by decide)
    rw[<-ZXq (h:=hk),<-ZXq (h:=hk2),h1,hP]
  ·rintro rec ⟨⟩ hP;unfold ZwQ Ztd;dsimp only;rw[ZnP];refine⟨fun h=>by have:=of_decide_eq_true h;omega,fun _=> ?_⟩;rw[ZnA];rw[List.drop_zero,List.drop_zero]at hP;exact .inr ⟨rfl,by rw[<-ZuA a,<-ZuA b,hP]⟩
  ·rintro r (⟨rfl,_⟩ |⟨rfl,rfl⟩)
   ·exact ZnA.2 rfl
   ·unfold Zx8;exact ZnA.2 (ZBZ a).symm
theorem ZPA {o:List Nat} {n i:Nat} (x:Nat) (a:o.length=i) (h:i < n):(o++ZXy (n - i) 0).set i x=(o++[x])++ZXy (n - (i+1)) 0:=by
 have:n - i=(n - (i+1))+1:=by omega
 rw[this,List.replicate_succ,ZXz _ _ (by omega),a,ZXZ,List.set_cons_zero];simp
theorem ZK9 (a b:Nat) (hab:b<=a) (ha:(wd a).length<=100000):Zvg (iL (wd a)) (iL (wd b))=some (iL (wd (a - b))):=by
 have hlb:(wd b).length<=(wd a).length:=by
  rcases Nat.lt_or_ge (wd a).length (wd b).length with h |h
  ·have:=ZIL h;omega
  ·exact h
 refine ZpD ?_;unfold Zvg;rw[Zn0,ZnF,ZnD,ZXk,ZIf];refine⟨ZFW (by omega), ?_⟩;generalize hn:(wd a).length=n at ha hlb|-
 rw[show iL (ZXy n 0)=iL ([]++ZXy (n - ([]:List Nat).length) 0) by simp];refine ZnK (ZvD ZEP n (by omega) (fun i (s:Nat×List Nat)=>(iL (wd a),iL (wd b),(s.1:Int),(n:Int),i,iL (s.2++ZXy (n - s.2.length) 0))) (fun i s=>s.1<=1/\s.2.length=i/\Dg s.2/\val ((wd a).take i)+Bw ^ i*s.1=val s.2+val ((wd b).take i))
  (Q:=fun y=>∃(o:List Nat),y=iL o/\Dg o/\o.length=n/\val o=a - b) (0,[]) ⟨by simp,rfl,ZGs,by simp[val]⟩ ?_ ?_) ?_
 ·rintro rec i ⟨c,o⟩ hlt ⟨hc,hl,hd,hv⟩ ih;dsimp only at hc hl hd hv ih;have hi:i < (wd a).length:=by omega
  have h1:=(ZAA a).get hi;have h2:=ZGV (ZAA b) i;unfold Zx7 Zuu;dsimp only;rw[ZnP];refine⟨fun _=> ?_,fun h=>by simp only[decide_eq_false_iff_not]at h;omega⟩;rw[Zy3 hi,ZnD,ZnA,ZQu,ZnD,ZnA,ZPv h1 h2 hc,ZnD,ZnA];dsimp only;rw[ZnF,ZnF,Zn0,ZXk,ZFo,hl,ZPA _ hl hlt];refine⟨ZoH ⟨by omega,by simp only[ZXs,ZXu];omega⟩,ZnH (by omega), ?_⟩;generalize ex:(wd a)[i]=x at h1;generalize ey:(wd b).getD i 0=y at h2;have:=ih ((if x < y+c then 1 else 0),o++[(x+4294967296 - y - c) % 4294967296]) ⟨by dsimp only;split<;>omega,by simp[hl],hd.app (ZFK (ZXM _ (by decide))), ?_⟩
  ·rw[ZXs,ZXw,hl]at this;exact this
  ·dsimp only;rw[ZAV,hl,ZXX,ZoJ hi,ZB1,ex,ey,ZXO];have e:x+Bw*(if x < y+c then 1 else 0)=(x+4294967296 - y - c) % 4294967296+y+c:=by simp only[Bw]at h1 h2|-;split<;>omega
   have e2:Bw ^ i*(x+Bw*(if x < y+c then 1 else 0))=Bw ^ i*((x+4294967296 - y - c) % 4294967296+y+c):=by rw[e]
   rw[ZXN,ZXN,ZXN]at e2;omega
 ·rintro rec ⟨c,o⟩ ⟨hc,hl,hd,hv⟩;unfold Zx7 Zuu;dsimp only at hc hl hd hv|-
  rw[ZnP];refine⟨fun h=>by simp only[decide_eq_true_eq]at h;omega,fun _=> ?_⟩;rw[ZnA];rw[ZXB (by omega),ZXB (by omega),ZuA,ZuA]at hv;have:=ZCg hd;rw[hl]at this;have hc0:c=0:=by
   rcases ZXH c with h |h
   ·exact h
   ·have:c=1:=by omega
    rw[this,Nat.mul_one]at hv;omega
  rw[hc0,ZXU]at hv;exact⟨o,by rw[hl,ZXZ];simp,hd,hl,by omega⟩
 ·rintro y ⟨o,rfl,hd,hl,hv⟩;unfold Zzv;rw[ZFR hd (by omega),ZnD,ZnA,ZnA,hv]
theorem ZNz (a d:Nat) (hd0:d≠0) (hd:d < Bw) (ha:(wd a).length<=100000):Zyn (iL (wd a)) (d:Int)=some (iL (wd (a / d)),((a % d:Nat):Int)):=by
 refine ZpD ?_;unfold Zyn;rw[Zn0,ZnF,ZnF,ZnD,ZXk,ZIf];refine⟨ZFW (by omega),ZnH (by omega), ?_⟩;generalize hn:(wd a).length=n at ha|-
 rw[show iL (ZXy n 0)=iL (ZXy (n - ([]:List Nat).length) 0++[]) by simp];refine ZnK (ZHe ZEO n (by omega) (fun i (s:Nat×List Nat)=>(iL (wd a),(d:Int),(s.1:Int),i,iL (ZXy (n - s.2.length) 0++s.2))) (fun k s=>s.1 < d/\s.2.length+k=n/\Dg s.2/\val ((wd a).drop k)=val s.2*d+s.1)
  (Q:=fun y=>∃(r:Nat) (o:List Nat),y=((r:Int),iL o)/\Dg o/\o.length=n/\r < d/\a=val o*d+r) (0,[]) ⟨by dsimp only;omega,by simp,ZGs,by rw[<-hn,List.drop_length];simp[val]⟩ ?_ ?_) ?_
 ·rintro rec k ⟨r,o⟩ hk ⟨hr,hl,hdg,hv⟩ ih;dsimp only at hr hl hdg hv ih;have hi:k < (wd a).length:=by omega
  have h1:=(ZAA a).get hi;unfold Zx5 Zus;dsimp only;rw[ZnP];refine⟨fun _=> ?_,fun h=>by simp only[decide_eq_false_iff_not]at h;omega⟩;rw[Zy3 hi,ZnD,ZnA,ZV1 hr h1 hd,ZnD,ZnA];dsimp only;generalize ex:(wd a)[k]=x at h1;have hq:(r*4294967296+x) / d < Bw:=(ZXG (by omega)).2 (by
   have:(r+1)*4294967296<=d*4294967296:=ZXS _ hr;simp only[Bw]at*
   omega)
  have es:(ZXy (n - o.length) 0++o).set k ((r*4294967296+x) / d)=ZXy (n - (o.length+1)) 0++((r*4294967296+x) / d)::o:=by
   have e:n - o.length=k+1:=by omega
   have e2:n - (o.length+1)=k:=by omega
   rw[e,e2,List.replicate_succ',List.append_assoc,ZXz _ _ (by simp),ZXu,ZXZ];rfl
  rw[ZnF,ZnF,Zn0,ZXk,ZFo,es];refine⟨ZoH ⟨by omega,by simp only[ZXs,ZXu];omega⟩,ZnH (by omega), ?_⟩;refine ih ((r*4294967296+x) % d,((r*4294967296+x) / d)::o) ⟨ZXM _ (by omega),by simp only[ZXt];omega,fun y hy=> ?_, ?_⟩
  ·rcases List.mem_cons.1 hy with rfl |hy
   ·exact hq
   ·exact hdg y hy
  ·dsimp only;rw[<-ZXq (h:=hi),ex,val,hv,val];have:=Nat.div_add_mod (r*4294967296+x) d;rw[ZXD,ZXP ((r*4294967296+x) / d) d,ZXN,ZXO];simp only[Bw]at*
   omega
 ·rintro rec ⟨r,o⟩ ⟨hr,hl,hdg,hv⟩;unfold Zx5 Zus;dsimp only at hr hl hdg hv|-
  rw[ZnP];refine⟨fun h=>by have:=of_decide_eq_true h;omega,fun _=> ?_⟩;rw[ZnA];rw[List.drop_zero,ZuA]at hv;refine⟨r,o, ?_,hdg,hl,hr,hv⟩;rw[show n - o.length=0 by omega];rfl
 ·rintro y ⟨r,o,rfl,hdg,hl,hr,hv⟩;dsimp only;unfold Zzu;rw[ZFR hdg (by omega),ZnD,ZnA,ZnA];have e1:a / d=val o:=by rw[hv,ZXP,Nat.mul_add_div (by omega),ZXF hr,ZXE]
  have e2:a % d=r:=by rw[hv,ZXP,Nat.mul_add_mod,ZXL hr]
  rw[e1,e2]
end Go.Proofs
namespace Go.Proofs
open Go Eng
theorem ZFs:∀(l:List Nat) (i x:Nat) (h:i < l.length),val (l.set i x)+Bw ^ i*l[i]=val l+Bw ^ i*x
 | [],i,x,h=>absurd h (by simp)
 |d::l,0,x,h=>by simp only[List.set_cons_zero,val,Nat.pow_zero,ZXV,List.getElem_cons_zero];omega
 |d::l,i+1,x,h=>by
  have:=ZFs l i x (by simpa using h);have e:Bw*(val (l.set i x)+Bw ^ i*l[i]'(by simpa using h))=Bw*(val l+Bw ^ i*x):=by rw[this]
  rw[ZXN,ZXN]at e;simp only[List.set_cons_succ,val,ZXX,List.getElem_cons_succ];rw[ZXP (Bw ^ i) Bw,ZXO,ZXO];omega
theorem ZP1 {x y:Nat} (a:x<=4294967295) (b:y<=4294967295):x*y<=18446744065119617025:=ZXQ a b
theorem ZGl {x y:Nat} (a:x < Bw) (b:y < Bw):x*y<=18446744065119617025:=ZP1 (by simp only[Bw]at a;omega) (by simp only[Bw]at b;omega)
theorem ZST {c x y e:Nat} (f:c < Bw) (a:x < Bw) (b:y < Bw) (d:e < Bw):IntKind.wrap .u64 ((c:Int)+IntKind.wrap .u64 (IntKind.wrap .u64 (IntKind.wrap .u64 (x:Int)*IntKind.wrap .u64 (y:Int))+IntKind.wrap .u64 (e:Int)))=((c+x*y+e:Nat):Int):=by have:=ZGl a b;simp only[Bw]at f a b d;rw[ZoV (by omega),ZoV (by omega),ZoV (by omega),<-Int.natCast_mul,ZoV (by omega),<-ZXj,ZoV (by omega),<-ZXj,ZoV (by omega)];congr 1;omega
theorem ZOM {c x y e:Nat} (f:c < Bw) (a:x < Bw) (b:y < Bw) (d:e < Bw):(c+x*y+e) / Bw < Bw:=by
 have:=ZGl a b;simp only[Bw]at f a b d|-
 omega
theorem ZIY (a b:Nat) (ha:(wd a).length<=100000) (hb:(wd b).length<=100000):Zsz (iL (wd a)) (iL (wd b))=some (iL (wd (a*b))):=by
 refine ZpD ?_;unfold Zsz;rw[Zn0,Zn0,ZnF,ZnF,ZnD,<-ZXj,ZXk,ZIf];refine⟨ZnH (by omega),ZFW (by omega), ?_⟩;generalize hm:(wd a).length=m at ha|-
 generalize hn:(wd b).length=n at hb|-
 refine ZnK (ZvD ZEN m (by omega) (fun i (s:List Nat)=>(iL (wd b),iL (wd a),(m:Int),i,iL s)) (fun i s=>s.length=m+n/\Dg s/\val s=val ((wd a).take i)*b/\∀k,i+n<=k->k < m+n->s[k]? =some 0)
  (Q:=fun y=>∃(o:List Nat),y=iL o/\Dg o/\o.length=m+n/\val o=a*b) (ZXy (m+n) 0) ⟨by simp,ZMG _,by rw[ZJ6];simp[val],fun k _ h=>by rw[List.getElem?_replicate,if_pos h]⟩ ?_ ?_) ?_
 ·rintro rec i s hlt ⟨hl,hd,hv,hz⟩ ih;have hi:i < (wd a).length:=by omega
  have h1:=(ZAA a).get hi;unfold Zx4 Zur;dsimp only;rw[ZnP];refine⟨fun _=> ?_,fun h=>by simp only[decide_eq_false_iff_not]at h;omega⟩;rw[Zy3 hi,ZnD,ZnA,ZnD,Zn0,hn];generalize ex:(wd a)[i]=x at h1;refine ZnK (ZvD ZEM n (by omega) (fun j (t:Nat×List Nat)=>(iL (wd b),(i:Int),(x:Int),(t.1:Int),iL (wd a),(m:Int),(i:Int),iL (wd b),(n:Int),j,iL t.2)) (fun j t=>t.1 < Bw/\t.2.length=m+n/\Dg t.2/\val t.2+Bw ^ (i+j)*t.1=val s+Bw ^ i*(x*val ((wd b).take j))/\∀k,i+n<=k->k < m+n->t.2[k]? =some 0)
   (Q:=fun y=>∃(c:Nat) (o:List Nat),y=(iL (wd b),(i:Int),(c:Int),iL (wd a),(m:Int),(i:Int),iL o)/\c < Bw/\o.length=m+n/\Dg o/\val o+Bw ^ (i+n)*c=val s+Bw ^ i*(x*b)/\∀k,i+n<=k->k < m+n->o[k]? =some 0) (0,s) ⟨by simp only[Bw];omega,hl,hd,by simp[val],hz⟩ ?_ ?_) ?_
  ·rintro rec2 j ⟨c,o⟩ hj ⟨hc,hol,hod,hov,hoz⟩ ih2;dsimp only at hc hol hod hov hoz ih2;have hj2:j < (wd b).length:=by omega
   have h2:=(ZAA b).get hj2;have hij:i+j < o.length:=by omega
   have h3:=hod.get hij;unfold Zx3 Zuq;dsimp only;rw[ZnP];refine⟨fun _=> ?_,fun h=>by simp only[decide_eq_false_iff_not]at h;omega⟩;rw[Zy3 hj2,ZnD,ZnA,ZnF,ZnF,<-ZXj,ZXk,ZGo hij,ZnD,ZnA,ZnF,ZnF,ZnF,ZnF];generalize ey:(wd b)[j]=y at h2;generalize ee:o[i+j]=e at h3;rw[ZST hc h1 h2 h3,ZzQ,show (32:Int)=((32:Nat):Int)from rfl,ZFS 32 (by omega),Zn0,ZFo];refine⟨ZnH (by omega),ZoH ⟨by omega,by omega⟩,ZnH (by omega),ZoH ⟨by omega,by omega⟩,by decide,ZnH (by omega), ?_⟩;refine ih2 ((c+x*y+e) / Bw,o.set (i+j) ((c+x*y+e) % Bw)) ⟨ZOM hc h1 h2 h3,by simp[hol],hod.set _ (ZXM _ (by decide)), ?_,fun k hk hk2=> ?_⟩
   ·dsimp only;have q1:=ZFs o (i+j) ((c+x*y+e) % Bw) hij;rw[ee]at q1;have q2:Bw ^ (i+j)*((c+x*y+e) % Bw+Bw*((c+x*y+e) / Bw))=Bw ^ (i+j)*(c+x*y+e):=by rw[ZXK]
    rw[ZXN,ZXN,ZXN]at q2;rw[<-Nat.add_assoc,ZXX,ZXO,ZoJ hj2,ey,ZXN,ZXN];have q3:Bw ^ i*(x*(Bw ^ j*y))=Bw ^ (i+j)*(x*y):=by rw[ZXW,ZXO,ZXT x]
    omega
   ·dsimp only;rw[List.getElem?_set_ne (by omega)];exact hoz k hk hk2
  ·rintro rec2 ⟨c,o⟩ ⟨hc,hol,hod,hov,hoz⟩;dsimp only at hc hol hod hov hoz;unfold Zx3 Zuq;dsimp only;rw[ZnP];refine⟨fun h=>by have:=of_decide_eq_true h;omega,fun _=> ?_⟩;rw[ZnA];rw[ZXB (by omega),ZuA]at hov;exact⟨c,o,rfl,hc,hol,hod,hov,hoz⟩
  ·rintro y ⟨c,o,rfl,hc,hol,hod,hov,hoz⟩;dsimp only;unfold Zzt;rw[Zn0,hn,ZnF,ZnF,ZnF,<-ZXj,ZXk,ZAz hc,ZFo,Zn0];refine⟨ZnH (by omega),ZoH ⟨by omega,by omega⟩,ZnH (by omega), ?_⟩;have hp:i+n < o.length:=by omega
   have h0:o[i+n]=0:=by have:=hoz (i+n) (Nat.le_refl _) (by omega);rw[ZXo hp]at this;exact Option.some.inj this
   have q1:=ZFs o (i+n) c hp;rw[h0,ZXU,ZXE]at q1;refine ih (o.set (i+n) c) ⟨by simp[hol],hod.set _ hc, ?_,fun k hk hk2=> ?_⟩
   ·rw[q1,hov,hv,ZoJ hi,ex,ZXD,ZXO]
   ·rw[List.getElem?_set_ne (by omega)];exact hoz k (by omega) hk2
 ·rintro rec s ⟨hl,hd,hv,hz⟩;unfold Zx4 Zur;dsimp only;rw[ZnP];refine⟨fun h=>by have:=of_decide_eq_true h;omega,fun _=> ?_⟩;rw[ZnA];rw[ZXB (by omega),ZuA]at hv;exact⟨s,rfl,hd,hl,hv⟩
 ·rintro y ⟨o,rfl,hd,hl,hv⟩;unfold Zzs;rw[ZFR hd (by omega),ZnD,ZnA,ZnA,hv]
theorem ZJa {c d s:Nat} (b:s<=31) (a:c < 2 ^ s) (f:d < Bw):c|||(d*2 ^ s % Bw)=c+d*2 ^ s % Bw:=by
 have e:Bw=2 ^ (32 - s)*2 ^ s:=by rw[<-ZXW,show 32 - s+s=32 by omega]
 rw[e,Nat.mul_mod_mul_right];have:=Nat.shiftLeft_add_eq_or_of_lt a (d % 2 ^ (32 - s));rw[Nat.shiftLeft_eq]at this;rw[Nat.or_comm,<-this,Nat.add_comm]
theorem ZPy {d s:Nat} (b:s<=32) (a:d < Bw):shlK .u64 (IntKind.wrap .u64 (d:Int)) (s:Int)=((d*2 ^ s:Nat):Int):=by
 have c:2 ^ s<=2 ^ 32:=Nat.pow_le_pow_right (by decide) b;have f:d*2 ^ s<=4294967295*4294967296:=ZXQ (by simp only[Bw]at a;omega) c;unfold shlK;simp only[Bw]at a;rw[ZoV (by omega),ZXk,show IntKind.bits .u64=64 from rfl,ZXJ (by omega)];have e:(d:Int)*(2:Int) ^ s=((d*2 ^ s:Nat):Int):=by push_cast;rfl
 rw[e,ZoV (by omega)]
theorem ZIE (l:List Nat) (s:Nat) (hs:s<=31) (hl:l.length<=100000) (hd:Dg l):∃o:List Nat,Zrv (iL l) (s:Int)=some (iL o)/\Dg o/\o.length=l.length+1/\val o=val l*2 ^ s:=by
 have:wp (Zrv (iL l) (s:Int)) (fun y=>∃o:List Nat,y=iL o/\Dg o/\o.length=l.length+1/\val o=val l*2 ^ s):=by
  have h2:2 ^ s<=2 ^ 31:=Nat.pow_le_pow_right (by decide) hs;unfold Zrv Zx6;rw[Zn0,ZnF,ZnF,ZnD,show (l.length:Int)+1=((l.length+1:Nat):Int)from rfl,ZXk,ZIf];refine⟨ZnH (by omega),ZFW (by omega), ?_⟩;refine ZnK (ZvD ZD0 l.length (by omega) (fun i (t:List Nat×Nat)=>((s:Int),iL l,(l.length:Int),i,iL (t.1++t.2::ZXy (l.length - t.1.length) 0))) (fun i t=>t.1.length=i/\t.2 < 2 ^ s/\Dg t.1/\val t.1+Bw ^ i*t.2=val (l.take i)*2 ^ s)
   (Q:=fun y=>∃o:List Nat,y=iL o/\Dg o/\o.length=l.length+1/\val o=val l*2 ^ s) ([],0) ⟨rfl,ZX0 s,ZGs,by simp[val]⟩ ?_ ?_) ?_
  ·rintro rec i ⟨o,c⟩ hi ⟨hol,hc,hod,hv⟩ ih;dsimp only at hol hc hod hv ih;have h1:=hd.get hi;have hcB:c < Bw:=by simp only[Bw];omega
   unfold ZwP Ztc;dsimp only;rw[ZnP];refine⟨fun _=> ?_,fun h=>by simp only[decide_eq_false_iff_not]at h;omega⟩;rw[Zy3 hi,ZnD,ZnA];generalize ex:l[i]=x at h1;have hlen:(o++c::ZXy (l.length - o.length) 0).length=l.length+1:=by simp;omega
   have hg:(iL (o++c::ZXy (l.length - o.length) 0))[i]? =some (c:Int):=by rw[ZGo (by rw[hlen];omega)];congr 2;rw[List.getElem_append_right (by omega)];simp[hol]
   rw[ZPy (by omega) h1,show (32:Int)=((32:Nat):Int)from rfl,ZFS 32 (by omega),ZzQ];have hx2:x*2 ^ s / 2 ^ 32 < 2 ^ s:=(ZXG (by decide)).2 (by
    rw[ZXP (2 ^ s)];exact Nat.mul_lt_mul_of_pos_right h1 (ZX0 s))
   rw[ZAz (by omega),ZXk,show ((i:Int)+1).toNat=i+1 by omega,hg];rw[ZnF,ZnF,ZnD,ZnA,ZnF,ZnF,ZnF,ZnF,ZnF,ZJA hcB (ZXM _ (by decide)),ZJa hs hc h1];have hsum:c+x*2 ^ s % Bw < Bw:=by
    have e:Bw=2 ^ (32 - s)*2 ^ s:=by rw[<-ZXW,show 32 - s+s=32 by omega]
    have hm:x % 2 ^ (32 - s)+1<=2 ^ (32 - s):=ZXM _ (ZX0 _);have:=ZXS (2 ^ s) hm;rw[ZXD,ZXV]at this;rw[e,Nat.mul_mod_mul_right];omega
   have es:((o++c::ZXy (l.length - o.length) 0).set i (c+x*2 ^ s % Bw)).set (i+1) (x*2 ^ s / 2 ^ 32)=(o++[c+x*2 ^ s % Bw])++(x*2 ^ s / 2 ^ 32)::ZXy (l.length - (o.length+1)) 0:=by rw[ZXz _ _ (by omega),hol,ZXZ,List.set_cons_zero,ZXz _ _ (by omega),hol,show i+1 - i=1 by omega,show l.length - i=(l.length - (i+1))+1 by omega,List.replicate_succ];simp
   rw[ZFo,ZFo,es];simp only[Zn0,ZXv,hlen];refine⟨by simp,ZoH ⟨by omega,by omega⟩,ZoH ⟨by omega,by omega⟩,ZnH (by omega),by decide,ZoH ⟨by omega,by omega⟩,ZnH (by omega), ?_⟩;have:=ih (o++[c+x*2 ^ s % Bw],x*2 ^ s / 2 ^ 32) ⟨by simp[hol],hx2,hod.app (ZFK hsum), ?_⟩
   ·simp only[ZXs,ZXw]at this;exact this
   ·dsimp only;have q:Bw ^ i*(x*2 ^ s % Bw+Bw*(x*2 ^ s / 2 ^ 32))=Bw ^ i*(x*2 ^ s):=by have:=ZXK (x*2 ^ s) Bw;rw[show (2:Nat) ^ 32=Bw from rfl,this]
    rw[ZXN]at q;rw[ZAV,hol,ZXX,ZXO,ZoJ hi,ex,ZXN,ZXD,ZXO (Bw ^ i) x];omega
  ·rintro rec ⟨o,c⟩ ⟨hol,hc,hod,hv⟩;dsimp only at hol hc hod hv;unfold ZwP Ztc;dsimp only;rw[ZnP];refine⟨fun h=>by have:=of_decide_eq_true h;omega,fun _=> ?_⟩;rw[ZnA];rw[ZXA]at hv;refine⟨o++[c], ?_,hod.app (ZFK (by simp only[Bw];omega)),by simp[hol], ?_⟩
   ·rw[hol,ZXZ];rfl
   ·rw[ZAV,hol];exact hv
  ·rintro y hy;exact ZnA.2 hy
 obtain⟨y,hy,o,rfl,h1,h2,h3⟩:=this;exact⟨o,hy,h1,h2,h3⟩
end Go.Proofs
namespace Go.Proofs
open Go Eng
theorem ZS1 {B P c p k l a b d:Nat} (o:d < P) (f:b < B) (h:((c*B+p)*B+k)*P+l < B*((a*B+b)*P+d)):c<=a:=by
 rcases Nat.lt_or_ge a c with g |i
 ·exfalso;have n:(a+1)*(B*(B*P))<=c*(B*(B*P)):=ZXS _ g;have m:(b+1)*P<=B*P:=ZXS _ f;rw[ZXD,ZXV]at m;have j:B*(b*P+d)<=B*(B*P):=ZXR _ (by omega);have e:B*(a*(B*P))=a*(B*(B*P)):=ZXT _ _ _;simp only[ZXD,ZXN,ZXO,ZXV]at h n j;omega
 ·exact i
theorem ZS0 {B P a b d i c k j q:Nat} (hw:i < P) (f:d < B) (h:q*((c*B+k)*P+j)<=((a*B+b)*B+d)*P+i):q*c<=a*B+b:=by
 rcases Nat.lt_or_ge (a*B+b) (q*c)with e |g
 ·exfalso;have m:(a*B+b+1)*(B*P)<=q*c*(B*P):=ZXS _ e;have l:(d+1)*P<=B*P:=ZXS _ f;simp only[ZXD,ZXN,ZXO,ZXV]at h m l;omega
 ·exact g
theorem ZSZ {B P e f c d h b i a g:Nat} (hw:d < P) (l:a+g*h=e*B+f) (j:a*B+c < g*b):((e*B+f)*B+c)*P+d < g*((h*B+b)*P+i):=by
 rw[<-l];have k:(a*B+c+1)*P<=g*b*P:=ZXS _ j;simp only[ZXD,ZXN,ZXO,ZXV]at k|-
 omega
theorem ZSY {B P h i e l b d c a g:Nat} (f:c < P) (j:g < B) (o:1<=b) (q:a+g*b=h*B+i) (k:g*d<=a*B+e):g*((b*B+d)*P+c) < (((h*B+i)*B+e)*P+l)+((b*B+d)*P+c):=by
 rw[<-q];have n:g*d*P<=(a*B+e)*P:=ZXS _ k;have r:g*c<=g*P:=ZXR _ (Nat.le_of_lt f);have m:(g+1)*P<=B*P:=ZXS _ j;have p:1*(B*P)<=b*(B*P):=ZXS _ o;simp only[ZXD,ZXN,ZXO,ZXV]at n m p|-
 omega
theorem rdw {pre w suf:List Nat} {k:Nat} (h:k < w.length):(iL (pre++(w++suf)))[pre.length+k]? =some (w[k]:Int):=by rw[ZGo (by simp;omega)];congr 2;rw[List.getElem_append_right (by omega)];simp only[Nat.add_sub_cancel_left];rw[List.getElem_append_left h]
theorem stw {pre w suf:List Nat} {k:Nat} (x:Nat) (h:k < w.length):(iL (pre++(w++suf))).set (pre.length+k) (x:Int)=iL (pre++(w.set k x++suf)):=by rw[ZFo,ZXz _ _ (by omega),Nat.add_sub_cancel_left,List.set_append_left _ _ h]
theorem ZVs {l:List Nat} {m:Nat} (h:l.length=m+2):val l=(l[m+1]*Bw+l[m])*Bw ^ m+val (l.take m):=by have e:=ZES (l:=l) (k:=m) (by omega);have a:=ZES (l:=l) (k:=m+1) (by omega);have b:=ZoJ (l:=l) (k:=m) (by omega);rw[List.drop_eq_nil_of_le (by omega)]at a;simp only[val,ZXU,ZXE]at a;rw[a,b,ZXX,ZXD,ZXP (l[m]),ZXP (Bw ^ m) Bw,ZXP (Bw*Bw ^ m),ZXO];omega
theorem top3 {l:List Nat} {m:Nat} (h:l.length=m+3):val l=((l[m+2]*Bw+l[m+1])*Bw+l[m])*Bw ^ m+val (l.take m):=by have e:val l=(l[m+2]*Bw+l[m+1])*Bw ^ (m+1)+val (l.take (m+1)):=ZVs (by omega);have a:=ZoJ (l:=l) (k:=m) (by omega);rw[e,a,ZXX,ZXP (Bw ^ m) Bw,<-ZXO,ZXD ((l[m+2]*Bw+l[m+1])*Bw),ZXP (l[m])];omega
theorem ZP6 {h l:Nat} (b:h < 4294967296) (a:l < 4294967296):orK .u64 (shlK .u64 (h:Int) 32) (IntKind.wrap .u64 (l:Int))=((h*4294967296+l:Nat):Int):=by
 have:=ZJE b a
 rwa [ZoV (by omega)]at this
theorem ZP3 {x y:Nat} (b:x < Bw) (a:y < Bw):IntKind.wrap .u64 ((x:Int)*IntKind.wrap .u64 (y:Int))=((x*y:Nat):Int):=by have:=ZGl b a;rw[ZoV (by simp only[Bw]at a;omega),<-Int.natCast_mul,ZoV (by omega)]
theorem ZNY {pre w suf d:List Nat} {m:Nat} (hw:w.length=m+3) (hd:d.length=m+2) (hwd:Dg w) (hdd:Dg d) (h1:1<=d[m+1]) (hlt:val w < Bw*val d) (hm:m<=100000) {g r:Nat}
  (hg:g < Bw) (hq:val w / val d<=g) (hr:r+g*d[m+1]=w[m+2]*Bw+w[m+1]) (hr2:r < 2*Bw):
  wp (Zvz big pre.length (m+3) (iL d) ((m+2:Nat):Int) (g:Int) (r:Int) (iL (pre++(w++suf)))) (fun y=>∃g:Nat,y=(pre.length,m+3,iL d,((m+2:Nat):Int),(g:Int),iL (pre++(w++suf)))/\g < Bw/\val w / val d<=g/\g*val d < val w+val d):=by
 have hw0:=hwd.get (i:=m) (by omega);have hd2:=hdd.get (i:=m) (by omega);have hd1:=hdd.get (i:=m+1) (by omega);have hdl:val (d.take m) < Bw ^ m:=by have:=ZCg (hdd.take m);rwa [ZXx,ZXJ (by omega)]at this
 have hwl:val (w.take m) < Bw ^ m:=by have:=ZCg (hwd.take m);rwa [ZXx,ZXJ (by omega)]at this
 have eW:=top3 hw;have eD:=ZVs hd;have rd:(iL (pre++(w++suf)))[pre.length+m]? =some (w[m]:Int):=rdw (by omega);have rdd:idx (iL d) (m:Int)=some (d[m]:Int):=Zy3 (by omega);have rdd1:idx (iL d) ((m+1:Nat):Int)=some (d[m+1]:Int):=Zy3 (by omega);generalize d[m+1]=d1 at*
 generalize d[m]=d2 at*
 generalize w[m+2]=u0 at*
 generalize w[m+1]=u1 at*
 generalize w[m]=u2 at*
 have hDpos:0 < val d:=by rw[eD];have:1*1<=(d1*Bw+d2)*Bw ^ m:=ZXQ (by simp only[Bw];omega) (Nat.pow_pos (by decide));omega
 have hdiv:∀g,val w < g*val d->val w / val d < g:=fun g h=>(ZXG hDpos).2 h
 generalize val w / val d=qq at*
 refine Zoh ZF5 (fun(t:Nat×Nat)=>(pre.length,m+3,iL d,((m+2:Nat):Int),(t.1:Int),(t.2:Int),iL (pre++(w++suf)))) (fun t=>t.1 < Bw/\qq<=t.1/\t.2+t.1*d1=u0*Bw+u1/\t.2 < 2*Bw) (fun t=>t.1) (g,r) ⟨hg,hq,hr,hr2⟩ (by simp only[Bw]at hg;dsimp only;omega) ?_;rintro rec ⟨g,r⟩ ⟨hg,hq,hr,hr2⟩ ih;dsimp only at hg hq hr hr2 ih;unfold ZD5 ZBT;dsimp only;have e2:((m+2:Nat):Int) - 2=(m:Int):=by omega
 have e1:((m+2:Nat):Int) - 1=((m+1:Nat):Int):=by omega
 have fin:g*d2<=r*Bw+u2->wp (some (pre.length,m+3,iL d,((m+2:Nat):Int),(g:Int),iL (pre++(w++suf)))) (fun y=>∃g:Nat,y=(pre.length,m+3,iL d,((m+2:Nat):Int),(g:Int),iL (pre++(w++suf)))/\g < Bw/\qq<=g/\g*val d < val w+val d):=fun h=>by rw[ZnA];refine⟨g,rfl,hg,hq, ?_⟩;rw[eW,eD];exact ZSY hdl hg h1 hr h
 rw[ZnP];refine⟨fun h=> ?_,fun h=> ?_⟩
 ·have hrB:r < 4294967296:=by have:=of_decide_eq_true h;omega
  rw[e2,ZnF,rdd,ZnD,ZnA,ZnF,ZnF,ZnF,ZnD,ZXk,rd,ZnA,ZP3 hg hd2,ZP6 hrB hw0];refine⟨ZnH (by omega),by decide,ZnH (by omega),ZoH ⟨by omega,by omega⟩, ?_⟩;unfold Zya;rw[ZnP];refine⟨fun h=> ?_,fun h=> ?_⟩
  ·have hc:r*Bw+u2 < g*d2:=by have:=of_decide_eq_true h;simp only[Bw];omega
   have hlt2:val w < g*val d:=by rw[eW,eD];exact ZSZ hwl hr hc
   have hqg:qq < g:=hdiv g hlt2;rw[e1,ZnF,rdd1,ZnD,ZnA];refine⟨ZnH (by omega), ?_⟩;have eg:IntKind.wrap .u64 ((g:Int) - 1)=((g - 1:Nat):Int):=by simp only[Bw]at hg;rw[show (g:Int) - 1=((g - 1:Nat):Int) by omega,ZoV (by omega)]
   have er:IntKind.wrap .u64 ((r:Int)+IntKind.wrap .u64 (d1:Int))=((r+d1:Nat):Int):=by simp only[Bw]at hd1;rw[ZoV (by omega),<-ZXj,ZoV (by omega)]
   rw[eg,er];refine ih (g - 1,r+d1) ⟨by dsimp only;omega,by dsimp only;omega, ?_,by dsimp only;simp only[Bw]at hd1|-;omega⟩ (by dsimp only;omega);dsimp only;rw[<-hr,show g*d1=(g - 1+1)*d1 by rw[Nat.sub_add_cancel (by omega)],ZXD,ZXV];omega
  ·have hc:g*d2<=r*Bw+u2:=by have:=of_decide_eq_false h;simp only[Bw];omega
   exact fin hc
 ·have hrB:4294967296<=r:=by have:=of_decide_eq_false h;omega
  unfold Zya;rw[cond_false];refine fin ?_;have h1:=ZGl hg hd2;have h2:4294967296*4294967296<=r*Bw:=ZXQ hrB (Nat.le_refl _);omega
end Go.Proofs
namespace Go.Proofs
open Go Eng
abbrev ZOq (pre suf:List Nat) (W D m:Nat) (y:Int×List Int):Prop:=∃a:List Nat,y=(((W / D:Nat):Int),iL (pre++(a++suf)))/\a.length=m+3/\Dg a/\val a=W % D
theorem ZQt {pre w suf d:List Nat} {m W:Nat} (hw:w.length=m+3) (hd:d.length=m+2) (hwd:Dg w) (hdd:Dg d) (hm:m<=100000) {g:Nat} (hg:g < Bw)
  (hg1:W < g*val d) (hg2:g*val d < W+val d) (hv:val w+g*val d=W+Bw ^ (m+3)):
  wp ((Zx9 big pre.length (m+3) ((m+2:Nat):Int) (g:Int) (0:Int) (iL d) (d.length:Int) (0:Int) (iL (pre++(w++suf)))).bind fun(x0,x1,x2,x3,x4,x5)=>ZAu x0 x1 x2 x3 x4 x5) (ZOq pre suf W (val d) m):=by
 rw[ZnD,hd];have hDpos:0 < val d:=by omega
 refine ZnK (ZvD ZF3 (m+2) (by omega) (fun i (t:Nat×List Nat)=>(pre.length,m+3,((m+2:Nat):Int),(g:Int),(t.1:Int),iL d,((m+2:Nat):Int),i,iL (pre++(t.2++suf)))) (fun i t=>t.1<=1/\t.2.length=m+3/\Dg t.2/\val t.2+Bw ^ i*t.1=val w+val (d.take i))
  (Q:=fun y=>∃(a:Nat) (w2:List Nat),y=(pre.length,m+3,((m+2:Nat):Int),(g:Int),(a:Int),iL (pre++(w2++suf)))/\a<=1/\w2.length=m+3/\Dg w2/\val w2+Bw ^ (m+2)*a=val w+val d) (0,w) ⟨by simp,hw,hwd,by simp[val]⟩ ?_ ?_) ?_
 ·rintro rec i ⟨a,o⟩ hi ⟨ha,hol,hod,hv⟩ ih;dsimp only at ha hol hod hv ih;have hi1:i < o.length:=by omega
  have hi2:i < d.length:=by omega
  have h1:=hod.get hi1;have h2:=hdd.get hi2;unfold ZBR ZyX;dsimp only;rw[ZnP];refine⟨fun _=> ?_,fun h=>by have:=of_decide_eq_false h;omega⟩;rw[Zy3 hi2,ZnD,ZnA,ZnF,ZnD,ZXk,rdw hi1,ZnA,ZTA h1 h2 ha,ZnD,ZnA];dsimp only;rw[ZnF,ZnF,stw _ hi1];refine⟨ZoH ⟨by omega,by omega⟩,ZoH ⟨by omega,by omega⟩,ZnH (by omega), ?_⟩;generalize ex:d[i]=x at h2;generalize ee:o[i]=e at h1;refine ih ((e+x+a) / 4294967296,o.set i ((e+x+a) % 4294967296)) ⟨by simp only[Bw]at h1 h2;dsimp only;omega,by simp[hol],hod.set _ (ZXM _ (by decide)), ?_⟩;dsimp only;have q1:=ZFs o i ((e+x+a) % 4294967296) hi1;rw[ee]at q1;have q2:Bw ^ i*((e+x+a) % 4294967296+Bw*((e+x+a) / 4294967296))=Bw ^ i*(e+x+a):=by rw[ZXK]
  rw[ZXN,ZXN,ZXN]at q2;rw[ZXX,ZXO,ZoJ hi2,ex];omega
 ·rintro rec ⟨a,o⟩ ⟨ha,hol,hod,hv⟩;dsimp only at ha hol hod hv;unfold ZBR ZyX;dsimp only;rw[ZnP];refine⟨fun h=>by have:=of_decide_eq_true h;omega,fun _=> ?_⟩;rw[ZnA];rw[ZXB (by omega)]at hv;exact⟨a,o,rfl,ha,hol,hod,hv⟩
 ·rintro y ⟨a,o,rfl,ha,hol,hod,hov⟩;dsimp only;have hi1:m+2 < o.length:=by omega
  have h1:=hod.get hi1;unfold ZAu;rw[ZnF,ZnD,ZXk,rdw hi1,ZnA,ZnF];generalize ee:o[m+2]=e at h1;have ew:IntKind.wrap .u32 ((e:Int)+(a:Int))=(((e+a) % 4294967296:Nat):Int):=by rw[<-ZXj,ZzQ]
  have hgp:1<=g:=by
   rcases ZXH g with h |h
   ·rw[h,Nat.zero_mul]at hg1;omega
   ·exact h
  have eg:IntKind.wrap .u32 (IntKind.wrap .u64 ((g:Int) - 1))=((g - 1:Nat):Int):=by simp only[Bw]at hg;rw[show (g:Int) - 1=((g - 1:Nat):Int) by omega,ZoV (by omega),ZAz (by omega)]
  rw[ew,eg,stw _ hi1,ZnA];refine⟨ZoH ⟨by omega,by omega⟩,ZoH ⟨by omega,by omega⟩, ?_⟩;have q1:=ZFs o (m+2) ((e+a) % 4294967296) hi1;rw[ee]at q1;have q2:Bw ^ (m+2)*((e+a) % 4294967296+Bw*((e+a) / 4294967296))=Bw ^ (m+2)*(e+a):=by rw[ZXK]
  rw[ZXN,ZXN,<-ZXO,<-ZXX]at q2;have hdn:Dg (o.set (m+2) ((e+a) % 4294967296)):=hod.set _ (ZXM _ (by decide));have hlt:=ZCg hdn;rw[ZXv,hol]at hlt;have hco:(e+a) / 4294967296<=1:=by simp only[Bw]at h1;omega
  have hpw:Bw ^ (m+2+1)=Bw ^ (m+3):=rfl;rw[hpw]at q2;have egD:g*val d=(g - 1)*val d+val d:=by rw[show g*val d=(g - 1+1)*val d by rw[Nat.sub_add_cancel hgp],ZXD,ZXV]
  have key:val (o.set (m+2) ((e+a) % 4294967296))+(g - 1)*val d=W:=by
   rcases ZXH ((e+a) / 4294967296)with hz |hz
   ·rw[hz,ZXU]at q2;omega
   ·rw[show (e+a) / 4294967296=1 by omega,Nat.mul_one]at q2;omega
  have hl3:(o.set (m+2) ((e+a) % 4294967296)).length=m+3:=by rw[ZXv,hol]
  generalize o.set (m+2) ((e+a) % 4294967296)=w3 at*
  have hlt3:val w3 < val d:=by omega
  have eq1:W / val d=g - 1:=by rw[<-key,Nat.add_mul_div_right _ _ hDpos,ZXF hlt3,Nat.zero_add]
  have eq2:W % val d=val w3:=by rw[<-key,Nat.add_mul_mod_self_right,ZXL hlt3]
  exact⟨w3,by rw[eq1],hl3,hdn,eq2.symm⟩
theorem ZPr {pre w suf d:List Nat} {m:Nat} (hw:w.length=m+3) (hd:d.length=m+2) (hwd:Dg w) (hdd:Dg d) (hm:m<=100000) {g:Nat} (hg:g < Bw)
  (hDpos:0 < val d) (hq:val w / val d<=g) (hg2:g*val d < val w+val d):
  wp (ZAv pre.length (m+3) (iL d) ((m+2:Nat):Int) (g:Int) (iL (pre++(w++suf)))) (ZOq pre suf (val w) (val d) m):=by
 unfold ZAv;rw[ZnD,Zn0,hd];refine ZnK (ZvD ZF4 (m+2) (by omega) (fun i (t:Nat×Nat×List Nat)=>(pre.length,m+3,iL d,((m+2:Nat):Int),(g:Int),(t.1:Int),(t.2.1:Int),iL d,((m+2:Nat):Int),i,iL (pre++(t.2.2++suf)))) (fun i t=>t.1<=1/\t.2.1 < Bw/\t.2.2.length=m+3/\Dg t.2.2/\val t.2.2+g*val (d.take i)=val w+Bw ^ i*(t.1+t.2.1))
  (Q:=fun y=>∃(b c:Nat) (w2:List Nat),y=(pre.length,m+3,iL d,((m+2:Nat):Int),(g:Int),(b:Int),(c:Int),iL (pre++(w2++suf)))/\b<=1/\c < Bw/\w2.length=m+3/\Dg w2/\val w2+g*val d=val w+Bw ^ (m+2)*(b+c)) (0,0,w) ⟨by simp,by simp,hw,hwd,by simp[val]⟩ ?_ ?_) ?_
 ·rintro rec i ⟨b,c,o⟩ hi ⟨hb,hc,hol,hod,hv⟩ ih;dsimp only at hb hc hol hod hv ih;have hi1:i < o.length:=by omega
  have hi2:i < d.length:=by omega
  have h1:=hod.get hi1;have h2:=hdd.get hi2;unfold ZBS ZyY;dsimp only;rw[ZnP];refine⟨fun _=> ?_,fun h=>by have:=of_decide_eq_false h;omega⟩;rw[Zy3 hi2,ZnD,ZnA,ZnF,ZnD,ZXk,rdw hi1,ZnA];generalize ex:d[i]=x at h2;generalize ee:o[i]=e at h1;have hbd:=ZGl hg h2;have es:IntKind.wrap .u64 ((c:Int)+((g*x:Nat):Int))=((c+g*x:Nat):Int):=by simp only[Bw]at hc;rw[<-ZXj,ZoV (by omega)]
  rw[ZP3 hg h2,es,ZzQ,ZPv h1 (ZXM _ (by decide)) hb,ZnD,ZnA];dsimp only;rw[ZnF,ZnF,ZnF,stw _ hi1,show (32:Int)=((32:Nat):Int)from rfl,ZFS 32 (by omega)];refine⟨ZoH ⟨by omega,by omega⟩,ZoH ⟨by omega,by omega⟩,by decide,ZnH (by omega), ?_⟩;have hlo:(c+g*x) % 4294967296 < 4294967296:=ZXM _ (by decide);have hhi:(c+g*x) / 2 ^ 32 < Bw:=by simp only[Bw]at hc|-;omega
  have hs:(c+g*x) % 4294967296+Bw*((c+g*x) / 2 ^ 32)=c+g*x:=ZXK _ _;generalize (c+g*x) % 4294967296=lo at*
  generalize (c+g*x) / 2 ^ 32=hi' at*
  refine ih ((if e < lo+b then 1 else 0),hi',o.set i ((e+4294967296 - lo - b) % 4294967296)) ⟨by dsimp only;split<;>omega,hhi,by simp[hol],hod.set _ (ZXM _ (by decide)), ?_⟩;dsimp only;have q1:=ZFs o i ((e+4294967296 - lo - b) % 4294967296) hi1;rw[ee]at q1;have e1:e+Bw*(if e < lo+b then 1 else 0)=(e+4294967296 - lo - b) % 4294967296+lo+b:=by simp only[Bw]at h1|-;split<;>omega
  have q2:Bw ^ i*(e+Bw*(if e < lo+b then 1 else 0))=Bw ^ i*((e+4294967296 - lo - b) % 4294967296+lo+b):=by rw[e1]
  have q3:Bw ^ i*(lo+Bw*hi')=Bw ^ i*(c+g*x):=by rw[hs]
  have q4:g*(Bw ^ i*x)=Bw ^ i*(g*x):=ZXT _ _ _;rw[ZXN,ZXN,ZXN]at q2;rw[ZXN,ZXN]at q3;rw[ZXN]at hv;rw[ZXX,ZXO,ZoJ hi2,ex,ZXN,ZXN Bw,ZXN];omega
 ·rintro rec ⟨b,c,o⟩ ⟨hb,hc,hol,hod,hv⟩;dsimp only at hb hc hol hod hv;unfold ZBS ZyY;dsimp only;rw[ZnP];refine⟨fun h=>by have:=of_decide_eq_true h;omega,fun _=> ?_⟩;rw[ZnA];rw[ZXB (by omega)]at hv;exact⟨b,c,o,rfl,hb,hc,hol,hod,hv⟩
 ·rintro y ⟨b,c,o,rfl,hb,hc,hol,hod,hv⟩;dsimp only;have hi1:m+2 < o.length:=by omega
  have h1:=hod.get hi1;unfold ZCS;rw[ZnF,ZnD,ZXk,rdw hi1,ZnA,ZAz hc];generalize ee:o[m+2]=e at h1;rw[ZPv h1 hc hb,ZnD,ZnA];dsimp only;rw[ZnF,stw _ hi1,ZAz hg];refine⟨ZoH ⟨by omega,by omega⟩,ZoH ⟨by omega,by omega⟩, ?_⟩;have q1:=ZFs o (m+2) ((e+4294967296 - c - b) % 4294967296) hi1;rw[ee]at q1;have e1:e+Bw*(if e < c+b then 1 else 0)=(e+4294967296 - c - b) % 4294967296+c+b:=by simp only[Bw]at h1 hc|-;split<;>omega
  have q2:Bw ^ (m+2)*(e+Bw*(if e < c+b then 1 else 0))=Bw ^ (m+2)*((e+4294967296 - c - b) % 4294967296+c+b):=by rw[e1]
  rw[ZXN,ZXN,ZXN,<-ZXO,<-ZXX]at q2;rw[ZXN]at hv;have hpw:Bw ^ (m+2+1)=Bw ^ (m+3):=rfl;rw[hpw]at q2;have hdn:Dg (o.set (m+2) ((e+4294967296 - c - b) % 4294967296)):=hod.set _ (ZXM _ (by decide));have hlt:=ZCg hdn;rw[ZXv,hol]at hlt;have hl3:(o.set (m+2) ((e+4294967296 - c - b) % 4294967296)).length=m+3:=by rw[ZXv,hol]
  generalize o.set (m+2) ((e+4294967296 - c - b) % 4294967296)=w3 at*
  generalize (e+4294967296 - c - b) % 4294967296=dd at*
  by_cases hcc:e < c+b
  ·rw[if_pos hcc]at q2|-
   rw[show (((1:Nat):Int) == 0)=false from rfl,cond_false];rw[Zn0 d];exact ZQt (pre:=pre) (suf:=suf) hl3 hd hdn hdd hm hg (by omega) hg2 (by omega)
  ·rw[if_neg hcc]at q2|-
   rw[show (((0:Nat):Int) == 0)=true from rfl,cond_true,ZnA];have key:val w3+g*val d=val w:=by omega
   have hlt3:val w3 < val d:=by have h5:(val w / val d)*val d<=g*val d:=ZXS _ hq;have h6:=Nat.div_add_mod (val w) (val d);have h7:=ZXM (val w) hDpos;rw[ZXP]at h6;omega
   have eq1:val w / val d=g:=by rw[<-key,Nat.add_mul_div_right _ _ hDpos,ZXF hlt3,Nat.zero_add]
   have eq2:val w % val d=val w3:=by rw[<-key,Nat.add_mul_mod_self_right,ZXL hlt3]
   exact⟨w3,by rw[eq1],hl3,hdn,eq2.symm⟩
theorem ZN7 {pre w suf d:List Nat} {m:Nat} (hw:w.length=m+3) (hd:d.length=m+2) (hwd:Dg w) (hdd:Dg d) (hm:m<=100000) (h1:1<=d[m+1]) (hlt:val w < Bw*val d):
  wp (ZBh (iL (pre++(w++suf))) pre.length (m+3) (iL d)) (ZOq pre suf (val w) (val d) m):=by
 have hd1:=hdd.get (i:=m+1) (by omega);have hd2:=hdd.get (i:=m) (by omega);have h_u0:=hwd.get (i:=m+2) (by omega);have h_u1:=hwd.get (i:=m+1) (by omega);have h_u2:=hwd.get (i:=m) (by omega);have hdl:val (d.take m) < Bw ^ m:=by have:=ZCg (hdd.take m);rwa [ZXx,ZXJ (by omega)]at this
 have hwl:val (w.take m) < Bw ^ m:=by have:=ZCg (hwd.take m);rwa [ZXx,ZXJ (by omega)]at this
 have eW:=top3 hw;have eD:=ZVs hd;have hDpos:0 < val d:=by rw[eD];have:1*1<=(d[m+1]*Bw+d[m])*Bw ^ m:=ZXQ (by simp only[Bw];omega) (Nat.pow_pos (by decide));omega
 have hk1:w[m+2]<=d[m+1]:=ZS1 hdl hd2 (by rw[<-eW,<-eD];exact hlt);have hk2:(val w / val d)*d[m+1]<=w[m+2]*Bw+w[m+1]:=ZS0 hwl h_u2 (by rw[<-eW,<-eD];exact Nat.div_mul_le_self _ _);have hqB:val w / val d < Bw:=(ZXG hDpos).2 hlt;have hG:∃g:Nat,(if (4294967295:Int) < (IntKind.wrap .u64 (Int.tdiv (orK .u64 (shlK .u64 (IntKind.wrap .u64 (w[m+2]:Int)) 32) (IntKind.wrap .u64 (w[m+1]:Int))) (IntKind.wrap .u64 (d[m+1]:Int))))then (4294967295:Int)else (IntKind.wrap .u64 (Int.tdiv (orK .u64 (shlK .u64 (IntKind.wrap .u64 (w[m+2]:Int)) 32) (IntKind.wrap .u64 (w[m+1]:Int))) (IntKind.wrap .u64 (d[m+1]:Int)))))=(g:Int)/\g < Bw/\val w / val d<=g/\g*d[m+1]<=w[m+2]*Bw+w[m+1]/\w[m+2]*Bw+w[m+1] < g*d[m+1]+2*Bw:=by
  rw[ZJE h_u0 h_u1,ZoV (by simp only[Bw]at hd1;omega)];have e1:Int.tdiv ((w[m+2]*4294967296+w[m+1]:Nat):Int) (d[m+1]:Int)=(((w[m+2]*4294967296+w[m+1]) / d[m+1]:Nat):Int):=by rw[Int.tdiv_eq_ediv_of_nonneg (by omega)];norm_cast
  have hnum:w[m+2]*4294967296+w[m+1] < 18446744073709551616:=by simp only[Bw]at h_u0 h_u1;omega
  have hle:(w[m+2]*4294967296+w[m+1]) / d[m+1]<=w[m+2]*4294967296+w[m+1]:=Nat.div_le_self _ _;rw[e1,ZoV (by omega)];have hq2:val w / val d<=(w[m+2]*4294967296+w[m+1]) / d[m+1]:=(Nat.le_div_iff_mul_le (by omega)).2 hk2;have hdm:=Nat.div_add_mod (w[m+2]*4294967296+w[m+1]) d[m+1];have hml:=ZXM (w[m+2]*4294967296+w[m+1]) (show 0 < d[m+1] by omega);rw[ZXP]at hdm;generalize (w[m+2]*4294967296+w[m+1]) / d[m+1]=q0 at*
  generalize (w[m+2]*4294967296+w[m+1]) % d[m+1]=r0 at*
  generalize val w / val d=qq at*
  by_cases hc:4294967295 < q0
  ·refine⟨4294967295,by rw[if_pos (by omega)];rfl,by simp only[Bw];omega,by simp only[Bw]at hqB;omega, ?_, ?_⟩
   ·have:=ZXS d[m+1] (show 4294967295<=q0 by omega);simp only[Bw];omega
   ·simp only[Bw]at*
    omega
  ·refine⟨q0,by rw[if_neg (by omega)],by simp only[Bw];omega,hq2, ?_, ?_⟩
   ·simp only[Bw];omega
   ·simp only[Bw]at*
    omega
 have h2:wp (ZCM (iL (pre++(w++suf))) pre.length (m+3) (iL d)) (ZOq pre suf (val w) (val d) m):=by
  obtain⟨g,hg,hgB,hgq,hgd,hgr⟩:=hG;have e1:((m+2:Nat):Int) - 1=((m+1:Nat):Int):=by omega
  unfold ZCM;rw[Zn0,hd,e1,ZXk,ZXk,rdw (by omega),rdw (by omega),Zy3 (by omega)];rw[ZnF,ZnD,ZnA,ZnF,ZnF,ZnF,ZnD,ZnA,ZnF,ZnD,ZnA,ZnF,ZnF,ZnD,ZnA,hg,ZJE h_u0 h_u1,ZP3 hgB hd1,ZnD];have er:IntKind.wrap .u64 (((w[m+2]*4294967296+w[m+1]:Nat):Int) - ((g*d[m+1]:Nat):Int))=((w[m+2]*4294967296+w[m+1] - g*d[m+1]:Nat):Int):=by simp only[Bw]at hgd hgr;rw[<-Int.ofNat_sub hgd,ZoV (by omega)]
  rw[er];refine⟨ZoH ⟨by omega,by omega⟩,by decide,ZnH (by omega),ZoH ⟨by omega,by omega⟩,ZnH (by omega),decide_eq_true (by rw[ZoV (by simp only[Bw]at hd1;omega)];omega),ZnH (by omega), ?_⟩;refine ZnK (ZNY hw hd hwd hdd h1 hlt hm hgB hgq (by simp only[Bw]at hgd|-;omega) (by simp only[Bw]at hgr|-;omega)) ?_;rintro y ⟨g',rfl,h3,h4,h5⟩;exact ZPr hw hd hwd hdd hm h3 hDpos h4 h5
 unfold ZBh;rw[ZnD];refine ZnK h2 ?_;rintro y ⟨w',rfl,h3,h4,h5⟩;rw[ZnF,ZnA];refine⟨?_,w',rfl,h3,h4,h5⟩;dsimp only;rw[Zn0,Zn0];simp[h3,hw]
end Go.Proofs
