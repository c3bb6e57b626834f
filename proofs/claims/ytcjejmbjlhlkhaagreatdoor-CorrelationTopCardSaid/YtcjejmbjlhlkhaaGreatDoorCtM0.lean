/- Plain laws over the specs, part 0. -/
import Derived.Test.YtcjejmbjlhlkhaaGreatDoorE4
import Derived.Laws.BitsLemmas
import Derived.Laws.Bits64
import Derived.KernelRfl
import Derived.Test.YtcjejmbjlhlkhaaGreatDoorCtS
set_option linter.all false
open Bool renaming not_eq_true'->Z3Q, not_eq_false'->ZYu
open Int renaming toNat_natCast->Z3S, natCast_add->Z3R
open List renaming replicate->Z36, take_of_length_le->Z39, getElem_mem->Z3Z, length_take->Z35, getElem?_eq_getElem->Z3W, length_cons->Z31, take_succ_eq_append_getElem->Z4a, take_length->Z38, set_append_right->Z37, length_set->Z33, length_replicate->Z32, all_eq_false->Z3U, all_append->Z3T, getD_eq_getElem?_getD->Z3V, length_singleton->Z34, getElem_cons_drop->Z3Y, length_append->Z30, getElem?_eq_none->Z3X
open Nat renaming mul_add->Z4l, mul_assoc->Z4m, mod_lt->Z4k, mul_comm->Z4n, mul_le_mul_right->Z4q, pow_succ->Z4v, add_mul->Z4b, min_eq_left->Z4h, one_mul->Z4t, div_lt_iff_lt_mul->Z4e, pow_add->Z4u, mul_zero->Z4s, mod_add_div->Z4i, mul_le_mul_left->Z4p, two_pow_pos->Z4y, add_zero->Z4c, mod_eq_of_lt->Z4j, div_eq_of_lt->Z4d, sub_self->Z4x, mul_le_mul->Z4o, xor_lt_two_pow->Z4z, mul_left_comm->Z4r, eq_zero_or_pos->Z4f, lt_trichotomy->Z4g, shiftRight_xor_distrib->Z4w
open Option renaming bind_some->Z4A
namespace Go.Proofs
open Go Eng
def wp {a:Type} (o:Option a) (Q:a->Prop):Prop:=∃x,o=some x/\Q x
section
variable {α β:Type} {Q:α->Prop}
theorem ZnL {x:α}:wp (some x) Q<->Q x:=⟨fun⟨_,h,q⟩=>by simp_all,fun q=>⟨x,rfl,q⟩⟩
theorem ZUj:wp (none:Option α) Q<->False:=by simp[wp]
theorem ZnN {o:Option β} {f:β->Option α}:wp (o.bind f) Q<->wp o (fun a=>wp (f a) Q):=by
 constructor
 ·rintro⟨x,h,q⟩;obtain⟨a,b,h⟩:=bind_some h;exact⟨a,b,x,h,q⟩
 ·rintro⟨a,rfl,x,h,q⟩;exact⟨x,h,q⟩
theorem ZnO {b:Bool} {o:Option α}:wp (chk b o) Q<->b=true/\wp o Q:=by cases b<;>simp[chk,wp]
theorem Zn1 {b:Bool} {x y:Option α}:wp (bif b then x else y) Q<->(b=true->wp x Q)/\(b=false->wp y Q):=by grind
theorem ZX0 {a:List α} {i:Nat}:wp (a[i]?) Q<->∃h:i < a.length,Q a[i]:=by
 constructor
 ·rintro⟨x,h,q⟩;grind
 ·rintro⟨h,q⟩;exact⟨_,Z3W h,q⟩
theorem ZI7 {a:List α} {i:Int}:wp (idx a i) Q<->0<=i/\∃h:i.toNat < a.length,Q a[i.toNat]:=by
 grind[idx,ZX0,ZUj]
theorem ZnU {R:α->Prop} {o:Option α} (h:wp o Q) (a:∀x,Q x->R x):wp o R:=by obtain⟨x,h,q⟩:=h;exact⟨x,h,a x q⟩
theorem Zps {o:Option α} {x:α} (h:wp o (· =x)):o=some x:=by obtain⟨y,h,rfl⟩:=h;omega
theorem ZPV (a:Option α):agree a a=a:=by grind[agree]
end
theorem ZnS {n:Int} (h: -9223372036854775808<=n/\n<=9223372036854775807):inK .i64 n=true:=by
 have a:IntKind.i64.min= -9223372036854775808:=by decide
 simp_all[inK]
theorem ZsS {n b:Nat} (h:n*(b+1)<=140737488355328):Zi5 n b=true:=decide_eq_true (Nat.le_trans (Z4p n (by omega)) h)
theorem wrap_i64 {n:Int} (h: -9223372036854775808<=n/\n<=9223372036854775807):IntKind.wrap .i64 n=n:=by grind[IntKind.wrap_i64]
theorem wrap_u8 {n:Int} (h:0<=n/\n<=255):IntKind.wrap .u8 n=n:=by grind[IntKind.wrap_u8]
theorem wrap_u64 {n:Int} (h:0<=n/\n<=18446744073709551615):IntKind.wrap .u64 n=n:=by grind[IntKind.wrap_u64]
theorem ZoI {n m:Int} (h:0<=n/\n < m):inR n m=true:=decide_eq_true h
theorem Zpc {a b c:Int} (h:0<=a/\a<=b/\b<=c):Zca a b c=true:=decide_eq_true h
theorem ZKB {a X:Type} {f:Nat->a->Option X} {body:(a->Option X)->a->Option X} (d:∀n s,f (n+1) s=body (f n) s) (I:a->Prop) (m:a->Nat) (Post:X->Prop)
  (h:∀(b:a->Option X) s,I s->(∀c,I c->m c < m s->wp (b c) Post)->wp (body b s) Post):∀n s,I s->m s < n->wp (f n s) Post:=by
 intro n
 induction n with
 |zero=>omega
 |succ n e=>
  grind
theorem ZID {m:Nat} (h:m<=36893488147419103231):m < big:=by grind[big_eq]
theorem ZKF (k:Nat) (h:k<=36893488147419103232):∃n,big=n+k:=⟨36893488147419103232 - k,by grind[big_eq]⟩
end Go.Proofs
namespace Go.Proofs
open Go Eng
theorem Zr6 {o c g X:Type} {f:Nat->c->Option X} {body:(c->Option X)->c->Option X} (q:∀n s,f (n+1) s=body (f n) s)
  (b:List o) (i:b.length<=1000000000000000) (d:Int->g->c) (P:Nat->g->Prop) {Q:X->Prop} (e:g) (m:P 0 e)
  (l:∀(a:c->Option X) (k:Nat) t (h:k < b.length),P k t->(∀j,P (k+1) j->wp (a (d ((k:Int)+1) j)) Q)->wp (body a (d (k:Int) t)) Q)
  (p:∀(a:c->Option X) t,P b.length t->wp (body a (d (b.length:Int) t)) Q):wp (f big (d 0 e)) Q:=by
 have key:∀(n k:Nat) t,k<=b.length->P k t->b.length - k < n->wp (f n (d (k:Int) t)) Q:=by
  intro n
  induction n with
  |zero=>omega
  |succ n r=>
   grind
 exact key big 0 e (Nat.zero_le _) m (by grind[big_eq])
theorem Zva {b i X:Type} {f:Nat->b->Option X} {body:(b->Option X)->b->Option X} (p:∀n s,f (n+1) s=body (f n) s)
  (m:Nat) (j:m<=1000000000000000) (c:Int->i->b) (P:Nat->i->Prop) {Q:X->Prop} (g:i) (o:P 0 g)
  (d:∀(a:b->Option X) (k:Nat) t (h:k < m),P k t->(∀l,P (k+1) l->wp (a (c ((k:Int)+1) l)) Q)->wp (body a (c (k:Int) t)) Q)
  (q:∀(a:b->Option X) t,P m t->wp (body a (c (m:Int) t)) Q):wp (f big (c 0 g)) Q:=by
 have e:(Z36 m ()).length=m:=Z32;refine Zr6 p (Z36 m ()) (by omega) c P g o (fun a k s h=>d a k s (by omega)) (fun a s h=> ?_);simp_all
theorem Zpm {b d X:Type} {f:Nat->b->Option X} {body:(b->Option X)->b->Option X} (j:∀n s,f (n+1) s=body (f n) s)
  (c:d->b) (P:d->Prop) (m:d->Nat) {Q:X->Prop} (e:d) (i:P e) (l:m e<=1000000000000000)
  (h:∀(a:b->Option X) t,P t->(∀g,P g->m g < m t->wp (a (c g)) Q)->wp (body a (c t)) Q):wp (f big (c e)) Q:=by
 have key:∀(n:Nat) t,P t->m t < n->wp (f n (c t)) Q:=by
  intro n
  induction n with
  |zero=>omega
  |succ n k=>
   grind
 grind[big_eq]
theorem ZhT {b:Type} {a:List b} {i:Int} (c:0<=i) (h:i.toNat < a.length):idx a i=some a[i.toNat]:=by grind[idx]
theorem Zqc {b:Type} {a:List b} {k:Nat} (h:k < a.length):idx a (k:Int)=some a[k]:=by grind[ZhT]
theorem ZoP {b:Type} {a:List b} {k:Nat} (h:k < a.length):inR (k:Int) (a.length:Int)=true:=ZoI ⟨by omega,by omega⟩
end Go.Proofs
namespace Go.Proofs
open Go Eng
theorem ZTx (n:Int) {m:Int} (h:1<=m/\m<=1000000):wp (Zwk n m) (fun r=>0<=r/\r < m):=by have a: -m < Int.tmod n m/\Int.tmod n m < m:=⟨Int.lt_tmod_of_pos n (by omega),Int.tmod_lt_of_pos n (by omega)⟩;grind[Zwk,ZnO,ZnL,ZnS,Int.tmod_nonneg,Int.tmod_lt_of_pos]
def Zsy (d:ZnJ):Prop:=0<=d.at_/\d.at_<=d.l.length/\d.l.length<=500
theorem ZBE {d:ZnJ} (b:Zsy d) {n:Int} (a:1<=n/\n<=1000000):wp (ZnW d n) (fun r=>(0<=r.1/\r.1 < n)/\Zsy r.2):=by
 unfold ZnW;grind[ZnL,ZnO,ZnN,ZI7,ZnS,ZTx,Zsy]
end Go.Proofs
namespace Go.Proofs
open Go Eng
theorem ZIG {s:Str} (h:8<=s.length):wp (ZoK s) (fun _=>True):=by unfold ZoK;simp only[ZnN,ZI7,ZnO,ZnL];grind
def ZUt (a:List (Lf ZBM)):Bool:=a.all fun l=>match l.as (.int .u8)with |some x=>decide (0<=x/\x<=255) |none=>false
theorem ZQo {a:List (Lf ZBM)} (b:ZUt a=true) {n:Nat} (h:n < a.length):wp (tabB (car:=ZBM) (.int .u8) a n) (fun x:Int=>0<=x/\x<=255):=by unfold tabB;rw[Z3W h];have:=List.all_eq_true.1 b _ (Z3Z h);dsimp only;split at this;rotate_left;simp at this;rename_i x c;exact⟨x,c,of_decide_eq_true this⟩
theorem ZSF:ZUt ZFN=true:=by kernel_rfl
theorem ZNw:ZUt ZwY=true:=by kernel_rfl
theorem ZQ9:ZFN.length=256:=by kernel_rfl
theorem ZMd:ZwY.length=32:=by kernel_rfl
theorem ZSc:((List.range 256).all fun n=>decide (0<=shrK .u8 (n:Int) 4/\shrK .u8 (n:Int) 4<=15))=true:=by kernel_rfl
theorem shr4 {c:Int} (h:0<=c/\c<=255):0<=shrK .u8 c 4/\shrK .u8 c 4<=15:=by
 have:=List.all_eq_true.1 ZSc c.toNat (List.mem_range.2 (by omega));grind
theorem ZUl (s:Str) (j:s.length<=9223372036854775807):wp (ZqI big s) (fun r=>r.length<=s.length):=by
 refine ZKB (f:=fun n s=>ZqI n s) (body:=fun a s=>Zw1 a s) (fun n s=>rfl)
  (fun t=>t.length<=s.length) (fun t=>t.length) _ ?_ big s (Nat.le_refl _) (ZID (by omega))
 intro a t i g;unfold Zw1 Zuy;rw[Zn1];refine⟨fun h=> ?_,fun h=> ?_⟩
 ·simp only[decide_eq_true_eq]at h;have e:(t.drop ((8:Int)).toNat).length=t.length - 8:=by simp
  have b:(t.drop ((16:Int)).toNat).length=t.length - 16:=by simp
  have c:(t.drop ((24:Int)).toNat).length=t.length - 24:=by simp
  have d:(t.drop ((32:Int)).toNat).length=t.length - 32:=by simp
  rw[ZnN];refine ZnU (ZIG (by omega)) fun _ _=> ?_
  rw[ZnO,ZnN];refine⟨Zpc (by omega),ZnU (ZIG (by omega)) fun _ _=> ?_⟩;grind[ZnO,ZnN,Zpc,ZnU,ZIG,ZnL]
 grind[ZnL]
theorem ZUm (s:Str) (E:s.length<=9223372036854775807):wp (Zn8 big s) (fun _=>True):=by
 refine ZKB (f:=fun n s=>Zn8 n s) (body:=fun a s=>Zw2 a s) (fun n s=>rfl)
  (fun t=>t.length<=s.length) (fun t=>t.length) _ ?_ big s (Nat.le_refl _) (ZID (by omega))
 intro a t D q;have o:∀k:Nat,0 < k->k<=t.length->wp (a (t.drop k)) (fun _=>True):=fun k B h=>q _ (by grind) (by grind)
 have j:∀p:Str,p.length < t.length->wp (a p) (fun _=>True):=fun p h=>q _ (by omega) h
 unfold Zw2;rw[Zn1];refine⟨fun h=> ?_,fun h=>by grind[ZnL]⟩;simp only[decide_eq_true_eq]at h;rw[ZnN,ZI7];refine⟨by omega,by omega, ?_⟩;rw[Zn1];refine⟨fun z=> ?_,fun z=> ?_⟩
 ·have G:(t.drop ((1:Int)).toNat).length=t.length - 1:=by simp
  have F:((t.drop ((1:Int)).toNat).drop ((8:Int)).toNat).length=t.length - 9:=by simp
  have A:(((t.drop ((1:Int)).toNat).drop ((8:Int)).toNat).drop ((8:Int)).toNat).length=t.length - 17:=by simp
  have v:(((t.drop ((1:Int)).toNat).drop ((8:Int)).toNat).drop ((16:Int)).toNat).length=t.length - 25:=by simp
  generalize h1:t.drop ((1:Int)).toNat=t1 at*
  generalize h9:t1.drop ((8:Int)).toNat=t9 at*
  have w:∀b,16 < t9.length\/b=false->wp (Zsg a t9 b) (fun _=>True):=fun b e=>by unfold Zsg Zsf Zye;rw[Zn1];refine⟨fun d=> ?_,fun _=>j _ (by omega)⟩;grind[ZnO,ZnN,Zpc,ZnU,ZUl]
  have C:∀b,8 < t1.length\/b=false->wp (Zsh a t1 b) (fun _=>True):=fun b e=>by
   unfold Zsh Zsf;rw[h9,Zn1];refine⟨fun d=> ?_,fun _=>j _ (by omega)⟩;have:8 < t1.length:=e.resolve_right (by simp[d]);rw[ZnO,Zn1];refine⟨Zpc (by omega),fun i=> ?_,fun i=>w _ (.inr rfl)⟩;simp only[decide_eq_true_eq]at i;rw[ZnN];refine ZnU (ZIG (by omega)) fun _ _=> ?_
   grind[ZnO,ZnN,Zpc,ZIG]
  rw[ZnO,Zn1];grind[Zpc,ZnN,ZnU,ZIG]
 ·have u:((t[(0:Int).toNat].toNat:Nat):Int) < 256:=by have:=t[(0:Int).toNat].toNat_lt;omega
  generalize t[(0:Int).toNat].toNat=c at*
  rw[ZnO,ZnN];refine⟨ZoI (by omega),ZnU (ZQo ZSF (by rw[ZQ9];omega)) fun x r=> ?_⟩;have y:=shr4 r;rw[ZnO,ZnO,ZnN];refine⟨by decide,ZoI (by omega),ZnU (ZQo ZNw (by rw[ZMd];omega)) fun lo _=> ?_⟩;rw[ZnN];refine ZnU (ZQo ZNw (by rw[ZMd];omega)) fun hi _=> ?_
  have m:∀b,2<=t.length\/b=true->wp (ZqJ a t b) (fun _=>True):=fun b e=>by unfold ZqJ;rw[Zn1,ZnL,ZnO];refine⟨fun _=>trivial,fun d=> ?_⟩;have:2<=t.length:=e.resolve_right (by simp[d]);exact⟨Zpc (by omega),o 2 (by omega) this⟩
  have l:∀b,3<=t.length\/b=true->wp (Zo2 a t b) (fun _=>True):=fun b e=>by unfold Zo2;rw[Zn1,ZnL,ZnO];refine⟨fun _=>trivial,fun d=> ?_⟩;have:3<=t.length:=e.resolve_right (by simp[d]);exact⟨Zpc (by omega),o 3 (by omega) this⟩
  have g:∀b,4<=t.length\/b=true->wp (Zoo a t b) (fun _=>True):=fun b e=>by unfold Zoo;rw[Zn1,ZnL,ZnO];refine⟨fun _=>trivial,fun d=> ?_⟩;have:4<=t.length:=e.resolve_right (by simp[d]);exact⟨Zpc (by omega),o 4 (by omega) this⟩
  simp only[Zn1,ZnN,ZI7,ZnL,decide_eq_true_eq,decide_eq_false_iff_not];refine⟨fun _=>⟨fun _=>m _ (.inr rfl),fun _=>⟨by omega,by omega,fun _=>m _ (.inr rfl),fun _=>⟨by omega,by omega,m _ (.inl (by omega))⟩⟩⟩,
   fun _=>⟨fun _=>⟨fun _=>l _ (.inr rfl),fun _=>⟨by omega,by omega,fun _=>l _ (.inr rfl),fun _=>⟨by omega,by omega,fun _=>l _ (.inr rfl),fun _=>⟨by omega,by omega,fun _=>l _ (.inr rfl),fun _=>⟨by omega,by omega,l _ (.inl (by omega))⟩⟩⟩⟩⟩,
    fun _=>⟨fun _=>⟨fun _=>g _ (.inr rfl),fun _=>⟨by omega,by omega,fun _=>g _ (.inr rfl),fun _=>⟨by omega,by omega,fun _=>g _ (.inr rfl),fun _=>⟨by omega,by omega,fun _=>g _ (.inr rfl),fun _=>⟨by omega,by omega,fun _=>g _ (.inr rfl),fun _=>⟨by omega,by omega,fun _=>g _ (.inr rfl),fun _=>⟨by omega,by omega,g _ (.inl (by omega))⟩⟩⟩⟩⟩⟩⟩,fun _=>trivial⟩⟩⟩
theorem ZUk (s:Str) (a:s.length<=9223372036854775807):wp (ZqA s) (fun _=>True):=by
 grind[ZqA,Zyd,ZnN,ZUm,ZnL]
def vs (s:Str):Bool:=(ZqA s).getD false
theorem ZNU (s:Str) (a:s.length<=9223372036854775807):ZqA s=some (vs s):=by obtain⟨b,c,_⟩:=ZUk s a;grind[vs]
end Go.Proofs
namespace Go.Proofs
open Go Eng
theorem ZSX {c X:Type} {f:Nat->Int->Option (Out Unit X)} {body:(Int->Option (Out Unit X))->Int->Option (Out Unit X)} (b:List c) (p:c->Bool) (x:X) (e:∀n i,f (n+1) i=body (f n) i) (d:b.length<=1000000000000)
  (j:∀(a:Int->Option (Out Unit X)) (i:Nat) (h:i < b.length) (Q:Out Unit X->Prop),(p b[i]=false->Q (.ret x))->(p b[i]=true->wp (a ((i:Int)+1)) Q)->wp (body a i) Q)
  (l:∀(a:Int->Option (Out Unit X)) (Q:Out Unit X->Prop),Q (.brk ())->wp (body a (b.length:Int)) Q):
  wp (f big 0) (fun r=>r=if b.all p then .brk ()else .ret x):=by
 refine ZKB e (fun i=>∃k:Nat,k<=b.length/\i=(k:Int)/\(b.take k).all p=true) (fun i=>b.length - i.toNat) _ ?_ big 0 ⟨0,Nat.zero_le _,rfl,by simp⟩ (ZID (by omega));rintro a i ⟨k,o,rfl,m⟩ g
 by_cases hlt:k < b.length
 ·refine j a k hlt _ (fun h=> ?_) (fun h=>g _ ⟨k+1,by omega,by omega, ?_⟩ (by omega))
  all_goals grind[Z4a]
 grind
def ZJZ (s:Str):Bool:=decide ((s.length:Int)<=1024)&&vs s
def ZJP (c:G_api_Cell):Bool:=ZJZ c.Text&&(!c.Null||c.Text == [])
def ZyC (t:G_api_Table):Int:=match t.Columns with | []=>0 |c::_=>c.Cells.length
def ZRf (n:Int) (c:G_api_Column):Bool:=ZJZ c.Name&&((c.Cells.length:Int) == n&&c.Cells.all ZJP)
def ZGl (t:G_api_Table):Bool:=decide (0<=t.ID)&&(decide (t.ID<=1073741824)&&(ZJZ t.Name&&(decide ((t.Columns.length:Int)<=64)&&(decide (ZyC t<=4096)&&t.Columns.all (ZRf (ZyC t))))))
def ZUF:List G_api_Column->Int
 | []=>0
 |c::_=>(c.Cells.length:Int)
theorem ZQx:∀(a:List G_api_Column) (h:0 < a.length),ZUF a=(a[0].Cells.length:Int)
 |_::_,_=>rfl
theorem ZSg (t:G_api_Table):ZyC t=ZUF t.Columns:=by grind[ZyC,ZUF]
def ZJ3 (t:G_api_Table):Prop:=t.Name.length<=9223372036854775807/\∀c∈t.Columns,c.Name.length<=9223372036854775807/\∀x∈c.Cells,x.Text.length<=9223372036854775807
def ZJV (n:Int) (c:G_api_Column):Bool:=ZJZ c.Name&&(decide ((c.Cells.length:Int)<=4096)&&((c.Cells.length:Int) == n&&c.Cells.all ZJP))
end Go.Proofs
namespace Go.Proofs
open Go Eng
theorem ZOd (s:Str):ZFl s=some (ZJZ s):=by
 grind[ZFl,ZFu,ZJa,ZJZ,ZNU]
theorem ZR1 (c:G_api_Cell):ZEt c=some (ZJP c):=by grind[ZEt,ZyF,ZJP,ZOd]
theorem ZSI (l:List G_api_Cell) (c:l.length<=1000000000000):ZAh l=some (l.all ZJP):=by
 refine Zps ?_;unfold ZAh ZBy;rw[ZnN];refine ZnU (ZSX (f:=fun n i=>ZxF n l (l.length:Int) i) (body:=fun a i=>Zv7 (fun _ _ i=>a i) l (l.length:Int) i) l ZJP false (fun n i=>rfl) c (fun a i h Q b d=> ?_) (fun a Q b=> ?_)) ?_
 ·grind[Zv7,ZnN,ZI7,ZnO,ZnL,ZR1,ZnS]
 all_goals grind[Zv7,ZnL]
theorem ZOL (t:G_api_Table):ZGz t=some (ZyC t):=by
 unfold ZGz ZyC;cases t.Columns with
 |nil=>rfl
 |cons c l=>
  have:(((c::l).length:Int) == 0)=false:=by grind
  rw[this];rfl
theorem ZUq (c:G_api_Column) (t:G_api_Table) (a:c.Cells.length<=1000000000000):ZFv c t=some (!ZRf (ZyC t) c):=by
 unfold ZFv ZAZ ZRf;grind[ZOd,ZOL,ZSI]
theorem ZSB (l:List G_api_Column) (t:G_api_Table) (o:l.length<=1000000000000) (b:∀c∈l,c.Cells.length<=1000000000000):Zp1 l t=some (!l.all (ZRf (ZyC t))):=by
 refine Zps ?_;unfold Zp1 ZsR Zr3;rw[ZnN,ZnN];refine ZnU (ZKB (f:=fun n i=>Zp0 n l t (l.length:Int) i) (body:=fun a i=>ZrE (fun _ _ _ i=>a i) l t (l.length:Int) i) (fun n i=>rfl)
  (fun i=>∃k:Nat,k<=l.length/\i=(k:Int)/\(l.take k).all (ZRf (ZyC t))=true) (fun i=>l.length - i.toNat)
  (fun r=>(r= .brk ()/\l.all (ZRf (ZyC t))=true)\/∃k:Nat,r= .ret (k:Int)/\l.all (ZRf (ZyC t))=false) ?_ big 0 ⟨0,Nat.zero_le _,rfl,by simp⟩ (ZID (by omega))) ?_
 ·rintro a i ⟨k,m,rfl,j⟩ g;unfold ZrE;rw[Zn1];refine⟨fun h=> ?_,fun h=> ?_⟩
  ·simp only[decide_eq_true_eq]at h;have d:k < l.length:=by omega
   rw[ZnN,ZI7];refine⟨by omega,by omega, ?_⟩;simp only[Z3S];rw[ZUq _ _ (b _ (Z3Z _)),ZnN,ZnL,Zn1,ZnL,ZnO];refine⟨fun e=> .inr ⟨k,rfl, ?_⟩,fun e=>⟨ZnS (by omega),g _ ⟨k+1,by omega,by omega, ?_⟩ (by omega)⟩⟩
   all_goals grind[Z4a]
  grind[ZnL]
 grind[ZnL]
theorem ZR3 (t:G_api_Table) (a:t.Columns.length<=1000000000000) (b:∀c∈t.Columns,c.Cells.length<=1000000000000):ZHt t=some (ZGl t):=by
 unfold ZHt Zyw ZGl;rw[ZOd,ZOL,ZSB _ _ a b];grind
end Go.Proofs
namespace Go.Proofs
open Go Eng
theorem ZQM (s:Str) (a:s.length<=9223372036854775807):ZvR s=some (ZJZ s):=by grind[ZvR,ZwB,ZuR,ZJZ,ZNU]
theorem ZSi (c:G_api_Cell) (a:c.Text.length<=9223372036854775807):Zvn c=some (ZJP c):=by grind[Zvn,Zp8,ZuR,ZJP,ZJZ,ZNU]
theorem ZOU (t:G_api_Table):ZvT t=some (ZyC t):=by
 unfold ZvT ZyC;cases t.Columns with
 |nil=>rfl
 |cons c l=>
  have:(((c::l).length:Int) == 0)=false:=by grind
  rw[this];rfl
theorem ZN3 (a:List G_api_Column) (b d:Int) (l:List G_api_Cell) (t:G_api_Table) (q:l.length<=1000000000000) (e:∀x∈l,x.Text.length<=9223372036854775807):
  wp (Zs1 big a b d l (l.length:Int) 0 t) (fun r=>r=if l.all ZJP then .brk (a,b,d,t)else .ret false):=by
 refine ZKB (f:=fun n i=>Zs1 n a b d l (l.length:Int) i t) (body:=fun c i=>Zyn (fun _ _ _ _ _ i _=>c i) a b d l (l.length:Int) i t) (fun n i=>rfl)
  (fun i=>∃k:Nat,k<=l.length/\i=(k:Int)/\(l.take k).all ZJP=true) (fun i=>l.length - i.toNat) _ ?_ big 0 ⟨0,Nat.zero_le _,rfl,by simp⟩ (ZID (by omega))
 rintro c i ⟨k,p,rfl,o⟩ m;unfold Zyn;rw[Zn1];refine⟨fun h=> ?_,fun h=> ?_⟩
 ·simp only[decide_eq_true_eq]at h;have g:k < l.length:=by omega
  rw[ZnN,ZI7];refine⟨by omega,by omega, ?_⟩;simp only[Z3S];rw[ZSi _ (e _ (Z3Z _)),ZnN,ZnL,Zn1,ZnL,ZnO];refine⟨fun j=> ?_,fun j=>⟨ZnS (by omega),m _ ⟨k+1,by omega,by omega, ?_⟩ (by omega)⟩⟩
  all_goals grind[Z4a]
 grind[ZnL]
theorem ZPA (t:G_api_Table) (v:ZJ3 t) (C:t.Columns.length<=1000000000000):
  wp (Zpt big t.Columns (t.Columns.length:Int) 0 t) (fun r=>r=if t.Columns.all (ZJV (ZyC t))then .brk ()else .ret false):=by
 refine ZKB (f:=fun n s=>Zpt n s.1 s.2.1 s.2.2.1 s.2.2.2) (body:=fun e s=>Zyo (fun a b c d=>e (a,b,c,d)) s.1 s.2.1 s.2.2.1 s.2.2.2) (fun n s=>rfl)
  (fun s=>∃k:Nat,k<=t.Columns.length/\s=(t.Columns,(t.Columns.length:Int),(k:Int),t)/\(t.Columns.take k).all (ZJV (ZyC t))=true) (fun s=>t.Columns.length - s.2.2.1.toNat) _ ?_ big (t.Columns,(t.Columns.length:Int),0,t) ⟨0,Nat.zero_le _,rfl,by simp⟩ (ZID (by omega))
 rintro e s ⟨k,A,rfl,y⟩ o;dsimp only at o|-
 unfold Zyo;rw[Zn1];refine⟨fun h=> ?_,fun h=> ?_⟩
 ·simp only[decide_eq_true_eq]at h;have i:k < t.Columns.length:=by omega
  obtain⟨u,j⟩:=v.2 _ (Z3Z i);rw[ZnN,ZI7];refine⟨by omega,by omega, ?_⟩;simp only[Z3S];rw[ZQM _ u,ZnN,ZnL];have p:ZJV (ZyC t) t.Columns[k]=false->(Out.ret false:Out Unit Bool)=if t.Columns.all (ZJV (ZyC t))then .brk ()else .ret false:=fun B=>by grind
  have g:∀q:Bool,(ZJV (ZyC t) t.Columns[k]=(!q&&t.Columns[k].Cells.all ZJP))->(q=false->t.Columns[k].Cells.length<=4096)->
    wp (Zrp (fun a b c d=>e (a,b,c,d)) t.Columns (t.Columns.length:Int) (k:Int) q t t.Columns[k]) (fun r=>r=if t.Columns.all (ZJV (ZyC t))then .brk ()else .ret false):=fun q x w=>by
   unfold Zrp ZzC;cases q with
   |true=>grind[ZnL]
   |false=>
    rw[cond_false,ZnN];refine ZnU (ZN3 _ _ _ _ _ (by grind) j) ?_;rintro r rfl;cases hall:t.Columns[k].Cells.all ZJP with
    |true=>
     simp only[if_true,ZnO];refine⟨ZnS (by omega),o _ ⟨k+1,by omega,by simp, ?_⟩ (by grind)⟩;grind[Z4a]
    |false=>
     grind[ZnL]
  rw[Zn1];refine⟨fun m=>g true ?_ (fun h=>nomatch h),fun m=> ?_⟩
  ·grind[ZJV]
  ·simp only[ZYu]at m;rw[Zn1];refine⟨fun l=>g true ?_ (fun h=>nomatch h),fun l=> ?_⟩
   ·grind[ZJV]
   ·simp only[decide_eq_false_iff_not]at l;rw[ZnN,ZI7];refine⟨by omega,by omega,g _ ?_ (fun _=>by omega)⟩;have z:decide ((t.Columns[k].Cells.length:Int)<=4096)=true:=decide_eq_true (by omega);grind[ZSg,ZQx,ZJV]
 grind[ZnL]
theorem ZM2 (t:G_api_Table) (b:ZJ3 t) (c:t.Columns.length<=1000000000000):Zqp t=some (ZGl t):=by
 have key:t.Columns.all (ZJV (ZyC t))=(decide (ZyC t<=4096)&&t.Columns.all (ZRf (ZyC t))):=by
  grind[ZyC,ZJV,ZRf]
 unfold Zqp Zrq ZzB ZGl;rw[ZQM _ b.1,<-key];have a:(Zpt big t.Columns (t.Columns.length:Int) 0 t)=some (if t.Columns.all (ZJV (ZyC t))then .brk ()else .ret false):=Zps (ZPA t b c);grind
end Go.Proofs
namespace Go.Proofs
open Go Eng
theorem ZGJ (w a:Nat) (h:a < 2 ^ w):(BitVec.ofInt w (a:Int)).toNat=a:=by grind
theorem ZMP {a b:Nat} (ha:a < 4294967296) (hb:b < 4294967296):andK .u32 (a:Int) (b:Int)=((a&&& b:Nat):Int):=by grind[andK,IntKind.bits,IntKind.wrap_u32]
theorem ZNb {a b:Nat} (ha:a < 4294967296) (hb:b < 4294967296):orK .u32 (a:Int) (b:Int)=((a|||b:Nat):Int):=by grind[orK,IntKind.bits,IntKind.wrap_u32]
theorem ZNT {a b:Nat} (ha:a < 4294967296) (hb:b < 4294967296):xorK .u32 (a:Int) (b:Int)=((a ^^^ b:Nat):Int):=by grind[xorK,IntKind.bits,IntKind.wrap_u32]
theorem ZYx {a b:Nat} (ha:a < 18446744073709551616) (hb:b < 18446744073709551616):orK .u64 (a:Int) (b:Int)=((a|||b:Nat):Int):=by grind[orK,IntKind.bits,IntKind.wrap_u64]
theorem ZII {a:Nat} (k:Nat) (hk:k<=64):shrK .u64 (a:Int) (k:Int)=((a / 2 ^ k:Nat):Int):=by
 grind[shrK,IntKind.bits]
theorem ZJS {a:Nat} (k:Nat) (hk:k<=32):shrK .u32 (a:Int) (k:Int)=((a / 2 ^ k:Nat):Int):=by
 grind[shrK,IntKind.bits]
theorem ZBW (a:Nat):IntKind.wrap .u32 (a:Int)=((a % 4294967296:Nat):Int):=by grind[IntKind.wrap_u32]
theorem ZpN {a:Nat} (h:a < 18446744073709551616):IntKind.wrap .u64 (a:Int)=(a:Int):=by grind[IntKind.wrap_u64]
theorem ZCD {a:Nat} (h:a < 4294967296):IntKind.wrap .u32 (a:Int)=(a:Int):=by grind[IntKind.wrap_u32]
theorem ZZi {a b c:Nat} (ha:a < 4294967296) (hb:b < 4294967296) (hc:c<=1):ZB7 (a:Int) (b:Int) (c:Int)=some ((((a+b+c) % 4294967296:Nat):Int),(((a+b+c) / 4294967296:Nat):Int)):=by
 unfold ZB7;have e:IntKind.wrap .u64 ((IntKind.wrap .u64 ((IntKind.wrap .u64 (a:Int))+(IntKind.wrap .u64 (b:Int))))+(IntKind.wrap .u64 (c:Int)))=((a+b+c:Nat):Int):=by rw[ZpN (by omega),ZpN (by omega),ZpN (by omega),<-Z3R,ZpN (by omega),<-Z3R,ZpN (by omega)]
 rw[e,show (32:Int)=((32:Nat):Int)from rfl,ZII 32 (by omega),ZBW,ZCD (a:=(a+b+c) / 2 ^ 32) (by omega)];rfl
theorem ZVE {a:Nat} (h:a < 4294967296):(a >>> 31=0/\a < 2147483648)\/(a >>> 31=1/\2147483648<=a):=by omega
theorem ZUw {a b c:Nat} (ha:a < 4294967296) (hb:b < 4294967296) (hc:c<=1):Zzn (a:Int) (b:Int) (c:Int)=some ((((a+4294967296 - b - c) % 4294967296:Nat):Int),((if a < b+c then 1 else 0:Nat):Int)):=by
 unfold Zzn;have hM:(if IntKind.signed .u32 then (-1:Int)else IntKind.max .u32)=((4294967295:Nat):Int):=rfl;have e:IntKind.wrap .u32 ((IntKind.wrap .u32 ((a:Int) - (b:Int))) - (c:Int))=(((a+4294967296 - b - c) % 4294967296:Nat):Int):=by grind[IntKind.wrap_u32]
 have hD:(a+4294967296 - b - c) % 4294967296 < 4294967296:=Z4k _ (by decide);rw[hM,e];generalize hd:(a+4294967296 - b - c) % 4294967296=D at hD|-
 have h1:a ^^^ b < 4294967296:=Z4z (n:=32) ha hb;have h2:4294967295 ^^^ a < 4294967296:=Z4z (n:=32) (by decide) ha;have h3:4294967295 ^^^ (a ^^^ b) < 4294967296:=Z4z (n:=32) (by decide) h1;have h4:(4294967295 ^^^ a)&&& b < 4294967296:=Nat.and_lt_two_pow (n:=32) _ hb;have h5:(4294967295 ^^^ (a ^^^ b))&&& D < 4294967296:=Nat.and_lt_two_pow (n:=32) _ hD;rw[ZNT (by decide) ha,ZNT ha hb,ZNT (by decide) h1,ZMP h2 hb,ZMP h3 hD,ZNb h4 h5,show (31:Int)=((31:Nat):Int)from rfl,ZJS 31 (by omega)];rw[<-Nat.shiftRight_eq_div_pow,Nat.shiftRight_or_distrib,Nat.shiftRight_and_distrib,Nat.shiftRight_and_distrib,Z4w,Z4w,Z4w];have hm:(4294967295:Nat) >>> 31=1:=by decide
 rw[hm];have key:(1 ^^^ a >>> 31)&&& b >>> 31|||(1 ^^^ (a >>> 31 ^^^ b >>> 31))&&& D >>> 31=if a < b+c then 1 else 0:=by rcases ZVE ha with ⟨qa,pa⟩ |⟨qa,pa⟩<;>rcases ZVE hb with ⟨qb,pb⟩ |⟨qb,pb⟩<;>rcases ZVE hD with ⟨qd,pd⟩ |⟨qd,pd⟩<;>rw[qa,qb,qd]<;>split<;>first |rfl |(exfalso;omega)
 simp_all
theorem ZNm {h l:Nat} (hh:h < 4294967296) (hl:l < 4294967296):orK .u64 (shlK .u64 (IntKind.wrap .u64 (h:Int)) 32) (IntKind.wrap .u64 (l:Int))=((h*4294967296+l:Nat):Int):=by
 have e1:shlK .u64 (IntKind.wrap .u64 (h:Int)) 32=((h*4294967296:Nat):Int):=by unfold shlK;rw[ZpN (by omega),show min (32:Int).toNat (IntKind.bits .u64)=32 from by decide,IntKind.wrap_u64];omega
 rw[e1,ZpN (by omega),ZYx (by omega) (by omega)];have:=Nat.shiftLeft_add_eq_or_of_lt (i:=32) (b:=l) (by omega) h;grind[Nat.shiftLeft_eq]
theorem Z13 {h l y:Nat} (hy:h < y) (hl:l < 4294967296) (hy2:y < 4294967296):ZEv (h:Int) (l:Int) (y:Int)=some ((((h*4294967296+l) / y:Nat):Int),(((h*4294967296+l) % y:Nat):Int)):=by
 have hle:¬((y:Int)<=(h:Int)):=by omega
 have hq:(h*4294967296+l) / y < 4294967296:=(Z4e (by omega)).2 (by
  omega)
 have hr:(h*4294967296+l) % y < y:=Z4k _ (by omega);have hj:ZyG (h:Int) (l:Int) (y:Int) false=some ((((h*4294967296+l) / y:Nat):Int),(((h*4294967296+l) % y:Nat):Int)):=by
  unfold ZyG;rw[cond_false,ZNm (by omega) hl,ZpN (by omega)];have hne:decide ((y:Int)≠0)=true:=decide_eq_true (by omega);rw[hne,chk_true,chk_true];have e1:Int.tdiv ((h*4294967296+l:Nat):Int) (y:Int)=(((h*4294967296+l) / y:Nat):Int):=by grind
  have e2:Int.tmod ((h*4294967296+l:Nat):Int) (y:Int)=(((h*4294967296+l) % y:Nat):Int):=by grind
  rw[e1,e2,ZpN (by omega),ZCD hq,ZCD (by omega)];rfl
 grind[ZEv]
def Z0Y:List Int:=[0,1,2,2,3,3,3,3,4,4,4,4,4,4,4,4]++Z36 16 5++Z36 32 6++Z36 64 7++Z36 128 8
theorem ZSw:Zwl=fun x n=>(idx (Z0Y.map fun n=>UInt8.ofNat n.toNat) (IntKind.wrap .u8 x)).bind fun c=>
 chk (inK .i64 (n+(IntKind.wrap .i64 ((c.toNat:Nat):Int)))) <|
 some (n+(IntKind.wrap .i64 ((c.toNat:Nat):Int))):=by kernel_rfl
theorem ZSx:((List.range 256).all fun v=>match (Z0Y.map fun n=>UInt8.ofNat n.toNat)[v]? with |some c=>decide (v < 2 ^ c.toNat/\2 ^ c.toNat<=2*v+(if v=0 then 1 else 0)/\c.toNat<=8) |none=>false)=true:=by kernel_rfl
theorem ZSv {v:Nat} (h:v < 256):∃c:UInt8,(Z0Y.map fun n=>UInt8.ofNat n.toNat)[v]? =some c/\v < 2 ^ c.toNat/\(v≠0->2 ^ c.toNat<=2*v)/\c.toNat<=8:=by have:=List.all_eq_true.1 ZSx v (List.mem_range.2 h);split at this;all_goals grind
theorem ZSy {v:Nat} (h:v < 256) (n:Nat) (hn:n<=100):∃k:Nat,Zwl (v:Int) (n:Int)=some (((n+k:Nat):Int))/\v < 2 ^ k/\(v≠0->2 ^ k<=2*v)/\k<=8:=by
 obtain⟨c,hc,h1,h2,h3⟩:=ZSv h;refine⟨c.toNat, ?_,h1,h2,h3⟩;have e:idx (Z0Y.map fun n=>UInt8.ofNat n.toNat) (IntKind.wrap .u8 (v:Int))=some c:=by rw[IntKind.wrap_u8,show (v:Int) % 256=(v:Int) by omega];simp_all[idx]
 rw[ZSw];dsimp only;rw[e,Z4A,wrap_i64 (by omega),ZnS (by omega),chk_true]
 grind
theorem ZYE {x:Nat} (h0:x≠0) (h:x < 4294967296):∃s:Nat,s<=31/\ZwJ (x:Int)=some (s:Int)/\2147483648<=x*2 ^ s/\x*2 ^ s < 4294967296:=by
 have key:∃k:Nat,ZEu (x:Int)=some (k:Int)/\x < 2 ^ k/\2 ^ k<=2*x/\k<=32:=by
  unfold ZEu ZBQ;have d16:shrK .u32 (x:Int) 16=((x / 65536:Nat):Int):=ZJS 16 (by omega);have fin:∀(n v:Nat),n<=24->v < 256->v≠0->x / 2 ^ n=v->∃k:Nat,Zwl (v:Int) (n:Int)=some (k:Int)/\x < 2 ^ k/\2 ^ k<=2*x/\k<=32:=fun n v hn hv hv0 hx=>by
   obtain⟨k,q1,q2,q3,q4⟩:=ZSy hv n (by omega);refine⟨n+k,q1, ?_, ?_,by omega⟩
   ·grind[Z4e]
   ·rw[Z4u];have h1:2 ^ n*v<=x:=by rw[<-hx];exact Nat.mul_div_le x (2 ^ n)
    have h2:2 ^ n*2 ^ k<=2 ^ n*(2*v):=Z4p _ (q3 hv0);grind
  by_cases c1:65536<=x
  ·rw[decide_eq_true (by omega:(x:Int)>=65536),cond_true,d16];show ∃k:Nat,(bif decide (((x / 65536:Nat):Int)>=256)then _ else _)=_/\_
   by_cases c2:256<=x / 65536
   ·rw[decide_eq_true (by omega:((x / 65536:Nat):Int)>=256),cond_true];have d8:shrK .u32 ((x / 65536:Nat):Int) 8=((x / 65536 / 256:Nat):Int):=ZJS 8 (by omega);rw[d8];exact fin 24 (x / 65536 / 256) (by omega) (by omega) (by omega) (by omega)
   ·rw[decide_eq_false (by omega:¬((x / 65536:Nat):Int)>=256),cond_false];exact fin 16 (x / 65536) (by omega) (by omega) (by omega) (by omega)
  ·rw[decide_eq_false (by omega:¬(x:Int)>=65536),cond_false]
   by_cases c2:256<=x
   ·rw[decide_eq_true (by omega:(x:Int)>=256),cond_true];have d8:shrK .u32 (x:Int) 8=((x / 256:Nat):Int):=ZJS 8 (by omega);rw[d8];exact fin 8 (x / 256) (by omega) (by omega) (by omega) (by omega)
   ·rw[decide_eq_false (by omega:¬(x:Int)>=256),cond_false];exact fin 0 x (by omega) (by omega) h0 (by omega)
 obtain⟨k,hk,h1,h2,h3⟩:=key;have hk1:1<=k:=by
  grind
 refine⟨32 - k,by omega, ?_, ?_, ?_⟩
 ·unfold ZwJ;grind[ZnS,chk_true]
 ·have e:2 ^ k*2 ^ (32 - k)=4294967296:=by rw[<-Z4u,show k+(32 - k)=32 by omega]
  have:2 ^ k*2 ^ (32 - k)<=2*x*2 ^ (32 - k):=Z4q _ h2;rw[Z4m]at this;omega
 ·have e:2 ^ k*2 ^ (32 - k)=4294967296:=by rw[<-Z4u,show k+(32 - k)=32 by omega]
  have:x*2 ^ (32 - k) < 2 ^ k*2 ^ (32 - k):=Nat.mul_lt_mul_of_pos_right h1 (Z4y _);omega
end Go.Proofs
namespace Go.Proofs
open Go Eng
def iL (l:List Nat):List Int:=l.map fun(n:Nat)=>(n:Int)
theorem Zoy (l:List Nat):(iL l).length=l.length:=by grind[iL]
theorem ZLA (a b:List Nat):iL (a++b)=iL a++iL b:=by grind[iL]
theorem ZYO:iL []=[]:=rfl
theorem ZJo {l:List Nat} {i:Nat} (h:i < l.length):(iL l)[i]? =some (l[i]:Int):=by grind[iL]
theorem ZA9 {l:List Nat} {i:Nat} (h:i < l.length):idx (iL l) (i:Int)=some (l[i]:Int):=by grind[idx,ZJo]
theorem ZIc (l:List Nat) (i x:Nat):(iL l).set i (x:Int)=iL (l.set i x):=by grind[iL,List.map_set]
theorem ZOb (l:List Nat) (i:Nat):(iL l).take i=iL (l.take i):=by grind[iL,List.map_take]
theorem ZLz (n:Nat):Z36 n (0:Int)=iL (Z36 n 0):=by grind[iL,List.map_replicate]
abbrev Bw:Nat:=4294967296
def val:List Nat->Nat
 | []=>0
 |d::r=>d+Bw*val r
def Dg (l:List Nat):Prop:=∀d∈l,d < Bw
theorem Dg.app {a b:List Nat} (e:Dg a) (c:Dg b):Dg (a++b):=fun d f=>(List.mem_append.1 f).elim (e d) (c d)
theorem ZJs:Dg []:=fun _ h=>by grind
theorem ZIA {x:Nat} (h:x < Bw):Dg [x]:=fun d a=>by simp_all
theorem ZRb (n:Nat):Dg (Z36 n 0):=fun d a=>by simp_all
theorem Dg.take {a:List Nat} (h:Dg a) (k:Nat):Dg (a.take k):=fun d b=>h d (List.mem_of_mem_take b)
theorem Dg.drop {a:List Nat} (h:Dg a) (k:Nat):Dg (a.drop k):=fun d b=>h d (List.mem_of_mem_drop b)
theorem Dg.set {a:List Nat} (h:Dg a) (i:Nat) {x:Nat} (e:x < Bw):Dg (a.set i x):=fun d c=>by
 rcases List.mem_or_eq_of_mem_set c with b |b
 ·exact h d b
 omega
theorem Dg.get {a:List Nat} (h:Dg a) {i:Nat} (hi:i < a.length):a[i] < Bw:=h _ (Z3Z hi)
theorem ZIh:∀a b:List Nat,val (a++b)=val a+Bw ^ a.length*val b
 | [],b=>by simp[val]
 |d::a,b=>by simp only[List.cons_append,val,ZIh a b,Z31,Z4v,Z4l];grind
theorem ZDc (a:List Nat) (x:Nat):val (a++[x])=val a+Bw ^ a.length*x:=by grind[ZIh,val]
theorem ZEC:∀{l:List Nat},Dg l->val l < Bw ^ l.length
 | [],_=>by simp[val]
 |d::r,h=>by
  have b:=h d (by simp);have c:=ZEC (l:=r) fun x a=>h x (by grind)
  grind[val]
theorem ZNV (n:Nat):val (Z36 n 0)=0:=by
 induction n with
 |zero=>rfl
 |succ n a=>grind[val]
theorem ZpD {l:List Nat} {k:Nat} (h:k < l.length):val (l.take (k+1))=val (l.take k)+Bw ^ k*l[k]:=by grind[Z4a,ZDc]
def wd (n:Nat):List Nat:=if h:n=0 then []else n % Bw::wd (n / Bw)
termination_by n
decreasing_by exact Nat.div_lt_self (Nat.pos_of_ne_zero h) (by decide)
theorem ZBb:wd 0=[]:=by grind[wd]
theorem ZJ8 {n:Nat} (h:n≠0):wd n=n % Bw::wd (n / Bw):=by grind[wd]
theorem ZCE (n:Nat):Dg (wd n):=by
 induction n using Nat.strongRecOn with
 |ind n b=>
  by_cases h:n=0
  ·grind[ZBb,ZJs]
  ·rw[ZJ8 h];intro d a;rcases List.mem_cons.1 a with rfl |a
   ·grind
   ·exact b (n / Bw) (Nat.div_lt_self (Nat.pos_of_ne_zero h) (by decide)) d a
theorem Zwn (n:Nat):val (wd n)=n:=by
 induction n using Nat.strongRecOn with
 |ind n a=>
  grind[ZBb,ZJ8,val]
theorem ZGk {n k:Nat} (h:n < Bw ^ k):(wd n).length<=k:=by
 induction k generalizing n with
 |zero=>
  grind[ZBb]
 |succ k a=>
  grind[ZJ8]
theorem Zw0 {n:Nat} (h:n≠0):0 < (wd n).length:=by grind[ZJ8]
theorem ZX2 {n:Nat}:wd n=[]<->n=0:=⟨fun h=>by have:=Zwn n;rw[h]at this;exact this.symm,fun h=>by rw[h,ZBb]⟩
theorem ZDH (n:Nat):n < Bw ^ (wd n).length:=by grind[ZEC,ZCE,Zwn]
def ZMZ (l:List Nat):List Nat:=(l.reverse.dropWhile (· == 0)).reverse
theorem ZLV (l:List Nat) (x:Nat):ZMZ (l++[x])=if x=0 then ZMZ l else l++[x]:=by
 grind[ZMZ,List.dropWhile_cons]
theorem ZOJ:∀{l:List Nat} {x:Nat},Dg (l++[x])->x≠0->wd (val (l++[x]))=l++[x]
 | [],x,h,hx=>by have b:x < Bw:=h x (by simp);grind[val,ZJ8,ZBb]
 |d::l,x,h,hx=>by
  have b:d < Bw:=h d (by simp);have c:=ZOJ (l:=l) (x:=x) (fun y f=>h y (by simp_all)) hx;have a:val (l++[x])≠0:=fun e=>by simp_all[ZBb]
  simp only[List.cons_append,val];grind[ZJ8]
theorem ZON:∀(n:Nat) {l:List Nat},l.length=n->Dg l->ZMZ l=wd (val l)
 |0,l,hl,_=>by simp_all[ZMZ,val,ZBb]
 |n+1,l,hl,h=>by
  rcases List.eq_nil_or_concat l with rfl |⟨v,x,rfl⟩
  ·simp_all
  ·rw[List.concat_eq_append]at hl h|-
   rw[ZLV];split
   ·rename_i a;subst a;rw[ZON n (by simp_all) (fun d b=>h d (by grind)),ZDc,Z4s,Z4c]
   grind[ZOJ]
theorem ZIH {l:List Nat} (h:Dg l) (f:l.length<=1000000):ZpH (iL l)=some (iL (wd (val l))):=by
 rw[<-ZON _ rfl h];refine Zps ?_;unfold ZpH ZEe;rw[ZnN];refine ZnU (Zpm ZIt (fun(w:List Nat)=>iL w) (fun w=>ZMZ w=ZMZ l/\w.length<=1000000) List.length (Q:=fun x=>x=iL (ZMZ l)) l ⟨rfl,f⟩ (by omega) ?_) (fun x d=>by grind[ZnL]);rintro e w ⟨a,b⟩ i;unfold ZFB Zzh ZA0;rcases List.eq_nil_or_concat w with rfl |⟨v,x,rfl⟩
 ·show wp (some (iL [])) _;rw[ZnL,<-a];rfl
 ·rw[List.concat_eq_append]at a b|-
  rw[ZLV]at a;have c:(iL (v++[x])).length=v.length+1:=by grind[Zoy]
  rw[Zn1];refine⟨fun _=> ?_,fun h=>by simp_all⟩;have g:((iL (v++[x])).length:Int) - 1=(v.length:Int):=by omega
  have d:(v++[x])[v.length]'(by simp)=x:=by simp
  grind[ZnO,ZA9,ZnL,ZnS,Zpc,ZOb,Z3S]
theorem ZVI (l:List Nat) (i:Nat):Zxa (iL l) (i:Int)=some ((l.getD i 0:Nat):Int):=by
 grind[Zxa,Zoy,ZA9]
theorem ZJY {l:List Nat} (h:Dg l) (i:Nat):l.getD i 0 < Bw:=by
 rw[Z3V]
 by_cases hi:i < l.length
 ·rw[Z3W hi];exact h.get hi
 simp_all
theorem ZEr (l:List Nat) (k:Nat):val (l.take (k+1))=val (l.take k)+Bw ^ k*l.getD k 0:=by
 grind[ZpD,Z39]
theorem ZQD (a b:Nat) (ha:(wd a).length<=100000) (hb:(wd b).length<=100000):ZxV (iL (wd a)) (iL (wd b))=some (iL (wd (a+b))):=by
 obtain⟨m,hm,hma,hmb,hm2⟩:∃m:Nat,(if ((iL (wd b)).length:Int) > ((iL (wd a)).length:Int)then ((iL (wd b)).length:Int)else ((iL (wd a)).length:Int))=(m:Int)/\(wd a).length<=m/\(wd b).length<=m/\m<=100000:=by
  grind[Zoy]
 refine Zps ?_;unfold ZxV;rw[hm,ZnO,ZnO,ZnN];refine⟨ZnS (by omega),decide_eq_true (by grind[ZO]), ?_⟩;refine ZnU (Zva ZHN m (by omega) (fun i (s:Nat×List Nat)=>(iL (wd a),iL (wd b),(s.1:Int),(m:Int),i,iL s.2)) (fun i s=>s.1<=1/\s.2.length=i/\Dg s.2/\val s.2+Bw ^ i*s.1=val ((wd a).take i)+val ((wd b).take i))
  (Q:=fun y=>∃(c:Nat) (o:List Nat),y=((c:Int),iL o)/\c<=1/\Dg o/\o.length=m/\val o+Bw ^ m*c=a+b) (0,[]) ⟨by simp,rfl,ZJs,by simp[val]⟩ ?_ ?_) ?_
 ·rintro rec i ⟨c,o⟩ hlt ⟨hc,hl,hd,hv⟩ ih;dsimp only at hc hl hd hv ih;have h1:=ZJY (ZCE a) i;have h2:=ZJY (ZCE b) i;unfold ZAR ZwK;dsimp only;rw[Zn1];refine⟨fun _=> ?_,fun h=>by simp_all⟩;rw[ZVI,ZnN,ZnL,ZVI,ZnN,ZnL,ZZi h1 h2 hc,ZnN,ZnL];dsimp only;rw[ZnO,ZnO,Zoy];refine⟨ZsS (by grind),ZnS (by omega), ?_⟩;generalize ex:(wd a).getD i 0=x at h1;generalize ey:(wd b).getD i 0=y at h2;have:=ih ((x+y+c) / Bw,o++[(x+y+c) % Bw]) ⟨?_,by grind,hd.app (ZIA (Z4k _ (by decide))), ?_⟩
  ·rw[ZLA]at this;exact this
  all_goals grind[ZDc,ZEr,Z4i]
 ·grind[ZAR,ZwK,ZnL,Z39,Zwn]
 ·rintro y ⟨c,o,rfl,hc,hd,hl,hv⟩;dsimp only;unfold ZB8;rw[ZnO,Zoy];refine⟨ZsS (by grind), ?_⟩;have e:iL o++[(c:Int)]=iL (o++[c]):=by rw[ZLA];rfl
  rw[e,ZIH (hd.app (ZIA (by grind))) (by grind),ZnN,ZnL,ZnL,ZDc,hl,hv]
end Go.Proofs
namespace Go.Proofs
open Go Eng
theorem ZKo {b d X:Type} {f:Nat->b->Option X} {body:(b->Option X)->b->Option X} (i:∀n s,f (n+1) s=body (f n) s)
  (m:Nat) (u:m<=1000000000000000) (c:Int->d->b) (P:Nat->d->Prop) {Q:X->Prop} (e:d) (l:P m e)
  (h:∀(a:b->Option X) k t,k < m->P (k+1) t->(∀g,P k g->wp (a (c ((k:Int) - 1) g)) Q)->wp (body a (c (k:Int) t)) Q)
  (j:∀(a:b->Option X) t,P 0 t->wp (body a (c (-1) t)) Q):wp (f big (c ((m:Int) - 1) e)) Q:=by
 have key:∀(n k:Nat) t,k<=m->P k t->k < n->wp (f n (c ((k:Int) - 1) t)) Q:=by
  intro n
  induction n with
  |zero=>omega
  |succ n r=>
   intro k t p o q;rw[i];cases k with
   |zero=>simp_all
   |succ k=>
    grind
 grind[ZID]
theorem ZIT {n:Nat} (h:n<=1000000):mkOk (n:Int) (n:Int) 4=true:=by grind[mkOk,ZO]
def ZL4 (a b:Nat):Int:=if a < b then -1 else if b < a then 1 else 0
theorem ZNv (a b:Nat):Zu8 (a:Int) (b:Int)=some (ZL4 a b):=by
 grind[Zu8,ZEm,ZL4]
theorem ZVB (a b:Nat):ZET (a:Int) (b:Int)=some (ZL4 a b):=ZNv a b
theorem ZGb {a b:Nat} (h:a < b):ZL4 a b= -1:=by grind[ZL4]
theorem ZFM {a b:Nat} (h:b < a):ZL4 a b=1:=by grind[ZL4]
theorem ZEn (a:Nat):ZL4 a a=0:=by grind[ZL4]
theorem ZMW {n k:Nat} (h:k < (wd n).length):Bw ^ k<=n:=by
 grind[Nat.lt_or_ge,ZGk]
theorem ZL5 {a b:Nat} (h:(wd a).length < (wd b).length):a < b:=Nat.lt_of_lt_of_le (ZDH a) (ZMW h)
theorem ZHF {l:List Nat} {k:Nat} (h:k < l.length):val l=val (l.take k)+Bw ^ k*(l[k]+Bw*val (l.drop (k+1))):=by
 grind[Z3Y,List.take_append_drop,val,ZIh]
theorem ZMh {p q x y A B k:Nat} (a:p < Bw ^ k) (h:x < y):p+Bw ^ k*x < q+Bw ^ k*y:=by have:Bw ^ k*(x+1)<=Bw ^ k*y:=Z4p _ h;grind
theorem ZKE (a b:Nat) (ha:(wd a).length<=100000) (hb:(wd b).length<=100000):ZrF (iL (wd a)) (iL (wd b))=some (ZL4 a b):=by
 refine Zps ?_;unfold ZrF;rw[Zoy,Zoy,ZNv,ZnN,ZnL,Zn1];refine⟨fun h=> ?_,fun h=> ?_⟩
 ·grind[ZnL,ZGb,ZL5,ZEn,ZFM]
 ·have hl:(wd a).length=(wd b).length:=by
   grind[ZGb,ZFM]
  rw[ZnO,ZnN];refine⟨ZnS (by omega), ?_⟩;refine ZnU (ZKo ZGD (wd a).length (by omega) (fun i (s:Unit)=>(iL (wd a),iL (wd b),i)) (fun k _=>(wd a).drop k=(wd b).drop k)
   (Q:=fun r=>r= .ret (ZL4 a b)/\ZL4 a b≠0\/r= .brk ()/\a=b) () (by simp_all) ?_ ?_) ?_
  ·rintro rec k ⟨⟩ hk hP ih;have hk2:k < (wd b).length:=by omega
   unfold Zyz ZuP;dsimp only;rw[Zn1];refine⟨fun _=> ?_,fun h=>by simp_all⟩;rw[ZA9 hk,ZnN,ZnL,ZA9 hk2,ZnN,ZnL,ZVB,ZnN,ZnL];have ha:=ZHF hk;have hb:=ZHF hk2;rw[Zwn]at ha hb;have la:val ((wd a).take k) < Bw ^ k:=by have:=ZEC ((ZCE a).take k);grind
   have lb:val ((wd b).take k) < Bw ^ k:=by have:=ZEC ((ZCE b).take k);grind
   rw[Zn1];refine⟨fun hc=> ?_,fun hc=> ?_⟩
   ·rw[ZnL];rcases Z4g (wd a)[k] (wd b)[k]with h1 |h1 |h1
    ·rw[ZGb h1];have:a < b:=by rw[ha,hb,hP];exact ZMh (A:=0) (B:=0) la (by omega)
     grind[ZGb]
    ·grind[ZEn]
    ·rw[ZFM h1];have:b < a:=by rw[ha,hb,hP];exact ZMh (A:=0) (B:=0) lb (by omega)
     grind[ZFM]
   ·rw[ZnO];refine⟨ZnS (by omega),ih () ?_⟩;grind[ZGb,ZFM,Z3Y]
  all_goals grind[Zyz,ZuP,ZnL,Zwn,Zz0,ZEn]
theorem ZUA {o:List Nat} {n i:Nat} (x:Nat) (a:o.length=i) (h:i < n):(o++Z36 (n - i) 0).set i x=(o++[x])++Z36 (n - (i+1)) 0:=by
 have:n - i=(n - (i+1))+1:=by omega
 simp_all[List.replicate_succ]
theorem ZPc (a b:Nat) (hab:b<=a) (ha:(wd a).length<=100000):ZwX (iL (wd a)) (iL (wd b))=some (iL (wd (a - b))):=by
 have hlb:(wd b).length<=(wd a).length:=by
  rcases Nat.lt_or_ge (wd a).length (wd b).length with h |h
  ·have:=ZL5 h;omega
  omega
 refine Zps ?_;unfold ZwX;rw[Zoy,ZnO,ZnN,Z3S,ZLz];refine⟨ZIT (by omega), ?_⟩;generalize hn:(wd a).length=n at ha hlb|-
 rw[show iL (Z36 n 0)=iL ([]++Z36 (n - ([]:List Nat).length) 0) by simp];refine ZnU (Zva ZHz n (by omega) (fun i (s:Nat×List Nat)=>(iL (wd a),iL (wd b),(s.1:Int),(n:Int),i,iL (s.2++Z36 (n - s.2.length) 0))) (fun i s=>s.1<=1/\s.2.length=i/\Dg s.2/\val ((wd a).take i)+Bw ^ i*s.1=val s.2+val ((wd b).take i))
  (Q:=fun y=>∃(o:List Nat),y=iL o/\Dg o/\o.length=n/\val o=a - b) (0,[]) ⟨by simp,rfl,ZJs,by simp[val]⟩ ?_ ?_) ?_
 ·rintro rec i ⟨c,o⟩ hlt ⟨hc,hl,hd,hv⟩ ih;dsimp only at hc hl hd hv ih;have hi:i < (wd a).length:=by omega
  have h1:=(ZCE a).get hi;have h2:=ZJY (ZCE b) i;unfold ZzZ Zwf;dsimp only;rw[Zn1];refine⟨fun _=> ?_,fun h=>by simp_all⟩;rw[ZA9 hi,ZnN,ZnL,ZVI,ZnN,ZnL,ZUw h1 h2 hc,ZnN,ZnL];dsimp only;rw[ZnO,ZnO,Zoy,Z3S,ZIc,hl,ZUA _ hl hlt];refine⟨ZoI ⟨by omega,by grind⟩,ZnS (by omega), ?_⟩;generalize ex:(wd a)[i]=x at h1;generalize ey:(wd b).getD i 0=y at h2;have:=ih ((if x < y+c then 1 else 0),o++[(x+4294967296 - y - c) % 4294967296]) ⟨by grind,by grind,hd.app (ZIA (Z4k _ (by decide))), ?_⟩
  ·simp_all
  ·dsimp only;rw[ZDc,hl,Z4v,ZpD hi,ZEr,ex,ey,Z4m];have e:x+Bw*(if x < y+c then 1 else 0)=(x+4294967296 - y - c) % 4294967296+y+c:=by grind
   grind
 ·rintro rec ⟨c,o⟩ ⟨hc,hl,hd,hv⟩;unfold ZzZ Zwf;dsimp only at hc hl hd hv|-
  rw[Zn1];refine⟨fun h=>by simp only[decide_eq_true_eq]at h;omega,fun _=> ?_⟩;rw[ZnL];rw[Z39 (by omega),Z39 (by omega),Zwn,Zwn]at hv;have:=ZEC hd;rw[hl]at this;have hc0:c=0:=by
   rcases Z4f c with h |h
   ·exact h
   ·have:c=1:=by omega
    rw[this,Nat.mul_one]at hv;omega
  rw[hc0,Z4s]at hv;exact⟨o,by rw[hl,Z4x];simp,hd,hl,by omega⟩
 grind[ZBC,ZIH,ZnL]
theorem ZSd (a d:Nat) (hd0:d≠0) (hd:d < Bw) (ha:(wd a).length<=100000):ZAi (iL (wd a)) (d:Int)=some (iL (wd (a / d)),((a % d:Nat):Int)):=by
 refine Zps ?_;unfold ZAi;rw[Zoy,ZnO,ZnO,ZnN,Z3S,ZLz];refine⟨ZIT (by omega),ZnS (by omega), ?_⟩;generalize hn:(wd a).length=n at ha|-
 rw[show iL (Z36 n 0)=iL (Z36 (n - ([]:List Nat).length) 0++[]) by simp];refine ZnU (ZKo ZHy n (by omega) (fun i (s:Nat×List Nat)=>(iL (wd a),(d:Int),(s.1:Int),i,iL (Z36 (n - s.2.length) 0++s.2))) (fun k s=>s.1 < d/\s.2.length+k=n/\Dg s.2/\val ((wd a).drop k)=val s.2*d+s.1)
  (Q:=fun y=>∃(r:Nat) (o:List Nat),y=((r:Int),iL o)/\Dg o/\o.length=n/\r < d/\a=val o*d+r) (0,[]) ⟨by omega,by simp,ZJs,by grind[val]⟩ ?_ ?_) ?_
 ·rintro rec k ⟨r,o⟩ hk ⟨hr,hl,hdg,hv⟩ ih;dsimp only at hr hl hdg hv ih;have hi:k < (wd a).length:=by omega
  have h1:=(ZCE a).get hi;unfold ZzX Zwd;dsimp only;rw[Zn1];refine⟨fun _=> ?_,fun h=>by simp_all⟩;rw[ZA9 hi,ZnN,ZnL,Z13 hr h1 hd,ZnN,ZnL];dsimp only;generalize ex:(wd a)[k]=x at h1;have hq:(r*4294967296+x) / d < Bw:=(Z4e (by omega)).2 (by
   grind)
  have es:(Z36 (n - o.length) 0++o).set k ((r*4294967296+x) / d)=Z36 (n - (o.length+1)) 0++((r*4294967296+x) / d)::o:=by
   have e:n - o.length=k+1:=by omega
   have e2:n - (o.length+1)=k:=by omega
   simp_all[List.replicate_succ']
  rw[ZnO,ZnO,Zoy,Z3S,ZIc,es];refine⟨ZoI ⟨by omega,by grind⟩,ZnS (by omega), ?_⟩;refine ih ((r*4294967296+x) % d,((r*4294967296+x) / d)::o) ⟨Z4k _ (by omega),by grind,fun y hy=> ?_, ?_⟩
  ·rcases List.mem_cons.1 hy with rfl |hy
   ·omega
   ·exact hdg y hy
  grind[Z3Y,val,Nat.div_add_mod]
 ·rintro rec ⟨r,o⟩ ⟨hr,hl,hdg,hv⟩;unfold ZzX Zwd;dsimp only at hr hl hdg hv|-
  rw[Zn1];refine⟨fun h=>by simp_all,fun _=> ?_⟩;rw[ZnL];rw[List.drop_zero,Zwn]at hv;refine⟨r,o, ?_,hdg,hl,hr,hv⟩;simp_all
 grind[ZBB,ZIH,ZnL,Z4n,Nat.mul_add_div,Z4d,Nat.mul_add_mod,Z4j]
end Go.Proofs
namespace Go.Proofs
open Go Eng
theorem ZIg:∀(l:List Nat) (i x:Nat) (h:i < l.length),val (l.set i x)+Bw ^ i*l[i]=val l+Bw ^ i*x
 | [],i,x,h=>absurd h (by simp)
 |d::l,0,x,h=>by grind[val]
 |d::l,i+1,x,h=>by
  have:=ZIg l i x (by simpa using h);have e:Bw*(val (l.set i x)+Bw ^ i*l[i]'(by simpa using h))=Bw*(val l+Bw ^ i*x):=by rw[this]
  rw[Z4l,Z4l]at e;simp only[List.set_cons_succ,val,Z4v,List.getElem_cons_succ];grind
theorem ZU3 {x y:Nat} (b:x<=4294967295) (a:y<=4294967295):x*y<=18446744065119617025:=Z4o b a
theorem ZJk {x y:Nat} (b:x < Bw) (a:y < Bw):x*y<=18446744065119617025:=ZU3 (by grind) (by grind)
theorem ZYD {c x y e:Nat} (f:c < Bw) (b:x < Bw) (a:y < Bw) (d:e < Bw):IntKind.wrap .u64 ((c:Int)+IntKind.wrap .u64 (IntKind.wrap .u64 (IntKind.wrap .u64 (x:Int)*IntKind.wrap .u64 (y:Int))+IntKind.wrap .u64 (e:Int)))=((c+x*y+e:Nat):Int):=by have:=ZJk b a;simp only[Bw]at f b a d;rw[ZpN (by omega),ZpN (by omega),ZpN (by omega),<-Int.natCast_mul,ZpN (by omega),<-Z3R,ZpN (by omega),<-Z3R,ZpN (by omega)];omega
theorem ZTy {c x y e:Nat} (f:c < Bw) (b:x < Bw) (a:y < Bw) (d:e < Bw):(c+x*y+e) / Bw < Bw:=by
 have:=ZJk b a;grind
theorem ZMk (a b:Nat) (ha:(wd a).length<=100000) (hb:(wd b).length<=100000):Zt6 (iL (wd a)) (iL (wd b))=some (iL (wd (a*b))):=by
 refine Zps ?_;unfold Zt6;rw[Zoy,Zoy,ZnO,ZnO,ZnN,<-Z3R,Z3S,ZLz];refine⟨ZnS (by omega),ZIT (by omega), ?_⟩;generalize hm:(wd a).length=m at ha|-
 generalize hn:(wd b).length=n at hb|-
 refine ZnU (Zva ZHx m (by omega) (fun i (s:List Nat)=>(iL (wd b),iL (wd a),(m:Int),i,iL s)) (fun i s=>s.length=m+n/\Dg s/\val s=val ((wd a).take i)*b/\∀k,i+n<=k->k < m+n->s[k]? =some 0)
  (Q:=fun y=>∃(o:List Nat),y=iL o/\Dg o/\o.length=m+n/\val o=a*b) (Z36 (m+n) 0) ⟨by simp,ZRb _,by grind[ZNV,val],fun k _ h=>by simp_all⟩ ?_ ?_) ?_
 ·rintro rec i s hlt ⟨hl,hd,hv,hz⟩ ih;have hi:i < (wd a).length:=by omega
  have h1:=(ZCE a).get hi;unfold ZzW Zwc;dsimp only;rw[Zn1];refine⟨fun _=> ?_,fun h=>by simp_all⟩;rw[ZA9 hi,ZnN,ZnL,ZnN,Zoy,hn];generalize ex:(wd a)[i]=x at h1;refine ZnU (Zva ZHw n (by omega) (fun j (t:Nat×List Nat)=>(iL (wd b),(i:Int),(x:Int),(t.1:Int),iL (wd a),(m:Int),(i:Int),iL (wd b),(n:Int),j,iL t.2)) (fun j t=>t.1 < Bw/\t.2.length=m+n/\Dg t.2/\val t.2+Bw ^ (i+j)*t.1=val s+Bw ^ i*(x*val ((wd b).take j))/\∀k,i+n<=k->k < m+n->t.2[k]? =some 0)
   (Q:=fun y=>∃(c:Nat) (o:List Nat),y=(iL (wd b),(i:Int),(c:Int),iL (wd a),(m:Int),(i:Int),iL o)/\c < Bw/\o.length=m+n/\Dg o/\val o+Bw ^ (i+n)*c=val s+Bw ^ i*(x*b)/\∀k,i+n<=k->k < m+n->o[k]? =some 0) (0,s) ⟨by omega,hl,hd,by simp[val],hz⟩ ?_ ?_) ?_
  ·rintro rec2 j ⟨c,o⟩ hj ⟨hc,hol,hod,hov,hoz⟩ ih2;dsimp only at hc hol hod hov hoz ih2;have hj2:j < (wd b).length:=by omega
   have h2:=(ZCE b).get hj2;have hij:i+j < o.length:=by omega
   have h3:=hod.get hij;unfold ZzV Zwb;dsimp only;rw[Zn1];refine⟨fun _=> ?_,fun h=>by grind⟩;rw[ZA9 hj2,ZnN,ZnL,ZnO,ZnO,<-Z3R,Z3S,ZJo hij,ZnN,ZnL,ZnO,ZnO,ZnO,ZnO];generalize ey:(wd b)[j]=y at h2;generalize ee:o[i+j]=e at h3;rw[ZYD hc h1 h2 h3,ZBW,show (32:Int)=((32:Nat):Int)from rfl,ZII 32 (by omega),Zoy,ZIc];refine⟨ZnS (by omega),ZoI ⟨by omega,by omega⟩,ZnS (by omega),ZoI ⟨by omega,by omega⟩,by decide,ZnS (by omega), ?_⟩;refine ih2 ((c+x*y+e) / Bw,o.set (i+j) ((c+x*y+e) % Bw)) ⟨ZTy hc h1 h2 h3,by grind,hod.set _ (Z4k _ (by decide)), ?_,fun k hk hk2=> ?_⟩
   ·dsimp only;grind[ZIg,Z4i,Z4l,Nat.add_assoc,Z4v,Z4m,ZpD,Z4u,Z4r]
   grind
  ·rintro rec2 ⟨c,o⟩ ⟨hc,hol,hod,hov,hoz⟩;dsimp only at hc hol hod hov hoz;unfold ZzV Zwb;dsimp only;rw[Zn1];refine⟨fun h=>by have:=of_decide_eq_true h;omega,fun _=> ?_⟩;rw[ZnL];rw[Z39 (by omega),Zwn]at hov;exact⟨c,o,rfl,hc,hol,hod,hov,hoz⟩
  ·rintro y ⟨c,o,rfl,hc,hol,hod,hov,hoz⟩;dsimp only;unfold ZBA;rw[Zoy,hn,ZnO,ZnO,ZnO,<-Z3R,Z3S,ZCD hc,ZIc,Zoy];refine⟨ZnS (by omega),ZoI ⟨by omega,by omega⟩,ZnS (by omega), ?_⟩;have hp:i+n < o.length:=by omega
   have h0:o[i+n]=0:=by have:=hoz (i+n) (Nat.le_refl _) (by omega);rw[Z3W hp]at this;exact Option.some.inj this
   have q1:=ZIg o (i+n) c hp;rw[h0,Z4s,Z4c]at q1;refine ih (o.set (i+n) c) ⟨by simp[hol],hod.set _ hc, ?_,fun k hk hk2=> ?_⟩
   ·rw[q1,hov,hv,ZpD hi,ex,Z4b,Z4m]
   ·rw[List.getElem?_set_ne (by omega)];exact hoz k (by omega) hk2
 all_goals grind[ZzW,Zwc,ZnL,Zwn,ZBz,ZIH]
theorem ZMA {c d s:Nat} (b:s<=31) (a:c < 2 ^ s) (f:d < Bw):c|||(d*2 ^ s % Bw)=c+d*2 ^ s % Bw:=by
 have e:Bw=2 ^ (32 - s)*2 ^ s:=by rw[<-Z4u,show 32 - s+s=32 by omega]
 rw[e,Nat.mul_mod_mul_right];have:=Nat.shiftLeft_add_eq_or_of_lt a (d % 2 ^ (32 - s));grind[Nat.shiftLeft_eq]
theorem ZUy {d s:Nat} (a:s<=32) (b:d < Bw):shlK .u64 (IntKind.wrap .u64 (d:Int)) (s:Int)=((d*2 ^ s:Nat):Int):=by
 have c:2 ^ s<=2 ^ 32:=Nat.pow_le_pow_right (by decide) a;have f:d*2 ^ s<=4294967295*4294967296:=Z4o (by grind) c;unfold shlK;simp only[Bw]at b;rw[ZpN (by omega),Z3S,show IntKind.bits .u64=64 from rfl,Z4h (by omega)];have e:(d:Int)*(2:Int) ^ s=((d*2 ^ s:Nat):Int):=by simp_all
 rw[e,ZpN (by omega)]
theorem ZLX (l:List Nat) (s:Nat) (hs:s<=31) (hl:l.length<=100000) (hd:Dg l):∃o:List Nat,ZsV (iL l) (s:Int)=some (iL o)/\Dg o/\o.length=l.length+1/\val o=val l*2 ^ s:=by
 have:wp (ZsV (iL l) (s:Int)) (fun y=>∃o:List Nat,y=iL o/\Dg o/\o.length=l.length+1/\val o=val l*2 ^ s):=by
  have h2:2 ^ s<=2 ^ 31:=Nat.pow_le_pow_right (by decide) hs;unfold ZsV ZzY;rw[Zoy,ZnO,ZnO,ZnN,show (l.length:Int)+1=((l.length+1:Nat):Int)from rfl,Z3S,ZLz];refine⟨ZnS (by omega),ZIT (by omega), ?_⟩;refine ZnU (Zva ZGC l.length (by omega) (fun i (t:List Nat×Nat)=>((s:Int),iL l,(l.length:Int),i,iL (t.1++t.2::Z36 (l.length - t.1.length) 0))) (fun i t=>t.1.length=i/\t.2 < 2 ^ s/\Dg t.1/\val t.1+Bw ^ i*t.2=val (l.take i)*2 ^ s)
   (Q:=fun y=>∃o:List Nat,y=iL o/\Dg o/\o.length=l.length+1/\val o=val l*2 ^ s) ([],0) ⟨rfl,Z4y s,ZJs,by simp[val]⟩ ?_ ?_) ?_
  ·rintro rec i ⟨o,c⟩ hi ⟨hol,hc,hod,hv⟩ ih;dsimp only at hol hc hod hv ih;have h1:=hd.get hi;have hcB:c < Bw:=by grind
   unfold Zyy ZuO;dsimp only;rw[Zn1];refine⟨fun _=> ?_,fun h=>by simp_all⟩;rw[ZA9 hi,ZnN,ZnL];generalize ex:l[i]=x at h1;have hlen:(o++c::Z36 (l.length - o.length) 0).length=l.length+1:=by grind
   have hg:(iL (o++c::Z36 (l.length - o.length) 0))[i]? =some (c:Int):=by grind[ZJo]
   rw[ZUy (by omega) h1,show (32:Int)=((32:Nat):Int)from rfl,ZII 32 (by omega),ZBW];have hx2:x*2 ^ s / 2 ^ 32 < 2 ^ s:=(Z4e (by decide)).2 (by
    rw[Z4n (2 ^ s)];simp_all[Z4y])
   rw[ZCD (by omega),Z3S,show ((i:Int)+1).toNat=i+1 by omega,hg];rw[ZnO,ZnO,ZnN,ZnL,ZnO,ZnO,ZnO,ZnO,ZnO,ZNb hcB (Z4k _ (by decide)),ZMA hs hc h1];have hsum:c+x*2 ^ s % Bw < Bw:=by
    have e:Bw=2 ^ (32 - s)*2 ^ s:=by rw[<-Z4u,show 32 - s+s=32 by omega]
    have hm:x % 2 ^ (32 - s)+1<=2 ^ (32 - s):=Z4k _ (Z4y _);have:=Z4q (2 ^ s) hm;grind[Nat.mul_mod_mul_right]
   have es:((o++c::Z36 (l.length - o.length) 0).set i (c+x*2 ^ s % Bw)).set (i+1) (x*2 ^ s / 2 ^ 32)=(o++[c+x*2 ^ s % Bw])++(x*2 ^ s / 2 ^ 32)::Z36 (l.length - (o.length+1)) 0:=by rw[Z37 _ _ (by omega),hol,Z4x,List.set_cons_zero,Z37 _ _ (by omega),hol,show i+1 - i=1 by omega,show l.length - i=(l.length - (i+1))+1 by omega,List.replicate_succ];simp
   rw[ZIc,ZIc,es];simp only[Zoy,Z33,hlen];refine⟨by simp,ZoI ⟨by omega,by omega⟩,ZoI ⟨by omega,by omega⟩,ZnS (by omega),by decide,ZoI ⟨by omega,by omega⟩,ZnS (by omega), ?_⟩;have:=ih (o++[c+x*2 ^ s % Bw],x*2 ^ s / 2 ^ 32) ⟨by grind,hx2,hod.app (ZIA hsum), ?_⟩
   ·simp_all
   grind[Z4i,ZDc,ZpD]
  ·rintro rec ⟨o,c⟩ ⟨hol,hc,hod,hv⟩;dsimp only at hol hc hod hv;unfold Zyy ZuO;dsimp only;rw[Zn1];refine⟨fun h=>by simp_all,fun _=> ?_⟩;rw[ZnL];rw[Z38]at hv;refine⟨o++[c], ?_,hod.app (ZIA (by grind)),by grind, ?_⟩
   all_goals simp_all[ZDc]
  grind[ZnL]
 obtain⟨y,hy,o,rfl,h1,h2,h3⟩:=this;grind
end Go.Proofs
namespace Go.Proofs
open Go Eng
theorem ZYK {B P c k i j b a d:Nat} (m:d < P) (f:a < B) (h:((c*B+k)*B+i)*P+j < B*((b*B+a)*P+d)):c<=b:=by
 rcases Nat.lt_or_ge b c with e |g
 ·exfalso;have o:(b+1)*(B*(B*P))<=c*(B*(B*P)):=Z4q _ e;have l:(a+1)*P<=B*P:=Z4q _ f;rw[Z4b,Z4t]at l;have n:B*(a*P+d)<=B*(B*P):=Z4p _ (by omega);grind
 omega
theorem ZYJ {B P c a e g b j i q:Nat} (l:g < P) (f:e < B) (h:q*((b*B+j)*P+i)<=((c*B+a)*B+e)*P+g):q*b<=c*B+a:=by
 rcases Nat.lt_or_ge (c*B+a) (q*b)with d |k
 ·exfalso;have m:(c*B+a+1)*(B*P)<=q*b*(B*P):=Z4q _ d;have n:(e+1)*P<=B*P:=Z4q _ f;grind
 omega
theorem ZYI {B P h e c d f b j a g:Nat} (l:d < P) (k:a+g*f=h*B+e) (i:a*B+c < g*b):((h*B+e)*B+c)*P+d < g*((f*B+b)*P+j):=by
 rw[<-k];have m:(a*B+c+1)*P<=g*b*P:=Z4q _ i;grind
theorem ZYH {B P i h e m b d c a g:Nat} (f:c < P) (l:g < B) (n:1<=b) (k:a+g*b=i*B+h) (j:g*d<=a*B+e):g*((b*B+d)*P+c) < (((i*B+h)*B+e)*P+m)+((b*B+d)*P+c):=by
 rw[<-k];have r:g*d*P<=(a*B+e)*P:=Z4q _ j;have o:g*c<=g*P:=Z4p _ (Nat.le_of_lt f);have p:(g+1)*P<=B*P:=Z4q _ l;have q:1*(B*P)<=b*(B*P):=Z4q _ n;grind
theorem rdw {pre w suf:List Nat} {k:Nat} (h:k < w.length):(iL (pre++(w++suf)))[pre.length+k]? =some (w[k]:Int):=by grind[ZJo]
theorem stw {pre w suf:List Nat} {k:Nat} (x:Nat) (h:k < w.length):(iL (pre++(w++suf))).set (pre.length+k) (x:Int)=iL (pre++(w.set k x++suf)):=by grind[ZIc]
theorem Z1l {l:List Nat} {m:Nat} (h:l.length=m+2):val l=(l[m+1]*Bw+l[m])*Bw ^ m+val (l.take m):=by have e:=ZHF (l:=l) (k:=m) (by omega);have a:=ZHF (l:=l) (k:=m+1) (by omega);have b:=ZpD (l:=l) (k:=m) (by omega);rw[List.drop_eq_nil_of_le (by omega)]at a;simp only[val,Z4s,Z4c]at a;grind
theorem top3 {l:List Nat} {m:Nat} (h:l.length=m+3):val l=((l[m+2]*Bw+l[m+1])*Bw+l[m])*Bw ^ m+val (l.take m):=by have e:val l=(l[m+2]*Bw+l[m+1])*Bw ^ (m+1)+val (l.take (m+1)):=Z1l (by omega);grind[ZpD]
theorem ZVd {h l:Nat} (b:h < 4294967296) (a:l < 4294967296):orK .u64 (shlK .u64 (h:Int) 32) (IntKind.wrap .u64 (l:Int))=((h*4294967296+l:Nat):Int):=by
 grind[ZNm,ZpN]
theorem ZU6 {x y:Nat} (b:x < Bw) (a:y < Bw):IntKind.wrap .u64 ((x:Int)*IntKind.wrap .u64 (y:Int))=((x*y:Nat):Int):=by have:=ZJk b a;rw[ZpN (by grind),<-Int.natCast_mul,ZpN (by omega)]
theorem ZSD {pre w suf d:List Nat} {m:Nat} (hw:w.length=m+3) (hd:d.length=m+2) (hwd:Dg w) (hdd:Dg d) (h1:1<=d[m+1]) (hlt:val w < Bw*val d) (hm:m<=100000) {g r:Nat}
  (hg:g < Bw) (hq:val w / val d<=g) (hr:r+g*d[m+1]=w[m+2]*Bw+w[m+1]) (hr2:r < 2*Bw):
  wp (Zxc big pre.length (m+3) (iL d) ((m+2:Nat):Int) (g:Int) (r:Int) (iL (pre++(w++suf)))) (fun y=>∃g:Nat,y=(pre.length,m+3,iL d,((m+2:Nat):Int),(g:Int),iL (pre++(w++suf)))/\g < Bw/\val w / val d<=g/\g*val d < val w+val d):=by
 have hw0:=hwd.get (i:=m) (by omega);have hd2:=hdd.get (i:=m) (by omega);have hd1:=hdd.get (i:=m+1) (by omega);have hdl:val (d.take m) < Bw ^ m:=by have:=ZEC (hdd.take m);simp_all
 have hwl:val (w.take m) < Bw ^ m:=by have:=ZEC (hwd.take m);simp_all
 have eW:=top3 hw;have eD:=Z1l hd;have rd:(iL (pre++(w++suf)))[pre.length+m]? =some (w[m]:Int):=rdw (by omega);have rdd:idx (iL d) (m:Int)=some (d[m]:Int):=ZA9 (by omega);have rdd1:idx (iL d) ((m+1:Nat):Int)=some (d[m+1]:Int):=ZA9 (by omega);generalize d[m+1]=d1 at*
 generalize d[m]=d2 at*
 generalize w[m+2]=u0 at*
 generalize w[m+1]=u1 at*
 generalize w[m]=u2 at*
 have hDpos:0 < val d:=by grind
 have hdiv:∀g,val w < g*val d->val w / val d < g:=fun g h=>(Z4e hDpos).2 h
 generalize val w / val d=qq at*
 refine Zpm ZI2 (fun(t:Nat×Nat)=>(pre.length,m+3,iL d,((m+2:Nat):Int),(t.1:Int),(t.2:Int),iL (pre++(w++suf)))) (fun t=>t.1 < Bw/\qq<=t.1/\t.2+t.1*d1=u0*Bw+u1/\t.2 < 2*Bw) (fun t=>t.1) (g,r) ⟨hg,hq,hr,hr2⟩ (by grind) ?_;rintro rec ⟨g,r⟩ ⟨hg,hq,hr,hr2⟩ ih;dsimp only at hg hq hr hr2 ih;unfold ZGH ZEh;dsimp only;have e2:((m+2:Nat):Int) - 2=(m:Int):=by omega
 have e1:((m+2:Nat):Int) - 1=((m+1:Nat):Int):=by omega
 have fin:g*d2<=r*Bw+u2->wp (some (pre.length,m+3,iL d,((m+2:Nat):Int),(g:Int),iL (pre++(w++suf)))) (fun y=>∃g:Nat,y=(pre.length,m+3,iL d,((m+2:Nat):Int),(g:Int),iL (pre++(w++suf)))/\g < Bw/\qq<=g/\g*val d < val w+val d):=fun h=>by rw[ZnL];refine⟨g,rfl,hg,hq, ?_⟩;rw[eW,eD];exact ZYH hdl hg h1 hr h
 rw[Zn1];refine⟨fun h=> ?_,fun h=> ?_⟩
 ·have hrB:r < 4294967296:=by grind
  rw[e2,ZnO,rdd,ZnN,ZnL,ZnO,ZnO,ZnO,ZnN,Z3S,rd,ZnL,ZU6 hg hd2,ZVd hrB hw0];refine⟨ZnS (by omega),by decide,ZnS (by omega),ZoI ⟨by omega,by omega⟩, ?_⟩;unfold Zz2;rw[Zn1];refine⟨fun h=> ?_,fun h=> ?_⟩
  ·have hc:r*Bw+u2 < g*d2:=by grind
   have hlt2:val w < g*val d:=by rw[eW,eD];exact ZYI hwl hr hc
   have hqg:qq < g:=hdiv g hlt2;rw[e1,ZnO,rdd1,ZnN,ZnL];refine⟨ZnS (by omega), ?_⟩;have eg:IntKind.wrap .u64 ((g:Int) - 1)=((g - 1:Nat):Int):=by grind[ZpN]
   have er:IntKind.wrap .u64 ((r:Int)+IntKind.wrap .u64 (d1:Int))=((r+d1:Nat):Int):=by simp only[Bw]at hd1;rw[ZpN (by omega),<-Z3R,ZpN (by omega)]
   rw[eg,er];refine ih (g - 1,r+d1) ⟨by omega,by omega, ?_,by grind⟩ (by omega);dsimp only;rw[<-hr,show g*d1=(g - 1+1)*d1 by grind,Z4b,Z4t];omega
  grind
 ·have hrB:4294967296<=r:=by have:=of_decide_eq_false h;omega
  unfold Zz2;rw[cond_false];refine fin ?_;have h1:=ZJk hg hd2;grind
end Go.Proofs
namespace Go.Proofs
open Go Eng
abbrev ZTb (pre suf:List Nat) (W D m:Nat) (y:Int×List Int):Prop:=∃a:List Nat,y=(((W / D:Nat):Int),iL (pre++(a++suf)))/\a.length=m+3/\Dg a/\val a=W % D
theorem ZVH {pre w suf d:List Nat} {m W:Nat} (hw:w.length=m+3) (hd:d.length=m+2) (hwd:Dg w) (hdd:Dg d) (hm:m<=100000) {g:Nat} (hg:g < Bw)
  (hg1:W < g*val d) (hg2:g*val d < W+val d) (hv:val w+g*val d=W+Bw ^ (m+3)):
  wp ((Zz1 big pre.length (m+3) ((m+2:Nat):Int) (g:Int) (0:Int) (iL d) (d.length:Int) (0:Int) (iL (pre++(w++suf)))).bind fun(x0,x1,x2,x3,x4,x5)=>ZCx x0 x1 x2 x3 x4 x5) (ZTb pre suf W (val d) m):=by
 rw[ZnN,hd];have hDpos:0 < val d:=by omega
 refine ZnU (Zva ZI0 (m+2) (by omega) (fun i (t:Nat×List Nat)=>(pre.length,m+3,((m+2:Nat):Int),(g:Int),(t.1:Int),iL d,((m+2:Nat):Int),i,iL (pre++(t.2++suf)))) (fun i t=>t.1<=1/\t.2.length=m+3/\Dg t.2/\val t.2+Bw ^ i*t.1=val w+val (d.take i))
  (Q:=fun y=>∃(a:Nat) (w2:List Nat),y=(pre.length,m+3,((m+2:Nat):Int),(g:Int),(a:Int),iL (pre++(w2++suf)))/\a<=1/\w2.length=m+3/\Dg w2/\val w2+Bw ^ (m+2)*a=val w+val d) (0,w) ⟨by simp,hw,hwd,by simp[val]⟩ ?_ ?_) ?_
 ·rintro rec i ⟨a,o⟩ hi ⟨ha,hol,hod,hv⟩ ih;dsimp only at ha hol hod hv ih;have hi1:i < o.length:=by omega
  have hi2:i < d.length:=by omega
  have h1:=hod.get hi1;have h2:=hdd.get hi2;unfold ZEf ZA1;dsimp only;rw[Zn1];refine⟨fun _=> ?_,fun h=>by grind⟩;rw[ZA9 hi2,ZnN,ZnL,ZnO,ZnN,Z3S,rdw hi1,ZnL,ZZi h1 h2 ha,ZnN,ZnL];dsimp only;rw[ZnO,ZnO,stw _ hi1];refine⟨ZoI ⟨by omega,by omega⟩,ZoI ⟨by omega,by omega⟩,ZnS (by omega), ?_⟩;generalize ex:d[i]=x at h2;generalize ee:o[i]=e at h1;refine ih ((e+x+a) / 4294967296,o.set i ((e+x+a) % 4294967296)) ⟨by grind,by grind,hod.set _ (Z4k _ (by decide)), ?_⟩;grind[ZIg,Z4i,ZpD]
 ·rintro rec ⟨a,o⟩ ⟨ha,hol,hod,hv⟩;dsimp only at ha hol hod hv;unfold ZEf ZA1;dsimp only;rw[Zn1];refine⟨fun h=>by have:=of_decide_eq_true h;omega,fun _=> ?_⟩;rw[ZnL];rw[Z39 (by omega)]at hv;grind
 ·rintro y ⟨a,o,rfl,ha,hol,hod,hov⟩;dsimp only;have hi1:m+2 < o.length:=by omega
  have h1:=hod.get hi1;unfold ZCx;rw[ZnO,ZnN,Z3S,rdw hi1,ZnL,ZnO];generalize ee:o[m+2]=e at h1;have ew:IntKind.wrap .u32 ((e:Int)+(a:Int))=(((e+a) % 4294967296:Nat):Int):=by rw[<-Z3R,ZBW]
  have hgp:1<=g:=by
   rcases Z4f g with h |h
   ·rw[h,Nat.zero_mul]at hg1;omega
   ·exact h
  have eg:IntKind.wrap .u32 (IntKind.wrap .u64 ((g:Int) - 1))=((g - 1:Nat):Int):=by simp only[Bw]at hg;rw[show (g:Int) - 1=((g - 1:Nat):Int) by omega,ZpN (by omega),ZCD (by omega)]
  rw[ew,eg,stw _ hi1,ZnL];refine⟨ZoI ⟨by omega,by omega⟩,ZoI ⟨by omega,by omega⟩, ?_⟩;have q1:=ZIg o (m+2) ((e+a) % 4294967296) hi1;rw[ee]at q1;have q2:Bw ^ (m+2)*((e+a) % 4294967296+Bw*((e+a) / 4294967296))=Bw ^ (m+2)*(e+a):=by rw[Z4i]
  rw[Z4l,Z4l,<-Z4m,<-Z4v]at q2;have hdn:Dg (o.set (m+2) ((e+a) % 4294967296)):=hod.set _ (Z4k _ (by decide));have hlt:=ZEC hdn;rw[Z33,hol]at hlt;have hco:(e+a) / 4294967296<=1:=by simp only[Bw]at h1;omega
  have hpw:Bw ^ (m+2+1)=Bw ^ (m+3):=rfl;rw[hpw]at q2;have egD:g*val d=(g - 1)*val d+val d:=by rw[show g*val d=(g - 1+1)*val d by rw[Nat.sub_add_cancel hgp],Z4b,Z4t]
  have key:val (o.set (m+2) ((e+a) % 4294967296))+(g - 1)*val d=W:=by
   rcases Z4f ((e+a) / 4294967296)with hz |hz
   ·rw[hz,Z4s]at q2;omega
   ·rw[show (e+a) / 4294967296=1 by omega,Nat.mul_one]at q2;omega
  have hl3:(o.set (m+2) ((e+a) % 4294967296)).length=m+3:=by rw[Z33,hol]
  generalize o.set (m+2) ((e+a) % 4294967296)=w3 at*
  have hlt3:val w3 < val d:=by omega
  have eq1:W / val d=g - 1:=by rw[<-key,Nat.add_mul_div_right _ _ hDpos,Z4d hlt3,Nat.zero_add]
  have eq2:W % val d=val w3:=by rw[<-key,Nat.add_mul_mod_self_right,Z4j hlt3]
  exact⟨w3,by rw[eq1],hl3,hdn,eq2.symm⟩
theorem ZUr {pre w suf d:List Nat} {m:Nat} (hw:w.length=m+3) (hd:d.length=m+2) (hwd:Dg w) (hdd:Dg d) (hm:m<=100000) {g:Nat} (hg:g < Bw)
  (hDpos:0 < val d) (hq:val w / val d<=g) (hg2:g*val d < val w+val d):
  wp (ZCy pre.length (m+3) (iL d) ((m+2:Nat):Int) (g:Int) (iL (pre++(w++suf)))) (ZTb pre suf (val w) (val d) m):=by
 unfold ZCy;rw[ZnN,Zoy,hd];refine ZnU (Zva ZI1 (m+2) (by omega) (fun i (t:Nat×Nat×List Nat)=>(pre.length,m+3,iL d,((m+2:Nat):Int),(g:Int),(t.1:Int),(t.2.1:Int),iL d,((m+2:Nat):Int),i,iL (pre++(t.2.2++suf)))) (fun i t=>t.1<=1/\t.2.1 < Bw/\t.2.2.length=m+3/\Dg t.2.2/\val t.2.2+g*val (d.take i)=val w+Bw ^ i*(t.1+t.2.1))
  (Q:=fun y=>∃(b c:Nat) (w2:List Nat),y=(pre.length,m+3,iL d,((m+2:Nat):Int),(g:Int),(b:Int),(c:Int),iL (pre++(w2++suf)))/\b<=1/\c < Bw/\w2.length=m+3/\Dg w2/\val w2+g*val d=val w+Bw ^ (m+2)*(b+c)) (0,0,w) ⟨by simp,by simp,hw,hwd,by simp[val]⟩ ?_ ?_) ?_
 ·rintro rec i ⟨b,c,o⟩ hi ⟨hb,hc,hol,hod,hv⟩ ih;dsimp only at hb hc hol hod hv ih;have hi1:i < o.length:=by omega
  have hi2:i < d.length:=by omega
  have h1:=hod.get hi1;have h2:=hdd.get hi2;unfold ZEg ZA2;dsimp only;rw[Zn1];refine⟨fun _=> ?_,fun h=>by grind⟩;rw[ZA9 hi2,ZnN,ZnL,ZnO,ZnN,Z3S,rdw hi1,ZnL];generalize ex:d[i]=x at h2;generalize ee:o[i]=e at h1;have hbd:=ZJk hg h2;have es:IntKind.wrap .u64 ((c:Int)+((g*x:Nat):Int))=((c+g*x:Nat):Int):=by simp only[Bw]at hc;rw[<-Z3R,ZpN (by omega)]
  rw[ZU6 hg h2,es,ZBW,ZUw h1 (Z4k _ (by decide)) hb,ZnN,ZnL];dsimp only;rw[ZnO,ZnO,ZnO,stw _ hi1,show (32:Int)=((32:Nat):Int)from rfl,ZII 32 (by omega)];refine⟨ZoI ⟨by omega,by omega⟩,ZoI ⟨by omega,by omega⟩,by decide,ZnS (by omega), ?_⟩;have hlo:(c+g*x) % 4294967296 < 4294967296:=Z4k _ (by decide);have hhi:(c+g*x) / 2 ^ 32 < Bw:=by grind
  have hs:(c+g*x) % 4294967296+Bw*((c+g*x) / 2 ^ 32)=c+g*x:=Z4i _ _;generalize (c+g*x) % 4294967296=lo at*
  generalize (c+g*x) / 2 ^ 32=hi' at*
  refine ih ((if e < lo+b then 1 else 0),hi',o.set i ((e+4294967296 - lo - b) % 4294967296)) ⟨by grind,hhi,by grind,hod.set _ (Z4k _ (by decide)), ?_⟩;dsimp only;have q1:=ZIg o i ((e+4294967296 - lo - b) % 4294967296) hi1;rw[ee]at q1;have e1:e+Bw*(if e < lo+b then 1 else 0)=(e+4294967296 - lo - b) % 4294967296+lo+b:=by grind
  grind[ZpD]
 ·rintro rec ⟨b,c,o⟩ ⟨hb,hc,hol,hod,hv⟩;dsimp only at hb hc hol hod hv;unfold ZEg ZA2;dsimp only;rw[Zn1];refine⟨fun h=>by have:=of_decide_eq_true h;omega,fun _=> ?_⟩;rw[ZnL];rw[Z39 (by omega)]at hv;grind
 ·rintro y ⟨b,c,o,rfl,hb,hc,hol,hod,hv⟩;dsimp only;have hi1:m+2 < o.length:=by omega
  have h1:=hod.get hi1;unfold ZFd;rw[ZnO,ZnN,Z3S,rdw hi1,ZnL,ZCD hc];generalize ee:o[m+2]=e at h1;rw[ZUw h1 hc hb,ZnN,ZnL];dsimp only;rw[ZnO,stw _ hi1,ZCD hg];refine⟨ZoI ⟨by omega,by omega⟩,ZoI ⟨by omega,by omega⟩, ?_⟩;have q1:=ZIg o (m+2) ((e+4294967296 - c - b) % 4294967296) hi1;rw[ee]at q1;have e1:e+Bw*(if e < c+b then 1 else 0)=(e+4294967296 - c - b) % 4294967296+c+b:=by simp only[Bw]at h1 hc|-;split<;>omega
  have q2:Bw ^ (m+2)*(e+Bw*(if e < c+b then 1 else 0))=Bw ^ (m+2)*((e+4294967296 - c - b) % 4294967296+c+b):=by rw[e1]
  rw[Z4l,Z4l,Z4l,<-Z4m,<-Z4v]at q2;rw[Z4l]at hv;have hpw:Bw ^ (m+2+1)=Bw ^ (m+3):=rfl;rw[hpw]at q2;have hdn:Dg (o.set (m+2) ((e+4294967296 - c - b) % 4294967296)):=hod.set _ (Z4k _ (by decide));have hlt:=ZEC hdn;rw[Z33,hol]at hlt;have hl3:(o.set (m+2) ((e+4294967296 - c - b) % 4294967296)).length=m+3:=by rw[Z33,hol]
  generalize o.set (m+2) ((e+4294967296 - c - b) % 4294967296)=w3 at*
  generalize (e+4294967296 - c - b) % 4294967296=dd at*
  by_cases hcc:e < c+b
  ·rw[if_pos hcc]at q2|-
   rw[show (((1:Nat):Int) == 0)=false from rfl,cond_false];rw[Zoy d];exact ZVH (pre:=pre) (suf:=suf) hl3 hd hdn hdd hm hg (by omega) hg2 (by omega)
  ·rw[if_neg hcc]at q2|-
   rw[show (((0:Nat):Int) == 0)=true from rfl,cond_true,ZnL];have key:val w3+g*val d=val w:=by omega
   have hlt3:val w3 < val d:=by have h5:(val w / val d)*val d<=g*val d:=Z4q _ hq;have h6:=Nat.div_add_mod (val w) (val d);have h7:=Z4k (val w) hDpos;rw[Z4n]at h6;omega
   have eq1:val w / val d=g:=by rw[<-key,Nat.add_mul_div_right _ _ hDpos,Z4d hlt3,Nat.zero_add]
   have eq2:val w % val d=val w3:=by rw[<-key,Nat.add_mul_mod_self_right,Z4j hlt3]
   exact⟨w3,by rw[eq1],hl3,hdn,eq2.symm⟩
theorem ZSO {pre w suf d:List Nat} {m:Nat} (hw:w.length=m+3) (hd:d.length=m+2) (hwd:Dg w) (hdd:Dg d) (hm:m<=100000) (h1:1<=d[m+1]) (hlt:val w < Bw*val d):
  wp (ZDC (iL (pre++(w++suf))) pre.length (m+3) (iL d)) (ZTb pre suf (val w) (val d) m):=by
 have hd1:=hdd.get (i:=m+1) (by omega);have hd2:=hdd.get (i:=m) (by omega);have h_u0:=hwd.get (i:=m+2) (by omega);have h_u1:=hwd.get (i:=m+1) (by omega);have h_u2:=hwd.get (i:=m) (by omega);have hdl:val (d.take m) < Bw ^ m:=by have:=ZEC (hdd.take m);simp_all
 have hwl:val (w.take m) < Bw ^ m:=by have:=ZEC (hwd.take m);simp_all
 have eW:=top3 hw;have eD:=Z1l hd;have hDpos:0 < val d:=by grind
 have hk1:w[m+2]<=d[m+1]:=ZYK hdl hd2 (by rw[<-eW,<-eD];omega);have hk2:(val w / val d)*d[m+1]<=w[m+2]*Bw+w[m+1]:=ZYJ hwl h_u2 (by rw[<-eW,<-eD];exact Nat.div_mul_le_self _ _);have hqB:val w / val d < Bw:=(Z4e hDpos).2 hlt;have hG:∃g:Nat,(if (4294967295:Int) < (IntKind.wrap .u64 (Int.tdiv (orK .u64 (shlK .u64 (IntKind.wrap .u64 (w[m+2]:Int)) 32) (IntKind.wrap .u64 (w[m+1]:Int))) (IntKind.wrap .u64 (d[m+1]:Int))))then (4294967295:Int)else (IntKind.wrap .u64 (Int.tdiv (orK .u64 (shlK .u64 (IntKind.wrap .u64 (w[m+2]:Int)) 32) (IntKind.wrap .u64 (w[m+1]:Int))) (IntKind.wrap .u64 (d[m+1]:Int)))))=(g:Int)/\g < Bw/\val w / val d<=g/\g*d[m+1]<=w[m+2]*Bw+w[m+1]/\w[m+2]*Bw+w[m+1] < g*d[m+1]+2*Bw:=by
  rw[ZNm h_u0 h_u1,ZpN (by grind)];have e1:Int.tdiv ((w[m+2]*4294967296+w[m+1]:Nat):Int) (d[m+1]:Int)=(((w[m+2]*4294967296+w[m+1]) / d[m+1]:Nat):Int):=by grind
  have hnum:w[m+2]*4294967296+w[m+1] < 18446744073709551616:=by grind
  have hle:(w[m+2]*4294967296+w[m+1]) / d[m+1]<=w[m+2]*4294967296+w[m+1]:=Nat.div_le_self _ _;rw[e1,ZpN (by omega)];have hq2:val w / val d<=(w[m+2]*4294967296+w[m+1]) / d[m+1]:=(Nat.le_div_iff_mul_le (by omega)).2 hk2;have hdm:=Nat.div_add_mod (w[m+2]*4294967296+w[m+1]) d[m+1];have hml:=Z4k (w[m+2]*4294967296+w[m+1]) (show 0 < d[m+1] by omega);rw[Z4n]at hdm;generalize (w[m+2]*4294967296+w[m+1]) / d[m+1]=q0 at*
  generalize (w[m+2]*4294967296+w[m+1]) % d[m+1]=r0 at*
  generalize val w / val d=qq at*
  by_cases hc:4294967295 < q0
  ·refine⟨4294967295,by omega,by simp_all,by grind, ?_, ?_⟩
   ·have:=Z4q d[m+1] (show 4294967295<=q0 by omega);grind
   grind
  ·refine⟨q0,by omega,by grind,hq2, ?_, ?_⟩
   all_goals grind
 have h2:wp (ZFa (iL (pre++(w++suf))) pre.length (m+3) (iL d)) (ZTb pre suf (val w) (val d) m):=by
  obtain⟨g,hg,hgB,hgq,hgd,hgr⟩:=hG;have e1:((m+2:Nat):Int) - 1=((m+1:Nat):Int):=by omega
  unfold ZFa;rw[Zoy,hd,e1,Z3S,Z3S,rdw (by omega),rdw (by omega),ZA9 (by omega)];rw[ZnO,ZnN,ZnL,ZnO,ZnO,ZnO,ZnN,ZnL,ZnO,ZnN,ZnL,ZnO,ZnO,ZnN,ZnL,hg,ZNm h_u0 h_u1,ZU6 hgB hd1,ZnN];have er:IntKind.wrap .u64 (((w[m+2]*4294967296+w[m+1]:Nat):Int) - ((g*d[m+1]:Nat):Int))=((w[m+2]*4294967296+w[m+1] - g*d[m+1]:Nat):Int):=by simp only[Bw]at hgd hgr;rw[<-Int.ofNat_sub hgd,ZpN (by omega)]
  rw[er];refine⟨ZoI ⟨by omega,by omega⟩,by decide,ZnS (by omega),ZoI ⟨by omega,by omega⟩,ZnS (by omega),decide_eq_true (by rw[ZpN (by simp only[Bw]at hd1;omega)];omega),ZnS (by omega), ?_⟩;refine ZnU (ZSD hw hd hwd hdd h1 hlt hm hgB hgq (by simp only[Bw]at hgd|-;omega) (by simp only[Bw]at hgr|-;omega)) ?_;rintro y ⟨g',rfl,h3,h4,h5⟩;grind[ZUr]
 unfold ZDC;rw[ZnN];refine ZnU h2 ?_;grind[ZnO,ZnL,Zoy]
end Go.Proofs
