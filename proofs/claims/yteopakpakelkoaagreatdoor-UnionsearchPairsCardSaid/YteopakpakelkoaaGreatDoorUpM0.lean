/- Plain laws over the specs, part 0. -/
import Derived.Test.YteopakpakelkoaaGreatDoorE4
import Derived.Laws.BitsLemmas
import Derived.Laws.Bits64
import Derived.KernelRfl
import Derived.Test.YteopakpakelkoaaGreatDoorUpS
set_option linter.all false
open Int renaming toNat_natCast->Z0t, natCast_add->ZVx
open List renaming replicate->Z0y, take_of_length_le->Z0z, getElem_mem->Z0w, take_succ_eq_append_getElem->Z0A, length_set->Z0x, getElem?_eq_getElem->Z0u, getElem_cons_drop->Z0v
open Nat renaming mod_lt->Z0E, mul_le_mul_right->Z0I, mul_add->Z0F, div_lt_iff_lt_mul->Z0B, mod_add_div->Z0D, mul_le_mul_left->Z0H, mul_assoc->Z0G, pow_succ->Z0K, mul_zero->Z0J, eq_zero_or_pos->Z0C, two_pow_pos->Z0M, shiftRight_xor_distrib->Z0L
namespace Go.Proofs
open Go Eng
def wp {a:Type} (o:Option a) (Q:a->Prop):Prop:=∃x,o=some x/\Q x
section
variable {α β:Type} {Q:α->Prop}
theorem Zfa {x:α}:wp (some x) Q<->Q x:=⟨fun⟨_,h,q⟩=>by simp_all,fun q=>⟨x,rfl,q⟩⟩
theorem ZSd:wp (none:Option α) Q<->False:=by simp[wp]
theorem ZhS {o:Option β} {f:β->Option α}:wp (o.bind f) Q<->wp o (fun a=>wp (f a) Q):=by
 constructor
 ·rintro⟨x,h,q⟩;obtain⟨a,b,h⟩:=bind_some h;exact⟨a,b,x,h,q⟩
 ·rintro⟨a,rfl,x,h,q⟩;exact⟨x,h,q⟩
theorem Zhr {b:Bool} {o:Option α}:wp (chk b o) Q<->b=true/\wp o Q:=by cases b<;>simp[chk,wp]
theorem Zoy {b:Bool} {x y:Option α}:wp (bif b then x else y) Q<->(b=true->wp x Q)/\(b=false->wp y Q):=by grind
theorem ZU2 {a:List α} {i:Nat}:wp (a[i]?) Q<->∃h:i < a.length,Q a[i]:=by
 constructor
 ·rintro⟨x,h,q⟩;grind
 ·rintro⟨h,q⟩;exact⟨_,Z0u h,q⟩
theorem ZHl {a:List α} {i:Int}:wp (idx a i) Q<->0<=i/\∃h:i.toNat < a.length,Q a[i.toNat]:=by
 grind[idx,ZU2,ZSd]
theorem Zjf {R:α->Prop} {o:Option α} (h:wp o Q) (a:∀x,Q x->R x):wp o R:=by obtain⟨x,h,q⟩:=h;exact⟨x,h,a x q⟩
theorem ZQg {o:Option α} {x:α} (h:o=some x) (q:Q x):wp o Q:=⟨x,h,q⟩
theorem Zo1 {o:Option α} {x:α} (h:wp o (· =x)):o=some x:=by obtain⟨y,h,rfl⟩:=h;omega
theorem ZIW (a:Option α):agree a a=a:=by grind[agree]
end
theorem ZiH {n:Int} (h: -9223372036854775808<=n/\n<=9223372036854775807):inK .i64 n=true:=by
 have a:IntKind.i64.min= -9223372036854775808:=by decide
 have b:IntKind.i64.max=9223372036854775807:=by decide
 exact Zkn.2 (by omega)
theorem ZpN {n b:Nat} (h:n*(b+1)<=140737488355328):ZjC n b=true:=decide_eq_true (Nat.le_trans (Z0H n (by omega)) h)
theorem wrap_i64 {n:Int} (h: -9223372036854775808<=n/\n<=9223372036854775807):IntKind.wrap .i64 n=n:=by grind[IntKind.wrap_i64]
theorem wrap_u8 {n:Int} (h:0<=n/\n<=255):IntKind.wrap .u8 n=n:=by grind[IntKind.wrap_u8]
theorem wrap_u64 {n:Int} (h:0<=n/\n<=18446744073709551615):IntKind.wrap .u64 n=n:=by grind[IntKind.wrap_u64]
theorem Zs1 {n m:Int} (h:0<=n/\n < m):inR n m=true:=decide_eq_true h
theorem Zpj {a b c:Int} (h:0<=a/\a<=b/\b<=c):Zcp a b c=true:=decide_eq_true h
theorem ZIR {a X:Type} {f:Nat->a->Option X} {body:(a->Option X)->a->Option X} (e:∀n s,f (n+1) s=body (f n) s) (I:a->Prop) (m:a->Nat) (Post:X->Prop)
 (h:∀(b:a->Option X) s,I s->(∀c,I c->m c < m s->wp (b c) Post)->wp (body b s) Post):∀n s,I s->m s < n->wp (f n s) Post:=by
 intro n
 induction n with
 |zero=>omega
 |succ n d=>
 grind
theorem ZGQ {m:Nat} (h:m<=36893488147419103231):m < big:=by grind[big_eq]
theorem ZTm (k:Nat) (h:k<=36893488147419103232):∃n,big=n+k:=⟨36893488147419103232 - k,by grind[big_eq]⟩
end Go.Proofs
namespace Go.Proofs
open Go Eng
theorem Zpy {q c g X:Type} {f:Nat->c->Option X} {body:(c->Option X)->c->Option X} (u:∀n s,f (n+1) s=body (f n) s)
  (b:List q) (m:b.length<=1000000000000000) (d:Int->g->c) (P:Nat->g->Prop) {Q:X->Prop} (e:g) (p:P 0 e)
  (j:∀(a:c->Option X) (k:Nat) t (h:k < b.length),P k t->(∀l,P (k+1) l->wp (a (d ((k:Int)+1) l)) Q)->wp (body a (d (k:Int) t)) Q)
  (o:∀(a:c->Option X) t,P b.length t->wp (body a (d (b.length:Int) t)) Q):wp (f big (d 0 e)) Q:=by
 have i:∀(n k:Nat) t,k<=b.length->P k t->b.length - k < n->wp (f n (d (k:Int) t)) Q:=by
  intro n
  induction n with
  |zero=>omega
  |succ n r=>
   grind
 exact i big 0 e (Nat.zero_le _) p (by grind[big_eq])
theorem Zti {b i X:Type} {f:Nat->b->Option X} {body:(b->Option X)->b->Option X} (q:∀n s,f (n+1) s=body (f n) s)
 (m:Nat) (l:m<=1000000000000000) (d:Int->i->b) (P:Nat->i->Prop) {Q:X->Prop} (g:i) (p:P 0 g)
 (c:∀(a:b->Option X) (k:Nat) t (h:k < m),P k t->(∀j,P (k+1) j->wp (a (d ((k:Int)+1) j)) Q)->wp (body a (d (k:Int) t)) Q)
 (o:∀(a:b->Option X) t,P m t->wp (body a (d (m:Int) t)) Q):wp (f big (d 0 g)) Q:=by
 have e:(Z0y m ()).length=m:=List.length_replicate;refine Zpy q (Z0y m ()) (by omega) d P g p (fun a k s h=>c a k s (by omega)) (fun a s h=> ?_);simp_all
theorem ZxI {b c X:Type} {f:Nat->b->Option X} {body:(b->Option X)->b->Option X} (l:∀n s,f (n+1) s=body (f n) s)
  (d:c->b) (P:c->Prop) (m:c->Nat) {Q:X->Prop} (e:c) (k:P e) (o:m e<=1000000000000000)
  (h:∀(a:b->Option X) t,P t->(∀g,P g->m g < m t->wp (a (d g)) Q)->wp (body a (d t)) Q):wp (f big (d e)) Q:=by
 have i:∀(n:Nat) t,P t->m t < n->wp (f n (d t)) Q:=by
  intro n
  induction n with
  |zero=>omega
  |succ n j=>
   grind
 grind[big_eq]
theorem Zin {b:Type} {a:List b} {i:Int} (c:0<=i) (h:i.toNat < a.length):idx a i=some a[i.toNat]:=by grind[idx]
theorem ZoM {b:Type} {a:List b} {k:Nat} (h:k < a.length):idx a (k:Int)=some a[k]:=by grind[Zin]
theorem ZFh {b:Type} {a:List b} {k:Nat} (h:k < a.length):inR (k:Int) (a.length:Int)=true:=Zs1 ⟨by omega,by omega⟩
end Go.Proofs
namespace Go.Proofs
open Go Eng
theorem ZO1 (n:Int) {m:Int} (h:1<=m/\m<=1000000):wp (Zr0 n m) (fun r=>0<=r/\r < m):=by have a: -m < Int.tmod n m/\Int.tmod n m < m:=⟨Int.lt_tmod_of_pos n (by omega),Int.tmod_lt_of_pos n (by omega)⟩;grind[Zr0,Zhr,Zfa,ZiH,Int.tmod_nonneg,Int.tmod_lt_of_pos]
def Zth (d:ZbZ):Prop:=0<=d.at_/\d.at_<=d.l.length/\d.l.length<=500
theorem ZCE {d:ZbZ} (b:Zth d) {n:Int} (a:1<=n/\n<=1000000):wp (Zi5 d n) (fun r=>(0<=r.1/\r.1 < n)/\Zth r.2):=by
 unfold Zi5;grind[Zfa,Zhr,ZhS,ZHl,ZiH,Zjf,ZO1,Zth]
end Go.Proofs
namespace Go.Proofs
open Go Eng
theorem ZHP {s:Str} (h:8<=s.length):wp (ZoO s) (fun _=>True):=by unfold ZoO;simp only[ZhS,ZHl,Zhr,Zfa];grind
def ZSo (a:List (Lf Zz1)):Bool:=a.all fun l=>match l.as (.int .u8)with |some x=>decide (0<=x/\x<=255) |none=>false
theorem ZOD {a:List (Lf Zz1)} (b:ZSo a=true) {n:Nat} (h:n < a.length):wp (tabB (car:=Zz1) (.int .u8) a n) (fun x:Int=>0<=x/\x<=255):=by unfold tabB;rw[Z0u h];have:=List.all_eq_true.1 b _ (Z0w h);dsimp only;split at this;rotate_left;simp at this;rename_i x c;exact⟨x,c,of_decide_eq_true this⟩
theorem ZQN:ZSo ZD5=true:=by kernel_rfl
theorem ZLV:ZSo Zu3=true:=by kernel_rfl
theorem ZPg:ZD5.length=256:=by kernel_rfl
theorem ZKC:Zu3.length=32:=by kernel_rfl
theorem ZQp:((List.range 256).all fun n=>decide (0<=shrK .u8 (n:Int) 4/\shrK .u8 (n:Int) 4<=15))=true:=by kernel_rfl
theorem shr4 {c:Int} (h:0<=c/\c<=255):0<=shrK .u8 c 4/\shrK .u8 c 4<=15:=by
 have:=List.all_eq_true.1 ZQp c.toNat (List.mem_range.2 (by omega));grind
theorem ZSg (s:Str) (i:s.length<=9223372036854775807):wp (ZpK big s) (fun r=>r.length<=s.length):=by
 refine ZIR (f:=fun n s=>ZpK n s) (body:=fun a s=>Zu5 a s) (fun n s=>rfl)
  (fun t=>t.length<=s.length) (fun t=>t.length) _ ?_ big s (Nat.le_refl _) (ZGQ (by omega))
 intro a t g e;unfold Zu5 Zsz;rw[Zoy];refine⟨fun h=> ?_,fun h=> ?_⟩
 ·simp only[decide_eq_true_eq]at h;have j:(t.drop ((8:Int)).toNat).length=t.length - 8:=by simp
  have c:(t.drop ((16:Int)).toNat).length=t.length - 16:=by simp
  have d:(t.drop ((24:Int)).toNat).length=t.length - 24:=by simp
  have b:(t.drop ((32:Int)).toNat).length=t.length - 32:=by simp
  rw[ZhS];refine Zjf (ZHP (by omega)) fun _ _=> ?_
  rw[Zhr,ZhS];refine⟨Zpj (by omega),Zjf (ZHP (by omega)) fun _ _=> ?_⟩;grind[Zhr,ZhS,Zpj,Zjf,ZHP,Zfa]
 grind[Zfa]
theorem ZSh (s:Str) (B:s.length<=9223372036854775807):wp (Zlq big s) (fun _=>True):=by
 refine ZIR (f:=fun n s=>Zlq n s) (body:=fun a s=>Zu6 a s) (fun n s=>rfl)
  (fun t=>t.length<=s.length) (fun t=>t.length) _ ?_ big s (Nat.le_refl _) (ZGQ (by omega))
 intro a t F q;have p:∀k:Nat,0 < k->k<=t.length->wp (a (t.drop k)) (fun _=>True):=fun k E h=>q _ (by grind) (by grind)
 have l:∀m:Str,m.length < t.length->wp (a m) (fun _=>True):=fun m h=>q _ (by omega) h
 unfold Zu6;rw[Zoy];refine⟨fun h=> ?_,fun h=>by grind[Zfa]⟩;simp only[decide_eq_true_eq]at h;rw[ZhS,ZHl];refine⟨by omega,by omega, ?_⟩;rw[Zoy];refine⟨fun y=> ?_,fun y=> ?_⟩
 ·have D:(t.drop ((1:Int)).toNat).length=t.length - 1:=by simp
  have I:((t.drop ((1:Int)).toNat).drop ((8:Int)).toNat).length=t.length - 9:=by simp
  have r:(((t.drop ((1:Int)).toNat).drop ((8:Int)).toNat).drop ((8:Int)).toNat).length=t.length - 17:=by simp
  have z:(((t.drop ((1:Int)).toNat).drop ((8:Int)).toNat).drop ((16:Int)).toNat).length=t.length - 25:=by simp
  generalize h1:t.drop ((1:Int)).toNat=t1 at*
  generalize h9:t1.drop ((8:Int)).toNat=t9 at*
  have w:∀b,16 < t9.length\/b=false->wp (Zqv a t9 b) (fun _=>True):=fun b e=>by unfold Zqv Zqu Zwq;rw[Zoy];refine⟨fun d=> ?_,fun _=>l _ (by omega)⟩;grind[Zhr,ZhS,Zpj,Zjf,ZSg]
  have H:∀b,8 < t1.length\/b=false->wp (Zqw a t1 b) (fun _=>True):=fun b e=>by
   unfold Zqw Zqu;rw[h9,Zoy];refine⟨fun d=> ?_,fun _=>l _ (by omega)⟩;have:8 < t1.length:=e.resolve_right (by simp[d]);rw[Zhr,Zoy];refine⟨Zpj (by omega),fun j=> ?_,fun j=>w _ (.inr rfl)⟩;simp only[decide_eq_true_eq]at j;rw[ZhS];refine Zjf (ZHP (by omega)) fun _ _=> ?_
   grind[Zhr,ZhS,Zpj,ZHP]
  rw[Zhr,Zoy];grind[Zpj,ZhS,Zjf,ZHP]
 ·have A:((t[(0:Int).toNat].toNat:Nat):Int) < 256:=by have:=t[(0:Int).toNat].toNat_lt;omega
  generalize t[(0:Int).toNat].toNat=c at*
  rw[Zhr,ZhS];refine⟨Zs1 (by omega),Zjf (ZOD ZQN (by rw[ZPg];omega)) fun x u=> ?_⟩;have v:=shr4 u;rw[Zhr,Zhr,ZhS];refine⟨by decide,Zs1 (by omega),Zjf (ZOD ZLV (by rw[ZKC];omega)) fun G _=> ?_⟩;rw[ZhS];refine Zjf (ZOD ZLV (by rw[ZKC];omega)) fun C _=> ?_
  have o:∀b,2<=t.length\/b=true->wp (ZpL a t b) (fun _=>True):=fun b e=>by unfold ZpL;rw[Zoy,Zfa,Zhr];refine⟨fun _=>trivial,fun d=> ?_⟩;have:2<=t.length:=e.resolve_right (by simp[d]);exact⟨Zpj (by omega),p 2 (by omega) this⟩
  have i:∀b,3<=t.length\/b=true->wp (Zo7 a t b) (fun _=>True):=fun b e=>by unfold Zo7;rw[Zoy,Zfa,Zhr];refine⟨fun _=>trivial,fun d=> ?_⟩;have:3<=t.length:=e.resolve_right (by simp[d]);exact⟨Zpj (by omega),p 3 (by omega) this⟩
  have g:∀b,4<=t.length\/b=true->wp (ZoI a t b) (fun _=>True):=fun b e=>by unfold ZoI;rw[Zoy,Zfa,Zhr];refine⟨fun _=>trivial,fun d=> ?_⟩;have:4<=t.length:=e.resolve_right (by simp[d]);exact⟨Zpj (by omega),p 4 (by omega) this⟩
  simp only[Zoy,ZhS,ZHl,Zfa,decide_eq_true_eq,decide_eq_false_iff_not];refine⟨fun _=>⟨fun _=>o _ (.inr rfl),fun _=>⟨by omega,by omega,fun _=>o _ (.inr rfl),fun _=>⟨by omega,by omega,o _ (.inl (by omega))⟩⟩⟩,
   fun _=>⟨fun _=>⟨fun _=>i _ (.inr rfl),fun _=>⟨by omega,by omega,fun _=>i _ (.inr rfl),fun _=>⟨by omega,by omega,fun _=>i _ (.inr rfl),fun _=>⟨by omega,by omega,fun _=>i _ (.inr rfl),fun _=>⟨by omega,by omega,i _ (.inl (by omega))⟩⟩⟩⟩⟩,
    fun _=>⟨fun _=>⟨fun _=>g _ (.inr rfl),fun _=>⟨by omega,by omega,fun _=>g _ (.inr rfl),fun _=>⟨by omega,by omega,fun _=>g _ (.inr rfl),fun _=>⟨by omega,by omega,fun _=>g _ (.inr rfl),fun _=>⟨by omega,by omega,fun _=>g _ (.inr rfl),fun _=>⟨by omega,by omega,fun _=>g _ (.inr rfl),fun _=>⟨by omega,by omega,g _ (.inl (by omega))⟩⟩⟩⟩⟩⟩⟩,fun _=>trivial⟩⟩⟩
theorem ZSf (s:Str) (a:s.length<=9223372036854775807):wp (ZpG s) (fun _=>True):=by
 grind[ZpG,Zwp,ZhS,ZSh,Zfa]
def vs (s:Str):Bool:=(ZpG s).getD false
theorem ZL8 (s:Str) (a:s.length<=9223372036854775807):ZpG s=some (vs s):=by obtain⟨b,c,_⟩:=ZSf s a;grind[vs]
end Go.Proofs
namespace Go.Proofs
open Go Eng
theorem ZQ0 {d X:Type} {f:Nat->Int->Option (Out Unit X)} {body:(Int->Option (Out Unit X))->Int->Option (Out Unit X)} (b:List d) (p:d->Bool) (x:X) (g:∀n i,f (n+1) i=body (f n) i) (c:b.length<=1000000000000)
  (j:∀(a:Int->Option (Out Unit X)) (i:Nat) (h:i < b.length) (Q:Out Unit X->Prop),(p b[i]=false->Q (.ret x))->(p b[i]=true->wp (a ((i:Int)+1)) Q)->wp (body a i) Q)
  (o:∀(a:Int->Option (Out Unit X)) (Q:Out Unit X->Prop),Q (.brk ())->wp (body a (b.length:Int)) Q):
  wp (f big 0) (fun r=>r=if b.all p then .brk ()else .ret x):=by
 refine ZIR g (fun i=>∃k:Nat,k<=b.length/\i=(k:Int)/\(b.take k).all p=true) (fun i=>b.length - i.toNat) _ ?_ big 0 ⟨0,Nat.zero_le _,rfl,by simp⟩ (ZGQ (by omega));rintro a i ⟨k,l,rfl,m⟩ e
 by_cases hlt:k < b.length
 ·refine j a k hlt _ (fun h=> ?_) (fun h=>e _ ⟨k+1,by omega,by omega, ?_⟩ (by omega))
  all_goals grind[List.take_succ_eq_append_getElem]
 grind
def ZJX (s:Str):Bool:=decide ((s.length:Int)<=1024)&&vs s
def ZIC (c:G_api_Cell):Bool:=ZJX c.Text&&(!c.Null||c.Text == [])
def Zr9 (t:G_api_Table):Int:=match t.Columns with | []=>0 |c::_=>c.Cells.length
def ZPn (n:Int) (c:G_api_Column):Bool:=ZJX c.Name&&((c.Cells.length:Int) == n&&c.Cells.all ZIC)
def ZuN (t:G_api_Table):Bool:=decide (0<=t.ID)&&(decide (t.ID<=1073741824)&&(ZJX t.Name&&(decide ((t.Columns.length:Int)<=64)&&(decide (Zr9 t<=4096)&&t.Columns.all (ZPn (Zr9 t))))))
def ZSE:List G_api_Column->Int
 | []=>0
 |c::_=>(c.Cells.length:Int)
theorem ZOL:∀(a:List G_api_Column) (h:0 < a.length),ZSE a=(a[0].Cells.length:Int)
 |_::_,_=>rfl
theorem ZQu (t:G_api_Table):Zr9 t=ZSE t.Columns:=by grind[Zr9,ZSE]
def ZIc (t:G_api_Table):Prop:=t.Name.length<=9223372036854775807/\∀c∈t.Columns,c.Name.length<=9223372036854775807/\∀x∈c.Cells,x.Text.length<=9223372036854775807
def ZJb (n:Int) (c:G_api_Column):Bool:=ZJX c.Name&&(decide ((c.Cells.length:Int)<=4096)&&((c.Cells.length:Int) == n&&c.Cells.all ZIC))
end Go.Proofs
namespace Go.Proofs
open Go Eng
theorem ZMv (s:Str):ZDA s=some (ZJX s):=by
 grind[ZDA,ZDK,ZHr,ZJX,ZL8]
theorem ZQm (c:G_api_Cell):ZCH c=some (ZIC c):=by grind[ZCH,ZwY,ZIC,ZMv]
theorem ZQO (l:List G_api_Cell) (c:l.length<=1000000000000):ZyI l=some (l.all ZIC):=by
 refine Zo1 ?_;unfold ZyI ZzR;rw[ZhS];refine Zjf (ZQ0 (f:=fun n i=>ZvS n l (l.length:Int) i) (body:=fun a i=>Zud (fun _ _ i=>a i) l (l.length:Int) i) l ZIC false (fun n i=>rfl) c (fun a i h Q b d=> ?_) (fun a Q b=> ?_)) ?_
 ·grind[Zud,ZhS,ZHl,Zhr,Zfa,ZQm,ZiH]
 all_goals grind[Zud,Zfa]
theorem ZF7 (t:G_api_Table):ZAy t=some (Zr9 t):=by
 unfold ZAy Zr9;cases t.Columns with
 |nil=>rfl
 |cons c l=>
 have:(((c::l).length:Int) == 0)=false:=by grind
 rw[this];rfl
theorem ZSm (c:G_api_Column) (t:G_api_Table) (a:c.Cells.length<=1000000000000):ZDL c t=some (!ZPn (Zr9 t) c):=by
 unfold ZDL Zzf ZPn;grind[ZMv,ZF7,ZQO]
theorem ZQJ (l:List G_api_Column) (t:G_api_Table) (o:l.length<=1000000000000) (e:∀c∈l,c.Cells.length<=1000000000000):Zpt l t=some (!l.all (ZPn (Zr9 t))):=by
 refine Zo1 ?_;unfold Zpt Zq1 Zqr;rw[ZhS,ZhS];refine Zjf (ZIR (f:=fun n i=>Zps n l t (l.length:Int) i) (body:=fun a i=>Zqf (fun _ _ _ i=>a i) l t (l.length:Int) i) (fun n i=>rfl)
  (fun i=>∃k:Nat,k<=l.length/\i=(k:Int)/\(l.take k).all (ZPn (Zr9 t))=true) (fun i=>l.length - i.toNat)
  (fun r=>(r= .brk ()/\l.all (ZPn (Zr9 t))=true)\/∃k:Nat,r= .ret (k:Int)/\l.all (ZPn (Zr9 t))=false) ?_ big 0 ⟨0,Nat.zero_le _,rfl,by simp⟩ (ZGQ (by omega))) ?_
 ·rintro a i ⟨k,j,rfl,m⟩ d;unfold Zqf;rw[Zoy];refine⟨fun h=> ?_,fun h=> ?_⟩
  ·simp only[decide_eq_true_eq]at h;have g:k < l.length:=by omega
   rw[ZhS,ZHl];refine⟨by omega,by omega, ?_⟩;simp only[Int.toNat_natCast];rw[ZSm _ _ (e _ (List.getElem_mem _)),ZhS,Zfa,Zoy,Zfa,Zhr];refine⟨fun b=> .inr ⟨k,rfl, ?_⟩,fun b=>⟨ZiH (by omega),d _ ⟨k+1,by omega,by omega, ?_⟩ (by omega)⟩⟩
   all_goals grind[List.take_succ_eq_append_getElem]
  grind[Zfa]
 grind[Zfa]
theorem ZJn (t:G_api_Table) (b:t.Columns.length<=1000000000000) (a:∀c∈t.Columns,c.Cells.length<=1000000000000):Zue t=some (ZuN t):=by
 unfold Zue ZwS ZuN;rw[ZMv,ZF7,ZQJ _ _ b a];grind
end Go.Proofs
namespace Go.Proofs
open Go Eng
theorem ZO0 (s:Str) (a:s.length<=9223372036854775807):ZtU s=some (ZJX s):=by grind[ZtU,ZuC,Zs9,ZJX,ZL8]
theorem ZQw (c:G_api_Cell) (a:c.Text.length<=9223372036854775807):Ztu c=some (ZIC c):=by grind[Ztu,Zpw,Zs9,ZIC,ZJX,ZL8]
theorem ZIm (t:G_api_Table):ZpM t=some (Zr9 t):=by
 unfold ZpM Zr9;cases t.Columns with
 |nil=>rfl
 |cons c l=>
 have:(((c::l).length:Int) == 0)=false:=by grind
 rw[this];rfl
theorem ZMo (a:List G_api_Column) (b d:Int) (l:List G_api_Cell) (t:G_api_Table) (q:l.length<=1000000000000) (j:∀x∈l,x.Text.length<=9223372036854775807):
  wp (Zrk big a b d l (l.length:Int) 0 t) (fun r=>r=if l.all ZIC then .brk (a,b,d,t)else .ret false):=by
 refine ZIR (f:=fun n i=>Zrk n a b d l (l.length:Int) i t) (body:=fun c i=>ZwI (fun _ _ _ _ _ i _=>c i) a b d l (l.length:Int) i t) (fun n i=>rfl)
  (fun i=>∃k:Nat,k<=l.length/\i=(k:Int)/\(l.take k).all ZIC=true) (fun i=>l.length - i.toNat) _ ?_ big 0 ⟨0,Nat.zero_le _,rfl,by simp⟩ (ZGQ (by omega))
 rintro c i ⟨k,o,rfl,p⟩ g;unfold ZwI;rw[Zoy];refine⟨fun h=> ?_,fun h=> ?_⟩
 ·simp only[decide_eq_true_eq]at h;have m:k < l.length:=by omega
  rw[ZhS,ZHl];refine⟨by omega,by omega, ?_⟩;simp only[Int.toNat_natCast];rw[ZQw _ (j _ (List.getElem_mem _)),ZhS,Zfa,Zoy,Zfa,Zhr];refine⟨fun e=> ?_,fun e=>⟨ZiH (by omega),g _ ⟨k+1,by omega,by omega, ?_⟩ (by omega)⟩⟩
  all_goals grind[List.take_succ_eq_append_getElem]
 grind[Zfa]
theorem ZNQ (t:G_api_Table) (x:ZIc t) (D:t.Columns.length<=1000000000000):
  wp (Zpe big t.Columns (t.Columns.length:Int) 0 t) (fun r=>r=if t.Columns.all (ZJb (Zr9 t))then .brk ()else .ret false):=by
 refine ZIR (f:=fun n s=>Zpe n s.1 s.2.1 s.2.2.1 s.2.2.2) (body:=fun g s=>ZwJ (fun a b c d=>g (a,b,c,d)) s.1 s.2.1 s.2.2.1 s.2.2.2) (fun n s=>rfl)
  (fun s=>∃k:Nat,k<=t.Columns.length/\s=(t.Columns,(t.Columns.length:Int),(k:Int),t)/\(t.Columns.take k).all (ZJb (Zr9 t))=true) (fun s=>t.Columns.length - s.2.2.1.toNat) _ ?_ big (t.Columns,(t.Columns.length:Int),0,t) ⟨0,Nat.zero_le _,rfl,by simp⟩ (ZGQ (by omega))
 rintro g s ⟨k,A,rfl,C⟩ m;dsimp only at m|-
 unfold ZwJ;rw[Zoy];refine⟨fun h=> ?_,fun h=> ?_⟩
 ·simp only[decide_eq_true_eq]at h;have l:k < t.Columns.length:=by omega
  obtain⟨w,i⟩:=x.2 _ (List.getElem_mem l);rw[ZhS,ZHl];refine⟨by omega,by omega, ?_⟩;simp only[Int.toNat_natCast];rw[ZO0 _ w,ZhS,Zfa];have p:ZJb (Zr9 t) t.Columns[k]=false->(Out.ret false:Out Unit Bool)=if t.Columns.all (ZJb (Zr9 t))then .brk ()else .ret false:=fun z=>by grind
  have e:∀q:Bool,(ZJb (Zr9 t) t.Columns[k]=(!q&&t.Columns[k].Cells.all ZIC))->(q=false->t.Columns[k].Cells.length<=4096)->
    wp (Zp9 (fun a b c d=>g (a,b,c,d)) t.Columns (t.Columns.length:Int) (k:Int) q t t.Columns[k]) (fun r=>r=if t.Columns.all (ZJb (Zr9 t))then .brk ()else .ret false):=fun q B v=>by
   unfold Zp9 Zx0;cases q with
   |true=>grind[Zfa]
   |false=>
    rw[cond_false,ZhS];refine Zjf (ZMo _ _ _ _ _ (by grind) i) ?_;rintro r rfl;cases hall:t.Columns[k].Cells.all ZIC with
    |true=>
     simp only[if_true,Zhr];refine⟨ZiH (by omega),m _ ⟨k+1,by omega,by simp, ?_⟩ (by grind)⟩;grind[List.take_succ_eq_append_getElem]
    |false=>
     grind[Zfa]
  rw[Zoy];refine⟨fun j=>e true ?_ (fun h=>nomatch h),fun j=> ?_⟩
  ·grind[ZJb]
  ·simp only[Bool.not_eq_false']at j;rw[Zoy];refine⟨fun o=>e true ?_ (fun h=>nomatch h),fun o=> ?_⟩
   ·grind[ZJb]
   ·simp only[decide_eq_false_iff_not]at o;rw[ZhS,ZHl];refine⟨by omega,by omega,e _ ?_ (fun _=>by omega)⟩;have u:decide ((t.Columns[k].Cells.length:Int)<=4096)=true:=decide_eq_true (by omega);have y:Zr9 t=(t.Columns[(0:Int).toNat].Cells.length:Int):=(ZQu t).trans (ZOL t.Columns (by omega));simp only[ZJb,j,u,y,Bool.true_and,bne,Bool.not_not]
 grind[Zfa]
theorem ZLv (t:G_api_Table) (c:ZIc t) (d:t.Columns.length<=1000000000000):Znd t=some (ZuN t):=by
 have a:t.Columns.all (ZJb (Zr9 t))=(decide (Zr9 t<=4096)&&t.Columns.all (ZPn (Zr9 t))):=by
  grind[Zr9,ZJb,ZPn]
 unfold Znd Zqa ZxZ ZuN;rw[ZO0 _ c.1,<-a];have b:(Zpe big t.Columns (t.Columns.length:Int) 0 t)=some (if t.Columns.all (ZJb (Zr9 t))then .brk ()else .ret false):=Zo1 (ZNQ t c d);grind
end Go.Proofs
namespace Go.Proofs
open Go Eng
theorem ZVG (w a:Nat) (h:a < 2 ^ w):(BitVec.ofInt w (a:Int)).toNat=a:=by grind
theorem ZK4 {a b:Nat} (ha:a < 4294967296) (hb:b < 4294967296):andK .u32 (a:Int) (b:Int)=((a&&& b:Nat):Int):=by grind[andK,IntKind.bits,IntKind.wrap_u32]
theorem ZLD {a b:Nat} (ha:a < 4294967296) (hb:b < 4294967296):orK .u32 (a:Int) (b:Int)=((a|||b:Nat):Int):=by grind[orK,IntKind.bits,IntKind.wrap_u32]
theorem ZL7 {a b:Nat} (ha:a < 4294967296) (hb:b < 4294967296):xorK .u32 (a:Int) (b:Int)=((a ^^^ b:Nat):Int):=by grind[xorK,IntKind.bits,IntKind.wrap_u32]
theorem ZVA {a b:Nat} (ha:a < 18446744073709551616) (hb:b < 18446744073709551616):orK .u64 (a:Int) (b:Int)=((a|||b:Nat):Int):=by grind[orK,IntKind.bits,IntKind.wrap_u64]
theorem ZGl {a:Nat} (k:Nat) (hk:k<=64):shrK .u64 (a:Int) (k:Int)=((a / 2 ^ k:Nat):Int):=by
 grind[shrK,IntKind.bits]
theorem ZH4 {a:Nat} (k:Nat) (hk:k<=32):shrK .u32 (a:Int) (k:Int)=((a / 2 ^ k:Nat):Int):=by
 grind[shrK,IntKind.bits]
theorem Zz7 (a:Nat):IntKind.wrap .u32 (a:Int)=((a % 4294967296:Nat):Int):=by grind[IntKind.wrap_u32]
theorem Zpi {a:Nat} (h:a < 18446744073709551616):IntKind.wrap .u64 (a:Int)=(a:Int):=by grind[IntKind.wrap_u64]
theorem ZAQ {a:Nat} (h:a < 4294967296):IntKind.wrap .u32 (a:Int)=(a:Int):=by grind[IntKind.wrap_u32]
theorem ZWr {a b c:Nat} (ha:a < 4294967296) (hb:b < 4294967296) (hc:c<=1):ZAk (a:Int) (b:Int) (c:Int)=some ((((a+b+c) % 4294967296:Nat):Int),(((a+b+c) / 4294967296:Nat):Int)):=by
 unfold ZAk;have e:IntKind.wrap .u64 ((IntKind.wrap .u64 ((IntKind.wrap .u64 (a:Int))+(IntKind.wrap .u64 (b:Int))))+(IntKind.wrap .u64 (c:Int)))=((a+b+c:Nat):Int):=by rw[Zpi (by omega),Zpi (by omega),Zpi (by omega),<-ZVx,Zpi (by omega),<-ZVx,Zpi (by omega)]
 rw[e,show (32:Int)=((32:Nat):Int)from rfl,ZGl 32 (by omega),Zz7,ZAQ (a:=(a+b+c) / 2 ^ 32) (by omega)];rfl
theorem ZTl {a:Nat} (h:a < 4294967296):(a >>> 31=0/\a < 2147483648)\/(a >>> 31=1/\2147483648<=a):=by omega
theorem ZSr {a b c:Nat} (ha:a < 4294967296) (hb:b < 4294967296) (hc:c<=1):ZxH (a:Int) (b:Int) (c:Int)=some ((((a+4294967296 - b - c) % 4294967296:Nat):Int),((if a < b+c then 1 else 0:Nat):Int)):=by
 unfold ZxH;have hM:(if IntKind.signed .u32 then (-1:Int)else IntKind.max .u32)=((4294967295:Nat):Int):=rfl;have e:IntKind.wrap .u32 ((IntKind.wrap .u32 ((a:Int) - (b:Int))) - (c:Int))=(((a+4294967296 - b - c) % 4294967296:Nat):Int):=by grind[IntKind.wrap_u32]
 have hD:(a+4294967296 - b - c) % 4294967296 < 4294967296:=Z0E _ (by decide);rw[hM,e];generalize hd:(a+4294967296 - b - c) % 4294967296=D at hD|-
 have h1:a ^^^ b < 4294967296:=Nat.xor_lt_two_pow (n:=32) ha hb;have h2:4294967295 ^^^ a < 4294967296:=Nat.xor_lt_two_pow (n:=32) (by decide) ha;have h3:4294967295 ^^^ (a ^^^ b) < 4294967296:=Nat.xor_lt_two_pow (n:=32) (by decide) h1;have h4:(4294967295 ^^^ a)&&& b < 4294967296:=Nat.and_lt_two_pow (n:=32) _ hb;have h5:(4294967295 ^^^ (a ^^^ b))&&& D < 4294967296:=Nat.and_lt_two_pow (n:=32) _ hD;rw[ZL7 (by decide) ha,ZL7 ha hb,ZL7 (by decide) h1,ZK4 h2 hb,ZK4 h3 hD,ZLD h4 h5,show (31:Int)=((31:Nat):Int)from rfl,ZH4 31 (by omega)];rw[<-Nat.shiftRight_eq_div_pow,Nat.shiftRight_or_distrib,Nat.shiftRight_and_distrib,Nat.shiftRight_and_distrib,Z0L,Z0L,Z0L];have hm:(4294967295:Nat) >>> 31=1:=by decide
 rw[hm];have key:(1 ^^^ a >>> 31)&&& b >>> 31|||(1 ^^^ (a >>> 31 ^^^ b >>> 31))&&& D >>> 31=if a < b+c then 1 else 0:=by rcases ZTl ha with ⟨qa,pa⟩ |⟨qa,pa⟩<;>rcases ZTl hb with ⟨qb,pb⟩ |⟨qb,pb⟩<;>rcases ZTl hD with ⟨qd,pd⟩ |⟨qd,pd⟩<;>rw[qa,qb,qd]<;>split<;>first |rfl |(exfalso;omega)
 simp_all
theorem ZLK {h l:Nat} (hh:h < 4294967296) (hl:l < 4294967296):orK .u64 (shlK .u64 (IntKind.wrap .u64 (h:Int)) 32) (IntKind.wrap .u64 (l:Int))=((h*4294967296+l:Nat):Int):=by
 have e1:shlK .u64 (IntKind.wrap .u64 (h:Int)) 32=((h*4294967296:Nat):Int):=by unfold shlK;rw[Zpi (by omega),show min (32:Int).toNat (IntKind.bits .u64)=32 from by decide,IntKind.wrap_u64];omega
 rw[e1,Zpi (by omega),ZVA (by omega) (by omega)];have:=Nat.shiftLeft_add_eq_or_of_lt (i:=32) (b:=l) (by omega) h;grind[Nat.shiftLeft_eq]
theorem ZZb {h l y:Nat} (hy:h < y) (hl:l < 4294967296) (hy2:y < 4294967296):ZCK (h:Int) (l:Int) (y:Int)=some ((((h*4294967296+l) / y:Nat):Int),(((h*4294967296+l) % y:Nat):Int)):=by
 have hle:¬((y:Int)<=(h:Int)):=by omega
 have hq:(h*4294967296+l) / y < 4294967296:=(Nat.div_lt_iff_lt_mul (by omega)).2 (by
  omega)
 have hr:(h*4294967296+l) % y < y:=Nat.mod_lt _ (by omega);have hj:Zw0 (h:Int) (l:Int) (y:Int) false=some ((((h*4294967296+l) / y:Nat):Int),(((h*4294967296+l) % y:Nat):Int)):=by
  unfold Zw0;rw[cond_false,ZLK (by omega) hl,Zpi (by omega)];have hne:decide ((y:Int)≠0)=true:=decide_eq_true (by omega);rw[hne,chk_true,chk_true];have e1:Int.tdiv ((h*4294967296+l:Nat):Int) (y:Int)=(((h*4294967296+l) / y:Nat):Int):=by grind
  have e2:Int.tmod ((h*4294967296+l:Nat):Int) (y:Int)=(((h*4294967296+l) % y:Nat):Int):=by grind
  rw[e1,e2,Zpi (by omega),ZAQ hq,ZAQ (by omega)];rfl
 grind[ZCK]
def ZYb:List Int:=[0,1,2,2,3,3,3,3,4,4,4,4,4,4,4,4]++Z0y 16 5++Z0y 32 6++Z0y 64 7++Z0y 128 8
theorem ZQE:Zuq=fun x n=>(idx (ZYb.map fun n=>UInt8.ofNat n.toNat) (IntKind.wrap .u8 x)).bind fun c=>
 chk (inK .i64 (n+(IntKind.wrap .i64 ((c.toNat:Nat):Int)))) <|
 some (n+(IntKind.wrap .i64 ((c.toNat:Nat):Int))):=by kernel_rfl
theorem ZQF:((List.range 256).all fun v=>match (ZYb.map fun n=>UInt8.ofNat n.toNat)[v]? with |some c=>decide (v < 2 ^ c.toNat/\2 ^ c.toNat<=2*v+(if v=0 then 1 else 0)/\c.toNat<=8) |none=>false)=true:=by kernel_rfl
theorem ZQD {v:Nat} (h:v < 256):∃c:UInt8,(ZYb.map fun n=>UInt8.ofNat n.toNat)[v]? =some c/\v < 2 ^ c.toNat/\(v≠0->2 ^ c.toNat<=2*v)/\c.toNat<=8:=by have:=List.all_eq_true.1 ZQF v (List.mem_range.2 h);split at this;all_goals grind
theorem ZQG {v:Nat} (h:v < 256) (n:Nat) (hn:n<=100):∃k:Nat,Zuq (v:Int) (n:Int)=some (((n+k:Nat):Int))/\v < 2 ^ k/\(v≠0->2 ^ k<=2*v)/\k<=8:=by
 obtain⟨c,hc,h1,h2,h3⟩:=ZQD h;refine⟨c.toNat, ?_,h1,h2,h3⟩;have e:idx (ZYb.map fun n=>UInt8.ofNat n.toNat) (IntKind.wrap .u8 (v:Int))=some c:=by rw[IntKind.wrap_u8,show (v:Int) % 256=(v:Int) by omega];simp_all[idx]
 rw[ZQE];dsimp only;rw[e,Option.bind_some,wrap_i64 (by omega),ZiH (by omega),chk_true];grind
theorem ZVJ {x:Nat} (h0:x≠0) (h:x < 4294967296):∃s:Nat,s<=31/\ZuJ (x:Int)=some (s:Int)/\2147483648<=x*2 ^ s/\x*2 ^ s < 4294967296:=by
 have key:∃k:Nat,ZCJ (x:Int)=some (k:Int)/\x < 2 ^ k/\2 ^ k<=2*x/\k<=32:=by
  unfold ZCJ Zz3;have d16:shrK .u32 (x:Int) 16=((x / 65536:Nat):Int):=ZH4 16 (by omega);have fin:∀(n v:Nat),n<=24->v < 256->v≠0->x / 2 ^ n=v->∃k:Nat,Zuq (v:Int) (n:Int)=some (k:Int)/\x < 2 ^ k/\2 ^ k<=2*x/\k<=32:=fun n v hn hv hv0 hx=>by
   obtain⟨k,q1,q2,q3,q4⟩:=ZQG hv n (by omega);refine⟨n+k,q1, ?_, ?_,by omega⟩
   ·grind[Nat.div_lt_iff_lt_mul]
   ·rw[Nat.pow_add];have h1:2 ^ n*v<=x:=by rw[<-hx];exact Nat.mul_div_le x (2 ^ n)
    have h2:2 ^ n*2 ^ k<=2 ^ n*(2*v):=Nat.mul_le_mul_left _ (q3 hv0);grind
  by_cases c1:65536<=x
  ·rw[decide_eq_true (by omega:(x:Int)>=65536),cond_true,d16];show ∃k:Nat,(bif decide (((x / 65536:Nat):Int)>=256)then _ else _)=_/\_
   by_cases c2:256<=x / 65536
   ·rw[decide_eq_true (by omega:((x / 65536:Nat):Int)>=256),cond_true];have d8:shrK .u32 ((x / 65536:Nat):Int) 8=((x / 65536 / 256:Nat):Int):=ZH4 8 (by omega);rw[d8];exact fin 24 (x / 65536 / 256) (by omega) (by omega) (by omega) (by omega)
   ·rw[decide_eq_false (by omega:¬((x / 65536:Nat):Int)>=256),cond_false];exact fin 16 (x / 65536) (by omega) (by omega) (by omega) (by omega)
  ·rw[decide_eq_false (by omega:¬(x:Int)>=65536),cond_false]
   by_cases c2:256<=x
   ·rw[decide_eq_true (by omega:(x:Int)>=256),cond_true];have d8:shrK .u32 (x:Int) 8=((x / 256:Nat):Int):=ZH4 8 (by omega);rw[d8];exact fin 8 (x / 256) (by omega) (by omega) (by omega) (by omega)
   ·rw[decide_eq_false (by omega:¬(x:Int)>=256),cond_false];exact fin 0 x (by omega) (by omega) h0 (by omega)
 obtain⟨k,hk,h1,h2,h3⟩:=key;have hk1:1<=k:=by
  rcases Nat.eq_zero_or_pos k with rfl |hp
  ·simp at h1;omega
  ·exact hp
 refine⟨32 - k,by omega, ?_, ?_, ?_⟩
 ·unfold ZuJ;rw[hk,Option.bind_some,ZiH (by omega),chk_true,show (32:Int) - (k:Int)=((32 - k:Nat):Int) by omega]
 ·have e:2 ^ k*2 ^ (32 - k)=4294967296:=by rw[<-Nat.pow_add,show k+(32 - k)=32 by omega]
  have:2 ^ k*2 ^ (32 - k)<=2*x*2 ^ (32 - k):=Nat.mul_le_mul_right _ h2;rw[Nat.mul_assoc]at this;omega
 ·have e:2 ^ k*2 ^ (32 - k)=4294967296:=by rw[<-Nat.pow_add,show k+(32 - k)=32 by omega]
  have:x*2 ^ (32 - k) < 2 ^ k*2 ^ (32 - k):=Nat.mul_lt_mul_of_pos_right h1 (Nat.two_pow_pos _);omega
end Go.Proofs
namespace Go.Proofs
open Go Eng
def iL (l:List Nat):List Int:=l.map fun(n:Nat)=>(n:Int)
theorem ZoN (l:List Nat):(iL l).length=l.length:=by grind[iL]
theorem ZJW (a b:List Nat):iL (a++b)=iL a++iL b:=by grind[iL]
theorem ZVS:iL []=[]:=rfl
theorem ZHD {l:List Nat} {i:Nat} (h:i < l.length):(iL l)[i]? =some (l[i]:Int):=by grind[iL]
theorem Zzt {l:List Nat} {i:Nat} (h:i < l.length):idx (iL l) (i:Int)=some (l[i]:Int):=by grind[idx,ZHD]
theorem ZGc (l:List Nat) (i x:Nat):(iL l).set i (x:Int)=iL (l.set i x):=by grind[iL,List.map_set]
theorem ZMt (l:List Nat) (i:Nat):(iL l).take i=iL (l.take i):=by grind[iL,List.map_take]
theorem ZJV (n:Nat):Z0y n (0:Int)=iL (Z0y n 0):=by grind[iL,List.map_replicate]
abbrev Bw:Nat:=4294967296
def val:List Nat->Nat
 | []=>0
 |d::r=>d+Bw*val r
def Dg (l:List Nat):Prop:=∀d∈l,d < Bw
theorem Dg.app {a b:List Nat} (c:Dg a) (e:Dg b):Dg (a++b):=fun d f=>(List.mem_append.1 f).elim (c d) (e d)
theorem ZHG:Dg []:=fun _ h=>by grind
theorem ZGM {x:Nat} (h:x < Bw):Dg [x]:=fun d a=>by simp_all
theorem ZPj (n:Nat):Dg (Z0y n 0):=fun d a=>by simp_all
theorem Dg.take {a:List Nat} (h:Dg a) (k:Nat):Dg (a.take k):=fun d b=>h d (List.mem_of_mem_take b)
theorem Dg.drop {a:List Nat} (h:Dg a) (k:Nat):Dg (a.drop k):=fun d b=>h d (List.mem_of_mem_drop b)
theorem Dg.set {a:List Nat} (h:Dg a) (i:Nat) {x:Nat} (e:x < Bw):Dg (a.set i x):=fun d c=>by
 rcases List.mem_or_eq_of_mem_set c with b |b
 ·exact h d b
 omega
theorem Dg.get {a:List Nat} (h:Dg a) {i:Nat} (b:i < a.length):a[i] < Bw:=h _ (Z0w b)
theorem ZGk:∀a b:List Nat,val (a++b)=val a+Bw ^ a.length*val b
 | [],b=>by simp[val]
 |d::a,b=>by simp only[List.cons_append,val,ZGk a b,List.length_cons,Z0K,Z0F];grind
theorem ZBD (a:List Nat) (x:Nat):val (a++[x])=val a+Bw ^ a.length*x:=by grind[ZGk,val]
theorem ZCS:∀{l:List Nat},Dg l->val l < Bw ^ l.length
 | [],_=>by simp[val]
 |d::r,h=>by
  have b:=h d (by simp);have a:=ZCS (l:=r) fun x c=>h x (by grind)
  grind[val]
theorem ZMb (n:Nat):val (Z0y n 0)=0:=by
 induction n with
 |zero=>rfl
 |succ n a=>grind[val]
theorem Zpk {l:List Nat} {k:Nat} (h:k < l.length):val (l.take (k+1))=val (l.take k)+Bw ^ k*l[k]:=by grind[Z0A,ZBD]
def wd (n:Nat):List Nat:=if h:n=0 then []else n % Bw::wd (n / Bw)
termination_by n
decreasing_by exact Nat.div_lt_self (Nat.pos_of_ne_zero h) (by decide)
theorem Zz8:wd 0=[]:=by grind[wd]
theorem ZIi {n:Nat} (h:n≠0):wd n=n % Bw::wd (n / Bw):=by grind[wd]
theorem ZBn (n:Nat):Dg (wd n):=by
 induction n using Nat.strongRecOn with
 |ind n b=>
 by_cases h:n=0
 ·grind[Zz8,ZHG]
 ·rw[ZIi h];intro d a;rcases List.mem_cons.1 a with rfl |a
  ·grind
  ·exact b (n / Bw) (Nat.div_lt_self (Nat.pos_of_ne_zero h) (by decide)) d a
theorem ZxJ (n:Nat):val (wd n)=n:=by
 induction n using Nat.strongRecOn with
 |ind n a=>
 grind[Zz8,ZIi,val]
theorem ZEz {n k:Nat} (h:n < Bw ^ k):(wd n).length<=k:=by
 induction k generalizing n with
 |zero=>
 grind[Zz8]
 |succ k a=>
 grind[ZIi]
theorem Zu4 {n:Nat} (h:n≠0):0 < (wd n).length:=by grind[ZIi]
theorem ZU4 {n:Nat}:wd n=[]<->n=0:=⟨fun h=>by have:=ZxJ n;rw[h]at this;exact this.symm,fun h=>by rw[h,Zz8]⟩
theorem ZC8 (n:Nat):n < Bw ^ (wd n).length:=by grind[ZCS,ZBn,ZxJ]
def ZLq (l:List Nat):List Nat:=(l.reverse.dropWhile (· == 0)).reverse
theorem ZKi (l:List Nat) (x:Nat):ZLq (l++[x])=if x=0 then ZLq l else l++[x]:=by
 grind[ZLq,List.dropWhile_cons]
theorem ZM5:∀{l:List Nat} {x:Nat},Dg (l++[x])->x≠0->wd (val (l++[x]))=l++[x]
 | [],x,h,hx=>by have a:x < Bw:=h x (by simp);grind[val,ZIi,Zz8]
 |d::l,x,h,hx=>by
  have a:d < Bw:=h d (by simp);have f:=ZM5 (l:=l) (x:=x) (fun y c=>h y (by simp_all)) hx;have b:val (l++[x])≠0:=fun e=>by simp_all[Zz8]
  simp only[List.cons_append,val];grind[ZIi]
theorem ZM8:∀(n:Nat) {l:List Nat},l.length=n->Dg l->ZLq l=wd (val l)
 |0,l,hl,_=>by simp_all[ZLq,val,Zz8]
 |n+1,l,hl,h=>by
  rcases List.eq_nil_or_concat l with rfl |⟨v,x,rfl⟩
  ·simp_all
  ·rw[List.concat_eq_append]at hl h|-
   rw[ZKi];split
   ·rename_i a;subst a;rw[ZM8 n (by simp_all) (fun d b=>h d (by grind)),ZBD,Nat.mul_zero,Nat.add_zero]
   grind[ZM5]
theorem ZHm {l:List Nat} (h:Dg l) (f:l.length<=1000000):Zpq (iL l)=some (iL (wd (val l))):=by
 rw[<-ZM8 _ rfl h];refine Zo1 ?_;unfold Zpq ZCr;rw[ZhS];refine Zjf (ZxI ZGz (fun(w:List Nat)=>iL w) (fun w=>ZLq w=ZLq l/\w.length<=1000000) List.length (Q:=fun x=>x=iL (ZLq l)) l ⟨rfl,f⟩ (by omega) ?_) (fun x e=>by grind[Zfa]);rintro d w ⟨a,b⟩ i;unfold ZDS Zxv Zzj;rcases List.eq_nil_or_concat w with rfl |⟨v,x,rfl⟩
 ·show wp (some (iL [])) _;rw[Zfa,<-a];rfl
 ·rw[List.concat_eq_append]at a b|-
  rw[ZKi]at a;have c:(iL (v++[x])).length=v.length+1:=by grind[ZoN]
  rw[Zoy];refine⟨fun _=> ?_,fun h=>by simp_all⟩;have g:((iL (v++[x])).length:Int) - 1=(v.length:Int):=by omega
  have e:(v++[x])[v.length]'(by simp)=x:=by simp
  grind[Zhr,Zzt,Zfa,ZiH,Zpj,ZMt,Int.toNat_natCast]
theorem ZTr (l:List Nat) (i:Nat):Zvg (iL l) (i:Int)=some ((l.getD i 0:Nat):Int):=by
 grind[Zvg,ZoN,Zzt]
theorem ZH7 {l:List Nat} (h:Dg l) (i:Nat):l.getD i 0 < Bw:=by
 rw[List.getD_eq_getElem?_getD]
 by_cases hi:i < l.length
 ·rw[Z0u hi];exact h.get hi
 simp_all
theorem ZFr (l:List Nat) (k:Nat):val (l.take (k+1))=val (l.take k)+Bw ^ k*l.getD k 0:=by
 grind[Zpk,Z0z]
theorem ZOU (a b:Nat) (ha:(wd a).length<=100000) (hb:(wd b).length<=100000):Zv8 (iL (wd a)) (iL (wd b))=some (iL (wd (a+b))):=by
 obtain⟨m,hm,hma,hmb,hm2⟩:∃m:Nat,(if ((iL (wd b)).length:Int) > ((iL (wd a)).length:Int)then ((iL (wd b)).length:Int)else ((iL (wd a)).length:Int))=(m:Int)/\(wd a).length<=m/\(wd b).length<=m/\m<=100000:=by
  grind[ZoN]
 refine Zo1 ?_;unfold Zv8;rw[hm,Zhr,Zhr,ZhS];refine⟨ZiH (by omega),decide_eq_true (by grind[ZD]), ?_⟩;refine Zjf (Zti ZFT m (by omega) (fun i (s:Nat×List Nat)=>(iL (wd a),iL (wd b),(s.1:Int),(m:Int),i,iL s.2)) (fun i s=>s.1<=1/\s.2.length=i/\Dg s.2/\val s.2+Bw ^ i*s.1=val ((wd a).take i)+val ((wd b).take i))
  (Q:=fun y=>∃(c:Nat) (o:List Nat),y=((c:Int),iL o)/\c<=1/\Dg o/\o.length=m/\val o+Bw ^ m*c=a+b) (0,[]) ⟨by simp,rfl,ZHG,by simp[val]⟩ ?_ ?_) ?_
 ·rintro rec i ⟨c,o⟩ hlt ⟨hc,hl,hd,hv⟩ ih;dsimp only at hc hl hd hv ih;have h1:=ZH7 (ZBn a) i;have h2:=ZH7 (ZBn b) i;unfold Zy6 ZuK;dsimp only;rw[Zoy];refine⟨fun _=> ?_,fun h=>by simp_all⟩;rw[ZTr,ZhS,Zfa,ZTr,ZhS,Zfa,ZWr h1 h2 hc,ZhS,Zfa];dsimp only;rw[Zhr,Zhr,ZoN];refine⟨ZpN (by grind),ZiH (by omega), ?_⟩;generalize ex:(wd a).getD i 0=x at h1;generalize ey:(wd b).getD i 0=y at h2;have:=ih ((x+y+c) / Bw,o++[(x+y+c) % Bw]) ⟨?_,by grind,hd.app (ZGM (Nat.mod_lt _ (by decide))), ?_⟩
  ·rw[ZJW]at this;exact this
  all_goals grind[ZBD,ZFr,Nat.mod_add_div]
 ·grind[Zy6,ZuK,Zfa,List.take_of_length_le,ZxJ]
 ·rintro y ⟨c,o,rfl,hc,hd,hl,hv⟩;dsimp only;unfold ZAl;rw[Zhr,ZoN];refine⟨ZpN (by simp only[List.length_singleton];omega), ?_⟩;have e:iL o++[(c:Int)]=iL (o++[c]):=by rw[ZJW];rfl
  rw[e,ZHm (hd.app (ZGM (by unfold Bw;omega))) (by simp;omega),ZhS,Zfa,Zfa,ZBD,hl,hv]
end Go.Proofs
namespace Go.Proofs
open Go Eng
theorem ZIA {b d X:Type} {f:Nat->b->Option X} {body:(b->Option X)->b->Option X} (l:∀n s,f (n+1) s=body (f n) s)
  (m:Nat) (v:m<=1000000000000000) (c:Int->d->b) (P:Nat->d->Prop) {Q:X->Prop} (e:d) (r:P m e)
  (g:∀(a:b->Option X) k t,k < m->P (k+1) t->(∀h,P k h->wp (a (c ((k:Int) - 1) h)) Q)->wp (body a (c (k:Int) t)) Q)
  (i:∀(a:b->Option X) t,P 0 t->wp (body a (c (-1) t)) Q):wp (f big (c ((m:Int) - 1) e)) Q:=by
 have j:∀(n k:Nat) t,k<=m->P k t->k < n->wp (f n (c ((k:Int) - 1) t)) Q:=by
  intro n
  induction n with
  |zero=>omega
  |succ n p=>
   intro k t o q u;rw[l];cases k with
   |zero=>simp_all
   |succ k=>
    grind
 grind[ZGQ]
theorem ZG3 {n:Nat} (h:n<=1000000):mkOk (n:Int) (n:Int) 4=true:=by grind[mkOk,ZD]
def ZKs (a b:Nat):Int:=if a < b then -1 else if b < a then 1 else 0
theorem ZLP (a b:Nat):ZCN (a:Int) (b:Int)=some (ZKs a b):=by
 grind[ZCN,ZDY,ZKs]
theorem ZTh (a b:Nat):ZC2 (a:Int) (b:Int)=some (ZKs a b):=ZLP a b
theorem ZF2 {a b:Nat} (h:a < b):ZKs a b= -1:=by grind[ZKs]
theorem ZFg {a b:Nat} (h:b < a):ZKs a b=1:=by grind[ZKs]
theorem ZDj (a:Nat):ZKs a a=0:=by grind[ZKs]
theorem ZLn {n k:Nat} (h:k < (wd n).length):Bw ^ k<=n:=by
 grind[Nat.lt_or_ge,ZEz]
theorem ZNs {a b:Nat} (h:(wd a).length < (wd b).length):a < b:=Nat.lt_of_lt_of_le (ZC8 a) (ZLn h)
theorem ZFM {l:List Nat} {k:Nat} (h:k < l.length):val l=val (l.take k)+Bw ^ k*(l[k]+Bw*val (l.drop (k+1))):=by
 grind[Z0v,List.take_append_drop,val,ZGk]
theorem ZKG {p q x y A B k:Nat} (a:p < Bw ^ k) (h:x < y):p+Bw ^ k*x < q+Bw ^ k*y:=by have:Bw ^ k*(x+1)<=Bw ^ k*y:=Z0H _ h;grind
theorem ZIT (a b:Nat) (ha:(wd a).length<=100000) (hb:(wd b).length<=100000):Zqg (iL (wd a)) (iL (wd b))=some (ZKs a b):=by
 refine Zo1 ?_;unfold Zqg;rw[ZoN,ZoN,ZLP,ZhS,Zfa,Zoy];refine⟨fun h=> ?_,fun h=> ?_⟩
 ·grind[Zfa,ZF2,ZNs,ZDj,ZFg]
 ·have hl:(wd a).length=(wd b).length:=by
   grind[ZF2,ZFg]
  rw[Zhr,ZhS];refine⟨ZiH (by omega), ?_⟩;refine Zjf (ZIA ZEW (wd a).length (by omega) (fun i (s:Unit)=>(iL (wd a),iL (wd b),i)) (fun k _=>(wd a).drop k=(wd b).drop k)
   (Q:=fun r=>r= .ret (ZKs a b)/\ZKs a b≠0\/r= .brk ()/\a=b) () (by simp_all) ?_ ?_) ?_
  ·rintro rec k ⟨⟩ hk hP ih;have hk2:k < (wd b).length:=by omega
   unfold ZwV ZsZ;dsimp only;rw[Zoy];refine⟨fun _=> ?_,fun h=>by simp_all⟩;rw[Zzt hk,ZhS,Zfa,Zzt hk2,ZhS,Zfa,ZTh,ZhS,Zfa];have ha:=ZFM hk;have hb:=ZFM hk2;rw[ZxJ]at ha hb;have la:val ((wd a).take k) < Bw ^ k:=by have:=ZCS ((ZBn a).take k);grind
   have lb:val ((wd b).take k) < Bw ^ k:=by have:=ZCS ((ZBn b).take k);grind
   rw[Zoy];refine⟨fun hc=> ?_,fun hc=> ?_⟩
   ·rw[Zfa];rcases Nat.lt_trichotomy (wd a)[k] (wd b)[k]with h1 |h1 |h1
    ·rw[ZF2 h1];have:a < b:=by rw[ha,hb,hP];exact ZKG (A:=0) (B:=0) la (by omega)
     grind[ZF2]
    ·grind[ZDj]
    ·rw[ZFg h1];have:b < a:=by rw[ha,hb,hP];exact ZKG (A:=0) (B:=0) lb (by omega)
     grind[ZFg]
   ·rw[Zhr];refine⟨ZiH (by omega),ih () ?_⟩;grind[ZF2,ZFg,List.getElem_cons_drop]
  all_goals grind[ZwV,ZsZ,Zfa,ZxJ,Zyn,ZDj]
theorem ZSx {o:List Nat} {n i:Nat} (x:Nat) (a:o.length=i) (h:i < n):(o++Z0y (n - i) 0).set i x=(o++[x])++Z0y (n - (i+1)) 0:=by
 have:n - i=(n - (i+1))+1:=by omega
 simp_all[List.replicate_succ]
theorem ZNq (a b:Nat) (hab:b<=a) (ha:(wd a).length<=100000):Zu2 (iL (wd a)) (iL (wd b))=some (iL (wd (a - b))):=by
 have hlb:(wd b).length<=(wd a).length:=by
  rcases Nat.lt_or_ge (wd a).length (wd b).length with h |h
  ·have:=ZNs h;omega
  omega
 refine Zo1 ?_;unfold Zu2;rw[ZoN,Zhr,ZhS,Int.toNat_natCast,ZJV];refine⟨ZG3 (by omega), ?_⟩;generalize hn:(wd a).length=n at ha hlb|-
 rw[show iL (List.replicate n 0)=iL ([]++List.replicate (n - ([]:List Nat).length) 0) by simp];refine Zjf (Zti ZFK n (by omega) (fun i (s:Nat×List Nat)=>(iL (wd a),iL (wd b),(s.1:Int),(n:Int),i,iL (s.2++List.replicate (n - s.2.length) 0))) (fun i s=>s.1<=1/\s.2.length=i/\Dg s.2/\val ((wd a).take i)+Bw ^ i*s.1=val s.2+val ((wd b).take i))
  (Q:=fun y=>∃(o:List Nat),y=iL o/\Dg o/\o.length=n/\val o=a - b) (0,[]) ⟨by simp,rfl,ZHG,by simp[val]⟩ ?_ ?_) ?_
 ·rintro rec i ⟨c,o⟩ hlt ⟨hc,hl,hd,hv⟩ ih;dsimp only at hc hl hd hv ih;have hi:i < (wd a).length:=by omega
  have h1:=(ZBn a).get hi;have h2:=ZH7 (ZBn b) i;unfold Zym Zum;dsimp only;rw[Zoy];refine⟨fun _=> ?_,fun h=>by simp_all⟩;rw[Zzt hi,ZhS,Zfa,ZTr,ZhS,Zfa,ZSr h1 h2 hc,ZhS,Zfa];dsimp only;rw[Zhr,Zhr,ZoN,Int.toNat_natCast,ZGc,hl,ZSx _ hl hlt];refine⟨Zs1 ⟨by omega,by grind⟩,ZiH (by omega), ?_⟩;generalize ex:(wd a)[i]=x at h1;generalize ey:(wd b).getD i 0=y at h2;have:=ih ((if x < y+c then 1 else 0),o++[(x+4294967296 - y - c) % 4294967296]) ⟨by grind,by grind,hd.app (ZGM (Nat.mod_lt _ (by decide))), ?_⟩
  ·simp_all
  ·dsimp only;rw[ZBD,hl,Nat.pow_succ,Zpk hi,ZFr,ex,ey,Nat.mul_assoc];have e:x+Bw*(if x < y+c then 1 else 0)=(x+4294967296 - y - c) % 4294967296+y+c:=by simp only[Bw]at h1 h2|-;split<;>omega
   grind
 ·rintro rec ⟨c,o⟩ ⟨hc,hl,hd,hv⟩;unfold Zym Zum;dsimp only at hc hl hd hv|-
  rw[Zoy];refine⟨fun h=>by simp only[decide_eq_true_eq]at h;omega,fun _=> ?_⟩;rw[Zfa];rw[List.take_of_length_le (by omega),List.take_of_length_le (by omega),ZxJ,ZxJ]at hv;have:=ZCS hd;rw[hl]at this;have hc0:c=0:=by
   rcases Nat.eq_zero_or_pos c with h |h
   ·exact h
   ·have:c=1:=by omega
    rw[this,Nat.mul_one]at hv;omega
  rw[hc0,Nat.mul_zero]at hv;exact⟨o,by rw[hl,Nat.sub_self];simp,hd,hl,by omega⟩
 grind[ZzW,ZHm,Zfa]
theorem ZQq (a d:Nat) (hd0:d≠0) (hd:d < Bw) (ha:(wd a).length<=100000):ZyK (iL (wd a)) (d:Int)=some (iL (wd (a / d)),((a % d:Nat):Int)):=by
 refine Zo1 ?_;unfold ZyK;rw[ZoN,Zhr,Zhr,ZhS,Int.toNat_natCast,ZJV];refine⟨ZG3 (by omega),ZiH (by omega), ?_⟩;generalize hn:(wd a).length=n at ha|-
 rw[show iL (List.replicate n 0)=iL (List.replicate (n - ([]:List Nat).length) 0++[]) by simp];refine Zjf (ZIA ZFJ n (by omega) (fun i (s:Nat×List Nat)=>(iL (wd a),(d:Int),(s.1:Int),i,iL (List.replicate (n - s.2.length) 0++s.2))) (fun k s=>s.1 < d/\s.2.length+k=n/\Dg s.2/\val ((wd a).drop k)=val s.2*d+s.1)
  (Q:=fun y=>∃(r:Nat) (o:List Nat),y=((r:Int),iL o)/\Dg o/\o.length=n/\r < d/\a=val o*d+r) (0,[]) ⟨by omega,by simp,ZHG,by grind[val]⟩ ?_ ?_) ?_
 ·rintro rec k ⟨r,o⟩ hk ⟨hr,hl,hdg,hv⟩ ih;dsimp only at hr hl hdg hv ih;have hi:k < (wd a).length:=by omega
  have h1:=(ZBn a).get hi;unfold Zyk Zuk;dsimp only;rw[Zoy];refine⟨fun _=> ?_,fun h=>by simp_all⟩;rw[Zzt hi,ZhS,Zfa,ZZb hr h1 hd,ZhS,Zfa];dsimp only;generalize ex:(wd a)[k]=x at h1;have hq:(r*4294967296+x) / d < Bw:=(Nat.div_lt_iff_lt_mul (by omega)).2 (by
   grind)
  have es:(List.replicate (n - o.length) 0++o).set k ((r*4294967296+x) / d)=List.replicate (n - (o.length+1)) 0++((r*4294967296+x) / d)::o:=by
   have e:n - o.length=k+1:=by omega
   have e2:n - (o.length+1)=k:=by omega
   simp_all[List.replicate_succ']
  rw[Zhr,Zhr,ZoN,Int.toNat_natCast,ZGc,es];refine⟨Zs1 ⟨by omega,by grind⟩,ZiH (by omega), ?_⟩;refine ih ((r*4294967296+x) % d,((r*4294967296+x) / d)::o) ⟨Nat.mod_lt _ (by omega),by grind,fun y hy=> ?_, ?_⟩
  ·rcases List.mem_cons.1 hy with rfl |hy
   ·omega
   ·exact hdg y hy
  grind[List.getElem_cons_drop,val,Nat.div_add_mod]
 ·rintro rec ⟨r,o⟩ ⟨hr,hl,hdg,hv⟩;unfold Zyk Zuk;dsimp only at hr hl hdg hv|-
  rw[Zoy];refine⟨fun h=>by simp_all,fun _=> ?_⟩;rw[Zfa];rw[List.drop_zero,ZxJ]at hv;refine⟨r,o, ?_,hdg,hl,hr,hv⟩;simp_all
 grind[ZzV,ZHm,Zfa,Nat.mul_comm,Nat.mul_add_div,Nat.div_eq_of_lt,Nat.mul_add_mod,Nat.mod_eq_of_lt]
end Go.Proofs
namespace Go.Proofs
open Go Eng
theorem ZGj:∀(l:List Nat) (i x:Nat) (h:i < l.length),val (l.set i x)+Bw ^ i*l[i]=val l+Bw ^ i*x
 | [],i,x,h=>absurd h (by simp)
 |d::l,0,x,h=>by grind[val]
 |d::l,i+1,x,h=>by
  have:=ZGj l i x (by simpa using h);have e:Bw*(val (l.set i x)+Bw ^ i*l[i]'(by simpa using h))=Bw*(val l+Bw ^ i*x):=by rw[this]
  rw[Nat.mul_add,Nat.mul_add]at e;simp only[List.set_cons_succ,val,Nat.pow_succ,List.getElem_cons_succ];grind
theorem ZSV {x y:Nat} (a:x<=4294967295) (b:y<=4294967295):x*y<=18446744065119617025:=Nat.mul_le_mul a b
theorem ZHB {x y:Nat} (a:x < Bw) (b:y < Bw):x*y<=18446744065119617025:=ZSV (by grind) (by grind)
theorem ZVI {c x y e:Nat} (f:c < Bw) (a:x < Bw) (b:y < Bw) (d:e < Bw):IntKind.wrap .u64 ((c:Int)+IntKind.wrap .u64 (IntKind.wrap .u64 (IntKind.wrap .u64 (x:Int)*IntKind.wrap .u64 (y:Int))+IntKind.wrap .u64 (e:Int)))=((c+x*y+e:Nat):Int):=by have:=ZHB a b;simp only[Bw]at f a b d;rw[Zpi (by omega),Zpi (by omega),Zpi (by omega),<-Int.natCast_mul,Zpi (by omega),<-ZVx,Zpi (by omega),<-ZVx,Zpi (by omega)];omega
theorem ZRx {c x y e:Nat} (f:c < Bw) (a:x < Bw) (b:y < Bw) (d:e < Bw):(c+x*y+e) / Bw < Bw:=by
 have:=ZHB a b;grind
theorem ZKK (a b:Nat) (ha:(wd a).length<=100000) (hb:(wd b).length<=100000):Zse (iL (wd a)) (iL (wd b))=some (iL (wd (a*b))):=by
 refine Zo1 ?_;unfold Zse;rw[ZoN,ZoN,Zhr,Zhr,ZhS,<-Int.natCast_add,Int.toNat_natCast,ZJV];refine⟨ZiH (by omega),ZG3 (by omega), ?_⟩;generalize hm:(wd a).length=m at ha|-
 generalize hn:(wd b).length=n at hb|-
 refine Zjf (Zti ZFI m (by omega) (fun i (s:List Nat)=>(iL (wd b),iL (wd a),(m:Int),i,iL s)) (fun i s=>s.length=m+n/\Dg s/\val s=val ((wd a).take i)*b/\∀k,i+n<=k->k < m+n->s[k]? =some 0)
  (Q:=fun y=>∃(o:List Nat),y=iL o/\Dg o/\o.length=m+n/\val o=a*b) (List.replicate (m+n) 0) ⟨by simp,ZPj _,by grind[ZMb,val],fun k _ h=>by simp_all⟩ ?_ ?_) ?_
 ·rintro rec i s hlt ⟨hl,hd,hv,hz⟩ ih;have hi:i < (wd a).length:=by omega
  have h1:=(ZBn a).get hi;unfold Zyj Zuj;dsimp only;rw[Zoy];refine⟨fun _=> ?_,fun h=>by simp_all⟩;rw[Zzt hi,ZhS,Zfa,ZhS,ZoN,hn];generalize ex:(wd a)[i]=x at h1;refine Zjf (Zti ZFH n (by omega) (fun j (t:Nat×List Nat)=>(iL (wd b),(i:Int),(x:Int),(t.1:Int),iL (wd a),(m:Int),(i:Int),iL (wd b),(n:Int),j,iL t.2)) (fun j t=>t.1 < Bw/\t.2.length=m+n/\Dg t.2/\val t.2+Bw ^ (i+j)*t.1=val s+Bw ^ i*(x*val ((wd b).take j))/\∀k,i+n<=k->k < m+n->t.2[k]? =some 0)
   (Q:=fun y=>∃(c:Nat) (o:List Nat),y=(iL (wd b),(i:Int),(c:Int),iL (wd a),(m:Int),(i:Int),iL o)/\c < Bw/\o.length=m+n/\Dg o/\val o+Bw ^ (i+n)*c=val s+Bw ^ i*(x*b)/\∀k,i+n<=k->k < m+n->o[k]? =some 0) (0,s) ⟨by omega,hl,hd,by simp[val],hz⟩ ?_ ?_) ?_
  ·rintro rec2 j ⟨c,o⟩ hj ⟨hc,hol,hod,hov,hoz⟩ ih2;dsimp only at hc hol hod hov hoz ih2;have hj2:j < (wd b).length:=by omega
   have h2:=(ZBn b).get hj2;have hij:i+j < o.length:=by omega
   have h3:=hod.get hij;unfold Zyi Zui;dsimp only;rw[Zoy];refine⟨fun _=> ?_,fun h=>by grind⟩;rw[Zzt hj2,ZhS,Zfa,Zhr,Zhr,<-Int.natCast_add,Int.toNat_natCast,ZHD hij,ZhS,Zfa,Zhr,Zhr,Zhr,Zhr];generalize ey:(wd b)[j]=y at h2;generalize ee:o[i+j]=e at h3;rw[ZVI hc h1 h2 h3,Zz7,show (32:Int)=((32:Nat):Int)from rfl,ZGl 32 (by omega),ZoN,ZGc];refine⟨ZiH (by omega),Zs1 ⟨by omega,by omega⟩,ZiH (by omega),Zs1 ⟨by omega,by omega⟩,by decide,ZiH (by omega), ?_⟩;refine ih2 ((c+x*y+e) / Bw,o.set (i+j) ((c+x*y+e) % Bw)) ⟨ZRx hc h1 h2 h3,by grind,hod.set _ (Nat.mod_lt _ (by decide)), ?_,fun k hk hk2=> ?_⟩
   ·dsimp only;have q1:=ZGj o (i+j) ((c+x*y+e) % Bw) hij;grind[Nat.mod_add_div,Zpk]
   grind
  ·rintro rec2 ⟨c,o⟩ ⟨hc,hol,hod,hov,hoz⟩;dsimp only at hc hol hod hov hoz;unfold Zyi Zui;dsimp only;rw[Zoy];refine⟨fun h=>by have:=of_decide_eq_true h;omega,fun _=> ?_⟩;rw[Zfa];rw[List.take_of_length_le (by omega),ZxJ]at hov;exact⟨c,o,rfl,hc,hol,hod,hov,hoz⟩
  ·rintro y ⟨c,o,rfl,hc,hol,hod,hov,hoz⟩;dsimp only;unfold ZzU;rw[ZoN,hn,Zhr,Zhr,Zhr,<-Int.natCast_add,Int.toNat_natCast,ZAQ hc,ZGc,ZoN];refine⟨ZiH (by omega),Zs1 ⟨by omega,by omega⟩,ZiH (by omega), ?_⟩;have hp:i+n < o.length:=by omega
   have h0:o[i+n]=0:=by have:=hoz (i+n) (Nat.le_refl _) (by omega);rw[List.getElem?_eq_getElem hp]at this;exact Option.some.inj this
   have q1:=ZGj o (i+n) c hp;rw[h0,Nat.mul_zero,Nat.add_zero]at q1;refine ih (o.set (i+n) c) ⟨by simp[hol],hod.set _ hc, ?_,fun k hk hk2=> ?_⟩
   ·rw[q1,hov,hv,Zpk hi,ex,Nat.add_mul,Nat.mul_assoc]
   ·rw[List.getElem?_set_ne (by omega)];exact hoz k (by omega) hk2
 all_goals grind[Zyj,Zuj,Zfa,ZxJ,ZzT,ZHm]
theorem ZKT {c d s:Nat} (b:s<=31) (a:c < 2 ^ s) (f:d < Bw):c|||(d*2 ^ s % Bw)=c+d*2 ^ s % Bw:=by
 have e:Bw=2 ^ (32 - s)*2 ^ s:=by rw[<-Nat.pow_add,show 32 - s+s=32 by omega]
 rw[e,Nat.mul_mod_mul_right];have:=Nat.shiftLeft_add_eq_or_of_lt a (d % 2 ^ (32 - s));grind[Nat.shiftLeft_eq]
theorem ZSv {d s:Nat} (a:s<=32) (b:d < Bw):shlK .u64 (IntKind.wrap .u64 (d:Int)) (s:Int)=((d*2 ^ s:Nat):Int):=by
 have c:2 ^ s<=2 ^ 32:=Nat.pow_le_pow_right (by decide) a;have f:d*2 ^ s<=4294967295*4294967296:=Nat.mul_le_mul (by grind) c;unfold shlK;simp only[Bw]at b;rw[Zpi (by omega),Z0t,show IntKind.bits .u64=64 from rfl,Nat.min_eq_left (by omega)];have e:(d:Int)*(2:Int) ^ s=((d*2 ^ s:Nat):Int):=by simp_all
 rw[e,Zpi (by omega)]
theorem ZKm (l:List Nat) (s:Nat) (hs:s<=31) (hl:l.length<=100000) (hd:Dg l):∃o:List Nat,Zq7 (iL l) (s:Int)=some (iL o)/\Dg o/\o.length=l.length+1/\val o=val l*2 ^ s:=by
 have:wp (Zq7 (iL l) (s:Int)) (fun y=>∃o:List Nat,y=iL o/\Dg o/\o.length=l.length+1/\val o=val l*2 ^ s):=by
  have h2:2 ^ s<=2 ^ 31:=Nat.pow_le_pow_right (by decide) hs;unfold Zq7 Zyl;rw[ZoN,Zhr,Zhr,ZhS,show (l.length:Int)+1=((l.length+1:Nat):Int)from rfl,Int.toNat_natCast,ZJV];refine⟨ZiH (by omega),ZG3 (by omega), ?_⟩;refine Zjf (Zti ZEV l.length (by omega) (fun i (t:List Nat×Nat)=>((s:Int),iL l,(l.length:Int),i,iL (t.1++t.2::List.replicate (l.length - t.1.length) 0))) (fun i t=>t.1.length=i/\t.2 < 2 ^ s/\Dg t.1/\val t.1+Bw ^ i*t.2=val (l.take i)*2 ^ s)
   (Q:=fun y=>∃o:List Nat,y=iL o/\Dg o/\o.length=l.length+1/\val o=val l*2 ^ s) ([],0) ⟨rfl,Nat.two_pow_pos s,ZHG,by simp[val]⟩ ?_ ?_) ?_
  ·rintro rec i ⟨o,c⟩ hi ⟨hol,hc,hod,hv⟩ ih;dsimp only at hol hc hod hv ih;have h1:=hd.get hi;have hcB:c < Bw:=by grind
   unfold ZwU ZsY;dsimp only;rw[Zoy];refine⟨fun _=> ?_,fun h=>by simp_all⟩;rw[Zzt hi,ZhS,Zfa];generalize ex:l[i]=x at h1;have hlen:(o++c::List.replicate (l.length - o.length) 0).length=l.length+1:=by grind
   have hg:(iL (o++c::List.replicate (l.length - o.length) 0))[i]? =some (c:Int):=by grind[ZHD]
   rw[ZSv (by omega) h1,show (32:Int)=((32:Nat):Int)from rfl,ZGl 32 (by omega),Zz7];have hx2:x*2 ^ s / 2 ^ 32 < 2 ^ s:=(Nat.div_lt_iff_lt_mul (by decide)).2 (by
    rw[Nat.mul_comm (2 ^ s)];simp_all[Nat.two_pow_pos])
   rw[ZAQ (by omega),Int.toNat_natCast,show ((i:Int)+1).toNat=i+1 by omega,hg];rw[Zhr,Zhr,ZhS,Zfa,Zhr,Zhr,Zhr,Zhr,Zhr,ZLD hcB (Nat.mod_lt _ (by decide)),ZKT hs hc h1];have hsum:c+x*2 ^ s % Bw < Bw:=by
    have e:Bw=2 ^ (32 - s)*2 ^ s:=by rw[<-Nat.pow_add,show 32 - s+s=32 by omega]
    have hm:x % 2 ^ (32 - s)+1<=2 ^ (32 - s):=Nat.mod_lt _ (Nat.two_pow_pos _);have:=Nat.mul_le_mul_right (2 ^ s) hm;grind[Nat.mul_mod_mul_right]
   have es:((o++c::List.replicate (l.length - o.length) 0).set i (c+x*2 ^ s % Bw)).set (i+1) (x*2 ^ s / 2 ^ 32)=(o++[c+x*2 ^ s % Bw])++(x*2 ^ s / 2 ^ 32)::List.replicate (l.length - (o.length+1)) 0:=by rw[List.set_append_right _ _ (by omega),hol,Nat.sub_self,List.set_cons_zero,List.set_append_right _ _ (by omega),hol,show i+1 - i=1 by omega,show l.length - i=(l.length - (i+1))+1 by omega,List.replicate_succ];simp
   rw[ZGc,ZGc,es];simp only[ZoN,List.length_set,hlen];refine⟨by simp,Zs1 ⟨by omega,by omega⟩,Zs1 ⟨by omega,by omega⟩,ZiH (by omega),by decide,Zs1 ⟨by omega,by omega⟩,ZiH (by omega), ?_⟩;have:=ih (o++[c+x*2 ^ s % Bw],x*2 ^ s / 2 ^ 32) ⟨by grind,hx2,hod.app (ZGM hsum), ?_⟩
   ·simp_all
   grind[Nat.mod_add_div,ZBD,Zpk]
  ·rintro rec ⟨o,c⟩ ⟨hol,hc,hod,hv⟩;dsimp only at hol hc hod hv;unfold ZwU ZsY;dsimp only;rw[Zoy];refine⟨fun h=>by simp_all,fun _=> ?_⟩;rw[Zfa];rw[List.take_length]at hv;refine⟨o++[c], ?_,hod.app (ZGM (by grind)),by grind, ?_⟩
   all_goals simp_all[ZBD]
  grind[Zfa]
 obtain⟨y,hy,o,rfl,h1,h2,h3⟩:=this;grind
end Go.Proofs
namespace Go.Proofs
open Go Eng
theorem ZVP {B P b k g j a c d:Nat} (m:d < P) (e:c < B) (h:((b*B+k)*B+g)*P+j < B*((a*B+c)*P+d)):b<=a:=by
 rcases Nat.lt_or_ge a b with f |i
 ·exfalso;have n:(a+1)*(B*(B*P))<=b*(B*(B*P)):=Z0I _ f;have l:(c+1)*P<=B*P:=Z0I _ e;rw[Nat.add_mul,Nat.one_mul]at l;have o:B*(c*P+d)<=B*(B*P):=Z0H _ (by omega);grind
 omega
theorem ZVO {B P b c d g a k j q:Nat} (m:g < P) (e:d < B) (h:q*((a*B+k)*P+j)<=((b*B+c)*B+d)*P+g):q*a<=b*B+c:=by
 rcases Nat.lt_or_ge (b*B+c) (q*a)with f |i
 ·exfalso;have l:(b*B+c+1)*(B*P)<=q*a*(B*P):=Z0I _ f;have n:(d+1)*P<=B*P:=Z0I _ e;grind
 omega
theorem ZVN {B P e h b f d c k a g:Nat} (m:f < P) (i:a+g*d=e*B+h) (j:a*B+b < g*c):((e*B+h)*B+b)*P+f < g*((d*B+c)*P+k):=by
 rw[<-i];have l:(a*B+b+1)*P<=g*c*P:=Z0I _ j;grind
theorem ZVM {B P h i e k b d c a g:Nat} (f:c < P) (n:g < B) (j:1<=b) (l:a+g*b=h*B+i) (m:g*d<=a*B+e):g*((b*B+d)*P+c) < (((h*B+i)*B+e)*P+k)+((b*B+d)*P+c):=by
 rw[<-l];have q:g*d*P<=(a*B+e)*P:=Z0I _ m;have r:g*c<=g*P:=Z0H _ (Nat.le_of_lt f);have p:(g+1)*P<=B*P:=Z0I _ n;have o:1*(B*P)<=b*(B*P):=Z0I _ j;grind
theorem rdw {pre w suf:List Nat} {k:Nat} (h:k < w.length):(iL (pre++(w++suf)))[pre.length+k]? =some (w[k]:Int):=by grind[ZHD]
theorem stw {pre w suf:List Nat} {k:Nat} (x:Nat) (h:k < w.length):(iL (pre++(w++suf))).set (pre.length+k) (x:Int)=iL (pre++(w.set k x++suf)):=by grind[ZGc]
theorem ZYD {l:List Nat} {m:Nat} (h:l.length=m+2):val l=(l[m+1]*Bw+l[m])*Bw ^ m+val (l.take m):=by have e:=ZFM (l:=l) (k:=m) (by omega);have a:=ZFM (l:=l) (k:=m+1) (by omega);have b:=Zpk (l:=l) (k:=m) (by omega);rw[List.drop_eq_nil_of_le (by omega)]at a;simp only[val,Z0J,Nat.add_zero]at a;grind
theorem top3 {l:List Nat} {m:Nat} (h:l.length=m+3):val l=((l[m+2]*Bw+l[m+1])*Bw+l[m])*Bw ^ m+val (l.take m):=by have e:val l=(l[m+2]*Bw+l[m+1])*Bw ^ (m+1)+val (l.take (m+1)):=ZYD (by omega);grind[Zpk]
theorem ZS3 {h l:Nat} (a:h < 4294967296) (b:l < 4294967296):orK .u64 (shlK .u64 (h:Int) 32) (IntKind.wrap .u64 (l:Int))=((h*4294967296+l:Nat):Int):=by
 grind[ZLK,Zpi]
theorem ZSX {x y:Nat} (a:x < Bw) (b:y < Bw):IntKind.wrap .u64 ((x:Int)*IntKind.wrap .u64 (y:Int))=((x*y:Nat):Int):=by have:=ZHB a b;rw[Zpi (by grind),<-Int.natCast_mul,Zpi (by omega)]
theorem ZQK {pre w suf d:List Nat} {m:Nat} (hw:w.length=m+3) (hd:d.length=m+2) (hwd:Dg w) (hdd:Dg d) (h1:1<=d[m+1]) (hlt:val w < Bw*val d) (hm:m<=100000) {g r:Nat}
  (hg:g < Bw) (hq:val w / val d<=g) (hr:r+g*d[m+1]=w[m+2]*Bw+w[m+1]) (hr2:r < 2*Bw):
  wp (Zvi big pre.length (m+3) (iL d) ((m+2:Nat):Int) (g:Int) (r:Int) (iL (pre++(w++suf)))) (fun y=>∃g:Nat,y=(pre.length,m+3,iL d,((m+2:Nat):Int),(g:Int),iL (pre++(w++suf)))/\g < Bw/\val w / val d<=g/\g*val d < val w+val d):=by
 have hw0:=hwd.get (i:=m) (by omega);have hd2:=hdd.get (i:=m) (by omega);have hd1:=hdd.get (i:=m+1) (by omega);have hdl:val (d.take m) < Bw ^ m:=by have:=ZCS (hdd.take m);simp_all
 have hwl:val (w.take m) < Bw ^ m:=by have:=ZCS (hwd.take m);simp_all
 have eW:=top3 hw;have eD:=ZYD hd;have rd:(iL (pre++(w++suf)))[pre.length+m]? =some (w[m]:Int):=rdw (by omega);have rdd:idx (iL d) (m:Int)=some (d[m]:Int):=Zzt (by omega);have rdd1:idx (iL d) ((m+1:Nat):Int)=some (d[m+1]:Int):=Zzt (by omega);generalize d[m+1]=d1 at*
 generalize d[m]=d2 at*
 generalize w[m+2]=u0 at*
 generalize w[m+1]=u1 at*
 generalize w[m]=u2 at*
 have hDpos:0 < val d:=by grind
 have hdiv:∀g,val w < g*val d->val w / val d < g:=fun g h=>(Nat.div_lt_iff_lt_mul hDpos).2 h
 generalize val w / val d=qq at*
 refine ZxI ZHe (fun(t:Nat×Nat)=>(pre.length,m+3,iL d,((m+2:Nat):Int),(t.1:Int),(t.2:Int),iL (pre++(w++suf)))) (fun t=>t.1 < Bw/\qq<=t.1/\t.2+t.1*d1=u0*Bw+u1/\t.2 < 2*Bw) (fun t=>t.1) (g,r) ⟨hg,hq,hr,hr2⟩ (by grind) ?_;rintro rec ⟨g,r⟩ ⟨hg,hq,hr,hr2⟩ ih;dsimp only at hg hq hr hr2 ih;unfold ZE0 ZCu;dsimp only;have e2:((m+2:Nat):Int) - 2=(m:Int):=by omega
 have e1:((m+2:Nat):Int) - 1=((m+1:Nat):Int):=by omega
 have fin:g*d2<=r*Bw+u2->wp (some (pre.length,m+3,iL d,((m+2:Nat):Int),(g:Int),iL (pre++(w++suf)))) (fun y=>∃g:Nat,y=(pre.length,m+3,iL d,((m+2:Nat):Int),(g:Int),iL (pre++(w++suf)))/\g < Bw/\qq<=g/\g*val d < val w+val d):=fun h=>by rw[Zfa];refine⟨g,rfl,hg,hq, ?_⟩;rw[eW,eD];exact ZVM hdl hg h1 hr h
 rw[Zoy];refine⟨fun h=> ?_,fun h=> ?_⟩
 ·have hrB:r < 4294967296:=by grind
  rw[e2,Zhr,rdd,ZhS,Zfa,Zhr,Zhr,Zhr,ZhS,Int.toNat_natCast,rd,Zfa,ZSX hg hd2,ZS3 hrB hw0];refine⟨ZiH (by omega),by decide,ZiH (by omega),Zs1 ⟨by omega,by omega⟩, ?_⟩;unfold Zyp;rw[Zoy];refine⟨fun h=> ?_,fun h=> ?_⟩
  ·have hc:r*Bw+u2 < g*d2:=by grind
   have hlt2:val w < g*val d:=by rw[eW,eD];exact ZVN hwl hr hc
   have hqg:qq < g:=hdiv g hlt2;rw[e1,Zhr,rdd1,ZhS,Zfa];refine⟨ZiH (by omega), ?_⟩;have eg:IntKind.wrap .u64 ((g:Int) - 1)=((g - 1:Nat):Int):=by grind[Zpi]
   have er:IntKind.wrap .u64 ((r:Int)+IntKind.wrap .u64 (d1:Int))=((r+d1:Nat):Int):=by simp only[Bw]at hd1;rw[Zpi (by omega),<-Int.natCast_add,Zpi (by omega)]
   rw[eg,er];refine ih (g - 1,r+d1) ⟨by omega,by omega, ?_,by grind⟩ (by omega);dsimp only;rw[<-hr,show g*d1=(g - 1+1)*d1 by grind,Nat.add_mul,Nat.one_mul];omega
  grind
 ·have hrB:4294967296<=r:=by have:=of_decide_eq_false h;omega
  unfold Zyp;rw[cond_false];refine fin ?_;have h1:=ZHB hg hd2;have h2:4294967296*4294967296<=r*Bw:=Nat.mul_le_mul hrB (Nat.le_refl _);omega
end Go.Proofs
namespace Go.Proofs
open Go Eng
abbrev ZRh (pre suf:List Nat) (W D m:Nat) (y:Int×List Int):Prop:=∃a:List Nat,y=(((W / D:Nat):Int),iL (pre++(a++suf)))/\a.length=m+3/\Dg a/\val a=W % D
theorem ZTq {pre w suf d:List Nat} {m W:Nat} (hw:w.length=m+3) (hd:d.length=m+2) (hwd:Dg w) (hdd:Dg d) (hm:m<=100000) {g:Nat} (hg:g < Bw)
  (hg1:W < g*val d) (hg2:g*val d < W+val d) (hv:val w+g*val d=W+Bw ^ (m+3)):
  wp ((Zyo big pre.length (m+3) ((m+2:Nat):Int) (g:Int) (0:Int) (iL d) (d.length:Int) (0:Int) (iL (pre++(w++suf)))).bind fun(x0,x1,x2,x3,x4,x5)=>ZAI x0 x1 x2 x3 x4 x5) (ZRh pre suf W (val d) m):=by
 rw[ZhS,hd];have hDpos:0 < val d:=by omega
 refine Zjf (Zti ZHc (m+2) (by omega) (fun i (t:Nat×List Nat)=>(pre.length,m+3,((m+2:Nat):Int),(g:Int),(t.1:Int),iL d,((m+2:Nat):Int),i,iL (pre++(t.2++suf)))) (fun i t=>t.1<=1/\t.2.length=m+3/\Dg t.2/\val t.2+Bw ^ i*t.1=val w+val (d.take i))
  (Q:=fun y=>∃(a:Nat) (w2:List Nat),y=(pre.length,m+3,((m+2:Nat):Int),(g:Int),(a:Int),iL (pre++(w2++suf)))/\a<=1/\w2.length=m+3/\Dg w2/\val w2+Bw ^ (m+2)*a=val w+val d) (0,w) ⟨by simp,hw,hwd,by simp[val]⟩ ?_ ?_) ?_
 ·rintro rec i ⟨a,o⟩ hi ⟨ha,hol,hod,hv⟩ ih;dsimp only at ha hol hod hv ih;have hi1:i < o.length:=by omega
  have hi2:i < d.length:=by omega
  have h1:=hod.get hi1;have h2:=hdd.get hi2;unfold ZCs Zzk;dsimp only;rw[Zoy];refine⟨fun _=> ?_,fun h=>by grind⟩;rw[Zzt hi2,ZhS,Zfa,Zhr,ZhS,Int.toNat_natCast,rdw hi1,Zfa,ZWr h1 h2 ha,ZhS,Zfa];dsimp only;rw[Zhr,Zhr,stw _ hi1];refine⟨Zs1 ⟨by omega,by omega⟩,Zs1 ⟨by omega,by omega⟩,ZiH (by omega), ?_⟩;generalize ex:d[i]=x at h2;generalize ee:o[i]=e at h1;refine ih ((e+x+a) / 4294967296,o.set i ((e+x+a) % 4294967296)) ⟨by grind,by grind,hod.set _ (Nat.mod_lt _ (by decide)), ?_⟩;grind[ZGj,Nat.mod_add_div,Zpk]
 ·rintro rec ⟨a,o⟩ ⟨ha,hol,hod,hv⟩;dsimp only at ha hol hod hv;unfold ZCs Zzk;dsimp only;rw[Zoy];refine⟨fun h=>by have:=of_decide_eq_true h;omega,fun _=> ?_⟩;rw[Zfa];rw[List.take_of_length_le (by omega)]at hv;grind
 ·rintro y ⟨a,o,rfl,ha,hol,hod,hov⟩;dsimp only;have hi1:m+2 < o.length:=by omega
  have h1:=hod.get hi1;unfold ZAI;rw[Zhr,ZhS,Int.toNat_natCast,rdw hi1,Zfa,Zhr];generalize ee:o[m+2]=e at h1;have ew:IntKind.wrap .u32 ((e:Int)+(a:Int))=(((e+a) % 4294967296:Nat):Int):=by rw[<-Int.natCast_add,Zz7]
  have hgp:1<=g:=by
   rcases Nat.eq_zero_or_pos g with h |h
   ·rw[h,Nat.zero_mul]at hg1;omega
   ·exact h
  have eg:IntKind.wrap .u32 (IntKind.wrap .u64 ((g:Int) - 1))=((g - 1:Nat):Int):=by simp only[Bw]at hg;rw[show (g:Int) - 1=((g - 1:Nat):Int) by omega,Zpi (by omega),ZAQ (by omega)]
  rw[ew,eg,stw _ hi1,Zfa];refine⟨Zs1 ⟨by omega,by omega⟩,Zs1 ⟨by omega,by omega⟩, ?_⟩;have q1:=ZGj o (m+2) ((e+a) % 4294967296) hi1;rw[ee]at q1;have q2:Bw ^ (m+2)*((e+a) % 4294967296+Bw*((e+a) / 4294967296))=Bw ^ (m+2)*(e+a):=by rw[Nat.mod_add_div]
  rw[Nat.mul_add,Nat.mul_add,<-Nat.mul_assoc,<-Nat.pow_succ]at q2;have hdn:Dg (o.set (m+2) ((e+a) % 4294967296)):=hod.set _ (Nat.mod_lt _ (by decide));have hlt:=ZCS hdn;rw[List.length_set,hol]at hlt;have hco:(e+a) / 4294967296<=1:=by simp only[Bw]at h1;omega
  have hpw:Bw ^ (m+2+1)=Bw ^ (m+3):=rfl;rw[hpw]at q2;have egD:g*val d=(g - 1)*val d+val d:=by rw[show g*val d=(g - 1+1)*val d by rw[Nat.sub_add_cancel hgp],Nat.add_mul,Nat.one_mul]
  have key:val (o.set (m+2) ((e+a) % 4294967296))+(g - 1)*val d=W:=by
   rcases Nat.eq_zero_or_pos ((e+a) / 4294967296)with hz |hz
   ·rw[hz,Nat.mul_zero]at q2;omega
   ·rw[show (e+a) / 4294967296=1 by omega,Nat.mul_one]at q2;omega
  have hl3:(o.set (m+2) ((e+a) % 4294967296)).length=m+3:=by rw[List.length_set,hol]
  generalize o.set (m+2) ((e+a) % 4294967296)=w3 at*
  have hlt3:val w3 < val d:=by omega
  have eq1:W / val d=g - 1:=by rw[<-key,Nat.add_mul_div_right _ _ hDpos,Nat.div_eq_of_lt hlt3,Nat.zero_add]
  have eq2:W % val d=val w3:=by rw[<-key,Nat.add_mul_mod_self_right,Nat.mod_eq_of_lt hlt3]
  exact⟨w3,by rw[eq1],hl3,hdn,eq2.symm⟩
theorem ZSn {pre w suf d:List Nat} {m:Nat} (hw:w.length=m+3) (hd:d.length=m+2) (hwd:Dg w) (hdd:Dg d) (hm:m<=100000) {g:Nat} (hg:g < Bw)
  (hDpos:0 < val d) (hq:val w / val d<=g) (hg2:g*val d < val w+val d):
  wp (ZAJ pre.length (m+3) (iL d) ((m+2:Nat):Int) (g:Int) (iL (pre++(w++suf)))) (ZRh pre suf (val w) (val d) m):=by
 unfold ZAJ;rw[ZhS,ZoN,hd];refine Zjf (Zti ZHd (m+2) (by omega) (fun i (t:Nat×Nat×List Nat)=>(pre.length,m+3,iL d,((m+2:Nat):Int),(g:Int),(t.1:Int),(t.2.1:Int),iL d,((m+2:Nat):Int),i,iL (pre++(t.2.2++suf)))) (fun i t=>t.1<=1/\t.2.1 < Bw/\t.2.2.length=m+3/\Dg t.2.2/\val t.2.2+g*val (d.take i)=val w+Bw ^ i*(t.1+t.2.1))
  (Q:=fun y=>∃(b c:Nat) (w2:List Nat),y=(pre.length,m+3,iL d,((m+2:Nat):Int),(g:Int),(b:Int),(c:Int),iL (pre++(w2++suf)))/\b<=1/\c < Bw/\w2.length=m+3/\Dg w2/\val w2+g*val d=val w+Bw ^ (m+2)*(b+c)) (0,0,w) ⟨by simp,by simp,hw,hwd,by simp[val]⟩ ?_ ?_) ?_
 ·rintro rec i ⟨b,c,o⟩ hi ⟨hb,hc,hol,hod,hv⟩ ih;dsimp only at hb hc hol hod hv ih;have hi1:i < o.length:=by omega
  have hi2:i < d.length:=by omega
  have h1:=hod.get hi1;have h2:=hdd.get hi2;unfold ZCt Zzl;dsimp only;rw[Zoy];refine⟨fun _=> ?_,fun h=>by grind⟩;rw[Zzt hi2,ZhS,Zfa,Zhr,ZhS,Int.toNat_natCast,rdw hi1,Zfa];generalize ex:d[i]=x at h2;generalize ee:o[i]=e at h1;have hbd:=ZHB hg h2;have es:IntKind.wrap .u64 ((c:Int)+((g*x:Nat):Int))=((c+g*x:Nat):Int):=by simp only[Bw]at hc;rw[<-Int.natCast_add,Zpi (by omega)]
  rw[ZSX hg h2,es,Zz7,ZSr h1 (Nat.mod_lt _ (by decide)) hb,ZhS,Zfa];dsimp only;rw[Zhr,Zhr,Zhr,stw _ hi1,show (32:Int)=((32:Nat):Int)from rfl,ZGl 32 (by omega)];refine⟨Zs1 ⟨by omega,by omega⟩,Zs1 ⟨by omega,by omega⟩,by decide,ZiH (by omega), ?_⟩;have hlo:(c+g*x) % 4294967296 < 4294967296:=Nat.mod_lt _ (by decide);have hhi:(c+g*x) / 2 ^ 32 < Bw:=by grind
  have hs:(c+g*x) % 4294967296+Bw*((c+g*x) / 2 ^ 32)=c+g*x:=Nat.mod_add_div _ _;generalize (c+g*x) % 4294967296=lo at*
  generalize (c+g*x) / 2 ^ 32=hi' at*
  refine ih ((if e < lo+b then 1 else 0),hi',o.set i ((e+4294967296 - lo - b) % 4294967296)) ⟨by grind,hhi,by grind,hod.set _ (Nat.mod_lt _ (by decide)), ?_⟩;dsimp only;have q1:=ZGj o i ((e+4294967296 - lo - b) % 4294967296) hi1;rw[ee]at q1;have e1:e+Bw*(if e < lo+b then 1 else 0)=(e+4294967296 - lo - b) % 4294967296+lo+b:=by grind
  grind[Zpk]
 ·rintro rec ⟨b,c,o⟩ ⟨hb,hc,hol,hod,hv⟩;dsimp only at hb hc hol hod hv;unfold ZCt Zzl;dsimp only;rw[Zoy];refine⟨fun h=>by have:=of_decide_eq_true h;omega,fun _=> ?_⟩;rw[Zfa];rw[List.take_of_length_le (by omega)]at hv;grind
 ·rintro y ⟨b,c,o,rfl,hb,hc,hol,hod,hv⟩;dsimp only;have hi1:m+2 < o.length:=by omega
  have h1:=hod.get hi1;unfold ZDp;rw[Zhr,ZhS,Int.toNat_natCast,rdw hi1,Zfa,ZAQ hc];generalize ee:o[m+2]=e at h1;rw[ZSr h1 hc hb,ZhS,Zfa];dsimp only;rw[Zhr,stw _ hi1,ZAQ hg];refine⟨Zs1 ⟨by omega,by omega⟩,Zs1 ⟨by omega,by omega⟩, ?_⟩;have q1:=ZGj o (m+2) ((e+4294967296 - c - b) % 4294967296) hi1;rw[ee]at q1;have e1:e+Bw*(if e < c+b then 1 else 0)=(e+4294967296 - c - b) % 4294967296+c+b:=by simp only[Bw]at h1 hc|-;split<;>omega
  have q2:Bw ^ (m+2)*(e+Bw*(if e < c+b then 1 else 0))=Bw ^ (m+2)*((e+4294967296 - c - b) % 4294967296+c+b):=by rw[e1]
  rw[Nat.mul_add,Nat.mul_add,Nat.mul_add,<-Nat.mul_assoc,<-Nat.pow_succ]at q2;rw[Nat.mul_add]at hv;have hpw:Bw ^ (m+2+1)=Bw ^ (m+3):=rfl;rw[hpw]at q2;have hdn:Dg (o.set (m+2) ((e+4294967296 - c - b) % 4294967296)):=hod.set _ (Nat.mod_lt _ (by decide));have hlt:=ZCS hdn;rw[List.length_set,hol]at hlt;have hl3:(o.set (m+2) ((e+4294967296 - c - b) % 4294967296)).length=m+3:=by rw[List.length_set,hol]
  generalize o.set (m+2) ((e+4294967296 - c - b) % 4294967296)=w3 at*
  generalize (e+4294967296 - c - b) % 4294967296=dd at*
  by_cases hcc:e < c+b
  ·rw[if_pos hcc]at q2|-
   rw[show (((1:Nat):Int) == 0)=false from rfl,cond_false];rw[ZoN d];exact ZTq (pre:=pre) (suf:=suf) hl3 hd hdn hdd hm hg (by omega) hg2 (by omega)
  ·rw[if_neg hcc]at q2|-
   rw[show (((0:Nat):Int) == 0)=true from rfl,cond_true,Zfa];have key:val w3+g*val d=val w:=by omega
   have hlt3:val w3 < val d:=by have h5:(val w / val d)*val d<=g*val d:=Nat.mul_le_mul_right _ hq;have h6:=Nat.div_add_mod (val w) (val d);have h7:=Nat.mod_lt (val w) hDpos;rw[Nat.mul_comm]at h6;omega
   have eq1:val w / val d=g:=by rw[<-key,Nat.add_mul_div_right _ _ hDpos,Nat.div_eq_of_lt hlt3,Nat.zero_add]
   have eq2:val w % val d=val w3:=by rw[<-key,Nat.add_mul_mod_self_right,Nat.mod_eq_of_lt hlt3]
   exact⟨w3,by rw[eq1],hl3,hdn,eq2.symm⟩
theorem ZQQ {pre w suf d:List Nat} {m:Nat} (hw:w.length=m+3) (hd:d.length=m+2) (hwd:Dg w) (hdd:Dg d) (hm:m<=100000) (h1:1<=d[m+1]) (hlt:val w < Bw*val d):
  wp (ZBX (iL (pre++(w++suf))) pre.length (m+3) (iL d)) (ZRh pre suf (val w) (val d) m):=by
 have hd1:=hdd.get (i:=m+1) (by omega);have hd2:=hdd.get (i:=m) (by omega);have h_u0:=hwd.get (i:=m+2) (by omega);have h_u1:=hwd.get (i:=m+1) (by omega);have h_u2:=hwd.get (i:=m) (by omega);have hdl:val (d.take m) < Bw ^ m:=by have:=ZCS (hdd.take m);simp_all
 have hwl:val (w.take m) < Bw ^ m:=by have:=ZCS (hwd.take m);simp_all
 have eW:=top3 hw;have eD:=ZYD hd;have hDpos:0 < val d:=by grind
 have hk1:w[m+2]<=d[m+1]:=ZVP hdl hd2 (by rw[<-eW,<-eD];omega);have hk2:(val w / val d)*d[m+1]<=w[m+2]*Bw+w[m+1]:=ZVO hwl h_u2 (by rw[<-eW,<-eD];exact Nat.div_mul_le_self _ _);have hqB:val w / val d < Bw:=(Nat.div_lt_iff_lt_mul hDpos).2 hlt;have hG:∃g:Nat,(if (4294967295:Int) < (IntKind.wrap .u64 (Int.tdiv (orK .u64 (shlK .u64 (IntKind.wrap .u64 (w[m+2]:Int)) 32) (IntKind.wrap .u64 (w[m+1]:Int))) (IntKind.wrap .u64 (d[m+1]:Int))))then (4294967295:Int)else (IntKind.wrap .u64 (Int.tdiv (orK .u64 (shlK .u64 (IntKind.wrap .u64 (w[m+2]:Int)) 32) (IntKind.wrap .u64 (w[m+1]:Int))) (IntKind.wrap .u64 (d[m+1]:Int)))))=(g:Int)/\g < Bw/\val w / val d<=g/\g*d[m+1]<=w[m+2]*Bw+w[m+1]/\w[m+2]*Bw+w[m+1] < g*d[m+1]+2*Bw:=by
  rw[ZLK h_u0 h_u1,Zpi (by grind)];have e1:Int.tdiv ((w[m+2]*4294967296+w[m+1]:Nat):Int) (d[m+1]:Int)=(((w[m+2]*4294967296+w[m+1]) / d[m+1]:Nat):Int):=by grind
  have hnum:w[m+2]*4294967296+w[m+1] < 18446744073709551616:=by grind
  have hle:(w[m+2]*4294967296+w[m+1]) / d[m+1]<=w[m+2]*4294967296+w[m+1]:=Nat.div_le_self _ _;rw[e1,Zpi (by omega)];have hq2:val w / val d<=(w[m+2]*4294967296+w[m+1]) / d[m+1]:=(Nat.le_div_iff_mul_le (by omega)).2 hk2;have hdm:=Nat.div_add_mod (w[m+2]*4294967296+w[m+1]) d[m+1];have hml:=Nat.mod_lt (w[m+2]*4294967296+w[m+1]) (show 0 < d[m+1] by omega);rw[Nat.mul_comm]at hdm;generalize (w[m+2]*4294967296+w[m+1]) / d[m+1]=q0 at*
  generalize (w[m+2]*4294967296+w[m+1]) % d[m+1]=r0 at*
  generalize val w / val d=qq at*
  by_cases hc:4294967295 < q0
  ·refine⟨4294967295,by omega,by simp_all,by grind, ?_, ?_⟩
   ·have:=Nat.mul_le_mul_right d[m+1] (show 4294967295<=q0 by omega);grind
   grind
  ·refine⟨q0,by omega,by grind,hq2, ?_, ?_⟩
   all_goals grind
 have h2:wp (ZDl (iL (pre++(w++suf))) pre.length (m+3) (iL d)) (ZRh pre suf (val w) (val d) m):=by
  obtain⟨g,hg,hgB,hgq,hgd,hgr⟩:=hG;have e1:((m+2:Nat):Int) - 1=((m+1:Nat):Int):=by omega
  unfold ZDl;rw[ZoN,hd,e1,Int.toNat_natCast,Int.toNat_natCast,rdw (by omega),rdw (by omega),Zzt (by omega)];rw[Zhr,ZhS,Zfa,Zhr,Zhr,Zhr,ZhS,Zfa,Zhr,ZhS,Zfa,Zhr,Zhr,ZhS,Zfa,hg,ZLK h_u0 h_u1,ZSX hgB hd1,ZhS];have er:IntKind.wrap .u64 (((w[m+2]*4294967296+w[m+1]:Nat):Int) - ((g*d[m+1]:Nat):Int))=((w[m+2]*4294967296+w[m+1] - g*d[m+1]:Nat):Int):=by simp only[Bw]at hgd hgr;rw[<-Int.ofNat_sub hgd,Zpi (by omega)]
  rw[er];refine⟨Zs1 ⟨by omega,by omega⟩,by decide,ZiH (by omega),Zs1 ⟨by omega,by omega⟩,ZiH (by omega),decide_eq_true (by rw[Zpi (by simp only[Bw]at hd1;omega)];omega),ZiH (by omega), ?_⟩;refine Zjf (ZQK hw hd hwd hdd h1 hlt hm hgB hgq (by simp only[Bw]at hgd|-;omega) (by simp only[Bw]at hgr|-;omega)) ?_;rintro y ⟨g',rfl,h3,h4,h5⟩;grind[ZSn]
 unfold ZBX;rw[ZhS];refine Zjf h2 ?_;grind[Zhr,Zfa,ZoN]
end Go.Proofs
