/- Plain laws over the specs, part 2. -/
import Derived.Test.YtcjejmbjlhlkhaaGreatDoorCtM1
import Derived.Test.YtcjejmbjlhlkhaaGreatDoorCtM0
set_option linter.all false
open Bool renaming not_true->Z3S, and_eq_true->ZYu, true_and->Z3T, false_and->Z3Q, not_false->Z3R
open Int renaming natAbs_mul->Z3V, natAbs_natCast->Z3W, mul_ne_zero->Z3U, toNat_natCast->Z3X
open List renaming length_cons->Z4d, dropWhile_cons->Z34, all_eq_true->Z30, length_nil->Z4f, length_append->Z4c, length_map->Z4e, length_singleton->Z4g, mem_cons->Z4i, all_cons->Z3Z, takeWhile_append_dropWhile->Z4k, foldl_append->Z38, foldl_cons->Z39, take_succ_eq_append_getElem->Z4o, take_length->Z4n, pairwise_cons->Z4j, takeWhile_cons->Z4l, cons.injEq->Z32, getElem_mem->Z4a, length_take->Z4h, cons_append->Z33, isEmpty_cons->Z4b, take_left'->Z4m, all_append->Z3Y, dropWhile_sublist->Z35, drop_eq_getElem_cons->Z36, eq_nil_or_concat->Z37, concat_eq_append->Z31
open Nat renaming le_trans->Z4p, mul_le_mul_right->Z4q
open Option renaming bind_some->Z4r, some.injEq->Z4t, map_some->Z4s
open UInt8 renaming not_lt->Z4u
namespace Go.Proofs
open Go Eng
theorem ZAV (x y:Int) (b:Wl 50000 x) (a:Wl 50000 y):ZnY (bg x) (bg y)=some (bg (x*y)):=by unfold ZnY;have:=ZI8 b a;rw[Zra,Zra,ZU4 _ _ (by omega) (by omega),Z4r,ZJx _ (ZCE _) (by omega),Zwn,Z4r,ZRk]
theorem ZK5 (x y:Int) (c:Wl 50000 x) (d:Wl 50000 y):ZpT (bg x) (bg y)=some (bg (x+y)):=by
 unfold Wl at c d;unfold ZpT;have h:=ZLU c d;rw[Zra,Zra,ZFP,ZFP];have b:decide (x < 0)≠decide (y < 0)->Zqm (iL (wd x.natAbs)) (iL (wd y.natAbs))=some (ZL4 x.natAbs y.natAbs):=fun _=>ZLG _ _ (by omega) (by omega)
 by_cases hs:decide (x < 0)=decide (y < 0)
 ·obtain⟨o,g,f,j,k⟩:=ZVK x.natAbs y.natAbs (by omega) (by omega);grind[ZJx]
 ·rw[beq_eq_false_iff_ne.2 hs,cond_false,b hs,Z4r];rcases Nat.lt_or_ge x.natAbs y.natAbs with a |e
  ·have:=Zyc (Nat.sub_le y.natAbs x.natAbs);rw[ZGb a,decide_eq_false (by omega),cond_false,ZLi _ _ (by omega) (by omega),Z4r,ZJx _ (ZCE _) (by omega),Zwn,Z4r];grind
  ·have i:ZL4 x.natAbs y.natAbs>=0:=by
    grind[ZFM,ZEn]
   have:=Zyc (Nat.sub_le x.natAbs y.natAbs);grind[ZLi,ZJx,ZCE,Zwn]
theorem ZLs (z:Int) (a:Wl 100000 z):Zrw (bg z)=some (bg (-z)):=by
 grind[Zrw,ZFP,Zra,ZJx,ZCE,Zwn]
theorem ZEY (q:Rat) (h:Wq 256 q):Zon (fOf q)=some true:=by
 have c:=h.1;have b:=h.2;have a:=q.den_nz;unfold Zon Zrt fOf;dsimp only;rw[ZGe,ZHE _ h.1,Z4r,Z3S,cond_false,ZGe,ZHE _ h.2,Z4r,Z3S,cond_false,ZFP,decide_eq_false (by omega),cond_false,ZH0 (by omega),cond_false,Zra,Zra,Zoy];unfold Wl at c b;have e:(wd 1).length<=1:=ZGk (by decide);have d:Nat.gcd q.num.natAbs (q.den:Int).natAbs=1:=q.reduced
 by_cases h0:q.num=0
 all_goals grind[ZBb,ZLn,ZLG,ZEn,Zw0,ZQ7]
theorem ZJC (x y:Int) (c:y≠0) (b:Wl 50000 x) (a:Wl 50000 y) (d:Wq 256 (Rat.divInt x y)):ZqV (bg x) (bg y)=some (fOf (Rat.divInt x y),0):=by grind[ZqV,Zvq,ZJH,fOf,Zra,Zoy]
theorem ZVL {a b:Rat} {k l:Nat} (i:Sz k a) (j:Sz l b) (t:k+l+1<=8192):ZAf (fOf a) (fOf b)=some (fOf (a+b),0):=by
 have B:=a.den_nz;have C:=b.den_nz;have d:=i.wq (by omega);have c:=j.wq (by omega);have w:∀{x y:Int},Wl 256 x->Wl 256 y->Wl 512 (x*y):=fun r s=>by unfold Wl;rw[Z3V];exact ZI8 r s
 have m:∀{n:Nat} {x:Int},Wl n x->n<=50000->Wl 50000 x:=fun h u=>Z4p h u
 have f:=w d.1 c.2;have g:=w c.1 d.2;have A:=w d.2 c.2;have v:Wl 513 (a.num*(b.den:Int)+b.num*(a.den:Int)):=Z4p (Zyc (Int.natAbs_add_le _ _)) (ZLU f g);have p:(a.den:Int)*(b.den:Int)≠0:=Z3U (by omega) (by omega);unfold ZAf ZxC;rw[ZEY a d,Z4r,Z3S,cond_false,ZEY b c,Z4r,Z3S,cond_false];show ((ZnY (bg a.num) (bg (b.den:Int))).bind fun q=>(ZnY (bg b.num) (bg (a.den:Int))).bind fun e=>(ZpT q e).bind fun z=>(ZnY (bg (a.den:Int)) (bg (b.den:Int))).bind _)=_;rw[ZAV _ _ (m d.1 (by omega)) (m c.2 (by omega)),Z4r,ZAV _ _ (m c.1 (by omega)) (m d.2 (by omega)),Z4r,ZK5 _ _ (m f (by omega)) (m g (by omega)),Z4r,ZAV _ _ (m d.2 (by omega)) (m c.2 (by omega)),Z4r];have o:Wq 256 (Rat.divInt (a.num*(b.den:Int)+b.num*(a.den:Int)) ((a.den:Int)*(b.den:Int))):=by rw[ZIE];exact(i.add j).wq t
 rw[ZJC _ _ p (m v (by omega)) (m A (by omega)) o,ZIE,Z4r]
theorem ZU5 {a b:Rat} {k l:Nat} (e:Sz k a) (f:Sz l b) (r:k+l<=8192):ZAd (fOf a) (fOf b)=some (fOf (a*b),0):=by
 have u:=a.den_nz;have v:=b.den_nz;have d:=e.wq (by omega);have c:=f.wq (by omega);have w:∀{x y:Int},Wl 256 x->Wl 256 y->Wl 512 (x*y):=fun o p=>by unfold Wl;rw[Z3V];exact ZI8 o p
 have m:∀{n:Nat} {x:Int},Wl n x->n<=50000->Wl 50000 x:=fun h s=>Z4p h s
 have i:=w d.1 c.1;have t:=w d.2 c.2;have j:(a.den:Int)*(b.den:Int)≠0:=Z3U (by omega) (by omega);unfold ZAd Zxz;rw[ZEY a d,Z4r,Z3S,cond_false,ZEY b c,Z4r,Z3S,cond_false];show ((ZnY (bg a.num) (bg b.num)).bind fun q=>(ZnY (bg (a.den:Int)) (bg (b.den:Int))).bind _)=_;rw[ZAV _ _ (m d.1 (by omega)) (m c.1 (by omega)),Z4r,ZAV _ _ (m d.2 (by omega)) (m c.2 (by omega)),Z4r];have g:Wq 256 (Rat.divInt (a.num*b.num) ((a.den:Int)*(b.den:Int))):=by rw[ZJG];exact(e.mul f).wq r
 rw[ZJC _ _ j (m i (by omega)) (m t (by omega)) g,ZJG,Z4r]
theorem ZJL {a b:Rat} {k l:Nat} (e:Sz k a) (c:Sz l b) (d:k+l+1<=8192):Zql (fOf a) (fOf b)=some (fOf (a+b)):=by grind[Zql,ZVL]
theorem ZGj {a b:Rat} {k l:Nat} (e:Sz k a) (c:Sz l b) (d:k+l<=8192):Zoz (fOf a) (fOf b)=some (fOf (a*b)):=by grind[Zoz,ZU5]
theorem ZRg {a b:Rat} (d:Wq 256 a) (c:Wq 256 b):ZwR (fOf a) (fOf b)=some (ZKe a b):=by
 have w:∀{x y:Int},Wl 256 x->Wl 256 y->Wl 50000 (x*y):=fun i j=>by unfold Wl;rw[Z3V];exact Z4p (ZI8 i j) (by decide)
 have m:∀{x:Int},Wl 256 x->Wl 50000 x:=fun h=>Z4p h (by decide)
 unfold ZwR ZxB;rw[ZEY a d,Z4r,Z3S,cond_false,ZEY b c,Z4r,Z3S,cond_false];show ((ZnY (bg a.num) (bg (b.den:Int))).bind fun q=>(ZnY (bg b.num) (bg (a.den:Int))).bind _)=_;rw[ZAV _ _ (m d.1) (m c.2),Z4r,ZAV _ _ (m c.1) (m d.2),Z4r,ZLs _ (Z4p (w c.1 d.2) (by decide)),Z4r];have l:Wl 50000 (-(b.num*(a.den:Int))):=by grind[Int.natAbs_neg]
 rw[ZK5 _ _ (w d.1 c.2) l,Z4r,ZFP,Zra,Zoy];unfold ZKe;have f:=ZK6 a b;have g:=ZK6 b a;generalize a.num*(b.den:Int)=x at*
 generalize b.num*(a.den:Int)=y at*
 by_cases hl:a < b
 ·have e:=f.1 hl;have:=Zw0 (n:=(x+ -y).natAbs) (by omega);rw[if_pos hl,beq_eq_false_iff_ne.2 (by omega),cond_false,decide_eq_true (by omega),cond_true]
 ·have o:¬x < y:=fun h=>hl (f.2 h)
  rw[if_neg hl]
  by_cases hg:b < a
  ·have e:=g.1 hg;have:=Zw0 (n:=(x+ -y).natAbs) (by omega);rw[if_pos hg,beq_eq_false_iff_ne.2 (by omega),cond_false,decide_eq_false (by omega),cond_false]
  ·have k:¬y < x:=fun h=>hg (g.2 h)
   rw[if_neg hg,show x+ -y=0 by omega,show (0:Int).natAbs=0 from rfl,ZBb];rfl
theorem ZNj {a b:Rat} (d:Wq 256 a) (c:Wq 256 b):ZvO (fOf a) (fOf b)=some (decide (a < b)):=by
 grind[ZvO,ZRg,ZKe,decide_eq_false]
theorem ZJ7:ZrU=some (fOf 0):=by grind[ZrU,ZHA]
end Go.Proofs
namespace Go.Proofs
open Go Eng
theorem ZLW (a b:Rat):Rat.divInt (a.num*(b.den:Int)+ -(b.num*(a.den:Int))) ((a.den:Int)*(b.den:Int))=a - b:=by have:=ZIE a (-b);simp_all[Int.neg_mul,Rat.sub_eq_add_neg]
theorem Sz.sub {a b:Rat} {k l:Nat} (d:Sz k a) (c:Sz l b):Sz (k+l+1) (a - b):=by rw[Rat.sub_eq_add_neg];exact d.add c.neg
theorem ZUv {a b:Rat} {k l:Nat} (j:Sz k a) (o:Sz l b) (C:k+l+1<=8192):ZAc (fOf a) (fOf b)=some (fOf (a - b),0):=by
 have D:=a.den_nz;have E:=b.den_nz;have d:=j.wq (by omega);have c:=o.wq (by omega);have w:∀{x y:Int},Wl 256 x->Wl 256 y->Wl 512 (x*y):=fun p A=>by unfold Wl;rw[Z3V];exact ZI8 p A
 have m:∀{n:Nat} {x:Int},Wl n x->n<=50000->Wl 50000 x:=fun h t=>Z4p h t
 have i:=w d.1 c.2;have B:=w c.1 d.2;have e:Wl 512 (-(b.num*(a.den:Int))):=by simp_all
 have r:=w d.2 c.2;have u:Wl 513 (a.num*(b.den:Int)+ -(b.num*(a.den:Int))):=Z4p (Zyc (Int.natAbs_add_le _ _)) (ZLU i e);have s:(a.den:Int)*(b.den:Int)≠0:=Z3U (by omega) (by omega);unfold ZAc Zxy;rw[ZEY a d,Z4r,Z3S,cond_false,ZEY b c,Z4r,Z3S,cond_false];show ((ZnY (bg a.num) (bg (b.den:Int))).bind fun q=>(ZnY (bg b.num) (bg (a.den:Int))).bind fun f=>(Zrw f).bind fun g=>(ZpT q g).bind fun z=>(ZnY (bg (a.den:Int)) (bg (b.den:Int))).bind _)=_;rw[ZAV _ _ (m d.1 (by omega)) (m c.2 (by omega)),Z4r,ZAV _ _ (m c.1 (by omega)) (m d.2 (by omega)),Z4r,ZLs _ (Z4p B (by decide)),Z4r,ZK5 _ _ (m i (by omega)) (m e (by omega)),Z4r,ZAV _ _ (m d.2 (by omega)) (m c.2 (by omega)),Z4r];have v:Wq 256 (Rat.divInt (a.num*(b.den:Int)+ -(b.num*(a.den:Int))) ((a.den:Int)*(b.den:Int))):=by rw[ZLW];exact(j.sub o).wq C
 rw[ZJC _ _ s (m u (by omega)) (m r (by omega)) v,ZLW,Z4r]
theorem ZVu {a b:Rat} {k l:Nat} (c:b≠0) (f:Sz k a) (i:Sz l b) (t:k+l<=8192):ZAe (fOf a) (fOf b)=some (fOf (a / b),0):=by
 have z:=a.den_nz;have A:=b.den_nz;have g:b.num≠0:=fun h=>c (Rat.num_eq_zero.1 h)
 have e:=f.wq (by omega);have d:=i.wq (by omega);have w:∀{x y:Int},Wl 256 x->Wl 256 y->Wl 512 (x*y):=fun r s=>by unfold Wl;rw[Z3V];exact ZI8 r s
 have m:∀{n:Nat} {x:Int},Wl n x->n<=50000->Wl 50000 x:=fun h u=>Z4p h u
 have o:=w e.1 d.2;have v:=w e.2 d.1;have p:(a.den:Int)*b.num≠0:=Z3U (by omega) g;unfold ZAe ZxA;rw[ZEY a e,Z4r,Z3S,cond_false,ZEY b d,Z4r,Z3S,cond_false];show (bif (((bg b.num).Words.length:Int) == 0)then _ else (ZnY (bg a.num) (bg (b.den:Int))).bind fun q=>(ZnY (bg (a.den:Int)) (bg b.num)).bind _)=_;rw[ZH0 g,cond_false,ZAV _ _ (m e.1 (by omega)) (m d.2 (by omega)),Z4r,ZAV _ _ (m e.2 (by omega)) (m d.1 (by omega)),Z4r];have j:Wq 256 (Rat.divInt (a.num*(b.den:Int)) ((a.den:Int)*b.num)):=by rw[ZJJ];exact(Sz.div c f i).wq t
 rw[ZJC _ _ p (m o (by omega)) (m v (by omega)) j,ZJJ,Z4r]
theorem ZMm {a b:Rat} {k l:Nat} (e:Sz k a) (c:Sz l b) (d:k+l+1<=8192):Zt5 (fOf a) (fOf b)=some (fOf (a - b)):=by grind[Zt5,ZUv]
theorem ZMK {a b:Rat} {k l:Nat} (c:b≠0) (f:Sz k a) (d:Sz l b) (e:k+l<=8192):ZsA (fOf a) (fOf b)=some (fOf (a / b)):=by grind[ZsA,ZVu]
end Go.Proofs
namespace Go.Proofs
open Go Eng
section
variable {α:Type} (lt:α->α->Bool)
def ZTE (x:α):List α->List α
 | []=>[x]
 |p::r=>if lt x p then p::ZTE x r else x::p::r
def ZJ6 (x:α) (A:List α):List α:=(ZTE lt x A.reverse).reverse
def ZtR (l:List α):List α:=l.foldl (fun s x=>ZJ6 lt x s) []
variable {lt}
theorem ZMF (x:α):ZJ6 lt x []=[x]:=rfl
theorem ZJm (x p:α) (A:List α):ZJ6 lt x (A++[p])=if lt x p then ZJ6 lt x A++[p]else A++[p,x]:=by grind[ZJ6,ZTE]
theorem ZLy (x:α):∀l:List α,(ZTE lt x l).Perm (x::l)
 | []=> .refl _
 |p::r=>by
  unfold ZTE;split
  ·exact((ZLy x r).cons p).trans (.swap _ _ _)
  simp_all
theorem ZNn (x:α) (A:List α):(ZJ6 lt x A).Perm (A++[x]):=by unfold ZJ6;refine(List.reverse_perm _).trans ((ZLy x _).trans ?_);grind[List.reverse_perm]
theorem ZIz (l:List α) (x:α):ZtR lt (l++[x])=ZJ6 lt x (ZtR lt l):=by simp[ZtR]
theorem Zt8 (l:List α):(ZtR lt l).Perm l:=by
 have key:∀(l s:List α),(l.foldl (fun s x=>ZJ6 lt x s) s).Perm (s++l):=by
  intro l
  induction l with
  |nil=>simp_all
  |cons x l a=>
   intro s;refine(a _).trans ?_;refine((ZNn x s).append_right l).trans ?_;simp
 grind[ZtR]
theorem Zu9 (l:List α):(ZtR lt l).length=l.length:=(Zt8 l).length_eq
theorem ZLx (P:α->Prop) (d:α->α->Prop) (f:∀x p,P x->P p->lt x p=true->d x p) (e:∀x p,P x->P p->lt x p=false->d p x) (g:∀a b c,P a->P b->P c->d a b->d b c->d a c)
  (x:α) (j:P x):∀l:List α,(∀y∈l,P y)->l.Pairwise (fun a b=>d b a)->(ZTE lt x l).Pairwise (fun a b=>d b a)
 | [],_,_=>by simp[ZTE]
 |p::r,hP,h=>by
  have m:=hP p (by simp);have i:=Z4j.1 h;unfold ZTE;cases hc:lt x p with
  |true=>
   rw[if_pos rfl,Z4j];refine⟨fun y k=> ?_,ZLx P d f e g x j r (fun y k=>hP y (by grind)) i.2⟩;grind[ZLy]
  |false=>
   grind[Z4j]
theorem ZGK (P:α->Prop) (d:α->α->Prop) (g:∀x p,P x->P p->lt x p=true->d x p) (e:∀x p,P x->P p->lt x p=false->d p x) (j:∀a b c,P a->P b->P c->d a b->d b c->d a c)
  (l:List α) (f:∀y∈l,P y):(ZtR lt l).Pairwise d:=by
 have key:∀(l s:List α),(∀y∈l,P y)->(∀y∈s,P y)->s.Pairwise d->(l.foldl (fun s x=>ZJ6 lt x s) s).Pairwise d:=by
  intro l
  induction l with
  |nil=>simp_all
  |cons x l k=>
   intro s f m h;refine k _ (fun y i=>f y (by grind)) (fun y i=> ?_) ?_
   ·grind[ZNn]
   ·unfold ZJ6;rw[List.pairwise_reverse];exact ZLx P d g e j x (f x (by simp)) s.reverse (fun y i=>m y (List.mem_reverse.1 i)) (by grind)
 exact key l [] f (by simp) (by simp)
theorem ZI9 (P:α->Prop) (d:α->α->Prop) (c:∀a b,P a->P b->d a b->d b a->a=b):∀{l f:List α},(∀y∈l,P y)->l.Perm f->l.Pairwise d->f.Pairwise d->l=f
 | [],f,_,hp,_,_=>(List.nil_perm.1 hp).symm
 |x::l,[],_,hp,_,_=>by simp_all
 |x::l,y::f,hP,hp,h,h'=>by
  have g:=Z4j.1 h;have i:=Z4j.1 h';have j:P y:=hP y (hp.mem_iff.2 (by simp));have e:x=y:=by
   grind[List.mem_cons_self]
  subst e;rw[ZI9 P d c (fun z k=>hP z (by grind)) hp.cons_inv g.2 i.2]
end
theorem ZLj {a:Type} (A C:List a) (p x:a):((A++p::x::C).set (A.length+1) p).set A.length x=A++x::p::C:=by
 simp_all
end Go.Proofs
namespace Go.Proofs
open Go Eng
theorem ZLd {b d X:Type} {f:Nat->b->Option X} {body:(b->Option X)->b->Option X} (j:∀n s,f (n+1) s=body (f n) s)
  (c:d->b) (P:d->Prop) (m:d->Nat) {Q:X->Prop} (e:d) (i:P e) (l:m e<=9223372036854775808)
  (h:∀(a:b->Option X) t,P t->(∀g,P g->m g < m t->wp (a (c g)) Q)->wp (body a (c t)) Q):wp (f big (c e)) Q:=by
 have key:∀(n:Nat) t,P t->m t < n->wp (f n (c t)) Q:=by
  intro n
  induction n with
  |zero=>omega
  |succ n k=>
   grind
 grind[big_eq]
def isD (b:UInt8):Bool:=decide (48<=b.toNat)&&decide (b.toNat<=57)
def ZMq:Str->Bool×Str
 | []=>(false,[])
 |b::r=>bif b == 45 then (true,r)else bif b == 43 then (false,r)else (false,b::r)
def okD (s:Str) (m:Nat):Bool:=decide (1<=s.length)&&decide (s.length<=m)&&s.all isD
def ZH9 (body:Str):Option (Str×Str):=
 bif decide (1<=(body.takeWhile isD).length)&&decide ((body.takeWhile isD).length<=15)then
  (match body.dropWhile isD with
  | []=>some (body.takeWhile isD,[])
  |c::p=>bif c == 46&&okD p 9 then some (body.takeWhile isD,p)else none)
 else none
def ZIm (t:Str):Option (Bool×Str×Str):=(ZH9 (ZMq t).2).map fun x=>((ZMq t).1,x.1,x.2)
def n46 (b:UInt8):Bool:=b != 46
theorem ZK1 {p:UInt8->Bool}:∀(F R:Str),F.all p=true->(∀b r,R=b::r->p b=false)->(F++R).takeWhile p=F/\(F++R).dropWhile p=R
 | [],[],_,_=>⟨rfl,rfl⟩
 | [],b::r,_,h=>by simp_all
 |x::F,R,h,a=>by rw[Z3Z,ZYu]at h;obtain⟨c,d⟩:=ZK1 F R h.2 a;simp_all
theorem ZTk (p:UInt8->Bool):∀l:Str,(l.takeWhile p).all p=true
 | []=>rfl
 |x::l=>by
  simp_all
theorem ZMJ (p:UInt8->Bool):∀(l:Str) b r,l.dropWhile p=b::r->p b=false
 | [],b,r,h=>by simp at h
 |x::l,b,r,h=>by
  rw[Z34]at h;cases hx:p x with
  |true=>rw[hx,if_pos rfl]at h;exact ZMJ p l b r h
  |false=>simp_all
theorem ZVe {b:UInt8} (h:isD b=true):n46 b=true:=by unfold n46;rw[bne_iff_ne];rintro rfl;exact absurd h (by decide)
theorem ZVJ {l:Str} (h:l.all isD=true):l.all n46=true:=Z30.2 fun b a=>ZVe (Z30.1 h b a)
theorem ZLr {b:UInt8} (h:n46 b=false):b=46:=by grind[n46]
theorem ZKg (body:Str):ZH9 body=bif okD (body.takeWhile n46) 15&&((body.dropWhile n46).isEmpty||okD (body.dropWhile n46).tail 9)then some (body.takeWhile n46,(body.dropWhile n46).tail)else none:=by
 have a:body.takeWhile n46++body.dropWhile n46=body:=Z4k;cases hall:(body.takeWhile n46).all isD with
 |true=>
  have c:=ZK1 (p:=isD) (body.takeWhile n46) (body.dropWhile n46) hall (fun b r e=>by rw[ZLr (ZMJ n46 body b r e)];decide)
  grind[ZH9,okD,ZLr,ZMJ]
 |false=>
  have e:okD (body.takeWhile n46) 15=false:=by grind[okD]
  grind[Z4k,ZTk,ZH9,ZK1,n46,ZVJ]
def ZIS (l:Str):Nat:=l.foldl (fun n b=>10*n+(b.toNat - 48)) 0
theorem ZNd (l:Str) (b:UInt8):ZIS (l++[b])=10*ZIS l+(b.toNat - 48):=by grind[ZIS]
theorem ZQL {l:Str} (h:l.all isD=true):ZIS l < 10 ^ l.length:=by
 have key:∀(l:Str) (n k:Nat),l.all isD=true->n < 10 ^ k->l.foldl (fun n b=>10*n+(b.toNat - 48)) n < 10 ^ (k+l.length):=by
  intro l
  induction l with
  |nil=>simp_all
  |cons b l d=>
   intro n k a e;rw[Z3Z,ZYu]at a;have c:=a.1;unfold isD at c;simp only[ZYu,decide_eq_true_eq]at c;have:=d (10*n+(b.toNat - 48)) (k+1) a.2 (by omega);grind
 have:=key l 0 0 h (by decide)
 rwa [Nat.zero_add]at this
def ZSP (x:Bool×Str×Str):Rat:=Rat.divInt (if x.1 then -((ZIS (x.2.1++x.2.2):Nat):Int)else ((ZIS (x.2.1++x.2.2):Nat):Int)) ((10 ^ x.2.2.length:Nat):Int)
structure ZKK (D P:Str):Prop where
 d1:1<=D.length
 d2:D.length<=15
 p:P.length<=9
 dd:D.all isD=true
 pp:P.all isD=true
theorem ZFJ {body D P:Str} (h:ZH9 body=some (D,P)):ZKK D P:=by
 rw[ZKg]at h;cases hc:(okD (body.takeWhile n46) 15&&((body.dropWhile n46).isEmpty||okD (body.dropWhile n46).tail 9))with
 |false=>simp_all
 |true=>
  rw[hc,cond_true]at h;simp only[Z4t,Prod.mk.injEq]at h;obtain⟨rfl,rfl⟩:=h;rw[ZYu]at hc;obtain⟨a,b⟩:=hc;unfold okD at a;simp only[ZYu,decide_eq_true_eq]at a;cases hR:body.dropWhile n46 with
  |nil=>exact⟨a.1.1,a.1.2,by simp,a.2,by simp⟩
  |cons c p=>
   rw[hR]at b;simp only[Z4b,Bool.false_or,List.tail_cons]at b|-
   unfold okD at b;simp only[ZYu,decide_eq_true_eq]at b;exact⟨a.1.1,a.1.2,b.1.2,a.2,b.2⟩
theorem ZJE {k:Nat} (h:k<=24):10 ^ k < 2 ^ 80:=Nat.lt_of_le_of_lt (Nat.pow_le_pow_right (by decide) h) (by decide)
theorem ZJj {l:Str} (h:l.all isD=true) (a:l.length<=24):ZIS l < 2 ^ 80:=Nat.lt_trans (ZQL h) (ZJE a)
theorem ZTi {n:Nat} (h:n < 2 ^ 80):(wd n).length<=3:=ZLc h 3 (by decide)
end Go.Proofs
namespace Go.Proofs
open Go Eng
theorem ZKO (s:Str) (c:UInt8):Zrb s [c]=some (match s with |b::_=>b == c | []=>false):=by
 unfold Zrb Zr4;cases s with
 |nil=>rfl
 |cons b r=>
  rw[decide_eq_true (show ((b::r).length:Int)>=(([c]:Str).length:Int) by grind),cond_true,Zpc (by grind),chk_true];simp
theorem ZNr (s:Str) (c:UInt8):ZCt s [c]=some (match s with |b::r=>bif b == c then (r,true)else (b::r,false) | []=>([],false)):=by
 unfold ZCt Zwp;rw[ZKO];cases s with
 |nil=>rfl
 |cons b r=>
  rw[Z4r];dsimp only;cases hb:b == c with
  |false=>rfl
  |true=>
   rw[Z3S,cond_false,Zpc (by grind),chk_true];rfl
theorem ZJ9 (s:Str) (c:UInt8):ZBP s [c]=some (match s with |b::r=>bif b == c then r else b::r | []=>[]):=by
 unfold ZBP Zwa;rw[ZKO];cases s with
 |nil=>rfl
 |cons b r=>
  rw[Z4r];dsimp only;cases hb:b == c with
  |false=>rfl
  |true=>
   rw[cond_true,Zpc (by grind),chk_true];rfl
theorem ZQ2:∀s:Str,Lib.indexByte s 46=if s.dropWhile n46=[]then -1 else ((s.takeWhile n46).length:Int)
 | []=>rfl
 |b::s=>by
  rw[Lib.indexByte,ZQ2 s,Z34,Z4l];grind[n46]
theorem Zj2 {s:Str} (f:s.length<=9223372036854775807):ZFw s [46]=some (s.takeWhile n46,(s.dropWhile n46).tail, !(s.dropWhile n46).isEmpty):=by
 have b:s.takeWhile n46++s.dropWhile n46=s:=Z4k;have a:Zvu s [46]=some (Lib.indexByte s 46):=by
  unfold Zvu ZtA ZsW;rw[show ((([46]:Str).length:Int) == 0)=false from rfl,cond_false]
  by_cases h:([46]:Str)=s
  ·subst h;rfl
  ·rw[show (([46]:Str) == s)=false by simp_all,cond_false];rfl
 unfold ZFw ZAQ;rw[a,Z4r,ZQ2];cases hR:s.dropWhile n46 with
 |nil=>
  simp_all
 |cons c p=>
  have d:(s.takeWhile n46).length+(p.length+1)=s.length:=by grind
  rw[if_neg (by simp),decide_eq_true (show ((s.takeWhile n46).length:Int)>=0 by omega),cond_true,Zpc (by omega),ZnS (by grind),Zpc (by grind)];simp only[chk_true,Z4r];have e:s.take ((((s.takeWhile n46).length:Nat):Int)).toNat=s.takeWhile n46:=by
   grind[Z4m]
  have g:s.drop ((((s.takeWhile n46).length:Nat):Int)+(([46]:Str).length:Int)).toNat=p:=by
   rw[show ((((s.takeWhile n46).length:Nat):Int)+(([46]:Str).length:Int)).toNat=(s.takeWhile n46).length+1 by simp_all]
   conv=>lhs;rw[<-b,hR]
   rw[show (s.takeWhile n46++c::p).takeWhile n46=s.takeWhile n46 by simp_all];rw[<-List.drop_drop,List.drop_left' rfl];rfl
  simp_all
theorem dset:((List.range 256).all fun n=>([48,49,50,51,52,53,54,55,56,57]:Str).contains n.toUInt8 == isD n.toUInt8)=true:=by decide+kernel
theorem ZVt (b:UInt8):([48,49,50,51,52,53,54,55,56,57]:Str).contains b=isD b:=by have:=Z30.1 dset b.toNat (List.mem_range.2 b.toNat_lt);simp_all
theorem ZEA {p:UInt8->Bool}:∀l:Str,l.dropWhile p=[]<->l.all p=true
 | []=>by simp
 |b::l=>by
  rw[Z34,Z3Z];cases h:p b with
  |true=>rw[if_pos rfl,Z3T];exact ZEA l
  |false=>simp
theorem ZRY (s a:Str):(Lib.trimS s a == [])=s.all (a.contains ·):=by
 rw[Bool.eq_iff_iff,beq_iff_eq];unfold Lib.trimS Lib.trimLeftS Lib.trimRightS;rw[ZEA];constructor
 ·intro h;have c:(s.reverse.dropWhile (a.contains ·)).all (a.contains ·)=true:=by simp_all
  have d:s.reverse.dropWhile (a.contains ·)=[]:=by
   cases he:s.reverse.dropWhile (a.contains ·)with
   |nil=>rfl
   |cons b r=>
    grind[ZMJ]
  grind[ZEA]
 grind[ZEA]
theorem ZNq (s:Str) (m:Nat):ZCb s (m:Int)=some (okD s m):=by
 unfold ZCb ZyH okD ZE2
 by_cases h1:1<=s.length
 ·rw[decide_eq_true (show (s.length:Int)>=1 by omega),cond_true,decide_eq_true h1]
  by_cases h2:s.length<=m
  ·rw[decide_eq_true (show (s.length:Int)<=(m:Int) by omega),cond_true,decide_eq_true h2];rw[show (([48,49,50,51,52,53,54,55,56,57]:Str).all fun b=>decide (b.toNat < 128))=true from by decide,chk_true,show decide (([48,49,50,51,52,53,54,55,56,57]:Str).length < 4294967281)=true from by decide,chk_true,Z4r,ZRY];grind[ZVt]
  grind
 simp_all
def zf:ZnK:=ZnK.mk (ZnP.mk false []) (ZnP.mk false [])
theorem ZX8:([10]:List Int)=iL (wd 10):=by kernel_rfl
theorem ZUZ:([1]:List Int)=iL (wd 1):=by kernel_rfl
theorem ZU1:([]:List Int)=iL (wd 0):=by kernel_rfl
theorem ZPP {b:UInt8} (h:isD b=true):IntKind.wrap .u64 (IntKind.wrap .u8 (((b.toNat:Nat):Int) - 48))=((b.toNat - 48:Nat):Int):=by grind[isD,wrap_u8,wrap_u64]
theorem ZTF {a:Bool} {D P:Str} (h:ZKK D P):Zu7 a D P false false false [] []=some (fOf (ZSP (a,D,P)),true):=by
 have q:=h.d2;have s:=h.p;have c:(D++P).all isD=true:=by rw[Z3Y,h.dd,h.pp];rfl
 have g:(D++P).length<=24:=by grind
 refine Zps ?_;unfold Zu7;rw[cond_false,ZUZ,ZPj _ (by grind[ZTi]),Z4r,ZnO,ZnO,ZnN,ZX8,ZU1];refine⟨decide_eq_true (by grind[Zq]),decide_eq_true (by omega), ?_⟩;refine ZnU (Zva ZIv (D++P).length (by omega) (fun i (n:Nat)=>(a,P,iL (wd n),iL (wd 10),(((D++P).map fun b:UInt8=>((b.toNat:Nat):Int)).length:Int),i,false,false,iL (wd 1),(D++P).map (fun b:UInt8=>((b.toNat:Nat):Int)),iL (wd 0),iL (wd 0))) (fun i n=>n=ZIS ((D++P).take i))
  (Q:=fun x=>x=(a,P,iL (wd (ZIS (D++P))),iL (wd 10),false,false,iL (wd 1),iL (wd 0),iL (wd 0))) 0 (by rfl) ?_ ?_) ?_
 ·rintro p i n hi rfl y;unfold ZCA Zzk;dsimp only;have j:isD (D++P)[i]=true:=Z30.1 c _ (Z4a hi);have r:ZIS ((D++P).take i) < 2 ^ 80:=ZJj (Z30.2 fun b j=>Z30.1 c b (List.mem_of_mem_take j)) (by grind);have t:ZIS ((D++P).take (i+1))=ZIS ((D++P).take i)*10+((D++P)[i].toNat - 48):=by grind[Z4o,ZNd]
  have f:i < ((D++P).map fun b:UInt8=>((b.toNat:Nat):Int)).length:=by grind
  have e:=j;unfold isD at e;simp only[ZYu,decide_eq_true_eq]at e;have o:=ZTi r;have u:=ZTi (n:=10) (by decide);have v:(wd (ZIS ((D++P).take i)*10)).length<=100:=ZLc (k:=84) (by omega) 100 (by decide);have w:=ZTi (n:=(D++P)[i].toNat - 48) (by omega);rw[decide_eq_true (show (i:Int) < (((D++P).map fun b:UInt8=>((b.toNat:Nat):Int)).length:Int) by omega),cond_true,ZoP f,chk_true,Z3X,List.getElem?_eq_getElem f,Z4r,List.getElem_map,ZMk _ _ (by omega) (by omega),Z4r,ZPP j,ZKA _ (by omega),Z4r,
   ZQD _ _ (by omega) (by omega),Z4r,ZnO]
  grind[ZnS]
 ·grind[ZCA,Zzk,ZnL]
 ·rintro x rfl;dsimp only;unfold ZEk;rw[ZnN];refine ZnU (Zva ZIu P.length (by omega) (fun i (k:Nat)=>(a,iL (wd (ZIS (D++P))),iL (wd 10),iL (wd (10 ^ k)),(P.length:Int),i,false,false,iL (wd 0),iL (wd 0))) (fun i k=>k=i)
   (Q:=fun x=>x=(a,iL (wd (ZIS (D++P))),iL (wd (10 ^ P.length)),false,false,iL (wd 0),iL (wd 0))) 0 (by rfl) ?_ ?_) ?_
  ·grind[ZCz,Zzj,ZTi,ZJE,ZMk,ZnO,ZnS]
  ·grind[ZCz,Zzj,ZnL]
  ·rintro x rfl;dsimp only;unfold ZEj;have d:=ZJj c g;have l:=ZJE (show P.length<=24 by omega);have o:=ZTi d;have v:=ZTi l;rw[ZCF _ _ (by omega),Z4r,ZCF _ _ (by omega),Z4r];have m:((10 ^ P.length:Nat):Int)≠0:=by grind
   have:=ZHC (if a=true then -((ZIS (D++P):Nat):Int)else ((ZIS (D++P):Nat):Int)) ((10 ^ P.length:Nat):Int) m (by
    grind) (by grind)
   simp only[Bool.false_eq_true,if_false];rw[this,Z4r,ZnL];rfl
theorem ZL8 {t:Str} (d:t.length<=9223372036854775807):Zya t=some (match ZIm t with |some x=>(fOf (ZSP x),true) |none=>(zf,false)):=by
 have key:∀(body:Str) (b:Bool),body.length<=9223372036854775807->ZxW body b false false [] []=some (match (ZH9 body).map fun x=>(b,x.1,x.2)with |some x=>(fOf (ZSP x),true) |none=>(zf,false)):=by
  intro body b c;unfold ZxW;rw[Zj2 c,Z4r];dsimp only;rw[show (15:Int)=((15:Nat):Int)from rfl,ZNq,Z4r,show (9:Int)=((9:Nat):Int)from rfl];have a:=ZKg body;cases h1:okD (body.takeWhile n46) 15 with
  |false=>
   rw[h1,Z3Q,cond_false]at a;rw[a,Z3R,cond_true];rfl
  |true=>
   rw[h1,Z3T]at a;rw[Z3S,cond_false];cases h2:(body.dropWhile n46).isEmpty with
   |true=>
    grind[ZTF,ZFJ]
   |false=>
    rw[h2,Bool.false_or]at a;rw[Z3R,cond_true,ZNq,Z4r];cases h3:okD (body.dropWhile n46).tail 9 with
    |false=>
     rw[h3,cond_false]at a;rw[a];rfl
    |true=>
     grind[ZTF,ZFJ]
 grind[Zya,ZIm,ZMq,ZNr,ZJ9]
end Go.Proofs
namespace Go.Proofs
open Go Eng
theorem ZKN (b k:UInt8):(((b.toNat:Nat):Int) == ((k.toNat:Nat):Int))=(b == k):=by
 grind[UInt8.toNat_inj]
theorem ZTD (b:UInt8):(decide (((b.toNat:Nat):Int)>=48)&&decide (((b.toNat:Nat):Int)<=57))=isD b:=by
 grind[isD]
theorem ZUp (p:UInt8->Bool) (l:Str):l.take (l.takeWhile p).length=l.takeWhile p:=by
 grind[Z4k]
theorem ZQm (p:UInt8->Bool) (l:Str):l.drop (l.takeWhile p).length=l.dropWhile p:=by
 grind[Z4k]
theorem ZX7 {p:UInt8->Bool} {l:Str} {k:Nat} (h:∀j (d:j < l.length),j < k->p l[j]=true) (a:k<=l.length) (c:∀a:k < l.length,p l[k]=false):(l.takeWhile p).length=k:=by
 have g:=ZK1 (p:=p) (l.take k) (l.drop k) (Z30.2 fun b f=>by
  grind[List.getElem_of_mem]) (fun b r e=>by
  grind[Z36])
 simp_all
theorem ZSp {a:Bool} {D p:Str} (l:p.length<=9):ZoX a D p false=some (bif p.all isD then (a,D,p,true)else (false,[],[],false)):=by
 unfold ZoX;rw[cond_false];have key:wp (Zrv big a D p 0) (fun x=>x=bif p.all isD then .brk (a,D,p)else .ret (false,[],[],false)):=by
  refine Zr6 ZGw p (by omega) (fun i (_:Unit)=>(a,D,p,i)) (fun k _=>(p.take k).all isD=true) () (by simp) ?_ ?_
  ·rintro d k _ e j f;unfold Zyr ZuJ Zv2;dsimp only;rw[decide_eq_true (show (k:Int) < (p.length:Int) by omega),cond_true,Zqc e,Z4r];have m:(p.take (k+1)).all isD=isD p[k]:=by grind[Z4o]
   have c:isD p[k]=false->p.all isD=false:=fun h=>by grind
   have g:=ZTD p[k]
   by_cases h1:((p[k].toNat:Nat):Int) < 48
   ·grind[ZnL]
   ·rw[decide_eq_false h1,cond_false,Z4r]
    by_cases h2:((p[k].toNat:Nat):Int) > 57
    ·grind[ZnL]
    ·rw[decide_eq_false h2,cond_false,ZnO];exact⟨ZnS (by omega),f () (by simp_all)⟩
  grind[Zyr,ZuJ,ZnL]
 obtain⟨x,b,rfl⟩:=key;rw[b,Z4r];cases p.all isD<;>rfl
theorem ZSq {s:Str} (a:Bool) (y:s.length<=9223372036854775807):Zpv s a=some (match ZH9 s with |some x=>(a,x.1,x.2,true) |none=>(false,[],[],false)):=by
 refine Zps ?_;unfold Zpv;rw[ZnN];refine ZnU (ZLd ZGx (fun(k:Nat)=>(s,a,(k:Int))) (fun k=>k<=s.length/\∀j (t:j < s.length),j < k->isD s[j]=true) (fun k=>s.length - k)
  (Q:=fun x=>x=(s,a,(((s.takeWhile isD).length:Nat):Int))) 0 ⟨Nat.zero_le _,fun j _ h=>absurd h (Nat.not_lt_zero _)⟩ (by omega) ?_) ?_
 ·rintro f k ⟨q,u⟩ r;unfold ZCR Zys Zs6;dsimp only;have l:(∀h:k < s.length,isD s[k]=false)->wp (some (s,a,(k:Int))) (fun x=>x=(s,a,(((s.takeWhile isD).length:Nat):Int))):=fun h=>by rw[ZnL,ZX7 u q h]
  rw[Zn1];refine⟨fun h=> ?_,fun h=> ?_⟩
  ·simp only[decide_eq_true_eq]at h;have b:k < s.length:=by omega
   have m:=ZTD s[k];rw[Zqc b,Z4r];have n:isD s[k]=true->wp (chk (inK .i64 ((k:Int)+1)) <| f (s,a,(k:Int)+1)) (fun x=>x=(s,a,(((s.takeWhile isD).length:Nat):Int))):=fun w=>by
    rw[ZnO];refine⟨ZnS (by omega),r (k+1) ⟨by omega,fun j t o=> ?_⟩ (by omega)⟩;grind
   cases h1:decide (((s[k].toNat:Nat):Int)>=48)with
   |false=>
    simp_all
   |true=>
    rw[cond_true,Z4r];cases h2:decide (((s[k].toNat:Nat):Int)<=57)with
    |false=>
     simp_all
    |true=>
     rw[cond_true];exact n (by rw[<-m,h1,h2];rfl)
  grind
 ·rintro x rfl;dsimp only;unfold ZzM Zv3;have v:(s.takeWhile isD).length<=s.length:=(List.takeWhile_sublist _).length_le;have d:(s.takeWhile isD).length+(s.dropWhile isD).length=s.length:=by grind[Z4k]
  rw[ZnO,Z3X,ZUp];refine⟨Zpc (by omega), ?_⟩;unfold ZH9
  by_cases h1:1<=(s.takeWhile isD).length
  ·rw[decide_eq_false (show ¬(((s.takeWhile isD).length:Nat):Int) < 1 by omega),cond_false,decide_eq_true h1,Z3T]
   by_cases h2:(s.takeWhile isD).length<=15
   ·rw[decide_eq_false (show ¬(((s.takeWhile isD).length:Nat):Int) > 15 by omega),cond_false,decide_eq_true h2,cond_true];cases hR:s.dropWhile isD with
    |nil=>
     grind[ZnL]
    |cons c p=>
     rw[hR]at d;simp only[Z4d]at d;have b:(s.takeWhile isD).length < s.length:=by omega
     have i:s[(s.takeWhile isD).length]=c:=by grind[ZQm,Z36]
     have e:s.drop ((((s.takeWhile isD).length:Nat):Int)+1).toNat=p:=by rw[show ((((s.takeWhile isD).length:Nat):Int)+1).toNat=(s.takeWhile isD).length+1 by omega];grind[ZQm,Z36]
     rw[show ((((s.takeWhile isD).length:Nat):Int) == (s.length:Int))=false by grind,cond_false,ZnO,ZnO,Zqc b,Z4r,i,e];refine⟨ZnS (by omega),Zpc (by omega), ?_⟩;dsimp only;have g:(((c.toNat:Nat):Int) != 46)= !(c == 46):=by rw[<-ZKN c 46];rfl
     rw[g];cases hc:c == 46 with
     |false=>
      grind[ZoX,ZnL]
     |true=>
      rw[Z3S,cond_false,Z3T];unfold okD
      by_cases h3:1<=p.length
      all_goals grind[ZSp,ZnL,ZoX]
   grind[ZnL]
  grind[ZnL]
theorem ZO5 {t:Str} (hl:t.length<=9223372036854775807):ZuT t=some (match ZIm t with |some x=>(x.1,x.2.1,x.2.2,true) |none=>(false,[],[],false)):=by
 have fin:∀(s:Str) (neg:Bool),s.length<=9223372036854775807->Zpv s neg=some (match (ZH9 s).map fun x=>(neg,x.1,x.2)with |some x=>(x.1,x.2.1,x.2.2,true) |none=>(false,[],[],false)):=fun s neg h=>by grind[ZSq]
 unfold ZuT Zs7 ZIm ZMq;cases t with
 |nil=>
  simp_all
 |cons b r=>
  simp only[Z4d]at hl;rw[decide_eq_true (show (((b::r).length:Nat):Int) > 0 by simp_all),cond_true];have h0:idx (b::r) 0=some b:=rfl;have e43:(((b.toNat:Nat):Int) == 43)=(b == 43):=ZKN b 43;have e45:(((b.toNat:Nat):Int) == 45)=(b == 45):=ZKN b 45;grind[Zpc,chk_true]
end Go.Proofs
namespace Go.Proofs
open Go Eng
theorem ZOh {b:UInt8} (h:isD b=true):IntKind.wrap .i64 (IntKind.wrap .u8 (((b.toNat:Nat):Int) - 48))=((b.toNat - 48:Nat):Int):=by grind[isD,wrap_u8,wrap_i64]
theorem wlN {n:Nat} (h:n < 2 ^ 90):Wl 50000 (n:Int):=by unfold Wl;rw[Z3W];exact Z4p (ZLc h 3 (by decide)) (by decide)
theorem wl10:Wl 50000 10:=wlN (n:=10) (by decide)
theorem ZVF:ZnP.mk false ([]:List Int)=bg ((0:Nat):Int):=by kernel_rfl
theorem ZVv {P:Str} (c:P.all isD=true) {i:Nat} (hi:i < P.length):(Utf8.decode ⟨P.toArray⟩ i).2=1:=by
 have b:i < (⟨P.toArray⟩:ByteArray).size:=by show i < P.toArray.size;omega
 have a:=Z30.1 c _ (Z4a hi);unfold isD at a;simp only[ZYu,decide_eq_true_eq]at a;rw[decode_ascii ⟨P.toArray⟩ i b (by show (P.toArray[i]).toNat < 128;grind)]
theorem ZMt {t:Str} (u:t.length<=9223372036854775807):ZwG t=some (match ZIm t with |some x=>(fOf (ZSP x),true) |none=>(zf,false)):=by
 unfold ZwG;rw[ZO5 u,Z4r];cases hp:ZIm t with
 |none=>rfl
 |some x=>
  obtain⟨a,D,P⟩:=x;dsimp only;have h:ZKK D P:=by
   grind[ZIm,ZH9,ZFJ]
  have r:=h.d2;have v:=h.p;have c:(D++P).all isD=true:=by rw[Z3Y,h.dd,h.pp];rfl
  have j:(D++P).length<=24:=by grind
  refine Zps ?_;rw[Z3S,cond_false,ZFf 1 (by decide) (by decide),Z4r,ZnO,ZnO,ZnN,ZVF];refine⟨decide_eq_true (by grind[Zq]),decide_eq_true (by omega), ?_⟩;refine ZnU (Zva ZFT (D++P).length (by omega) (fun i (n:Nat)=>(a,P,(((D++P).map fun b:UInt8=>((b.toNat:Nat):Int)).length:Int),i,false,false,bg (n:Int),bg 1,(D++P).map (fun b:UInt8=>((b.toNat:Nat):Int)),([]:List Int),([]:List Int))) (fun i n=>n=ZIS ((D++P).take i))
   (Q:=fun x=>x=(a,P,false,false,bg (ZIS (D++P):Int),bg 1,([]:List Int),([]:List Int))) 0 (by rfl) ?_ ?_) ?_
  ·rintro o i n hi rfl y;unfold Zw9 Ztq;dsimp only;have m:isD (D++P)[i]=true:=Z30.1 c _ (Z4a hi);have z:ZIS ((D++P).take i) < 2 ^ 80:=ZJj (Z30.2 fun b m=>Z30.1 c b (List.mem_of_mem_take m)) (by grind);have w:ZIS ((D++P).take (i+1))=ZIS ((D++P).take i)*10+((D++P)[i].toNat - 48):=by grind[Z4o,ZNd]
   have f:i < ((D++P).map fun b:UInt8=>((b.toNat:Nat):Int)).length:=by grind
   have e:=m;unfold isD at e;simp only[ZYu,decide_eq_true_eq]at e;rw[decide_eq_true (show (i:Int) < (((D++P).map fun b:UInt8=>((b.toNat:Nat):Int)).length:Int) by omega),cond_true,ZoP f,chk_true,Z3X,List.getElem?_eq_getElem f,Z4r,List.getElem_map,
    ZFf 10 (by decide) (by decide),Z4r,ZAV ((ZIS ((D++P).take i):Nat):Int) 10 (wlN (by omega)) wl10,Z4r,ZOh m,ZFf _ (by omega) (by omega),Z4r]
   have s:((ZIS ((D++P).take i):Nat):Int)*10=((ZIS ((D++P).take i)*10:Nat):Int):=by omega
   rw[s,ZK5 _ _ (wlN (by omega)) (wlN (by omega)),Z4r,ZnO];grind[ZnS]
  ·grind[Zw9,Ztq,ZnL]
  ·rintro x rfl;dsimp only;unfold Zyu;rw[ZnN];refine ZnU (Zpm ZFS (fun(k:Nat)=>(a,false,false,bg (ZIS (D++P):Int),bg ((10 ^ k:Nat):Int),P,k,([]:List Int),([]:List Int))) (fun k=>k<=P.length) (fun k=>P.length - k)
    (Q:=fun x=>x=(a,false,false,bg (ZIS (D++P):Int),bg ((10 ^ P.length:Nat):Int),([]:List Int),([]:List Int))) 0 (Nat.zero_le _) (by omega) ?_) ?_
   ·rintro o k A y;unfold ZB0 Zw8 ZuN;dsimp only
    by_cases hlt:k < P.length
    ·have p:=ZJE (show k<=24 by omega);rw[decide_eq_true hlt,cond_true,cond_true,ZFf 10 (by decide) (by decide),Z4r,ZAV ((10 ^ k:Nat):Int) 10 (wlN (by omega)) wl10,Z4r,ZVv h.pp hlt];grind
    grind[ZnL]
   ·rintro x rfl;dsimp only;unfold Zyt ZuM;have q:=ZJj c j;have p:=ZJE (show P.length<=24 by omega);have l:((10 ^ P.length:Nat):Int)≠0:=by grind
    have d:Wl 50000 ((10 ^ P.length:Nat):Int):=wlN (by omega);have g:Wl 50000 (ZIS (D++P):Int):=wlN (by omega);cases a with
    |false=>
     rw[cond_false,ZJH _ _ l g d,Z4r,ZnL];rfl
    |true=>
     rw[cond_true,ZLs _ (Z4p g (by decide)),Z4r,ZJH _ _ l (by simp_all) d,Z4r,ZnL];rfl
end Go.Proofs
namespace Go.Proofs
open Go Eng
def is0 (b:UInt8):Bool:=b == 48
def sp (b:UInt8):Bool:=b == 32
def rtr (p:UInt8->Bool) (l:Str):Str:=(l.reverse.dropWhile p).reverse
def lz (D:Str):Str:=bif (D.dropWhile is0).isEmpty then [48]else D.dropWhile is0
def rz (P:Str):Str:=rtr is0 P
def ZO6 (D P:Str):Str:=lz D++(bif (rz P).isEmpty then []else 46::rz P)
def ZSU (x:Bool×Str×Str):Str:=bif x.1&& !(ZO6 x.2.1 x.2.2 == [48])then 45::ZO6 x.2.1 x.2.2 else ZO6 x.2.1 x.2.2
theorem ZMr (p:UInt8->Bool) (P:Str):(rtr p P).length<=P.length:=by grind[rtr,Z35]
theorem ZQQ {D:Str} (h:1<=D.length):(lz D).length<=D.length:=by
 grind[lz,Z35]
theorem ZMz {D P:Str} (h:1<=D.length) (b:D.length<=15) (a:P.length<=9):(ZO6 D P).length<=25:=by
 grind[ZQQ,ZMr,ZO6,rz]
theorem ZOS (p:UInt8->Bool) (l:Str) (b:UInt8):rtr p (l++[b])=bif p b then rtr p l else l++[b]:=by
 grind[rtr,Z34]
theorem ZOT (p:UInt8->Bool) (b:UInt8) (l:Str):rtr p (b::l)=bif (rtr p l).isEmpty then (bif p b then []else [b])else b::rtr p l:=by
 unfold rtr;rw[List.reverse_cons];grind[List.dropWhile_append,Z34]
theorem ZMX (p:UInt8->Bool):∀l:Str,(rtr p l).dropWhile p=rtr p (l.dropWhile p)
 | []=>rfl
 |b::l=>by
  have a:=ZMX p l;grind[ZOT,Z34]
theorem ZJf (c:UInt8):(fun b:UInt8=>([c]:Str).contains b)=fun b=>b == c:=by grind
def ZLQ (s:Str):Str:=(rtr sp s).dropWhile sp
theorem ZR0 (s:Str):Lib.trimS s [32]=ZLQ s:=by unfold Lib.trimS Lib.trimLeftS Lib.trimRightS ZLQ rtr;rw[ZJf];rfl
theorem ZNX (s:Str):ZHH s=some (ZLQ s):=by grind[ZHH,ZE2,decide,chk_true,ZR0]
theorem ZMY (s:Str):(ZLQ s).length<=s.length:=Z4p (Z35 _).length_le (ZMr sp s)
theorem ZPx {s:Str} (j:s.length<=9223372036854775807):Zy5 s=some (ZLQ s):=by
 refine Zps ?_;unfold Zy5;rw[ZnN];refine ZnU (ZLd ZGV (fun(d:Str)=>d) (fun d=>d.dropWhile sp=s.dropWhile sp/\d.length<=s.length) (fun d=>d.length) (Q:=fun x=>x=s.dropWhile sp) s ⟨rfl,Nat.le_refl _⟩ (by omega) ?_) ?_
 ·rintro f d ⟨e,a⟩ i;unfold ZDs Zy4 ZwE;dsimp only;cases d with
  |nil=>
   rw[show decide ((([]:Str).length:Int) > 0)=false from rfl,cond_false,cond_false,ZnL,<-e];rfl
  |cons b r=>
   simp only[Z4d]at a;have g:(((b.toNat:Nat):Int) == 32)=sp b:=ZKN b 32;grind[idx,Z34,ZnO,Zpc,ZnL]
 ·rintro x rfl;unfold ZAH;have c:(s.dropWhile sp).length<=s.length:=(Z35 _).length_le;rw[ZnN];refine ZnU (ZLd ZGU (fun(d:Str)=>d) (fun d=>rtr sp d=rtr sp (s.dropWhile sp)/\d.length<=s.length) (fun d=>d.length) (Q:=fun x=>x=rtr sp (s.dropWhile sp)) (s.dropWhile sp) ⟨rfl,c⟩ (by omega) ?_) ?_
  ·rintro f d ⟨e,a⟩ i;unfold ZDq Zy3 ZwD;dsimp only;rcases Z37 d with rfl |⟨q,b,rfl⟩
   ·rw[show decide ((([]:Str).length:Int) > 0)=false from rfl,cond_false,cond_false,ZnL,<-e];rfl
   ·rw[Z31]at*
    have h:(q++[b]).length=q.length+1:=by simp
    have hi:idx (q++[b]) ((((q++[b]).length:Nat):Int) - 1)=some b:=by grind[Zqc]
    have g:(((b.toNat:Nat):Int) == 32)=sp b:=ZKN b 32;grind[ZOS,ZnO,ZnS,Zpc,ZnL]
  grind[ZAG,ZnL,ZLQ,ZMX]
theorem lz_0 {r:Str} (a:r≠[]):lz (48::r)=lz r:=by grind[lz,Z34,is0]
theorem ZQJ {a:Bool} {D P:Str} (i:1<=D.length) (o:D.length<=15) (l:P.length<=9):Zxq a D P=some (ZSU (a,D,P)):=by
 have v:=ZQQ i;have u:=ZMr is0 P;refine Zps ?_;unfold Zxq;rw[ZnN];refine ZnU (Zpm ZF3 (fun(d:Str)=>(a,d,P)) (fun d=>lz d=lz D/\1<=d.length/\d.length<=15) (fun d=>d.length) (Q:=fun x=>x=(a,lz D,P)) D ⟨rfl,i,o⟩ (by omega) ?_) ?_
 ·rintro h d ⟨f,j,k⟩ n;unfold ZCl ZxK Zvl;dsimp only;cases d with
  |nil=>simp_all
  |cons b r=>
   have g:(((b.toNat:Nat):Int) == 48)=is0 b:=ZKN b 48;simp only[Z4d]at j k;cases r with
   |nil=>
    rw[show decide ((([b]:Str).length:Int) > 1)=false from rfl,cond_false,cond_false,ZnL,<-f];unfold lz;rw[Z34];cases hb:is0 b with
    |true=>
     have:b=48:=eq_of_beq hb;simp_all
    |false=>rfl
   |cons c r=>
    rw[decide_eq_true (show (((b::c::r).length:Nat):Int) > 1 by grind),cond_true,show idx (b::c::r) 0=some b from rfl,Z4r,g];grind[ZnO,Zpc,ZnL,lz,Z34]
 ·rintro x rfl;dsimp only;unfold ZyY;rw[ZnN];refine ZnU (Zpm ZF2 (fun(d:Str)=>(a,lz D,d)) (fun d=>rz d=rz P/\d.length<=9) (fun d=>d.length) (Q:=fun x=>x=(a,lz D,rz P)) P ⟨rfl,l⟩ (by omega) ?_) ?_
  ·rintro h d ⟨f,t⟩ n;unfold ZCj ZxJ Zvk;dsimp only;rcases Z37 d with rfl |⟨q,b,rfl⟩
   ·rw[show decide ((([]:Str).length:Int) > 0)=false from rfl,cond_false,cond_false,ZnL,<-f];rfl
   ·rw[Z31]at*
    have m:(q++[b]).length=q.length+1:=by simp
    have hi:idx (q++[b]) ((((q++[b]).length:Nat):Int) - 1)=some b:=by grind[Zqc]
    have g:(((b.toNat:Nat):Int) == 48)=is0 b:=ZKN b 48;unfold rz at f;rw[ZOS]at f;rw[decide_eq_true (show (((q++[b]).length:Nat):Int) > 0 by omega),cond_true,ZnO,hi,Z4r,g];refine⟨ZnS (by omega), ?_⟩;cases hb:is0 b with
    |true=>
     rw[hb,cond_true]at f;rw[cond_true,ZnO,ZnO];refine⟨ZnS (by omega),Zpc (by omega), ?_⟩;rw[show ((((q++[b]).length:Nat):Int) - 1).toNat=q.length by omega,Z4m rfl];exact n q ⟨f,by omega⟩ (by omega)
    |false=>
     rw[hb,cond_false]at f;rw[cond_false,ZnL,f];rfl
  ·rintro x rfl;dsimp only;unfold ZyX Zvj Zvi Zvh;have p:=ZMz i o l;have s:∀e:Str,e=ZO6 D P->wp (bif a then (bif (!(e == ([48]:Str)))then chk (decide (([45]:Str).length+e.length<=Zq)) <| some (([45]:Str)++e)else some e)else (bif false then chk (decide (([45]:Str).length+e.length<=Zq)) <| some (([45]:Str)++e)else some e)) (fun x=>x=ZSU (a,D,P)):=by
    grind[ZSU,ZnL,ZnO,Zq]
   grind[ZO6,ZnO,Zq]
end Go.Proofs
namespace Go.Proofs
open Go Eng
theorem ZSQ (a:Str):ZFH [a,[48]]=some (bif a.isEmpty then [48]else a):=by
 have key:wp (ZA7 big ([]:Str) [a,[48]] ((([a,[48]]:List Str).length:Nat):Int) 0) (fun x=>x= .ret (bif a.isEmpty then [48]else a)):=by
  refine Zr6 ZJc ([a,[48]]:List Str) (by simp) (fun i (_:Unit)=>(([]:Str),([a,[48]]:List Str),((([a,[48]]:List Str).length:Nat):Int),i)) (fun k _=>k<=1/\(k=1->a=[])) () ⟨by omega,fun h=>by omega⟩ ?_ ?_
  ·rintro c k _ d ⟨j,l⟩ e;unfold ZHa ZER;dsimp only;rw[decide_eq_true (show (k:Int) < ((([a,[48]]:List Str).length:Nat):Int) by omega),cond_true,Zqc d,Z4r];rcases Nat.eq_zero_or_pos k with rfl |f
   ·show wp (bif (!(a == []))then some (Out.ret a)else chk (inK .i64 (((0:Nat):Int)+1)) (c ([],[a,[48]],((([a,[48]]:List Str).length:Nat):Int),((0:Nat):Int)+1))) _;cases a with
    |nil=>
     rw[show (!(([]:Str) == ([]:Str)))=false from rfl,cond_false,ZnO];exact⟨by decide,e () ⟨by omega,fun _=>rfl⟩⟩
    |cons b r=>
     grind[ZnL]
   grind[ZnL]
  simp_all
 unfold ZFH;obtain⟨x,g,rfl⟩:=key;simp_all
theorem ZSe (t:Str):(ZMq t).2.length<=t.length:=by
 unfold ZMq;grind
theorem ZF9 {t:Str} {x:Bool×Str×Str} (h:ZIm t=some x):x.1=(ZMq t).1/\ZH9 (ZMq t).2=some x.2:=by
 grind[ZIm,ZH9]
theorem ZPQ {b:Str} {x:Str×Str} (h:ZH9 b=some x):∃c r,b=c::r/\isD c=true:=by
 have a:=ZFJ h;rw[ZKg]at h;cases b with
 |nil=>simp[okD]at h
 |cons c r=>
  grind[Z4l,okD]
theorem ZYv (b:UInt8):([43,45]:Str).contains b=((b == 45)||(b == 43)):=by grind
theorem ZYM {b:UInt8} (h:isD b=true):((b == 45)||(b == 43))=false:=by
 cases h1:b == 45 with
 |true=>rw[eq_of_beq h1]at h;exact absurd h (by decide)
 |false=>
  cases h2:b == 43 with
  |true=>rw[eq_of_beq h2]at h;exact absurd h (by decide)
  |false=>rfl
theorem ZRZ {t:Str} {x:Bool×Str×Str} (h:ZIm t=some x):Lib.trimLeftS t [43,45]=(ZMq t).2/\∃b r,t=b::r/\(b == 45)=x.1:=by
 obtain⟨f,g⟩:=ZF9 h;obtain⟨c,r,i,d⟩:=ZPQ g;have e:=ZYM d;unfold Lib.trimLeftS;rw[show (fun b:UInt8=>([43,45]:Str).contains b)=fun b=>(b == 45)||(b == 43)from funext ZYv];have a:(c::r).dropWhile (fun b=>(b == 45)||(b == 43))=c::r:=by simp_all
 rw[f];cases t with
 |nil=>grind[ZMq]
 |cons b s=>
  grind[ZMq,Z34]
theorem ZOi {t:Str} (w:t.length<=9223372036854775807):ZDI t=some (match ZIm t with |some x=>(ZSU x,true) |none=>([],false)):=by
 unfold ZDI;rw[ZL8 w,Z4r];cases n:ZIm t with
 |none=>rfl
 |some x=>
  obtain⟨e,D,P⟩:=x;obtain⟨B,o⟩:=ZF9 n;obtain⟨q,b,r,l,a⟩:=ZRZ n;have d:=ZFJ o;have y:=ZSe t;dsimp only at B a|-
  have m:=ZKg (ZMq t).2;rw[o]at m;have h:D=(ZMq t).2.takeWhile n46/\P=((ZMq t).2.dropWhile n46).tail:=by
   grind
  unfold ZDz ZFc;rw[Z3S,cond_false,show (([43,45]:Str).all fun b=>decide (b.toNat < 128))=true from by decide,chk_true,show decide (([43,45]:Str).length < 4294967281)=true from by decide,chk_true,Z4r,q,Zj2 (by omega),Z4r];dsimp only;rw[<-h.1,<-h.2,show (([48]:Str).all fun b=>decide (b.toNat < 128))=true from by decide,chk_true,show decide (([48]:Str).length < 4294967281)=true from by decide,chk_true,Z4r,chk_true,chk_true,Z4r];have u:Lib.trimLeftS D [48]=D.dropWhile is0:=by unfold Lib.trimLeftS;rw[ZJf];rfl
  have C:Lib.trimRightS P [48]=rz P:=by unfold Lib.trimRightS rz rtr;rw[ZJf];rfl
  rw[u,C,ZSQ,Z4r];show (bif (!(rz P == ([]:Str)))then _ else ZvB t (lz D))=_;have g:=d.d1;have j:=d.d2;have i:=d.p;have A:=ZMz g j i;have p:=ZQQ g;have v:=ZMr is0 P;have z:∀f:Str,f=ZO6 D P->ZvB t f=some (ZSU (e,D,P),true):=by
   rintro f rfl;unfold ZvB ZDe ZDd ZSU;have k:(((b.toNat:Nat):Int) == 45)=e:=(ZKN b 45).trans a;rw[l,show idx (b::r) 0=some b from rfl,Z4r,k];dsimp only;cases e with
   |false=>simp_all
   |true=>
    rw[cond_true,Z3T];cases (!(ZO6 D P == [48]))with
    |false=>simp_all
    |true=>
     rw[cond_true,cond_true,decide_eq_true (by grind[Zq]),chk_true];rfl
  cases hP:rz P with
  |nil=>
   grind[ZO6]
  |cons c s=>
   grind[Zq,chk,decide,lz,ZO6]
theorem ZST {x:Bool×Str×Str} (h:ZKK x.2.1 x.2.2):(ZSU x).length<=26:=by
 have:=ZMz h.d1 h.d2 h.p;grind[ZSU]
def ZJv (s:Str):Option Str:=(ZIm (ZLQ s)).map ZSU
def ZRX (s:Str):Option Rat:=match ZJv s with
 |some t=>(ZIm t).map ZSP
 |none=>none
theorem ZMa {s t:Str} (h:ZJv s=some t):t.length<=26:=by
 unfold ZJv at h;cases a:ZIm (ZLQ s)with
 |none=>simp_all
 |some x=>
  rw[a]at h;simp only[Z4s,Z4t]at h;subst h;obtain⟨_,b⟩:=ZF9 a;grind[ZST,ZFJ]
theorem ZRh {s:Str} (c:s.length<=9223372036854775807):Zzl 4 s=some (match ZJv s with |some t=>(t,true) |none=>([],false)):=by
 have h:Zzl 4 s=(ZHH s).bind fun q=>(ZDI q).bind fun(a,b)=>some (a,b):=by kernel_rfl
 grind[ZMY,ZNX,ZOi,ZJv]
theorem ZQl {s:Str} (d:s.length<=9223372036854775807):ZFs 4 s=some (match ZRX s with |some q=>(fOf q,true) |none=>(zf,false)):=by
 have h:ZFs 4 s=(Zzl 4 s).bind fun(t,c)=>bif (!c)then some (zf,false)else (Zya t).bind fun(a,b)=>some (a,b):=by kernel_rfl
 grind[ZRh,ZRX,ZMa,ZL8]
theorem ZN2 {s:Str} (f:s.length<=9223372036854775807):ZxZ 4 s=some (match ZRX s with |some q=>(fOf q,true) |none=>(zf,false)):=by
 have b:Zvm 4 s=some (match ZJv s with |some t=>(t,true) |none=>([],false)):=by
  have c:=ZMY s;unfold Zvm Ztn;rw[ZPx f,Z4r,show ((4:Int) == 1)=false from rfl,show ((4:Int) == 2)=false from rfl,show ((4:Int) == 3)=false from rfl,show ((4:Int) == 4)=true from rfl];simp only[cond_false,cond_true];rw[ZO5 (by omega),Z4r];unfold ZJv;cases d:ZIm (ZLQ s)with
  |none=>rfl
  |some x=>
   obtain⟨_,e⟩:=ZF9 d;have a:=ZFJ (D:=x.2.1) (P:=x.2.2) e;dsimp only;unfold Zro;rw[cond_true,cond_true,ZQJ a.d1 a.d2 a.p,Z4r];rfl
 unfold ZxZ ZvQ;rw[b,Z4r];unfold ZRX;cases hc:ZJv s with
 |none=>rfl
 |some t=>
  grind[ZMa,ZMt]
def ZKV (c:G_api_Cell):Option Rat:=bif c.Null then none else ZRX c.Text
theorem ZN9 {c:G_api_Cell} (hl:c.Text.length<=9223372036854775807):ZIL c=some (match ZKV c with |some q=>(fOf q,true) |none=>(bif c.Null then fOf 0 else zf,false)):=by
 grind[ZIL,ZKV,ZLb,ZQl]
theorem ZM6 {c:G_api_Cell} (a:c.Text.length<=9223372036854775807):Zxn c=some (match ZKV c with |some q=>(fOf q,true) |none=>(zf,false)):=by
 unfold Zxn ZKV;cases c.Null with
 |true=>rfl
 |false=>
  grind[ZN2]
theorem ZVw {x:Bool×Str×Str} (h:ZKK x.2.1 x.2.2):Sz 80 (ZSP x):=by have c:=h.d2;have d:=h.p;have a:ZIS (x.2.1++x.2.2) < 2 ^ 80:=ZJj (by rw[Z3Y,h.dd,h.pp];rfl) (by grind);have b:=ZJE (show x.2.2.length<=24 by omega);grind[ZSP,ZGm]
theorem ZMM {c:G_api_Cell} {q:Rat} (h:ZKV c=some q):Sz 80 q:=by
 unfold ZKV at h;cases hn:c.Null with
 |true=>simp_all
 |false=>
  rw[hn,cond_false]at h;unfold ZRX at h;cases hc:ZJv c.Text with
  |none=>simp_all
  |some t=>
   rw[hc]at h;dsimp only at h;cases a:ZIm t with
   |none=>simp_all
   |some x=>
    rw[a]at h;simp only[Z4s,Z4t]at h;subst h;obtain⟨_,b⟩:=ZF9 a;grind[ZVw,ZFJ]
end Go.Proofs
namespace Go.Proofs
open Go Eng
def Dz (D B:Nat) (q:Rat):Prop:=∃a:Int,q*((D:Int):Rat)=(a:Rat)/\a.natAbs<=B
theorem Dz.mono {D B C:Nat} {q:Rat} (h:Dz D B q) (b:B<=C):Dz D C q:=by obtain⟨a,c,d⟩:=h;exact⟨a,c,Z4p d b⟩
theorem ZOf (D:Nat):Dz D 0 0:=⟨0,by simp_all,Nat.le_refl _⟩
theorem Dz.add {D B C:Nat} {p q:Rat} (d:Dz D B p) (c:Dz D C q):Dz D (B+C) (p+q):=by obtain⟨a,g,h⟩:=d;obtain⟨b,f,e⟩:=c;exact⟨a+b,by grind,by omega⟩
theorem Dz.neg {D B:Nat} {p:Rat} (b:Dz D B p):Dz D B (-p):=by obtain⟨a,c,d⟩:=b;exact⟨-a,by grind,by omega⟩
theorem Dz.sub {D B C:Nat} {p q:Rat} (a:Dz D B p) (b:Dz D C q):Dz D (B+C) (p - q):=by rw[Rat.sub_eq_add_neg];exact a.add b.neg
theorem Dz.mul {D E B C:Nat} {p q:Rat} (d:Dz D B p) (c:Dz E C q):Dz (D*E) (B*C) (p*q):=by
 obtain⟨a,g,h⟩:=d;obtain⟨b,f,e⟩:=c;refine⟨a*b, ?_, ?_⟩
 ·grind
 simp_all[Z3V,Nat.mul_le_mul]
theorem Dz.nat {D B:Nat} {q:Rat} (h:Dz D B q) (n:Nat):Dz D (n*B) (Rat.divInt (n:Int) 1*q):=by
 obtain⟨a,b,c⟩:=h;refine⟨n*a, ?_, ?_⟩
 all_goals simp_all[ZHD,Rat.mul_assoc,Z3V,Nat.mul_le_mul_left]
theorem Dz.sz {D B k:Nat} {q:Rat} (h:Dz D B q) (b:0 < D) (g:D < 2 ^ k) (i:B < 2 ^ k):Sz k q:=by
 obtain⟨a,d,c⟩:=h;have f:((D:Int):Rat)≠0:=fun e=>by have:((D:Int):Rat)=((0:Int):Rat):=e;have:=Rat.intCast_inj.1 this;omega
 have e:q=Rat.divInt a (D:Int):=by grind[Rat.divInt_eq_div]
 grind[ZGm]
def fP (p:Rat×Rat):ZnV:=⟨fOf p.1,fOf p.2⟩
def sR (f:Rat×Rat->Rat) (l:List (Rat×Rat)):Rat:=l.foldl (fun s p=>s+f p) 0
theorem ZN1 (f:Rat×Rat->Rat) (l:List (Rat×Rat)) (p:Rat×Rat):sR f (l++[p])=sR f l+f p:=by grind[sR]
def mR (l:List (Rat×Rat)):Zn0:=⟨(l.length:Int),fOf (sR (fun p=>p.1) l),fOf (sR (fun p=>p.2) l),fOf (sR (fun p=>p.1*p.1) l),fOf (sR (fun p=>p.2*p.2) l),fOf (sR (fun p=>p.1*p.2) l)⟩
abbrev M0:Nat:=840000000000
abbrev B0:Nat:=6720000000000000000000000000
def DzP (p:Rat×Rat):Prop:=Dz M0 B0 p.1/\Dz M0 B0 p.2
def DzL (l:List (Rat×Rat)):Prop:=∀p∈l,DzP p
theorem ZPt {f:Rat×Rat->Rat} {D B:Nat} (a:∀p,DzP p->Dz D B (f p)):∀(n:Nat) (l:List (Rat×Rat)),l.length=n->DzL l->Dz D (n*B) (sR f l)
 |0,l,hl,_=>by rw[List.eq_nil_of_length_eq_zero hl,Nat.zero_mul];exact ZOf D
 |n+1,l,hl,h=>by
  rcases Z37 l with rfl |⟨v,x,rfl⟩
  ·grind
  ·rw[Z31]at hl h|-
   rw[ZN1,Nat.add_mul,Nat.one_mul];exact(ZPt a n v (by simp_all) (fun p b=>h p (by grind))).add (a x (h x (by simp)))
structure SumD (x y xx yy xy:Rat):Prop where
 x:Dz M0 (12*B0) x
 y:Dz M0 (12*B0) y
 xx:Dz (M0*M0) (12*(B0*B0)) xx
 yy:Dz (M0*M0) (12*(B0*B0)) yy
 xy:Dz (M0*M0) (12*(B0*B0)) xy
theorem ZLh {l:List (Rat×Rat)} (a:l.length<=12) (h:DzL l):SumD (sR (fun p=>p.1) l) (sR (fun p=>p.2) l) (sR (fun p=>p.1*p.1) l) (sR (fun p=>p.2*p.2) l) (sR (fun p=>p.1*p.2) l):=
 ⟨(ZPt (fun _ h=>h.1) _ l rfl h).mono (Z4q _ a),(ZPt (fun _ h=>h.2) _ l rfl h).mono (Z4q _ a),(ZPt (fun _ h=>h.1.mul h.1) _ l rfl h).mono (Z4q _ a),(ZPt (fun _ h=>h.2.mul h.2) _ l rfl h).mono (Z4q _ a),(ZPt (fun _ h=>h.1.mul h.2) _ l rfl h).mono (Z4q _ a)⟩
theorem dz1 {q:Rat} (h:Dz M0 (12*B0) q):Sz 200 q:=h.sz (by decide) (by decide) (by decide)
theorem dz2 {q:Rat} (h:Dz (M0*M0) (12*(B0*B0)) q):Sz 200 q:=h.sz (by decide) (by decide) (by decide)
theorem dz0 {q:Rat} (h:Dz M0 B0 q):Sz 100 q:=h.sz (by decide) (by decide) (by decide)
theorem szP {p:Rat×Rat} (h:DzP p):Sz 100 p.1/\Sz 100 p.2:=⟨dz0 h.1,dz0 h.2⟩
theorem ZRd {l:List (Rat×Rat)} {p:Rat×Rat} (e:l.length<=12) (h:DzL l) (d:DzP p):ZEx (mR l) (fP p).e0 (fP p).e1=some (mR (l++[p])):=by have c:=ZLh e h;obtain⟨a,b⟩:=szP d;unfold ZEx mR fP;dsimp only;rw[ZnS (by omega),chk_true,ZIx (dz1 c.x) a (by decide),Z4r,ZIx (dz1 c.y) b (by decide),Z4r,ZHY a a (by decide),Z4r,ZIx (dz2 c.xx) (a.mul a) (by decide),Z4r,ZHY b b (by decide),Z4r,ZIx (dz2 c.yy) (b.mul b) (by decide),Z4r,ZHY a b (by decide),Z4r,ZIx (dz2 c.xy) (a.mul b) (by decide),Z4r];grind[ZN1]
theorem ZU0:ZDE=some (mR []):=by unfold ZDE;rw[ZLb,Z4r,Z4r,Z4r,Z4r,Z4r];rfl
theorem ZPh {l:List (Rat×Rat)} (D:l.length<=12) (h:DzL l):ZCY (l.map fP)=some (mR l):=by
 refine Zps ?_;unfold ZCY;rw[ZU0,ZnN,ZnL,ZnN,Z4e];refine ZnU (Zva ZI3 l.length (by omega) (fun i (m:Zn0)=>(l.map fP,(l.length:Int),i,0,false,false,false,false,false,false,false,false,false,false,m,[],[],[],[],[],[],[],[],[],[])) (fun i m=>m=mR (l.take i)) (Q:=fun y=>∃a0 j o d e t k s f c a w z g u x q n v r b,y=(a0,j,o,d,e,t,k,s,f,c,a,mR l,w,z,g,u,x,q,n,v,r,b)) (mR []) rfl ?_ ?_) ?_
 ·rintro A i m hi rfl C;unfold ZEl ZA6;dsimp only;rw[Zn1];refine⟨fun _=> ?_,fun h=>by grind⟩;rw[Zqc (by grind),ZnN,ZnL,ZnO,ZnO,List.getElem_map,ZRd (by grind) (fun p B=>h p (List.mem_of_mem_take B)) (h _ (Z4a hi)),ZnN,ZnL,ZnO];refine⟨by decide,by decide,ZnS (by omega),C _ ?_⟩;rw[Z4o hi]
 ·grind[ZEl,ZA6,ZnL]
 ·rintro y ⟨a0,j,o,d,e,t,k,s,f,c,a,w,z,g,u,x,q,n,v,r,b,rfl⟩;exact ZnL.2 rfl
end Go.Proofs
namespace Go.Proofs
open Go Eng
theorem ZM7 {a:Rat}:(ZKe a 0 == 0)=decide (a=0):=by
 grind[ZKe]
theorem ZTn {n:Nat} (h:n<=31):Sz 5 (Rat.divInt (n:Int) 1):=ZGm (by decide) (by omega) (by decide)
def ZPE (n:Nat) (c a b:Rat):Rat:=Rat.divInt (n:Int) 1*c - a*b
theorem ZN7 {n:Nat} {c a b:Rat} (f:n<=12) (e:Dz (M0*M0) (12*(B0*B0)) c) (g:Dz M0 (12*B0) a) (d:Dz M0 (12*B0) b):Sz 200 (ZPE n c a b):=
 (((e.nat n).mono (Z4q _ f)).sub (g.mul d)).sz (by decide) (by decide) (by decide)
theorem ZN8 {n:Nat} {c a b:Rat} (k:n<=12) (i:Dz (M0*M0) (12*(B0*B0)) c) (j:Dz M0 (12*B0) a) (h:Dz M0 (12*B0) b):ZsQ (n:Int) (fOf c) (fOf a) (fOf b)=some (fOf (ZPE n c a b)):=by have e:=dz2 i;have d:=dz1 j;have f:=dz1 h;have g:=ZTn (n:=n) (by omega);unfold ZsQ ZPE;rw[ZPa _ 1 (by decide) (by omega) (by omega) (by decide) (by decide),Z4r,ZHY g e (by decide),Z4r,ZHY d f (by decide),Z4r,ZQK (g.mul e) (d.mul f) (by decide),Z4r]
def cR (l:List (Rat×Rat)):Rat:=ZPE l.length (sR (fun p=>p.1*p.2) l) (sR (fun p=>p.1) l) (sR (fun p=>p.2) l)
def uR (l:List (Rat×Rat)):Rat:=ZPE l.length (sR (fun p=>p.1*p.1) l) (sR (fun p=>p.1) l) (sR (fun p=>p.1) l)
def vR (l:List (Rat×Rat)):Rat:=ZPE l.length (sR (fun p=>p.2*p.2) l) (sR (fun p=>p.2) l) (sR (fun p=>p.2) l)
abbrev sqN (l:List (Rat×Rat)):Prop:=l.length < 3\/uR l=0\/vR l=0
def scR (l:List (Rat×Rat)):Rat:=cR l*cR l / (uR l*vR l)
def sqR (l:List (Rat×Rat)):ZnK×Int×Bool:=if sqN l then (fOf 0,0,false)else (fOf (scR l),ZKe (cR l) 0,true)
theorem ZQN {a b:Rat} (d:a≠0) (c:b≠0):a*b≠0:=fun e=>(Rat.mul_eq_zero.1 e).elim d c
theorem ZRc {l:List (Rat×Rat)} (b:l.length<=12) (h:DzL l):Sz 200 (cR l)/\Sz 200 (uR l)/\Sz 200 (vR l):=by have a:=ZLh b h;exact⟨ZN7 b a.xy a.x a.y,ZN7 b a.xx a.x a.x,ZN7 b a.yy a.y a.y⟩
theorem ZQw {l:List (Rat×Rat)} (g:l.length<=12) (h:DzL l) (b:¬sqN l):Sz 800 (scR l):=by
 obtain⟨a,f,c⟩:=ZRc g h;have d:uR l≠0:=fun e=>b (.inr (.inl e))
 have i:vR l≠0:=fun e=>b (.inr (.inr e))
 exact(Sz.div (ZQN d i) (a.mul a) (f.mul c)).mono (by decide)
theorem ZM1 {l:List (Rat×Rat)} (f:l.length<=12) (h:DzL l):ZyK (mR l)=some (sqR l):=by
 have b:=ZLh f h;have g:ZsQ (mR l).N (mR l).XY (mR l).X (mR l).Y=some (fOf (cR l)):=ZN8 f b.xy b.x b.y;have i:ZsQ (mR l).N (mR l).XX (mR l).X (mR l).X=some (fOf (uR l)):=ZN8 f b.xx b.x b.x;have j:ZsQ (mR l).N (mR l).YY (mR l).Y (mR l).Y=some (fOf (vR l)):=ZN8 f b.yy b.y b.y;obtain⟨a,e,d⟩:=ZRc f h;have k:∀c u v,Zr5 true false false c u v [] []=some (fOf 0,0,false):=fun c u v=>by grind[Zr5,ZLb]
 unfold ZyK sqR sqN scR;rw[g,Z4r,i,Z4r,j,Z4r,show (mR l).N=(l.length:Int)from rfl];generalize cR l=c at*
 generalize uR l=u at*
 generalize vR l=v at*
 by_cases h0:l.length < 3
 ·grind
 ·rw[decide_eq_false (by omega),cond_false,ZMp (e.wq (by decide)),Z4r,ZM7]
  by_cases hu:u=0
  ·simp_all
  ·rw[decide_eq_false hu,cond_false,ZMp (d.wq (by decide)),Z4r,ZM7]
   by_cases hv:v=0
   ·simp_all
   ·rw[decide_eq_false hv,if_neg (by simp_all)];unfold Zr5;rw[cond_false,ZHY a a (by decide),Z4r,ZHY e d (by decide),Z4r,ZNe (ZQN hu hv) (a.mul a) (e.mul d) (by decide),Z4r,ZMp (a.wq (by decide)),Z4r]
end Go.Proofs
namespace Go.Proofs
open Go Eng
def Z1T (h:Int) (c:UInt8):Int:=IntKind.wrap .u64 ((xorK .u64 h (IntKind.wrap .u64 ((c.toNat:Nat):Int)))*1099511628211)
def ZHZ (s:Str):Int:=s.foldl Z1T 14695981039346656037
theorem ZQ8 {o c g X:Type} {f:Nat->c->Option X} {body:(c->Option X)->c->Option X} (q:∀n s,f (n+1) s=body (f n) s)
  (b:List o) (i:b.length<=9223372036854775807) (d:Int->g->c) (P:Nat->g->Prop) {Q:X->Prop} (e:g) (m:P 0 e)
  (l:∀(a:c->Option X) (k:Nat) t (h:k < b.length),P k t->(∀j,P (k+1) j->wp (a (d ((k:Int)+1) j)) Q)->wp (body a (d (k:Int) t)) Q)
  (p:∀(a:c->Option X) t,P b.length t->wp (body a (d (b.length:Int) t)) Q):wp (f big (d 0 e)) Q:=by
 have key:∀(n k:Nat) t,k<=b.length->P k t->b.length - k < n->wp (f n (d (k:Int) t)) Q:=by
  intro n
  induction n with
  |zero=>omega
  |succ n r=>
   grind
 exact key big 0 e (Nat.zero_le _) m (by grind[big_eq])
theorem ZVk {s:Str} (d:s.length<=9223372036854775807):ZHv s=some (ZHZ s):=by
 refine Zps ?_;unfold ZHv;rw[ZnN];refine ZnU (ZQ8 ZJU s (by omega) (fun i (h:Int)=>(s,h,(s.length:Int),i)) (fun k h=>h=ZHZ (s.take k)) (Q:=fun x=>x=ZHZ s) 14695981039346656037 rfl ?_ ?_) ?_
 ·rintro b k h a rfl c;unfold ZFy ZDB;dsimp only;rw[decide_eq_true (show (k:Int) < (s.length:Int) by omega),cond_true,Zqc a,ZnN,ZnL,ZnO];refine⟨ZnS (by omega),c _ ?_⟩;rw[Z4o a];unfold ZHZ;rw[Z38];rfl
 all_goals grind[ZFy,ZDB,ZnL,ZG1]
theorem ZPy {s:Str} (d:s.length<=9223372036854775807):ZyU s=some (ZHZ s):=by
 refine Zps ?_;unfold ZyU;rw[ZnN];refine ZnU (ZQ8 ZGT s (by omega) (fun i (h:Int)=>(s,h,i)) (fun k h=>h=ZHZ (s.take k)) (Q:=fun x=>x=ZHZ s) 14695981039346656037 rfl ?_ ?_) ?_
 ·rintro b k h a rfl c;unfold ZyT Zvg;dsimp only;rw[decide_eq_true (show (k:Int) < (s.length:Int) by omega),cond_true,Zqc a,ZnN,ZnL,ZnO];refine⟨ZnS (by omega),c _ ?_⟩;rw[Z4o a];unfold ZHZ;rw[Z38];rfl
 all_goals grind[ZyT,Zvg,ZnL,ZAC]
theorem ZMN:∀a:List UInt8,Lib.compareBytes a a=0
 | []=>rfl
 |x::a=>by unfold Lib.compareBytes;rw[if_neg (UInt8.lt_irrefl x),if_neg (UInt8.lt_irrefl x),ZMN a]
theorem ZJw:∀{a b:List UInt8},Lib.compareBytes a b=0->a=b
 | [],[],_=>rfl
 | [],_::_,h=>by grind[Lib.compareBytes]
 |_::_,[],h=>by grind[Lib.compareBytes]
 |x::a,y::b,h=>by
  unfold Lib.compareBytes at h;split at h
  ·omega
  ·rename_i c;split at h
   ·omega
   ·rename_i d;have:x=y:=UInt8.le_antisymm (Z4u.1 d) (Z4u.1 c);rw[this,ZJw h]
theorem ZMc:∀a b:List UInt8,Lib.compareBytes b a= - Lib.compareBytes a b
 | [],[]=>by simp[Lib.compareBytes]
 | [],_::_=>by simp[Lib.compareBytes]
 |_::_,[]=>by simp[Lib.compareBytes]
 |x::a,y::b=>by
  unfold Lib.compareBytes
  by_cases h1:x < y
  ·grind
  ·by_cases h2:y < x
   ·simp_all
   ·rw[if_neg h1,if_neg h2,if_neg h2,if_neg h1,ZMc a b]
theorem ZLa:∀{a b c:List UInt8},Lib.compareBytes a b < 0->Lib.compareBytes b c < 0->Lib.compareBytes a c < 0
 | [],[],_,h,_=>by omega
 | [],_::_,[],_,h=>by grind[Lib.compareBytes]
 | [],_::_,_::_,_,_=>by simp[Lib.compareBytes]
 |_::_,[],_,h,_=>by grind[Lib.compareBytes]
 |_::_,_::_,[],_,h=>by grind[Lib.compareBytes]
 |x::a,y::b,z::c,h1,h2=>by
  unfold Lib.compareBytes at h1 h2|-
  by_cases hxy:x < y
  ·grind
  ·rw[if_neg hxy]at h1
   by_cases hyx:y < x
   ·simp_all
   ·have:x=y:=UInt8.le_antisymm (Z4u.1 hyx) (Z4u.1 hxy);subst this;rw[if_neg (UInt8.lt_irrefl x)]at h1
    by_cases hyz:x < z
    ·simp_all
    ·rw[if_neg hyz]at h2|-
     by_cases hzy:z < x
     ·simp_all
     ·rw[if_neg hzy]at h2|-
      exact ZLa h1 h2
def ZHT (a b:ZnM):Int:=if a.Hash < b.Hash then -1 else if a.Hash > b.Hash then 1 else Lib.compareBytes a.Key b.Key
theorem ZO8 (a b:Int):ZCp [a,b]=some (if a≠0 then a else b):=by
 obtain⟨n,j⟩:=ZKF 3 (by omega);have e:idx [a,b] 0=some a:=rfl;have d:idx [a,b] 1=some b:=rfl;have l:((([a,b]:List Int).length:Nat):Int)=2:=rfl;have g:∀c,Zsw c 0 [a,b] 2 0=if a≠0 then some (.ret a)else c 0 [a,b] 2 1:=by
  intro c;unfold Zsw;rw[e,show decide ((0:Int) < 2)=true from rfl,cond_true,Z4r]
  by_cases h:a=0
  ·rw[if_neg (by omega),show (a != 0)=false by grind,cond_false];rfl
  grind
 have k:∀c,Zsw c 0 [a,b] 2 1=if b≠0 then some (.ret b)else c 0 [a,b] 2 2:=by
  intro c;unfold Zsw;rw[d,show decide ((1:Int) < 2)=true from rfl,cond_true,Z4r]
  by_cases h:b=0
  ·rw[if_neg (by omega),show (b != 0)=false by grind,cond_false];rfl
  grind
 have f:∀c,Zsw c 0 [a,b] 2 2=some (.brk 0):=fun c=>rfl
 have u:∀m t i,Zz5 (m+1) 0 [a,b] t i=Zsw (Zz5 m) 0 [a,b] t i:=fun _ _ _=>rfl
 unfold ZCp ZFI;grind
theorem ZSs (a b:ZnM):ZGf a b=some (ZHT a b):=by
 unfold ZGf ZES ZDF ZB3 Zrc ZHT;grind[ZO8]
def ZJz (a:ZnM):Prop:=a.Hash=ZHZ a.Key
def ltE (a b:ZnM):Bool:=decide (ZHT a b < 0)
theorem ZJF (a b:ZnM):ZHT b a= - ZHT a b:=by
 grind[ZHT,ZMc]
theorem ZL3 {a b c:ZnM} (d:ZHT a b < 0) (e:ZHT b c < 0):ZHT a c < 0:=by
 unfold ZHT at*
 by_cases e1:a.Hash < b.Hash
 ·omega
 ·rw[if_neg e1]at d
  by_cases e4:a.Hash > b.Hash
  ·omega
  ·rw[if_neg e4]at d
   by_cases e2:b.Hash < c.Hash
   ·omega
   ·rw[if_neg e2]at e
    by_cases e3:b.Hash > c.Hash
    ·omega
    ·rw[if_neg e3]at e;rw[if_neg (by omega),if_neg (by omega)];exact ZLa d e
theorem ZKh {a b:ZnM} (h:ZHT a b=0):a.Key=b.Key:=by
 grind[ZHT,ZJw]
theorem ZNa {a b:ZnM} (h:a.Key=b.Key) (d:ZJz a) (c:ZJz b):ZHT a b=0:=by
 have e:a.Hash=b.Hash:=by rw[d,c,h]
 grind[ZHT,ZMN]
end Go.Proofs
namespace Go.Proofs
open Go Eng
def ZJd (p:G_api_Cell×G_api_Cell):Option (Str×Rat):=if p.1.Null then none else (ZKV p.2).map fun q=>(p.1.Text,q)
def ZpJ (K V:List G_api_Cell):List (Str×Rat):=(K.zip V).filterMap ZJd
def ZIb (a:List Str) (r:Str×Rat):List Str:=if r.1∈a then a else a++[r.1]
def ZEV (R:List (Str×Rat)):List Str:=R.foldl ZIb []
def cnt (R:List (Str×Rat)) (k:Str):Nat:=R.countP fun r=>r.1 == k
def ZIW (k:Str) (s:Rat) (r:Str×Rat):Rat:=if r.1=k then s+r.2 else s
def sm (R:List (Str×Rat)) (k:Str):Rat:=R.foldl (ZIW k) 0
def En (R:List (Str×Rat)) (k:Str):ZnM:=⟨k,ZHZ k,(cnt R k:Int),fOf (sm R k)⟩
theorem ZKl (R:List (Str×Rat)) (r:Str×Rat):ZEV (R++[r])=ZIb (ZEV R) r:=by grind[ZEV]
theorem ZMo (R:List (Str×Rat)) (r:Str×Rat) (k:Str):sm (R++[r]) k=ZIW k (sm R k) r:=by grind[sm]
theorem ZK8 (R:List (Str×Rat)) (r:Str×Rat) (k:Str):cnt (R++[r]) k=cnt R k+if r.1=k then 1 else 0:=by
 grind[cnt]
theorem ZMD {a:List Str} (h:a.Nodup) (r:Str×Rat):(ZIb a r).Nodup:=by
 grind[ZIb]
theorem ZKk:∀(R:List (Str×Rat)) (a:List Str),a.Nodup->(R.foldl ZIb a).Nodup
 | [],_,h=>h
 |r::R,a,h=>by rw[Z39];exact ZKk R _ (ZMD h r)
theorem ZJI (R:List (Str×Rat)):(ZEV R).Nodup:=ZKk R [] List.nodup_nil
theorem ZPH {a:List Str} {r:Str×Rat} {k:Str}:k∈ZIb a r<->k∈a\/k=r.1:=by
 grind[ZIb]
theorem ZLt:∀(R:List (Str×Rat)) (a:List Str) (k:Str),k∈R.foldl ZIb a<->k∈a\/∃r∈R,k=r.1
 | [],_,k=>by simp
 |r::R,a,k=>by rw[Z39,ZLt R _ k,ZPH];grind
theorem ZMC {R:List (Str×Rat)} {k:Str}:k∈ZEV R<->∃r∈R,k=r.1:=by grind[ZEV,ZLt]
theorem ZLw:∀(R:List (Str×Rat)) (a:List Str),(R.foldl ZIb a).length<=a.length+R.length
 | [],_=>by simp
 |r::R,a=>by
  rw[Z39];refine Z4p (ZLw R _) ?_;grind[ZIb]
theorem ZKm (R:List (Str×Rat)):(ZEV R).length<=R.length:=by grind[ZLw,ZEV]
theorem Z1m {R:List (Str×Rat)} (h:∀r∈R,Sz 80 r.2) (k:Str):∀(s:Rat) (n:Nat),Sz (81*n+1) s->Sz (81*(n+R.length)+1) (R.foldl (ZIW k) s):=by
 induction R with
 |nil=>simp_all
 |cons r R b=>
  intro s n a;rw[Z39,Z4d,show n+(R.length+1)=(n+1)+R.length by omega];refine b (fun r c=>h r (by grind)) _ (n+1) ?_;unfold ZIW;split
  ·exact(a.add (h r (by simp))).mono (by omega)
  ·exact a.mono (by omega)
theorem ZTp {R:List (Str×Rat)} (h:∀r∈R,Sz 80 r.2) (k:Str):Sz (81*R.length+1) (sm R k):=by have:=Z1m h k 0 0 ZKw;rw[Nat.zero_add]at this;exact this
theorem ZM4 {K V:List G_api_Cell}:∀r∈ZpJ K V,Sz 80 r.2:=by
 intro r a;obtain⟨p,_,h⟩:=List.mem_filterMap.1 a;grind[ZJd,Option.map_eq_some_iff,ZMM]
theorem ZTL {R:List (Str×Rat)} {k:Str} (h:k∉ZEV R):cnt R k=0/\sm R k=0:=by
 have b:∀r∈R,¬r.1=k:=fun r a e=>h (ZMC.2 ⟨r,a,e.symm⟩)
 constructor
 ·grind[cnt]
 ·have key:∀(R:List (Str×Rat)) (s:Rat),(∀r∈R,¬r.1=k)->R.foldl (ZIW k) s=s:=by
   intro R
   induction R with
   |nil=>simp_all
   |cons r R c=>
    grind[ZIW]
  exact key R 0 b
def mpo:Int->List Str->List (Str×Int)
 |_,[]=>[]
 |o,k::r=>(k,o)::mpo (o+1) r
theorem ZNi (k:Str) (v:Int) (m:List (Str×Int)) (s:Str):Zg8 (k:= .str) (v:=(.int .i64)) (car:=ZBM) ((k,v)::m) s=if s == k then some v else Zg8 (k:= .str) (v:=(.int .i64)) (car:=ZBM) m s:=by
 show (((k,v)::m).find? fun e=>s == e.1).map (·.2)=if s == k then some v else (m.find? fun e=>s == e.1).map (·.2)
 grind
theorem ZQR:∀(a:List Str) (o:Int) (s:Str),s∈a->∃j:Nat,Zg8 (k:= .str) (v:=(.int .i64)) (car:=ZBM) (mpo o a) s=some (o+(j:Int))/\a[j]? =some s
 | [],_,_,h=>absurd h (by simp)
 |k::r,o,s,h=>by
  unfold mpo;rw[ZNi]
  by_cases e:s=k
  ·subst e;exact⟨0,by simp_all,rfl⟩
  ·obtain⟨j,c,b⟩:=ZQR r (o+1) s ((Z4i.1 h).resolve_left e);refine⟨j+1, ?_,b⟩;grind
theorem ZPd:∀(a:List Str) (o:Int) (s:Str),s∉a->Zg8 (k:= .str) (v:=(.int .i64)) (car:=ZBM) (mpo o a) s=none
 | [],_,_,_=>rfl
 |k::r,o,s,h=>by unfold mpo;rw[ZNi,if_neg (by simp_all)];exact ZPd r _ s fun b=>h (by grind)
theorem ZPb:∀(a:List Str) (o:Int) (s:Str),mpo o (a++[s])=mpo o a++[(s,o+(a.length:Int))]
 | [],o,s=>by simp[mpo]
 |k::r,o,s=>by rw[Z33];unfold mpo;rw[ZPb r,Z33,Z4d];grind
theorem ZRn:∀(a:List Str) (o:Int) (s:Str),s∉a->(mpo o a).any (fun e=>ZlY (car:=ZBM) .str s e.1)=false
 | [],_,_,_=>rfl
 |k::r,o,s,h=>by
  unfold mpo;rw[List.any_cons,ZRn r _ s fun b=>h (by grind)];grind[ZlY]
theorem ZUB {a:List Str} {s:Str} (h:s∉a):setB (k:= .str) (v:=(.int .i64)) (car:=ZBM) (mpo 0 a) s (a.length:Int)=mpo 0 (a++[s]):=by grind[setB,ZRn,ZPb]
theorem ZQu {b:Type} (f g:Str->b):∀{a:List Str} {j:Nat} {k:Str},a.Nodup->a[j]? =some k->(∀x,x≠k->f x=g x)->(a.map f).set j (g k)=a.map g
 | [],_,_,_,h,_=>by grind
 |x::a,0,k,hn,h,hf=>by
  grind[List.map_congr_left]
 |x::a,j+1,k,hn,h,hf=>by
  have c:a[j]? =some k:=by simp_all
  have d:x≠k:=by grind
  rw[List.map_cons,List.set_cons_succ,List.map_cons,hf x d,ZQu f g (List.nodup_cons.1 hn).2 c hf]
end Go.Proofs
