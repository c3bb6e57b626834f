/- Plain laws over the specs, part 2. -/
import Derived.Test.YtpddhnpfnefdeaaGreatDoorQtM0
import Derived.Test.YtpddhnpfnefdeaaGreatDoorQtM1
import Derived.Test.YtpddhnpfnefdeaaGreatDoorE4
set_option linter.all false
open Bool renaming and_eq_true->ZSL, not_true->ZXk, true_and->ZXl, false_and->ZXi, not_false->ZXj
open Int renaming natCast_mul->ZXm, toNat_natCast->ZXn
open List renaming length_map->ZXF, length_cons->ZXD, dropWhile_cons->ZXt, getElem_mem->ZXA, length_append->ZXC, length_take->ZXI, all_eq_true->ZXq, length_nil->ZXG, getElem_map->ZXz, length_singleton->ZXH, all_cons->ZXp, takeWhile_append_dropWhile->ZXK, take_succ_eq_append_getElem->ZXP, take_length->ZXO, pairwise_cons->ZXJ, takeWhile_cons->ZXL, cons.injEq->ZXs, getElem?_eq_getElem->ZXy, length_drop->ZXE, eq_nil_or_concat->ZXw, concat_eq_append->ZXr, isEmpty_cons->ZXB, take_left'->ZXN, all_append->ZXo, drop_eq_getElem_cons->ZXv, dropWhile_sublist->ZXu, take_append_drop->ZXM, getD_eq_getElem?_getD->ZXx
open Nat renaming le_refl->ZXQ, zero_le->ZXU, le_trans->ZXR, mul_le_mul->ZXS, mul_le_mul_right->ZXT
open Option renaming bind_some->ZXV, some.injEq->ZXX, map_some->ZXW
namespace Go.Proofs
open Go Eng
section
variable {α:Type} (lt:α->α->Bool)
def ZOP (x:α):List α->List α
 | []=>[x]
 |p::r=>if lt x p then p::ZOP x r else x::p::r
def ZHS (x:α) (A:List α):List α:=(ZOP lt x A.reverse).reverse
def ZzG (l:List α):List α:=l.foldl (fun s x=>ZHS lt x s) []
variable {lt}
theorem ZLb (x:α):ZHS lt x []=[x]:=rfl
theorem ZHc (x p:α) (A:List α):ZHS lt x (A++[p])=if lt x p then ZHS lt x A++[p]else A++[p,x]:=by unfold ZHS;rw[List.reverse_append,List.reverse_singleton,List.singleton_append,ZOP];split;rotate_left;simp;rw[List.reverse_cons]
theorem ZIe (x:α):∀l:List α,(ZOP lt x l).Perm (x::l)
 | []=> .refl _
 |p::r=>by
  unfold ZOP;split
  ·exact((ZIe x r).cons p).trans (.swap _ _ _)
  ·exact .refl _
theorem ZJF (x:α) (A:List α):(ZHS lt x A).Perm (A++[x]):=by unfold ZHS;refine(List.reverse_perm _).trans ((ZIe x _).trans ?_);refine(List.Perm.cons x (List.reverse_perm A)).trans ?_;exact(List.perm_append_singleton x A).symm
theorem ZGF (l:List α) (x:α):ZzG lt (l++[x])=ZHS lt x (ZzG lt l):=by simp[ZzG]
theorem ZDP (l:List α):(ZzG lt l).Perm l:=by
 have a:∀(l s:List α),(l.foldl (fun s x=>ZHS lt x s) s).Perm (s++l):=by
  intro l
  induction l with
  |nil=>intro s;simp
  |cons x l b=>
   intro s;refine(b _).trans ?_;refine((ZJF x s).append_right l).trans ?_;simp
 simpa[ZzG]using a l []
theorem ZDp (l:List α):(ZzG lt l).length=l.length:=(ZDP l).length_eq
theorem ZId (P:α->Prop) (e:α->α->Prop) (g:∀x p,P x->P p->lt x p=true->e x p) (f:∀x p,P x->P p->lt x p=false->e p x) (i:∀a b c,P a->P b->P c->e a b->e b c->e a c)
  (x:α) (k:P x):∀l:List α,(∀y∈l,P y)->l.Pairwise (fun a b=>e b a)->(ZOP lt x l).Pairwise (fun a b=>e b a)
 | [],_,_=>by simp[ZOP]
 |p::r,hP,h=>by
  have m:=hP p (by simp);have n:=ZXJ.1 h;unfold ZOP;cases hc:lt x p with
  |true=>
   rw[if_pos rfl,ZXJ];refine⟨fun y d=> ?_,ZId P e g f i x k r (fun y d=>hP y (by simp[d])) n.2⟩;rcases List.mem_cons.1 ((ZIe x r).mem_iff.1 d)with rfl |d
   ·exact g _ _ k m hc
   ·exact n.1 y d
  |false=>
   rw[if_neg (by simp),ZXJ];refine⟨fun y d=> ?_,h⟩;have j:=f x p k m hc;rcases List.mem_cons.1 d with rfl |d
   ·exact j
   ·exact i _ _ _ (hP y (by simp[d])) m k (n.1 y d) j
theorem ZHE (P:α->Prop) (e:α->α->Prop) (i:∀x p,P x->P p->lt x p=true->e x p) (g:∀x p,P x->P p->lt x p=false->e p x) (k:∀a b c,P a->P b->P c->e a b->e b c->e a c)
  (l:List α) (f:∀y∈l,P y):(ZzG lt l).Pairwise e:=by
 have j:∀(l s:List α),(∀y∈l,P y)->(∀y∈s,P y)->s.Pairwise e->(l.foldl (fun s x=>ZHS lt x s) s).Pairwise e:=by
  intro l
  induction l with
  |nil=>intro s _ _ h;exact h
  |cons x l n=>
   intro s f m h;refine n _ (fun y d=>f y (by simp[d])) (fun y d=> ?_) ?_
   ·rcases List.mem_append.1 ((ZJF x s).mem_iff.1 d)with d |d
    ·exact m y d
    ·simp only[List.mem_singleton]at d;subst d;exact f _ (by simp)
   ·unfold ZHS;rw[List.pairwise_reverse];exact ZId P e i g k x (f x (by simp)) s.reverse (fun y d=>m y (List.mem_reverse.1 d)) (by rw[List.pairwise_reverse];exact h)
 exact j l [] f (by simp) (by simp)
theorem ZJs (P:α->Prop) (f:α->α->Prop) (c:∀a b,P a->P b->f a b->f b a->a=b):∀{l d:List α},(∀y∈l,P y)->l.Perm d->l.Pairwise f->d.Pairwise f->l=d
 | [],d,_,hp,_,_=>(List.nil_perm.1 hp).symm
 |x::l,[],_,hp,_,_=>by have:=hp.length_eq;simp at this
 |x::l,y::d,hP,hp,h,h'=>by
  have k:=ZXJ.1 h;have m:=ZXJ.1 h';have i:P y:=hP y (hp.mem_iff.2 (by simp));have e:x=y:=by
   rcases List.mem_cons.1 (hp.mem_iff.1 (List.mem_cons_self (a:=x) (l:=l)))with e |j
   ·exact e
   ·rcases List.mem_cons.1 (hp.mem_iff.2 (List.mem_cons_self (a:=y) (l:=d)))with e |g
    ·exact e.symm
    ·exact c x y (hP x (by simp)) i (k.1 y g) (m.1 x j)
  subst e;rw[ZJs P f c (fun z n=>hP z (by simp[n])) hp.cons_inv k.2 m.2]
end
theorem ZJt {b:Type} (A C:List b) (p x:b):((A++p::x::C).set (A.length+1) p).set A.length x=A++x::p::C:=by
 induction A with
 |nil=>rfl
 |cons a A c=>simp only[List.cons_append,ZXD,List.set_cons_succ,c]
end Go.Proofs
namespace Go.Proofs
open Go Eng
theorem ZHW {c e X:Type} {f:Nat->c->Option X} {body:(c->Option X)->c->Option X} (k:∀n s,f (n+1) s=body (f n) s)
  (g:e->c) (P:e->Prop) (m:e->Nat) {Q:X->Prop} (i:e) (l:P i) (q:m i<=9223372036854775808)
  (d:∀(b:c->Option X) t,P t->(∀a,P a->m a < m t->wp (b (g a)) Q)->wp (body b (g t)) Q):wp (f big (g i)) Q:=by
 have j:∀(n:Nat) t,P t->m t < n->wp (f n (g t)) Q:=by
  intro n
  induction n with
  |zero=>intro t _ h;omega
  |succ n r=>
   intro t u q;rw[k];exact d _ t u fun a p o=>r a p (by omega)
 exact j big i l (by rw[big_eq];omega)
def isD (b:UInt8):Bool:=decide (48<=b.toNat)&&decide (b.toNat<=57)
def ZI2:Str->Bool×Str
 | []=>(false,[])
 |b::r=>bif b == 45 then (true,r)else bif b == 43 then (false,r)else (false,b::r)
def okD (s:Str) (m:Nat):Bool:=decide (1<=s.length)&&decide (s.length<=m)&&s.all isD
def ZFl (body:Str):Option (Str×Str):=
 bif decide (1<=(body.takeWhile isD).length)&&decide ((body.takeWhile isD).length<=15)then
  (match body.dropWhile isD with
  | []=>some (body.takeWhile isD,[])
  |c::p=>bif c == 46&&okD p 9 then some (body.takeWhile isD,p)else none)
 else none
def ZFJ (t:Str):Option (Bool×Str×Str):=(ZFl (ZI2 t).2).map fun x=>((ZI2 t).1,x.1,x.2)
def n46 (b:UInt8):Bool:=b != 46
theorem ZHQ {p:UInt8->Bool}:∀(F R:Str),F.all p=true->(∀b r,R=b::r->p b=false)->(F++R).takeWhile p=F/\(F++R).dropWhile p=R
 | [],[],_,_=>⟨rfl,rfl⟩
 | [],b::r,_,h=>by have:=h b r rfl;simp[List.takeWhile,List.dropWhile,this]
 |x::F,R,h,a=>by rw[ZXp,ZSL]at h;obtain⟨d,c⟩:=ZHQ F R h.2 a;rw[List.cons_append,ZXL,ZXt,h.1,if_pos rfl,if_pos rfl,d,c];exact⟨rfl,rfl⟩
theorem ZOy (p:UInt8->Bool):∀l:Str,(l.takeWhile p).all p=true
 | []=>rfl
 |x::l=>by
  rw[ZXL];cases h:p x with
  |true=>simp only[if_true,ZXp,h,ZXl];exact ZOy p l
  |false=>rfl
theorem ZJg (p:UInt8->Bool):∀(l:Str) b r,l.dropWhile p=b::r->p b=false
 | [],b,r,h=>by simp at h
 |x::l,b,r,h=>by
  rw[ZXt]at h;cases hx:p x with
  |true=>rw[hx,if_pos rfl]at h;exact ZJg p l b r h
  |false=>rw[hx,if_neg (by simp)]at h;simp only[ZXs]at h;rw[<-h.1];exact hx
theorem ZP7 {b:UInt8} (h:isD b=true):n46 b=true:=by unfold n46;rw[bne_iff_ne];rintro rfl;exact absurd h (by decide)
theorem ZQv {l:Str} (h:l.all isD=true):l.all n46=true:=ZXq.2 fun b a=>ZP7 (ZXq.1 h b a)
theorem ZIb {b:UInt8} (h:n46 b=false):b=46:=by unfold n46 at h;simpa using h
theorem ZG8 (body:Str):ZFl body=bif okD (body.takeWhile n46) 15&&((body.dropWhile n46).isEmpty||okD (body.dropWhile n46).tail 9)then some (body.takeWhile n46,(body.dropWhile n46).tail)else none:=by
 have g:body.takeWhile n46++body.dropWhile n46=body:=ZXK;cases hall:(body.takeWhile n46).all isD with
 |true=>
  have a:=ZHQ (p:=isD) (body.takeWhile n46) (body.dropWhile n46) hall (fun b r e=>by rw[ZIb (ZJg n46 body b r e)];decide)
  rw[g]at a;unfold ZFl;rw[a.1,a.2];have e:okD (body.takeWhile n46) 15=(decide (1<=(body.takeWhile n46).length)&&decide ((body.takeWhile n46).length<=15)):=by unfold okD;rw[hall,Bool.and_true]
  rw[e];cases (decide (1<=(body.takeWhile n46).length)&&decide ((body.takeWhile n46).length<=15))with
  |false=>rfl
  |true=>
   rw[cond_true,ZXl];cases hR:body.dropWhile n46 with
   |nil=>rfl
   |cons c p=>
    rw[ZIb (ZJg n46 body c p hR)];rfl
 |false=>
  have e:okD (body.takeWhile n46) 15=false:=by unfold okD;rw[hall,Bool.and_false]
  rw[e,ZXi,cond_false];have f:body.takeWhile isD++body.dropWhile isD=body:=ZXK;have i:=ZOy isD body;unfold ZFl;cases (decide (1<=(body.takeWhile isD).length)&&decide ((body.takeWhile isD).length<=15))with
  |false=>rfl
  |true=>
   rw[cond_true];have d:(∀b r,body.dropWhile isD=b::r->b=46)->False:=fun h=>by have a:=ZHQ (p:=n46) (body.takeWhile isD) (body.dropWhile isD) (ZQv i) (fun b r e=>by rw[h b r e];decide);rw[f]at a;rw[a.1,i]at hall;cases hall
   cases hR:body.dropWhile isD with
   |nil=>exact(d fun b r e=>by rw[hR]at e;cases e).elim
   |cons c p=>
    dsimp only;cases hc:c == 46 with
    |false=>rfl
    |true=>exact(d fun b r e=>by rw[hR]at e;simp only[ZXs]at e;rw[<-e.1];exact eq_of_beq hc).elim
def ZF8 (l:Str):Nat:=l.foldl (fun n b=>10*n+(b.toNat - 48)) 0
theorem ZJB (l:Str) (b:UInt8):ZF8 (l++[b])=10*ZF8 l+(b.toNat - 48):=by unfold ZF8;rw[List.foldl_append];rfl
theorem ZPY {l:Str} (h:l.all isD=true):ZF8 l < 10 ^ l.length:=by
 have c:∀(l:Str) (n k:Nat),l.all isD=true->n < 10 ^ k->l.foldl (fun n b=>10*n+(b.toNat - 48)) n < 10 ^ (k+l.length):=by
  intro l
  induction l with
  |nil=>intro n k _ h;exact h
  |cons b l e=>
   intro n k a f;rw[ZXp,ZSL]at a;have d:=a.1;unfold isD at d;simp only[ZSL,decide_eq_true_eq]at d;have:=e (10*n+(b.toNat - 48)) (k+1) a.2 (by rw[Nat.pow_succ];omega);rw[List.foldl_cons,ZXD]
   rwa [show k+1+l.length=k+(l.length+1) by omega]at this
 have:=c l 0 0 h (by decide)
 rwa [Nat.zero_add]at this
def ZQl (x:Bool×Str×Str):Rat:=Rat.divInt (if x.1 then -((ZF8 (x.2.1++x.2.2):Nat):Int)else ((ZF8 (x.2.1++x.2.2):Nat):Int)) ((10 ^ x.2.2.length:Nat):Int)
structure ZIt (D P:Str):Prop where
 d1:1<=D.length
 d2:D.length<=15
 p:P.length<=9
 dd:D.all isD=true
 pp:P.all isD=true
theorem ZD7 {body D P:Str} (h:ZFl body=some (D,P)):ZIt D P:=by
 rw[ZG8]at h;cases hc:(okD (body.takeWhile n46) 15&&((body.dropWhile n46).isEmpty||okD (body.dropWhile n46).tail 9))with
 |false=>rw[hc,cond_false]at h;cases h
 |true=>
  rw[hc,cond_true]at h;simp only[ZXX,Prod.mk.injEq]at h;obtain⟨rfl,rfl⟩:=h;rw[ZSL]at hc;obtain⟨a,b⟩:=hc;unfold okD at a;simp only[ZSL,decide_eq_true_eq]at a;cases hR:body.dropWhile n46 with
  |nil=>exact⟨a.1.1,a.1.2,by simp,a.2,by simp⟩
  |cons c p=>
   rw[hR]at b;simp only[ZXB,Bool.false_or,List.tail_cons]at b|-
   unfold okD at b;simp only[ZSL,decide_eq_true_eq]at b;exact⟨a.1.1,a.1.2,b.1.2,a.2,b.2⟩
theorem ZGD {k:Nat} (h:k<=24):10 ^ k < 2 ^ 80:=Nat.lt_of_le_of_lt (Nat.pow_le_pow_right (by decide) h) (by decide)
theorem ZGk {l:Str} (h:l.all isD=true) (a:l.length<=24):ZF8 l < 2 ^ 80:=Nat.lt_trans (ZPY h) (ZGD a)
theorem ZOw {n:Nat} (h:n < 2 ^ 80):(wd n).length<=3:=ZHV h 3 (by decide)
end Go.Proofs
namespace Go.Proofs
open Go Eng
theorem ZHF (s:Str) (c:UInt8):ZpU s [c]=some (match s with |b::_=>b == c | []=>false):=by
 unfold ZpU ZqR;cases s with
 |nil=>rfl
 |cons b r=>
  rw[decide_eq_true (show ((b::r).length:Int)>=(([c]:Str).length:Int) by simp only[ZXD,ZXG];omega),cond_true,Zou (by simp only[ZXD,ZXG];omega),chk_true];simp
theorem ZJI (s:Str) (c:UInt8):ZAm s [c]=some (match s with |b::r=>bif b == c then (r,true)else (b::r,false) | []=>([],false)):=by
 unfold ZAm ZuJ;rw[ZHF];cases s with
 |nil=>rfl
 |cons b r=>
  rw[ZXV];dsimp only;cases hb:b == c with
  |false=>rfl
  |true=>
   rw[ZXk,cond_false,Zou (by simp only[ZXD,ZXG];omega),chk_true];rfl
theorem ZG4 (s:Str) (c:UInt8):ZzJ s [c]=some (match s with |b::r=>bif b == c then r else b::r | []=>[]):=by
 unfold ZzJ Zup;rw[ZHF];cases s with
 |nil=>rfl
 |cons b r=>
  rw[ZXV];dsimp only;cases hb:b == c with
  |false=>rfl
  |true=>
   rw[cond_true,Zou (by simp only[ZXD,ZXG];omega),chk_true];rfl
theorem ZMx:∀s:Str,Lib.indexByte s 46=if s.dropWhile n46=[]then -1 else ((s.takeWhile n46).length:Int)
 | []=>rfl
 |b::s=>by
  rw[Lib.indexByte,ZMx s,ZXt,ZXL];cases h:n46 b with
  |false=>
   rw[ZIb h];simp
  |true=>
   have a:(b == 46)=false:=by unfold n46 at h;simpa using h
   simp only[a,Bool.false_eq_true,if_false,if_true]
   by_cases hd:s.dropWhile n46=[]
   ·simp[hd]
   ·simp only[hd,if_false];rw[if_neg (by simp),ZXD];omega
theorem ZjU {s:Str} (g:s.length<=9223372036854775807):ZDc s [46]=some (s.takeWhile n46,(s.dropWhile n46).tail, !(s.dropWhile n46).isEmpty):=by
 have a:s.takeWhile n46++s.dropWhile n46=s:=ZXK;have b:ZtM s [46]=some (Lib.indexByte s 46):=by
  unfold ZtM Zr0 Zrz;rw[show ((([46]:Str).length:Int) == 0)=false from rfl,cond_false]
  by_cases h:([46]:Str)=s
  ·subst h;rfl
  ·rw[show (([46]:Str) == s)=false by simpa using h,cond_false];rfl
 unfold ZDc ZyL;rw[b,ZXV,ZMx];cases hR:s.dropWhile n46 with
 |nil=>
  rw[hR,List.append_nil]at a;rw[if_pos rfl,show decide ((-1:Int)>=0)=false from rfl,cond_false,ZXV,a];rfl
 |cons c p=>
  have d:(s.takeWhile n46).length+(p.length+1)=s.length:=by have:=congrArg List.length a;rw[ZXC,hR,ZXD]at this;exact this
  rw[if_neg (by simp),decide_eq_true (show ((s.takeWhile n46).length:Int)>=0 by omega),cond_true,Zou (by omega),ZnH (by simp only[ZXD,ZXG];omega),Zou (by simp only[ZXD,ZXG];omega)];simp only[chk_true,ZXV];have e:s.take ((((s.takeWhile n46).length:Nat):Int)).toNat=s.takeWhile n46:=by
   rw[ZXn]
   conv=>lhs;rw[<-a]
   rw[ZXN (by rw[a])]
  have f:s.drop ((((s.takeWhile n46).length:Nat):Int)+(([46]:Str).length:Int)).toNat=p:=by
   rw[show ((((s.takeWhile n46).length:Nat):Int)+(([46]:Str).length:Int)).toNat=(s.takeWhile n46).length+1 by simp only[ZXD,ZXG];omega]
   conv=>lhs;rw[<-a,hR]
   rw[show (s.takeWhile n46++c::p).takeWhile n46=s.takeWhile n46 by rw[<-hR,a]];rw[<-List.drop_drop,List.drop_left' rfl];rfl
  rw[e,f];rfl
theorem dset:((List.range 256).all fun n=>([48,49,50,51,52,53,54,55,56,57]:Str).contains n.toUInt8 == isD n.toUInt8)=true:=by decide+kernel
theorem ZQi (b:UInt8):([48,49,50,51,52,53,54,55,56,57]:Str).contains b=isD b:=by have:=ZXq.1 dset b.toNat (List.mem_range.2 b.toNat_lt);rw[show b.toNat.toUInt8=b from UInt8.ofNat_toNat]at this;exact eq_of_beq this
theorem ZCd {p:UInt8->Bool}:∀l:Str,l.dropWhile p=[]<->l.all p=true
 | []=>by simp
 |b::l=>by
  rw[ZXt,ZXp];cases h:p b with
  |true=>rw[if_pos rfl,ZXl];exact ZCd l
  |false=>simp
theorem ZNo (s a:Str):(Lib.trimS s a == [])=s.all (a.contains ·):=by
 rw[Bool.eq_iff_iff,beq_iff_eq];unfold Lib.trimS Lib.trimLeftS Lib.trimRightS;rw[ZCd];constructor
 ·intro h;have d:(s.reverse.dropWhile (a.contains ·)).all (a.contains ·)=true:=by rw[<-List.all_reverse];exact h
  have c:s.reverse.dropWhile (a.contains ·)=[]:=by
   cases he:s.reverse.dropWhile (a.contains ·)with
   |nil=>rfl
   |cons b r=>
    have e:=ZJg (a.contains ·) _ b r he;rw[he,ZXp,e]at d;cases d
  rw[ZCd,List.all_reverse]at c;exact c
 ·intro h;have c:s.reverse.dropWhile (a.contains ·)=[]:=by rw[ZCd,List.all_reverse];exact h
  rw[c];rfl
theorem ZJH (s:Str) (m:Nat):Zz8 s (m:Int)=some (okD s m):=by
 unfold Zz8 Zw2 okD ZCH
 by_cases h1:1<=s.length
 ·rw[decide_eq_true (show (s.length:Int)>=1 by omega),cond_true,decide_eq_true h1]
  by_cases h2:s.length<=m
  ·rw[decide_eq_true (show (s.length:Int)<=(m:Int) by omega),cond_true,decide_eq_true h2];rw[show (([48,49,50,51,52,53,54,55,56,57]:Str).all fun b=>decide (b.toNat < 128))=true from by decide,chk_true,show decide (([48,49,50,51,52,53,54,55,56,57]:Str).length < 4294967281)=true from by decide,chk_true,ZXV,ZNo];rw[show (fun b:UInt8=>([48,49,50,51,52,53,54,55,56,57]:Str).contains b)=isD from funext ZQi];rfl
  ·rw[decide_eq_false (show ¬(s.length:Int)<=(m:Int) by omega),cond_false,decide_eq_false h2];rfl
 ·rw[decide_eq_false (show ¬(s.length:Int)>=1 by omega),cond_false,decide_eq_false h1];rfl
def zf:ZnB:=ZnB.mk (ZnI.mk false []) (ZnI.mk false [])
theorem ZSw:([10]:List Int)=iL (wd 10):=by kernel_rfl
theorem ZPX:([1]:List Int)=iL (wd 1):=by kernel_rfl
theorem ZPZ:([]:List Int)=iL (wd 0):=by kernel_rfl
theorem ZLD {b:UInt8} (h:isD b=true):IntKind.wrap .u64 (IntKind.wrap .u8 (((b.toNat:Nat):Int) - 48))=((b.toNat - 48:Nat):Int):=by unfold isD at h;simp only[ZSL,decide_eq_true_eq]at h;rw[wrap_u8 (by omega),wrap_u64 (by omega)];omega
theorem ZOQ {a:Bool} {D P:Str} (h:ZIt D P):Ztu a D P false false false [] []=some (fOf (ZQl (a,D,P)),true):=by
 have y:=h.d2;have v:=h.p;have c:(D++P).all isD=true:=by rw[ZXo,h.dd,h.pp];rfl
 have f:(D++P).length<=24:=by rw[ZXC];omega
 refine ZpD ?_;unfold Ztu;rw[cond_false,ZPX,ZLd _ (by have:=ZOw (n:=1) (by decide);omega),ZXV,ZnF,ZnF,ZnD,ZSw,ZPZ];refine⟨decide_eq_true (by unfold Zq;omega),decide_eq_true (by omega), ?_⟩;refine ZnK (ZvD ZFH (D++P).length (by omega) (fun i (n:Nat)=>(a,P,iL (wd n),iL (wd 10),(((D++P).map fun b:UInt8=>((b.toNat:Nat):Int)).length:Int),i,false,false,iL (wd 1),(D++P).map (fun b:UInt8=>((b.toNat:Nat):Int)),iL (wd 0),iL (wd 0))) (fun i n=>n=ZF8 ((D++P).take i))
  (Q:=fun x=>x=(a,P,iL (wd (ZF8 (D++P))),iL (wd 10),false,false,iL (wd 1),iL (wd 0),iL (wd 0))) 0 (by rfl) ?_ ?_) ?_
 ·rintro d i n hi rfl s;unfold ZAx Zxw;dsimp only;have m:isD (D++P)[i]=true:=ZXq.1 c _ (ZXA hi);have w:ZF8 ((D++P).take i) < 2 ^ 80:=ZGk (ZXq.2 fun b m=>ZXq.1 c b (List.mem_of_mem_take m)) (by rw[ZXI];omega);have q:ZF8 ((D++P).take (i+1))=ZF8 ((D++P).take i)*10+((D++P)[i].toNat - 48):=by rw[ZXP hi,ZJB,Nat.mul_comm]
  have j:i < ((D++P).map fun b:UInt8=>((b.toNat:Nat):Int)).length:=by rw[ZXF];exact hi
  have l:=m;unfold isD at l;simp only[ZSL,decide_eq_true_eq]at l;have t:=ZOw w;have r:=ZOw (n:=10) (by decide);have u:(wd (ZF8 ((D++P).take i)*10)).length<=100:=ZHV (k:=84) (by omega) 100 (by decide);have z:=ZOw (n:=(D++P)[i].toNat - 48) (by omega);rw[decide_eq_true (show (i:Int) < (((D++P).map fun b:UInt8=>((b.toNat:Nat):Int)).length:Int) by rw[ZXF];omega),cond_true,Zoj j,chk_true,ZXn,ZXy j,ZXV,ZXz,ZIY _ _ (by omega) (by omega),ZXV,ZLD m,ZHn _ (by omega),ZXV,
   ZMf _ _ (by omega) (by omega),ZXV,ZnF]
  refine⟨ZnH (by omega), ?_⟩;have:=s (ZF8 ((D++P).take i)*10+((D++P)[i].toNat - 48)) q.symm;exact this
 ·rintro d n rfl;unfold ZAx Zxw;dsimp only;rw[decide_eq_false (by rw[ZXF];omega),cond_false,ZnA,ZXO]
 ·rintro x rfl;dsimp only;unfold ZBW;rw[ZnD];refine ZnK (ZvD ZFG P.length (by omega) (fun i (k:Nat)=>(a,iL (wd (ZF8 (D++P))),iL (wd 10),iL (wd (10 ^ k)),(P.length:Int),i,false,false,iL (wd 0),iL (wd 0))) (fun i k=>k=i)
   (Q:=fun x=>x=(a,iL (wd (ZF8 (D++P))),iL (wd (10 ^ P.length)),false,false,iL (wd 0),iL (wd 0))) 0 (by rfl) ?_ ?_) ?_
  ·rintro d i k hi rfl s;unfold ZAw Zxv;dsimp only;have t:=ZOw (ZGD (show k<=24 by omega));have r:=ZOw (n:=10) (by decide);rw[decide_eq_true (show (k:Int) < (P.length:Int) by omega),cond_true,ZIY _ _ (by omega) (by omega),ZXV,ZnF,<-Nat.pow_succ];exact⟨ZnH (by omega),s (k+1) rfl⟩
  ·rintro d k rfl;unfold ZAw Zxv;dsimp only;rw[decide_eq_false (by omega),cond_false,ZnA]
  ·rintro x rfl;dsimp only;unfold ZBV;have g:=ZGk c f;have p:=ZGD (show P.length<=24 by omega);have t:=ZOw g;have u:=ZOw p;rw[ZAB _ _ (by omega),ZXV,ZAB _ _ (by omega),ZXV];have o:((10 ^ P.length:Nat):Int)≠0:=by have:=Nat.pow_pos (n:=P.length) (show 0 < 10 by decide);omega
   have:=ZGC (if a=true then -((ZF8 (D++P):Nat):Int)else ((ZF8 (D++P):Nat):Int)) ((10 ^ P.length:Nat):Int) o (by
    show (wd _).length<=50000;have e:(if a=true then -((ZF8 (D++P):Nat):Int)else ((ZF8 (D++P):Nat):Int)).natAbs=ZF8 (D++P):=by split<;>omega
    rw[e];omega) (by show (wd _).length<=50000;rw[Int.natAbs_natCast];omega)
   simp only[Bool.false_eq_true,if_false];rw[this,ZXV,ZnA];rfl
theorem ZIQ {t:Str} (e:t.length<=9223372036854775807):Zwy t=some (match ZFJ t with |some x=>(fOf (ZQl x),true) |none=>(zf,false)):=by
 have c:∀(body:Str) (d:Bool),body.length<=9223372036854775807->Zwj body d false false [] []=some (match (ZFl body).map fun x=>(d,x.1,x.2)with |some x=>(fOf (ZQl x),true) |none=>(zf,false)):=by
  intro body d f;unfold Zwj;rw[ZjU f,ZXV];dsimp only;rw[show (15:Int)=((15:Nat):Int)from rfl,ZJH,ZXV,show (9:Int)=((9:Nat):Int)from rfl];have a:=ZG8 body;cases h1:okD (body.takeWhile n46) 15 with
  |false=>
   rw[h1,ZXi,cond_false]at a;rw[a,ZXj,cond_true];rfl
  |true=>
   rw[h1,ZXl]at a;rw[ZXk,cond_false];cases h2:(body.dropWhile n46).isEmpty with
   |true=>
    rw[h2,Bool.true_or,cond_true]at a;rw[ZXk,cond_false,ZOQ (ZD7 a),a];rfl
   |false=>
    rw[h2,Bool.false_or]at a;rw[ZXj,cond_true,ZJH,ZXV];cases h3:okD (body.dropWhile n46).tail 9 with
    |false=>
     rw[h3,cond_false]at a;rw[a];rfl
    |true=>
     rw[h3,cond_true]at a;rw[ZXk,ZOQ (ZD7 a),a];rfl
 unfold Zwy ZFJ ZI2;rw[ZJI,ZXV];cases t with
 |nil=>
  dsimp only;rw[ZXj,cond_true,ZG4,ZXV];dsimp only;rw[c [] false e]
 |cons b r=>
  dsimp only;simp only[ZXD]at e;cases h1:b == 45 with
  |true=>
   rw[cond_true,cond_true];dsimp only;rw[ZXk,cond_false,c r true (by omega)]
  |false=>
   rw[cond_false,cond_false];dsimp only;rw[ZXj,cond_true,ZG4,ZXV];dsimp only;cases h2:b == 43 with
   |true=>rw[cond_true,cond_true];dsimp only;rw[c r false (by omega)]
   |false=>rw[cond_false,cond_false];dsimp only;rw[c (b::r) false (by simp only[ZXD];omega)]
end Go.Proofs
namespace Go.Proofs
open Go Eng
theorem ZHC (b k:UInt8):(((b.toNat:Nat):Int) == ((k.toNat:Nat):Int))=(b == k):=by
 rw[Bool.eq_iff_iff,beq_iff_eq,beq_iff_eq];constructor
 ·intro h;exact UInt8.toNat_inj.1 (by omega)
 ·rintro rfl;rfl
theorem ZOO (b:UInt8):(decide (((b.toNat:Nat):Int)>=48)&&decide (((b.toNat:Nat):Int)<=57))=isD b:=by
 unfold isD;congr 1
 ·rw[decide_eq_decide];omega
 ·rw[decide_eq_decide];omega
theorem ZPp (p:UInt8->Bool) (l:Str):l.take (l.takeWhile p).length=l.takeWhile p:=by
 conv=>lhs;arg 2;rw[<-ZXK (p:=p) (l:=l)]
 rw[ZXN rfl]
theorem ZL3 (p:UInt8->Bool) (l:Str):l.drop (l.takeWhile p).length=l.dropWhile p:=by
 conv=>lhs;arg 2;rw[<-ZXK (p:=p) (l:=l)]
 rw[List.drop_left' rfl]
theorem ZSt {p:UInt8->Bool} {l:Str} {k:Nat} (h:∀j (c:j < l.length),j < k->p l[j]=true) (i:k<=l.length) (g:∀i:k < l.length,p l[k]=false):(l.takeWhile p).length=k:=by
 have d:=ZHQ (p:=p) (l.take k) (l.drop k) (ZXq.2 fun b f=>by
  obtain⟨j,c,rfl⟩:=List.getElem_of_mem f;rw[ZXI]at c;rw[List.getElem_take];exact h j (by omega) (by omega)) (fun b r e=>by
  have a:k < l.length:=by have:=congrArg List.length e;rw[ZXE,ZXD]at this;omega
  rw[ZXv a]at e;simp only[ZXs]at e;rw[<-e.1];exact g a)
 rw[ZXM]at d;rw[d.1,ZXI];omega
theorem ZNJ {a:Bool} {D p:Str} (o:p.length<=9):Zol a D p false=some (bif p.all isD then (a,D,p,true)else (false,[],[],false)):=by
 unfold Zol;rw[cond_false];have e:wp (Zqc big a D p 0) (fun x=>x=bif p.all isD then .brk (a,D,p)else .ret (false,[],[],false)):=by
  refine ZwT ZDV p (by omega) (fun i (_:Unit)=>(a,D,p,i)) (fun k _=>(p.take k).all isD=true) () (by simp) ?_ ?_
  ·rintro f k _ j c n;unfold ZwJ Zs7 Zt7;dsimp only;rw[decide_eq_true (show (k:Int) < (p.length:Int) by omega),cond_true,Zqj j,ZXV];have m:(p.take (k+1)).all isD=isD p[k]:=by rw[ZXP j,ZXo,c];simp
   have b:isD p[k]=false->p.all isD=false:=fun h=>by rw[Bool.eq_false_iff];intro d;rw[ZXq.1 d _ (ZXA j)]at h;cases h
   have g:=ZOO p[k]
   by_cases h1:((p[k].toNat:Nat):Int) < 48
   ·rw[decide_eq_true h1,cond_true,cond_true,ZnA,b (by rw[<-g,decide_eq_false (by omega)];rfl),cond_false]
   ·rw[decide_eq_false h1,cond_false,ZXV]
    by_cases d:((p[k].toNat:Nat):Int) > 57
    ·rw[decide_eq_true d,cond_true,ZnA,b (by rw[<-g,decide_eq_true (by omega),decide_eq_false (by omega)];rfl),cond_false]
    ·rw[decide_eq_false d,cond_false,ZnF];exact⟨ZnH (by omega),n () (by rw[m,<-g,decide_eq_true (by omega),decide_eq_true (by omega)];rfl)⟩
  ·rintro f _ c;unfold ZwJ Zs7;dsimp only;rw[ZXO]at c;rw[decide_eq_false (show ¬(p.length:Int) < (p.length:Int) by omega),cond_false,ZnA,c,cond_true]
 obtain⟨x,l,rfl⟩:=e;rw[l,ZXV];cases p.all isD<;>rfl
theorem ZNK {s:Str} (a:Bool) (B:s.length<=9223372036854775807):ZoE s a=some (match ZFl s with |some x=>(a,x.1,x.2,true) |none=>(false,[],[],false)):=by
 refine ZpD ?_;unfold ZoE;rw[ZnD];refine ZnK (ZHW ZDW (fun(k:Nat)=>(s,a,(k:Int))) (fun k=>k<=s.length/\∀j (r:j < s.length),j < k->isD s[j]=true) (fun k=>s.length - k)
  (Q:=fun x=>x=(s,a,(((s.takeWhile isD).length:Nat):Int))) 0 ⟨ZXU _,fun j _ h=>absurd h (Nat.not_lt_zero _)⟩ (by omega) ?_) ?_
 ·rintro q k ⟨z,t⟩ w;unfold ZAG ZwK ZrF;dsimp only;have b:(∀h:k < s.length,isD s[k]=false)->wp (some (s,a,(k:Int))) (fun x=>x=(s,a,(((s.takeWhile isD).length:Nat):Int))):=fun h=>by rw[ZnA,ZSt t z h]
  rw[ZnP];refine⟨fun h=> ?_,fun h=> ?_⟩
  ·simp only[decide_eq_true_eq]at h;have d:k < s.length:=by omega
   have l:=ZOO s[k];rw[Zqj d,ZXV];have u:isD s[k]=true->wp (chk (inK .i64 ((k:Int)+1)) <| q (s,a,(k:Int)+1)) (fun x=>x=(s,a,(((s.takeWhile isD).length:Nat):Int))):=fun n=>by
    rw[ZnF];refine⟨ZnH (by omega),w (k+1) ⟨by omega,fun j r y=> ?_⟩ (by omega)⟩;rcases Nat.lt_or_ge j k with f |f
    ·exact t j r f
    ·obtain rfl:j=k:=by omega
     exact n
   cases f:decide (((s[k].toNat:Nat):Int)>=48)with
   |false=>
    rw[cond_false,cond_false];exact b fun _=>by rw[<-l,f];rfl
   |true=>
    rw[cond_true,ZXV];cases h2:decide (((s[k].toNat:Nat):Int)<=57)with
    |false=>
     rw[cond_false];exact b fun _=>by rw[<-l,f,h2];rfl
    |true=>
     rw[cond_true];exact u (by rw[<-l,f,h2];rfl)
  ·simp only[decide_eq_false_iff_not]at h;rw[cond_false];exact b fun v=>absurd v (by omega)
 ·rintro x rfl;dsimp only;unfold ZxV Zt8;have A:(s.takeWhile isD).length<=s.length:=(List.takeWhile_sublist _).length_le;have g:(s.takeWhile isD).length+(s.dropWhile isD).length=s.length:=by rw[<-ZXC,ZXK]
  rw[ZnF,ZXn,ZPp];refine⟨Zou (by omega), ?_⟩;unfold ZFl
  by_cases f:1<=(s.takeWhile isD).length
  ·rw[decide_eq_false (show ¬(((s.takeWhile isD).length:Nat):Int) < 1 by omega),cond_false,decide_eq_true f,ZXl]
   by_cases h2:(s.takeWhile isD).length<=15
   ·rw[decide_eq_false (show ¬(((s.takeWhile isD).length:Nat):Int) > 15 by omega),cond_false,decide_eq_true h2,cond_true];cases hR:s.dropWhile isD with
    |nil=>
     rw[hR]at g;simp only[ZXG]at g;rw[show ((((s.takeWhile isD).length:Nat):Int) == (s.length:Int))=true by rw[beq_iff_eq];omega,cond_true,ZnA]
    |cons c p=>
     rw[hR]at g;simp only[ZXD]at g;have d:(s.takeWhile isD).length < s.length:=by omega
     have i:s[(s.takeWhile isD).length]=c:=by have e:=ZL3 isD s;rw[ZXv d,hR]at e;simp only[ZXs]at e;exact e.1
     have m:s.drop ((((s.takeWhile isD).length:Nat):Int)+1).toNat=p:=by rw[show ((((s.takeWhile isD).length:Nat):Int)+1).toNat=(s.takeWhile isD).length+1 by omega];have e:=ZL3 isD s;rw[ZXv d,hR]at e;simp only[ZXs]at e;exact e.2
     rw[show ((((s.takeWhile isD).length:Nat):Int) == (s.length:Int))=false by rw[beq_eq_false_iff_ne];omega,cond_false,ZnF,ZnF,Zqj d,ZXV,i,m];refine⟨ZnH (by omega),Zou (by omega), ?_⟩;dsimp only;have o:(((c.toNat:Nat):Int) != 46)= !(c == 46):=by rw[<-ZHC c 46];rfl
     rw[o];cases hc:c == 46 with
     |false=>
      rw[ZXj,cond_true,ZXi,cond_false];unfold Zol;rw[cond_true,ZnA]
     |true=>
      rw[ZXk,cond_false,ZXl];unfold okD
      by_cases e:1<=p.length
      ·rw[decide_eq_false (show ¬(p.length:Int) < 1 by omega),cond_false,decide_eq_true e,ZXl]
       by_cases h4:p.length<=9
       ·rw[decide_eq_false (show ¬(p.length:Int) > 9 by omega),decide_eq_true h4,ZXl,ZNJ h4,ZnA];cases p.all isD<;>rfl
       ·rw[decide_eq_true (show (p.length:Int) > 9 by omega),decide_eq_false h4,ZXi,cond_false];unfold Zol;rw[cond_true,ZnA]
      ·rw[decide_eq_true (show (p.length:Int) < 1 by omega),cond_true,decide_eq_false e,ZXi,ZXi,cond_false];unfold Zol;rw[cond_true,ZnA]
   ·rw[decide_eq_true (show (((s.takeWhile isD).length:Nat):Int) > 15 by omega),cond_true,ZnA,decide_eq_false h2,cond_false]
  ·rw[decide_eq_true (show (((s.takeWhile isD).length:Nat):Int) < 1 by omega),cond_true,cond_true,ZnA,decide_eq_false f,ZXi,cond_false]
theorem ZK4 {t:Str} (f:t.length<=9223372036854775807):Ztq t=some (match ZFJ t with |some x=>(x.1,x.2.1,x.2.2,true) |none=>(false,[],[],false)):=by
 have a:∀(s:Str) (c:Bool),s.length<=9223372036854775807->ZoE s c=some (match (ZFl s).map fun x=>(c,x.1,x.2)with |some x=>(x.1,x.2.1,x.2.2,true) |none=>(false,[],[],false)):=fun s c h=>by rw[ZNK c h];cases ZFl s<;>rfl
 unfold Ztq ZrG ZFJ ZI2;cases t with
 |nil=>
  rw[show decide ((([]:Str).length:Int) > 0)=false from rfl,cond_false,cond_false,a [] false f]
 |cons b r=>
  simp only[ZXD]at f;rw[decide_eq_true (show (((b::r).length:Nat):Int) > 0 by simp only[ZXD];omega),cond_true];have i:idx (b::r) 0=some b:=rfl;have e:(((b.toNat:Nat):Int) == 43)=(b == 43):=ZHC b 43;have d:(((b.toNat:Nat):Int) == 45)=(b == 45):=ZHC b 45;rw[i,ZXV,e];dsimp only;have hw:Zb9 1 ((b::r).length:Int) ((b::r).length:Int)=true:=Zou (by simp only[ZXD];omega);cases h1:b == 43 with
  |true=>
   have g:b=43:=eq_of_beq h1;subst g;rw[cond_true,cond_true,ZXV,hw,chk_true,d];show ZoE r false=_;rw[a r false (by omega)];rfl
  |false=>
   rw[cond_false,ZXV,d];cases h2:b == 45 with
   |true=>
    rw[cond_true,ZXV,hw,chk_true,d,h2];show ZoE r true=_;rw[a r true (by omega)];rfl
   |false=>
    rw[cond_false];rw[a (b::r) false (by simp only[ZXD];omega)];rfl
end Go.Proofs
namespace Go.Proofs
open Go Eng
theorem ZKq {b:UInt8} (h:isD b=true):IntKind.wrap .i64 (IntKind.wrap .u8 (((b.toNat:Nat):Int) - 48))=((b.toNat - 48:Nat):Int):=by unfold isD at h;simp only[ZSL,decide_eq_true_eq]at h;rw[wrap_u8 (by omega),wrap_i64 (by omega)];omega
theorem wlN {n:Nat} (h:n < 2 ^ 90):Wl 50000 (n:Int):=by unfold Wl;rw[Int.natAbs_natCast];exact ZXR (ZHV h 3 (by decide)) (by decide)
theorem wl10:Wl 50000 10:=wlN (n:=10) (by decide)
theorem ZQr:ZnI.mk false ([]:List Int)=bg ((0:Nat):Int):=by kernel_rfl
theorem ZQj {P:Str} (c:P.all isD=true) {i:Nat} (hi:i < P.length):(Utf8.decode ⟨P.toArray⟩ i).2=1:=by
 have b:i < (⟨P.toArray⟩:ByteArray).size:=by show i < P.toArray.size;simpa using hi
 have a:=ZXq.1 c _ (ZXA hi);unfold isD at a;simp only[ZSL,decide_eq_true_eq]at a;rw[decode_ascii ⟨P.toArray⟩ i b (by show (P.toArray[i]).toNat < 128;rw[List.getElem_toArray];omega)]
theorem ZI4 {t:Str} (z:t.length<=9223372036854775807):ZuW t=some (match ZFJ t with |some x=>(fOf (ZQl x),true) |none=>(zf,false)):=by
 unfold ZuW;rw[ZK4 z,ZXV];cases hp:ZFJ t with
 |none=>rfl
 |some x=>
  obtain⟨a,D,P⟩:=x;dsimp only;have h:ZIt D P:=by
   unfold ZFJ at hp;cases e:ZFl (ZI2 t).2 with
   |none=>rw[e]at hp;cases hp
   |some y=>
    rw[e]at hp;simp only[ZXW,ZXX,Prod.mk.injEq]at hp;obtain⟨_,w,A⟩:=hp;subst w;subst A;exact ZD7 e
  have C:=h.d2;have v:=h.p;have c:(D++P).all isD=true:=by rw[ZXo,h.dd,h.pp];rfl
  have j:(D++P).length<=24:=by rw[ZXC];omega
  refine ZpD ?_;rw[ZXk,cond_false,ZCT 1 (by decide) (by decide),ZXV,ZnF,ZnF,ZnD,ZQr];refine⟨decide_eq_true (by unfold Zq;omega),decide_eq_true (by omega), ?_⟩;refine ZnK (ZvD ZDy (D++P).length (by omega) (fun i (n:Nat)=>(a,P,(((D++P).map fun b:UInt8=>((b.toNat:Nat):Int)).length:Int),i,false,false,bg (n:Int),bg 1,(D++P).map (fun b:UInt8=>((b.toNat:Nat):Int)),([]:List Int),([]:List Int))) (fun i n=>n=ZF8 ((D++P).take i))
   (Q:=fun x=>x=(a,P,false,false,bg (ZF8 (D++P):Int),bg 1,([]:List Int),([]:List Int))) 0 (by rfl) ?_ ?_) ?_
  ·rintro l i n hi rfl s;unfold Zvu ZrS;dsimp only;have e:isD (D++P)[i]=true:=ZXq.1 c _ (ZXA hi);have F:ZF8 ((D++P).take i) < 2 ^ 80:=ZGk (ZXq.2 fun b e=>ZXq.1 c b (List.mem_of_mem_take e)) (by rw[ZXI];omega);have q:ZF8 ((D++P).take (i+1))=ZF8 ((D++P).take i)*10+((D++P)[i].toNat - 48):=by rw[ZXP hi,ZJB,Nat.mul_comm]
   have m:i < ((D++P).map fun b:UInt8=>((b.toNat:Nat):Int)).length:=by rw[ZXF];exact hi
   have o:=e;unfold isD at o;simp only[ZSL,decide_eq_true_eq]at o;rw[decide_eq_true (show (i:Int) < (((D++P).map fun b:UInt8=>((b.toNat:Nat):Int)).length:Int) by rw[ZXF];omega),cond_true,Zoj m,chk_true,ZXn,ZXy m,ZXV,ZXz,
    ZCT 10 (by decide) (by decide),ZXV,ZET ((ZF8 ((D++P).take i):Nat):Int) 10 (wlN (by omega)) wl10,ZXV,ZKq e,ZCT _ (by omega) (by omega),ZXV]
   have r:((ZF8 ((D++P).take i):Nat):Int)*10=((ZF8 ((D++P).take i)*10:Nat):Int):=by omega
   rw[r,ZI8 _ _ (wlN (by omega)) (wlN (by omega)),ZXV,ZnF];refine⟨ZnH (by omega), ?_⟩;have:=s (ZF8 ((D++P).take i)*10+((D++P)[i].toNat - 48)) q.symm;have B:((ZF8 ((D++P).take i)*10:Nat):Int)+(((D++P)[i].toNat - 48:Nat):Int)=((ZF8 ((D++P).take i)*10+((D++P)[i].toNat - 48):Nat):Int):=by omega
   rw[B];exact this
  ·rintro l n rfl;unfold Zvu ZrS;dsimp only;rw[decide_eq_false (by rw[ZXF];omega),cond_false,ZnA,ZXO]
  ·rintro x rfl;dsimp only;unfold ZwM;rw[ZnD];refine ZnK (Zoh ZDx (fun(k:Nat)=>(a,false,false,bg (ZF8 (D++P):Int),bg ((10 ^ k:Nat):Int),P,k,([]:List Int),([]:List Int))) (fun k=>k<=P.length) (fun k=>P.length - k)
    (Q:=fun x=>x=(a,false,false,bg (ZF8 (D++P):Int),bg ((10 ^ P.length:Nat):Int),([]:List Int),([]:List Int))) 0 (ZXU _) (by omega) ?_) ?_
   ·rintro l k E s;unfold ZzX Zvt Ztb;dsimp only
    by_cases hlt:k < P.length
    ·have p:=ZGD (show k<=24 by omega);rw[decide_eq_true hlt,cond_true,cond_true,ZCT 10 (by decide) (by decide),ZXV,ZET ((10 ^ k:Nat):Int) 10 (wlN (by omega)) wl10,ZXV,ZQj h.pp hlt];have:=s (k+1) (by omega) (by omega);rw[Nat.pow_succ]at this;have r:((10 ^ k:Nat):Int)*10=((10 ^ k*10:Nat):Int):=by omega
     rw[r];exact this
    ·obtain rfl:k=P.length:=by omega
     rw[decide_eq_false hlt,cond_false,cond_false,ZnA]
   ·rintro x rfl;dsimp only;unfold ZwL Zta;have u:=ZGk c j;have p:=ZGD (show P.length<=24 by omega);have f:((10 ^ P.length:Nat):Int)≠0:=by have:=Nat.pow_pos (n:=P.length) (show 0 < 10 by decide);omega
    have g:Wl 50000 ((10 ^ P.length:Nat):Int):=wlN (by omega);have d:Wl 50000 (ZF8 (D++P):Int):=wlN (by omega);cases a with
    |false=>
     rw[cond_false,ZGE _ _ f d g,ZXV,ZnA];rfl
    |true=>
     rw[cond_true,ZIc _ (ZXR d (by decide)),ZXV,ZGE _ _ f (by unfold Wl at d|-;rw[Int.natAbs_neg];exact d) g,ZXV,ZnA];rfl
end Go.Proofs
namespace Go.Proofs
open Go Eng
def is0 (b:UInt8):Bool:=b == 48
def sp (b:UInt8):Bool:=b == 32
def rtr (p:UInt8->Bool) (l:Str):Str:=(l.reverse.dropWhile p).reverse
def lz (D:Str):Str:=bif (D.dropWhile is0).isEmpty then [48]else D.dropWhile is0
def rz (P:Str):Str:=rtr is0 P
def ZK5 (D P:Str):Str:=lz D++(bif (rz P).isEmpty then []else 46::rz P)
def ZOb (x:Bool×Str×Str):Str:=bif x.1&& !(ZK5 x.2.1 x.2.2 == [48])then 45::ZK5 x.2.1 x.2.2 else ZK5 x.2.1 x.2.2
theorem ZI3 (p:UInt8->Bool) (P:Str):(rtr p P).length<=P.length:=by unfold rtr;rw[List.length_reverse];exact ZXR (ZXu _).length_le (by rw[List.length_reverse];exact ZXQ _)
theorem ZMq {D:Str} (h:1<=D.length):(lz D).length<=D.length:=by
 unfold lz;cases hd:(D.dropWhile is0).isEmpty with
 |true=>rw[cond_true];exact h
 |false=>rw[cond_false];exact(ZXu _).length_le
theorem ZI9 {D P:Str} (h:1<=D.length) (c:D.length<=15) (b:P.length<=9):(ZK5 D P).length<=25:=by
 have d:=ZMq h;have a:=ZI3 is0 P;unfold ZK5 rz;rw[ZXC];cases (rtr is0 P).isEmpty with
 |true=>rw[cond_true];simp only[ZXG];omega
 |false=>rw[cond_false];simp only[ZXD];omega
theorem ZKT (p:UInt8->Bool) (l:Str) (b:UInt8):rtr p (l++[b])=bif p b then rtr p l else l++[b]:=by
 unfold rtr;rw[List.reverse_append,List.reverse_singleton,List.singleton_append,ZXt];cases p b with
 |true=>rw[if_pos rfl];rfl
 |false=>rw[if_neg (by simp)];simp
theorem ZKU (p:UInt8->Bool) (b:UInt8) (l:Str):rtr p (b::l)=bif (rtr p l).isEmpty then (bif p b then []else [b])else b::rtr p l:=by
 unfold rtr;rw[List.reverse_cons];rw[List.dropWhile_append];cases h:l.reverse.dropWhile p with
 |nil=>
  simp only[List.isEmpty_nil,if_true,List.reverse_nil,cond_true];rw[ZXt];cases p b<;>simp
 |cons c r=>
  simp only[ZXB,Bool.false_eq_true,if_false];have:((c::r).reverse).isEmpty=false:=by simp
  rw[this,cond_false];simp
theorem ZJp (p:UInt8->Bool):∀l:Str,(rtr p l).dropWhile p=rtr p (l.dropWhile p)
 | []=>rfl
 |b::l=>by
  have a:=ZJp p l;rw[ZKU,ZXt];cases hb:p b with
  |true=>
   rw[if_pos rfl,<-a];cases he:rtr p l with
   |nil=>rfl
   |cons c r=>simp only[ZXB,cond_false];rw[ZXt,hb,if_pos rfl]
  |false=>
   rw[if_neg (by simp),ZKU,hb];cases he:rtr p l with
   |nil=>simp only[List.isEmpty_nil,cond_true,cond_false];rw[ZXt,hb,if_neg (by simp)]
   |cons c r=>simp only[ZXB,cond_false];rw[ZXt,hb,if_neg (by simp)]
theorem ZGf (c:UInt8):(fun b:UInt8=>([c]:Str).contains b)=fun b=>b == c:=by funext b;rw[List.contains_cons];simp
def ZIx (s:Str):Str:=(rtr sp s).dropWhile sp
theorem ZNq (s:Str):Lib.trimS s [32]=ZIx s:=by unfold Lib.trimS Lib.trimLeftS Lib.trimRightS ZIx rtr;rw[ZGf];rfl
theorem ZJ8 (s:Str):ZEV s=some (ZIx s):=by unfold ZEV ZCH;rw[show (([32]:Str).all fun b=>decide (b.toNat < 128))=true from by decide,chk_true,show decide (([32]:Str).length < 4294967281)=true from by decide,chk_true,ZXV,ZNq]
theorem ZJq (s:Str):(ZIx s).length<=s.length:=ZXR (ZXu _).length_le (ZI3 sp s)
theorem ZLo {s:Str} (j:s.length<=9223372036854775807):Zxj s=some (ZIx s):=by
 refine ZpD ?_;unfold Zxj;rw[ZnD];refine ZnK (ZHW ZEh (fun(d:Str)=>d) (fun d=>d.dropWhile sp=s.dropWhile sp/\d.length<=s.length) (fun d=>d.length) (Q:=fun x=>x=s.dropWhile sp) s ⟨rfl,ZXQ _⟩ (by omega) ?_) ?_
 ·rintro h d ⟨a,f⟩ i;unfold ZA7 Zxi ZuU;dsimp only;cases d with
  |nil=>
   rw[show decide ((([]:Str).length:Int) > 0)=false from rfl,cond_false,cond_false,ZnA,<-a];rfl
  |cons b r=>
   simp only[ZXD]at f;have e:(((b.toNat:Nat):Int) == 32)=sp b:=ZHC b 32;rw[decide_eq_true (show (((b::r).length:Nat):Int) > 0 by simp only[ZXD];omega),cond_true,show idx (b::r) 0=some b from rfl,ZXV,e];rw[ZXt]at a;cases hb:sp b with
   |true=>
    rw[hb,if_pos rfl]at a;rw[cond_true,ZnF];exact⟨Zou (by simp only[ZXD];omega),i r ⟨a,by omega⟩ (by simp)⟩
   |false=>
    rw[hb,if_neg (by simp)]at a;rw[cond_false,ZnA,a]
 ·rintro x rfl;unfold ZyD;have g:(s.dropWhile sp).length<=s.length:=(ZXu _).length_le;rw[ZnD];refine ZnK (ZHW ZEg (fun(d:Str)=>d) (fun d=>rtr sp d=rtr sp (s.dropWhile sp)/\d.length<=s.length) (fun d=>d.length) (Q:=fun x=>x=rtr sp (s.dropWhile sp)) (s.dropWhile sp) ⟨rfl,g⟩ (by omega) ?_) ?_
  ·rintro h d ⟨a,f⟩ i;unfold ZA5 Zxh ZuT;dsimp only;rcases ZXw d with rfl |⟨q,b,rfl⟩
   ·rw[show decide ((([]:Str).length:Int) > 0)=false from rfl,cond_false,cond_false,ZnA,<-a];rfl
   ·rw[ZXr]at*
    have c:(q++[b]).length=q.length+1:=by simp
    have hi:idx (q++[b]) ((((q++[b]).length:Nat):Int) - 1)=some b:=by rw[c,show (((q.length+1:Nat):Int) - 1)=((q.length:Nat):Int) by omega,Zqj (by omega)];simp
    have e:(((b.toNat:Nat):Int) == 32)=sp b:=ZHC b 32;rw[ZKT]at a;rw[decide_eq_true (show (((q++[b]).length:Nat):Int) > 0 by omega),cond_true,ZnF,hi,ZXV,e];refine⟨ZnH (by omega), ?_⟩;cases hb:sp b with
    |true=>
     rw[hb,cond_true]at a;rw[cond_true,ZnF,ZnF];refine⟨ZnH (by omega),Zou (by omega), ?_⟩;rw[show ((((q++[b]).length:Nat):Int) - 1).toNat=q.length by omega,ZXN rfl];exact i q ⟨a,by omega⟩ (by rw[c];omega)
    |false=>
     rw[hb,cond_false]at a;rw[cond_false,ZnA,a]
  ·rintro x rfl;unfold ZyC;rw[ZnA];unfold ZIx;rw[ZJp]
theorem lz_0 {r:Str} (a:r≠[]):lz (48::r)=lz r:=by unfold lz;rw[ZXt,show is0 48=true from rfl,if_pos rfl]
theorem ZMk {a:Bool} {D P:Str} (n:1<=D.length) (p:D.length<=15) (l:P.length<=9):ZvL a D P=some (ZOb (a,D,P)):=by
 have w:=ZMq n;have v:=ZI3 is0 P;refine ZpD ?_;unfold ZvL;rw[ZnD];refine ZnK (Zoh ZDE (fun(d:Str)=>(a,d,P)) (fun d=>lz d=lz D/\1<=d.length/\d.length<=15) (fun d=>d.length) (Q:=fun x=>x=(a,lz D,P)) D ⟨rfl,n,p⟩ (by omega) ?_) ?_
 ·rintro m d ⟨f,k,i⟩ o;unfold ZAg Zv7 ZtD;dsimp only;cases d with
  |nil=>simp at k
  |cons b r=>
   have h:(((b.toNat:Nat):Int) == 48)=is0 b:=ZHC b 48;simp only[ZXD]at k i;cases r with
   |nil=>
    rw[show decide ((([b]:Str).length:Int) > 1)=false from rfl,cond_false,cond_false,ZnA,<-f];unfold lz;rw[ZXt];cases hb:is0 b with
    |true=>
     have:b=48:=eq_of_beq hb;subst this;rfl
    |false=>rfl
   |cons c r=>
    rw[decide_eq_true (show (((b::c::r).length:Nat):Int) > 1 by simp only[ZXD];omega),cond_true,show idx (b::c::r) 0=some b from rfl,ZXV,h];cases hb:is0 b with
    |true=>
     have:b=48:=eq_of_beq hb;subst this;rw[lz_0 (by simp)]at f;rw[cond_true,ZnF];exact⟨Zou (by simp only[ZXD];omega),o (c::r) ⟨f,by simp,by simp only[ZXD]at i|-;omega⟩ (by simp)⟩
    |false=>
     rw[cond_false,ZnA,<-f];unfold lz;rw[ZXt,hb,if_neg (by simp)];rfl
 ·rintro x rfl;dsimp only;unfold Zxb;rw[ZnD];refine ZnK (Zoh ZDD (fun(d:Str)=>(a,lz D,d)) (fun d=>rz d=rz P/\d.length<=9) (fun d=>d.length) (Q:=fun x=>x=(a,lz D,rz P)) P ⟨rfl,l⟩ (by omega) ?_) ?_
  ·rintro m d ⟨f,u⟩ o;unfold ZAe Zv6 ZtC;dsimp only;rcases ZXw d with rfl |⟨q,b,rfl⟩
   ·rw[show decide ((([]:Str).length:Int) > 0)=false from rfl,cond_false,cond_false,ZnA,<-f];rfl
   ·rw[ZXr]at*
    have g:(q++[b]).length=q.length+1:=by simp
    have hi:idx (q++[b]) ((((q++[b]).length:Nat):Int) - 1)=some b:=by rw[g,show (((q.length+1:Nat):Int) - 1)=((q.length:Nat):Int) by omega,Zqj (by omega)];simp
    have h:(((b.toNat:Nat):Int) == 48)=is0 b:=ZHC b 48;unfold rz at f;rw[ZKT]at f;rw[decide_eq_true (show (((q++[b]).length:Nat):Int) > 0 by omega),cond_true,ZnF,hi,ZXV,h];refine⟨ZnH (by omega), ?_⟩;cases hb:is0 b with
    |true=>
     rw[hb,cond_true]at f;rw[cond_true,ZnF,ZnF];refine⟨ZnH (by omega),Zou (by omega), ?_⟩;rw[show ((((q++[b]).length:Nat):Int) - 1).toNat=q.length by omega,ZXN rfl];exact o q ⟨f,by omega⟩ (by rw[g];omega)
    |false=>
     rw[hb,cond_false]at f;rw[cond_false,ZnA,f];rfl
  ·rintro x rfl;dsimp only;unfold Zxa ZtB ZtA Ztz;have s:=ZI9 n p l;have j:∀e:Str,e=ZK5 D P->wp (bif a then (bif (!(e == ([48]:Str)))then chk (decide (([45]:Str).length+e.length<=Zq)) <| some (([45]:Str)++e)else some e)else (bif false then chk (decide (([45]:Str).length+e.length<=Zq)) <| some (([45]:Str)++e)else some e)) (fun x=>x=ZOb (a,D,P)):=by
    rintro e rfl;unfold ZOb;dsimp only;cases a with
    |false=>rw[cond_false,cond_false,ZXi,cond_false,ZnA]
    |true=>
     rw[cond_true,ZXl];cases (!(ZK5 D P == [48]))with
     |false=>rw[cond_false,cond_false,ZnA]
     |true=>
      rw[cond_true,cond_true,ZnF,ZnA];exact⟨decide_eq_true (by simp only[ZXH];unfold Zq;omega),rfl⟩
   cases hP:rz P with
   |nil=>
    rw[show (!(([]:Str) == ([]:Str)))=false from rfl,cond_false];exact j (lz D) (by unfold ZK5;rw[hP];simp)
   |cons c r=>
    have t:(c::r).length<=9:=by rw[<-hP];exact ZXR v l
    rw[show (!((c::r) == ([]:Str)))=true by simp,cond_true,ZnF,ZnF];refine⟨decide_eq_true (by simp only[ZXH];unfold Zq;omega),decide_eq_true (by rw[ZXC];simp only[ZXH];unfold Zq;omega), ?_⟩;exact j _ (by unfold ZK5;rw[hP];rfl)
end Go.Proofs
namespace Go.Proofs
open Go Eng
theorem ZN8 (a:Str):ZDm [a,[48]]=some (bif a.isEmpty then [48]else a):=by
 have d:wp (Zy2 big ([]:Str) [a,[48]] ((([a,[48]]:List Str).length:Nat):Int) 0) (fun x=>x= .ret (bif a.isEmpty then [48]else a)):=by
  refine ZwT ZGe ([a,[48]]:List Str) (by simp) (fun i (_:Unit)=>(([]:Str),([a,[48]]:List Str),((([a,[48]]:List Str).length:Nat):Int),i)) (fun k _=>k<=1/\(k=1->a=[])) () ⟨by omega,fun h=>by omega⟩ ?_ ?_
  ·rintro c k _ m ⟨e,l⟩ n;unfold ZEv ZCw;dsimp only;rw[decide_eq_true (show (k:Int) < ((([a,[48]]:List Str).length:Nat):Int) by omega),cond_true,Zqj m,ZXV];rcases Nat.eq_zero_or_pos k with rfl |f
   ·show wp (bif (!(a == []))then some (Out.ret a)else chk (inK .i64 (((0:Nat):Int)+1)) (c ([],[a,[48]],((([a,[48]]:List Str).length:Nat):Int),((0:Nat):Int)+1))) _;cases a with
    |nil=>
     rw[show (!(([]:Str) == ([]:Str)))=false from rfl,cond_false,ZnF];exact⟨by decide,n () ⟨by omega,fun _=>rfl⟩⟩
    |cons b r=>
     rw[show (!((b::r) == ([]:Str)))=true by simp,cond_true,ZnA];rfl
   ·obtain rfl:k=1:=by omega
    have j:=l rfl;subst j;show wp (bif (!(([48]:Str) == []))then some (Out.ret ([48]:Str))else chk (inK .i64 (((1:Nat):Int)+1)) (c ([],[[],[48]],((([([]:Str),[48]]:List Str).length:Nat):Int),((1:Nat):Int)+1))) _;rw[show (!(([48]:Str) == ([]:Str)))=true from rfl,cond_true,ZnA];rfl
  ·rintro c _ ⟨e,_⟩;simp only[ZXD,ZXG]at e;omega
 unfold ZDm;obtain⟨x,g,rfl⟩:=d;rw[g,ZXV]
theorem ZNA (t:Str):(ZI2 t).2.length<=t.length:=by
 unfold ZI2;cases t with
 |nil=>exact ZXQ _
 |cons b r=>
  dsimp only;cases b == 45 with
  |true=>rw[cond_true];simp
  |false=>
   rw[cond_false];cases b == 43 with
   |true=>rw[cond_true];simp
   |false=>rw[cond_false];exact ZXQ _
theorem ZE7 {t:Str} {x:Bool×Str×Str} (h:ZFJ t=some x):x.1=(ZI2 t).1/\ZFl (ZI2 t).2=some x.2:=by
 unfold ZFJ at h;cases hb:ZFl (ZI2 t).2 with
 |none=>rw[hb]at h;cases h
 |some y=>
  rw[hb]at h;simp only[ZXW,ZXX]at h;subst h;exact⟨rfl,rfl⟩
theorem ZLE {b:Str} {x:Str×Str} (h:ZFl b=some x):∃c r,b=c::r/\isD c=true:=by
 have d:=ZD7 h;rw[ZG8]at h;cases b with
 |nil=>simp[okD]at h
 |cons c r=>
  refine⟨c,r,rfl, ?_⟩;cases hc:n46 c with
  |false=>
   rw[ZXL,hc]at h;simp[okD]at h
  |true=>
   cases hcc:(okD ((c::r).takeWhile n46) 15&&(((c::r).dropWhile n46).isEmpty||okD ((c::r).dropWhile n46).tail 9))with
   |false=>rw[hcc,cond_false]at h;cases h
   |true=>
    rw[ZSL]at hcc;have a:=hcc.1;unfold okD at a;rw[ZXL,hc,if_pos rfl,ZXp]at a;simp only[ZSL]at a;exact a.2.1
theorem ZSM (b:UInt8):([43,45]:Str).contains b=((b == 45)||(b == 43)):=by rw[List.contains_cons,List.contains_cons];simp only[List.contains_nil,Bool.or_false];exact Bool.or_comm _ _
theorem ZS3 {b:UInt8} (h:isD b=true):((b == 45)||(b == 43))=false:=by
 cases h1:b == 45 with
 |true=>rw[eq_of_beq h1]at h;exact absurd h (by decide)
 |false=>
  cases h2:b == 43 with
  |true=>rw[eq_of_beq h2]at h;exact absurd h (by decide)
  |false=>rfl
theorem ZNp {t:Str} {x:Bool×Str×Str} (h:ZFJ t=some x):Lib.trimLeftS t [43,45]=(ZI2 t).2/\∃b r,t=b::r/\(b == 45)=x.1:=by
 obtain⟨i,f⟩:=ZE7 h;obtain⟨c,r,a,g⟩:=ZLE f;have e:=ZS3 g;unfold Lib.trimLeftS;rw[show (fun b:UInt8=>([43,45]:Str).contains b)=fun b=>(b == 45)||(b == 43)from funext ZSM];have d:(c::r).dropWhile (fun b=>(b == 45)||(b == 43))=c::r:=by rw[ZXt,e,if_neg (by simp)]
 rw[i];cases t with
 |nil=>unfold ZI2 at a;cases a
 |cons b s=>
  unfold ZI2 at a|-
  dsimp only at a|-
  rw[ZXt];cases h45:b == 45 with
  |true=>
   rw[h45,cond_true]at a;dsimp only at a;rw[cond_true,Bool.true_or,if_pos rfl,a];exact⟨d,b,_,rfl,h45⟩
  |false=>
   rw[h45,cond_false]at a;rw[cond_false,Bool.false_or];cases h43:b == 43 with
   |true=>
    rw[h43,cond_true]at a;dsimp only at a;rw[cond_true,if_pos rfl,a];exact⟨d,b,_,rfl,h45⟩
   |false=>
    rw[cond_false,if_neg (by simp)];exact⟨rfl,b,_,rfl,h45⟩
theorem ZKr {t:Str} (C:t.length<=9223372036854775807):ZBm t=some (match ZFJ t with |some x=>(ZOb x,true) |none=>([],false)):=by
 unfold ZBm;rw[ZIQ C,ZXV];cases p:ZFJ t with
 |none=>rfl
 |some x=>
  obtain⟨f,D,P⟩:=x;obtain⟨B,q⟩:=ZE7 p;obtain⟨z,b,r,o,d⟩:=ZNp p;have g:=ZD7 q;have w:=ZNA t;dsimp only at B d|-
  have a:=ZG8 (ZI2 t).2;rw[q]at a;have i:D=(ZI2 t).2.takeWhile n46/\P=((ZI2 t).2.dropWhile n46).tail:=by
   cases hcc:(okD ((ZI2 t).2.takeWhile n46) 15&&(((ZI2 t).2.dropWhile n46).isEmpty||okD ((ZI2 t).2.dropWhile n46).tail 9))with
   |false=>rw[hcc,cond_false]at a;cases a
   |true=>
    rw[hcc,cond_true]at a;simp only[ZXX,Prod.mk.injEq]at a;exact a
  unfold ZBe ZCP;rw[ZXk,cond_false,show (([43,45]:Str).all fun b=>decide (b.toNat < 128))=true from by decide,chk_true,show decide (([43,45]:Str).length < 4294967281)=true from by decide,chk_true,ZXV,z,ZjU (by omega),ZXV];dsimp only;rw[<-i.1,<-i.2,show (([48]:Str).all fun b=>decide (b.toNat < 128))=true from by decide,chk_true,show decide (([48]:Str).length < 4294967281)=true from by decide,chk_true,ZXV,chk_true,chk_true,ZXV];have y:Lib.trimLeftS D [48]=D.dropWhile is0:=by unfold Lib.trimLeftS;rw[ZGf];rfl
  have E:Lib.trimRightS P [48]=rz P:=by unfold Lib.trimRightS rz rtr;rw[ZGf];rfl
  rw[y,E,ZN8,ZXV];show (bif (!(rz P == ([]:Str)))then _ else ZtN t (lz D))=_;have k:=g.d1;have l:=g.d2;have h:=g.p;have A:=ZI9 k l h;have v:=ZMq k;have m:=ZI3 is0 P;have j:∀e:Str,e=ZK5 D P->ZtN t e=some (ZOb (f,D,P),true):=by
   rintro e rfl;unfold ZtN ZAX ZAW ZOb;have n:(((b.toNat:Nat):Int) == 45)=f:=(ZHC b 45).trans d;rw[o,show idx (b::r) 0=some b from rfl,ZXV,n];dsimp only;cases f with
   |false=>rw[cond_false,cond_false,ZXi,cond_false]
   |true=>
    rw[cond_true,ZXl];cases (!(ZK5 D P == [48]))with
    |false=>rw[cond_false,cond_false]
    |true=>
     rw[cond_true,cond_true,decide_eq_true (by simp only[ZXH];unfold Zq;omega),chk_true];rfl
  cases hP:rz P with
  |nil=>
   rw[show (!(([]:Str) == ([]:Str)))=false from rfl,cond_false];exact j (lz D) (by unfold ZK5;rw[hP];simp)
  |cons c s=>
   have u:(c::s).length<=9:=by rw[<-hP];exact ZXR m h
   rw[show (!((c::s) == ([]:Str)))=true by simp,cond_true,decide_eq_true (show ([46]:Str).length+(c::s).length<=Zq by simp only[ZXH];unfold Zq;omega),chk_true];show chk (decide ((lz D).length+(([46]:Str)++(c::s)).length<=Zq)) (ZtN t (lz D++(([46]:Str)++(c::s))))=_;rw[decide_eq_true (by rw[ZXC];simp only[ZXH];unfold Zq;omega),chk_true];exact j _ (by unfold ZK5;rw[hP];rfl)
theorem ZOa {x:Bool×Str×Str} (h:ZIt x.2.1 x.2.2):(ZOb x).length<=26:=by
 have:=ZI9 h.d1 h.d2 h.p;unfold ZOb;cases (x.1&& !(ZK5 x.2.1 x.2.2 == [48]))with
 |true=>rw[cond_true];simp only[ZXD];omega
 |false=>rw[cond_false];omega
def ZGO (s:Str):Option Str:=(ZFJ (ZIx s)).map ZOb
def ZOx (s:Str):Option Rat:=match ZGO s with
 |some t=>(ZFJ t).map ZQl
 |none=>none
theorem ZIS {s t:Str} (h:ZGO s=some t):t.length<=26:=by
 unfold ZGO at h;cases a:ZFJ (ZIx s)with
 |none=>rw[a]at h;cases h
 |some x=>
  rw[a]at h;simp only[ZXW,ZXX]at h;subst h;obtain⟨_,b⟩:=ZE7 a;exact ZOa (ZD7 (D:=x.2.1) (P:=x.2.2) b)
theorem ZMI {s:Str} (d:s.length<=9223372036854775807):ZxB 4 s=some (match ZGO s with |some t=>(t,true) |none=>([],false)):=by
 have h:ZxB 4 s=(ZEV s).bind fun q=>(ZBm q).bind fun(a,b)=>some (a,b):=by kernel_rfl
 have c:=ZJq s;rw[h,ZJ8,ZXV,ZKr (by omega),ZXV];unfold ZGO;cases ZFJ (ZIx s)<;>rfl
theorem ZL1 {s:Str} (c:s.length<=9223372036854775807):ZC4 4 s=some (match ZOx s with |some q=>(fOf q,true) |none=>(zf,false)):=by
 have h:ZC4 4 s=(ZxB 4 s).bind fun(t,d)=>bif (!d)then some (zf,false)else (Zwy t).bind fun(a,b)=>some (a,b):=by kernel_rfl
 rw[h,ZMI c,ZXV];unfold ZOx;cases hc:ZGO s with
 |none=>rfl
 |some t=>
  have:=ZIS hc;dsimp only;rw[ZXk,cond_false,ZIQ (by omega),ZXV];cases ZFJ t<;>rfl
theorem ZKc {s:Str} (c:s.length<=9223372036854775807):Zwl 4 s=some (match ZOx s with |some q=>(fOf q,true) |none=>(zf,false)):=by
 have b:ZtE 4 s=some (match ZGO s with |some t=>(t,true) |none=>([],false)):=by
  have f:=ZJq s;unfold ZtE ZrP;rw[ZLo c,ZXV,show ((4:Int) == 1)=false from rfl,show ((4:Int) == 2)=false from rfl,show ((4:Int) == 3)=false from rfl,show ((4:Int) == 4)=true from rfl];simp only[cond_false,cond_true];rw[ZK4 (by omega),ZXV];unfold ZGO;cases d:ZFJ (ZIx s)with
  |none=>rfl
  |some x=>
   obtain⟨_,e⟩:=ZE7 d;have a:=ZD7 (D:=x.2.1) (P:=x.2.2) e;dsimp only;unfold Zp5;rw[cond_true,cond_true,ZMk a.d1 a.d2 a.p,ZXV];rfl
 unfold Zwl ZtW;rw[b,ZXV];unfold ZOx;cases hc:ZGO s with
 |none=>rfl
 |some t=>
  have:=ZIS hc;dsimp only;rw[ZXk,cond_false,show ((4:Int) == 1)=false from rfl,show ((4:Int) == 2)=false from rfl,show ((4:Int) == 5)=false from rfl];simp only[cond_false];rw[ZI4 (by omega),ZXV];cases ZFJ t<;>rfl
def ZHt (c:G_api_Cell):Option Rat:=bif c.Null then none else ZOx c.Text
theorem ZKk {c:G_api_Cell} (hl:c.Text.length<=9223372036854775807):ZBJ c=some (match ZHt c with |some q=>(fOf q,true) |none=>(bif c.Null then fOf 0 else zf,false)):=by
 unfold ZBJ ZHt;cases c.Null with
 |true=>rw[cond_true,ZJ3,ZXV];rfl
 |false=>
  rw[cond_false,ZL1 hl,ZXV];cases ZOx c.Text<;>rfl
theorem ZJx {c:G_api_Cell} (a:c.Text.length<=9223372036854775807):ZvI c=some (match ZHt c with |some q=>(fOf q,true) |none=>(zf,false)):=by
 unfold ZvI ZHt;cases c.Null with
 |true=>rfl
 |false=>
  rw[cond_false,ZKc a,ZXV];cases ZOx c.Text<;>rfl
theorem ZQk {x:Bool×Str×Str} (h:ZIt x.2.1 x.2.2):Sz 80 (ZQl x):=by have d:=h.d2;have c:=h.p;have a:ZF8 (x.2.1++x.2.2) < 2 ^ 80:=ZGk (by rw[ZXo,h.dd,h.pp];rfl) (by rw[ZXC];omega);have b:=ZGD (show x.2.2.length<=24 by omega);have e:=Nat.pow_pos (n:=x.2.2.length) (show 0 < 10 by decide);unfold ZQl;refine ZFB (by omega) ?_ (by omega);split<;>omega
theorem ZLe {c:G_api_Cell} {q:Rat} (h:ZHt c=some q):Sz 80 q:=by
 unfold ZHt at h;cases hn:c.Null with
 |true=>rw[hn]at h;cases h
 |false=>
  rw[hn,cond_false]at h;unfold ZOx at h;cases hc:ZGO c.Text with
  |none=>rw[hc]at h;cases h
  |some t=>
   rw[hc]at h;dsimp only at h;cases a:ZFJ t with
   |none=>rw[a]at h;cases h
   |some x=>
    rw[a]at h;simp only[ZXW,ZXX]at h;subst h;obtain⟨_,b⟩:=ZE7 a;exact ZQk (ZD7 (D:=x.2.1) (P:=x.2.2) b)
end Go.Proofs
namespace Go.Proofs
open Go Eng
def gR (l:List Rat) (i:Nat):Rat:=l.getD i 0
def xOf (u v:Rat):Rat:=if v < u then v else u
theorem ZPj (u v c:Rat):xOf (u+c) (v+c)=xOf u v+c:=by unfold xOf;split<;>split<;>grind
theorem ZSl (u v:Rat):xOf u v=u\/xOf u v=v:=by
 unfold xOf;split
 ·exact .inr rfl
 ·exact .inl rfl
def Zmn (l:List Rat) (i:Nat) (x:Rat) (r:Nat):Prop:=
 i<=r/\r<=l.length/\(∀j,i<=j->j < r->gR l j<=x)/\(r < l.length->x < gR l r)
theorem Zmn.det {l:List Rat} {i:Nat} {x:Rat} {r s:Nat} (h:Zmn l i x r) (k:Zmn l i x s):r=s:=by
 obtain⟨j,o,e,g⟩:=h;obtain⟨m,n,f,d⟩:=k;rcases Nat.lt_trichotomy r s with c |c |c
 ·have a:=f r j c;have b:=g (by omega);grind
 ·exact c
 ·have a:=e s m c;have b:=d (by omega);grind
def stp (a b i k:Nat) (m:Int):Int:=max (max m ((i:Int)*b - (k:Int)*a)) ((k:Int)*a - (i:Int)*b)
inductive DistR (a b:List Rat):Nat->Nat->Int->Int->Prop
 |done {i k m}:¬(i < a.length/\k < b.length)->DistR a b i k m m
 |go {i k m r i' k'}:i < a.length->k < b.length->Zmn a i (xOf (gR a i) (gR b k)) i'->Zmn b k (xOf (gR a i) (gR b k)) k'->
   DistR a b i' k' (stp a.length b.length i' k' m) r->DistR a b i k m r
theorem DistR.det {a b:List Rat} {i k:Nat} {m r s:Int} (h:DistR a b i k m r) (g:DistR a b i k m s):r=s:=by
 induction h with
 |done c=>
  cases g with
  |done _=>rfl
  |go e d _ _ _=>exact absurd ⟨e,d⟩ c
 |go e d p j _ q=>
  cases g with
  |done c=>exact absurd ⟨e,d⟩ c
  |go _ _ f l g=>
   have n:=p.det f;have o:=j.det l;subst n o;exact q g
theorem ZSz {b a i k:Nat} {m:Int} (hi:i<=b) (d:k<=a) (g:m<=(b*a:Nat)):stp b a i k m<=(b*a:Nat):=by
 have c:(i:Int)*a=((i*a:Nat):Int):=by rw[ZXm]
 have e:(k:Int)*b=((k*b:Nat):Int):=by rw[ZXm]
 have h:i*a<=b*a:=ZXT _ hi;have f:k*b<=b*a:=by rw[Nat.mul_comm b a];exact ZXT _ d
 unfold stp;rw[c,e];omega
theorem ZSV {a b i k:Nat} {m:Int}:m<=stp a b i k m:=by unfold stp;omega
theorem DistR.bound {a b:List Rat} {i k:Nat} {m r:Int} (h:DistR a b i k m r) (c:0<=m) (d:m<=(a.length*b.length:Nat)):0<=r/\r<=(a.length*b.length:Nat):=by
 induction h with
 |done _=>exact⟨c,d⟩
 |go l j f e _ g=>exact g (Int.le_trans c ZSV) (ZSz f.2.1 e.2.1 d)
theorem ZIO {l:List Rat} {c:Rat} {i:Nat} (h:i < l.length):gR (l.map (· +c)) i=gR l i+c:=by unfold gR;rw[ZXx,ZXx,List.getElem?_map,ZXy h];rfl
theorem Zmn.add {l:List Rat} {i:Nat} {x c:Rat} {r:Nat} (h:Zmn l i x r):Zmn (l.map (· +c)) i (x+c) r:=by
 obtain⟨k,g,e,f⟩:=h;refine⟨k,by rw[ZXF];exact g,fun j a b=> ?_,fun d=> ?_⟩
 ·rw[ZIO (by omega)];have:=e j a b;grind
 ·rw[ZXF]at d;rw[ZIO d];have:=f d;grind
theorem DistR.add {a b:List Rat} {i k:Nat} {m r:Int} (c:Rat) (h:DistR a b i k m r):DistR (a.map (· +c)) (b.map (· +c)) i k m r:=by
 induction h with
 |done g=>exact .done (by rw[ZXF,ZXF];exact g)
 |go j f e d _ l=>
  have e:=e.add (c:=c);have d:=d.add (c:=c);rw[<-ZPj,<-ZIO j,<-ZIO f]at e d;refine .go (by rw[ZXF];exact j) (by rw[ZXF];exact f) e d ?_;rw[ZXF,ZXF];exact l
def Asc (l:List Rat):Prop:=∀i j,i<=j->j < l.length->gR l i<=gR l j
theorem ZDr {l:List Rat} {i:Nat} (h:i < l.length):gR l i=l[i]:=by unfold gR;rw[ZXx,ZXy h];rfl
theorem Asc.add {l:List Rat} (c:Rat) (h:Asc l):Asc (l.map (· +c)):=fun i j b a=>by rw[ZXF]at a;rw[ZIO a,ZIO (by omega)];have:=h i j b a;grind
theorem ZTu {l:List Rat} (h:Asc l) {r:Nat} (c:r < l.length):r+1<=l.countP (fun y=> !decide (gR l r < y)):=by
 have e:l=l.take (r+1)++l.drop (r+1):=(ZXM _ _).symm;have b:(l.take (r+1)).countP (fun y=> !decide (gR l r < y))=(l.take (r+1)).length:=by rw[List.countP_eq_length];intro y a;obtain⟨i,hi,rfl⟩:=List.getElem_of_mem a;rw[ZXI]at hi;have:=h i r (by omega) c;rw[ZDr (i:=i) (by omega)]at this;rw[List.getElem_take];simp only[Bool.not_eq_true',decide_eq_false_iff_not];grind
 rw[ZXI]at b;have d:l.countP (fun y=> !decide (gR l r < y))=(l.take (r+1)).countP (fun y=> !decide (gR l r < y))+(l.drop (r+1)).countP (fun y=> !decide (gR l r < y)):=by rw[<-List.countP_append,<-e]
 omega
end Go.Proofs
namespace Go.Proofs
open Go Eng
theorem ZKZ (a b:Rat):ZGL a b<=0<->a<=b:=by
 unfold ZGL;split
 ·grind
 ·split
  ·grind
  ·grind
theorem ZI5 (a b:Rat):ZGL a b < 0<->a < b:=by
 unfold ZGL;split
 ·grind
 ·split
  ·grind
  ·grind
theorem ZL2 {l:List Rat} (d:∀q∈l,Sz 400 q) (o:l.length<=1000) {x:Rat} (e:Sz 400 x) {i:Nat} (hi:i<=l.length):
  wp (ZBI (l.map fOf) (i:Int) (fOf x)) (fun r=>∃k:Nat,r=(k:Int)/\Zmn l i x k):=by
 unfold ZBI;rw[ZnD];refine ZnK (Zoh ZGc (fun k:Nat=>(l.map fOf,(k:Int),fOf x)) (fun k=>i<=k/\k<=l.length/\∀j,i<=j->j < k->gR l j<=x) (fun k=>l.length - k) (Q:=fun r=>∃k:Nat,r=(k:Int)/\Zmn l i x k) i ⟨ZXQ _,hi,fun j c b=>by omega⟩ (by omega) ?_) ?_
 ·rintro f k ⟨c,b,a⟩ n;unfold ZEq ZCp ZBf;dsimp only;rw[ZXF]
  by_cases hk:k < l.length
  ·have m:l[k]∈l:=ZXA hk;rw[decide_eq_true (show (k:Int) < (l.length:Int) by omega),cond_true,Zqj (by simpa using hk),ZnD,ZnA,ZXz,ZJK ((d _ m).wq (by omega)) (e.wq (by omega)),ZnD,ZnA]
   by_cases hc:ZGL l[k] x<=0
   ·rw[decide_eq_true hc,cond_true,ZnF];refine⟨ZnH (by omega),n (k+1) ⟨by omega,by omega,fun j g p=> ?_⟩ (by omega)⟩
    by_cases hj:j=k
    ·rw[hj,ZDr hk];exact(ZKZ _ _).1 hc
    ·exact a j g (by omega)
   ·rw[decide_eq_false hc,cond_false,ZnA];refine⟨k,rfl,c,b,a,fun _=> ?_⟩;rw[ZDr hk];rw[ZKZ]at hc;grind
  ·rw[decide_eq_false (show ¬(k:Int) < (l.length:Int) by omega),cond_false,cond_false,ZnA];exact⟨k,rfl,c,b,a,fun h=>absurd h hk⟩
 ·intro r h;unfold ZDd;rw[ZnA];exact h
theorem ZSA (a b i k:Nat) (m:Int):(if ((k:Int)*a - (i:Int)*b) > (if ((i:Int)*b - (k:Int)*a) > m then ((i:Int)*b - (k:Int)*a)else m)then ((k:Int)*a - (i:Int)*b)else (if ((i:Int)*b - (k:Int)*a) > m then ((i:Int)*b - (k:Int)*a)else m))=stp a b i k m:=by unfold stp;split<;>split<;>omega
theorem Zmn.grows {l:List Rat} {i:Nat} {x:Rat} {r:Nat} (h:Zmn l i x r) (hi:i < l.length) (d:gR l i<=x):i < r:=by
 obtain⟨b,e,c,a⟩:=h;rcases Nat.lt_or_eq_of_le b with h |h
 ·exact h
 ·have:=a (by omega);rw[<-h]at this;grind
theorem ZMF {a b:List Rat} (ha:∀q∈a,Sz 400 q) (hb:∀q∈b,Sz 400 q) (hna:a.length<=1000) (hnb:b.length<=1000) (ha0:a.length≠0) (hb0:b.length≠0):
  ∃r,ZqQ (a.map fOf) (b.map fOf)=some (fOf (Rat.divInt r ((a.length*b.length:Nat):Int)),0)/\DistR a b 0 0 0 r:=by
 suffices h:wp (ZqQ (a.map fOf) (b.map fOf)) (fun x=>∃r,x=(fOf (Rat.divInt r ((a.length*b.length:Nat):Int)),0)/\DistR a b 0 0 0 r) by obtain⟨x,hx,r,rfl,hr⟩:=h;exact⟨r,hx,hr⟩
 have hlb:∀i k:Nat,i<=a.length->k<=b.length->(0<=(i:Int)*(b.length:Int)/\(i:Int)*(b.length:Int)<=1000000)/\(0<=(k:Int)*(a.length:Int)/\(k:Int)*(a.length:Int)<=1000000):=by
  intro i k hi hk;have e1:(i:Int)*(b.length:Int)=((i*b.length:Nat):Int):=by rw[ZXm]
  have e2:(k:Int)*(a.length:Int)=((k*a.length:Nat):Int):=by rw[ZXm]
  have h1:i*b.length<=1000*1000:=ZXS (by omega) hnb;have h2:k*a.length<=1000*1000:=ZXS (by omega) hna;rw[e1,e2];omega
 unfold ZqQ;rw[ZXF,ZXF,show ((a.length:Int) == 0)=false from beq_eq_false_iff_ne.2 (by omega),show ((b.length:Int) == 0)=false from beq_eq_false_iff_ne.2 (by omega),cond_false];unfold Zvf;rw[cond_false,ZnD];refine ZnK (Zoh ZFv (fun s:Nat×Nat×Int=>(a.map fOf,b.map fOf,s.2.2,(s.1:Int),(s.2.1:Int),false,false,[],[]))
  (fun s=>s.1<=a.length/\s.2.1<=b.length/\∀r,DistR a b s.1 s.2.1 s.2.2 r->DistR a b 0 0 0 r) (fun s=>(a.length - s.1)+(b.length - s.2.1))
  (Q:=fun x=>∃r,x=(a.map fOf,b.map fOf,r,false,false,[],[])/\DistR a b 0 0 0 r) (0,0,0) ⟨ZXU _,ZXU _,fun r h=>h⟩ (by dsimp only;omega) ?_) ?_
 ·rintro rec ⟨i,k,m⟩ ⟨h1,h2,h3⟩ ih;dsimp only at h1 h2 h3 ih|-
  unfold ZC0 Zz2 Zym;dsimp only;rw[ZXF,ZXF];have j3:∀x:Rat,Sz 400 x->i < a.length->k < b.length->x=xOf (gR a i) (gR b k)->wp (Zve (fun a b most i k t4 t4_1 t4_2 t4_3=>rec (a,b,most,i,k,t4,t4_1,t4_2,t4_3)) (a.map fOf) (b.map fOf) m (i:Int) (k:Int) false false (fOf x) [] []) (fun x=>∃r,x=(a.map fOf,b.map fOf,r,false,false,[],[])/\DistR a b 0 0 0 r):=by
   intro x hx hi hk ex;unfold Zve;rw[ZnD];refine ZnK (ZL2 ha hna hx h1) ?_;rintro _ ⟨i',rfl,hi'⟩;rw[ZnD];refine ZnK (ZL2 hb hnb hx h2) ?_;rintro _ ⟨k',rfl,hk'⟩;rw[ZXF,ZXF,ZSA];have hb':=hlb i' k' hi'.2.1 hk'.2.1;rw[ZnF,ZnF,ZnF,ZnF,ZnF,ZnF];refine⟨ZnH (by omega),ZnH (by omega),ZnH (by omega),ZnH (by omega),ZnH (by omega),ZnH (by omega), ?_⟩;refine ih (i',k',stp a.length b.length i' k' m) ⟨hi'.2.1,hk'.2.1,fun r hr=>h3 r ?_⟩ ?_
   ·rw[ex]at hi' hk';exact .go hi hk hi' hk' hr
   ·dsimp only;have q1:=hi'.1;have q2:=hk'.1;have q3:=hi'.2.1;have q4:=hk'.2.1;rcases ZSl (gR a i) (gR b k)with e |e
    ·have:=hi'.grows hi (by rw[ex,e];exact Rat.le_refl);omega
    ·have:=hk'.grows hk (by rw[ex,e];exact Rat.le_refl);omega
  by_cases hi:i < a.length
  ·rw[decide_eq_true (show (i:Int) < (a.length:Int) by omega),cond_true]
   by_cases hk:k < b.length
   ·have hqa:a[i]∈a:=ZXA hi;have hqb:b[k]∈b:=ZXA hk;rw[decide_eq_true (show (k:Int) < (b.length:Int) by omega),cond_true,Zqj (by simpa using hi),Zqj (by simpa using hk),ZnD,ZnA,ZnD,ZnA,ZXz,ZXz,ZJK ((hb _ hqb).wq (by omega)) ((ha _ hqa).wq (by omega)),ZnD,ZnA]
    by_cases hc:ZGL b[k] a[i] < 0
    ·rw[decide_eq_true hc,cond_true,ZnD,ZnA];exact j3 _ (hb _ hqb) hi hk (by rw[ZDr hi,ZDr hk];unfold xOf;rw[if_pos ((ZI5 _ _).1 hc)])
    ·rw[decide_eq_false hc,cond_false];exact j3 _ (ha _ hqa) hi hk (by rw[ZDr hi,ZDr hk];unfold xOf;rw[if_neg (fun h=>hc ((ZI5 _ _).2 h))])
   ·rw[decide_eq_false (show ¬(k:Int) < (b.length:Int) by omega),cond_false,ZnA];exact⟨m,rfl,h3 m (.done (fun h=>hk h.2))⟩
  ·rw[decide_eq_false (show ¬(i:Int) < (a.length:Int) by omega),cond_false,cond_false,ZnA];exact⟨m,rfl,h3 m (.done (fun h=>hi h.1))⟩
 ·rintro _ ⟨r,rfl,hr⟩;have hbd:=hr.bound (Int.le_refl 0) (by omega);have hm:a.length*b.length<=1000*1000:=ZXS hna hnb;have hp:0 < a.length*b.length:=Nat.mul_pos (by omega) (by omega);unfold ZAU;dsimp only;rw[ZXF,ZXF,<-ZXm,ZnF,ZK7 _ _ (by omega) (by omega) (by omega) (by omega) (by omega),ZnD,ZnA,ZnA];exact⟨ZnH (by omega),r,rfl,hr⟩
end Go.Proofs
namespace Go.Proofs
open Go Eng
def ltQ (x p:Rat):Bool:=decide (x < p)
theorem ZLA (b i0:Int) {A0 C0:List Rat} {x:Rat} (d:∀y∈A0,Sz 400 y) (m:Sz 400 x) (a:(A0++x::C0).length<=1000):
  wp (ZnX big 0 b i0 (A0.length:Int) ((A0++x::C0).map fOf)) (fun y=>y=(0,b,i0,(ZHS ltQ x A0++C0).map fOf)):=by
 refine Zoh ZyT (fun(s:List Rat×List Rat)=>((0:Int),b,i0,(s.1.length:Int),(s.1++x::s.2).map fOf)) (fun s=>(∀y∈s.1,Sz 400 y)/\ZHS ltQ x s.1++s.2=ZHS ltQ x A0++C0/\(s.1++x::s.2).length<=1000) (fun s=>s.1.length)
  (Q:=fun y=>y=(0,b,i0,(ZHS ltQ x A0++C0).map fOf)) (A0,C0) ⟨d,rfl,a⟩ (by dsimp only;simp only[ZXC]at a;omega) ?_
 rintro z ⟨A,C⟩ ⟨d,c,k⟩ j;dsimp only at d c k j|-
 unfold ZsY ZpM ZoN;dsimp only;rcases ZXw A with rfl |⟨A,p,rfl⟩
 ·rw[ZnP];refine⟨fun h=>by simp at h,fun _=> ?_⟩;rw[cond_false,ZnA];rw[ZLb]at c;rw[<-c];rfl
 ·rw[ZXr]at*
  have w:=d p (by simp);simp only[ZXC,ZXD,ZXG]at k;have v:((A++[p])++x::C).map fOf=A.map fOf++fOf p::fOf x::C.map fOf:=by simp
  have f:((A++[p]).length:Int)=((A.length+1:Nat):Int):=by simp
  have q:(((A++[p]).length:Int) - 1)=(A.length:Int):=by rw[f];omega
  have r:(A.map fOf++fOf p::fOf x::C.map fOf)[A.length+1]? =some (fOf x):=by rw[List.getElem?_append_right (by rw[ZXF];omega),ZXF,show A.length+1 - A.length=1 by omega];rfl
  have t:(A.map fOf++fOf p::fOf x::C.map fOf)[A.length]? =some (fOf p):=by rw[List.getElem?_append_right (by rw[ZXF];omega),ZXF,show A.length - A.length=0 by omega];rfl
  rw[ZnP];refine⟨fun _=> ?_,fun h=>by simp only[decide_eq_false_iff_not,f]at h;omega⟩;rw[q,f,v];simp only[ZXn,r,t,ZXV];have B:(A.map fOf++fOf p::fOf x::C.map fOf).length=A.length+2+C.length:=by simp only[ZXC,ZXD,ZXF];omega
  have n:inR ((A.length+1:Nat):Int) ((A.map fOf++fOf p::fOf x::C.map fOf).length:Int)=true:=ZoH ⟨by omega,by omega⟩;have l:inR (A.length:Int) ((A.map fOf++fOf p::fOf x::C.map fOf).length:Int)=true:=ZoH ⟨by omega,by omega⟩;have i:inR (A.length:Int) (((A.map fOf++fOf p::fOf x::C.map fOf).set (A.length+1) (fOf p)).length:Int)=true:=by rw[List.length_set];exact l
  have u:inK .i64 (A.length:Int)=true:=ZnH (by omega);rw[n,l,i,u];simp only[chk_true];rw[ZJK (m.wq (by omega)) (w.wq (by omega)),ZnD,ZnA];rw[ZHc]at c;have e:ltQ x p=decide (ZGL x p < 0):=by unfold ltQ;rw[Bool.eq_iff_iff,decide_eq_true_eq,decide_eq_true_eq,ZI5]
  rw[ZnP];refine⟨fun g=> ?_,fun g=> ?_⟩
  ·rw[e,if_pos g]at c;have:=ZJt (A.map fOf) (C.map fOf) (fOf p) (fOf x);rw[ZXF]at this;rw[this];have:=j (A,p::C) ⟨fun y o=>d y (by simp[o]),by rw[<-c];simp,by simp only[ZXC,ZXD];omega⟩ (by simp);simpa using this
  ·rw[e,if_neg (by rw[g];simp)]at c;rw[ZnA,<-c];simp
theorem ZP8 {D:List Rat} (l:∀y∈D,Sz 400 y) (q:D.length<=1000):
  ZoU (D.map fOf) 0 (D.length:Int)=some ((ZzG ltQ D).map fOf):=by
 have d:Zo7 (D.map fOf) 0 (D.length:Int)=some ((ZzG ltQ D).map fOf):=by
  refine ZpD ?_;unfold Zo7 Zqf;rw[ZnF,ZnD];refine⟨ZnH (by omega), ?_⟩;have j:∀(i:Nat),i<=D.length->∀y∈ZzG ltQ (D.take i),Sz 400 y:=fun i _ y o=>l y (List.mem_of_mem_take ((ZDP _).mem_iff.1 o))
  have g:∀(k f:Nat),k+1<=D.length->D.length - (k+1) < f->wp (Zod f 0 (D.length:Int) ((k+1:Nat):Int) ((ZzG ltQ (D.take (k+1))++D.drop (k+1)).map fOf)) (fun y=>y=(ZzG ltQ D).map fOf):=by
   intro k f
   induction f generalizing k with
   |zero=>intro _ h;omega
   |succ f p=>
    intro n r;show wp (ZpN _ _ _ _ _) _;unfold ZpN Zqg;rw[ZnP];refine⟨fun c=> ?_,fun c=> ?_⟩
    ·simp only[decide_eq_true_eq]at c;have b:k+1 < D.length:=by omega
     have a:(ZzG ltQ (D.take (k+1))).length=k+1:=by rw[ZDp,ZXI];omega
     have e:D.drop (k+1)=D[k+1]::D.drop (k+2):=ZXv b;rw[e];have:=ZLA (D.length:Int) ((k+1:Nat):Int) (A0:=ZzG ltQ (D.take (k+1))) (C0:=D.drop (k+2)) (x:=D[k+1]) (j _ n) (l _ (ZXA _)) (by simp only[ZXC,ZXD,a,ZXE];omega);rw[a]at this;rw[ZnD];refine ZnK this ?_;rintro y rfl;dsimp only;rw[ZnF];refine⟨ZnH (by omega), ?_⟩;have m:ZHS ltQ D[k+1] (ZzG ltQ (D.take (k+1)))=ZzG ltQ (D.take (k+2)):=by rw[ZXP b,ZGF]
     rw[m];have:=p (k+1) (by omega) (by omega);rw[show ((k+1:Nat):Int)+1=((k+1+1:Nat):Int) by omega];exact this
    ·simp only[decide_eq_false_iff_not]at c;have:k+1=D.length:=by omega
     rw[ZnA,this,ZXO,List.drop_of_length_le (ZXQ _),List.append_nil]
  by_cases h0:D.length=0
  ·have:D=[]:=List.eq_nil_of_length_eq_zero h0;subst this;exact⟨[],rfl,ZnA.2 rfl⟩
  ·have:=g 0 big (by omega) (by rw[big_eq];omega);have e:ZzG ltQ (D.take (0+1))++D.drop (0+1)=D:=by
    cases D with
    |nil=>simp at h0
    |cons x D=>rfl
   rw[e]at this;refine ZnK this ?_;rintro y rfl;rw[ZnA]
 unfold ZoU;rw[d,ZXV,ZXF,ZXF,ZDp,decide_eq_true rfl];rfl
theorem ZMs:((List.range 13).all fun n:Nat=>(Zz3 (IntKind.wrap .u64 (n:Int))).isSome)=true:=by kernel_rfl
theorem ZNx {D:List Rat} (d:∀y∈D,Sz 400 y) (g:D.length<=12):Zoe (D.map fOf)=some ((ZzG ltQ D).map fOf):=by
 have b:ZpQ (D.map fOf) 0 (D.length:Int)=fun _=>some ((ZzG ltQ D).map fOf):=by funext f;obtain⟨k,c⟩:=ZIn 1 (by omega);unfold ZpQ ZsR;rw[c];show ((Zrc _ _ _ _ _ _ _).bind _).bind _=_;unfold Zrc;rw[ZnH (by omega),chk_true,decide_eq_true (show (D.length:Int) - 0<=12 by omega),cond_true,ZP8 d (by omega),ZXV,ZXV];dsimp only;rw[ZXV,ZXF,ZXF,ZDp,decide_eq_true rfl];rfl
 have a:=ZXq.1 ZMs D.length (List.mem_range.2 (by omega));obtain⟨n,e⟩:=Option.isSome_iff_exists.1 a;unfold Zoe ZqO;rw[ZXF,e,ZXV,b,ZXV,ZXV,ZXF,ZDp,decide_eq_true rfl];rfl
end Go.Proofs
namespace Go.Proofs
open Go Eng
theorem ZMv {b:Type} {lt:b->b->Bool} (x:b) (A1:List b) (e:∀B p,A1=B++[p]->lt x p=false):∀(n:Nat) (A2:List b),A2.length=n->(∀y∈A2,lt x y=true)->ZHS lt x (A1++A2)=A1++x::A2:=by
 intro n
 induction n with
 |zero=>
  intro A2 a _;obtain rfl:=List.eq_nil_of_length_eq_zero a;rw[List.append_nil];rcases ZXw A1 with rfl |⟨B,p,rfl⟩
  ·rfl
  ·rw[ZXr]at*
   rw[ZHc,if_neg (by rw[e B p rfl];decide)];simp
 |succ n f=>
  intro A2 a c;rcases ZXw A2 with rfl |⟨C,y,rfl⟩
  ·cases a
  ·rw[ZXr]at*
   rw[<-List.append_assoc,ZHc,if_pos (c y (by simp)),f C (by simp at a;exact a) (fun z d=>c z (by simp[d]))];simp
def ZGN (l:List G_api_Cell):List Rat:=l.filterMap ZHt
def ZC3 (l:List G_api_Cell):List Rat:=ZzG ltQ (ZGN l)
theorem ZGX (l:List G_api_Cell) (c:G_api_Cell):ZGN (l++[c])=ZGN l++(ZHt c).toList:=by unfold ZGN;rw[List.filterMap_append];cases h:ZHt c<;>simp[h]
theorem ZJM {l:List G_api_Cell}:∀q∈ZGN l,Sz 80 q:=by intro q a;obtain⟨c,_,h⟩:=List.mem_filterMap.1 a;exact ZLe h
theorem ZHs (l:List G_api_Cell):(ZGN l).length<=l.length:=List.length_filterMap_le _ _
theorem ZFn {l:List G_api_Cell}:∀q∈ZC3 l,Sz 400 q:=fun q a=>(ZJM q ((ZDP _).mem_iff.1 a)).mono (by omega)
theorem ZFb (l:List G_api_Cell):(ZC3 l).length<=l.length:=by unfold ZC3;rw[ZDp];exact ZHs l
def ZGy (l:List G_api_Cell):Prop:=∀x∈l,x.Text.length<=9223372036854775807
theorem ZIa {c:G_api_Column} (hc:ZGy c.Cells) (hl:c.Cells.length<=12):Zsw c=some ((ZC3 c.Cells).map fOf):=by
 refine ZpD ?_;unfold Zsw;rw[ZnD];refine ZnK (ZwT ZCY c.Cells (by omega) (fun i (out:List ZnB)=>(c.Cells,(c.Cells.length:Int),i,out)) (fun k out=>out=(ZGN (c.Cells.take k)).map fOf) (Q:=fun x=>x=(ZGN c.Cells).map fOf) [] (by simp[ZGN]) ?_ ?_) ?_
 ·rintro rec k out hk rfl ih;unfold Zxr Zuo Zwh;dsimp only;have hs:c.Cells.take (k+1)=c.Cells.take k++[c.Cells[k]]:=ZXP hk;have hlen:=ZHs (c.Cells.take k);rw[ZXI]at hlen;rw[decide_eq_true (show (k:Int) < (c.Cells.length:Int) by omega),cond_true,Zqj hk,ZXV,ZKk (hc _ (ZXA hk)),ZXV];rw[hs,ZGX]at ih;cases hv:ZHt c.Cells[k]with
  |some q=>
   rw[hv]at ih;dsimp only;rw[cond_true,ZnF,ZnF];exact⟨Ztn (by rw[ZXF,ZXH];omega),ZnH (by omega),ih _ (by simp)⟩
  |none=>
   rw[hv]at ih;dsimp only;rw[cond_false,ZnF];exact⟨ZnH (by omega),ih _ (by simp)⟩
 ·rintro rec out rfl;unfold Zxr Zuo;dsimp only;rw[decide_eq_false (show ¬(c.Cells.length:Int) < (c.Cells.length:Int) by omega),cond_false,ZnA,ZXO]
 ·rintro _ rfl;have:=ZHs c.Cells;unfold ZyV;rw[ZNx (fun q hq=>(ZJM q hq).mono (by omega)) (by omega),ZXV,ZnA];rfl
theorem ZG7 {c:G_api_Column} (f:ZGy c.Cells) (E:c.Cells.length<=200):Zr4 c=some ((ZC3 c.Cells).map fOf):=by
 refine ZpD ?_;unfold Zr4;rw[ZnD];refine ZnK (ZwT ZDv c.Cells (by omega) (fun i (a:List ZnB)=>(c.Cells,(c.Cells.length:Int),i,a)) (fun k a=>a=(ZC3 (c.Cells.take k)).map fOf) (Q:=fun x=>x=(ZC3 c.Cells).map fOf) [] (by simp[ZGN,ZC3,ZzG]) ?_ ?_) ?_
 ·rintro v k a t rfl m;unfold Zvo ZrO ZqW;dsimp only;have C:c.Cells.take (k+1)=c.Cells.take k++[c.Cells[k]]:=ZXP t;have d:=ZFb (c.Cells.take k);rw[ZXI]at d;rw[decide_eq_true (show (k:Int) < (c.Cells.length:Int) by omega),cond_true,Zqj t,ZXV,ZJx (f _ (ZXA t)),ZXV];have J:∀q,ZHt c.Cells[k]=some q->ZC3 (c.Cells.take (k+1))=ZHS ltQ q (ZC3 (c.Cells.take k)):=fun q g=>by unfold ZC3;rw[C,ZGX,g];exact ZGF _ _
  have o:ZHt c.Cells[k]=none->ZC3 (c.Cells.take (k+1))=ZC3 (c.Cells.take k):=fun g=>by unfold ZC3;rw[C,ZGX,g];simp
  cases hv:ZHt c.Cells[k]with
  |none=>
   rw[o hv]at m;dsimp only;rw[ZXj,cond_true,ZnF];exact⟨ZnH (by omega),m _ rfl⟩
  |some q=>
   rw[J q hv]at m;have g:Sz 400 q:=(ZLe hv).mono (by omega);have w:∀y∈ZC3 (c.Cells.take k),Sz 400 y:=ZFn;dsimp only;rw[ZXk,cond_false,ZnD];generalize ZC3 (c.Cells.take k)=A at d m w;refine ZnK (Zoh ZDu (fun i:Nat=>((i:Int),c.Cells,(c.Cells.length:Int),(k:Int),A.map fOf,fOf q)) (fun i=>i<=A.length/\∀j (h:j < A.length),i<=j->q < A[j]) (fun i=>i)
    (Q:=fun x=>∃i:Nat,x=((i:Int),c.Cells,(c.Cells.length:Int),(k:Int),A.map fOf,fOf q)/\i<=A.length/\(∀j (h:j < A.length),i<=j->q < A[j])/\∀h:i - 1 < A.length,0 < i->¬q < A[i - 1]) A.length ⟨ZXQ _,fun j h K=>by omega⟩ (by omega) ?_ |> fun h=>by rw[ZXF];exact h) ?_
   ·rintro D i ⟨hi,b⟩ u;unfold ZzT Zvn Zs4;dsimp only
    by_cases h0:0 < i
    ·have n:i - 1 < A.length:=by omega
     rw[decide_eq_true (show (i:Int) > 0 by omega),cond_true,show (i:Int) - 1=((i - 1:Nat):Int) by omega,ZnF,ZnF,ZXn,List.getElem?_map,ZXy n,ZXW,ZXV,ZD9 (g.wq (by omega)) ((w _ (ZXA n)).wq (by omega)),ZXV];refine⟨ZnH (by omega),ZoH ⟨by omega,by rw[ZXF];omega⟩, ?_⟩
     by_cases f:q < A[i - 1]
     ·rw[decide_eq_true f,cond_true,ZnF];refine⟨ZnH (by omega),u (i - 1) ⟨by omega,fun j r I=> ?_⟩ (by omega)⟩
      by_cases e:j=i - 1
      ·subst e;exact f
      ·exact b j r (by omega)
     ·rw[decide_eq_false f,cond_false,ZnA];exact⟨i,rfl,hi,b,fun _ _=>f⟩
    ·rw[decide_eq_false (show ¬(i:Int) > 0 by omega),cond_false,cond_false,ZnA];exact⟨i,rfl,hi,b,fun _ h=>absurd h h0⟩
   ·rintro _ ⟨i,rfl,hi,b,s⟩;dsimp only;unfold ZwE ZqW;rw[ZXn,ZXn,Nat.sub_zero,List.drop_zero,List.take_of_length_le (l:=(A.map fOf).drop i) (by rw[ZXE];omega),ZnF,ZnF,ZnF,ZnF,ZnF,ZnF];have H:(A.map fOf).length=A.length:=ZXF ..;refine⟨Zou (by omega),Ztn (by rw[ZXI];omega),Ztn (by rw[ZXI,ZXH];omega),Zou (by omega),Ztn (by rw[ZXC,ZXI,ZXE,ZXH];omega),ZnH (by omega),m _ ?_⟩;have e:=ZMv (lt:=ltQ) q (A.take i) (fun B p z=> ?_) _ (A.drop i) rfl (fun y G=> ?_)
    ·rw[ZXM]at e;rw[e];simp[List.map_take,List.map_drop]
    ·have E:(A.take i).length=B.length+1:=by rw[z];simp
     rw[ZXI]at E;have F:(A.take i)[i - 1]'(by rw[ZXI];omega)=p:=by simp only[z];rw[List.getElem_append_right (by omega)];simp[show i - 1 - B.length=0 by omega]
     rw[List.getElem_take]at F;rw[<-F];exact decide_eq_false (s (by omega) (by omega))
    ·obtain⟨j,r,rfl⟩:=List.getElem_of_mem G;rw[ZXE]at r;rw[List.getElem_drop];exact decide_eq_true (b (i+j) (by omega) (by omega))
 ·rintro v a rfl;unfold Zvo ZrO;dsimp only;rw[decide_eq_false (show ¬(c.Cells.length:Int) < (c.Cells.length:Int) by omega),cond_false,ZnA,ZXO]
 ·rintro _ rfl;unfold ZwD;rw[ZnA]
end Go.Proofs
namespace Go.Proofs
open Go Eng
theorem ZIj {a b c d:Int} (g:0 < b) (i:0 < d):Rat.divInt a b < Rat.divInt c d<->a*d < c*b:=by
 have h:∀{x y:Int},0 < y->Rat.divInt x y=(x:Rat) / (y:Rat):=fun {x y} _=>Rat.divInt_eq_div x y
 have e:(0:Rat) < (b:Rat):=Rat.intCast_pos.2 g;have f:(0:Rat) < (d:Rat):=Rat.intCast_pos.2 i;rw[h g,h i,Rat.div_lt_iff e,<-Rat.intCast_lt_intCast,Rat.intCast_mul,Rat.intCast_mul,show (c:Rat) / (d:Rat)*(b:Rat)=(c:Rat)*(b:Rat) / (d:Rat) by rw[Rat.div_def,Rat.div_def,Rat.mul_assoc,Rat.mul_assoc,Rat.mul_comm (d:Rat)⁻¹],Rat.lt_div_iff f]
theorem ZVZ {la lb:Nat} (ha:0 < la) (hb:0 < lb) (i k:Nat):ZVc (Rat.divInt (i:Int) (la:Int) - Rat.divInt (k:Int) (lb:Int))=Rat.divInt (((i:Int)*lb - (k:Int)*la).natAbs:Int) ((la*lb:Nat):Int):=by
 have hp:0 < la*lb:=Nat.mul_pos ha hb;have e:Rat.divInt (i:Int) (la:Int) - Rat.divInt (k:Int) (lb:Int)=Rat.divInt ((i:Int)*lb - (k:Int)*la) ((la*lb:Nat):Int):=by rw[Rat.divInt_sub_divInt _ _ (by omega) (by omega),ZXm]
 rw[e];unfold ZVc;have z:(0:Rat)=Rat.divInt 0 ((la*lb:Nat):Int):=(Rat.zero_divInt _).symm;generalize (i:Int)*lb - (k:Int)*la=x
 by_cases hx:x < 0
 ·rw[if_pos (by rw[z,ZIj (by omega) (by omega)];simpa using Int.mul_neg_of_neg_of_pos hx (by omega)),z,Rat.divInt_sub_divInt _ _ (by omega) (by omega)];rw[show ((x.natAbs:Nat):Int)= -x by omega,Int.zero_mul,Int.zero_sub,<-Int.neg_mul,Rat.divInt_mul_right (by omega)]
 ·rw[if_neg (by rw[z,ZIj (by omega) (by omega)];have:=Int.mul_nonneg (show 0<=x by omega) (show (0:Int)<=((la*lb:Nat):Int) by omega);omega)];rw[show ((x.natAbs:Nat):Int)=x by omega]
end Go.Proofs
namespace Go.Proofs
open Go Eng
theorem ZHb {a b:Rat}:(¬a < b)<->b<=a:=Rat.not_lt
theorem ZTo {a b:List Rat} (n:∀q∈a,Sz 400 q) (t:a.length<=1000) {x:Rat} (l:Sz 400 x) {i:Nat} (hi:i<=a.length) (k:Int) (d:ZnB):
  wp (Zpe big (a.map fOf) (b.map fOf) (i:Int) k false false d (fOf x) [] []) (fun y=>∃c:Nat,y=(a.map fOf,b.map fOf,(c:Int),k,false,false,d,fOf x,[],[])/\Zmn a i x c):=by
 refine Zoh ZC7 (fun c:Nat=>(a.map fOf,b.map fOf,(c:Int),k,false,false,d,fOf x,[],[])) (fun r=>i<=r/\r<=a.length/\∀j,i<=j->j < r->gR a j<=x) (fun r=>a.length - r)
  (Q:=fun y=>∃c:Nat,y=(a.map fOf,b.map fOf,(c:Int),k,false,false,d,fOf x,[],[])/\Zmn a i x c) i ⟨ZXQ _,hi,fun j g f=>by omega⟩ (by omega) ?_
 rintro m r ⟨g,f,e⟩ s;unfold ZzC ZuH Zsr;dsimp only;rw[ZXF]
 by_cases hr:r < a.length
 ·have p:a[r]∈a:=ZXA hr;rw[decide_eq_true (show (r:Int) < (a.length:Int) by omega),cond_true,Zqj (by simpa using hr),ZXV,ZXz,ZD9 (l.wq (by omega)) ((n _ p).wq (by omega)),ZXV]
  by_cases hc:x < a[r]
  ·rw[decide_eq_true hc,ZXk,cond_false,ZnA];exact⟨r,rfl,g,f,e,fun _=>by rw[ZDr hr];exact hc⟩
  ·rw[decide_eq_false hc,ZXj,cond_true,ZnF];refine⟨ZnH (by omega),s (r+1) ⟨by omega,by omega,fun j o u=> ?_⟩ (by omega)⟩
   by_cases hj:j=r
   ·rw[hj,ZDr hr];exact ZHb.1 hc
   ·exact e j o (by omega)
 ·rw[decide_eq_false (show ¬(r:Int) < (a.length:Int) by omega),cond_false,cond_false,ZnA];exact⟨r,rfl,g,f,e,fun h=>absurd h hr⟩
theorem ZTn {a b:List Rat} (m:∀q∈b,Sz 400 q) (u:b.length<=1000) {x:Rat} (l:Sz 400 x) {k:Nat} (p:k<=b.length) (i:Int) (d:ZnB):
  wp (Zpd big (a.map fOf) (b.map fOf) i (k:Int) false false d (fOf x) [] []) (fun y=>∃c:Nat,y=(a.map fOf,b.map fOf,i,(c:Int),false,false,d,[],[])/\Zmn b k x c):=by
 refine Zoh ZC6 (fun c:Nat=>(a.map fOf,b.map fOf,i,(c:Int),false,false,d,fOf x,[],[])) (fun r=>k<=r/\r<=b.length/\∀j,k<=j->j < r->gR b j<=x) (fun r=>b.length - r)
  (Q:=fun y=>∃c:Nat,y=(a.map fOf,b.map fOf,i,(c:Int),false,false,d,[],[])/\Zmn b k x c) k ⟨ZXQ _,p,fun j g f=>by omega⟩ (by omega) ?_
 rintro n r ⟨g,f,e⟩ t;unfold ZzA ZuG Zsq;dsimp only;rw[ZXF]
 by_cases hr:r < b.length
 ·have s:b[r]∈b:=ZXA hr;rw[decide_eq_true (show (r:Int) < (b.length:Int) by omega),cond_true,Zqj (by simpa using hr),ZXV,ZXz,ZD9 (l.wq (by omega)) ((m _ s).wq (by omega)),ZXV]
  by_cases hc:x < b[r]
  ·rw[decide_eq_true hc,ZXk,cond_false,ZnA];exact⟨r,rfl,g,f,e,fun _=>by rw[ZDr hr];exact hc⟩
  ·rw[decide_eq_false hc,ZXj,cond_true,ZnF];refine⟨ZnH (by omega),t (r+1) ⟨by omega,by omega,fun j o v=> ?_⟩ (by omega)⟩
   by_cases hj:j=r
   ·rw[hj,ZDr hr];exact ZHb.1 hc
   ·exact e j o (by omega)
 ·rw[decide_eq_false (show ¬(r:Int) < (b.length:Int) by omega),cond_false,cond_false,ZnA];exact⟨r,rfl,g,f,e,fun h=>absurd h hr⟩
theorem ZMn {i k b a:Nat} (hi:i<=b) (g:k<=a) (d:b<=200) (c:a<=200):0<=(i:Int)*a/\(i:Int)*a<=((b*a:Nat):Int)/\0<=(k:Int)*b/\(k:Int)*b<=((b*a:Nat):Int)/\((b*a:Nat):Int)<=40000:=by
 have e:(i:Int)*(a:Int)=((i*a:Nat):Int):=by rw[ZXm]
 have h:(k:Int)*(b:Int)=((k*b:Nat):Int):=by rw[ZXm]
 have l:i*a<=b*a:=ZXT _ hi;have f:k*b<=a*b:=ZXT _ g;have j:b*a<=200*200:=ZXS d c;rw[Nat.mul_comm a b]at f;rw[e,h];omega
theorem szm {m:Int} {n:Nat} (b:0<=m) (a:m<=(n:Int)) (d:n<=40000) (c:0 < n):Sz 20 (Rat.divInt m (n:Int)):=ZFB (by omega) (by omega) (by omega)
theorem ZLp {a b:List Rat} (ha:∀q∈a,Sz 400 q) (hb:∀q∈b,Sz 400 q) (hna:a.length<=200) (hnb:b.length<=200) (ha0:a.length≠0) (hb0:b.length≠0) {r:Int} (hr:DistR a b 0 0 0 r):
  Zp3 (a.map fOf) (b.map fOf)=some (fOf (Rat.divInt r ((a.length*b.length:Nat):Int)),0):=by
 refine ZpD ?_;have hpos:0 < a.length*b.length:=Nat.mul_pos (by omega) (by omega);have hle:a.length*b.length<=40000:=ZXS hna hnb;unfold Zp3;rw[ZXF,ZXF,show ((a.length:Int) == 0)=false from beq_eq_false_iff_ne.2 (by omega),show ((b.length:Int) == 0)=false from beq_eq_false_iff_ne.2 (by omega),cond_false];unfold Zqt;rw[cond_false,ZHU,ZXV,ZnD];obtain⟨N,hN⟩:∃N,N=a.length*b.length:=⟨_,rfl⟩;rw[<-hN]at hpos hle|-
 have z:fOf 0=fOf (Rat.divInt 0 (N:Int)):=by rw[Rat.zero_divInt]
 rw[z];refine ZnK (Zoh ZC8 (fun s:Nat×Nat×Int=>(a.map fOf,b.map fOf,(s.1:Int),(s.2.1:Int),false,false,fOf (Rat.divInt s.2.2 (N:Int)),[],[]))
  (fun s=>s.1<=a.length/\s.2.1<=b.length/\(((s.1:Int)*b.length - (s.2.1:Int)*a.length).natAbs:Int)<=s.2.2/\s.2.2<=N/\∀r',DistR a b s.1 s.2.1 s.2.2 r'->DistR a b 0 0 0 r') (fun s=>(a.length - s.1)+(b.length - s.2.1))
  (Q:=fun x=>x=(false,false,fOf (Rat.divInt r (N:Int)),[],[])) (0,0,0) ⟨ZXU _,ZXU _,by simp,by dsimp only;omega,fun r h=>h⟩ (by dsimp only;omega) ?_) ?_
 ·rintro rec ⟨i,k,m⟩ ⟨h1,h2,h3,h4,h5⟩ ih;dsimp only at h1 h2 h3 h4 h5 ih|-
  have step:∀x:Rat,Sz 400 x->(i < a.length/\gR a i<=x\/k < b.length/\gR b k<=x)->(i < a.length->k < b.length->x=xOf (gR a i) (gR b k))->
    wp (Zqr (fun a b i k t4 t4_1 most t4_2 t4_3=>rec (a,b,i,k,t4,t4_1,most,t4_2,t4_3)) (a.map fOf) (b.map fOf) (i:Int) (k:Int) false false (fOf (Rat.divInt m (N:Int))) (fOf x) [] []) (fun x=>x=(false,false,fOf (Rat.divInt r (N:Int)),[],[])):=by
   intro x hx hg hxo;unfold Zqr Zv5;rw[ZnD];refine ZnK (ZTo ha (by omega) hx h1 _ _) ?_;rintro _ ⟨i',rfl,hi'⟩;dsimp only;rw[ZnD];refine ZnK (ZTn hb (by omega) hx h2 _ _) ?_;rintro _ ⟨k',rfl,hk'⟩;dsimp only;unfold Zv4;obtain⟨q1,q2,q3,q4⟩:=hi';obtain⟨w1,w2,w3,w4⟩:=hk';have bd:=ZMn q2 w2 hna hnb;have bd0:=ZMn h1 h2 hna hnb;rw[<-hN]at bd bd0;have sz1:Sz 20 (Rat.divInt (i':Int) (a.length:Int)):=ZFB (by omega) (by omega) (by omega);have sz2:Sz 20 (Rat.divInt (k':Int) (b.length:Int)):=ZFB (by omega) (by omega) (by omega);have szM:Sz 20 (Rat.divInt m (N:Int)):=szm (by omega) h4 hle hpos;have ha0':0 < a.length:=by omega
   have hb0':0 < b.length:=by omega
   rw[ZXF,ZXF,ZH3 _ _ (by omega) (by omega) (by omega) (by omega) (by omega),ZXV,ZH3 _ _ (by omega) (by omega) (by omega) (by omega) (by omega),ZXV,ZI1 sz1 sz2 (by decide),ZXV,ZOe (sz1.sub sz2) (by decide),ZXV,ZVZ ha0' hb0',<-hN];obtain⟨D,hD⟩:∃D,D=(((i':Int)*b.length - (k':Int)*a.length).natAbs:Int):=⟨_,rfl⟩;rw[<-hD];have hDN:0<=D/\D<=(N:Int):=by omega
   have szD:Sz 20 (Rat.divInt D (N:Int)):=szm hDN.1 hDN.2 hle hpos;rw[ZD9 (szM.wq (by decide)) (szD.wq (by decide)),ZXV];have hlt:(Rat.divInt m (N:Int) < Rat.divInt D (N:Int))<->m < D:=by rw[ZIj (by omega) (by omega)];exact⟨fun h=>Int.lt_of_mul_lt_mul_right h (by omega),fun h=>Int.mul_lt_mul_of_pos_right h (by omega)⟩
   have hmax:max m D=stp a.length b.length i' k' m:=by unfold stp;omega
   have go:wp (rec (a.map fOf,b.map fOf,(i':Int),(k':Int),false,false,fOf (Rat.divInt (max m D) (N:Int)),[],[])) (fun x=>x=(false,false,fOf (Rat.divInt r (N:Int)),[],[])):=by
    refine ih (i',k',max m D) ⟨q2,w2,by dsimp only;omega,by dsimp only;omega,fun r' hr'=> ?_⟩ ?_
    ·dsimp only at hr'
     by_cases hik:i < a.length/\k < b.length
     ·have e:=hxo hik.1 hik.2;rw[e]at q3 q4 w3 w4;rw[hmax]at hr';exact h5 r' (.go hik.1 hik.2 ⟨q1,q2,q3,q4⟩ ⟨w1,w2,w3,w4⟩ hr')
     ·
      have hik':¬(i' < a.length/\k' < b.length):=fun h=>hik ⟨by omega,by omega⟩
      have hmm:max m D=m:=by
       by_cases hia:i < a.length
       ·have hkb:k=b.length:=by
         have:¬k < b.length:=fun h=>hik ⟨hia,h⟩
         omega
        have hkb':k'=b.length:=by omega
        have e1:(k:Int)*a.length=N:=by rw[hkb,hN,ZXm,Int.mul_comm]
        have e2:(k':Int)*a.length=N:=by rw[hkb',hN,ZXm,Int.mul_comm]
        have e3:(i:Int)*b.length<=(i':Int)*b.length:=Int.mul_le_mul_of_nonneg_right (by omega) (by omega);omega
       ·have hia2:i=a.length:=by omega
        have hia':i'=a.length:=by omega
        have e1:(i:Int)*b.length=N:=by rw[hia2,hN,ZXm]
        have e2:(i':Int)*b.length=N:=by rw[hia',hN,ZXm]
        have e3:(k:Int)*a.length<=(k':Int)*a.length:=Int.mul_le_mul_of_nonneg_right (by omega) (by omega);omega
      rw[hmm]at hr';have:=hr'.det (.done hik');rw[this];exact h5 m (.done hik)
    ·dsimp only;rcases hg with ⟨hh,hle2⟩ |⟨hh,hle2⟩
     ·have:=Zmn.grows ⟨q1,q2,q3,q4⟩ hh hle2;omega
     ·have:=Zmn.grows ⟨w1,w2,w3,w4⟩ hh hle2;omega
   by_cases hc:m < D
   ·rw[decide_eq_true (hlt.2 hc),cond_true]
    rwa [show max m D=D by omega]at go
   ·rw[decide_eq_false (fun h=>hc (hlt.1 h)),cond_false]
    rwa [show max m D=m by omega]at go
  unfold ZzE ZuI Zss Zqs;dsimp only;rw[ZXF,ZXF]
  by_cases hi:i < a.length
  ·have hqa:a[i]∈a:=ZXA hi;rw[decide_eq_true (show (i:Int) < (a.length:Int) by omega),cond_true,cond_true,Zqj (by simpa using hi),ZXV,ZXV,ZXz]
   by_cases hk:k < b.length
   ·have hqb:b[k]∈b:=ZXA hk;rw[beq_eq_false_iff_ne.2 (show (k:Int)≠(b.length:Int) by omega),cond_false,cond_true,Zqj (by simpa using hk),ZXV,ZXV,ZXz,ZD9 ((ha _ hqa).wq (by omega)) ((hb _ hqb).wq (by omega)),ZXV]
    by_cases hc:a[i] < b[k]
    ·rw[decide_eq_true hc,cond_true];exact step _ (ha _ hqa) (.inl ⟨hi,by rw[ZDr hi];exact Rat.le_refl⟩) fun _ _=>by rw[ZDr hi,ZDr hk];unfold xOf;rw[if_neg (by grind)]
    ·rw[decide_eq_false hc,cond_false];exact step _ (hb _ hqb) (.inr ⟨hk,by rw[ZDr hk];exact Rat.le_refl⟩) fun _ _=>by rw[ZDr hi,ZDr hk];unfold xOf;split<;>grind
   ·rw[show ((k:Int) == (b.length:Int))=true by rw[show k=b.length by omega];simp,cond_true,cond_true];exact step _ (ha _ hqa) (.inl ⟨hi,by rw[ZDr hi];exact Rat.le_refl⟩) fun _ h=>absurd h hk
  ·rw[decide_eq_false (show ¬(i:Int) < (a.length:Int) by omega),cond_false]
   by_cases hk:k < b.length
   ·have hqb:b[k]∈b:=ZXA hk;rw[decide_eq_true (show (k:Int) < (b.length:Int) by omega),cond_true,beq_eq_false_iff_ne.2 (show (k:Int)≠(b.length:Int) by omega),cond_false,cond_false,cond_false,Zqj (by simpa using hk),ZXV,ZXz];exact step _ (hb _ hqb) (.inr ⟨hk,by rw[ZDr hk];exact Rat.le_refl⟩) fun h _=>absurd h hi
   ·rw[decide_eq_false (show ¬(k:Int) < (b.length:Int) by omega),cond_false,ZnA];have:=hr.det (h5 m (.done (fun h=>hi h.1)));rw[this]
 ·rintro _ rfl;unfold Zv3;dsimp only;rw[ZnA]
end Go.Proofs
