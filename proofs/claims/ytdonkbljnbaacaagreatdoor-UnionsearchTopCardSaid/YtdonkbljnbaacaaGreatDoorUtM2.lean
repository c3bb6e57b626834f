/- Plain laws over the specs, part 2. -/
import Derived.Test.YtdonkbljnbaacaaGreatDoorUtM1
import Derived.Test.YtdonkbljnbaacaaGreatDoorUtM0
set_option linter.all false
open Bool renaming not_true->Z2j, true_and->Z2k, and_eq_true->ZW1, false_and->Z2i
open List renaming all_eq_true->Z2l, dropWhile_cons->Z2m, getElem_mem->Z2p, length_cons->Z2s, take_succ_eq_append_getElem->Z2z, takeWhile_append_dropWhile->Z2x, length_append->Z2r, length_singleton->Z2v, isEmpty_cons->Z2q, take_left'->Z2y, length_take->Z2w, length_map->Z2u, dropWhile_sublist->Z2n, length_filter_le->Z2t, drop_eq_getElem_cons->Z2o
open Nat renaming le_trans->Z2A, lt_or_ge->Z2B
open Option renaming bind_some->Z2C
namespace Go.Proofs
open Go Eng
theorem ZLd (a b:Rat):Rat.divInt (a.num*(b.den:Int)+ -(b.num*(a.den:Int))) ((a.den:Int)*(b.den:Int))=a - b:=by have:=ZHy a (-b);rw[show (-b).num= -b.num from rfl,show (-b).den=b.den from rfl,Int.neg_mul]at this;rw[this,Rat.sub_eq_add_neg]
theorem Sz.sub {a b:Rat} {k l:Nat} (d:Sz k a) (c:Sz l b):Sz (k+l+1) (a - b):=by rw[Rat.sub_eq_add_neg];exact d.add c.neg
theorem ZTE {a b:Rat} {k l:Nat} (o:Sz k a) (i:Sz l b) (A:k+l+1<=8192):ZyP (fOf a) (fOf b)=some (fOf (a - b),0):=by
 have E:=a.den_nz;have D:=b.den_nz;have d:=o.wq (by omega);have c:=i.wq (by omega);have w:∀{x y:Int},Wl 256 x->Wl 256 y->Wl 512 (x*y):=fun B C=>by unfold Wl;rw[Int.natAbs_mul];exact ZI3 B C
 have m:∀{n:Nat} {x:Int},Wl n x->n<=50000->Wl 50000 x:=fun h t=>Z2A h t
 have j:=w d.1 c.2;have p:=w c.1 d.2;have e:Wl 512 (-(b.num*(a.den:Int))):=by unfold Wl;rw[Int.natAbs_neg];exact p
 have z:=w d.2 c.2;have u:Wl 513 (a.num*(b.den:Int)+ -(b.num*(a.den:Int))):=Z2A (Zwv (Int.natAbs_add_le _ _)) (ZLb j e);have s:(a.den:Int)*(b.den:Int)≠0:=Int.mul_ne_zero (by omega) (by omega);unfold ZyP ZvM;rw[ZE6 a d,Z2C,Z2j,cond_false,ZE6 b c,Z2C,Z2j,cond_false];show ((Zjm (bg a.num) (bg (b.den:Int))).bind fun q=>(Zjm (bg b.num) (bg (a.den:Int))).bind fun f=>(Zqc f).bind fun g=>(Zpm q g).bind fun r=>(Zjm (bg (a.den:Int)) (bg (b.den:Int))).bind _)=_;rw[ZBi _ _ (m d.1 (by omega)) (m c.2 (by omega)),Z2C,ZBi _ _ (m c.1 (by omega)) (m d.2 (by omega)),Z2C,ZKI _ (Z2A p (by decide)),Z2C,ZKk _ _ (m j (by omega)) (m e (by omega)),Z2C,ZBi _ _ (m d.2 (by omega)) (m c.2 (by omega)),Z2C];have v:Wq 256 (Rat.divInt (a.num*(b.den:Int)+ -(b.num*(a.den:Int))) ((a.den:Int)*(b.den:Int))):=by rw[ZLd];exact(o.sub i).wq A
 rw[ZJD _ _ s (m u (by omega)) (m z (by omega)) v,ZLd,Z2C]
theorem ZUy {a b:Rat} {k l:Nat} (c:b≠0) (f:Sz k a) (g:Sz l b) (p:k+l<=8192):ZyQ (fOf a) (fOf b)=some (fOf (a / b),0):=by
 have A:=a.den_nz;have z:=b.den_nz;have i:b.num≠0:=fun h=>c (Rat.num_eq_zero.1 h)
 have e:=f.wq (by omega);have d:=g.wq (by omega);have w:∀{x y:Int},Wl 256 x->Wl 256 y->Wl 512 (x*y):=fun t v=>by unfold Wl;rw[Int.natAbs_mul];exact ZI3 t v
 have m:∀{n:Nat} {x:Int},Wl n x->n<=50000->Wl 50000 x:=fun h j=>Z2A h j
 have u:=w e.1 d.2;have s:=w e.2 d.1;have o:(a.den:Int)*b.num≠0:=Int.mul_ne_zero (by omega) i;unfold ZyQ ZvN;rw[ZE6 a e,Z2C,Z2j,cond_false,ZE6 b d,Z2C,Z2j,cond_false];show (bif (((bg b.num).Words.length:Int) == 0)then _ else (Zjm (bg a.num) (bg (b.den:Int))).bind fun q=>(Zjm (bg (a.den:Int)) (bg b.num)).bind _)=_;rw[ZHt i,cond_false,ZBi _ _ (m e.1 (by omega)) (m d.2 (by omega)),Z2C,ZBi _ _ (m e.2 (by omega)) (m d.1 (by omega)),Z2C];have r:Wq 256 (Rat.divInt (a.num*(b.den:Int)) ((a.den:Int)*b.num)):=by rw[ZIG];exact(Sz.div c f g).wq p
 rw[ZJD _ _ o (m u (by omega)) (m s (by omega)) r,ZIG,Z2C]
theorem ZKj {a b:Rat} {k l:Nat} (e:Sz k a) (d:Sz l b) (c:k+l+1<=8192):ZpX (fOf a) (fOf b)=some (fOf (a - b)):=by unfold ZpX;rw[ZTE e d c];rfl
theorem ZOu {a b:Rat} {k l:Nat} (c:b≠0) (f:Sz k a) (e:Sz l b) (d:k+l<=8192):ZuV (fOf a) (fOf b)=some (fOf (a / b)):=by unfold ZuV;rw[ZUy c f e d];rfl
def ZOA (x:Rat):Rat:=if x < 0 then 0 - x else x
theorem ZSg {a:Rat} {k:Nat} (b:Sz k a) (c:k+2<=8192):ZyL (fOf a)=some (fOf (ZOA a)):=by
 unfold ZyL ZOA;rw[ZEa,Z2C,ZIn (b.wq (by omega)) (ZFx.wq (by omega)),Z2C]
 by_cases h:a < 0
 ·rw[decide_eq_true h,cond_true,if_pos h,Z2C,ZKj ZFx b (by omega),Z2C]
 ·rw[decide_eq_false h,cond_false,if_neg h]
end Go.Proofs
namespace Go.Proofs
open Go Eng
theorem ZSb:∀x y:Str,Op.bytesLess x y=decide (x < y)
 |x,[]=>by
  have:¬x < []:=by simp
  rw[decide_eq_false this];cases x<;>rfl
 | [],b::y=>by
  have:([]:Str) < b::y:=by simp
  rw[decide_eq_true this];rfl
 |a::x,b::y=>by rw[Op.bytesLess,ZSb x y,Bool.eq_iff_iff];grind[List.cons_lt_cons_iff]
def Srt (l:List Str):Prop:=l.Pairwise (fun a b=>a<=b)/\l.Nodup
theorem ZLH (l:List Str):Srt (ZxO l):=⟨ZIy l,ZEO l⟩
theorem ZLe {l:List Str} (h:Srt l) {i j:Nat} (a:i < j) (b:j < l.length):l[i] < l[j]:=by
 have d:=List.pairwise_iff_getElem.1 h.1 i j (by omega) b a;have c:=List.pairwise_iff_getElem.1 h.2 i j (by omega) b a;grind
theorem ZUh (x y:Str):ZDj x y=some (decide (x < y)):=by grind[ZDj,ZCp,Zw7,ZSb]
theorem ZXc {i j:Nat} (h:i+j<=4611686018427387904):IntKind.wrap .i64 (shrK .u64 (IntKind.wrap .u64 ((i:Int)+(j:Int))) 1)=(((i+j) / 2:Nat):Int):=by rw[show (i:Int)+(j:Int)=((i+j:Nat):Int) by omega,Zpj (by omega),show (1:Int)=((1:Nat):Int)from rfl,ZGW 1 (by decide),wrap_i64 (by omega)]
theorem ZPU {a:List Str} (q:Srt a) (A:a.length<=1000000000000) (t:Str):wp (Zqv a t) (fun r=>r.2=a.contains t):=by
 unfold Zqv;rw[Zhr];refine Zjf (ZuN ZBU (fun(s:Nat×Nat)=>(a,t,(a.length:Int),(s.1:Int),(s.2:Int)))
  (fun s=>(s.1<=s.2/\s.2<=a.length)/\(∀k (h:k < a.length),k < s.1->a[k] < t)/\(∀k (h:k < a.length),s.2<=k->¬a[k] < t)) (fun s=>s.2 - s.1)
  (Q:=fun x=>∃i:Nat,x=(a,t,(a.length:Int),(i:Int))/\i<=a.length/\(∀k (h:k < a.length),k < i->a[k] < t)/\(∀k (h:k < a.length),i<=k->¬a[k] < t)) (0,a.length) ⟨⟨Nat.zero_le _,Nat.le_refl _⟩,fun k _ h=>absurd h (Nat.not_lt_zero _),fun k h B=>absurd h (by omega)⟩ (by omega) ?_) ?_
 ·rintro v ⟨i,j⟩ ⟨⟨u,f⟩,b,c⟩ p;dsimp only at u f b c p|-
  unfold Zvq Zq5;dsimp only;rw[ZXc (by omega)];rw[ZoH];refine⟨fun h=> ?_,fun h=> ?_⟩
  ·simp only[decide_eq_true_eq]at h;have w:i < j:=by omega
   have m:(i+j) / 2 < a.length:=by omega
   rw[ZhS,ZhS];refine⟨ZiH (by omega),by decide, ?_⟩;rw[ZoT m,Option.bind_some,ZUh,Option.bind_some,ZoH];refine⟨fun g=> ?_,fun g=> ?_⟩
   ·simp only[decide_eq_true_eq]at g;rw[ZhS];refine⟨ZiH (by omega), ?_⟩;have:=p ((i+j) / 2+1,j) ⟨⟨by omega,f⟩,fun k e n=> ?_,c⟩ (by omega)
    ·grind
    ·dsimp only at n;rcases Nat.lt_or_ge k ((i+j) / 2)with l |l
     ·exact List.lt_trans (ZLe q l m) g
     grind
   ·simp only[decide_eq_false_iff_not]at g;refine p (i,(i+j) / 2) ⟨⟨by omega,by omega⟩,b,fun k e o=> ?_⟩ (by omega);dsimp only at o;rcases Nat.lt_or_ge ((i+j) / 2) k with l |l
    ·exact fun z=>g (List.lt_trans (ZLe q l e) z)
    grind
  grind[Zfa]
 ·rintro x ⟨i,rfl,C,b,c⟩;dsimp only;unfold ZrN ZoX;have y:a.contains t=true<->∃h:i < a.length,a[i]=t:=by
   rw[List.contains_iff_mem];constructor
   ·intro m;obtain⟨k,e,d⟩:=List.getElem_of_mem m;have u:i<=k:=by
     rcases Nat.lt_or_ge k i with h |h
     ·have:=b k e h;rw[d]at this;exact absurd this (List.lt_irrefl t)
     ·exact h
    rcases Nat.lt_or_ge i k with h |h
    ·have f:=ZLe q h e;rw[d]at f;exact absurd f (c i (by omega) (Nat.le_refl _))
    ·obtain rfl:i=k:=by omega
     exact⟨e,d⟩
   ·rintro⟨h,rfl⟩;exact List.getElem_mem h
  grind[ZoT,Zfa,Zzu]
def ZIZ (a b:List Str):Nat:=(a.filter fun x=>b.contains x).length
theorem ZIV (a b:List Str):ZIZ a b<=a.length:=Z2t _ _
theorem ZPQ {a b:List Str} (f:Srt b) (g:a.length<=1000000000000) (c:b.length<=1000000000000):ZA3 a b=some (ZIZ a b:Int):=by
 refine Zo1 ?_;unfold ZA3;rw[Zhr];refine Zjf (Ztf ZG3 a.length (by omega) (fun i (n:Nat)=>(b,(n:Int),a,(a.length:Int),i)) (fun i n=>n=ZIZ (a.take i) b)
  (Q:=fun x=>x=(ZIZ a b:Int)) 0 (by simp[ZIZ]) ?_ ?_) ?_
 ·rintro e i n d rfl k;unfold ZAH Zwq;dsimp only;rw[decide_eq_true (show (i:Int) < (a.length:Int) by omega),cond_true,ZoT d,Option.bind_some,Zhr];refine Zjf (ZPU f c _) fun⟨q,ok⟩ hok=> ?_
  dsimp only at hok|-
  have j:ZIZ (a.take (i+1)) b=ZIZ (a.take i) b+(if b.contains a[i]then 1 else 0):=by unfold ZIZ;rw[List.take_succ_eq_append_getElem d,List.filter_append,List.length_append];congr 1;cases h:b.contains a[i]<;>(simp only[List.filter_cons,h,List.filter_nil];rfl)
  grind[ZiH,ZyU,ZhS,ZIZ]
 all_goals grind[ZAH,Zwq,Zfa,ZBV]
end Go.Proofs
namespace Go.Proofs
open Go Eng
theorem ZKq {b g X:Type} {f:Nat->b->Option X} {body:(b->Option X)->b->Option X} (p:∀n s,f (n+1) s=body (f n) s)
  (i:g->b) (P:g->Prop) (m:g->Nat) {Q:X->Prop} (e:g) (q:P e) (k:m e<=9223372036854775808)
  (c:∀(a:b->Option X) t,P t->(∀d,P d->m d < m t->wp (a (i d)) Q)->wp (body a (i t)) Q):wp (f big (i e)) Q:=by
 have j:∀(n:Nat) t,P t->m t < n->wp (f n (i t)) Q:=by
  intro n
  induction n with
  |zero=>intro t _ h;omega
  |succ n o=>
   intro t u k;rw[p];exact c _ t u fun d l r=>o d l (by omega)
 exact j big e q (by rw[big_eq];omega)
def isD (b:UInt8):Bool:=decide (48<=b.toNat)&&decide (b.toNat<=57)
def ZNg:Str->Bool×Str
 | []=>(false,[])
 |b::r=>bif b == 45 then (true,r)else bif b == 43 then (false,r)else (false,b::r)
def okD (s:Str) (m:Nat):Bool:=decide (1<=s.length)&&decide (s.length<=m)&&s.all isD
def ZGM (body:Str):Option (Str×Str):=
 bif decide (1<=(body.takeWhile isD).length)&&decide ((body.takeWhile isD).length<=15)then
  (match body.dropWhile isD with
  | []=>some (body.takeWhile isD,[])
  |c::p=>bif c == 46&&okD p 9 then some (body.takeWhile isD,p)else none)
 else none
def ZIi (t:Str):Option (Bool×Str×Str):=(ZGM (ZNg t).2).map fun x=>((ZNg t).1,x.1,x.2)
def n46 (b:UInt8):Bool:=b != 46
theorem ZKh {p:UInt8->Bool}:∀(F R:Str),F.all p=true->(∀b r,R=b::r->p b=false)->(F++R).takeWhile p=F/\(F++R).dropWhile p=R
 | [],[],_,_=>⟨rfl,rfl⟩
 | [],b::r,_,h=>by simp_all
 |x::F,R,h,a=>by rw[List.all_cons,ZW1]at h;obtain⟨d,c⟩:=ZKh F R h.2 a;simp_all
theorem ZWE (p:UInt8->Bool):∀l:Str,(l.takeWhile p).all p=true
 | []=>rfl
 |x::l=>by
  simp_all
theorem ZLV (p:UInt8->Bool):∀(l:Str) b r,l.dropWhile p=b::r->p b=false
 | [],b,r,h=>by simp at h
 |x::l,b,r,h=>by
  rw[List.dropWhile_cons]at h;cases hx:p x with
  |true=>rw[hx,if_pos rfl]at h;exact ZLV p l b r h
  |false=>simp_all
theorem ZUm {b:UInt8} (h:isD b=true):n46 b=true:=by unfold n46;rw[bne_iff_ne];rintro rfl;exact absurd h (by decide)
theorem ZUL {l:Str} (h:l.all isD=true):l.all n46=true:=Z2l.2 fun b a=>ZUm (Z2l.1 h b a)
theorem ZMA {b:UInt8} (h:n46 b=false):b=46:=by grind[n46]
theorem ZJb (body:Str):ZGM body=bif okD (body.takeWhile n46) 15&&((body.dropWhile n46).isEmpty||okD (body.dropWhile n46).tail 9)then some (body.takeWhile n46,(body.dropWhile n46).tail)else none:=by
 have a:body.takeWhile n46++body.dropWhile n46=body:=Z2x;cases hall:(body.takeWhile n46).all isD with
 |true=>
 have c:=ZKh (p:=isD) (body.takeWhile n46) (body.dropWhile n46) hall (fun b r e=>by rw[ZMA (ZLV n46 body b r e)];decide);grind[ZGM,okD,ZMA,ZLV]
 |false=>
 have e:okD (body.takeWhile n46) 15=false:=by grind[okD]
 grind[Z2x,ZWE,ZGM,ZKh,n46,ZUL]
def ZIS (l:Str):Nat:=l.foldl (fun n b=>10*n+(b.toNat - 48)) 0
theorem ZMy (l:Str) (b:UInt8):ZIS (l++[b])=10*ZIS l+(b.toNat - 48):=by grind[ZIS]
theorem ZT8 {l:Str} (h:l.all isD=true):ZIS l < 10 ^ l.length:=by
 have c:∀(l:Str) (n k:Nat),l.all isD=true->n < 10 ^ k->l.foldl (fun n b=>10*n+(b.toNat - 48)) n < 10 ^ (k+l.length):=by
  intro l
  induction l with
  |nil=>simp_all
  |cons b l e=>
   intro n k a f;rw[List.all_cons,Bool.and_eq_true]at a;have d:=a.1;unfold isD at d;simp only[Bool.and_eq_true,decide_eq_true_eq]at d;have:=e (10*n+(b.toNat - 48)) (k+1) a.2 (by omega);grind
 have:=c l 0 0 h (by decide)
 rwa [Nat.zero_add]at this
def ZXI (x:Bool×Str×Str):Rat:=Rat.divInt (if x.1 then -((ZIS (x.2.1++x.2.2):Nat):Int)else ((ZIS (x.2.1++x.2.2):Nat):Int)) ((10 ^ x.2.2.length:Nat):Int)
structure ZL4 (D P:Str):Prop where
 d1:1<=D.length
 d2:D.length<=15
 p:P.length<=9
 dd:D.all isD=true
 pp:P.all isD=true
theorem ZGy {body D P:Str} (h:ZGM body=some (D,P)):ZL4 D P:=by
 rw[ZJb]at h;cases hc:(okD (body.takeWhile n46) 15&&((body.dropWhile n46).isEmpty||okD (body.dropWhile n46).tail 9))with
 |false=>simp_all
 |true=>
 rw[hc,cond_true]at h;simp only[Option.some.injEq,Prod.mk.injEq]at h;obtain⟨rfl,rfl⟩:=h;rw[ZW1]at hc;obtain⟨a,b⟩:=hc;unfold okD at a;simp only[ZW1,decide_eq_true_eq]at a;cases hR:body.dropWhile n46 with
 |nil=>exact⟨a.1.1,a.1.2,by simp,a.2,by simp⟩
 |cons c p=>
  rw[hR]at b;simp only[Z2q,Bool.false_or,List.tail_cons]at b|-
  unfold okD at b;simp only[ZW1,decide_eq_true_eq]at b;exact⟨a.1.1,a.1.2,b.1.2,a.2,b.2⟩
theorem ZJa {k:Nat} (h:k<=24):10 ^ k < 2 ^ 80:=Nat.lt_of_le_of_lt (Nat.pow_le_pow_right (by decide) h) (by decide)
theorem ZJf {l:Str} (h:l.all isD=true) (a:l.length<=24):ZIS l < 2 ^ 80:=Nat.lt_trans (ZT8 h) (ZJa a)
theorem ZTr {n:Nat} (h:n < 2 ^ 80):(wd n).length<=3:=ZKp h 3 (by decide)
end Go.Proofs
namespace Go.Proofs
open Go Eng
theorem ZJ1 (s:Str) (c:UInt8):ZpV s [c]=some (match s with |b::_=>b == c | []=>false):=by
 unfold ZpV Zqw;cases s with
 |nil=>rfl
 |cons b r=>
 rw[decide_eq_true (show ((b::r).length:Int)>=(([c]:Str).length:Int) by grind),cond_true,Zpc (by grind),chk_true];simp
theorem ZMI (s:Str) (c:UInt8):ZA2 s [c]=some (match s with |b::r=>bif b == c then (r,true)else (b::r,false) | []=>([],false)):=by
 unfold ZA2 Zut;rw[ZJ1];cases s with
 |nil=>rfl
 |cons b r=>
 rw[Z2C];dsimp only;cases hb:b == c with
 |false=>rfl
 |true=>
  rw[Z2j,cond_false,Zpc (by grind),chk_true];rfl
theorem ZLE (s:Str) (c:UInt8):ZAm s [c]=some (match s with |b::r=>bif b == c then r else b::r | []=>[]):=by
 unfold ZAm Zuf;rw[ZJ1];cases s with
 |nil=>rfl
 |cons b r=>
 rw[Z2C];dsimp only;cases hb:b == c with
 |false=>rfl
 |true=>
  rw[cond_true,Zpc (by grind),chk_true];rfl
theorem ZQj:∀s:Str,Lib.indexByte s 46=if s.dropWhile n46=[]then -1 else ((s.takeWhile n46).length:Int)
 | []=>rfl
 |b::s=>by
  rw[Lib.indexByte,ZQj s,List.dropWhile_cons,List.takeWhile_cons];grind[n46]
theorem ZkE {s:Str} (e:s.length<=9223372036854775807):ZEh s [46]=some (s.takeWhile n46,(s.dropWhile n46).tail, !(s.dropWhile n46).isEmpty):=by
 have b:s.takeWhile n46++s.dropWhile n46=s:=List.takeWhile_append_dropWhile;have a:Ztz s [46]=some (Lib.indexByte s 46):=by
  unfold Ztz ZrO Zre;rw[show ((([46]:Str).length:Int) == 0)=false from rfl,cond_false]
  by_cases h:([46]:Str)=s
  ·subst h;rfl
  ·rw[show (([46]:Str) == s)=false by simp_all,cond_false];rfl
 unfold ZEh Zzi;rw[a,Option.bind_some,ZQj];cases hR:s.dropWhile n46 with
 |nil=>
  simp_all
 |cons c p=>
  have d:(s.takeWhile n46).length+(p.length+1)=s.length:=by grind
  rw[if_neg (by simp),decide_eq_true (show ((s.takeWhile n46).length:Int)>=0 by omega),cond_true,Zpc (by omega),ZiH (by grind),Zpc (by grind)];simp only[chk_true,Option.bind_some];have f:s.take ((((s.takeWhile n46).length:Nat):Int)).toNat=s.takeWhile n46:=by
   grind[List.take_left']
  have g:s.drop ((((s.takeWhile n46).length:Nat):Int)+(([46]:Str).length:Int)).toNat=p:=by
   rw[show ((((s.takeWhile n46).length:Nat):Int)+(([46]:Str).length:Int)).toNat=(s.takeWhile n46).length+1 by simp_all]
   conv=>lhs;rw[<-b,hR]
   rw[show (s.takeWhile n46++c::p).takeWhile n46=s.takeWhile n46 by simp_all];rw[<-List.drop_drop,List.drop_left' rfl];rfl
  simp_all
theorem dset:((List.range 256).all fun n=>([48,49,50,51,52,53,54,55,56,57]:Str).contains n.toUInt8 == isD n.toUInt8)=true:=by decide+kernel
theorem ZUx (b:UInt8):([48,49,50,51,52,53,54,55,56,57]:Str).contains b=isD b:=by have:=Z2l.1 dset b.toNat (List.mem_range.2 b.toNat_lt);simp_all
theorem ZDm {p:UInt8->Bool}:∀l:Str,l.dropWhile p=[]<->l.all p=true
 | []=>by simp
 |b::l=>by
  rw[Z2m,List.all_cons];cases h:p b with
  |true=>rw[if_pos rfl,Z2k];exact ZDm l
  |false=>simp
theorem ZRp (s a:Str):(Lib.trimS s a == [])=s.all (a.contains ·):=by
 rw[Bool.eq_iff_iff,beq_iff_eq];unfold Lib.trimS Lib.trimLeftS Lib.trimRightS;rw[ZDm];constructor
 ·intro h;have d:(s.reverse.dropWhile (a.contains ·)).all (a.contains ·)=true:=by simp_all
  have c:s.reverse.dropWhile (a.contains ·)=[]:=by
   cases he:s.reverse.dropWhile (a.contains ·)with
   |nil=>rfl
   |cons b r=>
    grind[ZLV]
  grind[ZDm]
 grind[ZDm]
theorem ZMH (s:Str) (m:Nat):ZAN s (m:Int)=some (okD s m):=by
 unfold ZAN Zw6 okD ZDL
 by_cases h1:1<=s.length
 ·rw[decide_eq_true (show (s.length:Int)>=1 by omega),cond_true,decide_eq_true h1]
  by_cases h2:s.length<=m
  ·rw[decide_eq_true (show (s.length:Int)<=(m:Int) by omega),cond_true,decide_eq_true h2];rw[show (([48,49,50,51,52,53,54,55,56,57]:Str).all fun b=>decide (b.toNat < 128))=true from by decide,chk_true,show decide (([48,49,50,51,52,53,54,55,56,57]:Str).length < 4294967281)=true from by decide,chk_true,Option.bind_some,ZRp];grind[ZUx]
  grind
 simp_all
def zf:ZbF:=ZbF.mk (Zgo.mk false []) (Zgo.mk false [])
theorem ZWG:([10]:List Int)=iL (wd 10):=by kernel_rfl
theorem ZT5:([1]:List Int)=iL (wd 1):=by kernel_rfl
theorem ZUc:([]:List Int)=iL (wd 0):=by kernel_rfl
theorem ZPa {b:UInt8} (h:isD b=true):IntKind.wrap .u64 (IntKind.wrap .u8 (((b.toNat:Nat):Int) - 48))=((b.toNat - 48:Nat):Int):=by grind[isD,wrap_u8,wrap_u64]
theorem ZSP {a:Bool} {D P:Str} (h:ZL4 D P):Zte a D P false false false [] []=some (fOf (ZXI (a,D,P)),true):=by
 have w:=h.d2;have s:=h.p;have c:(D++P).all isD=true:=by rw[List.all_append,h.dd,h.pp];rfl
 have e:(D++P).length<=24:=by grind
 refine Zo1 ?_;unfold Zte;rw[cond_false,ZT5,ZOx _ (by grind[ZTr]),Option.bind_some,ZhS,ZhS,Zhr,ZWG,ZUc];refine⟨decide_eq_true (by grind[Zr]),decide_eq_true (by omega), ?_⟩;refine Zjf (Ztf ZHi (D++P).length (by omega) (fun i (n:Nat)=>(a,P,iL (wd n),iL (wd 10),(((D++P).map fun b:UInt8=>((b.toNat:Nat):Int)).length:Int),i,false,false,iL (wd 1),(D++P).map (fun b:UInt8=>((b.toNat:Nat):Int)),iL (wd 0),iL (wd 0))) (fun i n=>n=ZIS ((D++P).take i))
  (Q:=fun x=>x=(a,P,iL (wd (ZIS (D++P))),iL (wd 10),false,false,iL (wd 1),iL (wd 0),iL (wd 0))) 0 (by rfl) ?_ ?_) ?_
 ·rintro o i n v rfl z;unfold ZBc ZxG;dsimp only;have j:isD (D++P)[i]=true:=List.all_eq_true.1 c _ (List.getElem_mem v);have u:ZIS ((D++P).take i) < 2 ^ 80:=ZJf (List.all_eq_true.2 fun b j=>List.all_eq_true.1 c b (List.mem_of_mem_take j)) (by grind);have q:ZIS ((D++P).take (i+1))=ZIS ((D++P).take i)*10+((D++P)[i].toNat - 48):=by grind[List.take_succ_eq_append_getElem,ZMy]
  have f:i < ((D++P).map fun b:UInt8=>((b.toNat:Nat):Int)).length:=by grind
  have g:=j;unfold isD at g;simp only[Bool.and_eq_true,decide_eq_true_eq]at g;have r:=ZTr u;have p:=ZTr (n:=10) (by decide);have t:(wd (ZIS ((D++P).take i)*10)).length<=100:=ZKp (k:=84) (by omega) 100 (by decide);have y:=ZTr (n:=(D++P)[i].toNat - 48) (by omega);rw[decide_eq_true (show (i:Int) < (((D++P).map fun b:UInt8=>((b.toNat:Nat):Int)).length:Int) by omega),cond_true,ZIp f,chk_true,Int.toNat_natCast,List.getElem?_eq_getElem f,Option.bind_some,List.getElem_map,ZLF _ _ (by omega) (by omega),Option.bind_some,ZPa j,ZJJ _ (by omega),Option.bind_some,
   ZP5 _ _ (by omega) (by omega),Option.bind_some,ZhS]
  grind[ZiH]
 ·grind[ZBc,ZxG,Zfa]
 ·rintro x rfl;dsimp only;unfold ZC3;rw[Zhr];refine Zjf (Ztf ZHh P.length (by omega) (fun i (k:Nat)=>(a,iL (wd (ZIS (D++P))),iL (wd 10),iL (wd (10 ^ k)),(P.length:Int),i,false,false,iL (wd 0),iL (wd 0))) (fun i k=>k=i)
   (Q:=fun x=>x=(a,iL (wd (ZIS (D++P))),iL (wd (10 ^ P.length)),false,false,iL (wd 0),iL (wd 0))) 0 (by rfl) ?_ ?_) ?_
  ·grind[ZBb,ZxF,ZTr,ZJa,ZLF,ZhS,ZiH]
  ·grind[ZBb,ZxF,Zfa]
  ·rintro x rfl;dsimp only;unfold ZC2;have d:=ZJf c e;have l:=ZJa (show P.length<=24 by omega);have r:=ZTr d;have t:=ZTr l;rw[ZBj _ _ (by omega),Option.bind_some,ZBj _ _ (by omega),Option.bind_some];have m:((10 ^ P.length:Nat):Int)≠0:=by grind
   have:=ZHo (if a=true then -((ZIS (D++P):Nat):Int)else ((ZIS (D++P):Nat):Int)) ((10 ^ P.length:Nat):Int) m (by
    grind) (by grind)
   simp only[Bool.false_eq_true,if_false];rw[this,Option.bind_some,Zfa];rfl
theorem ZLs {t:Str} (e:t.length<=9223372036854775807):Zwu t=some (match ZIi t with |some x=>(fOf (ZXI x),true) |none=>(zf,false)):=by
 have d:∀(body:Str) (b:Bool),body.length<=9223372036854775807->Zwa body b false false [] []=some (match (ZGM body).map fun x=>(b,x.1,x.2)with |some x=>(fOf (ZXI x),true) |none=>(zf,false)):=by
  intro body b c;unfold Zwa;rw[ZkE c,Option.bind_some];dsimp only;rw[show (15:Int)=((15:Nat):Int)from rfl,ZMH,Option.bind_some,show (9:Int)=((9:Nat):Int)from rfl];have a:=ZJb body;cases h1:okD (body.takeWhile n46) 15 with
  |false=>
   rw[h1,Bool.false_and,cond_false]at a;rw[a,Bool.not_false,cond_true];rfl
  |true=>
   rw[h1,Bool.true_and]at a;rw[Bool.not_true,cond_false];cases h2:(body.dropWhile n46).isEmpty with
   |true=>
    grind[ZSP,ZGy]
   |false=>
    rw[h2,Bool.false_or]at a;rw[Bool.not_false,cond_true,ZMH,Option.bind_some];cases h3:okD (body.dropWhile n46).tail 9 with
    |false=>
     rw[h3,cond_false]at a;rw[a];rfl
    |true=>
     grind[ZSP,ZGy]
 grind[Zwu,ZIi,ZNg,ZMI,ZLE]
end Go.Proofs
namespace Go.Proofs
open Go Eng
theorem ZJY (b k:UInt8):(((b.toNat:Nat):Int) == ((k.toNat:Nat):Int))=(b == k):=by
 grind[UInt8.toNat_inj]
theorem ZSL (b:UInt8):(decide (((b.toNat:Nat):Int)>=48)&&decide (((b.toNat:Nat):Int)<=57))=isD b:=by
 unfold isD;congr 1
 ·rw[decide_eq_decide];omega
 ·rw[decide_eq_decide];omega
theorem ZTy (p:UInt8->Bool) (l:Str):l.take (l.takeWhile p).length=l.takeWhile p:=by
 conv=>lhs;arg 2;rw[<-Z2x (p:=p) (l:=l)]
 rw[Z2y rfl]
theorem ZPJ (p:UInt8->Bool) (l:Str):l.drop (l.takeWhile p).length=l.dropWhile p:=by
 conv=>lhs;arg 2;rw[<-Z2x (p:=p) (l:=l)]
 rw[List.drop_left' rfl]
theorem ZWD {p:UInt8->Bool} {l:Str} {k:Nat} (h:∀j (c:j < l.length),j < k->p l[j]=true) (g:k<=l.length) (f:∀g:k < l.length,p l[k]=false):(l.takeWhile p).length=k:=by
 have d:=ZKh (p:=p) (l.take k) (l.drop k) (Z2l.2 fun b i=>by
  obtain⟨j,c,rfl⟩:=List.getElem_of_mem i;rw[Z2w]at c;rw[List.getElem_take];exact h j (by omega) (by omega)) (fun b r e=>by
  have a:k < l.length:=by have:=congrArg List.length e;rw[List.length_drop,Z2s]at this;omega
  rw[Z2o a]at e;simp only[List.cons.injEq]at e;rw[<-e.1];exact f a)
 rw[List.take_append_drop]at d;rw[d.1,Z2w];omega
theorem ZRJ {a:Bool} {D p:Str} (o:p.length<=9):Zo0 a D p false=some (bif p.all isD then (a,D,p,true)else (false,[],[],false)):=by
 unfold Zo0;rw[cond_false];have j:wp (Zqb big a D p 0) (fun x=>x=bif p.all isD then .brk (a,D,p)else .ret (false,[],[],false)):=by
  refine ZpP ZFj p (by omega) (fun i (_:Unit)=>(a,D,p,i)) (fun k _=>(p.take k).all isD=true) () (by simp) ?_ ?_
  ·rintro e k _ g d l;unfold ZwO ZsW Zt3;dsimp only;rw[decide_eq_true (show (k:Int) < (p.length:Int) by omega),cond_true,ZoT g,Z2C];have n:(p.take (k+1)).all isD=isD p[k]:=by rw[Z2z g,List.all_append,d];simp
   have b:isD p[k]=false->p.all isD=false:=fun h=>by rw[Bool.eq_false_iff];intro c;rw[Z2l.1 c _ (Z2p g)]at h;cases h
   have f:=ZSL p[k]
   by_cases h1:((p[k].toNat:Nat):Int) < 48
   ·rw[decide_eq_true h1,cond_true,cond_true,Zfa,b (by rw[<-f,decide_eq_false (by omega)];rfl),cond_false]
   ·rw[decide_eq_false h1,cond_false,Z2C]
    by_cases c:((p[k].toNat:Nat):Int) > 57
    ·rw[decide_eq_true c,cond_true,Zfa,b (by rw[<-f,decide_eq_true (by omega),decide_eq_false (by omega)];rfl),cond_false]
    ·rw[decide_eq_false c,cond_false,ZhS];exact⟨ZiH (by omega),l () (by rw[n,<-f,decide_eq_true (by omega),decide_eq_true (by omega)];rfl)⟩
  ·rintro e _ d;unfold ZwO ZsW;dsimp only;rw[List.take_length]at d;rw[decide_eq_false (show ¬(p.length:Int) < (p.length:Int) by omega),cond_false,Zfa,d,cond_true]
 obtain⟨x,m,rfl⟩:=j;rw[m,Z2C];cases p.all isD<;>rfl
theorem ZRK {s:Str} (a:Bool) (B:s.length<=9223372036854775807):Zph s a=some (match ZGM s with |some x=>(a,x.1,x.2,true) |none=>(false,[],[],false)):=by
 refine Zo1 ?_;unfold Zph;rw[Zhr];refine Zjf (ZKq ZFk (fun(k:Nat)=>(s,a,(k:Int))) (fun k=>k<=s.length/\∀j (r:j < s.length),j < k->isD s[j]=true) (fun k=>s.length - k)
  (Q:=fun x=>x=(s,a,(((s.takeWhile isD).length:Nat):Int))) 0 ⟨Nat.zero_le _,fun j _ h=>absurd h (Nat.not_lt_zero _)⟩ (by omega) ?_) ?_
 ·rintro i k ⟨y,t⟩ z;unfold ZBx ZwP Zro;dsimp only;have d:(∀h:k < s.length,isD s[k]=false)->wp (some (s,a,(k:Int))) (fun x=>x=(s,a,(((s.takeWhile isD).length:Nat):Int))):=fun h=>by rw[Zfa,ZWD t y h]
  rw[ZoH];refine⟨fun h=> ?_,fun h=> ?_⟩
  ·simp only[decide_eq_true_eq]at h;have b:k < s.length:=by omega
   have q:=ZSL s[k];rw[ZoT b,Z2C];have A:isD s[k]=true->wp (chk (inK .i64 ((k:Int)+1)) <| i (s,a,(k:Int)+1)) (fun x=>x=(s,a,(((s.takeWhile isD).length:Nat):Int))):=fun l=>by
    rw[ZhS];refine⟨ZiH (by omega),z (k+1) ⟨by omega,fun j r w=> ?_⟩ (by omega)⟩;rcases Z2B j k with g |g
    ·exact t j r g
    ·obtain rfl:j=k:=by omega
     exact l
   cases g:decide (((s[k].toNat:Nat):Int)>=48)with
   |false=>
    rw[cond_false,cond_false];exact d fun _=>by rw[<-q,g];rfl
   |true=>
    rw[cond_true,Z2C];cases h2:decide (((s[k].toNat:Nat):Int)<=57)with
    |false=>
     rw[cond_false];exact d fun _=>by rw[<-q,g,h2];rfl
    |true=>
     rw[cond_true];exact A (by rw[<-q,g,h2];rfl)
  ·simp only[decide_eq_false_iff_not]at h;rw[cond_false];exact d fun v=>absurd v (by omega)
 ·rintro x rfl;dsimp only;unfold Zyl Zt4;have u:(s.takeWhile isD).length<=s.length:=(List.takeWhile_sublist _).length_le;have f:(s.takeWhile isD).length+(s.dropWhile isD).length=s.length:=by rw[<-Z2r,Z2x]
  rw[ZhS,Int.toNat_natCast,ZTy];refine⟨Zpc (by omega), ?_⟩;unfold ZGM
  by_cases g:1<=(s.takeWhile isD).length
  ·rw[decide_eq_false (show ¬(((s.takeWhile isD).length:Nat):Int) < 1 by omega),cond_false,decide_eq_true g,Z2k]
   by_cases h2:(s.takeWhile isD).length<=15
   ·rw[decide_eq_false (show ¬(((s.takeWhile isD).length:Nat):Int) > 15 by omega),cond_false,decide_eq_true h2,cond_true];cases hR:s.dropWhile isD with
    |nil=>
     rw[hR]at f;simp only[List.length_nil]at f;rw[show ((((s.takeWhile isD).length:Nat):Int) == (s.length:Int))=true by rw[beq_iff_eq];omega,cond_true,Zfa]
    |cons c p=>
     rw[hR]at f;simp only[Z2s]at f;have b:(s.takeWhile isD).length < s.length:=by omega
     have m:s[(s.takeWhile isD).length]=c:=by have e:=ZPJ isD s;rw[Z2o b,hR]at e;simp only[List.cons.injEq]at e;exact e.1
     have n:s.drop ((((s.takeWhile isD).length:Nat):Int)+1).toNat=p:=by rw[show ((((s.takeWhile isD).length:Nat):Int)+1).toNat=(s.takeWhile isD).length+1 by omega];have e:=ZPJ isD s;rw[Z2o b,hR]at e;simp only[List.cons.injEq]at e;exact e.2
     rw[show ((((s.takeWhile isD).length:Nat):Int) == (s.length:Int))=false by rw[beq_eq_false_iff_ne];omega,cond_false,ZhS,ZhS,ZoT b,Z2C,m,n];refine⟨ZiH (by omega),Zpc (by omega), ?_⟩;dsimp only;have o:(((c.toNat:Nat):Int) != 46)= !(c == 46):=by rw[<-ZJY c 46];rfl
     rw[o];cases hc:c == 46 with
     |false=>
      rw[Bool.not_false,cond_true,Z2i,cond_false];unfold Zo0;rw[cond_true,Zfa]
     |true=>
      rw[Z2j,cond_false,Z2k];unfold okD
      by_cases e:1<=p.length
      ·rw[decide_eq_false (show ¬(p.length:Int) < 1 by omega),cond_false,decide_eq_true e,Z2k]
       by_cases h4:p.length<=9
       ·rw[decide_eq_false (show ¬(p.length:Int) > 9 by omega),decide_eq_true h4,Z2k,ZRJ h4,Zfa];cases p.all isD<;>rfl
       ·rw[decide_eq_true (show (p.length:Int) > 9 by omega),decide_eq_false h4,Z2i,cond_false];unfold Zo0;rw[cond_true,Zfa]
      ·rw[decide_eq_true (show (p.length:Int) < 1 by omega),cond_true,decide_eq_false e,Z2i,Z2i,cond_false];unfold Zo0;rw[cond_true,Zfa]
   ·rw[decide_eq_true (show (((s.takeWhile isD).length:Nat):Int) > 15 by omega),cond_true,Zfa,decide_eq_false h2,cond_false]
  ·rw[decide_eq_true (show (((s.takeWhile isD).length:Nat):Int) < 1 by omega),cond_true,cond_true,Zfa,decide_eq_false g,Z2i,cond_false]
theorem ZOm {t:Str} (f:t.length<=9223372036854775807):Ztb t=some (match ZIi t with |some x=>(x.1,x.2.1,x.2.2,true) |none=>(false,[],[],false)):=by
 have a:∀(s:Str) (c:Bool),s.length<=9223372036854775807->Zph s c=some (match (ZGM s).map fun x=>(c,x.1,x.2)with |some x=>(x.1,x.2.1,x.2.2,true) |none=>(false,[],[],false)):=fun s c h=>by rw[ZRK c h];cases ZGM s<;>rfl
 unfold Ztb Zrp ZIi ZNg;cases t with
 |nil=>
  rw[show decide ((([]:Str).length:Int) > 0)=false from rfl,cond_false,cond_false,a [] false f]
 |cons b r=>
  simp only[Z2s]at f;rw[decide_eq_true (show (((b::r).length:Nat):Int) > 0 by simp only[Z2s];omega),cond_true];have j:idx (b::r) 0=some b:=rfl;have e:(((b.toNat:Nat):Int) == 43)=(b == 43):=ZJY b 43;have d:(((b.toNat:Nat):Int) == 45)=(b == 45):=ZJY b 45;rw[j,Z2C,e];dsimp only;have g:Zcp 1 ((b::r).length:Int) ((b::r).length:Int)=true:=Zpc (by simp only[Z2s];omega);cases h1:b == 43 with
  |true=>
   have i:b=43:=eq_of_beq h1;subst i;rw[cond_true,cond_true,Z2C,g,chk_true,d];show Zph r false=_;rw[a r false (by omega)];rfl
  |false=>
   rw[cond_false,Z2C,d];cases h2:b == 45 with
   |true=>
    rw[cond_true,Z2C,g,chk_true,d,h2];show Zph r true=_;rw[a r true (by omega)];rfl
   |false=>
    rw[cond_false];rw[a (b::r) false (by simp only[Z2s];omega)];rfl
end Go.Proofs
namespace Go.Proofs
open Go Eng
theorem ZNu {b:UInt8} (h:isD b=true):IntKind.wrap .i64 (IntKind.wrap .u8 (((b.toNat:Nat):Int) - 48))=((b.toNat - 48:Nat):Int):=by unfold isD at h;simp only[ZW1,decide_eq_true_eq]at h;rw[wrap_u8 (by omega),wrap_i64 (by omega)];omega
theorem wlN {n:Nat} (h:n < 2 ^ 90):Wl 50000 (n:Int):=by unfold Wl;rw[Int.natAbs_natCast];exact Z2A (ZKp h 3 (by decide)) (by decide)
theorem wl10:Wl 50000 10:=wlN (n:=10) (by decide)
theorem ZUG:Zgo.mk false ([]:List Int)=bg ((0:Nat):Int):=by kernel_rfl
theorem ZUz {P:Str} (c:P.all isD=true) {i:Nat} (a:i < P.length):(Utf8.decode ⟨P.toArray⟩ i).2=1:=by
 have d:i < (⟨P.toArray⟩:ByteArray).size:=by show i < P.toArray.size;simpa using a
 have b:=Z2l.1 c _ (Z2p a);unfold isD at b;simp only[ZW1,decide_eq_true_eq]at b;rw[decode_ascii ⟨P.toArray⟩ i d (by show (P.toArray[i]).toNat < 128;rw[List.getElem_toArray];omega)]
theorem ZLN {t:Str} (B:t.length<=9223372036854775807):ZuG t=some (match ZIi t with |some x=>(fOf (ZXI x),true) |none=>(zf,false)):=by
 unfold ZuG;rw[ZOm B,Z2C];cases hp:ZIi t with
 |none=>rfl
 |some x=>
  obtain⟨c,D,P⟩:=x;dsimp only;have h:ZL4 D P:=by
   unfold ZIi at hp;cases e:ZGM (ZNg t).2 with
   |none=>rw[e]at hp;cases hp
   |some y=>
    rw[e]at hp;simp only[Option.map_some,Option.some.injEq,Prod.mk.injEq]at hp;obtain⟨_,z,w⟩:=hp;subst z;subst w;exact ZGy e
  have E:=h.d2;have C:=h.p;have a:(D++P).all isD=true:=by rw[List.all_append,h.dd,h.pp];rfl
  have g:(D++P).length<=24:=by rw[Z2r];omega
  refine Zo1 ?_;rw[Z2j,cond_false,ZEZ 1 (by decide) (by decide),Z2C,ZhS,ZhS,Zhr,ZUG];refine⟨decide_eq_true (by unfold Zr;omega),decide_eq_true (by omega), ?_⟩;refine Zjf (Ztf ZEH (D++P).length (by omega) (fun i (n:Nat)=>(c,P,(((D++P).map fun b:UInt8=>((b.toNat:Nat):Int)).length:Int),i,false,false,bg (n:Int),bg 1,(D++P).map (fun b:UInt8=>((b.toNat:Nat):Int)),([]:List Int),([]:List Int))) (fun i n=>n=ZIS ((D++P).take i))
   (Q:=fun x=>x=(c,P,false,false,bg (ZIS (D++P):Int),bg 1,([]:List Int),([]:List Int))) 0 (by rfl) ?_ ?_) ?_
  ·rintro f i n s rfl u;unfold Zvi ZrH;dsimp only;have e:isD (D++P)[i]=true:=Z2l.1 a _ (Z2p s);have F:ZIS ((D++P).take i) < 2 ^ 80:=ZJf (Z2l.2 fun b e=>Z2l.1 a b (List.mem_of_mem_take e)) (by rw[Z2w];omega);have q:ZIS ((D++P).take (i+1))=ZIS ((D++P).take i)*10+((D++P)[i].toNat - 48):=by rw[Z2z s,ZMy,Nat.mul_comm]
   have l:i < ((D++P).map fun b:UInt8=>((b.toNat:Nat):Int)).length:=by rw[Z2u];exact s
   have m:=e;unfold isD at m;simp only[ZW1,decide_eq_true_eq]at m;rw[decide_eq_true (show (i:Int) < (((D++P).map fun b:UInt8=>((b.toNat:Nat):Int)).length:Int) by rw[Z2u];omega),cond_true,ZIp l,chk_true,Int.toNat_natCast,List.getElem?_eq_getElem l,Z2C,List.getElem_map,
    ZEZ 10 (by decide) (by decide),Z2C,ZBi ((ZIS ((D++P).take i):Nat):Int) 10 (wlN (by omega)) wl10,Z2C,ZNu e,ZEZ _ (by omega) (by omega),Z2C]
   have p:((ZIS ((D++P).take i):Nat):Int)*10=((ZIS ((D++P).take i)*10:Nat):Int):=by omega
   rw[p,ZKk _ _ (wlN (by omega)) (wlN (by omega)),Z2C,ZhS];refine⟨ZiH (by omega), ?_⟩;have:=u (ZIS ((D++P).take i)*10+((D++P)[i].toNat - 48)) q.symm;have A:((ZIS ((D++P).take i)*10:Nat):Int)+(((D++P)[i].toNat - 48:Nat):Int)=((ZIS ((D++P).take i)*10+((D++P)[i].toNat - 48):Nat):Int):=by omega
   rw[A];exact this
  ·rintro f n rfl;unfold Zvi ZrH;dsimp only;rw[decide_eq_false (by rw[Z2u];omega),cond_false,Zfa,List.take_length]
  ·rintro x rfl;dsimp only;unfold ZwR;rw[Zhr];refine Zjf (ZuN ZEG (fun(k:Nat)=>(c,false,false,bg (ZIS (D++P):Int),bg ((10 ^ k:Nat):Int),P,k,([]:List Int),([]:List Int))) (fun k=>k<=P.length) (fun k=>P.length - k)
    (Q:=fun x=>x=(c,false,false,bg (ZIS (D++P):Int),bg ((10 ^ P.length:Nat):Int),([]:List Int),([]:List Int))) 0 (Nat.zero_le _) (by omega) ?_) ?_
   ·rintro f k G u;unfold ZAD Zvh Zs0;dsimp only
    by_cases hlt:k < P.length
    ·have r:=ZJa (show k<=24 by omega);rw[decide_eq_true hlt,cond_true,cond_true,ZEZ 10 (by decide) (by decide),Z2C,ZBi ((10 ^ k:Nat):Int) 10 (wlN (by omega)) wl10,Z2C,ZUz h.pp hlt];have:=u (k+1) (by omega) (by omega);rw[Nat.pow_succ]at this;have p:((10 ^ k:Nat):Int)*10=((10 ^ k*10:Nat):Int):=by omega
     rw[p];exact this
    ·obtain rfl:k=P.length:=by omega
     rw[decide_eq_false hlt,cond_false,cond_false,Zfa]
   ·rintro x rfl;dsimp only;unfold ZwQ ZsZ;have v:=ZJf a g;have r:=ZJa (show P.length<=24 by omega);have o:((10 ^ P.length:Nat):Int)≠0:=by have:=Nat.pow_pos (n:=P.length) (show 0 < 10 by decide);omega
    have j:Wl 50000 ((10 ^ P.length:Nat):Int):=wlN (by omega);have d:Wl 50000 (ZIS (D++P):Int):=wlN (by omega);cases c with
    |false=>
     rw[cond_false,ZIE _ _ o d j,Z2C,Zfa];rfl
    |true=>
     rw[cond_true,ZKI _ (Z2A d (by decide)),Z2C,ZIE _ _ o (by unfold Wl at d|-;rw[Int.natAbs_neg];exact d) j,Z2C,Zfa];rfl
end Go.Proofs
namespace Go.Proofs
open Go Eng
def is0 (b:UInt8):Bool:=b == 48
def sp (b:UInt8):Bool:=b == 32
def rtr (p:UInt8->Bool) (l:Str):Str:=(l.reverse.dropWhile p).reverse
def lz (D:Str):Str:=bif (D.dropWhile is0).isEmpty then [48]else D.dropWhile is0
def rz (P:Str):Str:=rtr is0 P
def ZOZ (D P:Str):Str:=lz D++(bif (rz P).isEmpty then []else 46::rz P)
def ZSa (x:Bool×Str×Str):Str:=bif x.1&& !(ZOZ x.2.1 x.2.2 == [48])then 45::ZOZ x.2.1 x.2.2 else ZOZ x.2.1 x.2.2
theorem ZLK (p:UInt8->Bool) (P:Str):(rtr p P).length<=P.length:=by grind[rtr,Z2n]
theorem ZQb {D:Str} (h:1<=D.length):(lz D).length<=D.length:=by
 grind[lz,Z2n]
theorem ZLP {D P:Str} (h:1<=D.length) (b:D.length<=15) (a:P.length<=9):(ZOZ D P).length<=25:=by
 grind[ZQb,ZLK,ZOZ,rz]
theorem ZOb (p:UInt8->Bool) (l:Str) (b:UInt8):rtr p (l++[b])=bif p b then rtr p l else l++[b]:=by
 unfold rtr;rw[List.reverse_append,List.reverse_singleton,List.singleton_append,Z2m];cases p b with
 |true=>rw[if_pos rfl];rfl
 |false=>rw[if_neg (by simp)];simp
theorem ZOc (p:UInt8->Bool) (b:UInt8) (l:Str):rtr p (b::l)=bif (rtr p l).isEmpty then (bif p b then []else [b])else b::rtr p l:=by
 unfold rtr;rw[List.reverse_cons];rw[List.dropWhile_append];cases h:l.reverse.dropWhile p with
 |nil=>
  simp only[List.isEmpty_nil,if_true,List.reverse_nil,cond_true];rw[Z2m];cases p b<;>simp
 |cons c r=>
  simp only[Z2q,Bool.false_eq_true,if_false];have:((c::r).reverse).isEmpty=false:=by simp
  rw[this,cond_false];simp
theorem ZMh (p:UInt8->Bool):∀l:Str,(rtr p l).dropWhile p=rtr p (l.dropWhile p)
 | []=>rfl
 |b::l=>by
  have a:=ZMh p l;rw[ZOc,Z2m];cases hb:p b with
  |true=>
   rw[if_pos rfl,<-a];cases he:rtr p l with
   |nil=>rfl
   |cons c r=>simp only[Z2q,cond_false];rw[Z2m,hb,if_pos rfl]
  |false=>
   rw[if_neg (by simp),ZOc,hb];cases he:rtr p l with
   |nil=>simp only[List.isEmpty_nil,cond_true,cond_false];rw[Z2m,hb,if_neg (by simp)]
   |cons c r=>simp only[Z2q,cond_false];rw[Z2m,hb,if_neg (by simp)]
theorem ZIj (c:UInt8):(fun b:UInt8=>([c]:Str).contains b)=fun b=>b == c:=by grind
def ZLD (s:Str):Str:=(rtr sp s).dropWhile sp
theorem ZRr (s:Str):Lib.trimS s [32]=ZLD s:=by unfold Lib.trimS Lib.trimLeftS Lib.trimRightS ZLD rtr;rw[ZIj];rfl
theorem ZNa (s:Str):ZGm s=some (ZLD s):=by grind[ZGm,ZDL,decide,chk_true,ZRr]
theorem ZMi (s:Str):(ZLD s).length<=s.length:=Z2A (Z2n _).length_le (ZLK sp s)
theorem ZOQ {s:Str} (k:s.length<=9223372036854775807):Zxu s=some (ZLD s):=by
 refine Zo1 ?_;unfold Zxu;rw[Zhr];refine Zjf (ZKq ZFE (fun(d:Str)=>d) (fun d=>d.dropWhile sp=s.dropWhile sp/\d.length<=s.length) (fun d=>d.length) (Q:=fun x=>x=s.dropWhile sp) s ⟨rfl,Nat.le_refl _⟩ (by omega) ?_) ?_
 ·rintro g d ⟨a,f⟩ i;unfold ZCe Zxt ZuE;dsimp only;cases d with
  |nil=>
   rw[show decide ((([]:Str).length:Int) > 0)=false from rfl,cond_false,cond_false,Zfa,<-a];rfl
  |cons b r=>
   simp only[Z2s]at f;have e:(((b.toNat:Nat):Int) == 32)=sp b:=ZJY b 32;rw[decide_eq_true (show (((b::r).length:Nat):Int) > 0 by simp only[Z2s];omega),cond_true,show idx (b::r) 0=some b from rfl,Z2C,e];rw[Z2m]at a;cases hb:sp b with
   |true=>
    rw[hb,if_pos rfl]at a;rw[cond_true,ZhS];exact⟨Zpc (by simp only[Z2s];omega),i r ⟨a,by omega⟩ (by simp)⟩
   |false=>
    rw[hb,if_neg (by simp)]at a;rw[cond_false,Zfa,a]
 ·rintro x rfl;unfold Zza;have h:(s.dropWhile sp).length<=s.length:=(Z2n _).length_le;rw[Zhr];refine Zjf (ZKq ZFD (fun(d:Str)=>d) (fun d=>rtr sp d=rtr sp (s.dropWhile sp)/\d.length<=s.length) (fun d=>d.length) (Q:=fun x=>x=rtr sp (s.dropWhile sp)) (s.dropWhile sp) ⟨rfl,h⟩ (by omega) ?_) ?_
  ·rintro g d ⟨a,f⟩ i;unfold ZCc Zxs ZuD;dsimp only;rcases List.eq_nil_or_concat d with rfl |⟨q,b,rfl⟩
   ·rw[show decide ((([]:Str).length:Int) > 0)=false from rfl,cond_false,cond_false,Zfa,<-a];rfl
   ·rw[List.concat_eq_append]at*
    have c:(q++[b]).length=q.length+1:=by simp
    have j:idx (q++[b]) ((((q++[b]).length:Nat):Int) - 1)=some b:=by rw[c,show (((q.length+1:Nat):Int) - 1)=((q.length:Nat):Int) by omega,ZoT (by omega)];simp
    have e:(((b.toNat:Nat):Int) == 32)=sp b:=ZJY b 32;rw[ZOb]at a;rw[decide_eq_true (show (((q++[b]).length:Nat):Int) > 0 by omega),cond_true,ZhS,j,Z2C,e];refine⟨ZiH (by omega), ?_⟩;cases hb:sp b with
    |true=>
     rw[hb,cond_true]at a;rw[cond_true,ZhS,ZhS];refine⟨ZiH (by omega),Zpc (by omega), ?_⟩;rw[show ((((q++[b]).length:Nat):Int) - 1).toNat=q.length by omega,Z2y rfl];exact i q ⟨a,by omega⟩ (by rw[c];omega)
    |false=>
     rw[hb,cond_false]at a;rw[cond_false,Zfa,a]
  ·rintro x rfl;unfold Zy9;rw[Zfa];unfold ZLD;rw[ZMh]
theorem lz_0 {r:Str} (a:r≠[]):lz (48::r)=lz r:=by unfold lz;rw[Z2m,show is0 48=true from rfl,if_pos rfl]
theorem ZP9 {a:Bool} {D P:Str} (m:1<=D.length) (p:D.length<=15) (n:P.length<=9):ZvB a D P=some (ZSa (a,D,P)):=by
 have y:=ZQb m;have u:=ZLK is0 P;refine Zo1 ?_;unfold ZvB;rw[Zhr];refine Zjf (ZuN ZES (fun(d:Str)=>(a,d,P)) (fun d=>lz d=lz D/\1<=d.length/\d.length<=15) (fun d=>d.length) (Q:=fun x=>x=(a,lz D,P)) D ⟨rfl,m,p⟩ (by omega) ?_) ?_
 ·rintro l d ⟨f,k,i⟩ o;unfold ZAU Zv1 Ztq;dsimp only;cases d with
  |nil=>simp at k
  |cons b r=>
   have h:(((b.toNat:Nat):Int) == 48)=is0 b:=ZJY b 48;simp only[Z2s]at k i;cases r with
   |nil=>
    rw[show decide ((([b]:Str).length:Int) > 1)=false from rfl,cond_false,cond_false,Zfa,<-f];unfold lz;rw[Z2m];cases hb:is0 b with
    |true=>
     have:b=48:=eq_of_beq hb;subst this;rfl
    |false=>rfl
   |cons c r=>
    rw[decide_eq_true (show (((b::c::r).length:Nat):Int) > 1 by simp only[Z2s];omega),cond_true,show idx (b::c::r) 0=some b from rfl,Z2C,h];cases hb:is0 b with
    |true=>
     have:b=48:=eq_of_beq hb;subst this;rw[lz_0 (by simp)]at f;rw[cond_true,ZhS];exact⟨Zpc (by simp only[Z2s];omega),o (c::r) ⟨f,by simp,by simp only[Z2s]at i|-;omega⟩ (by simp)⟩
    |false=>
     rw[cond_false,Zfa,<-f];unfold lz;rw[Z2m,hb,if_neg (by simp)];rfl
 ·rintro x rfl;dsimp only;unfold Zxn;rw[Zhr];refine Zjf (ZuN ZER (fun(d:Str)=>(a,lz D,d)) (fun d=>rz d=rz P/\d.length<=9) (fun d=>d.length) (Q:=fun x=>x=(a,lz D,rz P)) P ⟨rfl,n⟩ (by omega) ?_) ?_
  ·rintro l d ⟨f,s⟩ o;unfold ZAS Zv0 Ztp;dsimp only;rcases List.eq_nil_or_concat d with rfl |⟨q,b,rfl⟩
   ·rw[show decide ((([]:Str).length:Int) > 0)=false from rfl,cond_false,cond_false,Zfa,<-f];rfl
   ·rw[List.concat_eq_append]at*
    have g:(q++[b]).length=q.length+1:=by simp
    have w:idx (q++[b]) ((((q++[b]).length:Nat):Int) - 1)=some b:=by rw[g,show (((q.length+1:Nat):Int) - 1)=((q.length:Nat):Int) by omega,ZoT (by omega)];simp
    have h:(((b.toNat:Nat):Int) == 48)=is0 b:=ZJY b 48;unfold rz at f;rw[ZOb]at f;rw[decide_eq_true (show (((q++[b]).length:Nat):Int) > 0 by omega),cond_true,ZhS,w,Z2C,h];refine⟨ZiH (by omega), ?_⟩;cases hb:is0 b with
    |true=>
     rw[hb,cond_true]at f;rw[cond_true,ZhS,ZhS];refine⟨ZiH (by omega),Zpc (by omega), ?_⟩;rw[show ((((q++[b]).length:Nat):Int) - 1).toNat=q.length by omega,Z2y rfl];exact o q ⟨f,by omega⟩ (by rw[g];omega)
    |false=>
     rw[hb,cond_false]at f;rw[cond_false,Zfa,f];rfl
  ·rintro x rfl;dsimp only;unfold Zxm Zto Ztn Ztm;have v:=ZLP m p n;have j:∀e:Str,e=ZOZ D P->wp (bif a then (bif (!(e == ([48]:Str)))then chk (decide (([45]:Str).length+e.length<=Zr)) <| some (([45]:Str)++e)else some e)else (bif false then chk (decide (([45]:Str).length+e.length<=Zr)) <| some (([45]:Str)++e)else some e)) (fun x=>x=ZSa (a,D,P)):=by
    rintro e rfl;unfold ZSa;dsimp only;cases a with
    |false=>rw[cond_false,cond_false,Z2i,cond_false,Zfa]
    |true=>
     rw[cond_true,Z2k];cases (!(ZOZ D P == [48]))with
     |false=>rw[cond_false,cond_false,Zfa]
     |true=>
      rw[cond_true,cond_true,ZhS,Zfa];exact⟨decide_eq_true (by simp only[Z2v];unfold Zr;omega),rfl⟩
   cases hP:rz P with
   |nil=>
    rw[show (!(([]:Str) == ([]:Str)))=false from rfl,cond_false];exact j (lz D) (by unfold ZOZ;rw[hP];simp)
   |cons c r=>
    have t:(c::r).length<=9:=by rw[<-hP];exact Z2A u n
    rw[show (!((c::r) == ([]:Str)))=true by simp,cond_true,ZhS,ZhS];refine⟨decide_eq_true (by simp only[Z2v];unfold Zr;omega),decide_eq_true (by rw[Z2r];simp only[Z2v];unfold Zr;omega), ?_⟩;exact j _ (by unfold ZOZ;rw[hP];rfl)
end Go.Proofs
namespace Go.Proofs
open Go Eng
theorem ZR7 (a:Str):ZEt [a,[48]]=some (bif a.isEmpty then [48]else a):=by
 have d:wp (ZzD big ([]:Str) [a,[48]] ((([a,[48]]:List Str).length:Nat):Int) 0) (fun x=>x= .ret (bif a.isEmpty then [48]else a)):=by
  refine ZpP ZIf ([a,[48]]:List Str) (by simp) (fun i (_:Unit)=>(([]:Str),([a,[48]]:List Str),((([a,[48]]:List Str).length:Nat):Int),i)) (fun k _=>k<=1/\(k=1->a=[])) () ⟨by omega,fun h=>by omega⟩ ?_ ?_
  ·rintro c k _ e ⟨l,j⟩ f;unfold ZFS ZDA;dsimp only;rw[decide_eq_true (show (k:Int) < ((([a,[48]]:List Str).length:Nat):Int) by omega),cond_true,ZoT e,Option.bind_some];rcases Nat.eq_zero_or_pos k with rfl |g
   ·show wp (bif (!(a == []))then some (Out.ret a)else chk (inK .i64 (((0:Nat):Int)+1)) (c ([],[a,[48]],((([a,[48]]:List Str).length:Nat):Int),((0:Nat):Int)+1))) _;cases a with
    |nil=>
     rw[show (!(([]:Str) == ([]:Str)))=false from rfl,cond_false,ZhS];exact⟨by decide,f () ⟨by omega,fun _=>rfl⟩⟩
    |cons b r=>
     grind[Zfa]
   grind[Zfa]
  simp_all
 unfold ZEt;obtain⟨x,m,rfl⟩:=d;simp_all
theorem ZRA (t:Str):(ZNg t).2.length<=t.length:=by
 unfold ZNg;grind
theorem ZHJ {t:Str} {x:Bool×Str×Str} (h:ZIi t=some x):x.1=(ZNg t).1/\ZGM (ZNg t).2=some x.2:=by
 grind[ZIi,ZGM]
theorem ZPb {b:Str} {x:Str×Str} (h:ZGM b=some x):∃c r,b=c::r/\isD c=true:=by
 have a:=ZGy h;rw[ZJb]at h;cases b with
 |nil=>simp[okD]at h
 |cons c r=>
 grind[List.takeWhile_cons,okD]
theorem ZW2 (b:UInt8):([43,45]:Str).contains b=((b == 45)||(b == 43)):=by grind
theorem ZXm {b:UInt8} (h:isD b=true):((b == 45)||(b == 43))=false:=by
 cases h1:b == 45 with
 |true=>rw[eq_of_beq h1]at h;exact absurd h (by decide)
 |false=>
  cases h2:b == 43 with
  |true=>rw[eq_of_beq h2]at h;exact absurd h (by decide)
  |false=>rfl
theorem ZRq {t:Str} {x:Bool×Str×Str} (h:ZIi t=some x):Lib.trimLeftS t [43,45]=(ZNg t).2/\∃b r,t=b::r/\(b == 45)=x.1:=by
 obtain⟨f,d⟩:=ZHJ h;obtain⟨c,r,i,g⟩:=ZPb d;have e:=ZXm g;unfold Lib.trimLeftS;rw[show (fun b:UInt8=>([43,45]:Str).contains b)=fun b=>(b == 45)||(b == 43)from funext ZW2];have a:(c::r).dropWhile (fun b=>(b == 45)||(b == 43))=c::r:=by simp_all
 rw[f];cases t with
 |nil=>grind[ZNg]
 |cons b s=>
 grind[ZNg,Z2m]
theorem ZNv {t:Str} (y:t.length<=9223372036854775807):ZCs t=some (match ZIi t with |some x=>(ZSa x,true) |none=>([],false)):=by
 unfold ZCs;rw[ZLs y,Z2C];cases o:ZIi t with
 |none=>rfl
 |some x=>
 obtain⟨d,D,P⟩:=x;obtain⟨u,n⟩:=ZHJ o;obtain⟨p,b,r,j,a⟩:=ZRq o;have f:=ZGy n;have z:=ZRA t;dsimp only at u a|-
 have k:=ZJb (ZNg t).2;rw[n]at k;have g:D=(ZNg t).2.takeWhile n46/\P=((ZNg t).2.dropWhile n46).tail:=by
  grind
 unfold ZCl ZDT;rw[Z2j,cond_false,show (([43,45]:Str).all fun b=>decide (b.toNat < 128))=true from by decide,chk_true,show decide (([43,45]:Str).length < 4294967281)=true from by decide,chk_true,Z2C,p,ZkE (by omega),Z2C];dsimp only;rw[<-g.1,<-g.2,show (([48]:Str).all fun b=>decide (b.toNat < 128))=true from by decide,chk_true,show decide (([48]:Str).length < 4294967281)=true from by decide,chk_true,Z2C,chk_true,chk_true,Z2C];have q:Lib.trimLeftS D [48]=D.dropWhile is0:=by unfold Lib.trimLeftS;rw[ZIj];rfl
 have v:Lib.trimRightS P [48]=rz P:=by unfold Lib.trimRightS rz rtr;rw[ZIj];rfl
 rw[q,v,ZR7,Z2C];show (bif (!(rz P == ([]:Str)))then _ else Zwh t (lz D))=_;have h:=f.d1;have i:=f.d2;have l:=f.p;have C:=ZLP h i l;have B:=ZQb h;have w:=ZLK is0 P;have A:∀e:Str,e=ZOZ D P->Zwh t e=some (ZSa (d,D,P),true):=by
  rintro e rfl;unfold Zwh ZB2 ZB1 ZSa;have m:(((b.toNat:Nat):Int) == 45)=d:=(ZJY b 45).trans a;rw[j,show idx (b::r) 0=some b from rfl,Z2C,m];dsimp only;cases d with
  |false=>simp_all
  |true=>
  rw[cond_true,Z2k];cases (!(ZOZ D P == [48]))with
  |false=>simp_all
  |true=>
   rw[cond_true,cond_true,decide_eq_true (by grind[Zr]),chk_true];rfl
 cases hP:rz P with
 |nil=>
  grind[ZOZ]
 |cons c s=>
  grind[Zr,chk,decide,lz,ZOZ]
theorem ZR9 {x:Bool×Str×Str} (h:ZL4 x.2.1 x.2.2):(ZSa x).length<=26:=by
 have:=ZLP h.d1 h.d2 h.p;grind[ZSa]
def ZJ2 (s:Str):Option Str:=(ZIi (ZLD s)).map ZSa
def ZWm (s:Str):Option Rat:=match ZJ2 s with
 |some t=>(ZIi t).map ZXI
 |none=>none
theorem ZLu {s t:Str} (h:ZJ2 s=some t):t.length<=26:=by
 unfold ZJ2 at h;cases a:ZIi (ZLD s)with
 |none=>simp_all
 |some x=>
 rw[a]at h;simp only[Option.map_some,Option.some.injEq]at h;subst h;obtain⟨_,b⟩:=ZHJ a;grind[ZR9,ZGy]
theorem ZQB {s:Str} (c:s.length<=9223372036854775807):ZxP 4 s=some (match ZJ2 s with |some t=>(t,true) |none=>([],false)):=by
 have h:ZxP 4 s=(ZGm s).bind fun q=>(ZCs q).bind fun(a,b)=>some (a,b):=by kernel_rfl
 grind[ZMi,ZNa,ZNv,ZJ2]
theorem ZPH {s:Str} (d:s.length<=9223372036854775807):ZEc 4 s=some (match ZWm s with |some q=>(fOf q,true) |none=>(zf,false)):=by
 have h:ZEc 4 s=(ZxP 4 s).bind fun(t,c)=>bif (!c)then some (zf,false)else (Zwu t).bind fun(a,b)=>some (a,b):=by kernel_rfl
 grind[ZQB,ZWm,ZLu,ZLs]
theorem ZNi {s:Str} (c:s.length<=9223372036854775807):Zwl 4 s=some (match ZWm s with |some q=>(fOf q,true) |none=>(zf,false)):=by
 have b:Ztr 4 s=some (match ZJ2 s with |some t=>(t,true) |none=>([],false)):=by
  have e:=ZMi s;unfold Ztr ZrD;rw[ZOQ c,Z2C,show ((4:Int) == 1)=false from rfl,show ((4:Int) == 2)=false from rfl,show ((4:Int) == 3)=false from rfl,show ((4:Int) == 4)=true from rfl];simp only[cond_false,cond_true];rw[ZOm (by omega),Z2C];unfold ZJ2;cases f:ZIi (ZLD s)with
  |none=>rfl
  |some x=>
   obtain⟨_,d⟩:=ZHJ f;have a:=ZGy (D:=x.2.1) (P:=x.2.2) d;dsimp only;unfold Zp4;rw[cond_true,cond_true,ZP9 a.d1 a.d2 a.p,Z2C];rfl
 unfold Zwl ZtP;rw[b,Z2C];unfold ZWm;cases hc:ZJ2 s with
 |none=>rfl
 |some t=>
  have:=ZLu hc;dsimp only;rw[Z2j,cond_false,show ((4:Int) == 1)=false from rfl,show ((4:Int) == 2)=false from rfl,show ((4:Int) == 5)=false from rfl];simp only[cond_false];rw[ZLN (by omega),Z2C];cases ZIi t<;>rfl
def ZNA (c:G_api_Cell):Option Rat:=bif c.Null then none else ZWm c.Text
theorem ZKG {c:G_api_Cell} (hl:c.Text.length<=9223372036854775807):ZHI c=some (match ZNA c with |some q=>(fOf q,true) |none=>(bif c.Null then fOf 0 else zf,false)):=by
 grind[ZHI,ZNA,ZJw,ZPH]
theorem ZMp {c:G_api_Cell} (a:c.Text.length<=9223372036854775807):Zvy c=some (match ZNA c with |some q=>(fOf q,true) |none=>(zf,false)):=by
 unfold Zvy ZNA;cases c.Null with
 |true=>rfl
 |false=>
  rw[cond_false,ZNi a,Z2C];cases ZWm c.Text<;>rfl
end Go.Proofs
namespace Go.Proofs
open Go Eng
def ZDY (a:Str):List Str:=ZxO (ZGS (a++[32]) [])
def ZH8 (l:List G_api_Cell):List Str:=(l.filter fun x=> !x.Null).map fun x=>x.Text
def Zw9 (l:List G_api_Cell):List Str:=ZxO (ZH8 l)
theorem ZRn {a:Str} (h:a.length<=1000000):Zue a=some (ZDY a):=by unfold Zue;rw[ZDG,decide_eq_true (by omega)];rfl
theorem ZPG {c:G_api_Column} (h:c.Cells.length<=1000000):ZwV c=some (Zw9 c.Cells):=by unfold ZwV;rw[ZDG,decide_eq_true (by omega)];rfl
theorem ZI2:∀(s a:List UInt8),(ZGS s a).length<=s.length
 | [],a=>by simp[ZGS]
 |b::s,a=>by
  have d:=ZI2 s [];have c:=ZI2 s (a++[xwC b]);grind[ZGS]
theorem ZIx (l:List (List UInt8)):(ZxO l).length<=l.length:=by
 have h:∀l:List (List UInt8),(ZEK l).length<=l.length:=by
  intro l
  induction l with
  |nil=>simp[ZEK]
  |cons x r a=>
   grind[ZEK]
 grind[ZxO,List.length_mergeSort]
theorem ZJx (a:Str):(ZDY a).length<=a.length+1:=by have c:=ZIx (ZGS (a++[32]) []);have b:=ZI2 (a++[32]) [];simp only[Z2r,Z2v]at b;exact Z2A c b
theorem ZIP (l:List G_api_Cell):(Zw9 l).length<=l.length:=by have a:=ZIx (ZH8 l);unfold ZH8 at a;rw[Z2u]at a;exact Z2A a (Z2t _ _)
theorem ZKU {a b:List Str} (d:a.Nodup) (c:b.Nodup):ZIZ a b=ZIZ b a:=by unfold ZIZ;refine List.Perm.length_eq ((List.perm_ext_iff_of_nodup (d.filter _) (c.filter _)).2 fun x=> ?_);grind
theorem ZQv (a:List Str):ZIZ a a=a.length:=by grind[ZIZ,List.filter_eq_self]
def ZDa (a b:List Str):Rat:=Rat.divInt (ZIZ a b:Int) (max (a.length+b.length - ZIZ a b) 1:Nat)
theorem ZOi {a b:List Str} (f:Srt b) (d:a.length<=1000000) (c:b.length<=1000000):Zzv a b=some (fOf (ZDa a b)):=by
 have g:=ZIV a b;unfold Zzv;rw[ZPQ f (by omega) (by omega),Option.bind_some,ZiH (by omega),ZiH (by omega),chk_true,chk_true];have e:(if (1:Int) > (((a.length:Int)+(b.length:Int)) - (ZIZ a b:Int))then (1:Int)else (((a.length:Int)+(b.length:Int)) - (ZIZ a b:Int)))=((max (a.length+b.length - ZIZ a b) 1:Nat):Int):=by
  omega
 rw[e,ZJe _ _ (by omega) (by omega) (by omega) (by omega) (by omega),Option.bind_some];rfl
theorem ZQs {a b c d:Int} (m:0 < b) (o:0 < d):Rat.divInt a b<=Rat.divInt c d<->a*d<=c*b:=by
 rw[Rat.divInt_eq_div,Rat.divInt_eq_div];have k:(0:Rat) < (b:Rat):=by rw[show ((0:Rat))=(((0:Int)):Rat)from rfl];exact Rat.intCast_lt_intCast.2 m
 have l:(0:Rat) < (d:Rat):=by rw[show ((0:Rat))=(((0:Int)):Rat)from rfl];exact Rat.intCast_lt_intCast.2 o
 have f:=Rat.mul_pos k l;have g:(b:Rat)*((a:Rat) / (b:Rat))=a:=by grind
 have j:(d:Rat)*((c:Rat) / (d:Rat))=c:=by grind
 have i:a*d<=c*b<->(a:Rat)*(d:Rat)<=(c:Rat)*(b:Rat):=by rw[<-Rat.intCast_mul,<-Rat.intCast_mul,Rat.intCast_le_intCast]
 rw[i];clear i;generalize (a:Rat) / (b:Rat)=x at g|-
 generalize (c:Rat) / (d:Rat)=y at j|-
 generalize (a:Rat)=A at*
 generalize (b:Rat)=B at*
 generalize (c:Rat)=C at*
 generalize (d:Rat)=D at*
 subst g j;have e:(y - x)*(B*D)=D*y*B - B*x*D:=by grind
 constructor
 ·intro h;have n:0<=(y - x)*(B*D):=Rat.mul_nonneg (by grind) (by grind);grind
 ·intro h;apply Rat.not_lt.1;intro p;have n:0 < (x - y)*(B*D):=Rat.mul_pos (by grind) f;grind
theorem ZJn {n d:Nat} (hd:0 < d) (h:n<=d):0<=Rat.divInt (n:Int) (d:Int)/\Rat.divInt (n:Int) (d:Int)<=1:=by
 have h1:Rat.divInt 1 1=1:=by decide+kernel
 grind[Rat.divInt_nonneg,ZQs]
theorem ZI9 {a b:List Str} (hb:b.Nodup) (ha:a.Nodup):0<=ZDa a b/\ZDa a b<=1:=by have h1:=ZIV a b;have h2:=ZIV b a;rw[ZKU hb ha]at h2;exact ZJn (by omega) (by omega)
theorem ZKA {a b:List Str} (d:a.Nodup) (c:b.Nodup):ZDa a b=ZDa b a:=by grind[ZDa,ZKU]
theorem ZMq {a b:List Str} {k:Nat} (c:a.length+b.length < 2 ^ k) (d:1 < 2 ^ k):Sz k (ZDa a b):=by have:=ZIV a b;exact ZI6 (by omega) (by omega) (by omega)
theorem ZKB {a:List Str}:ZDa a a=if a=[]then 0 else 1:=by
 unfold ZDa;rw[ZQv];cases a with
 |nil=>simp_all
 |cons x r=>
 rw[if_neg (by simp)];have e:max ((x::r).length+(x::r).length - (x::r).length) 1=(x::r).length:=by simp
 grind[Rat.divInt_self']
noncomputable def isN (c:G_api_Cell):Bool:=(ZNA c).isSome
noncomputable def ZH1 (l:List G_api_Cell):Nat:=(l.filter fun x=> !x.Null).length
noncomputable def ZOo (l:List G_api_Cell):Nat:=(l.filter fun x=> !x.Null&&isN x).length
noncomputable def ZxM (l:List G_api_Cell):Rat:=Rat.divInt (ZOo l:Int) (max (ZH1 l) 1:Nat)
theorem ZJI (l:List G_api_Cell):ZOo l<=ZH1 l:=by unfold ZOo ZH1;rw[show (fun x:G_api_Cell=> !x.Null&&isN x)=fun x=>(isN x)&& !x.Null from funext fun x=>Bool.and_comm _ _,<-List.filter_filter];grind
theorem ZJl (l:List G_api_Cell):ZH1 l<=l.length:=Z2t _ _
theorem ZOa {c:G_api_Column} (hc:∀x∈c.Cells,x.Text.length<=9223372036854775807) (hl:c.Cells.length<=1000):Zw4 c=some (fOf (ZxM c.Cells)):=by
 unfold Zw4;rw[ZDG];refine Zo1 ?_;unfold ZEj;rw[Zhr];refine Zjf (ZpP ZHc c.Cells (by omega) (fun i (s:Nat×Nat)=>((s.1:Int),(s.2:Int),c.Cells,(c.Cells.length:Int),i,false,false,([]:List Int),([]:List Int))) (fun k s=>s.1=ZH1 (c.Cells.take k)/\s.2=ZOo (c.Cells.take k))
  (Q:=fun x=>x=((ZH1 c.Cells:Int),(ZOo c.Cells:Int),false,false,([]:List Int),([]:List Int))) (0,0) ⟨by simp[ZH1],by simp[ZOo]⟩ ?_ ?_) ?_
 ·rintro rec k ⟨f,n⟩ hk ⟨hf,hn⟩ ih;dsimp only at hf hn ih;unfold ZA5 ZxB Zv8;dsimp only;have hs:c.Cells.take (k+1)=c.Cells.take k++[c.Cells[k]]:=List.take_succ_eq_append_getElem hk;have b1:=ZJl (c.Cells.take k);have b2:=ZJI (c.Cells.take k);rw[List.length_take]at b1;have e1:ZH1 (c.Cells.take (k+1))=f+(bif c.Cells[k].Null then 0 else 1):=by grind[ZH1]
  have e2:ZOo (c.Cells.take (k+1))=n+(bif !c.Cells[k].Null&&isN c.Cells[k]then 1 else 0):=by grind[ZOo]
  rw[decide_eq_true (show (k:Int) < (c.Cells.length:Int) by omega),cond_true,ZoT hk,Option.bind_some];cases hnul:c.Cells[k].Null with
  |true=>
   rw[hnul]at e1 e2;rw[cond_true,ZhS];exact⟨ZiH (by omega),ih (f,n) ⟨by grind,by grind⟩⟩
  |false=>
   rw[hnul]at e1 e2;rw[cond_false,ZhS];refine⟨ZiH (by omega), ?_⟩;cases hv:ZNA c.Cells[k]with
   |some q=>
    have hi:isN c.Cells[k]=true:=by grind[isN]
    rw[hi]at e2;rw[ZKG (hc _ (List.getElem_mem hk)),hv,Option.bind_some];dsimp only;rw[cond_true,ZhS,ZhS];refine⟨ZiH (by omega),ZiH (by omega), ?_⟩;have:=ih (f+1,n+1) ⟨by grind,by grind⟩
    grind
   |none=>
    have hi:isN c.Cells[k]=false:=by grind[isN]
    rw[hi]at e2;rw[ZKG (hc _ (List.getElem_mem hk)),hv,Option.bind_some];dsimp only;rw[cond_false,ZhS];refine⟨ZiH (by omega), ?_⟩;have:=ih (f+1,n) ⟨by grind,by grind⟩
    grind
 ·grind[ZA5,ZxB,Zfa]
 ·rintro x rfl;have b1:=ZJl c.Cells;have b2:=ZJI c.Cells;dsimp only;unfold ZCR;have e:(if (1:Int) > (ZH1 c.Cells:Int)then (1:Int)else (ZH1 c.Cells:Int))=((max (ZH1 c.Cells) 1:Nat):Int):=by
   omega
  rw[e,ZJe _ _ (by omega) (by omega) (by omega) (by omega) (by omega),Option.bind_some,Zfa];rfl
theorem ZI7 (l:List G_api_Cell):0<=ZxM l/\ZxM l<=1:=by have:=ZJI l;exact ZJn (by omega) (by omega)
theorem ZHb {l:List G_api_Cell} {k:Nat} (h:l.length < 2 ^ k) (b:1 < 2 ^ k):Sz k (ZxM l):=by have c:=ZJl l;have a:=ZJI l;exact ZI6 (by omega) (by omega) (by omega)
end Go.Proofs
namespace Go.Proofs
open Go Eng
theorem ZMr {a:Rat}:(ZK5 a 0 == 0)=decide (a=0):=by
 grind[ZK5]
theorem ZMs (a b:Rat):(ZK5 a b < 0)<->a < b:=by
 grind[ZK5]
def ofQ (v n s t:Rat):Rat:=if v=0/\n=0 then 0 else (v+v+n+(1 - ZOA (s - t))) / 4
noncomputable def ZJN (a b:G_api_Column):Rat:=ofQ (ZDa (Zw9 a.Cells) (Zw9 b.Cells)) (ZDa (ZDY a.Name) (ZDY b.Name)) (ZxM a.Cells) (ZxM b.Cells)
structure ZJu (a:G_api_Column):Prop where
 name:a.Name.length<=300
 rows:a.Cells.length<=100
 cells:∀x∈a.Cells,x.Text.length<=9223372036854775807
theorem ZHa (s:Str):Srt (ZDY s):=ZLH _
theorem ZGj (l:List G_api_Cell):Srt (Zw9 l):=ZLH _
theorem ZTv {a b:G_api_Column} (d:a.Cells.length<=100) (c:b.Cells.length<=100):ZA4 a b=some (fOf (ZDa (Zw9 a.Cells) (Zw9 b.Cells))):=by grind[ZIP,ZA4,ZPG,ZOi,ZGj]
theorem ZRM {a b:Str} (d:a.length<=300) (c:b.length<=300):ZCm a b=some (fOf (ZDa (ZDY a) (ZDY b))):=by grind[ZJx,ZCm,ZRn,ZOi,ZHa]
theorem ZM6 {a b:G_api_Column} (d:a.Cells.length<=100) (c:b.Cells.length<=100):Sz 10 (ZDa (Zw9 a.Cells) (Zw9 b.Cells)):=by grind[ZIP,ZMq]
theorem ZLS {a b:Str} (d:a.length<=300) (c:b.length<=300):Sz 10 (ZDa (ZDY a) (ZDY b)):=by grind[ZJx,ZMq]
theorem ZKu:Sz 1 1:=by simp_all[Sz]
theorem ZUa:ZEl 1 1=some (fOf 1):=by
 have:=ZJe 1 1 (by decide) (by decide) (by decide) (by decide) (by decide)
 rwa [show Rat.divInt 1 1=1 by decide+kernel]at this
theorem ZT9:ZEl 4 1=some (fOf 4):=by
 have:=ZJe 4 1 (by decide) (by decide) (by decide) (by decide) (by decide)
 rwa [show Rat.divInt 4 1=4 by decide+kernel]at this
theorem ZNd:Sz 3 4:=by simp_all[Sz]
theorem ZND {x:Rat} {k:Nat} (h:Sz k x) (a:1<=k):Sz (k+2) (ZOA x):=by
 unfold ZOA;split
 ·have:=ZFx.add h.neg;grind
 ·exact h.mono (by omega)
theorem ZW7 {v n a:Rat} (b:Sz 10 v) (g:Sz 10 n) (d:Sz 30 a):Zzw false false (fOf v) (fOf n) (fOf a) [] []=some (fOf ((v+v+n+(1 - a)) / 4)):=by
 unfold Zzw;have e:=b.add b;have c:=e.add g;have f:Sz 32 (1 - a):=by rw[show (1:Rat) - a=1+ -a by grind];exact(ZKu.add d.neg).mono (by decide)
 have h:=c.add f;rw[ZJg b b (by decide),Z2C,ZJg e g (by decide),Z2C,ZUa,Z2C,ZKH ZKu d (by decide),Z2C,ZJg c f (by decide),Z2C,ZT9,Z2C,
  ZMz (by decide) h ZNd (by decide),Z2C]
theorem ZW8 {a b:G_api_Column} (f:ZJu a) (i:ZJu b) {v n:Rat} (g:Sz 10 v) (k:Sz 10 n):
  Zwr false a b false false (fOf v) (fOf n) [] []=some (fOf ((v+v+n+(1 - ZOA (ZxM a.Cells - ZxM b.Cells))) / 4)):=by
 unfold Zwr;have l:=f.rows;have o:=i.rows;have j:Sz 10 (ZxM a.Cells):=ZHb (by omega) (by decide);have e:Sz 10 (ZxM b.Cells):=ZHb (by omega) (by decide);have d:Sz 21 (ZxM a.Cells - ZxM b.Cells):=by rw[Rat.sub_eq_add_neg];exact j.add e.neg
 rw[cond_false,ZOa f.cells (by omega),Z2C,ZOa i.cells (by omega),Z2C,ZKH j e (by decide),Z2C,ZJA (d.wq (by decide)),Z2C];have c:=ZND d (by decide);unfold ZOA at c|-
 by_cases h:ZxM a.Cells - ZxM b.Cells < 0
 ·rw[decide_eq_true ((ZMs _ _).2 h),cond_true,ZJw,Z2C,ZKH ZFx d (by decide),Z2C];rw[if_pos h]at c|-
  exact ZW7 g k (c.mono (by decide))
 ·rw[decide_eq_false (fun m=>h ((ZMs _ _).1 m)),cond_false];rw[if_neg h]at c|-
  exact ZW7 g k (c.mono (by decide))
theorem ZXJ {a b:G_api_Column} (c:ZJu a) (d:ZJu b):ZEk a b=some (fOf (ZJN a b)):=by
 unfold ZEk ZJN ofQ;have f:=ZM6 c.rows d.rows;have e:=ZLS c.name d.name;rw[ZTv c.rows d.rows,Option.bind_some,ZRM c.name d.name,Option.bind_some,ZJA (f.wq (by decide)),Option.bind_some,ZMr]
 by_cases h1:ZDa (Zw9 a.Cells) (Zw9 b.Cells)=0
 ·rw[decide_eq_true h1,cond_true,ZJA (e.wq (by decide)),Option.bind_some,ZMr]
  grind[Zwr,ZJw,ZW8]
 grind[ZW8]
theorem ZO0 {v n s t:Rat} (d:0<=v/\v<=1) (b:0<=n/\n<=1) (c:0<=s/\s<=1) (a:0<=t/\t<=1):0<=ofQ v n s t/\ofQ v n s t<=1:=by
 grind[ofQ,ZOA]
theorem ZRL {v n s t:Rat}:ofQ v n s t=ofQ v n t s:=by
 grind[ofQ,ZOA]
theorem ZQx (a b:G_api_Column):ZJN a b=ZJN b a:=by unfold ZJN;rw[ZKA (ZGj a.Cells).2 (ZGj b.Cells).2,ZKA (ZHa a.Name).2 (ZHa b.Name).2,ZRL]
theorem ZNz (a b:G_api_Column):0<=ZJN a b/\ZJN a b<=1:=
 ZO0 (ZI9 (ZGj _).2 (ZGj _).2) (ZI9 (ZHa _).2 (ZHa _).2) (ZI7 _) (ZI7 _)
theorem ZMJ (a:G_api_Column):ZJN a a=if ZDY a.Name=[]then (if Zw9 a.Cells=[]then 0 else 3 / 4)else (if Zw9 a.Cells=[]then 1 / 2 else 1):=by
 grind[ZJN,ZKB,ofQ,ZOA]
theorem ZUA {a b:G_api_Column} (c:ZJu a) (d:ZJu b):Sz 100 (ZJN a b):=by
 unfold ZJN ofQ;have g:=c.rows;have i:=d.rows;have e:=ZM6 c.rows d.rows;have m:=ZLS c.name d.name;have j:Sz 10 (ZxM a.Cells):=ZHb (by omega) (by decide);have f:Sz 10 (ZxM b.Cells):=ZHb (by omega) (by decide);have l:Sz 21 (ZxM a.Cells - ZxM b.Cells):=by rw[Rat.sub_eq_add_neg];exact j.add f.neg
 have k:=ZND l (by decide);split
 ·exact ZFx.mono (by decide)
 ·have h:Sz 32 (1 - ZOA (ZxM a.Cells - ZxM b.Cells)):=by rw[Rat.sub_eq_add_neg];exact(ZKu.add k.neg).mono (by decide)
  exact(Sz.div (by decide) (((e.add e).add m).add h) ZNd).mono (by decide)
end Go.Proofs
namespace Go.Proofs
open Go Eng
theorem ZI1 {l r:List Str} (d:r.Pairwise (fun a b=>a<=b)) (c:r.Nodup) (h:∀x,x∈l<->x∈r):ZxO l=r:=
 ZHE (ZIy l) d (ZEO l) c fun x=>by rw[ZEb,h]
theorem ZQg:Zo6 1=some (fOf 1):=ZJi 1 (by decide) (by decide)
end Go.Proofs
namespace Go.Proofs
open Go Eng
theorem ZJy {d:ZbZ} (c:Zs5 d) {l:List Str} (a:1<=l.length) (b:l.length<=1000):wp (ZoQ d l) (fun r=>r.1∈l/\Zs5 r.2):=by
 grind[ZoQ,Zhr,ZAf,ZH6,Zfa]
def ZGO:List Str:=[[97],[98],[99],[49],[50],[51],[49,48],[120],[45,49,46,53],[100],[],[49,46,50,46,51],[49,46,53,48]]++((List.range 12).map fun i:Nat=>Lib.itoa ((i:Int) - 3))++((List.range 14).map fun i:Nat=>([107]:Str)++Lib.itoa (i:Int))++
 [[105,100],[110,97,109,101],[85,110,105,116,32,80,114,105,99,101],[99,105,116,121],[117,110,105,116],[112,114,105,99,101],[105,100,50],[116],[111,114,100,101,114,115],[115,97,109,101]]
theorem ZNt:(ZGO.all fun s=>ZKP s&&decide (s.length<=10))=true:=by kernel_rfl
theorem ZK7 {s:Str} (h:s∈ZGO):ZKP s=true/\s.length<=10:=by grind[ZNt]
def ZKf (c:G_api_Cell):Prop:=c.Text∈ZGO/\(c.Null=true->c.Text=[])
theorem ZLv:ZKf ⟨true,[]⟩:=⟨by decide+kernel,fun _=>rfl⟩
theorem ZHw {s:Str} (h:s∈ZGO):ZKf ⟨false,s⟩:=⟨h,fun h=>by grind⟩
theorem ZPN {l:List Str} (h:l.all (fun s=>ZGO.contains s)=true) {s:Str} (a:s∈l):s∈ZGO:=by simp_all
def ZTo (n:Nat) (c:G_api_Column):Prop:=c.Name∈ZGO/\c.Cells.length=n/\∀x∈c.Cells,ZKf x
theorem ZXl {n:Int} (h: -3<=n/\n<=8):Lib.itoa n∈ZGO:=by
 have a:((List.range 12).all fun i:Nat=>ZGO.contains (Lib.itoa ((i:Int) - 3)))=true:=by kernel_rfl
 have:=Z2l.1 a (n+3).toNat (List.mem_range.2 (by omega));grind
theorem k_d {n:Int} (h:0<=n/\n < 14):([107]:Str)++Lib.itoa n∈ZGO:=by
 grind[ZGO,Lib.itoa]
theorem ZUD {d:ZbZ} (e:Zs5 d):wp (Zv6 d) (fun r=>ZKf r.1/\Zs5 r.2):=by
 unfold Zv6;rw[Zhr];refine Zjf (ZAf e (by omega)) fun⟨q,g⟩ ⟨f,b⟩=> ?_
 dsimp only at f b|-
 rw[ZoH];refine⟨fun _=> ?_,fun _=> ?_⟩
 ·grind[Zfa,ZLv]
 ·rw[Zhr];refine Zjf (ZJy b (by decide) (by decide)) fun⟨s,h⟩ ⟨c,a⟩=> ?_
  dsimp only at c a|-
  rw[Zfa];exact⟨ZHw (ZPN (by decide+kernel) c),a⟩
theorem ZP8 {d:ZbZ} (e:Zs5 d):wp (Zt8 d) (fun r=>ZKf r.1/\Zs5 r.2):=by
 unfold Zt8;rw[Zhr];refine Zjf (ZAf e (by omega)) fun⟨q,g⟩ ⟨f,b⟩=> ?_
 dsimp only at f b|-
 rw[ZoH];refine⟨fun _=> ?_,fun _=> ?_⟩
 ·grind[Zfa,ZLv]
 rw[ZoH];refine⟨fun _=> ?_,fun _=> ?_⟩
 ·rw[Zhr];refine Zjf (ZJy b (by decide) (by decide)) fun⟨s,h⟩ ⟨c,a⟩=> ?_
  dsimp only at c a|-
  rw[Zfa];exact⟨ZHw (ZPN (by decide+kernel) c),a⟩
 grind[Zhr,Zjf,ZAf,ZBE,ZhS,Zfa,ZiH,ZHw,ZXl]
theorem ZO6 {n:Int} (h:0<=n/\n < 14):(Lib.itoa n).length<=2:=by
 have a:((List.range 14).all fun i:Nat=>decide ((Lib.itoa (i:Int)).length<=2))=true:=by kernel_rfl
 have:=of_decide_eq_true (Z2l.1 a n.toNat (List.mem_range.2 (by omega)));grind
theorem ZQw {d:ZbZ} (hd:Zs5 d) (rows:Nat) (hr:rows<=14):
  wp (Zua d (rows:Int)) (fun r=>ZTo rows r.1/\Zs5 r.2):=by
 unfold Zua;rw[Zhr];refine Zjf (ZJy hd (by decide) (by decide)) fun⟨nm,d1⟩ ⟨hnm0,hd1⟩=> ?_
 dsimp only at hd1 hnm0|-
 have hnm:nm∈ZGO:=ZPN (by decide+kernel) hnm0;rw[Zhr];refine Zjf (ZAf hd1 (by omega)) fun⟨kind,d2⟩ ⟨_,hd2⟩=> ?_
 dsimp only at hd2|-
 rw[Zhr];refine Zjf (Ztf ZFH rows (by omega) (fun i (t:ZbZ×List G_api_Cell)=>(kind,(rows:Int),i,t.1,([]:Str),nm,([]:List G_api_Cell),t.2))
  (fun k t=>Zs5 t.1/\t.2.length=k/\∀c∈t.2,ZKf c) (Q:=fun x=>x.2.2.1=nm/\Zs5 x.1/\x.2.2.2.2.length=rows/\∀c∈x.2.2.2.2,ZKf c) (d2,[]) ⟨hd2,rfl,fun c hc=>absurd hc (by simp)⟩ ?_ ?_) ?_
 ·rintro rec k ⟨d,cs⟩ hk ⟨hd,hlen,hcs⟩ ih;dsimp only at hd hlen hcs ih;have next:∀(x:G_api_Cell) (d':ZbZ),ZKf x->Zs5 d'->wp (ZpB (fun kind t15 i d t4 c t4_1 c_1=>rec (kind,t15,i,d,t4,c,t4_1,c_1)) kind (rows:Int) (k:Int) d' [] nm x [] cs) (fun x=>x.2.2.1=nm/\Zs5 x.1/\x.2.2.2.2.length=rows/\∀c∈x.2.2.2.2,ZKf c):=by
   intro x d' hx hd';unfold ZpB;rw[ZhS,ZhS];refine⟨ZpO (by grind),ZiH (by omega),ih (d',cs++[x]) ⟨hd',by simp_all,fun c hc=> ?_⟩⟩;grind
  unfold Zxy Ztx;dsimp only;rw[decide_eq_true (show (k:Int) < (rows:Int) by omega),cond_true,Zhr];refine Zjf (ZUD hd) fun⟨x,d3⟩ ⟨hx,hd3⟩=> ?_
  dsimp only at hx hd3|-
  rw[ZoH];refine⟨fun _=> ?_,fun _=> ?_⟩
  ·grind[Zhr,Zjf,ZP8]
  rw[ZoH];refine⟨fun _=> ?_,fun _=> ?_⟩
  ·grind[ZBE,ZO6,ZhS,Zr,ZHw,k_d]
  rw[ZoH];refine⟨fun _=> ?_,fun _=> ?_⟩
  ·rw[Zhr];exact Zjf (ZJy hd3 (by decide) (by decide)) fun⟨s,d4⟩ ⟨hs,hd4⟩=>next _ d4 (ZHw (ZPN (by decide+kernel) hs)) hd4
  simp_all
 ·grind[Zxy,Ztx,decide_eq_false,Zfa]
 ·rintro⟨d,_,nm',_,cs⟩ ⟨h0,h1,h2,h3⟩;unfold Zzg;dsimp only at h0 h1 h2 h3|-
  subst h0;rw[Zfa];exact⟨⟨hnm,h2,h3⟩,h1⟩
end Go.Proofs
namespace Go.Proofs
open Go Eng
structure ZJU (t:G_api_Table):Prop where
 id:0<=t.ID/\t.ID<=1000
 name:t.Name∈ZGO
 cols:t.Columns.length<=3
 rows:∃n:Nat,n<=6/\∀c∈t.Columns,ZTo n c
theorem ZR8 {x:G_api_Cell} (h:ZKf x):ZJo x=true:=by
 unfold ZJo;rw[(ZK7 h.1).1,Z2k];cases hn:x.Null with
 |false=>rfl
 |true=>rw[h.2 hn];rfl
theorem ZPM {t:G_api_Table} (h:ZJU t):ZB0 t=true:=by
 obtain⟨n,m,f⟩:=h.rows;have d:=h.cols;have b:=h.id;unfold ZB0;have g:t.Columns≠[]->Zw8 t=(n:Int):=fun k=>by
  unfold Zw8;cases hcs:t.Columns with
  |nil=>simp_all
  |cons c l=>rw[<-(f c (by simp_all)).2.1]
 have i:0<=Zw8 t/\Zw8 t<=6:=by
  grind[Zw8]
 rw[decide_eq_true b.1,decide_eq_true (show t.ID<=1073741824 by omega),(ZK7 h.name).1,decide_eq_true (show (t.Columns.length:Int)<=64 by omega),decide_eq_true (show Zw8 t<=4096 by omega)];simp only[Bool.true_and,List.all_eq_true];intro c a;have e:=f c a;unfold ZRj;rw[(ZK7 e.1).1,g (List.ne_nil_of_mem a),e.2.1,Bool.true_and,beq_self_eq_true,Bool.true_and,List.all_eq_true];exact fun x j=>ZR8 (e.2.2 x j)
theorem ZOM {t:G_api_Table} (h:ZJU t):ZIv t:=by obtain⟨n,e,b⟩:=h.rows;refine⟨by have:=(ZK7 h.name).2;omega,fun c a=>⟨by have:=(ZK7 (b c a).1).2;omega,fun x d=>by have:=(ZK7 ((b c a).2.2 x d).1).2;omega⟩⟩
theorem ZKx {t:G_api_Table} (h:ZJU t):ZlB t=some true:=by have:=h.cols;grind[ZMn,ZOM,ZPM]
theorem ZRu {d:ZbZ} (D:Zs5 d) {id:Int} (f:0<=id/\id<=1000):wp (Zu0 d id) (fun r=>(ZJU r.1/\r.1.ID=id)/\Zs5 r.2):=by
 unfold Zu0;rw[Zhr];refine Zjf (ZJy D (by decide) (by decide)) ?_;rintro⟨v,E⟩ ⟨b,l⟩;dsimp only at b l|-
 have i:v∈ZGO:=ZPN (by decide+kernel) b;rw[Zhr];refine Zjf (ZAf l (n:=7) (by omega)) ?_;rintro⟨q,G⟩ ⟨A,g⟩;dsimp only at A g|-
 obtain⟨n,rfl⟩:∃n:Nat,q=(n:Int):=⟨q.toNat,by omega⟩;rw[Zhr];refine Zjf (ZAf g (n:=3) (by omega)) ?_;rintro⟨q,B⟩ ⟨p,j⟩;dsimp only at p j|-
 obtain⟨m,C⟩:∃m:Nat,1+q=(m:Int):=⟨(1+q).toNat,by omega⟩;rw[C,ZhS,Zhr];refine⟨ZiH (by omega),Zjf (ZuN ZGd (fun s:Nat×ZbZ×List G_api_Column=>((n:Int),(s.1:Int),s.2.1,(0:Int),([]:Str),id,v,([]:List G_api_Column),s.2.2))
  (fun s=>Zs5 s.2.1/\s.2.2.length+s.1=m/\∀c∈s.2.2,ZTo n c) (fun s=>s.1)
  (Q:=fun x=>∃d e,x=(d,(0:Int),([]:Str),id,v,([]:List G_api_Column),e)/\Zs5 d/\e.length<=3/\∀c∈e,ZTo n c) (m,B,[]) ⟨j,by simp,fun c h=>absurd h (by simp)⟩ (by omega) ?_) ?_⟩
 ·rintro z ⟨k,d,e⟩ ⟨o,t,u⟩ y;dsimp only at o t u y;unfold ZCO Zyn;dsimp only
  by_cases hk:0 < k
  ·rw[decide_eq_true (show (k:Int) > 0 by omega),cond_true,Zhr];refine Zjf (ZQw o n (by omega)) ?_;rintro⟨c,w⟩ ⟨h,a⟩;dsimp only at h a|-
   rw[ZhS,ZhS,show (k:Int) - 1=((k - 1:Nat):Int) by omega];refine⟨ZpO (by grind),ZiH (by omega),y (k - 1,w,e++[c]) ⟨a,by grind,fun x F=> ?_⟩ (by omega)⟩;grind
  grind[Zfa]
 ·rintro _ ⟨d,e,rfl,o,t,u⟩;unfold Zz6 ZvR;dsimp only;rw[Zhr];refine Zjf (ZAf o (n:=15) (by omega)) ?_;rintro⟨q,w⟩ ⟨_,a⟩;dsimp only at a|-
  rw[ZoH];refine⟨fun _=> ?_,fun _=> ?_⟩
  ·rw[Zfa];exact⟨⟨⟨f,i,by simp,0,by omega,fun c h=>absurd h (by simp)⟩,rfl⟩,a⟩
  ·rw[Zfa];exact⟨⟨⟨f,i,t,n,by omega,u⟩,rfl⟩,a⟩
theorem ZQu {t:G_api_Table} (h:ZJU t):ZtF t=some t:=by
 obtain⟨n,j,c⟩:=h.rows;have g:=h.cols;refine Zo1 ?_;unfold ZtF;rw[Zhr];refine Zjf (ZpP ZFB t.Columns (by omega) (fun i (a:List G_api_Column)=>(t.Columns,(t.Columns.length:Int),i,(0:Int),([]:Str),t.ID,t.Name,([]:List G_api_Column),a)) (fun k a=>a=t.Columns.take k)
 (Q:=fun x=>x=((0:Int),([]:Str),t.ID,t.Name,([]:List G_api_Column),t.Columns)) [] rfl ?_ ?_) ?_
 ·rintro d k a b rfl e;unfold Zxe Zti;dsimp only;have f:=c _ (Z2p b);rw[decide_eq_true (show (k:Int) < (t.Columns.length:Int) by omega),cond_true,ZoT b,Z2C,ZhS,ZhS,ZhS];refine⟨ZpO (by rw[f.2.1];omega),ZpO (by grind),ZiH (by omega),e _ (Z2z b).symm⟩
 all_goals simp_all[Zxe,Zti,Zfa,Zy2]
theorem ZOY {t:G_api_Table} (h:ZJU t) {l:List Int} (s:l.length<=3) (o:∀k∈l,0<=k/\k < (t.Columns.length:Int)):wp (ZuC t l) (fun r=>ZJU r.1/\r.1.ID=t.ID):=by
 obtain⟨n,q,f⟩:=h.rows;have d:=h.cols;unfold ZuC;rw[ZKx h,Option.bind_some,Bool.not_true,cond_false,Zhr];refine Zjf (ZpP ZEF l (by omega) (fun i (a:List G_api_Column)=>(l,l,(l.length:Int),i,t,(0:Int),([]:Str),t.ID,t.Name,([]:List G_api_Column),a)) (fun k a=>a.length=k/\∀c∈a,ZTo n c)
  (Q:=fun x=>∃a,x= .brk (l,(0:Int),([]:Str),t.ID,t.Name,([]:List G_api_Column),a)/\a.length<=3/\∀c∈a,ZTo n c) [] ⟨rfl,fun c f=>absurd f (by simp)⟩ ?_ ?_) ?_
 ·rintro m k a b ⟨j,g⟩ u;unfold Zvg ZrF ZsU;dsimp only;have p:=o _ (List.getElem_mem b);have e:(l[k]).toNat < t.Columns.length:=by omega
  rw[decide_eq_true (show (k:Int) < (l.length:Int) by omega),cond_true,ZoT b,Option.bind_some,decide_eq_false (show ¬l[k] < 0 by omega),cond_false,decide_eq_false (show ¬l[k]>=(t.Columns.length:Int) by omega),cond_false,Zin p.1 e,Option.bind_some,ZhS,ZhS];grind[ZpO,List.length_singleton,ZiH]
 ·grind[Zvg,ZrF,Zfa]
 ·rintro _ ⟨a,rfl,j,g⟩;dsimp only;unfold ZwM;rw[decide_eq_false (show ¬(l.length:Int) > 64 by omega),cond_false,Zfa];exact⟨⟨h.id,h.name,j,n,q,g⟩,rfl⟩
theorem ZPT {t:G_api_Table} (h:ZJU t) {l:List Int} (J:l.length<=6) (H:∀k∈l,0<=k/\k < Zw8 t):wp (ZvD t l) (fun r=>ZJU r.1/\r.1.ID=t.ID):=by
 obtain⟨n,N,f⟩:=h.rows;have u:=h.cols;unfold ZvD;rw[ZKx h,Option.bind_some,Bool.not_true,cond_false,Zhr];refine Zjf (ZpP ZEV l (by omega) (fun i (_:Unit)=>(l,l,(l.length:Int),i,t,(0:Int),([]:Str),([]:List G_api_Column))) (fun _ _=>True)
  (Q:=fun x=>x= .brk (l,t,(0:Int),([]:Str),([]:List G_api_Column))) () trivial ?_ ?_) ?_
 ·rintro q k _ m _ A;unfold Zv4 Zsd Ztu;dsimp only;have L:=H _ (List.getElem_mem m);rw[decide_eq_true (show (k:Int) < (l.length:Int) by omega),cond_true,ZoT m,Option.bind_some,decide_eq_false (show ¬l[k] < 0 by omega),cond_false,ZLL,Option.bind_some,decide_eq_false (show ¬l[k]>=Zw8 t by omega),cond_false,ZhS];exact⟨ZiH (by omega),A () trivial⟩
 ·grind[Zv4,Zsd,Zfa]
 ·rintro _ rfl;dsimp only;unfold Zxr;rw[decide_eq_false (show ¬(l.length:Int) > 4096 by omega),cond_false,Zhr];have v:∀c∈t.Columns,∀k∈l,∃g:k.toNat < c.Cells.length,0<=k:=fun c e k w=>by
   have:=H k w;have M:Zw8 t=(n:Int):=by
    unfold Zw8;cases hcs:t.Columns with
    |nil=>simp_all
    |cons c l=>rw[<-(f c (by simp_all)).2.1]
   have s:=(f c e).2.1;simp_all
  refine Zjf (ZpP ZEU t.Columns (by omega) (fun i (a:List G_api_Column)=>(l,t.Columns,(t.Columns.length:Int),i,(0:Int),([]:Str),t.ID,t.Name,([]:List G_api_Column),a)) (fun k a=>a.length=k/\∀c∈a,ZTo l.length c)
   (Q:=fun x=>∃a,x=((0:Int),([]:Str),t.ID,t.Name,([]:List G_api_Column),a)/\a.length<=3/\∀c∈a,ZTo l.length c) [] ⟨rfl,fun c f=>absurd f (by simp)⟩ ?_ ?_) ?_
  ·rintro q i a I ⟨B,s⟩ A;unfold Zv3 Zsc;dsimp only;obtain⟨c,b⟩:∃c,c=t.Columns[i]:=⟨_,rfl⟩;have e:c∈t.Columns:=b▸List.getElem_mem I;have F:=f c e;rw[decide_eq_true (show (i:Int) < (t.Columns.length:Int) by omega),cond_true,ZoT I,Option.bind_some,<-b,Zhr];refine Zjf (ZpP ZET l (by omega) (fun j (d:List G_api_Cell)=>(l,t.Columns,(t.Columns.length:Int),(i:Int),l,(l.length:Int),j,(0:Int),([]:Str),t.ID,t.Name,c,c.Name,([]:List G_api_Column),a,d)) (fun k d=>d.length=k/\∀x∈d,ZKf x)
    (Q:=fun y=>∃d,y=(l,t.Columns,(t.Columns.length:Int),(i:Int),(0:Int),([]:Str),t.ID,t.Name,c.Name,([]:List G_api_Column),a,d)/\d.length=l.length/\∀x∈d,ZKf x) [] ⟨rfl,fun c f=>absurd f (by simp)⟩ ?_ ?_) ?_
   ·rintro G j d C ⟨E,D⟩ z;unfold Zv2 Zsb;dsimp only;obtain⟨g,K⟩:=v c e _ (List.getElem_mem C);rw[decide_eq_true (show (j:Int) < (l.length:Int) by omega),cond_true,ZoT C,Option.bind_some,Zin K g,Option.bind_some,ZhS,ZhS];refine⟨ZpO (by grind),ZiH (by omega),z _ ⟨by simp_all,fun x o=> ?_⟩⟩;rcases List.mem_append.1 o with o |o
    ·simp_all
    ·rw[List.mem_singleton.1 o];exact F.2.2 _ (List.getElem_mem _)
   ·grind[Zv2,Zsb,Zfa]
   ·rintro _ ⟨d,rfl,E,D⟩;unfold Zxq;dsimp only;rw[ZhS,ZhS];refine⟨ZpO (by grind),ZiH (by omega),A _ ⟨by simp_all,fun y p=> ?_⟩⟩;rcases List.mem_append.1 p with p |p
    ·simp_all
    ·rw[List.mem_singleton.1 p];exact⟨F.1,E,D⟩
  ·grind[Zv3,Zsc,Zfa]
  ·rintro _ ⟨a,rfl,B,s⟩;dsimp only;unfold Zxp;rw[Zfa];exact⟨⟨h.id,h.name,B,l.length,J,s⟩,rfl⟩
end Go.Proofs
