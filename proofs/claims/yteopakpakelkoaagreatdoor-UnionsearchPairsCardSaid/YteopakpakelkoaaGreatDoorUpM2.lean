/- Plain laws over the specs, part 2. -/
import Derived.Test.YteopakpakelkoaaGreatDoorUpM1
import Derived.Test.YteopakpakelkoaaGreatDoorUpM0
set_option linter.all false
open Bool renaming not_true->Z0u, true_and->Z0v, and_eq_true->ZVx, false_and->Z0t
open List renaming all_eq_true->Z0w, dropWhile_cons->Z0x, getElem_mem->Z0A, length_cons->Z0D, take_succ_eq_append_getElem->Z0K, takeWhile_append_dropWhile->Z0I, length_append->Z0C, length_singleton->Z0G, isEmpty_cons->Z0B, take_left'->Z0J, length_take->Z0H, length_map->Z0F, dropWhile_sublist->Z0y, length_filter_le->Z0E, drop_eq_getElem_cons->Z0z
open Nat renaming le_trans->Z0L, lt_or_ge->Z0M
open Option renaming bind_some->Z0N
namespace Go.Proofs
open Go Eng
theorem ZKk (a b:Rat):Rat.divInt (a.num*(b.den:Int)+ -(b.num*(a.den:Int))) ((a.den:Int)*(b.den:Int))=a - b:=by have:=ZGR a (-b);rw[show (-b).num= -b.num from rfl,show (-b).den=b.den from rfl,Int.neg_mul]at this;rw[this,Rat.sub_eq_add_neg]
theorem Sz.sub {a b:Rat} {k l:Nat} (c:Sz k a) (d:Sz l b):Sz (k+l+1) (a - b):=by rw[Rat.sub_eq_add_neg];exact c.add d.neg
theorem ZSq {a b:Rat} {k l:Nat} (j:Sz k a) (p:Sz l b) (t:k+l+1<=8192):ZyE (fOf a) (fOf b)=some (fOf (a - b),0):=by
 have D:=a.den_nz;have E:=b.den_nz;have c:=j.wq (by omega);have d:=p.wq (by omega);have w:∀{x y:Int},Wl 256 x->Wl 256 y->Wl 512 (x*y):=fun v A=>by unfold Wl;rw[Int.natAbs_mul];exact ZIh v A
 have m:∀{n:Nat} {x:Int},Wl n x->n<=50000->Wl 50000 x:=fun h B=>Z0L h B
 have o:=w c.1 d.2;have i:=w d.1 c.2;have e:Wl 512 (-(b.num*(a.den:Int))):=by unfold Wl;rw[Int.natAbs_neg];exact i
 have s:=w c.2 d.2;have C:Wl 513 (a.num*(b.den:Int)+ -(b.num*(a.den:Int))):=Z0L (Zwo (Int.natAbs_add_le _ _)) (ZKh o e);have z:(a.den:Int)*(b.den:Int)≠0:=Int.mul_ne_zero (by omega) (by omega);unfold ZyE ZvM;rw[ZEA a c,Z0N,Z0u,cond_false,ZEA b d,Z0N,Z0u,cond_false];show ((Zjm (bg a.num) (bg (b.den:Int))).bind fun q=>(Zjm (bg b.num) (bg (a.den:Int))).bind fun f=>(Zqe f).bind fun g=>(Zpr q g).bind fun u=>(Zjm (bg (a.den:Int)) (bg (b.den:Int))).bind _)=_;rw[ZAR _ _ (m c.1 (by omega)) (m d.2 (by omega)),Z0N,ZAR _ _ (m d.1 (by omega)) (m c.2 (by omega)),Z0N,ZJS _ (Z0L i (by decide)),Z0N,ZJq _ _ (m o (by omega)) (m e (by omega)),Z0N,ZAR _ _ (m c.2 (by omega)) (m d.2 (by omega)),Z0N];have r:Wq 256 (Rat.divInt (a.num*(b.den:Int)+ -(b.num*(a.den:Int))) ((a.den:Int)*(b.den:Int))):=by rw[ZKk];exact(j.sub p).wq t
 rw[ZIL _ _ z (m C (by omega)) (m s (by omega)) r,ZKk,Z0N]
theorem ZTe {a b:Rat} {k l:Nat} (e:b≠0) (g:Sz k a) (i:Sz l b) (p:k+l<=8192):ZyF (fOf a) (fOf b)=some (fOf (a / b),0):=by
 have z:=a.den_nz;have A:=b.den_nz;have f:b.num≠0:=fun h=>e (Rat.num_eq_zero.1 h)
 have c:=g.wq (by omega);have d:=i.wq (by omega);have w:∀{x y:Int},Wl 256 x->Wl 256 y->Wl 512 (x*y):=fun t o=>by unfold Wl;rw[Int.natAbs_mul];exact ZIh t o
 have m:∀{n:Nat} {x:Int},Wl n x->n<=50000->Wl 50000 x:=fun h s=>Z0L h s
 have j:=w c.1 d.2;have v:=w c.2 d.1;have u:(a.den:Int)*b.num≠0:=Int.mul_ne_zero (by omega) f;unfold ZyF ZvN;rw[ZEA a c,Z0N,Z0u,cond_false,ZEA b d,Z0N,Z0u,cond_false];show (bif (((bg b.num).Words.length:Int) == 0)then _ else (Zjm (bg a.num) (bg (b.den:Int))).bind fun q=>(Zjm (bg (a.den:Int)) (bg b.num)).bind _)=_;rw[ZGN f,cond_false,ZAR _ _ (m c.1 (by omega)) (m d.2 (by omega)),Z0N,ZAR _ _ (m c.2 (by omega)) (m d.1 (by omega)),Z0N];have r:Wq 256 (Rat.divInt (a.num*(b.den:Int)) ((a.den:Int)*b.num)):=by rw[ZHU];exact(Sz.div e g i).wq p
 rw[ZIL _ _ u (m j (by omega)) (m v (by omega)) r,ZHU,Z0N]
theorem ZJo {a b:Rat} {k l:Nat} (c:Sz k a) (d:Sz l b) (e:k+l+1<=8192):ZpX (fOf a) (fOf b)=some (fOf (a - b)):=by unfold ZpX;rw[ZSq c d e];rfl
theorem ZNw {a b:Rat} {k l:Nat} (c:b≠0) (d:Sz k a) (f:Sz l b) (e:k+l<=8192):ZuT (fOf a) (fOf b)=some (fOf (a / b)):=by unfold ZuT;rw[ZTe c d f e];rfl
def ZNA (x:Rat):Rat:=if x < 0 then 0 - x else x
theorem ZQ1 {a:Rat} {k:Nat} (b:Sz k a) (c:k+2<=8192):ZyA (fOf a)=some (fOf (ZNA a)):=by
 unfold ZyA ZNA;rw[ZEy,Z0N,ZJT (b.wq (by omega)) (ZFN.wq (by omega)),Z0N]
 by_cases h:a < 0
 ·rw[decide_eq_true h,cond_true,if_pos h,Z0N,ZJo ZFN b (by omega),Z0N]
 ·rw[decide_eq_false h,cond_false,if_neg h]
end Go.Proofs
namespace Go.Proofs
open Go Eng
theorem ZQW:∀x y:Str,Op.bytesLess x y=decide (x < y)
 |x,[]=>by
  have:¬x < []:=by simp
  rw[decide_eq_false this];cases x<;>rfl
 | [],b::y=>by
  have:([]:Str) < b::y:=by simp
  rw[decide_eq_true this];rfl
 |a::x,b::y=>by rw[Op.bytesLess,ZQW x y,Bool.eq_iff_iff];grind[List.cons_lt_cons_iff]
def Srt (l:List Str):Prop:=l.Pairwise (fun a b=>a<=b)/\l.Nodup
theorem ZKM (l:List Str):Srt (ZxF l):=⟨ZHN l,ZEg l⟩
theorem ZKl {l:List Str} (h:Srt l) {i j:Nat} (a:i < j) (b:j < l.length):l[i] < l[j]:=by
 have c:=List.pairwise_iff_getElem.1 h.1 i j (by omega) b a;have d:=List.pairwise_iff_getElem.1 h.2 i j (by omega) b a;grind
theorem ZSZ (x y:Str):ZCM x y=some (decide (x < y)):=by grind[ZCM,ZBZ,Zw2,ZQW]
theorem ZVH {i j:Nat} (h:i+j<=4611686018427387904):IntKind.wrap .i64 (shrK .u64 (IntKind.wrap .u64 ((i:Int)+(j:Int))) 1)=(((i+j) / 2:Nat):Int):=by rw[show (i:Int)+(j:Int)=((i+j:Nat):Int) by omega,Zpi (by omega),show (1:Int)=((1:Nat):Int)from rfl,ZGl 1 (by decide),wrap_i64 (by omega)]
theorem ZOJ {a:List Str} (n:Srt a) (A:a.length<=1000000000000) (t:Str):wp (Zqs a t) (fun r=>r.2=a.contains t):=by
 unfold Zqs;rw[ZhS];refine Zjf (ZxI ZBy (fun(s:Nat×Nat)=>(a,t,(a.length:Int),(s.1:Int),(s.2:Int)))
  (fun s=>(s.1<=s.2/\s.2<=a.length)/\(∀k (h:k < a.length),k < s.1->a[k] < t)/\(∀k (h:k < a.length),s.2<=k->¬a[k] < t)) (fun s=>s.2 - s.1)
  (Q:=fun x=>∃i:Nat,x=(a,t,(a.length:Int),(i:Int))/\i<=a.length/\(∀k (h:k < a.length),k < i->a[k] < t)/\(∀k (h:k < a.length),i<=k->¬a[k] < t)) (0,a.length) ⟨⟨Nat.zero_le _,Nat.le_refl _⟩,fun k _ h=>absurd h (Nat.not_lt_zero _),fun k h C=>absurd h (by omega)⟩ (by omega) ?_) ?_
 ·rintro z ⟨i,j⟩ ⟨⟨u,g⟩,b,c⟩ p;dsimp only at u g b c p|-
  unfold Zvp Zq2;dsimp only;rw[ZVH (by omega)];rw[Zoy];refine⟨fun h=> ?_,fun h=> ?_⟩
  ·simp only[decide_eq_true_eq]at h;have y:i < j:=by omega
   have m:(i+j) / 2 < a.length:=by omega
   rw[Zhr,Zhr];refine⟨ZiH (by omega),by decide, ?_⟩;rw[ZoM m,Option.bind_some,ZSZ,Option.bind_some,Zoy];refine⟨fun f=> ?_,fun f=> ?_⟩
   ·simp only[decide_eq_true_eq]at f;rw[Zhr];refine⟨ZiH (by omega), ?_⟩;have:=p ((i+j) / 2+1,j) ⟨⟨by omega,g⟩,fun k e q=> ?_,c⟩ (by omega)
    ·grind
    ·dsimp only at q;rcases Nat.lt_or_ge k ((i+j) / 2)with l |l
     ·exact List.lt_trans (ZKl n l m) f
     grind
   ·simp only[decide_eq_false_iff_not]at f;refine p (i,(i+j) / 2) ⟨⟨by omega,by omega⟩,b,fun k e o=> ?_⟩ (by omega);dsimp only at o;rcases Nat.lt_or_ge ((i+j) / 2) k with l |l
    ·exact fun w=>f (List.lt_trans (ZKl n l e) w)
    grind
  grind[Zfa]
 ·rintro x ⟨i,rfl,B,b,c⟩;dsimp only;unfold ZrL Zo0;have v:a.contains t=true<->∃h:i < a.length,a[i]=t:=by
   rw[List.contains_iff_mem];constructor
   ·intro m;obtain⟨k,e,d⟩:=List.getElem_of_mem m;have u:i<=k:=by
     rcases Nat.lt_or_ge k i with h |h
     ·have:=b k e h;rw[d]at this;exact absurd this (List.lt_irrefl t)
     ·exact h
    rcases Nat.lt_or_ge i k with h |h
    ·have g:=ZKl n h e;rw[d]at g;exact absurd g (c i (by omega) (Nat.le_refl _))
    ·obtain rfl:i=k:=by omega
     exact⟨e,d⟩
   ·rintro⟨h,rfl⟩;exact List.getElem_mem h
  grind[ZoM,Zfa,Zzg]
def ZId (a b:List Str):Nat:=(a.filter fun x=>b.contains x).length
theorem ZH8 (a b:List Str):ZId a b<=a.length:=Z0E _ _
theorem ZOG {a b:List Str} (g:Srt b) (f:a.length<=1000000000000) (c:b.length<=1000000000000):ZAD a b=some (ZId a b:Int):=by
 refine Zo1 ?_;unfold ZAD;rw[ZhS];refine Zjf (Zti ZGp a.length (by omega) (fun i (n:Nat)=>(b,(n:Int),a,(a.length:Int),i)) (fun i n=>n=ZId (a.take i) b)
  (Q:=fun x=>x=(ZId a b:Int)) 0 (by simp[ZId]) ?_ ?_) ?_
 ·rintro e i n d rfl j;unfold ZAj Zwj;dsimp only;rw[decide_eq_true (show (i:Int) < (a.length:Int) by omega),cond_true,ZoM d,Option.bind_some,ZhS];refine Zjf (ZOJ g c _) fun⟨q,ok⟩ hok=> ?_
  dsimp only at hok|-
  have k:ZId (a.take (i+1)) b=ZId (a.take i) b+(if b.contains a[i]then 1 else 0):=by unfold ZId;rw[List.take_succ_eq_append_getElem d,List.filter_append,List.length_append];congr 1;cases h:b.contains a[i]<;>(simp only[List.filter_cons,h,List.filter_nil];rfl)
  grind[ZiH,ZyJ,Zhr,ZId]
 all_goals grind[ZAj,Zwj,Zfa,ZBz]
end Go.Proofs
namespace Go.Proofs
open Go Eng
theorem ZJw {d g X:Type} {f:Nat->d->Option X} {body:(d->Option X)->d->Option X} (q:∀n s,f (n+1) s=body (f n) s)
  (i:g->d) (P:g->Prop) (m:g->Nat) {Q:X->Prop} (e:g) (o:P e) (u:m e<=9223372036854775808)
  (b:∀(a:d->Option X) t,P t->(∀c,P c->m c < m t->wp (a (i c)) Q)->wp (body a (i t)) Q):wp (f big (i e)) Q:=by
 have j:∀(n:Nat) t,P t->m t < n->wp (f n (i t)) Q:=by
  intro n
  induction n with
  |zero=>intro t _ h;omega
  |succ n k=>
   intro t l u;rw[q];exact b _ t l fun c p r=>k c p (by omega)
 exact j big e o (by rw[big_eq];omega)
def isD (b:UInt8):Bool:=decide (48<=b.toNat)&&decide (b.toNat<=57)
def ZMj:Str->Bool×Str
 | []=>(false,[])
 |b::r=>bif b == 45 then (true,r)else bif b == 43 then (false,r)else (false,b::r)
def okD (s:Str) (m:Nat):Bool:=decide (1<=s.length)&&decide (s.length<=m)&&s.all isD
def ZGb (body:Str):Option (Str×Str):=
 bif decide (1<=(body.takeWhile isD).length)&&decide ((body.takeWhile isD).length<=15)then
  (match body.dropWhile isD with
  | []=>some (body.takeWhile isD,[])
  |c::p=>bif c == 46&&okD p 9 then some (body.takeWhile isD,p)else none)
 else none
def ZHx (t:Str):Option (Bool×Str×Str):=(ZGb (ZMj t).2).map fun x=>((ZMj t).1,x.1,x.2)
def n46 (b:UInt8):Bool:=b != 46
theorem ZJm {p:UInt8->Bool}:∀(F R:Str),F.all p=true->(∀b r,R=b::r->p b=false)->(F++R).takeWhile p=F/\(F++R).dropWhile p=R
 | [],[],_,_=>⟨rfl,rfl⟩
 | [],b::r,_,h=>by simp_all
 |x::F,R,h,a=>by rw[List.all_cons,ZVx]at h;obtain⟨d,c⟩:=ZJm F R h.2 a;simp_all
theorem ZU7 (p:UInt8->Bool):∀l:Str,(l.takeWhile p).all p=true
 | []=>rfl
 |x::l=>by
  simp_all
theorem ZKZ (p:UInt8->Bool):∀(l:Str) b r,l.dropWhile p=b::r->p b=false
 | [],b,r,h=>by simp at h
 |x::l,b,r,h=>by
  rw[List.dropWhile_cons]at h;cases hx:p x with
  |true=>rw[hx,if_pos rfl]at h;exact ZKZ p l b r h
  |false=>simp_all
theorem ZS4 {b:UInt8} (h:isD b=true):n46 b=true:=by unfold n46;rw[bne_iff_ne];rintro rfl;exact absurd h (by decide)
theorem ZTs {l:Str} (h:l.all isD=true):l.all n46=true:=Z0w.2 fun b a=>ZS4 (Z0w.1 h b a)
theorem ZLH {b:UInt8} (h:n46 b=false):b=46:=by grind[n46]
theorem ZIp (body:Str):ZGb body=bif okD (body.takeWhile n46) 15&&((body.dropWhile n46).isEmpty||okD (body.dropWhile n46).tail 9)then some (body.takeWhile n46,(body.dropWhile n46).tail)else none:=by
 have a:body.takeWhile n46++body.dropWhile n46=body:=Z0I;cases hall:(body.takeWhile n46).all isD with
 |true=>
 have c:=ZJm (p:=isD) (body.takeWhile n46) (body.dropWhile n46) hall (fun b r e=>by rw[ZLH (ZKZ n46 body b r e)];decide);grind[ZGb,okD,ZLH,ZKZ]
 |false=>
 have e:okD (body.takeWhile n46) 15=false:=by grind[okD]
 grind[Z0I,ZU7,ZGb,ZJm,n46,ZTs]
def ZH6 (l:Str):Nat:=l.foldl (fun n b=>10*n+(b.toNat - 48)) 0
theorem ZLF (l:Str) (b:UInt8):ZH6 (l++[b])=10*ZH6 l+(b.toNat - 48):=by grind[ZH6]
theorem ZSQ {l:Str} (h:l.all isD=true):ZH6 l < 10 ^ l.length:=by
 have a:∀(l:Str) (n k:Nat),l.all isD=true->n < 10 ^ k->l.foldl (fun n b=>10*n+(b.toNat - 48)) n < 10 ^ (k+l.length):=by
  intro l
  induction l with
  |nil=>simp_all
  |cons b l e=>
   intro n k c f;rw[List.all_cons,Bool.and_eq_true]at c;have d:=c.1;unfold isD at d;simp only[Bool.and_eq_true,decide_eq_true_eq]at d;have:=e (10*n+(b.toNat - 48)) (k+1) c.2 (by omega);grind
 have:=a l 0 0 h (by decide)
 rwa [Nat.zero_add]at this
def ZWd (x:Bool×Str×Str):Rat:=Rat.divInt (if x.1 then -((ZH6 (x.2.1++x.2.2):Nat):Int)else ((ZH6 (x.2.1++x.2.2):Nat):Int)) ((10 ^ x.2.2.length:Nat):Int)
structure ZK6 (D P:Str):Prop where
 d1:1<=D.length
 d2:D.length<=15
 p:P.length<=9
 dd:D.all isD=true
 pp:P.all isD=true
theorem ZFY {body D P:Str} (h:ZGb body=some (D,P)):ZK6 D P:=by
 rw[ZIp]at h;cases hc:(okD (body.takeWhile n46) 15&&((body.dropWhile n46).isEmpty||okD (body.dropWhile n46).tail 9))with
 |false=>simp_all
 |true=>
 rw[hc,cond_true]at h;simp only[Option.some.injEq,Prod.mk.injEq]at h;obtain⟨rfl,rfl⟩:=h;rw[ZVx]at hc;obtain⟨a,b⟩:=hc;unfold okD at a;simp only[ZVx,decide_eq_true_eq]at a;cases hR:body.dropWhile n46 with
 |nil=>exact⟨a.1.1,a.1.2,by simp,a.2,by simp⟩
 |cons c p=>
  rw[hR]at b;simp only[Z0B,Bool.false_or,List.tail_cons]at b|-
  unfold okD at b;simp only[ZVx,decide_eq_true_eq]at b;exact⟨a.1.1,a.1.2,b.1.2,a.2,b.2⟩
theorem ZIo {k:Nat} (h:k<=24):10 ^ k < 2 ^ 80:=Nat.lt_of_le_of_lt (Nat.pow_le_pow_right (by decide) h) (by decide)
theorem ZIt {l:Str} (h:l.all isD=true) (a:l.length<=24):ZH6 l < 2 ^ 80:=Nat.lt_trans (ZSQ h) (ZIo a)
theorem ZSe {n:Nat} (h:n < 2 ^ 80):(wd n).length<=3:=ZJv h 3 (by decide)
end Go.Proofs
namespace Go.Proofs
open Go Eng
theorem ZI6 (s:Str) (c:UInt8):ZpV s [c]=some (match s with |b::_=>b == c | []=>false):=by
 unfold ZpV Zqt;cases s with
 |nil=>rfl
 |cons b r=>
 rw[decide_eq_true (show ((b::r).length:Int)>=(([c]:Str).length:Int) by grind),cond_true,Zpj (by grind),chk_true];simp
theorem ZLN (s:Str) (c:UInt8):ZAC s [c]=some (match s with |b::r=>bif b == c then (r,true)else (b::r,false) | []=>([],false)):=by
 unfold ZAC Zuu;rw[ZI6];cases s with
 |nil=>rfl
 |cons b r=>
 rw[Z0N];dsimp only;cases hb:b == c with
 |false=>rfl
 |true=>
  rw[Z0u,cond_false,Zpj (by grind),chk_true];rfl
theorem ZKJ (s:Str) (c:UInt8):Zz2 s [c]=some (match s with |b::r=>bif b == c then r else b::r | []=>[]):=by
 unfold Zz2 Zuh;rw[ZI6];cases s with
 |nil=>rfl
 |cons b r=>
 rw[Z0N];dsimp only;cases hb:b == c with
 |false=>rfl
 |true=>
  rw[cond_true,Zpj (by grind),chk_true];rfl
theorem ZO9:∀s:Str,Lib.indexByte s 46=if s.dropWhile n46=[]then -1 else ((s.takeWhile n46).length:Int)
 | []=>rfl
 |b::s=>by
  rw[Lib.indexByte,ZO9 s,List.dropWhile_cons,List.takeWhile_cons];grind[n46]
theorem ZkE {s:Str} (g:s.length<=9223372036854775807):ZDM s [46]=some (s.takeWhile n46,(s.dropWhile n46).tail, !(s.dropWhile n46).isEmpty):=by
 have b:s.takeWhile n46++s.dropWhile n46=s:=List.takeWhile_append_dropWhile;have a:ZtC s [46]=some (Lib.indexByte s 46):=by
  unfold ZtC ZrM Zrb;rw[show ((([46]:Str).length:Int) == 0)=false from rfl,cond_false]
  by_cases h:([46]:Str)=s
  ·subst h;rfl
  ·rw[show (([46]:Str) == s)=false by simp_all,cond_false];rfl
 unfold ZDM Zy5;rw[a,Option.bind_some,ZO9];cases hR:s.dropWhile n46 with
 |nil=>
  simp_all
 |cons c p=>
  have d:(s.takeWhile n46).length+(p.length+1)=s.length:=by grind
  rw[if_neg (by simp),decide_eq_true (show ((s.takeWhile n46).length:Int)>=0 by omega),cond_true,Zpj (by omega),ZiH (by grind),Zpj (by grind)];simp only[chk_true,Option.bind_some];have f:s.take ((((s.takeWhile n46).length:Nat):Int)).toNat=s.takeWhile n46:=by
   grind[List.take_left']
  have e:s.drop ((((s.takeWhile n46).length:Nat):Int)+(([46]:Str).length:Int)).toNat=p:=by
   rw[show ((((s.takeWhile n46).length:Nat):Int)+(([46]:Str).length:Int)).toNat=(s.takeWhile n46).length+1 by simp_all]
   conv=>lhs;rw[<-b,hR]
   rw[show (s.takeWhile n46++c::p).takeWhile n46=s.takeWhile n46 by simp_all];rw[<-List.drop_drop,List.drop_left' rfl];rfl
  simp_all
theorem dset:((List.range 256).all fun n=>([48,49,50,51,52,53,54,55,56,57]:Str).contains n.toUInt8 == isD n.toUInt8)=true:=by decide+kernel
theorem ZTd (b:UInt8):([48,49,50,51,52,53,54,55,56,57]:Str).contains b=isD b:=by have:=Z0w.1 dset b.toNat (List.mem_range.2 b.toNat_lt);simp_all
theorem ZCQ {p:UInt8->Bool}:∀l:Str,l.dropWhile p=[]<->l.all p=true
 | []=>by simp
 |b::l=>by
  rw[Z0x,List.all_cons];cases h:p b with
  |true=>rw[if_pos rfl,Z0v];exact ZCQ l
  |false=>simp
theorem ZQj (s a:Str):(Lib.trimS s a == [])=s.all (a.contains ·):=by
 rw[Bool.eq_iff_iff,beq_iff_eq];unfold Lib.trimS Lib.trimLeftS Lib.trimRightS;rw[ZCQ];constructor
 ·intro h;have c:(s.reverse.dropWhile (a.contains ·)).all (a.contains ·)=true:=by simp_all
  have d:s.reverse.dropWhile (a.contains ·)=[]:=by
   cases he:s.reverse.dropWhile (a.contains ·)with
   |nil=>rfl
   |cons b r=>
    grind[ZKZ]
  grind[ZCQ]
 grind[ZCQ]
theorem ZLM (s:Str) (m:Nat):ZAo s (m:Int)=some (okD s m):=by
 unfold ZAo Zw1 okD ZDf
 by_cases h1:1<=s.length
 ·rw[decide_eq_true (show (s.length:Int)>=1 by omega),cond_true,decide_eq_true h1]
  by_cases h2:s.length<=m
  ·rw[decide_eq_true (show (s.length:Int)<=(m:Int) by omega),cond_true,decide_eq_true h2];rw[show (([48,49,50,51,52,53,54,55,56,57]:Str).all fun b=>decide (b.toNat < 128))=true from by decide,chk_true,show decide (([48,49,50,51,52,53,54,55,56,57]:Str).length < 4294967281)=true from by decide,chk_true,Option.bind_some,ZQj];grind[ZTd]
  grind
 simp_all
def zf:ZbF:=ZbF.mk (Zgo.mk false []) (Zgo.mk false [])
theorem ZU8:([10]:List Int)=iL (wd 10):=by kernel_rfl
theorem ZSO:([1]:List Int)=iL (wd 1):=by kernel_rfl
theorem ZSU:([]:List Int)=iL (wd 0):=by kernel_rfl
theorem ZN5 {b:UInt8} (h:isD b=true):IntKind.wrap .u64 (IntKind.wrap .u8 (((b.toNat:Nat):Int) - 48))=((b.toNat - 48:Nat):Int):=by grind[isD,wrap_u8,wrap_u64]
theorem ZRD {a:Bool} {D P:Str} (h:ZK6 D P):Ztg a D P false false false [] []=some (fOf (ZWd (a,D,P)),true):=by
 have v:=h.d2;have w:=h.p;have c:(D++P).all isD=true:=by rw[List.all_append,h.dd,h.pp];rfl
 have e:(D++P).length<=24:=by grind
 refine Zo1 ?_;unfold Ztg;rw[cond_false,ZSO,ZNy _ (by grind[ZSe]),Option.bind_some,Zhr,Zhr,ZhS,ZU8,ZSU];refine⟨decide_eq_true (by grind[Zr]),decide_eq_true (by omega), ?_⟩;refine Zjf (Zti ZGB (D++P).length (by omega) (fun i (n:Nat)=>(a,P,iL (wd n),iL (wd 10),(((D++P).map fun b:UInt8=>((b.toNat:Nat):Int)).length:Int),i,false,false,iL (wd 1),(D++P).map (fun b:UInt8=>((b.toNat:Nat):Int)),iL (wd 0),iL (wd 0))) (fun i n=>n=ZH6 ((D++P).take i))
  (Q:=fun x=>x=(a,P,iL (wd (ZH6 (D++P))),iL (wd 10),false,false,iL (wd 1),iL (wd 0),iL (wd 0))) 0 (by rfl) ?_ ?_) ?_
 ·rintro s i n q rfl z;unfold ZAL Zxy;dsimp only;have j:isD (D++P)[i]=true:=List.all_eq_true.1 c _ (List.getElem_mem q);have t:ZH6 ((D++P).take i) < 2 ^ 80:=ZIt (List.all_eq_true.2 fun b j=>List.all_eq_true.1 c b (List.mem_of_mem_take j)) (by grind);have p:ZH6 ((D++P).take (i+1))=ZH6 ((D++P).take i)*10+((D++P)[i].toNat - 48):=by grind[List.take_succ_eq_append_getElem,ZLF]
  have d:i < ((D++P).map fun b:UInt8=>((b.toNat:Nat):Int)).length:=by grind
  have g:=j;unfold isD at g;simp only[Bool.and_eq_true,decide_eq_true_eq]at g;have u:=ZSe t;have r:=ZSe (n:=10) (by decide);have o:(wd (ZH6 ((D++P).take i)*10)).length<=100:=ZJv (k:=84) (by omega) 100 (by decide);have y:=ZSe (n:=(D++P)[i].toNat - 48) (by omega);rw[decide_eq_true (show (i:Int) < (((D++P).map fun b:UInt8=>((b.toNat:Nat):Int)).length:Int) by omega),cond_true,ZFh d,chk_true,Int.toNat_natCast,List.getElem?_eq_getElem d,Option.bind_some,List.getElem_map,ZKK _ _ (by omega) (by omega),Option.bind_some,ZN5 j,ZIQ _ (by omega),Option.bind_some,
   ZOU _ _ (by omega) (by omega),Option.bind_some,Zhr]
  grind[ZiH]
 ·grind[ZAL,Zxy,Zfa]
 ·rintro x rfl;dsimp only;unfold ZCx;rw[ZhS];refine Zjf (Zti ZGA P.length (by omega) (fun i (k:Nat)=>(a,iL (wd (ZH6 (D++P))),iL (wd 10),iL (wd (10 ^ k)),(P.length:Int),i,false,false,iL (wd 0),iL (wd 0))) (fun i k=>k=i)
   (Q:=fun x=>x=(a,iL (wd (ZH6 (D++P))),iL (wd (10 ^ P.length)),false,false,iL (wd 0),iL (wd 0))) 0 (by rfl) ?_ ?_) ?_
  ·grind[ZAK,Zxx,ZSe,ZIo,ZKK,Zhr,ZiH]
  ·grind[ZAK,Zxx,Zfa]
  ·rintro x rfl;dsimp only;unfold ZCw;have f:=ZIt c e;have l:=ZIo (show P.length<=24 by omega);have u:=ZSe f;have o:=ZSe l;rw[ZAS _ _ (by omega),Option.bind_some,ZAS _ _ (by omega),Option.bind_some];have m:((10 ^ P.length:Nat):Int)≠0:=by grind
   have:=ZGH (if a=true then -((ZH6 (D++P):Nat):Int)else ((ZH6 (D++P):Nat):Int)) ((10 ^ P.length:Nat):Int) m (by
    grind) (by grind)
   simp only[Bool.false_eq_true,if_false];rw[this,Option.bind_some,Zfa];rfl
theorem ZKw {t:Str} (e:t.length<=9223372036854775807):Zwn t=some (match ZHx t with |some x=>(fOf (ZWd x),true) |none=>(zf,false)):=by
 have c:∀(body:Str) (b:Bool),body.length<=9223372036854775807->Zv9 body b false false [] []=some (match (ZGb body).map fun x=>(b,x.1,x.2)with |some x=>(fOf (ZWd x),true) |none=>(zf,false)):=by
  intro body b d;unfold Zv9;rw[ZkE d,Option.bind_some];dsimp only;rw[show (15:Int)=((15:Nat):Int)from rfl,ZLM,Option.bind_some,show (9:Int)=((9:Nat):Int)from rfl];have a:=ZIp body;cases h1:okD (body.takeWhile n46) 15 with
  |false=>
   rw[h1,Bool.false_and,cond_false]at a;rw[a,Bool.not_false,cond_true];rfl
  |true=>
   rw[h1,Bool.true_and]at a;rw[Bool.not_true,cond_false];cases h2:(body.dropWhile n46).isEmpty with
   |true=>
    grind[ZRD,ZFY]
   |false=>
    rw[h2,Bool.false_or]at a;rw[Bool.not_false,cond_true,ZLM,Option.bind_some];cases h3:okD (body.dropWhile n46).tail 9 with
    |false=>
     rw[h3,cond_false]at a;rw[a];rfl
    |true=>
     grind[ZRD,ZFY]
 grind[Zwn,ZHx,ZMj,ZLN,ZKJ]
end Go.Proofs
namespace Go.Proofs
open Go Eng
theorem ZI1 (b k:UInt8):(((b.toNat:Nat):Int) == ((k.toNat:Nat):Int))=(b == k):=by
 grind[UInt8.toNat_inj]
theorem ZRz (b:UInt8):(decide (((b.toNat:Nat):Int)>=48)&&decide (((b.toNat:Nat):Int)<=57))=isD b:=by
 unfold isD;congr 1
 ·rw[decide_eq_decide];omega
 ·rw[decide_eq_decide];omega
theorem ZSl (p:UInt8->Bool) (l:Str):l.take (l.takeWhile p).length=l.takeWhile p:=by
 conv=>lhs;arg 2;rw[<-Z0I (p:=p) (l:=l)]
 rw[Z0J rfl]
theorem ZOC (p:UInt8->Bool) (l:Str):l.drop (l.takeWhile p).length=l.dropWhile p:=by
 conv=>lhs;arg 2;rw[<-Z0I (p:=p) (l:=l)]
 rw[List.drop_left' rfl]
theorem ZU6 {p:UInt8->Bool} {l:Str} {k:Nat} (h:∀j (d:j < l.length),j < k->p l[j]=true) (f:k<=l.length) (g:∀f:k < l.length,p l[k]=false):(l.takeWhile p).length=k:=by
 have c:=ZJm (p:=p) (l.take k) (l.drop k) (Z0w.2 fun b i=>by
  obtain⟨j,d,rfl⟩:=List.getElem_of_mem i;rw[Z0H]at d;rw[List.getElem_take];exact h j (by omega) (by omega)) (fun b r e=>by
  have a:k < l.length:=by have:=congrArg List.length e;rw[List.length_drop,Z0D]at this;omega
  rw[Z0z a]at e;simp only[List.cons.injEq]at e;rw[<-e.1];exact g a)
 rw[List.take_append_drop]at c;rw[c.1,Z0H];omega
theorem ZQy {a:Bool} {D p:Str} (o:p.length<=9):Zo6 a D p false=some (bif p.all isD then (a,D,p,true)else (false,[],[],false)):=by
 unfold Zo6;rw[cond_false];have g:wp (Zqd big a D p 0) (fun x=>x=bif p.all isD then .brk (a,D,p)else .ret (false,[],[],false)):=by
  refine Zpy ZER p (by omega) (fun i (_:Unit)=>(a,D,p,i)) (fun k _=>(p.take k).all isD=true) () (by simp) ?_ ?_
  ·rintro e k _ f c l;unfold ZwM ZsS Zt7;dsimp only;rw[decide_eq_true (show (k:Int) < (p.length:Int) by omega),cond_true,ZoM f,Z0N];have n:(p.take (k+1)).all isD=isD p[k]:=by rw[Z0K f,List.all_append,c];simp
   have b:isD p[k]=false->p.all isD=false:=fun h=>by rw[Bool.eq_false_iff];intro d;rw[Z0w.1 d _ (Z0A f)]at h;cases h
   have j:=ZRz p[k]
   by_cases h1:((p[k].toNat:Nat):Int) < 48
   ·rw[decide_eq_true h1,cond_true,cond_true,Zfa,b (by rw[<-j,decide_eq_false (by omega)];rfl),cond_false]
   ·rw[decide_eq_false h1,cond_false,Z0N]
    by_cases d:((p[k].toNat:Nat):Int) > 57
    ·rw[decide_eq_true d,cond_true,Zfa,b (by rw[<-j,decide_eq_true (by omega),decide_eq_false (by omega)];rfl),cond_false]
    ·rw[decide_eq_false d,cond_false,Zhr];exact⟨ZiH (by omega),l () (by rw[n,<-j,decide_eq_true (by omega),decide_eq_true (by omega)];rfl)⟩
  ·rintro e _ c;unfold ZwM ZsS;dsimp only;rw[List.take_length]at c;rw[decide_eq_false (show ¬(p.length:Int) < (p.length:Int) by omega),cond_false,Zfa,c,cond_true]
 obtain⟨x,m,rfl⟩:=g;rw[m,Z0N];cases p.all isD<;>rfl
theorem ZQz {s:Str} (a:Bool) (B:s.length<=9223372036854775807):Zpg s a=some (match ZGb s with |some x=>(a,x.1,x.2,true) |none=>(false,[],[],false)):=by
 refine Zo1 ?_;unfold Zpg;rw[ZhS];refine Zjf (ZJw ZES (fun(k:Nat)=>(s,a,(k:Int))) (fun k=>k<=s.length/\∀j (t:j < s.length),j < k->isD s[j]=true) (fun k=>s.length - k)
  (Q:=fun x=>x=(s,a,(((s.takeWhile isD).length:Nat):Int))) 0 ⟨Nat.zero_le _,fun j _ h=>absurd h (Nat.not_lt_zero _)⟩ (by omega) ?_) ?_
 ·rintro o k ⟨w,r⟩ z;unfold ZBb ZwN Zrm;dsimp only;have b:(∀h:k < s.length,isD s[k]=false)->wp (some (s,a,(k:Int))) (fun x=>x=(s,a,(((s.takeWhile isD).length:Nat):Int))):=fun h=>by rw[Zfa,ZU6 r w h]
  rw[Zoy];refine⟨fun h=> ?_,fun h=> ?_⟩
  ·simp only[decide_eq_true_eq]at h;have d:k < s.length:=by omega
   have q:=ZRz s[k];rw[ZoM d,Z0N];have u:isD s[k]=true->wp (chk (inK .i64 ((k:Int)+1)) <| o (s,a,(k:Int)+1)) (fun x=>x=(s,a,(((s.takeWhile isD).length:Nat):Int))):=fun l=>by
    rw[Zhr];refine⟨ZiH (by omega),z (k+1) ⟨by omega,fun j t v=> ?_⟩ (by omega)⟩;rcases Z0M j k with f |f
    ·exact r j t f
    ·obtain rfl:j=k:=by omega
     exact l
   cases f:decide (((s[k].toNat:Nat):Int)>=48)with
   |false=>
    rw[cond_false,cond_false];exact b fun _=>by rw[<-q,f];rfl
   |true=>
    rw[cond_true,Z0N];cases h2:decide (((s[k].toNat:Nat):Int)<=57)with
    |false=>
     rw[cond_false];exact b fun _=>by rw[<-q,f,h2];rfl
    |true=>
     rw[cond_true];exact u (by rw[<-q,f,h2];rfl)
  ·simp only[decide_eq_false_iff_not]at h;rw[cond_false];exact b fun A=>absurd A (by omega)
 ·rintro x rfl;dsimp only;unfold Zyc Zt8;have y:(s.takeWhile isD).length<=s.length:=(List.takeWhile_sublist _).length_le;have g:(s.takeWhile isD).length+(s.dropWhile isD).length=s.length:=by rw[<-Z0C,Z0I]
  rw[Zhr,Int.toNat_natCast,ZSl];refine⟨Zpj (by omega), ?_⟩;unfold ZGb
  by_cases f:1<=(s.takeWhile isD).length
  ·rw[decide_eq_false (show ¬(((s.takeWhile isD).length:Nat):Int) < 1 by omega),cond_false,decide_eq_true f,Z0v]
   by_cases h2:(s.takeWhile isD).length<=15
   ·rw[decide_eq_false (show ¬(((s.takeWhile isD).length:Nat):Int) > 15 by omega),cond_false,decide_eq_true h2,cond_true];cases hR:s.dropWhile isD with
    |nil=>
     rw[hR]at g;simp only[List.length_nil]at g;rw[show ((((s.takeWhile isD).length:Nat):Int) == (s.length:Int))=true by rw[beq_iff_eq];omega,cond_true,Zfa]
    |cons c p=>
     rw[hR]at g;simp only[Z0D]at g;have d:(s.takeWhile isD).length < s.length:=by omega
     have n:s[(s.takeWhile isD).length]=c:=by have e:=ZOC isD s;rw[Z0z d,hR]at e;simp only[List.cons.injEq]at e;exact e.1
     have m:s.drop ((((s.takeWhile isD).length:Nat):Int)+1).toNat=p:=by rw[show ((((s.takeWhile isD).length:Nat):Int)+1).toNat=(s.takeWhile isD).length+1 by omega];have e:=ZOC isD s;rw[Z0z d,hR]at e;simp only[List.cons.injEq]at e;exact e.2
     rw[show ((((s.takeWhile isD).length:Nat):Int) == (s.length:Int))=false by rw[beq_eq_false_iff_ne];omega,cond_false,Zhr,Zhr,ZoM d,Z0N,n,m];refine⟨ZiH (by omega),Zpj (by omega), ?_⟩;dsimp only;have i:(((c.toNat:Nat):Int) != 46)= !(c == 46):=by rw[<-ZI1 c 46];rfl
     rw[i];cases hc:c == 46 with
     |false=>
      rw[Bool.not_false,cond_true,Z0t,cond_false];unfold Zo6;rw[cond_true,Zfa]
     |true=>
      rw[Z0u,cond_false,Z0v];unfold okD
      by_cases e:1<=p.length
      ·rw[decide_eq_false (show ¬(p.length:Int) < 1 by omega),cond_false,decide_eq_true e,Z0v]
       by_cases h4:p.length<=9
       ·rw[decide_eq_false (show ¬(p.length:Int) > 9 by omega),decide_eq_true h4,Z0v,ZQy h4,Zfa];cases p.all isD<;>rfl
       ·rw[decide_eq_true (show (p.length:Int) > 9 by omega),decide_eq_false h4,Z0t,cond_false];unfold Zo6;rw[cond_true,Zfa]
      ·rw[decide_eq_true (show (p.length:Int) < 1 by omega),cond_true,decide_eq_false e,Z0t,Z0t,cond_false];unfold Zo6;rw[cond_true,Zfa]
   ·rw[decide_eq_true (show (((s.takeWhile isD).length:Nat):Int) > 15 by omega),cond_true,Zfa,decide_eq_false h2,cond_false]
  ·rw[decide_eq_true (show (((s.takeWhile isD).length:Nat):Int) < 1 by omega),cond_true,cond_true,Zfa,decide_eq_false f,Z0t,cond_false]
theorem ZNn {t:Str} (g:t.length<=9223372036854775807):Ztb t=some (match ZHx t with |some x=>(x.1,x.2.1,x.2.2,true) |none=>(false,[],[],false)):=by
 have a:∀(s:Str) (c:Bool),s.length<=9223372036854775807->Zpg s c=some (match (ZGb s).map fun x=>(c,x.1,x.2)with |some x=>(x.1,x.2.1,x.2.2,true) |none=>(false,[],[],false)):=fun s c h=>by rw[ZQz c h];cases ZGb s<;>rfl
 unfold Ztb Zrn ZHx ZMj;cases t with
 |nil=>
  rw[show decide ((([]:Str).length:Int) > 0)=false from rfl,cond_false,cond_false,a [] false g]
 |cons b r=>
  simp only[Z0D]at g;rw[decide_eq_true (show (((b::r).length:Nat):Int) > 0 by simp only[Z0D];omega),cond_true];have i:idx (b::r) 0=some b:=rfl;have e:(((b.toNat:Nat):Int) == 43)=(b == 43):=ZI1 b 43;have d:(((b.toNat:Nat):Int) == 45)=(b == 45):=ZI1 b 45;rw[i,Z0N,e];dsimp only;have f:Zcp 1 ((b::r).length:Int) ((b::r).length:Int)=true:=Zpj (by simp only[Z0D];omega);cases h1:b == 43 with
  |true=>
   have j:b=43:=eq_of_beq h1;subst j;rw[cond_true,cond_true,Z0N,f,chk_true,d];show Zpg r false=_;rw[a r false (by omega)];rfl
  |false=>
   rw[cond_false,Z0N,d];cases h2:b == 45 with
   |true=>
    rw[cond_true,Z0N,f,chk_true,d,h2];show Zpg r true=_;rw[a r true (by omega)];rfl
   |false=>
    rw[cond_false];rw[a (b::r) false (by simp only[Z0D];omega)];rfl
end Go.Proofs
namespace Go.Proofs
open Go Eng
theorem ZMx {b:UInt8} (h:isD b=true):IntKind.wrap .i64 (IntKind.wrap .u8 (((b.toNat:Nat):Int) - 48))=((b.toNat - 48:Nat):Int):=by unfold isD at h;simp only[ZVx,decide_eq_true_eq]at h;rw[wrap_u8 (by omega),wrap_i64 (by omega)];omega
theorem wlN {n:Nat} (h:n < 2 ^ 90):Wl 50000 (n:Int):=by unfold Wl;rw[Int.natAbs_natCast];exact Z0L (ZJv h 3 (by decide)) (by decide)
theorem wl10:Wl 50000 10:=wlN (n:=10) (by decide)
theorem ZTn:Zgo.mk false ([]:List Int)=bg ((0:Nat):Int):=by kernel_rfl
theorem ZTf {P:Str} (d:P.all isD=true) {i:Nat} (b:i < P.length):(Utf8.decode ⟨P.toArray⟩ i).2=1:=by
 have c:i < (⟨P.toArray⟩:ByteArray).size:=by show i < P.toArray.size;simpa using b
 have a:=Z0w.1 d _ (Z0A b);unfold isD at a;simp only[ZVx,decide_eq_true_eq]at a;rw[decode_ascii ⟨P.toArray⟩ i c (by show (P.toArray[i]).toNat < 128;rw[List.getElem_toArray];omega)]
theorem ZKQ {t:Str} (A:t.length<=9223372036854775807):ZuI t=some (match ZHx t with |some x=>(fOf (ZWd x),true) |none=>(zf,false)):=by
 unfold ZuI;rw[ZNn A,Z0N];cases hp:ZHx t with
 |none=>rfl
 |some x=>
  obtain⟨c,D,P⟩:=x;dsimp only;have h:ZK6 D P:=by
   unfold ZHx at hp;cases e:ZGb (ZMj t).2 with
   |none=>rw[e]at hp;cases hp
   |some y=>
    rw[e]at hp;simp only[Option.map_some,Option.some.injEq,Prod.mk.injEq]at hp;obtain⟨_,w,B⟩:=hp;subst w;subst B;exact ZFY e
  have C:=h.d2;have E:=h.p;have a:(D++P).all isD=true:=by rw[List.all_append,h.dd,h.pp];rfl
  have g:(D++P).length<=24:=by rw[Z0C];omega
  refine Zo1 ?_;rw[Z0u,cond_false,ZEr 1 (by decide) (by decide),Z0N,Zhr,Zhr,ZhS,ZTn];refine⟨decide_eq_true (by unfold Zr;omega),decide_eq_true (by omega), ?_⟩;refine Zjf (Zti ZEd (D++P).length (by omega) (fun i (n:Nat)=>(c,P,(((D++P).map fun b:UInt8=>((b.toNat:Nat):Int)).length:Int),i,false,false,bg (n:Int),bg 1,(D++P).map (fun b:UInt8=>((b.toNat:Nat):Int)),([]:List Int),([]:List Int))) (fun i n=>n=ZH6 ((D++P).take i))
   (Q:=fun x=>x=(c,P,false,false,bg (ZH6 (D++P):Int),bg 1,([]:List Int),([]:List Int))) 0 (by rfl) ?_ ?_) ?_
  ·rintro m i n r rfl s;unfold Zvf ZrI;dsimp only;have e:isD (D++P)[i]=true:=Z0w.1 a _ (Z0A r);have G:ZH6 ((D++P).take i) < 2 ^ 80:=ZIt (Z0w.2 fun b e=>Z0w.1 a b (List.mem_of_mem_take e)) (by rw[Z0H];omega);have q:ZH6 ((D++P).take (i+1))=ZH6 ((D++P).take i)*10+((D++P)[i].toNat - 48):=by rw[Z0K r,ZLF,Nat.mul_comm]
   have f:i < ((D++P).map fun b:UInt8=>((b.toNat:Nat):Int)).length:=by rw[Z0F];exact r
   have j:=e;unfold isD at j;simp only[ZVx,decide_eq_true_eq]at j;rw[decide_eq_true (show (i:Int) < (((D++P).map fun b:UInt8=>((b.toNat:Nat):Int)).length:Int) by rw[Z0F];omega),cond_true,ZFh f,chk_true,Int.toNat_natCast,List.getElem?_eq_getElem f,Z0N,List.getElem_map,
    ZEr 10 (by decide) (by decide),Z0N,ZAR ((ZH6 ((D++P).take i):Nat):Int) 10 (wlN (by omega)) wl10,Z0N,ZMx e,ZEr _ (by omega) (by omega),Z0N]
   have u:((ZH6 ((D++P).take i):Nat):Int)*10=((ZH6 ((D++P).take i)*10:Nat):Int):=by omega
   rw[u,ZJq _ _ (wlN (by omega)) (wlN (by omega)),Z0N,Zhr];refine⟨ZiH (by omega), ?_⟩;have:=s (ZH6 ((D++P).take i)*10+((D++P)[i].toNat - 48)) q.symm;have z:((ZH6 ((D++P).take i)*10:Nat):Int)+(((D++P)[i].toNat - 48:Nat):Int)=((ZH6 ((D++P).take i)*10+((D++P)[i].toNat - 48):Nat):Int):=by omega
   rw[z];exact this
  ·rintro m n rfl;unfold Zvf ZrI;dsimp only;rw[decide_eq_false (by rw[Z0F];omega),cond_false,Zfa,List.take_length]
  ·rintro x rfl;dsimp only;unfold ZwP;rw[ZhS];refine Zjf (ZxI ZEc (fun(k:Nat)=>(c,false,false,bg (ZH6 (D++P):Int),bg ((10 ^ k:Nat):Int),P,k,([]:List Int),([]:List Int))) (fun k=>k<=P.length) (fun k=>P.length - k)
    (Q:=fun x=>x=(c,false,false,bg (ZH6 (D++P):Int),bg ((10 ^ P.length:Nat):Int),([]:List Int),([]:List Int))) 0 (Nat.zero_le _) (by omega) ?_) ?_
   ·rintro m k F s;unfold ZAg Zve ZsW;dsimp only
    by_cases hlt:k < P.length
    ·have p:=ZIo (show k<=24 by omega);rw[decide_eq_true hlt,cond_true,cond_true,ZEr 10 (by decide) (by decide),Z0N,ZAR ((10 ^ k:Nat):Int) 10 (wlN (by omega)) wl10,Z0N,ZTf h.pp hlt];have:=s (k+1) (by omega) (by omega);rw[Nat.pow_succ]at this;have u:((10 ^ k:Nat):Int)*10=((10 ^ k*10:Nat):Int):=by omega
     rw[u];exact this
    ·obtain rfl:k=P.length:=by omega
     rw[decide_eq_false hlt,cond_false,cond_false,Zfa]
   ·rintro x rfl;dsimp only;unfold ZwO ZsV;have v:=ZIt a g;have p:=ZIo (show P.length<=24 by omega);have o:((10 ^ P.length:Nat):Int)≠0:=by have:=Nat.pow_pos (n:=P.length) (show 0 < 10 by decide);omega
    have l:Wl 50000 ((10 ^ P.length:Nat):Int):=wlN (by omega);have d:Wl 50000 (ZH6 (D++P):Int):=wlN (by omega);cases c with
    |false=>
     rw[cond_false,ZHS _ _ o d l,Z0N,Zfa];rfl
    |true=>
     rw[cond_true,ZJS _ (Z0L d (by decide)),Z0N,ZHS _ _ o (by unfold Wl at d|-;rw[Int.natAbs_neg];exact d) l,Z0N,Zfa];rfl
end Go.Proofs
namespace Go.Proofs
open Go Eng
def is0 (b:UInt8):Bool:=b == 48
def sp (b:UInt8):Bool:=b == 32
def rtr (p:UInt8->Bool) (l:Str):Str:=(l.reverse.dropWhile p).reverse
def lz (D:Str):Str:=bif (D.dropWhile is0).isEmpty then [48]else D.dropWhile is0
def rz (P:Str):Str:=rtr is0 P
def ZNY (D P:Str):Str:=lz D++(bif (rz P).isEmpty then []else 46::rz P)
def ZQV (x:Bool×Str×Str):Str:=bif x.1&& !(ZNY x.2.1 x.2.2 == [48])then 45::ZNY x.2.1 x.2.2 else ZNY x.2.1 x.2.2
theorem ZKO (p:UInt8->Bool) (P:Str):(rtr p P).length<=P.length:=by grind[rtr,Z0y]
theorem ZO2 {D:Str} (h:1<=D.length):(lz D).length<=D.length:=by
 grind[lz,Z0y]
theorem ZKS {D P:Str} (h:1<=D.length) (b:D.length<=15) (a:P.length<=9):(ZNY D P).length<=25:=by
 grind[ZO2,ZKO,ZNY,rz]
theorem ZNc (p:UInt8->Bool) (l:Str) (b:UInt8):rtr p (l++[b])=bif p b then rtr p l else l++[b]:=by
 unfold rtr;rw[List.reverse_append,List.reverse_singleton,List.singleton_append,Z0x];cases p b with
 |true=>rw[if_pos rfl];rfl
 |false=>rw[if_neg (by simp)];simp
theorem ZNd (p:UInt8->Bool) (b:UInt8) (l:Str):rtr p (b::l)=bif (rtr p l).isEmpty then (bif p b then []else [b])else b::rtr p l:=by
 unfold rtr;rw[List.reverse_cons];rw[List.dropWhile_append];cases h:l.reverse.dropWhile p with
 |nil=>
  simp only[List.isEmpty_nil,if_true,List.reverse_nil,cond_true];rw[Z0x];cases p b<;>simp
 |cons c r=>
  simp only[Z0B,Bool.false_eq_true,if_false];have:((c::r).reverse).isEmpty=false:=by simp
  rw[this,cond_false];simp
theorem ZLo (p:UInt8->Bool):∀l:Str,(rtr p l).dropWhile p=rtr p (l.dropWhile p)
 | []=>rfl
 |b::l=>by
  have a:=ZLo p l;rw[ZNd,Z0x];cases hb:p b with
  |true=>
   rw[if_pos rfl,<-a];cases he:rtr p l with
   |nil=>rfl
   |cons c r=>simp only[Z0B,cond_false];rw[Z0x,hb,if_pos rfl]
  |false=>
   rw[if_neg (by simp),ZNd,hb];cases he:rtr p l with
   |nil=>simp only[List.isEmpty_nil,cond_true,cond_false];rw[Z0x,hb,if_neg (by simp)]
   |cons c r=>simp only[Z0B,cond_false];rw[Z0x,hb,if_neg (by simp)]
theorem ZHy (c:UInt8):(fun b:UInt8=>([c]:Str).contains b)=fun b=>b == c:=by grind
def ZKI (s:Str):Str:=(rtr sp s).dropWhile sp
theorem ZQl (s:Str):Lib.trimS s [32]=ZKI s:=by unfold Lib.trimS Lib.trimLeftS Lib.trimRightS ZKI rtr;rw[ZHy];rfl
theorem ZMd (s:Str):ZFO s=some (ZKI s):=by grind[ZFO,ZDf,decide,chk_true,ZQl]
theorem ZLp (s:Str):(ZKI s).length<=s.length:=Z0L (Z0y _).length_le (ZKO sp s)
theorem ZNO {s:Str} (k:s.length<=9223372036854775807):Zxp s=some (ZKI s):=by
 refine Zo1 ?_;unfold Zxp;rw[ZhS];refine Zjf (ZJw ZFb (fun(d:Str)=>d) (fun d=>d.dropWhile sp=s.dropWhile sp/\d.length<=s.length) (fun d=>d.length) (Q:=fun x=>x=s.dropWhile sp) s ⟨rfl,Nat.le_refl _⟩ (by omega) ?_) ?_
 ·rintro g d ⟨a,f⟩ h;unfold ZBR Zxo ZuG;dsimp only;cases d with
  |nil=>
   rw[show decide ((([]:Str).length:Int) > 0)=false from rfl,cond_false,cond_false,Zfa,<-a];rfl
  |cons b r=>
   simp only[Z0D]at f;have e:(((b.toNat:Nat):Int) == 32)=sp b:=ZI1 b 32;rw[decide_eq_true (show (((b::r).length:Nat):Int) > 0 by simp only[Z0D];omega),cond_true,show idx (b::r) 0=some b from rfl,Z0N,e];rw[Z0x]at a;cases hb:sp b with
   |true=>
    rw[hb,if_pos rfl]at a;rw[cond_true,Zhr];exact⟨Zpj (by simp only[Z0D];omega),h r ⟨a,by omega⟩ (by simp)⟩
   |false=>
    rw[hb,if_neg (by simp)]at a;rw[cond_false,Zfa,a]
 ·rintro x rfl;unfold ZyZ;have i:(s.dropWhile sp).length<=s.length:=(Z0y _).length_le;rw[ZhS];refine Zjf (ZJw ZFa (fun(d:Str)=>d) (fun d=>rtr sp d=rtr sp (s.dropWhile sp)/\d.length<=s.length) (fun d=>d.length) (Q:=fun x=>x=rtr sp (s.dropWhile sp)) (s.dropWhile sp) ⟨rfl,i⟩ (by omega) ?_) ?_
  ·rintro g d ⟨a,f⟩ h;unfold ZBP Zxn ZuF;dsimp only;rcases List.eq_nil_or_concat d with rfl |⟨q,b,rfl⟩
   ·rw[show decide ((([]:Str).length:Int) > 0)=false from rfl,cond_false,cond_false,Zfa,<-a];rfl
   ·rw[List.concat_eq_append]at*
    have c:(q++[b]).length=q.length+1:=by simp
    have j:idx (q++[b]) ((((q++[b]).length:Nat):Int) - 1)=some b:=by rw[c,show (((q.length+1:Nat):Int) - 1)=((q.length:Nat):Int) by omega,ZoM (by omega)];simp
    have e:(((b.toNat:Nat):Int) == 32)=sp b:=ZI1 b 32;rw[ZNc]at a;rw[decide_eq_true (show (((q++[b]).length:Nat):Int) > 0 by omega),cond_true,Zhr,j,Z0N,e];refine⟨ZiH (by omega), ?_⟩;cases hb:sp b with
    |true=>
     rw[hb,cond_true]at a;rw[cond_true,Zhr,Zhr];refine⟨ZiH (by omega),Zpj (by omega), ?_⟩;rw[show ((((q++[b]).length:Nat):Int) - 1).toNat=q.length by omega,Z0J rfl];exact h q ⟨a,by omega⟩ (by rw[c];omega)
    |false=>
     rw[hb,cond_false]at a;rw[cond_false,Zfa,a]
  ·rintro x rfl;unfold ZyY;rw[Zfa];unfold ZKI;rw[ZLo]
theorem lz_0 {r:Str} (a:r≠[]):lz (48::r)=lz r:=by unfold lz;rw[Z0x,show is0 48=true from rfl,if_pos rfl]
theorem ZOZ {e:Bool} {D P:Str} (l:1<=D.length) (p:D.length<=15) (o:P.length<=9):ZvB e D P=some (ZQV (e,D,P)):=by
 have y:=ZO2 l;have w:=ZKO is0 P;refine Zo1 ?_;unfold ZvB;rw[ZhS];refine Zjf (ZxI ZEk (fun(d:Str)=>(e,d,P)) (fun d=>lz d=lz D/\1<=d.length/\d.length<=15) (fun d=>d.length) (Q:=fun x=>x=(e,lz D,P)) D ⟨rfl,l,p⟩ (by omega) ?_) ?_
 ·rintro m d ⟨f,k,j⟩ n;unfold ZAu Zv0 Zts;dsimp only;cases d with
  |nil=>simp at k
  |cons b r=>
   have h:(((b.toNat:Nat):Int) == 48)=is0 b:=ZI1 b 48;simp only[Z0D]at k j;cases r with
   |nil=>
    rw[show decide ((([b]:Str).length:Int) > 1)=false from rfl,cond_false,cond_false,Zfa,<-f];unfold lz;rw[Z0x];cases hb:is0 b with
    |true=>
     have:b=48:=eq_of_beq hb;subst this;rfl
    |false=>rfl
   |cons c r=>
    rw[decide_eq_true (show (((b::c::r).length:Nat):Int) > 1 by simp only[Z0D];omega),cond_true,show idx (b::c::r) 0=some b from rfl,Z0N,h];cases hb:is0 b with
    |true=>
     have:b=48:=eq_of_beq hb;subst this;rw[lz_0 (by simp)]at f;rw[cond_true,Zhr];exact⟨Zpj (by simp only[Z0D];omega),n (c::r) ⟨f,by simp,by simp only[Z0D]at j|-;omega⟩ (by simp)⟩
    |false=>
     rw[cond_false,Zfa,<-f];unfold lz;rw[Z0x,hb,if_neg (by simp)];rfl
 ·rintro x rfl;dsimp only;unfold Zxh;rw[ZhS];refine Zjf (ZxI ZEj (fun(d:Str)=>(e,lz D,d)) (fun d=>rz d=rz P/\d.length<=9) (fun d=>d.length) (Q:=fun x=>x=(e,lz D,rz P)) P ⟨rfl,o⟩ (by omega) ?_) ?_
  ·rintro m d ⟨f,u⟩ n;unfold ZAs ZvZ Ztr;dsimp only;rcases List.eq_nil_or_concat d with rfl |⟨q,b,rfl⟩
   ·rw[show decide ((([]:Str).length:Int) > 0)=false from rfl,cond_false,cond_false,Zfa,<-f];rfl
   ·rw[List.concat_eq_append]at*
    have g:(q++[b]).length=q.length+1:=by simp
    have v:idx (q++[b]) ((((q++[b]).length:Nat):Int) - 1)=some b:=by rw[g,show (((q.length+1:Nat):Int) - 1)=((q.length:Nat):Int) by omega,ZoM (by omega)];simp
    have h:(((b.toNat:Nat):Int) == 48)=is0 b:=ZI1 b 48;unfold rz at f;rw[ZNc]at f;rw[decide_eq_true (show (((q++[b]).length:Nat):Int) > 0 by omega),cond_true,Zhr,v,Z0N,h];refine⟨ZiH (by omega), ?_⟩;cases hb:is0 b with
    |true=>
     rw[hb,cond_true]at f;rw[cond_true,Zhr,Zhr];refine⟨ZiH (by omega),Zpj (by omega), ?_⟩;rw[show ((((q++[b]).length:Nat):Int) - 1).toNat=q.length by omega,Z0J rfl];exact n q ⟨f,by omega⟩ (by rw[g];omega)
    |false=>
     rw[hb,cond_false]at f;rw[cond_false,Zfa,f];rfl
  ·rintro x rfl;dsimp only;unfold Zxg Ztq Ztp Zto;have t:=ZKS l p o;have i:∀a:Str,a=ZNY D P->wp (bif e then (bif (!(a == ([48]:Str)))then chk (decide (([45]:Str).length+a.length<=Zr)) <| some (([45]:Str)++a)else some a)else (bif false then chk (decide (([45]:Str).length+a.length<=Zr)) <| some (([45]:Str)++a)else some a)) (fun x=>x=ZQV (e,D,P)):=by
    rintro a rfl;unfold ZQV;dsimp only;cases e with
    |false=>rw[cond_false,cond_false,Z0t,cond_false,Zfa]
    |true=>
     rw[cond_true,Z0v];cases (!(ZNY D P == [48]))with
     |false=>rw[cond_false,cond_false,Zfa]
     |true=>
      rw[cond_true,cond_true,Zhr,Zfa];exact⟨decide_eq_true (by simp only[Z0G];unfold Zr;omega),rfl⟩
   cases hP:rz P with
   |nil=>
    rw[show (!(([]:Str) == ([]:Str)))=false from rfl,cond_false];exact i (lz D) (by unfold ZNY;rw[hP];simp)
   |cons c r=>
    have s:(c::r).length<=9:=by rw[<-hP];exact Z0L w o
    rw[show (!((c::r) == ([]:Str)))=true by simp,cond_true,Zhr,Zhr];refine⟨decide_eq_true (by simp only[Z0G];unfold Zr;omega),decide_eq_true (by rw[Z0C];simp only[Z0G];unfold Zr;omega), ?_⟩;exact i _ (by unfold ZNY;rw[hP];rfl)
end Go.Proofs
namespace Go.Proofs
open Go Eng
theorem ZQS (a:Str):ZDZ [a,[48]]=some (bif a.isEmpty then [48]else a):=by
 have d:wp (Zzp big ([]:Str) [a,[48]] ((([a,[48]]:List Str).length:Nat):Int) 0) (fun x=>x= .ret (bif a.isEmpty then [48]else a)):=by
  refine Zpy ZHv ([a,[48]]:List Str) (by simp) (fun i (_:Unit)=>(([]:Str),([a,[48]]:List Str),((([a,[48]]:List Str).length:Nat):Int),i)) (fun k _=>k<=1/\(k=1->a=[])) () ⟨by omega,fun h=>by omega⟩ ?_ ?_
  ·rintro c k _ f ⟨j,l⟩ g;unfold ZFn ZC1;dsimp only;rw[decide_eq_true (show (k:Int) < ((([a,[48]]:List Str).length:Nat):Int) by omega),cond_true,ZoM f,Option.bind_some];rcases Nat.eq_zero_or_pos k with rfl |e
   ·show wp (bif (!(a == []))then some (Out.ret a)else chk (inK .i64 (((0:Nat):Int)+1)) (c ([],[a,[48]],((([a,[48]]:List Str).length:Nat):Int),((0:Nat):Int)+1))) _;cases a with
    |nil=>
     rw[show (!(([]:Str) == ([]:Str)))=false from rfl,cond_false,Zhr];exact⟨by decide,g () ⟨by omega,fun _=>rfl⟩⟩
    |cons b r=>
     grind[Zfa]
   grind[Zfa]
  simp_all
 unfold ZDZ;obtain⟨x,m,rfl⟩:=d;simp_all
theorem ZQr (t:Str):(ZMj t).2.length<=t.length:=by
 unfold ZMj;grind
theorem ZG0 {t:Str} {x:Bool×Str×Str} (h:ZHx t=some x):x.1=(ZMj t).1/\ZGb (ZMj t).2=some x.2:=by
 grind[ZHx,ZGb]
theorem ZN6 {b:Str} {x:Str×Str} (h:ZGb b=some x):∃c r,b=c::r/\isD c=true:=by
 have a:=ZFY h;rw[ZIp]at h;cases b with
 |nil=>simp[okD]at h
 |cons c r=>
 grind[List.takeWhile_cons,okD]
theorem ZVy (b:UInt8):([43,45]:Str).contains b=((b == 45)||(b == 43)):=by grind
theorem ZVR {b:UInt8} (h:isD b=true):((b == 45)||(b == 43))=false:=by
 cases h1:b == 45 with
 |true=>rw[eq_of_beq h1]at h;exact absurd h (by decide)
 |false=>
  cases h2:b == 43 with
  |true=>rw[eq_of_beq h2]at h;exact absurd h (by decide)
  |false=>rfl
theorem ZQk {t:Str} {x:Bool×Str×Str} (h:ZHx t=some x):Lib.trimLeftS t [43,45]=(ZMj t).2/\∃b r,t=b::r/\(b == 45)=x.1:=by
 obtain⟨d,e⟩:=ZG0 h;obtain⟨c,r,i,f⟩:=ZN6 e;have g:=ZVR f;unfold Lib.trimLeftS;rw[show (fun b:UInt8=>([43,45]:Str).contains b)=fun b=>(b == 45)||(b == 43)from funext ZVy];have a:(c::r).dropWhile (fun b=>(b == 45)||(b == 43))=c::r:=by simp_all
 rw[d];cases t with
 |nil=>grind[ZMj]
 |cons b s=>
 grind[ZMj,Z0x]
theorem ZMy {t:Str} (z:t.length<=9223372036854775807):ZB2 t=some (match ZHx t with |some x=>(ZQV x,true) |none=>([],false)):=by
 unfold ZB2;rw[ZKw z,Z0N];cases n:ZHx t with
 |none=>rfl
 |some x=>
 obtain⟨f,D,P⟩:=x;obtain⟨u,o⟩:=ZG0 n;obtain⟨A,b,r,l,a⟩:=ZQk n;have d:=ZFY o;have C:=ZQr t;dsimp only at u a|-
 have i:=ZIp (ZMj t).2;rw[o]at i;have g:D=(ZMj t).2.takeWhile n46/\P=((ZMj t).2.dropWhile n46).tail:=by
  grind
 unfold ZBV ZDm;rw[Z0u,cond_false,show (([43,45]:Str).all fun b=>decide (b.toNat < 128))=true from by decide,chk_true,show decide (([43,45]:Str).length < 4294967281)=true from by decide,chk_true,Z0N,A,ZkE (by omega),Z0N];dsimp only;rw[<-g.1,<-g.2,show (([48]:Str).all fun b=>decide (b.toNat < 128))=true from by decide,chk_true,show decide (([48]:Str).length < 4294967281)=true from by decide,chk_true,Z0N,chk_true,chk_true,Z0N];have B:Lib.trimLeftS D [48]=D.dropWhile is0:=by unfold Lib.trimLeftS;rw[ZHy];rfl
 have v:Lib.trimRightS P [48]=rz P:=by unfold Lib.trimRightS rz rtr;rw[ZHy];rfl
 rw[B,v,ZQS,Z0N];show (bif (!(rz P == ([]:Str)))then _ else Zwd t (lz D))=_;have h:=d.d1;have j:=d.d2;have m:=d.p;have y:=ZKS h j m;have p:=ZO2 h;have w:=ZKO is0 P;have q:∀e:Str,e=ZNY D P->Zwd t e=some (ZQV (f,D,P),true):=by
  rintro e rfl;unfold Zwd ZBF ZBE ZQV;have k:(((b.toNat:Nat):Int) == 45)=f:=(ZI1 b 45).trans a;rw[l,show idx (b::r) 0=some b from rfl,Z0N,k];dsimp only;cases f with
  |false=>simp_all
  |true=>
  rw[cond_true,Z0v];cases (!(ZNY D P == [48]))with
  |false=>simp_all
  |true=>
   rw[cond_true,cond_true,decide_eq_true (by grind[Zr]),chk_true];rfl
 cases hP:rz P with
 |nil=>
  grind[ZNY]
 |cons c s=>
  grind[Zr,chk,decide,lz,ZNY]
theorem ZQU {x:Bool×Str×Str} (h:ZK6 x.2.1 x.2.2):(ZQV x).length<=26:=by
 have:=ZKS h.d1 h.d2 h.p;grind[ZQV]
def ZI7 (s:Str):Option Str:=(ZHx (ZKI s)).map ZQV
def ZUM (s:Str):Option Rat:=match ZI7 s with
 |some t=>(ZHx t).map ZWd
 |none=>none
theorem ZKy {s t:Str} (h:ZI7 s=some t):t.length<=26:=by
 unfold ZI7 at h;cases a:ZHx (ZKI s)with
 |none=>simp_all
 |some x=>
 rw[a]at h;simp only[Option.map_some,Option.some.injEq]at h;subst h;obtain⟨_,b⟩:=ZG0 a;grind[ZQU,ZFY]
theorem ZPr {s:Str} (c:s.length<=9223372036854775807):ZxG 4 s=some (match ZI7 s with |some t=>(t,true) |none=>([],false)):=by
 have h:ZxG 4 s=(ZFO s).bind fun q=>(ZB2 q).bind fun(a,b)=>some (a,b):=by kernel_rfl
 grind[ZLp,ZMd,ZMy,ZI7]
theorem ZOA {s:Str} (d:s.length<=9223372036854775807):ZDH 4 s=some (match ZUM s with |some q=>(fOf q,true) |none=>(zf,false)):=by
 have h:ZDH 4 s=(ZxG 4 s).bind fun(t,c)=>bif (!c)then some (zf,false)else (Zwn t).bind fun(a,b)=>some (a,b):=by kernel_rfl
 grind[ZPr,ZUM,ZKy,ZKw]
theorem ZMm {s:Str} (f:s.length<=9223372036854775807):Zwh 4 s=some (match ZUM s with |some q=>(fOf q,true) |none=>(zf,false)):=by
 have b:Ztt 4 s=some (match ZI7 s with |some t=>(t,true) |none=>([],false)):=by
  have d:=ZLp s;unfold Ztt ZrC;rw[ZNO f,Z0N,show ((4:Int) == 1)=false from rfl,show ((4:Int) == 2)=false from rfl,show ((4:Int) == 3)=false from rfl,show ((4:Int) == 4)=true from rfl];simp only[cond_false,cond_true];rw[ZNn (by omega),Z0N];unfold ZI7;cases e:ZHx (ZKI s)with
  |none=>rfl
  |some x=>
   obtain⟨_,c⟩:=ZG0 e;have a:=ZFY (D:=x.2.1) (P:=x.2.2) c;dsimp only;unfold Zp8;rw[cond_true,cond_true,ZOZ a.d1 a.d2 a.p,Z0N];rfl
 unfold Zwh ZtT;rw[b,Z0N];unfold ZUM;cases hc:ZI7 s with
 |none=>rfl
 |some t=>
  have:=ZKy hc;dsimp only;rw[Z0u,cond_false,show ((4:Int) == 1)=false from rfl,show ((4:Int) == 2)=false from rfl,show ((4:Int) == 5)=false from rfl];simp only[cond_false];rw[ZKQ (by omega),Z0N];cases ZHx t<;>rfl
def ZMB (c:G_api_Cell):Option Rat:=bif c.Null then none else ZUM c.Text
theorem ZJQ {c:G_api_Cell} (hl:c.Text.length<=9223372036854775807):ZGZ c=some (match ZMB c with |some q=>(fOf q,true) |none=>(bif c.Null then fOf 0 else zf,false)):=by
 grind[ZGZ,ZMB,ZIH,ZOA]
theorem ZLy {c:G_api_Cell} (a:c.Text.length<=9223372036854775807):Zvy c=some (match ZMB c with |some q=>(fOf q,true) |none=>(zf,false)):=by
 unfold Zvy ZMB;cases c.Null with
 |true=>rfl
 |false=>
  rw[cond_false,ZMm a,Z0N];cases ZUM c.Text<;>rfl
end Go.Proofs
namespace Go.Proofs
open Go Eng
def ZDs (a:Str):List Str:=ZxF (ZGh (a++[32]) [])
def ZHn (l:List G_api_Cell):List Str:=(l.filter fun x=> !x.Null).map fun x=>x.Text
def Zw3 (l:List G_api_Cell):List Str:=ZxF (ZHn l)
theorem ZQh {a:Str} (h:a.length<=1000000):Zug a=some (ZDs a):=by unfold Zug;rw[ZC7,decide_eq_true (by omega)];rfl
theorem ZOz {c:G_api_Column} (h:c.Cells.length<=1000000):ZwT c=some (Zw3 c.Cells):=by unfold ZwT;rw[ZC7,decide_eq_true (by omega)];rfl
theorem ZIg:∀(s a:List UInt8),(ZGh s a).length<=s.length
 | [],a=>by simp[ZGh]
 |b::s,a=>by
  have c:=ZIg s [];have d:=ZIg s (a++[xwC b]);grind[ZGh]
theorem ZHM (l:List (List UInt8)):(ZxF l).length<=l.length:=by
 have h:∀l:List (List UInt8),(ZEf l).length<=l.length:=by
  intro l
  induction l with
  |nil=>simp[ZEf]
  |cons x r a=>
   grind[ZEf]
 grind[ZxF,List.length_mergeSort]
theorem ZII (a:Str):(ZDs a).length<=a.length+1:=by have c:=ZHM (ZGh (a++[32]) []);have b:=ZIg (a++[32]) [];simp only[Z0C,Z0G]at b;exact Z0L c b
theorem ZH3 (l:List G_api_Cell):(Zw3 l).length<=l.length:=by have a:=ZHM (ZHn l);unfold ZHn at a;rw[Z0F]at a;exact Z0L a (Z0E _ _)
theorem ZJ2 {a b:List Str} (c:a.Nodup) (d:b.Nodup):ZId a b=ZId b a:=by unfold ZId;refine List.Perm.length_eq ((List.perm_ext_iff_of_nodup (c.filter _) (d.filter _)).2 fun x=> ?_);grind
theorem ZPl (a:List Str):ZId a a=a.length:=by grind[ZId,List.filter_eq_self]
def ZCC (a b:List Str):Rat:=Rat.divInt (ZId a b:Int) (max (a.length+b.length - ZId a b) 1:Nat)
theorem ZNj {a b:List Str} (f:Srt b) (c:a.length<=1000000) (d:b.length<=1000000):Zzh a b=some (fOf (ZCC a b)):=by
 have g:=ZH8 a b;unfold Zzh;rw[ZOG f (by omega) (by omega),Option.bind_some,ZiH (by omega),ZiH (by omega),chk_true,chk_true];have e:(if (1:Int) > (((a.length:Int)+(b.length:Int)) - (ZId a b:Int))then (1:Int)else (((a.length:Int)+(b.length:Int)) - (ZId a b:Int)))=((max (a.length+b.length - ZId a b) 1:Nat):Int):=by
  omega
 rw[e,ZIs _ _ (by omega) (by omega) (by omega) (by omega) (by omega),Option.bind_some];rfl
theorem ZPi {a b c d:Int} (n:0 < b) (l:0 < d):Rat.divInt a b<=Rat.divInt c d<->a*d<=c*b:=by
 rw[Rat.divInt_eq_div,Rat.divInt_eq_div];have m:(0:Rat) < (b:Rat):=by rw[show ((0:Rat))=(((0:Int)):Rat)from rfl];exact Rat.intCast_lt_intCast.2 n
 have o:(0:Rat) < (d:Rat):=by rw[show ((0:Rat))=(((0:Int)):Rat)from rfl];exact Rat.intCast_lt_intCast.2 l
 have f:=Rat.mul_pos m o;have j:(b:Rat)*((a:Rat) / (b:Rat))=a:=by grind
 have i:(d:Rat)*((c:Rat) / (d:Rat))=c:=by grind
 have g:a*d<=c*b<->(a:Rat)*(d:Rat)<=(c:Rat)*(b:Rat):=by rw[<-Rat.intCast_mul,<-Rat.intCast_mul,Rat.intCast_le_intCast]
 rw[g];clear g;generalize (a:Rat) / (b:Rat)=x at j|-
 generalize (c:Rat) / (d:Rat)=y at i|-
 generalize (a:Rat)=A at*
 generalize (b:Rat)=B at*
 generalize (c:Rat)=C at*
 generalize (d:Rat)=D at*
 subst j i;have e:(y - x)*(B*D)=D*y*B - B*x*D:=by grind
 constructor
 ·intro h;have k:0<=(y - x)*(B*D):=Rat.mul_nonneg (by grind) (by grind);grind
 ·intro h;apply Rat.not_lt.1;intro p;have k:0 < (x - y)*(B*D):=Rat.mul_pos (by grind) f;grind
theorem ZIB {n d:Nat} (hd:0 < d) (h:n<=d):0<=Rat.divInt (n:Int) (d:Int)/\Rat.divInt (n:Int) (d:Int)<=1:=by
 have h1:Rat.divInt 1 1=1:=by decide+kernel
 grind[Rat.divInt_nonneg,ZPi]
theorem ZIn {a b:List Str} (hb:b.Nodup) (ha:a.Nodup):0<=ZCC a b/\ZCC a b<=1:=by have h1:=ZH8 a b;have h2:=ZH8 b a;rw[ZJ2 hb ha]at h2;exact ZIB (by omega) (by omega)
theorem ZJK {a b:List Str} (c:a.Nodup) (d:b.Nodup):ZCC a b=ZCC b a:=by grind[ZCC,ZJ2]
theorem ZLz {a b:List Str} {k:Nat} (d:a.length+b.length < 2 ^ k) (c:1 < 2 ^ k):Sz k (ZCC a b):=by have:=ZH8 a b;exact ZIj (by omega) (by omega) (by omega)
theorem ZJL {a:List Str}:ZCC a a=if a=[]then 0 else 1:=by
 unfold ZCC;rw[ZPl];cases a with
 |nil=>simp_all
 |cons x r=>
 rw[if_neg (by simp)];have e:max ((x::r).length+(x::r).length - (x::r).length) 1=(x::r).length:=by simp
 grind[Rat.divInt_self']
noncomputable def isN (c:G_api_Cell):Bool:=(ZMB c).isSome
noncomputable def ZHf (l:List G_api_Cell):Nat:=(l.filter fun x=> !x.Null).length
noncomputable def ZNp (l:List G_api_Cell):Nat:=(l.filter fun x=> !x.Null&&isN x).length
noncomputable def ZxD (l:List G_api_Cell):Rat:=Rat.divInt (ZNp l:Int) (max (ZHf l) 1:Nat)
theorem ZIP (l:List G_api_Cell):ZNp l<=ZHf l:=by unfold ZNp ZHf;rw[show (fun x:G_api_Cell=> !x.Null&&isN x)=fun x=>(isN x)&& !x.Null from funext fun x=>Bool.and_comm _ _,<-List.filter_filter];grind
theorem ZIz (l:List G_api_Cell):ZHf l<=l.length:=Z0E _ _
theorem ZNb {c:G_api_Column} (hc:∀x∈c.Cells,x.Text.length<=9223372036854775807) (hl:c.Cells.length<=1000):ZwZ c=some (fOf (ZxD c.Cells)):=by
 unfold ZwZ;rw[ZC7];refine Zo1 ?_;unfold ZDO;rw[ZhS];refine Zjf (Zpy ZGv c.Cells (by omega) (fun i (s:Nat×Nat)=>((s.1:Int),(s.2:Int),c.Cells,(c.Cells.length:Int),i,false,false,([]:List Int),([]:List Int))) (fun k s=>s.1=ZHf (c.Cells.take k)/\s.2=ZNp (c.Cells.take k))
  (Q:=fun x=>x=((ZHf c.Cells:Int),(ZNp c.Cells:Int),false,false,([]:List Int),([]:List Int))) (0,0) ⟨by simp[ZHf],by simp[ZNp]⟩ ?_ ?_) ?_
 ·rintro rec k ⟨f,n⟩ hk ⟨hf,hn⟩ ih;dsimp only at hf hn ih;unfold ZAF Zxt Zv7;dsimp only;have hs:c.Cells.take (k+1)=c.Cells.take k++[c.Cells[k]]:=List.take_succ_eq_append_getElem hk;have b1:=ZIz (c.Cells.take k);have b2:=ZIP (c.Cells.take k);rw[List.length_take]at b1;have e1:ZHf (c.Cells.take (k+1))=f+(bif c.Cells[k].Null then 0 else 1):=by grind[ZHf]
  have e2:ZNp (c.Cells.take (k+1))=n+(bif !c.Cells[k].Null&&isN c.Cells[k]then 1 else 0):=by grind[ZNp]
  rw[decide_eq_true (show (k:Int) < (c.Cells.length:Int) by omega),cond_true,ZoM hk,Option.bind_some];cases hnul:c.Cells[k].Null with
  |true=>
   rw[hnul]at e1 e2;rw[cond_true,Zhr];exact⟨ZiH (by omega),ih (f,n) ⟨by grind,by grind⟩⟩
  |false=>
   rw[hnul]at e1 e2;rw[cond_false,Zhr];refine⟨ZiH (by omega), ?_⟩;cases hv:ZMB c.Cells[k]with
   |some q=>
    have hi:isN c.Cells[k]=true:=by grind[isN]
    rw[hi]at e2;rw[ZJQ (hc _ (List.getElem_mem hk)),hv,Option.bind_some];dsimp only;rw[cond_true,Zhr,Zhr];refine⟨ZiH (by omega),ZiH (by omega), ?_⟩;have:=ih (f+1,n+1) ⟨by grind,by grind⟩
    grind
   |none=>
    have hi:isN c.Cells[k]=false:=by grind[isN]
    rw[hi]at e2;rw[ZJQ (hc _ (List.getElem_mem hk)),hv,Option.bind_some];dsimp only;rw[cond_false,Zhr];refine⟨ZiH (by omega), ?_⟩;have:=ih (f+1,n) ⟨by grind,by grind⟩
    grind
 ·grind[ZAF,Zxt,Zfa]
 ·rintro x rfl;have b1:=ZIz c.Cells;have b2:=ZIP c.Cells;dsimp only;unfold ZCl;have e:(if (1:Int) > (ZHf c.Cells:Int)then (1:Int)else (ZHf c.Cells:Int))=((max (ZHf c.Cells) 1:Nat):Int):=by
   omega
  rw[e,ZIs _ _ (by omega) (by omega) (by omega) (by omega) (by omega),Option.bind_some,Zfa];rfl
theorem ZIk (l:List G_api_Cell):0<=ZxD l/\ZxD l<=1:=by have:=ZIP l;exact ZIB (by omega) (by omega)
theorem ZGu {l:List G_api_Cell} {k:Nat} (h:l.length < 2 ^ k) (a:1 < 2 ^ k):Sz k (ZxD l):=by have b:=ZIz l;have c:=ZIP l;exact ZIj (by omega) (by omega) (by omega)
end Go.Proofs
namespace Go.Proofs
open Go Eng
theorem ZLA {a:Rat}:(ZLf a 0 == 0)=decide (a=0):=by
 grind[ZLf]
theorem ZLB (a b:Rat):(ZLf a b < 0)<->a < b:=by
 grind[ZLf]
def ofQ (v n s t:Rat):Rat:=if v=0/\n=0 then 0 else (v+v+n+(1 - ZNA (s - t))) / 4
noncomputable def ZIU (a b:G_api_Column):Rat:=ofQ (ZCC (Zw3 a.Cells) (Zw3 b.Cells)) (ZCC (ZDs a.Name) (ZDs b.Name)) (ZxD a.Cells) (ZxD b.Cells)
structure ZIG (a:G_api_Column):Prop where
 name:a.Name.length<=300
 rows:a.Cells.length<=100
 cells:∀x∈a.Cells,x.Text.length<=9223372036854775807
theorem ZGt (s:Str):Srt (ZDs s):=ZKM _
theorem ZFL (l:List G_api_Cell):Srt (Zw3 l):=ZKM _
theorem ZSi {a b:G_api_Column} (c:a.Cells.length<=100) (d:b.Cells.length<=100):ZAE a b=some (fOf (ZCC (Zw3 a.Cells) (Zw3 b.Cells))):=by grind[ZH3,ZAE,ZOz,ZNj,ZFL]
theorem ZQB {a b:Str} (c:a.length<=300) (d:b.length<=300):ZBW a b=some (fOf (ZCC (ZDs a) (ZDs b))):=by grind[ZII,ZBW,ZQh,ZNj,ZGt]
theorem ZL9 {a b:G_api_Column} (c:a.Cells.length<=100) (d:b.Cells.length<=100):Sz 10 (ZCC (Zw3 a.Cells) (Zw3 b.Cells)):=by grind[ZH3,ZLz]
theorem ZKV {a b:Str} (c:a.length<=300) (d:b.length<=300):Sz 10 (ZCC (ZDs a) (ZDs b)):=by grind[ZII,ZLz]
theorem ZJC:Sz 1 1:=by simp_all[Sz]
theorem ZSS:ZDQ 1 1=some (fOf 1):=by
 have:=ZIs 1 1 (by decide) (by decide) (by decide) (by decide) (by decide)
 rwa [show Rat.divInt 1 1=1 by decide+kernel]at this
theorem ZSR:ZDQ 4 1=some (fOf 4):=by
 have:=ZIs 4 1 (by decide) (by decide) (by decide) (by decide) (by decide)
 rwa [show Rat.divInt 4 1=4 by decide+kernel]at this
theorem ZMg:Sz 3 4:=by simp_all[Sz]
theorem ZMD {x:Rat} {k:Nat} (h:Sz k x) (a:1<=k):Sz (k+2) (ZNA x):=by
 unfold ZNA;split
 ·have:=ZFN.add h.neg;grind
 ·exact h.mono (by omega)
theorem ZVC {v n a:Rat} (b:Sz 10 v) (d:Sz 10 n) (f:Sz 30 a):Zzi false false (fOf v) (fOf n) (fOf a) [] []=some (fOf ((v+v+n+(1 - a)) / 4)):=by
 unfold Zzi;have c:=b.add b;have e:=c.add d;have g:Sz 32 (1 - a):=by rw[show (1:Rat) - a=1+ -a by grind];exact(ZJC.add f.neg).mono (by decide)
 have h:=e.add g;rw[ZIu b b (by decide),Z0N,ZIu c d (by decide),Z0N,ZSS,Z0N,ZJR ZJC f (by decide),Z0N,ZIu e g (by decide),Z0N,ZSR,Z0N,
  ZLG (by decide) h ZMg (by decide),Z0N]
theorem ZVD {a b:G_api_Column} (j:ZIG a) (k:ZIG b) {v n:Rat} (f:Sz 10 v) (g:Sz 10 n):
  Zwk false a b false false (fOf v) (fOf n) [] []=some (fOf ((v+v+n+(1 - ZNA (ZxD a.Cells - ZxD b.Cells))) / 4)):=by
 unfold Zwk;have m:=j.rows;have o:=k.rows;have e:Sz 10 (ZxD a.Cells):=ZGu (by omega) (by decide);have i:Sz 10 (ZxD b.Cells):=ZGu (by omega) (by decide);have d:Sz 21 (ZxD a.Cells - ZxD b.Cells):=by rw[Rat.sub_eq_add_neg];exact e.add i.neg
 rw[cond_false,ZNb j.cells (by omega),Z0N,ZNb k.cells (by omega),Z0N,ZJR e i (by decide),Z0N,ZJG (d.wq (by decide)),Z0N];have c:=ZMD d (by decide);unfold ZNA at c|-
 by_cases h:ZxD a.Cells - ZxD b.Cells < 0
 ·rw[decide_eq_true ((ZLB _ _).2 h),cond_true,ZIH,Z0N,ZJR ZFN d (by decide),Z0N];rw[if_pos h]at c|-
  exact ZVC f g (c.mono (by decide))
 ·rw[decide_eq_false (fun l=>h ((ZLB _ _).1 l)),cond_false];rw[if_neg h]at c|-
  exact ZVC f g (c.mono (by decide))
theorem ZWe {a b:G_api_Column} (c:ZIG a) (d:ZIG b):ZDP a b=some (fOf (ZIU a b)):=by
 unfold ZDP ZIU ofQ;have f:=ZL9 c.rows d.rows;have e:=ZKV c.name d.name;rw[ZSi c.rows d.rows,Option.bind_some,ZQB c.name d.name,Option.bind_some,ZJG (f.wq (by decide)),Option.bind_some,ZLA]
 by_cases h1:ZCC (Zw3 a.Cells) (Zw3 b.Cells)=0
 ·rw[decide_eq_true h1,cond_true,ZJG (e.wq (by decide)),Option.bind_some,ZLA]
  grind[Zwk,ZIH,ZVD]
 grind[ZVD]
theorem ZNZ {v n s t:Rat} (d:0<=v/\v<=1) (b:0<=n/\n<=1) (a:0<=s/\s<=1) (c:0<=t/\t<=1):0<=ofQ v n s t/\ofQ v n s t<=1:=by
 grind[ofQ,ZNA]
theorem ZQA {v n s t:Rat}:ofQ v n s t=ofQ v n t s:=by
 grind[ofQ,ZNA]
theorem ZPo (a b:G_api_Column):ZIU a b=ZIU b a:=by unfold ZIU;rw[ZJK (ZFL a.Cells).2 (ZFL b.Cells).2,ZJK (ZGt a.Name).2 (ZGt b.Name).2,ZQA]
theorem ZMA (a b:G_api_Column):0<=ZIU a b/\ZIU a b<=1:=
 ZNZ (ZIn (ZFL _).2 (ZFL _).2) (ZIn (ZGt _).2 (ZGt _).2) (ZIk _) (ZIk _)
theorem ZLO (a:G_api_Column):ZIU a a=if ZDs a.Name=[]then (if Zw3 a.Cells=[]then 0 else 3 / 4)else (if Zw3 a.Cells=[]then 1 / 2 else 1):=by
 grind[ZIU,ZJL,ofQ,ZNA]
theorem ZTg {a b:G_api_Column} (c:ZIG a) (d:ZIG b):Sz 100 (ZIU a b):=by
 unfold ZIU ofQ;have h:=c.rows;have m:=d.rows;have e:=ZL9 c.rows d.rows;have i:=ZKV c.name d.name;have f:Sz 10 (ZxD a.Cells):=ZGu (by omega) (by decide);have k:Sz 10 (ZxD b.Cells):=ZGu (by omega) (by decide);have l:Sz 21 (ZxD a.Cells - ZxD b.Cells):=by rw[Rat.sub_eq_add_neg];exact f.add k.neg
 have j:=ZMD l (by decide);split
 ·exact ZFN.mono (by decide)
 ·have g:Sz 32 (1 - ZNA (ZxD a.Cells - ZxD b.Cells)):=by rw[Rat.sub_eq_add_neg];exact(ZJC.add j.neg).mono (by decide)
  exact(Sz.div (by decide) (((e.add e).add i).add g) ZMg).mono (by decide)
end Go.Proofs
namespace Go.Proofs
open Go Eng
theorem ZIf {l r:List Str} (c:r.Pairwise (fun a b=>a<=b)) (d:r.Nodup) (h:∀x,x∈l<->x∈r):ZxF l=r:=
 ZGX (ZHN l) c (ZEg l) d fun x=>by rw[ZDG,h]
theorem ZO7:Zpa 1=some (fOf 1):=ZIw 1 (by decide) (by decide)
end Go.Proofs
namespace Go.Proofs
open Go Eng
theorem ZIJ {d:ZbZ} (c:Zth d) {l:List Str} (a:1<=l.length) (b:l.length<=1000):wp (ZoS d l) (fun r=>r.1∈l/\Zth r.2):=by
 grind[ZoS,ZhS,ZCE,ZHl,Zfa]
def ZGd:List Str:=[[97],[98],[99],[49],[50],[51],[49,48],[120],[45,49,46,53],[100],[],[49,46,50,46,51],[49,46,53,48]]++((List.range 12).map fun i:Nat=>Lib.itoa ((i:Int) - 3))++((List.range 14).map fun i:Nat=>([107]:Str)++Lib.itoa (i:Int))++
 [[105,100],[110,97,109,101],[85,110,105,116,32,80,114,105,99,101],[99,105,116,121],[117,110,105,116],[112,114,105,99,101],[105,100,50],[116],[111,114,100,101,114,115],[115,97,109,101]]
theorem ZMw:(ZGd.all fun s=>ZJX s&&decide (s.length<=10))=true:=by kernel_rfl
theorem ZKd {s:Str} (h:s∈ZGd):ZJX s=true/\s.length<=10:=by grind[ZMw]
def ZJk (c:G_api_Cell):Prop:=c.Text∈ZGd/\(c.Null=true->c.Text=[])
theorem ZKz:ZJk ⟨true,[]⟩:=⟨by decide+kernel,fun _=>rfl⟩
theorem ZGP {s:Str} (h:s∈ZGd):ZJk ⟨false,s⟩:=⟨h,fun h=>by grind⟩
theorem ZOE {l:List Str} (h:l.all (fun s=>ZGd.contains s)=true) {s:Str} (a:s∈l):s∈ZGd:=by simp_all
def ZSb (n:Nat) (c:G_api_Column):Prop:=c.Name∈ZGd/\c.Cells.length=n/\∀x∈c.Cells,ZJk x
theorem ZVQ {n:Int} (h: -3<=n/\n<=8):Lib.itoa n∈ZGd:=by
 have a:((List.range 12).all fun i:Nat=>ZGd.contains (Lib.itoa ((i:Int) - 3)))=true:=by kernel_rfl
 have:=Z0w.1 a (n+3).toNat (List.mem_range.2 (by omega));grind
theorem k_d {n:Int} (h:0<=n/\n < 14):([107]:Str)++Lib.itoa n∈ZGd:=by
 grind[ZGd,Lib.itoa]
theorem ZTj {d:ZbZ} (f:Zth d):wp (Zv5 d) (fun r=>ZJk r.1/\Zth r.2):=by
 unfold Zv5;rw[ZhS];refine Zjf (ZCE f (by omega)) fun⟨q,g⟩ ⟨e,b⟩=> ?_
 dsimp only at e b|-
 rw[Zoy];refine⟨fun _=> ?_,fun _=> ?_⟩
 ·grind[Zfa,ZKz]
 ·rw[ZhS];refine Zjf (ZIJ b (by decide) (by decide)) fun⟨s,h⟩ ⟨c,a⟩=> ?_
  dsimp only at c a|-
  rw[Zfa];exact⟨ZGP (ZOE (by decide+kernel) c),a⟩
theorem ZOY {d:ZbZ} (f:Zth d):wp (Zua d) (fun r=>ZJk r.1/\Zth r.2):=by
 unfold Zua;rw[ZhS];refine Zjf (ZCE f (by omega)) fun⟨q,g⟩ ⟨e,b⟩=> ?_
 dsimp only at e b|-
 rw[Zoy];refine⟨fun _=> ?_,fun _=> ?_⟩
 ·grind[Zfa,ZKz]
 rw[Zoy];refine⟨fun _=> ?_,fun _=> ?_⟩
 ·rw[ZhS];refine Zjf (ZIJ b (by decide) (by decide)) fun⟨s,h⟩ ⟨c,a⟩=> ?_
  dsimp only at c a|-
  rw[Zfa];exact⟨ZGP (ZOE (by decide+kernel) c),a⟩
 grind[ZhS,Zjf,ZCE,ZBj,Zhr,Zfa,ZiH,ZGP,ZVQ]
theorem ZN3 {n:Int} (h:0<=n/\n < 14):(Lib.itoa n).length<=2:=by
 have a:((List.range 14).all fun i:Nat=>decide ((Lib.itoa (i:Int)).length<=2))=true:=by kernel_rfl
 have:=of_decide_eq_true (Z0w.1 a n.toNat (List.mem_range.2 (by omega)));grind
theorem ZPm {d:ZbZ} (hd:Zth d) (rows:Nat) (hr:rows<=14):
  wp (Zuc d (rows:Int)) (fun r=>ZSb rows r.1/\Zth r.2):=by
 unfold Zuc;rw[ZhS];refine Zjf (ZIJ hd (by decide) (by decide)) fun⟨nm,d1⟩ ⟨hnm0,hd1⟩=> ?_
 dsimp only at hd1 hnm0|-
 have hnm:nm∈ZGd:=ZOE (by decide+kernel) hnm0;rw[ZhS];refine Zjf (ZCE hd1 (by omega)) fun⟨kind,d2⟩ ⟨_,hd2⟩=> ?_
 dsimp only at hd2|-
 rw[ZhS];refine Zjf (Zti ZFd rows (by omega) (fun i (t:ZbZ×List G_api_Cell)=>(kind,(rows:Int),i,t.1,([]:Str),nm,([]:List G_api_Cell),t.2))
  (fun k t=>Zth t.1/\t.2.length=k/\∀c∈t.2,ZJk c) (Q:=fun x=>x.2.2.1=nm/\Zth x.1/\x.2.2.2.2.length=rows/\∀c∈x.2.2.2.2,ZJk c) (d2,[]) ⟨hd2,rfl,fun c hc=>absurd hc (by simp)⟩ ?_ ?_) ?_
 ·rintro rec k ⟨d,cs⟩ hk ⟨hd,hlen,hcs⟩ ih;dsimp only at hd hlen hcs ih;have next:∀(x:G_api_Cell) (d':ZbZ),ZJk x->Zth d'->wp (ZpI (fun kind t15 i d t4 c t4_1 c_1=>rec (kind,t15,i,d,t4,c,t4_1,c_1)) kind (rows:Int) (k:Int) d' [] nm x [] cs) (fun x=>x.2.2.1=nm/\Zth x.1/\x.2.2.2.2.length=rows/\∀c∈x.2.2.2.2,ZJk c):=by
   intro x d' hx hd';unfold ZpI;rw[Zhr,Zhr];refine⟨ZpN (by grind),ZiH (by omega),ih (d',cs++[x]) ⟨hd',by simp_all,fun c hc=> ?_⟩⟩;grind
  unfold Zxs ZtB;dsimp only;rw[decide_eq_true (show (k:Int) < (rows:Int) by omega),cond_true,ZhS];refine Zjf (ZTj hd) fun⟨x,d3⟩ ⟨hx,hd3⟩=> ?_
  dsimp only at hx hd3|-
  rw[Zoy];refine⟨fun _=> ?_,fun _=> ?_⟩
  ·grind[ZhS,Zjf,ZOY]
  rw[Zoy];refine⟨fun _=> ?_,fun _=> ?_⟩
  ·grind[ZBj,ZN3,Zhr,Zr,ZGP,k_d]
  rw[Zoy];refine⟨fun _=> ?_,fun _=> ?_⟩
  ·rw[ZhS];exact Zjf (ZIJ hd3 (by decide) (by decide)) fun⟨s,d4⟩ ⟨hs,hd4⟩=>next _ d4 (ZGP (ZOE (by decide+kernel) hs)) hd4
  simp_all
 ·grind[Zxs,ZtB,decide_eq_false,Zfa]
 ·rintro⟨d,_,nm',_,cs⟩ ⟨h0,h1,h2,h3⟩;unfold Zy4;dsimp only at h0 h1 h2 h3|-
  subst h0;rw[Zfa];exact⟨⟨hnm,h2,h3⟩,h1⟩
end Go.Proofs
namespace Go.Proofs
open Go Eng
structure ZI9 (t:G_api_Table):Prop where
 id:0<=t.ID/\t.ID<=1000
 name:t.Name∈ZGd
 cols:t.Columns.length<=3
 rows:∃n:Nat,n<=6/\∀c∈t.Columns,ZSb n c
theorem ZQT {x:G_api_Cell} (h:ZJk x):ZIC x=true:=by
 unfold ZIC;rw[(ZKd h.1).1,Z0v];cases hn:x.Null with
 |false=>rfl
 |true=>rw[h.2 hn];rfl
theorem ZSp {t:G_api_Table} (h:ZI9 t):ZuN t=true:=by
 obtain⟨n,m,f⟩:=h.rows;have d:=h.cols;have e:=h.id;unfold ZuN;have g:t.Columns≠[]->Zr9 t=(n:Int):=fun k=>by
  unfold Zr9;cases hcs:t.Columns with
  |nil=>simp_all
  |cons c l=>rw[<-(f c (by simp_all)).2.1]
 have j:0<=Zr9 t/\Zr9 t<=6:=by
  grind[Zr9]
 rw[decide_eq_true e.1,decide_eq_true (show t.ID<=1073741824 by omega),(ZKd h.name).1,decide_eq_true (show (t.Columns.length:Int)<=64 by omega),decide_eq_true (show Zr9 t<=4096 by omega)];simp only[Bool.true_and,List.all_eq_true];intro c a;have b:=f c a;unfold ZPn;rw[(ZKd b.1).1,g (List.ne_nil_of_mem a),b.2.1,Bool.true_and,beq_self_eq_true,Bool.true_and,List.all_eq_true];exact fun x i=>ZQT (b.2.2 x i)
theorem ZNJ {t:G_api_Table} (h:ZI9 t):ZIc t:=by obtain⟨n,e,b⟩:=h.rows;refine⟨by have:=(ZKd h.name).2;omega,fun c a=>⟨by have:=(ZKd (b c a).1).2;omega,fun x d=>by have:=(ZKd ((b c a).2.2 x d).1).2;omega⟩⟩
theorem ZJH {t:G_api_Table} (h:ZI9 t):Znd t=some true:=by have:=h.cols;grind[ZLv,ZNJ,ZSp]
theorem ZM9 {d:ZbZ} (C:Zth d) {id:Int} (h:0<=id/\id<=1000):wp (Zsd d id) (fun r=>(ZI9 r.1/\r.1.ID=id)/\Zth r.2):=by
 unfold Zsd;rw[ZhS];refine Zjf (ZIJ C (by decide) (by decide)) ?_;rintro⟨p,E⟩ ⟨b,l⟩;dsimp only at b l|-
 have i:p∈ZGd:=ZOE (by decide+kernel) b;rw[ZhS];refine Zjf (ZCE l (n:=7) (by omega)) ?_;rintro⟨q,G⟩ ⟨z,f⟩;dsimp only at z f|-
 obtain⟨n,rfl⟩:∃n:Nat,q=(n:Int):=⟨q.toNat,by omega⟩;rw[ZhS];refine Zjf (ZCE f (n:=3) (by omega)) ?_;rintro⟨q,B⟩ ⟨t,g⟩;dsimp only at t g|-
 obtain⟨m,D⟩:∃m:Nat,1+q=(m:Int):=⟨(1+q).toNat,by omega⟩;rw[D,Zhr,ZhS];refine⟨ZiH (by omega),Zjf (ZxI ZFF (fun s:Nat×ZbZ×List G_api_Column=>((n:Int),(s.1:Int),s.2.1,(0:Int),([]:Str),id,p,([]:List G_api_Column),s.2.2))
  (fun s=>Zth s.2.1/\s.2.2.length+s.1=m/\∀c∈s.2.2,ZSb n c) (fun s=>s.1)
  (Q:=fun x=>∃d e,x=(d,(0:Int),([]:Str),id,p,([]:List G_api_Column),e)/\Zth d/\e.length<=3/\∀c∈e,ZSb n c) (m,B,[]) ⟨g,by simp,fun c j=>absurd j (by simp)⟩ (by omega) ?_) ?_⟩
 ·rintro A ⟨k,d,e⟩ ⟨o,u,v⟩ y;dsimp only at o u v y;unfold ZCi Zye;dsimp only
  by_cases hk:0 < k
  ·rw[decide_eq_true (show (k:Int) > 0 by omega),cond_true,ZhS];refine Zjf (ZPm o n (by omega)) ?_;rintro⟨c,w⟩ ⟨j,a⟩;dsimp only at j a|-
   rw[Zhr,Zhr,show (k:Int) - 1=((k - 1:Nat):Int) by omega];refine⟨ZpN (by grind),ZiH (by omega),y (k - 1,w,e++[c]) ⟨a,by grind,fun x F=> ?_⟩ (by omega)⟩;grind
  grind[Zfa]
 ·rintro _ ⟨d,e,rfl,o,u,v⟩;unfold ZzQ ZvR;dsimp only;rw[ZhS];refine Zjf (ZCE o (n:=15) (by omega)) ?_;rintro⟨q,w⟩ ⟨_,a⟩;dsimp only at a|-
  rw[Zoy];refine⟨fun _=> ?_,fun _=> ?_⟩
  ·rw[Zfa];exact⟨⟨⟨h,i,by simp,0,by omega,fun c j=>absurd j (by simp)⟩,rfl⟩,a⟩
  ·rw[Zfa];exact⟨⟨⟨h,i,u,n,by omega,v⟩,rfl⟩,a⟩
theorem ZPk {t:G_api_Table} (h:ZI9 t):ZtG t=some t:=by
 obtain⟨n,g,f⟩:=h.rows;have j:=h.cols;refine Zo1 ?_;unfold ZtG;rw[ZhS];refine Zjf (Zpy ZE8 t.Columns (by omega) (fun i (a:List G_api_Column)=>(t.Columns,(t.Columns.length:Int),i,(0:Int),([]:Str),t.ID,t.Name,([]:List G_api_Column),a)) (fun k a=>a=t.Columns.take k)
 (Q:=fun x=>x=((0:Int),([]:Str),t.ID,t.Name,([]:List G_api_Column),t.Columns)) [] rfl ?_ ?_) ?_
 ·rintro d k a b rfl e;unfold Zw8 Ztl;dsimp only;have c:=f _ (Z0A b);rw[decide_eq_true (show (k:Int) < (t.Columns.length:Int) by omega),cond_true,ZoM b,Z0N,Zhr,Zhr,Zhr];refine⟨ZpN (by rw[c.2.1];omega),ZpN (by grind),ZiH (by omega),e _ (Z0K b).symm⟩
 all_goals simp_all[Zw8,Ztl,Zfa,ZyR]
theorem ZNX {t:G_api_Table} (h:ZI9 t) {l:List Int} (u:l.length<=3) (o:∀k∈l,0<=k/\k < (t.Columns.length:Int)):wp (ZuE t l) (fun r=>ZI9 r.1/\r.1.ID=t.ID):=by
 obtain⟨n,p,g⟩:=h.rows;have d:=h.cols;unfold ZuE;rw[ZJH h,Option.bind_some,Bool.not_true,cond_false,ZhS];refine Zjf (Zpy ZEb l (by omega) (fun i (a:List G_api_Column)=>(l,l,(l.length:Int),i,t,(0:Int),([]:Str),t.ID,t.Name,([]:List G_api_Column),a)) (fun k a=>a.length=k/\∀c∈a,ZSb n c)
  (Q:=fun x=>∃a,x= .brk (l,(0:Int),([]:Str),t.ID,t.Name,([]:List G_api_Column),a)/\a.length<=3/\∀c∈a,ZSb n c) [] ⟨rfl,fun c g=>absurd g (by simp)⟩ ?_ ?_) ?_
 ·rintro m k a b ⟨f,j⟩ s;unfold Zvd ZrG ZsQ;dsimp only;have q:=o _ (List.getElem_mem b);have e:(l[k]).toNat < t.Columns.length:=by omega
  rw[decide_eq_true (show (k:Int) < (l.length:Int) by omega),cond_true,ZoM b,Option.bind_some,decide_eq_false (show ¬l[k] < 0 by omega),cond_false,decide_eq_false (show ¬l[k]>=(t.Columns.length:Int) by omega),cond_false,Zin q.1 e,Option.bind_some,Zhr,Zhr];grind[ZpN,List.length_singleton,ZiH]
 ·grind[Zvd,ZrG,Zfa]
 ·rintro _ ⟨a,rfl,f,j⟩;dsimp only;unfold ZwK;rw[decide_eq_false (show ¬(l.length:Int) > 64 by omega),cond_false,Zfa];exact⟨⟨h.id,h.name,f,n,p,j⟩,rfl⟩
theorem ZOI {t:G_api_Table} (h:ZI9 t) {l:List Int} (J:l.length<=6) (E:∀k∈l,0<=k/\k < Zr9 t):wp (ZvD t l) (fun r=>ZI9 r.1/\r.1.ID=t.ID):=by
 obtain⟨n,L,f⟩:=h.rows;have z:=h.cols;unfold ZvD;rw[ZJH h,Option.bind_some,Bool.not_true,cond_false,ZhS];refine Zjf (Zpy ZEn l (by omega) (fun i (_:Unit)=>(l,l,(l.length:Int),i,t,(0:Int),([]:Str),([]:List G_api_Column))) (fun _ _=>True)
  (Q:=fun x=>x= .brk (l,t,(0:Int),([]:Str),([]:List G_api_Column))) () trivial ?_ ?_) ?_
 ·rintro u k _ g _ w;unfold Zv3 Zr6 Ztw;dsimp only;have N:=E _ (List.getElem_mem g);rw[decide_eq_true (show (k:Int) < (l.length:Int) by omega),cond_true,ZoM g,Option.bind_some,decide_eq_false (show ¬l[k] < 0 by omega),cond_false,ZIm,Option.bind_some,decide_eq_false (show ¬l[k]>=Zr9 t by omega),cond_false,Zhr];exact⟨ZiH (by omega),w () trivial⟩
 ·grind[Zv3,Zr6,Zfa]
 ·rintro _ rfl;dsimp only;unfold Zxl;rw[decide_eq_false (show ¬(l.length:Int) > 4096 by omega),cond_false,ZhS];have s:∀c∈t.Columns,∀k∈l,∃m:k.toNat < c.Cells.length,0<=k:=fun c e k q=>by
   have:=E k q;have M:Zr9 t=(n:Int):=by
    unfold Zr9;cases hcs:t.Columns with
    |nil=>simp_all
    |cons c l=>rw[<-(f c (by simp_all)).2.1]
   have A:=(f c e).2.1;simp_all
  refine Zjf (Zpy ZEm t.Columns (by omega) (fun i (a:List G_api_Column)=>(l,t.Columns,(t.Columns.length:Int),i,(0:Int),([]:Str),t.ID,t.Name,([]:List G_api_Column),a)) (fun k a=>a.length=k/\∀c∈a,ZSb l.length c)
   (Q:=fun x=>∃a,x=((0:Int),([]:Str),t.ID,t.Name,([]:List G_api_Column),a)/\a.length<=3/\∀c∈a,ZSb l.length c) [] ⟨rfl,fun c f=>absurd f (by simp)⟩ ?_ ?_) ?_
  ·rintro u i a D ⟨B,A⟩ w;unfold Zv2 Zr5;dsimp only;obtain⟨c,b⟩:∃c,c=t.Columns[i]:=⟨_,rfl⟩;have e:c∈t.Columns:=b▸List.getElem_mem D;have H:=f c e;rw[decide_eq_true (show (i:Int) < (t.Columns.length:Int) by omega),cond_true,ZoM D,Option.bind_some,<-b,ZhS];refine Zjf (Zpy ZEl l (by omega) (fun j (d:List G_api_Cell)=>(l,t.Columns,(t.Columns.length:Int),(i:Int),l,(l.length:Int),j,(0:Int),([]:Str),t.ID,t.Name,c,c.Name,([]:List G_api_Column),a,d)) (fun k d=>d.length=k/\∀x∈d,ZJk x)
    (Q:=fun y=>∃d,y=(l,t.Columns,(t.Columns.length:Int),(i:Int),(0:Int),([]:Str),t.ID,t.Name,c.Name,([]:List G_api_Column),a,d)/\d.length=l.length/\∀x∈d,ZJk x) [] ⟨rfl,fun c f=>absurd f (by simp)⟩ ?_ ?_) ?_
   ·rintro F j d I ⟨C,G⟩ v;unfold Zv1 Zr4;dsimp only;obtain⟨m,K⟩:=s c e _ (List.getElem_mem I);rw[decide_eq_true (show (j:Int) < (l.length:Int) by omega),cond_true,ZoM I,Option.bind_some,Zin K m,Option.bind_some,Zhr,Zhr];refine⟨ZpN (by grind),ZiH (by omega),v _ ⟨by simp_all,fun x o=> ?_⟩⟩;rcases List.mem_append.1 o with o |o
    ·simp_all
    ·rw[List.mem_singleton.1 o];exact H.2.2 _ (List.getElem_mem _)
   ·grind[Zv1,Zr4,Zfa]
   ·rintro _ ⟨d,rfl,C,G⟩;unfold Zxk;dsimp only;rw[Zhr,Zhr];refine⟨ZpN (by grind),ZiH (by omega),w _ ⟨by simp_all,fun y p=> ?_⟩⟩;rcases List.mem_append.1 p with p |p
    ·simp_all
    ·rw[List.mem_singleton.1 p];exact⟨H.1,C,G⟩
  ·grind[Zv2,Zr5,Zfa]
  ·rintro _ ⟨a,rfl,B,A⟩;dsimp only;unfold Zxj;rw[Zfa];exact⟨⟨h.id,h.name,B,l.length,J,A⟩,rfl⟩
end Go.Proofs
