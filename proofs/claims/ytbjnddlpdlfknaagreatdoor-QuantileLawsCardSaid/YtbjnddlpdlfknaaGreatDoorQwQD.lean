/- Order statistics over Rat: the greatest difference of two distributions, the place of a rank, numbers below. -/
import Derived.Test.YtbjnddlpdlfknaaGreatDoorE4
set_option linter.unusedVariables false
set_option linter.unusedSimpArgs false
set_option linter.unusedSectionVars false
open List renaming length_map→ZCi, getD_eq_getElem?_getD→Zz9, length_take→ZCj
namespace Go.Proofs
open Go Eng
def gR (l:List Rat) (i:Nat):Rat:=l.getD i 0
def xOf (u v:Rat):Rat:=if v < u then v else u
theorem Zyf (u v:Rat):xOf u v=xOf v u:=by unfold xOf;split<;>split<;>grind
theorem Zy9 (u v c:Rat):xOf (u+c) (v+c)=xOf u v+c:=by unfold xOf;split<;>split<;>grind
theorem ZzU (u v:Rat):xOf u v=u∨xOf u v=v:=by
 unfold xOf;split
 ·exact .inr rfl
 ·exact .inl rfl
def Zmn (l:List Rat) (i:Nat) (x:Rat) (r:Nat):Prop:=
 i≤r∧r≤l.length∧(∀j,i≤j→j < r→gR l j≤x)∧(r < l.length→x < gR l r)
theorem Zmn.det {l:List Rat} {i:Nat} {x:Rat} {r s:Nat} (h:Zmn l i x r) (k:Zmn l i x s):r=s:=by
 obtain⟨h1,h2,h3,h4⟩:=h;obtain⟨k1,k2,k3,k4⟩:=k;rcases Nat.lt_trichotomy r s with c |c |c
 ·have a:=k3 r h1 c;have b:=h4 (by omega);grind
 ·exact c
 ·have a:=h3 s k1 c;have b:=k4 (by omega);grind
def stp (la lb i k:Nat) (m:Int):Int:=max (max m ((i:Int)*lb - (k:Int)*la)) ((k:Int)*la - (i:Int)*lb)
theorem Zyh (la lb i k:Nat) (m:Int):stp la lb i k m=stp lb la k i m:=by unfold stp;omega
inductive DistR (a b:List Rat):Nat→Nat→Int→Int→Prop
 |done {i k m}:¬(i < a.length∧k < b.length)→DistR a b i k m m
 |go {i k m r i' k'}:i < a.length→k < b.length→Zmn a i (xOf (gR a i) (gR b k)) i'→Zmn b k (xOf (gR a i) (gR b k)) k'→
   DistR a b i' k' (stp a.length b.length i' k' m) r→DistR a b i k m r
theorem DistR.det {a b:List Rat} {i k:Nat} {m r s:Int} (h:DistR a b i k m r) (g:DistR a b i k m s):r=s:=by
 induction h with
 |done c=>
  cases g with
  |done _=>rfl
  |go h1 h2 _ _ _=>exact absurd ⟨h1,h2⟩ c
 |go h1 h2 u1 u2 _ ih=>
  cases g with
  |done c=>exact absurd ⟨h1,h2⟩ c
  |go _ _ v1 v2 g=>
   have e1:=u1.det v1;have e2:=u2.det v2;subst e1 e2;exact ih g
theorem DistR.sym {a b:List Rat} {i k:Nat} {m r:Int} (h:DistR a b i k m r):DistR b a k i m r:=by
 induction h with
 |done c=>exact .done (fun⟨h1,h2⟩=>c ⟨h2,h1⟩)
 |go h1 h2 u1 u2 _ ih=>
  rw[Zyf]at u1 u2;rw[Zyh]at ih;exact .go h2 h1 u2 u1 ih
theorem DistR.self {a b:List Rat} (e:a=b) {i k:Nat} {m r:Int} (h:DistR a b i k m r) (hi:i=k) (hm:0≤m):r=m:=by
 induction h with
 |done _=>rfl
 |go h1 h2 u1 u2 _ ih=>
  subst e hi;have e1:=u1.det u2;subst e1;have:∀la x:Nat,∀m:Int,0≤m→stp la la x x m=m:=fun la x m h=>by unfold stp;omega
  rw[this _ _ _ hm]at ih;exact ih rfl hm
theorem Zz1 {la lb i k:Nat} {m:Int} (hi:i≤la) (hk:k≤lb) (hm:m≤(la*lb:Nat)):stp la lb i k m≤(la*lb:Nat):=by
 have e1:(i:Int)*lb=((i*lb:Nat):Int):=by rw[Int.natCast_mul]
 have e2:(k:Int)*la=((k*la:Nat):Int):=by rw[Int.natCast_mul]
 have h1:i*lb≤la*lb:=Nat.mul_le_mul_right _ hi;have h2:k*la≤la*lb:=by rw[Nat.mul_comm la lb];exact Nat.mul_le_mul_right _ hk
 unfold stp;rw[e1,e2];omega
theorem ZAf {la lb i k:Nat} {m:Int}:m≤stp la lb i k m:=by unfold stp;omega
theorem DistR.bound {a b:List Rat} {i k:Nat} {m r:Int} (h:DistR a b i k m r) (hm0:0≤m) (hm:m≤(a.length*b.length:Nat)):0≤r∧r≤(a.length*b.length:Nat):=by
 induction h with
 |done _=>exact⟨hm0,hm⟩
 |go h1 h2 u1 u2 _ ih=>exact ih (Int.le_trans hm0 ZAf) (Zz1 u1.2.1 u2.2.1 hm)
theorem ZwL {l:List Rat} {c:Rat} {i:Nat} (h:i < l.length):gR (l.map (· +c)) i=gR l i+c:=by unfold gR;rw[Zz9,Zz9,List.getElem?_map,List.getElem?_eq_getElem h];rfl
theorem Zmn.add {l:List Rat} {i:Nat} {x c:Rat} {r:Nat} (h:Zmn l i x r):Zmn (l.map (· +c)) i (x+c) r:=by
 obtain⟨h1,h2,h3,h4⟩:=h;refine⟨h1,by rw[ZCi];exact h2,fun j hj1 hj2=> ?_,fun hr=> ?_⟩
 ·rw[ZwL (by omega)];have:=h3 j hj1 hj2;grind
 ·rw[ZCi]at hr;rw[ZwL hr];have:=h4 hr;grind
theorem DistR.add {a b:List Rat} {i k:Nat} {m r:Int} (c:Rat) (h:DistR a b i k m r):DistR (a.map (· +c)) (b.map (· +c)) i k m r:=by
 induction h with
 |done g=>exact .done (by rw[ZCi,ZCi];exact g)
 |go h1 h2 u1 u2 _ ih=>
  have u1:=u1.add (c:=c);have u2:=u2.add (c:=c);rw[←Zy9,←ZwL h1,←ZwL h2]at u1 u2;refine .go (by rw[ZCi];exact h1) (by rw[ZCi];exact h2) u1 u2 ?_;rw[ZCi,ZCi];exact ih
def rk (n p q:Nat):Nat:=max ((n*p+(q - 1)) / q) 1 - 1
theorem Zzl {n p q:Nat} (hq:0 < q) (hn:0 < n) (h:p≤q):rk n p q < n:=by
 have h1:n*p≤n*q:=Nat.mul_le_mul_left _ h;have h2:(n*p+(q - 1)) / q≤n:=by apply Nat.le_of_lt_succ;rw[Nat.div_lt_iff_lt_mul hq,Nat.succ_mul];omega
 unfold rk;omega
theorem ZBS {n p q:Nat} (hq:0 < q):p*n≤(rk n p q+1)*q:=by
 have h:=Nat.div_add_mod (n*p+(q - 1)) q;have h1:=Nat.mod_lt (n*p+(q - 1)) hq;have h2:(n*p+(q - 1)) / q≤rk n p q+1:=by unfold rk;omega
 have h3:(n*p+(q - 1)) / q*q≤(rk n p q+1)*q:=Nat.mul_le_mul_right _ h2;rw[Nat.mul_comm q]at h;rw[Nat.mul_comm p n];omega
theorem Zzk {n p p' q:Nat} (h:p≤p'):rk n p q≤rk n p' q:=by have h1:n*p≤n*p':=Nat.mul_le_mul_left _ h;have h2:(n*p+(q - 1)) / q≤(n*p'+(q - 1)) / q:=Nat.div_le_div_right (by omega);unfold rk;omega
def Asc (l:List Rat):Prop:=∀i j,i≤j→j < l.length→gR l i≤gR l j
theorem Zvc {l:List Rat} {i:Nat} (h:i < l.length):gR l i=l[i]:=by unfold gR;rw[Zz9,List.getElem?_eq_getElem h];rfl
theorem Asc.add {l:List Rat} (c:Rat) (h:Asc l):Asc (l.map (· +c)):=fun i j hij hj=>by rw[ZCi]at hj;rw[ZwL hj,ZwL (by omega)];have:=h i j hij hj;grind
theorem Zvn {l:List Rat} (h:Asc l) {r:Nat} (hr:r < l.length):r+1≤l.countP (fun y=> !decide (gR l r < y)):=by
 have e:l=l.take (r+1)++l.drop (r+1):=(List.take_append_drop _ _).symm;have h1:(l.take (r+1)).countP (fun y=> !decide (gR l r < y))=(l.take (r+1)).length:=by rw[List.countP_eq_length];intro y hy;obtain⟨i,hi,rfl⟩:=List.getElem_of_mem hy;rw[ZCj]at hi;have:=h i r (by omega) hr;rw[Zvc (i:=i) (by omega)]at this;rw[List.getElem_take];simp only[Bool.not_eq_true',decide_eq_false_iff_not];grind
 rw[ZCj]at h1;have h2:l.countP (fun y=> !decide (gR l r < y))=(l.take (r+1)).countP (fun y=> !decide (gR l r < y))+(l.drop (r+1)).countP (fun y=> !decide (gR l r < y)):=by rw[←List.countP_append,←e]
 omega
theorem ZzI {l:List Rat} {f:Rat} {i:Nat} (hi:i≤l.length) (h:Asc l) (h1:∀j,i≤j→j < l.length→f < gR l j) (h2:0 < i→gR l (i - 1)≤f):Asc (l.take i++f::l.drop i):=by
 have hl:(l.take i++f::l.drop i).length=l.length+1:=by rw[List.length_append,List.length_cons,ZCj,List.length_drop];omega
 have hg:∀j,j < l.length+1→gR (l.take i++f::l.drop i) j=if j < i then gR l j else if j=i then f else gR l (j - 1):=by
  intro j hj;have ht:(l.take i).length=i:=by rw[ZCj];omega
  unfold gR;rw[Zz9,List.getElem?_append,ht];split
  ·rename_i c;rw[List.getElem?_take,if_pos c,Zz9]
  ·rename_i c;split
   ·rename_i d;rw[d,Nat.sub_self];rfl
   ·rename_i d;rw[show j - i=(j - 1 - i)+1 from by omega,List.getElem?_cons_succ,List.getElem?_drop,Zz9,show i+(j - 1 - i)=j - 1 from by omega]
 intro j k hjk hk;rw[hl]at hk;rw[hg j (by omega),hg k hk];have hb:∀j,j < i→gR l j≤f:=fun j hj=>by have a:=h j (i - 1) (by omega) (by omega);have b:=h2 (by omega);grind
 split
 ·rename_i c;split
  ·exact h j k hjk (by omega)
  ·split
   ·exact hb j c
   ·exact h j (k - 1) (by omega) (by omega)
 ·rename_i c;rw[if_neg (show ¬k < i from by omega)];split
  ·rename_i d;split
   ·exact Rat.le_refl
   ·have:=h1 (k - 1) (by omega) (by omega);grind
  ·rename_i d;rw[if_neg (show ¬k=i from by omega)];exact h (j - 1) (k - 1) (by omega) (by omega)
end Go.Proofs
