/- Plain laws over the specs, part 2. -/
import Derived.Test.YthefajbigloihaaGreatDoorScM1
import Derived.Test.YthefajbigloihaaGreatDoorScM0
import Derived.Test.YthefajbigloihaaGreatDoorQ
import Derived.Test.YthefajbigloihaaGreatDoorE4
import Derived.Test.YthefajbigloihaaGreatDoorScU
set_option linter.unusedVariables false
set_option linter.unusedSimpArgs false
set_option linter.unusedSectionVars false
open Bool renaming not_true→ZJY, false_and→ZJX, true_and→ZJZ, and_eq_true→ZHb
open Int renaming toNat_natCast→ZJ0
open List renaming length_append→ZKe, length_cons→ZKf, length_singleton→ZKj, all_eq_true→ZJ1, length_take→ZKk, dropWhile_cons→ZJ5, mem_append→ZKl, take_succ_eq_append_getElem→ZKs, getElem_mem→ZKc, take_length→ZKr, filter_cons→ZJ9, filter_append→ZJ8, length_drop→ZKg, mem_cons→ZKm, getElem?_eq_getElem→ZKb, mem_singleton→ZKn, getElem_of_mem→ZKd, length_map→ZKi, length_filter_le→ZKh, not_mem_nil→ZKo, drop_eq_getElem_cons→ZJ7, cons.injEq→ZJ2, dropWhile_sublist→ZJ6, contains_cons→ZJ3, takeWhile_append_dropWhile→ZKp, take_append_drop→ZKq, contains_iff_mem→ZJ4, getElem?_cons_zero→ZKa
open Nat renaming le_trans→ZKt, zero_le→ZKw, lt_or_ge→ZKu, max_eq_left→ZKv
open Option renaming bind_some→ZKx, some.injEq→ZKy
namespace Go.Proofs
open Go Eng
theorem Zz0 (b:UInt8) (k:UInt8):(((b.toNat:Nat):Int) == ((k.toNat:Nat):Int))=(b == k):=by
 rw[Bool.eq_iff_iff,beq_iff_eq,beq_iff_eq];constructor
 ·intro h;exact UInt8.toNat_inj.1 (by omega)
 ·rintro rfl;rfl
theorem ZES (b:UInt8):(decide (((b.toNat:Nat):Int)≥48)&&decide (((b.toNat:Nat):Int)≤57))=isD b:=by
 unfold isD;congr 1
 ·rw[decide_eq_decide];omega
 ·rw[decide_eq_decide];omega
theorem ZFq (p:UInt8→Bool) (l:Str):l.take (l.takeWhile p).length=l.takeWhile p:=by
 conv=>lhs;arg 2;rw[←ZKp (p:=p) (l:=l)]
 rw[List.take_left' rfl]
theorem ZDg (p:UInt8→Bool) (l:Str):l.drop (l.takeWhile p).length=l.dropWhile p:=by
 conv=>lhs;arg 2;rw[←ZKp (p:=p) (l:=l)]
 rw[List.drop_left' rfl]
theorem ZG3 {p:UInt8→Bool} {l:Str} {k:Nat} (h:∀j (hj:j < l.length),j < k→p l[j]=true) (hk:k≤l.length) (h2:∀hk:k < l.length,p l[k]=false):(l.takeWhile p).length=k:=by
 have hs:=Zz7 (p:=p) (l.take k) (l.drop k) (ZJ1.2 fun b hb=>by
  obtain⟨j,hj,rfl⟩:=ZKd hb;rw[ZKk]at hj;rw[List.getElem_take];exact h j (by omega) (by omega)) (fun b r e=>by
  have hlt:k < l.length:=by have:=congrArg List.length e;rw[ZKg,ZKf]at this;omega
  rw[ZJ7 hlt]at e;simp only[ZJ2]at e;rw[←e.1];exact h2 hlt)
 rw[ZKq]at hs;rw[hs.1,ZKk];omega
theorem ZEk {neg:Bool} {D p:Str} (hl:p.length≤9):Zn0 neg D p false=some (bif p.all isD then (neg,D,p,true)else (false,[],[],false)):=by
 unfold Zn0;rw[cond_false];have key:wp (ZoG big neg D p 0) (fun x=>x=bif p.all isD then .brk (neg,D,p)else .ret (false,[],[],false)):=by
  refine ZyT Zxm p (by omega) (fun i (_:Unit)=>(neg,D,p,i)) (fun k _=>(p.take k).all isD=true) () (by simp) ?_ ?_
  ·rintro rec k _ hk ha ih;unfold Zsy Zqi ZqZ;dsimp only;rw[decide_eq_true (show (k:Int) < (p.length:Int) by omega),cond_true,Zur hk,ZKx];have hs:(p.take (k+1)).all isD=isD p[k]:=by rw[ZKs hk,List.all_append,ha];simp
   have hno:isD p[k]=false→p.all isD=false:=fun h=>by rw[Bool.eq_false_iff];intro h2;rw[ZJ1.1 h2 _ (ZKc hk)]at h;cases h
   have hd:=ZES p[k]
   by_cases h1:((p[k].toNat:Nat):Int) < 48
   ·rw[decide_eq_true h1,cond_true,cond_true,ZnC,hno (by rw[←hd,decide_eq_false (by omega)];rfl),cond_false]
   ·rw[decide_eq_false h1,cond_false,ZKx]
    by_cases h2:((p[k].toNat:Nat):Int) > 57
    ·rw[decide_eq_true h2,cond_true,ZnC,hno (by rw[←hd,decide_eq_true (by omega),decide_eq_false (by omega)];rfl),cond_false]
    ·rw[decide_eq_false h2,cond_false,ZnE];exact⟨ZnI (by omega),ih () (by rw[hs,←hd,decide_eq_true (by omega),decide_eq_true (by omega)];rfl)⟩
  ·rintro rec _ ha;unfold Zsy Zqi;dsimp only;rw[ZKr]at ha;rw[decide_eq_false (show ¬(p.length:Int) < (p.length:Int) by omega),cond_false,ZnC,ha,cond_true]
 obtain⟨x,hx,rfl⟩:=key;rw[hx,ZKx];cases p.all isD<;>rfl
theorem ZEl {s:Str} (neg:Bool) (hl:s.length≤9223372036854775807):Zn4 s neg=some (match Zyl s with |some x=>(neg,x.1,x.2,true) |none=>(false,[],[],false)):=by
 refine Zpf ?_;unfold Zn4;rw[ZnF];refine ZnR (ZAf Zxn (fun(k:Nat)=>(s,neg,(k:Int))) (fun k=>k≤s.length∧∀j (hj:j < s.length),j < k→isD s[j]=true) (fun k=>s.length - k)
  (Q:=fun x=>x=(s,neg,(((s.takeWhile isD).length:Nat):Int))) 0 ⟨ZKw _,fun j _ h=>absurd h (Nat.not_lt_zero _)⟩ (by omega) ?_) ?_
 ·rintro rec k ⟨hk,ha⟩ ih;unfold Zve Zsz Zpw;dsimp only;have stop:(∀h:k < s.length,isD s[k]=false)→wp (some (s,neg,(k:Int))) (fun x=>x=(s,neg,(((s.takeWhile isD).length:Nat):Int))):=fun h=>by rw[ZnC,ZG3 ha hk h]
  rw[ZnW];refine⟨fun h=> ?_,fun h=> ?_⟩
  ·simp only[decide_eq_true_eq]at h;have hk':k < s.length:=by omega
   have hd:=ZES s[k];rw[Zur hk',ZKx];have go:isD s[k]=true→wp (chk (inK .i64 ((k:Int)+1)) <| rec (s,neg,(k:Int)+1)) (fun x=>x=(s,neg,(((s.takeWhile isD).length:Nat):Int))):=fun hdk=>by
    rw[ZnE];refine⟨ZnI (by omega),ih (k+1) ⟨by omega,fun j hj hjk=> ?_⟩ (by omega)⟩;rcases ZKu j k with h1 |h1
    ·exact ha j hj h1
    ·obtain rfl:j=k:=by omega
     exact hdk
   cases h1:decide (((s[k].toNat:Nat):Int)≥48)with
   |false=>
    rw[cond_false,cond_false];exact stop fun _=>by rw[←hd,h1];rfl
   |true=>
    rw[cond_true,ZKx];cases h2:decide (((s[k].toNat:Nat):Int)≤57)with
    |false=>
     rw[cond_false];exact stop fun _=>by rw[←hd,h1,h2];rfl
    |true=>
     rw[cond_true];exact go (by rw[←hd,h1,h2];rfl)
  ·simp only[decide_eq_false_iff_not]at h;rw[cond_false];exact stop fun h'=>absurd h' (by omega)
 ·rintro x rfl;dsimp only;unfold Ztk Zq0;have hle:(s.takeWhile isD).length≤s.length:=(List.takeWhile_sublist _).length_le;have hdl:(s.takeWhile isD).length+(s.dropWhile isD).length=s.length:=by rw[←ZKe,ZKp]
  rw[ZnE,ZJ0,ZFq];refine⟨ZpY (by omega), ?_⟩;unfold Zyl
  by_cases h1:1≤(s.takeWhile isD).length
  ·rw[decide_eq_false (show ¬(((s.takeWhile isD).length:Nat):Int) < 1 by omega),cond_false,decide_eq_true h1,ZJZ]
   by_cases h2:(s.takeWhile isD).length≤15
   ·rw[decide_eq_false (show ¬(((s.takeWhile isD).length:Nat):Int) > 15 by omega),cond_false,decide_eq_true h2,cond_true];cases hR:s.dropWhile isD with
    |nil=>
     rw[hR]at hdl;simp only[List.length_nil]at hdl;rw[show ((((s.takeWhile isD).length:Nat):Int) == (s.length:Int))=true by rw[beq_iff_eq];omega,cond_true,ZnC]
    |cons c p=>
     rw[hR]at hdl;simp only[ZKf]at hdl;have hk':(s.takeWhile isD).length < s.length:=by omega
     have hgc:s[(s.takeWhile isD).length]=c:=by have h3:=ZDg isD s;rw[ZJ7 hk',hR]at h3;simp only[ZJ2]at h3;exact h3.1
     have hdp:s.drop ((((s.takeWhile isD).length:Nat):Int)+1).toNat=p:=by rw[show ((((s.takeWhile isD).length:Nat):Int)+1).toNat=(s.takeWhile isD).length+1 by omega];have h3:=ZDg isD s;rw[ZJ7 hk',hR]at h3;simp only[ZJ2]at h3;exact h3.2
     rw[show ((((s.takeWhile isD).length:Nat):Int) == (s.length:Int))=false by rw[beq_eq_false_iff_ne];omega,cond_false,ZnE,ZnE,Zur hk',ZKx,hgc,hdp];refine⟨ZnI (by omega),ZpY (by omega), ?_⟩;dsimp only;have e46:(((c.toNat:Nat):Int) != 46)= !(c == 46):=by rw[←Zz0 c 46];rfl
     rw[e46];cases hc:c == 46 with
     |false=>
      rw[Bool.not_false,cond_true,ZJX,cond_false];unfold Zn0;rw[cond_true,ZnC]
     |true=>
      rw[ZJY,cond_false,ZJZ];unfold okD
      by_cases h3:1≤p.length
      ·rw[decide_eq_false (show ¬(p.length:Int) < 1 by omega),cond_false,decide_eq_true h3,ZJZ]
       by_cases h4:p.length≤9
       ·rw[decide_eq_false (show ¬(p.length:Int) > 9 by omega),decide_eq_true h4,ZJZ,ZEk h4,ZnC];cases p.all isD<;>rfl
       ·rw[decide_eq_true (show (p.length:Int) > 9 by omega),decide_eq_false h4,ZJX,cond_false];unfold Zn0;rw[cond_true,ZnC]
      ·rw[decide_eq_true (show (p.length:Int) < 1 by omega),cond_true,decide_eq_false h3,ZJX,ZJX,cond_false];unfold Zn0;rw[cond_true,ZnC]
   ·rw[decide_eq_true (show (((s.takeWhile isD).length:Nat):Int) > 15 by omega),cond_true,ZnC,decide_eq_false h2,cond_false]
  ·rw[decide_eq_true (show (((s.takeWhile isD).length:Nat):Int) < 1 by omega),cond_true,cond_true,ZnC,decide_eq_false h1,ZJX,cond_false]
theorem ZCF {t:Str} (hl:t.length≤9223372036854775807):Zpk t=some (match ZyP t with |some x=>(x.1,x.2.1,x.2.2,true) |none=>(false,[],[],false)):=by
 have fin:∀(s:Str) (neg:Bool),s.length≤9223372036854775807→Zn4 s neg=some (match (Zyl s).map fun x=>(neg,x.1,x.2)with |some x=>(x.1,x.2.1,x.2.2,true) |none=>(false,[],[],false)):=fun s neg h=>by rw[ZEl neg h];cases Zyl s<;>rfl
 unfold Zpk Zpx ZyP ZBa;cases t with
 |nil=>
  rw[show decide ((([]:Str).length:Int) > 0)=false from rfl,cond_false,cond_false,fin [] false hl]
 |cons b r=>
  simp only[ZKf]at hl;rw[decide_eq_true (show (((b::r).length:Nat):Int) > 0 by simp only[ZKf];omega),cond_true];have h0:idx (b::r) 0=some b:=rfl;have e43:(((b.toNat:Nat):Int) == 43)=(b == 43):=Zz0 b 43;have e45:(((b.toNat:Nat):Int) == 45)=(b == 45):=Zz0 b 45;rw[h0,ZKx,e43];dsimp only;have hw:Zb9 1 ((b::r).length:Int) ((b::r).length:Int)=true:=ZpY (by simp only[ZKf];omega);cases h1:b == 43 with
  |true=>
   have hb:b=43:=eq_of_beq h1;subst hb;rw[cond_true,cond_true,ZKx,hw,chk_true,e45];show Zn4 r false=_;rw[fin r false (by omega)];rfl
  |false=>
   rw[cond_false,ZKx,e45];cases h2:b == 45 with
   |true=>
    rw[cond_true,ZKx,hw,chk_true,e45,h2];show Zn4 r true=_;rw[fin r true (by omega)];rfl
   |false=>
    rw[cond_false];rw[fin (b::r) false (by simp only[ZKf];omega)];rfl
end Go.Proofs
namespace Go.Proofs
open Go Eng
theorem ZCh {b:UInt8} (h:isD b=true):IntKind.wrap .i64 (IntKind.wrap .u8 (((b.toNat:Nat):Int) - 48))=((b.toNat - 48:Nat):Int):=by unfold isD at h;simp only[ZHb,decide_eq_true_eq]at h;rw[wrap_u8 (by omega),wrap_i64 (by omega)];omega
theorem wlN {n:Nat} (h:n < 2 ^ 90):Wl 50000 (n:Int):=by unfold Wl;rw[Int.natAbs_natCast];exact ZKt (ZAe h 3 (by decide)) (by decide)
theorem wl10:Wl 50000 10:=wlN (n:=10) (by decide)
theorem ZGb:ZnB.mk false ([]:List Int)=bg ((0:Nat):Int):=by kernel_rfl
theorem ZF4 {P:Str} (hp:P.all isD=true) {i:Nat} (hi:i < P.length):(Utf8.decode ⟨P.toArray⟩ i).2=1:=by
 have hs:i < (⟨P.toArray⟩:ByteArray).size:=by show i < P.toArray.size;simpa using hi
 have hb:=ZJ1.1 hp _ (ZKc hi);unfold isD at hb;simp only[ZHb,decide_eq_true_eq]at hb;rw[decode_ascii ⟨P.toArray⟩ i hs (by show (P.toArray[i]).toNat < 128;rw[List.getElem_toArray];omega)]
theorem ZBd {t:Str} (hl:t.length≤9223372036854775807):ZpP t=some (match ZyP t with |some x=>(fOf (ZHP x),true) |none=>(zf,false)):=by
 unfold ZpP;rw[ZCF hl,ZKx];cases hp:ZyP t with
 |none=>rfl
 |some x=>
  obtain⟨neg,D,P⟩:=x;dsimp only;have h:ZBo D P:=by
   unfold ZyP at hp;cases hb:Zyl (ZBa t).2 with
   |none=>rw[hb]at hp;cases hp
   |some y=>
    rw[hb]at hp;simp only[Option.map_some,ZKy,Prod.mk.injEq]at hp;obtain⟨_,h1,h2⟩:=hp;subst h1;subst h2;exact Zyb hb
  have hd1:=h.d2;have hp1:=h.p;have hall:(D++P).all isD=true:=by rw[List.all_append,h.dd,h.pp];rfl
  have hlen:(D++P).length≤24:=by rw[ZKe];omega
  refine Zpf ?_;rw[ZJY,cond_false,ZwH 1 (by decide) (by decide),ZKx,ZnE,ZnE,ZnF,ZGb];refine⟨decide_eq_true (by unfold Zq;omega),decide_eq_true (by omega), ?_⟩;refine ZnR (ZqI Zw1 (D++P).length (by omega) (fun i (n:Nat)=>(neg,P,(((D++P).map fun b:UInt8=>((b.toNat:Nat):Int)).length:Int),i,false,false,bg (n:Int),bg 1,(D++P).map (fun b:UInt8=>((b.toNat:Nat):Int)),([]:List Int),([]:List Int))) (fun i n=>n=Zy9 ((D++P).take i))
   (Q:=fun x=>x=(neg,P,false,false,bg (Zy9 (D++P):Int),bg 1,([]:List Int),([]:List Int))) 0 (by rfl) ?_ ?_) ?_
  ·rintro rec i n hi rfl ih;unfold ZrH ZpF;dsimp only;have hb:isD (D++P)[i]=true:=ZJ1.1 hall _ (ZKc hi);have hn:Zy9 ((D++P).take i) < 2 ^ 80:=ZzJ (ZJ1.2 fun b hb=>ZJ1.1 hall b (List.mem_of_mem_take hb)) (by rw[ZKk];omega);have hn2:Zy9 ((D++P).take (i+1))=Zy9 ((D++P).take i)*10+((D++P)[i].toNat - 48):=by rw[ZKs hi,ZBL,Nat.mul_comm]
   have hlm:i < ((D++P).map fun b:UInt8=>((b.toNat:Nat):Int)).length:=by rw[ZKi];exact hi
   have hb':=hb;unfold isD at hb';simp only[ZHb,decide_eq_true_eq]at hb';rw[decide_eq_true (show (i:Int) < (((D++P).map fun b:UInt8=>((b.toNat:Nat):Int)).length:Int) by rw[ZKi];omega),cond_true,ZAw hlm,chk_true,ZJ0,ZKb hlm,ZKx,List.getElem_map,
    ZwH 10 (by decide) (by decide),ZKx,Zu6 ((Zy9 ((D++P).take i):Nat):Int) 10 (wlN (by omega)) wl10,ZKx,ZCh hb,ZwH _ (by omega) (by omega),ZKx]
   have e1:((Zy9 ((D++P).take i):Nat):Int)*10=((Zy9 ((D++P).take i)*10:Nat):Int):=by omega
   rw[e1,Zz9 _ _ (wlN (by omega)) (wlN (by omega)),ZKx,ZnE];refine⟨ZnI (by omega), ?_⟩;have:=ih (Zy9 ((D++P).take i)*10+((D++P)[i].toNat - 48)) hn2.symm;have e2:((Zy9 ((D++P).take i)*10:Nat):Int)+(((D++P)[i].toNat - 48:Nat):Int)=((Zy9 ((D++P).take i)*10+((D++P)[i].toNat - 48):Nat):Int):=by omega
   rw[e2];exact this
  ·rintro rec n rfl;unfold ZrH ZpF;dsimp only;rw[decide_eq_false (by rw[ZKi];omega),cond_false,ZnC,ZKr]
  ·rintro x rfl;dsimp only;unfold ZsB;rw[ZnF];refine ZnR (Zwt Zw0 (fun(k:Nat)=>(neg,false,false,bg (Zy9 (D++P):Int),bg ((10 ^ k:Nat):Int),P,k,([]:List Int),([]:List Int))) (fun k=>k≤P.length) (fun k=>P.length - k)
    (Q:=fun x=>x=(neg,false,false,bg (Zy9 (D++P):Int),bg ((10 ^ P.length:Nat):Int),([]:List Int),([]:List Int))) 0 (ZKw _) (by omega) ?_) ?_
   ·rintro rec k hk ih;unfold ZuE ZrG Zqm;dsimp only
    by_cases hlt:k < P.length
    ·have hpw:=ZzE (show k≤24 by omega);rw[decide_eq_true hlt,cond_true,cond_true,ZwH 10 (by decide) (by decide),ZKx,Zu6 ((10 ^ k:Nat):Int) 10 (wlN (by omega)) wl10,ZKx,ZF4 h.pp hlt];have:=ih (k+1) (by omega) (by omega);rw[Nat.pow_succ]at this;have e1:((10 ^ k:Nat):Int)*10=((10 ^ k*10:Nat):Int):=by omega
     rw[e1];exact this
    ·obtain rfl:k=P.length:=by omega
     rw[decide_eq_false hlt,cond_false,cond_false,ZnC]
   ·rintro x rfl;dsimp only;unfold ZsA Zql;have hnum:=ZzJ hall hlen;have hpw:=ZzE (show P.length≤24 by omega);have hne:((10 ^ P.length:Nat):Int)≠0:=by have:=Nat.pow_pos (n:=P.length) (show 0 < 10 by decide);omega
    have hw1:Wl 50000 ((10 ^ P.length:Nat):Int):=wlN (by omega);have hw2:Wl 50000 (Zy9 (D++P):Int):=wlN (by omega);cases neg with
    |false=>
     rw[cond_false,Zzm _ _ hne hw2 hw1,ZKx,ZnC];rfl
    |true=>
     rw[cond_true,ZAu _ (ZKt hw2 (by decide)),ZKx,Zzm _ _ hne (by unfold Wl at hw2⊢;rw[Int.natAbs_neg];exact hw2) hw1,ZKx,ZnC];rfl
end Go.Proofs
namespace Go.Proofs
open Go Eng
def is0 (b:UInt8):Bool:=b == 48
def sp (b:UInt8):Bool:=b == 32
def rtr (p:UInt8→Bool) (l:Str):Str:=(l.reverse.dropWhile p).reverse
def lz (D:Str):Str:=bif (D.dropWhile is0).isEmpty then [48]else D.dropWhile is0
def rz (P:Str):Str:=rtr is0 P
def ZCG (D P:Str):Str:=lz D++(bif (rz P).isEmpty then []else 46::rz P)
def ZEB (x:Bool×Str×Str):Str:=bif x.1&& !(ZCG x.2.1 x.2.2 == [48])then 45::ZCG x.2.1 x.2.2 else ZCG x.2.1 x.2.2
theorem ZBb (p:UInt8→Bool) (P:Str):(rtr p P).length≤P.length:=by unfold rtr;rw[List.length_reverse];exact ZKt (ZJ6 _).length_le (by rw[List.length_reverse];exact Nat.le_refl _)
theorem ZDu {D:Str} (h:1≤D.length):(lz D).length≤D.length:=by
 unfold lz;cases hd:(D.dropWhile is0).isEmpty with
 |true=>rw[cond_true];exact h
 |false=>rw[cond_false];exact(ZJ6 _).length_le
theorem ZBg {D P:Str} (h:1≤D.length) (h2:D.length≤15) (h3:P.length≤9):(ZCG D P).length≤25:=by
 have h1:=ZDu h;have h4:=ZBb is0 P;unfold ZCG rz;rw[ZKe];cases (rtr is0 P).isEmpty with
 |true=>rw[cond_true];simp only[List.length_nil];omega
 |false=>rw[cond_false];simp only[ZKf];omega
theorem ZCy (p:UInt8→Bool) (l:Str) (b:UInt8):rtr p (l++[b])=bif p b then rtr p l else l++[b]:=by
 unfold rtr;rw[List.reverse_append,List.reverse_singleton,List.singleton_append,ZJ5];cases p b with
 |true=>rw[if_pos rfl];rfl
 |false=>rw[if_neg (by simp)];simp
theorem ZCz (p:UInt8→Bool) (b:UInt8) (l:Str):rtr p (b::l)=bif (rtr p l).isEmpty then (bif p b then []else [b])else b::rtr p l:=by
 unfold rtr;rw[List.reverse_cons];rw[List.dropWhile_append];cases h:l.reverse.dropWhile p with
 |nil=>
  simp only[List.isEmpty_nil,if_true,List.reverse_nil,cond_true];rw[ZJ5];cases p b<;>simp
 |cons c r=>
  simp only[List.isEmpty_cons,Bool.false_eq_true,if_false];have:((c::r).reverse).isEmpty=false:=by simp
  rw[this,cond_false];simp
theorem ZBB (p:UInt8→Bool):∀l:Str,(rtr p l).dropWhile p=rtr p (l.dropWhile p)
 | []=>rfl
 |b::l=>by
  have ih:=ZBB p l;rw[ZCz,ZJ5];cases hb:p b with
  |true=>
   rw[if_pos rfl,←ih];cases he:rtr p l with
   |nil=>rfl
   |cons c r=>simp only[List.isEmpty_cons,cond_false];rw[ZJ5,hb,if_pos rfl]
  |false=>
   rw[if_neg (by simp),ZCz,hb];cases he:rtr p l with
   |nil=>simp only[List.isEmpty_nil,cond_true,cond_false];rw[ZJ5,hb,if_neg (by simp)]
   |cons c r=>simp only[List.isEmpty_cons,cond_false];rw[ZJ5,hb,if_neg (by simp)]
theorem Zy7 (c:UInt8):(fun b:UInt8=>([c]:Str).contains b)=fun b=>b == c:=by funext b;rw[ZJ3];simp
def ZAH (s:Str):Str:=(rtr sp s).dropWhile sp
theorem ZEf (s:Str):Lib.trimS s [32]=ZAH s:=by unfold Lib.trimS Lib.trimLeftS Lib.trimRightS ZAH rtr;rw[Zy7];rfl
theorem ZB2 (s:Str):Zw5 s=some (ZAH s):=by unfold Zw5 Zwx;rw[show (([32]:Str).all fun b=>decide (b.toNat < 128))=true from by decide,chk_true,show decide (([32]:Str).length < 4294967281)=true from by decide,chk_true,ZKx,ZEf]
theorem ZBC (s:Str):(ZAH s).length≤s.length:=ZKt (ZJ6 _).length_le (ZBb sp s)
theorem ZCW {s:Str} (hl:s.length≤9223372036854775807):ZqQ s=some (ZAH s):=by
 refine Zpf ?_;unfold ZqQ;rw[ZnF];refine ZnR (ZAf Zxy (fun(d:Str)=>d) (fun d=>d.dropWhile sp=s.dropWhile sp∧d.length≤s.length) (fun d=>d.length) (Q:=fun x=>x=s.dropWhile sp) s ⟨rfl,Nat.le_refl _⟩ (by omega) ?_) ?_
 ·rintro rec d ⟨hd,hdl⟩ ih;unfold Zvw ZsT Zrh;dsimp only;cases d with
  |nil=>
   rw[show decide ((([]:Str).length:Int) > 0)=false from rfl,cond_false,cond_false,ZnC,←hd];rfl
  |cons b r=>
   simp only[ZKf]at hdl;have e32:(((b.toNat:Nat):Int) == 32)=sp b:=Zz0 b 32;rw[decide_eq_true (show (((b::r).length:Nat):Int) > 0 by simp only[ZKf];omega),cond_true,show idx (b::r) 0=some b from rfl,ZKx,e32];rw[ZJ5]at hd;cases hb:sp b with
   |true=>
    rw[hb,if_pos rfl]at hd;rw[cond_true,ZnE];exact⟨ZpY (by simp only[ZKf];omega),ih r ⟨hd,by omega⟩ (by simp)⟩
   |false=>
    rw[hb,if_neg (by simp)]at hd;rw[cond_false,ZnC,hd]
 ·rintro x rfl;unfold ZtH;have hl2:(s.dropWhile sp).length≤s.length:=(ZJ6 _).length_le;rw[ZnF];refine ZnR (ZAf Zxx (fun(d:Str)=>d) (fun d=>rtr sp d=rtr sp (s.dropWhile sp)∧d.length≤s.length) (fun d=>d.length) (Q:=fun x=>x=rtr sp (s.dropWhile sp)) (s.dropWhile sp) ⟨rfl,hl2⟩ (by omega) ?_) ?_
  ·rintro rec d ⟨hd,hdl⟩ ih;unfold Zvu ZsS Zrg;dsimp only;rcases List.eq_nil_or_concat d with rfl |⟨q,b,rfl⟩
   ·rw[show decide ((([]:Str).length:Int) > 0)=false from rfl,cond_false,cond_false,ZnC,←hd];rfl
   ·rw[List.concat_eq_append]at*
    have hlen:(q++[b]).length=q.length+1:=by simp
    have hi:idx (q++[b]) ((((q++[b]).length:Nat):Int) - 1)=some b:=by rw[hlen,show (((q.length+1:Nat):Int) - 1)=((q.length:Nat):Int) by omega,Zur (by omega)];simp
    have e32:(((b.toNat:Nat):Int) == 32)=sp b:=Zz0 b 32;rw[ZCy]at hd;rw[decide_eq_true (show (((q++[b]).length:Nat):Int) > 0 by omega),cond_true,ZnE,hi,ZKx,e32];refine⟨ZnI (by omega), ?_⟩;cases hb:sp b with
    |true=>
     rw[hb,cond_true]at hd;rw[cond_true,ZnE,ZnE];refine⟨ZnI (by omega),ZpY (by omega), ?_⟩;rw[show ((((q++[b]).length:Nat):Int) - 1).toNat=q.length by omega,List.take_left' rfl];exact ih q ⟨hd,by omega⟩ (by rw[hlen];omega)
    |false=>
     rw[hb,cond_false]at hd;rw[cond_false,ZnC,hd]
  ·rintro x rfl;unfold ZtG;rw[ZnC];unfold ZAH;rw[ZBB]
theorem lz_0 {r:Str} (hr:r≠[]):lz (48::r)=lz r:=by unfold lz;rw[ZJ5,show is0 48=true from rfl,if_pos rfl]
theorem ZDs {neg:Bool} {D P:Str} (h1:1≤D.length) (h2:D.length≤15) (h3:P.length≤9):Zp3 neg D P=some (ZEB (neg,D,P)):=by
 have hz:=ZDu h1;have hr:=ZBb is0 P;refine Zpf ?_;unfold Zp3;rw[ZnF];refine ZnR (Zwt Zw8 (fun(d:Str)=>(neg,d,P)) (fun d=>lz d=lz D∧1≤d.length∧d.length≤15) (fun d=>d.length) (Q:=fun x=>x=(neg,lz D,P)) D ⟨rfl,h1,h2⟩ (by omega) ?_) ?_
 ·rintro rec d ⟨hd,hd1,hd2⟩ ih;unfold ZuU Zsf ZqE;dsimp only;cases d with
  |nil=>simp at hd1
  |cons b r=>
   have e48:(((b.toNat:Nat):Int) == 48)=is0 b:=Zz0 b 48;simp only[ZKf]at hd1 hd2;cases r with
   |nil=>
    rw[show decide ((([b]:Str).length:Int) > 1)=false from rfl,cond_false,cond_false,ZnC,←hd];unfold lz;rw[ZJ5];cases hb:is0 b with
    |true=>
     have:b=48:=eq_of_beq hb;subst this;rfl
    |false=>rfl
   |cons c r=>
    rw[decide_eq_true (show (((b::c::r).length:Nat):Int) > 1 by simp only[ZKf];omega),cond_true,show idx (b::c::r) 0=some b from rfl,ZKx,e48];cases hb:is0 b with
    |true=>
     have:b=48:=eq_of_beq hb;subst this;rw[lz_0 (by simp)]at hd;rw[cond_true,ZnE];exact⟨ZpY (by simp only[ZKf];omega),ih (c::r) ⟨hd,by simp,by simp only[ZKf]at hd2⊢;omega⟩ (by simp)⟩
    |false=>
     rw[cond_false,ZnC,←hd];unfold lz;rw[ZJ5,hb,if_neg (by simp)];rfl
 ·rintro x rfl;dsimp only;unfold ZsO;rw[ZnF];refine ZnR (Zwt Zw7 (fun(d:Str)=>(neg,lz D,d)) (fun d=>rz d=rz P∧d.length≤9) (fun d=>d.length) (Q:=fun x=>x=(neg,lz D,rz P)) P ⟨rfl,h3⟩ (by omega) ?_) ?_
  ·rintro rec d ⟨hd,hdl⟩ ih;unfold ZuS Zse ZqD;dsimp only;rcases List.eq_nil_or_concat d with rfl |⟨q,b,rfl⟩
   ·rw[show decide ((([]:Str).length:Int) > 0)=false from rfl,cond_false,cond_false,ZnC,←hd];rfl
   ·rw[List.concat_eq_append]at*
    have hlen:(q++[b]).length=q.length+1:=by simp
    have hi:idx (q++[b]) ((((q++[b]).length:Nat):Int) - 1)=some b:=by rw[hlen,show (((q.length+1:Nat):Int) - 1)=((q.length:Nat):Int) by omega,Zur (by omega)];simp
    have e48:(((b.toNat:Nat):Int) == 48)=is0 b:=Zz0 b 48;unfold rz at hd;rw[ZCy]at hd;rw[decide_eq_true (show (((q++[b]).length:Nat):Int) > 0 by omega),cond_true,ZnE,hi,ZKx,e48];refine⟨ZnI (by omega), ?_⟩;cases hb:is0 b with
    |true=>
     rw[hb,cond_true]at hd;rw[cond_true,ZnE,ZnE];refine⟨ZnI (by omega),ZpY (by omega), ?_⟩;rw[show ((((q++[b]).length:Nat):Int) - 1).toNat=q.length by omega,List.take_left' rfl];exact ih q ⟨hd,by omega⟩ (by rw[hlen];omega)
    |false=>
     rw[hb,cond_false]at hd;rw[cond_false,ZnC,hd];rfl
  ·rintro x rfl;dsimp only;unfold ZsN ZqC ZqB ZqA;have hol:=ZBg h1 h2 h3;have fin:∀out:Str,out=ZCG D P→wp (bif neg then (bif (!(out == ([48]:Str)))then chk (decide (([45]:Str).length+out.length≤Zq)) <| some (([45]:Str)++out)else some out)else (bif false then chk (decide (([45]:Str).length+out.length≤Zq)) <| some (([45]:Str)++out)else some out)) (fun x=>x=ZEB (neg,D,P)):=by
    rintro out rfl;unfold ZEB;dsimp only;cases neg with
    |false=>rw[cond_false,cond_false,ZJX,cond_false,ZnC]
    |true=>
     rw[cond_true,ZJZ];cases (!(ZCG D P == [48]))with
     |false=>rw[cond_false,cond_false,ZnC]
     |true=>
      rw[cond_true,cond_true,ZnE,ZnC];exact⟨decide_eq_true (by simp only[ZKj];unfold Zq;omega),rfl⟩
   cases hP:rz P with
   |nil=>
    rw[show (!(([]:Str) == ([]:Str)))=false from rfl,cond_false];exact fin (lz D) (by unfold ZCG;rw[hP];simp)
   |cons c r=>
    have hrl:(c::r).length≤9:=by rw[←hP];exact ZKt hr h3
    rw[show (!((c::r) == ([]:Str)))=true by simp,cond_true,ZnE,ZnE];refine⟨decide_eq_true (by simp only[ZKj];unfold Zq;omega),decide_eq_true (by rw[ZKe];simp only[ZKj];unfold Zq;omega), ?_⟩;exact fin _ (by unfold ZCG;rw[hP];rfl)
end Go.Proofs
namespace Go.Proofs
open Go Eng
theorem ZEz (a:Str):Zv6 [a,[48]]=some (bif a.isEmpty then [48]else a):=by
 have key:wp (Zt1 big ([]:Str) [a,[48]] ((([a,[48]]:List Str).length:Nat):Int) 0) (fun x=>x= .ret (bif a.isEmpty then [48]else a)):=by
  refine ZyT Zy6 ([a,[48]]:List Str) (by simp) (fun i (_:Unit)=>(([]:Str),([a,[48]]:List Str),((([a,[48]]:List Str).length:Nat):Int),i)) (fun k _=>k≤1∧(k=1→a=[])) () ⟨by omega,fun h=>by omega⟩ ?_ ?_
  ·rintro rec k _ hk ⟨h1,h2⟩ ih;unfold ZxF Zwn;dsimp only;rw[decide_eq_true (show (k:Int) < ((([a,[48]]:List Str).length:Nat):Int) by omega),cond_true,Zur hk,ZKx];rcases Nat.eq_zero_or_pos k with rfl |hk0
   ·show wp (bif (!(a == []))then some (Out.ret a)else chk (inK .i64 (((0:Nat):Int)+1)) (rec ([],[a,[48]],((([a,[48]]:List Str).length:Nat):Int),((0:Nat):Int)+1))) _;cases a with
    |nil=>
     rw[show (!(([]:Str) == ([]:Str)))=false from rfl,cond_false,ZnE];exact⟨by decide,ih () ⟨by omega,fun _=>rfl⟩⟩
    |cons b r=>
     rw[show (!((b::r) == ([]:Str)))=true by simp,cond_true,ZnC];rfl
   ·obtain rfl:k=1:=by omega
    have ha:=h2 rfl;subst ha;show wp (bif (!(([48]:Str) == []))then some (Out.ret ([48]:Str))else chk (inK .i64 (((1:Nat):Int)+1)) (rec ([],[[],[48]],((([([]:Str),[48]]:List Str).length:Nat):Int),((1:Nat):Int)+1))) _;rw[show (!(([48]:Str) == ([]:Str)))=true from rfl,cond_true,ZnC];rfl
  ·rintro rec _ ⟨h1,_⟩;simp only[ZKf,List.length_nil]at h1;omega
 unfold Zv6;obtain⟨x,hx,rfl⟩:=key;rw[hx,ZKx]
theorem ZEi (t:Str):(ZBa t).2.length≤t.length:=by
 unfold ZBa;cases t with
 |nil=>exact Nat.le_refl _
 |cons b r=>
  dsimp only;cases b == 45 with
  |true=>rw[cond_true];simp
  |false=>
   rw[cond_false];cases b == 43 with
   |true=>rw[cond_true];simp
   |false=>rw[cond_false];exact Nat.le_refl _
theorem ZyO {t:Str} {x:Bool×Str×Str} (h:ZyP t=some x):x.1=(ZBa t).1∧Zyl (ZBa t).2=some x.2:=by
 unfold ZyP at h;cases hb:Zyl (ZBa t).2 with
 |none=>rw[hb]at h;cases h
 |some y=>
  rw[hb]at h;simp only[Option.map_some,ZKy]at h;subst h;exact⟨rfl,rfl⟩
theorem ZC4 {b:Str} {x:Str×Str} (h:Zyl b=some x):∃c r,b=c::r∧isD c=true:=by
 have hok:=Zyb h;rw[ZzF]at h;cases b with
 |nil=>simp[okD]at h
 |cons c r=>
  refine⟨c,r,rfl, ?_⟩;cases hc:n46 c with
  |false=>
   rw[List.takeWhile_cons,hc]at h;simp[okD]at h
  |true=>
   cases hcc:(okD ((c::r).takeWhile n46) 15&&(((c::r).dropWhile n46).isEmpty||okD ((c::r).dropWhile n46).tail 9))with
   |false=>rw[hcc,cond_false]at h;cases h
   |true=>
    rw[ZHb]at hcc;have h1:=hcc.1;unfold okD at h1;rw[List.takeWhile_cons,hc,if_pos rfl,List.all_cons]at h1;simp only[ZHb]at h1;exact h1.2.1
theorem ZHc (b:UInt8):([43,45]:Str).contains b=((b == 45)||(b == 43)):=by rw[ZJ3,ZJ3];simp only[List.contains_nil,Bool.or_false];exact Bool.or_comm _ _
theorem ZHu {b:UInt8} (h:isD b=true):((b == 45)||(b == 43))=false:=by
 cases h1:b == 45 with
 |true=>rw[eq_of_beq h1]at h;exact absurd h (by decide)
 |false=>
  cases h2:b == 43 with
  |true=>rw[eq_of_beq h2]at h;exact absurd h (by decide)
  |false=>rfl
theorem ZEe {t:Str} {x:Bool×Str×Str} (h:ZyP t=some x):Lib.trimLeftS t [43,45]=(ZBa t).2∧∃b r,t=b::r∧(b == 45)=x.1:=by
 obtain⟨h1,h2⟩:=ZyO h;obtain⟨c,r,hc,hd⟩:=ZC4 h2;have hpm:=ZHu hd;unfold Lib.trimLeftS;rw[show (fun b:UInt8=>([43,45]:Str).contains b)=fun b=>(b == 45)||(b == 43)from funext ZHc];have stop:(c::r).dropWhile (fun b=>(b == 45)||(b == 43))=c::r:=by rw[ZJ5,hpm,if_neg (by simp)]
 rw[h1];cases t with
 |nil=>unfold ZBa at hc;cases hc
 |cons b s=>
  unfold ZBa at hc⊢
  dsimp only at hc⊢
  rw[ZJ5];cases h45:b == 45 with
  |true=>
   rw[h45,cond_true]at hc;dsimp only at hc;rw[cond_true,Bool.true_or,if_pos rfl,hc];exact⟨stop,b,_,rfl,h45⟩
  |false=>
   rw[h45,cond_false]at hc;rw[cond_false,Bool.false_or];cases h43:b == 43 with
   |true=>
    rw[h43,cond_true]at hc;dsimp only at hc;rw[cond_true,if_pos rfl,hc];exact⟨stop,b,_,rfl,h45⟩
   |false=>
    rw[cond_false,if_neg (by simp)];exact⟨rfl,b,_,rfl,h45⟩
theorem ZCi {t:Str} (hl:t.length≤9223372036854775807):Zuy t=some (match ZyP t with |some x=>(ZEB x,true) |none=>([],false)):=by
 unfold Zuy;rw[ZAV hl,ZKx];cases hp:ZyP t with
 |none=>rfl
 |some x=>
  obtain⟨neg,D,P⟩:=x;obtain⟨h1,h2⟩:=ZyO hp;obtain⟨ht,b,r,hbr,hb45⟩:=ZEe hp;have hok:=Zyb h2;have hsl:=ZEi t;dsimp only at h1 hb45⊢
  have hpc:=ZzF (ZBa t).2;rw[h2]at hpc;have hDP:D=(ZBa t).2.takeWhile n46∧P=((ZBa t).2.dropWhile n46).tail:=by
   cases hcc:(okD ((ZBa t).2.takeWhile n46) 15&&(((ZBa t).2.dropWhile n46).isEmpty||okD ((ZBa t).2.dropWhile n46).tail 9))with
   |false=>rw[hcc,cond_false]at hpc;cases hpc
   |true=>
    rw[hcc,cond_true]at hpc;simp only[ZKy,Prod.mk.injEq]at hpc;exact hpc
  unfold ZvA ZwF;rw[ZJY,cond_false,show (([43,45]:Str).all fun b=>decide (b.toNat < 128))=true from by decide,chk_true,show decide (([43,45]:Str).length < 4294967281)=true from by decide,chk_true,ZKx,ht,ZjU (by omega),ZKx];dsimp only;rw[←hDP.1,←hDP.2,show (([48]:Str).all fun b=>decide (b.toNat < 128))=true from by decide,chk_true,show decide (([48]:Str).length < 4294967281)=true from by decide,chk_true,ZKx,chk_true,chk_true,ZKx];have e1:Lib.trimLeftS D [48]=D.dropWhile is0:=by unfold Lib.trimLeftS;rw[Zy7];rfl
  have e2:Lib.trimRightS P [48]=rz P:=by unfold Lib.trimRightS rz rtr;rw[Zy7];rfl
  rw[e1,e2,ZEz,ZKx];show (bif (!(rz P == ([]:Str)))then _ else ZqJ t (lz D))=_;have hd1:=hok.d1;have hd2:=hok.d2;have hp9:=hok.p;have hol:=ZBg hd1 hd2 hp9;have hzl:=ZDu hd1;have hrl:=ZBb is0 P;have fin:∀out:Str,out=ZCG D P→ZqJ t out=some (ZEB (neg,D,P),true):=by
   rintro out rfl;unfold ZqJ Zvr Zvq ZEB;have e45:(((b.toNat:Nat):Int) == 45)=neg:=(Zz0 b 45).trans hb45;rw[hbr,show idx (b::r) 0=some b from rfl,ZKx,e45];dsimp only;cases neg with
   |false=>rw[cond_false,cond_false,ZJX,cond_false]
   |true=>
    rw[cond_true,ZJZ];cases (!(ZCG D P == [48]))with
    |false=>rw[cond_false,cond_false]
    |true=>
     rw[cond_true,cond_true,decide_eq_true (by simp only[ZKj];unfold Zq;omega),chk_true];rfl
  cases hP:rz P with
  |nil=>
   rw[show (!(([]:Str) == ([]:Str)))=false from rfl,cond_false];exact fin (lz D) (by unfold ZCG;rw[hP];simp)
  |cons c s=>
   have hrl':(c::s).length≤9:=by rw[←hP];exact ZKt hrl hp9
   rw[show (!((c::s) == ([]:Str)))=true by simp,cond_true,decide_eq_true (show ([46]:Str).length+(c::s).length≤Zq by simp only[ZKj];unfold Zq;omega),chk_true];show chk (decide ((lz D).length+(([46]:Str)++(c::s)).length≤Zq)) (ZqJ t (lz D++(([46]:Str)++(c::s))))=_;rw[decide_eq_true (by rw[ZKe];simp only[ZKj];unfold Zq;omega),chk_true];exact fin _ (by unfold ZCG;rw[hP];rfl)
theorem ZEA {x:Bool×Str×Str} (h:ZBo x.2.1 x.2.2):(ZEB x).length≤26:=by
 have:=ZBg h.d1 h.d2 h.p;unfold ZEB;cases (x.1&& !(ZCG x.2.1 x.2.2 == [48]))with
 |true=>rw[cond_true];simp only[ZKf];omega
 |false=>rw[cond_false];omega
def ZzP (s:Str):Option Str:=(ZyP (ZAH s)).map ZEB
def ZFo (s:Str):Option Rat:=match ZzP s with
 |some t=>(ZyP t).map ZHP
 |none=>none
theorem ZAX {s t:Str} (h:ZzP s=some t):t.length≤26:=by
 unfold ZzP at h;cases hp:ZyP (ZAH s)with
 |none=>rw[hp]at h;cases h
 |some x=>
  rw[hp]at h;simp only[Option.map_some,ZKy]at h;subst h;obtain⟨_,h2⟩:=ZyO hp;exact ZEA (Zyb (D:=x.2.1) (P:=x.2.2) h2)
theorem ZDL {s:Str} (hl:s.length≤9223372036854775807):Zs2 4 s=some (match ZzP s with |some t=>(t,true) |none=>([],false)):=by
 have h:Zs2 4 s=(Zw5 s).bind fun q=>(Zuy q).bind fun(a,b)=>some (a,b):=by kernel_rfl
 have hl2:=ZBC s;rw[h,ZB2,ZKx,ZCi (by omega),ZKx];unfold ZzP;cases ZyP (ZAH s)<;>rfl
theorem ZDd {s:Str} (hl:s.length≤9223372036854775807):ZwL 4 s=some (match ZFo s with |some q=>(fOf q,true) |none=>(zf,false)):=by
 have h:ZwL 4 s=(Zs2 4 s).bind fun(t,ok)=>bif (!ok)then some (zf,false)else (Zrb t).bind fun(a,b)=>some (a,b):=by kernel_rfl
 rw[h,ZDL hl,ZKx];unfold ZFo;cases hc:ZzP s with
 |none=>rfl
 |some t=>
  have:=ZAX hc;dsimp only;rw[ZJY,cond_false,ZAV (by omega),ZKx];cases ZyP t<;>rfl
theorem ZB8 {s:Str} (hl:s.length≤9223372036854775807):Zqt 4 s=some (match ZFo s with |some q=>(fOf q,true) |none=>(zf,false)):=by
 have hcan:Zo9 4 s=some (match ZzP s with |some t=>(t,true) |none=>([],false)):=by
  have hl2:=ZBC s;unfold Zo9 ZpE;rw[ZCW hl,ZKx,show ((4:Int) == 1)=false from rfl,show ((4:Int) == 2)=false from rfl,show ((4:Int) == 3)=false from rfl,show ((4:Int) == 4)=true from rfl];simp only[cond_false,cond_true];rw[ZCF (by omega),ZKx];unfold ZzP;cases hp:ZyP (ZAH s)with
  |none=>rfl
  |some x=>
   obtain⟨_,h2⟩:=ZyO hp;have hok:=Zyb (D:=x.2.1) (P:=x.2.2) h2;dsimp only;unfold ZoE;rw[cond_true,cond_true,ZDs hok.d1 hok.d2 hok.p,ZKx];rfl
 unfold Zqt ZqP;rw[hcan,ZKx];unfold ZFo;cases hc:ZzP s with
 |none=>rfl
 |some t=>
  have:=ZAX hc;dsimp only;rw[ZJY,cond_false,show ((4:Int) == 1)=false from rfl,show ((4:Int) == 2)=false from rfl,show ((4:Int) == 5)=false from rfl];simp only[cond_false];rw[ZBd (by omega),ZKx];cases ZyP t<;>rfl
def ZCk (c:G_api_Cell):Option Rat:=bif c.Null then none else ZFo c.Text
theorem ZAp {c:G_api_Cell} (hl:c.Text.length≤9223372036854775807):Zx5 c=some (match ZCk c with |some q=>(fOf q,true) |none=>(bif c.Null then fOf 0 else zf,false)):=by
 unfold Zx5 ZCk;cases c.Null with
 |true=>rw[cond_true,ZA0,ZKx];rfl
 |false=>
  rw[cond_false,ZDd hl,ZKx];cases ZFo c.Text<;>rfl
theorem ZBG {c:G_api_Cell} (hl:c.Text.length≤9223372036854775807):Zp1 c=some (match ZCk c with |some q=>(fOf q,true) |none=>(zf,false)):=by
 unfold Zp1 ZCk;cases c.Null with
 |true=>rfl
 |false=>
  rw[cond_false,ZB8 hl,ZKx];cases ZFo c.Text<;>rfl
end Go.Proofs
namespace Go.Proofs
open Go Eng
def Zws (name:Str):List Str:=Zs5 (Zyx (name++[32]) [])
def ZzC (l:List G_api_Cell):List Str:=(l.filter fun x=> !x.Null).map fun x=>x.Text
def ZtC (l:List G_api_Cell):List Str:=Zs5 (ZzC l)
theorem ZA2 {name:Str} (h:name.length≤1000000):Zpa name=some (Zws name):=by unfold Zpa;rw[Zwr,decide_eq_true (by omega)];rfl
theorem ZBA {c:G_api_Column} (h:c.Cells.length≤1000000):ZsC c=some (ZtC c.Cells):=by unfold ZsC;rw[Zwr,decide_eq_true (by omega)];rfl
theorem Zzy:∀(s cur:List UInt8),(Zyx s cur).length≤s.length
 | [],cur=>by simp[Zyx]
 |b::s,cur=>by
  have h1:=Zzy s [];have h3:=Zzy s (cur++[xwC b]);unfold Zyx;cases xwC b == 0 with
  |true=>
   rw[cond_true];cases cur.isEmpty with
   |true=>rw[cond_true];simp;omega
   |false=>rw[cond_false];simp;omega
  |false=>rw[cond_false];simp;omega
theorem Zzi (l:List (List UInt8)):(Zs5 l).length≤l.length:=by
 have h:∀l:List (List UInt8),(Zw2 l).length≤l.length:=by
  intro l
  induction l with
  |nil=>simp[Zw2]
  |cons x r ih=>
   unfold Zw2;cases r.contains x with
   |true=>rw[cond_true];simp;omega
   |false=>rw[cond_false];simp;omega
 unfold Zs5;rw[List.length_mergeSort];exact h l
theorem ZxX (name:Str):(Zws name).length≤name.length+1:=by have h1:=Zzi (Zyx (name++[32]) []);have h2:=Zzy (name++[32]) [];simp only[ZKe,ZKj]at h2;exact ZKt h1 h2
theorem Zw4 (l:List G_api_Cell):(ZtC l).length≤l.length:=by have h1:=Zzi (ZzC l);unfold ZzC at h1;rw[ZKi]at h1;exact ZKt h1 (ZKh _ _)
theorem ZDI {a b:List Str} (ha:a.Nodup) (hb:b.Nodup):comm a b=comm b a:=by unfold comm;refine List.Perm.length_eq ((List.perm_ext_iff_of_nodup (ha.filter _) (hb.filter _)).2 fun x=> ?_);simp only[List.mem_filter,ZJ4];exact And.comm
theorem ZDJ (a:List Str):comm a a=a.length:=by unfold comm;rw[List.filter_eq_self.2];intro x hx;exact ZJ4.2 hx
def ZwU (a b:List Str):Rat:=Rat.divInt (comm a b:Int) (max (a.length+b.length - comm a b) 1:Nat)
theorem ZCE {a b:List Str} (hb:Srt b) (hla:a.length≤1000000) (hlb:b.length≤1000000):Zsm a b=some (fOf (ZwU a b)):=by
 have hc:=ZzY a b;unfold Zsm;rw[ZDj hb (by omega) (by omega),ZKx,ZnI (by omega),ZnI (by omega),chk_true,chk_true];have e:(if (1:Int) > (((a.length:Int)+(b.length:Int)) - (comm a b:Int))then (1:Int)else (((a.length:Int)+(b.length:Int)) - (comm a b:Int)))=((max (a.length+b.length - comm a b) 1:Nat):Int):=by
  rcases ZKu (a.length+b.length - comm a b) 1 with h |h
  ·rw[if_pos (by omega),Nat.max_eq_right (by omega)];rfl
  ·rw[ZKv h];split<;>omega
 rw[e,ZAa _ _ (by omega) (by omega) (by omega) (by omega) (by omega),ZKx];rfl
theorem ZBH {a b:List Str} {k:Nat} (hk:a.length+b.length < 2 ^ k) (h1:1 < 2 ^ k):Sz k (ZwU a b):=by have:=ZzY a b;exact ZzD (by omega) (by omega) (by omega)
theorem Zzs {a:List Str}:ZwU a a=if a=[]then 0 else 1:=by
 unfold ZwU;rw[ZDJ];cases a with
 |nil=>rw[if_pos rfl];decide+kernel
 |cons x r=>
  rw[if_neg (by simp)];have e:max ((x::r).length+(x::r).length - (x::r).length) 1=(x::r).length:=by simp
  rw[e,Rat.divInt_self' (by simp only[ZKf];omega)]
noncomputable def isN (c:G_api_Cell):Bool:=(ZCk c).isSome
noncomputable def Zyv (l:List G_api_Cell):Nat:=(l.filter fun x=> !x.Null).length
noncomputable def ZCd (l:List G_api_Cell):Nat:=(l.filter fun x=> !x.Null&&isN x).length
noncomputable def Zsb (l:List G_api_Cell):Rat:=Rat.divInt (ZCd l:Int) (max (Zyv l) 1:Nat)
theorem ZAr (l:List G_api_Cell):ZCd l≤Zyv l:=by unfold ZCd Zyv;rw[show (fun x:G_api_Cell=> !x.Null&&isN x)=fun x=>(isN x)&& !x.Null from funext fun x=>Bool.and_comm _ _,←List.filter_filter];exact ZKh _ _
theorem ZzM (l:List G_api_Cell):Zyv l≤l.length:=ZKh _ _
theorem Zz8 {c:G_api_Column} (hc:∀x∈c.Cells,x.Text.length≤9223372036854775807) (hl:c.Cells.length≤1000):ZoY c=some (fOf (Zsb c.Cells)):=by
 unfold ZoY;rw[Zwr];refine Zpf ?_;unfold ZwN;rw[ZnF];refine ZnR (ZyT Zyy c.Cells (by omega) (fun i (s:Nat×Nat)=>((s.1:Int),(s.2:Int),c.Cells,(c.Cells.length:Int),i,false,false,([]:List Int),([]:List Int))) (fun k s=>s.1=Zyv (c.Cells.take k)∧s.2=ZCd (c.Cells.take k))
  (Q:=fun x=>x=((Zyv c.Cells:Int),(ZCd c.Cells:Int),false,false,([]:List Int),([]:List Int))) (0,0) ⟨by simp[Zyv],by simp[ZCd]⟩ ?_ ?_) ?_
 ·rintro rec k ⟨f,n⟩ hk ⟨hf,hn⟩ ih;dsimp only at hf hn ih;unfold ZuX ZsW Zsj;dsimp only;have hs:c.Cells.take (k+1)=c.Cells.take k++[c.Cells[k]]:=ZKs hk;have b1:=ZzM (c.Cells.take k);have b2:=ZAr (c.Cells.take k);rw[ZKk]at b1;have e1:Zyv (c.Cells.take (k+1))=f+(bif c.Cells[k].Null then 0 else 1):=by rw[hs,hf];unfold Zyv;rw[ZJ8,ZKe];cases h:c.Cells[k].Null<;>simp[ZJ9,h]
  have e2:ZCd (c.Cells.take (k+1))=n+(bif !c.Cells[k].Null&&isN c.Cells[k]then 1 else 0):=by rw[hs,hn];unfold ZCd;rw[ZJ8,ZKe];cases h:(!c.Cells[k].Null&&isN c.Cells[k])<;>simp[ZJ9,h]
  rw[decide_eq_true (show (k:Int) < (c.Cells.length:Int) by omega),cond_true,Zur hk,ZKx];cases hnul:c.Cells[k].Null with
  |true=>
   rw[hnul]at e1 e2;rw[cond_true,ZnE];exact⟨ZnI (by omega),ih (f,n) ⟨by rw[e1];rfl,by rw[e2];rfl⟩⟩
  |false=>
   rw[hnul]at e1 e2;rw[cond_false,ZnE];refine⟨ZnI (by omega), ?_⟩;cases hv:ZCk c.Cells[k]with
   |some q=>
    have hi:isN c.Cells[k]=true:=by unfold isN;rw[hv];rfl
    rw[hi]at e2;rw[ZAp (hc _ (ZKc hk)),hv,ZKx];dsimp only;rw[cond_true,ZnE,ZnE];refine⟨ZnI (by omega),ZnI (by omega), ?_⟩;have:=ih (f+1,n+1) ⟨by rw[e1];rfl,by rw[e2];rfl⟩
    rwa [show ((f+1:Nat):Int)=(f:Int)+1 by omega,show ((n+1:Nat):Int)=(n:Int)+1 by omega]at this
   |none=>
    have hi:isN c.Cells[k]=false:=by unfold isN;rw[hv];rfl
    rw[hi]at e2;rw[ZAp (hc _ (ZKc hk)),hv,ZKx];dsimp only;rw[cond_false,ZnE];refine⟨ZnI (by omega), ?_⟩;have:=ih (f+1,n) ⟨by rw[e1];rfl,by rw[e2];rfl⟩
    rwa [show ((f+1:Nat):Int)=(f:Int)+1 by omega]at this
 ·rintro rec ⟨f,n⟩ ⟨hf,hn⟩;dsimp only at hf hn;unfold ZuX ZsW;dsimp only;rw[decide_eq_false (show ¬(c.Cells.length:Int) < (c.Cells.length:Int) by omega),cond_false,ZnC,hf,hn,ZKr]
 ·rintro x rfl;have b1:=ZzM c.Cells;have b2:=ZAr c.Cells;dsimp only;unfold ZvR;have e:(if (1:Int) > (Zyv c.Cells:Int)then (1:Int)else (Zyv c.Cells:Int))=((max (Zyv c.Cells) 1:Nat):Int):=by
   rcases ZKu (Zyv c.Cells) 1 with h |h
   ·rw[if_pos (by omega),Nat.max_eq_right (by omega)];rfl
   ·rw[ZKv h];split<;>omega
  rw[e,ZAa _ _ (by omega) (by omega) (by omega) (by omega) (by omega),ZKx,ZnC];rfl
theorem Zx0 {l:List G_api_Cell} {k:Nat} (h:l.length < 2 ^ k) (h1:1 < 2 ^ k):Sz k (Zsb l):=by have b1:=ZzM l;have b2:=ZAr l;exact ZzD (by omega) (by omega) (by omega)
end Go.Proofs
namespace Go.Proofs
open Go Eng
theorem ZBI {a:Rat}:(ZD8 a 0 == 0)=decide (a=0):=by
 unfold ZD8
 by_cases h:a < 0
 ·rw[if_pos h,decide_eq_false (by grind)];rfl
 ·rw[if_neg h]
  by_cases h2:0 < a
  ·rw[if_pos h2,decide_eq_false (by grind)];rfl
  ·rw[if_neg h2,decide_eq_true (by grind)];rfl
theorem ZBJ (a b:Rat):(ZD8 a b < 0)↔a < b:=by
 unfold ZD8
 by_cases h:a < b
 ·rw[if_pos h];exact⟨fun _=>h,fun _=>by decide⟩
 ·rw[if_neg h];refine⟨fun h2=> ?_,fun h2=>absurd h2 h⟩;split at h2<;>exact absurd h2 (by decide)
def ofQ (v n s t:Rat):Rat:=if v=0∧n=0 then 0 else (v+v+n+(1 - ZC9 (s - t))) / 4
noncomputable def ZEy (a b:G_api_Column):Rat:=ofQ (ZwU (ZtC a.Cells) (ZtC b.Cells)) (ZwU (Zws a.Name) (Zws b.Name)) (Zsb a.Cells) (Zsb b.Cells)
structure Zy1 (a:G_api_Column):Prop where
 name:a.Name.length≤300
 rows:a.Cells.length≤100
 cells:∀x∈a.Cells,x.Text.length≤9223372036854775807
theorem ZAk (s:Str):Srt (Zws s):=ZA9 _
theorem ZzQ (l:List G_api_Cell):Srt (ZtC l):=ZA9 _
theorem ZDe {a b:G_api_Column} (ha:a.Cells.length≤100) (hb:b.Cells.length≤100):ZrI a b=some (fOf (ZwU (ZtC a.Cells) (ZtC b.Cells))):=by have h1:=Zw4 a.Cells;have h2:=Zw4 b.Cells;unfold ZrI;rw[ZBA (by omega),ZKx,ZBA (by omega),ZKx,ZCE (ZzQ _) (by omega) (by omega),ZKx]
theorem ZEm {a b:Str} (ha:a.length≤300) (hb:b.length≤300):ZtU a b=some (fOf (ZwU (Zws a) (Zws b))):=by have h1:=ZxX a;have h2:=ZxX b;unfold ZtU;rw[ZA2 (by omega),ZKx,ZA2 (by omega),ZKx,ZCE (ZAk _) (by omega) (by omega),ZKx]
theorem ZA4 {a b:G_api_Column} (ha:a.Cells.length≤100) (hb:b.Cells.length≤100):Sz 10 (ZwU (ZtC a.Cells) (ZtC b.Cells)):=by have h1:=Zw4 a.Cells;have h2:=Zw4 b.Cells;exact ZBH (by omega) (by decide)
theorem ZBi {a b:Str} (ha:a.length≤300) (hb:b.length≤300):Sz 10 (ZwU (Zws a) (Zws b)):=by have h1:=ZxX a;have h2:=ZxX b;exact ZBH (by omega) (by decide)
theorem ZAi:Sz 1 1:=by unfold Sz;decide
theorem ZFG:Zxf 1 1=some (fOf 1):=by
 have:=ZAa 1 1 (by decide) (by decide) (by decide) (by decide) (by decide)
 rwa [show Rat.divInt 1 1=1 by decide+kernel]at this
theorem ZFF:Zxf 4 1=some (fOf 4):=by
 have:=ZAa 4 1 (by decide) (by decide) (by decide) (by decide) (by decide)
 rwa [show Rat.divInt 4 1=4 by decide+kernel]at this
theorem ZB4:Sz 3 4:=by unfold Sz;decide
theorem ZCl {x:Rat} {k:Nat} (h:Sz k x) (hk:1≤k):Sz (k+2) (ZC9 x):=by
 unfold ZC9;split
 ·have:=Zy3.add h.neg;rw[show (0:Rat) - x=0+ -x by grind];exact this.mono (by omega)
 ·exact h.mono (by omega)
theorem ZHg {v n ap:Rat} (hv:Sz 10 v) (hn:Sz 10 n) (ha:Sz 30 ap):ZtT false false (fOf v) (fOf n) (fOf ap) [] []=some (fOf ((v+v+n+(1 - ap)) / 4)):=by
 unfold ZtT;have h1:=hv.add hv;have h2:=h1.add hn;have h3:Sz 32 (1 - ap):=by rw[show (1:Rat) - ap=1+ -ap by grind];exact(ZAi.add ha.neg).mono (by decide)
 have h4:=h2.add h3;rw[ZAs hv hv (by decide),ZKx,ZAs h1 hn (by decide),ZKx,ZFG,ZKx,ZAq ZAi ha (by decide),ZKx,ZAs h2 h3 (by decide),ZKx,ZFF,ZKx,
  ZDt (by decide) h4 ZB4 (by decide),ZKx]
theorem ZHh {a b:G_api_Column} (ha:Zy1 a) (hb:Zy1 b) {v n:Rat} (hv:Sz 10 v) (hn:Sz 10 n):
  Zsn false a b false false (fOf v) (fOf n) [] []=some (fOf ((v+v+n+(1 - ZC9 (Zsb a.Cells - Zsb b.Cells))) / 4)):=by
 unfold Zsn;have hr1:=ha.rows;have hr2:=hb.rows;have h1:Sz 10 (Zsb a.Cells):=Zx0 (by omega) (by decide);have h2:Sz 10 (Zsb b.Cells):=Zx0 (by omega) (by decide);have h3:Sz 21 (Zsb a.Cells - Zsb b.Cells):=by rw[Rat.sub_eq_add_neg];exact h1.add h2.neg
 rw[cond_false,Zz8 ha.cells (by omega),ZKx,Zz8 hb.cells (by omega),ZKx,ZAq h1 h2 (by decide),ZKx,ZB6 (h3.wq (by decide)),ZKx];have h4:=ZCl h3 (by decide);unfold ZC9 at h4⊢
 by_cases h:Zsb a.Cells - Zsb b.Cells < 0
 ·rw[decide_eq_true ((ZBJ _ _).2 h),cond_true,ZA0,ZKx,ZAq Zy3 h3 (by decide),ZKx];rw[if_pos h]at h4⊢
  exact ZHg hv hn (h4.mono (by decide))
 ·rw[decide_eq_false (fun h5=>h ((ZBJ _ _).1 h5)),cond_false];rw[if_neg h]at h4⊢
  exact ZHg hv hn (h4.mono (by decide))
theorem ZEV {a b:G_api_Column} (ha:Zy1 a) (hb:Zy1 b):Ztn a b=some (fOf (ZEy a b)):=by
 unfold Ztn ZEy ofQ;have hv:=ZA4 ha.rows hb.rows;have hn:=ZBi ha.name hb.name;rw[ZDe ha.rows hb.rows,ZKx,ZEm ha.name hb.name,ZKx,ZB6 (hv.wq (by decide)),ZKx,ZBI]
 by_cases h1:ZwU (ZtC a.Cells) (ZtC b.Cells)=0
 ·rw[decide_eq_true h1,cond_true,ZB6 (hn.wq (by decide)),ZKx,ZBI]
  by_cases h2:ZwU (Zws a.Name) (Zws b.Name)=0
  ·rw[decide_eq_true h2,if_pos ⟨h1,h2⟩];unfold Zsn;rw[cond_true,ZA0,ZKx]
  ·rw[decide_eq_false h2,if_neg (fun h=>h2 h.2)];exact ZHh ha hb hv hn
 ·rw[decide_eq_false h1,cond_false,if_neg (fun h=>h1 h.1)];exact ZHh ha hb hv hn
theorem ZDK (a:G_api_Column):ZEy a a=if Zws a.Name=[]then (if ZtC a.Cells=[]then 0 else 3 / 4)else (if ZtC a.Cells=[]then 1 / 2 else 1):=by
 unfold ZEy;rw[Zzs,Zzs];unfold ofQ ZC9;have e:Zsb a.Cells - Zsb a.Cells=0:=by grind
 rw[e]
 by_cases h1:Zws a.Name=[]<;>by_cases h2:ZtC a.Cells=[]<;>simp only[h1,h2,if_true,if_false]<;>decide+kernel
theorem ZF5 {a b:G_api_Column} (ha:Zy1 a) (hb:Zy1 b):Sz 100 (ZEy a b):=by
 unfold ZEy ofQ;have hr1:=ha.rows;have hr2:=hb.rows;have hv:=ZA4 ha.rows hb.rows;have hn:=ZBi ha.name hb.name;have h1:Sz 10 (Zsb a.Cells):=Zx0 (by omega) (by decide);have h2:Sz 10 (Zsb b.Cells):=Zx0 (by omega) (by decide);have h3:Sz 21 (Zsb a.Cells - Zsb b.Cells):=by rw[Rat.sub_eq_add_neg];exact h1.add h2.neg
 have h4:=ZCl h3 (by decide);split
 ·exact Zy3.mono (by decide)
 ·have h5:Sz 32 (1 - ZC9 (Zsb a.Cells - Zsb b.Cells)):=by rw[Rat.sub_eq_add_neg];exact(ZAi.add h4.neg).mono (by decide)
  exact(Sz.div (by decide) (((hv.add hv).add hn).add h5) ZB4).mono (by decide)
end Go.Proofs
namespace Go.Proofs
open Go Eng
theorem ZBF {a b:List Str} (ha:a.length≤1000000):Zo4 a b=some (decide (a=b)):=by
 unfold Zo4
 by_cases hl:a.length=b.length
 ·rw[show ((a.length:Int) != (b.length:Int))=false by rw[hl];simp,cond_false];have key:wp (ZoC big b a (a.length:Int) 0) (fun x=>x=if a=b then .brk ()else .ret false):=by
   refine ZyT ZwK a (by omega) (fun i (_:Unit)=>(b,a,(a.length:Int),i)) (fun k _=>a.take k=b.take k) () (by simp) ?_ ?_
   ·rintro rec k _ hk he ih;unfold ZqM Zo3;dsimp only;have hkb:k < b.length:=by omega
    rw[decide_eq_true (show (k:Int) < (a.length:Int) by omega),cond_true,Zur hk,ZKx,Zur hkb,ZKx]
    by_cases h:b[k]=a[k]
    ·rw[show (b[k] == a[k])=true by simpa using h,ZJY,cond_false,ZnE];refine⟨ZnI (by omega),ih () ?_⟩;rw[ZKs hk,ZKs hkb,he,h]
    ·rw[show (b[k] == a[k])=false by simpa using h,Bool.not_false,cond_true,ZnC,if_neg];intro e;subst e;exact h rfl
   ·rintro rec _ he;unfold ZqM Zo3;dsimp only;rw[decide_eq_false (show ¬(a.length:Int) < (a.length:Int) by omega),cond_false,ZnC,if_pos];have h2:=he;rw[ZKr,hl,ZKr]at h2;exact h2
  obtain⟨x,hx,rfl⟩:=key;rw[hx,ZKx]
  by_cases h:a=b
  ·rw[if_pos h,decide_eq_true h];rfl
  ·rw[if_neg h,decide_eq_false h]
 ·rw[show ((a.length:Int) != (b.length:Int))=true by simp;omega,cond_true,decide_eq_false (fun e=>hl (by rw[e]))]
theorem Zzx {l r:List Str} (h1:r.Pairwise (fun a b=>a≤b)) (h2:r.Nodup) (h:∀x,x∈l↔x∈r):Zs5 l=r:=
 ZyN (Zzj l) h1 (Zw3 l) h2 fun x=>by rw[Zwq,h]
def ZBW:Str:=[85,110,105,116,32,80,114,105,99,101,95,50]
def Zzu:G_api_Column:=⟨ZBW,[⟨false,[49]⟩,⟨false,[120]⟩]⟩
theorem ZCL:Zws ZBW=[[50],[112,114,105,99,101],[117,110,105,116]]:=by
 have e:Zyx (ZBW++[32]) []=[[117,110,105,116],[112,114,105,99,101],[50]]:=by decide+kernel
 unfold Zws;rw[e];exact Zzx (by decide+kernel) (by decide+kernel) (fun x=>by simp only[ZKm,ZKo,or_false];constructor<;>(rintro(h |h |h)<;>simp[h]))
theorem ZGe:Zy1 Zzu:=⟨by decide,by decide,fun x hx=>by simp only[Zzu,ZKm,ZKo,or_false]at hx;rcases hx with rfl |rfl<;>decide⟩
theorem ZDQ:ZtC Zzu.Cells≠[]:=by
 intro h;have:([49]:Str)∈ZtC Zzu.Cells:=by unfold ZtC;rw[Zwq];decide+kernel
 rw[h]at this;simp at this
theorem ZFT:isN ⟨false,[49]⟩=true:=by unfold isN;decide+kernel
theorem ZI8:isN ⟨false,[120]⟩=false:=by unfold isN;decide+kernel
theorem ZED:Zsb Zzu.Cells=1 / 2:=by
 unfold Zsb ZCd Zyv;have e1:(Zzu.Cells.filter fun x=> !x.Null&&isN x)=[⟨false,[49]⟩]:=by simp[Zzu,ZFT,ZI8]
 have e2:(Zzu.Cells.filter fun x=> !x.Null)=Zzu.Cells:=by decide+kernel
 rw[e1,e2];decide+kernel
theorem ZDz:Zn8 1=some (fOf 1):=ZAc 1 (by decide) (by decide)
theorem ZDp:Zod 1 2=some (fOf (1 / 2)):=by rw[ZzG 1 2 (by decide) (by decide) (by decide) (by decide) (by decide)];congr 2;decide+kernel
theorem ZDh:Sz 2 (1 / 2):=by unfold Sz;decide+kernel
theorem ZDP:Zpl=some true:=by
 unfold Zpl Zpy;show (Zpa ZBW).bind _=_;rw[ZA2 (by decide),ZKx,ZCL,ZBF (by decide),ZKx,decide_eq_true rfl,cond_true];show (Ztn Zzu Zzu).bind _=_;have e:ZEy Zzu Zzu=1:=by rw[ZDK,if_neg (by rw[show Zzu.Name=ZBW from rfl,ZCL];simp),if_neg ZDQ]
 rw[ZEV ZGe ZGe,ZKx,e,ZDz,ZKx,Zx1 _ _ (ZAi.wq (by decide)) (ZAi.wq (by decide)),ZKx,decide_eq_true rfl,cond_true];show (ZoY Zzu).bind _=_;rw[Zz8 ZGe.cells (by decide),ZKx,ZED,ZDp,ZKx,Zx1 _ _ (ZDh.wq (by decide)) (ZDh.wq (by decide)),ZKx,decide_eq_true rfl]
end Go.Proofs
namespace Go.Proofs
open Go Eng
theorem ZzR (l:List Str):Srt l↔l.Pairwise (fun a b=>a < b):=by
 constructor
 ·intro h;rw[List.pairwise_iff_getElem];intro i j hi hj hij;exact ZAN h hij hj
 ·intro h;refine⟨h.imp fun h=>List.le_of_lt h, ?_⟩;exact h.imp fun {a b} h e=>by subst e;exact List.lt_irrefl _ h
theorem ZBM {a w:Str} (h:¬a < w) (hne:a≠w):w < a:=by
 rcases List.le_iff_lt_or_eq.1 (List.not_lt.1 h)with h1 |h1
 ·exact h1
 ·exact absurd h1.symm hne
theorem ZCX:((List.range 256).all fun n=>decide (Zp0 (n:Int)=some (((xwC n.toUInt8).toNat:Nat):Int)))=true:=by kernel_rfl
theorem ZDw (b:UInt8):Zp0 ((b.toNat:Nat):Int)=some (((xwC b).toNat:Nat):Int):=by
 have:=of_decide_eq_true (ZJ1.1 ZCX b.toNat (List.mem_range.2 b.toNat_lt))
 rwa [show b.toNat.toUInt8=b from UInt8.ofNat_toNat]at this
theorem ZHa {ws:List Str} {w:Str} (hl:ws.length≤1000):Zrn (Zs5 ws) w=some (Zs5 (ws++[w])):=by
 have hs:=ZA9 ws;have hlen:=Zzi ws;have hmem:∀x,x∈Zs5 ws↔x∈ws:=Zwq ws;generalize Zs5 ws=l at hs hlen hmem;refine Zpf ?_;unfold Zrn;rw[ZnF];refine ZnR (Zwt ZxJ (fun(i:Nat)=>(l,w,(i:Int))) (fun i=>i≤l.length∧∀k (h:k < l.length),k < i→l[k] < w) (fun i=>l.length - i)
  (Q:=fun x=>∃i:Nat,x=(l,w,(i:Int))∧i≤l.length∧(∀k (h:k < l.length),k < i→l[k] < w)∧∀h:i < l.length,¬l[i] < w) 0 ⟨ZKw _,fun k _ h=>absurd h (Nat.not_lt_zero _)⟩ (by omega) ?_) ?_
 ·rintro rec i ⟨hi,hlo⟩ ih;unfold ZvG Zs6 ZrR;dsimp only;rw[ZnW];refine⟨fun h=> ?_,fun h=> ?_⟩
  ·simp only[decide_eq_true_eq]at h;have hi':i < l.length:=by omega
   rw[Zur hi',ZKx,ZEC,ZnW];refine⟨fun hc=> ?_,fun hc=> ?_⟩
   ·simp only[decide_eq_true_eq]at hc;rw[ZnE];refine⟨ZnI (by omega), ?_⟩;refine ih (i+1) ⟨by omega,fun k hk hki=> ?_⟩ (by omega);rcases ZKu k i with h1 |h1
    ·exact hlo k hk h1
    ·obtain rfl:k=i:=by omega
     exact hc
   ·simp only[decide_eq_false_iff_not]at hc;rw[ZnC];exact⟨i,rfl,hi,hlo,fun _=>hc⟩
  ·simp only[decide_eq_false_iff_not]at h;rw[cond_false,ZnC];exact⟨i,rfl,hi,hlo,fun h'=>absurd h' (by omega)⟩
 ·rintro x ⟨i,rfl,hi,hlo,hhi⟩;dsimp only;unfold Zt4 ZrQ;have ins:(∀h:i < l.length,l[i]≠w)→wp (chk (Zb9 0 (i:Int) (l.length:Int)) <| chk (ZiZ (l.take ((i:Int)).toNat).length 16) <| chk (ZiZ ((l.take ((i:Int)).toNat).length+([w]:(List Str)).length) 16) <| chk (Zb9 (i:Int) (l.length:Int) (l.length:Int)) <|
    chk (ZiZ (((l.take ((i:Int)).toNat)++([w]:(List Str))).length+(l.drop ((i:Int)).toNat).length) 16) <| some (((l.take ((i:Int)).toNat)++([w]:(List Str)))++(l.drop ((i:Int)).toNat))) (fun x=>x=Zs5 (ws++[w])):=by
   intro hne;rw[ZnE,ZnE,ZnE,ZnE,ZnE,ZnC,ZJ0];refine⟨ZpY (by omega),Zv7 (by rw[ZKk];omega),Zv7 (by rw[ZKk];simp;omega),ZpY (by omega),Zv7 (by rw[ZKe,ZKk,ZKg];simp;omega), ?_⟩;have hS:Srt ((l.take i++[w])++l.drop i):=by
    rw[ZzR,List.pairwise_append,List.pairwise_append];have hw:∀x∈l.take i,x < w:=fun x hx=>by obtain⟨k,hk,rfl⟩:=ZKd hx;rw[ZKk]at hk;rw[List.getElem_take];exact hlo k (by omega) (by omega)
    have hd:∀x∈l.drop i,w < x:=fun x hx=>by
     obtain⟨k,hk,rfl⟩:=ZKd hx;rw[ZKg]at hk;rw[List.getElem_drop];have h0:w < l[i]'(by omega):=ZBM (hhi (by omega)) (hne (by omega));rcases Nat.eq_zero_or_pos k with rfl |hk0
     ·exact h0
     ·exact List.lt_trans h0 (ZAN hs (show i < i+k by omega) (by omega))
    refine⟨⟨((ZzR l).1 hs).sublist (List.take_sublist _ _),by simp,fun a ha b hb=> ?_⟩,((ZzR l).1 hs).sublist (List.drop_sublist _ _),fun a ha b hb=> ?_⟩
    ·rw[ZKn.1 hb];exact hw a ha
    ·rcases ZKl.1 ha with ha |ha
     ·exact List.lt_trans (hw a ha) (hd b hb)
     ·rw[ZKn.1 ha];exact hd b hb
   refine(Zzx hS.1 hS.2 fun x=> ?_).symm;rw[ZKl,ZKl,ZKl,←hmem x];have e:x∈l↔x∈l.take i∨x∈l.drop i:=by rw[←ZKl,ZKq]
   rw[e];constructor
   ·rintro((h |h) |h)
    ·exact .inl (.inl h)
    ·exact .inr h
    ·exact .inl (.inr h)
   ·rintro((h |h) |h)
    ·exact .inl (.inl h)
    ·exact .inr h
    ·exact .inl (.inr h)
  rw[ZnW];refine⟨fun h=> ?_,fun h=> ?_⟩
  ·simp only[decide_eq_true_eq]at h;have hi':i < l.length:=by omega
   rw[Zur hi',ZKx,ZnW];refine⟨fun hc=> ?_,fun hc=>ins fun _ e=> ?_⟩
   ·rw[ZnC];have hc':l[i]=w:=by simpa using hc
    refine(Zzx hs.1 hs.2 fun x=> ?_).symm;rw[ZKl,←hmem x,ZKn];constructor
    ·rintro(h |h)
     ·exact h
     ·rw[h,←hc'];exact ZKc hi'
    ·exact .inl
   ·rw[e]at hc;simp at hc
  ·simp only[decide_eq_false_iff_not]at h;rw[cond_false];exact ins fun h'=>absurd h' (by omega)
theorem ZHw (s cur:Str) (ws:List Str) {r:List Str} (h:ws++Zyx s cur=r):ws.length≤r.length:=by rw[←h,ZKe];omega
theorem ZAl {name:Str} (hn:name.length≤300):Zph name=some (Zws name):=by
 refine Zpf ?_;unfold Zph Zws;have hlen:=Zzy (name++[32]) [];rw[ZKe,ZKj]at hlen;generalize hR:Zyx (name++[32]) []=R at hlen⊢
 have hnil:Zs5 []=[]:=by kernel_rfl
 rw[ZnF,show ZnX big name ([]:List Str) ([]:Str) 0=ZnX big name (Zs5 []) ([]:Str) 0 by rw[hnil]];refine ZnR (Zwt Zxi (fun(s:Nat×List Str×Str)=>(name,Zs5 s.2.1,s.2.2,(s.1:Int)))
  (fun s=>s.1≤name.length+1∧s.2.1++Zyx (List.drop s.1 (name++[32])) s.2.2=R∧s.2.2.length≤s.1) (fun s=>name.length+1 - s.1)
  (Q:=fun x=>x=Zs5 R) (0,[],[]) ⟨by omega,hR,by simp⟩ (by dsimp only;omega) ?_) ?_
 ·rintro rec ⟨i,ws,word⟩ ⟨hi,hgo,hw⟩ ih;dsimp only at hi hgo hw ih;have hwl:=ZHw _ _ _ hgo;unfold Zu9 Zss;dsimp only
  by_cases hle:i≤name.length
  ·have hi':i < (name++[32]).length:=by rw[ZKe,ZKj];omega
   have hdr:(name++[32]).drop i=(name++[32])[i]::(name++[32]).drop (i+1):=ZJ7 hi';have key:wp (Zpp (fun name out word i=>rec (name,out,word,i)) name (Zs5 ws) word (i:Int) (((xwC (name++[32])[i]).toNat:Nat):Int)) (fun x=>x=Zs5 R):=by
    rw[hdr]at hgo;unfold Zyx at hgo;unfold Zpp ZqL ZqK
    by_cases hc:xwC (name++[32])[i]=0
    ·rw[hc]at hgo⊢
     rw[show ((((0:UInt8).toNat:Nat):Int) != 0)=false from rfl,cond_false];rw[show ((0:UInt8) == 0)=true from rfl,cond_true]at hgo;cases hwd:word with
     |nil=>
      subst hwd;rw[show (!(([]:Str) == ([]:Str)))=false from rfl,cond_false,ZnE];exact⟨ZnI (by omega),ih (i+1,ws,[]) ⟨by dsimp only;omega,hgo,by simp⟩ (by dsimp only;omega)⟩
     |cons c0 r0=>
      rw[hwd,show (c0::r0).isEmpty=false from rfl,cond_false]at hgo;rw[show (!((c0::r0) == ([]:Str)))=true by simp,cond_true,ZHa (by omega),ZKx,ZnE];exact⟨ZnI (by omega),ih (i+1,ws++[c0::r0],[]) ⟨by dsimp only;omega,by dsimp only;rw[List.append_assoc];exact hgo,by simp⟩ (by dsimp only;omega)⟩
    ·have hc2:(((((xwC (name++[32])[i]).toNat:Nat):Int)) != 0)=true:=by rw[bne_iff_ne];intro e;refine hc (UInt8.toNat_inj.1 ?_);show _=0;omega
     rw[show (xwC (name++[32])[i] == 0)=false from beq_eq_false_iff_ne.2 hc,cond_false]at hgo;have e1:([((((xwC (name++[32])[i]).toNat:Nat):Int))].map fun n=>UInt8.ofNat (Int.toNat n))=[xwC (name++[32])[i]]:=by rw[List.map_cons,List.map_nil,ZJ0,UInt8.ofNat_toNat]
     rw[hc2,cond_true,e1,ZnE,ZnE];refine⟨decide_eq_true (by simp only[ZKj];unfold Zq;omega),ZnI (by omega),ih (i+1,ws,word++[xwC (name++[32])[i]]) ⟨by dsimp only;omega,hgo,by dsimp only;rw[ZKe,ZKj];omega⟩ (by dsimp only;omega)⟩
   rw[decide_eq_true (show (i:Int)≤(name.length:Int) by omega),cond_true]
   by_cases hlt:i < name.length
   ·rw[decide_eq_true (show (i:Int) < (name.length:Int) by omega),cond_true,Zur hlt,ZKx,ZDw,ZKx]
    rwa [List.getElem_append_left hlt]at key
   ·obtain rfl:i=name.length:=by omega
    rw[decide_eq_false (show ¬(name.length:Int) < (name.length:Int) by omega),cond_false];rw[List.getElem_append_right (Nat.le_refl _)]at key;simp only[Nat.sub_self,List.getElem_cons_zero]at key
    rwa [show (((xwC 32).toNat:Nat):Int)=0 by decide+kernel]at key
  ·obtain rfl:i=name.length+1:=by omega
   rw[decide_eq_false (show ¬((name.length+1:Nat):Int)≤(name.length:Int) by omega),cond_false,ZnC];rw[List.drop_of_length_le (by simp)]at hgo;unfold Zyx at hgo;rw[List.append_nil]at hgo;rw[hgo]
 ·rintro x rfl;unfold Zs7;rw[ZnC]
theorem ZCj {b:List Str} (hb:b.Nodup) (x:Str):(b.filter fun y=>x == y).length=if b.contains x then 1 else 0:=by
 induction b with
 |nil=>rfl
 |cons y r ih=>
  rw[List.nodup_cons]at hb;have ih:=ih hb.2;rw[ZJ9,ZJ3]
  by_cases h:x=y
  ·subst h;have hn:r.contains x=false:=by rw[Bool.eq_false_iff];intro h2;exact hb.1 (ZJ4.1 h2)
   rw[hn]at ih;simp only[beq_self_eq_true,if_true,ZKf,Bool.true_or];rw[ih];rfl
  ·have h1:(x == y)=false:=by simpa using h
   rw[h1,Bool.false_or];simp only[Bool.false_eq_true,if_false];exact ih
theorem ZAT {a b:List Str} (ha:Srt a) (hb:Srt b) (hla:a.length≤1000) (hlb:b.length≤1000):ZoM a b=some (fOf (ZwU a b)):=by
 refine Zpf ?_;have hcl:=ZzY a b;unfold ZoM;rw[ZnF];refine ZnR (ZqI ZwY a.length (by omega) (fun i (n:Nat)=>(a,b,(n:Int),a,(a.length:Int),i,false,false,([]:List Int),([]:List Int))) (fun i n=>n=comm (a.take i) b)
  (Q:=fun x=>x=(a,b,(comm a b:Int),false,false,([]:List Int),([]:List Int))) 0 (by simp[comm]) ?_ ?_) ?_
 ·rintro rec i n hi rfl ih;unfold ZrC ZpC;dsimp only;have hcl2:=ZzY (a.take i) b;rw[ZKk]at hcl2;rw[decide_eq_true (show (i:Int) < (a.length:Int) by omega),cond_true,Zur hi,ZKx,ZnF];refine ZnR (ZqI ZwX b.length (by omega) (fun k (n:Nat)=>(a,b,(n:Int),a[i],a,(a.length:Int),(i:Int),b,(b.length:Int),k,false,false,([]:List Int),([]:List Int))) (fun k n=>n=comm (a.take i) b+((b.take k).filter fun y=>a[i] == y).length)
   (Q:=fun x=>x=(a,b,((comm (a.take i) b+(b.filter fun y=>a[i] == y).length:Nat):Int),a,(a.length:Int),(i:Int),false,false,([]:List Int),([]:List Int))) (comm (a.take i) b) (by simp) ?_ ?_) ?_
  ·rintro rec2 k n hk rfl ih2;unfold ZrB ZpB Zqe;dsimp only;have hf:((b.take k).filter fun y=>a[i] == y).length≤k:=ZKt (ZKh _ _) (by rw[ZKk];omega);have hs:((b.take (k+1)).filter fun y=>a[i] == y).length=((b.take k).filter fun y=>a[i] == y).length+(bif a[i] == b[k]then 1 else 0):=by rw[ZKs hk,ZJ8,ZKe];cases h:a[i] == b[k]<;>simp[ZJ9,h]
   rw[decide_eq_true (show (k:Int) < (b.length:Int) by omega),cond_true,Zur hk,ZKx];cases h:a[i] == b[k]with
   |true=>
    rw[h]at hs;rw[cond_true,ZnE,ZnE];refine⟨ZnI (by omega),ZnI (by omega), ?_⟩;have:=ih2 (comm (a.take i) b+((b.take k).filter fun y=>a[i] == y).length+1) (by rw[hs];rfl)
    rwa [show ((comm (a.take i) b+((b.take k).filter fun y=>a[i] == y).length+1:Nat):Int)=((comm (a.take i) b+((b.take k).filter fun y=>a[i] == y).length:Nat):Int)+1 by omega]at this
   |false=>
    rw[h]at hs;rw[cond_false,ZnE];exact⟨ZnI (by omega),ih2 _ (by rw[hs];rfl)⟩
  ·rintro rec2 n rfl;unfold ZrB ZpB;dsimp only;rw[decide_eq_false (show ¬(b.length:Int) < (b.length:Int) by omega),cond_false,ZnC,ZKr]
  ·rintro x rfl;dsimp only;unfold Zsv;rw[ZnE];refine⟨ZnI (by omega),ih _ ?_⟩;rw[ZCj hb.2];unfold comm;rw[ZKs hi,ZJ8,ZKe];congr 1;cases h:b.contains a[i]<;>(simp only[ZJ9,h,List.filter_nil];rfl)
 ·rintro rec n rfl;unfold ZrC ZpC;dsimp only;rw[decide_eq_false (show ¬(a.length:Int) < (a.length:Int) by omega),cond_false,ZnC,ZKr]
 ·rintro x rfl;dsimp only;unfold Zsu;rw[ZnE,ZnW];refine⟨ZnI (by omega),fun h=> ?_,fun h=> ?_⟩
  ·have h0:a.length+b.length=0:=by
    have:(a.length:Int)+(b.length:Int)=0:=by simpa using h
    omega
   have ha0:a=[]:=List.eq_nil_of_length_eq_zero (by omega);subst ha0;unfold ZnS;rw[ZAc 0 (by decide) (by decide),ZKx,ZKx,ZnC];have:ZwU [] b=0:=by have hb0:b=[]:=List.eq_nil_of_length_eq_zero (by omega);subst hb0;rw[Zzs,if_pos rfl]
   rw[this];rfl
  ·have h0:¬(a.length+b.length=0):=by
    intro e;have:((a.length:Int)+(b.length:Int) == 0)=true:=by simp;omega
    rw[this]at h;cases h
   have hcb:comm a b≤b.length:=by have:=ZzY b a;rw[←ZDI ha.2 hb.2]at this;exact this
   rw[ZnE,ZnE,ZzG _ _ (by omega) (by omega) (by omega) (by omega) (by omega),ZKx,ZnC];refine⟨ZnI (by omega),ZnI (by omega), ?_⟩;unfold ZwU;rw[ZKv (by omega)];congr 2;omega
end Go.Proofs
namespace Go.Proofs
open Go Eng
theorem ZA3 {d:ZnD} (hd:Zyh d) {l:List Str} (h0:1≤l.length) (h1:l.length≤1000):wp (Zob d l) (fun r=>r.1∈l∧Zyh r.2):=by
 unfold Zob;rw[ZnF];refine ZnR (ZzU hd (by omega)) fun⟨q,d1⟩ ⟨hq,hd1⟩=> ?_
 dsimp only at hq hd1⊢
 rw[ZnF,ZEG];refine⟨hq.1,by omega, ?_⟩;rw[ZnC];exact⟨ZKc _,hd1⟩
def ZBt (c:G_api_Cell):Prop:=c.Text.length≤10
theorem ZBE:([([97]:Str),([98]:Str),([99]:Str),([49]:Str),([50]:Str),([51]:Str),([49,48]:Str),([120]:Str),([45,49,46,53]:Str),([50]:Str),[100],[],([49,46,50,46,51]:Str),([49,46,53,48]:Str)]:List Str).all (fun s=>decide (s.length≤10))=true:=by kernel_rfl
theorem ZAL:(((List.range 12).map fun i:Nat=>Lib.itoa ((i:Int) - 3))++(List.range 14).map fun i:Nat=>([107]:Str)++Lib.itoa (i:Int)).all (fun s=>decide (s.length≤10))=true:=by kernel_rfl
theorem ZF8 {d:ZnD} (hd:Zyh d):wp (Zsg d) (fun r=>ZBt r.1∧Zyh r.2):=by
 unfold Zsg;rw[ZnF];refine ZnR (ZzU hd (by omega)) fun⟨q,d1⟩ ⟨hq,hd1⟩=> ?_
 dsimp only at hq hd1⊢
 rw[ZnW];refine⟨fun _=> ?_,fun _=> ?_⟩
 ·rw[ZnC];exact⟨ZKw _,hd1⟩
 ·rw[ZnF];refine ZnR (ZA3 hd1 (by decide) (by decide)) fun⟨s,d2⟩ ⟨hs,hd2⟩=> ?_
  dsimp only at hs hd2⊢
  rw[ZnC];refine⟨show s.length≤10 from of_decide_eq_true (ZJ1.1 ZBE s ?_),hd2⟩;simp only[ZKm,ZKo,or_false]at hs⊢
  rcases hs with h |h |h |h |h |h |h |h |h |h<;>simp[h]
theorem ZC0 {n:Int} (h: -3≤n∧n≤8):(Lib.itoa n).length≤10:=by refine of_decide_eq_true <| ZJ1.1 ZAL _ (List.mem_append_left _ (List.mem_map.2 ⟨(n+3).toNat,List.mem_range.2 (by omega), ?_⟩));rw[show (((n+3).toNat:Nat):Int) - 3=n by omega]
theorem ZFR {n:Int} (h:0≤n∧n < 14):(([107]:Str)++Lib.itoa n).length≤10:=by refine of_decide_eq_true <| ZJ1.1 ZAL _ (List.mem_append_right _ (List.mem_map.2 ⟨n.toNat,List.mem_range.2 (by omega), ?_⟩));rw[show ((n.toNat:Nat):Int)=n by omega]
theorem ZDr {d:ZnD} (hd:Zyh d):wp (Zq2 d) (fun r=>ZBt r.1∧Zyh r.2):=by
 unfold Zq2;rw[ZnF];refine ZnR (ZzU hd (by omega)) fun⟨q,d1⟩ ⟨hq,hd1⟩=> ?_
 dsimp only at hq hd1⊢
 rw[ZnW];refine⟨fun _=> ?_,fun _=> ?_⟩
 ·rw[ZnC];exact⟨ZKw _,hd1⟩
 rw[ZnW];refine⟨fun _=> ?_,fun _=> ?_⟩
 ·rw[ZnF];refine ZnR (ZA3 hd1 (by decide) (by decide)) fun⟨s,d2⟩ ⟨hs,hd2⟩=> ?_
  dsimp only at hs hd2⊢
  rw[ZnC];refine⟨show s.length≤10 from of_decide_eq_true (ZJ1.1 ZBE s ?_),hd2⟩;simp only[ZKm,ZKo,or_false]at hs⊢
  rcases hs with h |h |h |h<;>simp[h]
 ·rw[ZnF];refine ZnR (ZzU hd1 (by omega)) fun⟨q,d2⟩ ⟨hq,hd2⟩=> ?_
  dsimp only at hq hd2⊢
  unfold Zvj;rw[ZnE,ZnF,ZnC,ZnC];exact⟨ZnI (by omega),ZC0 (by omega),hd2⟩
theorem abcd:([([97]:Str),([98]:Str),([99]:Str),([100]:Str)]:List Str).all (fun s=>decide (s.length≤10))=true:=by kernel_rfl
theorem ZC1 {n:Int} (h:0≤n∧n < 14):(Lib.itoa n).length≤2:=by
 have h1:((List.range 14).all fun i:Nat=>decide ((Lib.itoa (i:Int)).length≤2))=true:=by kernel_rfl
 have:=of_decide_eq_true (ZJ1.1 h1 n.toNat (List.mem_range.2 (by omega)))
 rwa [show ((n.toNat:Nat):Int)=n by omega]at this
theorem ZCe:(([([105,100]:Str),([110,97,109,101]:Str),([85,110,105,116,32,80,114,105,99,101]:Str),([99,105,116,121]:Str),([117,110,105,116]:Str),([112,114,105,99,101]:Str),([105,100,50]:Str),([]:Str)]:List Str).all fun s=>decide (s.length≤10))=true:=by kernel_rfl
theorem ZBS {d:ZnD} (hd:Zyh d) (rows:Nat) (hr:rows≤14):
  wp (ZpG d (rows:Int)) (fun r=>(r.1.Name.length≤10∧r.1.Cells.length=rows∧∀c∈r.1.Cells,ZBt c)∧Zyh r.2):=by
 unfold ZpG;rw[ZnF];refine ZnR (ZA3 hd (by decide) (by decide)) fun⟨nm,d1⟩ ⟨hnm0,hd1⟩=> ?_
 dsimp only at hd1 hnm0⊢
 have hnm:nm.length≤10:=of_decide_eq_true (ZJ1.1 ZCe nm hnm0);rw[ZnF];refine ZnR (ZzU hd1 (by omega)) fun⟨kind,d2⟩ ⟨_,hd2⟩=> ?_
 dsimp only at hd2⊢
 rw[ZnF];refine ZnR (ZqI ZxA rows (by omega) (fun i (t:ZnD×List G_api_Cell)=>(kind,(rows:Int),i,t.1,([]:Str),nm,([]:List G_api_Cell),t.2))
  (fun k t=>Zyh t.1∧t.2.length=k∧∀c∈t.2,ZBt c) (Q:=fun x=>x.2.2.1=nm∧Zyh x.1∧x.2.2.2.2.length=rows∧∀c∈x.2.2.2.2,ZBt c) (d2,[]) ⟨hd2,rfl,fun c hc=>absurd hc (by simp)⟩ ?_ ?_) ?_
 ·rintro rec k ⟨d,cs⟩ hk ⟨hd,hlen,hcs⟩ ih;dsimp only at hd hlen hcs ih;have next:∀(x:G_api_Cell) (d':ZnD),ZBt x→Zyh d'→wp (Zon (fun kind t15 i d t4 c t4_1 c_1=>rec (kind,t15,i,d,t4,c,t4_1,c_1)) kind (rows:Int) (k:Int) d' [] nm x [] cs) (fun x=>x.2.2.1=nm∧Zyh x.1∧x.2.2.2.2.length=rows∧∀c∈x.2.2.2.2,ZBt c):=by
   intro x d' hx hd';unfold Zon;rw[ZnE,ZnE];refine⟨Zv7 (by rw[ZKj];omega),ZnI (by omega),ih (d',cs++[x]) ⟨hd',by dsimp only;rw[ZKe,ZKj];omega,fun c hc=> ?_⟩⟩;rcases ZKl.1 hc with hc |hc
   ·exact hcs c hc
   ·obtain rfl:=ZKn.1 hc;exact hx
  unfold ZsV ZqH;dsimp only;rw[decide_eq_true (show (k:Int) < (rows:Int) by omega),cond_true,ZnF];refine ZnR (ZF8 hd) fun⟨x,d3⟩ ⟨hx,hd3⟩=> ?_
  dsimp only at hx hd3⊢
  rw[ZnW];refine⟨fun _=> ?_,fun _=> ?_⟩
  ·rw[ZnF];exact ZnR (ZDr hd3) fun⟨y,d4⟩ ⟨hy,hd4⟩=>next y d4 hy hd4
  rw[ZnW];refine⟨fun _=> ?_,fun _=> ?_⟩
  ·unfold Zvj;have:=ZC1 (n:=(k:Int)) (by omega);rw[ZnF,ZnC,ZnE];exact⟨decide_eq_true (by rw[ZKj];unfold Zq;omega),next _ d3 (ZFR (by omega)) hd3⟩
  rw[ZnW];refine⟨fun _=> ?_,fun _=> ?_⟩
  ·rw[ZnF];exact ZnR (ZA3 hd3 (by decide) (by decide)) fun⟨s,d4⟩ ⟨hs,hd4⟩=>next _ d4 (show s.length≤10 from of_decide_eq_true (ZJ1.1 abcd s hs)) hd4
  ·exact next x d3 hx hd3
 ·rintro rec ⟨d,cs⟩ ⟨hd,hlen,hcs⟩;unfold ZsV ZqH;dsimp only at hd hlen hcs⊢
  rw[decide_eq_false (show ¬(rows:Int) < (rows:Int) by omega),cond_false,ZnC];exact⟨rfl,hd,hlen,hcs⟩
 ·rintro⟨d,_,nm',_,cs⟩ ⟨h0,h1,h2,h3⟩;unfold ZtM;dsimp only at h0 h1 h2 h3⊢
  subst h0;rw[ZnC];exact⟨⟨hnm,h2,h3⟩,h1⟩
end Go.Proofs
namespace Go.Proofs
open Go Eng
theorem ZFH:Zs5 []=[]:=by kernel_rfl
theorem ZFW {ws l:List Str} {w:Str} {i:Nat} (hs:Srt l) (hmem:∀x,x∈l↔x∈ws) (hlo:∀k (h:k < l.length),k < i→l[k] < w) (hhi:∀h:i < l.length,¬l[i] < w) (hne:∀h:i < l.length,l[i]≠w):Zs5 (ws++[w])=l.take i++(w::l.drop i):=by
 have hS:Srt (l.take i++(w::l.drop i)):=by
  rw[ZzR,List.pairwise_append,List.pairwise_cons];have hw:∀x∈l.take i,x < w:=fun x hx=>by obtain⟨k,hk,rfl⟩:=ZKd hx;rw[ZKk]at hk;rw[List.getElem_take];exact hlo k (by omega) (by omega)
  have hd:∀x∈l.drop i,w < x:=fun x hx=>by
   obtain⟨k,hk,rfl⟩:=ZKd hx;rw[ZKg]at hk;rw[List.getElem_drop];have h0:w < l[i]'(by omega):=ZBM (hhi (by omega)) (hne (by omega));rcases Nat.eq_zero_or_pos k with rfl |hk0
   ·exact h0
   ·exact List.lt_trans h0 (ZAN hs (show i < i+k by omega) (by omega))
  refine⟨((ZzR l).1 hs).sublist (List.take_sublist _ _),⟨hd,((ZzR l).1 hs).sublist (List.drop_sublist _ _)⟩,fun a ha b hb=> ?_⟩;rcases ZKm.1 hb with rfl |hb
  ·exact hw a ha
  ·exact List.lt_trans (hw a ha) (hd b hb)
 refine Zzx hS.1 hS.2 fun x=> ?_
 rw[ZKl,ZKl,ZKn,ZKm,←hmem x];have e:x∈l↔x∈l.take i∨x∈l.drop i:=by rw[←ZKl,ZKq]
 rw[e];constructor
 ·rintro((h |h) |h)
  ·exact .inl h
  ·exact .inr (.inr h)
  ·exact .inr (.inl h)
 ·rintro(h |h |h)
  ·exact .inl (.inl h)
  ·exact .inr h
  ·exact .inl (.inr h)
theorem ZFD {ws l:List Str} {w:Str} (hs:Srt l) (hmem:∀x,x∈l↔x∈ws) (h:w∈l):Zs5 (ws++[w])=l:=by
 refine Zzx hs.1 hs.2 fun x=> ?_
 rw[ZKl,←hmem x,ZKn];exact⟨fun h'=>h'.elim id fun e=>e▸h,.inl⟩
theorem ZG8 {l:List Str} (hl:l.length≤1000):Zrq l=some (Zs5 l):=by
 refine Zpf ?_;unfold Zrq;rw[ZnF];refine ZnR (ZyT ZxL l (by omega) (fun i (out:List Str)=>(l,(l.length:Int),i,out)) (fun k out=>out=Zs5 (l.take k)) (Q:=fun x=>x=Zs5 l) [] (by rw[List.take_zero,ZFH]) ?_ ?_) ?_
 ·rintro rec k out hk rfl ih;have hlen:=Zzi (l.take k);rw[ZKk]at hlen;have hs:=ZA9 (l.take k);have hmem:∀x,x∈Zs5 (l.take k)↔x∈l.take k:=Zwq _;have htk:l.take (k+1)=l.take k++[l[k]]:=ZKs hk;unfold Zta ZqR;dsimp only;rw[decide_eq_true (show (k:Int) < (l.length:Int) by omega),cond_true,Zur hk,ZKx,ZnF];rw[htk]at ih;generalize l.take k=ws at hmem ih hs hlen;generalize Zs5 ws=o at hs hlen hmem;generalize l[k]=w at ih;refine ZnR (Zwt ZxK (fun i:Nat=>(w,(i:Int),l,(l.length:Int),(k:Int),o)) (fun i=>i≤o.length∧∀j (h:j < o.length),j < i→o[j] < w) (fun i=>o.length - i)
   (Q:=fun x=>∃i:Nat,x=(w,(i:Int),l,(l.length:Int),(k:Int),o)∧i≤o.length∧(∀j (h:j < o.length),j < i→o[j] < w)∧∀h:i < o.length,¬o[i] < w) 0 ⟨ZKw _,fun k _ h=>absurd h (Nat.not_lt_zero _)⟩ (by omega) ?_) ?_
  ·rintro rec2 i ⟨hi,hlo⟩ ih2;unfold ZvI Zs9 ZrX;dsimp only
   by_cases hio:i < o.length
   ·rw[decide_eq_true (show (i:Int) < (o.length:Int) by omega),cond_true,ZAw hio,chk_true,ZJ0,ZKb hio,ZKx,ZEC]
    by_cases hc:o[i] < w
    ·rw[decide_eq_true hc,cond_true,ZnE];refine⟨ZnI (by omega),ih2 (i+1) ⟨by omega,fun k hk hki=> ?_⟩ (by omega)⟩;rcases ZKu k i with h1 |h1
     ·exact hlo k hk h1
     ·obtain rfl:k=i:=by omega
      exact hc
    ·rw[decide_eq_false hc,cond_false,ZnC];exact⟨i,rfl,hi,hlo,fun _=>hc⟩
   ·rw[decide_eq_false (show ¬(i:Int) < (o.length:Int) by omega),cond_false,cond_false,ZnC];exact⟨i,rfl,hi,hlo,fun h'=>absurd h' hio⟩
  ·rintro x ⟨i,rfl,hi,hlo,hhi⟩;dsimp only;unfold Zt9 ZrW ZrV;have ins:(∀h:i < o.length,o[i]≠w)→wp (chk (Zb9 0 (i:Int) (o.length:Int)) <| chk (Zb9 (i:Int) (o.length:Int) (o.length:Int)) <| chk (ZiZ (([w]:(List Str)).length+((o.drop (((i:Int)).toNat)).take ((o.length:Int).toNat - ((i:Int)).toNat)).length) 16) <|
     chk (decide ((((i:Int)).toNat - 0)≤o.length)) <| chk (ZiZ ((((i:Int)).toNat - 0)+(([w]:(List Str))++((o.drop (((i:Int)).toNat)).take ((o.length:Int).toNat - ((i:Int)).toNat))).length) 16) <|
     chk (inK .i64 ((k:Int)+1)) <| rec (l,(l.length:Int),(k:Int)+1,(o.take (((i:Int)).toNat - 0)++(([w]:(List Str))++((o.drop (((i:Int)).toNat)).take ((o.length:Int).toNat - ((i:Int)).toNat)))))) (fun x=>x=Zs5 l):=by
    intro hne;have e:=ZFW hs hmem hlo hhi hne;rw[ZJ0,ZJ0,Nat.sub_zero,List.take_of_length_le (l:=o.drop i) (by rw[ZKg];omega)];rw[ZnE,ZnE,ZnE,ZnE,ZnE,ZnE];refine⟨ZpY (by omega),ZpY (by omega),Zv7 (by rw[ZKg,ZKj];omega),decide_eq_true hi,Zv7 (by rw[ZKe,ZKg,ZKj];omega),ZnI (by omega),ih _ ?_⟩;rw[e];rfl
   by_cases hio:i < o.length
   ·rw[beq_eq_false_iff_ne.2 (show ((i:Int))≠(o.length:Int) by omega),cond_false,ZAw hio,chk_true,ZJ0,ZKb hio,ZKx]
    by_cases hc:o[i]=w
    ·rw[show (!(o[i] == w))=false by simp[hc],cond_false,ZnE];exact⟨ZnI (by omega),ih _ (ZFD hs hmem (hc▸ZKc hio)).symm⟩
    ·rw[show (!(o[i] == w))=true by simp[hc],cond_true];exact ins fun _=>hc
   ·rw[show (((i:Int)) == (o.length:Int))=true by rw[show i=o.length by omega];simp,cond_true,cond_true];exact ins fun h=>absurd h hio
 ·rintro rec out rfl;unfold Zta ZqR;dsimp only;rw[decide_eq_false (show ¬(l.length:Int) < (l.length:Int) by omega),cond_false,ZnC,ZKr]
 ·rintro x rfl;unfold Zt8;rw[ZnC]
theorem Zz1 {c:G_api_Column} (hl:c.Cells.length≤1000):ZoU c=some (ZtC c.Cells):=by
 refine Zpf ?_;have hle:∀l:List G_api_Cell,(ZzC l).length≤l.length:=fun l=>by unfold ZzC;rw[ZKi];exact ZKh _ _
 unfold ZoU;rw[ZnF];refine ZnR (ZyT Zw6 c.Cells (by omega) (fun i (l:List Str)=>(c.Cells,(c.Cells.length:Int),i,l)) (fun k l=>l=ZzC (c.Cells.take k)) (Q:=fun x=>x=ZzC c.Cells) [] rfl ?_ ?_) ?_
 ·rintro rec k l hk rfl ih;have htk:c.Cells.take (k+1)=c.Cells.take k++[c.Cells[k]]:=ZKs hk;have h1:=hle (c.Cells.take k);rw[ZKk]at h1;unfold Zsd ZpS Zqz;dsimp only;rw[decide_eq_true (show (k:Int) < (c.Cells.length:Int) by omega),cond_true,Zur hk,ZKx];rw[htk]at ih;cases hn:c.Cells[k].Null with
  |true=>
   rw[ZJY,cond_false,ZnE];exact⟨ZnI (by omega),ih _ (by unfold ZzC;rw[ZJ8,List.map_append,ZJ9,hn];simp)⟩
  |false=>
   rw[Bool.not_false,cond_true,ZnE,ZnE];exact⟨Zv7 (by rw[ZKj];omega),ZnI (by omega),ih _ (by unfold ZzC;rw[ZJ8,List.map_append,ZJ9,hn];simp)⟩
 ·rintro rec l rfl;unfold Zsd ZpS;dsimp only;rw[decide_eq_false (show ¬(c.Cells.length:Int) < (c.Cells.length:Int) by omega),cond_false,ZnC,ZKr]
 ·rintro x rfl;have h1:=hle c.Cells;unfold ZsL;rw[ZG8 (by omega),ZKx,ZnC];rfl
theorem ZAQ {a b:G_api_Column} (ha:a.Cells.length≤100) (hb:b.Cells.length≤100):ZoT a b=some (fOf (ZwU (ZtC a.Cells) (ZtC b.Cells))):=by have h1:=Zw4 a.Cells;have h2:=Zw4 b.Cells;unfold ZoT;rw[Zz1 (by omega),ZKx,Zz1 (by omega),ZKx,ZAT (ZzQ _) (ZzQ _) (by omega) (by omega),ZKx]
theorem ZB9 {a b:Str} (ha:a.length≤300) (hb:b.length≤300):Zqs a b=some (fOf (ZwU (Zws a) (Zws b))):=by have h1:=ZxX a;have h2:=ZxX b;unfold Zqs;rw[ZAl ha,ZKx,ZAl hb,ZKx,ZAT (ZAk _) (ZAk _) (by omega) (by omega),ZKx]
theorem Zzr {c:G_api_Column} (hc:∀x∈c.Cells,x.Text.length≤9223372036854775807) (hl:c.Cells.length≤1000):ZoB c=some (fOf (Zsb c.Cells)):=by
 refine Zpf ?_;unfold ZoB;rw[ZnF];refine ZnR (ZyT Zxj c.Cells (by omega) (fun i (s:Nat×Nat)=>((s.1:Int),(s.2:Int),c.Cells,(c.Cells.length:Int),i,false,false,([]:List Int),([]:List Int))) (fun k s=>s.1=Zyv (c.Cells.take k)∧s.2=ZCd (c.Cells.take k))
  (Q:=fun x=>x=((Zyv c.Cells:Int),(ZCd c.Cells:Int),false,false,([]:List Int),([]:List Int))) (0,0) ⟨by simp[Zyv],by simp[ZCd]⟩ ?_ ?_) ?_
 ·rintro rec k ⟨f,n⟩ hk ⟨hf,hn⟩ ih;dsimp only at hf hn ih;unfold Zst Zqd Zpr;dsimp only;have hs:c.Cells.take (k+1)=c.Cells.take k++[c.Cells[k]]:=ZKs hk;have b1:=ZzM (c.Cells.take k);have b2:=ZAr (c.Cells.take k);rw[ZKk]at b1;have e1:Zyv (c.Cells.take (k+1))=f+(bif c.Cells[k].Null then 0 else 1):=by rw[hs,hf];unfold Zyv;rw[ZJ8,ZKe];cases h:c.Cells[k].Null<;>simp[ZJ9,h]
  have e2:ZCd (c.Cells.take (k+1))=n+(bif !c.Cells[k].Null&&isN c.Cells[k]then 1 else 0):=by rw[hs,hn];unfold ZCd;rw[ZJ8,ZKe];cases h:(!c.Cells[k].Null&&isN c.Cells[k])<;>simp[ZJ9,h]
  rw[decide_eq_true (show (k:Int) < (c.Cells.length:Int) by omega),cond_true,Zur hk,ZKx];cases hnul:c.Cells[k].Null with
  |true=>
   rw[hnul]at e1 e2;rw[cond_true,ZnE];exact⟨ZnI (by omega),ih (f,n) ⟨by rw[e1];rfl,by rw[e2];rfl⟩⟩
  |false=>
   rw[hnul]at e1 e2;rw[cond_false,ZnE];refine⟨ZnI (by omega), ?_⟩;rw[ZBG (hc _ (ZKc hk)),ZKx];cases hv:ZCk c.Cells[k]with
   |some q=>
    have hi:isN c.Cells[k]=true:=by unfold isN;rw[hv];rfl
    rw[hi]at e2;dsimp only;rw[cond_true,ZnE,ZnE];refine⟨ZnI (by omega),ZnI (by omega), ?_⟩;have:=ih (f+1,n+1) ⟨by rw[e1];rfl,by rw[e2];rfl⟩
    rwa [show ((f+1:Nat):Int)=(f:Int)+1 by omega,show ((n+1:Nat):Int)=(n:Int)+1 by omega]at this
   |none=>
    have hi:isN c.Cells[k]=false:=by unfold isN;rw[hv];rfl
    rw[hi]at e2;dsimp only;rw[cond_false,ZnE];refine⟨ZnI (by omega), ?_⟩;have:=ih (f+1,n) ⟨by rw[e1];rfl,by rw[e2];rfl⟩
    rwa [show ((f+1:Nat):Int)=(f:Int)+1 by omega]at this
 ·rintro rec ⟨f,n⟩ ⟨hf,hn⟩;dsimp only at hf hn;unfold Zst Zqd;dsimp only;rw[decide_eq_false (show ¬(c.Cells.length:Int) < (c.Cells.length:Int) by omega),cond_false,ZnC,hf,hn,ZKr]
 ·rintro x rfl;have b1:=ZzM c.Cells;have b2:=ZAr c.Cells;dsimp only;unfold Zs8 Zsb
  by_cases h0:Zyv c.Cells=0
  ·rw[h0,show (((0:Nat):Int) == 0)=true from rfl,cond_true,Zzw,ZKx,ZnC,show ZCd c.Cells=0 by omega];rfl
  ·rw[beq_eq_false_iff_ne.2 (show ((Zyv c.Cells:Nat):Int)≠0 by omega),cond_false,ZzG _ _ (by omega) (by omega) (by omega) (by omega) (by omega),ZKx,ZnC,ZKv (by omega)]
theorem ZFV:Zn8 4=some (fOf 4):=ZAc 4 (by decide) (by decide)
theorem ZCD {a b:G_api_Column} (ha:Zy1 a) (hb:Zy1 b) {v n:Rat} (hv:Sz 10 v) (hn:Sz 10 n):
  Zpi false a b false false (fOf v) (fOf n) [] []=some (fOf ((v+v+n+(1 - ZC9 (Zsb a.Cells - Zsb b.Cells))) / 4)):=by
 unfold Zpi;have hr1:=ha.rows;have hr2:=hb.rows;have h1:Sz 10 (Zsb a.Cells):=Zx0 (by omega) (by decide);have h2:Sz 10 (Zsb b.Cells):=Zx0 (by omega) (by decide);have h3:Sz 21 (Zsb a.Cells - Zsb b.Cells):=h1.sub h2;have h4:Sz 23 (ZC9 (Zsb a.Cells - Zsb b.Cells)):=ZCl h3 (by decide);have h5:=hv.add hv;have h6:=h5.add hn;have h7:Sz 32 (1 - ZC9 (Zsb a.Cells - Zsb b.Cells)):=(ZAi.sub h4).mono (by decide);have h8:=h6.add h7;rw[cond_false,Zzr ha.cells (by omega),ZKx,Zzr hb.cells (by omega),ZKx,ZA8 h1 h2 (by decide),ZKx,ZEE h3 (by decide),ZKx,ZBn hv hv (by decide),ZKx,ZBn h5 hn (by decide),ZKx,ZDz,ZKx,ZA8 ZAi h4 (by decide),ZKx,ZBn h6 h7 (by decide),ZKx,ZFV,ZKx,ZEv (by decide) h8 ZB4 (by decide),ZKx]
theorem ZDn {a b:G_api_Column} (ha:Zy1 a) (hb:Zy1 b):Zsc a b=some (fOf (ZEy a b)):=by
 unfold Zsc ZEy ofQ;have hv:=ZA4 ha.rows hb.rows;have hn:=ZBi ha.name hb.name;rw[ZAQ ha.rows hb.rows,ZKx,ZB9 ha.name hb.name,ZKx,Zzw,ZKx,Zx1 _ _ (hv.wq (by decide)) (Zy3.wq (by decide)),ZKx]
 by_cases h1:ZwU (ZtC a.Cells) (ZtC b.Cells)=0
 ·rw[decide_eq_true h1,cond_true,ZKx,Zx1 _ _ (hn.wq (by decide)) (Zy3.wq (by decide)),ZKx]
  by_cases h2:ZwU (Zws a.Name) (Zws b.Name)=0
  ·rw[decide_eq_true h2,if_pos ⟨h1,h2⟩];unfold Zpi;rw[cond_true,Zzw,ZKx]
  ·rw[decide_eq_false h2,if_neg (fun h=>h2 h.2)];exact ZCD ha hb hv hn
 ·rw[decide_eq_false h1,cond_false,if_neg (fun h=>h1 h.1)];exact ZCD ha hb hv hn
end Go.Proofs
namespace Go.Proofs
open Go Eng
def ZCr (a:G_api_Column):Prop:=∀x∈a.Cells,x.Text.length≤9223372036854775807
theorem ZBR {L:List ZnH} (hL:∀p∈L,Zy1 p.e0∧Zy1 p.e1) (hlen:L.length≤100):
  wp (ZnU big (L.length:Int) 0 L) (fun x=>x= .brk ()):=by
 refine ZyT Zvf L (by omega) (fun i (_:Unit)=>((L.length:Int),i,L)) (fun _ _=>True) () trivial ?_ ?_
 ·rintro rec k _ hk _ ih;unfold Zo1 Zoj Zn5;dsimp only;obtain⟨h0,h1⟩:=hL _ (ZKc hk);have hr:=h0.rows;have hv:=(ZA4 h0.rows h1.rows).wq (by decide);have hs:Sz 10 (Zsb L[k].e0.Cells):=Zx0 (by omega) (by decide);have ho:=(ZF5 h0 h1).wq (by decide);rw[decide_eq_true (show (k:Int) < (L.length:Int) by omega),cond_true,ZAw hk,chk_true,ZJ0,ZKb hk,ZKx,show inR 0 2=true from rfl,show inR 1 2=true from rfl];simp only[chk_true];rw[ZDe h0.rows h1.rows,ZKx,ZAQ h0.rows h1.rows,ZKx,Zx1 _ _ hv hv,ZKx,decide_eq_true rfl,ZJY,cond_false,Zz8 h0.cells (by omega),ZKx,Zzr h0.cells (by omega),ZKx,Zx1 _ _ (hs.wq (by decide)) (hs.wq (by decide)),ZKx,decide_eq_true rfl,ZJY,cond_false,
   ZEV h0 h1,ZKx,ZDn h0 h1,ZKx,Zx1 _ _ ho ho,ZKx,decide_eq_true rfl,ZJY,cond_false,ZnE]
  exact⟨ZnI (by omega),ih () trivial⟩
 ·rintro rec _ _;unfold Zo1 Zoj;dsimp only;rw[decide_eq_false (show ¬(L.length:Int) < (L.length:Int) by omega),cond_false,ZnC]
theorem ZyH {a b:G_api_Column} {t:List Int} {q:Bool} (h:q=false→Zy1 a∧Zy1 b∧t.length≤500):ZnK t q a b=some true:=by
 unfold ZnK;cases q with
 |true=>rw[cond_true,ZDP];rfl
 |false=>
  obtain⟨h1,h2,h3⟩:=h rfl;refine Zpf ?_;unfold ZtS;rw[cond_false,ZnF,ZnC,ZnF];have mk:∀(c:G_api_Column) (n:Nat),n≤14→(c.Name.length≤10∧c.Cells.length=n∧∀x∈c.Cells,ZBt x)→Zy1 c:=fun c n hn ⟨h1,h2,h3⟩=>⟨by omega,by omega,fun x hx=>by have:=h3 x hx;unfold ZBt at this;omega⟩
  refine ZnR (ZBS (d:=⟨t,0⟩) ⟨by simp,by simp,by simp only;omega⟩ 6 (by omega)) ?_;rintro⟨x,d1⟩ ⟨hx,hd1⟩;dsimp only at hx hd1⊢
  rw[ZnF];refine ZnR (ZzU hd1 (n:=8) (by omega)) ?_;rintro⟨q1,d2⟩ ⟨hq1,hd2⟩;dsimp only at hq1 hd2⊢
  obtain⟨m,rfl⟩:∃m:Nat,q1=(m:Int):=⟨q1.toNat,by omega⟩;rw[ZnF];refine ZnR (ZBS hd2 m (by omega)) ?_;rintro⟨y,d3⟩ ⟨hy,hd3⟩;dsimp only at hy hd3⊢
  have ox:=mk x 6 (by omega) hx;have oy:=mk y m (by omega) hy;obtain⟨L,hL⟩:∃L:List ZnH,L=[ZnH.mk a b,ZnH.mk x y,ZnH.mk x a,ZnH.mk x x]:=⟨_,rfl⟩;rw[←hL];have hall:∀p∈L,Zy1 p.e0∧Zy1 p.e1:=by
   intro p hp;rw[hL]at hp;simp only[ZKm,ZKo,or_false]at hp;rcases hp with rfl |rfl |rfl |rfl
   ·exact⟨h1,h2⟩
   ·exact⟨ox,oy⟩
   ·exact⟨ox,h1⟩
   ·exact⟨ox,ox⟩
  rw[ZnF];refine ZnR (ZBR hall (by rw[hL];show (4:Nat)≤100;omega)) ?_;rintro _ rfl;dsimp only;unfold Zpz;rw[ZDP,ZKx,ZnC]
theorem similarityColumns_law (a b:G_api_Column) (t:List Int) (ha:ZCr a) (hb:ZCr b):ZoJ a b t=some true:=by
 unfold ZoJ Ztx
 by_cases h1:(a.Cells.length:Int) > 40
 ·rw[decide_eq_true h1,cond_true];exact ZyH (by simp)
 rw[decide_eq_false h1,cond_false]
 by_cases h2:(b.Cells.length:Int) > 40
 ·rw[decide_eq_true h2,cond_true];exact ZyH (by simp)
 rw[decide_eq_false h2,cond_false]
 by_cases h3:(a.Name.length:Int) > 100
 ·rw[decide_eq_true h3,cond_true];exact ZyH (by simp)
 rw[decide_eq_false h3,cond_false]
 by_cases h4:(b.Name.length:Int) > 100
 ·rw[decide_eq_true h4,cond_true];exact ZyH (by simp)
 rw[decide_eq_false h4,cond_false,ZKx];refine ZyH fun h=> ?_
 simp only[Bool.not_eq_false',decide_eq_true_eq]at h;exact⟨⟨by omega,by omega,ha⟩,⟨by omega,by omega,hb⟩,by omega⟩
end Go.Proofs
namespace Eng
open Go Go.Lib
theorem globOk_one {Pg:Program} {w:World} {n:String} {g:Nat} {t e:TypeId} {k:IntKind} {z:Int} (hn:Pg.globalNamed n=some g) (hty:(Pg.globals[g]?).map (·.type)=some t)
  (ht:Pg.underlying t=some (.slice e)) (he:Pg.underlying e=some (.int k)) (hce:Pg.cellsOf e=1) (hz:k.min≤z∧z≤k.max)
  (h:VarReads Pg w n (.slice [.lit (.int k z)] [])):Zej w (fun b=>b < w.heap.size) g [P.sl 1 [.int k z]]:=by
 obtain⟨g',t',cs,fuel,p,hg,hty',hvar,hd⟩:=h;obtain rfl:=Option.some.inj (hn.symm.trans hg);obtain rfl:=Option.some.inj (hty.symm.trans hty');rcases DataW.trod_slice ht hd with ⟨_,hx⟩ |⟨a,len,cap,elems,rest,m,_,hcs,hx,_,hl,hcap,hlen,hel,_,_⟩
 ·cases congrArg Prod.fst hx
 ·have e0:=congrArg Prod.fst hx;simp only[DataW.slice.injEq]at e0;obtain⟨e1,_⟩:=e0
  match elems,e1 with
  | [(d,q)],e1=>
   simp only[List.map_cons,List.map_nil,ZJ2,and_true]at e1;subst e1;have hlen1:len=1:=by simpa using hlen.symm
   subst hlen1;obtain⟨ci,hci,htr⟩:=Option.bind_eq_some_iff.1 (hel 0 (by decide));obtain⟨z',hc,hxx,_⟩:=DataW.trod_int he htr;have hzz:z'=z:=by have:=congrArg Prod.fst hxx;simpa using this.symm
   subst hzz;subst hc;rw[hce,Nat.zero_mul]at hci;obtain⟨_,_,hc2⟩:=World.cells?_some hci;have h0:=hc2 0 (by decide);have hb:w.cell? a=some (.int k z'):=by simpa[Addr.add]using h0
   have hspot:a.spot=none:=by
    unfold World.cell? at hb;cases hs:a.spot with
    |none=>rfl
    |some s=>rw[hs]at hb;split at hb<;>simp at hb
   have ha:a=⟨a.block,a.off,none⟩:=by cases a;simp at hspot;subst hspot;rfl
   have hlt:a.block < w.heap.size:=ZjV (by rw[ha]at hb;exact hb);have hcs1:cs.size=1:=by have:=congrArg List.length hcs;simpa using this
   refine Zzd (t:=0) (fr:= #[]) (ZAg hn hvar) _ (by rw[hcs1];rfl) fun j v p hv hp=> ?_
   have hj:j=0:=by have:=(Array.getElem?_eq_some_iff.1 hv).1;omega
   subst hj;simp only[ZKa,ZKy]at hp;subst hp;rw[←Array.getElem?_toList,hcs]at hv;simp only[ZKa,ZKy]at hv;subst hv;refine⟨.sl (some a) 1 cap _ _ (fun _=> .int k z') rfl (by decide) hl (fun i hi=>rfl) (fun i hi=> ?_) (fun i x hx=> ?_),rfl⟩
   ·have hi0:i=0:=by omega
    subst hi0;refine⟨a.block,a.off,by rw[←ha],hlt,fun j v hv=> ?_⟩;have hj:=(Array.getElem?_eq_some_iff.1 hv).1;have hj0:j=0:=by have:(Value.int k z').cells.size=1:=rfl;omega
    subst hj0;have hvv:v= .int k z':=by have:(Value.int k z').cells[0]? =some (.int k z'):=rfl;exact Option.some.inj (hv.symm.trans this)
    subst hvv;rw[ha]at hb;simpa using hb
   ·have hi0:i=0:=by have:=(List.getElem?_eq_some_iff.1 hx).1;simp at this;omega
    subst hi0;simp only[ZKa,ZKy]at hx;subst hx;exact .int k z' hz.1 hz.2
end Eng
namespace Eng
open Go
inductive ZC6 (s:List UInt8):P→Prop
 |str:ZC6 s (.str s)
 |agg {cs:List P} {c:P} (h:c∈cs) (h':ZC6 s c):ZC6 s (.agg cs)
 |sl {sz:Nat} {es:List P} {e:P} (h:e∈es) (h':ZC6 s e):ZC6 s (.sl sz es)
theorem RelP.strs {w:World} {S:Nat→Prop} {s:List UInt8} {x:P} (hs:ZC6 s x):∀{v:Value},RelP w S v x→s.length≤Zq:=by
 induction hs with
 |str=>intro v h;cases h;assumption
 |agg hm _ ih=>
  intro v h;cases h with
  |agg vs cs hl h1 h=>
   obtain⟨i,hi,he⟩:=List.mem_iff_getElem.1 hm;have hlt:i < vs.size:=by rw[hl];exact hi
   exact ih (h i vs[i] _ (Array.getElem?_eq_getElem hlt) (by rw[ZKb hi,he]))
 |sl hm _ ih=>
  intro v h;cases h with
  |sl a len cap sz es evs hl hmx hc hsz hcell h=>
   obtain⟨i,hi,he⟩:=List.mem_iff_getElem.1 hm;exact ih (h i _ (by rw[ZKb hi,he]))
inductive ZDR (k:IntKind) (n:Int):P→Prop
 |int:ZDR k n (.int k n)
 |agg {cs:List P} {c:P} (h:c∈cs) (h':ZDR k n c):ZDR k n (.agg cs)
 |sl {sz:Nat} {es:List P} {e:P} (h:e∈es) (h':ZDR k n e):ZDR k n (.sl sz es)
end Eng
namespace Go.Proofs
open Go Eng
theorem ZEU {w:World} {S:Nat→Prop} {v:Value} {y:G_api_Column} (h:RelP w S v (U.encE (.st 1) y)):ZCr y:=by
 have hm:Zq=9223372036854775807:=by decide
 have h':RelP w S v (Zvi y):=h;unfold Zvi at h';intro x hx;rw[←hm];exact h'.strs (.agg (c:= .sl 2 (y.Cells.map Zsa)) (by simp) (.sl (List.mem_map.2 ⟨x,hx,rfl⟩) (.agg (by simp) .str)))
end Go.Proofs
