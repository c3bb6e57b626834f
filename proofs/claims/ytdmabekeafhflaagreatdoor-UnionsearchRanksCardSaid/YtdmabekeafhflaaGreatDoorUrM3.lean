/- Plain laws over the specs, part 3. -/
import Derived.Test.YtdmabekeafhflaaGreatDoorUrM2
import Derived.Test.YtdmabekeafhflaaGreatDoorUrM0
import Derived.Test.YtdmabekeafhflaaGreatDoorUrM1
import Derived.Test.YtdmabekeafhflaaGreatDoorQ
set_option linter.unusedVariables false
set_option linter.unusedSimpArgs false
set_option linter.unusedSectionVars false
open Bool renaming not_true→ZPK
open Int renaming toNat_natCast→ZTV
open List renaming getElem_mem→ZT1, length_map→ZT4, zipWith→ZUd, drop_eq_getElem_cons→ZTX, length_cons→ZT3, take_succ_eq_append_getElem→ZUc, take_length→ZUa, length_append→ZT2, mem_cons→ZT7, length_take→ZT5, drop_eq_nil_of_le→ZTY, pairwise_iff_getElem→ZT9, take_of_length_le→ZUb, append_nil→ZTW, map_append→ZT6, not_mem_nil→ZT8, getElem?_append_right→ZTZ, getElem?_cons_zero→ZT0
open Option renaming bind_some→ZUe
namespace Go.Proofs
open Go Eng
theorem ZIK {a:Rat}:(ZEX a 0 == 0)=decide (a=0):=by
 unfold ZEX
 by_cases h:a < 0
 ·rw[if_pos h,decide_eq_false (by grind)];rfl
 ·rw[if_neg h]
  by_cases h2:0 < a
  ·rw[if_pos h2,decide_eq_false (by grind)];rfl
  ·rw[if_neg h2,decide_eq_true (by grind)];rfl
theorem ZFW (a b:Rat):decide (ZEX a b > 0)=decide (b < a):=by
 unfold ZEX
 by_cases h:a < b
 ·rw[if_pos h,decide_eq_false (by decide),decide_eq_false (by grind)]
 ·rw[if_neg h]
  by_cases h2:b < a
  ·rw[if_pos h2,decide_eq_true (by decide),decide_eq_true h2]
  ·rw[if_neg h2,decide_eq_false (by decide),decide_eq_false h2]
abbrev RF:=List (List ZoG)→Int→Int→ZIs→Option (ZoG×ZIs)
def ZSg (w:List (List Rat)) (rf:RF) (i:Nat):Prop:=∀(u:Nat) (m:ZIs),u < 256→ZDM w m→∃m',rf (ZqV w) (i:Int) (u:Int) m=some (fOf (ZvI (w.drop i) u),m')∧ZDM w m'
theorem ZEb {w:List (List Rat)} {i:Nat} (h:i < w.length):idx (ZqV w) (i:Int)=some (w[i].map fOf):=by rw[Zqj (by simpa[ZqV]using h)];simp[ZqV]
theorem ZJX {r:List Rat} {k:Nat} (h:k < r.length):idx (r.map fOf) (k:Int)=some (fOf r[k]):=by rw[Zqj (by simpa using h)];simp
theorem ZJz {w:List (List Rat)} {s:Nat} (hw:WOk s w) {rf:RF} {i:Nat} (hi:i < w.length) (hrf:ZSg w rf (i+1)) {u k:Nat} (hu:u < 256) (hk:k < w[i].length) {m:ZIs} (hm:ZDM w m):
  ∃x ok m',ZqG rf (ZqV w) (i:Int) (u:Int) (k:Int) m=some (x,ok,m')∧ZDM w m'∧
   (ZE6 (ZvI (w.drop (i+1))) u k w[i][k]=none∧ok=false∨∃y,ZE6 (ZvI (w.drop (i+1))) u k w[i][k]=some y∧ok=true∧x=fOf y):=by
 have hr:=hw.cols _ (ZT1 hi);have hk8:k < 8:=by omega
 have hi8:=hw.rows;have hsz:=hw.sz _ (ZT1 hi) _ (ZT1 hk);have hlim:=hw.lim;have hj1:∀b1 b2 l1 l2,Zp3 rf (ZqV w) (i:Int) (u:Int) (k:Int) true m b1 b2 l1 l2=some (fOf 0,false,m):=by intro b1 b2 l1 l2;unfold Zp3;rw[ZEt];rfl
 unfold ZqG;rw[show decide (0≤(k:Int))=true from decide_eq_true (by omega),ZNO hu hk8];show ∃x ok m',(bif ZQu u k then _ else _)=_∧_;cases hb:ZQu u k with
 |true=>
  refine⟨_,_,_,hj1 false false [] [],hm,.inl ⟨?_,rfl⟩⟩;unfold ZE6;rw[if_pos hb]
 |false=>
  simp only[cond_false];rw[ZEb hi,ZUe,ZJX hk,ZUe,ZEv (hsz.wq (by omega)),ZUe,ZIK]
  by_cases hz:w[i][k]=0
  ·rw[decide_eq_true hz];refine⟨_,_,_,hj1 false false [] [],hm,.inl ⟨?_,rfl⟩⟩;unfold ZE6;rw[if_neg (by simp[hb]),if_pos hz]
  ·rw[decide_eq_false hz];obtain⟨m',hr1,hm'⟩:=hrf (ZIc u k) m (ZJQ hu hk8) hm;unfold Zp3;simp only[cond_false];have hin:inK .i64 ((i:Int)+1)=true:=ZoQ (by omega);rw[ZEb hi,ZUe,ZJX hk,ZUe,hin,show decide (0≤(k:Int))=true from decide_eq_true (by omega),ZJR hu hk8];show ∃x ok m',((rf (ZqV w) ((i:Int)+1) (ZIc u k:Nat) m).bind _)=_∧_;rw[show ((i:Int)+1)=((i+1:Nat):Int) by omega,hr1,ZUe];dsimp only;rw[ZEl hsz (ZEo hw (i+1) (ZIc u k)) (by omega),ZUe];refine⟨_,_,_,rfl,hm',.inr ⟨_, ?_,rfl,rfl⟩⟩;unfold ZE6;rw[if_neg (by simp[hb]),if_neg hz]
theorem ZLF {w:List (List Rat)} {s:Nat} (hw:WOk s w) {rf:RF} {i:Nat} (hi:i < w.length) (hrf:ZSg w rf (i+1)) {u:Nat} (hu:u < 256) (t6 t6_1:Bool) (key:ZoU) (l1 l2:List Int):
  ∀(d k n:Nat) (m:ZIs) (b:Rat),k+d=w[i].length→d < n→ZDM w m→Sz (s+((s+1)*(w.drop (i+1)).length+1)+1) b→
   ∃m',Zo1 rf n (ZqV w) (i:Int) (u:Int) (w[i].length:Int) (k:Int) m t6 t6_1 key (fOf b) l1 l2=
    some (ZqV w,m',t6,t6_1,key,fOf (goW (ZvI (w.drop (i+1))) u k (w[i].drop k) b),l1,l2)∧ZDM w m':=by
 have hB:s+((s+1)*(w.drop (i+1)).length+1)+1≤8000:=by
  have h1:(w.drop (i+1)).length≤8:=by rw[List.length_drop];have:=hw.rows;omega
  have h2:=hw.lim;have:(s+1)*(w.drop (i+1)).length≤601*8:=Nat.mul_le_mul (by omega) h1;omega
 have h8:=hw.cols _ (ZT1 hi);intro d
 induction d with
 |zero=>
  intro k n m b hk hn hm hb;obtain⟨n,rfl⟩:∃n',n=n'+1:=⟨n - 1,by omega⟩;refine⟨m, ?_,hm⟩;rw[Zo1,ZrV,show decide ((k:Int) < (w[i].length:Int))=false from decide_eq_false (by omega),cond_false,show w[i].drop k=[]from ZTY (by omega)];rfl
 |succ d ih=>
  intro k n m b hk hn hm hb;obtain⟨n,rfl⟩:∃n',n=n'+1:=⟨n - 1,by omega⟩;have hkl:k < w[i].length:=by omega
  rw[Zo1,ZrV,show decide ((k:Int) < (w[i].length:Int))=true from decide_eq_true (by omega),cond_true];obtain⟨x,ok,m1,h1,hm1,h2⟩:=ZJz hw hi hrf hu hkl hm;rw[h1,ZUe];dsimp only;have hin:inK .i64 ((k:Int)+1)=true:=ZoQ (by omega);have next:∀(b':Rat),Sz (s+((s+1)*(w.drop (i+1)).length+1)+1) b'→∃m',ZqT rf (Zo1 rf n) (ZqV w) (i:Int) (u:Int) (w[i].length:Int) (k:Int) m1 t6 t6_1 key (fOf b') l1 l2=
    some (ZqV w,m',t6,t6_1,key,fOf (goW (ZvI (w.drop (i+1))) u (k+1) (w[i].drop (k+1)) b'),l1,l2)∧ZDM w m':=by
   intro b' hb';unfold ZqT;rw[hin];show ∃m',Zo1 rf n (ZqV w) (i:Int) (u:Int) (w[i].length:Int) ((k:Int)+1) m1 t6 t6_1 key (fOf b') l1 l2=_∧_;rw[show ((k:Int)+1)=((k+1:Nat):Int) by omega];exact ih (k+1) n m1 b' (by omega) (by omega) hm1 hb'
  have hdrop:w[i].drop k=w[i][k]::w[i].drop (k+1):=ZTX hkl;rw[hdrop];rcases h2 with ⟨ht,rfl⟩ |⟨y,ht,rfl,rfl⟩
  ·simp only[cond_false];unfold ZqU;simp only[cond_false];obtain⟨m',q1,q2⟩:=next b hb
   refine⟨m', ?_,q2⟩;rw[q1,goW,ht]
  ·simp only[cond_true];have hy:Sz (s+((s+1)*(w.drop (i+1)).length+1)+1) y:=by
    unfold ZE6 at ht;split at ht
    ·cases ht
    ·split at ht
     ·cases ht
     ·cases ht;exact(hw.sz _ (ZT1 hi) _ (ZT1 hkl)).add (ZE1 _ _ fun r hr=>hw.sz r (List.mem_of_mem_drop hr))
   rw[ZIp (hy.wq (by omega)) (hb.wq (by omega)),ZUe,ZFW];unfold ZqU
   by_cases hby:b < y
   ·rw[decide_eq_true hby,cond_true];obtain⟨m',q1,q2⟩:=next y hy
    refine⟨m', ?_,q2⟩;rw[q1,goW,ht];simp only[if_pos hby]
   ·rw[decide_eq_false hby,cond_false];obtain⟨m',q1,q2⟩:=next b hb
    refine⟨m', ?_,q2⟩;rw[q1,goW,ht];simp only[if_neg hby]
theorem ZHB {w:List (List Rat)} {s:Nat} (hw:WOk s w):∀(n i:Nat),i≤w.length→w.length - i < n→ZSg w (ZoS n) i:=by
 intro n
 induction n with
 |zero=>intro i _ h;omega
 |succ n ih=>
  intro i hi hn u m hu hm;have h8:=hw.rows;have hlim:=hw.lim;rw[ZoS,Zwi];have hl:(ZqV w).length=w.length:=by simp[ZqV]
  by_cases he:i=w.length
  ·rw[show ((i:Int) == ((ZqV w).length:Int))=true by rw[hl,he];exact beq_self_eq_true _,cond_true,ZEt,ZUe,show w.drop i=[]from ZTY (by omega)];exact⟨m,rfl,hm⟩
  ·have hlt:i < w.length:=by omega
   rw[show ((i:Int) == ((ZqV w).length:Int))=false by rw[hl];exact beq_false_of_ne (by omega),cond_false]
   change ∃m',(bif (lkF m ⟨(i:Int),(u:Int)⟩).isSome then some ((lkF m ⟨(i:Int),(u:Int)⟩).getD _,m)else _)=_∧_
   cases hlk:lkF m ⟨(i:Int),(u:Int)⟩with
   |some v=>
    rw[hm i u v hlk];exact⟨m,rfl,hm⟩
   |none=>
    have hrf:=ih (i+1) (by omega) (by omega);rw[show (none:Option ZoG).isSome=false from rfl,cond_false,ZoQ (n:=(i:Int)+1) (by omega)];show ∃m',((ZoS n (ZqV w) ((i:Int)+1) (u:Int) m).bind _)=_∧_;obtain⟨m1,h1,hm1⟩:=hrf u m hu hm;rw[show ((i:Int)+1)=((i+1:Nat):Int) by omega,h1,ZUe];dsimp only;rw[ZEb hlt,ZUe,ZT4];have hsz:=ZE1 (s:=s) (w.drop (i+1)) u fun r hr=>hw.sz r (List.mem_of_mem_drop hr)
    obtain⟨m2,h2,hm2⟩:=ZLF hw hlt hrf hu false false ⟨(i:Int),(u:Int)⟩ [] [] w[i].length 0 big m1 (ZvI (w.drop (i+1)) u) (by omega) (by rw[big_eq];have:=hw.cols _ (ZT1 hlt);omega) hm1 (hsz.mono (by omega));rw[show ((0:Int))=((0:Nat):Int)from rfl,h2,ZUe];dsimp only;unfold ZvH;have hd:ZvI (w.drop i) u=goW (ZvI (w.drop (i+1))) u 0 (w[i].drop 0) (ZvI (w.drop (i+1)) u):=by rw[ZTX hlt,ZvI,List.drop_zero]
    rw[←hd];exact⟨_,rfl,hm2.set i u⟩
end Go.Proofs
namespace Go.Proofs
open Go Eng
structure ZN8 (s m:Nat) (w:List (List Rat)):Prop extends WOk s w where
 len:∀r∈w,r.length=m
 nn:∀r∈w,∀x∈r,0≤x
theorem ZIL (a b:Rat):decide (ZEX a b < 0)=decide (a < b):=by
 unfold ZEX
 by_cases h:a < b
 ·rw[if_pos h,decide_eq_true (by decide),decide_eq_true h]
 ·rw[if_neg h,decide_eq_false h];split<;>rfl
theorem ZIM (a b:Rat):(ZEX a b == 0)=decide (a=b):=by
 unfold ZEX
 by_cases h:a < b
 ·rw[if_pos h,decide_eq_false (by grind)];rfl
 ·rw[if_neg h]
  by_cases h2:b < a
  ·rw[if_pos h2,decide_eq_false (by grind)];rfl
  ·rw[if_neg h2,decide_eq_true (by grind)];rfl
theorem ZFc (w:List (List Rat)):(ZqV w).length=w.length:=by simp[ZqV]
theorem ZEc {w:List (List Rat)} {k:Nat} (hk:k < (ZqV w).length):(ZqV w)[k]=(w[k]'(by rw[←ZFc w];exact hk)).map fOf:=by simp[ZqV]
theorem ZJC {w:List (List Rat)} {s m:Nat} (hw:ZN8 s m w):ZyI (ZqV w)=some 0:=by
 have h8:=hw.rows;have hl:=ZFc w;have hlim:=hw.lim;apply Zp6;unfold ZyI;rw[decide_eq_false (show ¬((ZqV w).length:Int) > 8 by omega),cond_false,ZoM];refine ZoT (ZsS ZCI (ZqV w) (by omega) (fun i (_:Unit)=>(ZqV w,ZqV w,((ZqV w).length:Int),i)) (fun _ _=>True) (Q:=fun x=>x= .brk (ZqV w)) () trivial ?_ ?_) ?_
 ·rintro rec k _ hk _ ih;unfold ZxQ Zu9;dsimp only;rw[decide_eq_true (show (k:Int) < ((ZqV w).length:Int) by omega),cond_true,Zqj hk,ZUe,ZEc hk,ZT4];have:=hw.cols _ (ZT1 (by rw[←hl];exact hk:k < w.length));rw[decide_eq_false (by omega),cond_false,ZoO];exact⟨ZoQ (by omega),ih () trivial⟩
 ·rintro rec _ _;unfold ZxQ Zu9;dsimp only;rw[decide_eq_false (show ¬((ZqV w).length:Int) < ((ZqV w).length:Int) by omega),cond_false,ZoJ]
 rintro _ rfl;dsimp only;unfold Zzf;rw[ZoM];refine ZoT (ZsS ZCH (ZqV w) (by omega) (fun i (_:Unit)=>(ZqV w,ZqV w,((ZqV w).length:Int),i)) (fun _ _=>True) (Q:=fun x=>x= .brk (ZqV w)) () trivial ?_ ?_) ?_
 ·rintro rec k _ hk _ ih;unfold ZxP Zu8;dsimp only;have h0:0 < (ZqV w).length:=by omega
  rw[decide_eq_true (show (k:Int) < ((ZqV w).length:Int) by omega),cond_true,Zqj hk,ZUe,show (0:Int)=((0:Nat):Int)from rfl,Zqj h0,ZUe,ZEc hk,ZEc h0,ZT4,ZT4,
   hw.len _ (ZT1 _),hw.len _ (ZT1 _),show (((m:Nat):Int) != (m:Int))=false by simp,cond_false,ZoO]
  exact⟨ZoQ (by omega),ih () trivial⟩
 ·rintro rec _ _;unfold ZxP Zu8;dsimp only;rw[decide_eq_false (show ¬((ZqV w).length:Int) < ((ZqV w).length:Int) by omega),cond_false,ZoJ]
 rintro _ rfl;dsimp only;unfold Zze;rw[ZoM];refine ZoT (ZsS ZCG (ZqV w) (by omega) (fun i (_:Unit)=>(ZqV w,((ZqV w).length:Int),i)) (fun _ _=>True) (Q:=fun x=>x= .brk ()) () trivial ?_ ?_) ?_
 ·rintro rec k _ hk _ ih;unfold ZxO Zu7;dsimp only;have hk':k < w.length:=by rw[←hl];exact hk
  rw[decide_eq_true (show (k:Int) < ((ZqV w).length:Int) by omega),cond_true,Zqj hk,ZUe,ZEc hk,ZoM];have hc:=hw.cols _ (ZT1 hk');refine ZoT (ZsS ZCF (w[k].map fOf) (by rw[ZT4];omega) (fun i (_:Unit)=>(ZqV w,((ZqV w).length:Int),(k:Int),w[k].map fOf,((w[k].map fOf).length:Int),i)) (fun _ _=>True)
   (Q:=fun x=>x= .brk (ZqV w,((ZqV w).length:Int),(k:Int))) () trivial ?_ ?_) ?_
  ·rintro rec j _ hj _ ih;unfold ZxN Zu6;dsimp only;have hj':j < w[k].length:=by simpa using hj
   rw[decide_eq_true (show (j:Int) < ((w[k].map fOf).length:Int) by omega),cond_true,Zqj hj,ZUe,List.getElem_map,ZEv ((hw.sz _ (ZT1 hk') _ (ZT1 hj')).wq (by omega)),ZUe,ZIL,
    decide_eq_false (by have:=hw.nn _ (ZT1 hk') _ (ZT1 hj');grind),cond_false,ZoO]
   exact⟨ZoQ (by omega),ih () trivial⟩
  ·rintro rec _ _;unfold ZxN Zu6;dsimp only;rw[decide_eq_false (show ¬((w[k].map fOf).length:Int) < ((w[k].map fOf).length:Int) by omega),cond_false,ZoJ]
  rintro _ rfl;dsimp only;unfold Zzd;rw[ZoO];exact⟨ZoQ (by omega),ih () trivial⟩
 ·rintro rec _ _;unfold ZxO Zu7;dsimp only;rw[decide_eq_false (show ¬((ZqV w).length:Int) < ((ZqV w).length:Int) by omega),cond_false,ZoJ]
 rintro _ rfl;dsimp only;unfold Zzc;exact ZoJ.2 rfl
def ZDZ (F:Nat→Rat) (u:Nat) (b:Rat):Nat→List Rat→Option Nat
 |_,[]=>none
 |k,x::r=>if ZE6 F u k x=some b then some k else ZDZ F u b (k+1) r
def ZD0:List (List Rat)→Nat→List Int
 | [],_=>[]
 |r::rest,u=>match ZDZ (ZvI rest) u (ZvI (r::rest) u) 0 r with
  |some k=>(k:Int)::ZD0 rest (ZIc u k)
  |none=>(-1)::ZD0 rest u
def ZIU (F:Nat→Rat) (u:Nat) (b:Rat) (r:List Rat):Nat:=match ZDZ F u b 0 r with
 |some k=>ZIc u k
 |none=>u
def ZLa (F:Nat→Rat) (u:Nat) (b:Rat) (r:List Rat):Int:=match ZDZ F u b 0 r with
 |some k=>(k:Int)
 |none=> -1
theorem ZGa (r:List Rat) (rest:List (List Rat)) (u:Nat):ZD0 (r::rest) u=ZLa (ZvI rest) u (ZvI (r::rest) u) r::ZD0 rest (ZIU (ZvI rest) u (ZvI (r::rest) u) r):=by rw[ZD0];unfold ZLa ZIU;cases ZDZ (ZvI rest) u (ZvI (r::rest) u) 0 r<;>rfl
theorem ZIn {F:Nat→Rat} {u:Nat} {b:Rat}:∀(r:List Rat) (k j:Nat),ZDZ F u b k r=some j→k≤j∧j < k+r.length∧∃x,r[j - k]? =some x∧ZE6 F u j x=some b
 | [],k,j,h=>by cases h
 |x::r,k,j,h=>by
  rw[ZDZ]at h;split at h
  ·rename_i ht;cases h;exact⟨Nat.le_refl _,by simp,x,by simp,ht⟩
  ·obtain⟨h1,h2,y,h3,h4⟩:=ZIn r (k+1) j h;refine⟨by omega,by simp;omega,y, ?_,h4⟩;rw[show j - k=(j - (k+1))+1 by omega];simpa using h3
theorem ZKC {w:List (List Rat)} {s:Nat} (hw:WOk s w) {i:Nat} (hi:i < w.length) {u:Nat} (hu:u < 256) (t26:List (List ZoG)) (t27:Int) (t3 t3_1:Bool) (out:List Int) (l1 l2:List Int) {b:Rat} (hb:Sz 7000 b):
  ∀(d k n:Nat) (m:ZIs),k+d=w[i].length→d < n→ZDM w m→
   ∃m',ZpU n (ZqV w) (u:Int) (i:Int) (-1) t26 t27 (i:Int) (w[i].length:Int) (k:Int) t3 t3_1 m out (fOf b) l1 l2=
    some (ZqV w,(match ZDZ (ZvI (w.drop (i+1))) u b k (w[i].drop k)with |some j=>((ZIc u j:Nat):Int) |none=>(u:Int)),(match ZDZ (ZvI (w.drop (i+1))) u b k (w[i].drop k)with |some j=>(j:Int) |none=> -1),t26,t27,(i:Int),t3,t3_1,m',out,l1,l2)∧ZDM w m':=by
 have h8:=hw.cols _ (ZT1 hi);have hr8:=hw.rows;have hlim:=hw.lim;have hrf:ZSg w (ZoS big) (i+1):=ZHB hw big (i+1) (by omega) (by rw[big_eq];omega);intro d
 induction d with
 |zero=>
  intro k n m hk hn hm;obtain⟨n,rfl⟩:∃n',n=n'+1:=⟨n - 1,by omega⟩;refine⟨m, ?_,hm⟩;rw[ZpU,Zyj,show decide ((k:Int) < (w[i].length:Int))=false from decide_eq_false (by omega),cond_false,show w[i].drop k=[]from ZTY (by omega)];rfl
 |succ d ih=>
  intro k n m hk hn hm;obtain⟨n,rfl⟩:∃n',n=n'+1:=⟨n - 1,by omega⟩;have hkl:k < w[i].length:=by omega
  rw[ZpU,Zyj,show decide ((k:Int) < (w[i].length:Int))=true from decide_eq_true (by omega),cond_true];obtain⟨x,ok,m1,h1,hm1,h2⟩:=ZJz hw hi hrf hu hkl hm;rw[h1,ZUe];dsimp only;have hin:inK .i64 ((k:Int)+1)=true:=ZoQ (by omega);have hdrop:w[i].drop k=w[i][k]::w[i].drop (k+1):=ZTX hkl;have next:∃m',ZsU (ZpU n) (ZqV w) (u:Int) (i:Int) (-1) (k:Int) t26 t27 (i:Int) (w[i].length:Int) (k:Int) false t3 t3_1 m1 out (fOf b) l1 l2=
    some (ZqV w,(match ZDZ (ZvI (w.drop (i+1))) u b (k+1) (w[i].drop (k+1))with |some j=>((ZIc u j:Nat):Int) |none=>(u:Int)),(match ZDZ (ZvI (w.drop (i+1))) u b (k+1) (w[i].drop (k+1))with |some j=>(j:Int) |none=> -1),t26,t27,(i:Int),t3,t3_1,m',out,l1,l2)∧ZDM w m':=by
   unfold ZsU;rw[cond_false,hin];show ∃m',ZpU n (ZqV w) (u:Int) (i:Int) (-1) t26 t27 (i:Int) (w[i].length:Int) ((k:Int)+1) t3 t3_1 m1 out (fOf b) l1 l2=_∧_;rw[show ((k:Int)+1)=((k+1:Nat):Int) by omega];exact ih (k+1) n m1 (by omega) (by omega) hm1
  rw[hdrop,ZDZ];rcases h2 with ⟨ht,rfl⟩ |⟨y,ht,rfl,rfl⟩
  ·simp only[cond_false,ht,reduceCtorEq,if_false];exact next
  ·simp only[cond_true];have hy:Sz 7700 y:=by
    unfold ZE6 at ht;split at ht
    ·cases ht
    ·split at ht
     ·cases ht
     ·cases ht;exact((hw.sz _ (ZT1 hi) _ (ZT1 hkl)).add (ZEo hw (i+1) (ZIc u k))).mono (by omega)
   rw[ZIp (hy.wq (by omega)) (hb.wq (by omega)),ZUe,ZIM,ht]
   by_cases hby:y=b
   ·rw[decide_eq_true hby,if_pos (by rw[hby])];unfold ZsU;rw[cond_true,show decide (0≤(k:Int))=true from decide_eq_true (by omega),ZJR hu (by omega)];exact⟨m1,rfl,hm1⟩
   ·rw[decide_eq_false hby,if_neg (by simpa using hby)];exact next
theorem ZKB {w:List (List Rat)} {s:Nat} (hw:WOk s w) (t3 t3_1:Bool) (l1 l2:List Int):
  ∀(d i n u:Nat) (m:ZIs) (out:List Int),i+d=w.length→d < n→u < 256→ZDM w m→out.length=i→
   ∃m',Zqv n (ZqV w) (u:Int) (ZqV w) (w.length:Int) (i:Int) t3 t3_1 m out l1 l2=some (ZqV w,t3,t3_1,m',out++ZD0 (w.drop i) u,l1,l2)∧ZDM w m':=by
 have hr8:=hw.rows;intro d
 induction d with
 |zero=>
  intro i n u m out hi hn hu hm ho;obtain⟨n,rfl⟩:∃n',n=n'+1:=⟨n - 1,by omega⟩;refine⟨m, ?_,hm⟩;rw[Zqv,Zyk,show decide ((i:Int) < (w.length:Int))=false from decide_eq_false (by omega),cond_false,show w.drop i=[]from ZTY (by omega),ZD0,ZTW]
 |succ d ih=>
  intro i n u m out hi hn hu hm ho;obtain⟨n,rfl⟩:∃n',n=n'+1:=⟨n - 1,by omega⟩;have hil:i < w.length:=by omega
  have h8:=hw.cols _ (ZT1 hil);rw[Zqv,Zyk,show decide ((i:Int) < (w.length:Int))=true from decide_eq_true (by omega),cond_true,ZEb hil,ZUe];obtain⟨m1,h1,hm1⟩:=ZHB hw big i (by omega) (by rw[big_eq];omega) u m hu hm;rw[h1,ZUe];dsimp only;obtain⟨m2,h2,hm2⟩:=ZKC hw hil hu (ZqV w) (w.length:Int) t3 t3_1 out l1 l2 (ZEo hw i u) w[i].length 0 big m1 (by omega) (by rw[big_eq];omega) hm1;rw[ZT4,show (0:Int)=((0:Nat):Int)from rfl,h2,ZUe,List.drop_zero];dsimp only;have hd:w.drop i=w[i]::w.drop (i+1):=ZTX hil;rw[hd,ZGa,←hd];have e1:(match ZDZ (ZvI (w.drop (i+1))) u (ZvI (w.drop i) u) 0 w[i]with |some j=>((ZIc u j:Nat):Int) |none=>(u:Int))=((ZIU (ZvI (w.drop (i+1))) u (ZvI (w.drop i) u) w[i]:Nat):Int):=by unfold ZIU;cases ZDZ (ZvI (w.drop (i+1))) u (ZvI (w.drop i) u) 0 w[i]<;>rfl
  have e2:(match ZDZ (ZvI (w.drop (i+1))) u (ZvI (w.drop i) u) 0 w[i]with |some j=>(j:Int) |none=> -1)=ZLa (ZvI (w.drop (i+1))) u (ZvI (w.drop i) u) w[i]:=rfl;have hu2:ZIU (ZvI (w.drop (i+1))) u (ZvI (w.drop i) u) w[i] < 256:=by
   unfold ZIU;split
   ·rename_i j hj;have:=(ZIn _ _ _ hj).2.1;exact ZJQ hu (by omega)
   ·exact hu
  rw[e1,e2];unfold ZzL;rw[ZrX (by simp;omega),ZoQ (n:=(i:Int)+1) (by omega)];show ∃m',Zqv n (ZqV w) _ (ZqV w) (w.length:Int) ((i:Int)+1) t3 t3_1 m2 _ l1 l2=_∧_;rw[show ((i:Int)+1)=((i+1:Nat):Int) by omega];obtain⟨m',q1,q2⟩:=ih (i+1) n _ m2 (out++[ZLa (ZvI (w.drop (i+1))) u (ZvI (w.drop i) u) w[i]]) (by omega) (by omega) hu2 hm2 (by simp[ho]);refine⟨m', ?_,q2⟩;rw[q1,List.append_assoc];rfl
theorem ZNf {q:Rat} (h:Sz 8000 q):ZEa (fOf q)=some (fOf q):=by
 have h1:=h.wq (by omega);unfold ZEa;have e1:(fOf q).Num.Words.length≤256:=by simpa[fOf,bg,iL,Wq,Wl]using h1.1
 have e2:(fOf q).Den.Words.length≤256:=by simpa[fOf,bg,iL,Wq,Wl]using h1.2
 rw[ZrX (by omega),ZrX (by omega)];rfl
theorem ZNR {w:List (List Rat)} {s m:Nat} (hw:ZN8 s m w):Zzr (ZqV w)=some (ZD0 w 0,fOf (ZvI w 0),0):=by have hr8:=hw.rows;unfold Zzr;rw[ZJC hw,ZUe,show ((0:Int) != 0)=false from rfl,cond_false];obtain⟨m1,h1,hm1⟩:=ZKB hw.toWOk false false [] [] w.length 0 big 0 [] [] (by omega) (by rw[big_eq];omega) (by omega) (ZKj w) rfl;rw[ZFc];rw[show (0:Int)=((0:Nat):Int)from rfl,h1,ZUe];dsimp only;unfold ZzK;obtain⟨m2,h2,hm2⟩:=ZHB hw.toWOk big 0 (by omega) (by rw[big_eq];omega) 0 m1 (by omega) hm1;rw[show (0:Int)=((0:Nat):Int)from rfl,h2,ZUe];dsimp only;rw[ZNf ((ZEo hw.toWOk 0 0).mono (by omega)),ZUe];simp
end Go.Proofs
namespace Go.Proofs
open Go Eng
theorem ZFC:∀(w:List (List Rat)) (u:Nat),(ZD0 w u).length=w.length
 | [],u=>rfl
 |r::rest,u=>by rw[ZGa,ZT3,ZFC rest,ZT3]
end Go.Proofs
namespace Go.Proofs
open Go Eng
structure ZFF (t:ZoF):Prop where
 ok:ZE7 t=true
 cols:t.Columns.length≤8
 col:∀c∈t.Columns,ZGE c
noncomputable def ZL5 (b:ZoF) (x:ZoL):List Rat:=b.Columns.map fun y=>ZE2 x y
noncomputable def ZHz (a b:ZoF):List (List Rat):=a.Columns.map fun x=>ZL5 b x
theorem ZJ8 {a b:ZoF} (ha:ZFF a) (hb:ZFF b):ZN8 100 b.Columns.length (ZHz a b):=by
 have h1:∀r∈ZHz a b,∃x∈a.Columns,r=ZL5 b x:=fun r hr=>by obtain⟨x,hx,rfl⟩:=List.mem_map.1 hr;exact⟨x,hx,rfl⟩
 have h2:∀r∈ZHz a b,∀q∈r,∃x∈a.Columns,∃y∈b.Columns,q=ZE2 x y:=fun r hr q hq=>by obtain⟨x,hx,rfl⟩:=h1 r hr;obtain⟨y,hy,rfl⟩:=List.mem_map.1 hq;exact⟨x,hx,y,hy,rfl⟩
 refine⟨⟨by rw[ZHz,ZT4];exact ha.cols,fun r hr=> ?_,fun r hr q hq=> ?_,by omega⟩,fun r hr=> ?_,fun r hr q hq=> ?_⟩
 ·obtain⟨x,_,rfl⟩:=h1 r hr;rw[ZL5,ZT4];exact hb.cols
 ·obtain⟨x,hx,y,hy,rfl⟩:=h2 r hr q hq;exact ZNJ (ha.col x hx) (hb.col y hy)
 ·obtain⟨x,_,rfl⟩:=h1 r hr;rw[ZL5,ZT4]
 ·obtain⟨x,hx,y,hy,rfl⟩:=h2 r hr q hq;exact(ZHH x y).1
def ZFJ (a b:ZoF):Int:=if (1:Int) > (if (b.Columns.length:Int) > (a.Columns.length:Int)then (b.Columns.length:Int)else (a.Columns.length:Int))then (1:Int)else (if (b.Columns.length:Int) > (a.Columns.length:Int)then (b.Columns.length:Int)else (a.Columns.length:Int))
noncomputable def ZA1 (a b:ZoF):Rat:=ZvI (ZHz a b) 0 / (ZFJ a b:Rat)
theorem ZEJ {a b:ZoF} (ha:a.Columns.length≤8) (hb:b.Columns.length≤8):1≤ZFJ a b∧ZFJ a b≤8∧(a.Columns.length:Int)≤ZFJ a b:=by unfold ZFJ;split<;>split at* <;>omega
theorem ZJI {n:Int} (h:1≤n∧n≤8):Sz 4 (n:Rat):=by
 unfold Sz;have e1:(n:Rat).num=n:=by simp
 have e2:(n:Rat).den=1:=by simp
 rw[e1,e2];refine⟨?_,by decide⟩;have:n.natAbs≤8:=by omega
 omega
theorem ZGM {a b:ZoF} (ha:ZFF a) (hb:ZFF b):Sz 7000 (ZvI (ZHz a b) 0):=by
 have:=ZEo (ZJ8 ha hb).toWOk 0 0
 rwa [List.drop_zero]at this
theorem ZGn {a b:ZoF} (ha:ZFF a) (hb:ZFF b):Sz 7004 (ZA1 a b):=by
 have h:=ZEJ ha.cols hb.cols;have hne:((ZFJ a b:Int):Rat)≠0:=by
  have:((ZFJ a b:Int):Rat)≠((0:Int):Rat):=fun e=>by have:=Rat.intCast_inj.1 e;omega
  simpa using this
 exact(Sz.div hne (ZGM ha hb) (ZJI ⟨h.1,h.2.1⟩)).mono (by omega)
theorem ZIH (w:List (List Rat)) (r:List Rat):ZqV (w++[r])=ZqV w++[r.map fOf]:=by simp[ZqV]
theorem ZGC {a b:ZoF} (ha:ZFF a) (hb:ZFF b):ZqL a b=some (ZD0 (ZHz a b) 0,fOf (ZA1 a b),0):=by
 have hac:=ha.cols;have hbc:=hb.cols;have hta:ZrS a=some true:=by rw[ZGl a (by omega) (fun c hc=>by have:=(ha.col c hc).rows;omega),ha.ok]
 have htb:ZrS b=some true:=by rw[ZGl b (by omega) (fun c hc=>by have:=(hb.col c hc).rows;omega),hb.ok]
 apply Zp6;unfold ZqL;rw[hta,ZUe,ZPK,cond_false,htb,ZUe,ZPK];unfold ZvP;rw[cond_false,decide_eq_false (by omega),cond_false,decide_eq_false (by omega)];unfold ZvO;rw[cond_false,ZoM];refine ZoT (ZsS ZCm a.Columns (by omega) (fun i (w:List (List ZoG))=>(a.Columns,(a.Columns.length:Int),i,a,b,false,false,w,([]:List Int),([]:List Int))) (fun k w=>w=ZqV ((a.Columns.take k).map fun x=>ZL5 b x))
  (Q:=fun x=>x=(a,b,false,false,ZqV (ZHz a b),([]:List Int),([]:List Int))) [] rfl ?_ ?_) ?_
 ·rintro rec k w hk rfl ih;unfold Zxi Zue;dsimp only;rw[decide_eq_true (show (k:Int) < (a.Columns.length:Int) by omega),cond_true,Zqj hk,ZUe,ZoM];have hx:=ha.col _ (ZT1 hk);refine ZoT (ZsS ZCl b.Columns (by omega) (fun j (r:List ZoG)=>(a.Columns,(a.Columns.length:Int),(k:Int),b.Columns,(b.Columns.length:Int),j,a,b,false,false,ZqV ((a.Columns.take k).map fun x=>ZL5 b x),a.Columns[k],r,([]:List Int),([]:List Int)))
   (fun j r=>r=((b.Columns.take j).map fun y=>ZE2 a.Columns[k] y).map fOf)
   (Q:=fun x=>x=(a.Columns,(a.Columns.length:Int),(k:Int),a,b,false,false,ZqV ((a.Columns.take k).map fun x=>ZL5 b x),(ZL5 b a.Columns[k]).map fOf,([]:List Int),([]:List Int))) [] rfl ?_ ?_) ?_
  ·rintro rec j r hj rfl ih;unfold Zxh Zud;dsimp only;rw[decide_eq_true (show (j:Int) < (b.Columns.length:Int) by omega),cond_true,Zqj hj,ZUe,ZQo hx (hb.col _ (ZT1 hj)),ZUe,ZoO,ZoO];refine⟨ZrX (by simp;omega),ZoQ (by omega),ih _ ?_⟩;rw[ZUc hj,ZT6,ZT6];rfl
  ·rintro rec r rfl;unfold Zxh Zud;dsimp only;rw[decide_eq_false (show ¬(b.Columns.length:Int) < (b.Columns.length:Int) by omega),cond_false,ZoJ,ZUa];rfl
  rintro _ rfl;dsimp only;unfold Zyb;rw[ZoO,ZoO];refine⟨ZrX (by simp[ZqV];omega),ZoQ (by omega),ih _ ?_⟩;rw[ZUc hk,ZT6,List.map_singleton,ZIH]
 ·rintro rec w rfl;unfold Zxi Zue;dsimp only;rw[decide_eq_false (show ¬(a.Columns.length:Int) < (a.Columns.length:Int) by omega),cond_false,ZoJ,ZUa];rfl
 rintro _ rfl;dsimp only;unfold Zya;have hs:=ZEJ ha.cols hb.cols;have hne:((ZFJ a b:Int):Rat)≠0:=by
  have:((ZFJ a b:Int):Rat)≠((0:Int):Rat):=fun e=>by have:=Rat.intCast_inj.1 e;omega
  simpa using this
 rw[ZNR (ZJ8 ha hb),ZUe]
 change wp (bif ((0:Int) != 0)then _ else ((ZAk (ZFJ a b) 1).bind _)) _
 rw[show ((0:Int) != 0)=false from rfl,cond_false,ZEk _ _ (by decide) (by omega) (by omega) (by decide) (by decide),ZUe,ZF4,
  ZG1 hne (ZGM ha hb) (ZJI ⟨hs.1,hs.2.1⟩) (by omega),ZUe,ZoJ]
 rfl
end Go.Proofs
namespace Go.Proofs
open Go Eng
def ZIT:ZoR:=⟨true,[]⟩
def ZIr (b:ZoF) (k:Int):List ZoR:=if 0≤k then (match b.Columns[k.toNat]? with |some c=>c.Cells |none=>[])else List.replicate (ZsX b).toNat ZIT
def ZDN (b:ZoF) (c:ZoL) (k:Int):ZoL:=⟨c.Name,c.Cells++ZIr b k⟩
def ZPw (a b:ZoF) (l:List Int):ZoF:=⟨a.ID,a.Name,ZUd (ZDN b) a.Columns l⟩
theorem ZII:∀n:Fin 11,ZpN [ZIT] (n.val:Int)=some (List.replicate n.val ZIT):=by decide+kernel
theorem ZJY {n:Int} (h:0≤n∧n≤10):ZpN [ZIT] n=some (List.replicate n.toNat ZIT):=by have:=ZII ⟨n.toNat,by omega⟩;rw[show ((n.toNat:Nat):Int)=n by omega]at this;exact this
theorem ZKw {l:List ZoR} (h:l.length≤10000):ZqI l=some l:=by
 have e:Zpl l false=some l:=by unfold Zpl;rw[cond_false,ZrX (by simp;omega)];rfl
 unfold ZqI;cases l with
 |nil=>rw[e];exact ZEF _
 |cons x r=>exact e
theorem ZKv {l:List ZoL} (h:l.length≤1000):Zp5 l=some l:=by
 have e:Zpa l false=some l:=by unfold Zpa;rw[cond_false,ZrX (by simp;omega)];rfl
 unfold Zp5;cases l with
 |nil=>rw[e];exact ZEF _
 |cons x r=>exact e
theorem ZPM {a:ZoF} (ha:ZFF a):ZBU a=some (a,a.Columns.length):=by
 have hac:=ha.cols;apply Zp6;unfold ZBU;rw[ZKv (by omega),ZUe,ZoM];refine ZoT (ZsS ZEw a.Columns (by omega) (fun i (s:List ZoL×Nat)=>((a.Columns.length:Int),i,a.ID,a.Name,(0:Int),([]:Str),s.1,s.2,([]:List ZoL))) (fun k s=>s=(a.Columns,k))
  (Q:=fun x=>x=(a.ID,a.Name,(0:Int),([]:Str),a.Columns,a.Columns.length,([]:List ZoL))) (a.Columns,0) rfl ?_ ?_) ?_
 ·rintro rec k _ hk rfl ih;unfold ZBq ZzU;dsimp only;have hx:=ha.col _ (ZT1 hk);rw[decide_eq_true (show (k:Int) < (a.Columns.length:Int) by omega),cond_true,ZoO];refine⟨ZFp hk, ?_⟩;rw[ZTV,List.getElem?_eq_getElem hk,ZUe,ZoO];refine⟨decide_eq_true (Nat.le_refl _), ?_⟩;rw[ZKw (by have:=hx.rows;omega),ZUe,ZoO,ZoO];refine⟨ZFp hk,decide_eq_true rfl, ?_⟩;rw[ZUe,ZoO];refine⟨ZoQ (by omega), ?_⟩;have e:a.Columns.set k ⟨a.Columns[k].Name,a.Columns[k].Cells⟩=a.Columns:=by show a.Columns.set k a.Columns[k]=a.Columns;exact List.set_getElem_self hk
  rw[e];exact ih (a.Columns,k+1) rfl
 ·rintro rec _ rfl;unfold ZBq ZzU;dsimp only;rw[decide_eq_false (show ¬(a.Columns.length:Int) < (a.Columns.length:Int) by omega),cond_false,ZoJ]
 rintro _ rfl;dsimp only;unfold ZCq;exact ZoJ.2 rfl
theorem ZHF (l:List Int) (v:Int) (h:l.length≤1000000):ZtV l v=some (decide (v∈l)):=by
 have key:wp (ZrI big l v (l.length:Int) 0) (fun x=>(x= .brk ()∧v∉l)∨∃j:Nat,x= .ret (j:Int)∧v∈l):=by
  refine ZsS ZBJ l (by omega) (fun i (_:Unit)=>(l,v,(l.length:Int),i)) (fun k _=>v∉l.take k) () (by simp) ?_ ?_
  ·rintro rec k _ hk hn ih;unfold Zvx ZsH;dsimp only;rw[decide_eq_true (show (k:Int) < (l.length:Int) by omega),cond_true,Zqj hk,ZUe]
   by_cases hv:v=l[k]
   ·rw[show (v == l[k])=true by simpa using hv,cond_true,ZoJ];exact .inr ⟨k,rfl,by rw[hv];exact ZT1 hk⟩
   ·rw[show (v == l[k])=false by simpa using hv,cond_false,ZoO];refine⟨ZoQ (by omega),ih () ?_⟩;rw[ZUc hk,List.mem_append,List.mem_singleton];exact fun h=>h.elim hn hv
  ·rintro rec _ hn;unfold Zvx ZsH;dsimp only;rw[decide_eq_false (show ¬(l.length:Int) < (l.length:Int) by omega),cond_false,ZoJ];rw[ZUa]at hn;exact .inl ⟨rfl,hn⟩
 obtain⟨x,hx,hp⟩:=key;unfold ZtV Zyg;rw[hx,ZUe];rcases hp with ⟨rfl,hn⟩ |⟨j,rfl,hi⟩
 ·dsimp only;unfold ZwS;rw[ZUe,decide_eq_false (by decide),decide_eq_false hn]
 ·dsimp only;rw[ZUe,decide_eq_true (by omega),decide_eq_true hi]
theorem ZDI {a:ZoF} (ha:ZFF a):ZrS a=some true:=by have hac:=ha.cols;rw[ZGl a (by omega) (fun c hc=>by have:=(ha.col c hc).rows;omega),ha.ok]
theorem ZJK {b:ZoF}:∀(cs:List ZoL) (l:List Int) (k:Nat) (hc:k < cs.length),(ZUd (ZDN b) (cs.take k) (l.take k)).length=k→(ZUd (ZDN b) (cs.take k) (l.take k)++cs.drop k)[k]? =some cs[k]:=by intro cs l k hc h;rw[ZTZ (by omega),h,Nat.sub_self,ZTX hc];rfl
structure AlOk (a b:ZoF) (l:List Int):Prop where
 len:l.length=a.Columns.length
 rng:∀k∈l, -1≤k∧k < (b.Columns.length:Int)
 dif:List.Pairwise (fun x y=>0≤y→x≠y) l
theorem ZLc {a b:ZoF} {l:List Int} (ha:ZFF a) (hb:ZFF b) (hra:0≤ZsX a∧ZsX a≤100) (hrb:0≤ZsX b∧ZsX b≤10) (hl:AlOk a b l):Zvf a b l=some (ZPw a b l,0):=by
 have hac:=ha.cols;have hbc:=hb.cols;have hll:=hl.len;apply Zp6;unfold Zvf;rw[ZDI ha,ZUe,ZPK,cond_false,ZDI hb,ZUe,ZPK,cond_false,show (((l.length:Nat):Int) != (a.Columns.length:Int))=false by rw[hll];simp];unfold Ztg;rw[cond_false,ZoM];refine ZoT (ZsS ZCk l (by omega) (fun i (_:Unit)=>(l,l,(l.length:Int),i,a,b,(0:Int),([]:Str),([]:List ZoL))) (fun _ _=>True) (Q:=fun x=>x= .brk (l,a,b,(0:Int),([]:Str),([]:List ZoL))) () trivial ?_ ?_) ?_
 ·rintro rec k _ hk _ ih;unfold Zxg Zuc ZvM;dsimp only;have h:=hl.rng _ (ZT1 hk);rw[decide_eq_true (show (k:Int) < (l.length:Int) by omega),cond_true,Zqj hk,ZUe,decide_eq_false (show ¬l[k] < -1 by omega),cond_false,decide_eq_false (show ¬l[k]≥(b.Columns.length:Int) by omega),cond_false,ZoO];exact⟨ZoQ (by omega),ih () trivial⟩
 ·rintro rec _ _;unfold Zxg Zuc;dsimp only;rw[decide_eq_false (show ¬(l.length:Int) < (l.length:Int) by omega),cond_false,ZoJ]
 rintro _ rfl;dsimp only;unfold Zx9;rw[ZoM];refine ZoT (ZsS ZCj l (by omega) (fun i (_:Unit)=>(l,l,(l.length:Int),i,a,b,(0:Int),([]:Str),([]:List ZoL))) (fun _ _=>True) (Q:=fun x=>x= .brk (l,a,b,(0:Int),([]:Str),([]:List ZoL))) () trivial ?_ ?_) ?_
 ·rintro rec k _ hk _ ih;unfold Zxf Zub ZvL;dsimp only;rw[decide_eq_true (show (k:Int) < (l.length:Int) by omega),cond_true,Zqj hk,ZUe];have hin:inK .i64 ((k:Int)+1)=true:=ZoQ (by omega)
  by_cases h0:0≤l[k]
  ·have hnot:l[k]∉l.take k:=by
    intro hm;obtain⟨j,hj,he⟩:=List.mem_iff_getElem.1 hm;have hj':j < k:=by simp at hj;omega
    rw[List.getElem_take]at he;exact ZT9.1 hl.dif j k (by omega) hk hj' h0 he
   rw[decide_eq_true (show l[k]≥0 from h0),cond_true,ZoO];refine⟨Zp8 ⟨by omega,by omega,by omega⟩, ?_⟩;rw[ZTV,ZHF _ _ (by simp;omega),ZUe,decide_eq_false hnot,cond_false,ZoO];exact⟨hin,ih () trivial⟩
  ·rw[decide_eq_false (show ¬l[k]≥0 from h0),cond_false,cond_false,ZoO];exact⟨hin,ih () trivial⟩
 ·rintro rec _ _;unfold Zxf Zub;dsimp only;rw[decide_eq_false (show ¬(l.length:Int) < (l.length:Int) by omega),cond_false,ZoJ]
 rintro _ rfl;dsimp only;unfold Zx8;rw[ZD4,ZUe,ZD4,ZUe,ZoO];refine⟨ZoQ (by omega), ?_⟩;rw[decide_eq_false (by omega),cond_false,ZPM ha,ZUe];dsimp only;rw[ZoM];have hzl:∀k,k≤a.Columns.length→(ZUd (ZDN b) (a.Columns.take k) (l.take k)).length=k:=fun k hk=>by simp;omega
 refine ZoT (ZsS ZCi l (by omega) (fun i (cs:List ZoL)=>(l,(l.length:Int),i,b,(0:Int),([]:Str),a.ID,a.Name,([]:List ZoL),cs,a.Columns.length)) (fun k cs=>cs=ZUd (ZDN b) (a.Columns.take k) (l.take k)++a.Columns.drop k)
  (Q:=fun x=>x=((0:Int),([]:Str),a.ID,a.Name,([]:List ZoL),ZUd (ZDN b) a.Columns l,a.Columns.length)) a.Columns (by simp) ?_ ?_) ?_
 ·rintro rec k _ hk rfl ih;unfold Zxe Zua;dsimp only;have hka:k < a.Columns.length:=by omega
  have h:=hl.rng _ (ZT1 hk);have hlen:(ZUd (ZDN b) (a.Columns.take k) (l.take k)++a.Columns.drop k).length=a.Columns.length:=by rw[ZT2,hzl k (by omega),List.length_drop];omega
  rw[decide_eq_true (show (k:Int) < (l.length:Int) by omega),cond_true,Zqj hk,ZUe,ZD4,ZUe]
  change wp ((ZpN [ZIT] (ZsX b)).bind _) _
  rw[ZJY hrb,ZUe];have hx:=ha.col _ (ZT1 hka);have next:∀below,below=ZIr b l[k]→below.length≤1000→wp (Ztf (fun t77 t78 i b t6 t6_1 out out_1 t6_2 out_2 out_lo=>rec (t77,t78,i,b,t6,t6_1,out,out_1,t6_2,out_2,out_lo)) (k:Int) below l (l.length:Int) (k:Int) b 0 [] a.ID a.Name [] (ZUd (ZDN b) (a.Columns.take k) (l.take k)++a.Columns.drop k) a.Columns.length) (fun x=>x=((0:Int),([]:Str),a.ID,a.Name,([]:List ZoL),ZUd (ZDN b) a.Columns l,a.Columns.length)):=by
   rintro below hbel hbl;unfold Ztf;rw[ZoO];refine⟨Zr7 ⟨by omega,by omega⟩, ?_⟩;rw[ZTV,ZJK _ _ _ hka (hzl k (by omega)),ZUe,ZoO,ZoO,ZoO,ZoO];refine⟨decide_eq_true hka,ZrX (by have:=hx.rows;omega),Zr7 ⟨by omega,by omega⟩,decide_eq_true ⟨rfl,hka⟩, ?_⟩;rw[ZUe,ZoO];refine⟨ZoQ (by omega),ih _ ?_⟩;rw[List.set_append_right _ _ (by rw[hzl k (by omega)];exact Nat.le_refl _),hzl k (by omega),Nat.sub_self,ZTX hka,List.set_cons_zero,ZUc hka,ZUc hk,
    List.zipWith_append (by simp;omega)]
   simp[ZDN,hbel]
  by_cases h0:0≤l[k]
  ·have hkb:(l[k]).toNat < b.Columns.length:=by omega
   rw[decide_eq_true (show l[k]≥0 from h0),cond_true,Zin h0 hkb,ZUe];refine next _ ?_ (by have:=(hb.col _ (ZT1 hkb)).rows;omega)
   unfold ZIr;rw[if_pos h0,List.getElem?_eq_getElem hkb]
  ·rw[decide_eq_false (show ¬l[k]≥0 from h0),cond_false];refine next _ ?_ (by simp;omega)
   unfold ZIr;rw[if_neg h0]
 ·rintro rec _ rfl;unfold Zxe Zua;dsimp only;rw[decide_eq_false (show ¬(l.length:Int) < (l.length:Int) by omega),cond_false,ZoJ,ZUa,ZUb (by omega),ZTY (by omega),ZTW]
 rintro _ rfl;dsimp only;unfold Zx7;exact ZoJ.2 rfl
end Go.Proofs
namespace Go.Proofs
open Go Eng
def auX:ZoL:=⟨[99,105,116,121],[⟨false,[120]⟩]⟩
def auY:ZoL:=⟨[110,97,109,101],[⟨false,[121]⟩]⟩
def auA:ZoF:=⟨1,[],[auX,auY]⟩
def auB:ZoF:=⟨2,[],[auY,auX]⟩
theorem ZD2 (s:Str):ZAE [s]=[s]:=ZK3 (List.pairwise_singleton _ _) (by simp) (fun x=>Iff.rfl)
theorem ZQw:ZAb auX.Name=[[99,105,116,121]]:=by
 have e:ZC7 (auX.Name++[32]) []=[[99,105,116,121]]:=by decide+kernel
 unfold ZAb;rw[e,ZD2]
theorem ZQv:ZAb auY.Name=[[110,97,109,101]]:=by
 have e:ZC7 (auY.Name++[32]) []=[[110,97,109,101]]:=by decide+kernel
 unfold ZAb;rw[e,ZD2]
theorem ZQy:Zxd auX.Cells=[[120]]:=by
 have e:ZGT auX.Cells=[[120]]:=by decide+kernel
 unfold Zxd;rw[e,ZD2]
theorem ZQx:Zxd auY.Cells=[[121]]:=by
 have e:ZGT auY.Cells=[[121]]:=by decide+kernel
 unfold Zxd;rw[e,ZD2]
theorem ZI7 {a b:ZoL} (h1:comm (Zxd a.Cells) (Zxd b.Cells)=0) (h2:comm (ZAb a.Name) (ZAb b.Name)=0):ZE2 a b=0:=by
 have z:∀x y:List Str,comm x y=0→ZAx x y=0:=fun x y h=>by unfold ZAx;rw[h];simp
 unfold ZE2;rw[z _ _ h1,z _ _ h2];unfold ofQ;rw[if_pos ⟨rfl,rfl⟩]
theorem ZSN:ZE2 auX auX=1:=by rw[ZHa,if_neg (by rw[ZQw];simp),if_neg (by rw[ZQy];simp)]
theorem ZSL:ZE2 auY auY=1:=by rw[ZHa,if_neg (by rw[ZQv];simp),if_neg (by rw[ZQx];simp)]
theorem ZQz:ZE2 auX auY=0:=ZI7 (by rw[ZQy,ZQx];decide) (by rw[ZQw,ZQv];decide)
theorem ZSM:ZE2 auY auX=0:=by rw[ZKu,ZQz]
theorem ZMh:ZHz auA auB=[[0,1],[1,0]]:=by show [[ZE2 auX auY,ZE2 auX auX],[ZE2 auY auY,ZE2 auY auX]]=_;rw[ZSN,ZSL,ZQz,ZSM]
theorem ZMj:ZGE auX:=⟨by decide,by decide,fun x hx=>by simp only[auX,ZT7,ZT8,or_false]at hx;subst hx;decide⟩
theorem ZMi:ZGE auY:=⟨by decide,by decide,fun x hx=>by simp only[auY,ZT7,ZT8,or_false]at hx;subst hx;decide⟩
theorem ZMl:ZFF auA:=⟨by kernel_rfl,by decide,fun c hc=>by
 simp only[auA,ZT7,ZT8,or_false]at hc;rcases hc with rfl |rfl
 ·exact ZMj
 ·exact ZMi⟩
theorem ZMk:ZFF auB:=⟨by kernel_rfl,by decide,fun c hc=>by
 simp only[auB,ZT7,ZT8,or_false]at hc;rcases hc with rfl |rfl
 ·exact ZMi
 ·exact ZMj⟩
theorem ZKE:ZD0 [[0,1],[1,0]] 0=[1,0]∧ZvI [[0,1],[1,0]] 0=2:=by decide+kernel
theorem ZLQ:ZA1 auA auB=1:=by unfold ZA1;rw[ZMh,ZKE.2];decide+kernel
set_option maxRecDepth 100000 in
theorem ZKD:Zr2=some true:=by unfold Zr2;show (chk true (chk true ((ZqL auA auB).bind _)))=_;show ((ZqL auA auB).bind _)=_;rw[ZGC ZMl ZMk,ZUe,ZMh,ZKE.1,ZLQ];show ((Zvf auA auB [1,0]).bind _)=_;rw[ZLc ZMl ZMk (by decide) (by decide) ⟨by decide,by decide,by decide⟩,ZUe];dsimp only;rw[show ((0:Int) == 0)=true from rfl,cond_true,cond_true,show ZpA [1,0] [1,0]=some true by decide+kernel,ZUe,cond_true,ZNz,ZUe,ZCx _ _ (ZGU.wq (by decide)) (ZGU.wq (by decide)),ZUe,decide_eq_true rfl,cond_true,ZGo,ZUe];unfold ZpB;decide+kernel
end Go.Proofs
namespace Go.Proofs
open Go Eng
theorem ZGQ {l:List ZoF} (hl:l.length≤1000) (hv:∀t∈l,ZFF t) (hs:∀(i:Nat) (h:i+1 < l.length),l[i].ID < l[i+1].ID):Zzj l=some true:=by
 have hA:∀(d i n:Nat),i+d=l.length→1≤i→d < n→ZpT n l (i:Int)=some (.brk l):=by
  intro d
  induction d with
  |zero=>
   intro i n hi h1 hn;obtain⟨n,rfl⟩:∃n',n=n'+1:=⟨n - 1,by omega⟩;rw[ZpT,ZvX,decide_eq_false (show ¬(i:Int) < (l.length:Int) by omega),cond_false]
  |succ d ih=>
   intro i n hi h1 hn;obtain⟨n,rfl⟩:∃n',n=n'+1:=⟨n - 1,by omega⟩;obtain⟨i,rfl⟩:∃i',i=i'+1:=⟨i - 1,by omega⟩;have h2:=hs i (by omega);rw[ZpT,ZvX,decide_eq_true (show ((i+1:Nat):Int) < (l.length:Int) by omega),cond_true,ZoQ (n:=((i+1:Nat):Int) - 1) (by omega),ZoQ (n:=((i+1:Nat):Int)+1) (by omega),show ((i+1:Nat):Int) - 1=(i:Int) by omega,
    Zqj (show i < l.length by omega),Zqj (show i+1 < l.length by omega)]
   show (bif decide (l[i].ID≥l[i+1].ID)then _ else ZpT n l (((i+1:Nat):Int)+1))=_;rw[decide_eq_false (by omega),cond_false,show ((i+1:Nat):Int)+1=((i+1+1:Nat):Int) by omega];exact ih (i+1+1) n (by omega) (by omega) (by omega)
 have hB:ZpT big l (1:Int)=some (.brk l):=by
  by_cases h0:l.length=0
  ·obtain⟨n,hn⟩:=ZFB 1 (by omega);rw[hn,ZpT,ZvX,decide_eq_false (show ¬(1:Int) < (l.length:Int) by omega),cond_false]
  ·exact hA (l.length - 1) 1 big (by omega) (by omega) (by rw[big_eq];omega)
 have hC:ZuZ l=some true:=by
  apply Zp6;unfold ZuZ;rw[ZoM];refine ZoT (ZsS ZBo l (by omega) (fun i (_:Unit)=>(l,(l.length:Int),i)) (fun _ _=>True) (Q:=fun x=>x= .brk ()) () trivial ?_ ?_) ?_
  ·rintro rec k _ hk _ ih;unfold ZuY Zsi;dsimp only;rw[decide_eq_true (show (k:Int) < (l.length:Int) by omega),cond_true,Zqj hk,ZUe,ZDI (hv _ (ZT1 hk)),ZUe,ZPK,cond_false,ZoO];exact⟨ZoQ (by omega),ih () trivial⟩
  ·rintro rec _ _;unfold ZuY Zsi;dsimp only;rw[decide_eq_false (show ¬(l.length:Int) < (l.length:Int) by omega),cond_false,ZoJ]
  rintro _ rfl;dsimp only;unfold Zwc;exact ZoJ.2 rfl
 unfold Zzj;rw[hB,ZUe];dsimp only;unfold ZzC;rw[decide_eq_true (by omega),cond_true,hC];rfl
noncomputable def ZF0 (q t:ZoF):Zo0:=⟨t.ID,ZD0 (ZHz q t) 0,fOf (ZA1 q t)⟩
noncomputable def ZDw (q:ZoF) (l:List ZoF):List Zo0:=(l.filter fun t=>decide (0 < ZA1 q t)).map (ZF0 q)
theorem ZFt (q:ZoF) (l:List ZoF):(ZDw q l).length≤l.length:=by unfold ZDw;rw[ZT4];exact List.length_filter_le _ _
theorem ZI3 (q:ZoF) (l:List ZoF) (t:ZoF):ZDw q (l++[t])=ZDw q l++(if 0 < ZA1 q t then [ZF0 q t]else []):=by
 unfold ZDw;rw[List.filter_append,ZT6];congr 1
 by_cases h:0 < ZA1 q t<;>simp[h]
theorem ZPr {l:List ZoF} {q:ZoF} {k:Int} (hl:l.length≤1000) (hv:∀t∈l,ZFF t) (hs:∀(i:Nat) (h:i+1 < l.length),l[i].ID < l[i+1].ID) (hq:ZFF q) (hk:0≤k∧k≤1024):
  Zvb l q k=ZuB k (ZDw q l):=by
 have hqc:=hq.cols;have hloop:Zrg big k l (l.length:Int) 0 q []=some (k,ZDw q l):=by
  apply Zp6;refine ZsS ZCX l (by omega) (fun i (o:List Zo0)=>(k,l,(l.length:Int),i,q,o)) (fun j o=>o=ZDw q (l.take j)) [] rfl ?_ ?_
  ·rintro rec j o hj rfl ih;unfold Zx6 ZvK;dsimp only;have ht:=hv _ (ZT1 hj);have hsz:=ZGn hq ht;have hlen:=ZFt q (l.take j);rw[ZT5]at hlen;rw[decide_eq_true (show (j:Int) < (l.length:Int) by omega),cond_true,Zqj hj,ZUe,ZGC hq ht,ZUe];dsimp only;rw[show ((0:Int) == 0)=true from rfl,cond_true];unfold ZBp;rw[ZEv (hsz.wq (by omega)),ZUe,ZUe,ZFW];have hsn:=ZI3 q (l.take j) l[j];rw[←ZUc hj]at hsn;unfold Zw4 Zw3
   by_cases h:0 < ZA1 q l[j]
   ·rw[decide_eq_true h,cond_true,ZoO,ZoO];refine⟨ZrX (by rw[List.length_singleton];omega),ZoQ (by omega),ih _ ?_⟩;rw[hsn,if_pos h];rfl
   ·rw[decide_eq_false h,cond_false,ZoO];refine⟨ZoQ (by omega),ih _ ?_⟩;rw[hsn,if_neg h,ZTW]
  ·rintro rec o rfl;unfold Zx6 ZvK;dsimp only;rw[decide_eq_false (show ¬(l.length:Int) < (l.length:Int) by omega),cond_false,ZoJ,ZUa]
 unfold Zvb;rw[decide_eq_false (by omega),cond_false,decide_eq_false (by omega)];unfold Zw6 ZAP;rw[cond_false,ZGQ hl hv hs,ZUe,ZUe,ZPK,cond_false,ZDI hq,ZUe,ZPK];unfold Zw5;rw[cond_false,decide_eq_false (by omega),cond_false,hloop,ZUe]
end Go.Proofs
namespace Go.Proofs
open Go Eng
section
variable {α:Type} (lt:α→α→Bool)
def ZMe (x:α):List α→List α
 | []=>[x]
 |p::r=>if lt x p then p::ZMe x r else x::p::r
def ZHl (x:α) (A:List α):List α:=(ZMe lt x A.reverse).reverse
def ZAB (l:List α):List α:=l.foldl (fun s x=>ZHl lt x s) []
variable {lt}
theorem ZLB (x:α):ZHl lt x []=[x]:=rfl
theorem ZKf (x p:α) (A:List α):ZHl lt x (A++[p])=if lt x p then ZHl lt x A++[p]else A++[p,x]:=by unfold ZHl;rw[List.reverse_append,List.reverse_singleton,List.singleton_append,ZMe];split;rotate_left;simp;rw[List.reverse_cons]
theorem ZFo (x:α):∀l:List α,(ZMe lt x l).Perm (x::l)
 | []=> .refl _
 |p::r=>by
  unfold ZMe;split
  ·exact((ZFo x r).cons p).trans (.swap _ _ _)
  ·exact .refl _
theorem ZG5 (x:α) (A:List α):(ZHl lt x A).Perm (A++[x]):=by unfold ZHl;refine(List.reverse_perm _).trans ((ZFo x _).trans ?_);refine(List.Perm.cons x (List.reverse_perm A)).trans ?_;exact(List.perm_append_singleton x A).symm
theorem ZI0 (l:List α) (x:α):ZAB lt (l++[x])=ZHl lt x (ZAB lt l):=by simp[ZAB]
theorem ZDJ (l:List α):(ZAB lt l).Perm l:=by
 have key:∀(l s:List α),(l.foldl (fun s x=>ZHl lt x s) s).Perm (s++l):=by
  intro l
  induction l with
  |nil=>intro s;simp
  |cons x l ih=>
   intro s;refine(ih _).trans ?_;refine((ZG5 x s).append_right l).trans ?_;simp
 simpa[ZAB]using key l []
theorem ZAA (l:List α):(ZAB lt l).length=l.length:=(ZDJ l).length_eq
theorem ZFn (P:α→Prop) (le:α→α→Prop) (hlt:∀x p,P x→P p→lt x p=true→le x p) (hnlt:∀x p,P x→P p→lt x p=false→le p x) (htr:∀a b c,P a→P b→P c→le a b→le b c→le a c)
  (x:α) (hx:P x):∀l:List α,(∀y∈l,P y)→l.Pairwise (fun a b=>le b a)→(ZMe lt x l).Pairwise (fun a b=>le b a)
 | [],_,_=>by simp[ZMe]
 |p::r,hP,h=>by
  have hp:=hP p (by simp);have hr:=List.pairwise_cons.1 h;unfold ZMe;cases hc:lt x p with
  |true=>
   rw[if_pos rfl,List.pairwise_cons];refine⟨fun y hy=> ?_,ZFn P le hlt hnlt htr x hx r (fun y hy=>hP y (by simp[hy])) hr.2⟩;rcases ZT7.1 ((ZFo x r).mem_iff.1 hy)with rfl |hy
   ·exact hlt _ _ hx hp hc
   ·exact hr.1 y hy
  |false=>
   rw[if_neg (by simp),List.pairwise_cons];refine⟨fun y hy=> ?_,h⟩;have hxp:=hnlt x p hx hp hc;rcases ZT7.1 hy with rfl |hy
   ·exact hxp
   ·exact htr _ _ _ (hP y (by simp[hy])) hp hx (hr.1 y hy) hxp
theorem ZG4 (P:α→Prop) (le:α→α→Prop) (hlt:∀x p,P x→P p→lt x p=true→le x p) (hnlt:∀x p,P x→P p→lt x p=false→le p x) (htr:∀a b c,P a→P b→P c→le a b→le b c→le a c)
  (l:List α) (hl:∀y∈l,P y):(ZAB lt l).Pairwise le:=by
 have key:∀(l s:List α),(∀y∈l,P y)→(∀y∈s,P y)→s.Pairwise le→(l.foldl (fun s x=>ZHl lt x s) s).Pairwise le:=by
  intro l
  induction l with
  |nil=>intro s _ _ h;exact h
  |cons x l ih=>
   intro s hl hs h;refine ih _ (fun y hy=>hl y (by simp[hy])) (fun y hy=> ?_) ?_
   ·rcases List.mem_append.1 ((ZG5 x s).mem_iff.1 hy)with hy |hy
    ·exact hs y hy
    ·simp only[List.mem_singleton]at hy;subst hy;exact hl _ (by simp)
   ·unfold ZHl;rw[List.pairwise_reverse];exact ZFn P le hlt hnlt htr x (hl x (by simp)) s.reverse (fun y hy=>hs y (List.mem_reverse.1 hy)) (by rw[List.pairwise_reverse];exact h)
 exact key l [] hl (by simp) (by simp)
end
theorem ZJP {α:Type} (A C:List α) (p x:α):((A++p::x::C).set (A.length+1) p).set A.length x=A++x::p::C:=by
 induction A with
 |nil=>rfl
 |cons a A ih=>simp only[List.cons_append,ZT3,List.set_cons_succ,ih]
end Go.Proofs
namespace Go.Proofs
open Go Eng
theorem ZLH {a b:Rat} (ha:Sz 7100 a) (hb:Sz 7100 b) (h:fOf a=fOf b):a=b:=by have h1:=ZCx a b (ha.wq (by omega)) (hb.wq (by omega));have h2:=ZCx b b (hb.wq (by omega)) (hb.wq (by omega));rw[h,h2]at h1;simpa using h1.symm
def ZHV (m:Zo0):Prop:=∃q:Rat,Sz 7100 q∧m.Score=fOf q
noncomputable def sq (m:Zo0):Rat:=open Classical in if h:ZHV m then h.choose else 0
theorem ZFa {m:Zo0} (h:ZHV m):Sz 7100 (sq m)∧m.Score=fOf (sq m):=by unfold sq;rw[dif_pos h];exact h.choose_spec
theorem ZSl {m:Zo0} {q:Rat} (hq:Sz 7100 q) (h:m.Score=fOf q):sq m=q:=by have:=ZFa ⟨q,hq,h⟩;exact ZLH this.1 hq (this.2.symm.trans h)
def ZKe (x y:Int):Int:=if x < y then -1 else if x > y then 1 else 0
theorem ZI8 (x y:Int):ZtA x y=some (ZKe x y):=by
 have hn:∀x:Int,Zxt x=some false:=fun x=>by unfold Zxt;simp
 unfold ZtA ZKe;rw[hn,ZUe,hn,ZUe,cond_false,cond_false]
 by_cases h:x < y
 ·rw[decide_eq_true h,cond_true,if_pos h]
 ·rw[decide_eq_false h,cond_false,if_neg h]
  by_cases h2:x > y
  ·rw[decide_eq_true h2,cond_true,if_pos h2]
  ·rw[decide_eq_false h2,cond_false,if_neg h2]
theorem ZPO (a b:Int):ZB8 [a,b]=some (if a≠0 then a else b):=by
 unfold ZB8;obtain⟨n,hn⟩:=ZFB 3 (by omega);rw[hn];have hin:∀z:Int,z=1∨z=2→inK .i64 z=true:=fun z hz=>by rcases hz with rfl |rfl<;>rfl
 by_cases ha:a≠0
 ·rw[if_pos ha];show ((Zxu (Zzb (n+2)) 0 [a,b] 2 0).bind _)=_;unfold Zxu;show (((bif (a != 0)then (some (Out.ret a):Option (Out Int Int))else _)).bind _)=_;rw[show (a != 0)=true by simpa using ha,cond_true];rfl
 ·have ha:a=0:=by simpa using ha
  subst ha;rw[if_neg (by simp)];show ((Zxu (Zzb (n+1)) 0 [0,b] 2 1).bind _)=_;unfold Zxu;show (((bif (b != 0)then (some (Out.ret b):Option (Out Int Int))else _)).bind _)=_
  by_cases hb:b=0
  ·subst hb;rfl
  ·rw[show (b != 0)=true by simpa using hb,cond_true];rfl
noncomputable def cM (x y:Zo0):Int:=if ZEX (sq y) (sq x)≠0 then ZEX (sq y) (sq x)else ZKe x.Table y.Table
def leM (x y:Zo0):Prop:=sq y < sq x∨(sq x=sq y∧x.Table≤y.Table)
noncomputable def ltM (x y:Zo0):Bool:=decide (cM x y < 0)
theorem ZHG {x y:Zo0} (hx:ZHV x) (hy:ZHV y):Zwj x y=some (cM x y):=by obtain⟨x1,x2⟩:=ZFa hx;obtain⟨y1,y2⟩:=ZFa hy;unfold Zwj ZCp;rw[x2,y2,ZIp (y1.wq (by omega)) (x1.wq (by omega)),ZUe,ZUe,ZI8,ZUe,ZPO,ZUe];rfl
theorem ZPV {x y:Zo0} (h:ltM x y=true):leM x y:=by
 have h:=of_decide_eq_true h;unfold cM at h;unfold leM
 by_cases h1:sq y < sq x
 ·exact .inl h1
 ·by_cases h2:sq x < sq y
  ·unfold ZEX at h;rw[if_neg h1,if_pos h2]at h;simp at h
  ·have e:sq x=sq y:=by grind
   refine .inr ⟨e, ?_⟩;unfold ZEX at h;rw[if_neg h1,if_neg h2]at h;simp only[ne_eq,not_true_eq_false,if_false]at h;unfold ZKe at h;split at h
   ·omega
   ·split at h<;>omega
theorem ZNr {x y:Zo0} (h:ltM x y=false):leM y x:=by
 have h:=of_decide_eq_false h;unfold cM at h;unfold leM
 by_cases h1:sq x < sq y
 ·exact .inl h1
 ·by_cases h2:sq y < sq x
  ·exfalso;apply h;unfold ZEX;rw[if_pos h2,if_pos (show (-1:Int)≠0 by decide)];decide
  ·have e:sq y=sq x:=by grind
   refine .inr ⟨e, ?_⟩;unfold ZEX at h;rw[if_neg h2,if_neg h1]at h;simp only[ne_eq,not_true_eq_false,if_false]at h;unfold ZKe at h;split at h
   ·omega
   ·split at h<;>omega
theorem ZKb {a b c:Zo0} (h1:leM a b) (h2:leM b c):leM a c:=by
 unfold leM at*
 rcases h1 with h1 |⟨h1,h1'⟩<;>rcases h2 with h2 |⟨h2,h2'⟩
 ·exact .inl (by grind)
 ·exact .inl (by grind)
 ·exact .inl (by grind)
 ·exact .inr ⟨by grind,by omega⟩
theorem ZI1 (l:List Zo0):(ZAB ltM l).Pairwise leM:=
 ZG4 (fun _=>True) leM (fun _ _ _ _ h=>ZPV h) (fun _ _ _ _ h=>ZNr h) (fun _ _ _ _ _ _ h1 h2=>ZKb h1 h2) l fun _ _=>trivial
theorem ZI2 (b i0:Int) {A0 C0:List Zo0} {x:Zo0} (hlen:(A0++x::C0).length≤1000) (hA:∀e∈A0,ZHV e) (hx:ZHV x):
  wp (Zo4 big 0 b i0 (A0.length:Int) (A0++x::C0)) (fun y=>y=(0,b,i0,ZHl ltM x A0++C0)):=by
 refine ZzO Zxm (fun(s:List Zo0×List Zo0)=>((0:Int),b,i0,(s.1.length:Int),s.1++x::s.2)) (fun s=>ZHl ltM x s.1++s.2=ZHl ltM x A0++C0∧(s.1++x::s.2).length≤1000∧∀e∈s.1,ZHV e) (fun s=>s.1.length)
  (Q:=fun y=>y=(0,b,i0,ZHl ltM x A0++C0)) (A0,C0) ⟨rfl,hlen,hA⟩ (by dsimp only;simp only[ZT2]at hlen;omega) ?_
 rintro rec ⟨A,C⟩ ⟨hR,hl,hG⟩ ih;dsimp only at hR hl hG ih⊢
 unfold Zsl Zp7 Zpz;dsimp only;rcases List.eq_nil_or_concat A with rfl |⟨A,p,rfl⟩
 ·rw[ZoX];refine⟨fun h=>by simp at h,fun _=> ?_⟩;rw[cond_false,ZoJ];rw[ZLB]at hR;rw[←hR];rfl
 ·rw[List.concat_eq_append]at*
  simp only[ZT2,ZT3,List.length_nil]at hl;have e0:(A++[p])++x::C=A++p::x::C:=by simp
  have ei:(((A++[p]).length:Nat):Int)=((A.length+1:Nat):Int):=by rw[ZT2,List.length_singleton]
  have ej:(((A++[p]).length:Nat):Int) - 1=(A.length:Int):=by rw[ei];omega
  have g1:(A++p::x::C)[A.length+1]? =some x:=by rw[ZTZ (by omega),show A.length+1 - A.length=1 by omega];rfl
  have g0:(A++p::x::C)[A.length]? =some p:=by rw[ZTZ (by omega),Nat.sub_self];rfl
  rw[ZoX];refine⟨fun _=> ?_,fun h=>by simp only[decide_eq_false_iff_not]at h;rw[ei]at h;omega⟩;rw[ej,ei,e0];simp only[ZTV,g1,g0,ZUe];have ll:(A++p::x::C).length=A.length+2+C.length:=by rw[ZT2];simp only[ZT3];omega
  have lx:inR ((A.length+1:Nat):Int) ((A++p::x::C).length:Int)=true:=Zr7 ⟨by omega,by omega⟩;have lp:inR (A.length:Int) ((A++p::x::C).length:Int)=true:=Zr7 ⟨by omega,by omega⟩;have lp':inR (A.length:Int) (((A++p::x::C).set (A.length+1) p).length:Int)=true:=by rw[List.length_set];exact lp
  have ki:inK .i64 (A.length:Int)=true:=ZoQ (by omega);rw[lx,lp,lp',ki];simp only[chk_true];rw[ZHG hx (hG p (by simp)),ZoM,ZoJ];rw[ZKf]at hR;have hlt:ltM x p=decide (cM x p < 0):=rfl;rw[ZoX];refine⟨fun hc=> ?_,fun hc=> ?_⟩
  ·rw[hlt,if_pos hc]at hR;rw[ZJP];exact ih (A,p::C) ⟨by rw[←hR];simp,by simp only[ZT2,ZT3];omega,fun e he=>hG e (List.mem_append_left _ he)⟩ (by simp)
  ·rw[hlt,if_neg (by rw[hc];simp)]at hR;rw[ZoJ,←hR];simp
theorem ZNA (M:List Zo0) (hlen:M.length≤1000) (hM:∀e∈M,ZHV e):Zpk M 0 (M.length:Int)=some (ZAB ltM M):=by
 have key:ZpL M 0 (M.length:Int)=some (ZAB ltM M):=by
  refine Zp6 ?_;unfold ZpL Zqo;rw[ZoO,ZoM];refine⟨rfl, ?_⟩;have out:∀(k f:Nat),k+1≤M.length→M.length - (k+1) < f→wp (Zpi f 0 (M.length:Int) ((k+1:Nat):Int) (ZAB ltM (M.take (k+1))++M.drop (k+1))) (fun y=>y=ZAB ltM M):=by
   intro k f
   induction f generalizing k with
   |zero=>intro _ h;omega
   |succ f ih=>
    intro hk hf;show wp (Zpd _ _ _ _ _) _;unfold Zpd Zqp;rw[ZoX];refine⟨fun hc=> ?_,fun hc=> ?_⟩
    ·simp only[decide_eq_true_eq]at hc;have hk2:k+1 < M.length:=by omega
     have hlen2:(ZAB ltM (M.take (k+1))).length=k+1:=by rw[ZAA,ZT5];omega
     have e:M.drop (k+1)=M[k+1]::M.drop (k+2):=ZTX hk2;rw[e];have:=ZI2 (M.length:Int) ((k+1:Nat):Int) (A0:=ZAB ltM (M.take (k+1))) (C0:=M.drop (k+2)) (x:=M[k+1]) (by simp only[ZT2,ZT3,hlen2,List.length_drop];omega) (fun e he=>hM e (List.mem_of_mem_take ((ZDJ _).mem_iff.1 he))) (hM _ (ZT1 hk2));rw[hlen2]at this;rw[ZoM];refine ZoT this ?_;rintro y rfl;dsimp only;rw[ZoO];refine⟨ZoQ (by omega), ?_⟩;have e2:ZHl ltM M[k+1] (ZAB ltM (M.take (k+1)))=ZAB ltM (M.take (k+2)):=by rw[ZUc hk2,ZI0]
     rw[e2];have:=ih (k+1) (by omega) (by omega);rw[show ((k+1:Nat):Int)+1=((k+1+1:Nat):Int) by omega];exact this
    ·simp only[decide_eq_false_iff_not]at hc;have:k+1=M.length:=by omega
     rw[ZoJ,this,ZUa,List.drop_of_length_le (Nat.le_refl _),ZTW]
  by_cases h0:M.length=0
  ·have:M=[]:=List.eq_nil_of_length_eq_zero h0;subst this;obtain⟨n,hn⟩:=ZFB 1 (by omega);rw[hn];show wp (Zpd _ _ _ _ _) _;unfold Zpd;rw[List.length_nil,decide_eq_false (by omega),cond_false,ZoJ,ZoJ];rfl
  ·have:=out 0 big (by omega) (by rw[big_eq];omega);have e:ZAB ltM (M.take (0+1))++M.drop (0+1)=M:=by
    cases M with
    |nil=>simp at h0
    |cons x M=>rfl
   rw[e]at this;refine ZoT this ?_;rintro y rfl;rw[ZoJ]
 unfold Zpk;rw[key,ZUe,ZAA,decide_eq_true rfl];rfl
theorem ZIW:((List.range 13).all fun n:Nat=>(ZBT (IntKind.wrap .u64 (n:Int))).isSome)=true:=by kernel_rfl
theorem ZLd (M:List Zo0) (hlen:M.length≤12) (hM:∀e∈M,ZHV e):ZpM M=some (ZAB ltM M):=by
 have hlim:=List.all_eq_true.1 ZIW M.length (by simp;omega);obtain⟨lim,hl⟩:=Option.isSome_iff_exists.1 hlim;have hp:Zqf M 0 (M.length:Int) lim=some (ZAB ltM M):=by unfold Zqf ZsG;obtain⟨n,hn⟩:=ZFB 1 (by omega);rw[hn];show ((((Zq3 _ 0 (M.length:Int) lim true true M)).bind _).bind _)=_;unfold Zq3;rw[ZoQ (n:=(M.length:Int) - 0) (by omega),decide_eq_true (show (M.length:Int) - 0≤12 by omega)];show (((((Zpk M 0 (M.length:Int)).bind _)).bind _).bind _)=_;rw[ZNA M (by omega) hM];show (chk (decide ((ZAB ltM M).length=M.length)&&true) (some (ZAB ltM M)))=_;rw[ZAA,decide_eq_true rfl];rfl
 unfold ZpM Zri;rw[hl,ZUe,hp];show (chk (decide ((ZAB ltM M).length=M.length)&&true) (some (ZAB ltM M)))=_;rw[ZAA,decide_eq_true rfl];rfl
theorem ZMX (M:List Zo0) (hlen:M.length≤12) (hM:∀e∈M,ZHV e) {k:Int} (hk:0≤k∧k≤1024):ZuB k M=some ((ZAB ltM M).take k.toNat,0):=by
 have hF:ZtW M k=some (0,((if (M.length:Int) < k then (M.length:Int)else k)).toNat,ZAB ltM M):=by unfold ZtW ZxG;rw[ZLd M hlen hM,ZUe,ZAA,Zp8 (by split<;>omega)];show (chk (decide ((ZAB ltM M).length=M.length)&&true) (some (0,((if (M.length:Int) < k then (M.length:Int)else k)).toNat - 0,ZAB ltM M)))=_;rw[ZAA,decide_eq_true rfl];rfl
 unfold ZuB;rw[hF,ZUe];dsimp only;rw[List.drop_zero];congr 2
 by_cases h:(M.length:Int) < k
 ·rw[if_pos h,ZTV,ZUb (by rw[ZAA];omega),ZUb (by rw[ZAA];omega)]
 ·rw[if_neg h]
end Go.Proofs
namespace Go.Proofs
open Go Eng
theorem ZJH {t:ZoF} (h:ZEO t):ZFF t:=by obtain⟨n,hn,hc⟩:=h.rows;refine⟨ZJG h,by have:=h.cols;omega,fun c hcm=> ?_⟩;obtain⟨h1,h2,h3⟩:=hc c hcm;refine⟨by have:=(ZFO h1).2;omega,by omega,fun x hx=> ?_⟩;have:=(ZFO (h3 x hx).1).2;omega
theorem ZD9 (l:List Int) (hl:l.length≤1000):ZpA l l=some true:=by
 apply Zp6;unfold ZpA;rw[show (((l.length:Nat):Int) != (l.length:Int))=false by simp,cond_false,ZoM];refine ZoT (ZsS ZAd l (by omega) (fun i (_:Unit)=>(l,l,(l.length:Int),i)) (fun _ _=>True) (Q:=fun x=>x= .brk ()) () trivial ?_ ?_) ?_
 ·rintro rec k _ hk _ ih;unfold ZsV ZqH;dsimp only;rw[decide_eq_true (show (k:Int) < (l.length:Int) by omega),cond_true,Zqj hk,ZUe,ZUe,show (l[k] != l[k])=false by simp,cond_false,ZoO];exact⟨ZoQ (by omega),ih () trivial⟩
 ·rintro rec _ _;unfold ZsV ZqH;dsimp only;rw[decide_eq_false (show ¬(l.length:Int) < (l.length:Int) by omega),cond_false,ZoJ]
 rintro _ rfl;dsimp only;unfold Zt0;exact ZoJ.2 rfl
theorem ZFK {m:Zo0} (h:ZHV m):Zps m.Score m.Score=some true:=by obtain⟨h1,h2⟩:=ZFa h;rw[h2,ZCx _ _ (h1.wq (by omega)) (h1.wq (by omega)),decide_eq_true rfl]
theorem ZIG (l:List Zo0) (hl:l.length≤1000) (hg:∀m∈l,ZHV m) (ha:∀m∈l,m.Align.length≤1000):ZuN l l=some true:=by
 apply Zp6;unfold ZuN;rw[show (((l.length:Nat):Int) != (l.length:Int))=false by simp,cond_false,ZoM];refine ZoT (ZsS ZBj l (by omega) (fun i (_:Unit)=>(l,l,(l.length:Int),i)) (fun _ _=>True) (Q:=fun x=>x= .brk ()) () trivial ?_ ?_) ?_
 ·rintro rec k _ hk _ ih;unfold ZuM Zsc Zq9;dsimp only;have hm:=ZT1 hk;rw[decide_eq_true (show (k:Int) < (l.length:Int) by omega),cond_true,Zqj hk,ZUe,ZUe,show (l[k].Table != l[k].Table)=false by simp,cond_false,ZUe,ZFK (hg _ hm),ZUe,ZPK,cond_false,
   ZUe,ZD9 _ (ha _ hm),ZUe,ZPK,cond_false,ZoO]
  exact⟨ZoQ (by omega),ih () trivial⟩
 ·rintro rec _ _;unfold ZuM Zsc;dsimp only;rw[decide_eq_false (show ¬(l.length:Int) < (l.length:Int) by omega),cond_false,ZoJ]
 rintro _ rfl;dsimp only;unfold Zv7;exact ZoJ.2 rfl
theorem ZNG {l:List ZoF} (hl:l.length≤1000) (hu:l.Pairwise fun x y=>x.ID < y.ID) {t:ZoF} (ht:t∈l):ZuS l t.ID=some (t,true):=by
 obtain⟨j,hj,rfl⟩:=List.mem_iff_getElem.1 ht;have key:wp (Zrb big l[j].ID l (l.length:Int) 0 0 [] []) (fun x=>x= .ret (l[j],true)):=by
  refine ZsS ZBk l (by omega) (fun i (_:Unit)=>(l[j].ID,l,(l.length:Int),i,(0:Int),([]:Str),([]:List ZoL))) (fun k _=>k≤j) () (by omega) ?_ ?_
  ·rintro rec k _ hk hkj ih;unfold Zyw ZuR;dsimp only;rw[decide_eq_true (show (k:Int) < (l.length:Int) by omega),cond_true,Zqj hk,ZUe]
   by_cases he:k=j
   ·subst he;rw[beq_self_eq_true,cond_true,ZoJ]
   ·have:=ZT9.1 hu k j hk hj (by omega);rw[show (l[k].ID == l[j].ID)=false by simp;omega,cond_false,ZoO];exact⟨ZoQ (by omega),ih () (by omega)⟩
  ·rintro rec _ h;omega
 obtain⟨x,hx,rfl⟩:=key;unfold ZuS;rw[hx,ZUe]
theorem ZDV {q t:ZoF} (hq:ZFF q) (ht:ZFF t):ZHV (ZF0 q t)∧sq (ZF0 q t)=ZA1 q t:=by have h:Sz 7100 (ZA1 q t):=(ZGn hq ht).mono (by omega);exact⟨⟨_,h,rfl⟩,ZSl h rfl⟩
theorem ZFs {q:ZoF} {l:List ZoF} {m:Zo0} (h:m∈ZDw q l):∃t∈l,m=ZF0 q t:=by obtain⟨t,ht,rfl⟩:=List.mem_map.1 h;exact⟨t,(List.mem_filter.1 ht).1,rfl⟩
theorem ZLD {q:ZoF} {l:List ZoF} (hu:l.Pairwise fun x y=>x.ID < y.ID):(ZDw q l).Pairwise fun x y=>x.Table≠y.Table:=by
 unfold ZDw;refine List.pairwise_map.2 ?_;refine(hu.filter _).imp fun {a b} h=> ?_
 show a.ID≠b.ID;omega
theorem ZLk {l:List ZoF} {q:ZoF} (hl:l.length≤12) (hv:∀t∈l,ZFF t) (hu:l.Pairwise fun x y=>x.ID < y.ID) (hq:ZFF q) {all:List Zo0} (hall:all=ZAB ltM (ZDw q l)):
  wp (Zpe big l all all (all.length:Int) 0 q) (fun x=>x= .brk ()):=by
 have hperm:all.Perm (ZDw q l):=by rw[hall];exact ZDJ _
 have hmem:∀m∈all,∃t∈l,m=ZF0 q t:=fun m hm=>ZFs (hperm.mem_iff.1 hm)
 have hgood:∀m∈all,ZHV m:=fun m hm=>by obtain⟨t,ht,rfl⟩:=hmem m hm;exact(ZDV hq (hv t ht)).1
 have hsort:all.Pairwise leM:=by rw[hall];exact ZI1 _
 have hdist:all.Pairwise fun x y=>x.Table≠y.Table:=hperm.symm.pairwise (ZLD hu) (fun h=>Ne.symm h)
 have hlen:all.length≤12:=by rw[hperm.length_eq];have:=ZFt q l;omega
 refine ZsS Zyd all (by omega) (fun i (_:Unit)=>(l,all,all,(all.length:Int),i,q)) (fun _ _=>True) () trivial ?_ ?_
 ·rintro rec k _ hk _ ih;unfold ZqC ZpE;dsimp only;have hin:inK .i64 ((k:Int)+1)=true:=ZoQ (by omega);have next:wp (ZoV (fun l all t68 t69 i q=>rec (l,all,t68,t69,i,q)) l all all (all.length:Int) (k:Int) false q) (fun x=>x= .brk ()):=by unfold ZoV;rw[cond_false,ZoO];exact⟨hin,ih () trivial⟩
  obtain⟨t,ht,hm⟩:=hmem _ (ZT1 hk);have htc:=hv t ht;have hg:=hgood _ (ZT1 hk);have e1:all[k].Table=t.ID:=by rw[hm];rfl
  have e2:all[k].Score=fOf (ZA1 q t):=by rw[hm];rfl
  have e3:all[k].Align=ZD0 (ZHz q t) 0:=by rw[hm];rfl
  have hsz:=ZGn hq htc;have hal:(ZD0 (ZHz q t) 0).length≤1000:=by rw[ZFC,ZHz,ZT4];have:=hq.cols;omega
  rw[decide_eq_true (show (k:Int) < (all.length:Int) by omega),cond_true,Zqj hk,ZUe,e1,ZNG (by omega) hu ht,ZUe];dsimp only;rw[ZGC hq htc,ZUe];dsimp only;rw[ZPK,cond_false,show ((0:Int) != 0)=false from rfl,cond_false,e2,ZCx _ _ (hsz.wq (by omega)) (hsz.wq (by omega)),ZUe,decide_eq_true rfl,ZPK,cond_false,e3,ZD9 _ hal,ZUe,ZPK,cond_false]
  by_cases h0:k=0
  ·subst h0;rw[decide_eq_false (by omega),cond_false];exact next
  ·obtain⟨j,rfl⟩:∃j,k=j+1:=⟨k - 1,by omega⟩;have hj:j < all.length:=by omega
   obtain⟨s1,s2⟩:=ZFa (hgood _ (ZT1 hj));have hle:=ZT9.1 hsort j (j+1) hj hk (by omega);have hne:=ZT9.1 hdist j (j+1) hj hk (by omega);have hsq:sq all[j+1]=ZA1 q t:=by rw[hm];exact(ZDV hq htc).2
   rw[decide_eq_true (by omega),cond_true,show ((j+1:Nat):Int) - 1=(j:Int) by omega,ZoQ (n:=(j:Int)) (by omega),Zqj hj];show wp ((Zss all[j].Score (fOf (ZA1 q t))).bind _) _;rw[s2,ZKa (s1.wq (by omega)) (hsz.wq (by omega)),ZUe];unfold leM at hle;rw[hsq]at hle;rw[decide_eq_false (show ¬sq all[j] < ZA1 q t by rcases hle with h |h<;>grind),cond_false];show wp ((Zps (all[j]).Score (fOf (ZA1 q t))).bind _) _;rw[s2,ZCx _ _ (s1.wq (by omega)) (hsz.wq (by omega)),ZUe]
   by_cases he:sq all[j]=ZA1 q t
   ·rw[decide_eq_true he,cond_true];show wp (ZoV (fun l all t68 t69 i q=>rec (l,all,t68,t69,i,q)) l all all (all.length:Int) ((j+1:Nat):Int) (decide (all[j].Table≥t.ID)) q) _;rw[decide_eq_false]
    ·exact next
    ·rw[←e1];rcases hle with h |⟨_,h⟩
     ·exfalso;grind
     ·omega
   ·rw[decide_eq_false he,cond_false];exact next
 ·rintro rec _ _;unfold ZqC ZpE;dsimp only;rw[decide_eq_false (show ¬(all.length:Int) < (all.length:Int) by omega),cond_false,ZoJ]
theorem unionsearchRanks_law (t:List Int) (k:Int):ZrW t k=some true:=by
 apply Zp6;unfold ZrW Zyf;rw[ZUe]
 by_cases hlt:(t.length:Int)≤500
 ·rw[decide_eq_true hlt,ZPK,cond_false];unfold ZyW;rw[ZUe,ZoM];refine ZoT (ZJE (d:=⟨t,0⟩) (show ZrK ⟨t,0⟩from ⟨Int.le_refl 0,by simp,by show t.length≤500;omega⟩) (most:=4) (by omega) (by omega)) ?_;rintro⟨l,d1⟩ ⟨⟨hT,_⟩,hd1⟩;dsimp only at hT hd1⊢
  rw[ZoM];refine ZoT (ZIa hd1 (id:=0) (by decide)) ?_;rintro⟨q,d2⟩ ⟨⟨hQ,_⟩,_⟩;dsimp only at hQ⊢
  have hq:=ZJH hQ;have hv:∀t∈l,ZFF t:=fun t ht=>ZJH (hT.ok t ht).1
  have hl:l.length≤4:=hT.len;have hs:∀(i:Nat) (h:i+1 < l.length),l[i].ID < l[i+1].ID:=fun i h=>ZT9.1 hT.up i (i+1) (by omega) h (by omega)
  have hhl:=ZFt q l;have hhg:∀m∈ZDw q l,ZHV m:=fun m hm=>by obtain⟨t,ht,rfl⟩:=ZFs hm;exact(ZDV hq (hv t ht)).1
  obtain⟨kk,hk1,hk2⟩:=ZMa k (m:=4) (by decide);generalize hall:ZAB ltM (ZDw q l)=all;have hal:all.length=(ZDw q l).length:=by rw[←hall,ZAA]
  have htop:∀n:Int,0≤n∧n≤1024→Zvb l q n=some (all.take n.toNat,0):=fun n hn=>by rw[ZPr (by omega) hv hs hq hn,ZMX _ (by omega) hhg hn,hall]
  rw[htop 1024 (by decide),ZUe,show all.take (1024:Int).toNat=all from ZUb (by show all.length≤1024;omega)];dsimp only;rw[hk1,ZUe,htop kk (by omega),ZUe];dsimp only;rw[show ((0:Int) != 0)=false from rfl,cond_false,cond_false,ZUe];have hlen:((all.take kk.toNat).length:Int)=if kk < (all.length:Int)then kk else (all.length:Int):=by rw[ZT5];split<;>omega
  rw[show (((all.take kk.toNat).length:Int) != (if kk < (all.length:Int)then kk else (all.length:Int)))=false by rw[hlen];simp,cond_false,ZoO];refine⟨Zp8 ⟨by omega,by omega,by rw[ZT5];omega⟩, ?_⟩;have htk:all.take (((all.take kk.toNat).length:Int)).toNat=all.take kk.toNat:=by
   rw[ZTV,ZT5]
   by_cases h:kk.toNat≤all.length
   ·rw[Nat.min_eq_left h]
   ·rw[Nat.min_eq_right (by omega),ZUa,ZUb (by omega)]
  have hperm:all.Perm (ZDw q l):=by rw[←hall];exact ZDJ _
  rw[htk,ZIG _ (by rw[ZT5];omega) (fun m hm=>hhg m (hperm.mem_iff.1 (List.mem_of_mem_take hm))) (fun m hm=>by obtain⟨t,ht,rfl⟩:=ZFs (hperm.mem_iff.1 (List.mem_of_mem_take hm));show (ZD0 (ZHz q t) 0).length≤1000;rw[ZFC,ZHz,ZT4];have:=hq.cols;omega),ZUe,ZPK]
  unfold Zpf;rw[cond_false,ZoM];refine ZoT (ZLk (by omega) hv hT.up hq hall.symm) ?_;rintro _ rfl;dsimp only;unfold Zq2;rw[ZKD];exact ZoJ.2 rfl
 ·rw[decide_eq_false hlt,Bool.not_false,cond_true,ZKD];exact ZoJ.2 rfl
end Go.Proofs
namespace Eng
open Go Go.Lib
theorem globOk_one {Pg:Program} {w:World} {n:String} {g:Nat} {t e:TypeId} {k:IntKind} {z:Int} (hn:Pg.globalNamed n=some g) (hty:(Pg.globals[g]?).map (·.type)=some t)
  (ht:Pg.underlying t=some (.slice e)) (he:Pg.underlying e=some (.int k)) (hce:Pg.cellsOf e=1) (hz:k.min≤z∧z≤k.max)
  (h:VarReads Pg w n (.slice [.lit (.int k z)] [])):ZeC w (fun b=>b < w.heap.size) g [P.sl 1 [.int k z]]:=by
 obtain⟨g',t',cs,fuel,p,hg,hty',hvar,hd⟩:=h;obtain rfl:=Option.some.inj (hn.symm.trans hg);obtain rfl:=Option.some.inj (hty.symm.trans hty');rcases DataW.trod_slice ht hd with ⟨_,hx⟩ |⟨a,len,cap,elems,rest,m,_,hcs,hx,_,hl,hcap,hlen,hel,_,_⟩
 ·cases congrArg Prod.fst hx
 ·have e0:=congrArg Prod.fst hx;simp only[DataW.slice.injEq]at e0;obtain⟨e1,_⟩:=e0
  match elems,e1 with
  | [(d,q)],e1=>
   simp only[List.map_cons,List.map_nil,List.cons.injEq,and_true]at e1;subst e1;have hlen1:len=1:=by simpa using hlen.symm
   subst hlen1;obtain⟨ci,hci,htr⟩:=Option.bind_eq_some_iff.1 (hel 0 (by decide));obtain⟨z',hc,hxx,_⟩:=DataW.trod_int he htr;have hzz:z'=z:=by have:=congrArg Prod.fst hxx;simpa using this.symm
   subst hzz;subst hc;rw[hce,Nat.zero_mul]at hci;obtain⟨_,_,hc2⟩:=World.cells?_some hci;have h0:=hc2 0 (by decide);have hb:w.cell? a=some (.int k z'):=by simpa[Addr.add]using h0
   have hspot:a.spot=none:=by
    unfold World.cell? at hb;cases hs:a.spot with
    |none=>rfl
    |some s=>rw[hs]at hb;split at hb<;>simp at hb
   have ha:a=⟨a.block,a.off,none⟩:=by cases a;simp at hspot;subst hspot;rfl
   have hlt:a.block < w.heap.size:=ZhN (by rw[ha]at hb;exact hb);have hcs1:cs.size=1:=by have:=congrArg List.length hcs;simpa using this
   refine ZDx (t:=0) (fr:= #[]) (ZE4 hn hvar) _ (by rw[hcs1];rfl) fun j v p hv hp=> ?_
   have hj:j=0:=by have:=(Array.getElem?_eq_some_iff.1 hv).1;omega
   subst hj;simp only[ZT0,Option.some.injEq]at hp;subst hp;rw[←Array.getElem?_toList,hcs]at hv;simp only[ZT0,Option.some.injEq]at hv;subst hv;refine⟨.sl (some a) 1 cap _ _ (fun _=> .int k z') rfl (by decide) hl (fun i hi=>rfl) (fun i hi=> ?_) (fun i x hx=> ?_),rfl⟩
   ·have hi0:i=0:=by omega
    subst hi0;refine⟨a.block,a.off,by rw[←ha],hlt,fun j v hv=> ?_⟩;have hj:=(Array.getElem?_eq_some_iff.1 hv).1;have hj0:j=0:=by have:(Value.int k z').cells.size=1:=rfl;omega
    subst hj0;have hvv:v= .int k z':=by have:(Value.int k z').cells[0]? =some (.int k z'):=rfl;exact Option.some.inj (hv.symm.trans this)
    subst hvv;rw[ha]at hb;simpa using hb
   ·have hi0:i=0:=by have:=(List.getElem?_eq_some_iff.1 hx).1;simp at this;omega
    subst hi0;simp only[ZT0,Option.some.injEq]at hx;subst hx;exact .int k z' hz.1 hz.2
end Eng
