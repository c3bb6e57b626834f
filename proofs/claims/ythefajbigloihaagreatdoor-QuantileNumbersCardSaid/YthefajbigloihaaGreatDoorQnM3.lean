/- Plain laws over the specs, part 3. -/
import Derived.Test.YthefajbigloihaaGreatDoorQnM2
import Derived.Test.YthefajbigloihaaGreatDoorE4
import Derived.Test.YthefajbigloihaaGreatDoorQnM1
import Derived.Test.YthefajbigloihaaGreatDoorQnM0
import Derived.Test.YthefajbigloihaaGreatDoorQ
import Derived.Test.YthefajbigloihaaGreatDoorQnU
set_option linter.unusedVariables false
set_option linter.unusedSimpArgs false
set_option linter.unusedSectionVars false
open Bool renaming not_true→ZLI, false_eq_true→ZII
open Int renaming natCast_mul→ZLJ, toNat_natCast→ZLK
open List renaming length_map→ZLZ, getElem_mem→ZLV, getElem_map→ZLU, dropWhile_cons→ZLO, length_singleton→ZL0, length_cons→ZLX, length_take→ZL1, all_eq_true→ZLL, mem_cons→ZL2, not_mem_nil→ZL4, length_append→ZLW, getElem?_eq_getElem→ZLT, countP_le_length→ZLN, mem_range→ZL3, dropWhile_sublist→ZLP, eq_nil_or_concat→ZLQ, concat_eq_append→ZLM, length_drop→ZLY, getD_eq_getElem?_getD→ZLR, getElem?_cons_zero→ZLS
open Nat renaming le_refl→ZL5, mul_le_mul→ZL7, zero_le→ZL9, le_trans→ZL6, mul_le_mul_right→ZL8
open Option renaming bind_some→ZMa, some.injEq→ZMc, map_some→ZMb
namespace Go.Proofs
open Go Eng
def is0 (b:UInt8):Bool:=b == 48
def sp (b:UInt8):Bool:=b == 32
def rtr (p:UInt8→Bool) (l:Str):Str:=(l.reverse.dropWhile p).reverse
def lz (D:Str):Str:=bif (D.dropWhile is0).isEmpty then [48]else D.dropWhile is0
def rz (P:Str):Str:=rtr is0 P
def ZEh (D P:Str):Str:=lz D++(bif (rz P).isEmpty then []else 46::rz P)
def ZGb (x:Bool×Str×Str):Str:=bif x.1&& !(ZEh x.2.1 x.2.2 == [48])then 45::ZEh x.2.1 x.2.2 else ZEh x.2.1 x.2.2
theorem ZC0 (p:UInt8→Bool) (P:Str):(rtr p P).length≤P.length:=by unfold rtr;rw[List.length_reverse];exact ZL6 (ZLP _).length_le (by rw[List.length_reverse];exact ZL5 _)
theorem ZE3 {D:Str} (h:1≤D.length):(lz D).length≤D.length:=by
 unfold lz;cases hd:(D.dropWhile is0).isEmpty with
 |true=>rw[cond_true];exact h
 |false=>rw[cond_false];exact(ZLP _).length_le
theorem ZC5 {D P:Str} (h:1≤D.length) (h2:D.length≤15) (h3:P.length≤9):(ZEh D P).length≤25:=by
 have h1:=ZE3 h;have h4:=ZC0 is0 P;unfold ZEh rz;rw[ZLW];cases (rtr is0 P).isEmpty with
 |true=>rw[cond_true];simp only[List.length_nil];omega
 |false=>rw[cond_false];simp only[ZLX];omega
theorem ZEd (p:UInt8→Bool) (l:Str) (b:UInt8):rtr p (l++[b])=bif p b then rtr p l else l++[b]:=by
 unfold rtr;rw[List.reverse_append,List.reverse_singleton,List.singleton_append,ZLO];cases p b with
 |true=>rw[if_pos rfl];rfl
 |false=>rw[if_neg (by simp)];simp
theorem ZEe (p:UInt8→Bool) (b:UInt8) (l:Str):rtr p (b::l)=bif (rtr p l).isEmpty then (bif p b then []else [b])else b::rtr p l:=by
 unfold rtr;rw[List.reverse_cons];rw[List.dropWhile_append];cases h:l.reverse.dropWhile p with
 |nil=>
  simp only[List.isEmpty_nil,if_true,List.reverse_nil,cond_true];rw[ZLO];cases p b<;>simp
 |cons c r=>
  simp only[List.isEmpty_cons,ZII,if_false];have:((c::r).reverse).isEmpty=false:=by simp
  rw[this,cond_false];simp
theorem ZDi (p:UInt8→Bool):∀l:Str,(rtr p l).dropWhile p=rtr p (l.dropWhile p)
 | []=>rfl
 |b::l=>by
  have ih:=ZDi p l;rw[ZEe,ZLO];cases hb:p b with
  |true=>
   rw[if_pos rfl,←ih];cases he:rtr p l with
   |nil=>rfl
   |cons c r=>simp only[List.isEmpty_cons,cond_false];rw[ZLO,hb,if_pos rfl]
  |false=>
   rw[if_neg (by simp),ZEe,hb];cases he:rtr p l with
   |nil=>simp only[List.isEmpty_nil,cond_true,cond_false];rw[ZLO,hb,if_neg (by simp)]
   |cons c r=>simp only[List.isEmpty_cons,cond_false];rw[ZLO,hb,if_neg (by simp)]
theorem ZBa (c:UInt8):(fun b:UInt8=>([c]:Str).contains b)=fun b=>b == c:=by funext b;rw[List.contains_cons];simp
def ZCD (s:Str):Str:=(rtr sp s).dropWhile sp
theorem ZFD (s:Str):Lib.trimS s [32]=ZCD s:=by unfold Lib.trimS Lib.trimLeftS Lib.trimRightS ZCD rtr;rw[ZBa];rfl
theorem ZDJ (s:Str):Zzd s=some (ZCD s):=by unfold Zzd ZyF;rw[show (([32]:Str).all fun b=>decide (b.toNat < 128))=true from by decide,chk_true,show decide (([32]:Str).length < 4294967281)=true from by decide,chk_true,ZMa,ZFD]
theorem ZDj (s:Str):(ZCD s).length≤s.length:=ZL6 (ZLP _).length_le (ZC0 sp s)
theorem ZEs {s:Str} (hl:s.length≤9223372036854775807):ZsD s=some (ZCD s):=by
 refine Zq6 ?_;unfold ZsD;rw[ZnC];refine ZnI (ZCb ZzC (fun(d:Str)=>d) (fun d=>d.dropWhile sp=s.dropWhile sp∧d.length≤s.length) (fun d=>d.length) (Q:=fun x=>x=s.dropWhile sp) s ⟨rfl,ZL5 _⟩ (by omega) ?_) ?_
 ·rintro rec d ⟨hd,hdl⟩ ih;unfold ZxC ZuO Ztr;dsimp only;cases d with
  |nil=>
   rw[show decide ((([]:Str).length:Int) > 0)=false from rfl,cond_false,cond_false,ZnB,←hd];rfl
  |cons b r=>
   simp only[ZLX]at hdl;have e32:(((b.toNat:Nat):Int) == 32)=sp b:=ZB1 b 32;rw[decide_eq_true (show (((b::r).length:Nat):Int) > 0 by simp only[ZLX];omega),cond_true,show idx (b::r) 0=some b from rfl,ZMa,e32];rw[ZLO]at hd;cases hb:sp b with
   |true=>
    rw[hb,if_pos rfl]at hd;rw[cond_true,ZnE];exact⟨Zsz (by simp only[ZLX];omega),ih r ⟨hd,by omega⟩ (by simp)⟩
   |false=>
    rw[hb,if_neg (by simp)]at hd;rw[cond_false,ZnB,hd]
 ·rintro x rfl;unfold Zvx;have hl2:(s.dropWhile sp).length≤s.length:=(ZLP _).length_le;rw[ZnC];refine ZnI (ZCb ZzB (fun(d:Str)=>d) (fun d=>rtr sp d=rtr sp (s.dropWhile sp)∧d.length≤s.length) (fun d=>d.length) (Q:=fun x=>x=rtr sp (s.dropWhile sp)) (s.dropWhile sp) ⟨rfl,hl2⟩ (by omega) ?_) ?_
  ·rintro rec d ⟨hd,hdl⟩ ih;unfold ZxA ZuN Ztq;dsimp only;rcases ZLQ d with rfl |⟨q,b,rfl⟩
   ·rw[show decide ((([]:Str).length:Int) > 0)=false from rfl,cond_false,cond_false,ZnB,←hd];rfl
   ·rw[ZLM]at*
    have hlen:(q++[b]).length=q.length+1:=by simp
    have hi:idx (q++[b]) ((((q++[b]).length:Nat):Int) - 1)=some b:=by rw[hlen,show (((q.length+1:Nat):Int) - 1)=((q.length:Nat):Int) by omega,ZuA (by omega)];simp
    have e32:(((b.toNat:Nat):Int) == 32)=sp b:=ZB1 b 32;rw[ZEd]at hd;rw[decide_eq_true (show (((q++[b]).length:Nat):Int) > 0 by omega),cond_true,ZnE,hi,ZMa,e32];refine⟨ZnH (by omega), ?_⟩;cases hb:sp b with
    |true=>
     rw[hb,cond_true]at hd;rw[cond_true,ZnE,ZnE];refine⟨ZnH (by omega),Zsz (by omega), ?_⟩;rw[show ((((q++[b]).length:Nat):Int) - 1).toNat=q.length by omega,List.take_left' rfl];exact ih q ⟨hd,by omega⟩ (by rw[hlen];omega)
    |false=>
     rw[hb,cond_false]at hd;rw[cond_false,ZnB,hd]
  ·rintro x rfl;unfold Zvw;rw[ZnB];unfold ZCD;rw[ZDi]
theorem lz_0 {r:Str} (hr:r≠[]):lz (48::r)=lz r:=by unfold lz;rw[ZLO,show is0 48=true from rfl,if_pos rfl]
theorem ZEY {neg:Bool} {D P:Str} (h1:1≤D.length) (h2:D.length≤15) (h3:P.length≤9):ZrP neg D P=some (ZGb (neg,D,P)):=by
 have hz:=ZE3 h1;have hr:=ZC0 is0 P;refine Zq6 ?_;unfold ZrP;rw[ZnC];refine ZnI (Zpb Zzg (fun(d:Str)=>(neg,d,P)) (fun d=>lz d=lz D∧1≤d.length∧d.length≤15) (fun d=>d.length) (Q:=fun x=>x=(neg,lz D,P)) D ⟨rfl,h1,h2⟩ (by omega) ?_) ?_
 ·rintro rec d ⟨hd,hd1,hd2⟩ ih;unfold Zw4 Zue Zsv;dsimp only;cases d with
  |nil=>simp at hd1
  |cons b r=>
   have e48:(((b.toNat:Nat):Int) == 48)=is0 b:=ZB1 b 48;simp only[ZLX]at hd1 hd2;cases r with
   |nil=>
    rw[show decide ((([b]:Str).length:Int) > 1)=false from rfl,cond_false,cond_false,ZnB,←hd];unfold lz;rw[ZLO];cases hb:is0 b with
    |true=>
     have:b=48:=eq_of_beq hb;subst this;rfl
    |false=>rfl
   |cons c r=>
    rw[decide_eq_true (show (((b::c::r).length:Nat):Int) > 1 by simp only[ZLX];omega),cond_true,show idx (b::c::r) 0=some b from rfl,ZMa,e48];cases hb:is0 b with
    |true=>
     have:b=48:=eq_of_beq hb;subst this;rw[lz_0 (by simp)]at hd;rw[cond_true,ZnE];exact⟨Zsz (by simp only[ZLX];omega),ih (c::r) ⟨hd,by simp,by simp only[ZLX]at hd2⊢;omega⟩ (by simp)⟩
    |false=>
     rw[cond_false,ZnB,←hd];unfold lz;rw[ZLO,hb,if_neg (by simp)];rfl
 ·rintro x rfl;dsimp only;unfold ZuJ;rw[ZnC];refine ZnI (Zpb Zzf (fun(d:Str)=>(neg,lz D,d)) (fun d=>rz d=rz P∧d.length≤9) (fun d=>d.length) (Q:=fun x=>x=(neg,lz D,rz P)) P ⟨rfl,h3⟩ (by omega) ?_) ?_
  ·rintro rec d ⟨hd,hdl⟩ ih;unfold Zw2 Zud Zsu;dsimp only;rcases ZLQ d with rfl |⟨q,b,rfl⟩
   ·rw[show decide ((([]:Str).length:Int) > 0)=false from rfl,cond_false,cond_false,ZnB,←hd];rfl
   ·rw[ZLM]at*
    have hlen:(q++[b]).length=q.length+1:=by simp
    have hi:idx (q++[b]) ((((q++[b]).length:Nat):Int) - 1)=some b:=by rw[hlen,show (((q.length+1:Nat):Int) - 1)=((q.length:Nat):Int) by omega,ZuA (by omega)];simp
    have e48:(((b.toNat:Nat):Int) == 48)=is0 b:=ZB1 b 48;unfold rz at hd;rw[ZEd]at hd;rw[decide_eq_true (show (((q++[b]).length:Nat):Int) > 0 by omega),cond_true,ZnE,hi,ZMa,e48];refine⟨ZnH (by omega), ?_⟩;cases hb:is0 b with
    |true=>
     rw[hb,cond_true]at hd;rw[cond_true,ZnE,ZnE];refine⟨ZnH (by omega),Zsz (by omega), ?_⟩;rw[show ((((q++[b]).length:Nat):Int) - 1).toNat=q.length by omega,List.take_left' rfl];exact ih q ⟨hd,by omega⟩ (by rw[hlen];omega)
    |false=>
     rw[hb,cond_false]at hd;rw[cond_false,ZnB,hd];rfl
  ·rintro x rfl;dsimp only;unfold ZuI Zst Zss Zsr;have hol:=ZC5 h1 h2 h3;have fin:∀out:Str,out=ZEh D P→wp (bif neg then (bif (!(out == ([48]:Str)))then chk (decide (([45]:Str).length+out.length≤Zq)) <| some (([45]:Str)++out)else some out)else (bif false then chk (decide (([45]:Str).length+out.length≤Zq)) <| some (([45]:Str)++out)else some out)) (fun x=>x=ZGb (neg,D,P)):=by
    rintro out rfl;unfold ZGb;dsimp only;cases neg with
    |false=>rw[cond_false,cond_false,Bool.false_and,cond_false,ZnB]
    |true=>
     rw[cond_true,Bool.true_and];cases (!(ZEh D P == [48]))with
     |false=>rw[cond_false,cond_false,ZnB]
     |true=>
      rw[cond_true,cond_true,ZnE,ZnB];exact⟨decide_eq_true (by simp only[ZL0];unfold Zq;omega),rfl⟩
   cases hP:rz P with
   |nil=>
    rw[show (!(([]:Str) == ([]:Str)))=false from rfl,cond_false];exact fin (lz D) (by unfold ZEh;rw[hP];simp)
   |cons c r=>
    have hrl:(c::r).length≤9:=by rw[←hP];exact ZL6 hr h3
    rw[show (!((c::r) == ([]:Str)))=true by simp,cond_true,ZnE,ZnE];refine⟨decide_eq_true (by simp only[ZL0];unfold Zq;omega),decide_eq_true (by rw[ZLW];simp only[ZL0];unfold Zq;omega), ?_⟩;exact fin _ (by unfold ZEh;rw[hP];rfl)
end Go.Proofs
namespace Go.Proofs
open Go Eng
theorem ZF9 (a:Str):Zyb [a,[48]]=some (bif a.isEmpty then [48]else a):=by
 have key:wp (ZvX big ([]:Str) [a,[48]] ((([a,[48]]:List Str).length:Nat):Int) 0) (fun x=>x= .ret (bif a.isEmpty then [48]else a)):=by
  refine ZAV ZA8 ([a,[48]]:List Str) (by simp) (fun i (_:Unit)=>(([]:Str),([a,[48]]:List Str),((([a,[48]]:List Str).length:Nat):Int),i)) (fun k _=>k≤1∧(k=1→a=[])) () ⟨by omega,fun h=>by omega⟩ ?_ ?_
  ·rintro rec k _ hk ⟨h1,h2⟩ ih;unfold ZzO ZyA;dsimp only;rw[decide_eq_true (show (k:Int) < ((([a,[48]]:List Str).length:Nat):Int) by omega),cond_true,ZuA hk,ZMa];rcases Nat.eq_zero_or_pos k with rfl |hk0
   ·show wp (bif (!(a == []))then some (Out.ret a)else chk (inK .i64 (((0:Nat):Int)+1)) (rec ([],[a,[48]],((([a,[48]]:List Str).length:Nat):Int),((0:Nat):Int)+1))) _;cases a with
    |nil=>
     rw[show (!(([]:Str) == ([]:Str)))=false from rfl,cond_false,ZnE];exact⟨by decide,ih () ⟨by omega,fun _=>rfl⟩⟩
    |cons b r=>
     rw[show (!((b::r) == ([]:Str)))=true by simp,cond_true,ZnB];rfl
   ·obtain rfl:k=1:=by omega
    have ha:=h2 rfl;subst ha;show wp (bif (!(([48]:Str) == []))then some (Out.ret ([48]:Str))else chk (inK .i64 (((1:Nat):Int)+1)) (rec ([],[[],[48]],((([([]:Str),[48]]:List Str).length:Nat):Int),((1:Nat):Int)+1))) _;rw[show (!(([48]:Str) == ([]:Str)))=true from rfl,cond_true,ZnB];rfl
  ·rintro rec _ ⟨h1,_⟩;simp only[ZLX,List.length_nil]at h1;omega
 unfold Zyb;obtain⟨x,hx,rfl⟩:=key;rw[hx,ZMa]
theorem ZFJ (t:Str):(ZCZ t).2.length≤t.length:=by
 unfold ZCZ;cases t with
 |nil=>exact ZL5 _
 |cons b r=>
  dsimp only;cases b == 45 with
  |true=>rw[cond_true];simp
  |false=>
   rw[cond_false];cases b == 43 with
   |true=>rw[cond_true];simp
   |false=>rw[cond_false];exact ZL5 _
theorem ZAf {t:Str} {x:Bool×Str×Str} (h:ZAI t=some x):x.1=(ZCZ t).1∧ZAs (ZCZ t).2=some x.2:=by
 unfold ZAI at h;cases hb:ZAs (ZCZ t).2 with
 |none=>rw[hb]at h;cases h
 |some y=>
  rw[hb]at h;simp only[ZMb,ZMc]at h;subst h;exact⟨rfl,rfl⟩
theorem ZEE {b:Str} {x:Str×Str} (h:ZAs b=some x):∃c r,b=c::r∧isD c=true:=by
 have hok:=Zzx h;rw[ZBH]at h;cases b with
 |nil=>simp[okD]at h
 |cons c r=>
  refine⟨c,r,rfl, ?_⟩;cases hc:n46 c with
  |false=>
   rw[List.takeWhile_cons,hc]at h;simp[okD]at h
  |true=>
   cases hcc:(okD ((c::r).takeWhile n46) 15&&(((c::r).dropWhile n46).isEmpty||okD ((c::r).dropWhile n46).tail 9))with
   |false=>rw[hcc,cond_false]at h;cases h
   |true=>
    rw[Bool.and_eq_true]at hcc;have h1:=hcc.1;unfold okD at h1;rw[List.takeWhile_cons,hc,if_pos rfl,List.all_cons]at h1;simp only[Bool.and_eq_true]at h1;exact h1.2.1
theorem ZIJ (b:UInt8):([43,45]:Str).contains b=((b == 45)||(b == 43)):=by rw[List.contains_cons,List.contains_cons];simp only[List.contains_nil,Bool.or_false];exact Bool.or_comm _ _
theorem ZI1 {b:UInt8} (h:isD b=true):((b == 45)||(b == 43))=false:=by
 cases h1:b == 45 with
 |true=>rw[eq_of_beq h1]at h;exact absurd h (by decide)
 |false=>
  cases h2:b == 43 with
  |true=>rw[eq_of_beq h2]at h;exact absurd h (by decide)
  |false=>rfl
theorem ZFC {t:Str} {x:Bool×Str×Str} (h:ZAI t=some x):Lib.trimLeftS t [43,45]=(ZCZ t).2∧∃b r,t=b::r∧(b == 45)=x.1:=by
 obtain⟨h1,h2⟩:=ZAf h;obtain⟨c,r,hc,hd⟩:=ZEE h2;have hpm:=ZI1 hd;unfold Lib.trimLeftS;rw[show (fun b:UInt8=>([43,45]:Str).contains b)=fun b=>(b == 45)||(b == 43)from funext ZIJ];have stop:(c::r).dropWhile (fun b=>(b == 45)||(b == 43))=c::r:=by rw[ZLO,hpm,if_neg (by simp)]
 rw[h1];cases t with
 |nil=>unfold ZCZ at hc;cases hc
 |cons b s=>
  unfold ZCZ at hc⊢
  dsimp only at hc⊢
  rw[ZLO];cases h45:b == 45 with
  |true=>
   rw[h45,cond_true]at hc;dsimp only at hc;rw[cond_true,Bool.true_or,if_pos rfl,hc];exact⟨stop,b,_,rfl,h45⟩
  |false=>
   rw[h45,cond_false]at hc;rw[cond_false,Bool.false_or];cases h43:b == 43 with
   |true=>
    rw[h43,cond_true]at hc;dsimp only at hc;rw[cond_true,if_pos rfl,hc];exact⟨stop,b,_,rfl,h45⟩
   |false=>
    rw[cond_false,if_neg (by simp)];exact⟨rfl,b,_,rfl,h45⟩
theorem ZDX {t:Str} (hl:t.length≤9223372036854775807):ZwB t=some (match ZAI t with |some x=>(ZGb x,true) |none=>([],false)):=by
 unfold ZwB;rw[ZCQ hl,ZMa];cases hp:ZAI t with
 |none=>rfl
 |some x=>
  obtain⟨neg,D,P⟩:=x;obtain⟨h1,h2⟩:=ZAf hp;obtain⟨ht,b,r,hbr,hb45⟩:=ZFC hp;have hok:=Zzx h2;have hsl:=ZFJ t;dsimp only at h1 hb45⊢
  have hpc:=ZBH (ZCZ t).2;rw[h2]at hpc;have hDP:D=(ZCZ t).2.takeWhile n46∧P=((ZCZ t).2.dropWhile n46).tail:=by
   cases hcc:(okD ((ZCZ t).2.takeWhile n46) 15&&(((ZCZ t).2.dropWhile n46).isEmpty||okD ((ZCZ t).2.dropWhile n46).tail 9))with
   |false=>rw[hcc,cond_false]at hpc;cases hpc
   |true=>
    rw[hcc,cond_true]at hpc;simp only[ZMc,Prod.mk.injEq]at hpc;exact hpc
  unfold ZxG ZyM;rw[ZLI,cond_false,show (([43,45]:Str).all fun b=>decide (b.toNat < 128))=true from by decide,chk_true,show decide (([43,45]:Str).length < 4294967281)=true from by decide,chk_true,ZMa,ht,ZjU (by omega),ZMa];dsimp only;rw[←hDP.1,←hDP.2,show (([48]:Str).all fun b=>decide (b.toNat < 128))=true from by decide,chk_true,show decide (([48]:Str).length < 4294967281)=true from by decide,chk_true,ZMa,chk_true,chk_true,ZMa];have e1:Lib.trimLeftS D [48]=D.dropWhile is0:=by unfold Lib.trimLeftS;rw[ZBa];rfl
  have e2:Lib.trimRightS P [48]=rz P:=by unfold Lib.trimRightS rz rtr;rw[ZBa];rfl
  rw[e1,e2,ZF9,ZMa];show (bif (!(rz P == ([]:Str)))then _ else ZsA t (lz D))=_;have hd1:=hok.d1;have hd2:=hok.d2;have hp9:=hok.p;have hol:=ZC5 hd1 hd2 hp9;have hzl:=ZE3 hd1;have hrl:=ZC0 is0 P;have fin:∀out:Str,out=ZEh D P→ZsA t out=some (ZGb (neg,D,P),true):=by
   rintro out rfl;unfold ZsA Zxx Zxw ZGb;have e45:(((b.toNat:Nat):Int) == 45)=neg:=(ZB1 b 45).trans hb45;rw[hbr,show idx (b::r) 0=some b from rfl,ZMa,e45];dsimp only;cases neg with
   |false=>rw[cond_false,cond_false,Bool.false_and,cond_false]
   |true=>
    rw[cond_true,Bool.true_and];cases (!(ZEh D P == [48]))with
    |false=>rw[cond_false,cond_false]
    |true=>
     rw[cond_true,cond_true,decide_eq_true (by simp only[ZL0];unfold Zq;omega),chk_true];rfl
  cases hP:rz P with
  |nil=>
   rw[show (!(([]:Str) == ([]:Str)))=false from rfl,cond_false];exact fin (lz D) (by unfold ZEh;rw[hP];simp)
  |cons c s=>
   have hrl':(c::s).length≤9:=by rw[←hP];exact ZL6 hrl hp9
   rw[show (!((c::s) == ([]:Str)))=true by simp,cond_true,decide_eq_true (show ([46]:Str).length+(c::s).length≤Zq by simp only[ZL0];unfold Zq;omega),chk_true];show chk (decide ((lz D).length+(([46]:Str)++(c::s)).length≤Zq)) (ZsA t (lz D++(([46]:Str)++(c::s))))=_;rw[decide_eq_true (by rw[ZLW];simp only[ZL0];unfold Zq;omega),chk_true];exact fin _ (by unfold ZEh;rw[hP];rfl)
theorem ZGa {x:Bool×Str×Str} (h:ZCB x.2.1 x.2.2):(ZGb x).length≤26:=by
 have:=ZC5 h.d1 h.d2 h.p;unfold ZGb;cases (x.1&& !(ZEh x.2.1 x.2.2 == [48]))with
 |true=>rw[cond_true];simp only[ZLX];omega
 |false=>rw[cond_false];omega
def ZBr (s:Str):Option Str:=(ZAI (ZCD s)).map ZGb
def ZGk (s:Str):Option Rat:=match ZBr s with
 |some t=>(ZAI t).map ZHE
 |none=>none
theorem ZCR {s t:Str} (h:ZBr s=some t):t.length≤26:=by
 unfold ZBr at h;cases hp:ZAI (ZCD s)with
 |none=>rw[hp]at h;cases h
 |some x=>
  rw[hp]at h;simp only[ZMb,ZMc]at h;subst h;obtain⟨_,h2⟩:=ZAf hp;exact ZGa (Zzx (D:=x.2.1) (P:=x.2.2) h2)
theorem ZFh {s:Str} (hl:s.length≤9223372036854775807):ZuX 4 s=some (match ZBr s with |some t=>(t,true) |none=>([],false)):=by
 have h:ZuX 4 s=(Zzd s).bind fun q=>(ZwB q).bind fun(a,b)=>some (a,b):=by kernel_rfl
 have hl2:=ZDj s;rw[h,ZDJ,ZMa,ZDX (by omega),ZMa];unfold ZBr;cases ZAI (ZCD s)<;>rfl
theorem ZEJ {s:Str} (hl:s.length≤9223372036854775807):ZyT 4 s=some (match ZGk s with |some q=>(fOf q,true) |none=>(zf,false)):=by
 have h:ZyT 4 s=(ZuX 4 s).bind fun(t,ok)=>bif (!ok)then some (zf,false)else (Zs9 t).bind fun(a,b)=>some (a,b):=by kernel_rfl
 rw[h,ZFh hl,ZMa];unfold ZGk;cases hc:ZBr s with
 |none=>rfl
 |some t=>
  have:=ZCR hc;dsimp only;rw[ZLI,cond_false,ZCQ (by omega),ZMa];cases ZAI t<;>rfl
theorem ZDN {s:Str} (hl:s.length≤9223372036854775807):Zsj 4 s=some (match ZGk s with |some q=>(fOf q,true) |none=>(zf,false)):=by
 have hcan:ZqT 4 s=some (match ZBr s with |some t=>(t,true) |none=>([],false)):=by
  have hl2:=ZDj s;unfold ZqT Zrh;rw[ZEs hl,ZMa,show ((4:Int) == 1)=false from rfl,show ((4:Int) == 2)=false from rfl,show ((4:Int) == 3)=false from rfl,show ((4:Int) == 4)=true from rfl];simp only[cond_false,cond_true];rw[ZEg (by omega),ZMa];unfold ZBr;cases hp:ZAI (ZCD s)with
  |none=>rfl
  |some x=>
   obtain⟨_,h2⟩:=ZAf hp;have hok:=Zzx (D:=x.2.1) (P:=x.2.2) h2;dsimp only;unfold Zp4;rw[cond_true,cond_true,ZEY hok.d1 hok.d2 hok.p,ZMa];rfl
 unfold Zsj ZsC;rw[hcan,ZMa];unfold ZGk;cases hc:ZBr s with
 |none=>rfl
 |some t=>
  have:=ZCR hc;dsimp only;rw[ZLI,cond_false,show ((4:Int) == 1)=false from rfl,show ((4:Int) == 2)=false from rfl,show ((4:Int) == 5)=false from rfl];simp only[cond_false];rw[ZC1 (by omega),ZMa];cases ZAI t<;>rfl
def ZBZ (c:G_api_Cell):Option Rat:=bif c.Null then none else ZGk c.Text
theorem ZDR {c:G_api_Cell} (hl:c.Text.length≤9223372036854775807):ZAb c=some (match ZBZ c with |some q=>(fOf q,true) |none=>(bif c.Null then fOf 0 else zf,false)):=by
 unfold ZAb ZBZ;cases c.Null with
 |true=>rw[cond_true,ZDF,ZMa];rfl
 |false=>
  rw[cond_false,ZEJ hl,ZMa];cases ZGk c.Text<;>rfl
theorem ZDn {c:G_api_Cell} (hl:c.Text.length≤9223372036854775807):ZrN c=some (match ZBZ c with |some q=>(fOf q,true) |none=>(zf,false)):=by
 unfold ZrN ZBZ;cases c.Null with
 |true=>rfl
 |false=>
  rw[cond_false,ZDN hl,ZMa];cases ZGk c.Text<;>rfl
theorem ZHD {x:Bool×Str×Str} (h:ZCB x.2.1 x.2.2):Sz 80 (ZHE x):=by have hd:=h.d2;have hp:=h.p;have hnum:ZA5 (x.2.1++x.2.2) < 2 ^ 80:=ZBc (by rw[List.all_append,h.dd,h.pp];rfl) (by rw[ZLW];omega);have hpw:=ZBn (show x.2.2.length≤24 by omega);have h0:=Nat.pow_pos (n:=x.2.2.length) (show 0 < 10 by decide);unfold ZHE;refine Zz7 (by omega) ?_ (by omega);split<;>omega
theorem ZEm {c:G_api_Cell} {q:Rat} (h:ZBZ c=some q):Sz 80 q:=by
 unfold ZBZ at h;cases hn:c.Null with
 |true=>rw[hn]at h;cases h
 |false=>
  rw[hn,cond_false]at h;unfold ZGk at h;cases hc:ZBr c.Text with
  |none=>rw[hc]at h;cases h
  |some t=>
   rw[hc]at h;dsimp only at h;cases hp:ZAI t with
   |none=>rw[hp]at h;cases h
   |some x=>
    rw[hp]at h;simp only[ZMb,ZMc]at h;subst h;obtain⟨_,h2⟩:=ZAf hp;exact ZHD (Zzx (D:=x.2.1) (P:=x.2.2) h2)
end Go.Proofs
namespace Go.Proofs
open Go Eng
def gR (l:List Rat) (i:Nat):Rat:=l.getD i 0
def xOf (u v:Rat):Rat:=if v < u then v else u
theorem ZGZ (u v c:Rat):xOf (u+c) (v+c)=xOf u v+c:=by unfold xOf;split<;>split<;>grind
theorem ZIr (u v:Rat):xOf u v=u∨xOf u v=v:=by
 unfold xOf;split
 ·exact .inr rfl
 ·exact .inl rfl
def Zmn (l:List Rat) (i:Nat) (x:Rat) (r:Nat):Prop:=
 i≤r∧r≤l.length∧(∀j,i≤j→j < r→gR l j≤x)∧(r < l.length→x < gR l r)
theorem Zmn.det {l:List Rat} {i:Nat} {x:Rat} {r s:Nat} (h:Zmn l i x r) (k:Zmn l i x s):r=s:=by
 obtain⟨h1,h2,h3,h4⟩:=h;obtain⟨k1,k2,k3,k4⟩:=k;rcases Nat.lt_trichotomy r s with c |c |c
 ·have a:=k3 r h1 c;have b:=h4 (by omega);grind
 ·exact c
 ·have a:=h3 s k1 c;have b:=k4 (by omega);grind
def stp (la lb i k:Nat) (m:Int):Int:=max (max m ((i:Int)*lb - (k:Int)*la)) ((k:Int)*la - (i:Int)*lb)
inductive DistR (a b:List Rat):Nat→Nat→Int→Int→Prop
 |done {i k m}:¬(i < a.length∧k < b.length)→DistR a b i k m m
 |go {i k m r i' k'}:i < a.length→k < b.length→Zmn a i (xOf (gR a i) (gR b k)) i'→Zmn b k (xOf (gR a i) (gR b k)) k'→
   DistR a b i' k' (stp a.length b.length i' k' m) r→DistR a b i k m r
theorem DistR.det {a b:List Rat} {i k:Nat} {m r s:Int} (h:DistR a b i k m r) (g:DistR a b i k m s):r=s:=by
 induction h with
 |done c=>
  cases g with
  |done _=>rfl
  |go h1 h2 _ _ _=>exact absurd ⟨h1,h2⟩ c
 |go h1 h2 u1 u2 _ ih=>
  cases g with
  |done c=>exact absurd ⟨h1,h2⟩ c
  |go _ _ v1 v2 g=>
   have e1:=u1.det v1;have e2:=u2.det v2;subst e1 e2;exact ih g
theorem ZID {la lb i k:Nat} {m:Int} (hi:i≤la) (hk:k≤lb) (hm:m≤(la*lb:Nat)):stp la lb i k m≤(la*lb:Nat):=by
 have e1:(i:Int)*lb=((i*lb:Nat):Int):=by rw[ZLJ]
 have e2:(k:Int)*la=((k*la:Nat):Int):=by rw[ZLJ]
 have h1:i*lb≤la*lb:=ZL8 _ hi;have h2:k*la≤la*lb:=by rw[Nat.mul_comm la lb];exact ZL8 _ hk
 unfold stp;rw[e1,e2];omega
theorem ZIT {la lb i k:Nat} {m:Int}:m≤stp la lb i k m:=by unfold stp;omega
theorem DistR.bound {a b:List Rat} {i k:Nat} {m r:Int} (h:DistR a b i k m r) (hm0:0≤m) (hm:m≤(a.length*b.length:Nat)):0≤r∧r≤(a.length*b.length:Nat):=by
 induction h with
 |done _=>exact⟨hm0,hm⟩
 |go h1 h2 u1 u2 _ ih=>exact ih (Int.le_trans hm0 ZIT) (ZID u1.2.1 u2.2.1 hm)
theorem ZCO {l:List Rat} {c:Rat} {i:Nat} (h:i < l.length):gR (l.map (· +c)) i=gR l i+c:=by unfold gR;rw[ZLR,ZLR,List.getElem?_map,ZLT h];rfl
theorem Zmn.add {l:List Rat} {i:Nat} {x c:Rat} {r:Nat} (h:Zmn l i x r):Zmn (l.map (· +c)) i (x+c) r:=by
 obtain⟨h1,h2,h3,h4⟩:=h;refine⟨h1,by rw[ZLZ];exact h2,fun j hj1 hj2=> ?_,fun hr=> ?_⟩
 ·rw[ZCO (by omega)];have:=h3 j hj1 hj2;grind
 ·rw[ZLZ]at hr;rw[ZCO hr];have:=h4 hr;grind
theorem DistR.add {a b:List Rat} {i k:Nat} {m r:Int} (c:Rat) (h:DistR a b i k m r):DistR (a.map (· +c)) (b.map (· +c)) i k m r:=by
 induction h with
 |done g=>exact .done (by rw[ZLZ,ZLZ];exact g)
 |go h1 h2 u1 u2 _ ih=>
  have u1:=u1.add (c:=c);have u2:=u2.add (c:=c);rw[←ZGZ,←ZCO h1,←ZCO h2]at u1 u2;refine .go (by rw[ZLZ];exact h1) (by rw[ZLZ];exact h2) u1 u2 ?_;rw[ZLZ,ZLZ];exact ih
def rk (n p q:Nat):Nat:=max ((n*p+(q - 1)) / q) 1 - 1
theorem ZKN {n p q:Nat} (hq:0 < q) (hn:0 < n) (h:p≤q):rk n p q < n:=by
 have h1:n*p≤n*q:=Nat.mul_le_mul_left _ h;have h2:(n*p+(q - 1)) / q≤n:=by apply Nat.le_of_lt_succ;rw[Nat.div_lt_iff_lt_mul hq,Nat.succ_mul];omega
 unfold rk;omega
def Asc (l:List Rat):Prop:=∀i j,i≤j→j < l.length→gR l i≤gR l j
theorem ZxM {l:List Rat} {i:Nat} (h:i < l.length):gR l i=l[i]:=by unfold gR;rw[ZLR,ZLT h];rfl
theorem Asc.add {l:List Rat} (c:Rat) (h:Asc l):Asc (l.map (· +c)):=fun i j hij hj=>by rw[ZLZ]at hj;rw[ZCO hj,ZCO (by omega)];have:=h i j hij hj;grind
theorem ZJq {l:List Rat} (h:Asc l) {r:Nat} (hr:r < l.length):r+1≤l.countP (fun y=> !decide (gR l r < y)):=by
 have e:l=l.take (r+1)++l.drop (r+1):=(List.take_append_drop _ _).symm;have h1:(l.take (r+1)).countP (fun y=> !decide (gR l r < y))=(l.take (r+1)).length:=by rw[List.countP_eq_length];intro y hy;obtain⟨i,hi,rfl⟩:=List.getElem_of_mem hy;rw[ZL1]at hi;have:=h i r (by omega) hr;rw[ZxM (i:=i) (by omega)]at this;rw[List.getElem_take];simp only[Bool.not_eq_true',decide_eq_false_iff_not];grind
 rw[ZL1]at h1;have h2:l.countP (fun y=> !decide (gR l r < y))=(l.take (r+1)).countP (fun y=> !decide (gR l r < y))+(l.drop (r+1)).countP (fun y=> !decide (gR l r < y)):=by rw[←List.countP_append,←e]
 omega
end Go.Proofs
namespace Go.Proofs
open Go Eng
def ltQ (x p:Rat):Bool:=decide (x < p)
theorem ZC8 (l:List Rat):(ZAj ltQ l).Pairwise (· ≤ ·):=
 ZB3 (fun _=>True) (· ≤ ·) (fun x p _ _ h=>by unfold ltQ at h;have:=of_decide_eq_true h;grind) (fun x p _ _ h=>by unfold ltQ at h;have:=of_decide_eq_false h;grind) (fun a b c _ _ _ h1 h2=>by grind) l (fun _ _=>trivial)
theorem ZFR (p q:Rat):ZyS (fOf p) (fOf q)=ZB5 p q:=by unfold ZyS;rw[ZBQ,ZBQ]
theorem ZIU {p q:Rat}:Le (fOf p) (fOf q)↔p≤q:=by
 unfold Le;rw[ZFR];unfold ZB5;split
 ·rename_i h;exact⟨fun _=>by grind,fun _=>by decide⟩
 ·split
  ·rename_i h1 h2;exact⟨fun h=>by omega,fun h=>by grind⟩
  ·rename_i h1 h2;exact⟨fun _=>by grind,fun _=>by decide⟩
theorem ZHA {L:List Rat} (hL:∀q∈L,Sz 400 q):Gds (L.map fOf):=⟨fun e he=>by obtain⟨q,hq,rfl⟩:=List.mem_map.1 he;exact⟨q,rfl,hL q hq⟩⟩
theorem ZFG {L:List Rat} (hL:∀q∈L,Sz 400 q) (hl:L.length≤200):Zol (L.map fOf)=some ((ZAj ltQ L).map fOf):=by
 haveI:=ZHA hL;obtain⟨r,hr,hp,hs⟩:=ZFH (D:=L.map fOf) (by rw[ZLZ];exact hl);rw[hr];congr 1;refine ZDm (fun e=>Gdm e) Le (fun a b ha hb h1 h2=> ?_) (fun y hy=>(Gds.perm hp).all y hy) (hp.trans ((ZAJ L).map fOf).symm) hs ?_
 ·have h3:=ZAQ a b;unfold Le at h1 h2;exact ZHd (by omega)
 ·rw[List.pairwise_map];exact(ZC8 L).imp fun h=>ZIU.2 h
theorem ZHt (x:Rat) (A1:List Rat) (h1:∀B p,A1=B++[p]→ltQ x p=false):∀(n:Nat) (A2:List Rat),A2.length=n→(∀y∈A2,ltQ x y=true)→ZDf ltQ x (A1++A2)=A1++x::A2:=by
 intro n
 induction n with
 |zero=>
  intro A2 h0 _;obtain rfl:=List.eq_nil_of_length_eq_zero h0;rw[List.append_nil];rcases ZLQ A1 with rfl |⟨B,p,rfl⟩
  ·rfl
  ·rw[ZLM]at*
   rw[ZCo,if_neg (by rw[h1 B p rfl];decide)];simp
 |succ n ih=>
  intro A2 h0 h2;rcases ZLQ A2 with rfl |⟨C,y,rfl⟩
  ·cases h0
  ·rw[ZLM]at*
   rw[←List.append_assoc,ZCo,if_pos (h2 y (by simp)),ih C (by simp at h0;exact h0) (fun z hz=>h2 z (by simp[hz]))];simp
def ZBq (l:List G_api_Cell):List Rat:=l.filterMap ZBZ
def ZAA (l:List G_api_Cell):List Rat:=ZAj ltQ (ZBq l)
theorem ZBx (l:List G_api_Cell) (c:G_api_Cell):ZBq (l++[c])=ZBq l++(ZBZ c).toList:=by unfold ZBq;rw[List.filterMap_append];cases h:ZBZ c<;>simp[h]
theorem ZDA {l:List G_api_Cell}:∀q∈ZBq l,Sz 80 q:=by intro q hq;obtain⟨c,_,h⟩:=List.mem_filterMap.1 hq;exact ZEm h
theorem ZBY (l:List G_api_Cell):(ZBq l).length≤l.length:=List.length_filterMap_le _ _
theorem ZAS {l:List G_api_Cell}:∀q∈ZAA l,Sz 400 q:=fun q hq=>(ZDA q ((ZAJ _).mem_iff.1 hq)).mono (by omega)
theorem ZCj (l:List G_api_Cell):(ZAA l).length≤l.length:=by unfold ZAA;rw[ZBL];exact ZBY l
def ZCA (l:List G_api_Cell):Prop:=∀x∈l,x.Text.length≤9223372036854775807
theorem ZBv {c:G_api_Column} (hc:ZCA c.Cells) (hl:c.Cells.length≤200):ZrF c=some ((ZAA c.Cells).map fOf):=by
 refine Zq6 ?_;unfold ZrF;rw[ZnC];refine ZnI (ZAV ZAD c.Cells (by omega) (fun i (out:List ZnA)=>(c.Cells,(c.Cells.length:Int),i,out)) (fun k out=>out=(ZBq (c.Cells.take k)).map fOf) (Q:=fun x=>x=(ZBq c.Cells).map fOf) [] (by simp[ZBq]) ?_ ?_) ?_
 ·rintro rec k out hk rfl ih;unfold Zw9 ZuR ZvR;dsimp only;have hs:c.Cells.take (k+1)=c.Cells.take k++[c.Cells[k]]:=List.take_succ_eq_append_getElem hk;have hlen:=ZBY (c.Cells.take k);rw[ZL1]at hlen;rw[decide_eq_true (show (k:Int) < (c.Cells.length:Int) by omega),cond_true,ZuA hk,ZMa,ZDR (hc _ (ZLV hk)),ZMa];rw[hs,ZBx]at ih;cases hv:ZBZ c.Cells[k]with
  |some q=>
   rw[hv]at ih;dsimp only;rw[cond_true,ZnE,ZnE];exact⟨Zyc (by rw[ZLZ,ZL0];omega),ZnH (by omega),ih _ (by simp)⟩
  |none=>
   rw[hv]at ih;dsimp only;rw[cond_false,ZnE];exact⟨ZnH (by omega),ih _ (by simp)⟩
 ·rintro rec out rfl;unfold Zw9 ZuR;dsimp only;rw[decide_eq_false (show ¬(c.Cells.length:Int) < (c.Cells.length:Int) by omega),cond_false,ZnB,List.take_length]
 ·rintro _ rfl;have:=ZBY c.Cells;unfold ZxW;rw[ZFG (fun q hq=>(ZDA q hq).mono (by omega)) (by omega),ZMa,ZnB];rfl
theorem ZBG {c:G_api_Column} (hc:ZCA c.Cells) (hl:c.Cells.length≤200):Zqh c=some ((ZAA c.Cells).map fOf):=by
 refine Zq6 ?_;unfold Zqh;rw[ZnC];refine ZnI (ZAV Zy8 c.Cells (by omega) (fun i (out:List ZnA)=>(c.Cells,(c.Cells.length:Int),i,out)) (fun k out=>out=(ZAA (c.Cells.take k)).map fOf) (Q:=fun x=>x=(ZAA c.Cells).map fOf) [] (by simp[ZBq,ZAA,ZAj]) ?_ ?_) ?_
 ·rintro rec k out hk rfl ih;unfold ZtL Zrg Zqs;dsimp only;have hs:c.Cells.take (k+1)=c.Cells.take k++[c.Cells[k]]:=List.take_succ_eq_append_getElem hk;have hlen:=ZCj (c.Cells.take k);rw[ZL1]at hlen;rw[decide_eq_true (show (k:Int) < (c.Cells.length:Int) by omega),cond_true,ZuA hk,ZMa,ZDn (hc _ (ZLV hk)),ZMa];have hn:∀q,ZBZ c.Cells[k]=some q→ZAA (c.Cells.take (k+1))=ZDf ltQ q (ZAA (c.Cells.take k)):=fun q hq=>by unfold ZAA;rw[hs,ZBx,hq];exact ZCN _ _
  have hn0:ZBZ c.Cells[k]=none→ZAA (c.Cells.take (k+1))=ZAA (c.Cells.take k):=fun hq=>by unfold ZAA;rw[hs,ZBx,hq];simp
  cases hv:ZBZ c.Cells[k]with
  |none=>
   rw[hn0 hv]at ih;dsimp only;rw[Bool.not_false,cond_true,ZnE];exact⟨ZnH (by omega),ih _ rfl⟩
  |some q=>
   rw[hn q hv]at ih;have hq:Sz 400 q:=(ZEm hv).mono (by omega);have hz:∀y∈ZAA (c.Cells.take k),Sz 400 y:=ZAS;dsimp only;rw[ZLI,cond_false,ZnC];generalize ZAA (c.Cells.take k)=A at hlen ih hz;refine ZnI (Zpb Zy7 (fun i:Nat=>((i:Int),c.Cells,(c.Cells.length:Int),(k:Int),A.map fOf,fOf q)) (fun i=>i≤A.length∧∀j (h:j < A.length),i≤j→q < A[j]) (fun i=>i)
    (Q:=fun x=>∃i:Nat,x=((i:Int),c.Cells,(c.Cells.length:Int),(k:Int),A.map fOf,fOf q)∧i≤A.length∧(∀j (h:j < A.length),i≤j→q < A[j])∧∀h:i - 1 < A.length,0 < i→¬q < A[i - 1]) A.length ⟨ZL5 _,fun j h h'=>by omega⟩ (by omega) ?_ |> fun h=>by rw[ZLZ];exact h) ?_
   ·rintro rec2 i ⟨hi,hlo⟩ ih2;unfold ZwE ZtK Zr5;dsimp only
    by_cases h0:0 < i
    ·have hi1:i - 1 < A.length:=by omega
     rw[decide_eq_true (show (i:Int) > 0 by omega),cond_true,show (i:Int) - 1=((i - 1:Nat):Int) by omega,ZnE,ZnE,ZLK,List.getElem?_map,ZLT hi1,ZMb,ZMa,Zzz (hq.wq (by omega)) ((hz _ (ZLV hi1)).wq (by omega)),ZMa];refine⟨ZnH (by omega),Zpg ⟨by omega,by rw[ZLZ];omega⟩, ?_⟩
     by_cases hc:q < A[i - 1]
     ·rw[decide_eq_true hc,cond_true,ZnE];refine⟨ZnH (by omega),ih2 (i - 1) ⟨by omega,fun j hj hij=> ?_⟩ (by omega)⟩
      by_cases e:j=i - 1
      ·subst e;exact hc
      ·exact hlo j hj (by omega)
     ·rw[decide_eq_false hc,cond_false,ZnB];exact⟨i,rfl,hi,hlo,fun _ _=>hc⟩
    ·rw[decide_eq_false (show ¬(i:Int) > 0 by omega),cond_false,cond_false,ZnB];exact⟨i,rfl,hi,hlo,fun _ h=>absurd h h0⟩
   ·rintro _ ⟨i,rfl,hi,hlo,hhi⟩;dsimp only;unfold Zuo Zqs;rw[ZLK,ZLK,Nat.sub_zero,List.drop_zero,List.take_of_length_le (l:=(A.map fOf).drop i) (by rw[ZLY];omega),ZnE,ZnE,ZnE,ZnE,ZnE,ZnE];have hml:(A.map fOf).length=A.length:=ZLZ ..;refine⟨Zsz (by omega),Zyc (by rw[ZL1];omega),Zyc (by rw[ZL1,ZL0];omega),Zsz (by omega),Zyc (by rw[ZLW,ZL1,ZLY,ZL0];omega),ZnH (by omega),ih _ ?_⟩;have e:=ZHt q (A.take i) (fun B p hB=> ?_) _ (A.drop i) rfl (fun y hy=> ?_)
    ·rw[List.take_append_drop]at e;rw[e];simp[List.map_take,List.map_drop]
    ·have hl:(A.take i).length=B.length+1:=by rw[hB];simp
     rw[ZL1]at hl;have hp:(A.take i)[i - 1]'(by rw[ZL1];omega)=p:=by simp only[hB];rw[List.getElem_append_right (by omega)];simp[show i - 1 - B.length=0 by omega]
     rw[List.getElem_take]at hp;rw[←hp];exact decide_eq_false (hhi (by omega) (by omega))
    ·obtain⟨j,hj,rfl⟩:=List.getElem_of_mem hy;rw[ZLY]at hj;rw[List.getElem_drop];exact decide_eq_true (hlo (i+j) (by omega) (by omega))
 ·rintro rec out rfl;unfold ZtL Zrg;dsimp only;rw[decide_eq_false (show ¬(c.Cells.length:Int) < (c.Cells.length:Int) by omega),cond_false,ZnB,List.take_length]
 ·rintro _ rfl;unfold Zun;rw[ZnB]
end Go.Proofs
namespace Go.Proofs
open Go Eng
theorem ZC3 (a b:Rat):ZB5 a b≤0↔a≤b:=by
 unfold ZB5;split
 ·grind
 ·split
  ·grind
  ·grind
theorem ZC2 (a b:Rat):ZB5 a b < 0↔a < b:=by
 unfold ZB5;split
 ·grind
 ·split
  ·grind
  ·grind
theorem ZEK {l:List Rat} (hl:∀q∈l,Sz 400 q) (hn:l.length≤1000) {x:Rat} (hx:Sz 400 x) {i:Nat} (hi:i≤l.length):
  wp (ZwJ (l.map fOf) (i:Int) (fOf x)) (fun r=>∃k:Nat,r=(k:Int)∧Zmn l i x k):=by
 unfold ZwJ;rw[ZnC];refine ZnI (Zpb ZA6 (fun k:Nat=>(l.map fOf,(k:Int),fOf x)) (fun k=>i≤k∧k≤l.length∧∀j,i≤j→j < k→gR l j≤x) (fun k=>l.length - k) (Q:=fun r=>∃k:Nat,r=(k:Int)∧Zmn l i x k) i ⟨ZL5 _,hi,fun j h1 h2=>by omega⟩ (by omega) ?_) ?_
 ·rintro rec k ⟨h1,h2,h3⟩ ih;unfold ZzJ Zys ZxH;dsimp only;rw[ZLZ]
  by_cases hk:k < l.length
  ·have hq:l[k]∈l:=ZLV hk;rw[decide_eq_true (show (k:Int) < (l.length:Int) by omega),cond_true,ZuA (by simpa using hk),ZnC,ZnB,ZLU,ZDy ((hl _ hq).wq (by omega)) (hx.wq (by omega)),ZnC,ZnB]
   by_cases hc:ZB5 l[k] x≤0
   ·rw[decide_eq_true hc,cond_true,ZnE];refine⟨ZnH (by omega),ih (k+1) ⟨by omega,by omega,fun j h4 h5=> ?_⟩ (by omega)⟩
    by_cases hj:j=k
    ·rw[hj,ZxM hk];exact(ZC3 _ _).1 hc
    ·exact h3 j h4 (by omega)
   ·rw[decide_eq_false hc,cond_false,ZnB];refine⟨k,rfl,h1,h2,h3,fun _=> ?_⟩;rw[ZxM hk];rw[ZC3]at hc;grind
  ·rw[decide_eq_false (show ¬(k:Int) < (l.length:Int) by omega),cond_false,cond_false,ZnB];exact⟨k,rfl,h1,h2,h3,fun h=>absurd h hk⟩
 ·intro r h;unfold ZyY;rw[ZnB];exact h
theorem ZIE (la lb i k:Nat) (m:Int):(if ((k:Int)*la - (i:Int)*lb) > (if ((i:Int)*lb - (k:Int)*la) > m then ((i:Int)*lb - (k:Int)*la)else m)then ((k:Int)*la - (i:Int)*lb)else (if ((i:Int)*lb - (k:Int)*la) > m then ((i:Int)*lb - (k:Int)*la)else m))=stp la lb i k m:=by unfold stp;split<;>split<;>omega
theorem Zmn.grows {l:List Rat} {i:Nat} {x:Rat} {r:Nat} (h:Zmn l i x r) (hi:i < l.length) (hx:gR l i≤x):i < r:=by
 obtain⟨h1,h2,h3,h4⟩:=h;rcases Nat.lt_or_eq_of_le h1 with h |h
 ·exact h
 ·have:=h4 (by omega);rw[←h]at this;grind
theorem ZFe {a b:List Rat} (ha:∀q∈a,Sz 400 q) (hb:∀q∈b,Sz 400 q) (hna:a.length≤1000) (hnb:b.length≤1000) (ha0:a.length≠0) (hb0:b.length≠0):
  ∃r,Zpf (a.map fOf) (b.map fOf)=some (fOf (Rat.divInt r ((a.length*b.length:Nat):Int)),0)∧DistR a b 0 0 0 r:=by
 suffices h:wp (Zpf (a.map fOf) (b.map fOf)) (fun x=>∃r,x=(fOf (Rat.divInt r ((a.length*b.length:Nat):Int)),0)∧DistR a b 0 0 0 r) by obtain⟨x,hx,r,rfl,hr⟩:=h;exact⟨r,hx,hr⟩
 have hlb:∀i k:Nat,i≤a.length→k≤b.length→(0≤(i:Int)*(b.length:Int)∧(i:Int)*(b.length:Int)≤1000000)∧(0≤(k:Int)*(a.length:Int)∧(k:Int)*(a.length:Int)≤1000000):=by
  intro i k hi hk;have e1:(i:Int)*(b.length:Int)=((i*b.length:Nat):Int):=by rw[ZLJ]
  have e2:(k:Int)*(a.length:Int)=((k*a.length:Nat):Int):=by rw[ZLJ]
  have h1:i*b.length≤1000*1000:=ZL7 (by omega) hnb;have h2:k*a.length≤1000*1000:=ZL7 (by omega) hna;rw[e1,e2];omega
 unfold Zpf;rw[ZLZ,ZLZ,show ((a.length:Int) == 0)=false from beq_eq_false_iff_ne.2 (by omega),show ((b.length:Int) == 0)=false from beq_eq_false_iff_ne.2 (by omega),cond_false];unfold ZtG;rw[cond_false,ZnC];refine ZnI (Zpb ZAy (fun s:Nat×Nat×Int=>(a.map fOf,b.map fOf,s.2.2,(s.1:Int),(s.2.1:Int),false,false,[],[]))
  (fun s=>s.1≤a.length∧s.2.1≤b.length∧∀r,DistR a b s.1 s.2.1 s.2.2 r→DistR a b 0 0 0 r) (fun s=>(a.length - s.1)+(b.length - s.2.1))
  (Q:=fun x=>∃r,x=(a.map fOf,b.map fOf,r,false,false,[],[])∧DistR a b 0 0 0 r) (0,0,0) ⟨ZL9 _,ZL9 _,fun r h=>h⟩ (by dsimp only;omega) ?_) ?_
 ·rintro rec ⟨i,k,m⟩ ⟨h1,h2,h3⟩ ih;dsimp only at h1 h2 h3 ih⊢
  unfold ZyQ ZwK Zvp;dsimp only;rw[ZLZ,ZLZ];have j3:∀x:Rat,Sz 400 x→i < a.length→k < b.length→x=xOf (gR a i) (gR b k)→wp (ZtF (fun a b most i k t4 t4_1 t4_2 t4_3=>rec (a,b,most,i,k,t4,t4_1,t4_2,t4_3)) (a.map fOf) (b.map fOf) m (i:Int) (k:Int) false false (fOf x) [] []) (fun x=>∃r,x=(a.map fOf,b.map fOf,r,false,false,[],[])∧DistR a b 0 0 0 r):=by
   intro x hx hi hk ex;unfold ZtF;rw[ZnC];refine ZnI (ZEK ha hna hx h1) ?_;rintro _ ⟨i',rfl,hi'⟩;rw[ZnC];refine ZnI (ZEK hb hnb hx h2) ?_;rintro _ ⟨k',rfl,hk'⟩;rw[ZLZ,ZLZ,ZIE];have hb':=hlb i' k' hi'.2.1 hk'.2.1;rw[ZnE,ZnE,ZnE,ZnE,ZnE,ZnE];refine⟨ZnH (by omega),ZnH (by omega),ZnH (by omega),ZnH (by omega),ZnH (by omega),ZnH (by omega), ?_⟩;refine ih (i',k',stp a.length b.length i' k' m) ⟨hi'.2.1,hk'.2.1,fun r hr=>h3 r ?_⟩ ?_
   ·rw[ex]at hi' hk';exact .go hi hk hi' hk' hr
   ·dsimp only;have q1:=hi'.1;have q2:=hk'.1;have q3:=hi'.2.1;have q4:=hk'.2.1;rcases ZIr (gR a i) (gR b k)with e |e
    ·have:=hi'.grows hi (by rw[ex,e];exact Rat.le_refl);omega
    ·have:=hk'.grows hk (by rw[ex,e];exact Rat.le_refl);omega
  by_cases hi:i < a.length
  ·rw[decide_eq_true (show (i:Int) < (a.length:Int) by omega),cond_true]
   by_cases hk:k < b.length
   ·have hqa:a[i]∈a:=ZLV hi;have hqb:b[k]∈b:=ZLV hk;rw[decide_eq_true (show (k:Int) < (b.length:Int) by omega),cond_true,ZuA (by simpa using hi),ZuA (by simpa using hk),ZnC,ZnB,ZnC,ZnB,ZLU,ZLU,ZDy ((hb _ hqb).wq (by omega)) ((ha _ hqa).wq (by omega)),ZnC,ZnB]
    by_cases hc:ZB5 b[k] a[i] < 0
    ·rw[decide_eq_true hc,cond_true,ZnC,ZnB];exact j3 _ (hb _ hqb) hi hk (by rw[ZxM hi,ZxM hk];unfold xOf;rw[if_pos ((ZC2 _ _).1 hc)])
    ·rw[decide_eq_false hc,cond_false];exact j3 _ (ha _ hqa) hi hk (by rw[ZxM hi,ZxM hk];unfold xOf;rw[if_neg (fun h=>hc ((ZC2 _ _).2 h))])
   ·rw[decide_eq_false (show ¬(k:Int) < (b.length:Int) by omega),cond_false,ZnB];exact⟨m,rfl,h3 m (.done (fun h=>hk h.2))⟩
  ·rw[decide_eq_false (show ¬(i:Int) < (a.length:Int) by omega),cond_false,cond_false,ZnB];exact⟨m,rfl,h3 m (.done (fun h=>hi h.1))⟩
 ·rintro _ ⟨r,rfl,hr⟩;have hbd:=hr.bound (Int.le_refl 0) (by omega);have hm:a.length*b.length≤1000*1000:=ZL7 hna hnb;have hp:0 < a.length*b.length:=Nat.mul_pos (by omega) (by omega);unfold Zxt;dsimp only;rw[ZLZ,ZLZ,←ZLJ,ZnE,ZEj _ _ (by omega) (by omega) (by omega) (by omega) (by omega),ZnC,ZnB,ZnB];exact⟨ZnH (by omega),r,rfl,hr⟩
end Go.Proofs
namespace Go.Proofs
open Go Eng
theorem ZCs {a b c d:Int} (hb:0 < b) (hd:0 < d):Rat.divInt a b < Rat.divInt c d↔a*d < c*b:=by
 have h:∀{x y:Int},0 < y→Rat.divInt x y=(x:Rat) / (y:Rat):=fun {x y} _=>Rat.divInt_eq_div x y
 have hb':(0:Rat) < (b:Rat):=Rat.intCast_pos.2 hb;have hd':(0:Rat) < (d:Rat):=Rat.intCast_pos.2 hd;rw[h hb,h hd,Rat.div_lt_iff hb',←Rat.intCast_lt_intCast,Rat.intCast_mul,Rat.intCast_mul,show (c:Rat) / (d:Rat)*(b:Rat)=(c:Rat)*(b:Rat) / (d:Rat) by rw[Rat.div_def,Rat.div_def,Rat.mul_assoc,Rat.mul_assoc,Rat.mul_comm (d:Rat)⁻¹],Rat.lt_div_iff hd']
theorem ZK8 {la lb:Nat} (ha:0 < la) (hb:0 < lb) (i k:Nat):ZKA (Rat.divInt (i:Int) (la:Int) - Rat.divInt (k:Int) (lb:Int))=Rat.divInt (((i:Int)*lb - (k:Int)*la).natAbs:Int) ((la*lb:Nat):Int):=by
 have hp:0 < la*lb:=Nat.mul_pos ha hb;have e:Rat.divInt (i:Int) (la:Int) - Rat.divInt (k:Int) (lb:Int)=Rat.divInt ((i:Int)*lb - (k:Int)*la) ((la*lb:Nat):Int):=by rw[Rat.divInt_sub_divInt _ _ (by omega) (by omega),ZLJ]
 rw[e];unfold ZKA;have z:(0:Rat)=Rat.divInt 0 ((la*lb:Nat):Int):=(Rat.zero_divInt _).symm;generalize (i:Int)*lb - (k:Int)*la=x
 by_cases hx:x < 0
 ·rw[if_pos (by rw[z,ZCs (by omega) (by omega)];simpa using Int.mul_neg_of_neg_of_pos hx (by omega)),z,Rat.divInt_sub_divInt _ _ (by omega) (by omega)];rw[show ((x.natAbs:Nat):Int)= -x by omega,Int.zero_mul,Int.zero_sub,←Int.neg_mul,Rat.divInt_mul_right (by omega)]
 ·rw[if_neg (by rw[z,ZCs (by omega) (by omega)];have:=Int.mul_nonneg (show 0≤x by omega) (show (0:Int)≤((la*lb:Nat):Int) by omega);omega)];rw[show ((x.natAbs:Nat):Int)=x by omega]
end Go.Proofs
namespace Go.Proofs
open Go Eng
theorem ZBK {a b:Rat}:(¬a < b)↔b≤a:=Rat.not_lt
theorem ZJm {a b:List Rat} (ha:∀q∈a,Sz 400 q) (hn:a.length≤1000) {x:Rat} (hx:Sz 400 x) {i:Nat} (hi:i≤a.length) (k:Int) (mo:ZnA):
  wp (Zpn big (a.map fOf) (b.map fOf) (i:Int) k false false mo (fOf x) [] []) (fun y=>∃i':Nat,y=(a.map fOf,b.map fOf,(i':Int),k,false,false,mo,fOf x,[],[])∧Zmn a i x i'):=by
 refine Zpb ZyW (fun i':Nat=>(a.map fOf,b.map fOf,(i':Int),k,false,false,mo,fOf x,[],[])) (fun r=>i≤r∧r≤a.length∧∀j,i≤j→j < r→gR a j≤x) (fun r=>a.length - r)
  (Q:=fun y=>∃i':Nat,y=(a.map fOf,b.map fOf,(i':Int),k,false,false,mo,fOf x,[],[])∧Zmn a i x i') i ⟨ZL5 _,hi,fun j h1 h2=>by omega⟩ (by omega) ?_
 rintro rec r ⟨h1,h2,h3⟩ ih;unfold Zwo Ztl Zrx;dsimp only;rw[ZLZ]
 by_cases hr:r < a.length
 ·have hq:a[r]∈a:=ZLV hr;rw[decide_eq_true (show (r:Int) < (a.length:Int) by omega),cond_true,ZuA (by simpa using hr),ZMa,ZLU,Zzz (hx.wq (by omega)) ((ha _ hq).wq (by omega)),ZMa]
  by_cases hc:x < a[r]
  ·rw[decide_eq_true hc,ZLI,cond_false,ZnB];exact⟨r,rfl,h1,h2,h3,fun _=>by rw[ZxM hr];exact hc⟩
  ·rw[decide_eq_false hc,Bool.not_false,cond_true,ZnE];refine⟨ZnH (by omega),ih (r+1) ⟨by omega,by omega,fun j h4 h5=> ?_⟩ (by omega)⟩
   by_cases hj:j=r
   ·rw[hj,ZxM hr];exact ZBK.1 hc
   ·exact h3 j h4 (by omega)
 ·rw[decide_eq_false (show ¬(r:Int) < (a.length:Int) by omega),cond_false,cond_false,ZnB];exact⟨r,rfl,h1,h2,h3,fun h=>absurd h hr⟩
theorem ZJl {a b:List Rat} (hb:∀q∈b,Sz 400 q) (hn:b.length≤1000) {x:Rat} (hx:Sz 400 x) {k:Nat} (hk:k≤b.length) (i:Int) (mo:ZnA):
  wp (Zpm big (a.map fOf) (b.map fOf) i (k:Int) false false mo (fOf x) [] []) (fun y=>∃k':Nat,y=(a.map fOf,b.map fOf,i,(k':Int),false,false,mo,[],[])∧Zmn b k x k'):=by
 refine Zpb ZyV (fun k':Nat=>(a.map fOf,b.map fOf,i,(k':Int),false,false,mo,fOf x,[],[])) (fun r=>k≤r∧r≤b.length∧∀j,k≤j→j < r→gR b j≤x) (fun r=>b.length - r)
  (Q:=fun y=>∃k':Nat,y=(a.map fOf,b.map fOf,i,(k':Int),false,false,mo,[],[])∧Zmn b k x k') k ⟨ZL5 _,hk,fun j h1 h2=>by omega⟩ (by omega) ?_
 rintro rec r ⟨h1,h2,h3⟩ ih;unfold Zwm Ztk Zrw;dsimp only;rw[ZLZ]
 by_cases hr:r < b.length
 ·have hq:b[r]∈b:=ZLV hr;rw[decide_eq_true (show (r:Int) < (b.length:Int) by omega),cond_true,ZuA (by simpa using hr),ZMa,ZLU,Zzz (hx.wq (by omega)) ((hb _ hq).wq (by omega)),ZMa]
  by_cases hc:x < b[r]
  ·rw[decide_eq_true hc,ZLI,cond_false,ZnB];exact⟨r,rfl,h1,h2,h3,fun _=>by rw[ZxM hr];exact hc⟩
  ·rw[decide_eq_false hc,Bool.not_false,cond_true,ZnE];refine⟨ZnH (by omega),ih (r+1) ⟨by omega,by omega,fun j h4 h5=> ?_⟩ (by omega)⟩
   by_cases hj:j=r
   ·rw[hj,ZxM hr];exact ZBK.1 hc
   ·exact h3 j h4 (by omega)
 ·rw[decide_eq_false (show ¬(r:Int) < (b.length:Int) by omega),cond_false,cond_false,ZnB];exact⟨r,rfl,h1,h2,h3,fun h=>absurd h hr⟩
theorem ZE1 {i k la lb:Nat} (hi:i≤la) (hk:k≤lb) (ha:la≤200) (hb:lb≤200):0≤(i:Int)*lb∧(i:Int)*lb≤((la*lb:Nat):Int)∧0≤(k:Int)*la∧(k:Int)*la≤((la*lb:Nat):Int)∧((la*lb:Nat):Int)≤40000:=by
 have e1:(i:Int)*(lb:Int)=((i*lb:Nat):Int):=by rw[ZLJ]
 have e2:(k:Int)*(la:Int)=((k*la:Nat):Int):=by rw[ZLJ]
 have h1:i*lb≤la*lb:=ZL8 _ hi;have h2:k*la≤lb*la:=ZL8 _ hk;have h3:la*lb≤200*200:=ZL7 ha hb;rw[Nat.mul_comm lb la]at h2;rw[e1,e2];omega
theorem szm {m:Int} {n:Nat} (h0:0≤m) (h1:m≤(n:Int)) (h2:n≤40000) (h3:0 < n):Sz 20 (Rat.divInt m (n:Int)):=Zz7 (by omega) (by omega) (by omega)
theorem ZEt {a b:List Rat} (ha:∀q∈a,Sz 400 q) (hb:∀q∈b,Sz 400 q) (hna:a.length≤200) (hnb:b.length≤200) (ha0:a.length≠0) (hb0:b.length≠0) {r:Int} (hr:DistR a b 0 0 0 r):
  Zpc (a.map fOf) (b.map fOf)=some (fOf (Rat.divInt r ((a.length*b.length:Nat):Int)),0):=by
 refine Zq6 ?_;have hpos:0 < a.length*b.length:=Nat.mul_pos (by omega) (by omega);have hle:a.length*b.length≤40000:=ZL7 hna hnb;unfold Zpc;rw[ZLZ,ZLZ,show ((a.length:Int) == 0)=false from beq_eq_false_iff_ne.2 (by omega),show ((b.length:Int) == 0)=false from beq_eq_false_iff_ne.2 (by omega),cond_false];unfold Zqe;rw[cond_false,ZBz,ZMa,ZnC];obtain⟨N,hN⟩:∃N,N=a.length*b.length:=⟨_,rfl⟩;rw[←hN]at hpos hle⊢
 have z:fOf 0=fOf (Rat.divInt 0 (N:Int)):=by rw[Rat.zero_divInt]
 rw[z];refine ZnI (Zpb ZyX (fun s:Nat×Nat×Int=>(a.map fOf,b.map fOf,(s.1:Int),(s.2.1:Int),false,false,fOf (Rat.divInt s.2.2 (N:Int)),[],[]))
  (fun s=>s.1≤a.length∧s.2.1≤b.length∧(((s.1:Int)*b.length - (s.2.1:Int)*a.length).natAbs:Int)≤s.2.2∧s.2.2≤N∧∀r',DistR a b s.1 s.2.1 s.2.2 r'→DistR a b 0 0 0 r') (fun s=>(a.length - s.1)+(b.length - s.2.1))
  (Q:=fun x=>x=(false,false,fOf (Rat.divInt r (N:Int)),[],[])) (0,0,0) ⟨ZL9 _,ZL9 _,by simp,by dsimp only;omega,fun r h=>h⟩ (by dsimp only;omega) ?_) ?_
 ·rintro rec ⟨i,k,m⟩ ⟨h1,h2,h3,h4,h5⟩ ih;dsimp only at h1 h2 h3 h4 h5 ih⊢
  have step:∀x:Rat,Sz 400 x→(i < a.length∧gR a i≤x∨k < b.length∧gR b k≤x)→(i < a.length→k < b.length→x=xOf (gR a i) (gR b k))→
    wp (Zqc (fun a b i k t4 t4_1 most t4_2 t4_3=>rec (a,b,i,k,t4,t4_1,most,t4_2,t4_3)) (a.map fOf) (b.map fOf) (i:Int) (k:Int) false false (fOf (Rat.divInt m (N:Int))) (fOf x) [] []) (fun x=>x=(false,false,fOf (Rat.divInt r (N:Int)),[],[])):=by
   intro x hx hg hxo;unfold Zqc Zuc;rw[ZnC];refine ZnI (ZJm ha (by omega) hx h1 _ _) ?_;rintro _ ⟨i',rfl,hi'⟩;dsimp only;rw[ZnC];refine ZnI (ZJl hb (by omega) hx h2 _ _) ?_;rintro _ ⟨k',rfl,hk'⟩;dsimp only;unfold Zub;obtain⟨q1,q2,q3,q4⟩:=hi';obtain⟨w1,w2,w3,w4⟩:=hk';have bd:=ZE1 q2 w2 hna hnb;have bd0:=ZE1 h1 h2 hna hnb;rw[←hN]at bd bd0;have sz1:Sz 20 (Rat.divInt (i':Int) (a.length:Int)):=Zz7 (by omega) (by omega) (by omega);have sz2:Sz 20 (Rat.divInt (k':Int) (b.length:Int)):=Zz7 (by omega) (by omega) (by omega);have szM:Sz 20 (Rat.divInt m (N:Int)):=szm (by omega) h4 hle hpos;have ha0':0 < a.length:=by omega
   have hb0':0 < b.length:=by omega
   rw[ZLZ,ZLZ,ZA9 _ _ (by omega) (by omega) (by omega) (by omega) (by omega),ZMa,ZA9 _ _ (by omega) (by omega) (by omega) (by omega) (by omega),ZMa,ZEc sz1 sz2 (by decide),ZMa,ZGd (sz1.sub sz2) (by decide),ZMa,ZK8 ha0' hb0',←hN];obtain⟨D,hD⟩:∃D,D=(((i':Int)*b.length - (k':Int)*a.length).natAbs:Int):=⟨_,rfl⟩;rw[←hD];have hDN:0≤D∧D≤(N:Int):=by omega
   have szD:Sz 20 (Rat.divInt D (N:Int)):=szm hDN.1 hDN.2 hle hpos;rw[Zzz (szM.wq (by decide)) (szD.wq (by decide)),ZMa];have hlt:(Rat.divInt m (N:Int) < Rat.divInt D (N:Int))↔m < D:=by rw[ZCs (by omega) (by omega)];exact⟨fun h=>Int.lt_of_mul_lt_mul_right h (by omega),fun h=>Int.mul_lt_mul_of_pos_right h (by omega)⟩
   have hmax:max m D=stp a.length b.length i' k' m:=by unfold stp;omega
   have go:wp (rec (a.map fOf,b.map fOf,(i':Int),(k':Int),false,false,fOf (Rat.divInt (max m D) (N:Int)),[],[])) (fun x=>x=(false,false,fOf (Rat.divInt r (N:Int)),[],[])):=by
    refine ih (i',k',max m D) ⟨q2,w2,by dsimp only;omega,by dsimp only;omega,fun r' hr'=> ?_⟩ ?_
    ·dsimp only at hr'
     by_cases hik:i < a.length∧k < b.length
     ·have e:=hxo hik.1 hik.2;rw[e]at q3 q4 w3 w4;rw[hmax]at hr';exact h5 r' (.go hik.1 hik.2 ⟨q1,q2,q3,q4⟩ ⟨w1,w2,w3,w4⟩ hr')
     ·
      have hik':¬(i' < a.length∧k' < b.length):=fun h=>hik ⟨by omega,by omega⟩
      have hmm:max m D=m:=by
       by_cases hia:i < a.length
       ·have hkb:k=b.length:=by
         have:¬k < b.length:=fun h=>hik ⟨hia,h⟩
         omega
        have hkb':k'=b.length:=by omega
        have e1:(k:Int)*a.length=N:=by rw[hkb,hN,ZLJ,Int.mul_comm]
        have e2:(k':Int)*a.length=N:=by rw[hkb',hN,ZLJ,Int.mul_comm]
        have e3:(i:Int)*b.length≤(i':Int)*b.length:=Int.mul_le_mul_of_nonneg_right (by omega) (by omega);omega
       ·have hia2:i=a.length:=by omega
        have hia':i'=a.length:=by omega
        have e1:(i:Int)*b.length=N:=by rw[hia2,hN,ZLJ]
        have e2:(i':Int)*b.length=N:=by rw[hia',hN,ZLJ]
        have e3:(k:Int)*a.length≤(k':Int)*a.length:=Int.mul_le_mul_of_nonneg_right (by omega) (by omega);omega
      rw[hmm]at hr';have:=hr'.det (.done hik');rw[this];exact h5 m (.done hik)
    ·dsimp only;rcases hg with ⟨hh,hle2⟩ |⟨hh,hle2⟩
     ·have:=Zmn.grows ⟨q1,q2,q3,q4⟩ hh hle2;omega
     ·have:=Zmn.grows ⟨w1,w2,w3,w4⟩ hh hle2;omega
   by_cases hc:m < D
   ·rw[decide_eq_true (hlt.2 hc),cond_true]
    rwa [show max m D=D by omega]at go
   ·rw[decide_eq_false (fun h=>hc (hlt.1 h)),cond_false]
    rwa [show max m D=m by omega]at go
  unfold Zwq Ztm Zry Zqd;dsimp only;rw[ZLZ,ZLZ]
  by_cases hi:i < a.length
  ·have hqa:a[i]∈a:=ZLV hi;rw[decide_eq_true (show (i:Int) < (a.length:Int) by omega),cond_true,cond_true,ZuA (by simpa using hi),ZMa,ZMa,ZLU]
   by_cases hk:k < b.length
   ·have hqb:b[k]∈b:=ZLV hk;rw[beq_eq_false_iff_ne.2 (show (k:Int)≠(b.length:Int) by omega),cond_false,cond_true,ZuA (by simpa using hk),ZMa,ZMa,ZLU,Zzz ((ha _ hqa).wq (by omega)) ((hb _ hqb).wq (by omega)),ZMa]
    by_cases hc:a[i] < b[k]
    ·rw[decide_eq_true hc,cond_true];exact step _ (ha _ hqa) (.inl ⟨hi,by rw[ZxM hi];exact Rat.le_refl⟩) fun _ _=>by rw[ZxM hi,ZxM hk];unfold xOf;rw[if_neg (by grind)]
    ·rw[decide_eq_false hc,cond_false];exact step _ (hb _ hqb) (.inr ⟨hk,by rw[ZxM hk];exact Rat.le_refl⟩) fun _ _=>by rw[ZxM hi,ZxM hk];unfold xOf;split<;>grind
   ·rw[show ((k:Int) == (b.length:Int))=true by rw[show k=b.length by omega];simp,cond_true,cond_true];exact step _ (ha _ hqa) (.inl ⟨hi,by rw[ZxM hi];exact Rat.le_refl⟩) fun _ h=>absurd h hk
  ·rw[decide_eq_false (show ¬(i:Int) < (a.length:Int) by omega),cond_false]
   by_cases hk:k < b.length
   ·have hqb:b[k]∈b:=ZLV hk;rw[decide_eq_true (show (k:Int) < (b.length:Int) by omega),cond_true,beq_eq_false_iff_ne.2 (show (k:Int)≠(b.length:Int) by omega),cond_false,cond_false,cond_false,ZuA (by simpa using hk),ZMa,ZLU];exact step _ (hb _ hqb) (.inr ⟨hk,by rw[ZxM hk];exact Rat.le_refl⟩) fun h _=>absurd h hi
   ·rw[decide_eq_false (show ¬(k:Int) < (b.length:Int) by omega),cond_false,ZnB];have:=hr.det (h5 m (.done (fun h=>hi h.1)));rw[this]
 ·rintro _ rfl;unfold Zua;dsimp only;rw[ZnB]
end Go.Proofs
namespace Go.Proofs
open Go Eng
def inP (b:List Rat) (x:Rat):Bool:=decide (gR b 0≤x)&&decide (x≤gR b (b.length - 1))
theorem ZFL (a b:Rat):ZB5 a b≥0↔b≤a:=by
 have:=ZC2 a b;constructor
 ·intro h;have h2:¬ZB5 a b < 0:=by omega
  rw[this]at h2;grind
 ·intro h;have h2:¬a < b:=by grind
  rw[←this]at h2;omega
theorem ZE5 {a b:List Rat} (ha:∀q∈a,Sz 400 q) (hb:∀q∈b,Sz 400 q) (hna:a.length≤1000) (hnb:b.length≤1000) (ha0:a.length≠0) (hb0:b.length≠0):
  ZtQ (a.map fOf) (b.map fOf)=some (fOf (Rat.divInt (a.countP (inP b):Nat) (a.length:Int))):=by
 refine Zq6 ?_;unfold ZtQ ZuD;rw[ZLZ,ZLZ,show ((a.length:Int) == 0)=false from beq_eq_false_iff_ne.2 (by omega),show ((b.length:Int) == 0)=false from beq_eq_false_iff_ne.2 (by omega),cond_false,cond_false,ZnC];have hle:∀k,(a.drop k).countP (inP b)≤a.length:=fun k=>ZL6 ZLN (by rw[ZLY];omega)
 refine ZnI (ZAV ZAP a (by omega) (fun i (n:Nat)=>(a.map fOf,b.map fOf,(n:Int),a.map fOf,(a.length:Int),i,false,false,([]:List Int),([]:List Int))) (fun k n=>n+(a.drop k).countP (inP b)=a.countP (inP b))
  (Q:=fun x=>x=(a.map fOf,((a.countP (inP b):Nat):Int),false,false,[],[])) 0 (by simp) ?_ ?_) ?_
 ·rintro rec k n hk hP ih;have hq:a[k]∈a:=ZLV hk;have hd:a.drop k=a[k]::a.drop (k+1):=List.drop_eq_getElem_cons hk;have hmax:a.countP (inP b)≤a.length:=ZLN;rw[hd,List.countP_cons]at hP;unfold Zxs Zvo Zws Zwr;dsimp only;have h0:0 < b.length:=by omega
  have hl:b.length - 1 < b.length:=by omega
  have i0:idx (b.map fOf) 0=some (fOf b[0]):=by rw[show (0:Int)=((0:Nat):Int)from rfl,ZuA (by rw[ZLZ];omega),ZLU]
  have i1:idx (b.map fOf) (((b.map fOf).length:Int) - 1)=some (fOf b[b.length - 1]):=by rw[ZLZ,show (b.length:Int) - 1=((b.length - 1:Nat):Int) by omega,ZuA (by rw[ZLZ];omega),ZLU]
  rw[decide_eq_true (show (k:Int) < (a.length:Int) by omega),cond_true,ZuA (by rw[ZLZ];exact hk),ZnC,ZnB,ZLU,i0,ZnC,ZnB,ZDy ((ha _ hq).wq (by omega)) ((hb _ (ZLV h0)).wq (by omega)),ZnC,ZnB,Zn3];have hin:inP b a[k]=(decide (ZB5 a[k] b[0]≥0)&&decide (ZB5 a[k] b[b.length - 1]≤0)):=by
   unfold inP;rw[ZxM h0,ZxM hl];congr 1
   ·rw[Bool.eq_iff_iff,decide_eq_true_eq,decide_eq_true_eq,ZFL]
   ·rw[Bool.eq_iff_iff,decide_eq_true_eq,decide_eq_true_eq,ZC3]
  refine⟨fun hc=> ?_,fun hc=> ?_⟩
  ·rw[ZnE,i1,ZnC,ZnB,ZDy ((ha _ hq).wq (by omega)) ((hb _ (ZLV hl)).wq (by omega)),ZnC,ZnB,Zn3];refine⟨ZnH (by rw[ZLZ];omega),fun hc2=> ?_,fun hc2=> ?_⟩
   ·rw[hin,hc,hc2]at hP;simp only[Bool.and_self,if_true]at hP;rw[ZnE,ZnE];exact⟨ZnH (by omega),ZnH (by omega),ih (n+1) (by omega)⟩
   ·rw[hin,hc,hc2]at hP;simp only[Bool.and_false,ZII,if_false]at hP;rw[ZnE];exact⟨ZnH (by omega),ih n (by omega)⟩
  ·rw[hin,hc]at hP;simp only[Bool.false_and,ZII,if_false]at hP;rw[cond_false,ZnE];exact⟨ZnH (by omega),ih n (by omega)⟩
 ·rintro rec n hP;unfold Zxs Zvo;dsimp only;rw[List.drop_length,List.countP_nil]at hP;rw[decide_eq_false (show ¬(a.length:Int) < (a.length:Int) by omega),cond_false,ZnB];rw[show n=a.countP (inP b) by omega]
 ·rintro _ rfl;have hmax:a.countP (inP b)≤a.length:=ZLN;unfold Zyt;dsimp only;rw[ZLZ,ZEj _ _ (by omega) (by omega) (by omega) (by omega) (by omega),ZnC,ZnB,ZnB]
theorem ZDo {a b:List Rat} (ha:∀q∈a,Sz 400 q) (hb:∀q∈b,Sz 400 q) (hna:a.length≤1000) (hnb:b.length≤1000) (ha0:a.length≠0) (hb0:b.length≠0):
  ZpI (a.map fOf) (b.map fOf)=some (fOf (Rat.divInt (a.countP (inP b):Nat) (a.length:Int))):=by
 refine Zq6 ?_;unfold ZpI ZqP;rw[ZLZ,ZLZ,show ((a.length:Int) == 0)=false from beq_eq_false_iff_ne.2 (by omega),show ((b.length:Int) == 0)=false from beq_eq_false_iff_ne.2 (by omega),cond_false,cond_false,ZnC];refine ZnI (ZAV Zze a (by omega) (fun i (n:Nat)=>(a.map fOf,b.map fOf,(n:Int),a.map fOf,(a.length:Int),i,false,false,([]:List Int),([]:List Int))) (fun k n=>n+(a.drop k).countP (inP b)=a.countP (inP b))
  (Q:=fun x=>x=(a.map fOf,((a.countP (inP b):Nat):Int),false,false,[],[])) 0 (by simp) ?_ ?_) ?_
 ·rintro rec k n hk hP ih;have hq:a[k]∈a:=ZLV hk;have hd:a.drop k=a[k]::a.drop (k+1):=List.drop_eq_getElem_cons hk;have hmax:a.countP (inP b)≤a.length:=ZLN;rw[hd,List.countP_cons]at hP;unfold Zt9 Zrv Zsq Zsp;dsimp only;have h0:0 < b.length:=by omega
  have hl:b.length - 1 < b.length:=by omega
  have i0:idx (b.map fOf) 0=some (fOf b[0]):=by rw[show (0:Int)=((0:Nat):Int)from rfl,ZuA (by rw[ZLZ];omega),ZLU]
  have i1:idx (b.map fOf) (((b.map fOf).length:Int) - 1)=some (fOf b[b.length - 1]):=by rw[ZLZ,show (b.length:Int) - 1=((b.length - 1:Nat):Int) by omega,ZuA (by rw[ZLZ];omega),ZLU]
  have hin:inP b a[k]=(!decide (a[k] < b[0])&& !decide (b[b.length - 1] < a[k])):=by
   unfold inP;rw[ZxM h0,ZxM hl,←decide_not,←decide_not];congr 1
   ·rw[decide_eq_decide];exact Rat.not_lt.symm
   ·rw[decide_eq_decide];exact Rat.not_lt.symm
  rw[decide_eq_true (show (k:Int) < (a.length:Int) by omega),cond_true,ZuA (by rw[ZLZ];exact hk),ZnC,ZnB,ZLU,i0,ZnC,ZnB,Zzz ((ha _ hq).wq (by omega)) ((hb _ (ZLV h0)).wq (by omega)),ZnC,ZnB,Zn3];refine⟨fun hc=> ?_,fun hc=> ?_⟩
  ·rw[ZnE,i1,ZnC,ZnB,Zzz ((hb _ (ZLV hl)).wq (by omega)) ((ha _ hq).wq (by omega)),ZnC,ZnB,Zn3];refine⟨ZnH (by rw[ZLZ];omega),fun hc2=> ?_,fun hc2=> ?_⟩
   ·rw[hin,hc,hc2]at hP;simp only[Bool.and_self,if_true]at hP;rw[ZnE,ZnE];exact⟨ZnH (by omega),ZnH (by omega),ih (n+1) (by omega)⟩
   ·rw[hin,hc,hc2]at hP;simp only[Bool.and_false,ZII,if_false]at hP;rw[ZnE];exact⟨ZnH (by omega),ih n (by omega)⟩
  ·rw[hin,hc]at hP;simp only[Bool.false_and,ZII,if_false]at hP;rw[cond_false,ZnE];exact⟨ZnH (by omega),ih n (by omega)⟩
 ·rintro rec n hP;unfold Zt9 Zrv;dsimp only;rw[List.drop_length,List.countP_nil]at hP;rw[decide_eq_false (show ¬(a.length:Int) < (a.length:Int) by omega),cond_false,ZnB];rw[show n=a.countP (inP b) by omega]
 ·rintro _ rfl;have hmax:a.countP (inP b)≤a.length:=ZLN;unfold ZuG;dsimp only;rw[ZLZ,ZA9 _ _ (by omega) (by omega) (by omega) (by omega) (by omega),ZnC,ZnB,ZnB]
theorem ZEN {q:Rat} (h:Sz 20 q):Wq 256 q:=h.wq (by decide)
theorem ZCf {l:List Rat} (hl:∀q∈l,Sz 400 q) (hn:l.length≤1000):Zp2 (l.map fOf) (l.map fOf)=some true:=by
 refine Zq6 ?_;unfold Zp2;rw[show (((l.map fOf).length:Int) != ((l.map fOf).length:Int))=false by simp,cond_false,ZnC];refine ZnI (ZAV ZyU l (by omega) (fun i (_:Unit)=>(l.map fOf,l.map fOf,((l.map fOf).length:Int),i)) (fun _ _=>True) (Q:=fun x=>x= .brk ()) () trivial ?_ ?_) ?_
 ·rintro rec j _ hj _ ih;have hq:l[j]∈l:=ZLV hj;unfold Ztj Zq3;dsimp only;rw[decide_eq_true (show (j:Int) < ((l.map fOf).length:Int) by rw[ZLZ];omega),cond_true,ZuA (by rw[ZLZ];exact hj),ZnC,ZnB,ZnC,ZnB,ZLU,ZAC _ _ ((hl _ hq).wq (by omega)) ((hl _ hq).wq (by omega)),ZnC,ZnB,decide_eq_true rfl,ZLI,cond_false,ZnE];exact⟨ZnH (by omega),ih () trivial⟩
 ·rintro rec _ _;unfold Ztj Zq3;dsimp only;rw[decide_eq_false (show ¬(l.length:Int) < ((l.map fOf).length:Int) by rw[ZLZ];omega),cond_false,ZnB]
 ·rintro _ rfl;unfold Zt8;rw[ZnB]
theorem ZGY:Zoc zf zf=some true:=by kernel_rfl
theorem ZFf {a b:List Rat} (ha:∀q∈a,Sz 400 q) (hb:∀q∈b,Sz 400 q) (hna:a.length≤200) (hnb:b.length≤200):
  ∃f e,Zpf (a.map fOf) (b.map fOf)=some (f,e)∧Zpc (a.map fOf) (b.map fOf)=some (f,e)∧Zoc f f=some true:=by
 have hle:a.length*b.length≤200*200:=ZL7 hna hnb
 by_cases h:a.length≠0∧b.length≠0
 ·obtain⟨r,e1,hr⟩:=ZFe ha hb (by omega) (by omega) h.1 h.2;have hbd:=hr.bound (Int.le_refl 0) (by omega);have hp:0 < a.length*b.length:=Nat.mul_pos (by omega) (by omega);have hz:=ZEN (szm hbd.1 hbd.2 hle hp);exact⟨_,_,e1,ZEt ha hb hna hnb h.1 h.2 hr,by rw[ZAC _ _ hz hz,decide_eq_true rfl]⟩
 ·refine⟨zf,5, ?_, ?_,ZGY⟩
  ·unfold Zpf ZtG;rw[ZLZ,ZLZ]
   by_cases h1:a.length=0
   ·rw[h1];rfl
   ·rw[show b.length=0 by omega,beq_eq_false_iff_ne.2 (show (a.length:Int)≠0 by omega)];rfl
  ·unfold Zpc Zqe;rw[ZLZ,ZLZ]
   by_cases h1:a.length=0
   ·rw[h1];rfl
   ·rw[show b.length=0 by omega,beq_eq_false_iff_ne.2 (show (a.length:Int)≠0 by omega)];rfl
theorem ZDU {a b:List Rat} (ha:∀q∈a,Sz 400 q) (hb:∀q∈b,Sz 400 q) (hna:a.length≤200) (hnb:b.length≤200):
  ∃f,ZtQ (a.map fOf) (b.map fOf)=some f∧ZpI (a.map fOf) (b.map fOf)=some f∧Zoc f f=some true:=by
 by_cases h:a.length≠0∧b.length≠0
 ·have hle:a.countP (inP b)≤a.length:=ZLN;have hz:Wq 256 (Rat.divInt ((a.countP (inP b):Nat):Int) (a.length:Int)):=ZEN (Zz7 (by omega) (by omega) (by omega));exact⟨_,ZE5 ha hb (by omega) (by omega) h.1 h.2,ZDo ha hb (by omega) (by omega) h.1 h.2,by rw[ZAC _ _ hz hz,decide_eq_true rfl]⟩
 ·refine⟨fOf 0, ?_, ?_,by rw[ZAC _ _ (ZCY.wq (by decide)) (ZCY.wq (by decide)),decide_eq_true rfl]⟩
  ·unfold ZtQ ZuD;rw[ZLZ,ZLZ]
   by_cases h1:a.length=0
   ·rw[h1,show (((0:Nat):Int) == 0)=true from rfl,cond_true,cond_true,ZDF,ZMa]
   ·rw[show b.length=0 by omega,beq_eq_false_iff_ne.2 (show (a.length:Int)≠0 by omega),cond_false,show (((0:Nat):Int) == 0)=true from rfl,cond_true,ZDF,ZMa]
  ·unfold ZpI ZqP;rw[ZLZ,ZLZ]
   by_cases h1:a.length=0
   ·rw[h1,show (((0:Nat):Int) == 0)=true from rfl,cond_true,cond_true,ZBz,ZMa]
   ·rw[show b.length=0 by omega,beq_eq_false_iff_ne.2 (show (a.length:Int)≠0 by omega),cond_false,show (((0:Nat):Int) == 0)=true from rfl,cond_true,ZBz,ZMa]
end Go.Proofs
namespace Go.Proofs
open Go Eng
theorem ZFE {x y:Int} (hy:y≠0) (h1:x.natAbs < 16) (h2:y.natAbs < 16):Sz 4 (Rat.divInt x y):=Zz7 (k:=4) hy h1 h2
theorem ZEZ:((List.range 10).all fun a=>(List.range 21).all fun p=>decide (ZwL (a:Int) (p:Int)=some (0,((a*p:Nat):Int))))=true:=by kernel_rfl
theorem ZE0 {a p:Nat} (ha:a < 10) (hp:p < 21):ZwL (a:Int) (p:Int)=some (0,((a*p:Nat):Int)):=
 of_decide_eq_true (ZLL.1 (ZLL.1 ZEZ a (ZL3.2 ha)) p (ZL3.2 hp))
theorem Zz3 {n:Nat} (h:n < 1000000):IntKind.wrap .u64 (n:Int)=n∧IntKind.wrap .i64 (n:Int)=n:=by refine⟨Zlj _ _ ?_ ?_,Zlj _ _ ?_ ?_⟩<;>simp[IntKind.min,IntKind.max,IntKind.signed,IntKind.bits]<;>omega
theorem ZFc {n y:Nat} (hn:n < 1000000) (hy:0 < y) (hy2:y < 1000000):ZwN 0 (n:Int) (y:Int)=some (((n / y:Nat):Int),((n % y:Nat):Int)):=by have h1:n / y≤n:=Nat.div_le_self _ _;unfold ZwN;rw[show (((y:Int) == 0)=false)from beq_eq_false_iff_ne.2 (by omega),cond_false,decide_eq_false (show ¬(y:Int)≤0 by omega),cond_false,show (((0:Int) == 0)=true)from rfl,cond_true,show decide ((y:Int)≠0)=true from decide_eq_true (by omega)];rw[show Int.tdiv (n:Int) (y:Int)=((n / y:Nat):Int)from rfl,show Int.tmod (n:Int) (y:Int)=((n % y:Nat):Int)from rfl,(Zz3 (n:=n / y) (by omega)).1];rfl
theorem ZDH {q:Rat} (h:Sz 40 q):(fOf q).Num.Words.length≤2∧(fOf q).Den.Words.length≤2:=by
 have h1:=ZBt (n:=q.num.natAbs) h.1 2 (by omega);have h2:=ZBt (n:=q.den) h.2 2 (by omega);constructor
 ·show (iL (wd q.num.natAbs)).length≤2;rw[Zn0];exact h1
 ·show (iL (wd ((q.den:Int)).natAbs)).length≤2;rw[Zn0,Int.natAbs_natCast];exact h2
theorem ZHb {l:List Rat} (hl:l.length < 10) (h0:0 < l.length) (hs:∀q∈l,Sz 40 q) {p n:Nat} (hn:0 < n) (hn2:n≤20) (hp:p≤n):
  Zvc (l.map fOf) (p:Int) (n:Int)=some (fOf (gR l (rk l.length p n)),0):=by
 have hlt:=ZKN hn h0 hp;have hq:l[rk l.length p n]∈l:=ZLV hlt;have hm:l.length*p≤9*20:=ZL7 (by omega) (by omega);have hdv:(l.length*p+(n - 1)) / n≤l.length*p+(n - 1):=Nat.div_le_self _ _;unfold Zvc;rw[decide_eq_false (show ¬(n:Int) < 1 by omega),cond_false,decide_eq_false (show ¬(p:Int) < 0 by omega),cond_false,decide_eq_false (show ¬(p:Int) > (n:Int) by omega)];unfold ZvQ;rw[cond_false,ZLZ,show ((l.length:Int) == 0)=false from beq_eq_false_iff_ne.2 (by omega),cond_false,(Zz3 (n:=l.length) (by omega)).1,(Zz3 (n:=p) (by omega)).1,ZE0 hl (by omega),ZMa];dsimp only;rw[show (n:Int) - 1=((n - 1:Nat):Int) by omega,(Zz3 (n:=n - 1) (by omega)).1,ZnH (by omega)];unfold chk;dsimp only;unfold Zyi;rw[show ((l.length*p:Nat):Int)+((n - 1:Nat):Int)+0=((l.length*p+(n - 1):Nat):Int) by omega,show (((l.length*p+(n - 1):Nat):Int) % 18446744073709551616)=((l.length*p+(n - 1):Nat):Int) by omega,show (((l.length*p+(n - 1):Nat):Int) / 18446744073709551616)=0 by omega];unfold chk;rw[show decide ((0:Int)≤0∧(0:Int)≤1)=true from rfl];dsimp only;rw[ZMa];dsimp only;rw[show IntKind.wrap .u64 (0+0)=0 from by decide,(Zz3 (n:=n) (by omega)).1,ZFc (by omega) hn (by omega),ZMa];dsimp only;rw[(Zz3 (n:=(l.length*p+(n - 1)) / n) (by omega)).2];rw[show (if (1:Int) > (((l.length*p+(n - 1)) / n:Nat):Int)then (1:Int)else (((l.length*p+(n - 1)) / n:Nat):Int)) - 1=((rk l.length p n:Nat):Int)from by unfold rk;split<;>omega]
 rw[ZnH (by omega),ZuA (by rw[ZLZ];exact hlt),ZMa,ZLU,ZxM hlt];unfold ZBF;have hw:=ZDH (hs _ hq);rw[Zyc (by omega),Zyc (by omega)];rfl
end Go.Proofs
namespace Go.Proofs
open Go Eng
def ZDB:List G_api_Cell:=[G_api_Cell.mk false ([51]:Str),G_api_Cell.mk true ([]:Str),G_api_Cell.mk false ([120]:Str)]
theorem ZIA:ZCA ZDB:=by intro x hx;simp only[ZDB,ZL2,ZL4,or_false]at hx;rcases hx with rfl |rfl |rfl<;>decide
theorem ZFS:ZrF (G_api_Column.mk ([]:Str) ZDB)=some [fOf 3]:=by rw[ZBv ZIA (by decide)];rw[show ZAA ZDB=[3] by decide+kernel];rfl
def l4:List Rat:=[1,2,3,4]
theorem ZFY:∀q∈l4,Sz 40 q:=by intro q hq;simp only[l4,ZL2,ZL4,or_false]at hq;rcases hq with rfl |rfl |rfl |rfl<;>(unfold Sz;decide)
theorem ZKO:Zvc (l4.map fOf) 1 2=some (fOf 2,0):=ZHb (l:=l4) (p:=1) (n:=2) (by decide) (by decide) ZFY (by decide) (by decide) (by decide)
def hlf:Rat:=Rat.divInt 1 2
theorem ZLa:Zpf (([1,2]:List Rat).map fOf) (([2,3]:List Rat).map fOf)=some (fOf hlf,0):=by
 have h12:∀q∈([1,2]:List Rat),Sz 400 q:=fun q hq=>(ZFY q (by
  simp only[ZL2,ZL4,or_false]at hq;rcases hq with rfl |rfl<;>simp[l4])).mono (by omega)
 have h23:∀q∈([2,3]:List Rat),Sz 400 q:=fun q hq=>(ZFY q (by
  simp only[ZL2,ZL4,or_false]at hq;rcases hq with rfl |rfl<;>simp[l4])).mono (by omega)
 obtain⟨r,e,hr⟩:=ZFe h12 h23 (by decide) (by decide) (by decide) (by decide);have z0:∀{l:List Rat} {x:Rat},gR l 0≤x→∀j,0≤j→j < 1→gR l j≤x:=fun h j _ h2=>by
  have:j=0:=by omega
  rw[this];exact h
 have z1:∀{l:List Rat} {x:Rat},gR l 1≤x→∀j,1≤j→j < 2→gR l j≤x:=fun h j _ h2=>by
  have:j=1:=by omega
  rw[this];exact h
 have u1:Zmn [1,2] 0 (xOf (gR [1,2] 0) (gR [2,3] 0)) 1:=⟨by decide,by decide,z0 (by decide),fun _=>by decide⟩;have u2:Zmn [2,3] 0 (xOf (gR [1,2] 0) (gR [2,3] 0)) 0:=⟨by decide,by decide,fun j _ h2=>absurd h2 (Nat.not_lt_zero j),fun _=>by decide⟩;have u3:Zmn [1,2] 1 (xOf (gR [1,2] 1) (gR [2,3] 0)) 2:=⟨by decide,by decide,z1 (by decide),fun h=>absurd h (by decide)⟩;have u4:Zmn [2,3] 0 (xOf (gR [1,2] 1) (gR [2,3] 0)) 1:=⟨by decide,by decide,z0 (by decide),fun _=>by decide⟩;have d:DistR [1,2] [2,3] 0 0 0 2:= .go (by decide) (by decide) u1 u2 (.go (by decide) (by decide) u3 u4 (.done (by decide)));have:=hr.det d;subst this;rw[e];exact congrArg (fun q=>some (fOf q,(0:Int))) (show Rat.divInt 2 4=hlf by unfold hlf;decide)
theorem ZFl:Zq2=some true:=by have sz2:Sz 40 2:=ZFY 2 (by simp[l4]);have szh:Sz 40 hlf:=(ZFE (x:=1) (y:=2) (by decide) (by decide) (by decide)).mono (by omega);have i1:ZnY 1=some (fOf 1):=ZBM 1 (by decide) (by decide);have i2:ZnY 2=some (fOf 2):=ZBM 2 (by decide) (by decide);have i3:ZnY 3=some (fOf 3):=ZBM 3 (by decide) (by decide);have i4:ZnY 4=some (fOf 4):=ZBM 4 (by decide) (by decide);have ih:ZoB 1 2=some (fOf hlf):=ZA9 1 2 (by decide) (by decide) (by decide) (by decide) (by decide);have r4:Zvc [fOf 1,fOf 2,fOf 3,fOf 4] 1 2=some (fOf 2,0):=ZKO;have d4:Zpf (([fOf 1,fOf 2,fOf 3,fOf 4].drop 0).take (((2:Int)).toNat - 0)) (([fOf 1,fOf 2,fOf 3,fOf 4].drop (((1:Int)).toNat)).take (((3:Int)).toNat - ((1:Int)).toNat))=some (fOf hlf,0):=ZLa;have n3:=ZFS;unfold ZDB at n3;unfold Zq2 Zpe;rw[i1,ZMa,i2,ZMa,i3,ZMa,i4,ZMa,r4,ZMa];dsimp only;rw[d4,ZMa,ZMa];dsimp only;rw[show ((0:Int) == 0)=true from rfl,cond_true,cond_true,ZAC _ _ (sz2.wq (by omega)) (sz2.wq (by omega)),ZMa,decide_eq_true rfl,cond_true,ih,ZMa,ZAC _ _ (szh.wq (by omega)) (szh.wq (by omega)),ZMa,decide_eq_true rfl,cond_true,n3,ZMa];rfl
end Go.Proofs
namespace Go.Proofs
open Go Eng
theorem ZCU {d:ZnG} (hd:ZAn d) {l:List Str} (h0:1≤l.length) (h1:l.length≤1000):wp (ZoP d l) (fun r=>r.1∈l∧ZAn r.2):=by
 unfold ZoP;rw[ZnC];refine ZnI (ZBT hd (by omega)) fun⟨q,d1⟩ ⟨hq,hd1⟩=> ?_
 dsimp only at hq hd1⊢
 rw[ZnC,ZGi];refine⟨hq.1,by omega, ?_⟩;rw[ZnB];exact⟨ZLV _,hd1⟩
def ZDd (c:G_api_Cell):Prop:=c.Text.length≤10
theorem ZDl:([([97]:Str),([98]:Str),([99]:Str),([49]:Str),([50]:Str),([51]:Str),([49,48]:Str),([120]:Str),([45,49,46,53]:Str),([50]:Str),[100],[],([49,46,50,46,51]:Str),([49,46,53,48]:Str)]:List Str).all (fun s=>decide (s.length≤10))=true:=by kernel_rfl
theorem ZCF:(((List.range 12).map fun i:Nat=>Lib.itoa ((i:Int) - 3))++(List.range 14).map fun i:Nat=>([107]:Str)++Lib.itoa (i:Int)).all (fun s=>decide (s.length≤10))=true:=by kernel_rfl
theorem ZHH {d:ZnG} (hd:ZAn d):wp (Zug d) (fun r=>ZDd r.1∧ZAn r.2):=by
 unfold Zug;rw[ZnC];refine ZnI (ZBT hd (by omega)) fun⟨q,d1⟩ ⟨hq,hd1⟩=> ?_
 dsimp only at hq hd1⊢
 rw[Zn3];refine⟨fun _=> ?_,fun _=> ?_⟩
 ·rw[ZnB];exact⟨ZL9 _,hd1⟩
 ·rw[ZnC];refine ZnI (ZCU hd1 (by decide) (by decide)) fun⟨s,d2⟩ ⟨hs,hd2⟩=> ?_
  dsimp only at hs hd2⊢
  rw[ZnB];refine⟨show s.length≤10 from of_decide_eq_true (ZLL.1 ZDl s ?_),hd2⟩;simp only[ZL2,ZL4,or_false]at hs⊢
  rcases hs with h |h |h |h |h |h |h |h |h |h<;>simp[h]
theorem ZEz {n:Int} (h: -3≤n∧n≤8):(Lib.itoa n).length≤10:=by refine of_decide_eq_true <| ZLL.1 ZCF _ (List.mem_append_left _ (List.mem_map.2 ⟨(n+3).toNat,ZL3.2 (by omega), ?_⟩));rw[show (((n+3).toNat:Nat):Int) - 3=n by omega]
theorem ZHq {n:Int} (h:0≤n∧n < 14):(([107]:Str)++Lib.itoa n).length≤10:=by refine of_decide_eq_true <| ZLL.1 ZCF _ (List.mem_append_right _ (List.mem_map.2 ⟨n.toNat,ZL3.2 (by omega), ?_⟩));rw[show ((n.toNat:Nat):Int)=n by omega]
theorem ZEX {d:ZnG} (hd:ZAn d):wp (ZsO d) (fun r=>ZDd r.1∧ZAn r.2):=by
 unfold ZsO;rw[ZnC];refine ZnI (ZBT hd (by omega)) fun⟨q,d1⟩ ⟨hq,hd1⟩=> ?_
 dsimp only at hq hd1⊢
 rw[Zn3];refine⟨fun _=> ?_,fun _=> ?_⟩
 ·rw[ZnB];exact⟨ZL9 _,hd1⟩
 rw[Zn3];refine⟨fun _=> ?_,fun _=> ?_⟩
 ·rw[ZnC];refine ZnI (ZCU hd1 (by decide) (by decide)) fun⟨s,d2⟩ ⟨hs,hd2⟩=> ?_
  dsimp only at hs hd2⊢
  rw[ZnB];refine⟨show s.length≤10 from of_decide_eq_true (ZLL.1 ZDl s ?_),hd2⟩;simp only[ZL2,ZL4,or_false]at hs⊢
  rcases hs with h |h |h |h<;>simp[h]
 ·rw[ZnC];refine ZnI (ZBT hd1 (by omega)) fun⟨q,d2⟩ ⟨hq,hd2⟩=> ?_
  dsimp only at hq hd2⊢
  unfold Zxr;rw[ZnE,ZnC,ZnB,ZnB];exact⟨ZnH (by omega),ZEz (by omega),hd2⟩
theorem abcd:([([97]:Str),([98]:Str),([99]:Str),([100]:Str)]:List Str).all (fun s=>decide (s.length≤10))=true:=by kernel_rfl
theorem ZEA {n:Int} (h:0≤n∧n < 14):(Lib.itoa n).length≤2:=by
 have h1:((List.range 14).all fun i:Nat=>decide ((Lib.itoa (i:Int)).length≤2))=true:=by kernel_rfl
 have:=of_decide_eq_true (ZLL.1 h1 n.toNat (ZL3.2 (by omega)))
 rwa [show ((n.toNat:Nat):Int)=n by omega]at this
theorem ZDS:(([([105,100]:Str),([110,97,109,101]:Str),([85,110,105,116,32,80,114,105,99,101]:Str),([99,105,116,121]:Str),([117,110,105,116]:Str),([112,114,105,99,101]:Str),([105,100,50]:Str),([]:Str)]:List Str).all fun s=>decide (s.length≤10))=true:=by kernel_rfl
theorem ZCw {d:ZnG} (hd:ZAn d) (rows:Nat) (hr:rows≤14):
  wp (Zqi d (rows:Int)) (fun r=>(r.1.Name.length≤10∧r.1.Cells.length=rows∧∀c∈r.1.Cells,ZDd c)∧ZAn r.2):=by
 unfold Zqi;rw[ZnC];refine ZnI (ZCU hd (by decide) (by decide)) fun⟨nm,d1⟩ ⟨hnm0,hd1⟩=> ?_
 dsimp only at hd1 hnm0⊢
 have hnm:nm.length≤10:=of_decide_eq_true (ZLL.1 ZDS nm hnm0);rw[ZnC];refine ZnI (ZBT hd1 (by omega)) fun⟨kind,d2⟩ ⟨_,hd2⟩=> ?_
 dsimp only at hd2⊢
 rw[ZnC];refine ZnI (Zuj ZzE rows (by omega) (fun i (t:ZnG×List G_api_Cell)=>(kind,(rows:Int),i,t.1,([]:Str),nm,([]:List G_api_Cell),t.2))
  (fun k t=>ZAn t.1∧t.2.length=k∧∀c∈t.2,ZDd c) (Q:=fun x=>x.2.2.1=nm∧ZAn x.1∧x.2.2.2.2.length=rows∧∀c∈x.2.2.2.2,ZDd c) (d2,[]) ⟨hd2,rfl,fun c hc=>absurd hc (by simp)⟩ ?_ ?_) ?_
 ·rintro rec k ⟨d,cs⟩ hk ⟨hd,hlen,hcs⟩ ih;dsimp only at hd hlen hcs ih;have next:∀(x:G_api_Cell) (d':ZnG),ZDd x→ZAn d'→wp (Zpx (fun kind t15 i d t4 c t4_1 c_1=>rec (kind,t15,i,d,t4,c,t4_1,c_1)) kind (rows:Int) (k:Int) d' [] nm x [] cs) (fun x=>x.2.2.1=nm∧ZAn x.1∧x.2.2.2.2.length=rows∧∀c∈x.2.2.2.2,ZDd c):=by
   intro x d' hx hd';unfold Zpx;rw[ZnE,ZnE];refine⟨Zyc (by rw[ZL0];omega),ZnH (by omega),ih (d',cs++[x]) ⟨hd',by dsimp only;rw[ZLW,ZL0];omega,fun c hc=> ?_⟩⟩;rcases List.mem_append.1 hc with hc |hc
   ·exact hcs c hc
   ·obtain rfl:=List.mem_singleton.1 hc;exact hx
  unfold ZuQ Zsy;dsimp only;rw[decide_eq_true (show (k:Int) < (rows:Int) by omega),cond_true,ZnC];refine ZnI (ZHH hd) fun⟨x,d3⟩ ⟨hx,hd3⟩=> ?_
  dsimp only at hx hd3⊢
  rw[Zn3];refine⟨fun _=> ?_,fun _=> ?_⟩
  ·rw[ZnC];exact ZnI (ZEX hd3) fun⟨y,d4⟩ ⟨hy,hd4⟩=>next y d4 hy hd4
  rw[Zn3];refine⟨fun _=> ?_,fun _=> ?_⟩
  ·unfold Zxr;have:=ZEA (n:=(k:Int)) (by omega);rw[ZnC,ZnB,ZnE];exact⟨decide_eq_true (by rw[ZL0];unfold Zq;omega),next _ d3 (ZHq (by omega)) hd3⟩
  rw[Zn3];refine⟨fun _=> ?_,fun _=> ?_⟩
  ·rw[ZnC];exact ZnI (ZCU hd3 (by decide) (by decide)) fun⟨s,d4⟩ ⟨hs,hd4⟩=>next _ d4 (show s.length≤10 from of_decide_eq_true (ZLL.1 abcd s hs)) hd4
  ·exact next x d3 hx hd3
 ·rintro rec ⟨d,cs⟩ ⟨hd,hlen,hcs⟩;unfold ZuQ Zsy;dsimp only at hd hlen hcs⊢
  rw[decide_eq_false (show ¬(rows:Int) < (rows:Int) by omega),cond_false,ZnB];exact⟨rfl,hd,hlen,hcs⟩
 ·rintro⟨d,_,nm',_,cs⟩ ⟨h0,h1,h2,h3⟩;unfold ZvC;dsimp only at h0 h1 h2 h3⊢
  subst h0;rw[ZnB];exact⟨⟨hnm,h2,h3⟩,h1⟩
end Go.Proofs
namespace Go.Proofs
open Go Eng
structure ZIn (a:G_api_Column):Prop where
 rows:a.Cells.length≤60
 cells:ZCA a.Cells
theorem ZC7 {L:List ZnJ} (hL:∀p∈L,ZIn p.e0∧ZIn p.e1) (hlen:L.length≤100):
  wp (Zou big (L.length:Int) 0 L) (fun x=>x= .brk ()):=by
 refine ZAV ZxN L (by omega) (fun i (_:Unit)=>((L.length:Int),i,L)) (fun _ _=>True) () trivial ?_ ?_
 ·rintro rec k _ hk _ ih;unfold Zrd ZpD Zn1;dsimp only;obtain⟨h0,h1⟩:=hL _ (ZLV hk);have r0:=h0.rows;have r1:=h1.rows;have n0:=ZCj L[k].e0.Cells;have n1:=ZCj L[k].e1.Cells;obtain⟨f,e,d1,d2,d3⟩:=ZFf (a:=ZAA L[k].e0.Cells) (b:=ZAA L[k].e1.Cells) ZAS ZAS (by omega) (by omega);obtain⟨g,i1,i2,i3⟩:=ZDU (a:=ZAA L[k].e0.Cells) (b:=ZAA L[k].e1.Cells) ZAS ZAS (by omega) (by omega);rw[decide_eq_true (show (k:Int) < (L.length:Int) by omega),cond_true,Zot hk,chk_true,ZLK,ZLT hk,ZMa,show inR 0 2=true from rfl,show inR 1 2=true from rfl];simp only[chk_true];rw[ZBv h0.cells (by omega),ZMa,ZBv h1.cells (by omega),ZMa,ZBG h0.cells (by omega),ZMa,ZBG h1.cells (by omega),ZMa,d1,ZMa];dsimp only;rw[d2,ZMa];dsimp only;rw[ZCf ZAS (by omega),ZMa,ZLI,cond_false,ZCf ZAS (by omega),ZMa,ZLI,cond_false,d3,ZMa,ZLI,cond_false,show (e != e)=false by simp,cond_false,i1,ZMa,i2,ZMa,i3,ZMa,ZLI,cond_false,ZnE];exact⟨ZnH (by omega),ih () trivial⟩
 ·rintro rec _ _;unfold Zrd ZpD;dsimp only;rw[decide_eq_false (show ¬(L.length:Int) < (L.length:Int) by omega),cond_false,ZnB]
theorem ZBS {a b:G_api_Column} {t:List Int} {q:Bool} (h:q=false→ZIn a∧ZIn b∧t.length≤500):Zov t q a b=some true:=by
 unfold Zov;cases q with
 |true=>rw[cond_true,ZFl];rfl
 |false=>
  obtain⟨h1,h2,h3⟩:=h rfl;refine Zq6 ?_;unfold ZvM;rw[cond_false,ZnC,ZnB,ZnC];have mk:∀(c:G_api_Column) (n:Nat),n≤14→(c.Name.length≤10∧c.Cells.length=n∧∀x∈c.Cells,ZDd x)→ZIn c:=fun c n hn ⟨h1,h2,h3⟩=>⟨by omega,fun x hx=>by have:=h3 x hx;unfold ZDd at this;omega⟩
  refine ZnI (ZCw (d:=⟨t,0⟩) ⟨by simp,by simp,by simp only;omega⟩ 8 (by omega)) ?_;rintro⟨x,d1⟩ ⟨hx,hd1⟩;dsimp only at hx hd1⊢
  rw[ZnC];refine ZnI (ZBT hd1 (n:=9) (by omega)) ?_;rintro⟨q1,d2⟩ ⟨hq1,hd2⟩;dsimp only at hq1 hd2⊢
  obtain⟨m,rfl⟩:∃m:Nat,q1=(m:Int):=⟨q1.toNat,by omega⟩;rw[ZnC];refine ZnI (ZCw hd2 m (by omega)) ?_;rintro⟨y,d3⟩ ⟨hy,hd3⟩;dsimp only at hy hd3⊢
  rw[ZnC];refine ZnI (ZCw hd3 6 (by omega)) ?_;rintro⟨z,d4⟩ ⟨hz,hd4⟩;dsimp only at hz hd4⊢
  have ox:=mk x 8 (by omega) hx;have oy:=mk y m (by omega) hy;have oz:=mk z 6 (by omega) hz;obtain⟨L,hL⟩:∃L:List ZnJ,L=[ZnJ.mk a b,ZnJ.mk x y,ZnJ.mk a z]:=⟨_,rfl⟩;rw[←hL];have hall:∀p∈L,ZIn p.e0∧ZIn p.e1:=by
   intro p hp;rw[hL]at hp;simp only[ZL2,ZL4,or_false]at hp;rcases hp with rfl |rfl |rfl
   ·exact⟨h1,h2⟩
   ·exact⟨ox,oy⟩
   ·exact⟨h1,oz⟩
  rw[ZnC];refine ZnI (ZC7 hall (by rw[hL];show (3:Nat)≤100;omega)) ?_;rintro _ rfl;dsimp only;unfold Zrt;rw[ZFl,ZMa,ZnB]
theorem quantileNumbers_law (a b:G_api_Column) (t:List Int) (ha:ZCA a.Cells) (hb:ZCA b.Cells):Zqw a b t=some true:=by
 unfold Zqw Zvn
 by_cases h1:(a.Cells.length:Int) > 60
 ·rw[decide_eq_true h1,cond_true];exact ZBS (by simp)
 rw[decide_eq_false h1,cond_false]
 by_cases h2:(b.Cells.length:Int) > 60
 ·rw[decide_eq_true h2,cond_true];exact ZBS (by simp)
 rw[decide_eq_false h2,cond_false,ZMa];refine ZBS fun h=> ?_
 simp only[Bool.not_eq_false',decide_eq_true_eq]at h;exact⟨⟨by omega,ha⟩,⟨by omega,hb⟩,by omega⟩
end Go.Proofs
namespace Eng
open Go Go.Lib
theorem globOk_one {Pg:Program} {w:World} {n:String} {g:Nat} {t e:TypeId} {k:IntKind} {z:Int} (hn:Pg.globalNamed n=some g) (hty:(Pg.globals[g]?).map (·.type)=some t)
  (ht:Pg.underlying t=some (.slice e)) (he:Pg.underlying e=some (.int k)) (hce:Pg.cellsOf e=1) (hz:k.min≤z∧z≤k.max)
  (h:VarReads Pg w n (.slice [.lit (.int k z)] [])):Zej w (fun b=>b < w.heap.size) g [P.sl 1 [.int k z]]:=by
 obtain⟨g',t',cs,fuel,p,hg,hty',hvar,hd⟩:=h;obtain rfl:=Option.some.inj (hn.symm.trans hg);obtain rfl:=Option.some.inj (hty.symm.trans hty');rcases DataW.trod_slice ht hd with ⟨_,hx⟩ |⟨a,len,cap,elems,rest,m,_,hcs,hx,_,hl,hcap,hlen,hel,_,_⟩
 ·cases congrArg Prod.fst hx
 ·have e0:=congrArg Prod.fst hx;simp only[DataW.slice.injEq]at e0;obtain⟨e1,_⟩:=e0
  match elems,e1 with
  | [(d,q)],e1=>
   simp only[List.map_cons,List.map_nil,List.cons.injEq,and_true]at e1;subst e1;have hlen1:len=1:=by simpa using hlen.symm
   subst hlen1;obtain⟨ci,hci,htr⟩:=Option.bind_eq_some_iff.1 (hel 0 (by decide));obtain⟨z',hc,hxx,_⟩:=DataW.trod_int he htr;have hzz:z'=z:=by have:=congrArg Prod.fst hxx;simpa using this.symm
   subst hzz;subst hc;rw[hce,Nat.zero_mul]at hci;obtain⟨_,_,hc2⟩:=World.cells?_some hci;have h0:=hc2 0 (by decide);have hb:w.cell? a=some (.int k z'):=by simpa[Addr.add]using h0
   have hspot:a.spot=none:=by
    unfold World.cell? at hb;cases hs:a.spot with
    |none=>rfl
    |some s=>rw[hs]at hb;split at hb<;>simp at hb
   have ha:a=⟨a.block,a.off,none⟩:=by cases a;simp at hspot;subst hspot;rfl
   have hlt:a.block < w.heap.size:=ZjV (by rw[ha]at hb;exact hb);have hcs1:cs.size=1:=by have:=congrArg List.length hcs;simpa using this
   refine ZBh (t:=0) (fr:= #[]) (ZCc hn hvar) _ (by rw[hcs1];rfl) fun j v p hv hp=> ?_
   have hj:j=0:=by have:=(Array.getElem?_eq_some_iff.1 hv).1;omega
   subst hj;simp only[ZLS,ZMc]at hp;subst hp;rw[←Array.getElem?_toList,hcs]at hv;simp only[ZLS,ZMc]at hv;subst hv;refine⟨.sl (some a) 1 cap _ _ (fun _=> .int k z') rfl (by decide) hl (fun i hi=>rfl) (fun i hi=> ?_) (fun i x hx=> ?_),rfl⟩
   ·have hi0:i=0:=by omega
    subst hi0;refine⟨a.block,a.off,by rw[←ha],hlt,fun j v hv=> ?_⟩;have hj:=(Array.getElem?_eq_some_iff.1 hv).1;have hj0:j=0:=by have:(Value.int k z').cells.size=1:=rfl;omega
    subst hj0;have hvv:v= .int k z':=by have:(Value.int k z').cells[0]? =some (.int k z'):=rfl;exact Option.some.inj (hv.symm.trans this)
    subst hvv;rw[ha]at hb;simpa using hb
   ·have hi0:i=0:=by have:=(List.getElem?_eq_some_iff.1 hx).1;simp at this;omega
    subst hi0;simp only[ZLS,ZMc]at hx;subst hx;exact .int k z' hz.1 hz.2
end Eng
namespace Eng
open Go
inductive ZEG (s:List UInt8):P→Prop
 |str:ZEG s (.str s)
 |agg {cs:List P} {c:P} (h:c∈cs) (h':ZEG s c):ZEG s (.agg cs)
 |sl {sz:Nat} {es:List P} {e:P} (h:e∈es) (h':ZEG s e):ZEG s (.sl sz es)
theorem RelP.strs {w:World} {S:Nat→Prop} {s:List UInt8} {x:P} (hs:ZEG s x):∀{v:Value},RelP w S v x→s.length≤Zq:=by
 induction hs with
 |str=>intro v h;cases h;assumption
 |agg hm _ ih=>
  intro v h;cases h with
  |agg vs cs hl h1 h=>
   obtain⟨i,hi,he⟩:=List.mem_iff_getElem.1 hm;have hlt:i < vs.size:=by rw[hl];exact hi
   exact ih (h i vs[i] _ (Array.getElem?_eq_getElem hlt) (by rw[ZLT hi,he]))
 |sl hm _ ih=>
  intro v h;cases h with
  |sl a len cap sz es evs hl hmx hc hsz hcell h=>
   obtain⟨i,hi,he⟩:=List.mem_iff_getElem.1 hm;exact ih (h i _ (by rw[ZLT hi,he]))
inductive ZFn (k:IntKind) (n:Int):P→Prop
 |int:ZFn k n (.int k n)
 |agg {cs:List P} {c:P} (h:c∈cs) (h':ZFn k n c):ZFn k n (.agg cs)
 |sl {sz:Nat} {es:List P} {e:P} (h:e∈es) (h':ZFn k n e):ZFn k n (.sl sz es)
theorem RelP.lens {w:World} {S:Nat→Prop} {sz:Nat} {es:List P} {v:Value} (h:RelP w S v (.sl sz es)):es.length≤281474976710656:=by
 cases h with
 |sl a len cap sz es evs hl hmx hc hsz hcell h=>unfold Zag at hmx;omega
end Eng
namespace Go.Proofs
open Go Eng
theorem ZGz {w:World} {S:Nat→Prop} {v:Value} {y:G_api_Column} (h:RelP w S v (U.encE (.st 1) y)):ZCA y.Cells:=by
 have hm:Zq=9223372036854775807:=by decide
 have h':RelP w S v (ZzF y):=h;unfold ZzF at h';intro x hx;rw[←hm];exact h'.strs (.agg (c:= .sl 2 (y.Cells.map ZyJ)) (by simp) (.sl (List.mem_map.2 ⟨x,hx,rfl⟩) (.agg (by simp) .str)))
end Go.Proofs
