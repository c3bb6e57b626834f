/- Plain laws over the specs, part 2. -/
import Derived.Test.YthefajbigloihaaGreatDoorSmM1
set_option linter.unusedVariables false
set_option linter.unusedSimpArgs false
set_option linter.unusedSectionVars false
open Bool renaming not_true→ZLN, not_false→ZIO
open Int renaming toNat_natCast→ZLO
open List renaming getElem?_eq_getElem→ZLU, length_set→ZLZ, length_cons→ZLY, dropWhile_cons→ZLP, length_singleton→ZL0, getElem?_eq_some_iff→ZLV, getElem?_drop→ZLT, length_append→ZLX, foldl_cons→ZLS, dropWhile_sublist→ZLQ, foldl_append→ZLR, getElem?_take→ZLW, take_append_drop→ZL1
open Nat renaming le_refl→ZL2, le_trans→ZL3, lt_or_eq_of_le→ZL4
open Option renaming some.inj→ZL6, bind_some→ZL5, some.injEq→ZL7
open UInt8 renaming not_lt→ZL8
namespace Go.Proofs
open Go Eng
def is0 (b:UInt8):Bool:=b == 48
def sp (b:UInt8):Bool:=b == 32
def rtr (p:UInt8→Bool) (l:Str):Str:=(l.reverse.dropWhile p).reverse
def lz (D:Str):Str:=bif (D.dropWhile is0).isEmpty then [48]else D.dropWhile is0
def rz (P:Str):Str:=rtr is0 P
def ZD7 (D P:Str):Str:=lz D++(bif (rz P).isEmpty then []else 46::rz P)
def ZGk (x:Bool×Str×Str):Str:=bif x.1&& !(ZD7 x.2.1 x.2.2 == [48])then 45::ZD7 x.2.1 x.2.2 else ZD7 x.2.1 x.2.2
theorem ZCT (p:UInt8→Bool) (P:Str):(rtr p P).length≤P.length:=by unfold rtr;rw[List.length_reverse];exact ZL3 (ZLQ _).length_le (by rw[List.length_reverse];exact ZL2 _)
theorem ZE3 {D:Str} (h:1≤D.length):(lz D).length≤D.length:=by
 unfold lz;cases hd:(D.dropWhile is0).isEmpty with
 |true=>rw[cond_true];exact h
 |false=>rw[cond_false];exact(ZLQ _).length_le
theorem ZCW {D P:Str} (h:1≤D.length) (h2:D.length≤15) (h3:P.length≤9):(ZD7 D P).length≤25:=by
 have h1:=ZE3 h;have h4:=ZCT is0 P;unfold ZD7 rz;rw[ZLX];cases (rtr is0 P).isEmpty with
 |true=>rw[cond_true];simp only[List.length_nil];omega
 |false=>rw[cond_false];simp only[ZLY];omega
theorem ZD0 (p:UInt8→Bool) (l:Str) (b:UInt8):rtr p (l++[b])=bif p b then rtr p l else l++[b]:=by
 unfold rtr;rw[List.reverse_append,List.reverse_singleton,List.singleton_append,ZLP];cases p b with
 |true=>rw[if_pos rfl];rfl
 |false=>rw[if_neg (by simp)];simp
theorem ZD1 (p:UInt8→Bool) (b:UInt8) (l:Str):rtr p (b::l)=bif (rtr p l).isEmpty then (bif p b then []else [b])else b::rtr p l:=by
 unfold rtr;rw[List.reverse_cons];rw[List.dropWhile_append];cases h:l.reverse.dropWhile p with
 |nil=>
  simp only[List.isEmpty_nil,if_true,List.reverse_nil,cond_true];rw[ZLP];cases p b<;>simp
 |cons c r=>
  simp only[List.isEmpty_cons,Bool.false_eq_true,if_false];have:((c::r).reverse).isEmpty=false:=by simp
  rw[this,cond_false];simp
theorem ZDb (p:UInt8→Bool):∀l:Str,(rtr p l).dropWhile p=rtr p (l.dropWhile p)
 | []=>rfl
 |b::l=>by
  have ih:=ZDb p l;rw[ZD1,ZLP];cases hb:p b with
  |true=>
   rw[if_pos rfl,←ih];cases he:rtr p l with
   |nil=>rfl
   |cons c r=>simp only[List.isEmpty_cons,cond_false];rw[ZLP,hb,if_pos rfl]
  |false=>
   rw[if_neg (by simp),ZD1,hb];cases he:rtr p l with
   |nil=>simp only[List.isEmpty_nil,cond_true,cond_false];rw[ZLP,hb,if_neg (by simp)]
   |cons c r=>simp only[List.isEmpty_cons,cond_false];rw[ZLP,hb,if_neg (by simp)]
theorem ZAY (c:UInt8):(fun b:UInt8=>([c]:Str).contains b)=fun b=>b == c:=by funext b;rw[List.contains_cons];simp
def ZCt (s:Str):Str:=(rtr sp s).dropWhile sp
theorem ZFJ (s:Str):Lib.trimS s [32]=ZCt s:=by unfold Lib.trimS Lib.trimLeftS Lib.trimRightS ZCt rtr;rw[ZAY];rfl
theorem ZDD (s:Str):ZyX s=some (ZCt s):=by unfold ZyX Zyt;rw[show (([32]:Str).all fun b=>decide (b.toNat < 128))=true from by decide,chk_true,show decide (([32]:Str).length < 4294967281)=true from by decide,chk_true,ZL5,ZFJ]
theorem ZDc (s:Str):(ZCt s).length≤s.length:=ZL3 (ZLQ _).length_le (ZCT sp s)
theorem ZEm {s:Str} (hl:s.length≤9223372036854775807):ZsV s=some (ZCt s):=by
 refine Zqz ?_;unfold ZsV;rw[ZnC];refine ZnK (ZB2 Zzt (fun(d:Str)=>d) (fun d=>d.dropWhile sp=s.dropWhile sp∧d.length≤s.length) (fun d=>d.length) (Q:=fun x=>x=s.dropWhile sp) s ⟨rfl,ZL2 _⟩ (by omega) ?_) ?_
 ·rintro rec d ⟨hd,hdl⟩ ih;unfold Zxt ZuI Ztv;dsimp only;cases d with
  |nil=>
   rw[show decide ((([]:Str).length:Int) > 0)=false from rfl,cond_false,cond_false,ZnB,←hd];rfl
  |cons b r=>
   simp only[ZLY]at hdl;have e32:(((b.toNat:Nat):Int) == 32)=sp b:=ZBN b 32;rw[decide_eq_true (show (((b::r).length:Nat):Int) > 0 by simp only[ZLY];omega),cond_true,show idx (b::r) 0=some b from rfl,ZL5,e32];rw[ZLP]at hd;cases hb:sp b with
   |true=>
    rw[hb,if_pos rfl]at hd;rw[cond_true,ZnF];exact⟨ZsO (by simp only[ZLY];omega),ih r ⟨hd,by omega⟩ (by simp)⟩
   |false=>
    rw[hb,if_neg (by simp)]at hd;rw[cond_false,ZnB,hd]
 ·rintro x rfl;unfold Zvz;have hl2:(s.dropWhile sp).length≤s.length:=(ZLQ _).length_le;rw[ZnC];refine ZnK (ZB2 Zzs (fun(d:Str)=>d) (fun d=>rtr sp d=rtr sp (s.dropWhile sp)∧d.length≤s.length) (fun d=>d.length) (Q:=fun x=>x=rtr sp (s.dropWhile sp)) (s.dropWhile sp) ⟨rfl,hl2⟩ (by omega) ?_) ?_
  ·rintro rec d ⟨hd,hdl⟩ ih;unfold Zxr ZuH Ztu;dsimp only;rcases List.eq_nil_or_concat d with rfl |⟨q,b,rfl⟩
   ·rw[show decide ((([]:Str).length:Int) > 0)=false from rfl,cond_false,cond_false,ZnB,←hd];rfl
   ·rw[List.concat_eq_append]at*
    have hlen:(q++[b]).length=q.length+1:=by simp
    have hi:idx (q++[b]) ((((q++[b]).length:Nat):Int) - 1)=some b:=by rw[hlen,show (((q.length+1:Nat):Int) - 1)=((q.length:Nat):Int) by omega,ZwV (by omega)];simp
    have e32:(((b.toNat:Nat):Int) == 32)=sp b:=ZBN b 32;rw[ZD0]at hd;rw[decide_eq_true (show (((q++[b]).length:Nat):Int) > 0 by omega),cond_true,ZnF,hi,ZL5,e32];refine⟨ZnJ (by omega), ?_⟩;cases hb:sp b with
    |true=>
     rw[hb,cond_true]at hd;rw[cond_true,ZnF,ZnF];refine⟨ZnJ (by omega),ZsO (by omega), ?_⟩;rw[show ((((q++[b]).length:Nat):Int) - 1).toNat=q.length by omega,List.take_left' rfl];exact ih q ⟨hd,by omega⟩ (by rw[hlen];omega)
    |false=>
     rw[hb,cond_false]at hd;rw[cond_false,ZnB,hd]
  ·rintro x rfl;unfold Zvy;rw[ZnB];unfold ZCt;rw[ZDb]
theorem lz_0 {r:Str} (hr:r≠[]):lz (48::r)=lz r:=by unfold lz;rw[ZLP,show is0 48=true from rfl,if_pos rfl]
theorem ZEX {neg:Bool} {D P:Str} (h1:1≤D.length) (h2:D.length≤15) (h3:P.length≤9):ZrQ neg D P=some (ZGk (neg,D,P)):=by
 have hz:=ZE3 h1;have hr:=ZCT is0 P;refine Zqz ?_;unfold ZrQ;rw[ZnC];refine ZnK (ZqA ZyZ (fun(d:Str)=>(neg,d,P)) (fun d=>lz d=lz D∧1≤d.length∧d.length≤15) (fun d=>d.length) (Q:=fun x=>x=(neg,lz D,P)) D ⟨rfl,h1,h2⟩ (by omega) ?_) ?_
 ·rintro rec d ⟨hd,hd1,hd2⟩ ih;unfold ZwL Zud ZsI;dsimp only;cases d with
  |nil=>simp at hd1
  |cons b r=>
   have e48:(((b.toNat:Nat):Int) == 48)=is0 b:=ZBN b 48;simp only[ZLY]at hd1 hd2;cases r with
   |nil=>
    rw[show decide ((([b]:Str).length:Int) > 1)=false from rfl,cond_false,cond_false,ZnB,←hd];unfold lz;rw[ZLP];cases hb:is0 b with
    |true=>
     have:b=48:=eq_of_beq hb;subst this;rfl
    |false=>rfl
   |cons c r=>
    rw[decide_eq_true (show (((b::c::r).length:Nat):Int) > 1 by simp only[ZLY];omega),cond_true,show idx (b::c::r) 0=some b from rfl,ZL5,e48];cases hb:is0 b with
    |true=>
     have:b=48:=eq_of_beq hb;subst this;rw[lz_0 (by simp)]at hd;rw[cond_true,ZnF];exact⟨ZsO (by simp only[ZLY];omega),ih (c::r) ⟨hd,by simp,by simp only[ZLY]at hd2⊢;omega⟩ (by simp)⟩
    |false=>
     rw[cond_false,ZnB,←hd];unfold lz;rw[ZLP,hb,if_neg (by simp)];rfl
 ·rintro x rfl;dsimp only;unfold ZuD;rw[ZnC];refine ZnK (ZqA ZyY (fun(d:Str)=>(neg,lz D,d)) (fun d=>rz d=rz P∧d.length≤9) (fun d=>d.length) (Q:=fun x=>x=(neg,lz D,rz P)) P ⟨rfl,h3⟩ (by omega) ?_) ?_
  ·rintro rec d ⟨hd,hdl⟩ ih;unfold ZwJ Zuc ZsH;dsimp only;rcases List.eq_nil_or_concat d with rfl |⟨q,b,rfl⟩
   ·rw[show decide ((([]:Str).length:Int) > 0)=false from rfl,cond_false,cond_false,ZnB,←hd];rfl
   ·rw[List.concat_eq_append]at*
    have hlen:(q++[b]).length=q.length+1:=by simp
    have hi:idx (q++[b]) ((((q++[b]).length:Nat):Int) - 1)=some b:=by rw[hlen,show (((q.length+1:Nat):Int) - 1)=((q.length:Nat):Int) by omega,ZwV (by omega)];simp
    have e48:(((b.toNat:Nat):Int) == 48)=is0 b:=ZBN b 48;unfold rz at hd;rw[ZD0]at hd;rw[decide_eq_true (show (((q++[b]).length:Nat):Int) > 0 by omega),cond_true,ZnF,hi,ZL5,e48];refine⟨ZnJ (by omega), ?_⟩;cases hb:is0 b with
    |true=>
     rw[hb,cond_true]at hd;rw[cond_true,ZnF,ZnF];refine⟨ZnJ (by omega),ZsO (by omega), ?_⟩;rw[show ((((q++[b]).length:Nat):Int) - 1).toNat=q.length by omega,List.take_left' rfl];exact ih q ⟨hd,by omega⟩ (by rw[hlen];omega)
    |false=>
     rw[hb,cond_false]at hd;rw[cond_false,ZnB,hd];rfl
  ·rintro x rfl;dsimp only;unfold ZuC ZsG ZsF ZsE;have hol:=ZCW h1 h2 h3;have fin:∀out:Str,out=ZD7 D P→wp (bif neg then (bif (!(out == ([48]:Str)))then chk (decide (([45]:Str).length+out.length≤Zq)) <| some (([45]:Str)++out)else some out)else (bif false then chk (decide (([45]:Str).length+out.length≤Zq)) <| some (([45]:Str)++out)else some out)) (fun x=>x=ZGk (neg,D,P)):=by
    rintro out rfl;unfold ZGk;dsimp only;cases neg with
    |false=>rw[cond_false,cond_false,Bool.false_and,cond_false,ZnB]
    |true=>
     rw[cond_true,Bool.true_and];cases (!(ZD7 D P == [48]))with
     |false=>rw[cond_false,cond_false,ZnB]
     |true=>
      rw[cond_true,cond_true,ZnF,ZnB];exact⟨decide_eq_true (by simp only[ZL0];unfold Zq;omega),rfl⟩
   cases hP:rz P with
   |nil=>
    rw[show (!(([]:Str) == ([]:Str)))=false from rfl,cond_false];exact fin (lz D) (by unfold ZD7;rw[hP];simp)
   |cons c r=>
    have hrl:(c::r).length≤9:=by rw[←hP];exact ZL3 hr h3
    rw[show (!((c::r) == ([]:Str)))=true by simp,cond_true,ZnF,ZnF];refine⟨decide_eq_true (by simp only[ZL0];unfold Zq;omega),decide_eq_true (by rw[ZLX];simp only[ZL0];unfold Zq;omega), ?_⟩;exact fin _ (by unfold ZD7;rw[hP];rfl)
end Go.Proofs
namespace Go.Proofs
open Go Eng
theorem ZGi (a:Str):Zx0 [a,[48]]=some (bif a.isEmpty then [48]else a):=by
 have key:wp (ZvS big ([]:Str) [a,[48]] ((([a,[48]]:List Str).length:Nat):Int) 0) (fun x=>x= .ret (bif a.isEmpty then [48]else a)):=by
  refine Zzy ZAW ([a,[48]]:List Str) (by simp) (fun i (_:Unit)=>(([]:Str),([a,[48]]:List Str),((([a,[48]]:List Str).length:Nat):Int),i)) (fun k _=>k≤1∧(k=1→a=[])) () ⟨by omega,fun h=>by omega⟩ ?_ ?_
  ·rintro rec k _ hk ⟨h1,h2⟩ ih;unfold ZzE Zyj;dsimp only;rw[decide_eq_true (show (k:Int) < ((([a,[48]]:List Str).length:Nat):Int) by omega),cond_true,ZwV hk,ZL5];rcases Nat.eq_zero_or_pos k with rfl |hk0
   ·show wp (bif (!(a == []))then some (Out.ret a)else chk (inK .i64 (((0:Nat):Int)+1)) (rec ([],[a,[48]],((([a,[48]]:List Str).length:Nat):Int),((0:Nat):Int)+1))) _;cases a with
    |nil=>
     rw[show (!(([]:Str) == ([]:Str)))=false from rfl,cond_false,ZnF];exact⟨by decide,ih () ⟨by omega,fun _=>rfl⟩⟩
    |cons b r=>
     rw[show (!((b::r) == ([]:Str)))=true by simp,cond_true,ZnB];rfl
   ·obtain rfl:k=1:=by omega
    have ha:=h2 rfl;subst ha;show wp (bif (!(([48]:Str) == []))then some (Out.ret ([48]:Str))else chk (inK .i64 (((1:Nat):Int)+1)) (rec ([],[[],[48]],((([([]:Str),[48]]:List Str).length:Nat):Int),((1:Nat):Int)+1))) _;rw[show (!(([48]:Str) == ([]:Str)))=true from rfl,cond_true,ZnB];rfl
  ·rintro rec _ ⟨h1,_⟩;simp only[ZLY,List.length_nil]at h1;omega
 unfold Zx0;obtain⟨x,hx,rfl⟩:=key;rw[hx,ZL5]
theorem ZFQ (t:Str):(ZCS t).2.length≤t.length:=by
 unfold ZCS;cases t with
 |nil=>exact ZL2 _
 |cons b r=>
  dsimp only;cases b == 45 with
  |true=>rw[cond_true];simp
  |false=>
   rw[cond_false];cases b == 43 with
   |true=>rw[cond_true];simp
   |false=>rw[cond_false];exact ZL2 _
theorem Zz5 {t:Str} {x:Bool×Str×Str} (h:ZAx t=some x):x.1=(ZCS t).1∧ZAk (ZCS t).2=some x.2:=by
 unfold ZAx at h;cases hb:ZAk (ZCS t).2 with
 |none=>rw[hb]at h;cases h
 |some y=>
  rw[hb]at h;simp only[Option.map_some,ZL7]at h;subst h;exact⟨rfl,rfl⟩
theorem ZEy {b:Str} {x:Str×Str} (h:ZAk b=some x):∃c r,b=c::r∧isD c=true:=by
 have hok:=Zzj h;rw[ZBq]at h;cases b with
 |nil=>simp[okD]at h
 |cons c r=>
  refine⟨c,r,rfl, ?_⟩;cases hc:n46 c with
  |false=>
   rw[List.takeWhile_cons,hc]at h;simp[okD]at h
  |true=>
   cases hcc:(okD ((c::r).takeWhile n46) 15&&(((c::r).dropWhile n46).isEmpty||okD ((c::r).dropWhile n46).tail 9))with
   |false=>rw[hcc,cond_false]at h;cases h
   |true=>
    rw[Bool.and_eq_true]at hcc;have h1:=hcc.1;unfold okD at h1;rw[List.takeWhile_cons,hc,if_pos rfl,List.all_cons]at h1;simp only[Bool.and_eq_true]at h1;exact h1.2.1
theorem ZIP (b:UInt8):([43,45]:Str).contains b=((b == 45)||(b == 43)):=by rw[List.contains_cons,List.contains_cons];simp only[List.contains_nil,Bool.or_false];exact Bool.or_comm _ _
theorem ZI3 {b:UInt8} (h:isD b=true):((b == 45)||(b == 43))=false:=by
 cases h1:b == 45 with
 |true=>rw[eq_of_beq h1]at h;exact absurd h (by decide)
 |false=>
  cases h2:b == 43 with
  |true=>rw[eq_of_beq h2]at h;exact absurd h (by decide)
  |false=>rfl
theorem ZFI {t:Str} {x:Bool×Str×Str} (h:ZAx t=some x):Lib.trimLeftS t [43,45]=(ZCS t).2∧∃b r,t=b::r∧(b == 45)=x.1:=by
 obtain⟨h1,h2⟩:=Zz5 h;obtain⟨c,r,hc,hd⟩:=ZEy h2;have hpm:=ZI3 hd;unfold Lib.trimLeftS;rw[show (fun b:UInt8=>([43,45]:Str).contains b)=fun b=>(b == 45)||(b == 43)from funext ZIP];have stop:(c::r).dropWhile (fun b=>(b == 45)||(b == 43))=c::r:=by rw[ZLP,hpm,if_neg (by simp)]
 rw[h1];cases t with
 |nil=>unfold ZCS at hc;cases hc
 |cons b s=>
  unfold ZCS at hc⊢
  dsimp only at hc⊢
  rw[ZLP];cases h45:b == 45 with
  |true=>
   rw[h45,cond_true]at hc;dsimp only at hc;rw[cond_true,Bool.true_or,if_pos rfl,hc];exact⟨stop,b,_,rfl,h45⟩
  |false=>
   rw[h45,cond_false]at hc;rw[cond_false,Bool.false_or];cases h43:b == 43 with
   |true=>
    rw[h43,cond_true]at hc;dsimp only at hc;rw[cond_true,if_pos rfl,hc];exact⟨stop,b,_,rfl,h45⟩
   |false=>
    rw[cond_false,if_neg (by simp)];exact⟨rfl,b,_,rfl,h45⟩
theorem ZDN {t:Str} (hl:t.length≤9223372036854775807):Zwt t=some (match ZAx t with |some x=>(ZGk x,true) |none=>([],false)):=by
 unfold Zwt;rw[ZCF hl,ZL5];cases hp:ZAx t with
 |none=>rfl
 |some x=>
  obtain⟨neg,D,P⟩:=x;obtain⟨h1,h2⟩:=Zz5 hp;obtain⟨ht,b,r,hbr,hb45⟩:=ZFI hp;have hok:=Zzj h2;have hsl:=ZFQ t;dsimp only at h1 hb45⊢
  have hpc:=ZBq (ZCS t).2;rw[h2]at hpc;have hDP:D=(ZCS t).2.takeWhile n46∧P=((ZCS t).2.dropWhile n46).tail:=by
   cases hcc:(okD ((ZCS t).2.takeWhile n46) 15&&(((ZCS t).2.dropWhile n46).isEmpty||okD ((ZCS t).2.dropWhile n46).tail 9))with
   |false=>rw[hcc,cond_false]at hpc;cases hpc
   |true=>
    rw[hcc,cond_true]at hpc;simp only[ZL7,Prod.mk.injEq]at hpc;exact hpc
  unfold Zxx ZyB;rw[ZLN,cond_false,show (([43,45]:Str).all fun b=>decide (b.toNat < 128))=true from by decide,chk_true,show decide (([43,45]:Str).length < 4294967281)=true from by decide,chk_true,ZL5,ht,ZjU (by omega),ZL5];dsimp only;rw[←hDP.1,←hDP.2,show (([48]:Str).all fun b=>decide (b.toNat < 128))=true from by decide,chk_true,show decide (([48]:Str).length < 4294967281)=true from by decide,chk_true,ZL5,chk_true,chk_true,ZL5];have e1:Lib.trimLeftS D [48]=D.dropWhile is0:=by unfold Lib.trimLeftS;rw[ZAY];rfl
  have e2:Lib.trimRightS P [48]=rz P:=by unfold Lib.trimRightS rz rtr;rw[ZAY];rfl
  rw[e1,e2,ZGi,ZL5];show (bif (!(rz P == ([]:Str)))then _ else ZsP t (lz D))=_;have hd1:=hok.d1;have hd2:=hok.d2;have hp9:=hok.p;have hol:=ZCW hd1 hd2 hp9;have hzl:=ZE3 hd1;have hrl:=ZCT is0 P;have fin:∀out:Str,out=ZD7 D P→ZsP t out=some (ZGk (neg,D,P),true):=by
   rintro out rfl;unfold ZsP Zxk Zxj ZGk;have e45:(((b.toNat:Nat):Int) == 45)=neg:=(ZBN b 45).trans hb45;rw[hbr,show idx (b::r) 0=some b from rfl,ZL5,e45];dsimp only;cases neg with
   |false=>rw[cond_false,cond_false,Bool.false_and,cond_false]
   |true=>
    rw[cond_true,Bool.true_and];cases (!(ZD7 D P == [48]))with
    |false=>rw[cond_false,cond_false]
    |true=>
     rw[cond_true,cond_true,decide_eq_true (by simp only[ZL0];unfold Zq;omega),chk_true];rfl
  cases hP:rz P with
  |nil=>
   rw[show (!(([]:Str) == ([]:Str)))=false from rfl,cond_false];exact fin (lz D) (by unfold ZD7;rw[hP];simp)
  |cons c s=>
   have hrl':(c::s).length≤9:=by rw[←hP];exact ZL3 hrl hp9
   rw[show (!((c::s) == ([]:Str)))=true by simp,cond_true,decide_eq_true (show ([46]:Str).length+(c::s).length≤Zq by simp only[ZL0];unfold Zq;omega),chk_true];show chk (decide ((lz D).length+(([46]:Str)++(c::s)).length≤Zq)) (ZsP t (lz D++(([46]:Str)++(c::s))))=_;rw[decide_eq_true (by rw[ZLX];simp only[ZL0];unfold Zq;omega),chk_true];exact fin _ (by unfold ZD7;rw[hP];rfl)
theorem ZGj {x:Bool×Str×Str} (h:ZCr x.2.1 x.2.2):(ZGk x).length≤26:=by
 have:=ZCW h.d1 h.d2 h.p;unfold ZGk;cases (x.1&& !(ZD7 x.2.1 x.2.2 == [48]))with
 |true=>rw[cond_true];simp only[ZLY];omega
 |false=>rw[cond_false];omega
def ZBg (s:Str):Option Str:=(ZAx (ZCt s)).map ZGk
def ZGr (s:Str):Option Rat:=match ZBg s with
 |some t=>(ZAx t).map ZHL
 |none=>none
theorem ZCH {s t:Str} (h:ZBg s=some t):t.length≤26:=by
 unfold ZBg at h;cases hp:ZAx (ZCt s)with
 |none=>rw[hp]at h;cases h
 |some x=>
  rw[hp]at h;simp only[Option.map_some,ZL7]at h;subst h;obtain⟨_,h2⟩:=Zz5 hp;exact ZGj (Zzj (D:=x.2.1) (P:=x.2.2) h2)
theorem ZFk {s:Str} (hl:s.length≤9223372036854775807):ZuR 4 s=some (match ZBg s with |some t=>(t,true) |none=>([],false)):=by
 have h:ZuR 4 s=(ZyX s).bind fun q=>(Zwt q).bind fun(a,b)=>some (a,b):=by kernel_rfl
 have hl2:=ZDc s;rw[h,ZDD,ZL5,ZDN (by omega),ZL5];unfold ZBg;cases ZAx (ZCt s)<;>rfl
theorem ZEF {s:Str} (hl:s.length≤9223372036854775807):ZyG 4 s=some (match ZGr s with |some q=>(fOf q,true) |none=>(zf,false)):=by
 have h:ZyG 4 s=(ZuR 4 s).bind fun(t,ok)=>bif (!ok)then some (zf,false)else (Ztj t).bind fun(a,b)=>some (a,b):=by kernel_rfl
 rw[h,ZFk hl,ZL5];unfold ZGr;cases hc:ZBg s with
 |none=>rfl
 |some t=>
  have:=ZCH hc;dsimp only;rw[ZLN,cond_false,ZCF (by omega),ZL5];cases ZAx t<;>rfl
theorem ZDH {s:Str} (hl:s.length≤9223372036854775807):Zso 4 s=some (match ZGr s with |some q=>(fOf q,true) |none=>(zf,false)):=by
 have hcan:ZqL 4 s=some (match ZBg s with |some t=>(t,true) |none=>([],false)):=by
  have hl2:=ZDc s;unfold ZqL Zrl;rw[ZEm hl,ZL5,show ((4:Int) == 1)=false from rfl,show ((4:Int) == 2)=false from rfl,show ((4:Int) == 3)=false from rfl,show ((4:Int) == 4)=true from rfl];simp only[cond_false,cond_true];rw[ZD6 (by omega),ZL5];unfold ZBg;cases hp:ZAx (ZCt s)with
  |none=>rfl
  |some x=>
   obtain⟨_,h2⟩:=Zz5 hp;have hok:=Zzj (D:=x.2.1) (P:=x.2.2) h2;dsimp only;unfold ZpZ;rw[cond_true,cond_true,ZEX hok.d1 hok.d2 hok.p,ZL5];rfl
 unfold Zso ZsU;rw[hcan,ZL5];unfold ZGr;cases hc:ZBg s with
 |none=>rfl
 |some t=>
  have:=ZCH hc;dsimp only;rw[ZLN,cond_false,show ((4:Int) == 1)=false from rfl,show ((4:Int) == 2)=false from rfl,show ((4:Int) == 5)=false from rfl];simp only[cond_false];rw[ZCV (by omega),ZL5];cases ZAx t<;>rfl
def ZCu (c:G_api_Cell):Option Rat:=bif c.Null then none else ZGr c.Text
theorem ZDJ {c:G_api_Cell} (hl:c.Text.length≤9223372036854775807):Zz0 c=some (match ZCu c with |some q=>(fOf q,true) |none=>(bif c.Null then fOf 0 else zf,false)):=by
 unfold Zz0 ZCu;cases c.Null with
 |true=>rw[cond_true,ZED,ZL5];rfl
 |false=>
  rw[cond_false,ZEF hl,ZL5];cases ZGr c.Text<;>rfl
theorem ZDg {c:G_api_Cell} (hl:c.Text.length≤9223372036854775807):ZrO c=some (match ZCu c with |some q=>(fOf q,true) |none=>(zf,false)):=by
 unfold ZrO ZCu;cases c.Null with
 |true=>rfl
 |false=>
  rw[cond_false,ZDH hl,ZL5];cases ZGr c.Text<;>rfl
theorem ZHK {x:Bool×Str×Str} (h:ZCr x.2.1 x.2.2):Sz 80 (ZHL x):=by have hd:=h.d2;have hp:=h.p;have hnum:ZAR (x.2.1++x.2.2) < 2 ^ 80:=ZA0 (by rw[List.all_append,h.dd,h.pp];rfl) (by rw[ZLX];omega);have hpw:=ZBb (show x.2.2.length≤24 by omega);have h0:=Nat.pow_pos (n:=x.2.2.length) (show 0 < 10 by decide);unfold ZHL;refine ZB5 (by omega) ?_ (by omega);split<;>omega
theorem ZC2 {c:G_api_Cell} {q:Rat} (h:ZCu c=some q):Sz 80 q:=by
 unfold ZCu at h;cases hn:c.Null with
 |true=>rw[hn]at h;cases h
 |false=>
  rw[hn,cond_false]at h;unfold ZGr at h;cases hc:ZBg c.Text with
  |none=>rw[hc]at h;cases h
  |some t=>
   rw[hc]at h;dsimp only at h;cases hp:ZAx t with
   |none=>rw[hp]at h;cases h
   |some x=>
    rw[hp]at h;simp only[Option.map_some,ZL7]at h;subst h;obtain⟨_,h2⟩:=Zz5 hp;exact ZHK (Zzj (D:=x.2.1) (P:=x.2.2) h2)
end Go.Proofs
namespace Go.Proofs
open Go Eng
def ZK2 (h:Int) (c:UInt8):Int:=IntKind.wrap .u64 ((xorK .u64 h (IntKind.wrap .u64 ((c.toNat:Nat):Int)))*1099511628211)
def Zzl (s:Str):Int:=s.foldl ZK2 14695981039346656037
theorem ZFg {α σ τ X:Type} {f:Nat→σ→Option X} {body:(σ→Option X)→σ→Option X} (hf:∀n s,f (n+1) s=body (f n) s)
  (xs:List α) (hlen:xs.length≤9223372036854775807) (st:Int→τ→σ) (P:Nat→τ→Prop) {Q:X→Prop} (t0:τ) (h0:P 0 t0)
  (step:∀(rec:σ→Option X) (k:Nat) t (h:k < xs.length),P k t→(∀t',P (k+1) t'→wp (rec (st ((k:Int)+1) t')) Q)→wp (body rec (st (k:Int) t)) Q)
  (fin:∀(rec:σ→Option X) t,P xs.length t→wp (body rec (st (xs.length:Int) t)) Q):wp (f big (st 0 t0)) Q:=by
 have key:∀(n k:Nat) t,k≤xs.length→P k t→xs.length - k < n→wp (f n (st (k:Int) t)) Q:=by
  intro n
  induction n with
  |zero=>intro k t _ _ h;omega
  |succ n ih=>
   intro k t hk hP hm;rw[hf]
   by_cases hlt:k < xs.length
   ·refine step _ k t hlt hP fun t' h'=> ?_
    exact ih (k+1) t' (by omega) h' (by omega)
   ·have:k=xs.length:=by omega
    subst this;exact fin _ t hP
 exact key big 0 t0 (Nat.zero_le _) h0 (by rw[big_eq];omega)
theorem ZCZ {s:Str} (hs:s.length≤9223372036854775807):ZvL s=some (Zzl s):=by
 refine Zqz ?_;unfold ZvL;rw[ZnC];refine ZnK (ZFg ZBj s (by omega) (fun i (h:Int)=>(s,h,(s.length:Int),i)) (fun k h=>h=Zzl (s.take k)) (Q:=fun x=>x=Zzl s) 14695981039346656037 rfl ?_ ?_) ?_
 ·rintro rec k h hk rfl ih;unfold ZyJ Zxz;dsimp only;rw[decide_eq_true (show (k:Int) < (s.length:Int) by omega),cond_true,ZwV hk,ZnC,ZnB,ZnF];refine⟨ZnJ (by omega),ih _ ?_⟩;rw[List.take_succ_eq_append_getElem hk];unfold Zzl;rw[ZLR];rfl
 ·rintro rec h rfl;unfold ZyJ Zxz;dsimp only;rw[decide_eq_false (show ¬(s.length:Int) < (s.length:Int) by omega),cond_false,ZnB,List.take_length]
 ·rintro _ rfl;unfold Zzx;rw[ZnB]
theorem ZCz {s:Str} (hs:s.length≤9223372036854775807):Zri s=some (Zzl s):=by
 refine Zqz ?_;unfold Zri;rw[ZnC];refine ZnK (ZFg Zzr s (by omega) (fun i (h:Int)=>(s,h,i)) (fun k h=>h=Zzl (s.take k)) (Q:=fun x=>x=Zzl s) 14695981039346656037 rfl ?_ ?_) ?_
 ·rintro rec k h hk rfl ih;unfold ZuA ZsD;dsimp only;rw[decide_eq_true (show (k:Int) < (s.length:Int) by omega),cond_true,ZwV hk,ZnC,ZnB,ZnF];refine⟨ZnJ (by omega),ih _ ?_⟩;rw[List.take_succ_eq_append_getElem hk];unfold Zzl;rw[ZLR];rfl
 ·rintro rec h rfl;unfold ZuA ZsD;dsimp only;rw[decide_eq_false (show ¬(s.length:Int) < (s.length:Int) by omega),cond_false,ZnB,List.take_length]
 ·rintro _ rfl;unfold Zvu;rw[ZnB]
theorem ZFj:∀a:List UInt8,Lib.compareBytes a a=0
 | []=>rfl
 |x::a=>by unfold Lib.compareBytes;rw[if_neg (UInt8.lt_irrefl x),if_neg (UInt8.lt_irrefl x),ZFj a]
theorem ZC3:∀{a b:List UInt8},Lib.compareBytes a b=0→a=b
 | [],[],_=>rfl
 | [],_::_,h=>by simp[Lib.compareBytes]at h
 |_::_,[],h=>by simp[Lib.compareBytes]at h
 |x::a,y::b,h=>by
  unfold Lib.compareBytes at h;split at h
  ·simp at h
  ·rename_i h1;split at h
   ·simp at h
   ·rename_i h2;have:x=y:=UInt8.le_antisymm (ZL8.1 h2) (ZL8.1 h1);rw[this,ZC3 h]
theorem ZGI:∀a b:List UInt8,Lib.compareBytes b a= - Lib.compareBytes a b
 | [],[]=>by simp[Lib.compareBytes]
 | [],_::_=>by simp[Lib.compareBytes]
 |_::_,[]=>by simp[Lib.compareBytes]
 |x::a,y::b=>by
  unfold Lib.compareBytes
  by_cases h1:x < y
  ·rw[if_pos h1,if_neg (fun h=>UInt8.lt_asymm h1 h),if_pos h1];rfl
  ·by_cases h2:y < x
   ·rw[if_pos h2,if_neg h1,if_pos h2]
   ·rw[if_neg h1,if_neg h2,if_neg h2,if_neg h1,ZGI a b]
theorem ZEf:∀{a b c:List UInt8},Lib.compareBytes a b < 0→Lib.compareBytes b c < 0→Lib.compareBytes a c < 0
 | [],[],_,h,_=>by simp[Lib.compareBytes]at h
 | [],_::_,[],_,h=>by simp[Lib.compareBytes]at h
 | [],_::_,_::_,_,_=>by simp[Lib.compareBytes]
 |_::_,[],_,h,_=>by simp[Lib.compareBytes]at h
 |_::_,_::_,[],_,h=>by simp[Lib.compareBytes]at h
 |x::a,y::b,z::c,h1,h2=>by
  unfold Lib.compareBytes at h1 h2⊢
  by_cases hxy:x < y
  ·by_cases hyz:y < z
   ·rw[if_pos (UInt8.lt_trans hxy hyz)];decide
   ·rw[if_neg hyz]at h2
    by_cases hzy:z < y
    ·rw[if_pos hzy]at h2;simp at h2
    ·have:y=z:=UInt8.le_antisymm (ZL8.1 hzy) (ZL8.1 hyz);subst this;rw[if_pos hxy];decide
  ·rw[if_neg hxy]at h1
   by_cases hyx:y < x
   ·rw[if_pos hyx]at h1;simp at h1
   ·have:x=y:=UInt8.le_antisymm (ZL8.1 hyx) (ZL8.1 hxy);subst this;rw[if_neg (UInt8.lt_irrefl x)]at h1
    by_cases hyz:x < z
    ·rw[if_pos hyz];decide
    ·rw[if_neg hyz]at h2⊢
     by_cases hzy:z < x
     ·rw[if_pos hzy]at h2;simp at h2
     ·rw[if_neg hzy]at h2⊢
      exact ZEf h1 h2
def ZuQ (a b:ZnA):Int:=if a.Hash < b.Hash then -1 else if a.Hash > b.Hash then 1 else Lib.compareBytes a.Key b.Key
theorem ZET (a b:Int):Zzi [a,b]=some (if a≠0 then a else b):=by
 obtain⟨n,hn⟩:=ZC4 3 (by omega);have e0:idx [a,b] 0=some a:=rfl;have e1:idx [a,b] 1=some b:=rfl;have l:((([a,b]:List Int).length:Nat):Int)=2:=rfl;have s1:∀rec,ZtT rec 0 [a,b] 2 0=if a≠0 then some (.ret a)else rec 0 [a,b] 2 1:=by
  intro rec;unfold ZtT;rw[e0,show decide ((0:Int) < 2)=true from rfl,cond_true,ZL5]
  by_cases h:a=0
  ·rw[if_neg (by simp[h]),show (a != 0)=false by simp[h],cond_false];rfl
  ·rw[if_pos h,show (a != 0)=true by simpa using h,cond_true]
 have s2:∀rec,ZtT rec 0 [a,b] 2 1=if b≠0 then some (.ret b)else rec 0 [a,b] 2 2:=by
  intro rec;unfold ZtT;rw[e1,show decide ((1:Int) < 2)=true from rfl,cond_true,ZL5]
  by_cases h:b=0
  ·rw[if_neg (by simp[h]),show (b != 0)=false by simp[h],cond_false];rfl
  ·rw[if_pos h,show (b != 0)=true by simpa using h,cond_true]
 have s3:∀rec,ZtT rec 0 [a,b] 2 2=some (.brk 0):=fun rec=>rfl
 have u:∀m t i,Zx1 (m+1) 0 [a,b] t i=ZtT (Zx1 m) 0 [a,b] t i:=fun _ _ _=>rfl
 unfold Zzi Zz4;rw[hn,l,u (n+2),s1]
 by_cases h:a=0
 ·rw[if_neg (by simp[h]),if_neg (by simp[h]),u (n+1),s2]
  by_cases h2:b=0
  ·rw[if_neg (by simp[h2]),u n,s3,h2];rfl
  ·rw[if_pos h2];rfl
 ·rw[if_pos h,if_pos h];rfl
theorem ZwU (a b:ZnA):ZoH a b=some (ZuQ a b):=by
 unfold ZoH Zwp ZvR Zx6 ZqY ZuQ;simp only[bne_self_eq_false,ZL5,cond_false]
 by_cases h1:a.Hash < b.Hash
 ·rw[decide_eq_true h1,cond_true,ZL5,ZET,if_pos h1,if_pos (by decide)];rfl
 ·by_cases h2:a.Hash > b.Hash
  ·rw[decide_eq_false h1,cond_false,decide_eq_true h2,cond_true,ZL5,ZET,if_neg h1,if_pos h2,if_pos (by decide)];rfl
  ·rw[decide_eq_false h1,cond_false,decide_eq_false h2,cond_false,ZL5,ZET,if_neg h1,if_neg h2,if_neg (by decide)];rfl
def ZAN (a:ZnA):Prop:=a.Hash=Zzl a.Key
def ltE (a b:ZnA):Bool:=decide (ZuQ a b < 0)
theorem Zx7 (a b:ZnA):ZuQ b a= - ZuQ a b:=by
 unfold ZuQ
 by_cases h1:a.Hash < b.Hash
 ·rw[if_pos h1,if_neg (by omega),if_pos (by omega)];rfl
 ·by_cases h2:a.Hash > b.Hash
  ·rw[if_pos (show b.Hash < a.Hash from h2),if_neg h1,if_pos h2]
  ·rw[if_neg h1,if_neg h2,if_neg (by omega),if_neg (by omega),ZGI]
theorem ZBC {a b c:ZnA} (h1:ZuQ a b < 0) (h2:ZuQ b c < 0):ZuQ a c < 0:=by
 unfold ZuQ at*
 by_cases e1:a.Hash < b.Hash
 ·by_cases e2:b.Hash < c.Hash
  ·rw[if_pos (by omega)];decide
  ·rw[if_neg e2]at h2
   by_cases e3:b.Hash > c.Hash
   ·rw[if_pos e3]at h2;simp at h2
   ·rw[if_pos (by omega)];decide
 ·rw[if_neg e1]at h1
  by_cases e4:a.Hash > b.Hash
  ·rw[if_pos e4]at h1;simp at h1
  ·rw[if_neg e4]at h1
   by_cases e2:b.Hash < c.Hash
   ·rw[if_pos (by omega)];decide
   ·rw[if_neg e2]at h2
    by_cases e3:b.Hash > c.Hash
    ·rw[if_pos e3]at h2;simp at h2
    ·rw[if_neg e3]at h2;rw[if_neg (by omega),if_neg (by omega)];exact ZEf h1 h2
theorem ZAy {a b:ZnA} (h:ZuQ a b=0):a.Key=b.Key:=by
 unfold ZuQ at h;split at h
 ·simp at h
 ·split at h
  ·simp at h
  ·exact ZC3 h
theorem ZDj {a b:ZnA} (h:a.Key=b.Key) (ha:ZAN a) (hb:ZAN b):ZuQ a b=0:=by
 have e:a.Hash=b.Hash:=by rw[ha,hb,h]
 unfold ZuQ;rw[if_neg (by omega),if_neg (by omega),h,ZFj]
end Go.Proofs
namespace Go.Proofs
open Go Eng
def ZAX (p:G_api_Cell×G_api_Cell):Option (Str×Rat):=if p.1.Null then none else (ZCu p.2).map fun q=>(p.1.Text,q)
def ZwG (K V:List G_api_Cell):List (Str×Rat):=(K.zip V).filterMap ZAX
def ZAa (ks:List Str) (r:Str×Rat):List Str:=if r.1∈ks then ks else ks++[r.1]
def ZAJ (R:List (Str×Rat)):List Str:=R.foldl ZAa []
def cnt (R:List (Str×Rat)) (k:Str):Nat:=R.countP fun r=>r.1 == k
def ZAT (k:Str) (s:Rat) (r:Str×Rat):Rat:=if r.1=k then s+r.2 else s
def sm (R:List (Str×Rat)) (k:Str):Rat:=R.foldl (ZAT k) 0
def En (R:List (Str×Rat)) (k:Str):ZnA:=⟨k,Zzl k,(cnt R k:Int),fOf (sm R k)⟩
theorem ZBv (R:List (Str×Rat)) (r:Str×Rat):ZAJ (R++[r])=ZAa (ZAJ R) r:=by unfold ZAJ;rw[ZLR];rfl
theorem ZCR (R:List (Str×Rat)) (r:Str×Rat) (k:Str):sm (R++[r]) k=ZAT k (sm R k) r:=by unfold sm;rw[ZLR];rfl
theorem ZB0 (R:List (Str×Rat)) (r:Str×Rat) (k:Str):cnt (R++[r]) k=cnt R k+if r.1=k then 1 else 0:=by
 unfold cnt;rw[List.countP_append,List.countP_singleton]
 by_cases h:r.1=k
 ·rw[if_pos h,if_pos (by simpa using h)]
 ·rw[if_neg h,if_neg (by simpa using h)]
theorem ZCY {ks:List Str} (h:ks.Nodup) (r:Str×Rat):(ZAa ks r).Nodup:=by
 unfold ZAa;split
 ·exact h
 ·rename_i hn;rw[List.nodup_append];refine⟨h,by simp,fun a ha b hb=> ?_⟩;obtain rfl:=List.mem_singleton.1 hb;rintro rfl;exact hn ha
theorem ZBu:∀(R:List (Str×Rat)) (ks:List Str),ks.Nodup→(R.foldl ZAa ks).Nodup
 | [],_,h=>h
 |r::R,ks,h=>by rw[ZLS];exact ZBu R _ (ZCY h r)
theorem ZBH (R:List (Str×Rat)):(ZAJ R).Nodup:=ZBu R [] List.nodup_nil
theorem ZEq {ks:List Str} {r:Str×Rat} {k:Str}:k∈ZAa ks r↔k∈ks∨k=r.1:=by
 unfold ZAa;split;rotate_left;simp;rename_i h;constructor
 ·exact .inl
 ·rintro(h1 |rfl)
  ·exact h1
  ·exact h
theorem ZCd:∀(R:List (Str×Rat)) (ks:List Str) (k:Str),k∈R.foldl ZAa ks↔k∈ks∨∃r∈R,k=r.1
 | [],_,k=>by simp
 |r::R,ks,k=>by rw[ZLS,ZCd R _ k,ZEq];simp only[List.mem_cons,exists_eq_or_imp,or_assoc]
theorem ZEc {R:List (Str×Rat)} {k:Str}:k∈ZAJ R↔∃r∈R,k=r.1:=by unfold ZAJ;rw[ZCd];simp
theorem ZCf:∀(R:List (Str×Rat)) (ks:List Str),(R.foldl ZAa ks).length≤ks.length+R.length
 | [],_=>by simp
 |r::R,ks=>by
  rw[ZLS];refine ZL3 (ZCf R _) ?_;unfold ZAa;split
  ·rw[ZLY];omega
  ·rw[ZLY,ZLX,ZL0];omega
theorem ZBY (R:List (Str×Rat)):(ZAJ R).length≤R.length:=by have:=ZCf R [];unfold ZAJ;simpa using this
theorem ZKM {R:List (Str×Rat)} (h:∀r∈R,Sz 80 r.2) (k:Str):∀(s:Rat) (n:Nat),Sz (81*n+1) s→Sz (81*(n+R.length)+1) (R.foldl (ZAT k) s):=by
 induction R with
 |nil=>intro s n hs;exact hs
 |cons r R ih=>
  intro s n hs;rw[ZLS,ZLY,show n+(R.length+1)=(n+1)+R.length by omega];refine ih (fun r hr=>h r (by simp[hr])) _ (n+1) ?_;unfold ZAT;split
  ·exact(hs.add (h r (by simp))).mono (by omega)
  ·exact hs.mono (by omega)
theorem ZEJ {R:List (Str×Rat)} (h:∀r∈R,Sz 80 r.2) (k:Str):Sz (81*R.length+1) (sm R k):=by have:=ZKM h k 0 0 ZG8;rw[Nat.zero_add]at this;exact this
theorem ZCU {K V:List G_api_Cell}:∀r∈ZwG K V,Sz 80 r.2:=by
 intro r hr;obtain⟨p,_,h⟩:=List.mem_filterMap.1 hr;unfold ZAX at h;split at h
 ·simp at h
 ·obtain⟨q,hq,rfl⟩:=Option.map_eq_some_iff.1 h;exact ZC2 hq
theorem ZGJ {R:List (Str×Rat)} {k:Str} (h:k∉ZAJ R):cnt R k=0∧sm R k=0:=by
 have hn:∀r∈R,¬r.1=k:=fun r hr e=>h (ZEc.2 ⟨r,hr,e.symm⟩)
 constructor
 ·unfold cnt;rw[List.countP_eq_zero];intro r hr;simpa using hn r hr
 ·have key:∀(R:List (Str×Rat)) (s:Rat),(∀r∈R,¬r.1=k)→R.foldl (ZAT k) s=s:=by
   intro R
   induction R with
   |nil=>intro s _;rfl
   |cons r R ih=>
    intro s h;rw[ZLS,show ZAT k s r=s from if_neg (h r (by simp))];exact ih s fun x hx=>h x (by simp[hx])
  exact key R 0 hn
def mpo:Int→List Str→List (Str×Int)
 |_,[]=>[]
 |o,k::r=>(k,o)::mpo (o+1) r
theorem ZDo (k:Str) (v:Int) (m:List (Str×Int)) (s:Str):Zg3 (k:= .str) (v:=(.int .i64)) (car:=ZyW) ((k,v)::m) s=if s == k then some v else Zg3 (k:= .str) (v:=(.int .i64)) (car:=ZyW) m s:=by
 show (((k,v)::m).find? fun e=>s == e.1).map (·.2)=if s == k then some v else (m.find? fun e=>s == e.1).map (·.2)
 rw[List.find?_cons];cases s == k<;>rfl
theorem ZE4:∀(ks:List Str) (o:Int) (s:Str),s∈ks→∃j:Nat,Zg3 (k:= .str) (v:=(.int .i64)) (car:=ZyW) (mpo o ks) s=some (o+(j:Int))∧ks[j]? =some s
 | [],_,_,h=>absurd h (by simp)
 |k::r,o,s,h=>by
  unfold mpo;rw[ZDo]
  by_cases e:s=k
  ·subst e;exact⟨0,by rw[if_pos (by simp)];simp,rfl⟩
  ·obtain⟨j,h1,h2⟩:=ZE4 r (o+1) s ((List.mem_cons.1 h).resolve_left e);refine⟨j+1, ?_,h2⟩;rw[if_neg (by simpa using e),h1];congr 1;omega
theorem ZEd:∀(ks:List Str) (o:Int) (s:Str),s∉ks→Zg3 (k:= .str) (v:=(.int .i64)) (car:=ZyW) (mpo o ks) s=none
 | [],_,_,_=>rfl
 |k::r,o,s,h=>by unfold mpo;rw[ZDo,if_neg (by intro e;exact h (by simp[eq_of_beq e]))];exact ZEd r _ s fun hs=>h (by simp[hs])
theorem ZEa:∀(ks:List Str) (o:Int) (s:Str),mpo o (ks++[s])=mpo o ks++[(s,o+(ks.length:Int))]
 | [],o,s=>by simp[mpo]
 |k::r,o,s=>by rw[List.cons_append];unfold mpo;rw[ZEa r,List.cons_append,ZLY];congr 3;congr 1;omega
theorem ZFp:∀(ks:List Str) (o:Int) (s:Str),s∉ks→(mpo o ks).any (fun e=>ZlP (car:=ZyW) .str s e.1)=false
 | [],_,_,_=>rfl
 |k::r,o,s,h=>by
  unfold mpo;rw[List.any_cons,ZFp r _ s fun hs=>h (by simp[hs])];have:ZlP (car:=ZyW) .str s k=false:=by show (s == k)=false;rw[beq_eq_false_iff_ne];rintro rfl;exact h (by simp)
  rw[this];rfl
theorem ZHf {ks:List Str} {s:Str} (h:s∉ks):setB (k:= .str) (v:=(.int .i64)) (car:=ZyW) (mpo 0 ks) s (ks.length:Int)=mpo 0 (ks++[s]):=by unfold setB;rw[ZFp _ _ _ h,ZEa];rw[Int.zero_add];rfl
theorem ZEO {β:Type} (f g:Str→β):∀{ks:List Str} {j:Nat} {k:Str},ks.Nodup→ks[j]? =some k→(∀x,x≠k→f x=g x)→(ks.map f).set j (g k)=ks.map g
 | [],_,_,_,h,_=>by simp at h
 |x::ks,0,k,hn,h,hf=>by
  obtain rfl:x=k:=by simpa using h
  rw[List.map_cons,List.set_cons_zero,List.map_cons];congr 1;refine List.map_congr_left fun y hy=>hf y ?_
  rintro rfl;exact(List.nodup_cons.1 hn).1 hy
 |x::ks,j+1,k,hn,h,hf=>by
  have h':ks[j]? =some k:=by simpa using h
  have hx:x≠k:=by rintro rfl;exact(List.nodup_cons.1 hn).1 (List.mem_of_getElem? h')
  rw[List.map_cons,List.set_cons_succ,List.map_cons,hf x hx,ZEO f g (List.nodup_cons.1 hn).2 h' hf]
end Go.Proofs
namespace Go.Proofs
open Go Eng
abbrev En1:=ZnA
def sw (d:List En1) (i j:Nat) (hi:i < d.length) (hj:j < d.length):List En1:=(d.set i d[j]).set j d[i]
theorem ZG9 {d:List En1} {i j:Nat} (hi:i < d.length) (hj:j < d.length):(sw d i j hi hj).Perm d:=List.set_set_perm hi hj
theorem ZBp {d:List En1} {i j:Nat} (hi:i < d.length) (hj:j < d.length):(sw d i j hi hj).length=d.length:=by unfold sw;rw[ZLZ,ZLZ]
theorem ZyV {d:List En1} {i j:Nat} (hi:i < d.length) (hj:j < d.length) (k:Nat) (hk:k < d.length):(sw d i j hi hj)[k]? =if k=j then some d[i]else if k=i then some d[j]else d[k]? :=by
 unfold sw;rw[List.getElem?_set,List.getElem?_set,ZLZ]
 by_cases h1:j=k
 ·rw[if_pos h1,if_pos (by omega),if_pos h1.symm]
 ·rw[if_neg h1]
  by_cases h2:i=k
  ·rw[if_pos h2,if_pos (by omega),if_neg (show ¬k=j by omega),if_pos h2.symm]
  ·rw[if_neg h2,if_neg (show ¬k=j by omega),if_neg (show ¬k=i by omega)]
def Rg (a b:Nat) (D d:List En1):Prop:=d.Perm D∧∀k,k < a∨b≤k→d[k]? =D[k]?
theorem Rg.refl (a b:Nat) (D:List En1):Rg a b D D:=⟨.refl _,fun _ _=>rfl⟩
theorem Rg.trans {a b:Nat} {D d e:List En1} (h1:Rg a b D d) (h2:Rg a b d e):Rg a b D e:=⟨h2.1.trans h1.1,fun k hk=>(h2.2 k hk).trans (h1.2 k hk)⟩
theorem Rg.mono {a b a' b':Nat} {D d:List En1} (h:Rg a b D d) (ha:a'≤a) (hb:b≤b'):Rg a' b' D d:=⟨h.1,fun k hk=>h.2 k (by omega)⟩
theorem Rg.len {a b:Nat} {D d:List En1} (h:Rg a b D d):d.length=D.length:=h.1.length_eq
theorem ZBo {d:List En1} {i j a b:Nat} (hi:i < d.length) (hj:j < d.length) (ai:a≤i) (ib:i < b) (aj:a≤j) (jb:j < b):Rg a b d (sw d i j hi hj):=by
 refine⟨ZG9 hi hj,fun k hk=> ?_⟩
 by_cases h:k < d.length
 ·rw[ZyV hi hj k h,if_neg (by omega),if_neg (by omega)]
 ·rw[List.getElem?_eq_none (by rw[ZBp];omega),List.getElem?_eq_none (by omega)]
theorem ZEk {D:List En1} {a b:Nat} (hn:D.length≤1000000) (hab:a≤b) (hb:b≤D.length):
  wp (ZoO D (a:Int) (b:Int)) (fun d=>Rg a b D d):=by
 have Zd:wp (Zo3 D (a:Int) (b:Int)) (fun d=>Rg a b D d):=by
  unfold Zo3;rw[ZnF,ZnC];refine⟨ZnJ (by omega),ZnK (ZqA Zvp (fun s:Nat×Int×List En1=>((s.1:Int),s.2.1,s.2.2)) (fun s=>a≤s.1∧s.2.1 < (b:Int)∧ -1≤s.2.1∧Rg a b D s.2.2) (fun s=>(s.2.1+1 - s.1).toNat)
   (Q:=fun d=>Rg a b D d) (a,(b:Int) - 1,D) ⟨ZL2 _,by dsimp only;omega,by dsimp only;omega,.refl _ _ _⟩ (by dsimp only;omega) ?_) ?_⟩
  ·rintro rec ⟨i,j,d⟩ ⟨h1,h2,h3,h4⟩ ih;dsimp only at h1 h2 h3 h4 ih;have hl:=h4.len;unfold ZrB Zpy;dsimp only
   by_cases hc:(i:Int) < j
   ·obtain⟨j,rfl⟩:=Int.eq_ofNat_of_zero_le (show 0≤j by omega);have hi:i < d.length:=by omega
    have hj:j < d.length:=by omega
    rw[decide_eq_true hc,cond_true,ZnF,ZLO,ZLO,ZLU hj,ZnC,ZnB,ZnF,ZLU hi,ZnC,ZnB,ZnF,ZnF,ZnF,ZnF];refine⟨Zop hj,Zop hi,Zop hi,Zpk ⟨by omega,by rw[ZLZ];omega⟩,ZnJ (by omega),ZnJ (by omega), ?_⟩;have:=ih (i+1,(j:Int) - 1,sw d i j hi hj) ⟨by dsimp only;omega,by dsimp only;omega,by dsimp only;omega,h4.trans (ZBo hi hj (by omega) (by omega) (by omega) (by omega))⟩ (by dsimp only;omega);exact this
   ·rw[decide_eq_false hc,cond_false,ZnB];exact h4
  ·intro d hd;unfold ZpL;rw[ZnB];exact hd
 unfold ZoO;rw[ZnC];refine ZnK Zd fun d hd=> ?_
 rw[ZnF,ZnB];exact⟨by rw[hd.len];simp,hd⟩
end Go.Proofs
namespace Go.Proofs
open Go Eng
def Lo (a:Nat) (d:List En1) (p:En1) (i:Nat):Prop:=∀k x,a+1≤k→k < i→d[k]? =some x→ZuQ x p < 0
def Hi (b:Nat) (d:List En1) (p:En1) (j:Nat):Prop:=∀k x,j < k→k < b→d[k]? =some x→¬ZuQ x p < 0
theorem ZID {d:List En1} {p:En1} {a b:Nat} (h0:d[a]? =some p) (hn:d.length≤1000) {i j:Nat} (hi:a+1≤i) (hij:i≤j+1) (hjb:j < b) (hj:b≤d.length) (hA:Lo a d p i):
  wp (Zn3 big (a:Int) (i:Int) (j:Int) d) (fun x=>∃i':Nat,x=((a:Int),(i':Int),(j:Int),d)∧i≤i'∧i'≤j+1∧Lo a d p i'∧∀h:i'≤j,¬ZuQ (d[i']'(by omega)) p < 0):=by
 have hp:d[a]'(by omega)=p:=(ZLV.1 h0).2;refine ZqA Zwc (fun i:Nat=>((a:Int),(i:Int),(j:Int),d)) (fun i'=>i≤i'∧i'≤j+1∧Lo a d p i') (fun i'=>j+1 - i')
  (Q:=fun x=>∃i':Nat,x=((a:Int),(i':Int),(j:Int),d)∧i≤i'∧i'≤j+1∧Lo a d p i'∧∀h:i'≤j,¬ZuQ (d[i']'(by omega)) p < 0) i ⟨ZL2 _,hij,hA⟩ (by omega) ?_
 rintro rec i' ⟨h1,h2,h3⟩ ih;unfold Zsk ZpQ Zo7;dsimp only
 by_cases hc:i'≤j
 ·have hi':i' < d.length:=by omega
  rw[decide_eq_true (show (i':Int)≤(j:Int) by omega),cond_true,ZnF,ZLO,ZLU hi',ZnC,ZnB,ZnF,ZLO,h0,ZnC,ZnB,ZwU,ZnC,ZnB];refine⟨Zop hi',Zpk ⟨by omega,by omega⟩, ?_⟩
  by_cases ho:ZuQ d[i'] p < 0
  ·rw[decide_eq_true ho,cond_true,ZnF];refine⟨ZnJ (by omega),ih (i'+1) ⟨by omega,by omega,fun k x hk1 hk2 hx=> ?_⟩ (by omega)⟩
   by_cases e:k=i'
   ·subst e;rw[ZLU hi']at hx;rw[←ZL6 hx];exact ho
   ·exact h3 k x hk1 (by omega) hx
  ·rw[decide_eq_false ho,cond_false,ZnB];exact⟨i',rfl,h1,h2,h3,fun _=>ho⟩
 ·rw[decide_eq_false (show ¬(i':Int)≤(j:Int) by omega),cond_false,cond_false,ZnB];exact⟨i',rfl,h1,h2,h3,fun h=>absurd h hc⟩
theorem ZIC {d:List En1} {p:En1} {a b:Nat} (h0:d[a]? =some p) (hn:d.length≤1000) {i j:Nat} (hi:a+1≤i) (hij:i≤j+1) (hjb:j < b) (hj:b≤d.length) (hA:Lo a d p i):
  wp (Zn1 big (a:Int) (i:Int) (j:Int) d) (fun x=>∃i':Nat,x=((a:Int),(i':Int),(j:Int),d)∧i≤i'∧i'≤j+1∧Lo a d p i'∧∀h:i'≤j,¬ZuQ (d[i']'(by omega)) p < 0):=by
 have hp:d[a]'(by omega)=p:=(ZLV.1 h0).2;refine ZqA Zv9 (fun i:Nat=>((a:Int),(i:Int),(j:Int),d)) (fun i'=>i≤i'∧i'≤j+1∧Lo a d p i') (fun i'=>j+1 - i')
  (Q:=fun x=>∃i':Nat,x=((a:Int),(i':Int),(j:Int),d)∧i≤i'∧i'≤j+1∧Lo a d p i'∧∀h:i'≤j,¬ZuQ (d[i']'(by omega)) p < 0) i ⟨ZL2 _,hij,hA⟩ (by omega) ?_
 rintro rec i' ⟨h1,h2,h3⟩ ih;unfold Zse ZpN Zo5;dsimp only
 by_cases hc:i'≤j
 ·have hi':i' < d.length:=by omega
  rw[decide_eq_true (show (i':Int)≤(j:Int) by omega),cond_true,ZnF,ZLO,ZLU hi',ZnC,ZnB,ZnF,ZLO,h0,ZnC,ZnB,ZwU,ZnC,ZnB];refine⟨Zop hi',Zpk ⟨by omega,by omega⟩, ?_⟩
  by_cases ho:ZuQ d[i'] p < 0
  ·rw[decide_eq_true ho,cond_true,ZnF];refine⟨ZnJ (by omega),ih (i'+1) ⟨by omega,by omega,fun k x hk1 hk2 hx=> ?_⟩ (by omega)⟩
   by_cases e:k=i'
   ·subst e;rw[ZLU hi']at hx;rw[←ZL6 hx];exact ho
   ·exact h3 k x hk1 (by omega) hx
  ·rw[decide_eq_false ho,cond_false,ZnB];exact⟨i',rfl,h1,h2,h3,fun _=>ho⟩
 ·rw[decide_eq_false (show ¬(i':Int)≤(j:Int) by omega),cond_false,cond_false,ZnB];exact⟨i',rfl,h1,h2,h3,fun h=>absurd h hc⟩
theorem ZGg {d:List En1} {p:En1} {a b:Nat} (h0:d[a]? =some p) (hn:d.length≤1000) {i j:Nat} (hi:a+1≤i) (hij:i≤j+1) (hjb:j < b) (hj:b≤d.length) (hB:Hi b d p j):
  wp (Zn2 big (a:Int) (i:Int) (j:Int) d) (fun x=>∃j':Nat,x=((a:Int),(i:Int),(j':Int),d)∧j'≤j∧i≤j'+1∧Hi b d p j'∧∀h:i≤j',∀hl:j' < d.length,ZuQ d[j'] p < 0):=by
 refine ZqA Zwb (fun j:Nat=>((a:Int),(i:Int),(j:Int),d)) (fun j'=>j'≤j∧i≤j'+1∧Hi b d p j') (fun j'=>j')
  (Q:=fun x=>∃j':Nat,x=((a:Int),(i:Int),(j':Int),d)∧j'≤j∧i≤j'+1∧Hi b d p j'∧∀h:i≤j',∀hl:j' < d.length,ZuQ d[j'] p < 0) j ⟨ZL2 _,hij,hB⟩ (by omega) ?_
 rintro rec j' ⟨h1,h2,h3⟩ ih;unfold Zsi ZpP Zo6;dsimp only
 by_cases hc:i≤j'
 ·have hj':j' < d.length:=by omega
  rw[decide_eq_true (show (i:Int)≤(j':Int) by omega),cond_true,ZnF,ZLO,ZLU hj',ZnC,ZnB,ZnF,ZLO,h0,ZnC,ZnB,ZwU,ZnC,ZnB];refine⟨Zop hj',Zpk ⟨by omega,by omega⟩, ?_⟩
  by_cases ho:ZuQ d[j'] p < 0
  ·rw[decide_eq_true ho,ZLN,cond_false,ZnB];exact⟨j',rfl,h1,h2,h3,fun _ _=>ho⟩
  ·rw[decide_eq_false ho,ZIO,cond_true,ZnF,show (j':Int) - 1=((j' - 1:Nat):Int) by omega];refine⟨ZnJ (by omega),ih (j' - 1) ⟨by omega,by omega,fun k x hk hkb hx=> ?_⟩ (by omega)⟩
   by_cases e:k=j'
   ·subst e;rw[ZLU hj']at hx;rw[←ZL6 hx];exact ho
   ·exact h3 k x (by omega) hkb hx
 ·rw[decide_eq_false (show ¬(i:Int)≤(j':Int) by omega),cond_false,cond_false,ZnB];exact⟨j',rfl,h1,h2,h3,fun h=>absurd h hc⟩
theorem ZGf {d:List En1} {p:En1} {a b:Nat} (h0:d[a]? =some p) (hn:d.length≤1000) {i j:Nat} (hi:a+1≤i) (hij:i≤j+1) (hjb:j < b) (hj:b≤d.length) (hB:Hi b d p j):
  wp (Zn0 big (a:Int) (i:Int) (j:Int) d) (fun x=>∃j':Nat,x=((a:Int),(i:Int),(j':Int),d)∧j'≤j∧i≤j'+1∧Hi b d p j'∧∀h:i≤j',∀hl:j' < d.length,ZuQ d[j'] p < 0):=by
 refine ZqA Zv8 (fun j:Nat=>((a:Int),(i:Int),(j:Int),d)) (fun j'=>j'≤j∧i≤j'+1∧Hi b d p j') (fun j'=>j')
  (Q:=fun x=>∃j':Nat,x=((a:Int),(i:Int),(j':Int),d)∧j'≤j∧i≤j'+1∧Hi b d p j'∧∀h:i≤j',∀hl:j' < d.length,ZuQ d[j'] p < 0) j ⟨ZL2 _,hij,hB⟩ (by omega) ?_
 rintro rec j' ⟨h1,h2,h3⟩ ih;unfold Zsc ZpM Zo4;dsimp only
 by_cases hc:i≤j'
 ·have hj':j' < d.length:=by omega
  rw[decide_eq_true (show (i:Int)≤(j':Int) by omega),cond_true,ZnF,ZLO,ZLU hj',ZnC,ZnB,ZnF,ZLO,h0,ZnC,ZnB,ZwU,ZnC,ZnB];refine⟨Zop hj',Zpk ⟨by omega,by omega⟩, ?_⟩
  by_cases ho:ZuQ d[j'] p < 0
  ·rw[decide_eq_true ho,ZLN,cond_false,ZnB];exact⟨j',rfl,h1,h2,h3,fun _ _=>ho⟩
  ·rw[decide_eq_false ho,ZIO,cond_true,ZnF,show (j':Int) - 1=((j' - 1:Nat):Int) by omega];refine⟨ZnJ (by omega),ih (j' - 1) ⟨by omega,by omega,fun k x hk hkb hx=> ?_⟩ (by omega)⟩
   by_cases e:k=j'
   ·subst e;rw[ZLU hj']at hx;rw[←ZL6 hx];exact ho
   ·exact h3 k x (by omega) hkb hx
 ·rw[decide_eq_false (show ¬(i:Int)≤(j':Int) by omega),cond_false,cond_false,ZnB];exact⟨j',rfl,h1,h2,h3,fun h=>absurd h hc⟩
theorem ZDW {d:List En1} {p:En1} {a b i j:Nat} (h0:d[a]? =some p) (hi:a+1≤i) (hij:i < j) (hj:j < d.length) (hA:Lo a d p i) (hB:Hi b d p j) (h1:¬ZuQ (d[i]'(by omega)) p < 0) (h2:ZuQ d[j] p < 0):
  (sw d i j (by omega) hj)[a]? =some p∧Lo a (sw d i j (by omega) hj) p (i+1)∧Hi b (sw d i j (by omega) hj) p (j - 1):=by
 have hi':i < d.length:=by omega
 refine⟨?_,fun k x hk1 hk2 hx=> ?_,fun k x hk hkb hx=> ?_⟩
 ·rw[ZyV hi' hj a (by omega),if_neg (by omega),if_neg (by omega),h0]
 ·rw[ZyV hi' hj k (by omega),if_neg (by omega)]at hx
  by_cases e:k=i
  ·rw[if_pos e]at hx;rw[←ZL6 hx];exact h2
  ·rw[if_neg e]at hx;exact hA k x hk1 (by omega) hx
 ·have hkl:k < d.length:=by
   have:=(ZLV.1 hx).1
   rwa [ZBp]at this
  rw[ZyV hi' hj k hkl]at hx
  by_cases e:k=j
  ·rw[if_pos e]at hx;rw[←ZL6 hx];exact h1
  ·rw[if_neg e,if_neg (by omega)]at hx;exact hB k x (by omega) hkb hx
end Go.Proofs
namespace Go.Proofs
open Go Eng
def Pt2 (a b:Nat) (D:List En1) (x:Int×Bool×List En1):Prop:=∃m:Nat,x.1=(m:Int)∧a≤m∧m < b∧Rg a b D x.2.2∧∃p,x.2.2[m]? =some p∧(∀k y,a≤k→k < m→x.2.2[k]? =some y→ZuQ y p < 0)∧(∀k y,m < k→k < b→x.2.2[k]? =some y→¬ZuQ y p < 0)
theorem ZGx {D d:List En1} {p:En1} {a b j:Nat} (h0:d[a]? =some p) (haj:a≤j) (hjb:j < b) (hb:b≤d.length) (hA:Lo a d p (j+1)) (hB:Hi b d p j) (hp:Rg a b D d) (f:Bool):Pt2 a b D ((j:Int),f,sw d j a (by omega) (by omega)):=by
 have hj:j < d.length:=by omega
 have ha:a < d.length:=by omega
 have hp0:d[a]=p:=(ZLV.1 h0).2;refine⟨j,rfl,haj,hjb,hp.trans (ZBo hj ha haj hjb (ZL2 _) (by omega)),p, ?_,fun k y h1 h2 hy=> ?_,fun k y h1 h2 hy=> ?_⟩
 ·dsimp only;rw[ZyV hj ha j hj]
  by_cases e:j=a
  ·subst e;rw[if_pos rfl,hp0]
  ·rw[if_neg e,if_pos rfl,hp0]
 ·dsimp only at hy;rw[ZyV hj ha k (by omega)]at hy
  by_cases e:k=a
  ·rw[if_pos e]at hy;exact hA j y (by omega) (by omega) (by rw[ZLU hj];exact hy)
  ·rw[if_neg e,if_neg (by omega)]at hy;exact hA k y (by omega) (by omega) hy
 ·dsimp only at hy;rw[ZyV hj ha k (by omega),if_neg (by omega),if_neg (by omega)]at hy;exact hB k y h1 h2 hy
theorem ZER {D:List En1} (hn:D.length≤1000) {a b:Nat} {d0:List En1} {p:En1} {i0 j0:Nat} (h0:d0[a]? =some p) (hi:a+1≤i0) (hij:i0≤j0+1) (hj:j0 < b) (hb:b≤D.length) (hA:Lo a d0 p i0) (hB:Hi b d0 p j0) (hp:Rg a b D d0):
  wp (ZnR big (a:Int) (i0:Int) (j0:Int) d0) (fun x=>∃(j:Nat) (d:List En1),x=((a:Int),(j:Int),d)∧d[a]? =some p∧a≤j∧j < b∧Lo a d p (j+1)∧Hi b d p j∧Rg a b D d):=by
 refine ZqA Zwa (fun s:Nat×Nat×List En1=>((a:Int),(s.1:Int),(s.2.1:Int),s.2.2)) (fun s=>s.2.2[a]? =some p∧a+1≤s.1∧s.1≤s.2.1+1∧s.2.1 < b∧Lo a s.2.2 p s.1∧Hi b s.2.2 p s.2.1∧Rg a b D s.2.2) (fun s=>s.2.1)
  (Q:=fun x=>∃(j:Nat) (d:List En1),x=((a:Int),(j:Int),d)∧d[a]? =some p∧a≤j∧j < b∧Lo a d p (j+1)∧Hi b d p j∧Rg a b D d) (i0,j0,d0) ⟨h0,hi,hij,hj,hA,hB,hp⟩ (by dsimp only;omega) ?_
 rintro rec ⟨i,j,d⟩ ⟨h0,hi,hij,hj,hA,hB,hp⟩ ih;dsimp only at h0 hi hij hj hA hB hp ih;have hl:=hp.len;have hdn:d.length≤1000:=by omega
 have hbd:b≤d.length:=by omega
 unfold Zsg ZpO Zqb Zqa;dsimp only;rw[ZnC];refine ZnK (ZIC h0 hdn hi hij hj hbd hA) ?_;rintro _ ⟨i',rfl,h1,h2,h3,h4⟩;dsimp only;rw[ZnC];refine ZnK (ZGf h0 hdn (by omega) h2 hj hbd hB) ?_;rintro _ ⟨j',rfl,h5,h6,h7,h8⟩;dsimp only
 by_cases hc:i'≤j'
 ·have hi':i' < d.length:=by omega
  have hj':j' < d.length:=by omega
  have g1:=h4 (by omega);have g2:=h8 hc hj';have hlt:i' < j':=by
   rcases ZL4 hc with h |h
   ·exact h
   ·subst h;exact absurd g2 g1
  obtain⟨s0,sA,sB⟩:=ZDW h0 (by omega) hlt hj' h3 h7 g1 g2;rw[decide_eq_false (show ¬(i':Int) > (j':Int) by omega),cond_false,ZnF,ZLO,ZLO,ZLU hj',ZnC,ZnB,ZnF,ZLU hi',ZnC,ZnB,ZnF,ZnF,ZnF,ZnF];refine⟨Zop hj',Zop hi',Zop hi',Zpk ⟨by omega,by rw[ZLZ];omega⟩,ZnJ (by omega),ZnJ (by omega), ?_⟩;have:=ih (i'+1,j' - 1,sw d i' j' hi' hj') ⟨s0,by dsimp only;omega,by dsimp only;omega,by dsimp only;omega,sA,sB,hp.trans (ZBo hi' hj' (by omega) (by omega) (by omega) (by omega))⟩ (by dsimp only;omega);rw[show (((i'+1:Nat)):Int)=(i':Int)+1 by omega,show ((j' - 1:Nat):Int)=(j':Int) - 1 by omega]at this;exact this
 ·rw[decide_eq_true (show (i':Int) > (j':Int) by omega),cond_true,ZnB];exact⟨j',d,rfl,h0,by omega,by omega,by rw[show j'+1=i' by omega];exact h3,h7,hp⟩
theorem ZDi {D:List En1} (hn:D.length≤1000) {a b pv:Nat} (hb:b≤D.length) (h1:a≤pv) (h2:pv < b):
  wp (Zpb D (a:Int) (b:Int) (pv:Int)) (Pt2 a b D):=by
 have hpv:pv < D.length:=by omega
 have h00:a < D.length:=by omega
 have Zd:wp (Zpq D (a:Int) (b:Int) (pv:Int)) (Pt2 a b D):=by
  unfold Zpq;simp only[ZnF,ZLO];rw[ZLU hpv,ZLU h00];simp only[ZnC,ZnB,ZnF];have hd0:(D.set a D[pv]).set pv D[a]=sw D a pv h00 hpv:=rfl;rw[hd0];have hlen:=ZBp (d:=D) h00 hpv;have hg0:∃p,(sw D a pv h00 hpv)[a]? =some p:=⟨_,ZLU (by omega)⟩;obtain⟨p,hg0⟩:=hg0;have hperm:=ZBo (d:=D) h00 hpv (ZL2 a) (show a < b by omega) h1 h2;generalize sw D a pv h00 hpv=d at hlen hg0 hperm;refine⟨Zpk ⟨by omega,by omega⟩,Zpk ⟨by omega,by omega⟩,Zpk ⟨by omega,by omega⟩,Zpk ⟨by omega,by rw[ZLZ];omega⟩,ZnJ (by omega),ZnJ (by omega), ?_⟩;have hdn:d.length≤1000:=by omega
  have hbd:b≤d.length:=by omega
  have hA:Lo a d p (a+1):=fun k x h1 h2=>by omega
  have hB:Hi b d p (b - 1):=fun k x hk hkb hx=>by omega
  have:=ZID hg0 hdn (i:=a+1) (j:=b - 1) (by omega) (by omega) (by omega) hbd hA;rw[show ((b - 1:Nat):Int)=(b:Int) - 1 by omega,show ((a+1:Nat):Int)=(a:Int)+1 by omega]at this;refine ZnK this ?_;rintro _ ⟨i',rfl,q1,q2,q3,q4⟩;dsimp only;unfold Zqd;rw[ZnC];have:=ZGg hg0 hdn (i:=i') (j:=b - 1) (by omega) (by omega) (by omega) hbd hB;rw[show ((b - 1:Nat):Int)=(b:Int) - 1 by omega]at this;refine ZnK this ?_;rintro _ ⟨j',rfl,q5,q6,q7,q8⟩;dsimp only;unfold Zqc
  by_cases hc:i'≤j'
  ·have hi':i' < d.length:=by omega
   have hj':j' < d.length:=by omega
   have g1:=q4 (by omega);have g2:=q8 hc hj';have hlt:i' < j':=by
    rcases ZL4 hc with h |h
    ·exact h
    ·subst h;exact absurd g2 g1
   obtain⟨s0,sA,sB⟩:=ZDW hg0 (by omega) hlt hj' q3 q7 g1 g2;rw[decide_eq_false (show ¬(i':Int) > (j':Int) by omega),cond_false,ZnF,ZLO,ZLO,ZLU hj',ZnC,ZnB,ZnF,ZLU hi',ZnC,ZnB,ZnF,ZnF,ZnF,ZnF,ZnC];refine⟨Zop hj',Zop hi',Zop hi',Zpk ⟨by omega,by rw[ZLZ];omega⟩,ZnJ (by omega),ZnJ (by omega), ?_⟩;have:=ZER (D:=D) hn (d0:=sw d i' j' hi' hj') (i0:=i'+1) (j0:=j' - 1) s0 (by omega) (by omega) (by omega) hb sA sB (hperm.trans (ZBo hi' hj' (by omega) (by omega) (by omega) (by omega)));rw[show (((i'+1:Nat)):Int)=(i':Int)+1 by omega,show ((j' - 1:Nat):Int)=(j':Int) - 1 by omega]at this;refine ZnK this ?_;rintro _ ⟨j,d2,rfl,r0,r1,r2,r3,r4,r5⟩;unfold Zp9;dsimp only;have hl2:=r5.len;have r00:a < d2.length:=by omega
   have rj:j < d2.length:=by omega
   rw[ZnF,ZLO,ZLU r00,ZnC,ZnB,ZnF,ZLO,ZLU rj,ZnC,ZnB,ZnF,ZnF,ZnB];exact⟨Zop r00,Zop rj,Zop rj,Zpk ⟨by omega,by rw[ZLZ];omega⟩,ZGx r0 r1 r2 (by omega) r3 r4 r5 false⟩
  ·have hj':j' < d.length:=by omega
   have h0d:a < d.length:=by omega
   rw[decide_eq_true (show (i':Int) > (j':Int) by omega),cond_true,ZnF,ZLO,ZLU h0d,ZnC,ZnB,ZnF,ZLO,ZLU hj',ZnC,ZnB,ZnF,ZnF,ZnB];exact⟨Zop h0d,Zop hj',Zop hj',Zpk ⟨by omega,by rw[ZLZ];omega⟩,ZGx hg0 (by omega) (by omega) hbd (by rw[show j'+1=i' by omega];exact q3) q7 hperm true⟩
 unfold Zpb;rw[ZnC];refine ZnK Zd fun x hx=> ?_
 obtain⟨m,e,h3,h4,h5,h6⟩:=hx;rw[ZnF,ZnB];exact⟨by rw[h5.len];simp,m,e,h3,h4,h5,h6⟩
end Go.Proofs
namespace Go.Proofs
open Go Eng
theorem ZB9 {d:List En1} (P:Nat→Prop) (hP:∀k,P k→k < d.length) {a b:Nat} (ha:P a) (hb:P b) (s:Nat) (hs:s≤100):
  wp (Zoi d (a:Int) (b:Int) (s:Int)) (fun x=>∃a' b' s':Nat,x=((a':Int),(b':Int),d,(s':Int))∧P a'∧P b'∧s'≤s+1):=by
 unfold Zoi Zro;have hal:=hP a ha;have hbl:=hP b hb;rw[ZnC,ZnF,ZLO,ZLU hbl,ZnC,ZnB,ZnF,ZLO,ZLU hal,ZnC,ZnB,ZwU,ZnC,ZnB,Zog];refine⟨Zop hbl,Zop hal,fun _=> ?_,fun _=> ?_⟩
 ·rw[ZnF,ZnB,ZnF,ZnB];exact⟨ZnJ (by omega),by simp,b,a,s+1,rfl,hb,ha,ZL2 _⟩
 ·rw[ZnB,ZnF,ZnB];exact⟨by simp,a,b,s,rfl,ha,hb,by omega⟩
theorem ZDm {d:List En1} (P:Nat→Prop) (hP:∀k,P k→k < d.length) {a b c:Nat} (ha:P a) (hb:P b) (hc:P c) (s:Nat) (hs:s≤50):
  wp (ZoE d (a:Int) (b:Int) (c:Int) (s:Int)) (fun x=>∃m s':Nat,x=((m:Int),d,(s':Int))∧P m∧s'≤s+3):=by
 unfold ZoE Zrp;rw[ZnC,ZnC];refine ZnK (ZB9 P hP ha hb s (by omega)) ?_;rintro _ ⟨a1,b1,s1,rfl,q1,q2,q3⟩;dsimp only;rw[ZnC];refine ZnK (ZB9 P hP q2 hc s1 (by omega)) ?_;rintro _ ⟨b2,c1,s2,rfl,q4,q5,q6⟩;dsimp only;rw[ZnC];refine ZnK (ZB9 P hP q1 q4 s2 (by omega)) ?_;rintro _ ⟨a2,b3,s3,rfl,q7,q8,q9⟩;dsimp only;rw[ZnB,ZnF,ZnB];exact⟨by simp,b3,s3,rfl,q8,by omega⟩
theorem ZA2 {d:List En1} (P:Nat→Prop) (hP:∀k,P k→k < d.length) (hd:d.length≤1000000) {a:Nat} (h0:1≤a) (ha:P (a - 1)) (hb:P a) (hc:P (a+1)) (s:Nat) (hs:s≤50):
  wp (ZnU d (a:Int) (s:Int)) (fun x=>∃m s':Nat,x=((m:Int),d,(s':Int))∧P m∧s'≤s+3):=by
 have:=hP _ hc;unfold ZnU ZpR;rw[ZnC,ZnF,ZnF,ZnC,show (a:Int) - 1=((a - 1:Nat):Int) by omega,show (a:Int)+1=((a+1:Nat):Int) by omega];refine⟨ZnJ (by omega),ZnJ (by omega),ZnK (ZDm P hP ha hb hc s hs) ?_⟩;rintro _ ⟨m,s',rfl,h1,h2⟩;dsimp only;rw[ZnB,ZnF,ZnB];exact⟨by simp,m,s',rfl,h1,h2⟩
theorem ZFU {d:List En1} (hd:d.length≤1000000) {a b:Nat} (hb:b≤d.length) (hab:a+13≤b):
  wp (ZoU d (a:Int) (b:Int)) (fun x=>∃(pv:Nat) (h:Int),x=((pv:Int),h,d)∧a≤pv∧pv < b):=by
 have Zd:wp (Zpe d (a:Int) (b:Int)) (fun x=>∃(pv:Nat) (h:Int),x=((pv:Int),h,d)∧a≤pv∧pv < b):=by
  have hPl:∀k,(a≤k∧k < b)→k < d.length:=fun k hk=>by omega
  unfold Zpe;have eq:Int.tdiv ((b:Int) - (a:Int)) 4=(((b - a) / 4:Nat):Int):=by rw[show (b:Int) - (a:Int)=((b - a:Nat):Int) by omega];rfl
  rw[eq];generalize hq:(b - a) / 4=q;have j2:∀(m s:Nat),a≤m→m < b→wp (Zoj (m:Int) d (s:Int)) (fun x=>∃(pv:Nat) (h:Int),x=((pv:Int),h,d)∧a≤pv∧pv < b):=by intro m s h1 h2;unfold Zoj;rw[Zog];refine⟨fun _=>by rw[ZnB];exact⟨m,1,rfl,h1,h2⟩,fun _=> ?_⟩;rw[Zog];exact⟨fun _=>by rw[ZnB];exact⟨m,2,rfl,h1,h2⟩,fun _=>by rw[ZnB];exact⟨m,0,rfl,h1,h2⟩⟩
  have j1:∀(i j k s:Nat),s≤50→(a≤i∧i < b)→(a≤j∧j < b)→(a≤k∧k < b)→wp (Zok (i:Int) (j:Int) (k:Int) d (s:Int)) (fun x=>∃(pv:Nat) (h:Int),x=((pv:Int),h,d)∧a≤pv∧pv < b):=by intro i j k s hs h1 h2 h3;unfold Zok;rw[ZnC];refine ZnK (ZDm (fun k=>a≤k∧k < b) hPl h1 h2 h3 s hs) ?_;rintro _ ⟨m,s',rfl,h4,_⟩;exact j2 m s' h4.1 h4.2
  rw[show (q:Int)*1=((q:Nat):Int) by omega,show (q:Int)*2=((q*2:Nat):Int) by omega,show (q:Int)*3=((q*3:Nat):Int) by omega,
   show (a:Int)+((q:Nat):Int)=((a+q:Nat):Int) by omega,show (a:Int)+((q*2:Nat):Int)=((a+q*2:Nat):Int) by omega,show (a:Int)+((q*3:Nat):Int)=((a+q*3:Nat):Int) by omega]
  simp only[ZnF];refine⟨ZnJ (by omega),rfl,ZnJ (by omega),ZnJ (by omega),ZnJ (by omega),rfl,ZnJ (by omega),ZnJ (by omega),ZnJ (by omega),rfl,ZnJ (by omega),ZnJ (by omega),ZnJ (by omega), ?_⟩;rw[decide_eq_true (show (b:Int) - (a:Int)≥8 by omega),cond_true,Zog];refine⟨fun h50=> ?_,fun _=>j1 _ _ _ 0 (by omega) (by omega) (by omega) (by omega)⟩;have h50':(b:Int) - (a:Int)≥50:=of_decide_eq_true h50;rw[ZnC];refine ZnK (ZA2 (fun k=>a≤k∧k < b) hPl hd (a:=a+q) (by omega) (by omega) (by omega) (by omega) 0 (by omega)) ?_;rintro _ ⟨i,s1,rfl,p1,t1⟩;dsimp only;rw[ZnC];refine ZnK (ZA2 (fun k=>a≤k∧k < b) hPl hd (a:=a+q*2) (by omega) (by omega) (by omega) (by omega) s1 (by omega)) ?_;rintro _ ⟨j,s2,rfl,p2,t2⟩;dsimp only;rw[ZnC];refine ZnK (ZA2 (fun k=>a≤k∧k < b) hPl hd (a:=a+q*3) (by omega) (by omega) (by omega) (by omega) s2 (by omega)) ?_;rintro _ ⟨k,s3,rfl,p3,t3⟩;dsimp only;exact j1 i j k s3 (by omega) p1 p2 p3
 unfold ZoU;rw[ZnC];refine ZnK Zd ?_;rintro _ ⟨pv,h,rfl,h1,h2⟩;rw[ZnF,ZnB];exact⟨by simp,pv,h,rfl,h1,h2⟩
end Go.Proofs
namespace Go.Proofs
open Go Eng
theorem ZJr (x:Int) {y:Nat} (hy:y < 1000000):∃z:Nat,andK .u64 x (y:Int)=(z:Int)∧z≤y:=by
 unfold andK;have h1:(BitVec.ofInt (IntKind.u64).bits x&&& BitVec.ofInt (IntKind.u64).bits (y:Int)).toNat≤y:=by rw[BitVec.toNat_and];refine ZL3 Nat.and_le_right ?_;rw[BitVec.ofInt_natCast,BitVec.toNat_ofNat];exact Nat.mod_le _ _
 refine⟨_,wrap_u64 ⟨by omega,by omega⟩,h1⟩
theorem ZEo:((List.range 201).all fun n:Nat=>match Zs9 (n:Int)with |some m=>decide (n=0∨(1≤m∧m≤2*(n:Int))) |none=>false)=true:=by kernel_rfl
theorem ZHm {n:Nat} (h1:1≤n) (h2:n≤200):∃m:Nat,Zs9 (n:Int)=some (m:Int)∧1≤m∧m≤2*n:=by have h:=List.all_eq_true.1 ZEo n (List.mem_range.2 (by omega));split at h;rotate_left;simp at h;rename_i m hm;have h3:=(of_decide_eq_true h).resolve_left (by omega);refine⟨m.toNat, ?_,by omega,by omega⟩;rw[hm,Int.toNat_of_nonneg (by omega)]
theorem ZHt (r:Int):∃q r',ZtG r=some (q,r'):=by unfold ZtG;rw[show decide (0≤(13:Int))=true from rfl,show decide (0≤(7:Int))=true from rfl,show decide (0≤(17:Int))=true from rfl,chk_true,chk_true,chk_true];exact⟨_,_,rfl⟩
theorem ZGl {D:List En1} (hn:D.length≤200) {a b:Nat} (hab:a+8≤b) (hb:b≤D.length):
  wp (ZoG D (a:Int) (b:Int)) (fun d=>Rg a b D d):=by
 have Zd:wp (ZoV D (a:Int) (b:Int)) (fun d=>Rg a b D d):=by
  unfold ZoV;obtain⟨L,hL⟩:∃L:Nat,L=b - a:=⟨_,rfl⟩;rw[show (b:Int) - (a:Int)=(L:Int) by omega];have eq:Int.tdiv (L:Int) 4=((L / 4:Nat):Int):=rfl;obtain⟨md,hm,hm1,hm2⟩:=ZHm (n:=L) (by omega) (by omega);rw[ZnF,decide_eq_true (show (L:Int)≥8 by omega),cond_true,hm,ZnC,ZnB,eq,ZnF,ZnF,ZnF,ZnF,ZnF,ZnC];refine⟨ZnJ (by omega),rfl,ZnJ (by omega),ZnJ (by omega),ZnJ (by omega),ZnJ (by omega), ?_⟩;refine ZnK (ZqA Zvd (fun s:Nat×List En1×Int=>((a:Int),(L:Int),(md:Int),(s.1:Int),s.2.1,s.2.2)) (fun s=>a≤s.1∧Rg a b D s.2.1) (fun s=>a+L+5 - s.1)
   (Q:=fun d=>Rg a b D d) (a+L / 4*2 - 1,D,IntKind.wrap .u64 (L:Int)) ⟨by dsimp only;omega,.refl _ _ _⟩ (by dsimp only;omega) ?_ |> fun h=>by
    have e:((a+L / 4*2 - 1:Nat):Int)=(a:Int)+((L / 4:Nat):Int)*2 - 1:=by omega
    dsimp only at h;rw[e]at h;exact h) ?_
  ·rintro rec ⟨i,d,r⟩ ⟨h1,h2⟩ ih;dsimp only at h1 h2 ih;have hl:=h2.len;unfold Zrh Zpt;dsimp only;rw[eq];simp only[ZnF];refine⟨rfl,ZnJ (by omega),ZnJ (by omega),ZnJ (by omega),ZnJ (by omega), ?_⟩
   by_cases hc:(i:Int)≤(a:Int)+((L / 4:Nat):Int)*2+1
   ·obtain⟨q,r',hr⟩:=ZHt r;obtain⟨z,hz,hz2⟩:=ZJr q (y:=md - 1) (by omega);have hw:IntKind.wrap .u64 ((md:Int) - 1)=((md - 1:Nat):Int):=by rw[wrap_u64 ⟨by omega,by omega⟩];omega
    rw[decide_eq_true hc,cond_true,hr,ZnC,ZnB];dsimp only;rw[hw,hz,wrap_i64 ⟨by omega,by omega⟩];have fin:∀o:Nat,o < L→wp (Zoc (fun a1 l1 m1 i1 d1 r1=>rec (a1,l1,m1,i1,d1,r1)) (a:Int) (L:Int) (md:Int) (i:Int) (o:Int) d r') (fun d=>Rg a b D d):=by
     intro o ho;have ho':a+o < d.length:=by omega
     have hi':i < d.length:=by omega
     unfold Zoc;rw[show (a:Int)+(o:Int)=((a+o:Nat):Int) by omega,ZnF,ZnF,ZnF,ZLO,ZLO,ZLU ho',ZnC,ZnB,ZnF,ZLU hi',ZnC,ZnB,ZnF,ZnF,ZnF];refine⟨ZnJ (by omega),ZnJ (by omega),Zop ho',Zop hi',Zop hi',Zpk ⟨by omega,by rw[ZLZ];omega⟩,ZnJ (by omega), ?_⟩;have:=ih (i+1,sw d i (a+o) hi' ho',r') ⟨by dsimp only;omega,h2.trans (ZBo hi' ho' (by omega) (by omega) (by omega) (by omega))⟩ (by dsimp only;omega);exact this
    by_cases hge:(z:Int)≥(L:Int)
    ·rw[decide_eq_true hge,cond_true,ZnF,show (z:Int) - (L:Int)=((z - L:Nat):Int) by omega];exact⟨ZnJ (by omega),fin (z - L) (by omega)⟩
    ·rw[decide_eq_false hge,cond_false];exact fin z (by omega)
   ·rw[decide_eq_false hc,cond_false,ZnB];exact h2
  ·intro d hd;unfold ZpH;rw[ZnB];exact hd
 unfold ZoG;rw[ZnC];refine ZnK Zd fun d hd=> ?_
 rw[ZnF,ZnB];exact⟨by rw[hd.len];simp,hd⟩
end Go.Proofs
namespace Go.Proofs
open Go Eng
def LoE (a:Nat) (d:List En1) (p:En1) (i:Nat):Prop:=∀k x,a≤k→k < i→d[k]? =some x→¬ZuQ p x < 0
def HiE (b:Nat) (d:List En1) (p:En1) (j:Nat):Prop:=∀k x,j < k→k < b→d[k]? =some x→ZuQ p x < 0
theorem ZIB {d:List En1} {p:En1} {a b:Nat} (h0:d[a]? =some p) (hn:d.length≤1000) {i j:Nat} (hi:a+1≤i) (hij:i≤j+1) (hjb:j < b) (hj:b≤d.length) (hA:LoE a d p i):
  wp (ZnT big (a:Int) (i:Int) (j:Int) d) (fun x=>∃i':Nat,x=((a:Int),(i':Int),(j:Int),d)∧i≤i'∧i'≤j+1∧LoE a d p i'∧∀h:i'≤j,ZuQ p (d[i']'(by omega)) < 0):=by
 refine ZqA ZuT (fun i:Nat=>((a:Int),(i:Int),(j:Int),d)) (fun i'=>i≤i'∧i'≤j+1∧LoE a d p i') (fun i'=>j+1 - i')
  (Q:=fun x=>∃i':Nat,x=((a:Int),(i':Int),(j:Int),d)∧i≤i'∧i'≤j+1∧LoE a d p i'∧∀h:i'≤j,ZuQ p (d[i']'(by omega)) < 0) i ⟨ZL2 _,hij,hA⟩ (by omega) ?_
 rintro rec i' ⟨h1,h2,h3⟩ ih;unfold Zra Zpn ZoA;dsimp only
 by_cases hc:i'≤j
 ·have hi':i' < d.length:=by omega
  rw[decide_eq_true (show (i':Int)≤(j:Int) by omega),cond_true,ZnF,ZLO,h0,ZnC,ZnB,ZnF,ZLO,ZLU hi',ZnC,ZnB,ZwU,ZnC,ZnB];refine⟨Zpk ⟨by omega,by omega⟩,Zop hi', ?_⟩
  by_cases ho:ZuQ p d[i'] < 0
  ·rw[decide_eq_true ho,ZLN,cond_false,ZnB];exact⟨i',rfl,h1,h2,h3,fun _=>ho⟩
  ·rw[decide_eq_false ho,ZIO,cond_true,ZnF];refine⟨ZnJ (by omega),ih (i'+1) ⟨by omega,by omega,fun k x hk1 hk2 hx=> ?_⟩ (by omega)⟩
   by_cases e:k=i'
   ·subst e;rw[ZLU hi']at hx;rw[←ZL6 hx];exact ho
   ·exact h3 k x hk1 (by omega) hx
 ·rw[decide_eq_false (show ¬(i':Int)≤(j:Int) by omega),cond_false,cond_false,ZnB];exact⟨i',rfl,h1,h2,h3,fun h=>absurd h hc⟩
theorem ZGe {d:List En1} {p:En1} {a b:Nat} (h0:d[a]? =some p) (hn:d.length≤1000) {i j:Nat} (hi:a+1≤i) (hij:i≤j+1) (hjb:j < b) (hj:b≤d.length) (hB:HiE b d p j):
  wp (ZnS big (a:Int) (i:Int) (j:Int) d) (fun x=>∃j':Nat,x=((a:Int),(i:Int),(j':Int),d)∧j'≤j∧i≤j'+1∧HiE b d p j'∧∀h:i≤j',∀hl:j' < d.length,¬ZuQ p d[j'] < 0):=by
 refine ZqA ZuS (fun j:Nat=>((a:Int),(i:Int),(j:Int),d)) (fun j'=>j'≤j∧i≤j'+1∧HiE b d p j') (fun j'=>j')
  (Q:=fun x=>∃j':Nat,x=((a:Int),(i:Int),(j':Int),d)∧j'≤j∧i≤j'+1∧HiE b d p j'∧∀h:i≤j',∀hl:j' < d.length,¬ZuQ p d[j'] < 0) j ⟨ZL2 _,hij,hB⟩ (by omega) ?_
 rintro rec j' ⟨h1,h2,h3⟩ ih;unfold Zq8 Zpm Zoz;dsimp only
 by_cases hc:i≤j'
 ·have hj':j' < d.length:=by omega
  rw[decide_eq_true (show (i:Int)≤(j':Int) by omega),cond_true,ZnF,ZLO,h0,ZnC,ZnB,ZnF,ZLO,ZLU hj',ZnC,ZnB,ZwU,ZnC,ZnB];refine⟨Zpk ⟨by omega,by omega⟩,Zop hj', ?_⟩
  by_cases ho:ZuQ p d[j'] < 0
  ·rw[decide_eq_true ho,cond_true,ZnF,show (j':Int) - 1=((j' - 1:Nat):Int) by omega];refine⟨ZnJ (by omega),ih (j' - 1) ⟨by omega,by omega,fun k x hk hkb hx=> ?_⟩ (by omega)⟩
   by_cases e:k=j'
   ·subst e;rw[ZLU hj']at hx;rw[←ZL6 hx];exact ho
   ·exact h3 k x (by omega) hkb hx
  ·rw[decide_eq_false ho,cond_false,ZnB];exact⟨j',rfl,h1,h2,h3,fun _ _=>ho⟩
 ·rw[decide_eq_false (show ¬(i:Int)≤(j':Int) by omega),cond_false,cond_false,ZnB];exact⟨j',rfl,h1,h2,h3,fun h=>absurd h hc⟩
def PtE (a b:Nat) (D:List En1) (x:Int×List En1):Prop:=∃m:Nat,x.1=(m:Int)∧a < m∧m≤b∧Rg a b D x.2∧∃p,x.2[a]? =some p∧LoE a x.2 p m∧(∀k y,m≤k→k < b→x.2[k]? =some y→ZuQ p y < 0)
theorem ZEp {D:List En1} (hn:D.length≤1000) {a b:Nat} {d0:List En1} {p:En1} {i0 j0:Nat} (h0:d0[a]? =some p) (hi:a+1≤i0) (hij:i0≤j0+1) (hj:j0 < b) (hb:b≤D.length) (hA:LoE a d0 p i0) (hB:HiE b d0 p j0) (hp:Rg a b D d0):
  wp (ZnP big (a:Int) (i0:Int) (j0:Int) d0) (fun x=>PtE a b D x∧x.2[a]? =some p):=by
 refine ZqA ZuU (fun s:Nat×Nat×List En1=>((a:Int),(s.1:Int),(s.2.1:Int),s.2.2)) (fun s=>s.2.2[a]? =some p∧a+1≤s.1∧s.1≤s.2.1+1∧s.2.1 < b∧LoE a s.2.2 p s.1∧HiE b s.2.2 p s.2.1∧Rg a b D s.2.2) (fun s=>s.2.1)
  (Q:=fun x=>PtE a b D x∧x.2[a]? =some p) (i0,j0,d0) ⟨h0,hi,hij,hj,hA,hB,hp⟩ (by dsimp only;omega) ?_
 rintro rec ⟨i,j,d⟩ ⟨h0,hi,hij,hj,hA,hB,hp⟩ ih;dsimp only at h0 hi hij hj hA hB hp ih;have hl:=hp.len;have hdn:d.length≤1000:=by omega
 have hbd:b≤d.length:=by omega
 unfold Zrc Zpo ZpB ZpA;dsimp only;rw[ZnC];refine ZnK (ZIB h0 hdn hi hij hj hbd hA) ?_;rintro _ ⟨i',rfl,h1,h2,h3,h4⟩;dsimp only;rw[ZnC];refine ZnK (ZGe h0 hdn (by omega) h2 hj hbd hB) ?_;rintro _ ⟨j',rfl,h5,h6,h7,h8⟩;dsimp only
 by_cases hc:i'≤j'
 ·have hi':i' < d.length:=by omega
  have hj':j' < d.length:=by omega
  have g1:=h4 (by omega);have g2:=h8 hc hj';have hlt:i' < j':=by
   rcases ZL4 hc with h |h
   ·exact h
   ·subst h;exact absurd g1 g2
  rw[decide_eq_false (show ¬(i':Int) > (j':Int) by omega),cond_false,ZnF,ZLO,ZLO,ZLU hj',ZnC,ZnB,ZnF,ZLU hi',ZnC,ZnB,ZnF,ZnF,ZnF,ZnF];refine⟨Zop hj',Zop hi',Zop hi',Zpk ⟨by omega,by rw[ZLZ];omega⟩,ZnJ (by omega),ZnJ (by omega), ?_⟩;have s0:(sw d i' j' hi' hj')[a]? =some p:=by rw[ZyV hi' hj' a (by omega),if_neg (by omega),if_neg (by omega),h0]
  have sA:LoE a (sw d i' j' hi' hj') p (i'+1):=by
   intro k x hk1 hk2 hx;rw[ZyV hi' hj' k (by omega),if_neg (by omega)]at hx
   by_cases e:k=i'
   ·rw[if_pos e]at hx;rw[←ZL6 hx];exact g2
   ·rw[if_neg e]at hx;exact h3 k x hk1 (by omega) hx
  have sB:HiE b (sw d i' j' hi' hj') p (j' - 1):=by
   intro k x hk hkb hx;rw[ZyV hi' hj' k (by omega)]at hx
   by_cases e:k=j'
   ·rw[if_pos e]at hx;rw[←ZL6 hx];exact g1
   ·rw[if_neg e,if_neg (by omega)]at hx;exact h7 k x (by omega) hkb hx
  have:=ih (i'+1,j' - 1,sw d i' j' hi' hj') ⟨s0,by dsimp only;omega,by dsimp only;omega,by dsimp only;omega,sA,sB,hp.trans (ZBo hi' hj' (by omega) (by omega) (by omega) (by omega))⟩ (by dsimp only;omega);rw[show (((i'+1:Nat)):Int)=(i':Int)+1 by omega,show ((j' - 1:Nat):Int)=(j':Int) - 1 by omega]at this;exact this
 ·rw[decide_eq_true (show (i':Int) > (j':Int) by omega),cond_true,ZnB];exact⟨⟨i',rfl,by omega,by omega,hp,p,h0,h3,fun k y hk hkb hy=>h7 k y (by omega) hkb hy⟩,h0⟩
theorem ZFX {D:List En1} (hn:D.length≤1000) {a b pv:Nat} (hb:b≤D.length) (h1:a≤pv) (h2:pv < b):
  wp (ZoB D (a:Int) (b:Int) (pv:Int)) (fun x=>PtE a b D x∧x.2[a]? =D[pv]?):=by
 have hpv:pv < D.length:=by omega
 have h00:a < D.length:=by omega
 have Zd:wp (ZoP D (a:Int) (b:Int) (pv:Int)) (fun x=>PtE a b D x∧x.2[a]? =D[pv]?):=by
  unfold ZoP;simp only[ZnF,ZLO];rw[ZLU hpv,ZLU h00];simp only[ZnC,ZnB,ZnF];have hd0:(D.set a D[pv]).set pv D[a]=sw D a pv h00 hpv:=rfl;rw[hd0];have hlen:=ZBp (d:=D) h00 hpv;have hg0:(sw D a pv h00 hpv)[a]? =some D[pv]:=by
   rw[ZyV h00 hpv a h00]
   by_cases e:a=pv
   ·subst e;rw[if_pos rfl]
   ·rw[if_neg e,if_pos rfl]
  have hperm:=ZBo (d:=D) h00 hpv (ZL2 a) (show a < b by omega) h1 h2;generalize sw D a pv h00 hpv=d at hlen hg0 hperm;generalize D[pv]=p at hg0;refine⟨Zpk ⟨by omega,by omega⟩,Zpk ⟨by omega,by omega⟩,Zpk ⟨by omega,by omega⟩,Zpk ⟨by omega,by rw[ZLZ];omega⟩,ZnJ (by omega),ZnJ (by omega), ?_⟩;have hA:LoE a d p (a+1):=fun k x h1 h2 hx=>by
   obtain rfl:k=a:=by omega
   rw[hg0]at hx;rw[←ZL6 hx];have:=Zx7 p p;omega
  have hB:HiE b d p (b - 1):=fun k x hk hkb hx=>by omega
  have:=ZEp (D:=D) hn (d0:=d) (i0:=a+1) (j0:=b - 1) hg0 (by omega) (by omega) (by omega) hb hA hB hperm;rw[show ((b - 1:Nat):Int)=(b:Int) - 1 by omega,show ((a+1:Nat):Int)=(a:Int)+1 by omega]at this;refine ZnK this ?_;rintro⟨m,d'⟩ ⟨r1,r2⟩;unfold Zpz;dsimp only;rw[ZnB];exact⟨r1,r2⟩
 unfold ZoB;rw[ZnC];refine ZnK Zd fun x hx=> ?_
 have hx2:=hx;obtain⟨⟨m,e,h3,h4,h5,h6⟩,h7⟩:=hx;rw[ZnF,ZnB];exact⟨by rw[h5.len];simp,hx2⟩
end Go.Proofs
namespace Go.Proofs
open Go Eng
def Le (a b:En1):Prop:=ZuQ a b≤0
theorem ZIR {a b:En1} (h:ZuQ a b=0):a.Hash=b.Hash∧a.Key=b.Key:=by
 unfold ZuQ at h;split at h
 ·simp at h
 ·split at h
  ·simp at h
  ·exact⟨by omega,ZC3 h⟩
theorem ZGy {a b c:En1} (h:ZuQ a b=0):ZuQ a c=ZuQ b c:=by obtain⟨h1,h2⟩:=ZIR h;unfold ZuQ;rw[h1,h2]
theorem Le.trans {a b c:En1} (h1:Le a b) (h2:Le b c):Le a c:=by
 unfold Le at*
 by_cases e:ZuQ a b=0
 ·rw[ZGy e];exact h2
 ·by_cases e2:ZuQ b c=0
  ·have h3:=ZGy (a:=b) (b:=c) (c:=a) e2;have n1:=Zx7 a c;have n2:=Zx7 a b;omega
  ·have:=ZBC (show ZuQ a b < 0 by omega) (show ZuQ b c < 0 by omega);omega
theorem Zxa {a b:En1} (h:¬ZuQ a b < 0):Le b a:=by have:=Zx7 a b;unfold Le;omega
theorem Le.of_lt {a b:En1} (h:ZuQ a b < 0):Le a b:=Int.le_of_lt h
theorem Le.rfl' (a:En1):Le a a:=by have:=Zx7 a a;unfold Le;omega
def Hx (f lo hi:Nat) (d:List En1) (r:Option Nat):Prop:=∀k c x y,lo≤k→some k≠r→(c=2*k+1∨c=2*k+2)→c < hi→d[f+k]? =some x→d[f+c]? =some y→Le y x
def Gp (f lo hi:Nat) (d:List En1) (r:Nat):Prop:=∀q c x y,lo≤q→(r=2*q+1∨r=2*q+2)→(c=2*r+1∨c=2*r+2)→c < hi→d[f+q]? =some x→d[f+c]? =some y→Le y x
theorem ZEK {f lo hi r ch:Nat} {d:List En1} (hr:f+r < d.length) (hc:f+ch < d.length) (hlr:lo≤r) (hch:ch=2*r+1∨ch=2*r+2) (hchi:ch < hi) (h1:Hx f lo hi d (some r)) (h2:Gp f lo hi d r) (hlt:ZuQ d[f+r] d[f+ch] < 0) (hbig:∀c y,(c=2*r+1∨c=2*r+2)→c < hi→d[f+c]? =some y→Le y d[f+ch]):
  Hx f lo hi (sw d (f+r) (f+ch) hr hc) (some ch)∧Gp f lo hi (sw d (f+r) (f+ch) hr hc) ch:=by
 have bound:∀k z,(sw d (f+r) (f+ch) hr hc)[f+k]? =some z→f+k < d.length:=fun k z hz=>by
  have:=(ZLV.1 hz).1
  rwa [ZBp]at this
 refine⟨fun k c x y hk hkr hcc hcl hx hy=> ?_,fun q c x y hq hqr hcc hcl hx hy=> ?_⟩
 ·have hkc:k≠ch:=fun e=>hkr (by rw[e])
  have bx:=bound k x hx;have bY:=bound c y hy;rw[ZyV hr hc _ bx,if_neg (by omega)]at hx;rw[ZyV hr hc _ bY]at hy
  by_cases e:k=r
  ·subst e;rw[if_pos rfl]at hx;obtain rfl:=ZL6 hx
   by_cases e2:c=ch
   ·subst e2;rw[if_pos rfl]at hy;rw[←ZL6 hy];exact .of_lt hlt
   ·rw[if_neg (by omega),if_neg (by omega)]at hy;exact hbig c y hcc hcl hy
  ·rw[if_neg (by omega)]at hx;rw[if_neg (show ¬f+c=f+ch by omega)]at hy
   by_cases e2:c=r
   ·subst e2;rw[if_pos rfl]at hy;rw[←ZL6 hy];exact h2 k ch x _ hk hcc hch hchi hx (ZLU hc)
   ·rw[if_neg (by omega)]at hy;exact h1 k c x y hk (fun h=>e (ZL6 h)) hcc hcl hx hy
 ·obtain rfl:q=r:=by omega
  have bx:=bound q x hx;have bY:=bound c y hy;rw[ZyV hr hc _ bx,if_neg (by omega),if_pos rfl]at hx;rw[ZyV hr hc _ bY,if_neg (by omega),if_neg (by omega)]at hy;obtain rfl:=ZL6 hx;exact h1 ch c _ y (by omega) (fun h=>by have:=ZL6 h;omega) hcc hcl (ZLU hc) hy
theorem ZEL {D:List En1} (hn:D.length≤1000) {f lo hi:Nat} (hhi:f+hi≤D.length) (hlo1:lo≤1000) (hH:Hx f lo hi D (some lo)):
  wp (Zn8 D (lo:Int) (hi:Int) (f:Int)) (fun d=>Rg f (f+hi) D d∧Hx f lo hi d none):=by
 have Zd:wp (Zpu D (lo:Int) (hi:Int) (f:Int)) (fun d=>Rg f (f+hi) D d∧Hx f lo hi d none):=by
  unfold Zpu;rw[ZnC];refine ZnK (Q:=fun x=>∃d,(x= .ret d∨x= .brk d)∧Rg f (f+hi) D d∧Hx f lo hi d none) ?_ ?_
  ·by_cases hlo:lo < hi
   ·refine ZqA Zwi (fun s:Nat×List En1=>((hi:Int),(f:Int),(s.1:Int),s.2)) (fun s=>lo≤s.1∧s.1 < hi∧Rg f (f+hi) D s.2∧Hx f lo hi s.2 (some s.1)∧Gp f lo hi s.2 s.1) (fun s=>hi - s.1)
     (Q:=fun x=>∃d,(x= .ret d∨x= .brk d)∧Rg f (f+hi) D d∧Hx f lo hi d none) (lo,D) ⟨ZL2 _,hlo,.refl _ _ _,hH,fun q c x y hq hqr=>by omega⟩ (by dsimp only;omega) ?_
    rintro rec ⟨r,d⟩ ⟨h1,h2,h3,h4,h5⟩ ih;dsimp only at h1 h2 h3 h4 h5 ih;have hl:=h3.len;unfold Zss Zoo;dsimp only;rw[ZnF,ZnF,show 2*(r:Int)+1=((2*r+1:Nat):Int) by omega];refine⟨ZnJ (by omega),ZnJ (by omega), ?_⟩;have step:∀ch:Nat,(ch=2*r+1∨ch=2*r+2)→ch < hi→(∀hc:f+ch < d.length,∀c y,(c=2*r+1∨c=2*r+2)→c < hi→d[f+c]? =some y→Le y d[f+ch])→
      wp (Zou (fun a1 a2 a3 a4=>rec (a1,a2,a3,a4)) (hi:Int) (f:Int) (r:Int) (ch:Int) d) (fun x=>∃d,(x= .ret d∨x= .brk d)∧Rg f (f+hi) D d∧Hx f lo hi d none):=by
     intro ch hch hchi hbig;have hr:f+r < d.length:=by omega
     have hc:f+ch < d.length:=by omega
     unfold Zou;rw[show (f:Int)+(r:Int)=((f+r:Nat):Int) by omega,show (f:Int)+(ch:Int)=((f+ch:Nat):Int) by omega,ZnF,ZnF,ZLO,ZLO,ZLU hr,ZnC,ZnB,ZnF,ZnF,ZLU hc,ZnC,ZnB,ZwU,ZnC,ZnB];refine⟨ZnJ (by omega),Zop hr,ZnJ (by omega),Zop hc, ?_⟩
     by_cases ho:ZuQ d[f+r] d[f+ch] < 0
     ·rw[decide_eq_true ho,ZLN,cond_false];simp only[ZnF,ZnC,ZnB];refine⟨ZnJ (by omega),ZnJ (by omega),ZnJ (by omega),Zop hc,ZnJ (by omega),Zop hr,Zop hr,Zpk ⟨by omega,by rw[ZLZ];omega⟩, ?_⟩;obtain⟨s1,s2⟩:=ZEK hr hc h1 hch hchi h4 h5 ho (hbig hc);exact ih (ch,sw d (f+r) (f+ch) hr hc) ⟨by dsimp only;omega,hchi,h3.trans (ZBo hr hc (by omega) (by omega) (by omega) (by omega)),s1,s2⟩ (by dsimp only;omega)
     ·rw[decide_eq_false ho,ZIO,cond_true,ZnB];refine⟨d,.inl rfl,h3,fun k c x y hk _ hcc hcl hx hy=> ?_⟩
      by_cases e:k=r
      ·subst e;rw[ZLU hr]at hx;rw[←ZL6 hx];exact(hbig hc c y hcc hcl hy).trans (Zxa ho)
      ·exact h4 k c x y hk (fun h=>e (ZL6 h)) hcc hcl hx hy
    by_cases hge:hi≤2*r+1
    ·rw[decide_eq_true (show ((2*r+1:Nat):Int)≥(hi:Int) by omega),cond_true,ZnB];refine⟨d,.inr rfl,h3,fun k c x y hk _ hcc hcl hx hy=> ?_⟩
     by_cases e:k=r
     ·omega
     ·exact h4 k c x y hk (fun h=>e (ZL6 h)) hcc hcl hx hy
    ·rw[decide_eq_false (show ¬((2*r+1:Nat):Int)≥(hi:Int) by omega),cond_false,ZnF,show ((2*r+1:Nat):Int)+1=((2*r+2:Nat):Int) by omega];refine⟨ZnJ (by omega), ?_⟩;have hc1:f+(2*r+1) < d.length:=by omega
     unfold Zpa
     by_cases h22:2*r+2 < hi
     ·have hc2:f+(2*r+2) < d.length:=by omega
      rw[decide_eq_true (show ((2*r+2:Nat):Int) < (hi:Int) by omega),cond_true,show (f:Int)+((2*r+1:Nat):Int)=((f+(2*r+1):Nat):Int) by omega,show ((f+(2*r+1):Nat):Int)+1=((f+(2*r+2):Nat):Int) by omega,show ((2*r+1:Nat):Int)+1=((2*r+2:Nat):Int) by omega];rw[ZnF,ZnF,ZLO,ZLO,ZLU hc1,ZnC,ZnB,ZnF,ZnF,ZnF,ZLU hc2,ZnC,ZnB,ZwU,ZnC,ZnB];refine⟨ZnJ (by omega),Zop hc1,ZnJ (by omega),ZnJ (by omega),Zop hc2, ?_⟩
      by_cases ho:ZuQ d[f+(2*r+1)] d[f+(2*r+2)] < 0
      ·rw[decide_eq_true ho,cond_true,ZnF];refine⟨ZnJ (by omega),step (2*r+2) (.inr rfl) h22 fun hc c y hcc hcl hy=> ?_⟩;rcases hcc with rfl |rfl
       ·rw[ZLU hc1]at hy;rw[←ZL6 hy];exact .of_lt ho
       ·rw[ZLU hc2]at hy;rw[←ZL6 hy];exact .rfl' _
      ·rw[decide_eq_false ho,cond_false];refine step (2*r+1) (.inl rfl) (by omega) fun hc c y hcc hcl hy=> ?_
       rcases hcc with rfl |rfl
       ·rw[ZLU hc1]at hy;rw[←ZL6 hy];exact .rfl' _
       ·rw[ZLU hc2]at hy;rw[←ZL6 hy];exact Zxa ho
     ·rw[decide_eq_false (show ¬((2*r+2:Nat):Int) < (hi:Int) by omega),cond_false,cond_false];refine step (2*r+1) (.inl rfl) (by omega) fun hc c y hcc hcl hy=> ?_
      obtain rfl:c=2*r+1:=by omega
      rw[ZLU hc1]at hy;rw[←ZL6 hy];exact .rfl' _
   ·obtain⟨n,hbig⟩:=ZC4 1 (by omega);rw[hbig];show wp (Zoo _ (hi:Int) (f:Int) (lo:Int) D) _;unfold Zoo;rw[ZnF,ZnF,decide_eq_true (show 2*(lo:Int)+1≥(hi:Int) by omega),cond_true,ZnB];exact⟨ZnJ (by omega),ZnJ (by omega),D,.inr rfl,.refl _ _ _,fun k c x y hk _ hcc hcl _ _=>by omega⟩
  ·rintro x ⟨d,rfl |rfl,h⟩
   ·dsimp only;rw[ZnB];exact h
   ·unfold Zqv;dsimp only;rw[ZnB];exact h
 unfold Zn8;rw[ZnC];refine ZnK Zd fun d hd=> ?_
 rw[ZnF,ZnB];exact⟨by rw[hd.1.len];simp,hd⟩
end Go.Proofs
namespace Go.Proofs
open Go Eng
theorem Rg.mid {a b:Nat} {D d:List En1} (h:Rg a b D d) (hab:a≤b):((d.drop a).take (b - a)).Perm ((D.drop a).take (b - a)):=by
 have h1:d.take a=D.take a:=by
  refine List.ext_getElem? fun k=> ?_
  rw[ZLW,ZLW]
  by_cases hk:k < a
  ·rw[if_pos hk,if_pos hk,h.2 k (.inl hk)]
  ·rw[if_neg hk,if_neg hk]
 have h2:(d.drop a).drop (b - a)=(D.drop a).drop (b - a):=by
  refine List.ext_getElem? fun k=> ?_
  rw[ZLT,ZLT,ZLT,ZLT,h.2 _ (.inr (by omega))]
 have hp:=h.1;rw[←ZL1 a d,←ZL1 a D,h1,List.perm_append_left_iff]at hp;rw[←ZL1 (b - a) (d.drop a),←ZL1 (b - a) (D.drop a),h2,List.perm_append_right_iff]at hp;exact hp
theorem ZE1 {a b:Nat} {d:List En1} {x:En1}:x∈(d.drop a).take (b - a)↔∃k,a≤k∧k < b∧d[k]? =some x:=by
 rw[List.mem_iff_getElem?];constructor
 ·rintro⟨k,hk⟩;rw[ZLW]at hk;split at hk;rotate_left;simp at hk;rw[ZLT]at hk;exact⟨a+k,by omega,by omega,hk⟩
 ·rintro⟨k,h1,h2,h3⟩;refine⟨k - a, ?_⟩;rw[ZLW,if_pos (by omega),ZLT,show a+(k - a)=k by omega];exact h3
theorem Rg.mem {a b k:Nat} {D d:List En1} {x:En1} (h:Rg a b D d) (h1:a≤k) (h2:k < b) (h3:d[k]? =some x):∃k',a≤k'∧k' < b∧D[k']? =some x:=
 ZE1.1 ((h.mid (by omega)).mem_iff.1 (ZE1.2 ⟨k,h1,h2,h3⟩))
def Srt (a b:Nat) (d:List En1):Prop:=∀i j x y,a≤i→i < j→j < b→d[i]? =some x→d[j]? =some y→Le x y
theorem ZGc {f n:Nat} {d:List En1} (h:Hx f 0 n d none):∀(k:Nat) (x y:En1),k < n→d[f]? =some x→d[f+k]? =some y→Le y x:=by
 intro k
 induction k using Nat.strongRecOn with
 |ind k ih=>
  intro x y hk hx hy
  by_cases h0:k=0
  ·subst h0;rw[Nat.add_zero,hx]at hy;rw[←ZL6 hy];exact .rfl' _
  ·have hl:f+k < d.length:=(ZLV.1 hy).1;have hq:d[f+(k - 1) / 2]? =some (d[f+(k - 1) / 2]'(by omega)):=ZLU (by omega);exact(h ((k - 1) / 2) k _ y (Nat.zero_le _) (by simp) (by omega) hk hq hy).trans (ih ((k - 1) / 2) (by omega) x _ (by omega) hx hq)
theorem ZHE {D:List En1} (hn:D.length≤1000) {a b:Nat} (hab:a+1≤b) (hb:b≤D.length):
  wp (Zpj D (a:Int) (b:Int)) (fun d=>Rg a b D d∧Srt a b d):=by
 have Zd:wp (Zpv D (a:Int) (b:Int)) (fun d=>Rg a b D d∧Srt a b d):=by
  obtain⟨n,rfl⟩:∃n,b=a+n:=⟨b - a,by omega⟩;unfold Zpv;rw[show ((a+n:Nat):Int) - (a:Int)=(n:Int) by omega,show (n:Int) - 1=((n - 1:Nat):Int) by omega,show Int.tdiv ((n - 1:Nat):Int) 2=(((n - 1) / 2:Nat):Int)from rfl,ZnF,ZnF,ZnF,ZnF,ZnC];refine⟨ZnJ (by omega),ZnJ (by omega),rfl,ZnJ (by omega), ?_⟩;have l1:=ZqA Zwk (fun s:Nat×List En1=>((a:Int),(0:Int),(n:Int),(s.1:Int) - 1,s.2)) (fun s=>s.1≤n∧Rg a (a+n) D s.2∧Hx a s.1 n s.2 none) (fun s=>s.1)
   (Q:=fun x=>∃d,x=((a:Int),(0:Int),(n:Int),d)∧Rg a (a+n) D d∧Hx a 0 n d none) ((n - 1) / 2+1,D) ⟨by dsimp only;omega,.refl _ _ _,fun k c x y hk _ hcc hcl _ _=>by dsimp only at hk;omega⟩ (by dsimp only;omega) (by
   rintro rec ⟨t,d⟩ ⟨h1,h2,h3⟩ ih;dsimp only at h1 h2 h3 ih;have hl:=h2.len;unfold Zsw Zp5;dsimp only
   by_cases ht:1≤t
   ·rw[decide_eq_true (show (t:Int) - 1≥0 by omega),cond_true,show (t:Int) - 1=((t - 1:Nat):Int) by omega,ZnC];refine ZnK (ZEL (D:=d) (by omega) (f:=a) (lo:=t - 1) (hi:=n) (by omega) (by omega) fun k c x y hk hkr hcc hcl hx hy=>h3 k c x y (by have:k≠t - 1:=fun e=>hkr (by rw[e]);omega) (by simp) hcc hcl hx hy) ?_;rintro d' ⟨r1,r2⟩;rw[ZnF];refine⟨ZnJ (by omega),ih (t - 1,d') ⟨by dsimp only;omega,h2.trans r1,r2⟩ (by dsimp only;omega)⟩
   ·obtain rfl:t=0:=by omega
    rw[decide_eq_false (show ¬((0:Nat):Int) - 1≥0 by omega),cond_false,ZnB];exact⟨d,rfl,h2,h3⟩)
  dsimp only at l1;rw[show (((n - 1) / 2+1:Nat):Int) - 1=(((n - 1) / 2:Nat):Int) by omega]at l1;refine ZnK l1 ?_;rintro _ ⟨d1,rfl,g1,g2⟩;dsimp only;unfold Zqx;rw[ZnF,ZnC];refine⟨ZnJ (by omega), ?_⟩;have l2:=ZqA Zwj (fun s:Nat×List En1=>((a:Int),(0:Int),(s.1:Int) - 1,s.2)) (fun s=>s.1≤n∧Rg a (a+n) D s.2∧Hx a 0 s.1 s.2 none∧Srt (a+s.1) (a+n) s.2∧∀k j x y,k < s.1→s.1≤j→j < n→s.2[a+k]? =some x→s.2[a+j]? =some y→Le x y) (fun s=>s.1)
   (Q:=fun d=>Rg a (a+n) D d∧Srt a (a+n) d) (n,d1) ⟨ZL2 _,g1,g2,fun i j x y h1 h2 h3=>by dsimp only at h1;omega,fun k j x y h1 h2 h3=>by dsimp only at h2;omega⟩ (by dsimp only;omega) (by
   rintro rec ⟨t,d⟩ ⟨h1,h2,h3,h4,h5⟩ ih;dsimp only at h1 h2 h3 h4 h5 ih;have hl:=h2.len;unfold Zsu Zp4;dsimp only
   by_cases ht:1≤t
   ·have hi:a+(t - 1) < d.length:=by omega
    have h0:a < d.length:=by omega
    have hx0:d[a]? =some d[a]:=ZLU h0;rw[decide_eq_true (show (t:Int) - 1≥0 by omega),cond_true,show (t:Int) - 1=((t - 1:Nat):Int) by omega,show (a:Int)+((t - 1:Nat):Int)=((a+(t - 1):Nat):Int) by omega,ZnF,ZnF,ZnF,ZLO,ZLO,ZLU hi,ZnC,ZnB,ZnF,hx0,ZnC,ZnB,ZnF,ZnF,ZnC];refine⟨ZnJ (by omega),ZnJ (by omega),Zop hi,Zop h0,Zop h0,Zpk ⟨by omega,by rw[ZLZ];omega⟩, ?_⟩;have hsl:=ZBp h0 hi;have hsg:=ZyV h0 hi;have hsr:Rg a (a+n) d (sw d a (a+(t - 1)) h0 hi):=ZBo h0 hi (ZL2 _) (by omega) (by omega) (by omega);have hsr2:Rg a (a+t) d (sw d a (a+(t - 1)) h0 hi):=ZBo h0 hi (ZL2 _) (by omega) (by omega) (by omega);show wp (Zn8 (sw d a (a+(t - 1)) h0 hi) ((0:Nat):Int) ((t - 1:Nat):Int) (a:Int)) _;refine ZnK (ZEL (D:=sw d a (a+(t - 1)) h0 hi) (by omega) (f:=a) (lo:=0) (hi:=t - 1) (by omega) (by omega) fun k c x y hk hkr hcc hcl hx hy=> ?_) ?_
    ·have hk0:k≠0:=fun e=>hkr (by rw[e])
     rw[hsg _ (by omega),if_neg (by omega),if_neg (by omega)]at hx;rw[hsg _ (by omega),if_neg (by omega),if_neg (by omega)]at hy;exact h3 k c x y hk (by simp) hcc (by omega) hx hy
    rintro d' ⟨r1,r2⟩;rw[ZnF];have hat:∀j,t - 1≤j→j < n→d'[a+j]? =if j=t - 1 then some d[a]else d[a+j]? :=by
     intro j hj hjn;rw[r1.2 (a+j) (.inr (by omega)),hsg _ (by omega)]
     by_cases e:j=t - 1
     ·rw[if_pos (by omega),if_pos e]
     ·rw[if_neg (by omega),if_neg (by omega),if_neg e]
    have hold:∀k x,k < t - 1→d'[a+k]? =some x→∃k',k' < t∧d[a+k']? =some x:=by intro k x hk hx;obtain⟨k1,q1,q2,q3⟩:=r1.mem (by omega) (show a+k < a+(t - 1) by omega) hx;obtain⟨k2,q4,q5,q6⟩:=hsr2.mem q1 (by omega) q3;exact⟨k2 - a,by omega,by rw[show a+(k2 - a)=k2 by omega];exact q6⟩
    refine⟨ZnJ (by omega),ih (t - 1,d') ⟨by dsimp only;omega,(h2.trans hsr).trans (r1.mono (ZL2 _) (by omega)),r2,fun i j x y q1 q2 q3 hx hy=> ?_,fun k j x y q1 q2 q3 hx hy=> ?_⟩ (by dsimp only;omega)⟩
    ·dsimp only at q1;rw[show i=a+(i - a) by omega,hat (i - a) (by omega) (by omega)]at hx;rw[show j=a+(j - a) by omega,hat (j - a) (by omega) (by omega),if_neg (by omega)]at hy
     by_cases e:i - a=t - 1
     ·rw[if_pos e]at hx;rw[←ZL6 hx];exact h5 0 (j - a) _ y (by omega) (by omega) (by omega) hx0 hy
     ·rw[if_neg e]at hx;exact h4 (a+(i - a)) (a+(j - a)) x y (by omega) (by omega) (by omega) hx hy
    ·dsimp only at q1 q2;obtain⟨k',w1,w2⟩:=hold k x q1 hx;rw[hat j (by omega) q3]at hy
     by_cases e:j=t - 1
     ·rw[if_pos e]at hy;rw[←ZL6 hy];exact ZGc h3 k' _ x w1 hx0 w2
     ·rw[if_neg e]at hy;exact h5 k' j x y w1 (by omega) q3 w2 hy
   ·obtain rfl:t=0:=by omega
    rw[decide_eq_false (show ¬((0:Nat):Int) - 1≥0 by omega),cond_false,ZnB];exact⟨h2,h4⟩)
  refine ZnK l2 ?_;intro d hd;unfold Zqw;rw[ZnB];exact hd
 unfold Zpj;rw[ZnC];refine ZnK Zd fun d hd=> ?_
 rw[ZnF,ZnB];exact⟨by rw[hd.1.len];simp,hd⟩
end Go.Proofs
namespace Go.Proofs
open Go Eng
def Low (a b:Nat) (d:List En1):Prop:=a=0∨∀x,d[a - 1]? =some x→∀k y,a≤k→k < b→d[k]? =some y→Le x y
theorem Low.rg {a b:Nat} {D d:List En1} (h:Low a b D) (hr:Rg a b D d):Low a b d:=by
 rcases h with h |h
 ·exact .inl h
 by_cases h0:a=0
 ·exact .inl h0
 refine .inr fun x hx k y h1 h2 hy=> ?_
 rw[hr.2 (a - 1) (.inl (by omega))]at hx;obtain⟨k',q1,q2,q3⟩:=hr.mem h1 h2 hy;exact h x hx k' y q1 q2 q3
def Ins (a i j:Nat) (d:List En1):Prop:=(∀p q x y,a≤p→p < q→q < i→p≠j→q≠j→d[p]? =some x→d[q]? =some y→Le x y)∧∀q x y,j < q→q < i→d[j]? =some x→d[q]? =some y→Le x y
theorem ZEj {D:List En1} (hn:D.length≤1000) {a b i:Nat} (hai:a+2≤i) (hib:i < b) (hb:b≤D.length) {j0:Int} (hlow:Low a b D) (hI:Ins a i (i - 1) D):
  wp (ZnX big (a:Int) (b:Int) (i:Int) j0 ((i - 1:Nat):Int) D) (fun x=>∃d,x=((a:Int),(b:Int),(i:Int),j0,d)∧Rg a b D d∧Srt a i d):=by
 refine ZqA Zt6 (fun s:Nat×List En1=>((a:Int),(b:Int),(i:Int),j0,(s.1:Int),s.2)) (fun s=>a≤s.1∧s.1 < i∧Rg a b D s.2∧Ins a i s.1 s.2) (fun s=>s.1)
  (Q:=fun x=>∃d,x=((a:Int),(b:Int),(i:Int),j0,d)∧Rg a b D d∧Srt a i d) (i - 1,D) ⟨by dsimp only;omega,by dsimp only;omega,.refl _ _ _,hI⟩ (by dsimp only;omega) ?_
 rintro rec ⟨j,d⟩ ⟨h1,h2,h3,h4,h5⟩ ih;dsimp only at h1 h2 h3 h4 h5 ih;have hl:=h3.len;have hj:j < d.length:=by omega
 unfold Zqh ZoL;dsimp only;have done:(a < j→∀h:j - 1 < d.length,Le d[j - 1] d[j])→Srt a i d:=by
  intro hle p q x y q1 q2 q3 hx hy
  by_cases e1:p=j
  ·subst e1;exact h5 q x y q2 q3 hx hy
  ·by_cases e2:q=j
   ·subst e2;have hjl:q - 1 < d.length:=by omega
    have hb1:=hle (by omega) hjl;rw[ZLU hj]at hy;rw[←ZL6 hy]
    by_cases e3:p=q - 1
    ·subst e3;rw[ZLU hjl]at hx;rw[←ZL6 hx];exact hb1
    ·exact(h4 p (q - 1) x _ q1 (by omega) (by omega) e1 (by omega) hx (ZLU hjl)).trans hb1
   ·exact h4 p q x y q1 q2 q3 e1 e2 hx hy
 by_cases hc:1≤j
 ·have hj1:j - 1 < d.length:=by omega
  rw[decide_eq_true (show (j:Int)≥1 by omega),cond_true,show (j:Int) - 1=((j - 1:Nat):Int) by omega,ZnF,ZLO,ZLO,ZLU hj,ZnC,ZnB,ZnF,ZnF,ZLU hj1,ZnC,ZnB,ZwU,ZnC,ZnB];refine⟨Zop hj,ZnJ (by omega),Zop hj1, ?_⟩
  by_cases ho:ZuQ d[j] d[j - 1] < 0
  ·have haj:a < j:=by
    rcases ZL4 h1 with h |h
    ·exact h
    ·exfalso;rcases(hlow.rg h3)with h0 |h0
     ·omega
     ·have:=h0 d[j - 1] (by rw[h];exact ZLU hj1) j d[j] (by omega) (by omega) (ZLU hj);unfold Le at this;have:=Zx7 d[j - 1] d[j];omega
   rw[decide_eq_true ho,ZLN,cond_false];simp only[ZnF,ZnC,ZnB];refine⟨ZnJ (by omega),ZnJ (by omega),Zop hj1,Zop hj,Zop hj,Zpk ⟨by omega,by rw[ZLZ];omega⟩,ZnJ (by omega), ?_⟩;have hg:=ZyV hj hj1;have hgb:∀k z,(sw d j (j - 1) hj hj1)[k]? =some z→k < d.length:=fun k z hz=>by
    have:=(ZLV.1 hz).1
    rwa [ZBp]at this
   refine ih (j - 1,sw d j (j - 1) hj hj1) ⟨by dsimp only;omega,by dsimp only;omega,h3.trans (ZBo hj hj1 (by omega) (by omega) (by omega) (by omega)),fun p q x y q1 q2 q3 e1 e2 hx hy=> ?_,fun q x y q2 q3 hx hy=> ?_⟩ (by dsimp only;omega)
   ·dsimp only at e1 e2 hx hy;rw[hg _ (hgb _ _ hx),if_neg e1]at hx;rw[hg _ (hgb _ _ hy),if_neg e2]at hy
    by_cases e3:p=j
    ·rw[if_pos e3]at hx;rw[if_neg (by omega)]at hy;rw[←ZL6 hx];exact h4 (j - 1) q _ y (by omega) (by omega) q3 (by omega) (by omega) (ZLU hj1) hy
    ·rw[if_neg e3]at hx
     by_cases e4:q=j
     ·rw[if_pos e4]at hy;rw[←ZL6 hy];exact h4 p (j - 1) x _ q1 (by omega) (by omega) e3 (by omega) hx (ZLU hj1)
     ·rw[if_neg e4]at hy;exact h4 p q x y q1 q2 q3 e3 e4 hx hy
   ·dsimp only at q2 hx hy;rw[hg _ hj1,if_pos rfl]at hx;rw[hg _ (hgb _ _ hy),if_neg (by omega)]at hy;rw[←ZL6 hx]
    by_cases e4:q=j
    ·rw[if_pos e4]at hy;rw[←ZL6 hy];exact .of_lt ho
    ·rw[if_neg e4]at hy;exact h5 q _ y (by omega) q3 (ZLU hj) hy
  ·rw[decide_eq_false ho,ZIO,cond_true,ZnB];exact⟨d,rfl,h3,done fun _ _=>Zxa ho⟩
 ·rw[decide_eq_false (show ¬(j:Int)≥1 by omega),cond_false,ZnB];exact⟨d,rfl,h3,done fun h=>by omega⟩
theorem ZDG {D:List En1} (hn:D.length≤1000) {a b i:Nat} (hai:a+1≤i) (hib:i+2≤b) (hb:b≤D.length) {j0:Int}:
  wp (ZnW big (a:Int) (b:Int) (i:Int) j0 ((i+1:Nat):Int) D) (fun x=>∃d,x=((a:Int),(b:Int),(i:Int),j0,d)∧Rg i b D d):=by
 refine ZqA Zt5 (fun s:Nat×List En1=>((a:Int),(b:Int),(i:Int),j0,(s.1:Int),s.2)) (fun s=>i+1≤s.1∧s.1≤b∧Rg i b D s.2) (fun s=>b - s.1)
  (Q:=fun x=>∃d,x=((a:Int),(b:Int),(i:Int),j0,d)∧Rg i b D d) (i+1,D) ⟨ZL2 _,by dsimp only;omega,.refl _ _ _⟩ (by dsimp only;omega) ?_
 rintro rec ⟨j,d⟩ ⟨h1,h2,h3⟩ ih;dsimp only at h1 h2 h3 ih;have hl:=h3.len;unfold Zqf ZoK;dsimp only
 by_cases hc:j < b
 ·have hj:j < d.length:=by omega
  have hj1:j - 1 < d.length:=by omega
  rw[decide_eq_true (show (j:Int) < (b:Int) by omega),cond_true,show (j:Int) - 1=((j - 1:Nat):Int) by omega,ZnF,ZLO,ZLO,ZLU hj,ZnC,ZnB,ZnF,ZnF,ZLU hj1,ZnC,ZnB,ZwU,ZnC,ZnB];refine⟨Zop hj,ZnJ (by omega),Zop hj1, ?_⟩
  by_cases ho:ZuQ d[j] d[j - 1] < 0
  ·rw[decide_eq_true ho,ZLN,cond_false];simp only[ZnF,ZnC,ZnB];refine⟨ZnJ (by omega),ZnJ (by omega),Zop hj1,Zop hj,Zop hj,Zpk ⟨by omega,by rw[ZLZ];omega⟩,ZnJ (by omega), ?_⟩;exact ih (j+1,sw d j (j - 1) hj hj1) ⟨by dsimp only;omega,by dsimp only;omega,h3.trans (ZBo hj hj1 (by omega) (by omega) (by omega) (by omega))⟩ (by dsimp only;omega)
  ·rw[decide_eq_false ho,ZIO,cond_true,ZnB];exact⟨d,rfl,h3⟩
 ·rw[decide_eq_false (show ¬(j:Int) < (b:Int) by omega),cond_false,ZnB];exact⟨d,rfl,h3⟩
end Go.Proofs
