/- Plain laws over the specs, part 2. -/
import Derived.Test.YtdmabekeafhflaaGreatDoorUrM1
import Derived.Test.YtdmabekeafhflaaGreatDoorUrM0
set_option linter.unusedVariables false
set_option linter.unusedSimpArgs false
set_option linter.unusedSectionVars false
open Bool renaming not_true→ZTW, and_eq_true→ZPK, true_and→ZTX, not_false→ZTV
open Int renaming toNat_natCast→ZTY
open List renaming length_singleton→ZUc, length_append→ZT6, getElem_mem→ZT5, length_cons→ZT7, all_eq_true→ZT0, length_nil→ZUb, length_take→ZUd, mem_append→ZUe, mem_singleton→ZUf, all_cons→ZTZ, dropWhile_cons→ZT2, takeWhile_cons→ZUh, length_filter_le→ZT9, take_succ_eq_append_getElem→ZUj, take_length→ZUi, length_map→ZUa, getElem?_eq_getElem→ZT4, length_drop→ZT8, contains_iff_mem→ZT1, takeWhile_append_dropWhile→ZUg, dropWhile_sublist→ZT3
open Nat renaming le_refl→ZUk, lt_or_ge→ZUm, le_trans→ZUl
open Option renaming bind_some→ZUn, some.injEq→ZUo
namespace Go.Proofs
open Go Eng
theorem ZQs:∀x y:Str,Op.bytesLess x y=decide (x < y)
 |x,[]=>by
  have:¬x < []:=by simp
  rw[decide_eq_false this];cases x<;>rfl
 | [],b::y=>by
  have:([]:Str) < b::y:=by simp
  rw[decide_eq_true this];rfl
 |a::x,b::y=>by rw[Op.bytesLess,ZQs x y,Bool.eq_iff_iff];grind[List.cons_lt_cons_iff]
def Srt (l:List Str):Prop:=l.Pairwise (fun a b=>a≤b)∧l.Nodup
theorem ZJL (l:List Str):Srt (ZAE l):=⟨ZDE l,ZAL l⟩
theorem ZJM {l:List Str} (h:Srt l) {i j:Nat} (hij:i < j) (hj:j < l.length):l[i] < l[j]:=by
 have h1:=List.pairwise_iff_getElem.1 h.1 i j (by omega) hj hij;have h2:=List.pairwise_iff_getElem.1 h.2 i j (by omega) hj hij;grind
theorem ZNt (x y:Str):Zzq x y=some (decide (x < y)):=by grind[Zzq,ZyH,ZuG,ZQs]
theorem ZPT {i j:Nat} (h:i+j≤4611686018427387904):IntKind.wrap .i64 (shrK .u64 (IntKind.wrap .u64 ((i:Int)+(j:Int))) 1)=(((i+j) / 2:Nat):Int):=by rw[show (i:Int)+(j:Int)=((i+j:Nat):Int) by omega,Zpp (by omega),show (1:Int)=((1:Nat):Int)from rfl,ZCh 1 (by decide),wrap_i64 (by omega)]
theorem ZJT {xs:List Str} (hs:Srt xs) (hl:xs.length≤1000000000000) (t:Str):wp (Zqh xs t) (fun r=>r.2=xs.contains t):=by
 unfold Zqh;rw[ZoM];refine ZoT (ZzO Zyh (fun(s:Nat×Nat)=>(xs,t,(xs.length:Int),(s.1:Int),(s.2:Int)))
  (fun s=>(s.1≤s.2∧s.2≤xs.length)∧(∀k (h:k < xs.length),k < s.1→xs[k] < t)∧(∀k (h:k < xs.length),s.2≤k→¬xs[k] < t)) (fun s=>s.2 - s.1)
  (Q:=fun x=>∃i:Nat,x=(xs,t,(xs.length:Int),(i:Int))∧i≤xs.length∧(∀k (h:k < xs.length),k < i→xs[k] < t)∧(∀k (h:k < xs.length),i≤k→¬xs[k] < t)) (0,xs.length) ⟨⟨Nat.zero_le _,ZUk _⟩,fun k _ h=>absurd h (Nat.not_lt_zero _),fun k h h'=>absurd h (by omega)⟩ (by omega) ?_) ?_
 ·rintro rec ⟨i,j⟩ ⟨⟨h1,h2⟩,hlo,hhi⟩ ih;dsimp only at h1 h2 hlo hhi ih⊢
  unfold ZtE ZqE;dsimp only;rw[ZPT (by omega)];rw[ZoX];refine⟨fun h=> ?_,fun h=> ?_⟩
  ·simp only[decide_eq_true_eq]at h;have hij:i < j:=by omega
   have hm:(i+j) / 2 < xs.length:=by omega
   rw[ZoO,ZoO];refine⟨ZoQ (by omega),by decide, ?_⟩;rw[Zqj hm,ZUn,ZNt,ZUn,ZoX];refine⟨fun hc=> ?_,fun hc=> ?_⟩
   ·simp only[decide_eq_true_eq]at hc;rw[ZoO];refine⟨ZoQ (by omega), ?_⟩;have:=ih ((i+j) / 2+1,j) ⟨⟨by omega,h2⟩,fun k hk hlt=> ?_,hhi⟩ (by omega)
    ·grind
    ·dsimp only at hlt;rcases ZUm k ((i+j) / 2)with h3 |h3
     ·exact List.lt_trans (ZJM hs h3 hm) hc
     grind
   ·simp only[decide_eq_false_iff_not]at hc;refine ih (i,(i+j) / 2) ⟨⟨by omega,by omega⟩,hlo,fun k hk hle=> ?_⟩ (by omega);dsimp only at hle;rcases ZUm ((i+j) / 2) k with h3 |h3
    ·exact fun h4=>hc (List.lt_trans (ZJM hs h3 hk) h4)
    grind
  grind[ZoJ]
 ·rintro x ⟨i,rfl,hi,hlo,hhi⟩;dsimp only;unfold Zq4 Zpg;have key:xs.contains t=true↔∃h:i < xs.length,xs[i]=t:=by
   rw[ZT1];constructor
   ·intro hm;obtain⟨k,hk,hkt⟩:=List.getElem_of_mem hm;have h1:i≤k:=by
     rcases ZUm k i with h |h
     ·have:=hlo k hk h;rw[hkt]at this;exact absurd this (List.lt_irrefl t)
     ·exact h
    rcases ZUm i k with h |h
    ·have h2:=ZJM hs h hk;rw[hkt]at h2;exact absurd h2 (hhi i (by omega) (ZUk _))
    ·obtain rfl:i=k:=by omega
     exact⟨hk,hkt⟩
   ·rintro⟨h,rfl⟩;exact ZT5 h
  grind[Zqj,ZoJ,Zwn]
def comm (a b:List Str):Nat:=(a.filter fun x=>b.contains x).length
theorem ZFz (a b:List Str):comm a b≤a.length:=ZT9 _ _
theorem ZJO {a b:List Str} (hb:Srt b) (hla:a.length≤1000000000000) (hlb:b.length≤1000000000000):ZxD a b=some (comm a b:Int):=by
 refine Zp6 ?_;unfold ZxD;rw[ZoM];refine ZoT (ZtG ZCo a.length (by omega) (fun i (n:Nat)=>(b,(n:Int),a,(a.length:Int),i)) (fun i n=>n=comm (a.take i) b)
  (Q:=fun x=>x=(comm a b:Int)) 0 (by simp[comm]) ?_ ?_) ?_
 ·rintro rec i n hi rfl ih;unfold Zxn Zuh;dsimp only;rw[decide_eq_true (show (i:Int) < (a.length:Int) by omega),cond_true,Zqj hi,ZUn,ZoM];refine ZoT (ZJT hb hlb _) fun⟨q,ok⟩ hok=> ?_
  dsimp only at hok⊢
  have hc:comm (a.take (i+1)) b=comm (a.take i) b+(if b.contains a[i]then 1 else 0):=by unfold comm;rw[ZUj hi,List.filter_append,ZT6];congr 1;cases h:b.contains a[i]<;>(simp only[List.filter_cons,h,List.filter_nil];rfl)
  grind[ZoQ,ZvY,ZoO,comm]
 all_goals grind[Zxn,Zuh,ZoJ,Zyi]
end Go.Proofs
namespace Go.Proofs
open Go Eng
def isD (b:UInt8):Bool:=decide (48≤b.toNat)&&decide (b.toNat≤57)
def ZGV:Str→Bool×Str
 | []=>(false,[])
 |b::r=>bif b == 45 then (true,r)else bif b == 43 then (false,r)else (false,b::r)
def okD (s:Str) (m:Nat):Bool:=decide (1≤s.length)&&decide (s.length≤m)&&s.all isD
def ZEh (body:Str):Option (Str×Str):=
 bif decide (1≤(body.takeWhile isD).length)&&decide ((body.takeWhile isD).length≤15)then
  (match body.dropWhile isD with
  | []=>some (body.takeWhile isD,[])
  |c::p=>bif c == 46&&okD p 9 then some (body.takeWhile isD,p)else none)
 else none
def ZEP (t:Str):Option (Bool×Str×Str):=(ZEh (ZGV t).2).map fun x=>((ZGV t).1,x.1,x.2)
def n46 (b:UInt8):Bool:=b != 46
theorem ZGj {p:UInt8→Bool}:∀(F R:Str),F.all p=true→(∀b r,R=b::r→p b=false)→(F++R).takeWhile p=F∧(F++R).dropWhile p=R
 | [],[],_,_=>⟨rfl,rfl⟩
 | [],b::r,_,h=>by simp_all
 |x::F,R,h,hR=>by rw[ZTZ,ZPK]at h;obtain⟨h1,h2⟩:=ZGj F R h.2 hR;simp_all
theorem ZL1 (p:UInt8→Bool):∀l:Str,(l.takeWhile p).all p=true
 | []=>rfl
 |x::l=>by
  simp_all
theorem ZGx (p:UInt8→Bool):∀(l:Str) b r,l.dropWhile p=b::r→p b=false
 | [],b,r,h=>by simp at h
 |x::l,b,r,h=>by
  rw[ZT2]at h;cases hx:p x with
  |true=>rw[hx,if_pos rfl]at h;exact ZGx p l b r h
  |false=>simp_all
theorem ZNy {b:UInt8} (h:isD b=true):n46 b=true:=by unfold n46;rw[bne_iff_ne];rintro rfl;exact absurd h (by decide)
theorem ZNU {l:Str} (h:l.all isD=true):l.all n46=true:=ZT0.2 fun b hb=>ZNy (ZT0.1 h b hb)
theorem ZFl {b:UInt8} (h:n46 b=false):b=46:=by grind[n46]
theorem ZEg (body:Str):ZEh body=bif okD (body.takeWhile n46) 15&&((body.dropWhile n46).isEmpty||okD (body.dropWhile n46).tail 9)then some (body.takeWhile n46,(body.dropWhile n46).tail)else none:=by
 have hsp:body.takeWhile n46++body.dropWhile n46=body:=ZUg;cases hall:(body.takeWhile n46).all isD with
 |true=>
  have hs:=ZGj (p:=isD) (body.takeWhile n46) (body.dropWhile n46) hall (fun b r e=>by rw[ZFl (ZGx n46 body b r e)];decide)
  grind[ZEh,okD,ZFl,ZGx]
 |false=>
  have e:okD (body.takeWhile n46) 15=false:=by grind[okD]
  grind[ZUg,ZL1,ZEh,ZGj,n46,ZNU]
def ZFM (l:Str):Nat:=l.foldl (fun n b=>10*n+(b.toNat - 48)) 0
theorem ZJ5 (l:Str) (b:UInt8):ZFM (l++[b])=10*ZFM l+(b.toNat - 48):=by grind[ZFM]
theorem ZNj {l:Str} (h:l.all isD=true):ZFM l < 10 ^ l.length:=by
 have key:∀(l:Str) (n k:Nat),l.all isD=true→n < 10 ^ k→l.foldl (fun n b=>10*n+(b.toNat - 48)) n < 10 ^ (k+l.length):=by
  intro l
  induction l with
  |nil=>simp_all
  |cons b l ih=>
   intro n k hb hn;rw[ZTZ,ZPK]at hb;have hd:=hb.1;unfold isD at hd;simp only[ZPK,decide_eq_true_eq]at hd;have:=ih (10*n+(b.toNat - 48)) (k+1) hb.2 (by omega);grind
 have:=key l 0 0 h (by decide)
 rwa [Nat.zero_add]at this
def ZR3 (x:Bool×Str×Str):Rat:=Rat.divInt (if x.1 then -((ZFM (x.2.1++x.2.2):Nat):Int)else ((ZFM (x.2.1++x.2.2):Nat):Int)) ((10 ^ x.2.2.length:Nat):Int)
structure ZHU (D P:Str):Prop where
 d1:1≤D.length
 d2:D.length≤15
 p:P.length≤9
 dd:D.all isD=true
 pp:P.all isD=true
theorem ZDp {body D P:Str} (h:ZEh body=some (D,P)):ZHU D P:=by
 rw[ZEg]at h;cases hc:(okD (body.takeWhile n46) 15&&((body.dropWhile n46).isEmpty||okD (body.dropWhile n46).tail 9))with
 |false=>simp_all
 |true=>
  rw[hc,cond_true]at h;simp only[ZUo,Prod.mk.injEq]at h;obtain⟨rfl,rfl⟩:=h;rw[ZPK]at hc;obtain⟨h1,h2⟩:=hc;unfold okD at h1;simp only[ZPK,decide_eq_true_eq]at h1;cases hR:body.dropWhile n46 with
  |nil=>exact⟨h1.1.1,h1.1.2,by simp,h1.2,by simp⟩
  |cons c p=>
   rw[hR]at h2;simp only[List.isEmpty_cons,Bool.false_or,List.tail_cons]at h2⊢
   unfold okD at h2;simp only[ZPK,decide_eq_true_eq]at h2;exact⟨h1.1.1,h1.1.2,h2.1.2,h1.2,h2.2⟩
theorem ZGr {k:Nat} (h:k≤24):10 ^ k < 2 ^ 80:=Nat.lt_of_le_of_lt (Nat.pow_le_pow_right (by decide) h) (by decide)
theorem ZG0 {l:Str} (h:l.all isD=true) (hl:l.length≤24):ZFM l < 2 ^ 80:=Nat.lt_trans (ZNj h) (ZGr hl)
theorem ZLZ {n:Nat} (h:n < 2 ^ 80):(wd n).length≤3:=ZGg h 3 (by decide)
end Go.Proofs
namespace Go.Proofs
open Go Eng
theorem ZEM (s:Str) (c:UInt8):ZpQ s [c]=some (match s with |b::_=>b == c | []=>false):=by
 unfold ZpQ Zqi;cases s with
 |nil=>rfl
 |cons b r=>
  rw[decide_eq_true (show ((b::r).length:Int)≥(([c]:Str).length:Int) by grind),cond_true,Zp8 (by grind),chk_true];simp
theorem ZG8 (s:Str) (c:UInt8):ZxC s [c]=some (match s with |b::r=>bif b == c then (r,true)else (b::r,false) | []=>([],false)):=by
 unfold ZxC ZsW;rw[ZEM];cases s with
 |nil=>rfl
 |cons b r=>
  rw[ZUn];dsimp only;cases hb:b == c with
  |false=>rfl
  |true=>
   rw[ZTW,cond_false,Zp8 (by grind),chk_true];rfl
theorem ZD5 (s:Str) (c:UInt8):Zw7 s [c]=some (match s with |b::r=>bif b == c then r else b::r | []=>[]):=by
 unfold Zw7 ZsJ;rw[ZEM];cases s with
 |nil=>rfl
 |cons b r=>
  rw[ZUn];dsimp only;cases hb:b == c with
  |false=>rfl
  |true=>
   rw[cond_true,Zp8 (by grind),chk_true];rfl
theorem ZKh:∀s:Str,Lib.indexByte s 46=if s.dropWhile n46=[]then -1 else ((s.takeWhile n46).length:Int)
 | []=>rfl
 |b::s=>by
  rw[Lib.indexByte,ZKh s,ZT2,ZUh];grind[n46]
theorem ZkE {s:Str} (hl:s.length≤9223372036854775807):ZAg s [46]=some (s.takeWhile n46,(s.dropWhile n46).tail, !(s.dropWhile n46).isEmpty):=by
 have hsp:s.takeWhile n46++s.dropWhile n46=s:=ZUg;have hidx:Zsj s [46]=some (Lib.indexByte s 46):=by
  unfold Zsj Zq5 ZqJ;rw[show ((([46]:Str).length:Int) == 0)=false from rfl,cond_false]
  by_cases h:([46]:Str)=s
  ·subst h;rfl
  ·rw[show (([46]:Str) == s)=false by simp_all,cond_false];rfl
 unfold ZAg Zwd;rw[hidx,ZUn,ZKh];cases hR:s.dropWhile n46 with
 |nil=>
  simp_all
 |cons c p=>
  have hlen:(s.takeWhile n46).length+(p.length+1)=s.length:=by grind
  rw[if_neg (by simp),decide_eq_true (show ((s.takeWhile n46).length:Int)≥0 by omega),cond_true,Zp8 (by omega),ZoQ (by grind),Zp8 (by grind)];simp only[chk_true,ZUn];have e1:s.take ((((s.takeWhile n46).length:Nat):Int)).toNat=s.takeWhile n46:=by
   grind[List.take_left']
  have e2:s.drop ((((s.takeWhile n46).length:Nat):Int)+(([46]:Str).length:Int)).toNat=p:=by
   rw[show ((((s.takeWhile n46).length:Nat):Int)+(([46]:Str).length:Int)).toNat=(s.takeWhile n46).length+1 by simp_all]
   conv=>lhs;rw[←hsp,hR]
   rw[show (s.takeWhile n46++c::p).takeWhile n46=s.takeWhile n46 by simp_all];rw[←List.drop_drop,List.drop_left' rfl];rfl
  simp_all
theorem dset:((List.range 256).all fun n=>([48,49,50,51,52,53,54,55,56,57]:Str).contains n.toUInt8 == isD n.toUInt8)=true:=by decide+kernel
theorem ZNI (b:UInt8):([48,49,50,51,52,53,54,55,56,57]:Str).contains b=isD b:=by have:=ZT0.1 dset b.toNat (List.mem_range.2 b.toNat_lt);simp_all
theorem Zzt {p:UInt8→Bool}:∀l:Str,l.dropWhile p=[]↔l.all p=true
 | []=>by simp
 |b::l=>by
  rw[ZT2,ZTZ];cases h:p b with
  |true=>rw[if_pos rfl,ZTX];exact Zzt l
  |false=>simp
theorem ZK6 (s cs:Str):(Lib.trimS s cs == [])=s.all (cs.contains ·):=by
 rw[Bool.eq_iff_iff,beq_iff_eq];unfold Lib.trimS Lib.trimLeftS Lib.trimRightS;rw[Zzt];constructor
 ·intro h;have h1:(s.reverse.dropWhile (cs.contains ·)).all (cs.contains ·)=true:=by simp_all
  have h2:s.reverse.dropWhile (cs.contains ·)=[]:=by
   cases he:s.reverse.dropWhile (cs.contains ·)with
   |nil=>rfl
   |cons b r=>
    grind[ZGx]
  grind[Zzt]
 grind[Zzt]
theorem ZG7 (s:Str) (m:Nat):Zxs s (m:Int)=some (okD s m):=by
 unfold Zxs ZuF okD ZzP
 by_cases h1:1≤s.length
 ·rw[decide_eq_true (show (s.length:Int)≥1 by omega),cond_true,decide_eq_true h1]
  by_cases h2:s.length≤m
  ·rw[decide_eq_true (show (s.length:Int)≤(m:Int) by omega),cond_true,decide_eq_true h2];rw[show (([48,49,50,51,52,53,54,55,56,57]:Str).all fun b=>decide (b.toNat < 128))=true from by decide,chk_true,show decide (([48,49,50,51,52,53,54,55,56,57]:Str).length < 4294967281)=true from by decide,chk_true,ZUn,ZK6];grind[ZNI]
  grind
 simp_all
def zf:ZoG:=ZoG.mk (ZoN.mk false []) (ZoN.mk false [])
theorem ZPt:([10]:List Int)=iL (wd 10):=by kernel_rfl
theorem ZNh:([1]:List Int)=iL (wd 1):=by kernel_rfl
theorem ZNm:([]:List Int)=iL (wd 0):=by kernel_rfl
theorem ZI4 {b:UInt8} (h:isD b=true):IntKind.wrap .u64 (IntKind.wrap .u8 (((b.toNat:Nat):Int) - 48))=((b.toNat - 48:Nat):Int):=by grind[isD,wrap_u8,wrap_u64]
theorem ZMg {neg:Bool} {D P:Str} (h:ZHU D P):Zr6 neg D P false false false [] []=some (fOf (ZR3 (neg,D,P)),true):=by
 have hd1:=h.d2;have hp1:=h.p;have hall:(D++P).all isD=true:=by rw[List.all_append,h.dd,h.pp];rfl
 have hlen:(D++P).length≤24:=by grind
 refine Zp6 ?_;unfold Zr6;rw[cond_false,ZNh,ZIq _ (by grind[ZLZ]),ZUn,ZoO,ZoO,ZoM,ZPt,ZNm];refine⟨decide_eq_true (by grind[Zr]),decide_eq_true (by omega), ?_⟩;refine ZoT (ZtG ZCE (D++P).length (by omega) (fun i (n:Nat)=>(neg,P,iL (wd n),iL (wd 10),(((D++P).map fun b:UInt8=>((b.toNat:Nat):Int)).length:Int),i,false,false,iL (wd 1),(D++P).map (fun b:UInt8=>((b.toNat:Nat):Int)),iL (wd 0),iL (wd 0))) (fun i n=>n=ZFM ((D++P).take i))
  (Q:=fun x=>x=(neg,P,iL (wd (ZFM (D++P))),iL (wd 10),false,false,iL (wd 1),iL (wd 0),iL (wd 0))) 0 (by rfl) ?_ ?_) ?_
 ·rintro rec i n hi rfl ih;unfold ZxM Zu5;dsimp only;have hb:isD (D++P)[i]=true:=ZT0.1 hall _ (ZT5 hi);have hn:ZFM ((D++P).take i) < 2 ^ 80:=ZG0 (ZT0.2 fun b hb=>ZT0.1 hall b (List.mem_of_mem_take hb)) (by grind);have hn2:ZFM ((D++P).take (i+1))=ZFM ((D++P).take i)*10+((D++P)[i].toNat - 48):=by grind[ZUj,ZJ5]
  have hlm:i < ((D++P).map fun b:UInt8=>((b.toNat:Nat):Int)).length:=by grind
  have hb':=hb;unfold isD at hb';simp only[ZPK,decide_eq_true_eq]at hb';have w1:=ZLZ hn;have w10:=ZLZ (n:=10) (by decide);have w2:(wd (ZFM ((D++P).take i)*10)).length≤100:=ZGg (k:=84) (by omega) 100 (by decide);have w3:=ZLZ (n:=(D++P)[i].toNat - 48) (by omega);rw[decide_eq_true (show (i:Int) < (((D++P).map fun b:UInt8=>((b.toNat:Nat):Int)).length:Int) by omega),cond_true,ZFp hlm,chk_true,ZTY,ZT4 hlm,ZUn,List.getElem_map,ZGk _ _ (by omega) (by omega),ZUn,ZI4 hb,ZEA _ (by omega),ZUn,
   ZJ2 _ _ (by omega) (by omega),ZUn,ZoO]
  grind[ZoQ]
 ·grind[ZxM,Zu5,ZoJ]
 ·rintro x rfl;dsimp only;unfold Zza;rw[ZoM];refine ZoT (ZtG ZCD P.length (by omega) (fun i (k:Nat)=>(neg,iL (wd (ZFM (D++P))),iL (wd 10),iL (wd (10 ^ k)),(P.length:Int),i,false,false,iL (wd 0),iL (wd 0))) (fun i k=>k=i)
   (Q:=fun x=>x=(neg,iL (wd (ZFM (D++P))),iL (wd (10 ^ P.length)),false,false,iL (wd 0),iL (wd 0))) 0 (by rfl) ?_ ?_) ?_
  ·grind[ZxL,Zu4,ZLZ,ZGr,ZGk,ZoO,ZoQ]
  ·grind[ZxL,Zu4,ZoJ]
  ·rintro x rfl;dsimp only;unfold Zy9;have hnum:=ZG0 hall hlen;have hpw:=ZGr (show P.length≤24 by omega);have w1:=ZLZ hnum;have w2:=ZLZ hpw;rw[ZxU _ _ (by omega),ZUn,ZxU _ _ (by omega),ZUn];have hne:((10 ^ P.length:Nat):Int)≠0:=by grind
   have:=ZCJ (if neg=true then -((ZFM (D++P):Nat):Int)else ((ZFM (D++P):Nat):Int)) ((10 ^ P.length:Nat):Int) hne (by
    grind) (by grind)
   simp only[Bool.false_eq_true,if_false];rw[this,ZUn,ZoJ];rfl
theorem ZF5 {t:Str} (hl:t.length≤9223372036854775807):Zul t=some (match ZEP t with |some x=>(fOf (ZR3 x),true) |none=>(zf,false)):=by
 have key:∀(body:Str) (neg:Bool),body.length≤9223372036854775807→Zt8 body neg false false [] []=some (match (ZEh body).map fun x=>(neg,x.1,x.2)with |some x=>(fOf (ZR3 x),true) |none=>(zf,false)):=by
  intro body neg hb;unfold Zt8;rw[ZkE hb,ZUn];dsimp only;rw[show (15:Int)=((15:Nat):Int)from rfl,ZG7,ZUn,show (9:Int)=((9:Nat):Int)from rfl];have hpc:=ZEg body;cases h1:okD (body.takeWhile n46) 15 with
  |false=>
   rw[h1,Bool.false_and,cond_false]at hpc;rw[hpc,ZTV,cond_true];rfl
  |true=>
   rw[h1,ZTX]at hpc;rw[ZTW,cond_false];cases h2:(body.dropWhile n46).isEmpty with
   |true=>
    grind[ZMg,ZDp]
   |false=>
    rw[h2,Bool.false_or]at hpc;rw[ZTV,cond_true,ZG7,ZUn];cases h3:okD (body.dropWhile n46).tail 9 with
    |false=>
     rw[h3,cond_false]at hpc;rw[hpc];rfl
    |true=>
     grind[ZMg,ZDp]
 grind[Zul,ZEP,ZGV,ZG8,ZD5]
end Go.Proofs
namespace Go.Proofs
open Go Eng
theorem ZPs (b:UInt8) (k:UInt8):(((b.toNat:Nat):Int) == ((k.toNat:Nat):Int))=(b == k):=by
 grind[UInt8.toNat_inj]
end Go.Proofs
namespace Go.Proofs
open Go Eng
end Go.Proofs
namespace Go.Proofs
open Go Eng
def is0 (b:UInt8):Bool:=b == 48
def sp (b:UInt8):Bool:=b == 32
def rtr (p:UInt8→Bool) (l:Str):Str:=(l.reverse.dropWhile p).reverse
def lz (D:Str):Str:=bif (D.dropWhile is0).isEmpty then [48]else D.dropWhile is0
def rz (P:Str):Str:=rtr is0 P
def ZK0 (D P:Str):Str:=lz D++(bif (rz P).isEmpty then []else 46::rz P)
def ZPi (x:Bool×Str×Str):Str:=bif x.1&& !(ZK0 x.2.1 x.2.2 == [48])then 45::ZK0 x.2.1 x.2.2 else ZK0 x.2.1 x.2.2
theorem ZHv (p:UInt8→Bool) (P:Str):(rtr p P).length≤P.length:=by grind[rtr,ZT3]
theorem ZMc {D:Str} (h:1≤D.length):(lz D).length≤D.length:=by
 grind[lz,ZT3]
theorem ZIj {D P:Str} (h:1≤D.length) (h2:D.length≤15) (h3:P.length≤9):(ZK0 D P).length≤25:=by
 grind[ZMc,ZHv,ZK0,rz]
theorem ZDq (c:UInt8):(fun b:UInt8=>([c]:Str).contains b)=fun b=>b == c:=by grind
def ZHq (s:Str):Str:=(rtr sp s).dropWhile sp
theorem ZK8 (s:Str):Lib.trimS s [32]=ZHq s:=by unfold Lib.trimS Lib.trimLeftS Lib.trimRightS ZHq rtr;rw[ZDq];rfl
theorem ZHr (s:Str):ZBR s=some (ZHq s):=by grind[ZBR,ZzP,decide,chk_true,ZK8]
theorem ZJD (s:Str):(ZHq s).length≤s.length:=ZUl (ZT3 _).length_le (ZHv sp s)
end Go.Proofs
namespace Go.Proofs
open Go Eng
theorem ZLM (a:Str):ZAs [a,[48]]=some (bif a.isEmpty then [48]else a):=by
 have key:wp (Zww big ([]:Str) [a,[48]] ((([a,[48]]:List Str).length:Nat):Int) 0) (fun x=>x= .ret (bif a.isEmpty then [48]else a)):=by
  refine ZsS ZDn ([a,[48]]:List Str) (by simp) (fun i (_:Unit)=>(([]:Str),([a,[48]]:List Str),((([a,[48]]:List Str).length:Nat):Int),i)) (fun k _=>k≤1∧(k=1→a=[])) () ⟨by omega,fun h=>by omega⟩ ?_ ?_
  ·rintro rec k _ hk ⟨h1,h2⟩ ih;unfold ZBw ZzI;dsimp only;rw[decide_eq_true (show (k:Int) < ((([a,[48]]:List Str).length:Nat):Int) by omega),cond_true,Zqj hk,ZUn];rcases Nat.eq_zero_or_pos k with rfl |hk0
   ·show wp (bif (!(a == []))then some (Out.ret a)else chk (inK .i64 (((0:Nat):Int)+1)) (rec ([],[a,[48]],((([a,[48]]:List Str).length:Nat):Int),((0:Nat):Int)+1))) _;cases a with
    |nil=>
     rw[show (!(([]:Str) == ([]:Str)))=false from rfl,cond_false,ZoO];exact⟨by decide,ih () ⟨by omega,fun _=>rfl⟩⟩
    |cons b r=>
     grind[ZoJ]
   grind[ZoJ]
  simp_all
 unfold ZAs;obtain⟨x,hx,rfl⟩:=key;simp_all
theorem ZLg (t:Str):(ZGV t).2.length≤t.length:=by
 unfold ZGV;grind
theorem ZDT {t:Str} {x:Bool×Str×Str} (h:ZEP t=some x):x.1=(ZGV t).1∧ZEh (ZGV t).2=some x.2:=by
 grind[ZEP,ZEh]
theorem ZI5 {b:Str} {x:Str×Str} (h:ZEh b=some x):∃c r,b=c::r∧isD c=true:=by
 have hok:=ZDp h;rw[ZEg]at h;cases b with
 |nil=>simp[okD]at h
 |cons c r=>
  grind[ZUh,okD]
theorem ZPL (b:UInt8):([43,45]:Str).contains b=((b == 45)||(b == 43)):=by grind
theorem ZP4 {b:UInt8} (h:isD b=true):((b == 45)||(b == 43))=false:=by
 cases h1:b == 45 with
 |true=>rw[eq_of_beq h1]at h;exact absurd h (by decide)
 |false=>
  cases h2:b == 43 with
  |true=>rw[eq_of_beq h2]at h;exact absurd h (by decide)
  |false=>rfl
theorem ZK7 {t:Str} {x:Bool×Str×Str} (h:ZEP t=some x):Lib.trimLeftS t [43,45]=(ZGV t).2∧∃b r,t=b::r∧(b == 45)=x.1:=by
 obtain⟨h1,h2⟩:=ZDT h;obtain⟨c,r,hc,hd⟩:=ZI5 h2;have hpm:=ZP4 hd;unfold Lib.trimLeftS;rw[show (fun b:UInt8=>([43,45]:Str).contains b)=fun b=>(b == 45)||(b == 43)from funext ZPL];have stop:(c::r).dropWhile (fun b=>(b == 45)||(b == 43))=c::r:=by simp_all
 rw[h1];cases t with
 |nil=>grind[ZGV]
 |cons b s=>
  grind[ZGV,ZT2]
theorem ZHE {t:Str} (hl:t.length≤9223372036854775807):ZyL t=some (match ZEP t with |some x=>(ZPi x,true) |none=>([],false)):=by
 unfold ZyL;rw[ZF5 hl,ZUn];cases hp:ZEP t with
 |none=>rfl
 |some x=>
  obtain⟨neg,D,P⟩:=x;obtain⟨h1,h2⟩:=ZDT hp;obtain⟨ht,b,r,hbr,hb45⟩:=ZK7 hp;have hok:=ZDp h2;have hsl:=ZLg t;dsimp only at h1 hb45⊢
  have hpc:=ZEg (ZGV t).2;rw[h2]at hpc;have hDP:D=(ZGV t).2.takeWhile n46∧P=((ZGV t).2.dropWhile n46).tail:=by
   grind
  unfold ZyD ZzX;rw[ZTW,cond_false,show (([43,45]:Str).all fun b=>decide (b.toNat < 128))=true from by decide,chk_true,show decide (([43,45]:Str).length < 4294967281)=true from by decide,chk_true,ZUn,ht,ZkE (by omega),ZUn];dsimp only;rw[←hDP.1,←hDP.2,show (([48]:Str).all fun b=>decide (b.toNat < 128))=true from by decide,chk_true,show decide (([48]:Str).length < 4294967281)=true from by decide,chk_true,ZUn,chk_true,chk_true,ZUn];have e1:Lib.trimLeftS D [48]=D.dropWhile is0:=by unfold Lib.trimLeftS;rw[ZDq];rfl
  have e2:Lib.trimRightS P [48]=rz P:=by unfold Lib.trimRightS rz rtr;rw[ZDq];rfl
  rw[e1,e2,ZLM,ZUn];show (bif (!(rz P == ([]:Str)))then _ else Zsn t (lz D))=_;have hd1:=hok.d1;have hd2:=hok.d2;have hp9:=hok.p;have hol:=ZIj hd1 hd2 hp9;have hzl:=ZMc hd1;have hrl:=ZHv is0 P;have fin:∀out:Str,out=ZK0 D P→Zsn t out=some (ZPi (neg,D,P),true):=by
   rintro out rfl;unfold Zsn Zyo Zyn ZPi;have e45:(((b.toNat:Nat):Int) == 45)=neg:=(ZPs b 45).trans hb45;rw[hbr,show idx (b::r) 0=some b from rfl,ZUn,e45];dsimp only;cases neg with
   |false=>simp_all
   |true=>
    rw[cond_true,ZTX];cases (!(ZK0 D P == [48]))with
    |false=>simp_all
    |true=>
     rw[cond_true,cond_true,decide_eq_true (by grind[Zr]),chk_true];rfl
  cases hP:rz P with
  |nil=>
   grind[ZK0]
  |cons c s=>
   grind[Zr,chk,decide,lz,ZK0]
theorem ZLP {x:Bool×Str×Str} (h:ZHU x.2.1 x.2.2):(ZPi x).length≤26:=by
 have:=ZIj h.d1 h.d2 h.p;grind[ZPi]
def ZF7 (s:Str):Option Str:=(ZEP (ZHq s)).map ZPi
def ZRX (s:Str):Option Rat:=match ZF7 s with
 |some t=>(ZEP t).map ZR3
 |none=>none
theorem ZI9 {s t:Str} (h:ZF7 s=some t):t.length≤26:=by
 unfold ZF7 at h;cases hp:ZEP (ZHq s)with
 |none=>simp_all
 |some x=>
  rw[hp]at h;simp only[Option.map_some,ZUo]at h;subst h;obtain⟨_,h2⟩:=ZDT hp;grind[ZLP,ZDp]
theorem ZKx {s:Str} (hl:s.length≤9223372036854775807):Zvc 4 s=some (match ZF7 s with |some t=>(t,true) |none=>([],false)):=by
 have h:Zvc 4 s=(ZBR s).bind fun q=>(ZyL q).bind fun(a,b)=>some (a,b):=by kernel_rfl
 grind[ZJD,ZHr,ZHE,ZF7]
theorem ZJA {s:Str} (hl:s.length≤9223372036854775807):ZAc 4 s=some (match ZRX s with |some q=>(fOf q,true) |none=>(zf,false)):=by
 have h:ZAc 4 s=(Zvc 4 s).bind fun(t,ok)=>bif (!ok)then some (zf,false)else (Zul t).bind fun(a,b)=>some (a,b):=by kernel_rfl
 grind[ZKx,ZRX,ZI9,ZF5]
def ZLN (c:ZoR):Option Rat:=bif c.Null then none else ZRX c.Text
theorem ZFj {c:ZoR} (hl:c.Text.length≤9223372036854775807):ZCZ c=some (match ZLN c with |some q=>(fOf q,true) |none=>(bif c.Null then fOf 0 else zf,false)):=by
 grind[ZCZ,ZLN,ZEt,ZJA]
end Go.Proofs
namespace Go.Proofs
open Go Eng
def ZAb (name:Str):List Str:=ZAE (ZC7 (name++[32]) [])
def ZGT (l:List ZoR):List Str:=(l.filter fun x=> !x.Null).map fun x=>x.Text
def Zxd (l:List ZoR):List Str:=ZAE (ZGT l)
theorem ZH3 {name:Str} (h:name.length≤1000000):ZsI name=some (ZAb name):=by unfold ZsI;rw[ZzN,decide_eq_true (by omega)];rfl
theorem ZGO {c:ZoL} (h:c.Cells.length≤1000000):Zuw c=some (Zxd c.Cells):=by unfold Zuw;rw[ZzN,decide_eq_true (by omega)];rfl
theorem ZE3:∀(s cur:List UInt8),(ZC7 s cur).length≤s.length
 | [],cur=>by simp[ZC7]
 |b::s,cur=>by
  have h1:=ZE3 s [];have h3:=ZE3 s (cur++[xwC b]);grind[ZC7]
theorem ZFQ (l:List (List UInt8)):(ZAE l).length≤l.length:=by
 have h:∀l:List (List UInt8),(ZAJ l).length≤l.length:=by
  intro l
  induction l with
  |nil=>simp[ZAJ]
  |cons x r ih=>
   grind[ZAJ]
 grind[ZAE,List.length_mergeSort]
theorem ZDG (name:Str):(ZAb name).length≤name.length+1:=by have h1:=ZFQ (ZC7 (name++[32]) []);have h2:=ZE3 (name++[32]) [];simp only[ZT6,ZUc]at h2;exact ZUl h1 h2
theorem ZCS (l:List ZoR):(Zxd l).length≤l.length:=by have h1:=ZFQ (ZGT l);unfold ZGT at h1;rw[ZUa]at h1;exact ZUl h1 (ZT9 _ _)
theorem ZG9 {a b:List Str} (ha:a.Nodup) (hb:b.Nodup):comm a b=comm b a:=by unfold comm;refine List.Perm.length_eq ((List.perm_ext_iff_of_nodup (ha.filter _) (hb.filter _)).2 fun x=> ?_);grind
theorem ZKs (a:List Str):comm a a=a.length:=by grind[comm,List.filter_eq_self]
def ZAx (a b:List Str):Rat:=Rat.divInt (comm a b:Int) (max (a.length+b.length - comm a b) 1:Nat)
theorem ZIg {a b:List Str} (hb:Srt b) (hla:a.length≤1000000) (hlb:b.length≤1000000):Zwo a b=some (fOf (ZAx a b)):=by
 have hc:=ZFz a b;unfold Zwo;rw[ZJO hb (by omega) (by omega),ZUn,ZoQ (by omega),ZoQ (by omega),chk_true,chk_true];have e:(if (1:Int) > (((a.length:Int)+(b.length:Int)) - (comm a b:Int))then (1:Int)else (((a.length:Int)+(b.length:Int)) - (comm a b:Int)))=((max (a.length+b.length - comm a b) 1:Nat):Int):=by
  omega
 rw[e,ZEk _ _ (by omega) (by omega) (by omega) (by omega) (by omega),ZUn];rfl
theorem ZKp {a b c d:Int} (hb:0 < b) (hd:0 < d):Rat.divInt a b≤Rat.divInt c d↔a*d≤c*b:=by
 rw[Rat.divInt_eq_div,Rat.divInt_eq_div];have hB:(0:Rat) < (b:Rat):=by rw[show ((0:Rat))=(((0:Int)):Rat)from rfl];exact Rat.intCast_lt_intCast.2 hb
 have hD:(0:Rat) < (d:Rat):=by rw[show ((0:Rat))=(((0:Int)):Rat)from rfl];exact Rat.intCast_lt_intCast.2 hd
 have hBD:=Rat.mul_pos hB hD;have e1:(b:Rat)*((a:Rat) / (b:Rat))=a:=by grind
 have e2:(d:Rat)*((c:Rat) / (d:Rat))=c:=by grind
 have e3:a*d≤c*b↔(a:Rat)*(d:Rat)≤(c:Rat)*(b:Rat):=by rw[←Rat.intCast_mul,←Rat.intCast_mul,Rat.intCast_le_intCast]
 rw[e3];clear e3;generalize (a:Rat) / (b:Rat)=x at e1⊢
 generalize (c:Rat) / (d:Rat)=y at e2⊢
 generalize (a:Rat)=A at*
 generalize (b:Rat)=B at*
 generalize (c:Rat)=C at*
 generalize (d:Rat)=D at*
 subst e1 e2;have e:(y - x)*(B*D)=D*y*B - B*x*D:=by grind
 constructor
 ·intro h;have h1:0≤(y - x)*(B*D):=Rat.mul_nonneg (by grind) (by grind);grind
 ·intro h;apply Rat.not_lt.1;intro hx;have h1:0 < (x - y)*(B*D):=Rat.mul_pos (by grind) hBD;grind
theorem ZEq {n d:Nat} (hd:0 < d) (h:n≤d):0≤Rat.divInt (n:Int) (d:Int)∧Rat.divInt (n:Int) (d:Int)≤1:=by
 have h1:Rat.divInt 1 1=1:=by decide+kernel
 grind[Rat.divInt_nonneg,ZKp]
theorem ZEd {a b:List Str} (hb:b.Nodup) (ha:a.Nodup):0≤ZAx a b∧ZAx a b≤1:=by have h1:=ZFz a b;have h2:=ZFz b a;rw[ZG9 hb ha]at h2;exact ZEq (by omega) (by omega)
theorem ZFd {a b:List Str} (ha:a.Nodup) (hb:b.Nodup):ZAx a b=ZAx b a:=by grind[ZAx,ZG9]
theorem ZGW {a b:List Str} {k:Nat} (hk:a.length+b.length < 2 ^ k) (h1:1 < 2 ^ k):Sz k (ZAx a b):=by have:=ZFz a b;exact ZD6 (by omega) (by omega) (by omega)
theorem ZFe {a:List Str}:ZAx a a=if a=[]then 0 else 1:=by
 unfold ZAx;rw[ZKs];cases a with
 |nil=>simp_all
 |cons x r=>
  rw[if_neg (by simp)];have e:max ((x::r).length+(x::r).length - (x::r).length) 1=(x::r).length:=by simp
  grind[Rat.divInt_self']
noncomputable def isN (c:ZoR):Bool:=(ZLN c).isSome
noncomputable def ZED (l:List ZoR):Nat:=(l.filter fun x=> !x.Null).length
noncomputable def ZL8 (l:List ZoR):Nat:=(l.filter fun x=> !x.Null&&isN x).length
noncomputable def Zzw (l:List ZoR):Rat:=Rat.divInt (ZL8 l:Int) (max (ZED l) 1:Nat)
theorem ZGt (l:List ZoR):ZL8 l≤ZED l:=by unfold ZL8 ZED;rw[show (fun x:ZoR=> !x.Null&&isN x)=fun x=>(isN x)&& !x.Null from funext fun x=>Bool.and_comm _ _,←List.filter_filter];grind
theorem ZGv (l:List ZoR):ZED l≤l.length:=ZT9 _ _
theorem ZIb {c:ZoL} (hc:∀x∈c.Cells,x.Text.length≤9223372036854775807) (hl:c.Cells.length≤1000):ZuD c=some (fOf (Zzw c.Cells)):=by
 unfold ZuD;rw[ZzN];refine Zp6 ?_;unfold ZAi;rw[ZoM];refine ZoT (ZsS ZCy c.Cells (by omega) (fun i (s:Nat×Nat)=>((s.1:Int),(s.2:Int),c.Cells,(c.Cells.length:Int),i,false,false,([]:List Int),([]:List Int))) (fun k s=>s.1=ZED (c.Cells.take k)∧s.2=ZL8 (c.Cells.take k))
  (Q:=fun x=>x=((ZED c.Cells:Int),(ZL8 c.Cells:Int),false,false,([]:List Int),([]:List Int))) (0,0) ⟨by simp[ZED],by simp[ZL8]⟩ ?_ ?_) ?_
 ·rintro rec k ⟨f,n⟩ hk ⟨hf,hn⟩ ih;dsimp only at hf hn ih;unfold ZxF Zu0 Zt6;dsimp only;have hs:c.Cells.take (k+1)=c.Cells.take k++[c.Cells[k]]:=ZUj hk;have b1:=ZGv (c.Cells.take k);have b2:=ZGt (c.Cells.take k);rw[ZUd]at b1;have e1:ZED (c.Cells.take (k+1))=f+(bif c.Cells[k].Null then 0 else 1):=by grind[ZED]
  have e2:ZL8 (c.Cells.take (k+1))=n+(bif !c.Cells[k].Null&&isN c.Cells[k]then 1 else 0):=by grind[ZL8]
  rw[decide_eq_true (show (k:Int) < (c.Cells.length:Int) by omega),cond_true,Zqj hk,ZUn];cases hnul:c.Cells[k].Null with
  |true=>
   rw[hnul]at e1 e2;rw[cond_true,ZoO];exact⟨ZoQ (by omega),ih (f,n) ⟨by grind,by grind⟩⟩
  |false=>
   rw[hnul]at e1 e2;rw[cond_false,ZoO];refine⟨ZoQ (by omega), ?_⟩;cases hv:ZLN c.Cells[k]with
   |some q=>
    have hi:isN c.Cells[k]=true:=by grind[isN]
    rw[hi]at e2;rw[ZFj (hc _ (ZT5 hk)),hv,ZUn];dsimp only;rw[cond_true,ZoO,ZoO];refine⟨ZoQ (by omega),ZoQ (by omega), ?_⟩;have:=ih (f+1,n+1) ⟨by grind,by grind⟩
    grind
   |none=>
    have hi:isN c.Cells[k]=false:=by grind[isN]
    rw[hi]at e2;rw[ZFj (hc _ (ZT5 hk)),hv,ZUn];dsimp only;rw[cond_false,ZoO];refine⟨ZoQ (by omega), ?_⟩;have:=ih (f+1,n) ⟨by grind,by grind⟩
    grind
 ·grind[ZxF,Zu0,ZoJ]
 ·rintro x rfl;have b1:=ZGv c.Cells;have b2:=ZGt c.Cells;dsimp only;unfold ZyY;have e:(if (1:Int) > (ZED c.Cells:Int)then (1:Int)else (ZED c.Cells:Int))=((max (ZED c.Cells) 1:Nat):Int):=by
   omega
  rw[e,ZEk _ _ (by omega) (by omega) (by omega) (by omega) (by omega),ZUn,ZoJ];rfl
theorem ZD8 (l:List ZoR):0≤Zzw l∧Zzw l≤1:=by have:=ZGt l;exact ZEq (by omega) (by omega)
theorem ZD7 {l:List ZoR} {k:Nat} (h:l.length < 2 ^ k) (h1:1 < 2 ^ k):Sz k (Zzw l):=by have b1:=ZGv l;have b2:=ZGt l;exact ZD6 (by omega) (by omega) (by omega)
end Go.Proofs
namespace Go.Proofs
open Go Eng
theorem ZGX {a:Rat}:(ZEX a 0 == 0)=decide (a=0):=by
 grind[ZEX]
theorem ZGY (a b:Rat):(ZEX a b < 0)↔a < b:=by
 grind[ZEX]
def ofQ (v n s t:Rat):Rat:=if v=0∧n=0 then 0 else (v+v+n+(1 - ZLS (s - t))) / 4
noncomputable def ZE2 (a b:ZoL):Rat:=ofQ (ZAx (Zxd a.Cells) (Zxd b.Cells)) (ZAx (ZAb a.Name) (ZAb b.Name)) (Zzw a.Cells) (Zzw b.Cells)
structure ZGE (a:ZoL):Prop where
 name:a.Name.length≤300
 rows:a.Cells.length≤100
 cells:∀x∈a.Cells,x.Text.length≤9223372036854775807
theorem ZDi (s:Str):Srt (ZAb s):=ZJL _
theorem ZCw (l:List ZoR):Srt (Zxd l):=ZJL _
theorem ZMT {a b:ZoL} (ha:a.Cells.length≤100) (hb:b.Cells.length≤100):ZxE a b=some (fOf (ZAx (Zxd a.Cells) (Zxd b.Cells))):=by grind[ZCS,ZxE,ZGO,ZIg,ZCw]
theorem ZLs {a b:Str} (ha:a.length≤300) (hb:b.length≤300):ZyE a b=some (fOf (ZAx (ZAb a) (ZAb b))):=by grind[ZDG,ZyE,ZH3,ZIg,ZDi]
theorem ZJB {a b:ZoL} (ha:a.Cells.length≤100) (hb:b.Cells.length≤100):Sz 10 (ZAx (Zxd a.Cells) (Zxd b.Cells)):=by grind[ZCS,ZGW]
theorem ZIl {a b:Str} (ha:a.length≤300) (hb:b.length≤300):Sz 10 (ZAx (ZAb a) (ZAb b)):=by grind[ZDG,ZGW]
theorem ZGU:Sz 1 1:=by simp_all[Sz]
theorem ZNl:ZAk 1 1=some (fOf 1):=by
 have:=ZEk 1 1 (by decide) (by decide) (by decide) (by decide) (by decide)
 rwa [show Rat.divInt 1 1=1 by decide+kernel]at this
theorem ZNk:ZAk 4 1=some (fOf 4):=by
 have:=ZEk 4 1 (by decide) (by decide) (by decide) (by decide) (by decide)
 rwa [show Rat.divInt 4 1=4 by decide+kernel]at this
theorem ZJJ:Sz 3 4:=by simp_all[Sz]
theorem ZKI {x:Rat} {k:Nat} (h:Sz k x) (hk:1≤k):Sz (k+2) (ZLS x):=by
 unfold ZLS;split
 ·have:=ZE8.add h.neg;grind
 ·exact h.mono (by omega)
theorem ZPP {v n ap:Rat} (hv:Sz 10 v) (hn:Sz 10 n) (ha:Sz 30 ap):Zwp false false (fOf v) (fOf n) (fOf ap) [] []=some (fOf ((v+v+n+(1 - ap)) / 4)):=by
 unfold Zwp;have h1:=hv.add hv;have h2:=h1.add hn;have h3:Sz 32 (1 - ap):=by rw[show (1:Rat) - ap=1+ -ap by grind];exact(ZGU.add ha.neg).mono (by decide)
 have h4:=h2.add h3;rw[ZEl hv hv (by decide),ZUn,ZEl h1 hn (by decide),ZUn,ZNl,ZUn,ZFk ZGU ha (by decide),ZUn,ZEl h2 h3 (by decide),ZUn,ZNk,ZUn,
  ZG1 (by decide) h4 ZJJ (by decide),ZUn]
theorem ZPQ {a b:ZoL} (ha:ZGE a) (hb:ZGE b) {v n:Rat} (hv:Sz 10 v) (hn:Sz 10 n):
  Zui false a b false false (fOf v) (fOf n) [] []=some (fOf ((v+v+n+(1 - ZLS (Zzw a.Cells - Zzw b.Cells))) / 4)):=by
 unfold Zui;have hr1:=ha.rows;have hr2:=hb.rows;have h1:Sz 10 (Zzw a.Cells):=ZD7 (by omega) (by decide);have h2:Sz 10 (Zzw b.Cells):=ZD7 (by omega) (by decide);have h3:Sz 21 (Zzw a.Cells - Zzw b.Cells):=by rw[Rat.sub_eq_add_neg];exact h1.add h2.neg
 rw[cond_false,ZIb ha.cells (by omega),ZUn,ZIb hb.cells (by omega),ZUn,ZFk h1 h2 (by decide),ZUn,ZEv (h3.wq (by decide)),ZUn];have h4:=ZKI h3 (by decide);unfold ZLS at h4⊢
 by_cases h:Zzw a.Cells - Zzw b.Cells < 0
 ·rw[decide_eq_true ((ZGY _ _).2 h),cond_true,ZEt,ZUn,ZFk ZE8 h3 (by decide),ZUn];rw[if_pos h]at h4⊢
  exact ZPP hv hn (h4.mono (by decide))
 ·rw[decide_eq_false (fun h5=>h ((ZGY _ _).1 h5)),cond_false];rw[if_neg h]at h4⊢
  exact ZPP hv hn (h4.mono (by decide))
theorem ZQo {a b:ZoL} (ha:ZGE a) (hb:ZGE b):ZAj a b=some (fOf (ZE2 a b)):=by
 unfold ZAj ZE2 ofQ;have hv:=ZJB ha.rows hb.rows;have hn:=ZIl ha.name hb.name;rw[ZMT ha.rows hb.rows,ZUn,ZLs ha.name hb.name,ZUn,ZEv (hv.wq (by decide)),ZUn,ZGX]
 by_cases h1:ZAx (Zxd a.Cells) (Zxd b.Cells)=0
 ·rw[decide_eq_true h1,cond_true,ZEv (hn.wq (by decide)),ZUn,ZGX]
  grind[Zui,ZEt,ZPQ]
 grind[ZPQ]
theorem ZIS {v n s t:Rat} (hv:0≤v∧v≤1) (hn:0≤n∧n≤1) (hs:0≤s∧s≤1) (ht:0≤t∧t≤1):0≤ofQ v n s t∧ofQ v n s t≤1:=by
 grind[ofQ,ZLS]
theorem ZLr {v n s t:Rat}:ofQ v n s t=ofQ v n t s:=by
 grind[ofQ,ZLS]
theorem ZKu (a b:ZoL):ZE2 a b=ZE2 b a:=by unfold ZE2;rw[ZFd (ZCw a.Cells).2 (ZCw b.Cells).2,ZFd (ZDi a.Name).2 (ZDi b.Name).2,ZLr]
theorem ZHH (a b:ZoL):0≤ZE2 a b∧ZE2 a b≤1:=
 ZIS (ZEd (ZCw _).2 (ZCw _).2) (ZEd (ZDi _).2 (ZDi _).2) (ZD8 _) (ZD8 _)
theorem ZHa (a:ZoL):ZE2 a a=if ZAb a.Name=[]then (if Zxd a.Cells=[]then 0 else 3 / 4)else (if Zxd a.Cells=[]then 1 / 2 else 1):=by
 grind[ZE2,ZFe,ofQ,ZLS]
theorem ZNJ {a b:ZoL} (ha:ZGE a) (hb:ZGE b):Sz 100 (ZE2 a b):=by
 unfold ZE2 ofQ;have hr1:=ha.rows;have hr2:=hb.rows;have hv:=ZJB ha.rows hb.rows;have hn:=ZIl ha.name hb.name;have h1:Sz 10 (Zzw a.Cells):=ZD7 (by omega) (by decide);have h2:Sz 10 (Zzw b.Cells):=ZD7 (by omega) (by decide);have h3:Sz 21 (Zzw a.Cells - Zzw b.Cells):=by rw[Rat.sub_eq_add_neg];exact h1.add h2.neg
 have h4:=ZKI h3 (by decide);split
 ·exact ZE8.mono (by decide)
 ·have h5:Sz 32 (1 - ZLS (Zzw a.Cells - Zzw b.Cells)):=by rw[Rat.sub_eq_add_neg];exact(ZGU.add h4.neg).mono (by decide)
  exact(Sz.div (by decide) (((hv.add hv).add hn).add h5) ZJJ).mono (by decide)
end Go.Proofs
namespace Go.Proofs
open Go Eng
theorem ZK3 {l r:List Str} (h1:r.Pairwise (fun a b=>a≤b)) (h2:r.Nodup) (h:∀x,x∈l↔x∈r):ZAE l=r:=
 ZCW (ZDE l) h1 (ZAL l) h2 fun x=>by rw[ZBO,h]
theorem ZNz:ZrY 1=some (fOf 1):=ZLA 1 (by decide) (by decide)
end Go.Proofs
namespace Go.Proofs
open Go Eng
theorem ZEu {d:ZoH} (hd:ZrK d) {l:List Str} (h0:1≤l.length) (h1:l.length≤1000):wp (Zo9 d l) (fun r=>r.1∈l∧ZrK r.2):=by
 grind[Zo9,ZoM,ZxR,ZDh,ZoJ]
def ZCa:List Str:=[[97],[98],[99],[49],[50],[51],[49,48],[120],[45,49,46,53],[100],[],[49,46,50,46,51],[49,46,53,48]]++((List.range 12).map fun i:Nat=>Lib.itoa ((i:Int) - 3))++((List.range 14).map fun i:Nat=>([107]:Str)++Lib.itoa (i:Int))++
 [[105,100],[110,97,109,101],[85,110,105,116,32,80,114,105,99,101],[99,105,116,121],[117,110,105,116],[112,114,105,99,101],[105,100,50],[116],[111,114,100,101,114,115],[115,97,109,101]]
theorem ZHD:(ZCa.all fun s=>ZDY s&&decide (s.length≤10))=true:=by kernel_rfl
theorem ZFO {s:Str} (h:s∈ZCa):ZDY s=true∧s.length≤10:=by grind[ZHD]
def ZEW (c:ZoR):Prop:=c.Text∈ZCa∧(c.Null=true→c.Text=[])
theorem ZF8:ZEW ⟨true,[]⟩:=⟨by decide+kernel,fun _=>rfl⟩
theorem ZCP {s:Str} (h:s∈ZCa):ZEW ⟨false,s⟩:=⟨h,fun h=>by grind⟩
theorem ZIF {l:List Str} (h:l.all (fun s=>ZCa.contains s)=true) {s:Str} (hs:s∈l):s∈ZCa:=by simp_all
def ZMN (n:Nat) (c:ZoL):Prop:=c.Name∈ZCa∧c.Cells.length=n∧∀x∈c.Cells,ZEW x
theorem ZP3 {n:Int} (h: -3≤n∧n≤8):Lib.itoa n∈ZCa:=by
 have h1:((List.range 12).all fun i:Nat=>ZCa.contains (Lib.itoa ((i:Int) - 3)))=true:=by kernel_rfl
 have:=ZT0.1 h1 (n+3).toNat (List.mem_range.2 (by omega));grind
theorem k_d {n:Int} (h:0≤n∧n < 14):([107]:Str)++Lib.itoa n∈ZCa:=by
 grind[ZCa,Lib.itoa]
theorem ZNN {d:ZoH} (hd:ZrK d):wp (Zt4 d) (fun r=>ZEW r.1∧ZrK r.2):=by
 unfold Zt4;rw[ZoM];refine ZoT (ZxR hd (by omega)) fun⟨q,d1⟩ ⟨hq,hd1⟩=> ?_
 dsimp only at hq hd1⊢
 rw[ZoX];refine⟨fun _=> ?_,fun _=> ?_⟩
 ·grind[ZoJ,ZF8]
 ·rw[ZoM];refine ZoT (ZEu hd1 (by decide) (by decide)) fun⟨s,d2⟩ ⟨hs,hd2⟩=> ?_
  dsimp only at hs hd2⊢
  rw[ZoJ];exact⟨ZCP (ZIF (by decide+kernel) hs),hd2⟩
theorem ZJ4 {d:ZoH} (hd:ZrK d):wp (ZsC d) (fun r=>ZEW r.1∧ZrK r.2):=by
 unfold ZsC;rw[ZoM];refine ZoT (ZxR hd (by omega)) fun⟨q,d1⟩ ⟨hq,hd1⟩=> ?_
 dsimp only at hq hd1⊢
 rw[ZoX];refine⟨fun _=> ?_,fun _=> ?_⟩
 ·grind[ZoJ,ZF8]
 rw[ZoX];refine⟨fun _=> ?_,fun _=> ?_⟩
 ·rw[ZoM];refine ZoT (ZEu hd1 (by decide) (by decide)) fun⟨s,d2⟩ ⟨hs,hd2⟩=> ?_
  dsimp only at hs hd2⊢
  rw[ZoJ];exact⟨ZCP (ZIF (by decide+kernel) hs),hd2⟩
 grind[ZoM,ZoT,ZxR,Zx2,ZoO,ZoJ,ZoQ,ZCP,ZP3]
theorem ZIZ {n:Int} (h:0≤n∧n < 14):(Lib.itoa n).length≤2:=by
 have h1:((List.range 14).all fun i:Nat=>decide ((Lib.itoa (i:Int)).length≤2))=true:=by kernel_rfl
 have:=of_decide_eq_true (ZT0.1 h1 n.toNat (List.mem_range.2 (by omega)))
 grind
theorem ZKt {d:ZoH} (hd:ZrK d) (rows:Nat) (hr:rows≤14):
  wp (ZsE d (rows:Int)) (fun r=>ZMN rows r.1∧ZrK r.2):=by
 unfold ZsE;rw[ZoM];refine ZoT (ZEu hd (by decide) (by decide)) fun⟨nm,d1⟩ ⟨hnm0,hd1⟩=> ?_
 dsimp only at hd1 hnm0⊢
 have hnm:nm∈ZCa:=ZIF (by decide+kernel) hnm0;rw[ZoM];refine ZoT (ZxR hd1 (by omega)) fun⟨kind,d2⟩ ⟨_,hd2⟩=> ?_
 dsimp only at hd2⊢
 rw[ZoM];refine ZoT (ZtG ZBn rows (by omega) (fun i (t:ZoH×List ZoR)=>(kind,(rows:Int),i,t.1,([]:Str),nm,([]:List ZoR),t.2))
  (fun k t=>ZrK t.1∧t.2.length=k∧∀c∈t.2,ZEW c) (Q:=fun x=>x.2.2.1=nm∧ZrK x.1∧x.2.2.2.2.length=rows∧∀c∈x.2.2.2.2,ZEW c) (d2,[]) ⟨hd2,rfl,fun c hc=>absurd hc (by simp)⟩ ?_ ?_) ?_
 ·rintro rec k ⟨d,cs⟩ hk ⟨hd,hlen,hcs⟩ ih;dsimp only at hd hlen hcs ih;have next:∀(x:ZoR) (d':ZoH),ZEW x→ZrK d'→wp (ZpH (fun kind t15 i d t4 c t4_1 c_1=>rec (kind,t15,i,d,t4,c,t4_1,c_1)) kind (rows:Int) (k:Int) d' [] nm x [] cs) (fun x=>x.2.2.1=nm∧ZrK x.1∧x.2.2.2.2.length=rows∧∀c∈x.2.2.2.2,ZEW c):=by
   intro x d' hx hd';unfold ZpH;rw[ZoO,ZoO];refine⟨ZrX (by grind),ZoQ (by omega),ih (d',cs++[x]) ⟨hd',by simp_all,fun c hc=> ?_⟩⟩;grind
  unfold ZuX Zsh;dsimp only;rw[decide_eq_true (show (k:Int) < (rows:Int) by omega),cond_true,ZoM];refine ZoT (ZNN hd) fun⟨x,d3⟩ ⟨hx,hd3⟩=> ?_
  dsimp only at hx hd3⊢
  rw[ZoX];refine⟨fun _=> ?_,fun _=> ?_⟩
  ·grind[ZoM,ZoT,ZJ4]
  rw[ZoX];refine⟨fun _=> ?_,fun _=> ?_⟩
  ·grind[Zx2,ZIZ,ZoO,Zr,ZCP,k_d]
  rw[ZoX];refine⟨fun _=> ?_,fun _=> ?_⟩
  ·rw[ZoM];exact ZoT (ZEu hd3 (by decide) (by decide)) fun⟨s,d4⟩ ⟨hs,hd4⟩=>next _ d4 (ZCP (ZIF (by decide+kernel) hs)) hd4
  simp_all
 ·grind[ZuX,Zsh,decide_eq_false,ZoJ]
 ·rintro⟨d,_,nm',_,cs⟩ ⟨h0,h1,h2,h3⟩;unfold Zwb;dsimp only at h0 h1 h2 h3⊢
  subst h0;rw[ZoJ];exact⟨⟨hnm,h2,h3⟩,h1⟩
end Go.Proofs
namespace Go.Proofs
open Go Eng
structure ZEO (t:ZoF):Prop where
 id:0≤t.ID∧t.ID≤1000
 name:t.Name∈ZCa
 cols:t.Columns.length≤3
 rows:∃n:Nat,n≤6∧∀c∈t.Columns,ZMN n c
theorem ZLO {x:ZoR} (h:ZEW x):ZDL x=true:=by
 unfold ZDL;rw[(ZFO h.1).1,ZTX];cases hn:x.Null with
 |false=>rfl
 |true=>rw[h.2 hn];rfl
theorem ZJG {t:ZoF} (h:ZEO t):ZE7 t=true:=by
 obtain⟨n,hn,hc⟩:=h.rows;have hcols:=h.cols;have hid:=h.id;unfold ZE7;have hr:t.Columns≠[]→ZsX t=(n:Int):=fun h0=>by
  unfold ZsX;cases hcs:t.Columns with
  |nil=>simp_all
  |cons c l=>rw[←(hc c (by simp_all)).2.1]
 have hr2:0≤ZsX t∧ZsX t≤6:=by
  grind[ZsX]
 rw[decide_eq_true hid.1,decide_eq_true (show t.ID≤1073741824 by omega),(ZFO h.name).1,decide_eq_true (show (t.Columns.length:Int)≤64 by omega),decide_eq_true (show ZsX t≤4096 by omega)];simp only[ZTX,ZT0];intro c hcm;have h1:=hc c hcm;unfold ZK1;rw[(ZFO h1.1).1,hr (List.ne_nil_of_mem hcm),h1.2.1,ZTX,beq_self_eq_true,ZTX,ZT0];exact fun x hx=>ZLO (h1.2.2 x hx)
theorem ZIE {t:ZoF} (h:ZEO t):ZHS t:=by obtain⟨n,hn,hc⟩:=h.rows;refine⟨by have:=(ZFO h.name).2;omega,fun c hcm=>⟨by have:=(ZFO (hc c hcm).1).2;omega,fun x hx=>by have:=(ZFO ((hc c hcm).2.2 x hx).1).2;omega⟩⟩
theorem ZFb {t:ZoF} (h:ZEO t):ZpX t=some true:=by have:=h.cols;grind[ZJV,ZIE,ZJG]
theorem ZIa {d:ZoH} (hd:ZrK d) {id:Int} (hid:0≤id∧id≤1000):wp (Zrq d id) (fun r=>(ZEO r.1∧r.1.ID=id)∧ZrK r.2):=by
 unfold Zrq;rw[ZoM];refine ZoT (ZEu hd (by decide) (by decide)) ?_;rintro⟨nm,d1⟩ ⟨hnm0,hd1⟩;dsimp only at hnm0 hd1⊢
 have hnm:nm∈ZCa:=ZIF (by decide+kernel) hnm0;rw[ZoM];refine ZoT (ZxR hd1 (n:=7) (by omega)) ?_;rintro⟨q,d2⟩ ⟨hq,hd2⟩;dsimp only at hq hd2⊢
 obtain⟨n,rfl⟩:∃n:Nat,q=(n:Int):=⟨q.toNat,by omega⟩;rw[ZoM];refine ZoT (ZxR hd2 (n:=3) (by omega)) ?_;rintro⟨q,d3⟩ ⟨hq3,hd3⟩;dsimp only at hq3 hd3⊢
 obtain⟨m,hm⟩:∃m:Nat,1+q=(m:Int):=⟨(1+q).toNat,by omega⟩;rw[hm,ZoO,ZoM];refine⟨ZoQ (by omega),ZoT (ZzO ZBI (fun s:Nat×ZoH×List ZoL=>((n:Int),(s.1:Int),s.2.1,(0:Int),([]:Str),id,nm,([]:List ZoL),s.2.2))
  (fun s=>ZrK s.2.1∧s.2.2.length+s.1=m∧∀c∈s.2.2,ZMN n c) (fun s=>s.1)
  (Q:=fun x=>∃d cs,x=(d,(0:Int),([]:Str),id,nm,([]:List ZoL),cs)∧ZrK d∧cs.length≤3∧∀c∈cs,ZMN n c) (m,d3,[]) ⟨hd3,by simp,fun c hc=>absurd hc (by simp)⟩ (by omega) ?_) ?_⟩
 ·rintro rec ⟨k,d,cs⟩ ⟨h1,h2,h3⟩ ih;dsimp only at h1 h2 h3 ih;unfold ZyV Zvu;dsimp only
  by_cases hk:0 < k
  ·rw[decide_eq_true (show (k:Int) > 0 by omega),cond_true,ZoM];refine ZoT (ZKt h1 n (by omega)) ?_;rintro⟨c,d'⟩ ⟨hc,hd'⟩;dsimp only at hc hd'⊢
   rw[ZoO,ZoO,show (k:Int) - 1=((k - 1:Nat):Int) by omega];refine⟨ZrX (by grind),ZoQ (by omega),ih (k - 1,d',cs++[c]) ⟨hd',by grind,fun x hx=> ?_⟩ (by omega)⟩;grind
  grind[ZoJ]
 ·rintro _ ⟨d,cs,rfl,h1,h2,h3⟩;unfold ZwQ ZtT;dsimp only;rw[ZoM];refine ZoT (ZxR h1 (n:=15) (by omega)) ?_;rintro⟨q,d'⟩ ⟨_,hd'⟩;dsimp only at hd'⊢
  rw[ZoX];refine⟨fun _=> ?_,fun _=> ?_⟩
  ·rw[ZoJ];exact⟨⟨⟨hid,hnm,by simp,0,by omega,fun c hc=>absurd hc (by simp)⟩,rfl⟩,hd'⟩
  ·rw[ZoJ];exact⟨⟨⟨hid,hnm,h2,n,by omega,h3⟩,rfl⟩,hd'⟩
theorem ZKr {t:ZoF} (h:ZEO t):Zsr t=some t:=by
 obtain⟨n,hn,hc⟩:=h.rows;have hl:=h.cols;refine Zp6 ?_;unfold Zsr;rw[ZoM];refine ZoT (ZsS ZBi t.Columns (by omega) (fun i (cs:List ZoL)=>(t.Columns,(t.Columns.length:Int),i,(0:Int),([]:Str),t.ID,t.Name,([]:List ZoL),cs)) (fun k cs=>cs=t.Columns.take k)
  (Q:=fun x=>x=((0:Int),([]:Str),t.ID,t.Name,([]:List ZoL),t.Columns)) [] rfl ?_ ?_) ?_
 ·rintro rec k cs hk rfl ih;unfold ZuL Zsb;dsimp only;have h1:=hc _ (ZT5 hk);rw[decide_eq_true (show (k:Int) < (t.Columns.length:Int) by omega),cond_true,Zqj hk,ZUn,ZoO,ZoO,ZoO];refine⟨ZrX (by rw[h1.2.1];omega),ZrX (by grind),ZoQ (by omega),ih _ (ZUj hk).symm⟩
 all_goals simp_all[ZuL,Zsb,ZoJ,Zv6]
theorem ZIR {t:ZoF} (h:ZEO t) {l:List Int} (hl:l.length≤3) (hk:∀k∈l,0≤k∧k < (t.Columns.length:Int)):wp (Zs4 t l) (fun r=>ZEO r.1∧r.1.ID=t.ID):=by
 obtain⟨n,hn,hc⟩:=h.rows;have hcols:=h.cols;unfold Zs4;rw[ZFb h,ZUn,ZTW,cond_false,ZoM];refine ZoT (ZsS ZAG l (by omega) (fun i (cs:List ZoL)=>(l,l,(l.length:Int),i,t,(0:Int),([]:Str),t.ID,t.Name,([]:List ZoL),cs)) (fun k cs=>cs.length=k∧∀c∈cs,ZMN n c)
  (Q:=fun x=>∃cs,x= .brk (l,(0:Int),([]:Str),t.ID,t.Name,([]:List ZoL),cs)∧cs.length≤3∧∀c∈cs,ZMN n c) [] ⟨rfl,fun c hc=>absurd hc (by simp)⟩ ?_ ?_) ?_
 ·rintro rec k cs hk' ⟨h1,h2⟩ ih;unfold Ztv Zq0 ZrP;dsimp only;have hb:=hk _ (ZT5 hk');have hlt:(l[k]).toNat < t.Columns.length:=by omega
  rw[decide_eq_true (show (k:Int) < (l.length:Int) by omega),cond_true,Zqj hk',ZUn,decide_eq_false (show ¬l[k] < 0 by omega),cond_false,decide_eq_false (show ¬l[k]≥(t.Columns.length:Int) by omega),cond_false,Zin hb.1 hlt,ZUn,ZoO,ZoO];grind[ZrX,ZUc,ZoQ]
 ·grind[Ztv,Zq0,ZoJ]
 ·rintro _ ⟨cs,rfl,h1,h2⟩;dsimp only;unfold Zus;rw[decide_eq_false (show ¬(l.length:Int) > 64 by omega),cond_false,ZoJ];exact⟨⟨h.id,h.name,h1,n,hn,h2⟩,rfl⟩
theorem ZJS {t:ZoF} (h:ZEO t) {l:List Int} (hl:l.length≤6) (hk:∀k∈l,0≤k∧k < ZsX t):wp (ZtK t l) (fun r=>ZEO r.1∧r.1.ID=t.ID):=by
 obtain⟨n,hn,hc⟩:=h.rows;have hcols:=h.cols;unfold ZtK;rw[ZFb h,ZUn,ZTW,cond_false,ZoM];refine ZoT (ZsS ZAO l (by omega) (fun i (_:Unit)=>(l,l,(l.length:Int),i,t,(0:Int),([]:Str),([]:List ZoL))) (fun _ _=>True)
  (Q:=fun x=>x= .brk (l,t,(0:Int),([]:Str),([]:List ZoL))) () trivial ?_ ?_) ?_
 ·rintro rec k _ hk' _ ih;unfold Zt3 Zrn Zsf;dsimp only;have hb:=hk _ (ZT5 hk');rw[decide_eq_true (show (k:Int) < (l.length:Int) by omega),cond_true,Zqj hk',ZUn,decide_eq_false (show ¬l[k] < 0 by omega),cond_false,ZGo,ZUn,decide_eq_false (show ¬l[k]≥ZsX t by omega),cond_false,ZoO];exact⟨ZoQ (by omega),ih () trivial⟩
 ·grind[Zt3,Zrn,ZoJ]
 ·rintro _ rfl;dsimp only;unfold ZuQ;rw[decide_eq_false (show ¬(l.length:Int) > 4096 by omega),cond_false,ZoM];have hin:∀c∈t.Columns,∀k∈l,∃hlt:k.toNat < c.Cells.length,0≤k:=fun c hcm k hkm=>by
   have:=hk k hkm;have hr:ZsX t=(n:Int):=by
    unfold ZsX;cases hcs:t.Columns with
    |nil=>simp_all
    |cons c l=>rw[←(hc c (by simp_all)).2.1]
   have h2:=(hc c hcm).2.1;simp_all
  refine ZoT (ZsS ZAN t.Columns (by omega) (fun i (cs:List ZoL)=>(l,t.Columns,(t.Columns.length:Int),i,(0:Int),([]:Str),t.ID,t.Name,([]:List ZoL),cs)) (fun k cs=>cs.length=k∧∀c∈cs,ZMN l.length c)
   (Q:=fun x=>∃cs,x=((0:Int),([]:Str),t.ID,t.Name,([]:List ZoL),cs)∧cs.length≤3∧∀c∈cs,ZMN l.length c) [] ⟨rfl,fun c hc=>absurd hc (by simp)⟩ ?_ ?_) ?_
  ·rintro rec i cs hi ⟨h1,h2⟩ ih;unfold Zt2 Zrm;dsimp only;obtain⟨c,hcdef⟩:∃c,c=t.Columns[i]:=⟨_,rfl⟩;have hcm:c∈t.Columns:=hcdef▸ZT5 hi;have h3:=hc c hcm;rw[decide_eq_true (show (i:Int) < (t.Columns.length:Int) by omega),cond_true,Zqj hi,ZUn,←hcdef,ZoM];refine ZoT (ZsS ZAM l (by omega) (fun j (xs:List ZoR)=>(l,t.Columns,(t.Columns.length:Int),(i:Int),l,(l.length:Int),j,(0:Int),([]:Str),t.ID,t.Name,c,c.Name,([]:List ZoL),cs,xs)) (fun k xs=>xs.length=k∧∀x∈xs,ZEW x)
    (Q:=fun y=>∃xs,y=(l,t.Columns,(t.Columns.length:Int),(i:Int),(0:Int),([]:Str),t.ID,t.Name,c.Name,([]:List ZoL),cs,xs)∧xs.length=l.length∧∀x∈xs,ZEW x) [] ⟨rfl,fun c hc=>absurd hc (by simp)⟩ ?_ ?_) ?_
   ·rintro rec2 j xs hj ⟨g1,g2⟩ ih2;unfold Zt1 Zrl;dsimp only;obtain⟨hlt,h0⟩:=hin c hcm _ (ZT5 hj);rw[decide_eq_true (show (j:Int) < (l.length:Int) by omega),cond_true,Zqj hj,ZUn,Zin h0 hlt,ZUn,ZoO,ZoO];refine⟨ZrX (by grind),ZoQ (by omega),ih2 _ ⟨by simp_all,fun x hx=> ?_⟩⟩;rcases ZUe.1 hx with hx |hx
    ·simp_all
    ·rw[ZUf.1 hx];exact h3.2.2 _ (ZT5 _)
   ·grind[Zt1,Zrl,ZoJ]
   ·rintro _ ⟨xs,rfl,g1,g2⟩;unfold ZuP;dsimp only;rw[ZoO,ZoO];refine⟨ZrX (by grind),ZoQ (by omega),ih _ ⟨by simp_all,fun y hy=> ?_⟩⟩;rcases ZUe.1 hy with hy |hy
    ·simp_all
    ·rw[ZUf.1 hy];exact⟨h3.1,g1,g2⟩
  ·grind[Zt2,Zrm,ZoJ]
  ·rintro _ ⟨cs,rfl,h1,h2⟩;dsimp only;unfold ZuO;rw[ZoJ];exact⟨⟨h.id,h.name,h1,l.length,hl,h2⟩,rfl⟩
end Go.Proofs
namespace Go.Proofs
open Go Eng
structure OpD (o:ZoY):Prop where
 cols:o.Columns.length≤3
 text:o.Text.length≤1024
def ZJt (t:ZoF) (k:Int):Prop:=0≤k∧k < (t.Columns.length:Int)
def ZGG (t:ZoF) (o:ZoY):Prop:=((o.Kind=1∨o.Kind=2∨o.Kind=5)→ZJt t o.Column)∧(o.Kind=3→∀k∈o.Columns,ZJt t k)
theorem ZQr {t:ZoF} {o:ZoY} (ho:OpD o):wp (ZvQ t o) (fun b=>b=true→ZGG t o):=by
 have hl:=ho.cols;have mk:∀there:Bool,(there=true→ZJt t o.Column)→wp (Zrx there t o) (fun b=>b=true→ZGG t o):=by
  intro there ht;unfold Zrx Zrw;have j3:∀q:Bool,(o.Kind≠1)→(q=true→o.Kind=2∨o.Kind=5)→(o.Kind=2∨o.Kind=5→q=true)→wp (Zrv there o.Kind q t o) (fun b=>b=true→ZGG t o):=by
   intro q h1 hq hq2;unfold Zrv Zru;cases q with
   |true=>
    grind[ZoJ,ZGG]
   |false=>
    have n2:¬(o.Kind=2∨o.Kind=5):=fun h=>by simp_all
    rw[cond_false]
    by_cases h3:o.Kind=3
    ·rw[show (o.Kind == 3)=true by simp_all,cond_true,ZoM];refine ZoT (ZsS ZBA o.Columns (by omega) (fun i (_:Unit)=>(o.Columns,(o.Columns.length:Int),i,t,o)) (fun k _=>∀j (h:j < o.Columns.length),j < k→ZJt t o.Columns[j])
      (Q:=fun x=>x= .ret false∨(x= .brk o∧∀k∈o.Columns,ZJt t k)) () (fun j _ h=>absurd h (Nat.not_lt_zero _)) ?_ ?_) ?_
     ·rintro rec k _ hk hp ih;unfold Zvh Zsp ZtH;dsimp only;rw[decide_eq_true (show (k:Int) < (o.Columns.length:Int) by omega),cond_true,Zqj hk,ZUn]
      by_cases hn:o.Columns[k] < 0
      ·grind[ZoJ]
      ·rw[decide_eq_false hn,cond_false]
       by_cases hg:o.Columns[k]≥(t.Columns.length:Int)
       ·grind[ZoJ]
       ·rw[decide_eq_false hg,cond_false,ZoO];refine⟨ZoQ (by omega),ih () fun j hj hjk=> ?_⟩
        by_cases e:j=k
        ·subst e;exact⟨by omega,by omega⟩
        grind
     all_goals grind[Zvh,Zsp,ZoJ,List.getElem_of_mem,ZwD,Zrt,ZGG]
    grind[Zqr,ZGG,ZoJ]
  by_cases h1:o.Kind=1
  ·grind[ZoJ,ZGG]
  ·rw[beq_eq_false_iff_ne.2 h1,cond_false]
   by_cases h2:o.Kind=2
   ·simp_all
   ·rw[beq_eq_false_iff_ne.2 h2,cond_false]
    by_cases h5:o.Kind=5
    all_goals grind
 unfold ZvQ
 by_cases h0:o.Column≥0
 ·rw[decide_eq_true h0,cond_true];exact mk _ fun h=>⟨h0,of_decide_eq_true h⟩
 grind
theorem ZLJ {t:ZoF} (h:ZEO t) {x y:Int} (hx:0≤x∧x < ZsX t) (hy:0≤y∧y < ZsX t):wp (Zuf t x y) (fun _=>True):=by
 obtain⟨n,hn,hc⟩:=h.rows;have hcols:=h.cols;unfold Zuf;rw[ZoM];refine ZoT (ZsS ZA2 t.Columns (by omega) (fun i (_:Unit)=>(x,y,t.Columns,(t.Columns.length:Int),i)) (fun _ _=>True) (Q:=fun _=>True) () trivial ?_ ?_) ?_
 ·rintro rec k _ hk _ ih;unfold Zuo ZrM;dsimp only;have hr:ZsX t=(n:Int):=by
   unfold ZsX;cases hcs:t.Columns with
   |nil=>simp_all
   |cons c l=>rw[←(hc c (by simp_all)).2.1]
  have h2:=(hc _ (ZT5 hk)).2.1;rw[decide_eq_true (show (k:Int) < (t.Columns.length:Int) by omega),cond_true,Zqj hk,ZUn,Zin hx.1 (show x.toNat < t.Columns[k].Cells.length by omega),ZUn,Zin hy.1 (show y.toNat < t.Columns[k].Cells.length by omega),ZUn,ZoX];refine⟨fun _=>by grind[ZoJ],fun _=> ?_⟩;rw[ZoO];exact⟨ZoQ (by omega),ih () trivial⟩
 all_goals grind[Zuo,ZrM,ZoJ,Zvg]
theorem ZNM (a b:ZoR):wp (Zq1 a b) (fun _=>True):=by
 grind[Zq1,wp,ZpD]
theorem ZM7 {t:ZoF} (h:ZEO t) {o:ZoY} (hdo:ZGG t o) (h3:o.Kind≠3):wp (ZuK t o) (fun r=>r.length≤6∧∀k∈r,0≤k∧k < ZsX t):=by
 obtain⟨n,hn,hc⟩:=h.rows;have hcols:=h.cols;obtain⟨m,hm,hm6⟩:∃m:Nat,ZsX t=(m:Int)∧m≤6:=by
  unfold ZsX;cases hcs:t.Columns with
  |nil=>grind
  |cons c l=>exact⟨n,by rw[←(hc c (by simp_all)).2.1],hn⟩
 have hcol:∀k,ZJt t k→∃hk:k.toNat < t.Columns.length,0≤k∧(t.Columns[k.toNat]).Cells.length=m:=fun k hk=>by
  have hlt:k.toNat < t.Columns.length:=by have:=hk.1;have:=hk.2;omega
  refine⟨hlt,hk.1, ?_⟩;have h1:=(hc _ (ZT5 hlt)).2.1;have h2:ZsX t=(n:Int):=by
   unfold ZsX;cases hcs:t.Columns with
   |nil=>grind
   |cons c l=>rw[←(hc c (by simp_all)).2.1]
  omega
 unfold ZuK;rw[ZGo,ZUn,ZoM,hm];refine ZoT (ZtG ZBh m (by omega) (fun i (out:List Int)=>((m:Int),i,t,o,out)) (fun k out=>out.length≤k∧∀x∈out,0≤x∧x < (m:Int))
  (Q:=fun r=>r.length≤6∧∀k∈r,0≤k∧k < (m:Int)) [] ⟨ZUk _,fun c hc=>absurd hc (by simp)⟩ ?_ ?_) ?_
 ·rintro rec r out hr ⟨h1,h2⟩ ih;have put:∀(a:Nat) (keep:Bool),a≤out.length→wp (Zqa (fun t14 r_ t o out=>rec (t14,r_,t,o,out)) (r:Int) (a:Int) (m:Int) (r:Int) keep t o out) (fun r=>r.length≤6∧∀k∈r,0≤k∧k < (m:Int)):=by
   intro a keep ha;unfold Zqa ZsY;cases keep with
   |false=>grind[ZoO,ZoQ]
   |true=>
    rw[cond_true,ZTY,ZTY,Nat.sub_zero,List.drop_zero,List.take_of_length_le (l:=out.drop a) (by simp_all)];simp only[ZoO];refine⟨Zp8 (by omega),ZrX (by grind),ZrX (by grind),Zp8 (by omega),ZrX (by grind),ZoQ (by omega),ih _ ⟨?_,fun x hx=> ?_⟩⟩
    all_goals grind
  unfold ZuJ Zsa Zqb Zv5 Zv4;dsimp only;rw[decide_eq_true (show (r:Int) < (m:Int) by omega),cond_true]
  by_cases k1:o.Kind=1
  ·obtain⟨hk,h0,hlen⟩:=hcol _ (hdo.1 (.inl k1));grind[Zqj]
  rw[beq_eq_false_iff_ne.2 k1,cond_false]
  by_cases k2:o.Kind=2
  ·obtain⟨hk,h0,hlen⟩:=hcol _ (hdo.1 (.inr (.inl k2)));grind[Zqj]
  rw[beq_eq_false_iff_ne.2 k2,cond_false]
  by_cases k4:o.Kind=4
  ·rw[show (o.Kind == 4)=true by simp_all,cond_true,ZoM];refine ZoT (ZsS ZBg out (by omega) (fun i (keep:Bool)=>((r:Int),(out.length:Int),keep,(m:Int),(r:Int),(out.length:Int),i,t,o,out)) (fun _ _=>True) (Q:=fun x=>∃keep,x=((r:Int),(out.length:Int),keep,(m:Int),(r:Int),t,o,out)) true trivial ?_ ?_) ?_
   ·rintro rec2 i keep hi _ ih2;unfold ZuI Zr9 Zs0;dsimp only;rw[decide_eq_true (show (i:Int) < (out.length:Int) by omega),cond_true,ZFp hi,chk_true,ZTY,ZT4 hi,ZUn];grind[ZoO,ZoQ,ZoM,ZLJ]
   all_goals grind[ZuI,Zr9,ZoJ]
  rw[beq_eq_false_iff_ne.2 k4,cond_false]
  by_cases k5:o.Kind=5
  ·obtain⟨hk,h0,hlen⟩:=hcol _ (hdo.1 (.inr (.inr k5)));rw[show (o.Kind == 5)=true by simp_all,cond_true,Zin h0 hk,ZUn];generalize (t.Columns[o.Column.toNat]).Cells=L at hlen;rw[ZoM];refine ZoT (ZzO ZBf (fun a:Nat=>((r:Int),(a:Int),true,L,(m:Int),(r:Int),t,o,out)) (fun a=>a≤out.length) (fun a=>a) (Q:=fun x=>∃a:Nat,x=((r:Int),(a:Int),true,(m:Int),(r:Int),t,o,out)∧a≤out.length) out.length (ZUk _) (by omega) ?_) ?_
   ·rintro rec2 a ha ih2;unfold Zyq ZuH ZsZ;dsimp only
    by_cases h0a:0 < a
    ·have hi1:a - 1 < out.length:=by omega
     have hb:=h2 _ (ZT5 hi1);rw[decide_eq_true (show (a:Int) > 0 by omega),cond_true,show (a:Int) - 1=((a - 1:Nat):Int) by omega,ZoO,ZoO,ZTY,ZT4 hi1,ZUn,Zin hb.1 (show (out[a - 1]).toNat < L.length by omega),ZUn,Zqj (show r < L.length by omega),ZUn,ZoM];grind[ZoQ,ZFp,ZNM,ZoO,ZoJ]
    grind[ZoJ]
   simp_all
  grind
 all_goals grind[ZuJ,Zsa,ZoJ,Zv3]
theorem ZSJ {t:ZoF} (h:ZEO t) {o:ZoY} (ho:OpD o) (hdo:ZGG t o):wp (Zwk t o) (fun x=>ZEO x∧x.ID=t.ID):=by
 unfold Zwk
 by_cases h3:o.Kind=3
 ·rw[show (o.Kind == 3)=true by simp_all,cond_true,ZoM];refine ZoT (ZIR h ho.cols (hdo.2 h3)) ?_;grind[ZoJ]
 grind[ZoM,ZoT,ZM7,ZJS,ZoJ]
theorem ZPy {t:ZoF} (h:ZEO t) {o:ZoY} (ho:OpD o):wp (ZvR t [o]) (fun r=>r.2=0→ZEO r.1):=by
 unfold ZvR;rw[show decide ((([o]:List ZoY).length:Int) > 5)=false from rfl,cond_false,ZFb h,ZUn,ZTW,cond_false,ZoM];refine ZoT (ZsS ZBB [o] (by simp) (fun i (x:ZoF)=>([o],(([o]:List ZoY).length:Int),i,x,(0:Int),([]:Str),([]:List ZoL))) (fun _ x=>ZEO x)
  (Q:=fun y=>(∃e,y= .ret e∧e.2≠0)∨∃x,y= .brk (x,(0:Int),([]:Str),([]:List ZoL))∧ZEO x) t h ?_ ?_) ?_
 ·rintro rec k x hk hx ih;unfold Zvi Zsq;dsimp only;have hko:([o]:List ZoY)[k]=o:=by
   simp_all
  rw[decide_eq_true (show (k:Int) < (([o]:List ZoY).length:Int) by omega),cond_true,Zqj hk,ZUn,hko,ZoM];grind[ZoT,ZQr,ZoJ,ZoM,ZSJ,ZoO,ZoQ]
 all_goals grind[Zvi,Zsq,ZoJ,ZwE,ZKr]
end Go.Proofs
namespace Go.Proofs
open Go Eng
theorem ZGu {d:ZoH} (hd:ZrK d) {n:Int} (hn:0≤n∧n≤1000000):wp (ZoP d n) (fun r=>(0≤r.1∧(r.1 < n∨n=0∧r.1=0))∧ZrK r.2):=by
 by_cases h0:n=0
 ·subst h0;unfold ZoP;grind[ZoJ,ZoO,ZoM,ZDh,ZoQ,Zrh,ZrK]
 grind[ZxR]
theorem ZSu {d:ZoH} (hd:ZrK d) {t:ZoF} (h:ZEO t):wp (Zvv d t) (fun r=>OpD r.1∧ZrK r.2):=by
 obtain⟨n,hn,hc⟩:=h.rows;have hcols:=h.cols;have j5:∀(d:ZoH) (k q:Int) (s:Str) (l:List Int),ZrK d→s.length≤1024→l.length≤3→wp (Zqx d 0 0 [] k q s [] l) (fun r=>OpD r.1∧ZrK r.2):=by intro d k q s l hd hs hl;unfold Zqx Ztm;rw[ZoJ];exact⟨⟨hl,hs⟩,hd⟩
 have j2:∀(k:Int) (b:Bool) (d:ZoH),ZrK d→wp (Ztn (t.Columns.length:Int) k b d 0 0 [] k 0 [] [] []) (fun r=>OpD r.1∧ZrK r.2):=by
  intro k b d hd;unfold Ztn;cases b with
  |true=>
   grind[ZoM,ZoT,ZGu]
  |false=>
   rw[cond_false,ZoX];refine⟨fun _=> ?_,fun _=>j5 d k 0 [] [] hd (by simp) (by simp)⟩;rw[ZoM];refine ZoT (ZxR hd (n:=3) (by omega)) ?_;rintro⟨q,d2⟩ ⟨hq,hd2⟩;dsimp only at hq hd2⊢
   obtain⟨m,hm⟩:∃m:Nat,1+q=(m:Int):=⟨(1+q).toNat,by omega⟩;rw[hm,ZoO,ZoM];refine⟨ZoQ (by omega),ZoT (ZzO ZCn (fun s:Nat×ZoH×List Int=>((t.Columns.length:Int),(s.1:Int),s.2.1,(0:Int),(0:Int),([]:Str),k,(0:Int),([]:Str),([]:List Int),s.2.2))
    (fun s=>ZrK s.2.1∧s.2.2.length+s.1=m) (fun s=>s.1) (Q:=fun x=>∃d l,x=(d,(0:Int),(0:Int),([]:Str),k,(0:Int),([]:Str),([]:List Int),l)∧ZrK d∧l.length≤3) (m,d2,[]) ⟨hd2,by simp⟩ (by omega) ?_) ?_⟩
   ·rintro rec ⟨k',d,l⟩ ⟨h1,h2⟩ ih;dsimp only at h1 h2 ih;unfold Zz7 Zxl ZvV;dsimp only
    by_cases hk:0 < k'
    ·rw[decide_eq_true (show (k':Int) > 0 by omega),cond_true,ZoX];refine⟨fun _=> ?_,fun _=> ?_⟩
     ·rw[ZoM];refine ZoT (ZGu h1 (n:=(t.Columns.length:Int)) (by omega)) ?_;rintro⟨q,d'⟩ ⟨_,hd'⟩;dsimp only at hd'⊢
      rw[ZoO,ZoO,show (k':Int) - 1=((k' - 1:Nat):Int) by omega];exact⟨ZrX (by grind),ZoQ (by omega),ih (k' - 1,d',l++[q]) ⟨hd',by grind⟩ (by omega)⟩
     grind[ZoJ]
    grind[ZoJ]
   ·rintro _ ⟨d,l,rfl,h1,h2⟩;unfold Zye Ztm;dsimp only;rw[ZoJ];exact⟨⟨h2,by simp⟩,h1⟩
 unfold Zvv;rw[ZoM];refine ZoT (ZxR hd (n:=5) (by omega)) ?_;rintro⟨q,d1⟩ ⟨hq,hd1⟩;dsimp only at hq hd1⊢
 rw[ZoO];refine⟨ZoQ (by omega), ?_⟩;rw[ZoX];refine⟨fun _=> ?_,fun _=> ?_⟩
 ·rw[ZoM];refine ZoT (ZGu hd1 (n:=(t.Columns.length:Int)) (by omega)) ?_;rintro⟨q1,d2⟩ ⟨hq1,hd2⟩;dsimp only at hq1 hd2⊢
  rw[ZoM];refine ZoT (ZEu hd2 (l:=[([97]:Str),([98]:Str),([49]:Str),([50]:Str),([107,48]:Str),([]:Str)]) (by decide) (by decide)) ?_;rintro⟨s,d3⟩ ⟨hs,hd3⟩;dsimp only at hs hd3⊢
  have hsl:s.length≤1024:=by grind
  have j1f:∀d',ZrK d'→wp (Zqy false d' t 0 0 [] (1+q) q1 s [] []) (fun r=>OpD r.1∧ZrK r.2):=fun d' hd'=>by grind[Zqy]
  by_cases h0:0 < t.Columns.length
  ·have hlt:q1.toNat < t.Columns.length:=by omega
   have hcc:=hc _ (ZT5 hlt);rw[decide_eq_true (show (t.Columns.length:Int) > 0 by omega),cond_true,Zin (by omega) hlt,ZUn,ZoX];refine⟨fun hpos=> ?_,fun _=>j1f d3 hd3⟩;have hpos:=of_decide_eq_true hpos;rw[ZoM];refine ZoT (ZxR hd3 (n:=3) (by omega)) ?_;rintro⟨q3,d4⟩ ⟨_,hd4⟩;dsimp only at hd4⊢
   cases decide (q3 > 0)with
   |false=>simp_all
   |true=>
    unfold Zqy;have hl:=hcc.2.1;rw[cond_true,Zin (by omega) hlt,ZUn,ZUn,ZoM];refine ZoT (ZxR hd4 (n:=(t.Columns[q1.toNat].Cells.length:Int)) (by omega)) ?_;rintro⟨q5,d5⟩ ⟨hq5,hd5⟩;dsimp only at hq5 hd5⊢
    have hlt5:q5.toNat < (t.Columns[q1.toNat]).Cells.length:=by omega
    rw[Zin hq5.1 hlt5,ZUn];refine j5 d5 _ q1 _ [] hd5 ?_ (by simp);have:=(ZFO (hcc.2.2 _ (ZT5 hlt5)).1).2;omega
  simp_all
 grind
theorem ZI6 {d:ZoH} (hd:ZrK d) {t:ZoF} (h:ZEO t) {id:Int} (hid:0≤id∧id≤1000):wp (Zr3 d t id) (fun r=>(ZEO r.1∧r.1.ID=id)∧ZrK r.2):=by
 unfold Zr3;rw[ZoM];refine ZoT (ZxR hd (n:=3) (by omega)) ?_;rintro⟨q,d1⟩ ⟨hq,hd1⟩;dsimp only at hq hd1⊢
 obtain⟨m,rfl⟩:∃m:Nat,q=(m:Int):=⟨q.toNat,by omega⟩;rw[ZoM];refine ZoT (ZzO ZA4 (fun s:Nat×ZoH×ZoF=>(id,(s.1:Int),s.2.1,s.2.2,(0:Int),([]:Str),([]:List ZoL)))
  (fun s=>s.1≤m∧ZrK s.2.1∧ZEO s.2.2) (fun s=>s.1) (Q:=fun x=>∃d t,x=(id,d,t,(0:Int),([]:Str),([]:List ZoL))∧ZrK d∧ZEO t) (m,d1,t) ⟨ZUk _,hd1,h⟩ (by omega) ?_) ?_
 ·rintro rec ⟨k,d,t⟩ ⟨h0,h1,h2⟩ ih;dsimp only at h0 h1 h2 ih;unfold ZxY Zuu ZsD;dsimp only
  by_cases hk:0 < k
  ·rw[decide_eq_true (show (k:Int) > 0 by omega),cond_true,ZoM];refine ZoT (ZSu h1 h2) ?_;rintro⟨o,d'⟩ ⟨ho,hd'⟩;dsimp only at ho hd'⊢
   rw[ZoM];refine ZoT (ZPy h2 ho) ?_;rintro⟨x,e⟩ hx;dsimp only at hx⊢
   rw[show (k:Int) - 1=((k - 1:Nat):Int) by omega,ZoX];refine⟨fun he=> ?_,fun _=> ?_⟩
   ·rw[ZoO];exact⟨ZoQ (by omega),ih (k - 1,d',x) ⟨by omega,hd',hx (eq_of_beq he)⟩ (by omega)⟩
   ·rw[ZoO];exact⟨ZoQ (by omega),ih (k - 1,d',t) ⟨by omega,hd',h2⟩ (by omega)⟩
  grind[ZoJ]
 ·rintro _ ⟨d,t,rfl,h1,h2⟩;unfold Zvw;dsimp only;rw[ZKr h2,ZUn,ZoJ];exact⟨⟨⟨hid,h2.name,h2.cols,h2.rows⟩,rfl⟩,h1⟩
structure ZHT (m:Nat) (b:Int) (l:List ZoF):Prop where
 len:l.length≤m
 ok:∀t∈l,ZEO t∧t.ID≤b
 up:l.Pairwise fun x y=>x.ID < y.ID
theorem ZHT.snoc {m:Nat} {b b':Int} {l:List ZoF} (h:ZHT m b l) {t:ZoF} (ht:ZEO t) (hid:t.ID=b') (hb:b < b'):ZHT (m+1) b' (l++[t]):=by
 refine⟨by rw[ZT6,ZUc];have:=h.len;omega,fun x hx=> ?_, ?_⟩
 ·rcases ZUe.1 hx with hx |hx
  ·exact⟨(h.ok x hx).1,by have:=(h.ok x hx).2;omega⟩
  simp_all
 ·rw[List.pairwise_append];refine⟨h.up,by simp,fun x hx y hy=> ?_⟩;rw[ZUf.1 hy];have:=(h.ok x hx).2;omega
theorem ZJE {d:ZoH} (hd:ZrK d) {most:Nat} (h1:1≤most) (h2:most≤10):wp (ZsB d (most:Int)) (fun r=>(ZHT most 50 r.1∧1≤r.1.length)∧ZrK r.2):=by
 unfold ZsB;rw[ZoM];refine ZoT (ZxR hd (n:=2) (by omega)) ?_;rintro⟨id0,d1⟩ ⟨hid0,hd1⟩;dsimp only at hid0 hd1⊢
 rw[ZoM];refine ZoT (ZxR hd1 (n:=(most:Int)) (by omega)) ?_;rintro⟨q,d2⟩ ⟨hq,hd2⟩;dsimp only at hq hd2⊢
 obtain⟨m,hm⟩:∃m:Nat,1+q=(m:Int):=⟨(1+q).toNat,by omega⟩;rw[hm,ZoO,ZoM];refine⟨ZoQ (by omega),ZoT (ZzO ZBm (fun s:Int×Nat×ZoH×List ZoF=>(s.1,(s.2.1:Int),s.2.2.1,s.2.2.2))
  (fun s=>ZrK s.2.2.1∧s.2.2.2.length+s.2.1=m∧(0≤s.1∧s.1≤1+2*(s.2.2.2.length:Int))∧ZHT s.2.2.2.length s.1 s.2.2.2) (fun s=>s.2.1)
  (Q:=fun x=>ZrK x.1∧ZHT most 50 x.2∧1≤x.2.length) (id0,m,d2,[]) ⟨hd2,by simp,by omega,⟨by simp,fun t ht=>absurd ht (by simp),by simp⟩⟩ (by grind) ?_) ?_⟩
 ·rintro rec ⟨id,k,d,l⟩ ⟨g1,g2,g3,g4⟩ ih;dsimp only at g1 g2 g3 g4 ih;unfold ZyA ZuW Zs6;dsimp only
  by_cases hk:0 < k
  ·rw[decide_eq_true (show (k:Int) > 0 by omega),cond_true,ZoM];refine ZoT (ZxR g1 (n:=2) (by omega)) ?_;rintro⟨q,d3⟩ ⟨hq,hd3⟩;dsimp only at hq hd3⊢
   rw[ZoO,ZoO,ZoM];have hid:0≤id+(1+q)∧id+(1+q)≤1000:=by omega
   refine⟨ZoQ (by omega),ZoQ (by omega),ZoT (ZIa hd3 hid) ?_⟩;rintro⟨t,d4⟩ ⟨⟨ht,hti⟩,hd4⟩;dsimp only at ht hti hd4⊢
   have fin:∀(t:ZoF) (d':ZoH),ZEO t→t.ID=id+(1+q)→ZrK d'→wp (Zre (fun id k d l=>rec (id,k,d,l)) (id+(1+q)) (k:Int) d' l t) (fun x=>ZrK x.1∧ZHT most 50 x.2∧1≤x.2.length):=by intro t d' ht hti hd';unfold Zre;rw[ZoO,ZoO,show (k:Int) - 1=((k - 1:Nat):Int) by omega];refine⟨ZrX (by grind),ZoQ (by omega),ih (id+(1+q),k - 1,d',l++[t]) ⟨hd',by grind,by grind, ?_⟩ (by grind)⟩;dsimp only;rw[ZT6,ZUc];exact g4.snoc ht hti (by omega)
   rw[ZoX];refine⟨fun hl0=> ?_,fun _=>by grind⟩;have hl0:=of_decide_eq_true hl0;rw[ZoM];refine ZoT (ZxR hd4 (n:=4) (by omega)) ?_;rintro⟨q4,d5⟩ ⟨_,hd5⟩;dsimp only at hd5⊢
   rw[ZoX];refine⟨fun _=> ?_,fun _=>fin t d5 ht hti hd5⟩;rw[ZoM];refine ZoT (ZxR hd5 (n:=(l.length:Int)) (by omega)) ?_;rintro⟨q6,d6⟩ ⟨hq6,hd6⟩;dsimp only at hq6 hd6⊢
   have hlt:q6.toNat < l.length:=by omega
   rw[ZoO,ZT4 hlt,ZUn,ZoM];refine⟨Zr7 ⟨hq6.1,hq6.2⟩,ZoT (ZI6 hd6 (g4.ok _ (ZT5 hlt)).1 hid) ?_⟩;simp_all
  ·rw[decide_eq_false (show ¬(k:Int) > 0 by omega),cond_false,ZoJ];refine⟨g1,⟨by grind,fun t ht=> ?_,g4.up⟩,by grind⟩;have:=g4.ok t ht;grind
 grind[Zwa,ZoJ]
end Go.Proofs
namespace Go.Proofs
open Go Eng
abbrev fkT:Ty:= .st 7
abbrev fvT:Ty:= .st 4
abbrev ZIs:=List (ZoU×ZoG)
abbrev lkF (m:ZIs) (x:ZoU):Option ZoG:=Zhx (q:=ZFN) (k:=fkT) (v:=fvT) (car:=Zxw) m x
abbrev stF (m:ZIs) (x:ZoU) (y:ZoG):ZIs:=setB (q:=ZFN) (k:=fkT) (v:=fvT) (car:=Zxw) m x y
theorem ZNs (m:ZIs) (x y:ZoU) (v:ZoG):lkF (stF m x v) y=if y=x then some v else lkF m y:=by
 have hk:∀a b:ZoU,Zl3 (car:=Zxw) ZFN fkT a b=decide (a=b):=by
  intro a b;obtain⟨a0,a1⟩:=a;obtain⟨b0,b1⟩:=b;show (a0 == b0&&a1 == b1)=_
  grind
 have look:∀m:ZIs,lkF m y=(m.find? fun e=>decide (y=e.1)).map (·.2):=fun m=>by show ((m.find? fun e=>Zl3 (car:=Zxw) ZFN fkT y e.1)).map (·.2)=_;simp_all
 rw[look,look];have hs:stF m x v=if m.any (fun e=>decide (x=e.1))then m.map (fun e=>if x=e.1 then (e.1,v)else e)else m++[(x,v)]:=by show (if m.any (fun e=>Zl3 (car:=Zxw) ZFN fkT x e.1)then m.map (fun e=>if Zl3 (car:=Zxw) ZFN fkT x e.1 then (e.1,v)else e)else m++[(x,v)])=_;grind
 rw[hs];split
 ·rename_i h
  induction m with
  |nil=>grind
  |cons e r ih=>
   simp only[List.map_cons,List.find?_cons]
   by_cases h1:x=e.1
   ·simp only[if_pos h1]
    by_cases h2:y=e.1
    ·simp_all
    ·have h3:¬y=x:=fun h=>h2 (h.trans h1)
     simp only[decide_eq_false h2,if_neg h3];clear ih h hs look
     induction r with
     |nil=>rfl
     |cons e' r ih=>
      grind
   ·simp only[if_neg h1]
    by_cases h2:y=e.1
    ·grind
    ·simp only[decide_eq_false h2];have h':(r.any fun e=>decide (x=e.1))=true:=by simp_all
     exact ih (by
      show (if r.any (fun e=>Zl3 (car:=Zxw) ZFN fkT x e.1)then r.map (fun e=>if Zl3 (car:=Zxw) ZFN fkT x e.1 then (e.1,v)else e)else r++[(x,v)])=_;simp_all) h'
 grind
def ZQu (u k:Nat):Bool:=(u >>> k)&&& 1 == 1
def ZIc (u k:Nat):Nat:=u|||(1 <<< k)
theorem ZGz:∀u:Fin 256,∀k:Fin 8,(andK .i64 (shrK .i64 (u.val:Int) (k.val:Int)) 1 == 1)=ZQu u.val k.val∧orK .i64 (u.val:Int) (shlK .i64 1 (k.val:Int))=(ZIc u.val k.val:Nat)∧ZIc u.val k.val < 256:=by decide+kernel
theorem ZNO {u k:Nat} (hu:u < 256) (hk:k < 8):(andK .i64 (shrK .i64 (u:Int) (k:Int)) 1 == 1)=ZQu u k:=(ZGz ⟨u,hu⟩ ⟨k,hk⟩).1
theorem ZJR {u k:Nat} (hu:u < 256) (hk:k < 8):orK .i64 (u:Int) (shlK .i64 1 (k:Int))=(ZIc u k:Nat):=(ZGz ⟨u,hu⟩ ⟨k,hk⟩).2.1
theorem ZJQ {u k:Nat} (hu:u < 256) (hk:k < 8):ZIc u k < 256:=(ZGz ⟨u,hu⟩ ⟨k,hk⟩).2.2
def ZE6 (F:Nat→Rat) (u k:Nat) (x:Rat):Option Rat:=if ZQu u k then none else if x=0 then none else some (x+F (ZIc u k))
def goW (F:Nat→Rat) (u:Nat):Nat→List Rat→Rat→Rat
 |_,[],b=>b
 |k,x::r,b=>goW F u (k+1) r (match ZE6 F u k x with |some y=>if b < y then y else b |none=>b)
def ZvI:List (List Rat)→Nat→Rat
 | [],_=>0
 |r::rest,u=>goW (ZvI rest) u 0 r (ZvI rest u)
def ZDM (w:List (List Rat)) (m:ZIs):Prop:=∀(i u:Nat) v,lkF m ⟨(i:Int),(u:Int)⟩=some v→v=fOf (ZvI (w.drop i) u)
theorem ZKj (w:List (List Rat)):ZDM w []:=fun i u v h=>by cases h
theorem ZDM.set {w:List (List Rat)} {m:ZIs} (h:ZDM w m) (i u:Nat):ZDM w (stF m ⟨(i:Int),(u:Int)⟩ (fOf (ZvI (w.drop i) u))):=by
 intro i' u' v hv;rw[ZNs]at hv;split at hv
 ·grind
 ·exact h i' u' v hv
def ZqV (w:List (List Rat)):List (List ZoG):=w.map fun r=>r.map fOf
structure WOk (s:Nat) (w:List (List Rat)):Prop where
 rows:w.length≤8
 cols:∀r∈w,r.length≤8
 sz:∀r∈w,∀x∈r,Sz s x
 lim:s≤600
theorem ZMf {F:Nat→Rat} {s B u:Nat} (hF:∀u,Sz B (F u)):∀(r:List Rat) (k:Nat) (b:Rat),(∀x∈r,Sz s x)→Sz (s+B+1) b→Sz (s+B+1) (goW F u k r b)
 | [],k,b,_,hb=>hb
 |x::r,k,b,hr,hb=>by
  refine ZMf hF r (k+1) _ (fun y hy=>hr y (by grind)) ?_;unfold ZE6;split
  ·rename_i y hy;split
   ·split at hy
    ·grind
    ·split at hy
     ·grind
     ·cases hy;exact(hr x (by simp)).add (hF _)
   omega
  omega
theorem ZE1 {s:Nat}:∀(w:List (List Rat)) (u:Nat),(∀r∈w,∀x∈r,Sz s x)→Sz ((s+1)*w.length+1) (ZvI w u)
 | [],u,_=>by grind[ZvI,ZE8]
 |r::rest,u,h=>by
  have ih:=fun u=>ZE1 rest u (fun r hr=>h r (by grind))
  have:(s+1)*(r::rest).length+1=s+((s+1)*rest.length+1)+1:=by grind
  rw[this];exact ZMf ih r 0 _ (h r (by simp)) ((ih u).mono (by omega))
theorem ZEo {s:Nat} {w:List (List Rat)} (h:WOk s w) (i u:Nat):Sz 7000 (ZvI (w.drop i) u):=by
 refine(ZE1 (w.drop i) u fun r hr=>h.sz r (List.mem_of_mem_drop hr)).mono ?_;have h1:(w.drop i).length≤8:=by rw[ZT8];have:=h.rows;omega
 have h2:=h.lim;have:(s+1)*(w.drop i).length≤601*8:=Nat.mul_le_mul (by omega) h1;omega
end Go.Proofs
