/- Plain laws over the specs, part 2. -/
import Derived.Test.YtdmabekeafhflaaGreatDoorUsM1
import Derived.Test.YtdmabekeafhflaaGreatDoorUsM0
set_option linter.unusedVariables false
set_option linter.unusedSimpArgs false
set_option linter.unusedSectionVars false
open Bool renaming not_true→ZNN, true_and→ZNO, and_eq_true→ZKj
open Int renaming toNat_natCast→ZNP
open List renaming getElem_mem→ZNW, length_cons→ZNY, length_map→ZN0, all_eq_true→ZNQ, length_append→ZNX, length_nil→ZN1, length_singleton→ZN2, zipWith→ZN7, take_succ_eq_append_getElem→ZN6, take_length→ZN5, drop_eq_getElem_cons→ZNT, mem_cons→ZN3, drop_eq_nil_of_le→ZNU, dropWhile_cons→ZNR, not_mem_nil→ZN4, getElem?_eq_getElem→ZNV, dropWhile_sublist→ZNS, length_filter_le→ZNZ
open Nat renaming le_refl→ZN8, le_trans→ZN9
open Option renaming bind_some→ZOa
namespace Go.Proofs
open Go Eng
theorem ZBc (s:Str) (c:UInt8):ZpC s [c]=some (match s with |b::_=>b == c | []=>false):=by
 unfold ZpC ZpV;cases s with
 |nil=>rfl
 |cons b r=>
  rw[decide_eq_true (show ((b::r).length:Int)≥(([c]:Str).length:Int) by simp only[ZNY,ZN1];omega),cond_true,Zqv (by simp only[ZNY,ZN1];omega),chk_true];simp
theorem ZDl (s:Str) (c:UInt8):Zu7 s [c]=some (match s with |b::r=>bif b == c then (r,true)else (b::r,false) | []=>([],false)):=by
 unfold Zu7 ZrD;rw[ZBc];cases s with
 |nil=>rfl
 |cons b r=>
  rw[ZOa];dsimp only;cases hb:b == c with
  |false=>rfl
  |true=>
   rw[ZNN,cond_false,Zqv (by simp only[ZNY,ZN1];omega),chk_true];rfl
theorem ZAC (s:Str) (c:UInt8):ZuJ s [c]=some (match s with |b::r=>bif b == c then r else b::r | []=>[]):=by
 unfold ZuJ Zrq;rw[ZBc];cases s with
 |nil=>rfl
 |cons b r=>
  rw[ZOa];dsimp only;cases hb:b == c with
  |false=>rfl
  |true=>
   rw[cond_true,Zqv (by simp only[ZNY,ZN1];omega),chk_true];rfl
theorem ZFL:∀s:Str,Lib.indexByte s 46=if s.dropWhile n46=[]then -1 else ((s.takeWhile n46).length:Int)
 | []=>rfl
 |b::s=>by
  rw[Lib.indexByte,ZFL s,ZNR,List.takeWhile_cons];cases h:n46 b with
  |false=>
   rw[ZBD h];simp
  |true=>
   have hb:(b == 46)=false:=by unfold n46 at h;simpa using h
   simp only[hb,Bool.false_eq_true,if_false,if_true]
   by_cases hd:s.dropWhile n46=[]
   ·simp[hd]
   ·simp only[hd,if_false];rw[if_neg (by simp),ZNY];omega
theorem ZkE {s:Str} (hl:s.length≤9223372036854775807):Zxo s [46]=some (s.takeWhile n46,(s.dropWhile n46).tail, !(s.dropWhile n46).isEmpty):=by
 have hsp:s.takeWhile n46++s.dropWhile n46=s:=List.takeWhile_append_dropWhile;have hidx:Zra s [46]=some (Lib.indexByte s 46):=by
  unfold Zra Zqu Zqd;rw[show ((([46]:Str).length:Int) == 0)=false from rfl,cond_false]
  by_cases h:([46]:Str)=s
  ·subst h;rfl
  ·rw[show (([46]:Str) == s)=false by simpa using h,cond_false];rfl
 unfold Zxo ZtZ;rw[hidx,ZOa,ZFL];cases hR:s.dropWhile n46 with
 |nil=>
  rw[hR,List.append_nil]at hsp;rw[if_pos rfl,show decide ((-1:Int)≥0)=false from rfl,cond_false,ZOa,hsp];rfl
 |cons c p=>
  have hlen:(s.takeWhile n46).length+(p.length+1)=s.length:=by have:=congrArg List.length hsp;rw[ZNX,hR,ZNY]at this;exact this
  rw[if_neg (by simp),decide_eq_true (show ((s.takeWhile n46).length:Int)≥0 by omega),cond_true,Zqv (by omega),ZoS (by simp only[ZNY,ZN1];omega),Zqv (by simp only[ZNY,ZN1];omega)];simp only[chk_true,ZOa];have e1:s.take ((((s.takeWhile n46).length:Nat):Int)).toNat=s.takeWhile n46:=by
   rw[ZNP]
   conv=>lhs;rw[←hsp]
   rw[List.take_left' (by rw[hsp])]
  have e2:s.drop ((((s.takeWhile n46).length:Nat):Int)+(([46]:Str).length:Int)).toNat=p:=by
   rw[show ((((s.takeWhile n46).length:Nat):Int)+(([46]:Str).length:Int)).toNat=(s.takeWhile n46).length+1 by simp only[ZNY,ZN1];omega]
   conv=>lhs;rw[←hsp,hR]
   rw[show (s.takeWhile n46++c::p).takeWhile n46=s.takeWhile n46 by rw[←hR,hsp]];rw[←List.drop_drop,List.drop_left' rfl];rfl
  rw[e1,e2];rfl
theorem dset:((List.range 256).all fun n=>([48,49,50,51,52,53,54,55,56,57]:Str).contains n.toUInt8 == isD n.toUInt8)=true:=by decide+kernel
theorem ZIX (b:UInt8):([48,49,50,51,52,53,54,55,56,57]:Str).contains b=isD b:=by have:=ZNQ.1 dset b.toNat (List.mem_range.2 b.toNat_lt);rw[show b.toNat.toUInt8=b from UInt8.ofNat_toNat]at this;exact eq_of_beq this
theorem ZwI {p:UInt8→Bool}:∀l:Str,l.dropWhile p=[]↔l.all p=true
 | []=>by simp
 |b::l=>by
  rw[ZNR,List.all_cons];cases h:p b with
  |true=>rw[if_pos rfl,ZNO];exact ZwI l
  |false=>simp
theorem ZGB (s cs:Str):(Lib.trimS s cs == [])=s.all (cs.contains ·):=by
 rw[Bool.eq_iff_iff,beq_iff_eq];unfold Lib.trimS Lib.trimLeftS Lib.trimRightS;rw[ZwI];constructor
 ·intro h;have h1:(s.reverse.dropWhile (cs.contains ·)).all (cs.contains ·)=true:=by rw[←List.all_reverse];exact h
  have h2:s.reverse.dropWhile (cs.contains ·)=[]:=by
   cases he:s.reverse.dropWhile (cs.contains ·)with
   |nil=>rfl
   |cons b r=>
    have h3:=ZCJ (cs.contains ·) _ b r he;rw[he,List.all_cons,h3]at h1;cases h1
  rw[ZwI,List.all_reverse]at h2;exact h2
 ·intro h;have h2:s.reverse.dropWhile (cs.contains ·)=[]:=by rw[ZwI,List.all_reverse];exact h
  rw[h2];rfl
theorem ZDk (s:Str) (m:Nat):Zu1 s (m:Int)=some (okD s m):=by
 unfold Zu1 ZsZ okD ZwY
 by_cases h1:1≤s.length
 ·rw[decide_eq_true (show (s.length:Int)≥1 by omega),cond_true,decide_eq_true h1]
  by_cases h2:s.length≤m
  ·rw[decide_eq_true (show (s.length:Int)≤(m:Int) by omega),cond_true,decide_eq_true h2];rw[show (([48,49,50,51,52,53,54,55,56,57]:Str).all fun b=>decide (b.toNat < 128))=true from by decide,chk_true,show decide (([48,49,50,51,52,53,54,55,56,57]:Str).length < 4294967281)=true from by decide,chk_true,ZOa,ZGB];rw[show (fun b:UInt8=>([48,49,50,51,52,53,54,55,56,57]:Str).contains b)=isD from funext ZIX];rfl
  ·rw[decide_eq_false (show ¬(s.length:Int)≤(m:Int) by omega),cond_false,decide_eq_false h2];rfl
 ·rw[decide_eq_false (show ¬(s.length:Int)≥1 by omega),cond_false,decide_eq_false h1];rfl
def zf:ZoF:=ZoF.mk (ZoM.mk false []) (ZoM.mk false [])
theorem ZKb:([10]:List Int)=iL (wd 10):=by kernel_rfl
theorem ZIy:([1]:List Int)=iL (wd 1):=by kernel_rfl
theorem ZIC:([]:List Int)=iL (wd 0):=by kernel_rfl
theorem ZEQ {b:UInt8} (h:isD b=true):IntKind.wrap .u64 (IntKind.wrap .u8 (((b.toNat:Nat):Int) - 48))=((b.toNat - 48:Nat):Int):=by unfold isD at h;simp only[ZKj,decide_eq_true_eq]at h;rw[wrap_u8 (by omega),wrap_u64 (by omega)];omega
theorem ZHB {neg:Bool} {D P:Str} (h:ZDZ D P):Zq7 neg D P false false false [] []=some (fOf (ZMn (neg,D,P)),true):=by
 have hd1:=h.d2;have hp1:=h.p;have hall:(D++P).all isD=true:=by rw[List.all_append,h.dd,h.pp];rfl
 have hlen:(D++P).length≤24:=by rw[ZNX];omega
 refine Zq0 ?_;unfold Zq7;rw[cond_false,ZIy,ZEr _ (by have:=ZHf (n:=1) (by decide);omega),ZOa,ZoO,ZoO,ZoN,ZKb,ZIC];refine⟨decide_eq_true (by unfold Zr;omega),decide_eq_true (by omega), ?_⟩;refine ZoW (Zsz Zzj (D++P).length (by omega) (fun i (n:Nat)=>(neg,P,iL (wd n),iL (wd 10),(((D++P).map fun b:UInt8=>((b.toNat:Nat):Int)).length:Int),i,false,false,iL (wd 1),(D++P).map (fun b:UInt8=>((b.toNat:Nat):Int)),iL (wd 0),iL (wd 0))) (fun i n=>n=ZBU ((D++P).take i))
  (Q:=fun x=>x=(neg,P,iL (wd (ZBU (D++P))),iL (wd 10),false,false,iL (wd 1),iL (wd 0),iL (wd 0))) 0 (by rfl) ?_ ?_) ?_
 ·rintro rec i n hi rfl ih;unfold Zvg Ztd;dsimp only;have hb:isD (D++P)[i]=true:=ZNQ.1 hall _ (ZNW hi);have hn:ZBU ((D++P).take i) < 2 ^ 80:=ZDg (ZNQ.2 fun b hb=>ZNQ.1 hall b (List.mem_of_mem_take hb)) (by rw[List.length_take];omega);have hn2:ZBU ((D++P).take (i+1))=ZBU ((D++P).take i)*10+((D++P)[i].toNat - 48):=by rw[ZN6 hi,ZFE,Nat.mul_comm]
  have hlm:i < ((D++P).map fun b:UInt8=>((b.toNat:Nat):Int)).length:=by rw[ZN0];exact hi
  have hb':=hb;unfold isD at hb';simp only[ZKj,decide_eq_true_eq]at hb';have w1:=ZHf hn;have w10:=ZHf (n:=10) (by decide);have w2:(wd (ZBU ((D++P).take i)*10)).length≤100:=ZCp (k:=84) (by omega) 100 (by decide);have w3:=ZHf (n:=(D++P)[i].toNat - 48) (by omega);rw[decide_eq_true (show (i:Int) < (((D++P).map fun b:UInt8=>((b.toNat:Nat):Int)).length:Int) by rw[ZN0];omega),cond_true,ZDL hlm,chk_true,ZNP,ZNV hlm,ZOa,List.getElem_map,ZCt _ _ (by omega) (by omega),ZOa,ZEQ hb,ZA2 _ (by omega),ZOa,
   ZFB _ _ (by omega) (by omega),ZOa,ZoO]
  refine⟨ZoS (by omega), ?_⟩;have:=ih (ZBU ((D++P).take i)*10+((D++P)[i].toNat - 48)) hn2.symm;exact this
 ·rintro rec n rfl;unfold Zvg Ztd;dsimp only;rw[decide_eq_false (by rw[ZN0];omega),cond_false,ZoK,ZN5]
 ·rintro x rfl;dsimp only;unfold Zwr;rw[ZoN];refine ZoW (Zsz Zzi P.length (by omega) (fun i (k:Nat)=>(neg,iL (wd (ZBU (D++P))),iL (wd 10),iL (wd (10 ^ k)),(P.length:Int),i,false,false,iL (wd 0),iL (wd 0))) (fun i k=>k=i)
   (Q:=fun x=>x=(neg,iL (wd (ZBU (D++P))),iL (wd (10 ^ P.length)),false,false,iL (wd 0),iL (wd 0))) 0 (by rfl) ?_ ?_) ?_
  ·rintro rec i k hi rfl ih;unfold Zvf Ztc;dsimp only;have w1:=ZHf (ZCB (show k≤24 by omega));have w10:=ZHf (n:=10) (by decide);rw[decide_eq_true (show (k:Int) < (P.length:Int) by omega),cond_true,ZCt _ _ (by omega) (by omega),ZOa,ZoO,←Nat.pow_succ];exact⟨ZoS (by omega),ih (k+1) rfl⟩
  ·rintro rec k rfl;unfold Zvf Ztc;dsimp only;rw[decide_eq_false (by omega),cond_false,ZoK]
  ·rintro x rfl;dsimp only;unfold Zwq;have hnum:=ZDg hall hlen;have hpw:=ZCB (show P.length≤24 by omega);have w1:=ZHf hnum;have w2:=ZHf hpw;rw[Zvn _ _ (by omega),ZOa,Zvn _ _ (by omega),ZOa];have hne:((10 ^ P.length:Nat):Int)≠0:=by have:=Nat.pow_pos (n:=P.length) (show 0 < 10 by decide);omega
   have:=Zzo (if neg=true then -((ZBU (D++P):Nat):Int)else ((ZBU (D++P):Nat):Int)) ((10 ^ P.length:Nat):Int) hne (by
    show (wd _).length≤50000;have e:(if neg=true then -((ZBU (D++P):Nat):Int)else ((ZBU (D++P):Nat):Int)).natAbs=ZBU (D++P):=by split<;>omega
    rw[e];omega) (by show (wd _).length≤50000;rw[Int.natAbs_natCast];omega)
   simp only[Bool.false_eq_true,if_false];rw[this,ZOa,ZoK];rfl
theorem ZCf {t:Str} (hl:t.length≤9223372036854775807):ZsK t=some (match ZBe t with |some x=>(fOf (ZMn x),true) |none=>(zf,false)):=by
 have key:∀(body:Str) (neg:Bool),body.length≤9223372036854775807→Zsx body neg false false [] []=some (match (ZAM body).map fun x=>(neg,x.1,x.2)with |some x=>(fOf (ZMn x),true) |none=>(zf,false)):=by
  intro body neg hb;unfold Zsx;rw[ZkE hb,ZOa];dsimp only;rw[show (15:Int)=((15:Nat):Int)from rfl,ZDk,ZOa,show (9:Int)=((9:Nat):Int)from rfl];have hpc:=ZAL body;cases h1:okD (body.takeWhile n46) 15 with
  |false=>
   rw[h1,Bool.false_and,cond_false]at hpc;rw[hpc,Bool.not_false,cond_true];rfl
  |true=>
   rw[h1,ZNO]at hpc;rw[ZNN,cond_false];cases h2:(body.dropWhile n46).isEmpty with
   |true=>
    rw[h2,Bool.true_or,cond_true]at hpc;rw[ZNN,cond_false,ZHB (Zz3 hpc),hpc];rfl
   |false=>
    rw[h2,Bool.false_or]at hpc;rw[Bool.not_false,cond_true,ZDk,ZOa];cases h3:okD (body.dropWhile n46).tail 9 with
    |false=>
     rw[h3,cond_false]at hpc;rw[hpc];rfl
    |true=>
     rw[h3,cond_true]at hpc;rw[ZNN,ZHB (Zz3 hpc),hpc];rfl
 unfold ZsK ZBe ZDa;rw[ZDl,ZOa];cases t with
 |nil=>
  dsimp only;rw[Bool.not_false,cond_true,ZAC,ZOa];dsimp only;rw[key [] false hl]
 |cons b r=>
  dsimp only;simp only[ZNY]at hl;cases h1:b == 45 with
  |true=>
   rw[cond_true,cond_true];dsimp only;rw[ZNN,cond_false,key r true (by omega)]
  |false=>
   rw[cond_false,cond_false];dsimp only;rw[Bool.not_false,cond_true,ZAC,ZOa];dsimp only;cases h2:b == 43 with
   |true=>rw[cond_true,cond_true];dsimp only;rw[key r false (by omega)]
   |false=>rw[cond_false,cond_false];dsimp only;rw[key (b::r) false (by simp only[ZNY];omega)]
end Go.Proofs
namespace Go.Proofs
open Go Eng
theorem ZKa (b:UInt8) (k:UInt8):(((b.toNat:Nat):Int) == ((k.toNat:Nat):Int))=(b == k):=by
 rw[Bool.eq_iff_iff,beq_iff_eq,beq_iff_eq];constructor
 ·intro h;exact UInt8.toNat_inj.1 (by omega)
 ·rintro rfl;rfl
end Go.Proofs
namespace Go.Proofs
open Go Eng
end Go.Proofs
namespace Go.Proofs
open Go Eng
def is0 (b:UInt8):Bool:=b == 48
def sp (b:UInt8):Bool:=b == 32
def rtr (p:UInt8→Bool) (l:Str):Str:=(l.reverse.dropWhile p).reverse
def lz (D:Str):Str:=bif (D.dropWhile is0).isEmpty then [48]else D.dropWhile is0
def rz (P:Str):Str:=rtr is0 P
def ZGx (D P:Str):Str:=lz D++(bif (rz P).isEmpty then []else 46::rz P)
def ZJY (x:Bool×Str×Str):Str:=bif x.1&& !(ZGx x.2.1 x.2.2 == [48])then 45::ZGx x.2.1 x.2.2 else ZGx x.2.1 x.2.2
theorem ZDH (p:UInt8→Bool) (P:Str):(rtr p P).length≤P.length:=by unfold rtr;rw[List.length_reverse];exact ZN9 (ZNS _).length_le (by rw[List.length_reverse];exact ZN8 _)
theorem ZHw {D:Str} (h:1≤D.length):(lz D).length≤D.length:=by
 unfold lz;cases hd:(D.dropWhile is0).isEmpty with
 |true=>rw[cond_true];exact h
 |false=>rw[cond_false];exact(ZNS _).length_le
theorem ZEj {D P:Str} (h:1≤D.length) (h2:D.length≤15) (h3:P.length≤9):(ZGx D P).length≤25:=by
 have h1:=ZHw h;have h4:=ZDH is0 P;unfold ZGx rz;rw[ZNX];cases (rtr is0 P).isEmpty with
 |true=>rw[cond_true];simp only[ZN1];omega
 |false=>rw[cond_false];simp only[ZNY];omega
theorem Zz4 (c:UInt8):(fun b:UInt8=>([c]:Str).contains b)=fun b=>b == c:=by funext b;rw[List.contains_cons];simp
def ZDB (s:Str):Str:=(rtr sp s).dropWhile sp
theorem ZGD (s:Str):Lib.trimS s [32]=ZDB s:=by unfold Lib.trimS Lib.trimLeftS Lib.trimRightS ZDB rtr;rw[Zz4];rfl
theorem ZDC (s:Str):ZyD s=some (ZDB s):=by unfold ZyD ZwY;rw[show (([32]:Str).all fun b=>decide (b.toNat < 128))=true from by decide,chk_true,show decide (([32]:Str).length < 4294967281)=true from by decide,chk_true,ZOa,ZGD]
theorem ZFg (s:Str):(ZDB s).length≤s.length:=ZN9 (ZNS _).length_le (ZDH sp s)
end Go.Proofs
namespace Go.Proofs
open Go Eng
theorem ZG2 (a:Str):ZxB [a,[48]]=some (bif a.isEmpty then [48]else a):=by
 have key:wp (Zug big ([]:Str) [a,[48]] ((([a,[48]]:List Str).length:Nat):Int) 0) (fun x=>x= .ret (bif a.isEmpty then [48]else a)):=by
  refine ZwV Zz2 ([a,[48]]:List Str) (by simp) (fun i (_:Unit)=>(([]:Str),([a,[48]]:List Str),((([a,[48]]:List Str).length:Nat):Int),i)) (fun k _=>k≤1∧(k=1→a=[])) () ⟨by omega,fun h=>by omega⟩ ?_ ?_
  ·rintro rec k _ hk ⟨h1,h2⟩ ih;unfold Zyk ZwR;dsimp only;rw[decide_eq_true (show (k:Int) < ((([a,[48]]:List Str).length:Nat):Int) by omega),cond_true,ZsV hk,ZOa];rcases Nat.eq_zero_or_pos k with rfl |hk0
   ·show wp (bif (!(a == []))then some (Out.ret a)else chk (inK .i64 (((0:Nat):Int)+1)) (rec ([],[a,[48]],((([a,[48]]:List Str).length:Nat):Int),((0:Nat):Int)+1))) _;cases a with
    |nil=>
     rw[show (!(([]:Str) == ([]:Str)))=false from rfl,cond_false,ZoO];exact⟨by decide,ih () ⟨by omega,fun _=>rfl⟩⟩
    |cons b r=>
     rw[show (!((b::r) == ([]:Str)))=true by simp,cond_true,ZoK];rfl
   ·obtain rfl:k=1:=by omega
    have ha:=h2 rfl;subst ha;show wp (bif (!(([48]:Str) == []))then some (Out.ret ([48]:Str))else chk (inK .i64 (((1:Nat):Int)+1)) (rec ([],[[],[48]],((([([]:Str),[48]]:List Str).length:Nat):Int),((1:Nat):Int)+1))) _;rw[show (!(([48]:Str) == ([]:Str)))=true from rfl,cond_true,ZoK];rfl
  ·rintro rec _ ⟨h1,_⟩;simp only[ZNY,ZN1]at h1;omega
 unfold ZxB;obtain⟨x,hx,rfl⟩:=key;rw[hx,ZOa]
theorem ZGI (t:Str):(ZDa t).2.length≤t.length:=by
 unfold ZDa;cases t with
 |nil=>exact ZN8 _
 |cons b r=>
  dsimp only;cases b == 45 with
  |true=>rw[cond_true];simp
  |false=>
   rw[cond_false];cases b == 43 with
   |true=>rw[cond_true];simp
   |false=>rw[cond_false];exact ZN8 _
theorem ZAt {t:Str} {x:Bool×Str×Str} (h:ZBe t=some x):x.1=(ZDa t).1∧ZAM (ZDa t).2=some x.2:=by
 unfold ZBe at h;cases hb:ZAM (ZDa t).2 with
 |none=>rw[hb]at h;cases h
 |some y=>
  rw[hb]at h;simp only[Option.map_some,Option.some.injEq]at h;subst h;exact⟨rfl,rfl⟩
theorem ZER {b:Str} {x:Str×Str} (h:ZAM b=some x):∃c r,b=c::r∧isD c=true:=by
 have hok:=Zz3 h;rw[ZAL]at h;cases b with
 |nil=>simp[okD]at h
 |cons c r=>
  refine⟨c,r,rfl, ?_⟩;cases hc:n46 c with
  |false=>
   rw[List.takeWhile_cons,hc]at h;simp[okD]at h
  |true=>
   cases hcc:(okD ((c::r).takeWhile n46) 15&&(((c::r).dropWhile n46).isEmpty||okD ((c::r).dropWhile n46).tail 9))with
   |false=>rw[hcc,cond_false]at h;cases h
   |true=>
    rw[ZKj]at hcc;have h1:=hcc.1;unfold okD at h1;rw[List.takeWhile_cons,hc,if_pos rfl,List.all_cons]at h1;simp only[ZKj]at h1;exact h1.2.1
theorem ZKk (b:UInt8):([43,45]:Str).contains b=((b == 45)||(b == 43)):=by rw[List.contains_cons,List.contains_cons];simp only[List.contains_nil,Bool.or_false];exact Bool.or_comm _ _
theorem ZKD {b:UInt8} (h:isD b=true):((b == 45)||(b == 43))=false:=by
 cases h1:b == 45 with
 |true=>rw[eq_of_beq h1]at h;exact absurd h (by decide)
 |false=>
  cases h2:b == 43 with
  |true=>rw[eq_of_beq h2]at h;exact absurd h (by decide)
  |false=>rfl
theorem ZGC {t:Str} {x:Bool×Str×Str} (h:ZBe t=some x):Lib.trimLeftS t [43,45]=(ZDa t).2∧∃b r,t=b::r∧(b == 45)=x.1:=by
 obtain⟨h1,h2⟩:=ZAt h;obtain⟨c,r,hc,hd⟩:=ZER h2;have hpm:=ZKD hd;unfold Lib.trimLeftS;rw[show (fun b:UInt8=>([43,45]:Str).contains b)=fun b=>(b == 45)||(b == 43)from funext ZKk];have stop:(c::r).dropWhile (fun b=>(b == 45)||(b == 43))=c::r:=by rw[ZNR,hpm,if_neg (by simp)]
 rw[h1];cases t with
 |nil=>unfold ZDa at hc;cases hc
 |cons b s=>
  unfold ZDa at hc⊢
  dsimp only at hc⊢
  rw[ZNR];cases h45:b == 45 with
  |true=>
   rw[h45,cond_true]at hc;dsimp only at hc;rw[cond_true,Bool.true_or,if_pos rfl,hc];exact⟨stop,b,_,rfl,h45⟩
  |false=>
   rw[h45,cond_false]at hc;rw[cond_false,Bool.false_or];cases h43:b == 43 with
   |true=>
    rw[h43,cond_true]at hc;dsimp only at hc;rw[cond_true,if_pos rfl,hc];exact⟨stop,b,_,rfl,h45⟩
   |false=>
    rw[cond_false,if_neg (by simp)];exact⟨rfl,b,_,rfl,h45⟩
theorem ZDQ {t:Str} (hl:t.length≤9223372036854775807):Zv4 t=some (match ZBe t with |some x=>(ZJY x,true) |none=>([],false)):=by
 unfold Zv4;rw[ZCf hl,ZOa];cases hp:ZBe t with
 |none=>rfl
 |some x=>
  obtain⟨neg,D,P⟩:=x;obtain⟨h1,h2⟩:=ZAt hp;obtain⟨ht,b,r,hbr,hb45⟩:=ZGC hp;have hok:=Zz3 h2;have hsl:=ZGI t;dsimp only at h1 hb45⊢
  have hpc:=ZAL (ZDa t).2;rw[h2]at hpc;have hDP:D=(ZDa t).2.takeWhile n46∧P=((ZDa t).2.dropWhile n46).tail:=by
   cases hcc:(okD ((ZDa t).2.takeWhile n46) 15&&(((ZDa t).2.dropWhile n46).isEmpty||okD ((ZDa t).2.dropWhile n46).tail 9))with
   |false=>rw[hcc,cond_false]at hpc;cases hpc
   |true=>
    rw[hcc,cond_true]at hpc;simp only[Option.some.injEq,Prod.mk.injEq]at hpc;exact hpc
  unfold ZvU Zw6;rw[ZNN,cond_false,show (([43,45]:Str).all fun b=>decide (b.toNat < 128))=true from by decide,chk_true,show decide (([43,45]:Str).length < 4294967281)=true from by decide,chk_true,ZOa,ht,ZkE (by omega),ZOa];dsimp only;rw[←hDP.1,←hDP.2,show (([48]:Str).all fun b=>decide (b.toNat < 128))=true from by decide,chk_true,show decide (([48]:Str).length < 4294967281)=true from by decide,chk_true,ZOa,chk_true,chk_true,ZOa];have e1:Lib.trimLeftS D [48]=D.dropWhile is0:=by unfold Lib.trimLeftS;rw[Zz4];rfl
  have e2:Lib.trimRightS P [48]=rz P:=by unfold Lib.trimRightS rz rtr;rw[Zz4];rfl
  rw[e1,e2,ZG2,ZOa];show (bif (!(rz P == ([]:Str)))then _ else Zrd t (lz D))=_;have hd1:=hok.d1;have hd2:=hok.d2;have hp9:=hok.p;have hol:=ZEj hd1 hd2 hp9;have hzl:=ZHw hd1;have hrl:=ZDH is0 P;have fin:∀out:Str,out=ZGx D P→Zrd t out=some (ZJY (neg,D,P),true):=by
   rintro out rfl;unfold Zrd ZvQ ZvP ZJY;have e45:(((b.toNat:Nat):Int) == 45)=neg:=(ZKa b 45).trans hb45;rw[hbr,show idx (b::r) 0=some b from rfl,ZOa,e45];dsimp only;cases neg with
   |false=>rw[cond_false,cond_false,Bool.false_and,cond_false]
   |true=>
    rw[cond_true,ZNO];cases (!(ZGx D P == [48]))with
    |false=>rw[cond_false,cond_false]
    |true=>
     rw[cond_true,cond_true,decide_eq_true (by simp only[ZN2];unfold Zr;omega),chk_true];rfl
  cases hP:rz P with
  |nil=>
   rw[show (!(([]:Str) == ([]:Str)))=false from rfl,cond_false];exact fin (lz D) (by unfold ZGx;rw[hP];simp)
  |cons c s=>
   have hrl':(c::s).length≤9:=by rw[←hP];exact ZN9 hrl hp9
   rw[show (!((c::s) == ([]:Str)))=true by simp,cond_true,decide_eq_true (show ([46]:Str).length+(c::s).length≤Zr by simp only[ZN2];unfold Zr;omega),chk_true];show chk (decide ((lz D).length+(([46]:Str)++(c::s)).length≤Zr)) (Zrd t (lz D++(([46]:Str)++(c::s))))=_;rw[decide_eq_true (by rw[ZNX];simp only[ZN2];unfold Zr;omega),chk_true];exact fin _ (by unfold ZGx;rw[hP];rfl)
theorem ZG5 {x:Bool×Str×Str} (h:ZDZ x.2.1 x.2.2):(ZJY x).length≤26:=by
 have:=ZEj h.d1 h.d2 h.p;unfold ZJY;cases (x.1&& !(ZGx x.2.1 x.2.2 == [48]))with
 |true=>rw[cond_true];simp only[ZNY];omega
 |false=>rw[cond_false];omega
def ZCh (s:Str):Option Str:=(ZBe (ZDB s)).map ZJY
def ZMe (s:Str):Option Rat:=match ZCh s with
 |some t=>(ZBe t).map ZMn
 |none=>none
theorem ZET {s t:Str} (h:ZCh s=some t):t.length≤26:=by
 unfold ZCh at h;cases hp:ZBe (ZDB s)with
 |none=>rw[hp]at h;cases h
 |some x=>
  rw[hp]at h;simp only[Option.map_some,Option.some.injEq]at h;subst h;obtain⟨_,h2⟩:=ZAt hp;exact ZG5 (Zz3 (D:=x.2.1) (P:=x.2.2) h2)
theorem ZF3 {s:Str} (hl:s.length≤9223372036854775807):Ztj 4 s=some (match ZCh s with |some t=>(t,true) |none=>([],false)):=by
 have h:Ztj 4 s=(ZyD s).bind fun q=>(Zv4 q).bind fun(a,b)=>some (a,b):=by kernel_rfl
 have hl2:=ZFg s;rw[h,ZDC,ZOa,ZDQ (by omega),ZOa];unfold ZCh;cases ZBe (ZDB s)<;>rfl
theorem ZFd {s:Str} (hl:s.length≤9223372036854775807):Zxl 4 s=some (match ZMe s with |some q=>(fOf q,true) |none=>(zf,false)):=by
 have h:Zxl 4 s=(Ztj 4 s).bind fun(t,ok)=>bif (!ok)then some (zf,false)else (ZsK t).bind fun(a,b)=>some (a,b):=by kernel_rfl
 rw[h,ZF3 hl,ZOa];unfold ZMe;cases hc:ZCh s with
 |none=>rfl
 |some t=>
  have:=ZET hc;dsimp only;rw[ZNN,cond_false,ZCf (by omega),ZOa];cases ZBe t<;>rfl
def ZG3 (c:ZoP):Option Rat:=bif c.Null then none else ZMe c.Text
theorem ZBB {c:ZoP} (hl:c.Text.length≤9223372036854775807):ZzB c=some (match ZG3 c with |some q=>(fOf q,true) |none=>(bif c.Null then fOf 0 else zf,false)):=by
 unfold ZzB ZG3;cases c.Null with
 |true=>rw[cond_true,ZAX,ZOa];rfl
 |false=>
  rw[cond_false,ZFd hl,ZOa];cases ZMe c.Text<;>rfl
end Go.Proofs
namespace Go.Proofs
open Go Eng
def Zxk (name:Str):List Str:=ZxL (ZzJ (name++[32]) [])
def ZC6 (l:List ZoP):List Str:=(l.filter fun x=> !x.Null).map fun x=>x.Text
def ZuP (l:List ZoP):List Str:=ZxL (ZC6 l)
theorem ZD3 {name:Str} (h:name.length≤1000000):Zrp name=some (Zxk name):=by unfold Zrp;rw[ZwX,decide_eq_true (by omega)];rfl
theorem ZC2 {c:ZoL} (h:c.Cells.length≤1000000):ZsQ c=some (ZuP c.Cells):=by unfold ZsQ;rw[ZwX,decide_eq_true (by omega)];rfl
theorem ZBo:∀(s cur:List UInt8),(ZzJ s cur).length≤s.length
 | [],cur=>by simp[ZzJ]
 |b::s,cur=>by
  have h1:=ZBo s [];have h3:=ZBo s (cur++[xwC b]);unfold ZzJ;cases xwC b == 0 with
  |true=>
   rw[cond_true];cases cur.isEmpty with
   |true=>rw[cond_true];simp;omega
   |false=>rw[cond_false];simp;omega
  |false=>rw[cond_false];simp;omega
theorem ZB0 (l:List (List UInt8)):(ZxL l).length≤l.length:=by
 have h:∀l:List (List UInt8),(ZxQ l).length≤l.length:=by
  intro l
  induction l with
  |nil=>simp[ZxQ]
  |cons x r ih=>
   unfold ZxQ;cases r.contains x with
   |true=>rw[cond_true];simp;omega
   |false=>rw[cond_false];simp;omega
 unfold ZxL;rw[List.length_mergeSort];exact h l
theorem ZAl (name:Str):(Zxk name).length≤name.length+1:=by have h1:=ZB0 (ZzJ (name++[32]) []);have h2:=ZBo (name++[32]) [];simp only[ZNX,ZN2]at h2;exact ZN9 h1 h2
theorem Zzv (l:List ZoP):(ZuP l).length≤l.length:=by have h1:=ZB0 (ZC6 l);unfold ZC6 at h1;rw[ZN0]at h1;exact ZN9 h1 (ZNZ _ _)
theorem ZDm {a b:List Str} (ha:a.Nodup) (hb:b.Nodup):comm a b=comm b a:=by unfold comm;refine List.Perm.length_eq ((List.perm_ext_iff_of_nodup (ha.filter _) (hb.filter _)).2 fun x=> ?_);simp only[List.mem_filter,List.contains_iff_mem];exact And.comm
theorem ZFW (a:List Str):comm a a=a.length:=by unfold comm;rw[List.filter_eq_self.2];intro x hx;exact List.contains_iff_mem.2 hx
def ZxG (a b:List Str):Rat:=Rat.divInt (comm a b:Int) (max (a.length+b.length - comm a b) 1:Nat)
theorem ZEh {a b:List Str} (hb:Srt b) (hla:a.length≤1000000) (hlb:b.length≤1000000):Zt8 a b=some (fOf (ZxG a b)):=by
 have hc:=ZBL a b;unfold Zt8;rw[ZFq hb (by omega) (by omega),ZOa,ZoS (by omega),ZoS (by omega),chk_true,chk_true];have e:(if (1:Int) > (((a.length:Int)+(b.length:Int)) - (comm a b:Int))then (1:Int)else (((a.length:Int)+(b.length:Int)) - (comm a b:Int)))=((max (a.length+b.length - comm a b) 1:Nat):Int):=by
  rcases Nat.lt_or_ge (a.length+b.length - comm a b) 1 with h |h
  ·rw[if_pos (by omega),Nat.max_eq_right (by omega)];rfl
  ·rw[Nat.max_eq_left h];split<;>omega
 rw[e,ZAP _ _ (by omega) (by omega) (by omega) (by omega) (by omega),ZOa];rfl
theorem ZFT {a b c d:Int} (hb:0 < b) (hd:0 < d):Rat.divInt a b≤Rat.divInt c d↔a*d≤c*b:=by
 rw[Rat.divInt_eq_div,Rat.divInt_eq_div];have hB:(0:Rat) < (b:Rat):=by rw[show ((0:Rat))=(((0:Int)):Rat)from rfl];exact Rat.intCast_lt_intCast.2 hb
 have hD:(0:Rat) < (d:Rat):=by rw[show ((0:Rat))=(((0:Int)):Rat)from rfl];exact Rat.intCast_lt_intCast.2 hd
 have hBD:=Rat.mul_pos hB hD;have e1:(b:Rat)*((a:Rat) / (b:Rat))=a:=by grind
 have e2:(d:Rat)*((c:Rat) / (d:Rat))=c:=by grind
 have e3:a*d≤c*b↔(a:Rat)*(d:Rat)≤(c:Rat)*(b:Rat):=by rw[←Rat.intCast_mul,←Rat.intCast_mul,Rat.intCast_le_intCast]
 rw[e3];clear e3;generalize (a:Rat) / (b:Rat)=x at e1⊢
 generalize (c:Rat) / (d:Rat)=y at e2⊢
 generalize (a:Rat)=A at*
 generalize (b:Rat)=B at*
 generalize (c:Rat)=C at*
 generalize (d:Rat)=D at*
 subst e1 e2;have e:(y - x)*(B*D)=D*y*B - B*x*D:=by grind
 constructor
 ·intro h;have h1:0≤(y - x)*(B*D):=Rat.mul_nonneg (by grind) (by grind);rw[e]at h1;grind
 ·intro h;apply Rat.not_lt.1;intro hx;have h1:0 < (x - y)*(B*D):=Rat.mul_pos (by grind) hBD;have e':(x - y)*(B*D)=B*x*D - D*y*B:=by grind
  rw[e']at h1;grind
theorem ZAV {n d:Nat} (hd:0 < d) (h:n≤d):0≤Rat.divInt (n:Int) (d:Int)∧Rat.divInt (n:Int) (d:Int)≤1:=by
 have h1:Rat.divInt 1 1=1:=by decide+kernel
 exact⟨Rat.divInt_nonneg (by omega) (by omega),by rw[←h1];exact(ZFT (by omega) (by decide)).2 (by omega)⟩
theorem ZAK {a b:List Str} (hb:b.Nodup) (ha:a.Nodup):0≤ZxG a b∧ZxG a b≤1:=by have h1:=ZBL a b;have h2:=ZBL b a;rw[ZDm hb ha]at h2;exact ZAV (by omega) (by omega)
theorem ZBw {a b:List Str} (ha:a.Nodup) (hb:b.Nodup):ZxG a b=ZxG b a:=by unfold ZxG;rw[ZDm ha hb,Nat.add_comm]
theorem ZDc {a b:List Str} {k:Nat} (hk:a.length+b.length < 2 ^ k) (h1:1 < 2 ^ k):Sz k (ZxG a b):=by have:=ZBL a b;exact ZAE (by omega) (by omega) (by omega)
theorem ZBx {a:List Str}:ZxG a a=if a=[]then 0 else 1:=by
 unfold ZxG;rw[ZFW];cases a with
 |nil=>rw[if_pos rfl];decide+kernel
 |cons x r=>
  rw[if_neg (by simp)];have e:max ((x::r).length+(x::r).length - (x::r).length) 1=(x::r).length:=by simp
  rw[e,Rat.divInt_self' (by simp only[ZNY];omega)]
noncomputable def isN (c:ZoP):Bool:=(ZG3 c).isSome
noncomputable def ZA4 (l:List ZoP):Nat:=(l.filter fun x=> !x.Null).length
noncomputable def ZHt (l:List ZoP):Nat:=(l.filter fun x=> !x.Null&&isN x).length
noncomputable def ZwL (l:List ZoP):Rat:=Rat.divInt (ZHt l:Int) (max (ZA4 l) 1:Nat)
theorem ZCD (l:List ZoP):ZHt l≤ZA4 l:=by unfold ZHt ZA4;rw[show (fun x:ZoP=> !x.Null&&isN x)=fun x=>(isN x)&& !x.Null from funext fun x=>Bool.and_comm _ _,←List.filter_filter];exact ZNZ _ _
theorem ZCG (l:List ZoP):ZA4 l≤l.length:=ZNZ _ _
theorem ZEd {c:ZoL} (hc:∀x∈c.Cells,x.Text.length≤9223372036854775807) (hl:c.Cells.length≤1000):ZsX c=some (fOf (ZwL c.Cells)):=by
 unfold ZsX;rw[ZwX];refine Zq0 ?_;unfold Zxq;rw[ZoN];refine ZoW (ZwV Zze c.Cells (by omega) (fun i (s:Nat×Nat)=>((s.1:Int),(s.2:Int),c.Cells,(c.Cells.length:Int),i,false,false,([]:List Int),([]:List Int))) (fun k s=>s.1=ZA4 (c.Cells.take k)∧s.2=ZHt (c.Cells.take k))
  (Q:=fun x=>x=((ZA4 c.Cells:Int),(ZHt c.Cells:Int),false,false,([]:List Int),([]:List Int))) (0,0) ⟨by simp[ZA4],by simp[ZHt]⟩ ?_ ?_) ?_
 ·rintro rec k ⟨f,n⟩ hk ⟨hf,hn⟩ ih;dsimp only at hf hn ih;unfold Zva Zs8 Zsv;dsimp only;have hs:c.Cells.take (k+1)=c.Cells.take k++[c.Cells[k]]:=ZN6 hk;have b1:=ZCG (c.Cells.take k);have b2:=ZCD (c.Cells.take k);rw[List.length_take]at b1;have e1:ZA4 (c.Cells.take (k+1))=f+(bif c.Cells[k].Null then 0 else 1):=by rw[hs,hf];unfold ZA4;rw[List.filter_append,ZNX];cases h:c.Cells[k].Null<;>simp[List.filter_cons,h]
  have e2:ZHt (c.Cells.take (k+1))=n+(bif !c.Cells[k].Null&&isN c.Cells[k]then 1 else 0):=by rw[hs,hn];unfold ZHt;rw[List.filter_append,ZNX];cases h:(!c.Cells[k].Null&&isN c.Cells[k])<;>simp[List.filter_cons,h]
  rw[decide_eq_true (show (k:Int) < (c.Cells.length:Int) by omega),cond_true,ZsV hk,ZOa];cases hnul:c.Cells[k].Null with
  |true=>
   rw[hnul]at e1 e2;rw[cond_true,ZoO];exact⟨ZoS (by omega),ih (f,n) ⟨by rw[e1];rfl,by rw[e2];rfl⟩⟩
  |false=>
   rw[hnul]at e1 e2;rw[cond_false,ZoO];refine⟨ZoS (by omega), ?_⟩;cases hv:ZG3 c.Cells[k]with
   |some q=>
    have hi:isN c.Cells[k]=true:=by unfold isN;rw[hv];rfl
    rw[hi]at e2;rw[ZBB (hc _ (ZNW hk)),hv,ZOa];dsimp only;rw[cond_true,ZoO,ZoO];refine⟨ZoS (by omega),ZoS (by omega), ?_⟩;have:=ih (f+1,n+1) ⟨by rw[e1];rfl,by rw[e2];rfl⟩
    rwa [show ((f+1:Nat):Int)=(f:Int)+1 by omega,show ((n+1:Nat):Int)=(n:Int)+1 by omega]at this
   |none=>
    have hi:isN c.Cells[k]=false:=by unfold isN;rw[hv];rfl
    rw[hi]at e2;rw[ZBB (hc _ (ZNW hk)),hv,ZOa];dsimp only;rw[cond_false,ZoO];refine⟨ZoS (by omega), ?_⟩;have:=ih (f+1,n) ⟨by rw[e1];rfl,by rw[e2];rfl⟩
    rwa [show ((f+1:Nat):Int)=(f:Int)+1 by omega]at this
 ·rintro rec ⟨f,n⟩ ⟨hf,hn⟩;dsimp only at hf hn;unfold Zva Zs8;dsimp only;rw[decide_eq_false (show ¬(c.Cells.length:Int) < (c.Cells.length:Int) by omega),cond_false,ZoK,hf,hn,ZN5]
 ·rintro x rfl;have b1:=ZCG c.Cells;have b2:=ZCD c.Cells;dsimp only;unfold Zwf;have e:(if (1:Int) > (ZA4 c.Cells:Int)then (1:Int)else (ZA4 c.Cells:Int))=((max (ZA4 c.Cells) 1:Nat):Int):=by
   rcases Nat.lt_or_ge (ZA4 c.Cells) 1 with h |h
   ·rw[if_pos (by omega),Nat.max_eq_right (by omega)];rfl
   ·rw[Nat.max_eq_left h];split<;>omega
  rw[e,ZAP _ _ (by omega) (by omega) (by omega) (by omega) (by omega),ZOa,ZoK];rfl
theorem ZAG (l:List ZoP):0≤ZwL l∧ZwL l≤1:=by have:=ZCD l;exact ZAV (by omega) (by omega)
theorem ZAF {l:List ZoP} {k:Nat} (h:l.length < 2 ^ k) (h1:1 < 2 ^ k):Sz k (ZwL l):=by have b1:=ZCG l;have b2:=ZCD l;exact ZAE (by omega) (by omega) (by omega)
end Go.Proofs
namespace Go.Proofs
open Go Eng
theorem ZDd {a:Rat}:(ZCy a 0 == 0)=decide (a=0):=by
 unfold ZCy
 by_cases h:a < 0
 ·rw[if_pos h,decide_eq_false (by grind)];rfl
 ·rw[if_neg h]
  by_cases h2:0 < a
  ·rw[if_pos h2,decide_eq_false (by grind)];rfl
  ·rw[if_neg h2,decide_eq_true (by grind)];rfl
theorem ZDe (a b:Rat):(ZCy a b < 0)↔a < b:=by
 unfold ZCy
 by_cases h:a < b
 ·rw[if_pos h];exact⟨fun _=>h,fun _=>by decide⟩
 ·rw[if_neg h];refine⟨fun h2=> ?_,fun h2=>absurd h2 h⟩;split at h2<;>exact absurd h2 (by decide)
def ofQ (v n s t:Rat):Rat:=if v=0∧n=0 then 0 else (v+v+n+(1 - ZG9 (s - t))) / 4
noncomputable def ZBn (a b:ZoL):Rat:=ofQ (ZxG (ZuP a.Cells) (ZuP b.Cells)) (ZxG (Zxk a.Name) (Zxk b.Name)) (ZwL a.Cells) (ZwL b.Cells)
structure ZCT (a:ZoL):Prop where
 name:a.Name.length≤300
 rows:a.Cells.length≤100
 cells:∀x∈a.Cells,x.Text.length≤9223372036854775807
theorem ZzV (s:Str):Srt (Zxk s):=ZFn _
theorem Zzd (l:List ZoP):Srt (ZuP l):=ZFn _
theorem ZIf {a b:ZoL} (ha:a.Cells.length≤100) (hb:b.Cells.length≤100):Zu9 a b=some (fOf (ZxG (ZuP a.Cells) (ZuP b.Cells))):=by have h1:=Zzv a.Cells;have h2:=Zzv b.Cells;unfold Zu9;rw[ZC2 (by omega),ZOa,ZC2 (by omega),ZOa,ZEh (Zzd _) (by omega) (by omega),ZOa]
theorem ZGN {a b:Str} (ha:a.length≤300) (hb:b.length≤300):ZvV a b=some (fOf (ZxG (Zxk a) (Zxk b))):=by have h1:=ZAl a;have h2:=ZAl b;unfold ZvV;rw[ZD3 (by omega),ZOa,ZD3 (by omega),ZOa,ZEh (ZzV _) (by omega) (by omega),ZOa]
theorem ZFe {a b:ZoL} (ha:a.Cells.length≤100) (hb:b.Cells.length≤100):Sz 10 (ZxG (ZuP a.Cells) (ZuP b.Cells)):=by have h1:=Zzv a.Cells;have h2:=Zzv b.Cells;exact ZDc (by omega) (by decide)
theorem ZEl {a b:Str} (ha:a.length≤300) (hb:b.length≤300):Sz 10 (ZxG (Zxk a) (Zxk b)):=by have h1:=ZAl a;have h2:=ZAl b;exact ZDc (by omega) (by decide)
theorem ZB5:Sz 1 1:=by unfold Sz;decide
theorem ZIB:Zxs 1 1=some (fOf 1):=by
 have:=ZAP 1 1 (by decide) (by decide) (by decide) (by decide) (by decide)
 rwa [show Rat.divInt 1 1=1 by decide+kernel]at this
theorem ZIA:Zxs 4 1=some (fOf 4):=by
 have:=ZAP 4 1 (by decide) (by decide) (by decide) (by decide) (by decide)
 rwa [show Rat.divInt 4 1=4 by decide+kernel]at this
theorem ZFk:Sz 3 4:=by unfold Sz;decide
theorem ZGf {x:Rat} {k:Nat} (h:Sz k x) (hk:1≤k):Sz (k+2) (ZG9 x):=by
 unfold ZG9;split
 ·have:=ZAY.add h.neg;rw[show (0:Rat) - x=0+ -x by grind];exact this.mono (by omega)
 ·exact h.mono (by omega)
theorem ZKo {v n ap:Rat} (hv:Sz 10 v) (hn:Sz 10 n) (ha:Sz 30 ap):Zt9 false false (fOf v) (fOf n) (fOf ap) [] []=some (fOf ((v+v+n+(1 - ap)) / 4)):=by
 unfold Zt9;have h1:=hv.add hv;have h2:=h1.add hn;have h3:Sz 32 (1 - ap):=by rw[show (1:Rat) - ap=1+ -ap by grind];exact(ZB5.add ha.neg).mono (by decide)
 have h4:=h2.add h3;rw[ZAQ hv hv (by decide),ZOa,ZAQ h1 hn (by decide),ZOa,ZIB,ZOa,ZBC ZB5 ha (by decide),ZOa,ZAQ h2 h3 (by decide),ZOa,ZIA,ZOa,
  ZDh (by decide) h4 ZFk (by decide),ZOa]
theorem ZKp {a b:ZoL} (ha:ZCT a) (hb:ZCT b) {v n:Rat} (hv:Sz 10 v) (hn:Sz 10 n):
  ZsH false a b false false (fOf v) (fOf n) [] []=some (fOf ((v+v+n+(1 - ZG9 (ZwL a.Cells - ZwL b.Cells))) / 4)):=by
 unfold ZsH;have hr1:=ha.rows;have hr2:=hb.rows;have h1:Sz 10 (ZwL a.Cells):=ZAF (by omega) (by decide);have h2:Sz 10 (ZwL b.Cells):=ZAF (by omega) (by decide);have h3:Sz 21 (ZwL a.Cells - ZwL b.Cells):=by rw[Rat.sub_eq_add_neg];exact h1.add h2.neg
 rw[cond_false,ZEd ha.cells (by omega),ZOa,ZEd hb.cells (by omega),ZOa,ZBC h1 h2 (by decide),ZOa,ZBu (h3.wq (by decide)),ZOa];have h4:=ZGf h3 (by decide);unfold ZG9 at h4⊢
 by_cases h:ZwL a.Cells - ZwL b.Cells < 0
 ·rw[decide_eq_true ((ZDe _ _).2 h),cond_true,ZAX,ZOa,ZBC ZAY h3 (by decide),ZOa];rw[if_pos h]at h4⊢
  exact ZKo hv hn (h4.mono (by decide))
 ·rw[decide_eq_false (fun h5=>h ((ZDe _ _).1 h5)),cond_false];rw[if_neg h]at h4⊢
  exact ZKo hv hn (h4.mono (by decide))
theorem ZKX {a b:ZoL} (ha:ZCT a) (hb:ZCT b):Zxr a b=some (fOf (ZBn a b)):=by
 unfold Zxr ZBn ofQ;have hv:=ZFe ha.rows hb.rows;have hn:=ZEl ha.name hb.name;rw[ZIf ha.rows hb.rows,ZOa,ZGN ha.name hb.name,ZOa,ZBu (hv.wq (by decide)),ZOa,ZDd]
 by_cases h1:ZxG (ZuP a.Cells) (ZuP b.Cells)=0
 ·rw[decide_eq_true h1,cond_true,ZBu (hn.wq (by decide)),ZOa,ZDd]
  by_cases h2:ZxG (Zxk a.Name) (Zxk b.Name)=0
  ·rw[decide_eq_true h2,if_pos ⟨h1,h2⟩];unfold ZsH;rw[cond_true,ZAX,ZOa]
  ·rw[decide_eq_false h2,if_neg (fun h=>h2 h.2)];exact ZKp ha hb hv hn
 ·rw[decide_eq_false h1,cond_false,if_neg (fun h=>h1 h.1)];exact ZKp ha hb hv hn
theorem ZEL {v n s t:Rat} (hv:0≤v∧v≤1) (hn:0≤n∧n≤1) (hs:0≤s∧s≤1) (ht:0≤t∧t≤1):0≤ofQ v n s t∧ofQ v n s t≤1:=by
 unfold ofQ ZG9;split
 ·constructor<;>decide
 ·split<;>constructor<;>grind
theorem ZGM {v n s t:Rat}:ofQ v n s t=ofQ v n t s:=by
 unfold ofQ ZG9;split
 ·rfl
 ·congr 3;split<;>split<;>grind
theorem ZFY (a b:ZoL):ZBn a b=ZBn b a:=by unfold ZBn;rw[ZBw (Zzd a.Cells).2 (Zzd b.Cells).2,ZBw (ZzV a.Name).2 (ZzV b.Name).2,ZGM]
theorem ZBM (a b:ZoL):0≤ZBn a b∧ZBn a b≤1:=
 ZEL (ZAK (Zzd _).2 (Zzd _).2) (ZAK (ZzV _).2 (ZzV _).2) (ZAG _) (ZAG _)
theorem ZDn (a:ZoL):ZBn a a=if Zxk a.Name=[]then (if ZuP a.Cells=[]then 0 else 3 / 4)else (if ZuP a.Cells=[]then 1 / 2 else 1):=by
 unfold ZBn;rw[ZBx,ZBx];unfold ofQ ZG9;have e:ZwL a.Cells - ZwL a.Cells=0:=by grind
 rw[e]
 by_cases h1:Zxk a.Name=[]<;>by_cases h2:ZuP a.Cells=[]<;>simp only[h1,h2,if_true,if_false]<;>decide+kernel
theorem ZIY {a b:ZoL} (ha:ZCT a) (hb:ZCT b):Sz 100 (ZBn a b):=by
 unfold ZBn ofQ;have hr1:=ha.rows;have hr2:=hb.rows;have hv:=ZFe ha.rows hb.rows;have hn:=ZEl ha.name hb.name;have h1:Sz 10 (ZwL a.Cells):=ZAF (by omega) (by decide);have h2:Sz 10 (ZwL b.Cells):=ZAF (by omega) (by decide);have h3:Sz 21 (ZwL a.Cells - ZwL b.Cells):=by rw[Rat.sub_eq_add_neg];exact h1.add h2.neg
 have h4:=ZGf h3 (by decide);split
 ·exact ZAY.mono (by decide)
 ·have h5:Sz 32 (1 - ZG9 (ZwL a.Cells - ZwL b.Cells)):=by rw[Rat.sub_eq_add_neg];exact(ZB5.add h4.neg).mono (by decide)
  exact(Sz.div (by decide) (((hv.add hv).add hn).add h5) ZFk).mono (by decide)
end Go.Proofs
namespace Go.Proofs
open Go Eng
theorem ZGy {l r:List Str} (h1:r.Pairwise (fun a b=>a≤b)) (h2:r.Nodup) (h:∀x,x∈l↔x∈r):ZxL l=r:=
 Zzz (ZAj l) h1 (ZxR l) h2 fun x=>by rw[ZyA,h]
theorem ZFJ:ZpG 1=some (fOf 1):=ZEn 1 (by decide) (by decide)
end Go.Proofs
namespace Go.Proofs
open Go Eng
theorem ZBq {d:ZoJ} (hd:Zxj d) {l:List Str} (h0:1≤l.length) (h1:l.length≤1000):wp (Zpc d l) (fun r=>r.1∈l∧Zxj r.2):=by
 unfold Zpc;rw[ZoN];refine ZoW (Zz7 hd (by omega)) fun⟨q,d1⟩ ⟨hq,hd1⟩=> ?_
 dsimp only at hq hd1⊢
 rw[ZoN,ZBp];refine⟨hq.1,by omega, ?_⟩;rw[ZoK];exact⟨ZNW _,hd1⟩
def ZyV:List Str:=[[97],[98],[99],[49],[50],[51],[49,48],[120],[45,49,46,53],[100],[],[49,46,50,46,51],[49,46,53,48]]++((List.range 12).map fun i:Nat=>Lib.itoa ((i:Int) - 3))++((List.range 14).map fun i:Nat=>([107]:Str)++Lib.itoa (i:Int))++
 [[105,100],[110,97,109,101],[85,110,105,116,32,80,114,105,99,101],[99,105,116,121],[117,110,105,116],[112,114,105,99,101],[105,100,50],[116],[111,114,100,101,114,115],[115,97,109,101]]
theorem ZDP:(ZyV.all fun s=>ZBX s&&decide (s.length≤10))=true:=by kernel_rfl
theorem ZFV {s:Str} (h:s∈ZyV):ZBX s=true∧s.length≤10:=by have:=ZNQ.1 ZDP s h;simpa using this
def ZBZ (c:ZoP):Prop:=c.Text∈ZyV∧(c.Null=true→c.Text=[])
theorem ZCi:ZBZ ⟨true,[]⟩:=⟨by decide+kernel,fun _=>rfl⟩
theorem Zzt {s:Str} (h:s∈ZyV):ZBZ ⟨false,s⟩:=⟨h,fun h=>by cases h⟩
theorem ZFl {l:List Str} (h:l.all (fun s=>ZyV.contains s)=true) {s:Str} (hs:s∈l):s∈ZyV:=by simpa using ZNQ.1 h s hs
def ZMB (n:Nat) (c:ZoL):Prop:=c.Name∈ZyV∧c.Cells.length=n∧∀x∈c.Cells,ZBZ x
theorem ZKC {n:Int} (h: -3≤n∧n≤8):Lib.itoa n∈ZyV:=by
 have h1:((List.range 12).all fun i:Nat=>ZyV.contains (Lib.itoa ((i:Int) - 3)))=true:=by kernel_rfl
 have:=ZNQ.1 h1 (n+3).toNat (List.mem_range.2 (by omega));rw[show (((n+3).toNat:Nat):Int) - 3=n by omega]at this;simpa using this
theorem k_d {n:Int} (h:0≤n∧n < 14):([107]:Str)++Lib.itoa n∈ZyV:=by
 have h1:((List.range 14).all fun i:Nat=>ZyV.contains (([107]:Str)++Lib.itoa (i:Int)))=true:=by kernel_rfl
 have:=ZNQ.1 h1 n.toNat (List.mem_range.2 (by omega));rw[show ((n.toNat:Nat):Int)=n by omega]at this;simpa using this
theorem ZI0 {d:ZoJ} (hd:Zxj d):wp (Zst d) (fun r=>ZBZ r.1∧Zxj r.2):=by
 unfold Zst;rw[ZoN];refine ZoW (Zz7 hd (by omega)) fun⟨q,d1⟩ ⟨hq,hd1⟩=> ?_
 dsimp only at hq hd1⊢
 rw[Zo1];refine⟨fun _=> ?_,fun _=> ?_⟩
 ·rw[ZoK];exact⟨ZCi,hd1⟩
 ·rw[ZoN];refine ZoW (ZBq hd1 (by decide) (by decide)) fun⟨s,d2⟩ ⟨hs,hd2⟩=> ?_
  dsimp only at hs hd2⊢
  rw[ZoK];exact⟨Zzt (ZFl (by decide+kernel) hs),hd2⟩
theorem ZFD {d:ZoJ} (hd:Zxj d):wp (Zrl d) (fun r=>ZBZ r.1∧Zxj r.2):=by
 unfold Zrl;rw[ZoN];refine ZoW (Zz7 hd (by omega)) fun⟨q,d1⟩ ⟨hq,hd1⟩=> ?_
 dsimp only at hq hd1⊢
 rw[Zo1];refine⟨fun _=> ?_,fun _=> ?_⟩
 ·rw[ZoK];exact⟨ZCi,hd1⟩
 rw[Zo1];refine⟨fun _=> ?_,fun _=> ?_⟩
 ·rw[ZoN];refine ZoW (ZBq hd1 (by decide) (by decide)) fun⟨s,d2⟩ ⟨hs,hd2⟩=> ?_
  dsimp only at hs hd2⊢
  rw[ZoK];exact⟨Zzt (ZFl (by decide+kernel) hs),hd2⟩
 ·rw[ZoN];refine ZoW (Zz7 hd1 (by omega)) fun⟨q,d2⟩ ⟨hq,hd2⟩=> ?_
  dsimp only at hq hd2⊢
  unfold Zvu;rw[ZoO,ZoN,ZoK,ZoK];exact⟨ZoS (by omega),Zzt (ZKC (by omega)),hd2⟩
theorem ZEP {n:Int} (h:0≤n∧n < 14):(Lib.itoa n).length≤2:=by
 have h1:((List.range 14).all fun i:Nat=>decide ((Lib.itoa (i:Int)).length≤2))=true:=by kernel_rfl
 have:=of_decide_eq_true (ZNQ.1 h1 n.toNat (List.mem_range.2 (by omega)))
 rwa [show ((n.toNat:Nat):Int)=n by omega]at this
theorem ZFX {d:ZoJ} (hd:Zxj d) (rows:Nat) (hr:rows≤14):
  wp (Zrm d (rows:Int)) (fun r=>ZMB rows r.1∧Zxj r.2):=by
 unfold Zrm;rw[ZoN];refine ZoW (ZBq hd (by decide) (by decide)) fun⟨nm,d1⟩ ⟨hnm0,hd1⟩=> ?_
 dsimp only at hd1 hnm0⊢
 have hnm:nm∈ZyV:=ZFl (by decide+kernel) hnm0;rw[ZoN];refine ZoW (Zz7 hd1 (by omega)) fun⟨kind,d2⟩ ⟨_,hd2⟩=> ?_
 dsimp only at hd2⊢
 rw[ZoN];refine ZoW (Zsz Zyd rows (by omega) (fun i (t:ZoJ×List ZoP)=>(kind,(rows:Int),i,t.1,([]:Str),nm,([]:List ZoP),t.2))
  (fun k t=>Zxj t.1∧t.2.length=k∧∀c∈t.2,ZBZ c) (Q:=fun x=>x.2.2.1=nm∧Zxj x.1∧x.2.2.2.2.length=rows∧∀c∈x.2.2.2.2,ZBZ c) (d2,[]) ⟨hd2,rfl,fun c hc=>absurd hc (by simp)⟩ ?_ ?_) ?_
 ·rintro rec k ⟨d,cs⟩ hk ⟨hd,hlen,hcs⟩ ih;dsimp only at hd hlen hcs ih;have next:∀(x:ZoP) (d':ZoJ),ZBZ x→Zxj d'→wp (Zpu (fun kind t15 i d t4 c t4_1 c_1=>rec (kind,t15,i,d,t4,c,t4_1,c_1)) kind (rows:Int) (k:Int) d' [] nm x [] cs) (fun x=>x.2.2.1=nm∧Zxj x.1∧x.2.2.2.2.length=rows∧∀c∈x.2.2.2.2,ZBZ c):=by
   intro x d' hx hd';unfold Zpu;rw[ZoO,ZoO];refine⟨Zu2 (by rw[ZN2];omega),ZoS (by omega),ih (d',cs++[x]) ⟨hd',by dsimp only;rw[ZNX,ZN2];omega,fun c hc=> ?_⟩⟩;rcases List.mem_append.1 hc with hc |hc
   ·exact hcs c hc
   ·obtain rfl:=List.mem_singleton.1 hc;exact hx
  unfold Zs7 Zq9;dsimp only;rw[decide_eq_true (show (k:Int) < (rows:Int) by omega),cond_true,ZoN];refine ZoW (ZI0 hd) fun⟨x,d3⟩ ⟨hx,hd3⟩=> ?_
  dsimp only at hx hd3⊢
  rw[Zo1];refine⟨fun _=> ?_,fun _=> ?_⟩
  ·rw[ZoN];exact ZoW (ZFD hd3) fun⟨y,d4⟩ ⟨hy,hd4⟩=>next y d4 hy hd4
  rw[Zo1];refine⟨fun _=> ?_,fun _=> ?_⟩
  ·unfold Zvu;have:=ZEP (n:=(k:Int)) (by omega);rw[ZoN,ZoK,ZoO];exact⟨decide_eq_true (by rw[ZN2];unfold Zr;omega),next _ d3 (Zzt (k_d (by omega))) hd3⟩
  rw[Zo1];refine⟨fun _=> ?_,fun _=> ?_⟩
  ·rw[ZoN];exact ZoW (ZBq hd3 (by decide) (by decide)) fun⟨s,d4⟩ ⟨hs,hd4⟩=>next _ d4 (Zzt (ZFl (by decide+kernel) hs)) hd4
  ·exact next x d3 hx hd3
 ·rintro rec ⟨d,cs⟩ ⟨hd,hlen,hcs⟩;unfold Zs7 Zq9;dsimp only at hd hlen hcs⊢
  rw[decide_eq_false (show ¬(rows:Int) < (rows:Int) by omega),cond_false,ZoK];exact⟨rfl,hd,hlen,hcs⟩
 ·rintro⟨d,_,nm',_,cs⟩ ⟨h0,h1,h2,h3⟩;unfold ZtY;dsimp only at h0 h1 h2 h3⊢
  subst h0;rw[ZoK];exact⟨⟨hnm,h2,h3⟩,h1⟩
end Go.Proofs
namespace Go.Proofs
open Go Eng
structure ZMr (t:ZoG):Prop where
 id:0≤t.ID∧t.ID≤1000
 name:t.Name∈ZyV
 cols:t.Columns.length≤3
 rows:∃n:Nat,n≤6∧∀c∈t.Columns,ZMB n c
theorem ZG4 {x:ZoP} (h:ZBZ x):ZDp x=true:=by
 unfold ZDp;rw[(ZFV h.1).1,ZNO];cases hn:x.Null with
 |false=>rfl
 |true=>rw[h.2 hn];rfl
theorem ZIl {t:ZoG} (h:ZMr t):ZC8 t=true:=by
 obtain⟨n,hn,hc⟩:=h.rows;have hcols:=h.cols;have hid:=h.id;unfold ZC8;have hr:t.Columns≠[]→ZrB t=(n:Int):=fun h0=>by
  unfold ZrB;cases hcs:t.Columns with
  |nil=>exact absurd hcs h0
  |cons c l=>rw[←(hc c (by rw[hcs];simp)).2.1]
 have hr2:0≤ZrB t∧ZrB t≤6:=by
  by_cases h0:t.Columns=[]
  ·unfold ZrB;rw[h0];decide
  ·rw[hr h0];omega
 rw[decide_eq_true hid.1,decide_eq_true (show t.ID≤1073741824 by omega),(ZFV h.name).1,decide_eq_true (show (t.Columns.length:Int)≤64 by omega),decide_eq_true (show ZrB t≤4096 by omega)];simp only[ZNO,ZNQ];intro c hcm;have h1:=hc c hcm;unfold ZHC;rw[(ZFV h1.1).1,hr (List.ne_nil_of_mem hcm),h1.2.1,ZNO,beq_self_eq_true,ZNO,ZNQ];exact fun x hx=>ZG4 (h1.2.2 x hx)
theorem ZEa {d:ZoJ} (hd:Zxj d) {id:Int} (hid:0≤id∧id≤1000):wp (ZqE d id) (fun r=>(ZMr r.1∧r.1.ID=id)∧Zxj r.2):=by
 unfold ZqE;rw[ZoN];refine ZoW (ZBq hd (by decide) (by decide)) ?_;rintro⟨nm,d1⟩ ⟨hnm0,hd1⟩;dsimp only at hnm0 hd1⊢
 have hnm:nm∈ZyV:=ZFl (by decide+kernel) hnm0;rw[ZoN];refine ZoW (Zz7 hd1 (n:=7) (by omega)) ?_;rintro⟨q,d2⟩ ⟨hq,hd2⟩;dsimp only at hq hd2⊢
 obtain⟨n,rfl⟩:∃n:Nat,q=(n:Int):=⟨q.toNat,by omega⟩;rw[ZoN];refine ZoW (Zz7 hd2 (n:=3) (by omega)) ?_;rintro⟨q,d3⟩ ⟨hq3,hd3⟩;dsimp only at hq3 hd3⊢
 obtain⟨m,hm⟩:∃m:Nat,1+q=(m:Int):=⟨(1+q).toNat,by omega⟩;rw[hm,ZoO,ZoN];refine⟨ZoS (by omega),ZoW (ZzU Zyu (fun s:Nat×ZoJ×List ZoL=>((n:Int),(s.1:Int),s.2.1,(0:Int),([]:Str),id,nm,([]:List ZoL),s.2.2))
  (fun s=>Zxj s.2.1∧s.2.2.length+s.1=m∧∀c∈s.2.2,ZMB n c) (fun s=>s.1)
  (Q:=fun x=>∃d cs,x=(d,(0:Int),([]:Str),id,nm,([]:List ZoL),cs)∧Zxj d∧cs.length≤3∧∀c∈cs,ZMB n c) (m,d3,[]) ⟨hd3,by simp,fun c hc=>absurd hc (by simp)⟩ (by dsimp only;omega) ?_) ?_⟩
 ·rintro rec ⟨k,d,cs⟩ ⟨h1,h2,h3⟩ ih;dsimp only at h1 h2 h3 ih;unfold Zwc Ztw;dsimp only
  by_cases hk:0 < k
  ·rw[decide_eq_true (show (k:Int) > 0 by omega),cond_true,ZoN];refine ZoW (ZFX h1 n (by omega)) ?_;rintro⟨c,d'⟩ ⟨hc,hd'⟩;dsimp only at hc hd'⊢
   rw[ZoO,ZoO,show (k:Int) - 1=((k - 1:Nat):Int) by omega];refine⟨Zu2 (by rw[ZN2];omega),ZoS (by omega),ih (k - 1,d',cs++[c]) ⟨hd',by dsimp only;rw[ZNX,ZN2];omega,fun x hx=> ?_⟩ (by dsimp only;omega)⟩;rcases List.mem_append.1 hx with hx |hx
   ·exact h3 x hx
   ·rw[List.mem_singleton.1 hx];exact hc
  ·rw[decide_eq_false (show ¬(k:Int) > 0 by omega),cond_false,ZoK];exact⟨d,cs,rfl,h1,by omega,h3⟩
 ·rintro _ ⟨d,cs,rfl,h1,h2,h3⟩;unfold Zuy Zsl;dsimp only;rw[ZoN];refine ZoW (Zz7 h1 (n:=15) (by omega)) ?_;rintro⟨q,d'⟩ ⟨_,hd'⟩;dsimp only at hd'⊢
  rw[Zo1];refine⟨fun _=> ?_,fun _=> ?_⟩
  ·rw[ZoK];exact⟨⟨⟨hid,hnm,by simp,0,by omega,fun c hc=>absurd hc (by simp)⟩,rfl⟩,hd'⟩
  ·rw[ZoK];exact⟨⟨⟨hid,hnm,h2,n,by omega,h3⟩,rfl⟩,hd'⟩
end Go.Proofs
namespace Go.Proofs
open Go Eng
abbrev fkT:Ty:= .st 7
abbrev fvT:Ty:= .st 4
abbrev ZEv:=List (ZoR×ZoF)
abbrev lkF (m:ZEv) (x:ZoR):Option ZoF:=Zhx (q:=ZBW) (k:=fkT) (v:=fvT) (car:=Zvz) m x
abbrev stF (m:ZEv) (x:ZoR) (y:ZoF):ZEv:=setB (q:=ZBW) (k:=fkT) (v:=fvT) (car:=Zvz) m x y
theorem ZIJ (m:ZEv) (x y:ZoR) (v:ZoF):lkF (stF m x v) y=if y=x then some v else lkF m y:=by
 have hk:∀a b:ZoR,Zl3 (car:=Zvz) ZBW fkT a b=decide (a=b):=by
  intro a b;obtain⟨a0,a1⟩:=a;obtain⟨b0,b1⟩:=b;show (a0 == b0&&a1 == b1)=_
  by_cases h0:a0=b0<;>by_cases h1:a1=b1<;>simp[h0,h1]
 have look:∀m:ZEv,lkF m y=(m.find? fun e=>decide (y=e.1)).map (·.2):=fun m=>by show ((m.find? fun e=>Zl3 (car:=Zvz) ZBW fkT y e.1)).map (·.2)=_;simp only[hk]
 rw[look,look];have hs:stF m x v=if m.any (fun e=>decide (x=e.1))then m.map (fun e=>if x=e.1 then (e.1,v)else e)else m++[(x,v)]:=by show (if m.any (fun e=>Zl3 (car:=Zvz) ZBW fkT x e.1)then m.map (fun e=>if Zl3 (car:=Zvz) ZBW fkT x e.1 then (e.1,v)else e)else m++[(x,v)])=_;simp only[hk,decide_eq_true_eq]
 rw[hs];split
 ·rename_i h
  induction m with
  |nil=>simp at h
  |cons e r ih=>
   simp only[List.map_cons,List.find?_cons]
   by_cases h1:x=e.1
   ·simp only[if_pos h1]
    by_cases h2:y=e.1
    ·simp[h2,h1]
    ·have h3:¬y=x:=fun h=>h2 (h.trans h1)
     simp only[decide_eq_false h2,if_neg h3];clear ih h hs look
     induction r with
     |nil=>rfl
     |cons e' r ih=>
      simp only[List.map_cons,List.find?_cons]
      by_cases h4:x=e'.1
      ·have h5:¬y=e'.1:=fun h=>h3 (h.trans h4.symm)
       simp only[if_pos h4,decide_eq_false h5];exact ih
      ·simp only[if_neg h4]
       by_cases h5:y=e'.1
       ·simp[h5]
       ·simp only[decide_eq_false h5];exact ih
   ·simp only[if_neg h1]
    by_cases h2:y=e.1
    ·have h3:¬y=x:=fun h=>h1 (h.symm.trans h2)
     simp[h2,Ne.symm h1]
    ·simp only[decide_eq_false h2];have h':(r.any fun e=>decide (x=e.1))=true:=by simpa[h1]using h
     exact ih (by
      show (if r.any (fun e=>Zl3 (car:=Zvz) ZBW fkT x e.1)then r.map (fun e=>if Zl3 (car:=Zvz) ZBW fkT x e.1 then (e.1,v)else e)else r++[(x,v)])=_;simp only[hk,decide_eq_true_eq]) h'
 ·rename_i h;simp only[List.any_eq_true,decide_eq_true_eq,not_exists,not_and]at h;rw[List.find?_append]
  by_cases h2:y=x
  ·subst h2;have:(m.find? fun e=>decide (y=e.1))=none:=List.find?_eq_none.2 fun e he=>by simpa using h e he
   simp[this]
  ·simp[h2]
def ZEt (u k:Nat):Bool:=(u >>> k)&&& 1 == 1
def ZBS (u k:Nat):Nat:=u|||(1 <<< k)
theorem ZCL:∀u:Fin 256,∀k:Fin 8,(andK .i64 (shrK .i64 (u.val:Int) (k.val:Int)) 1 == 1)=ZEt u.val k.val∧orK .i64 (u.val:Int) (shlK .i64 1 (k.val:Int))=(ZBS u.val k.val:Nat)∧ZBS u.val k.val < 256:=by decide+kernel
theorem ZI2 {u k:Nat} (hu:u < 256) (hk:k < 8):(andK .i64 (shrK .i64 (u:Int) (k:Int)) 1 == 1)=ZEt u k:=(ZCL ⟨u,hu⟩ ⟨k,hk⟩).1
theorem ZFr {u k:Nat} (hu:u < 256) (hk:k < 8):orK .i64 (u:Int) (shlK .i64 1 (k:Int))=(ZBS u k:Nat):=(ZCL ⟨u,hu⟩ ⟨k,hk⟩).2.1
theorem ZDG {u k:Nat} (hu:u < 256) (hk:k < 8):ZBS u k < 256:=(ZCL ⟨u,hu⟩ ⟨k,hk⟩).2.2
def ZAD (F:Nat→Rat) (u k:Nat) (x:Rat):Option Rat:=if ZEt u k then none else if x=0 then none else some (x+F (ZBS u k))
def goW (F:Nat→Rat) (u:Nat):Nat→List Rat→Rat→Rat
 |_,[],b=>b
 |k,x::r,b=>goW F u (k+1) r (match ZAD F u k x with |some y=>if b < y then y else b |none=>b)
def Zrb:List (List Rat)→Nat→Rat
 | [],_=>0
 |r::rest,u=>goW (Zrb rest) u 0 r (Zrb rest u)
def ZAp (w:List (List Rat)) (m:ZEv):Prop:=∀(i u:Nat) v,lkF m ⟨(i:Int),(u:Int)⟩=some v→v=fOf (Zrb (w.drop i) u)
theorem ZFN (w:List (List Rat)):ZAp w []:=fun i u v h=>by cases h
theorem ZAp.set {w:List (List Rat)} {m:ZEv} (h:ZAp w m) (i u:Nat):ZAp w (stF m ⟨(i:Int),(u:Int)⟩ (fOf (Zrb (w.drop i) u))):=by
 intro i' u' v hv;rw[ZIJ]at hv;split at hv
 ·rename_i he;simp only[ZoR.mk.injEq]at he;have h1:i'=i:=by omega
  have h2:u'=u:=by omega
  subst h1 h2;exact(Option.some.inj hv).symm
 ·exact h i' u' v hv
def Zqo (w:List (List Rat)):List (List ZoF):=w.map fun r=>r.map fOf
structure WOk (s:Nat) (w:List (List Rat)):Prop where
 rows:w.length≤8
 cols:∀r∈w,r.length≤8
 sz:∀r∈w,∀x∈r,Sz s x
 lim:s≤600
theorem ZHy {F:Nat→Rat} {s B u:Nat} (hF:∀u,Sz B (F u)):∀(r:List Rat) (k:Nat) (b:Rat),(∀x∈r,Sz s x)→Sz (s+B+1) b→Sz (s+B+1) (goW F u k r b)
 | [],k,b,_,hb=>hb
 |x::r,k,b,hr,hb=>by
  refine ZHy hF r (k+1) _ (fun y hy=>hr y (by simp[hy])) ?_;unfold ZAD;split
  ·rename_i y hy;split
   ·split at hy
    ·cases hy
    ·split at hy
     ·cases hy
     ·cases hy;exact(hr x (by simp)).add (hF _)
   ·exact hb
  ·exact hb
theorem ZBm {s:Nat}:∀(w:List (List Rat)) (u:Nat),(∀r∈w,∀x∈r,Sz s x)→Sz ((s+1)*w.length+1) (Zrb w u)
 | [],u,_=>by simpa[Zrb]using ZAY
 |r::rest,u,h=>by
  have ih:=fun u=>ZBm rest u (fun r hr=>h r (by simp[hr]))
  have:(s+1)*(r::rest).length+1=s+((s+1)*rest.length+1)+1:=by rw[ZNY,Nat.mul_succ];omega
  rw[this];exact ZHy ih r 0 _ (h r (by simp)) ((ih u).mono (by omega))
theorem ZAT {s:Nat} {w:List (List Rat)} (h:WOk s w) (i u:Nat):Sz 7000 (Zrb (w.drop i) u):=by
 refine(ZBm (w.drop i) u fun r hr=>h.sz r (List.mem_of_mem_drop hr)).mono ?_;have h1:(w.drop i).length≤8:=by rw[List.length_drop];have:=h.rows;omega
 have h2:=h.lim;have:(s+1)*(w.drop i).length≤601*8:=Nat.mul_le_mul (by omega) h1;omega
end Go.Proofs
namespace Go.Proofs
open Go Eng
theorem ZEG {a:Rat}:(ZCy a 0 == 0)=decide (a=0):=by
 unfold ZCy
 by_cases h:a < 0
 ·rw[if_pos h,decide_eq_false (by grind)];rfl
 ·rw[if_neg h]
  by_cases h2:0 < a
  ·rw[if_pos h2,decide_eq_false (by grind)];rfl
  ·rw[if_neg h2,decide_eq_true (by grind)];rfl
theorem ZB8 (a b:Rat):decide (ZCy a b > 0)=decide (b < a):=by
 unfold ZCy
 by_cases h:a < b
 ·rw[if_pos h,decide_eq_false (by decide),decide_eq_false (by grind)]
 ·rw[if_neg h]
  by_cases h2:b < a
  ·rw[if_pos h2,decide_eq_true (by decide),decide_eq_true h2]
  ·rw[if_neg h2,decide_eq_false (by decide),decide_eq_false h2]
abbrev RF:=List (List ZoF)→Int→Int→ZEv→Option (ZoF×ZEv)
def ZMC (w:List (List Rat)) (rf:RF) (i:Nat):Prop:=∀(u:Nat) (m:ZEv),u < 256→ZAp w m→∃m',rf (Zqo w) (i:Int) (u:Int) m=some (fOf (Zrb (w.drop i) u),m')∧ZAp w m'
theorem ZAI {w:List (List Rat)} {i:Nat} (h:i < w.length):idx (Zqo w) (i:Int)=some (w[i].map fOf):=by rw[ZsV (by simpa[Zqo]using h)];simp[Zqo]
theorem ZFw {r:List Rat} {k:Nat} (h:k < r.length):idx (r.map fOf) (k:Int)=some (fOf r[k]):=by rw[ZsV (by simpa using h)];simp
theorem ZFc {w:List (List Rat)} {s:Nat} (hw:WOk s w) {rf:RF} {i:Nat} (hi:i < w.length) (hrf:ZMC w rf (i+1)) {u k:Nat} (hu:u < 256) (hk:k < w[i].length) {m:ZEv} (hm:ZAp w m):
  ∃x ok m',Zqb rf (Zqo w) (i:Int) (u:Int) (k:Int) m=some (x,ok,m')∧ZAp w m'∧
   (ZAD (Zrb (w.drop (i+1))) u k w[i][k]=none∧ok=false∨∃y,ZAD (Zrb (w.drop (i+1))) u k w[i][k]=some y∧ok=true∧x=fOf y):=by
 have hr:=hw.cols _ (ZNW hi);have hk8:k < 8:=by omega
 have hi8:=hw.rows;have hsz:=hw.sz _ (ZNW hi) _ (ZNW hk);have hlim:=hw.lim;have hj1:∀b1 b2 l1 l2,ZpM rf (Zqo w) (i:Int) (u:Int) (k:Int) true m b1 b2 l1 l2=some (fOf 0,false,m):=by intro b1 b2 l1 l2;unfold ZpM;rw[ZAX];rfl
 unfold Zqb;rw[show decide (0≤(k:Int))=true from decide_eq_true (by omega),ZI2 hu hk8];show ∃x ok m',(bif ZEt u k then _ else _)=_∧_;cases hb:ZEt u k with
 |true=>
  refine⟨_,_,_,hj1 false false [] [],hm,.inl ⟨?_,rfl⟩⟩;unfold ZAD;rw[if_pos hb]
 |false=>
  simp only[cond_false];rw[ZAI hi,ZOa,ZFw hk,ZOa,ZBu (hsz.wq (by omega)),ZOa,ZEG]
  by_cases hz:w[i][k]=0
  ·rw[decide_eq_true hz];refine⟨_,_,_,hj1 false false [] [],hm,.inl ⟨?_,rfl⟩⟩;unfold ZAD;rw[if_neg (by simp[hb]),if_pos hz]
  ·rw[decide_eq_false hz];obtain⟨m',hr1,hm'⟩:=hrf (ZBS u k) m (ZDG hu hk8) hm;unfold ZpM;simp only[cond_false];have hin:inK .i64 ((i:Int)+1)=true:=ZoS (by omega);rw[ZAI hi,ZOa,ZFw hk,ZOa,hin,show decide (0≤(k:Int))=true from decide_eq_true (by omega),ZFr hu hk8];show ∃x ok m',((rf (Zqo w) ((i:Int)+1) (ZBS u k:Nat) m).bind _)=_∧_;rw[show ((i:Int)+1)=((i+1:Nat):Int) by omega,hr1,ZOa];dsimp only;rw[ZAQ hsz (ZAT hw (i+1) (ZBS u k)) (by omega),ZOa];refine⟨_,_,_,rfl,hm',.inr ⟨_, ?_,rfl,rfl⟩⟩;unfold ZAD;rw[if_neg (by simp[hb]),if_neg hz]
theorem ZGX {w:List (List Rat)} {s:Nat} (hw:WOk s w) {rf:RF} {i:Nat} (hi:i < w.length) (hrf:ZMC w rf (i+1)) {u:Nat} (hu:u < 256) (t6 t6_1:Bool) (key:ZoR) (l1 l2:List Int):
  ∀(d k n:Nat) (m:ZEv) (b:Rat),k+d=w[i].length→d < n→ZAp w m→Sz (s+((s+1)*(w.drop (i+1)).length+1)+1) b→
   ∃m',ZoZ rf n (Zqo w) (i:Int) (u:Int) (w[i].length:Int) (k:Int) m t6 t6_1 key (fOf b) l1 l2=
    some (Zqo w,m',t6,t6_1,key,fOf (goW (Zrb (w.drop (i+1))) u k (w[i].drop k) b),l1,l2)∧ZAp w m':=by
 have hB:s+((s+1)*(w.drop (i+1)).length+1)+1≤8000:=by
  have h1:(w.drop (i+1)).length≤8:=by rw[List.length_drop];have:=hw.rows;omega
  have h2:=hw.lim;have:(s+1)*(w.drop (i+1)).length≤601*8:=Nat.mul_le_mul (by omega) h1;omega
 have h8:=hw.cols _ (ZNW hi);intro d
 induction d with
 |zero=>
  intro k n m b hk hn hm hb;obtain⟨n,rfl⟩:∃n',n=n'+1:=⟨n - 1,by omega⟩;refine⟨m, ?_,hm⟩;rw[ZoZ,ZqZ,show decide ((k:Int) < (w[i].length:Int))=false from decide_eq_false (by omega),cond_false,show w[i].drop k=[]from ZNU (by omega)];rfl
 |succ d ih=>
  intro k n m b hk hn hm hb;obtain⟨n,rfl⟩:∃n',n=n'+1:=⟨n - 1,by omega⟩;have hkl:k < w[i].length:=by omega
  rw[ZoZ,ZqZ,show decide ((k:Int) < (w[i].length:Int))=true from decide_eq_true (by omega),cond_true];obtain⟨x,ok,m1,h1,hm1,h2⟩:=ZFc hw hi hrf hu hkl hm;rw[h1,ZOa];dsimp only;have hin:inK .i64 ((k:Int)+1)=true:=ZoS (by omega);have next:∀(b':Rat),Sz (s+((s+1)*(w.drop (i+1)).length+1)+1) b'→∃m',Zqm rf (ZoZ rf n) (Zqo w) (i:Int) (u:Int) (w[i].length:Int) (k:Int) m1 t6 t6_1 key (fOf b') l1 l2=
    some (Zqo w,m',t6,t6_1,key,fOf (goW (Zrb (w.drop (i+1))) u (k+1) (w[i].drop (k+1)) b'),l1,l2)∧ZAp w m':=by
   intro b' hb';unfold Zqm;rw[hin];show ∃m',ZoZ rf n (Zqo w) (i:Int) (u:Int) (w[i].length:Int) ((k:Int)+1) m1 t6 t6_1 key (fOf b') l1 l2=_∧_;rw[show ((k:Int)+1)=((k+1:Nat):Int) by omega];exact ih (k+1) n m1 b' (by omega) (by omega) hm1 hb'
  have hdrop:w[i].drop k=w[i][k]::w[i].drop (k+1):=ZNT hkl;rw[hdrop];rcases h2 with ⟨ht,rfl⟩ |⟨y,ht,rfl,rfl⟩
  ·simp only[cond_false];unfold Zqn;simp only[cond_false];obtain⟨m',q1,q2⟩:=next b hb
   refine⟨m', ?_,q2⟩;rw[q1,goW,ht]
  ·simp only[cond_true];have hy:Sz (s+((s+1)*(w.drop (i+1)).length+1)+1) y:=by
    unfold ZAD at ht;split at ht
    ·cases ht
    ·split at ht
     ·cases ht
     ·cases ht;exact(hw.sz _ (ZNW hi) _ (ZNW hkl)).add (ZBm _ _ fun r hr=>hw.sz r (List.mem_of_mem_drop hr))
   rw[ZFZ (hy.wq (by omega)) (hb.wq (by omega)),ZOa,ZB8];unfold Zqn
   by_cases hby:b < y
   ·rw[decide_eq_true hby,cond_true];obtain⟨m',q1,q2⟩:=next y hy
    refine⟨m', ?_,q2⟩;rw[q1,goW,ht];simp only[if_pos hby]
   ·rw[decide_eq_false hby,cond_false];obtain⟨m',q1,q2⟩:=next b hb
    refine⟨m', ?_,q2⟩;rw[q1,goW,ht];simp only[if_neg hby]
theorem ZDN {w:List (List Rat)} {s:Nat} (hw:WOk s w):∀(n i:Nat),i≤w.length→w.length - i < n→ZMC w (ZoQ n) i:=by
 intro n
 induction n with
 |zero=>intro i _ h;omega
 |succ n ih=>
  intro i hi hn u m hu hm;have h8:=hw.rows;have hlim:=hw.lim;rw[ZoQ,Zt4];have hl:(Zqo w).length=w.length:=by simp[Zqo]
  by_cases he:i=w.length
  ·rw[show ((i:Int) == ((Zqo w).length:Int))=true by rw[hl,he];exact beq_self_eq_true _,cond_true,ZAX,ZOa,show w.drop i=[]from ZNU (by omega)];exact⟨m,rfl,hm⟩
  ·have hlt:i < w.length:=by omega
   rw[show ((i:Int) == ((Zqo w).length:Int))=false by rw[hl];exact beq_false_of_ne (by omega),cond_false]
   change ∃m',(bif (lkF m ⟨(i:Int),(u:Int)⟩).isSome then some ((lkF m ⟨(i:Int),(u:Int)⟩).getD _,m)else _)=_∧_
   cases hlk:lkF m ⟨(i:Int),(u:Int)⟩with
   |some v=>
    rw[hm i u v hlk];exact⟨m,rfl,hm⟩
   |none=>
    have hrf:=ih (i+1) (by omega) (by omega);rw[show (none:Option ZoF).isSome=false from rfl,cond_false,ZoS (n:=(i:Int)+1) (by omega)];show ∃m',((ZoQ n (Zqo w) ((i:Int)+1) (u:Int) m).bind _)=_∧_;obtain⟨m1,h1,hm1⟩:=hrf u m hu hm;rw[show ((i:Int)+1)=((i+1:Nat):Int) by omega,h1,ZOa];dsimp only;rw[ZAI hlt,ZOa,ZN0];have hsz:=ZBm (s:=s) (w.drop (i+1)) u fun r hr=>hw.sz r (List.mem_of_mem_drop hr)
    obtain⟨m2,h2,hm2⟩:=ZGX hw hlt hrf hu false false ⟨(i:Int),(u:Int)⟩ [] [] w[i].length 0 big m1 (Zrb (w.drop (i+1)) u) (by omega) (by rw[big_eq];have:=hw.cols _ (ZNW hlt);omega) hm1 (hsz.mono (by omega));rw[show ((0:Int))=((0:Nat):Int)from rfl,h2,ZOa];dsimp only;unfold ZtH;have hd:Zrb (w.drop i) u=goW (Zrb (w.drop (i+1))) u 0 (w[i].drop 0) (Zrb (w.drop (i+1)) u):=by rw[ZNT hlt,Zrb,List.drop_zero]
    rw[←hd];exact⟨_,rfl,hm2.set i u⟩
end Go.Proofs
namespace Go.Proofs
open Go Eng
structure ZJg (s m:Nat) (w:List (List Rat)):Prop extends WOk s w where
 len:∀r∈w,r.length=m
 nn:∀r∈w,∀x∈r,0≤x
theorem ZEH (a b:Rat):decide (ZCy a b < 0)=decide (a < b):=by
 unfold ZCy
 by_cases h:a < b
 ·rw[if_pos h,decide_eq_true (by decide),decide_eq_true h]
 ·rw[if_neg h,decide_eq_false h];split<;>rfl
theorem ZEI (a b:Rat):(ZCy a b == 0)=decide (a=b):=by
 unfold ZCy
 by_cases h:a < b
 ·rw[if_pos h,decide_eq_false (by grind)];rfl
 ·rw[if_neg h]
  by_cases h2:b < a
  ·rw[if_pos h2,decide_eq_false (by grind)];rfl
  ·rw[if_neg h2,decide_eq_true (by grind)];rfl
theorem ZBv (w:List (List Rat)):(Zqo w).length=w.length:=by simp[Zqo]
theorem ZAJ {w:List (List Rat)} {k:Nat} (hk:k < (Zqo w).length):(Zqo w)[k]=(w[k]'(by rw[←ZBv w];exact hk)).map fOf:=by simp[Zqo]
theorem ZFf {w:List (List Rat)} {s m:Nat} (hw:ZJg s m w):ZvZ (Zqo w)=some 0:=by
 have h8:=hw.rows;have hl:=ZBv w;have hlim:=hw.lim;apply Zq0;unfold ZvZ;rw[decide_eq_false (show ¬((Zqo w).length:Int) > 8 by omega),cond_false,ZoN];refine ZoW (ZwV Zzn (Zqo w) (by omega) (fun i (_:Unit)=>(Zqo w,Zqo w,((Zqo w).length:Int),i)) (fun _ _=>True) (Q:=fun x=>x= .brk (Zqo w)) () trivial ?_ ?_) ?_
 ·rintro rec k _ hk _ ih;unfold Zvk Zth;dsimp only;rw[decide_eq_true (show (k:Int) < ((Zqo w).length:Int) by omega),cond_true,ZsV hk,ZOa,ZAJ hk,ZN0];have:=hw.cols _ (ZNW (by rw[←hl];exact hk:k < w.length));rw[decide_eq_false (by omega),cond_false,ZoO];exact⟨ZoS (by omega),ih () trivial⟩
 ·rintro rec _ _;unfold Zvk Zth;dsimp only;rw[decide_eq_false (show ¬((Zqo w).length:Int) < ((Zqo w).length:Int) by omega),cond_false,ZoK]
 rintro _ rfl;dsimp only;unfold Zwv;rw[ZoN];refine ZoW (ZwV Zzm (Zqo w) (by omega) (fun i (_:Unit)=>(Zqo w,Zqo w,((Zqo w).length:Int),i)) (fun _ _=>True) (Q:=fun x=>x= .brk (Zqo w)) () trivial ?_ ?_) ?_
 ·rintro rec k _ hk _ ih;unfold Zvj Ztg;dsimp only;have h0:0 < (Zqo w).length:=by omega
  rw[decide_eq_true (show (k:Int) < ((Zqo w).length:Int) by omega),cond_true,ZsV hk,ZOa,show (0:Int)=((0:Nat):Int)from rfl,ZsV h0,ZOa,ZAJ hk,ZAJ h0,ZN0,ZN0,
   hw.len _ (ZNW _),hw.len _ (ZNW _),show (((m:Nat):Int) != (m:Int))=false by simp,cond_false,ZoO]
  exact⟨ZoS (by omega),ih () trivial⟩
 ·rintro rec _ _;unfold Zvj Ztg;dsimp only;rw[decide_eq_false (show ¬((Zqo w).length:Int) < ((Zqo w).length:Int) by omega),cond_false,ZoK]
 rintro _ rfl;dsimp only;unfold Zwu;rw[ZoN];refine ZoW (ZwV Zzl (Zqo w) (by omega) (fun i (_:Unit)=>(Zqo w,((Zqo w).length:Int),i)) (fun _ _=>True) (Q:=fun x=>x= .brk ()) () trivial ?_ ?_) ?_
 ·rintro rec k _ hk _ ih;unfold Zvi Ztf;dsimp only;have hk':k < w.length:=by rw[←hl];exact hk
  rw[decide_eq_true (show (k:Int) < ((Zqo w).length:Int) by omega),cond_true,ZsV hk,ZOa,ZAJ hk,ZoN];have hc:=hw.cols _ (ZNW hk');refine ZoW (ZwV Zzk (w[k].map fOf) (by rw[ZN0];omega) (fun i (_:Unit)=>(Zqo w,((Zqo w).length:Int),(k:Int),w[k].map fOf,((w[k].map fOf).length:Int),i)) (fun _ _=>True)
   (Q:=fun x=>x= .brk (Zqo w,((Zqo w).length:Int),(k:Int))) () trivial ?_ ?_) ?_
  ·rintro rec j _ hj _ ih;unfold Zvh Zte;dsimp only;have hj':j < w[k].length:=by simpa using hj
   rw[decide_eq_true (show (j:Int) < ((w[k].map fOf).length:Int) by omega),cond_true,ZsV hj,ZOa,List.getElem_map,ZBu ((hw.sz _ (ZNW hk') _ (ZNW hj')).wq (by omega)),ZOa,ZEH,
    decide_eq_false (by have:=hw.nn _ (ZNW hk') _ (ZNW hj');grind),cond_false,ZoO]
   exact⟨ZoS (by omega),ih () trivial⟩
  ·rintro rec _ _;unfold Zvh Zte;dsimp only;rw[decide_eq_false (show ¬((w[k].map fOf).length:Int) < ((w[k].map fOf).length:Int) by omega),cond_false,ZoK]
  rintro _ rfl;dsimp only;unfold Zwt;rw[ZoO];exact⟨ZoS (by omega),ih () trivial⟩
 ·rintro rec _ _;unfold Zvi Ztf;dsimp only;rw[decide_eq_false (show ¬((Zqo w).length:Int) < ((Zqo w).length:Int) by omega),cond_false,ZoK]
 rintro _ rfl;dsimp only;unfold Zws;exact ZoK.2 rfl
def ZAo (F:Nat→Rat) (u:Nat) (b:Rat):Nat→List Rat→Option Nat
 |_,[]=>none
 |k,x::r=>if ZAD F u k x=some b then some k else ZAo F u b (k+1) r
def ZAw:List (List Rat)→Nat→List Int
 | [],_=>[]
 |r::rest,u=>match ZAo (Zrb rest) u (Zrb (r::rest) u) 0 r with
  |some k=>(k:Int)::ZAw rest (ZBS u k)
  |none=>(-1)::ZAw rest u
def ZBV (F:Nat→Rat) (u:Nat) (b:Rat) (r:List Rat):Nat:=match ZAo F u b 0 r with
 |some k=>ZBS u k
 |none=>u
def ZC7 (F:Nat→Rat) (u:Nat) (b:Rat) (r:List Rat):Int:=match ZAo F u b 0 r with
 |some k=>(k:Int)
 |none=> -1
theorem ZA6 (r:List Rat) (rest:List (List Rat)) (u:Nat):ZAw (r::rest) u=ZC7 (Zrb rest) u (Zrb (r::rest) u) r::ZAw rest (ZBV (Zrb rest) u (Zrb (r::rest) u) r):=by rw[ZAw];unfold ZC7 ZBV;cases ZAo (Zrb rest) u (Zrb (r::rest) u) 0 r<;>rfl
theorem ZCH {F:Nat→Rat} {u:Nat} {b:Rat}:∀(r:List Rat) (k j:Nat),ZAo F u b k r=some j→k≤j∧j < k+r.length∧∃x,r[j - k]? =some x∧ZAD F u j x=some b
 | [],k,j,h=>by cases h
 |x::r,k,j,h=>by
  rw[ZAo]at h;split at h
  ·rename_i ht;cases h;exact⟨ZN8 _,by simp,x,by simp,ht⟩
  ·obtain⟨h1,h2,y,h3,h4⟩:=ZCH r (k+1) j h;refine⟨by omega,by simp;omega,y, ?_,h4⟩;rw[show j - k=(j - (k+1))+1 by omega];simpa using h3
theorem ZF8 {w:List (List Rat)} {s:Nat} (hw:WOk s w) {i:Nat} (hi:i < w.length) {u:Nat} (hu:u < 256) (t26:List (List ZoF)) (t27:Int) (t3 t3_1:Bool) (out:List Int) (l1 l2:List Int) {b:Rat} (hb:Sz 7000 b):
  ∀(d k n:Nat) (m:ZEv),k+d=w[i].length→d < n→ZAp w m→
   ∃m',ZpF n (Zqo w) (u:Int) (i:Int) (-1) t26 t27 (i:Int) (w[i].length:Int) (k:Int) t3 t3_1 m out (fOf b) l1 l2=
    some (Zqo w,(match ZAo (Zrb (w.drop (i+1))) u b k (w[i].drop k)with |some j=>((ZBS u j:Nat):Int) |none=>(u:Int)),(match ZAo (Zrb (w.drop (i+1))) u b k (w[i].drop k)with |some j=>(j:Int) |none=> -1),t26,t27,(i:Int),t3,t3_1,m',out,l1,l2)∧ZAp w m':=by
 have h8:=hw.cols _ (ZNW hi);have hr8:=hw.rows;have hlim:=hw.lim;have hrf:ZMC w (ZoQ big) (i+1):=ZDN hw big (i+1) (by omega) (by rw[big_eq];omega);intro d
 induction d with
 |zero=>
  intro k n m hk hn hm;obtain⟨n,rfl⟩:∃n',n=n'+1:=⟨n - 1,by omega⟩;refine⟨m, ?_,hm⟩;rw[ZpF,ZvK,show decide ((k:Int) < (w[i].length:Int))=false from decide_eq_false (by omega),cond_false,show w[i].drop k=[]from ZNU (by omega)];rfl
 |succ d ih=>
  intro k n m hk hn hm;obtain⟨n,rfl⟩:∃n',n=n'+1:=⟨n - 1,by omega⟩;have hkl:k < w[i].length:=by omega
  rw[ZpF,ZvK,show decide ((k:Int) < (w[i].length:Int))=true from decide_eq_true (by omega),cond_true];obtain⟨x,ok,m1,h1,hm1,h2⟩:=ZFc hw hi hrf hu hkl hm;rw[h1,ZOa];dsimp only;have hin:inK .i64 ((k:Int)+1)=true:=ZoS (by omega);have hdrop:w[i].drop k=w[i][k]::w[i].drop (k+1):=ZNT hkl;have next:∃m',ZrA (ZpF n) (Zqo w) (u:Int) (i:Int) (-1) (k:Int) t26 t27 (i:Int) (w[i].length:Int) (k:Int) false t3 t3_1 m1 out (fOf b) l1 l2=
    some (Zqo w,(match ZAo (Zrb (w.drop (i+1))) u b (k+1) (w[i].drop (k+1))with |some j=>((ZBS u j:Nat):Int) |none=>(u:Int)),(match ZAo (Zrb (w.drop (i+1))) u b (k+1) (w[i].drop (k+1))with |some j=>(j:Int) |none=> -1),t26,t27,(i:Int),t3,t3_1,m',out,l1,l2)∧ZAp w m':=by
   unfold ZrA;rw[cond_false,hin];show ∃m',ZpF n (Zqo w) (u:Int) (i:Int) (-1) t26 t27 (i:Int) (w[i].length:Int) ((k:Int)+1) t3 t3_1 m1 out (fOf b) l1 l2=_∧_;rw[show ((k:Int)+1)=((k+1:Nat):Int) by omega];exact ih (k+1) n m1 (by omega) (by omega) hm1
  rw[hdrop,ZAo];rcases h2 with ⟨ht,rfl⟩ |⟨y,ht,rfl,rfl⟩
  ·simp only[cond_false,ht,reduceCtorEq,if_false];exact next
  ·simp only[cond_true];have hy:Sz 7700 y:=by
    unfold ZAD at ht;split at ht
    ·cases ht
    ·split at ht
     ·cases ht
     ·cases ht;exact((hw.sz _ (ZNW hi) _ (ZNW hkl)).add (ZAT hw (i+1) (ZBS u k))).mono (by omega)
   rw[ZFZ (hy.wq (by omega)) (hb.wq (by omega)),ZOa,ZEI,ht]
   by_cases hby:y=b
   ·rw[decide_eq_true hby,if_pos (by rw[hby])];unfold ZrA;rw[cond_true,show decide (0≤(k:Int))=true from decide_eq_true (by omega),ZFr hu (by omega)];exact⟨m1,rfl,hm1⟩
   ·rw[decide_eq_false hby,if_neg (by simpa using hby)];exact next
theorem ZF7 {w:List (List Rat)} {s:Nat} (hw:WOk s w) (t3 t3_1:Bool) (l1 l2:List Int):
  ∀(d i n u:Nat) (m:ZEv) (out:List Int),i+d=w.length→d < n→u < 256→ZAp w m→out.length=i→
   ∃m',Zp3 n (Zqo w) (u:Int) (Zqo w) (w.length:Int) (i:Int) t3 t3_1 m out l1 l2=some (Zqo w,t3,t3_1,m',out++ZAw (w.drop i) u,l1,l2)∧ZAp w m':=by
 have hr8:=hw.rows;intro d
 induction d with
 |zero=>
  intro i n u m out hi hn hu hm ho;obtain⟨n,rfl⟩:∃n',n=n'+1:=⟨n - 1,by omega⟩;refine⟨m, ?_,hm⟩;rw[Zp3,ZvL,show decide ((i:Int) < (w.length:Int))=false from decide_eq_false (by omega),cond_false,show w.drop i=[]from ZNU (by omega),ZAw,List.append_nil]
 |succ d ih=>
  intro i n u m out hi hn hu hm ho;obtain⟨n,rfl⟩:∃n',n=n'+1:=⟨n - 1,by omega⟩;have hil:i < w.length:=by omega
  have h8:=hw.cols _ (ZNW hil);rw[Zp3,ZvL,show decide ((i:Int) < (w.length:Int))=true from decide_eq_true (by omega),cond_true,ZAI hil,ZOa];obtain⟨m1,h1,hm1⟩:=ZDN hw big i (by omega) (by rw[big_eq];omega) u m hu hm;rw[h1,ZOa];dsimp only;obtain⟨m2,h2,hm2⟩:=ZF8 hw hil hu (Zqo w) (w.length:Int) t3 t3_1 out l1 l2 (ZAT hw i u) w[i].length 0 big m1 (by omega) (by rw[big_eq];omega) hm1;rw[ZN0,show (0:Int)=((0:Nat):Int)from rfl,h2,ZOa,List.drop_zero];dsimp only;have hd:w.drop i=w[i]::w.drop (i+1):=ZNT hil;rw[hd,ZA6,←hd];have e1:(match ZAo (Zrb (w.drop (i+1))) u (Zrb (w.drop i) u) 0 w[i]with |some j=>((ZBS u j:Nat):Int) |none=>(u:Int))=((ZBV (Zrb (w.drop (i+1))) u (Zrb (w.drop i) u) w[i]:Nat):Int):=by unfold ZBV;cases ZAo (Zrb (w.drop (i+1))) u (Zrb (w.drop i) u) 0 w[i]<;>rfl
  have e2:(match ZAo (Zrb (w.drop (i+1))) u (Zrb (w.drop i) u) 0 w[i]with |some j=>(j:Int) |none=> -1)=ZC7 (Zrb (w.drop (i+1))) u (Zrb (w.drop i) u) w[i]:=rfl;have hu2:ZBV (Zrb (w.drop (i+1))) u (Zrb (w.drop i) u) w[i] < 256:=by
   unfold ZBV;split
   ·rename_i j hj;have:=(ZCH _ _ _ hj).2.1;exact ZDG hu (by omega)
   ·exact hu
  rw[e1,e2];unfold ZwU;rw[Zu2 (by simp;omega),ZoS (n:=(i:Int)+1) (by omega)];show ∃m',Zp3 n (Zqo w) _ (Zqo w) (w.length:Int) ((i:Int)+1) t3 t3_1 m2 _ l1 l2=_∧_;rw[show ((i:Int)+1)=((i+1:Nat):Int) by omega];obtain⟨m',q1,q2⟩:=ih (i+1) n _ m2 (out++[ZC7 (Zrb (w.drop (i+1))) u (Zrb (w.drop i) u) w[i]]) (by omega) (by omega) hu2 hm2 (by simp[ho]);refine⟨m', ?_,q2⟩;rw[q1,List.append_assoc];rfl
theorem ZIw {q:Rat} (h:Sz 8000 q):ZAH (fOf q)=some (fOf q):=by
 have h1:=h.wq (by omega);unfold ZAH;have e1:(fOf q).Num.Words.length≤256:=by simpa[fOf,bg,iL,Wq,Wl]using h1.1
 have e2:(fOf q).Den.Words.length≤256:=by simpa[fOf,bg,iL,Wq,Wl]using h1.2
 rw[Zu2 (by omega),Zu2 (by omega)];rfl
theorem ZI6 {w:List (List Rat)} {s m:Nat} (hw:ZJg s m w):ZwG (Zqo w)=some (ZAw w 0,fOf (Zrb w 0),0):=by have hr8:=hw.rows;unfold ZwG;rw[ZFf hw,ZOa,show ((0:Int) != 0)=false from rfl,cond_false];obtain⟨m1,h1,hm1⟩:=ZF7 hw.toWOk false false [] [] w.length 0 big 0 [] [] (by omega) (by rw[big_eq];omega) (by omega) (ZFN w) rfl;rw[ZBv];rw[show (0:Int)=((0:Nat):Int)from rfl,h1,ZOa];dsimp only;unfold ZwT;obtain⟨m2,h2,hm2⟩:=ZDN hw.toWOk big 0 (by omega) (by rw[big_eq];omega) 0 m1 (by omega) hm1;rw[show (0:Int)=((0:Nat):Int)from rfl,h2,ZOa];dsimp only;rw[ZIw ((ZAT hw.toWOk 0 0).mono (by omega)),ZOa];simp
end Go.Proofs
namespace Go.Proofs
open Go Eng
theorem ZEs:∀u:Fin 256,∀k:Fin 8,ZEt (ZBS u.val k.val) k.val=true∧∀j:Fin 8,ZEt u.val j.val=true→ZEt (ZBS u.val k.val) j.val=true:=by decide+kernel
theorem ZI1 {u k:Nat} (hu:u < 256) (hk:k < 8):ZEt (ZBS u k) k=true:=(ZEs ⟨u,hu⟩ ⟨k,hk⟩).1
theorem ZG6 {u k j:Nat} (hu:u < 256) (hk:k < 8) (hj:j < 8) (h:ZEt u j=true):ZEt (ZBS u k) j=true:=(ZEs ⟨u,hu⟩ ⟨k,hk⟩).2 ⟨j,hj⟩ h
theorem ZHA {F:Nat→Rat} {u:Nat}:∀(r:List Rat) (k:Nat) (b:Rat),b≤goW F u k r b
 | [],k,b=>Rat.le_refl
 |x::r,k,b=>by
  rw[goW];refine Rat.le_trans ?_ (ZHA r (k+1) _);split
  ·split
   ·rename_i h;exact Rat.le_of_lt h
   ·exact Rat.le_refl
  ·exact Rat.le_refl
theorem ZHz {F:Nat→Rat} {u:Nat} {c:Rat} (hF:∀u,F u+1≤c):∀(r:List Rat) (k:Nat) (b:Rat),(∀x∈r,x≤1)→b≤c→goW F u k r b≤c
 | [],k,b,_,hb=>hb
 |x::r,k,b,hr,hb=>by
  rw[goW];refine ZHz hF r (k+1) _ (fun y hy=>hr y (by simp[hy])) ?_;split
  ·rename_i y hy;split
   ·unfold ZAD at hy;split at hy
    ·cases hy
    ·split at hy
     ·cases hy
     ·cases hy;have h1:=hr x (by simp);have h2:=hF (ZBS u k);grind
   ·exact hb
  ·exact hb
theorem ZEo:∀(w:List (List Rat)) (u:Nat),0≤Zrb w u
 | [],u=>Rat.le_refl
 |r::rest,u=>Rat.le_trans (ZEo rest u) (ZHA r 0 _)
theorem ZEp:∀(w:List (List Rat)) (u:Nat),(∀r∈w,∀x∈r,x≤1)→Zrb w u≤(w.length:Rat)
 | [],u,_=>Rat.le_refl
 |r::rest,u,h=>by
  have ih:=fun u=>ZEp rest u (fun r hr=>h r (by simp[hr]))
  have hc:(((r::rest).length:Nat):Rat)=(rest.length:Rat)+1:=by simp
  rw[hc];refine ZHz (fun u=> ?_) r 0 _ (h r (by simp)) ?_
  ·have:=ih u;grind
  ·have:=ih u;grind
theorem ZFh {F:Nat→Rat} {u k:Nat} {x y:Rat} (h:ZAD F u k x=some y):ZEt u k=false∧x≠0∧y=x+F (ZBS u k):=by
 unfold ZAD at h;split at h
 ·cases h
 ·rename_i hb;split at h
  ·cases h
  ·rename_i hx;cases h;exact⟨by simpa using hb,hx,rfl⟩
theorem ZDs:∀(w:List (List Rat)) (u:Nat),(ZAw w u).length=w.length
 | [],u=>rfl
 |r::rest,u=>by rw[ZA6,ZNY,ZDs rest,ZNY]
theorem ZCM {m:Nat} (hm:m≤8):∀(w:List (List Rat)) (u:Nat),u < 256→(∀r∈w,r.length=m)→
  (∀t∈ZAw w u, -1≤t∧t < (m:Int)∧(0≤t→ZEt u t.toNat=false))∧List.Pairwise (fun a b=>0≤b→a≠b) (ZAw w u)
 | [],u,_,_=>⟨fun t h=>(by cases h),.nil⟩
 |r::rest,u,hu,hr=>by
  have hlen:=hr r (by simp);rw[ZA6];cases hf:ZAo (Zrb rest) u (Zrb (r::rest) u) 0 r with
  |none=>
   obtain⟨q1,q2⟩:=ZCM hm rest u hu fun r hr'=>hr r (by simp[hr'])
   have e1:ZC7 (Zrb rest) u (Zrb (r::rest) u) r= -1:=by unfold ZC7;rw[hf]
   have e2:ZBV (Zrb rest) u (Zrb (r::rest) u) r=u:=by unfold ZBV;rw[hf]
   rw[e1,e2];refine⟨fun t ht=> ?_,List.pairwise_cons.2 ⟨fun b _ hb h=>by omega,q2⟩⟩;rcases ZN3.1 ht with rfl |ht
   ·exact⟨by omega,by omega,fun h=>by omega⟩
   ·exact q1 t ht
  |some k=>
   obtain⟨_,h2,x,h3,h4⟩:=ZCH _ _ _ hf;have hk:k < m:=by omega
   have hb:=(ZFh h4).1;obtain⟨q1,q2⟩:=ZCM hm rest (ZBS u k) (ZDG hu (by omega)) fun r hr'=>hr r (by simp[hr'])
   have e1:ZC7 (Zrb rest) u (Zrb (r::rest) u) r=(k:Int):=by unfold ZC7;rw[hf]
   have e2:ZBV (Zrb rest) u (Zrb (r::rest) u) r=ZBS u k:=by unfold ZBV;rw[hf]
   rw[e1,e2];refine⟨fun t ht=> ?_,List.pairwise_cons.2 ⟨fun b hb' hb0 h=> ?_,q2⟩⟩
   ·rcases ZN3.1 ht with rfl |ht
    ·exact⟨by omega,by omega,fun _=>by simpa using hb⟩
    ·obtain⟨a1,a2,a3⟩:=q1 t ht;refine⟨a1,a2,fun h=> ?_⟩;cases hc:ZEt u t.toNat with
     |false=>rfl
     |true=>rw[ZG6 hu (by omega) (by omega) hc]at a3;exact absurd (a3 h) (by simp)
   ·obtain⟨a1,a2,a3⟩:=q1 b hb';have:=a3 hb0;subst h;rw[ZNP,ZI1 hu (by omega)]at this;cases this
end Go.Proofs
namespace Go.Proofs
open Go Eng
structure ZCP (t:ZoG):Prop where
 ok:ZC8 t=true
 cols:t.Columns.length≤8
 col:∀c∈t.Columns,ZCT c
noncomputable def ZHm (b:ZoG) (x:ZoL):List Rat:=b.Columns.map fun y=>ZBn x y
noncomputable def ZCE (a b:ZoG):List (List Rat):=a.Columns.map fun x=>ZHm b x
theorem ZDK {a b:ZoG} (ha:ZCP a) (hb:ZCP b):ZJg 100 b.Columns.length (ZCE a b):=by
 have h1:∀r∈ZCE a b,∃x∈a.Columns,r=ZHm b x:=fun r hr=>by obtain⟨x,hx,rfl⟩:=List.mem_map.1 hr;exact⟨x,hx,rfl⟩
 have h2:∀r∈ZCE a b,∀q∈r,∃x∈a.Columns,∃y∈b.Columns,q=ZBn x y:=fun r hr q hq=>by obtain⟨x,hx,rfl⟩:=h1 r hr;obtain⟨y,hy,rfl⟩:=List.mem_map.1 hq;exact⟨x,hx,y,hy,rfl⟩
 refine⟨⟨by rw[ZCE,ZN0];exact ha.cols,fun r hr=> ?_,fun r hr q hq=> ?_,by omega⟩,fun r hr=> ?_,fun r hr q hq=> ?_⟩
 ·obtain⟨x,_,rfl⟩:=h1 r hr;rw[ZHm,ZN0];exact hb.cols
 ·obtain⟨x,hx,y,hy,rfl⟩:=h2 r hr q hq;exact ZIY (ha.col x hx) (hb.col y hy)
 ·obtain⟨x,_,rfl⟩:=h1 r hr;rw[ZHm,ZN0]
 ·obtain⟨x,hx,y,hy,rfl⟩:=h2 r hr q hq;exact(ZBM x y).1
theorem ZIG {a b:ZoG}:∀r∈ZCE a b,∀q∈r,q≤1:=fun r hr q hq=>by obtain⟨x,hx,rfl⟩:=List.mem_map.1 hr;obtain⟨y,hy,rfl⟩:=List.mem_map.1 hq;exact(ZBM x y).2
def ZzO (a b:ZoG):Int:=if (1:Int) > (if (b.Columns.length:Int) > (a.Columns.length:Int)then (b.Columns.length:Int)else (a.Columns.length:Int))then (1:Int)else (if (b.Columns.length:Int) > (a.Columns.length:Int)then (b.Columns.length:Int)else (a.Columns.length:Int))
noncomputable def ZzX (a b:ZoG):Rat:=Zrb (ZCE a b) 0 / (ZzO a b:Rat)
theorem ZzW {a b:ZoG} (ha:a.Columns.length≤8) (hb:b.Columns.length≤8):1≤ZzO a b∧ZzO a b≤8∧(a.Columns.length:Int)≤ZzO a b:=by unfold ZzO;split<;>split at* <;>omega
theorem ZFj {n:Int} (h:1≤n∧n≤8):Sz 4 (n:Rat):=by
 unfold Sz;have e1:(n:Rat).num=n:=by simp
 have e2:(n:Rat).den=1:=by simp
 rw[e1,e2];refine⟨?_,by decide⟩;have:n.natAbs≤8:=by omega
 omega
theorem ZC0 {a b:ZoG} (ha:ZCP a) (hb:ZCP b):Sz 7000 (Zrb (ZCE a b) 0):=by
 have:=ZAT (ZDK ha hb).toWOk 0 0
 rwa [List.drop_zero]at this
theorem ZGJ {a b:ZoG} (ha:ZCP a) (hb:ZCP b):Sz 7004 (ZzX a b):=by
 have h:=ZzW ha.cols hb.cols;have hne:((ZzO a b:Int):Rat)≠0:=by
  have:((ZzO a b:Int):Rat)≠((0:Int):Rat):=fun e=>by have:=Rat.intCast_inj.1 e;omega
  simpa using this
 exact(Sz.div hne (ZC0 ha hb) (ZFj ⟨h.1,h.2.1⟩)).mono (by omega)
theorem ZEE (w:List (List Rat)) (r:List Rat):Zqo (w++[r])=Zqo w++[r.map fOf]:=by simp[Zqo]
theorem ZEu {a b:ZoG} (ha:ZCP a) (hb:ZCP b):Zq1 a b=some (ZAw (ZCE a b) 0,fOf (ZzX a b),0):=by
 have hac:=ha.cols;have hbc:=hb.cols;have hta:Zsn a=some true:=by rw[ZCu a (by omega) (fun c hc=>by have:=(ha.col c hc).rows;omega),ha.ok]
 have htb:Zsn b=some true:=by rw[ZCu b (by omega) (fun c hc=>by have:=(hb.col c hc).rows;omega),hb.ok]
 apply Zq0;unfold Zq1;rw[hta,ZOa,ZNN,cond_false,htb,ZOa,ZNN];unfold ZtN;rw[cond_false,decide_eq_false (by omega),cond_false,decide_eq_false (by omega)];unfold ZtM;rw[cond_false,ZoN];refine ZoW (ZwV Zy6 a.Columns (by omega) (fun i (w:List (List ZoF))=>(a.Columns,(a.Columns.length:Int),i,a,b,false,false,w,([]:List Int),([]:List Int))) (fun k w=>w=Zqo ((a.Columns.take k).map fun x=>ZHm b x))
  (Q:=fun x=>x=(a,b,false,false,Zqo (ZCE a b),([]:List Int),([]:List Int))) [] rfl ?_ ?_) ?_
 ·rintro rec k w hk rfl ih;unfold ZuU ZsE;dsimp only;rw[decide_eq_true (show (k:Int) < (a.Columns.length:Int) by omega),cond_true,ZsV hk,ZOa,ZoN];have hx:=ha.col _ (ZNW hk);refine ZoW (ZwV Zy5 b.Columns (by omega) (fun j (r:List ZoF)=>(a.Columns,(a.Columns.length:Int),(k:Int),b.Columns,(b.Columns.length:Int),j,a,b,false,false,Zqo ((a.Columns.take k).map fun x=>ZHm b x),a.Columns[k],r,([]:List Int),([]:List Int)))
   (fun j r=>r=((b.Columns.take j).map fun y=>ZBn a.Columns[k] y).map fOf)
   (Q:=fun x=>x=(a.Columns,(a.Columns.length:Int),(k:Int),a,b,false,false,Zqo ((a.Columns.take k).map fun x=>ZHm b x),(ZHm b a.Columns[k]).map fOf,([]:List Int),([]:List Int))) [] rfl ?_ ?_) ?_
  ·rintro rec j r hj rfl ih;unfold ZuT ZsD;dsimp only;rw[decide_eq_true (show (j:Int) < (b.Columns.length:Int) by omega),cond_true,ZsV hj,ZOa,ZKX hx (hb.col _ (ZNW hj)),ZOa,ZoO,ZoO];refine⟨Zu2 (by simp;omega),ZoS (by omega),ih _ ?_⟩;rw[ZN6 hj,List.map_append,List.map_append];rfl
  ·rintro rec r rfl;unfold ZuT ZsD;dsimp only;rw[decide_eq_false (show ¬(b.Columns.length:Int) < (b.Columns.length:Int) by omega),cond_false,ZoK,ZN5];rfl
  rintro _ rfl;dsimp only;unfold ZvE;rw[ZoO,ZoO];refine⟨Zu2 (by simp[Zqo];omega),ZoS (by omega),ih _ ?_⟩;rw[ZN6 hk,List.map_append,List.map_singleton,ZEE]
 ·rintro rec w rfl;unfold ZuU ZsE;dsimp only;rw[decide_eq_false (show ¬(a.Columns.length:Int) < (a.Columns.length:Int) by omega),cond_false,ZoK,ZN5];rfl
 rintro _ rfl;dsimp only;unfold ZvD;have hs:=ZzW ha.cols hb.cols;have hne:((ZzO a b:Int):Rat)≠0:=by
  have:((ZzO a b:Int):Rat)≠((0:Int):Rat):=fun e=>by have:=Rat.intCast_inj.1 e;omega
  simpa using this
 rw[ZI6 (ZDK ha hb),ZOa]
 change wp (bif ((0:Int) != 0)then _ else ((Zxs (ZzO a b) 1).bind _)) _
 rw[show ((0:Int) != 0)=false from rfl,cond_false,ZAP _ _ (by decide) (by omega) (by omega) (by decide) (by decide),ZOa,ZCe,
  ZDh hne (ZC0 ha hb) (ZFj ⟨hs.1,hs.2.1⟩) (by omega),ZOa,ZoK]
 rfl
theorem ZEc {a b:ZoG} (ha:a.Columns.length≤8) (hb:b.Columns.length≤8):(0:Rat) < (ZzO a b:Rat)∧(a.Columns.length:Rat)≤(ZzO a b:Rat):=by
 have h:=ZzW ha hb;have hn:(1:Rat)≤(ZzO a b:Rat):=by have:=(Rat.intCast_le_intCast (a:=1) (b:=ZzO a b)).2 h.1;simpa using this
 refine⟨by grind, ?_⟩;have:=(Rat.intCast_le_intCast (a:=(a.Columns.length:Int)) (b:=ZzO a b)).2 h.2.2
 rwa [Rat.intCast_natCast]at this
theorem ZFt {a b:ZoG} (ha:a.Columns.length≤8) (hb:b.Columns.length≤8):ZzX a b*(ZzO a b:Rat)=Zrb (ZCE a b) 0:=by have h:=(ZEc ha hb).1;unfold ZzX;exact Rat.div_mul_cancel (by grind)
theorem ZDb {a b:ZoG} (ha:a.Columns.length≤8) (hb:b.Columns.length≤8):0≤ZzX a b∧ZzX a b≤1:=by
 obtain⟨hp,h2⟩:=ZEc ha hb;have h0:=ZEo (ZCE a b) 0;have h1:=ZEp (ZCE a b) 0 ZIG;have hm:=ZFt ha hb;rw[ZCE,ZN0]at h1
 change Zrb (ZCE a b) 0≤_ at h1
 constructor
 ·refine Rat.not_lt.1 fun hlt=> ?_
  have:=Rat.mul_pos (a:= -ZzX a b) (b:=(ZzO a b:Rat)) (by grind) hp;grind
 ·refine Rat.not_lt.1 fun hlt=> ?_
  have:=Rat.mul_pos (a:=ZzX a b - 1) (b:=(ZzO a b:Rat)) (by grind) hp;grind
end Go.Proofs
namespace Go.Proofs
open Go Eng
def ZDJ:ZoP:=⟨true,[]⟩
def ZAh (b:ZoG) (k:Int):List ZoP:=if 0≤k then (match b.Columns[k.toNat]? with |some c=>c.Cells |none=>[])else List.replicate (ZrB b).toNat ZDJ
def ZuG (b:ZoG) (c:ZoL) (k:Int):ZoL:=⟨c.Name,c.Cells++ZAh b k⟩
def ZvO (a b:ZoG) (l:List Int):ZoG:=⟨a.ID,a.Name,ZN7 (ZuG b) a.Columns l⟩
theorem ZEF:∀n:Fin 11,Zpz [ZDJ] (n.val:Int)=some (List.replicate n.val ZDJ):=by decide+kernel
theorem ZFx {n:Int} (h:0≤n∧n≤10):Zpz [ZDJ] n=some (List.replicate n.toNat ZDJ):=by have:=ZEF ⟨n.toNat,by omega⟩;rw[show ((n.toNat:Nat):Int)=n by omega]at this;exact this
theorem ZF2 {l:List ZoP} (h:l.length≤10000):Zqc l=some l:=by
 have e:Zpd l false=some l:=by unfold Zpd;rw[cond_false,Zu2 (by simp;omega)];rfl
 unfold Zqc;cases l with
 |nil=>rw[e];exact ZA7 _
 |cons x r=>exact e
theorem ZF1 {l:List ZoL} (h:l.length≤1000):ZpO l=some l:=by
 have e:Zo7 l false=some l:=by unfold Zo7;rw[cond_false,Zu2 (by simp;omega)];rfl
 unfold ZpO;cases l with
 |nil=>rw[e];exact ZA7 _
 |cons x r=>exact e
theorem ZKl {a:ZoG} (ha:ZCP a):ZyF a=some (a,a.Columns.length):=by
 have hac:=ha.cols;apply Zq0;unfold ZyF;rw[ZF1 (by omega),ZOa,ZoN];refine ZoW (ZwV ZAZ a.Columns (by omega) (fun i (s:List ZoL×Nat)=>((a.Columns.length:Int),i,a.ID,a.Name,(0:Int),([]:Str),s.1,s.2,([]:List ZoL))) (fun k s=>s=(a.Columns,k))
  (Q:=fun x=>x=(a.ID,a.Name,(0:Int),([]:Str),a.Columns,a.Columns.length,([]:List ZoL))) (a.Columns,0) rfl ?_ ?_) ?_
 ·rintro rec k _ hk rfl ih;unfold Zye Zw3;dsimp only;have hx:=ha.col _ (ZNW hk);rw[decide_eq_true (show (k:Int) < (a.Columns.length:Int) by omega),cond_true,ZoO];refine⟨ZDL hk, ?_⟩;rw[ZNP,ZNV hk,ZOa,ZoO];refine⟨decide_eq_true (ZN8 _), ?_⟩;rw[ZF2 (by have:=hx.rows;omega),ZOa,ZoO,ZoO];refine⟨ZDL hk,decide_eq_true rfl, ?_⟩;rw[ZOa,ZoO];refine⟨ZoS (by omega), ?_⟩;have e:a.Columns.set k ⟨a.Columns[k].Name,a.Columns[k].Cells⟩=a.Columns:=by show a.Columns.set k a.Columns[k]=a.Columns;exact List.set_getElem_self hk
  rw[e];exact ih (a.Columns,k+1) rfl
 ·rintro rec _ rfl;unfold Zye Zw3;dsimp only;rw[decide_eq_false (show ¬(a.Columns.length:Int) < (a.Columns.length:Int) by omega),cond_false,ZoK]
 rintro _ rfl;dsimp only;unfold Zy8;exact ZoK.2 rfl
theorem ZDR (l:List Int) (v:Int) (h:l.length≤1000000):Zso l v=some (decide (v∈l)):=by
 have key:wp (ZqQ big l v (l.length:Int) 0) (fun x=>(x= .brk ()∧v∉l)∨∃j:Nat,x= .ret (j:Int)∧v∈l):=by
  refine ZwV Zyv l (by omega) (fun i (_:Unit)=>(l,v,(l.length:Int),i)) (fun k _=>v∉l.take k) () (by simp) ?_ ?_
  ·rintro rec k _ hk hn ih;unfold Ztx Zro;dsimp only;rw[decide_eq_true (show (k:Int) < (l.length:Int) by omega),cond_true,ZsV hk,ZOa]
   by_cases hv:v=l[k]
   ·rw[show (v == l[k])=true by simpa using hv,cond_true,ZoK];exact .inr ⟨k,rfl,by rw[hv];exact ZNW hk⟩
   ·rw[show (v == l[k])=false by simpa using hv,cond_false,ZoO];refine⟨ZoS (by omega),ih () ?_⟩;rw[ZN6 hk,List.mem_append,List.mem_singleton];exact fun h=>h.elim hn hv
  ·rintro rec _ hn;unfold Ztx Zro;dsimp only;rw[decide_eq_false (show ¬(l.length:Int) < (l.length:Int) by omega),cond_false,ZoK];rw[ZN5]at hn;exact .inl ⟨rfl,hn⟩
 obtain⟨x,hx,hp⟩:=key;unfold Zso ZvH;rw[hx,ZOa];rcases hp with ⟨rfl,hn⟩ |⟨j,rfl,hi⟩
 ·dsimp only;unfold ZuA;rw[ZOa,decide_eq_false (by decide),decide_eq_false hn]
 ·dsimp only;rw[ZOa,decide_eq_true (by omega),decide_eq_true hi]
theorem ZB4 {a:ZoG} (ha:ZCP a):Zsn a=some true:=by have hac:=ha.cols;rw[ZCu a (by omega) (fun c hc=>by have:=(ha.col c hc).rows;omega),ha.ok]
theorem ZFm {b:ZoG}:∀(cs:List ZoL) (l:List Int) (k:Nat) (hc:k < cs.length),(ZN7 (ZuG b) (cs.take k) (l.take k)).length=k→(ZN7 (ZuG b) (cs.take k) (l.take k)++cs.drop k)[k]? =some cs[k]:=by intro cs l k hc h;rw[List.getElem?_append_right (by omega),h,Nat.sub_self,ZNT hc];rfl
structure ZNM (a b:ZoG) (l:List Int):Prop where
 len:l.length=a.Columns.length
 rng:∀k∈l, -1≤k∧k < (b.Columns.length:Int)
 dif:List.Pairwise (fun x y=>0≤y→x≠y) l
theorem ZEb {a b:ZoG} {l:List Int} (ha:ZCP a) (hb:ZCP b) (hra:0≤ZrB a∧ZrB a≤100) (hrb:0≤ZrB b∧ZrB b≤10) (hl:ZNM a b l):Zr0 a b l=some (ZvO a b l,0):=by
 have hac:=ha.cols;have hbc:=hb.cols;have hll:=hl.len;apply Zq0;unfold Zr0;rw[ZB4 ha,ZOa,ZNN,cond_false,ZB4 hb,ZOa,ZNN,cond_false,show (((l.length:Nat):Int) != (a.Columns.length:Int))=false by rw[hll];simp];unfold ZrO;rw[cond_false,ZoN];refine ZoW (ZwV Zy4 l (by omega) (fun i (_:Unit)=>(l,l,(l.length:Int),i,a,b,(0:Int),([]:Str),([]:List ZoL))) (fun _ _=>True) (Q:=fun x=>x= .brk (l,a,b,(0:Int),([]:Str),([]:List ZoL))) () trivial ?_ ?_) ?_
 ·rintro rec k _ hk _ ih;unfold ZuS ZsC ZtK;dsimp only;have h:=hl.rng _ (ZNW hk);rw[decide_eq_true (show (k:Int) < (l.length:Int) by omega),cond_true,ZsV hk,ZOa,decide_eq_false (show ¬l[k] < -1 by omega),cond_false,decide_eq_false (show ¬l[k]≥(b.Columns.length:Int) by omega),cond_false,ZoO];exact⟨ZoS (by omega),ih () trivial⟩
 ·rintro rec _ _;unfold ZuS ZsC;dsimp only;rw[decide_eq_false (show ¬(l.length:Int) < (l.length:Int) by omega),cond_false,ZoK]
 rintro _ rfl;dsimp only;unfold ZvC;rw[ZoN];refine ZoW (ZwV Zy3 l (by omega) (fun i (_:Unit)=>(l,l,(l.length:Int),i,a,b,(0:Int),([]:Str),([]:List ZoL))) (fun _ _=>True) (Q:=fun x=>x= .brk (l,a,b,(0:Int),([]:Str),([]:List ZoL))) () trivial ?_ ?_) ?_
 ·rintro rec k _ hk _ ih;unfold ZuR ZsB ZtJ;dsimp only;rw[decide_eq_true (show (k:Int) < (l.length:Int) by omega),cond_true,ZsV hk,ZOa];have hin:inK .i64 ((k:Int)+1)=true:=ZoS (by omega)
  by_cases h0:0≤l[k]
  ·have hnot:l[k]∉l.take k:=by
    intro hm;obtain⟨j,hj,he⟩:=List.mem_iff_getElem.1 hm;have hj':j < k:=by simp at hj;omega
    rw[List.getElem_take]at he;exact List.pairwise_iff_getElem.1 hl.dif j k (by omega) hk hj' h0 he
   rw[decide_eq_true (show l[k]≥0 from h0),cond_true,ZoO];refine⟨Zqv ⟨by omega,by omega,by omega⟩, ?_⟩;rw[ZNP,ZDR _ _ (by simp;omega),ZOa,decide_eq_false hnot,cond_false,ZoO];exact⟨hin,ih () trivial⟩
  ·rw[decide_eq_false (show ¬l[k]≥0 from h0),cond_false,cond_false,ZoO];exact⟨hin,ih () trivial⟩
 ·rintro rec _ _;unfold ZuR ZsB;dsimp only;rw[decide_eq_false (show ¬(l.length:Int) < (l.length:Int) by omega),cond_false,ZoK]
 rintro _ rfl;dsimp only;unfold ZvB;rw[ZAB,ZOa,ZAB,ZOa,ZoO];refine⟨ZoS (by omega), ?_⟩;rw[decide_eq_false (by omega),cond_false,ZKl ha,ZOa];dsimp only;rw[ZoN];have hzl:∀k,k≤a.Columns.length→(ZN7 (ZuG b) (a.Columns.take k) (l.take k)).length=k:=fun k hk=>by simp;omega
 refine ZoW (ZwV Zy2 l (by omega) (fun i (cs:List ZoL)=>(l,(l.length:Int),i,b,(0:Int),([]:Str),a.ID,a.Name,([]:List ZoL),cs,a.Columns.length)) (fun k cs=>cs=ZN7 (ZuG b) (a.Columns.take k) (l.take k)++a.Columns.drop k)
  (Q:=fun x=>x=((0:Int),([]:Str),a.ID,a.Name,([]:List ZoL),ZN7 (ZuG b) a.Columns l,a.Columns.length)) a.Columns (by simp) ?_ ?_) ?_
 ·rintro rec k _ hk rfl ih;unfold ZuQ ZsA;dsimp only;have hka:k < a.Columns.length:=by omega
  have h:=hl.rng _ (ZNW hk);have hlen:(ZN7 (ZuG b) (a.Columns.take k) (l.take k)++a.Columns.drop k).length=a.Columns.length:=by rw[ZNX,hzl k (by omega),List.length_drop];omega
  rw[decide_eq_true (show (k:Int) < (l.length:Int) by omega),cond_true,ZsV hk,ZOa,ZAB,ZOa]
  change wp ((Zpz [ZDJ] (ZrB b)).bind _) _
  rw[ZFx hrb,ZOa];have hx:=ha.col _ (ZNW hka);have next:∀below,below=ZAh b l[k]→below.length≤1000→wp (ZrN (fun t77 t78 i b t6 t6_1 out out_1 t6_2 out_2 out_lo=>rec (t77,t78,i,b,t6,t6_1,out,out_1,t6_2,out_2,out_lo)) (k:Int) below l (l.length:Int) (k:Int) b 0 [] a.ID a.Name [] (ZN7 (ZuG b) (a.Columns.take k) (l.take k)++a.Columns.drop k) a.Columns.length) (fun x=>x=((0:Int),([]:Str),a.ID,a.Name,([]:List ZoL),ZN7 (ZuG b) a.Columns l,a.Columns.length)):=by
   rintro below hbel hbl;unfold ZrN;rw[ZoO];refine⟨ZrC ⟨by omega,by omega⟩, ?_⟩;rw[ZNP,ZFm _ _ _ hka (hzl k (by omega)),ZOa,ZoO,ZoO,ZoO,ZoO];refine⟨decide_eq_true hka,Zu2 (by have:=hx.rows;omega),ZrC ⟨by omega,by omega⟩,decide_eq_true ⟨rfl,hka⟩, ?_⟩;rw[ZOa,ZoO];refine⟨ZoS (by omega),ih _ ?_⟩;rw[List.set_append_right _ _ (by rw[hzl k (by omega)];exact ZN8 _),hzl k (by omega),Nat.sub_self,ZNT hka,List.set_cons_zero,ZN6 hka,ZN6 hk,
    List.zipWith_append (by simp;omega)]
   simp[ZuG,hbel]
  by_cases h0:0≤l[k]
  ·have hkb:(l[k]).toNat < b.Columns.length:=by omega
   rw[decide_eq_true (show l[k]≥0 from h0),cond_true,Zin h0 hkb,ZOa];refine next _ ?_ (by have:=(hb.col _ (ZNW hkb)).rows;omega)
   unfold ZAh;rw[if_pos h0,ZNV hkb]
  ·rw[decide_eq_false (show ¬l[k]≥0 from h0),cond_false];refine next _ ?_ (by simp;omega)
   unfold ZAh;rw[if_neg h0]
 ·rintro rec _ rfl;unfold ZuQ ZsA;dsimp only;rw[decide_eq_false (show ¬(l.length:Int) < (l.length:Int) by omega),cond_false,ZoK,ZN5,List.take_of_length_le (by omega),ZNU (by omega),List.append_nil]
 rintro _ rfl;dsimp only;unfold ZvA;exact ZoK.2 rfl
end Go.Proofs
namespace Go.Proofs
open Go Eng
def auX:ZoL:=⟨[99,105,116,121],[⟨false,[120]⟩]⟩
def auY:ZoL:=⟨[110,97,109,101],[⟨false,[121]⟩]⟩
def auA:ZoG:=⟨1,[],[auX,auY]⟩
def auB:ZoG:=⟨2,[],[auY,auX]⟩
theorem ZAz (s:Str):ZxL [s]=[s]:=ZGy (List.pairwise_singleton _ _) (by simp) (fun x=>Iff.rfl)
theorem ZK3:Zxk auX.Name=[[99,105,116,121]]:=by
 have e:ZzJ (auX.Name++[32]) []=[[99,105,116,121]]:=by decide+kernel
 unfold Zxk;rw[e,ZAz]
theorem ZK2:Zxk auY.Name=[[110,97,109,101]]:=by
 have e:ZzJ (auY.Name++[32]) []=[[110,97,109,101]]:=by decide+kernel
 unfold Zxk;rw[e,ZAz]
theorem ZK5:ZuP auX.Cells=[[120]]:=by
 have e:ZC6 auX.Cells=[[120]]:=by decide+kernel
 unfold ZuP;rw[e,ZAz]
theorem ZK4:ZuP auY.Cells=[[121]]:=by
 have e:ZC6 auY.Cells=[[121]]:=by decide+kernel
 unfold ZuP;rw[e,ZAz]
theorem ZES {a b:ZoL} (h1:comm (ZuP a.Cells) (ZuP b.Cells)=0) (h2:comm (Zxk a.Name) (Zxk b.Name)=0):ZBn a b=0:=by
 have z:∀x y:List Str,comm x y=0→ZxG x y=0:=fun x y h=>by unfold ZxG;rw[h];simp
 unfold ZBn;rw[z _ _ h1,z _ _ h2];unfold ofQ;rw[if_pos ⟨rfl,rfl⟩]
theorem ZM3:ZBn auX auX=1:=by rw[ZDn,if_neg (by rw[ZK3];simp),if_neg (by rw[ZK5];simp)]
theorem ZM1:ZBn auY auY=1:=by rw[ZDn,if_neg (by rw[ZK2];simp),if_neg (by rw[ZK4];simp)]
theorem ZK6:ZBn auX auY=0:=ZES (by rw[ZK5,ZK4];decide) (by rw[ZK3,ZK2];decide)
theorem ZM2:ZBn auY auX=0:=by rw[ZFY,ZK6]
theorem ZHD:ZCE auA auB=[[0,1],[1,0]]:=by show [[ZBn auX auY,ZBn auX auX],[ZBn auY auY,ZBn auY auX]]=_;rw[ZM3,ZM1,ZK6,ZM2]
theorem ZHF:ZCT auX:=⟨by decide,by decide,fun x hx=>by simp only[auX,ZN3,ZN4,or_false]at hx;subst hx;decide⟩
theorem ZHE:ZCT auY:=⟨by decide,by decide,fun x hx=>by simp only[auY,ZN3,ZN4,or_false]at hx;subst hx;decide⟩
theorem ZHH:ZCP auA:=⟨by kernel_rfl,by decide,fun c hc=>by
 simp only[auA,ZN3,ZN4,or_false]at hc;rcases hc with rfl |rfl
 ·exact ZHF
 ·exact ZHE⟩
theorem ZHG:ZCP auB:=⟨by kernel_rfl,by decide,fun c hc=>by
 simp only[auB,ZN3,ZN4,or_false]at hc;rcases hc with rfl |rfl
 ·exact ZHE
 ·exact ZHF⟩
theorem ZGb:ZAw [[0,1],[1,0]] 0=[1,0]∧Zrb [[0,1],[1,0]] 0=2:=by decide+kernel
theorem ZG7:ZzX auA auB=1:=by unfold ZzX;rw[ZHD,ZGb.2];decide+kernel
set_option maxRecDepth 100000 in
theorem ZGa:Zq4=some true:=by unfold Zq4;show (chk true (chk true ((Zq1 auA auB).bind _)))=_;show ((Zq1 auA auB).bind _)=_;rw[ZEu ZHH ZHG,ZOa,ZHD,ZGb.1,ZG7];show ((Zr0 auA auB [1,0]).bind _)=_;rw[ZEb ZHH ZHG (by decide) (by decide) ⟨by decide,by decide,by decide⟩,ZOa];dsimp only;rw[show ((0:Int) == 0)=true from rfl,cond_true,cond_true,show Ztm [1,0] [1,0]=some true by decide+kernel,ZOa,cond_true,ZFJ,ZOa,ZFu _ _ (ZB5.wq (by decide)) (ZB5.wq (by decide)),ZOa,decide_eq_true rfl,cond_true,ZCw,ZOa];unfold Zpp;decide+kernel
end Go.Proofs
