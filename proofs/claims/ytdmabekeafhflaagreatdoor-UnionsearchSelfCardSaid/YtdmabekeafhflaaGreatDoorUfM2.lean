/- Plain laws over the specs, part 2. -/
import Derived.Test.YtdmabekeafhflaaGreatDoorUfM1
import Derived.Test.YtdmabekeafhflaaGreatDoorUfM0
import Derived.Test.YtdmabekeafhflaaGreatDoorQ
set_option linter.unusedVariables false
set_option linter.unusedSimpArgs false
set_option linter.unusedSectionVars false
open Bool renaming not_true→ZKg
open Int renaming toNat_natCast→ZNF
open List renaming getElem_mem→ZNM, length_singleton→ZNS, length_map→ZNR, length_append→ZNN, length_drop→ZNP, zipWith→ZN2, take_succ_eq_append_getElem→ZN1, take_length→ZN0, drop_eq_getElem_cons→ZNG, map_cons→ZNU, drop_eq_nil_of_le→ZNH, getElem_map→ZNL, mem_map→ZNX, mem_cons→ZNV, not_mem_nil→ZNZ, length_cons→ZNO, length_filter_le→ZNQ, mem_filter→ZNW, filter_cons→ZNI, mem_of_mem_drop→ZNY, map_append→ZNT, getElem?_eq_getElem→ZNK, getElem?_cons_zero→ZNJ
open Option renaming bind_some→ZN3, some.injEq→ZN5, some.inj→ZN4
namespace Go.Proofs
open Go Eng
theorem ZGV (a:Str):Zxo [a,[48]]=some (bif a.isEmpty then [48]else a):=by
 have key:wp (Zt2 big ([]:Str) [a,[48]] ((([a,[48]]:List Str).length:Nat):Int) 0) (fun x=>x= .ret (bif a.isEmpty then [48]else a)):=by
  refine ZwH ZzQ ([a,[48]]:List Str) (by simp) (fun i (_:Unit)=>(([]:Str),([a,[48]]:List Str),((([a,[48]]:List Str).length:Nat):Int),i)) (fun k _=>k≤1∧(k=1→a=[])) () ⟨by omega,fun h=>by omega⟩ ?_ ?_
  ·rintro rec k _ hk ⟨h1,h2⟩ ih;unfold Zyd ZwD;dsimp only;rw[decide_eq_true (show (k:Int) < ((([a,[48]]:List Str).length:Nat):Int) by omega),cond_true,Zto hk,ZN3];rcases Nat.eq_zero_or_pos k with rfl |hk0
   ·show wp (bif (!(a == []))then some (Out.ret a)else chk (inK .i64 (((0:Nat):Int)+1)) (rec ([],[a,[48]],((([a,[48]]:List Str).length:Nat):Int),((0:Nat):Int)+1))) _;cases a with
    |nil=>
     rw[show (!(([]:Str) == ([]:Str)))=false from rfl,cond_false,ZoO];exact⟨by decide,ih () ⟨by omega,fun _=>rfl⟩⟩
    |cons b r=>
     rw[show (!((b::r) == ([]:Str)))=true by simp,cond_true,ZoK];rfl
   ·obtain rfl:k=1:=by omega
    have ha:=h2 rfl;subst ha;show wp (bif (!(([48]:Str) == []))then some (Out.ret ([48]:Str))else chk (inK .i64 (((1:Nat):Int)+1)) (rec ([],[[],[48]],((([([]:Str),[48]]:List Str).length:Nat):Int),((1:Nat):Int)+1))) _;rw[show (!(([48]:Str) == ([]:Str)))=true from rfl,cond_true,ZoK];rfl
  ·rintro rec _ ⟨h1,_⟩;simp only[ZNO,List.length_nil]at h1;omega
 unfold Zxo;obtain⟨x,hx,rfl⟩:=key;rw[hx,ZN3]
theorem ZGw (t:Str):(ZCP t).2.length≤t.length:=by
 unfold ZCP;cases t with
 |nil=>exact Nat.le_refl _
 |cons b r=>
  dsimp only;cases b == 45 with
  |true=>rw[cond_true];simp
  |false=>
   rw[cond_false];cases b == 43 with
   |true=>rw[cond_true];simp
   |false=>rw[cond_false];exact Nat.le_refl _
theorem ZAj {t:Str} {x:Bool×Str×Str} (h:ZBb t=some x):x.1=(ZCP t).1∧ZAC (ZCP t).2=some x.2:=by
 unfold ZBb at h;cases hb:ZAC (ZCP t).2 with
 |none=>rw[hb]at h;cases h
 |some y=>
  rw[hb]at h;simp only[Option.map_some,ZN5]at h;subst h;exact⟨rfl,rfl⟩
theorem ZEG {b:Str} {x:Str×Str} (h:ZAC b=some x):∃c r,b=c::r∧isD c=true:=by
 have hok:=ZzS h;rw[ZAB]at h;cases b with
 |nil=>simp[okD]at h
 |cons c r=>
  refine⟨c,r,rfl, ?_⟩;cases hc:n46 c with
  |false=>
   rw[List.takeWhile_cons,hc]at h;simp[okD]at h
  |true=>
   cases hcc:(okD ((c::r).takeWhile n46) 15&&(((c::r).dropWhile n46).isEmpty||okD ((c::r).dropWhile n46).tail 9))with
   |false=>rw[hcc,cond_false]at h;cases h
   |true=>
    rw[Bool.and_eq_true]at hcc;have h1:=hcc.1;unfold okD at h1;rw[List.takeWhile_cons,hc,if_pos rfl,List.all_cons]at h1;simp only[Bool.and_eq_true]at h1;exact h1.2.1
theorem ZKh (b:UInt8):([43,45]:Str).contains b=((b == 45)||(b == 43)):=by rw[List.contains_cons,List.contains_cons];simp only[List.contains_nil,Bool.or_false];exact Bool.or_comm _ _
theorem ZKx {b:UInt8} (h:isD b=true):((b == 45)||(b == 43))=false:=by
 cases h1:b == 45 with
 |true=>rw[eq_of_beq h1]at h;exact absurd h (by decide)
 |false=>
  cases h2:b == 43 with
  |true=>rw[eq_of_beq h2]at h;exact absurd h (by decide)
  |false=>rfl
theorem ZGn {t:Str} {x:Bool×Str×Str} (h:ZBb t=some x):Lib.trimLeftS t [43,45]=(ZCP t).2∧∃b r,t=b::r∧(b == 45)=x.1:=by
 obtain⟨h1,h2⟩:=ZAj h;obtain⟨c,r,hc,hd⟩:=ZEG h2;have hpm:=ZKx hd;unfold Lib.trimLeftS;rw[show (fun b:UInt8=>([43,45]:Str).contains b)=fun b=>(b == 45)||(b == 43)from funext ZKh];have stop:(c::r).dropWhile (fun b=>(b == 45)||(b == 43))=c::r:=by rw[List.dropWhile_cons,hpm,if_neg (by simp)]
 rw[h1];cases t with
 |nil=>unfold ZCP at hc;cases hc
 |cons b s=>
  unfold ZCP at hc⊢
  dsimp only at hc⊢
  rw[List.dropWhile_cons];cases h45:b == 45 with
  |true=>
   rw[h45,cond_true]at hc;dsimp only at hc;rw[cond_true,Bool.true_or,if_pos rfl,hc];exact⟨stop,b,_,rfl,h45⟩
  |false=>
   rw[h45,cond_false]at hc;rw[cond_false,Bool.false_or];cases h43:b == 43 with
   |true=>
    rw[h43,cond_true]at hc;dsimp only at hc;rw[cond_true,if_pos rfl,hc];exact⟨stop,b,_,rfl,h45⟩
   |false=>
    rw[cond_false,if_neg (by simp)];exact⟨rfl,b,_,rfl,h45⟩
theorem ZDw {t:Str} (hl:t.length≤9223372036854775807):ZvP t=some (match ZBb t with |some x=>(ZJS x,true) |none=>([],false)):=by
 unfold ZvP;rw[ZB5 hl,ZN3];cases hp:ZBb t with
 |none=>rfl
 |some x=>
  obtain⟨neg,D,P⟩:=x;obtain⟨h1,h2⟩:=ZAj hp;obtain⟨ht,b,r,hbr,hb45⟩:=ZGn hp;have hok:=ZzS h2;have hsl:=ZGw t;dsimp only at h1 hb45⊢
  have hpc:=ZAB (ZCP t).2;rw[h2]at hpc;have hDP:D=(ZCP t).2.takeWhile n46∧P=((ZCP t).2.dropWhile n46).tail:=by
   cases hcc:(okD ((ZCP t).2.takeWhile n46) 15&&(((ZCP t).2.dropWhile n46).isEmpty||okD ((ZCP t).2.dropWhile n46).tail 9))with
   |false=>rw[hcc,cond_false]at hpc;cases hpc
   |true=>
    rw[hcc,cond_true]at hpc;simp only[ZN5,Prod.mk.injEq]at hpc;exact hpc
  unfold ZvF ZwV;rw[ZKg,cond_false,show (([43,45]:Str).all fun b=>decide (b.toNat < 128))=true from by decide,chk_true,show decide (([43,45]:Str).length < 4294967281)=true from by decide,chk_true,ZN3,ht,ZkE (by omega),ZN3];dsimp only;rw[←hDP.1,←hDP.2,show (([48]:Str).all fun b=>decide (b.toNat < 128))=true from by decide,chk_true,show decide (([48]:Str).length < 4294967281)=true from by decide,chk_true,ZN3,chk_true,chk_true,ZN3];have e1:Lib.trimLeftS D [48]=D.dropWhile is0:=by unfold Lib.trimLeftS;rw[ZzT];rfl
  have e2:Lib.trimRightS P [48]=rz P:=by unfold Lib.trimRightS rz rtr;rw[ZzT];rfl
  rw[e1,e2,ZGV,ZN3];show (bif (!(rz P == ([]:Str)))then _ else Zq2 t (lz D))=_;have hd1:=hok.d1;have hd2:=hok.d2;have hp9:=hok.p;have hol:=ZD3 hd1 hd2 hp9;have hzl:=ZHk hd1;have hrl:=ZDo is0 P;have fin:∀out:Str,out=ZGi D P→Zq2 t out=some (ZJS (neg,D,P),true):=by
   rintro out rfl;unfold Zq2 ZvB ZvA ZJS;have e45:(((b.toNat:Nat):Int) == 45)=neg:=(ZJ2 b 45).trans hb45;rw[hbr,show idx (b::r) 0=some b from rfl,ZN3,e45];dsimp only;cases neg with
   |false=>rw[cond_false,cond_false,Bool.false_and,cond_false]
   |true=>
    rw[cond_true,Bool.true_and];cases (!(ZGi D P == [48]))with
    |false=>rw[cond_false,cond_false]
    |true=>
     rw[cond_true,cond_true,decide_eq_true (by simp only[ZNS];unfold Zr;omega),chk_true];rfl
  cases hP:rz P with
  |nil=>
   rw[show (!(([]:Str) == ([]:Str)))=false from rfl,cond_false];exact fin (lz D) (by unfold ZGi;rw[hP];simp)
  |cons c s=>
   have hrl':(c::s).length≤9:=by rw[←hP];exact Nat.le_trans hrl hp9
   rw[show (!((c::s) == ([]:Str)))=true by simp,cond_true,decide_eq_true (show ([46]:Str).length+(c::s).length≤Zr by simp only[ZNS];unfold Zr;omega),chk_true];show chk (decide ((lz D).length+(([46]:Str)++(c::s)).length≤Zr)) (Zq2 t (lz D++(([46]:Str)++(c::s))))=_;rw[decide_eq_true (by rw[ZNN];simp only[ZNS];unfold Zr;omega),chk_true];exact fin _ (by unfold ZGi;rw[hP];rfl)
theorem ZGX {x:Bool×Str×Str} (h:ZDI x.2.1 x.2.2):(ZJS x).length≤26:=by
 have:=ZD3 h.d1 h.d2 h.p;unfold ZJS;cases (x.1&& !(ZGi x.2.1 x.2.2 == [48]))with
 |true=>rw[cond_true];simp only[ZNO];omega
 |false=>rw[cond_false];omega
def ZB8 (s:Str):Option Str:=(ZBb (ZDi s)).map ZJS
def ZL5 (s:Str):Option Rat:=match ZB8 s with
 |some t=>(ZBb t).map ZMd
 |none=>none
theorem ZEH {s t:Str} (h:ZB8 s=some t):t.length≤26:=by
 unfold ZB8 at h;cases hp:ZBb (ZDi s)with
 |none=>rw[hp]at h;cases h
 |some x=>
  rw[hp]at h;simp only[Option.map_some,ZN5]at h;subst h;obtain⟨_,h2⟩:=ZAj hp;exact ZGX (ZzS (D:=x.2.1) (P:=x.2.2) h2)
theorem ZFO {s:Str} (hl:s.length≤9223372036854775807):Zs2 4 s=some (match ZB8 s with |some t=>(t,true) |none=>([],false)):=by
 have h:Zs2 4 s=(Zyt s).bind fun q=>(ZvP q).bind fun(a,b)=>some (a,b):=by kernel_rfl
 have hl2:=ZE6 s;rw[h,ZDj,ZN3,ZDw (by omega),ZN3];unfold ZB8;cases ZBb (ZDi s)<;>rfl
theorem ZE1 {s:Str} (hl:s.length≤9223372036854775807):Zw7 4 s=some (match ZL5 s with |some q=>(fOf q,true) |none=>(zf,false)):=by
 have h:Zw7 4 s=(Zs2 4 s).bind fun(t,ok)=>bif (!ok)then some (zf,false)else (Zsu t).bind fun(a,b)=>some (a,b):=by kernel_rfl
 rw[h,ZFO hl,ZN3];unfold ZL5;cases hc:ZB8 s with
 |none=>rfl
 |some t=>
  have:=ZEH hc;dsimp only;rw[ZKg,cond_false,ZB5 (by omega),ZN3];cases ZBb t<;>rfl
def ZGW (c:ZoR):Option Rat:=bif c.Null then none else ZL5 c.Text
theorem ZBw {c:ZoR} (hl:c.Text.length≤9223372036854775807):Zzq c=some (match ZGW c with |some q=>(fOf q,true) |none=>(bif c.Null then fOf 0 else zf,false)):=by
 unfold Zzq ZGW;cases c.Null with
 |true=>rw[cond_true,ZAN,ZN3];rfl
 |false=>
  rw[cond_false,ZE1 hl,ZN3];cases ZL5 c.Text<;>rfl
end Go.Proofs
namespace Go.Proofs
open Go Eng
def Zvz (name:Str):List Str:=Zxx (Zzi (name++[32]) [])
def ZCO (l:List ZoR):List Str:=(l.filter fun x=> !x.Null).map fun x=>x.Text
def Zsa (l:List ZoR):List Str:=Zxx (ZCO l)
theorem ZDM {name:Str} (h:name.length≤1000000):Zrb name=some (Zvz name):=by unfold Zrb;rw[ZwJ,decide_eq_true (by omega)];rfl
theorem ZCL {c:ZoJ} (h:c.Cells.length≤1000000):ZsA c=some (Zsa c.Cells):=by unfold ZsA;rw[ZwJ,decide_eq_true (by omega)];rfl
theorem ZBk:∀(s cur:List UInt8),(Zzi s cur).length≤s.length
 | [],cur=>by simp[Zzi]
 |b::s,cur=>by
  have h1:=ZBk s [];have h3:=ZBk s (cur++[xwC b]);unfold Zzi;cases xwC b == 0 with
  |true=>
   rw[cond_true];cases cur.isEmpty with
   |true=>rw[cond_true];simp;omega
   |false=>rw[cond_false];simp;omega
  |false=>rw[cond_false];simp;omega
theorem ZBS (l:List (List UInt8)):(Zxx l).length≤l.length:=by
 have h:∀l:List (List UInt8),(ZxD l).length≤l.length:=by
  intro l
  induction l with
  |nil=>simp[ZxD]
  |cons x r ih=>
   unfold ZxD;cases r.contains x with
   |true=>rw[cond_true];simp;omega
   |false=>rw[cond_false];simp;omega
 unfold Zxx;rw[List.length_mergeSort];exact h l
theorem Zz5 (name:Str):(Zvz name).length≤name.length+1:=by have h1:=ZBS (Zzi (name++[32]) []);have h2:=ZBk (name++[32]) [];simp only[ZNN,ZNS]at h2;exact Nat.le_trans h1 h2
theorem Zzj (l:List ZoR):(Zsa l).length≤l.length:=by have h1:=ZBS (ZCO l);unfold ZCO at h1;rw[ZNR]at h1;exact Nat.le_trans h1 (ZNQ _ _)
theorem ZC6 {a b:List Str} (ha:a.Nodup) (hb:b.Nodup):comm a b=comm b a:=by unfold comm;refine List.Perm.length_eq ((List.perm_ext_iff_of_nodup (ha.filter _) (hb.filter _)).2 fun x=> ?_);simp only[ZNW,List.contains_iff_mem];exact And.comm
theorem ZFI (a:List Str):comm a a=a.length:=by unfold comm;rw[List.filter_eq_self.2];intro x hx;exact List.contains_iff_mem.2 hx
def Zxt (a b:List Str):Rat:=Rat.divInt (comm a b:Int) (max (a.length+b.length - comm a b) 1:Nat)
theorem ZD2 {a b:List Str} (hb:Srt b) (hla:a.length≤1000000) (hlb:b.length≤1000000):ZtU a b=some (fOf (Zxt a b)):=by
 have hc:=ZBG a b;unfold ZtU;rw[ZFe hb (by omega) (by omega),ZN3,ZoS (by omega),ZoS (by omega),chk_true,chk_true];have e:(if (1:Int) > (((a.length:Int)+(b.length:Int)) - (comm a b:Int))then (1:Int)else (((a.length:Int)+(b.length:Int)) - (comm a b:Int)))=((max (a.length+b.length - comm a b) 1:Nat):Int):=by
  rcases Nat.lt_or_ge (a.length+b.length - comm a b) 1 with h |h
  ·rw[if_pos (by omega),Nat.max_eq_right (by omega)];rfl
  ·rw[Nat.max_eq_left h];split<;>omega
 rw[e,ZAF _ _ (by omega) (by omega) (by omega) (by omega) (by omega),ZN3];rfl
theorem ZFH {a b c d:Int} (hb:0 < b) (hd:0 < d):Rat.divInt a b≤Rat.divInt c d↔a*d≤c*b:=by
 rw[Rat.divInt_eq_div,Rat.divInt_eq_div];have hB:(0:Rat) < (b:Rat):=by rw[show ((0:Rat))=(((0:Int)):Rat)from rfl];exact Rat.intCast_lt_intCast.2 hb
 have hD:(0:Rat) < (d:Rat):=by rw[show ((0:Rat))=(((0:Int)):Rat)from rfl];exact Rat.intCast_lt_intCast.2 hd
 have hBD:=Rat.mul_pos hB hD;have e1:(b:Rat)*((a:Rat) / (b:Rat))=a:=by grind
 have e2:(d:Rat)*((c:Rat) / (d:Rat))=c:=by grind
 have e3:a*d≤c*b↔(a:Rat)*(d:Rat)≤(c:Rat)*(b:Rat):=by rw[←Rat.intCast_mul,←Rat.intCast_mul,Rat.intCast_le_intCast]
 rw[e3];clear e3;generalize (a:Rat) / (b:Rat)=x at e1⊢
 generalize (c:Rat) / (d:Rat)=y at e2⊢
 generalize (a:Rat)=A at*
 generalize (b:Rat)=B at*
 generalize (c:Rat)=C at*
 generalize (d:Rat)=D at*
 subst e1 e2;have e:(y - x)*(B*D)=D*y*B - B*x*D:=by grind
 constructor
 ·intro h;have h1:0≤(y - x)*(B*D):=Rat.mul_nonneg (by grind) (by grind);rw[e]at h1;grind
 ·intro h;apply Rat.not_lt.1;intro hx;have h1:0 < (x - y)*(B*D):=Rat.mul_pos (by grind) hBD;have e':(x - y)*(B*D)=B*x*D - D*y*B:=by grind
  rw[e']at h1;grind
theorem ZAL {n d:Nat} (hd:0 < d) (h:n≤d):0≤Rat.divInt (n:Int) (d:Int)∧Rat.divInt (n:Int) (d:Int)≤1:=by
 have h1:Rat.divInt 1 1=1:=by decide+kernel
 exact⟨Rat.divInt_nonneg (by omega) (by omega),by rw[←h1];exact(ZFH (by omega) (by decide)).2 (by omega)⟩
theorem ZAA {a b:List Str} (hb:b.Nodup) (ha:a.Nodup):0≤Zxt a b∧Zxt a b≤1:=by have h1:=ZBG a b;have h2:=ZBG b a;rw[ZC6 hb ha]at h2;exact ZAL (by omega) (by omega)
theorem ZBr {a b:List Str} (ha:a.Nodup) (hb:b.Nodup):Zxt a b=Zxt b a:=by unfold Zxt;rw[ZC6 ha hb,Nat.add_comm]
theorem ZCR {a b:List Str} {k:Nat} (hk:a.length+b.length < 2 ^ k) (h1:1 < 2 ^ k):Sz k (Zxt a b):=by have:=ZBG a b;exact ZAu (by omega) (by omega) (by omega)
theorem ZBs {a:List Str}:Zxt a a=if a=[]then 0 else 1:=by
 unfold Zxt;rw[ZFI];cases a with
 |nil=>rw[if_pos rfl];decide+kernel
 |cons x r=>
  rw[if_neg (by simp)];have e:max ((x::r).length+(x::r).length - (x::r).length) 1=(x::r).length:=by simp
  rw[e,Rat.divInt_self' (by simp only[ZNO];omega)]
noncomputable def isN (c:ZoR):Bool:=(ZGW c).isSome
noncomputable def ZAX (l:List ZoR):Nat:=(l.filter fun x=> !x.Null).length
noncomputable def ZHh (l:List ZoR):Nat:=(l.filter fun x=> !x.Null&&isN x).length
noncomputable def Zws (l:List ZoR):Rat:=Rat.divInt (ZHh l:Int) (max (ZAX l) 1:Nat)
theorem ZCr (l:List ZoR):ZHh l≤ZAX l:=by unfold ZHh ZAX;rw[show (fun x:ZoR=> !x.Null&&isN x)=fun x=>(isN x)&& !x.Null from funext fun x=>Bool.and_comm _ _,←List.filter_filter];exact ZNQ _ _
theorem ZCt (l:List ZoR):ZAX l≤l.length:=ZNQ _ _
theorem ZDX {c:ZoJ} (hc:∀x∈c.Cells,x.Text.length≤9223372036854775807) (hl:c.Cells.length≤1000):ZsH c=some (fOf (Zws c.Cells)):=by
 unfold ZsH;rw[ZwJ];refine Zqy ?_;unfold Zxc;rw[ZoN];refine Zo4 (ZwH Zy1 c.Cells (by omega) (fun i (s:Nat×Nat)=>((s.1:Int),(s.2:Int),c.Cells,(c.Cells.length:Int),i,false,false,([]:List Int),([]:List Int))) (fun k s=>s.1=ZAX (c.Cells.take k)∧s.2=ZHh (c.Cells.take k))
  (Q:=fun x=>x=((ZAX c.Cells:Int),(ZHh c.Cells:Int),false,false,([]:List Int),([]:List Int))) (0,0) ⟨by simp[ZAX],by simp[ZHh]⟩ ?_ ?_) ?_
 ·rintro rec k ⟨f,n⟩ hk ⟨hf,hn⟩ ih;dsimp only at hf hn ih;unfold ZuZ ZsQ Zsh;dsimp only;have hs:c.Cells.take (k+1)=c.Cells.take k++[c.Cells[k]]:=ZN1 hk;have b1:=ZCt (c.Cells.take k);have b2:=ZCr (c.Cells.take k);rw[List.length_take]at b1;have e1:ZAX (c.Cells.take (k+1))=f+(bif c.Cells[k].Null then 0 else 1):=by rw[hs,hf];unfold ZAX;rw[List.filter_append,ZNN];cases h:c.Cells[k].Null<;>simp[ZNI,h]
  have e2:ZHh (c.Cells.take (k+1))=n+(bif !c.Cells[k].Null&&isN c.Cells[k]then 1 else 0):=by rw[hs,hn];unfold ZHh;rw[List.filter_append,ZNN];cases h:(!c.Cells[k].Null&&isN c.Cells[k])<;>simp[ZNI,h]
  rw[decide_eq_true (show (k:Int) < (c.Cells.length:Int) by omega),cond_true,Zto hk,ZN3];cases hnul:c.Cells[k].Null with
  |true=>
   rw[hnul]at e1 e2;rw[cond_true,ZoO];exact⟨ZoS (by omega),ih (f,n) ⟨by rw[e1];rfl,by rw[e2];rfl⟩⟩
  |false=>
   rw[hnul]at e1 e2;rw[cond_false,ZoO];refine⟨ZoS (by omega), ?_⟩;cases hv:ZGW c.Cells[k]with
   |some q=>
    have hi:isN c.Cells[k]=true:=by unfold isN;rw[hv];rfl
    rw[hi]at e2;rw[ZBw (hc _ (ZNM hk)),hv,ZN3];dsimp only;rw[cond_true,ZoO,ZoO];refine⟨ZoS (by omega),ZoS (by omega), ?_⟩;have:=ih (f+1,n+1) ⟨by rw[e1];rfl,by rw[e2];rfl⟩
    rwa [show ((f+1:Nat):Int)=(f:Int)+1 by omega,show ((n+1:Nat):Int)=(n:Int)+1 by omega]at this
   |none=>
    have hi:isN c.Cells[k]=false:=by unfold isN;rw[hv];rfl
    rw[hi]at e2;rw[ZBw (hc _ (ZNM hk)),hv,ZN3];dsimp only;rw[cond_false,ZoO];refine⟨ZoS (by omega), ?_⟩;have:=ih (f+1,n) ⟨by rw[e1];rfl,by rw[e2];rfl⟩
    rwa [show ((f+1:Nat):Int)=(f:Int)+1 by omega]at this
 ·rintro rec ⟨f,n⟩ ⟨hf,hn⟩;dsimp only at hf hn;unfold ZuZ ZsQ;dsimp only;rw[decide_eq_false (show ¬(c.Cells.length:Int) < (c.Cells.length:Int) by omega),cond_false,ZoK,hf,hn,ZN0]
 ·rintro x rfl;have b1:=ZCt c.Cells;have b2:=ZCr c.Cells;dsimp only;unfold ZvW;have e:(if (1:Int) > (ZAX c.Cells:Int)then (1:Int)else (ZAX c.Cells:Int))=((max (ZAX c.Cells) 1:Nat):Int):=by
   rcases Nat.lt_or_ge (ZAX c.Cells) 1 with h |h
   ·rw[if_pos (by omega),Nat.max_eq_right (by omega)];rfl
   ·rw[Nat.max_eq_left h];split<;>omega
  rw[e,ZAF _ _ (by omega) (by omega) (by omega) (by omega) (by omega),ZN3,ZoK];rfl
theorem ZAw (l:List ZoR):0≤Zws l∧Zws l≤1:=by have:=ZCr l;exact ZAL (by omega) (by omega)
theorem ZAv {l:List ZoR} {k:Nat} (h:l.length < 2 ^ k) (h1:1 < 2 ^ k):Sz k (Zws l):=by have b1:=ZCt l;have b2:=ZCr l;exact ZAu (by omega) (by omega) (by omega)
end Go.Proofs
namespace Go.Proofs
open Go Eng
theorem ZCS {a:Rat}:(ZDp a 0 == 0)=decide (a=0):=by
 unfold ZDp
 by_cases h:a < 0
 ·rw[if_pos h,decide_eq_false (by grind)];rfl
 ·rw[if_neg h]
  by_cases h2:0 < a
  ·rw[if_pos h2,decide_eq_false (by grind)];rfl
  ·rw[if_neg h2,decide_eq_true (by grind)];rfl
theorem ZCT (a b:Rat):(ZDp a b < 0)↔a < b:=by
 unfold ZDp
 by_cases h:a < b
 ·rw[if_pos h];exact⟨fun _=>h,fun _=>by decide⟩
 ·rw[if_neg h];refine⟨fun h2=> ?_,fun h2=>absurd h2 h⟩;split at h2<;>exact absurd h2 (by decide)
def ofQ (v n s t:Rat):Rat:=if v=0∧n=0 then 0 else (v+v+n+(1 - ZG0 (s - t))) / 4
noncomputable def ZA6 (a b:ZoJ):Rat:=ofQ (Zxt (Zsa a.Cells) (Zsa b.Cells)) (Zxt (Zvz a.Name) (Zvz b.Name)) (Zws a.Cells) (Zws b.Cells)
structure ZBR (a:ZoJ):Prop where
 name:a.Name.length≤300
 rows:a.Cells.length≤100
 cells:∀x∈a.Cells,x.Text.length≤9223372036854775807
theorem ZzJ (s:Str):Srt (Zvz s):=ZFb _
theorem ZyZ (l:List ZoR):Srt (Zsa l):=ZFb _
theorem ZH0 {a b:ZoJ} (ha:a.Cells.length≤100) (hb:b.Cells.length≤100):ZuY a b=some (fOf (Zxt (Zsa a.Cells) (Zsa b.Cells))):=by have h1:=Zzj a.Cells;have h2:=Zzj b.Cells;unfold ZuY;rw[ZCL (by omega),ZN3,ZCL (by omega),ZN3,ZD2 (ZyZ _) (by omega) (by omega),ZN3]
theorem ZGD {a b:Str} (ha:a.length≤300) (hb:b.length≤300):ZvG a b=some (fOf (Zxt (Zvz a) (Zvz b))):=by have h1:=Zz5 a;have h2:=Zz5 b;unfold ZvG;rw[ZDM (by omega),ZN3,ZDM (by omega),ZN3,ZD2 (ZzJ _) (by omega) (by omega),ZN3]
theorem ZE2 {a b:ZoJ} (ha:a.Cells.length≤100) (hb:b.Cells.length≤100):Sz 10 (Zxt (Zsa a.Cells) (Zsa b.Cells)):=by have h1:=Zzj a.Cells;have h2:=Zzj b.Cells;exact ZCR (by omega) (by decide)
theorem ZD5 {a b:Str} (ha:a.length≤300) (hb:b.length≤300):Sz 10 (Zxt (Zvz a) (Zvz b)):=by have h1:=Zz5 a;have h2:=Zz5 b;exact ZCR (by omega) (by decide)
theorem ZBp:Sz 1 1:=by unfold Sz;decide
theorem ZIv:Zxe 1 1=some (fOf 1):=by
 have:=ZAF 1 1 (by decide) (by decide) (by decide) (by decide) (by decide)
 rwa [show Rat.divInt 1 1=1 by decide+kernel]at this
theorem ZIu:Zxe 4 1=some (fOf 4):=by
 have:=ZAF 4 1 (by decide) (by decide) (by decide) (by decide) (by decide)
 rwa [show Rat.divInt 4 1=4 by decide+kernel]at this
theorem ZE9:Sz 3 4:=by unfold Sz;decide
theorem ZFZ {x:Rat} {k:Nat} (h:Sz k x) (hk:1≤k):Sz (k+2) (ZG0 x):=by
 unfold ZG0;split
 ·have:=ZBo.add h.neg;rw[show (0:Rat) - x=0+ -x by grind];exact this.mono (by omega)
 ·exact h.mono (by omega)
theorem ZKk {v n ap:Rat} (hv:Sz 10 v) (hn:Sz 10 n) (ha:Sz 30 ap):ZtV false false (fOf v) (fOf n) (fOf ap) [] []=some (fOf ((v+v+n+(1 - ap)) / 4)):=by
 unfold ZtV;have h1:=hv.add hv;have h2:=h1.add hn;have h3:Sz 32 (1 - ap):=by rw[show (1:Rat) - ap=1+ -ap by grind];exact(ZBp.add ha.neg).mono (by decide)
 have h4:=h2.add h3;rw[ZAG hv hv (by decide),ZN3,ZAG h1 hn (by decide),ZN3,ZIv,ZN3,ZBx ZBp ha (by decide),ZN3,ZAG h2 h3 (by decide),ZN3,ZIu,ZN3,
  ZC0 (by decide) h4 ZE9 (by decide),ZN3]
theorem ZKl {a b:ZoJ} (ha:ZBR a) (hb:ZBR b) {v n:Rat} (hv:Sz 10 v) (hn:Sz 10 n):
  Zsr false a b false false (fOf v) (fOf n) [] []=some (fOf ((v+v+n+(1 - ZG0 (Zws a.Cells - Zws b.Cells))) / 4)):=by
 unfold Zsr;have hr1:=ha.rows;have hr2:=hb.rows;have h1:Sz 10 (Zws a.Cells):=ZAv (by omega) (by decide);have h2:Sz 10 (Zws b.Cells):=ZAv (by omega) (by decide);have h3:Sz 21 (Zws a.Cells - Zws b.Cells):=by rw[Rat.sub_eq_add_neg];exact h1.add h2.neg
 rw[cond_false,ZDX ha.cells (by omega),ZN3,ZDX hb.cells (by omega),ZN3,ZBx h1 h2 (by decide),ZN3,ZAO (h3.wq (by decide)),ZN3];have h4:=ZFZ h3 (by decide);unfold ZG0 at h4⊢
 by_cases h:Zws a.Cells - Zws b.Cells < 0
 ·rw[decide_eq_true ((ZCT _ _).2 h),cond_true,ZAN,ZN3,ZBx ZBo h3 (by decide),ZN3];rw[if_pos h]at h4⊢
  exact ZKk hv hn (h4.mono (by decide))
 ·rw[decide_eq_false (fun h5=>h ((ZCT _ _).1 h5)),cond_false];rw[if_neg h]at h4⊢
  exact ZKk hv hn (h4.mono (by decide))
theorem ZKR {a b:ZoJ} (ha:ZBR a) (hb:ZBR b):Zxd a b=some (fOf (ZA6 a b)):=by
 unfold Zxd ZA6 ofQ;have hv:=ZE2 ha.rows hb.rows;have hn:=ZD5 ha.name hb.name;rw[ZH0 ha.rows hb.rows,ZN3,ZGD ha.name hb.name,ZN3,ZAO (hv.wq (by decide)),ZN3,ZCS]
 by_cases h1:Zxt (Zsa a.Cells) (Zsa b.Cells)=0
 ·rw[decide_eq_true h1,cond_true,ZAO (hn.wq (by decide)),ZN3,ZCS]
  by_cases h2:Zxt (Zvz a.Name) (Zvz b.Name)=0
  ·rw[decide_eq_true h2,if_pos ⟨h1,h2⟩];unfold Zsr;rw[cond_true,ZAN,ZN3]
  ·rw[decide_eq_false h2,if_neg (fun h=>h2 h.2)];exact ZKl ha hb hv hn
 ·rw[decide_eq_false h1,cond_false,if_neg (fun h=>h1 h.1)];exact ZKl ha hb hv hn
theorem ZEy {v n s t:Rat} (hv:0≤v∧v≤1) (hn:0≤n∧n≤1) (hs:0≤s∧s≤1) (ht:0≤t∧t≤1):0≤ofQ v n s t∧ofQ v n s t≤1:=by
 unfold ofQ ZG0;split
 ·constructor<;>decide
 ·split<;>constructor<;>grind
theorem ZGC {v n s t:Rat}:ofQ v n s t=ofQ v n t s:=by
 unfold ofQ ZG0;split
 ·rfl
 ·congr 3;split<;>split<;>grind
theorem ZFJ (a b:ZoJ):ZA6 a b=ZA6 b a:=by unfold ZA6;rw[ZBr (ZyZ a.Cells).2 (ZyZ b.Cells).2,ZBr (ZzJ a.Name).2 (ZzJ b.Name).2,ZGC]
theorem ZDy (a b:ZoJ):0≤ZA6 a b∧ZA6 a b≤1:=
 ZEy (ZAA (ZyZ _).2 (ZyZ _).2) (ZAA (ZzJ _).2 (ZzJ _).2) (ZAw _) (ZAw _)
theorem ZBH (a:ZoJ):ZA6 a a=if Zvz a.Name=[]then (if Zsa a.Cells=[]then 0 else 3 / 4)else (if Zsa a.Cells=[]then 1 / 2 else 1):=by
 unfold ZA6;rw[ZBs,ZBs];unfold ofQ ZG0;have e:Zws a.Cells - Zws a.Cells=0:=by grind
 rw[e]
 by_cases h1:Zvz a.Name=[]<;>by_cases h2:Zsa a.Cells=[]<;>simp only[h1,h2,if_true,if_false]<;>decide+kernel
theorem ZIQ {a b:ZoJ} (ha:ZBR a) (hb:ZBR b):Sz 100 (ZA6 a b):=by
 unfold ZA6 ofQ;have hr1:=ha.rows;have hr2:=hb.rows;have hv:=ZE2 ha.rows hb.rows;have hn:=ZD5 ha.name hb.name;have h1:Sz 10 (Zws a.Cells):=ZAv (by omega) (by decide);have h2:Sz 10 (Zws b.Cells):=ZAv (by omega) (by decide);have h3:Sz 21 (Zws a.Cells - Zws b.Cells):=by rw[Rat.sub_eq_add_neg];exact h1.add h2.neg
 have h4:=ZFZ h3 (by decide);split
 ·exact ZBo.mono (by decide)
 ·have h5:Sz 32 (1 - ZG0 (Zws a.Cells - Zws b.Cells)):=by rw[Rat.sub_eq_add_neg];exact(ZBp.add h4.neg).mono (by decide)
  exact(Sz.div (by decide) (((hv.add hv).add hn).add h5) ZE9).mono (by decide)
end Go.Proofs
namespace Go.Proofs
open Go Eng
theorem ZDK {l r:List Str} (h1:r.Pairwise (fun a b=>a≤b)) (h2:r.Nodup) (h:∀x,x∈l↔x∈r):Zxx l=r:=
 Zzn (Zz3 l) h1 (ZxF l) h2 fun x=>by rw[Zw6,h]
theorem ZFx:Zp3 1=some (fOf 1):=ZGM 1 (by decide) (by decide)
end Go.Proofs
namespace Go.Proofs
open Go Eng
abbrev fkT:Ty:= .st 7
abbrev fvT:Ty:= .st 4
abbrev ZEf:=List (ZoQ×ZoF)
abbrev lkF (m:ZEf) (x:ZoQ):Option ZoF:=Zhx (q:=ZBO) (k:=fkT) (v:=fvT) (car:=Zvg) m x
abbrev stF (m:ZEf) (x:ZoQ) (y:ZoF):ZEf:=setB (q:=ZBO) (k:=fkT) (v:=fvT) (car:=Zvg) m x y
theorem ZIA (m:ZEf) (x y:ZoQ) (v:ZoF):lkF (stF m x v) y=if y=x then some v else lkF m y:=by
 have hk:∀a b:ZoQ,Zl3 (car:=Zvg) ZBO fkT a b=decide (a=b):=by
  intro a b;obtain⟨a0,a1⟩:=a;obtain⟨b0,b1⟩:=b;show (a0 == b0&&a1 == b1)=_
  by_cases h0:a0=b0<;>by_cases h1:a1=b1<;>simp[h0,h1]
 have look:∀m:ZEf,lkF m y=(m.find? fun e=>decide (y=e.1)).map (·.2):=fun m=>by show ((m.find? fun e=>Zl3 (car:=Zvg) ZBO fkT y e.1)).map (·.2)=_;simp only[hk]
 rw[look,look];have hs:stF m x v=if m.any (fun e=>decide (x=e.1))then m.map (fun e=>if x=e.1 then (e.1,v)else e)else m++[(x,v)]:=by show (if m.any (fun e=>Zl3 (car:=Zvg) ZBO fkT x e.1)then m.map (fun e=>if Zl3 (car:=Zvg) ZBO fkT x e.1 then (e.1,v)else e)else m++[(x,v)])=_;simp only[hk,decide_eq_true_eq]
 rw[hs];split
 ·rename_i h
  induction m with
  |nil=>simp at h
  |cons e r ih=>
   simp only[ZNU,List.find?_cons]
   by_cases h1:x=e.1
   ·simp only[if_pos h1]
    by_cases h2:y=e.1
    ·simp[h2,h1]
    ·have h3:¬y=x:=fun h=>h2 (h.trans h1)
     simp only[decide_eq_false h2,if_neg h3];clear ih h hs look
     induction r with
     |nil=>rfl
     |cons e' r ih=>
      simp only[ZNU,List.find?_cons]
      by_cases h4:x=e'.1
      ·have h5:¬y=e'.1:=fun h=>h3 (h.trans h4.symm)
       simp only[if_pos h4,decide_eq_false h5];exact ih
      ·simp only[if_neg h4]
       by_cases h5:y=e'.1
       ·simp[h5]
       ·simp only[decide_eq_false h5];exact ih
   ·simp only[if_neg h1]
    by_cases h2:y=e.1
    ·have h3:¬y=x:=fun h=>h1 (h.symm.trans h2)
     simp[h2,Ne.symm h1]
    ·simp only[decide_eq_false h2];have h':(r.any fun e=>decide (x=e.1))=true:=by simpa[h1]using h
     exact ih (by
      show (if r.any (fun e=>Zl3 (car:=Zvg) ZBO fkT x e.1)then r.map (fun e=>if Zl3 (car:=Zvg) ZBO fkT x e.1 then (e.1,v)else e)else r++[(x,v)])=_;simp only[hk,decide_eq_true_eq]) h'
 ·rename_i h;simp only[List.any_eq_true,decide_eq_true_eq,not_exists,not_and]at h;rw[List.find?_append]
  by_cases h2:y=x
  ·subst h2;have:(m.find? fun e=>decide (y=e.1))=none:=List.find?_eq_none.2 fun e he=>by simpa using h e he
   simp[this]
  ·simp[h2]
def ZKW (u k:Nat):Bool:=(u >>> k)&&& 1 == 1
def ZDY (u k:Nat):Nat:=u|||(1 <<< k)
theorem ZCx:∀u:Fin 256,∀k:Fin 8,(andK .i64 (shrK .i64 (u.val:Int) (k.val:Int)) 1 == 1)=ZKW u.val k.val∧orK .i64 (u.val:Int) (shlK .i64 1 (k.val:Int))=(ZDY u.val k.val:Nat)∧ZDY u.val k.val < 256:=by decide+kernel
theorem ZIS {u k:Nat} (hu:u < 256) (hk:k < 8):(andK .i64 (shrK .i64 (u:Int) (k:Int)) 1 == 1)=ZKW u k:=(ZCx ⟨u,hu⟩ ⟨k,hk⟩).1
theorem ZFg {u k:Nat} (hu:u < 256) (hk:k < 8):orK .i64 (u:Int) (shlK .i64 1 (k:Int))=(ZDY u k:Nat):=(ZCx ⟨u,hu⟩ ⟨k,hk⟩).2.1
theorem ZFf {u k:Nat} (hu:u < 256) (hk:k < 8):ZDY u k < 256:=(ZCx ⟨u,hu⟩ ⟨k,hk⟩).2.2
def ZBn (F:Nat→Rat) (u k:Nat) (x:Rat):Option Rat:=if ZKW u k then none else if x=0 then none else some (x+F (ZDY u k))
def goW (F:Nat→Rat) (u:Nat):Nat→List Rat→Rat→Rat
 |_,[],b=>b
 |k,x::r,b=>goW F u (k+1) r (match ZBn F u k x with |some y=>if b < y then y else b |none=>b)
def Zs0:List (List Rat)→Nat→Rat
 | [],_=>0
 |r::rest,u=>goW (Zs0 rest) u 0 r (Zs0 rest u)
def Zz9 (w:List (List Rat)) (m:ZEf):Prop:=∀(i u:Nat) v,lkF m ⟨(i:Int),(u:Int)⟩=some v→v=fOf (Zs0 (w.drop i) u)
theorem ZFC (w:List (List Rat)):Zz9 w []:=fun i u v h=>by cases h
theorem Zz9.set {w:List (List Rat)} {m:ZEf} (h:Zz9 w m) (i u:Nat):Zz9 w (stF m ⟨(i:Int),(u:Int)⟩ (fOf (Zs0 (w.drop i) u))):=by
 intro i' u' v hv;rw[ZIA]at hv;split at hv
 ·rename_i he;simp only[ZoQ.mk.injEq]at he;have h1:i'=i:=by omega
  have h2:u'=u:=by omega
  subst h1 h2;exact(ZN4 hv).symm
 ·exact h i' u' v hv
def Zqi (w:List (List Rat)):List (List ZoF):=w.map fun r=>r.map fOf
structure WOk (s:Nat) (w:List (List Rat)):Prop where
 rows:w.length≤8
 cols:∀r∈w,r.length≤8
 sz:∀r∈w,∀x∈r,Sz s x
 lim:s≤600
theorem ZHm {F:Nat→Rat} {s B u:Nat} (hF:∀u,Sz B (F u)):∀(r:List Rat) (k:Nat) (b:Rat),(∀x∈r,Sz s x)→Sz (s+B+1) b→Sz (s+B+1) (goW F u k r b)
 | [],k,b,_,hb=>hb
 |x::r,k,b,hr,hb=>by
  refine ZHm hF r (k+1) _ (fun y hy=>hr y (by simp[hy])) ?_;unfold ZBn;split
  ·rename_i y hy;split
   ·split at hy
    ·cases hy
    ·split at hy
     ·cases hy
     ·cases hy;exact(hr x (by simp)).add (hF _)
   ·exact hb
  ·exact hb
theorem ZBj {s:Nat}:∀(w:List (List Rat)) (u:Nat),(∀r∈w,∀x∈r,Sz s x)→Sz ((s+1)*w.length+1) (Zs0 w u)
 | [],u,_=>by simpa[Zs0]using ZBo
 |r::rest,u,h=>by
  have ih:=fun u=>ZBj rest u (fun r hr=>h r (by simp[hr]))
  have:(s+1)*(r::rest).length+1=s+((s+1)*rest.length+1)+1:=by rw[ZNO,Nat.mul_succ];omega
  rw[this];exact ZHm ih r 0 _ (h r (by simp)) ((ih u).mono (by omega))
theorem ZAJ {s:Nat} {w:List (List Rat)} (h:WOk s w) (i u:Nat):Sz 7000 (Zs0 (w.drop i) u):=by
 refine(ZBj (w.drop i) u fun r hr=>h.sz r (ZNY hr)).mono ?_;have h1:(w.drop i).length≤8:=by rw[ZNP];have:=h.rows;omega
 have h2:=h.lim;have:(s+1)*(w.drop i).length≤601*8:=Nat.mul_le_mul (by omega) h1;omega
end Go.Proofs
namespace Go.Proofs
open Go Eng
theorem ZEt {a:Rat}:(ZDp a 0 == 0)=decide (a=0):=by
 unfold ZDp
 by_cases h:a < 0
 ·rw[if_pos h,decide_eq_false (by grind)];rfl
 ·rw[if_neg h]
  by_cases h2:0 < a
  ·rw[if_pos h2,decide_eq_false (by grind)];rfl
  ·rw[if_neg h2,decide_eq_true (by grind)];rfl
theorem ZBZ (a b:Rat):decide (ZDp a b > 0)=decide (b < a):=by
 unfold ZDp
 by_cases h:a < b
 ·rw[if_pos h,decide_eq_false (by decide),decide_eq_false (by grind)]
 ·rw[if_neg h]
  by_cases h2:b < a
  ·rw[if_pos h2,decide_eq_true (by decide),decide_eq_true h2]
  ·rw[if_neg h2,decide_eq_false (by decide),decide_eq_false h2]
abbrev RF:=List (List ZoF)→Int→Int→ZEf→Option (ZoF×ZEf)
def ZMr (w:List (List Rat)) (rf:RF) (i:Nat):Prop:=∀(u:Nat) (m:ZEf),u < 256→Zz9 w m→∃m',rf (Zqi w) (i:Int) (u:Int) m=some (fOf (Zs0 (w.drop i) u),m')∧Zz9 w m'
theorem ZAy {w:List (List Rat)} {i:Nat} (h:i < w.length):idx (Zqi w) (i:Int)=some (w[i].map fOf):=by rw[Zto (by simpa[Zqi]using h)];simp[Zqi]
theorem ZFk {r:List Rat} {k:Nat} (h:k < r.length):idx (r.map fOf) (k:Int)=some (fOf r[k]):=by rw[Zto (by simpa using h)];simp
theorem ZE0 {w:List (List Rat)} {s:Nat} (hw:WOk s w) {rf:RF} {i:Nat} (hi:i < w.length) (hrf:ZMr w rf (i+1)) {u k:Nat} (hu:u < 256) (hk:k < w[i].length) {m:ZEf} (hm:Zz9 w m):
  ∃x ok m',Zp5 rf (Zqi w) (i:Int) (u:Int) (k:Int) m=some (x,ok,m')∧Zz9 w m'∧
   (ZBn (Zs0 (w.drop (i+1))) u k w[i][k]=none∧ok=false∨∃y,ZBn (Zs0 (w.drop (i+1))) u k w[i][k]=some y∧ok=true∧x=fOf y):=by
 have hr:=hw.cols _ (ZNM hi);have hk8:k < 8:=by omega
 have hi8:=hw.rows;have hsz:=hw.sz _ (ZNM hi) _ (ZNM hk);have hlim:=hw.lim;have hj1:∀b1 b2 l1 l2,ZpG rf (Zqi w) (i:Int) (u:Int) (k:Int) true m b1 b2 l1 l2=some (fOf 0,false,m):=by intro b1 b2 l1 l2;unfold ZpG;rw[ZAN];rfl
 unfold Zp5;rw[show decide (0≤(k:Int))=true from decide_eq_true (by omega),ZIS hu hk8];show ∃x ok m',(bif ZKW u k then _ else _)=_∧_;cases hb:ZKW u k with
 |true=>
  refine⟨_,_,_,hj1 false false [] [],hm,.inl ⟨?_,rfl⟩⟩;unfold ZBn;rw[if_pos hb]
 |false=>
  simp only[cond_false];rw[ZAy hi,ZN3,ZFk hk,ZN3,ZAO (hsz.wq (by omega)),ZN3,ZEt]
  by_cases hz:w[i][k]=0
  ·rw[decide_eq_true hz];refine⟨_,_,_,hj1 false false [] [],hm,.inl ⟨?_,rfl⟩⟩;unfold ZBn;rw[if_neg (by simp[hb]),if_pos hz]
  ·rw[decide_eq_false hz];obtain⟨m',hr1,hm'⟩:=hrf (ZDY u k) m (ZFf hu hk8) hm;unfold ZpG;simp only[cond_false];have hin:inK .i64 ((i:Int)+1)=true:=ZoS (by omega);rw[ZAy hi,ZN3,ZFk hk,ZN3,hin,show decide (0≤(k:Int))=true from decide_eq_true (by omega),ZFg hu hk8];show ∃x ok m',((rf (Zqi w) ((i:Int)+1) (ZDY u k:Nat) m).bind _)=_∧_;rw[show ((i:Int)+1)=((i+1:Nat):Int) by omega,hr1,ZN3];dsimp only;rw[ZAG hsz (ZAJ hw (i+1) (ZDY u k)) (by omega),ZN3];refine⟨_,_,_,rfl,hm',.inr ⟨_, ?_,rfl,rfl⟩⟩;unfold ZBn;rw[if_neg (by simp[hb]),if_neg hz]
theorem ZGP {w:List (List Rat)} {s:Nat} (hw:WOk s w) {rf:RF} {i:Nat} (hi:i < w.length) (hrf:ZMr w rf (i+1)) {u:Nat} (hu:u < 256) (t6 t6_1:Bool) (key:ZoQ) (l1 l2:List Int):
  ∀(d k n:Nat) (m:ZEf) (b:Rat),k+d=w[i].length→d < n→Zz9 w m→Sz (s+((s+1)*(w.drop (i+1)).length+1)+1) b→
   ∃m',ZoW rf n (Zqi w) (i:Int) (u:Int) (w[i].length:Int) (k:Int) m t6 t6_1 key (fOf b) l1 l2=
    some (Zqi w,m',t6,t6_1,key,fOf (goW (Zs0 (w.drop (i+1))) u k (w[i].drop k) b),l1,l2)∧Zz9 w m':=by
 have hB:s+((s+1)*(w.drop (i+1)).length+1)+1≤8000:=by
  have h1:(w.drop (i+1)).length≤8:=by rw[ZNP];have:=hw.rows;omega
  have h2:=hw.lim;have:(s+1)*(w.drop (i+1)).length≤601*8:=Nat.mul_le_mul (by omega) h1;omega
 have h8:=hw.cols _ (ZNM hi);intro d
 induction d with
 |zero=>
  intro k n m b hk hn hm hb;obtain⟨n,rfl⟩:∃n',n=n'+1:=⟨n - 1,by omega⟩;refine⟨m, ?_,hm⟩;rw[ZoW,ZqR,show decide ((k:Int) < (w[i].length:Int))=false from decide_eq_false (by omega),cond_false,show w[i].drop k=[]from ZNH (by omega)];rfl
 |succ d ih=>
  intro k n m b hk hn hm hb;obtain⟨n,rfl⟩:∃n',n=n'+1:=⟨n - 1,by omega⟩;have hkl:k < w[i].length:=by omega
  rw[ZoW,ZqR,show decide ((k:Int) < (w[i].length:Int))=true from decide_eq_true (by omega),cond_true];obtain⟨x,ok,m1,h1,hm1,h2⟩:=ZE0 hw hi hrf hu hkl hm;rw[h1,ZN3];dsimp only;have hin:inK .i64 ((k:Int)+1)=true:=ZoS (by omega);have next:∀(b':Rat),Sz (s+((s+1)*(w.drop (i+1)).length+1)+1) b'→∃m',Zqg rf (ZoW rf n) (Zqi w) (i:Int) (u:Int) (w[i].length:Int) (k:Int) m1 t6 t6_1 key (fOf b') l1 l2=
    some (Zqi w,m',t6,t6_1,key,fOf (goW (Zs0 (w.drop (i+1))) u (k+1) (w[i].drop (k+1)) b'),l1,l2)∧Zz9 w m':=by
   intro b' hb';unfold Zqg;rw[hin];show ∃m',ZoW rf n (Zqi w) (i:Int) (u:Int) (w[i].length:Int) ((k:Int)+1) m1 t6 t6_1 key (fOf b') l1 l2=_∧_;rw[show ((k:Int)+1)=((k+1:Nat):Int) by omega];exact ih (k+1) n m1 b' (by omega) (by omega) hm1 hb'
  have hdrop:w[i].drop k=w[i][k]::w[i].drop (k+1):=ZNG hkl;rw[hdrop];rcases h2 with ⟨ht,rfl⟩ |⟨y,ht,rfl,rfl⟩
  ·simp only[cond_false];unfold Zqh;simp only[cond_false];obtain⟨m',q1,q2⟩:=next b hb
   refine⟨m', ?_,q2⟩;rw[q1,goW,ht]
  ·simp only[cond_true];have hy:Sz (s+((s+1)*(w.drop (i+1)).length+1)+1) y:=by
    unfold ZBn at ht;split at ht
    ·cases ht
    ·split at ht
     ·cases ht
     ·cases ht;exact(hw.sz _ (ZNM hi) _ (ZNM hkl)).add (ZBj _ _ fun r hr=>hw.sz r (ZNY hr))
   rw[ZFK (hy.wq (by omega)) (hb.wq (by omega)),ZN3,ZBZ];unfold Zqh
   by_cases hby:b < y
   ·rw[decide_eq_true hby,cond_true];obtain⟨m',q1,q2⟩:=next y hy
    refine⟨m', ?_,q2⟩;rw[q1,goW,ht];simp only[if_pos hby]
   ·rw[decide_eq_false hby,cond_false];obtain⟨m',q1,q2⟩:=next b hb
    refine⟨m', ?_,q2⟩;rw[q1,goW,ht];simp only[if_neg hby]
theorem ZDu {w:List (List Rat)} {s:Nat} (hw:WOk s w):∀(n i:Nat),i≤w.length→w.length - i < n→ZMr w (ZoP n) i:=by
 intro n
 induction n with
 |zero=>intro i _ h;omega
 |succ n ih=>
  intro i hi hn u m hu hm;have h8:=hw.rows;have hlim:=hw.lim;rw[ZoP,ZtO];have hl:(Zqi w).length=w.length:=by simp[Zqi]
  by_cases he:i=w.length
  ·rw[show ((i:Int) == ((Zqi w).length:Int))=true by rw[hl,he];exact beq_self_eq_true _,cond_true,ZAN,ZN3,show w.drop i=[]from ZNH (by omega)];exact⟨m,rfl,hm⟩
  ·have hlt:i < w.length:=by omega
   rw[show ((i:Int) == ((Zqi w).length:Int))=false by rw[hl];exact beq_false_of_ne (by omega),cond_false]
   change ∃m',(bif (lkF m ⟨(i:Int),(u:Int)⟩).isSome then some ((lkF m ⟨(i:Int),(u:Int)⟩).getD _,m)else _)=_∧_
   cases hlk:lkF m ⟨(i:Int),(u:Int)⟩with
   |some v=>
    rw[hm i u v hlk];exact⟨m,rfl,hm⟩
   |none=>
    have hrf:=ih (i+1) (by omega) (by omega);rw[show (none:Option ZoF).isSome=false from rfl,cond_false,ZoS (n:=(i:Int)+1) (by omega)];show ∃m',((ZoP n (Zqi w) ((i:Int)+1) (u:Int) m).bind _)=_∧_;obtain⟨m1,h1,hm1⟩:=hrf u m hu hm;rw[show ((i:Int)+1)=((i+1:Nat):Int) by omega,h1,ZN3];dsimp only;rw[ZAy hlt,ZN3,ZNR];have hsz:=ZBj (s:=s) (w.drop (i+1)) u fun r hr=>hw.sz r (ZNY hr)
    obtain⟨m2,h2,hm2⟩:=ZGP hw hlt hrf hu false false ⟨(i:Int),(u:Int)⟩ [] [] w[i].length 0 big m1 (Zs0 (w.drop (i+1)) u) (by omega) (by rw[big_eq];have:=hw.cols _ (ZNM hlt);omega) hm1 (hsz.mono (by omega));rw[show ((0:Int))=((0:Nat):Int)from rfl,h2,ZN3];dsimp only;unfold Ztn;have hd:Zs0 (w.drop i) u=goW (Zs0 (w.drop (i+1))) u 0 (w[i].drop 0) (Zs0 (w.drop (i+1)) u):=by rw[ZNG hlt,Zs0,List.drop_zero]
    rw[←hd];exact⟨_,rfl,hm2.set i u⟩
end Go.Proofs
namespace Go.Proofs
open Go Eng
structure ZI5 (s m:Nat) (w:List (List Rat)):Prop extends WOk s w where
 len:∀r∈w,r.length=m
 nn:∀r∈w,∀x∈r,0≤x
theorem ZEu (a b:Rat):decide (ZDp a b < 0)=decide (a < b):=by
 unfold ZDp
 by_cases h:a < b
 ·rw[if_pos h,decide_eq_true (by decide),decide_eq_true h]
 ·rw[if_neg h,decide_eq_false h];split<;>rfl
theorem ZEv (a b:Rat):(ZDp a b == 0)=decide (a=b):=by
 unfold ZDp
 by_cases h:a < b
 ·rw[if_pos h,decide_eq_false (by grind)];rfl
 ·rw[if_neg h]
  by_cases h2:b < a
  ·rw[if_pos h2,decide_eq_false (by grind)];rfl
  ·rw[if_neg h2,decide_eq_true (by grind)];rfl
theorem ZBq (w:List (List Rat)):(Zqi w).length=w.length:=by simp[Zqi]
theorem ZAz {w:List (List Rat)} {k:Nat} (hk:k < (Zqi w).length):(Zqi w)[k]=(w[k]'(by rw[←ZBq w];exact hk)).map fOf:=by simp[Zqi]
theorem ZE3 {w:List (List Rat)} {s m:Nat} (hw:ZI5 s m w):ZvK (Zqi w)=some 0:=by
 have h8:=hw.rows;have hl:=ZBq w;have hlim:=hw.lim;apply Zqy;unfold ZvK;rw[decide_eq_false (show ¬((Zqi w).length:Int) > 8 by omega),cond_false,ZoN];refine Zo4 (ZwH Zzb (Zqi w) (by omega) (fun i (_:Unit)=>(Zqi w,Zqi w,((Zqi w).length:Int),i)) (fun _ _=>True) (Q:=fun x=>x= .brk (Zqi w)) () trivial ?_ ?_) ?_
 ·rintro rec k _ hk _ ih;unfold Zu9 ZsZ;dsimp only;rw[decide_eq_true (show (k:Int) < ((Zqi w).length:Int) by omega),cond_true,Zto hk,ZN3,ZAz hk,ZNR];have:=hw.cols _ (ZNM (by rw[←hl];exact hk:k < w.length));rw[decide_eq_false (by omega),cond_false,ZoO];exact⟨ZoS (by omega),ih () trivial⟩
 ·rintro rec _ _;unfold Zu9 ZsZ;dsimp only;rw[decide_eq_false (show ¬((Zqi w).length:Int) < ((Zqi w).length:Int) by omega),cond_false,ZoK]
 rintro _ rfl;dsimp only;unfold Zwc;rw[ZoN];refine Zo4 (ZwH Zza (Zqi w) (by omega) (fun i (_:Unit)=>(Zqi w,Zqi w,((Zqi w).length:Int),i)) (fun _ _=>True) (Q:=fun x=>x= .brk (Zqi w)) () trivial ?_ ?_) ?_
 ·rintro rec k _ hk _ ih;unfold Zu8 ZsY;dsimp only;have h0:0 < (Zqi w).length:=by omega
  rw[decide_eq_true (show (k:Int) < ((Zqi w).length:Int) by omega),cond_true,Zto hk,ZN3,show (0:Int)=((0:Nat):Int)from rfl,Zto h0,ZN3,ZAz hk,ZAz h0,ZNR,ZNR,
   hw.len _ (ZNM _),hw.len _ (ZNM _),show (((m:Nat):Int) != (m:Int))=false by simp,cond_false,ZoO]
  exact⟨ZoS (by omega),ih () trivial⟩
 ·rintro rec _ _;unfold Zu8 ZsY;dsimp only;rw[decide_eq_false (show ¬((Zqi w).length:Int) < ((Zqi w).length:Int) by omega),cond_false,ZoK]
 rintro _ rfl;dsimp only;unfold Zwb;rw[ZoN];refine Zo4 (ZwH Zy9 (Zqi w) (by omega) (fun i (_:Unit)=>(Zqi w,((Zqi w).length:Int),i)) (fun _ _=>True) (Q:=fun x=>x= .brk ()) () trivial ?_ ?_) ?_
 ·rintro rec k _ hk _ ih;unfold Zu7 ZsX;dsimp only;have hk':k < w.length:=by rw[←hl];exact hk
  rw[decide_eq_true (show (k:Int) < ((Zqi w).length:Int) by omega),cond_true,Zto hk,ZN3,ZAz hk,ZoN];have hc:=hw.cols _ (ZNM hk');refine Zo4 (ZwH Zy8 (w[k].map fOf) (by rw[ZNR];omega) (fun i (_:Unit)=>(Zqi w,((Zqi w).length:Int),(k:Int),w[k].map fOf,((w[k].map fOf).length:Int),i)) (fun _ _=>True)
   (Q:=fun x=>x= .brk (Zqi w,((Zqi w).length:Int),(k:Int))) () trivial ?_ ?_) ?_
  ·rintro rec j _ hj _ ih;unfold Zu6 ZsW;dsimp only;have hj':j < w[k].length:=by simpa using hj
   rw[decide_eq_true (show (j:Int) < ((w[k].map fOf).length:Int) by omega),cond_true,Zto hj,ZN3,ZNL,ZAO ((hw.sz _ (ZNM hk') _ (ZNM hj')).wq (by omega)),ZN3,ZEu,
    decide_eq_false (by have:=hw.nn _ (ZNM hk') _ (ZNM hj');grind),cond_false,ZoO]
   exact⟨ZoS (by omega),ih () trivial⟩
  ·rintro rec _ _;unfold Zu6 ZsW;dsimp only;rw[decide_eq_false (show ¬((w[k].map fOf).length:Int) < ((w[k].map fOf).length:Int) by omega),cond_false,ZoK]
  rintro _ rfl;dsimp only;unfold Zwa;rw[ZoO];exact⟨ZoS (by omega),ih () trivial⟩
 ·rintro rec _ _;unfold Zu7 ZsX;dsimp only;rw[decide_eq_false (show ¬((Zqi w).length:Int) < ((Zqi w).length:Int) by omega),cond_false,ZoK]
 rintro _ rfl;dsimp only;unfold Zv9;exact ZoK.2 rfl
def ZAm (F:Nat→Rat) (u:Nat) (b:Rat):Nat→List Rat→Option Nat
 |_,[]=>none
 |k,x::r=>if ZBn F u k x=some b then some k else ZAm F u b (k+1) r
def ZBf:List (List Rat)→Nat→List Int
 | [],_=>[]
 |r::rest,u=>match ZAm (Zs0 rest) u (Zs0 (r::rest) u) 0 r with
  |some k=>(k:Int)::ZBf rest (ZDY u k)
  |none=>(-1)::ZBf rest u
def ZEA (F:Nat→Rat) (u:Nat) (b:Rat) (r:List Rat):Nat:=match ZAm F u b 0 r with
 |some k=>ZDY u k
 |none=>u
def ZGq (F:Nat→Rat) (u:Nat) (b:Rat) (r:List Rat):Int:=match ZAm F u b 0 r with
 |some k=>(k:Int)
 |none=> -1
theorem ZEI (r:List Rat) (rest:List (List Rat)) (u:Nat):ZBf (r::rest) u=ZGq (Zs0 rest) u (Zs0 (r::rest) u) r::ZBf rest (ZEA (Zs0 rest) u (Zs0 (r::rest) u) r):=by rw[ZBf];unfold ZGq ZEA;cases ZAm (Zs0 rest) u (Zs0 (r::rest) u) 0 r<;>rfl
theorem ZD9 {F:Nat→Rat} {u:Nat} {b:Rat}:∀(r:List Rat) (k j:Nat),ZAm F u b k r=some j→k≤j∧j < k+r.length∧∃x,r[j - k]? =some x∧ZBn F u j x=some b
 | [],k,j,h=>by cases h
 |x::r,k,j,h=>by
  rw[ZAm]at h;split at h
  ·rename_i ht;cases h;exact⟨Nat.le_refl _,by simp,x,by simp,ht⟩
  ·obtain⟨h1,h2,y,h3,h4⟩:=ZD9 r (k+1) j h;refine⟨by omega,by simp;omega,y, ?_,h4⟩;rw[show j - k=(j - (k+1))+1 by omega];simpa using h3
theorem ZFT {w:List (List Rat)} {s:Nat} (hw:WOk s w) {i:Nat} (hi:i < w.length) {u:Nat} (hu:u < 256) (t26:List (List ZoF)) (t27:Int) (t3 t3_1:Bool) (out:List Int) (l1 l2:List Int) {b:Rat} (hb:Sz 7000 b):
  ∀(d k n:Nat) (m:ZEf),k+d=w[i].length→d < n→Zz9 w m→
   ∃m',ZpD n (Zqi w) (u:Int) (i:Int) (-1) t26 t27 (i:Int) (w[i].length:Int) (k:Int) t3 t3_1 m out (fOf b) l1 l2=
    some (Zqi w,(match ZAm (Zs0 (w.drop (i+1))) u b k (w[i].drop k)with |some j=>((ZDY u j:Nat):Int) |none=>(u:Int)),(match ZAm (Zs0 (w.drop (i+1))) u b k (w[i].drop k)with |some j=>(j:Int) |none=> -1),t26,t27,(i:Int),t3,t3_1,m',out,l1,l2)∧Zz9 w m':=by
 have h8:=hw.cols _ (ZNM hi);have hr8:=hw.rows;have hlim:=hw.lim;have hrf:ZMr w (ZoP big) (i+1):=ZDu hw big (i+1) (by omega) (by rw[big_eq];omega);intro d
 induction d with
 |zero=>
  intro k n m hk hn hm;obtain⟨n,rfl⟩:∃n',n=n'+1:=⟨n - 1,by omega⟩;refine⟨m, ?_,hm⟩;rw[ZpD,Zvv,show decide ((k:Int) < (w[i].length:Int))=false from decide_eq_false (by omega),cond_false,show w[i].drop k=[]from ZNH (by omega)];rfl
 |succ d ih=>
  intro k n m hk hn hm;obtain⟨n,rfl⟩:∃n',n=n'+1:=⟨n - 1,by omega⟩;have hkl:k < w[i].length:=by omega
  rw[ZpD,Zvv,show decide ((k:Int) < (w[i].length:Int))=true from decide_eq_true (by omega),cond_true];obtain⟨x,ok,m1,h1,hm1,h2⟩:=ZE0 hw hi hrf hu hkl hm;rw[h1,ZN3];dsimp only;have hin:inK .i64 ((k:Int)+1)=true:=ZoS (by omega);have hdrop:w[i].drop k=w[i][k]::w[i].drop (k+1):=ZNG hkl;have next:∃m',Zrn (ZpD n) (Zqi w) (u:Int) (i:Int) (-1) (k:Int) t26 t27 (i:Int) (w[i].length:Int) (k:Int) false t3 t3_1 m1 out (fOf b) l1 l2=
    some (Zqi w,(match ZAm (Zs0 (w.drop (i+1))) u b (k+1) (w[i].drop (k+1))with |some j=>((ZDY u j:Nat):Int) |none=>(u:Int)),(match ZAm (Zs0 (w.drop (i+1))) u b (k+1) (w[i].drop (k+1))with |some j=>(j:Int) |none=> -1),t26,t27,(i:Int),t3,t3_1,m',out,l1,l2)∧Zz9 w m':=by
   unfold Zrn;rw[cond_false,hin];show ∃m',ZpD n (Zqi w) (u:Int) (i:Int) (-1) t26 t27 (i:Int) (w[i].length:Int) ((k:Int)+1) t3 t3_1 m1 out (fOf b) l1 l2=_∧_;rw[show ((k:Int)+1)=((k+1:Nat):Int) by omega];exact ih (k+1) n m1 (by omega) (by omega) hm1
  rw[hdrop,ZAm];rcases h2 with ⟨ht,rfl⟩ |⟨y,ht,rfl,rfl⟩
  ·simp only[cond_false,ht,reduceCtorEq,if_false];exact next
  ·simp only[cond_true];have hy:Sz 7700 y:=by
    unfold ZBn at ht;split at ht
    ·cases ht
    ·split at ht
     ·cases ht
     ·cases ht;exact((hw.sz _ (ZNM hi) _ (ZNM hkl)).add (ZAJ hw (i+1) (ZDY u k))).mono (by omega)
   rw[ZFK (hy.wq (by omega)) (hb.wq (by omega)),ZN3,ZEv,ht]
   by_cases hby:y=b
   ·rw[decide_eq_true hby,if_pos (by rw[hby])];unfold Zrn;rw[cond_true,show decide (0≤(k:Int))=true from decide_eq_true (by omega),ZFg hu (by omega)];exact⟨m1,rfl,hm1⟩
   ·rw[decide_eq_false hby,if_neg (by simpa using hby)];exact next
theorem ZFS {w:List (List Rat)} {s:Nat} (hw:WOk s w) (t3 t3_1:Bool) (l1 l2:List Int):
  ∀(d i n u:Nat) (m:ZEf) (out:List Int),i+d=w.length→d < n→u < 256→Zz9 w m→out.length=i→
   ∃m',ZpX n (Zqi w) (u:Int) (Zqi w) (w.length:Int) (i:Int) t3 t3_1 m out l1 l2=some (Zqi w,t3,t3_1,m',out++ZBf (w.drop i) u,l1,l2)∧Zz9 w m':=by
 have hr8:=hw.rows;intro d
 induction d with
 |zero=>
  intro i n u m out hi hn hu hm ho;obtain⟨n,rfl⟩:∃n',n=n'+1:=⟨n - 1,by omega⟩;refine⟨m, ?_,hm⟩;rw[ZpX,Zvw,show decide ((i:Int) < (w.length:Int))=false from decide_eq_false (by omega),cond_false,show w.drop i=[]from ZNH (by omega),ZBf,List.append_nil]
 |succ d ih=>
  intro i n u m out hi hn hu hm ho;obtain⟨n,rfl⟩:∃n',n=n'+1:=⟨n - 1,by omega⟩;have hil:i < w.length:=by omega
  have h8:=hw.cols _ (ZNM hil);rw[ZpX,Zvw,show decide ((i:Int) < (w.length:Int))=true from decide_eq_true (by omega),cond_true,ZAy hil,ZN3];obtain⟨m1,h1,hm1⟩:=ZDu hw big i (by omega) (by rw[big_eq];omega) u m hu hm;rw[h1,ZN3];dsimp only;obtain⟨m2,h2,hm2⟩:=ZFT hw hil hu (Zqi w) (w.length:Int) t3 t3_1 out l1 l2 (ZAJ hw i u) w[i].length 0 big m1 (by omega) (by rw[big_eq];omega) hm1;rw[ZNR,show (0:Int)=((0:Nat):Int)from rfl,h2,ZN3,List.drop_zero];dsimp only;have hd:w.drop i=w[i]::w.drop (i+1):=ZNG hil;rw[hd,ZEI,←hd];have e1:(match ZAm (Zs0 (w.drop (i+1))) u (Zs0 (w.drop i) u) 0 w[i]with |some j=>((ZDY u j:Nat):Int) |none=>(u:Int))=((ZEA (Zs0 (w.drop (i+1))) u (Zs0 (w.drop i) u) w[i]:Nat):Int):=by unfold ZEA;cases ZAm (Zs0 (w.drop (i+1))) u (Zs0 (w.drop i) u) 0 w[i]<;>rfl
  have e2:(match ZAm (Zs0 (w.drop (i+1))) u (Zs0 (w.drop i) u) 0 w[i]with |some j=>(j:Int) |none=> -1)=ZGq (Zs0 (w.drop (i+1))) u (Zs0 (w.drop i) u) w[i]:=rfl;have hu2:ZEA (Zs0 (w.drop (i+1))) u (Zs0 (w.drop i) u) w[i] < 256:=by
   unfold ZEA;split
   ·rename_i j hj;have:=(ZD9 _ _ _ hj).2.1;exact ZFf hu (by omega)
   ·exact hu
  rw[e1,e2];unfold ZwG;rw[Zuo (by simp;omega),ZoS (n:=(i:Int)+1) (by omega)];show ∃m',ZpX n (Zqi w) _ (Zqi w) (w.length:Int) ((i:Int)+1) t3 t3_1 m2 _ l1 l2=_∧_;rw[show ((i:Int)+1)=((i+1:Nat):Int) by omega];obtain⟨m',q1,q2⟩:=ih (i+1) n _ m2 (out++[ZGq (Zs0 (w.drop (i+1))) u (Zs0 (w.drop i) u) w[i]]) (by omega) (by omega) hu2 hm2 (by simp[ho]);refine⟨m', ?_,q2⟩;rw[q1,List.append_assoc];rfl
theorem ZIp {q:Rat} (h:Sz 8000 q):ZAx (fOf q)=some (fOf q):=by
 have h1:=h.wq (by omega);unfold ZAx;have e1:(fOf q).Num.Words.length≤256:=by simpa[fOf,bg,iL,Wq,Wl]using h1.1
 have e2:(fOf q).Den.Words.length≤256:=by simpa[fOf,bg,iL,Wq,Wl]using h1.2
 rw[Zuo (by omega),Zuo (by omega)];rfl
theorem ZIW {w:List (List Rat)} {s m:Nat} (hw:ZI5 s m w):Zwo (Zqi w)=some (ZBf w 0,fOf (Zs0 w 0),0):=by have hr8:=hw.rows;unfold Zwo;rw[ZE3 hw,ZN3,show ((0:Int) != 0)=false from rfl,cond_false];obtain⟨m1,h1,hm1⟩:=ZFS hw.toWOk false false [] [] w.length 0 big 0 [] [] (by omega) (by rw[big_eq];omega) (by omega) (ZFC w) rfl;rw[ZBq];rw[show (0:Int)=((0:Nat):Int)from rfl,h1,ZN3];dsimp only;unfold ZwF;obtain⟨m2,h2,hm2⟩:=ZDu hw.toWOk big 0 (by omega) (by rw[big_eq];omega) 0 m1 (by omega) hm1;rw[show (0:Int)=((0:Nat):Int)from rfl,h2,ZN3];dsimp only;rw[ZIp ((ZAJ hw.toWOk 0 0).mono (by omega)),ZN3];simp
end Go.Proofs
namespace Go.Proofs
open Go Eng
end Go.Proofs
namespace Go.Proofs
open Go Eng
structure ZCc (t:ZoG):Prop where
 ok:ZDV t=true
 cols:t.Columns.length≤8
 col:∀c∈t.Columns,ZBR c
noncomputable def ZGz (b:ZoG) (x:ZoJ):List Rat:=b.Columns.map fun y=>ZA6 x y
noncomputable def ZD7 (a b:ZoG):List (List Rat):=a.Columns.map fun x=>ZGz b x
theorem ZFt {a b:ZoG} (ha:ZCc a) (hb:ZCc b):ZI5 100 b.Columns.length (ZD7 a b):=by
 have h1:∀r∈ZD7 a b,∃x∈a.Columns,r=ZGz b x:=fun r hr=>by obtain⟨x,hx,rfl⟩:=ZNX.1 hr;exact⟨x,hx,rfl⟩
 have h2:∀r∈ZD7 a b,∀q∈r,∃x∈a.Columns,∃y∈b.Columns,q=ZA6 x y:=fun r hr q hq=>by obtain⟨x,hx,rfl⟩:=h1 r hr;obtain⟨y,hy,rfl⟩:=ZNX.1 hq;exact⟨x,hx,y,hy,rfl⟩
 refine⟨⟨by rw[ZD7,ZNR];exact ha.cols,fun r hr=> ?_,fun r hr q hq=> ?_,by omega⟩,fun r hr=> ?_,fun r hr q hq=> ?_⟩
 ·obtain⟨x,_,rfl⟩:=h1 r hr;rw[ZGz,ZNR];exact hb.cols
 ·obtain⟨x,hx,y,hy,rfl⟩:=h2 r hr q hq;exact ZIQ (ha.col x hx) (hb.col y hy)
 ·obtain⟨x,_,rfl⟩:=h1 r hr;rw[ZGz,ZNR]
 ·obtain⟨x,hx,y,hy,rfl⟩:=h2 r hr q hq;exact(ZDy x y).1
def ZBa (a b:ZoG):Int:=if (1:Int) > (if (b.Columns.length:Int) > (a.Columns.length:Int)then (b.Columns.length:Int)else (a.Columns.length:Int))then (1:Int)else (if (b.Columns.length:Int) > (a.Columns.length:Int)then (b.Columns.length:Int)else (a.Columns.length:Int))
noncomputable def Zy0 (a b:ZoG):Rat:=Zs0 (ZD7 a b) 0 / (ZBa a b:Rat)
theorem ZA1 {a b:ZoG} (ha:a.Columns.length≤8) (hb:b.Columns.length≤8):1≤ZBa a b∧ZBa a b≤8∧(a.Columns.length:Int)≤ZBa a b:=by unfold ZBa;split<;>split at* <;>omega
theorem ZE8 {n:Int} (h:1≤n∧n≤8):Sz 4 (n:Rat):=by
 unfold Sz;have e1:(n:Rat).num=n:=by simp
 have e2:(n:Rat).den=1:=by simp
 rw[e1,e2];refine⟨?_,by decide⟩;have:n.natAbs≤8:=by omega
 omega
theorem ZCJ {a b:ZoG} (ha:ZCc a) (hb:ZCc b):Sz 7000 (Zs0 (ZD7 a b) 0):=by
 have:=ZAJ (ZFt ha hb).toWOk 0 0
 rwa [List.drop_zero]at this
theorem ZGx {a b:ZoG} (ha:ZCc a) (hb:ZCc b):Sz 7004 (Zy0 a b):=by
 have h:=ZA1 ha.cols hb.cols;have hne:((ZBa a b:Int):Rat)≠0:=by
  have:((ZBa a b:Int):Rat)≠((0:Int):Rat):=fun e=>by have:=Rat.intCast_inj.1 e;omega
  simpa using this
 exact(Sz.div hne (ZCJ ha hb) (ZE8 ⟨h.1,h.2.1⟩)).mono (by omega)
theorem ZEr (w:List (List Rat)) (r:List Rat):Zqi (w++[r])=Zqi w++[r.map fOf]:=by simp[Zqi]
theorem ZCA {a b:ZoG} (ha:ZCc a) (hb:ZCc b):ZpM a b=some (ZBf (ZD7 a b) 0,fOf (Zy0 a b),0):=by
 have hac:=ha.cols;have hbc:=hb.cols;have hta:ZqO a=some true:=by rw[ZCl a (by omega) (fun c hc=>by have:=(ha.col c hc).rows;omega),ha.ok]
 have htb:ZqO b=some true:=by rw[ZCl b (by omega) (fun c hc=>by have:=(hb.col c hc).rows;omega),hb.ok]
 apply Zqy;unfold ZpM;rw[hta,ZN3,ZKg,cond_false,htb,ZN3,ZKg];unfold Ztw;rw[cond_false,decide_eq_false (by omega),cond_false,decide_eq_false (by omega)];unfold Ztv;rw[cond_false,ZoN];refine Zo4 (ZwH ZyR a.Columns (by omega) (fun i (w:List (List ZoF))=>(a.Columns,(a.Columns.length:Int),i,a,b,false,false,w,([]:List Int),([]:List Int))) (fun k w=>w=Zqi ((a.Columns.take k).map fun x=>ZGz b x))
  (Q:=fun x=>x=(a,b,false,false,Zqi (ZD7 a b),([]:List Int),([]:List Int))) [] rfl ?_ ?_) ?_
 ·rintro rec k w hk rfl ih;unfold ZuG Zsp;dsimp only;rw[decide_eq_true (show (k:Int) < (a.Columns.length:Int) by omega),cond_true,Zto hk,ZN3,ZoN];have hx:=ha.col _ (ZNM hk);refine Zo4 (ZwH ZyQ b.Columns (by omega) (fun j (r:List ZoF)=>(a.Columns,(a.Columns.length:Int),(k:Int),b.Columns,(b.Columns.length:Int),j,a,b,false,false,Zqi ((a.Columns.take k).map fun x=>ZGz b x),a.Columns[k],r,([]:List Int),([]:List Int)))
   (fun j r=>r=((b.Columns.take j).map fun y=>ZA6 a.Columns[k] y).map fOf)
   (Q:=fun x=>x=(a.Columns,(a.Columns.length:Int),(k:Int),a,b,false,false,Zqi ((a.Columns.take k).map fun x=>ZGz b x),(ZGz b a.Columns[k]).map fOf,([]:List Int),([]:List Int))) [] rfl ?_ ?_) ?_
  ·rintro rec j r hj rfl ih;unfold ZuF Zso;dsimp only;rw[decide_eq_true (show (j:Int) < (b.Columns.length:Int) by omega),cond_true,Zto hj,ZN3,ZKR hx (hb.col _ (ZNM hj)),ZN3,ZoO,ZoO];refine⟨Zuo (by simp;omega),ZoS (by omega),ih _ ?_⟩;rw[ZN1 hj,ZNT,ZNT];rfl
  ·rintro rec r rfl;unfold ZuF Zso;dsimp only;rw[decide_eq_false (show ¬(b.Columns.length:Int) < (b.Columns.length:Int) by omega),cond_false,ZoK,ZN0];rfl
  rintro _ rfl;dsimp only;unfold Zvp;rw[ZoO,ZoO];refine⟨Zuo (by simp[Zqi];omega),ZoS (by omega),ih _ ?_⟩;rw[ZN1 hk,ZNT,List.map_singleton,ZEr]
 ·rintro rec w rfl;unfold ZuG Zsp;dsimp only;rw[decide_eq_false (show ¬(a.Columns.length:Int) < (a.Columns.length:Int) by omega),cond_false,ZoK,ZN0];rfl
 rintro _ rfl;dsimp only;unfold Zvo;have hs:=ZA1 ha.cols hb.cols;have hne:((ZBa a b:Int):Rat)≠0:=by
  have:((ZBa a b:Int):Rat)≠((0:Int):Rat):=fun e=>by have:=Rat.intCast_inj.1 e;omega
  simpa using this
 rw[ZIW (ZFt ha hb),ZN3]
 change wp (bif ((0:Int) != 0)then _ else ((Zxe (ZBa a b) 1).bind _)) _
 rw[show ((0:Int) != 0)=false from rfl,cond_false,ZAF _ _ (by decide) (by omega) (by omega) (by decide) (by decide),ZN3,ZB4,
  ZC0 hne (ZCJ ha hb) (ZE8 ⟨hs.1,hs.2.1⟩) (by omega),ZN3,ZoK]
 rfl
end Go.Proofs
namespace Go.Proofs
open Go Eng
def ZEz:ZoR:=⟨true,[]⟩
def ZEc (b:ZoG) (k:Int):List ZoR:=if 0≤k then (match b.Columns[k.toNat]? with |some c=>c.Cells |none=>[])else List.replicate (Zyq b).toNat ZEz
def ZAb (b:ZoG) (c:ZoJ) (k:Int):ZoJ:=⟨c.Name,c.Cells++ZEc b k⟩
def ZJ7 (a b:ZoG) (l:List Int):ZoG:=⟨a.ID,a.Name,ZN2 (ZAb b) a.Columns l⟩
theorem ZEs:∀n:Fin 11,Zpu [ZEz] (n.val:Int)=some (List.replicate n.val ZEz):=by decide+kernel
theorem ZFl {n:Int} (h:0≤n∧n≤10):Zpu [ZEz] n=some (List.replicate n.toNat ZEz):=by have:=ZEs ⟨n.toNat,by omega⟩;rw[show ((n.toNat:Nat):Int)=n by omega]at this;exact this
theorem ZFN {l:List ZoR} (h:l.length≤10000):Zp6 l=some l:=by
 have e:Zo7 l false=some l:=by unfold Zo7;rw[cond_false,Zuo (by simp;omega)];rfl
 unfold Zp6;cases l with
 |nil=>rw[e];exact ZAZ _
 |cons x r=>exact e
theorem ZFM {l:List ZoJ} (h:l.length≤1000):ZpI l=some l:=by
 have e:Zo1 l false=some l:=by unfold Zo1;rw[cond_false,Zuo (by simp;omega)];rfl
 unfold ZpI;cases l with
 |nil=>rw[e];exact ZAZ _
 |cons x r=>exact e
theorem ZKi {a:ZoG} (ha:ZCc a):Zyv a=some (a,a.Columns.length):=by
 have hac:=ha.cols;apply Zqy;unfold Zyv;rw[ZFM (by omega),ZN3,ZoN];refine Zo4 (ZwH ZAP a.Columns (by omega) (fun i (s:List ZoJ×Nat)=>((a.Columns.length:Int),i,a.ID,a.Name,(0:Int),([]:Str),s.1,s.2,([]:List ZoJ))) (fun k s=>s=(a.Columns,k))
  (Q:=fun x=>x=(a.ID,a.Name,(0:Int),([]:Str),a.Columns,a.Columns.length,([]:List ZoJ))) (a.Columns,0) rfl ?_ ?_) ?_
 ·rintro rec k _ hk rfl ih;unfold Zx5 ZwS;dsimp only;have hx:=ha.col _ (ZNM hk);rw[decide_eq_true (show (k:Int) < (a.Columns.length:Int) by omega),cond_true,ZoO];refine⟨ZDs hk, ?_⟩;rw[ZNF,ZNK hk,ZN3,ZoO];refine⟨decide_eq_true (Nat.le_refl _), ?_⟩;rw[ZFN (by have:=hx.rows;omega),ZN3,ZoO,ZoO];refine⟨ZDs hk,decide_eq_true rfl, ?_⟩;rw[ZN3,ZoO];refine⟨ZoS (by omega), ?_⟩;have e:a.Columns.set k ⟨a.Columns[k].Name,a.Columns[k].Cells⟩=a.Columns:=by show a.Columns.set k a.Columns[k]=a.Columns;exact List.set_getElem_self hk
  rw[e];exact ih (a.Columns,k+1) rfl
 ·rintro rec _ rfl;unfold Zx5 ZwS;dsimp only;rw[decide_eq_false (show ¬(a.Columns.length:Int) < (a.Columns.length:Int) by omega),cond_false,ZoK]
 rintro _ rfl;dsimp only;unfold ZyT;exact ZoK.2 rfl
theorem ZDx (l:List Int) (v:Int) (h:l.length≤1000000):Zr6 l v=some (decide (v∈l)):=by
 have key:wp (ZqH big l v (l.length:Int) 0) (fun x=>(x= .brk ()∧v∉l)∨∃j:Nat,x= .ret (j:Int)∧v∈l):=by
  refine ZwH Zyl l (by omega) (fun i (_:Unit)=>(l,v,(l.length:Int),i)) (fun k _=>v∉l.take k) () (by simp) ?_ ?_
  ·rintro rec k _ hk hn ih;unfold Ztd Zra;dsimp only;rw[decide_eq_true (show (k:Int) < (l.length:Int) by omega),cond_true,Zto hk,ZN3]
   by_cases hv:v=l[k]
   ·rw[show (v == l[k])=true by simpa using hv,cond_true,ZoK];exact .inr ⟨k,rfl,by rw[hv];exact ZNM hk⟩
   ·rw[show (v == l[k])=false by simpa using hv,cond_false,ZoO];refine⟨ZoS (by omega),ih () ?_⟩;rw[ZN1 hk,List.mem_append,List.mem_singleton];exact fun h=>h.elim hn hv
  ·rintro rec _ hn;unfold Ztd Zra;dsimp only;rw[decide_eq_false (show ¬(l.length:Int) < (l.length:Int) by omega),cond_false,ZoK];rw[ZN0]at hn;exact .inl ⟨rfl,hn⟩
 obtain⟨x,hx,hp⟩:=key;unfold Zr6 Zvs;rw[hx,ZN3];rcases hp with ⟨rfl,hn⟩ |⟨j,rfl,hi⟩
 ·dsimp only;unfold Zuh;rw[ZN3,decide_eq_false (by decide),decide_eq_false hn]
 ·dsimp only;rw[ZN3,decide_eq_true (by omega),decide_eq_true hi]
theorem Zz6 {a:ZoG} (ha:ZCc a):ZqO a=some true:=by have hac:=ha.cols;rw[ZCl a (by omega) (fun c hc=>by have:=(ha.col c hc).rows;omega),ha.ok]
theorem ZFa {b:ZoG}:∀(cs:List ZoJ) (l:List Int) (k:Nat) (hc:k < cs.length),(ZN2 (ZAb b) (cs.take k) (l.take k)).length=k→(ZN2 (ZAb b) (cs.take k) (l.take k)++cs.drop k)[k]? =some cs[k]:=by intro cs l k hc h;rw[List.getElem?_append_right (by omega),h,Nat.sub_self,ZNG hc];rfl
structure AlOk (a b:ZoG) (l:List Int):Prop where
 len:l.length=a.Columns.length
 rng:∀k∈l, -1≤k∧k < (b.Columns.length:Int)
 dif:List.Pairwise (fun x y=>0≤y→x≠y) l
theorem ZGt {a b:ZoG} {l:List Int} (ha:ZCc a) (hb:ZCc b) (hra:0≤Zyq a∧Zyq a≤100) (hrb:0≤Zyq b∧Zyq b≤10) (hl:AlOk a b l):Zs4 a b l=some (ZJ7 a b l,0):=by
 have hac:=ha.cols;have hbc:=hb.cols;have hll:=hl.len;apply Zqy;unfold Zs4;rw[Zz6 ha,ZN3,ZKg,cond_false,Zz6 hb,ZN3,ZKg,cond_false,show (((l.length:Nat):Int) != (a.Columns.length:Int))=false by rw[hll];simp];unfold ZrF;rw[cond_false,ZoN];refine Zo4 (ZwH ZyP l (by omega) (fun i (_:Unit)=>(l,l,(l.length:Int),i,a,b,(0:Int),([]:Str),([]:List ZoJ))) (fun _ _=>True) (Q:=fun x=>x= .brk (l,a,b,(0:Int),([]:Str),([]:List ZoJ))) () trivial ?_ ?_) ?_
 ·rintro rec k _ hk _ ih;unfold ZuE Zsn Ztt;dsimp only;have h:=hl.rng _ (ZNM hk);rw[decide_eq_true (show (k:Int) < (l.length:Int) by omega),cond_true,Zto hk,ZN3,decide_eq_false (show ¬l[k] < -1 by omega),cond_false,decide_eq_false (show ¬l[k]≥(b.Columns.length:Int) by omega),cond_false,ZoO];exact⟨ZoS (by omega),ih () trivial⟩
 ·rintro rec _ _;unfold ZuE Zsn;dsimp only;rw[decide_eq_false (show ¬(l.length:Int) < (l.length:Int) by omega),cond_false,ZoK]
 rintro _ rfl;dsimp only;unfold Zvn;rw[ZoN];refine Zo4 (ZwH ZyO l (by omega) (fun i (_:Unit)=>(l,l,(l.length:Int),i,a,b,(0:Int),([]:Str),([]:List ZoJ))) (fun _ _=>True) (Q:=fun x=>x= .brk (l,a,b,(0:Int),([]:Str),([]:List ZoJ))) () trivial ?_ ?_) ?_
 ·rintro rec k _ hk _ ih;unfold ZuD Zsm Zts;dsimp only;rw[decide_eq_true (show (k:Int) < (l.length:Int) by omega),cond_true,Zto hk,ZN3];have hin:inK .i64 ((k:Int)+1)=true:=ZoS (by omega)
  by_cases h0:0≤l[k]
  ·have hnot:l[k]∉l.take k:=by
    intro hm;obtain⟨j,hj,he⟩:=List.mem_iff_getElem.1 hm;have hj':j < k:=by simp at hj;omega
    rw[List.getElem_take]at he;exact List.pairwise_iff_getElem.1 hl.dif j k (by omega) hk hj' h0 he
   rw[decide_eq_true (show l[k]≥0 from h0),cond_true,ZoO];refine⟨ZpZ ⟨by omega,by omega,by omega⟩, ?_⟩;rw[ZNF,ZDx _ _ (by simp;omega),ZN3,decide_eq_false hnot,cond_false,ZoO];exact⟨hin,ih () trivial⟩
  ·rw[decide_eq_false (show ¬l[k]≥0 from h0),cond_false,cond_false,ZoO];exact⟨hin,ih () trivial⟩
 ·rintro rec _ _;unfold ZuD Zsm;dsimp only;rw[decide_eq_false (show ¬(l.length:Int) < (l.length:Int) by omega),cond_false,ZoK]
 rintro _ rfl;dsimp only;unfold Zvm;rw[ZAr,ZN3,ZAr,ZN3,ZoO];refine⟨ZoS (by omega), ?_⟩;rw[decide_eq_false (by omega),cond_false,ZKi ha,ZN3];dsimp only;rw[ZoN];have hzl:∀k,k≤a.Columns.length→(ZN2 (ZAb b) (a.Columns.take k) (l.take k)).length=k:=fun k hk=>by simp;omega
 refine Zo4 (ZwH ZyN l (by omega) (fun i (cs:List ZoJ)=>(l,(l.length:Int),i,b,(0:Int),([]:Str),a.ID,a.Name,([]:List ZoJ),cs,a.Columns.length)) (fun k cs=>cs=ZN2 (ZAb b) (a.Columns.take k) (l.take k)++a.Columns.drop k)
  (Q:=fun x=>x=((0:Int),([]:Str),a.ID,a.Name,([]:List ZoJ),ZN2 (ZAb b) a.Columns l,a.Columns.length)) a.Columns (by simp) ?_ ?_) ?_
 ·rintro rec k _ hk rfl ih;unfold ZuC Zsl;dsimp only;have hka:k < a.Columns.length:=by omega
  have h:=hl.rng _ (ZNM hk);have hlen:(ZN2 (ZAb b) (a.Columns.take k) (l.take k)++a.Columns.drop k).length=a.Columns.length:=by rw[ZNN,hzl k (by omega),ZNP];omega
  rw[decide_eq_true (show (k:Int) < (l.length:Int) by omega),cond_true,Zto hk,ZN3,ZAr,ZN3]
  change wp ((Zpu [ZEz] (Zyq b)).bind _) _
  rw[ZFl hrb,ZN3];have hx:=ha.col _ (ZNM hka);have next:∀below,below=ZEc b l[k]→below.length≤1000→wp (ZrE (fun t77 t78 i b t6 t6_1 out out_1 t6_2 out_2 out_lo=>rec (t77,t78,i,b,t6,t6_1,out,out_1,t6_2,out_2,out_lo)) (k:Int) below l (l.length:Int) (k:Int) b 0 [] a.ID a.Name [] (ZN2 (ZAb b) (a.Columns.take k) (l.take k)++a.Columns.drop k) a.Columns.length) (fun x=>x=((0:Int),([]:Str),a.ID,a.Name,([]:List ZoJ),ZN2 (ZAb b) a.Columns l,a.Columns.length)):=by
   rintro below hbel hbl;unfold ZrE;rw[ZoO];refine⟨ZrN ⟨by omega,by omega⟩, ?_⟩;rw[ZNF,ZFa _ _ _ hka (hzl k (by omega)),ZN3,ZoO,ZoO,ZoO,ZoO];refine⟨decide_eq_true hka,Zuo (by have:=hx.rows;omega),ZrN ⟨by omega,by omega⟩,decide_eq_true ⟨rfl,hka⟩, ?_⟩;rw[ZN3,ZoO];refine⟨ZoS (by omega),ih _ ?_⟩;rw[List.set_append_right _ _ (by rw[hzl k (by omega)];exact Nat.le_refl _),hzl k (by omega),Nat.sub_self,ZNG hka,List.set_cons_zero,ZN1 hka,ZN1 hk,
    List.zipWith_append (by simp;omega)]
   simp[ZAb,hbel]
  by_cases h0:0≤l[k]
  ·have hkb:(l[k]).toNat < b.Columns.length:=by omega
   rw[decide_eq_true (show l[k]≥0 from h0),cond_true,Zin h0 hkb,ZN3];refine next _ ?_ (by have:=(hb.col _ (ZNM hkb)).rows;omega)
   unfold ZEc;rw[if_pos h0,ZNK hkb]
  ·rw[decide_eq_false (show ¬l[k]≥0 from h0),cond_false];refine next _ ?_ (by simp;omega)
   unfold ZEc;rw[if_neg h0]
 ·rintro rec _ rfl;unfold ZuC Zsl;dsimp only;rw[decide_eq_false (show ¬(l.length:Int) < (l.length:Int) by omega),cond_false,ZoK,ZN0,List.take_of_length_le (by omega),ZNH (by omega),List.append_nil]
 rintro _ rfl;dsimp only;unfold Zvl;exact ZoK.2 rfl
end Go.Proofs
namespace Go.Proofs
open Go Eng
def auX:ZoJ:=⟨[99,105,116,121],[⟨false,[120]⟩]⟩
def auY:ZoJ:=⟨[110,97,109,101],[⟨false,[121]⟩]⟩
def auA:ZoG:=⟨1,[],[auX,auY]⟩
def auB:ZoG:=⟨2,[],[auY,auX]⟩
theorem ZAo (s:Str):Zxx [s]=[s]:=ZDK (List.pairwise_singleton _ _) (by simp) (fun x=>Iff.rfl)
theorem ZKY:Zvz auX.Name=[[99,105,116,121]]:=by
 have e:Zzi (auX.Name++[32]) []=[[99,105,116,121]]:=by decide+kernel
 unfold Zvz;rw[e,ZAo]
theorem ZKX:Zvz auY.Name=[[110,97,109,101]]:=by
 have e:Zzi (auY.Name++[32]) []=[[110,97,109,101]]:=by decide+kernel
 unfold Zvz;rw[e,ZAo]
theorem ZK0:Zsa auX.Cells=[[120]]:=by
 have e:ZCO auX.Cells=[[120]]:=by decide+kernel
 unfold Zsa;rw[e,ZAo]
theorem ZKZ:Zsa auY.Cells=[[121]]:=by
 have e:ZCO auY.Cells=[[121]]:=by decide+kernel
 unfold Zsa;rw[e,ZAo]
theorem ZB7 {a b:ZoJ} (h1:comm (Zsa a.Cells) (Zsa b.Cells)=0) (h2:comm (Zvz a.Name) (Zvz b.Name)=0):ZA6 a b=0:=by
 have z:∀x y:List Str,comm x y=0→Zxt x y=0:=fun x y h=>by unfold Zxt;rw[h];simp
 unfold ZA6;rw[z _ _ h1,z _ _ h2];unfold ofQ;rw[if_pos ⟨rfl,rfl⟩]
theorem ZMR:ZA6 auX auX=1:=by rw[ZBH,if_neg (by rw[ZKY];simp),if_neg (by rw[ZK0];simp)]
theorem ZMP:ZA6 auY auY=1:=by rw[ZBH,if_neg (by rw[ZKX];simp),if_neg (by rw[ZKZ];simp)]
theorem ZK1:ZA6 auX auY=0:=ZB7 (by rw[ZK0,ZKZ];decide) (by rw[ZKY,ZKX];decide)
theorem ZMQ:ZA6 auY auX=0:=by rw[ZFJ,ZK1]
theorem ZHp:ZD7 auA auB=[[0,1],[1,0]]:=by show [[ZA6 auX auY,ZA6 auX auX],[ZA6 auY auY,ZA6 auY auX]]=_;rw[ZMR,ZMP,ZK1,ZMQ]
theorem ZHr:ZBR auX:=⟨by decide,by decide,fun x hx=>by simp only[auX,ZNV,ZNZ,or_false]at hx;subst hx;decide⟩
theorem ZHq:ZBR auY:=⟨by decide,by decide,fun x hx=>by simp only[auY,ZNV,ZNZ,or_false]at hx;subst hx;decide⟩
theorem ZHt:ZCc auA:=⟨by kernel_rfl,by decide,fun c hc=>by
 simp only[auA,ZNV,ZNZ,or_false]at hc;rcases hc with rfl |rfl
 ·exact ZHr
 ·exact ZHq⟩
theorem ZHs:ZCc auB:=⟨by kernel_rfl,by decide,fun c hc=>by
 simp only[auB,ZNV,ZNZ,or_false]at hc;rcases hc with rfl |rfl
 ·exact ZHq
 ·exact ZHr⟩
theorem ZFV:ZBf [[0,1],[1,0]] 0=[1,0]∧Zs0 [[0,1],[1,0]] 0=2:=by decide+kernel
theorem ZGY:Zy0 auA auB=1:=by unfold Zy0;rw[ZHp,ZFV.2];decide+kernel
set_option maxRecDepth 100000 in
theorem ZFU:ZqT=some true:=by unfold ZqT;show (chk true (chk true ((ZpM auA auB).bind _)))=_;show ((ZpM auA auB).bind _)=_;rw[ZCA ZHt ZHs,ZN3,ZHp,ZFV.1,ZGY];show ((Zs4 auA auB [1,0]).bind _)=_;rw[ZGt ZHt ZHs (by decide) (by decide) ⟨by decide,by decide,by decide⟩,ZN3];dsimp only;rw[show ((0:Int) == 0)=true from rfl,cond_true,cond_true,show Zs5 [1,0] [1,0]=some true by decide+kernel,ZN3,cond_true,ZFx,ZN3,ZCQ _ _ (ZBp.wq (by decide)) (ZBp.wq (by decide)),ZN3,decide_eq_true rfl,cond_true,ZGy,ZN3];unfold Zpk;decide+kernel
end Go.Proofs
namespace Go.Proofs
open Go Eng
def suN:List Str:=[[105,100],[99,105,116,121],[117,110,105,116,32,112,114,105,99,101],[110,97,109,101]]
def suL:List Str:=[[97],[98],[99],[100]]
def nN (i:Nat):Str:=suN.getD i []
def nL (i:Nat):Str:=suL.getD i []
def suW:List (List Str):=[[[105,100]],[[99,105,116,121]],[[112,114,105,99,101],[117,110,105,116]],[[110,97,109,101]]]
def nW (i:Nat):List Str:=suW.getD i []
theorem ZCm:∀i:Fin 4,Zvz (nN i.val)=(nW i.val):=by
 have e:∀i:Fin 4,(Zzi ((nN i.val)++[32]) []).Perm (nW i.val)∧(nW i.val).Pairwise (fun a b=>a≤b)∧(nW i.val).Nodup:=by
  have key:∀i:Fin 4,(Zzi ((nN i.val)++[32]) []).isPerm (nW i.val)=true∧(nW i.val).Pairwise (fun a b=>a≤b)∧(nW i.val).Nodup:=by decide+kernel
  exact fun i=>⟨List.isPerm_iff.1 (key i).1,(key i).2⟩
 intro i;obtain⟨h1,h2,h3⟩:=e i;unfold Zvz;exact ZDK h2 h3 fun x=>h1.mem_iff
theorem ZGr:∀i j:Fin 4,i≠j→comm (nW i.val) (nW j.val)=0:=by decide+kernel
theorem ZIa:∀i:Fin 4,(nW i.val)≠[]:=by decide
structure ZBK (rows:Nat) (i:Nat) (c:ZoJ):Prop where
 lt:i < 4
 name:c.Name=nN i
 len:c.Cells.length=rows
 cells:∀x∈c.Cells,x.Null=false∧∃d:UInt8,(d=49∨d=50∨d=51)∧x.Text=nL i++[d]
theorem ZIc {r i j:Nat} {a b:ZoJ} (ha:ZBK r i a) (hb:ZBK r j b) (hij:i≠j):comm (Zsa a.Cells) (Zsa b.Cells)=0:=by
 have hlt:=ha.lt;have hlt':=hb.lt;unfold comm;rw[List.length_eq_zero_iff,List.filter_eq_nil_iff];intro x hx hc;have hx2:x∈Zsa b.Cells:=by simpa using hc
 unfold Zsa at hx hx2;rw[Zw6]at hx hx2;obtain⟨p,hp,rfl⟩:=ZNX.1 hx;obtain⟨q,hq,he⟩:=ZNX.1 hx2;obtain⟨_,d,_,h1⟩:=ha.cells p (ZNW.1 hp).1;obtain⟨_,e,_,h2⟩:=hb.cells q (ZNW.1 hq).1;rw[h1,h2]at he;have key:∀i j:Fin 4,i≠j→(nL i.val).head?≠(nL j.val).head?∧(nL i.val).length=1∧(nL j.val).length=1:=by decide
 obtain⟨k1,k2,k3⟩:=key ⟨i,hlt⟩ ⟨j,hlt'⟩ (fun h=>hij (by simpa using h));dsimp only at k1 k2 k3;apply k1;have:=congrArg List.head? he;rw[List.head?_append,List.head?_append]at this;obtain⟨u,hu⟩:=List.length_eq_one_iff.1 k2;obtain⟨v,hv⟩:=List.length_eq_one_iff.1 k3;rw[hu,hv]at this⊢
 simpa using this.symm
theorem ZH9 {r i j:Nat} {a b:ZoJ} (ha:ZBK r i a) (hb:ZBK r j b) (hij:i≠j):ZA6 a b=0:=by refine ZB7 (ZIc ha hb hij) ?_;rw[ha.name,hb.name,show Zvz (nN i)=nW i from ZCm ⟨i,ha.lt⟩,show Zvz (nN j)=nW j from ZCm ⟨j,hb.lt⟩];exact ZGr ⟨i,ha.lt⟩ ⟨j,hb.lt⟩ fun h=>hij (by simpa using h)
theorem ZJ5 {r i:Nat} {a:ZoJ} (ha:ZBK r i a) (hr:1≤r):ZA6 a a=1:=by
 rw[ZBH,if_neg,if_neg]
 ·intro h;have hl:=ha.len;have hx:a.Cells[0]∈a.Cells:=ZNM (by omega);have:a.Cells[0].Text∈Zsa a.Cells:=by unfold Zsa;rw[Zw6];exact ZNX.2 ⟨_,ZNW.2 ⟨hx,by simp[(ha.cells _ hx).1]⟩,rfl⟩
  rw[h]at this;cases this
 ·rw[ha.name,show Zvz (nN i)=nW i from ZCm ⟨i,ha.lt⟩];exact ZIa ⟨i,ha.lt⟩
theorem ZMw {r i:Nat} {a:ZoJ} (ha:ZBK r i a) (hr:r≤5):ZBR a:=by
 have hn:∀i:Fin 4,(nN i.val).length≤10∧(nL i.val).length=1:=by decide
 refine⟨?_,by rw[ha.len];omega,fun x hx=> ?_⟩
 ·rw[ha.name];have:=(hn ⟨i,ha.lt⟩).1;dsimp only at this;omega
 ·obtain⟨_,d,_,h⟩:=ha.cells x hx;rw[h,ZNN,ZNS];have:=(hn ⟨i,ha.lt⟩).2;dsimp only at this;omega
def ZEe (r:Nat) (cs:List ZoJ):Prop:=∀(i:Nat) (h:i < cs.length),ZBK r i cs[i]
theorem ZIb:∀i:Fin 4,ZAl (nN i.val)=true∧ZAl ((nL i.val)++[49])=true∧ZAl ((nL i.val)++[50])=true∧ZAl ((nL i.val)++[51])=true:=by decide+kernel
theorem ZId {r i:Nat} {a:ZoJ} (ha:ZBK r i a):ZGU (r:Int) a=true:=by
 obtain⟨f0,f1,f2,f3⟩:=ZIb ⟨i,ha.lt⟩;unfold ZGU;rw[ha.name,ha.len];rw[show ZAl (nN i)=true from f0,beq_self_eq_true,Bool.true_and,Bool.true_and,List.all_eq_true];intro x hx;obtain⟨h1,d,hd,h2⟩:=ha.cells x hx;unfold ZDz;rw[h1,h2,Bool.not_false,Bool.true_or,Bool.and_true];rcases hd with rfl |rfl |rfl
 ·exact f1
 ·exact f2
 ·exact f3
theorem ZDW {r:Nat} (hr:r≤5) {id:Int} (hid:0≤id∧id≤10) {cs:List ZoJ} (hl:cs.length≤4) (h:∀c∈cs,∃i,ZBK r i c):ZCc ⟨id,[],cs⟩:=by
 have hrows:cs≠[]→Zyq ⟨id,[],cs⟩=(r:Int):=fun h0=>by
  unfold Zyq;cases cs with
  |nil=>exact absurd rfl h0
  |cons c l=>
   obtain⟨i,hi⟩:=h c (by simp);show (c.Cells.length:Int)=r;rw[hi.len]
 have hr2:Zyq ⟨id,[],cs⟩≤5:=by
  by_cases h0:cs=[]
  ·subst h0;show (0:Int)≤5;decide
  ·rw[hrows h0];omega
 refine⟨?_,by show cs.length≤8;omega,fun c hc=> ?_⟩
 ·unfold ZDV;rw[decide_eq_true (show 0≤(⟨id,[],cs⟩:ZoG).ID from hid.1),decide_eq_true (show (⟨id,[],cs⟩:ZoG).ID≤1073741824 by show id≤_;omega),show ZAl ((⟨id,[],cs⟩:ZoG).Name)=true by show ZAl []=true;decide+kernel,
   decide_eq_true (show ((⟨id,[],cs⟩:ZoG).Columns.length:Int)≤64 by show (cs.length:Int)≤64;omega),decide_eq_true (show Zyq ⟨id,[],cs⟩≤4096 by omega)]
  simp only[Bool.true_and,List.all_eq_true];intro c hc;obtain⟨i,hi⟩:=h c hc;rw[hrows (List.ne_nil_of_mem hc)];exact ZId hi
 ·obtain⟨i,hi⟩:=h c hc;exact ZMw hi hr
def ZE5 (n k:Nat):List (List Rat):=(List.range n).map fun i=>(List.range n).map fun j=>if (j+k) % n=i then 1 else 0
def ZA9 (n k:Nat):List Int:=(List.range n).map fun i=>(((i+n - k) % n:Nat):Int)
theorem ZDS:∀n:Fin 5,∀k:Fin 4,1≤n.val→k.val < n.val→ZBf (ZE5 n.val k.val) 0=ZA9 n.val k.val∧Zs0 (ZE5 n.val k.val) 0=(n.val:Rat):=by decide+kernel
theorem ZGl {cs:List ZoJ} {k j:Nat} (hk:k≤cs.length) (hj:j < cs.length):∃h:(j+k) % cs.length < cs.length,(cs.drop k++cs.take k)[j]? =some cs[(j+k) % cs.length]:=by
 have hlt:(j+k) % cs.length < cs.length:=Nat.mod_lt _ (by omega);refine⟨hlt, ?_⟩
 by_cases h:j < cs.length - k
 ·rw[List.getElem?_append_left (by rw[ZNP];omega),List.getElem?_drop,ZNK (by omega)];congr 2;rw[Nat.mod_eq_of_lt (by omega)];omega
 ·rw[List.getElem?_append_right (by rw[ZNP];omega),ZNP,List.getElem?_take_of_lt (by omega),ZNK (by omega)];congr 2;rw[Nat.mod_eq_sub_mod (by omega),Nat.mod_eq_of_lt (by omega)];omega
theorem ZDR {r:Nat} (hr:1≤r) {cs:List ZoJ} (h:ZEe r cs) {k:Nat} (hk:k < cs.length) (i1 i2:Int):ZD7 ⟨i1,[],cs⟩ ⟨i2,[],cs.drop k++cs.take k⟩=ZE5 cs.length k:=by
 unfold ZD7 ZE5;dsimp only;refine List.ext_getElem (by simp) fun i h1 h2=> ?_
 have hi:i < cs.length:=by simpa using h1
 rw[ZNL,ZNL,List.getElem_range];unfold ZGz;dsimp only;refine List.ext_getElem (by simp;omega) fun j h3 h4=> ?_
 have hj:j < cs.length:=by simpa using h4
 rw[ZNL,ZNL,List.getElem_range];obtain⟨hm,he⟩:=ZGl (cs:=cs) (k:=k) (j:=j) (by omega) hj;rw[(List.getElem?_eq_some_iff.1 he).2]
 by_cases e:(j+k) % cs.length=i
 ·subst e;rw[if_pos rfl];exact ZJ5 (h _ hm) hr
 ·rw[if_neg e];exact ZH9 (h i hi) (h _ hm) (fun h=>e h.symm)
theorem ZBV {n:Nat} {a b:ZoG} (ha:a.Columns.length=n) (hb:b.Columns.length=n) (h1:1≤n) (hf:Zs0 (ZD7 a b) 0=(n:Rat)):Zy0 a b=1:=by
 have e:ZBa a b=(n:Int):=by unfold ZBa;rw[ha,hb];split<;>split at* <;>omega
 unfold Zy0;rw[hf,e,Rat.intCast_natCast];have:(n:Rat)≠0:=by intro h;have:=(Rat.natCast_inj (a:=n) (b:=0)).1 (by simpa using h);omega
 rw[Rat.div_def,Rat.mul_inv_cancel _ this]
end Go.Proofs
namespace Go.Proofs
open Go Eng
theorem ZCM {l:List ZoG} (hl:l.length≤1000) (hv:∀t∈l,ZCc t) (hs:∀(i:Nat) (h:i+1 < l.length),l[i].ID < l[i+1].ID):Zwf l=some true:=by
 have hA:∀(d i n:Nat),i+d=l.length→1≤i→d < n→ZpC n l (i:Int)=some (.brk l):=by
  intro d
  induction d with
  |zero=>
   intro i n hi h1 hn;obtain⟨n,rfl⟩:∃n',n=n'+1:=⟨n - 1,by omega⟩;rw[ZpC,ZtA,decide_eq_false (show ¬(i:Int) < (l.length:Int) by omega),cond_false]
  |succ d ih=>
   intro i n hi h1 hn;obtain⟨n,rfl⟩:∃n',n=n'+1:=⟨n - 1,by omega⟩;obtain⟨i,rfl⟩:∃i',i=i'+1:=⟨i - 1,by omega⟩;have h2:=hs i (by omega);rw[ZpC,ZtA,decide_eq_true (show ((i+1:Nat):Int) < (l.length:Int) by omega),cond_true,ZoS (n:=((i+1:Nat):Int) - 1) (by omega),ZoS (n:=((i+1:Nat):Int)+1) (by omega),show ((i+1:Nat):Int) - 1=(i:Int) by omega,
    Zto (show i < l.length by omega),Zto (show i+1 < l.length by omega)]
   show (bif decide (l[i].ID≥l[i+1].ID)then _ else ZpC n l (((i+1:Nat):Int)+1))=_;rw[decide_eq_false (by omega),cond_false,show ((i+1:Nat):Int)+1=((i+1+1:Nat):Int) by omega];exact ih (i+1+1) n (by omega) (by omega) (by omega)
 have hB:ZpC big l (1:Int)=some (.brk l):=by
  by_cases h0:l.length=0
  ·obtain⟨n,hn⟩:=ZFR 1 (by omega);rw[hn,ZpC,ZtA,decide_eq_false (show ¬(1:Int) < (l.length:Int) by omega),cond_false]
  ·exact hA (l.length - 1) 1 big (by omega) (by omega) (by rw[big_eq];omega)
 have hC:ZsP l=some true:=by
  apply Zqy;unfold ZsP;rw[ZoN];refine Zo4 (ZwH Zx3 l (by omega) (fun i (_:Unit)=>(l,(l.length:Int),i)) (fun _ _=>True) (Q:=fun x=>x= .brk ()) () trivial ?_ ?_) ?_
  ·rintro rec k _ hk _ ih;unfold ZsO ZqY;dsimp only;rw[decide_eq_true (show (k:Int) < (l.length:Int) by omega),cond_true,Zto hk,ZN3,Zz6 (hv _ (ZNM hk)),ZN3,ZKg,cond_false,ZoO];exact⟨ZoS (by omega),ih () trivial⟩
  ·rintro rec _ _;unfold ZsO ZqY;dsimp only;rw[decide_eq_false (show ¬(l.length:Int) < (l.length:Int) by omega),cond_false,ZoK]
  rintro _ rfl;dsimp only;unfold ZtI;exact ZoK.2 rfl
 unfold Zwf;rw[hB,ZN3];dsimp only;unfold Zwx;rw[decide_eq_true (by omega),cond_true,hC];rfl
noncomputable def ZFs (q t:ZoG):Zqv:=⟨t.ID,ZBf (ZD7 q t) 0,fOf (Zy0 q t)⟩
noncomputable def ZBP (q:ZoG) (l:List ZoG):List Zqv:=(l.filter fun t=>decide (0 < Zy0 q t)).map (ZFs q)
theorem ZFA (q:ZoG) (l:List ZoG):(ZBP q l).length≤l.length:=by unfold ZBP;rw[ZNR];exact ZNQ _ _
theorem ZEE (q:ZoG) (l:List ZoG) (t:ZoG):ZBP q (l++[t])=ZBP q l++(if 0 < Zy0 q t then [ZFs q t]else []):=by
 unfold ZBP;rw[List.filter_append,ZNT];congr 1
 by_cases h:0 < Zy0 q t<;>simp[h]
theorem ZJ1 {l:List ZoG} {q:ZoG} {k:Int} (hl:l.length≤1000) (hv:∀t∈l,ZCc t) (hs:∀(i:Nat) (h:i+1 < l.length),l[i].ID < l[i+1].ID) (hq:ZCc q) (hk:0≤k∧k≤1024):
  ZuB l q k=Zur k (ZBP q l):=by
 have hqc:=hq.cols;have hloop:Zqr big k l (l.length:Int) 0 q []=some (k,ZBP q l):=by
  apply Zqy;refine ZwH Zzo l (by omega) (fun i (o:List Zqv)=>(k,l,(l.length:Int),i,q,o)) (fun j o=>o=ZBP q (l.take j)) [] rfl ?_ ?_
  ·rintro rec j o hj rfl ih;unfold Zvk Ztr;dsimp only;have ht:=hv _ (ZNM hj);have hsz:=ZGx hq ht;have hlen:=ZFA q (l.take j);rw[List.length_take]at hlen;rw[decide_eq_true (show (j:Int) < (l.length:Int) by omega),cond_true,Zto hj,ZN3,ZCA hq ht,ZN3];dsimp only;rw[show ((0:Int) == 0)=true from rfl,cond_true];unfold Zx4;rw[ZAO (hsz.wq (by omega)),ZN3,ZN3,ZBZ];have hsn:=ZEE q (l.take j) l[j];rw[←ZN1 hj]at hsn;unfold Zut Zus
   by_cases h:0 < Zy0 q l[j]
   ·rw[decide_eq_true h,cond_true,ZoO,ZoO];refine⟨Zuo (by rw[ZNS];omega),ZoS (by omega),ih _ ?_⟩;rw[hsn,if_pos h];rfl
   ·rw[decide_eq_false h,cond_false,ZoO];refine⟨ZoS (by omega),ih _ ?_⟩;rw[hsn,if_neg h,List.append_nil]
  ·rintro rec o rfl;unfold Zvk Ztr;dsimp only;rw[decide_eq_false (show ¬(l.length:Int) < (l.length:Int) by omega),cond_false,ZoK,ZN0]
 unfold ZuB;rw[decide_eq_false (by omega),cond_false,decide_eq_false (by omega)];unfold Zuv ZxG;rw[cond_false,ZCM hl hv hs,ZN3,ZN3,ZKg,cond_false,Zz6 hq,ZN3,ZKg];unfold Zuu;rw[cond_false,decide_eq_false (by omega),cond_false,hloop,ZN3]
end Go.Proofs
namespace Go.Proofs
open Go Eng
theorem ZIN:fOf 1=⟨⟨false,[1]⟩,⟨false,[1]⟩⟩:=by have e1:(1:Rat).num=1:=rfl;have e2:(1:Rat).den=1:=rfl;unfold fOf bg;rw[e1,e2];show (⟨⟨false,iL (wd 1)⟩,⟨false,iL (wd 1)⟩⟩:ZoF)=_;rw[ZCY]
def ZHg:ZoF:=⟨⟨false,[1]⟩,⟨false,[1]⟩⟩
theorem ZH4:∀n:Fin 5,∀k:Fin 4,Zur 5 [⟨3,ZA9 n.val 0,ZHg⟩,⟨4,ZA9 n.val k.val,ZHg⟩]=some ([⟨3,ZA9 n.val 0,ZHg⟩,⟨4,ZA9 n.val k.val,ZHg⟩],0):=by decide+kernel
def ZIH (o:Option (Out Unit Bool)):Bool:=match o with
 |some (.brk _)=>true
 |_=>false
theorem ZGL {o:Option (Out Unit Bool)} (h:ZIH o=true):o=some (.brk ()):=by unfold ZIH at h;split at h;rotate_left;cases h;rfl
theorem ZGJ:∀n:Fin 5,∀k:Fin 4,1≤n.val→k.val < n.val→ZIH (Zpz big (n.val:Int) (k.val:Int) ((ZA9 n.val k.val).length:Int) 0 (ZA9 n.val k.val))=true:=by decide+kernel
theorem ZFh {r:Nat} (hr:1≤r∧r≤5) {cs:List ZoJ} (h:ZEe r cs) (hl:1≤cs.length∧cs.length≤4) (turn:Int):ZpB turn (cs.length:Int) 3 [] cs=some true:=by
 obtain⟨kk,hk1,hk2⟩:=ZHj turn (m:=(cs.length:Int)) (by omega);obtain⟨k,rfl⟩:∃k:Nat,kk=(k:Int):=⟨kk.toNat,by omega⟩;have hk:k < cs.length:=by omega
 unfold ZpB;rw[hk1,ZN3];have e1:(cs.drop ((k:Int)).toNat).take ((cs.length:Int).toNat - ((k:Int)).toNat)=cs.drop k:=by rw[ZNF,ZNF];exact List.take_of_length_le (by rw[ZNP];omega)
 have e2:(cs.drop 0).take (((k:Int)).toNat - 0)=cs.take k:=by rw[List.drop_zero,ZNF,Nat.sub_zero]
 rw[e1,e2,ZpZ (a:=(k:Int)) (by omega),Zuo (by rw[ZNP];omega),ZpZ (a:=0) (by omega),Zuo (by rw[ZNP,List.length_take];omega)];have mem:∀c∈cs,∃i,ZBK r i c:=fun c hc=>by obtain⟨i,hi,rfl⟩:=List.mem_iff_getElem.1 hc;exact⟨i,h i hi⟩
 have mem2:∀c∈cs.drop k++cs.take k,∃i,ZBK r i c:=fun c hc=>by
  rcases List.mem_append.1 hc with hc |hc
  ·exact mem c (ZNY hc)
  ·exact mem c (List.mem_of_mem_take hc)
 have hlen:(cs.drop k++cs.take k).length=cs.length:=by simp;omega
 have ha:ZCc ⟨3,[],cs⟩:=ZDW hr.2 (by decide) hl.2 mem;have hb:ZCc ⟨4,[],cs.drop k++cs.take k⟩:=ZDW hr.2 (by decide) (by omega) mem2;have m1:=ZDR hr.1 h hk 3 4;have m0:ZD7 ⟨3,[],cs⟩ ⟨3,[],cs⟩=ZE5 cs.length 0:=by have:=ZDR hr.1 h (k:=0) (by omega) 3 3;simpa using this
 obtain⟨t1,t2⟩:=ZDS ⟨cs.length,by omega⟩ ⟨k,by omega⟩ hl.1 hk;obtain⟨t3,t4⟩:=ZDS ⟨cs.length,by omega⟩ ⟨0,by omega⟩ hl.1 (by show 0 < cs.length;omega);dsimp only at t1 t2 t3 t4;have s1:Zy0 ⟨3,[],cs⟩ ⟨4,[],cs.drop k++cs.take k⟩=1:=ZBV rfl hlen hl.1 (by rw[m1];exact t2);have s0:Zy0 ⟨3,[],cs⟩ ⟨3,[],cs⟩=1:=ZBV rfl rfl hl.1 (by rw[m0];exact t4);have hout:ZBP ⟨3,[],cs⟩ [⟨3,[],cs⟩,⟨4,[],cs.drop k++cs.take k⟩]=[⟨3,ZA9 cs.length 0,ZHg⟩,⟨4,ZA9 cs.length k,ZHg⟩]:=by
  unfold ZBP;have p:decide ((0:Rat) < 1)=true:=by decide
  rw[ZNI,s0,p,if_pos rfl,ZNI,s1,p,if_pos rfl,List.filter_nil,ZNU,ZNU,List.map_nil];unfold ZFs;rw[s0,s1,m0,m1,t1,t3,ZIN];rfl
 have htop:ZuB [⟨3,[],cs⟩,⟨4,[],cs.drop k++cs.take k⟩] ⟨3,[],cs⟩ 5=some ([⟨3,ZA9 cs.length 0,ZHg⟩,⟨4,ZA9 cs.length k,ZHg⟩],0):=by
  rw[ZJ1 (by simp) (fun t ht=>by
   simp only[ZNV,ZNZ,or_false]at ht;rcases ht with rfl |rfl
   ·exact ha
   ·exact hb) (fun i hi=>by
   have:i=0:=by simp at hi;omega
   subst this;show (3:Int) < 4;decide) ha (by decide),hout]
  exact ZH4 ⟨cs.length,by omega⟩ ⟨k,by omega⟩
 show ((ZpM ⟨3,[],cs⟩ ⟨4,[],cs.drop k++cs.take k⟩).bind _)=_;rw[ZCA ha hb,ZN3,s1,m1,t1];dsimp only;rw[htop,ZN3];dsimp only;rw[show ((0:Int) != 0)=false from rfl,cond_false,cond_false,ZFx,ZN3,ZCQ _ _ (ZBp.wq (by decide)) (ZBp.wq (by decide)),ZN3,decide_eq_true rfl,ZKg,cond_false];show ZoU (cs.length:Int) (k:Int) false (ZA9 cs.length k)=_;unfold ZoU;have hlast:=ZGL (ZGJ ⟨cs.length,by omega⟩ ⟨k,by omega⟩ hl.1 hk);dsimp only at hlast;rw[cond_false,hlast,ZN3];dsimp only;unfold Zqs;rw[ZFU];rfl
theorem unionsearchSelf_law (t:List Int) (turn:Int):Zq0 t turn=some true:=by
 apply Zqy;unfold Zq0 Zvr;rw[ZN3]
 by_cases hlt:(t.length:Int)≤500
 ·rw[decide_eq_true hlt,ZKg,cond_false];unfold ZvU;rw[ZN3,ZoN];refine Zo4 (ZDr (d:=⟨t,0⟩) (show ZBL ⟨t,0⟩from ⟨Int.le_refl 0,by simp,by show t.length≤500;omega⟩) (n:=5) (by decide)) ?_;rintro⟨x,d1⟩ ⟨⟨hx1,hx2⟩,hd1⟩;dsimp only at hx1 hx2 hd1⊢
  rw[ZoO];refine⟨ZoS (by omega), ?_⟩;rw[ZoN];refine Zo4 (ZDr hd1 (n:=4) (by decide)) ?_;rintro⟨y,d2⟩ ⟨⟨hy1,hy2⟩,hd2⟩;dsimp only at hy1 hy2 hd2⊢
  rw[ZoO];refine⟨ZoS (by omega), ?_⟩;obtain⟨r,hr⟩:∃r:Nat,1+x=(r:Int):=⟨(1+x).toNat,by omega⟩;obtain⟨n,hn⟩:∃n:Nat,1+y=(n:Int):=⟨(1+y).toNat,by omega⟩;rw[hr,hn,ZoN];have hn4:1≤n∧n≤4:=by omega
  refine Zo4 (Ztq ZvM n (by omega) (fun i (s:ZoM×List ZoJ)=>(turn,(r:Int),(n:Int),(n:Int),i,s.1,(3:Int),([]:Str),s.2)) (fun i s=>ZBL s.1∧s.2.length=i∧ZEe r s.2)
   (Q:=fun x=>∃cs,x=(turn,(n:Int),(3:Int),([]:Str),cs)∧cs.length=n∧ZEe r cs) (d2,[]) ⟨hd2,rfl,fun i h=>by cases h⟩ ?_ ?_) ?_
  ·rintro rec i ⟨d,cs⟩ hi ⟨hd,hlen,hcs⟩ ih;dsimp only at hd hlen hcs;unfold Zqd Zpt;dsimp only;have hi4:i < 4:=by omega
   rw[decide_eq_true (show (i:Int) < (n:Int) by omega),cond_true,ZoO];refine⟨ZrN ⟨by omega,by show (i:Int) < 4;omega⟩, ?_⟩
   change wp ((suN[((i:Int)).toNat]?).bind _) _
   have hN:suN[((i:Int)).toNat]? =some (nN i):=by
    have key:∀i:Fin 4,suN[i.val]? =some (nN i.val):=by decide
    rw[ZNF];exact key ⟨i,hi4⟩
   rw[hN,ZN3,ZoN];refine Zo4 (Ztq ZvL r (by omega) (fun j (s:ZoM×List ZoR)=>(turn,(r:Int),(n:Int),(i:Int),(n:Int),(i:Int),(r:Int),j,s.1,(3:Int),([]:Str),nN i,cs,s.2))
    (fun j s=>ZBL s.1∧s.2.length=j∧∀x∈s.2,x.Null=false∧∃d:UInt8,(d=49∨d=50∨d=51)∧x.Text=nL i++[d])
    (Q:=fun x=>∃d ce,x=(turn,(r:Int),(n:Int),(n:Int),(i:Int),d,(3:Int),([]:Str),nN i,cs,ce)∧ZBL d∧ce.length=r∧∀x∈ce,x.Null=false∧∃d:UInt8,(d=49∨d=50∨d=51)∧x.Text=nL i++[d]) (d,[]) ⟨hd,rfl,fun x h=>by cases h⟩ ?_ ?_) ?_
   ·rintro rec j ⟨d,ce⟩ hj ⟨hd,hlen2,hce⟩ ih;dsimp only at hd hlen2 hce;unfold Zqc Zps;dsimp only;rw[decide_eq_true (show (j:Int) < (r:Int) by omega),cond_true,ZoO];refine⟨ZrN ⟨by omega,by show (i:Int) < 4;omega⟩, ?_⟩
    change wp ((suL[((i:Int)).toNat]?).bind _) _
    have hL:suL[((i:Int)).toNat]? =some (nL i):=by
     have key:∀i:Fin 4,suL[i.val]? =some (nL i.val):=by decide
     rw[ZNF];exact key ⟨i,hi4⟩
    have hLl:(nL i).length=1:=by
     have key:∀i:Fin 4,(nL i.val).length=1:=by decide
     exact key ⟨i,hi4⟩
    rw[hL,ZN3,ZoN];unfold Zru;rw[ZoN];refine Zo4 (ZDr hd (n:=3) (by decide)) ?_;rintro⟨q,d'⟩ ⟨⟨hq1,hq2⟩,hd'⟩;dsimp only at hq1 hq2 hd'⊢
    have hw:∃e:UInt8,(e=49∨e=50∨e=51)∧idx ([[49],[50],[51]]:List Str) q=some [e]:=by
     have key:∀q:Fin 3,(idx ([[49],[50],[51]]:List Str) (q.val:Int)=some [49]∨idx ([[49],[50],[51]]:List Str) (q.val:Int)=some [50]∨idx ([[49],[50],[51]]:List Str) (q.val:Int)=some [51]):=by decide
     have hq:=key ⟨q.toNat,by omega⟩;rw[show ((q.toNat:Nat):Int)=q by omega]at hq;rcases hq with h |h |h
     ·exact⟨49,.inl rfl,h⟩
     ·exact⟨50,.inr (.inl rfl),h⟩
     ·exact⟨51,.inr (.inr rfl),h⟩
    obtain⟨e,he1,he2⟩:=hw;rw[he2,ZN3,ZoK];dsimp only;rw[ZoO,ZoO,ZoO];refine⟨decide_eq_true (by rw[hLl,ZNS];unfold Zr;omega),Zuo (by rw[ZNS];omega),ZoS (by omega),ih (d',ce++[⟨false,nL i++[e]⟩]) ⟨hd',by rw[ZNN,ZNS,hlen2],fun x hx=> ?_⟩⟩;rcases List.mem_append.1 hx with hx |hx
    ·exact hce x hx
    ·rw[List.mem_singleton.1 hx];exact⟨rfl,e,he1,rfl⟩
   ·rintro rec ⟨d,ce⟩ ⟨hd,hlen2,hce⟩;dsimp only at hd hlen2 hce;unfold Zqc Zps;dsimp only;rw[decide_eq_false (by omega),cond_false,ZoK];exact⟨d,ce,rfl,hd,hlen2,hce⟩
   rintro _ ⟨d',ce,rfl,hd',hcl,hce⟩;dsimp only;unfold Zqt;rw[ZoO,ZoO];refine⟨Zuo (by rw[ZNS];omega),ZoS (by omega),ih (d',cs++[⟨nN i,ce⟩]) ⟨hd',by rw[ZNN,ZNS,hlen],fun j hj=> ?_⟩⟩;dsimp only at hj⊢
   rw[ZNN,ZNS]at hj
   by_cases hji:j < cs.length
   ·rw[List.getElem_append_left hji];exact hcs j hji
   ·have:j=i:=by omega
    subst this;rw[List.getElem_append_right (by omega)];simp only[hlen,Nat.sub_self,List.getElem_cons_zero];exact⟨hi4,rfl,hcl,hce⟩
  ·rintro rec ⟨d,cs⟩ ⟨hd,hlen,hcs⟩;dsimp only at hd hlen hcs;unfold Zqd Zpt;dsimp only;rw[decide_eq_false (by omega),cond_false,ZoK];exact⟨cs,rfl,hlen,hcs⟩
  rintro _ ⟨cs,rfl,hlen,hcs⟩;dsimp only;have:=ZFh (r:=r) (by omega) hcs (by omega) turn;rw[hlen]at this;rw[this];exact ZoK.2 rfl
 ·rw[decide_eq_false hlt,Bool.not_false,cond_true,ZFU];exact ZoK.2 rfl
end Go.Proofs
namespace Eng
open Go Go.Lib
theorem globOk_one {Pg:Program} {w:World} {n:String} {g:Nat} {t e:TypeId} {k:IntKind} {z:Int} (hn:Pg.globalNamed n=some g) (hty:(Pg.globals[g]?).map (·.type)=some t)
  (ht:Pg.underlying t=some (.slice e)) (he:Pg.underlying e=some (.int k)) (hce:Pg.cellsOf e=1) (hz:k.min≤z∧z≤k.max)
  (h:VarReads Pg w n (.slice [.lit (.int k z)] [])):ZeC w (fun b=>b < w.heap.size) g [P.sl 1 [.int k z]]:=by
 obtain⟨g',t',cs,fuel,p,hg,hty',hvar,hd⟩:=h;obtain rfl:=ZN4 (hn.symm.trans hg);obtain rfl:=ZN4 (hty.symm.trans hty');rcases DataW.trod_slice ht hd with ⟨_,hx⟩ |⟨a,len,cap,elems,rest,m,_,hcs,hx,_,hl,hcap,hlen,hel,_,_⟩
 ·cases congrArg Prod.fst hx
 ·have e0:=congrArg Prod.fst hx;simp only[DataW.slice.injEq]at e0;obtain⟨e1,_⟩:=e0
  match elems,e1 with
  | [(d,q)],e1=>
   simp only[ZNU,List.map_nil,List.cons.injEq,and_true]at e1;subst e1;have hlen1:len=1:=by simpa using hlen.symm
   subst hlen1;obtain⟨ci,hci,htr⟩:=Option.bind_eq_some_iff.1 (hel 0 (by decide));obtain⟨z',hc,hxx,_⟩:=DataW.trod_int he htr;have hzz:z'=z:=by have:=congrArg Prod.fst hxx;simpa using this.symm
   subst hzz;subst hc;rw[hce,Nat.zero_mul]at hci;obtain⟨_,_,hc2⟩:=World.cells?_some hci;have h0:=hc2 0 (by decide);have hb:w.cell? a=some (.int k z'):=by simpa[Addr.add]using h0
   have hspot:a.spot=none:=by
    unfold World.cell? at hb;cases hs:a.spot with
    |none=>rfl
    |some s=>rw[hs]at hb;split at hb<;>simp at hb
   have ha:a=⟨a.block,a.off,none⟩:=by cases a;simp at hspot;subst hspot;rfl
   have hlt:a.block < w.heap.size:=ZhN (by rw[ha]at hb;exact hb);have hcs1:cs.size=1:=by have:=congrArg List.length hcs;simpa using this
   refine ZzY (t:=0) (fr:= #[]) (ZBl hn hvar) _ (by rw[hcs1];rfl) fun j v p hv hp=> ?_
   have hj:j=0:=by have:=(Array.getElem?_eq_some_iff.1 hv).1;omega
   subst hj;simp only[ZNJ,ZN5]at hp;subst hp;rw[←Array.getElem?_toList,hcs]at hv;simp only[ZNJ,ZN5]at hv;subst hv;refine⟨.sl (some a) 1 cap _ _ (fun _=> .int k z') rfl (by decide) hl (fun i hi=>rfl) (fun i hi=> ?_) (fun i x hx=> ?_),rfl⟩
   ·have hi0:i=0:=by omega
    subst hi0;refine⟨a.block,a.off,by rw[←ha],hlt,fun j v hv=> ?_⟩;have hj:=(Array.getElem?_eq_some_iff.1 hv).1;have hj0:j=0:=by have:(Value.int k z').cells.size=1:=rfl;omega
    subst hj0;have hvv:v= .int k z':=by have:(Value.int k z').cells[0]? =some (.int k z'):=rfl;exact ZN4 (hv.symm.trans this)
    subst hvv;rw[ha]at hb;simpa using hb
   ·have hi0:i=0:=by have:=(List.getElem?_eq_some_iff.1 hx).1;simp at this;omega
    subst hi0;simp only[ZNJ,ZN5]at hx;subst hx;exact .int k z' hz.1 hz.2
end Eng
