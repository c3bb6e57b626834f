/- Plain laws over the specs, part 1. -/
import Derived.Test.YtbjnddlpdlfknaaGreatDoorQmM0
import Derived.Test.YtbjnddlpdlfknaaGreatDoorE4
set_option linter.unusedVariables false
set_option linter.unusedSimpArgs false
set_option linter.unusedSectionVars false
open Bool renaming not_true→ZBd
open Int renaming toNat_natCast→ZDA, natAbs_neg→ZDx, natCast_add→ZDy, natCast_mul→ZDz
open List renaming length_map→ZDK, getD_eq_getElem?_getD→ZDC, all_eq_true→ZDB, length_take→ZDM, length_singleton→ZDL, mem_cons→ZDO, getElem?_eq_getElem→ZDD, not_mem_nil→ZDQ, getElem_mem→ZDH, take_length→ZDR, take_of_length_le→ZDS, length_drop→ZDJ, getElem?_eq_none→ZDE, mem_range→ZDP, length_append→ZDI, getElem_map→ZDG, mem_append→ZDN, getElem_cons_drop→ZDF, take_succ_eq_append_getElem→ZDT
open Nat renaming le_trans→ZD2, gcd→ZDZ, pow_succ→ZEd, mul_add→ZD7, mul_assoc→ZD8, mod_lt→ZD6, pow_zero→ZEe, le_refl→ZD1, mul_comm→ZD9, div_le_self→ZDY, mul_left_comm→ZEa, le_of_lt→ZD0, lt_of_le_of_lt→ZD3, pos_of_ne_zero→ZEb, lt_or_ge→ZD4, min_eq_left→ZD5, pow_le_pow_right→ZEc, two_pow_pos→ZEg, div_add_mod→ZDW, add_mul_div_left→ZDU, div_eq_of_lt→ZDX, add_mul_mod_self_left→ZDV, two_pow_add_eq_or_of_lt→ZEf
open Option renaming bind_some→ZEh
namespace Go.Proofs
open Go Eng
theorem ZxX (z:Int):ZrC (bg z)=some (bg (-z)):=by
 unfold ZrC ZrK;rw[ZuJ,ZoO,ZnP]
 by_cases hz:z < 0
 ·rw[decide_eq_true hz,ZBd,cond_false];unfold bg;rw[ZDx,decide_eq_false (by omega:¬ -z < 0)]
 ·rw[decide_eq_false hz,Bool.not_false,cond_true];unfold bg;rw[ZDx];congr 2
  by_cases h0:z=0
  ·subst h0;rw[show (0:Int).natAbs=0 from rfl,Zr8];rfl
  ·have:=ZqB (n:=z.natAbs) (by omega);rw[decide_eq_true (by omega),decide_eq_true (by omega)]
theorem Sz.neg {q:Rat} {k:Nat} (h:Sz k q):Sz k (-q):=by show (-q.num).natAbs < 2 ^ k∧q.den < 2 ^ k;rw[ZDx];exact h
def ZxM (a b:Rat):Int:=if a < b then -1 else if b < a then 1 else 0
theorem ZwM (a b:Rat):a < b↔a.num*(b.den:Int) < b.num*(a.den:Int):=Rat.lt_iff a b
theorem ZxI {a b:Rat} (qa:Wq 256 a) (qb:Wq 256 b):ZqV (fOf a) (fOf b)=some (ZxM a b):=by
 have w:∀{x y:Int},Wl 256 x→Wl 256 y→Wl 50000 (x*y):=fun hx hy=>by unfold Wl;rw[Int.natAbs_mul];exact ZD2 (Zxv hx hy) (by decide)
 have m:∀{x:Int},Wl 256 x→Wl 50000 x:=fun h=>ZD2 h (by decide)
 unfold ZqV;rw[Zx6 a qa,ZEh,ZBd,cond_false,Zx6 b qb,ZEh,ZBd];unfold ZtN;rw[cond_false];show ((Zpk (bg a.num) (bg (b.den:Int))).bind fun q=>(Zpk (bg b.num) (bg (a.den:Int))).bind _)=_;rw[Zxa _ _ (m qa.1) (m qb.2),ZEh,Zxa _ _ (m qb.1) (m qa.2),ZEh,ZxX,ZEh];have w2:Wl 50000 (-(b.num*(a.den:Int))):=by unfold Wl;rw[ZDx];exact w qb.1 qa.2
 rw[ZA4 _ _ (w qa.1 qb.2) w2,ZEh,ZuJ,ZoO,ZnP];unfold ZxM;have h1:=ZwM a b;have h2:=ZwM b a;generalize a.num*(b.den:Int)=x at*
 generalize b.num*(a.den:Int)=y at*
 by_cases hl:a < b
 ·rw[if_pos hl,decide_eq_true (by have:=h1.1 hl;omega),cond_true]
 ·have hn:¬x < y:=fun h=>hl (h1.2 h)
  rw[if_neg hl,decide_eq_false (by omega),cond_false]
  by_cases hg:b < a
  ·have:=ZqB (n:=(x+ -y).natAbs) (by have:=h2.1 hg;omega);rw[if_pos hg,decide_eq_true (by omega),cond_true]
  ·have hn2:¬y < x:=fun h=>hg (h2.2 h)
   rw[if_neg hg,show x+ -y=0 by omega,show (0:Int).natAbs=0 from rfl,Zr8];rfl
theorem ZAm (x y:Int) (hy:y≠0) (hx1:Wl 256 x) (hy1:Wl 256 y):Ztx (bg x) (bg y)=some (fOf (Rat.divInt x y),0):=by
 have hb:=ZyW [x,y] (by simp) (fun z hz=>by
  simp only[ZDO,ZDQ,or_false]at hz;rcases hz with rfl |rfl
  ·exact hx1
  ·exact hy1)
 unfold Ztx;rw[show ([bg x,bg y]:List ZnF)=[x,y].map bg from rfl,hb,ZEh,ZBd,cond_false,ZwZ hy,cond_false,Zwz _ _ hy (ZD2 hx1 (by decide)) (ZD2 hy1 (by decide)),ZEh]
theorem ZCJ {z:Int} (h1: -9223372036854775808≤z) (h2:z≤9223372036854775807):Wl 256 z:=ZD2 (ZAn (by omega)) (by decide)
theorem ZBf (x y:Int) (hy:y≠0) (h1: -9223372036854775808≤x) (h2:x≤9223372036854775807) (h3: -9223372036854775808≤y) (h4:y≤9223372036854775807):ZtM x y=some (fOf (Rat.divInt x y),0):=by unfold ZtM;rw[Zxg x h1 h2,ZEh,Zxg y h3 h4,ZEh,ZAm x y hy (ZCJ h1 h2) (ZCJ h3 h4),ZEh]
theorem Zyt:Zuu=some (fOf 0):=by unfold Zuu;rw[ZBf 0 1 (by decide) (by decide) (by decide) (by decide) (by decide),ZEh,Rat.zero_divInt]
theorem Zyd (x y:Int) (hy:y≠0) (h1: -9223372036854775808≤x) (h2:x≤9223372036854775807) (h3: -9223372036854775808≤y) (h4:y≤9223372036854775807):Zwd x y=some (fOf (Rat.divInt x y)):=by unfold Zwd;rw[ZBf x y hy h1 h2 h3 h4,ZEh];rfl
end Go.Proofs
namespace Go.Proofs
open Go Eng
theorem Zx8:∀n w,Zoj n w=ZoG n w
 |0,_=>rfl
 |n+1,w=>by have:Zoj n=ZoG n:=funext (Zx8 n);show Zs9 (Zoj n) w=Zri (ZoG n) w;rw[this];rfl
theorem Zyg (w:List Int):ZnV w=ZnX w:=by unfold ZnV ZnX;rw[Zx8];rfl
theorem Zwc {l:List Nat} (h:Dg l) (hl:l.length≤1000000):ZnV (iL l)=some (iL (wd (val l))):=by rw[Zyg,ZvG h hl]
theorem Zwb (neg:Bool) {l:List Nat} (h:Dg l) (hl:l.length≤1000000):ZnQ neg (iL l)=some (bg (if neg then -(val l:Int)else val l)):=by
 unfold ZnQ ZqP;rw[Zwc h hl,ZEh,ZnP];unfold bg;cases neg with
 |true=>
  rw[cond_true,if_pos rfl,ZDx,Int.natAbs_natCast];congr 2
  by_cases h0:val l=0
  ·rw[h0,Zr8];rfl
  ·have:=ZqB h0;rw[decide_eq_true (by omega),decide_eq_true (by omega)]
 |false=>rw[cond_false,if_neg (by decide),Int.natAbs_natCast,decide_eq_false (by omega)]
theorem Zuy (a:ZnF):Zob a=ZqJ a:=rfl
end Go.Proofs
namespace Go.Proofs
open Go Eng
theorem Zw2 (a b:Nat) (ha:(wd a).length≤100000) (hb:(wd b).length≤100000):Zn3 (iL (wd a)) (iL (wd b))=some (Zxd a b):=by
 refine ZpW ?_;unfold Zn3;rw[ZnP,ZnP,ZnW];refine⟨fun h=> ?_,fun h=> ?_⟩
 ·have hne:(wd a).length≠(wd b).length:=fun e=>by rw[e]at h;simp at h
  rw[ZnW];refine⟨fun h=> ?_,fun h=> ?_⟩
  ·have h1:(wd a).length < (wd b).length:=by have:=of_decide_eq_true h;omega
   rw[ZnC,Zuw (Zxf h1)]
  ·have h1:(wd b).length < (wd a).length:=by have:=of_decide_eq_false h;omega
   rw[ZnC,Zup (Zxf h1)]
 ·have hl:(wd a).length=(wd b).length:=by simp only[bne_eq_false_iff_eq]at h;omega
  rw[ZnG,ZnE];refine⟨ZnH (by omega), ?_⟩;refine ZnS (Zwy Zu3 (wd a).length (by omega) (fun i (s:Unit)=>(iL (wd a),iL (wd b),i)) (fun k _=>(wd a).drop k=(wd b).drop k)
   (Q:=fun r=>r= .ret (Zxd a b)∨r= .brk ()∧a=b) () (by rw[List.drop_length,hl,List.drop_length]) ?_ ?_) ?_
  ·rintro rec k ⟨⟩ hk hP ih;have hk2:k < (wd b).length:=by omega
   unfold Zru Zp3;dsimp only;rw[ZnW];refine⟨fun _=> ?_,fun h=>by have:=of_decide_eq_false h;omega⟩;have ha:=Zvc hk;have hb:=Zvc hk2;rw[ZqK]at ha hb;have la:val ((wd a).take k) < Bw ^ k:=by have:=ZtO ((Zs0 a).take k);rwa [ZDM,ZD5 (by omega)]at this
   have lb:val ((wd b).take k) < Bw ^ k:=by have:=ZtO ((Zs0 b).take k);rwa [ZDM,ZD5 (by omega)]at this
   rw[Zr7 hk,ZnE,ZnC,Zr7 hk2,ZnE,ZnC,ZnW];refine⟨fun hc=> ?_,fun hc=> ?_⟩
   ·have h1:(wd a)[k] < (wd b)[k]:=by have:=of_decide_eq_true hc;omega
    have:a < b:=by rw[ha,hb,hP];exact Zxn (A:=0) (B:=0) la (by omega)
    rw[ZnC];exact .inl (by rw[Zuw this])
   ·rw[ZnE,ZnC,ZnE,ZnC,ZnW];refine⟨fun hc2=> ?_,fun hc2=> ?_⟩
    ·have h1:(wd b)[k] < (wd a)[k]:=by have:=of_decide_eq_true hc2;omega
     have:b < a:=by rw[ha,hb,hP];exact Zxn (A:=0) (B:=0) lb (by omega)
     rw[ZnC];exact .inl (by rw[Zup this])
    ·rw[ZnG];refine⟨ZnH (by omega),ih () ?_⟩;have h1:(wd a)[k]=(wd b)[k]:=by have q1:=of_decide_eq_false hc;have q2:=of_decide_eq_false hc2;omega
     rw[←ZDF (h:=hk),←ZDF (h:=hk2),h1,hP]
  ·rintro rec ⟨⟩ hP;unfold Zru Zp3;dsimp only;rw[ZnW];refine⟨fun h=>by have:=of_decide_eq_true h;omega,fun _=> ?_⟩;rw[ZnC];rw[List.drop_zero,List.drop_zero]at hP;exact .inr ⟨rfl,by rw[←ZqK a,←ZqK b,hP]⟩
  ·rintro r (rfl |⟨rfl,rfl⟩)
   ·exact ZnC.2 rfl
   ·unfold Zsi;exact ZnC.2 (ZtC a).symm
theorem ZxS {a:Nat} (k:Nat) (hk:k≤32):shlK .u32 (a:Int) (k:Int)=((a*2 ^ k % 4294967296:Nat):Int):=by
 unfold shlK;rw[ZDA,show IntKind.bits .u32=32 from rfl,ZD5 (by omega)];have e:(a:Int)*(2:Int) ^ k=((a*2 ^ k:Nat):Int):=by push_cast;rfl
 rw[e,ZsB]
theorem Zx7 (a d:Nat) (hd:d≤1) (ha:(wd a).length≤100000):Zo0 (iL (wd a)) (d:Int)=some (iL (wd (2*a+d))):=by
 refine ZpW ?_;unfold Zo0;rw[ZnE];refine ZnS (ZrW ZuA (wd a).length (by omega) (fun i (s:Nat×List Nat)=>(iL (wd a),(s.1:Int),i,iL s.2)) (fun i s=>s.1≤1∧s.2.length=i∧Dg s.2∧val s.2+Bw ^ i*s.1=2*val ((wd a).take i)+d)
  (Q:=fun y=>∃(c:Nat) (o:List Nat),y=((c:Int),iL o)∧c≤1∧Dg o∧o.length=(wd a).length∧val o+Bw ^ (wd a).length*c=2*a+d) (d,[]) ⟨hd,rfl,Zv8,by simp[val]⟩ ?_ ?_) ?_
 ·rintro rec i ⟨c,o⟩ hi ⟨hc,hl,hod,hv⟩ ih;dsimp only at hc hl hod hv ih;have h1:=(Zs0 a).get hi;unfold Zq4 ZpF;dsimp only;rw[ZnW,ZnP];refine⟨fun _=> ?_,fun h=>by have:=of_decide_eq_false h;omega⟩;rw[Zr7 hi,ZnE,ZnC];generalize ex:(wd a)[i]=x at h1;have eor:orK .u32 (shlK .u32 (x:Int) 1) (c:Int)=((c+x*2 ^ 1 % Bw:Nat):Int):=by rw[show (1:Int)=((1:Nat):Int)from rfl,ZxS 1 (by omega),ZxB (ZD6 _ (by decide)) (by omega),Nat.or_comm];congr 1;exact Zxq (by decide) (by omega) h1
  have esh:shrK .u32 (x:Int) 31=((x / 2 ^ 31:Nat):Int):=Zwh 31 (by omega);rw[eor,ZEh,esh,ZnG,ZnG,ZnG,ZnG,ZnP];have hx:c+x*2 ^ 1 % Bw < Bw:=by simp only[Bw]at h1⊢;omega
  refine⟨by decide,ZsT (by simp only[ZDL];omega),by decide,ZnH (by omega), ?_⟩;have:=ih (x / 2 ^ 31,o++[c+x*2 ^ 1 % Bw]) ⟨by simp only[Bw]at h1;dsimp only;omega,by simp[hl],hod.app (ZvE hx), ?_⟩
  ·rw[ZwX]at this;exact this
  ·dsimp only;have q:c+x*2 ^ 1 % Bw+Bw*(x / 2 ^ 31)=c+2*x:=by simp only[Bw]at h1⊢;omega
   have q2:Bw ^ i*(c+x*2 ^ 1 % Bw+Bw*(x / 2 ^ 31))=Bw ^ i*(c+2*x):=by rw[q]
   have q3:Bw ^ i*(2*x)=2*(Bw ^ i*x):=ZEa _ _ _;rw[ZD7,ZD7 (Bw ^ i) c (2*x),q3]at q2;rw[Zs8,hl,Zn0 hi,ex];generalize c+x*2 ^ 1 % Bw=dg at*
   generalize x / 2 ^ 31=cy at*
   rw[ZEd,ZD8];omega
 ·rintro rec ⟨c,o⟩ ⟨hc,hl,hod,hv⟩;dsimp only at hc hl hod hv;unfold Zq4 ZpF;dsimp only;rw[ZnW,ZnP];refine⟨fun h=>by have:=of_decide_eq_true h;omega,fun _=> ?_⟩;rw[ZnC];rw[ZDR,ZqK]at hv;exact⟨c,o,rfl,hc,hod,hl,hv⟩
 ·rintro y ⟨c,o,rfl,hc,hod,hl,hv⟩;dsimp only;unfold Zrn;have e:iL o++[(c:Int)]=iL (o++[c]):=by rw[ZwX];rfl
  rw[ZnG,ZnP,e,Zwc (hod.app (ZvE (by simp only[Bw];omega))) (by simp;omega),ZnE,ZnC,ZnC,Zs8,hl,hv];exact⟨ZsT (by simp only[ZDL];omega),rfl⟩
end Go.Proofs
namespace Go.Proofs
open Go Eng
theorem Zz9 (t:Int):shrK .i64 t 32=t / 4294967296:=by unfold shrK;rw[show min (32:Int).toNat (IntKind.bits .i64)=32 from by decide,Int.fdiv_eq_ediv_of_nonneg _ (by decide)];rfl
theorem ZwQ (a b:Nat) (hab:b≤a) (ha:(wd a).length≤100000):Zov (iL (wd a)) (iL (wd b))=some (iL (wd (a - b))):=by
 have hlb:(wd b).length≤(wd a).length:=Zrm hab;refine ZpW ?_;unfold Zov;rw[ZnE];refine ZnS (ZrW ZuZ (wd a).length (by omega) (fun i (s:Nat×List Nat)=>(iL (wd a),iL (wd b), -(s.1:Int),i,iL s.2)) (fun i s=>s.1≤1∧s.2.length=i∧Dg s.2∧val ((wd a).take i)+Bw ^ i*s.1=val s.2+val ((wd b).take i))
  (Q:=fun y=>∃(o:List Nat),y=iL o∧Dg o∧o.length=(wd a).length∧val o=a - b) (0,[]) ⟨by simp,rfl,Zv8,by simp[val]⟩ ?_ ?_) ?_
 ·rintro rec i ⟨c,o⟩ hi ⟨hc,hl,hd,hv⟩ ih;dsimp only at hc hl hd hv ih;have h1:=(Zs0 a).get hi;have h2:=Zwj (Zs0 b) i;have ey0:(wd b).getD i 0=(if i < (wd b).length then (wd b).getD i 0 else 0):=by
   by_cases h:i < (wd b).length
   ·rw[if_pos h]
   ·rw[if_neg h,ZDC,ZDE (by omega)];rfl
  have fin:∀y:Nat,(wd b).getD i 0=y→wp (Zpr (fun a b c i out=>rec (a,b,c,i,out)) (iL (wd a)) (iL (wd b)) (-(c:Int)+((wd a)[i]:Int) - (y:Int)) (i:Int) (iL o)) (fun y=>∃(o:List Nat),y=iL o∧Dg o∧o.length=(wd a).length∧val o=a - b):=fun y ey=>by
   rw[ey]at h2;generalize ex:(wd a)[i]=x at h1;have ew:IntKind.wrap .u32 (-(c:Int)+(x:Int) - (y:Int))=(((x+4294967296 - y - c) % 4294967296:Nat):Int):=by simp only[Bw]at h1 h2;rw[IntKind.wrap_u32];omega
   have es:shrK .i64 (-(c:Int)+(x:Int) - (y:Int)) 32= -(((if x < y+c then 1 else 0):Nat):Int):=by simp only[Bw]at h1 h2;rw[Zz9];split<;>omega
   unfold Zpr;rw[ew,es,ZnG,ZnG,ZnG,ZnP];refine⟨ZsT (by simp only[ZDL];omega),by decide,ZnH (by omega), ?_⟩;have:=ih ((if x < y+c then 1 else 0),o++[(x+4294967296 - y - c) % 4294967296]) ⟨by dsimp only;split<;>omega,by simp[hl],hd.app (ZvE (ZD6 _ (by decide))), ?_⟩
   ·rw[ZwX]at this;exact this
   ·dsimp only;rw[Zs8,hl,ZEd,Zn0 hi,ZtF,ex,ey,ZD8];have e:x+Bw*(if x < y+c then 1 else 0)=(x+4294967296 - y - c) % 4294967296+y+c:=by simp only[Bw]at h1 h2⊢;split<;>omega
    have e2:Bw ^ i*(x+Bw*(if x < y+c then 1 else 0))=Bw ^ i*((x+4294967296 - y - c) % 4294967296+y+c):=by rw[e]
    rw[ZD7,ZD7,ZD7]at e2;omega
  unfold Zro ZpZ;dsimp only;rw[ZnW,ZnP,ZnP];refine⟨fun _=> ?_,fun h=>by have:=of_decide_eq_false h;omega⟩;have wx:IntKind.wrap .i64 ((wd a)[i]:Int)=((wd a)[i]:Int):=wrap_i64 (by simp only[Bw]at h1;omega);rw[Zr7 hi,ZnE,ZnC,wx,ZnG,ZnW];refine⟨ZnH (by simp only[Bw]at h1;omega),fun h=> ?_,fun h=> ?_⟩
  ·have hib:i < (wd b).length:=by have:=of_decide_eq_true h;omega
   have hy:=(Zs0 b).get hib;have wy:IntKind.wrap .i64 ((wd b)[i]:Int)=((wd b)[i]:Int):=wrap_i64 (by simp only[Bw]at hy;omega);rw[Zr7 hib,ZnE,ZnC,wy,ZnG];refine⟨ZnH (by simp only[Bw]at h1 hy;omega),fin _ ?_⟩;rw[ZDC,ZDD hib];rfl
  ·have hib:¬i < (wd b).length:=by have:=of_decide_eq_false h;omega
   have:=fin 0 (by rw[ey0,if_neg hib]);rw[Int.natCast_zero,Int.sub_zero]at this;exact this
 ·rintro rec ⟨c,o⟩ ⟨hc,hl,hd,hv⟩;unfold Zro ZpZ;dsimp only at hc hl hd hv⊢
  rw[ZnW,ZnP];refine⟨fun h=>by have:=of_decide_eq_true h;omega,fun _=> ?_⟩;rw[ZnC];rw[ZDR,ZDS (by omega),ZqK,ZqK]at hv;have:=ZtO hd;rw[hl]at this;have hc0:c=0:=by
   rcases Nat.eq_zero_or_pos c with h |h
   ·exact h
   ·have:c=1:=by omega
    rw[this,Nat.mul_one]at hv;omega
  rw[hc0,Nat.mul_zero]at hv;exact⟨o,rfl,hd,hl,by omega⟩
 ·rintro y ⟨o,rfl,hd,hl,hv⟩;unfold Zr9;rw[Zwc hd (by omega),ZnE,ZnC,ZnC,hv]
end Go.Proofs
namespace Go.Proofs
open Go Eng
theorem ZwN (a:Nat) (ha:(wd a).length≤100000):Zop (iL (wd a))=some (iL (wd (a / 2))):=by
 refine ZpW ?_;unfold Zop;rw[List.nil_append,ZnG,ZnE,ZnP];refine⟨ZsT (by rw[List.length_nil];omega), ?_⟩;refine ZnS (ZrW ZuL (wd a).length (by omega) (fun i (o:List Nat)=>(iL (wd a),((wd a).length:Int),i,iL (o++(wd a).drop o.length))) (fun i o=>o.length=i∧Dg o∧val o*2+(wd a).getD 0 0 % 2=val ((wd a).take i)+Bw ^ i*((wd a).getD i 0 % 2))
  (Q:=fun y=>∃(o:List Nat),y=iL o∧Dg o∧o.length=(wd a).length∧val o=a / 2) [] ⟨rfl,Zv8,by simp[val]⟩ ?_ ?_) ?_
 ·rintro rec i o hi ⟨hol,hod,hov⟩ ih;have h1:=(Zs0 a).get hi;have hyB:=Zwj (Zs0 a) (i+1);have hlen:(o++(wd a).drop o.length).length=(wd a).length:=by simp;omega
  have gx:(iL (o++(wd a).drop o.length))[i]? =some ((wd a)[i]:Int):=by rw[Zv6 (by omega)];congr 2;rw[List.getElem_append_right (by omega)];simp[hol]
  have fin:∀z:Nat,z=(wd a)[i] / 2+(wd a).getD (i+1) 0*2 ^ 31 % Bw→wp (Zpd (fun a t9 i out=>rec (a,t9,i,out)) (iL (wd a)) ((wd a).length:Int) (i:Int) (iL ((o++(wd a).drop o.length).set i z))) (fun y=>∃(o:List Nat),y=iL o∧Dg o∧o.length=(wd a).length∧val o=a / 2):=fun z hz=>by
   unfold Zpd;have es:(o++(wd a).drop o.length).set i z=(o++[z])++(wd a).drop (o++[z]).length:=by rw[List.set_append_right _ _ (by omega),hol,Nat.sub_self,←ZDF (h:=hi),List.set_cons_zero];simp[hol]
   have eg:(wd a).getD i 0=(wd a)[i]:=by rw[ZDC,ZDD hi];rfl
   rw[eg]at hov;rw[ZnG,es];generalize ex:(wd a)[i]=x at*
   generalize ey:(wd a).getD (i+1) 0=y at*
   have hzB:z < Bw:=by simp only[Bw]at h1 hz⊢;omega
   refine⟨ZnH (by omega),ih (o++[z]) ⟨by simp[hol],hod.app (ZvE hzB), ?_⟩⟩;have hd1:z*2+x % 2=x+Bw*(y % 2):=by simp only[Bw]at h1 hz⊢;omega
   have q1:Bw ^ i*(z*2+x % 2)=Bw ^ i*(x+Bw*(y % 2)):=by rw[hd1]
   rw[ZD7,ZD7]at q1;rw[Zs8,hol,Zn0 hi,ex,ZEd,Nat.add_mul,ZD8,ZD8];omega
  unfold Zrd ZpU;dsimp only;rw[ZnW];refine⟨fun _=> ?_,fun h=>by have:=of_decide_eq_false h;omega⟩;have esh:shrK .u32 ((wd a)[i]:Int) 1=(((wd a)[i] / 2:Nat):Int):=Zwh 1 (by omega);rw[ZDA,gx,ZnG,ZnE,ZnC,ZnG,ZnG,ZnG,esh,Zvs,ZnP,ZnP,hlen,ZnW];refine⟨Zqm ⟨by omega,by omega⟩,by decide,Zqm ⟨by omega,by omega⟩,ZnH (by omega),fun h=> ?_,fun h=> ?_⟩
  ·have hi2:i+1 < (wd a).length:=by have:=of_decide_eq_true h;omega
   have gz:(iL ((o++(wd a).drop o.length).set i ((wd a)[i] / 2)))[i]? =some (((wd a)[i] / 2:Nat):Int):=by rw[Zv6 (by rw[List.length_set];omega),List.getElem_set_self]
   have e1:(i:Int)+1=((i+1:Nat):Int):=rfl;have eg:(wd a).getD (i+1) 0=(wd a)[i+1]:=by rw[ZDC,ZDD hi2];rfl
   have eor:orK .u32 (((wd a)[i] / 2:Nat):Int) (shlK .u32 ((wd a)[i+1]:Int) 31)=(((wd a)[i] / 2+(wd a).getD (i+1) 0*2 ^ 31 % Bw:Nat):Int):=by rw[eg,show (31:Int)=((31:Nat):Int)from rfl,ZxS 31 (by omega),ZxB (by simp only[Bw]at h1;omega) (ZD6 _ (by decide))];congr 1;exact Zxq (by decide) (by simp only[Bw]at h1;omega) ((Zs0 a).get hi2)
   rw[e1,Zr7 hi2,gz,ZnG,ZnE,ZnC,ZnG,ZnE,ZnC,ZnG,ZnG,eor,ZnP,List.length_set,hlen,Zvs,List.set_set];exact⟨Zqm ⟨by omega,by omega⟩,ZnH (by omega),by decide,Zqm ⟨by omega,by omega⟩,fin _ rfl⟩
  ·have hi2:¬i+1 < (wd a).length:=by have:=of_decide_eq_false h;omega
   refine fin _ ?_;rw[ZDC,ZDE (by omega)];simp
 ·rintro rec o ⟨hol,hod,hov⟩;unfold Zrd ZpU;dsimp only;rw[ZnW];refine⟨fun h=>by have:=of_decide_eq_true h;omega,fun _=> ?_⟩;rw[ZnC];have eg:(wd a).getD (wd a).length 0=0:=by rw[ZDC,ZDE (by omega)];rfl
  rw[eg,Nat.zero_mod,Nat.mul_zero,Nat.add_zero,ZDR,ZqK]at hov;refine⟨o,by rw[hol,List.drop_length,List.append_nil],hod,hol, ?_⟩;omega
 ·rintro y ⟨o,rfl,hd,hl,hv⟩;unfold ZrN;rw[Zwc hd (by omega),ZnE,ZnC,ZnC,hv]
end Go.Proofs
namespace Go.Proofs
open Go Eng
theorem ZxD {a:Nat} (h:a≠0):idx (iL (wd a)) 0=some ((a % Bw:Nat):Int):=by rw[Zwn h];rfl
theorem ZwY {a:Nat}:(andK .u32 ((a % Bw:Nat):Int) 1 == 0)=decide (a % 2=0):=by
 rw[show (1:Int)=((1:Nat):Int)from rfl,Zxs (ZD6 _ (by decide)) (by decide),Nat.and_one_is_mod];have e:a % Bw % 2=a % 2:=by simp only[Bw];omega
 rw[e]
 by_cases h:a % 2=0
 ·rw[h];rfl
 ·rw[decide_eq_false h];exact beq_eq_false_iff_ne.2 (by omega)
theorem Zyc (P:Nat→Prop) {f:Nat→List Int×List Int×Int→Option (List Int×List Int×Int)} (y:List Int) (k:Int)
  (hf:∀n x,x≠0→(wd x).length≤100000→f (n+1) (iL (wd x),y,k)=if x % 2=0 then f n (iL (wd (x / 2)),y,k)else some (iL (wd x),y,k))
  (hP:∀x,P (2*x)→P x):∀(n x:Nat),x≠0→(wd x).length≤100000→P x→(∀m,x < 2 ^ m→m≤n→∃z,f n (iL (wd x),y,k)=some (iL (wd z),y,k)∧z % 2=1∧z≤x∧P z)
 |0,x,hx,hl,hp,m,hm,hmn=>by
  have:m=0:=by omega
  subst this;rw[ZEe]at hm;omega
 |n+1,x,hx,hl,hp,m,hm,hmn=>by
  rw[hf n x hx hl]
  by_cases h:x % 2=0
  ·rw[if_pos h];cases m with
   |zero=>rw[ZEe]at hm;omega
   |succ m=>
    obtain⟨z,h1,h2,h3,h4⟩:=Zyc P y k hf hP n (x / 2) (by omega) (ZD2 (Zrm (ZDY x 2)) hl) (hP _ (by rwa [show 2*(x / 2)=x by omega])) m (by rw[ZEd]at hm;omega) (by omega);exact⟨z,h1,h2,by omega,h4⟩
  ·rw[if_neg h];exact⟨x,rfl,by omega,ZD1 _,hp⟩
end Go.Proofs
namespace Go.Proofs
open Go Eng
theorem Zux (x:Nat):x < 2 ^ (x.log2+1):=Nat.lt_log2_self
theorem ZvN {x n:Nat} (h:(wd x).length≤n):x.log2≤32*n:=by
 rcases Nat.eq_zero_or_pos x with rfl |hp
 ·rw[Nat.log2_zero];omega
 ·have h1:=Nat.log2_self_le (n:=x) (by omega);have h2:=Nat.lt_of_lt_of_le (Ztg x) (ZEc (n:=Bw) (by decide) h);rw[show Bw=2 ^ 32 from rfl,←Nat.pow_mul]at h2;exact ZD0 ((Nat.pow_lt_pow_iff_right (a:=2) (by decide)).1 (ZD3 h1 h2))
theorem ZyO {x b:Nat} (hb:b % 2=1):ZDZ (2*x) b=ZDZ x b:=by
 have hc:Nat.Coprime 2 b:=by unfold Nat.Coprime;rw[Nat.gcd_rec,hb,Nat.gcd_one_left]
 exact Nat.Coprime.gcd_mul_left_cancel x hc
theorem ZC4 (y:List Int) (k:Int) {x:Nat} (b:Nat) (hb:b % 2=1) (hx:x≠0) (hl:(wd x).length≤100000):∃z,Zn8 big (iL (wd x)) y k=some (iL (wd z),y,k)∧z % 2=1∧z≤x∧ZDZ z b=ZDZ x b:=by
 have hm:=ZvN hl;refine Zyc (fun z=>ZDZ z b=ZDZ x b) (f:=fun n t=>Zn8 n t.1 t.2.1 t.2.2) y k (fun n x hx hl=> ?_) (fun z h=>by rwa [ZyO hb]at h) big x hx hl rfl (x.log2+1) (Zux x) (ZD0 (Zw4 (by omega)));show Zo6 (Zn8 n) (iL (wd x)) y k=_;unfold Zo6;rw[ZxD hx,ZEh,ZwY]
 by_cases h:x % 2=0
 ·rw[decide_eq_true h,cond_true,if_pos h,ZwN x hl,ZEh]
 ·rw[decide_eq_false h,cond_false,if_neg h]
end Go.Proofs
namespace Go.Proofs
open Go Eng
theorem ZzD (y:List Int) (k:Int) {x:Nat} (ho:x % 2=1):Zn8 big (iL (wd x)) y k=some (iL (wd x),y,k):=by obtain⟨n,hn⟩:=ZyX 1 (by decide);rw[hn];show Zo6 (Zn8 n) (iL (wd x)) y k=_;unfold Zo6;rw[ZxD (by omega),ZEh,ZwY,decide_eq_false (by omega),cond_false]
theorem ZC3 (w:List Int) (k:Int) {y:Nat} (b:Nat) (hb:b % 2=1) (hy:y≠0) (hl:(wd y).length≤100000):∃z,Zn7 big w (iL (wd y)) k=some (w,iL (wd z),k)∧z % 2=1∧(z≤y∧(y % 2=0→z≤y / 2))∧ZDZ z b=ZDZ y b:=by
 have hm:=ZvN hl;have step:∀n x,x≠0→(wd x).length≤100000→Zn7 (n+1) w (iL (wd x)) k=if x % 2=0 then Zn7 n w (iL (wd (x / 2))) k else some (w,iL (wd x),k):=fun n x hx hl=>by
  show Zrr (Zn7 n) w (iL (wd x)) k=_;unfold Zrr;rw[ZxD hx,ZEh,ZwY]
  by_cases h:x % 2=0
  ·rw[decide_eq_true h,cond_true,if_pos h,ZwN x hl,ZEh]
  ·rw[decide_eq_false h,cond_false,if_neg h]
 have key:∀(n x m:Nat),x≠0→(wd x).length≤100000→x < 2 ^ m→m≤n→∃z,Zn7 n w (iL (wd x)) k=some (w,iL (wd z),k)∧z % 2=1∧(z≤x∧(x % 2=0→z≤x / 2))∧ZDZ z b=ZDZ x b:=by
  intro n
  induction n with
  |zero=>
   intro x m hx hl hm hmn;have:m=0:=by omega
   subst this;rw[ZEe]at hm;omega
  |succ n ih=>
   intro x m hx hl hm hmn;rw[step n x hx hl]
   by_cases h:x % 2=0
   ·rw[if_pos h];cases m with
    |zero=>rw[ZEe]at hm;omega
    |succ m=>
     obtain⟨z,h1,h2,h3,h4⟩:=ih (x / 2) m (by omega) (ZD2 (Zrm (ZDY x 2)) hl) (by rw[ZEd]at hm;omega) (by omega);refine⟨z,h1,h2,⟨by omega,fun _=>h3.1⟩, ?_⟩;rw[h4,←ZyO hb,show 2*(x / 2)=x by omega]
   ·rw[if_neg h];exact⟨x,rfl,by omega,⟨ZD1 _,fun h'=>absurd h' h⟩,rfl⟩
 exact key big y (y.log2+1) hy hl (Zux y) (ZD0 (Zw4 (by omega)))
end Go.Proofs
namespace Go.Proofs
open Go Eng
theorem Zzm (k:Int):∀(n x y p q:Nat),x % 2=1→(wd x).length≤100000→(wd y).length≤100000→x < 2 ^ p→y < 2 ^ q→p+q+y % 2 < n→ZnR n (iL (wd x)) (iL (wd y)) k=some (iL (wd (ZDZ x y)),k)
 |0,x,y,p,q,_,_,_,_,_,h=>absurd h (by omega)
 |n+1,x,y,p,q,ho,hxl,hyl,hp,hq,hn=>by
  show Zo7 (ZnR n) _ _ _=_;unfold Zo7;rw[ZnP]
  by_cases h0:y=0
  ·subst h0;rw[Zr8,Nat.gcd_zero_right];rfl
  ·have hl:=ZqB h0;obtain⟨z,hz,hz1,hz2,hz3⟩:=ZC3 (iL (wd x)) k x ho h0 hyl;rw[decide_eq_true (by omega),cond_true,ZzD _ _ ho,ZEh];dsimp only;unfold Zsf;rw[hz,ZEh];dsimp only;have hzl:=ZD2 (Zrm hz2.1) hyl;unfold Zse;rw[Zw2 x z hxl hzl,ZEh];obtain⟨q',hq',hq2⟩:∃q',z < 2 ^ q'∧q'+1≤q+y % 2:=by
    by_cases he:y % 2=0
    ·cases q with
     |zero=>rw[ZEe]at hq;omega
     |succ q=>
      refine⟨q, ?_,by omega⟩;have:=hz2.2 he;rw[ZEd]at hq;omega
    ·exact⟨q,by omega,by omega⟩
   unfold ZqM;have eg:ZDZ x y=ZDZ x z:=by rw[Nat.gcd_comm x y,←hz3,Nat.gcd_comm]
   rw[eg]
   by_cases hc:z < x
   ·rw[Zup hc,show decide ((1:Int) > 0)=true from rfl,cond_true,ZwQ x z (by omega) hxl,ZEh,Zzm k n z (x - z) q' p hz1 hzl (ZD2 (Zrm (Nat.sub_le x z)) hxl) hq' (by omega) (by omega),Nat.gcd_sub_self_right (by omega),Nat.gcd_comm]
   ·have hnc:decide (Zxd x z > 0)=false:=by refine decide_eq_false ?_;unfold Zxd;rw[if_neg hc];split<;>decide
    rw[hnc,cond_false,ZwQ z x (by omega) hzl,ZEh,Zzm k n x (z - x) p q' ho hxl (ZD2 (Zrm (Nat.sub_le z x)) hzl) hp (by omega) (by omega),Nat.gcd_sub_self_right (by omega)]
end Go.Proofs
namespace Go.Proofs
open Go Eng
theorem ZBm:∀(n x y j m:Nat),x≠0→y≠0→(wd x).length≤100000→(wd y).length≤100000→x < 2 ^ m→m≤n→j+m≤1000000000→
  ∃x' y' t:Nat,ZoR n (iL (wd x)) (iL (wd y)) (j:Int)=some (iL (wd x'),iL (wd y'),((j+t:Nat):Int))∧(x' % 2=1∨y' % 2=1)∧ZDZ x y=2 ^ t*ZDZ x' y'∧x'≠0∧y'≠0∧x'≤x∧y'≤y∧t≤m
 |0,x,y,j,m,hx,hy,hxl,hyl,hm,hmn,hj=>by
  have:m=0:=by omega
  subst this;rw[ZEe]at hm;omega
 |n+1,x,y,j,m,hx,hy,hxl,hyl,hm,hmn,hj=>by
  show ∃x' y' t:Nat,Zrs (ZoR n) _ _ _=_∧_;unfold Zrs ZqN;rw[ZxD hx,ZEh,ZwY]
  by_cases h1:x % 2=0
  ·rw[decide_eq_true h1,cond_true,ZxD hy,ZEh,ZwY]
   by_cases h2:y % 2=0
   ·cases m with
    |zero=>rw[ZEe]at hm;omega
    |succ m=>
     rw[decide_eq_true h2,cond_true,ZwN x hxl,ZEh,ZwN y hyl,ZEh,ZnH (by omega),chk_true];obtain⟨x',y',t,q1,q2,q3,q4,q5,q6,q7,q8⟩:=ZBm n (x / 2) (y / 2) (j+1) m (by omega) (by omega) (ZD2 (Zrm (ZDY x 2)) hxl) (ZD2 (Zrm (ZDY y 2)) hyl) (by rw[ZEd]at hm;omega) (by omega) (by omega);refine⟨x',y',t+1, ?_,q2, ?_,q4,q5,by omega,by omega,by omega⟩
     ·rw[show (j:Int)+1=((j+1:Nat):Int)from rfl,q1,show j+1+t=j+(t+1) by omega]
     ·have:=Nat.gcd_mul_left 2 (x / 2) (y / 2);rw[show 2*(x / 2)=x by omega,show 2*(y / 2)=y by omega]at this;rw[this,q3,ZEd,ZD9 (2 ^ t) 2,ZD8]
   ·rw[decide_eq_false h2,cond_false];exact⟨x,y,0,rfl,.inr (by omega),by rw[ZEe,Nat.one_mul],hx,hy,ZD1 _,ZD1 _,Nat.zero_le _⟩
  ·rw[decide_eq_false h1,cond_false,cond_false];exact⟨x,y,0,rfl,.inl (by omega),by rw[ZEe,Nat.one_mul],hx,hy,ZD1 _,ZD1 _,Nat.zero_le _⟩
theorem ZBl:∀(k n a:Nat),k < n→k≤1000000000→(wd (2 ^ k*a)).length≤100000→ZoQ n (iL (wd a)) (k:Int)=some (iL (wd (2 ^ k*a)))
 |k,0,a,h,_,_=>absurd h (by omega)
 |0,n+1,a,_,_,_=>by show Zo5 (ZoQ n) _ _=_;unfold Zo5;rw[ZEe,Nat.one_mul];rfl
 |k+1,n+1,a,h,hk,hl=>by
  show Zo5 (ZoQ n) _ _=_;unfold Zo5;have e:2 ^ (k+1)*a=2 ^ k*(2*a+0):=by rw[ZEd,ZD8,Nat.add_zero]
  have ha:(wd a).length≤100000:=ZD2 (Zrm (Nat.le_mul_of_pos_left a (ZEg _))) hl;rw[e]at hl;have ht:=Zx7 a 0 (by omega) ha;rw[Int.natCast_zero]at ht;rw[decide_eq_true (by omega),cond_true,ht,ZEh,show ((k+1:Nat):Int) - 1=(k:Int) by omega,ZnH (by omega),chk_true,ZBl k n (2*a+0) (by omega) (by omega) hl,e]
theorem ZyP (a b:Nat) (ha0:a≠0) (hb0:b≠0) (ha:(wd a).length≤50000) (hb:(wd b).length≤50000):Zpl (iL (wd a)) (iL (wd b))=some (iL (wd (ZDZ a b))):=by
 have hla:=ZvN ha;have hlb:=ZvN hb;obtain⟨x,y,t,q1,q2,q3,q4,q5,q6,q7,q8⟩:=ZBm big a b 0 (a.log2+1) ha0 hb0 (by omega) (by omega) (Zux a) (ZD0 (Zw4 (by omega))) (by omega);rw[Int.natCast_zero,Nat.zero_add]at q1;have hxl:=ZD2 (Zrm q6) ha;have hyl:=ZD2 (Zrm q7) hb;have hlx:=ZvN hxl;have hly:=ZvN hyl;have main:ZnR big (iL (wd x)) (iL (wd y)) (t:Int)=some (iL (wd (ZDZ x y)),(t:Int)):=by
  by_cases hx:x % 2=1
  ·exact Zzm _ big x y _ _ hx (by omega) (by omega) (Zux x) (Zux y) (Zw4 (by omega))
  ·have hy:y % 2=1:=by omega
   obtain⟨z,z1,z2,z3,z4⟩:=ZC4 (iL (wd y)) (t:Int) y hy q4 (by omega);have hzl:=ZD2 (Zrm z3) hxl;have hlz:=ZvN hzl;have e:=Zzm (t:Int) big z y _ _ z2 (by omega) (by omega) (Zux z) (Zux y) (Zw4 (by omega));rw[z4]at e;rw[←e];obtain⟨n,hn⟩:∃n,big=n+1:=⟨36893488147419103231,by rw[big_eq]⟩;have s1:∀u,ZnR big (iL (wd u)) (iL (wd y)) (t:Int)=Zo7 (ZnR n) (iL (wd u)) (iL (wd y)) (t:Int):=fun u=>by rw[hn];rfl
   rw[s1,s1];unfold Zo7;have hl:=ZqB q5;rw[ZnP,decide_eq_true (by omega),cond_true,cond_true,z1,ZzD _ _ z2]
 have hg:(wd (2 ^ t*ZDZ x y)).length≤100000:=by rw[←q3];exact ZD2 (Zyu (by omega) hb) (by omega)
 unfold Zpl;rw[q1,ZEh];dsimp only;unfold Zsg Zsd Zsc;rw[main,ZEh];dsimp only;rw[ZBl t big _ (Zw4 (by omega)) (by omega) hg,ZEh,q3]
end Go.Proofs
namespace Go.Proofs
open Go Eng
theorem ZyV {l:List Nat} {i:Nat} (hd:Dg l) (h:i / 32 < l.length):l[i / 32] / 2 ^ (i % 32) % 2=val l / 2 ^ i % 2:=by
 have e:=Zvc h;have hlt:=ZtO (hd.take (i / 32));rw[ZDM,ZD5 (by omega)]at hlt;have hi:2 ^ i=Bw ^ (i / 32)*2 ^ (i % 32):=by rw[show Bw=2 ^ 32 from rfl,←Nat.pow_mul,←Nat.pow_add,ZDW]
 have hr:i % 32 < 32:=ZD6 _ (by decide);have hB:Bw=2 ^ (i % 32)*(2*2 ^ (31 - i % 32)):=by rw[show 2*2 ^ (31 - i % 32)=2 ^ (31 - i % 32+1) by rw[ZEd,ZD9],←Nat.pow_add,show i % 32+(31 - i % 32+1)=32 by omega]
 have e1:val l / Bw ^ (i / 32)=l[i / 32]+Bw*val (l.drop (i / 32+1)):=by rw[e,ZDU _ _ (Nat.pow_pos (by decide)),ZDX hlt,Nat.zero_add]
 rw[hi,←Nat.div_div_eq_div_mul,e1];generalize l[i / 32]=x;generalize val (l.drop (i / 32+1))=y;have e2:(x+Bw*y) / 2 ^ (i % 32)=x / 2 ^ (i % 32)+2*(2 ^ (31 - i % 32)*y):=by rw[hB,ZD8,ZDU _ _ (ZEg _),ZD8]
 rw[e2,ZDV]
end Go.Proofs
namespace Go.Proofs
open Go Eng
theorem Zzy (i:Nat):Int.tdiv (i:Int) 32=((i / 32:Nat):Int):=by rw[Int.tdiv_eq_ediv_of_nonneg (by omega)];norm_cast
theorem Zzx (i:Nat):IntKind.wrap .u64 (Int.tmod (i:Int) 32)=((i % 32:Nat):Int):=by rw[Int.tmod_eq_emod_of_nonneg (by omega),IntKind.wrap_u64];omega
theorem ZBM {l:List Nat} {i:Nat} (hd:Dg l) (h:i / 32 < l.length) (hi:i≤1000000000):Zqw (iL l) (i:Int)=some ((val l / 2 ^ i % 2:Nat):Int):=by have h1:=hd.get h;unfold Zqw;rw[Zzy,Zzx,decide_eq_true (by decide),chk_true,ZnH (by omega),chk_true,Zr7 h,ZEh,chk_true,decide_eq_true (by omega),chk_true,Zwh _ (by omega),show (1:Int)=((1:Nat):Int)from rfl,Zxs (ZD3 (ZDY _ _) h1) (by decide),Nat.and_one_is_mod,ZyV hd h]
end Go.Proofs
namespace Go.Proofs
open Go Eng
theorem ZzA {x j:Nat} (h:x / 2 ^ j % 2=0):x|||2 ^ j=x+2 ^ j:=by
 have hlo:=ZD6 x (ZEg j);have e:x=2 ^ (j+1)*(x / 2 ^ j / 2)+x % 2 ^ j:=by
  have h1:=ZDW x (2 ^ j);have h2:2*(x / 2 ^ j / 2)=x / 2 ^ j:=by omega
  rw[ZEd,ZD8,h2,h1]
 have a1:=ZEf (i:=j+1) (b:=x % 2 ^ j) (by rw[ZEd];omega) (x / 2 ^ j / 2);have a2:=ZEf (i:=j) (b:=x % 2 ^ j) hlo 1;have a3:=ZEf (i:=j+1) (b:=2 ^ j*1+x % 2 ^ j) (by rw[ZEd];omega) (x / 2 ^ j / 2);rw[Nat.mul_one]at a2 a3;generalize x / 2 ^ j / 2=t at*
 generalize x % 2 ^ j=lo at*
 rw[e,a1,Nat.or_assoc,Nat.or_comm lo,←a2,←a3,←a1];omega
theorem ZAb {j:Nat} (hj:j≤31):shlK .u32 1 (j:Int)=((2 ^ j:Nat):Int):=by have:=ZxS (a:=1) j (by omega);rw[Nat.one_mul,Nat.mod_eq_of_lt (ZD3 (ZEc (by decide) hj) (by decide))]at this;exact this
theorem ZyM {A k:Nat}:A / 2 ^ k=2*(A / 2 ^ (k+1))+A / 2 ^ k % 2:=by rw[ZEd,←Nat.div_div_eq_div_mul];omega
theorem ZyR (a b:Nat) (hb0:b≠0) (ha:(wd a).length≤50000) (hb:(wd b).length≤50000):Zpm (iL (wd a)) (iL (wd b))=some (iL (wd (a / b)),iL (wd (a % b))):=by
 have hlen:∀k,(wd (2*(a / 2 ^ (k+1) % b)+a / 2 ^ k % 2)).length≤50001:=fun k=>by
  have h1:=ZD6 (a / 2 ^ (k+1)) (ZEb hb0);have h2:2*(a / 2 ^ (k+1) % b)+a / 2 ^ k % 2≤b+b:=by omega
  exact ZD2 (Zrm h2) (Zx4 hb hb)
 refine ZpW ?_;unfold Zpm;rw[ZnG,ZnG,ZnG,ZnE,ZnP,ZDA,ZwW];refine⟨ZvM (by omega),ZnH (by omega),ZnH (by omega), ?_⟩;have e0:(32*((wd a).length:Int)) - 1=((32*(wd a).length:Nat):Int) - 1:=by omega
 rw[e0,show ([]:List Int)=iL (wd 0) by rw[Zr8];rfl];refine ZnS (Zwy Zu2 (32*(wd a).length) (by omega) (fun i (q:Nat×List Nat)=>(iL (wd a),iL (wd b),iL (wd q.1),i,iL q.2))
  (fun k q=>q.1=a / 2 ^ k % b∧Dg q.2∧q.2.length=(wd a).length∧val q.2=a / 2 ^ k / b*2 ^ k)
  (Q:=fun y=>∃o:List Nat,y=(iL (wd (a % b)),iL o)∧Dg o∧o.length=(wd a).length∧val o=a / b) (0,List.replicate (wd a).length 0) ?_ ?_ ?_) ?_
 ·have h0:a / 2 ^ (32*(wd a).length)=0:=by refine ZDX ?_;rw[Nat.pow_mul];exact Ztg a
  rw[h0,Nat.zero_mod,Nat.zero_div,Nat.zero_mul];exact⟨rfl,ZyS _,List.length_replicate,ZxQ _⟩
 ·rintro rec k ⟨r,q⟩ hk ⟨hr,hd,hl,hv⟩ ih;dsimp only at hr hd hl hv;have hk32:k / 32 < (wd a).length:=by omega
  unfold Zrt Zp2;dsimp only;have hbit:=ZBM (i:=k) (Zs0 a) hk32 (by omega);rw[ZqK]at hbit;have h2:a / 2 ^ k % 2≤1:=by omega
  have htw:=Zx7 r (a / 2 ^ k % 2) h2 (by
   rw[hr];exact ZD2 (Zrm (ZD0 (ZD6 _ (ZEb hb0)))) (by omega))
  have hlk:=hlen k;rw[←hr]at hlk;have hx:=ZyM (A:=a) (k:=k);have hdm:=ZDW (a / 2 ^ (k+1)) b;rw[←hr]at hdm;have hrlt:r < b:=by rw[hr];exact ZD6 _ (ZEb hb0)
  rw[ZnW];refine⟨fun _=> ?_,fun h=>by have:=of_decide_eq_false h;omega⟩;rw[hbit,ZnE,ZnC,htw,ZnE,ZnC,Zw2 _ _ (by omega) (by omega),ZnE,ZnC,ZnW];have nx:∀r' q',(r'=a / 2 ^ k % b∧Dg q'∧q'.length=(wd a).length∧val q'=a / 2 ^ k / b*2 ^ k)→wp (Zpv (fun a b r_ i q=>rec (a,b,r_,i,q)) (iL (wd a)) (iL (wd b)) (iL (wd r')) (k:Int) (iL q')) (fun y=>∃o:List Nat,y=(iL (wd (a % b)),iL o)∧Dg o∧o.length=(wd a).length∧val o=a / b):=fun r' q' h=>by unfold Zpv;rw[ZnG];exact⟨ZnH (by omega),ih (r',q') h⟩
  generalize eX:a / 2 ^ (k+1)=X at*
  generalize ed:a / 2 ^ k % 2=d at*
  refine⟨fun hc=> ?_,fun hc=> ?_⟩
  ·have hge:b≤2*r+d:=by
    rcases ZD4 (2*r+d) b with h |h
    ·rw[Zuw h]at hc;exact absurd (of_decide_eq_true hc) (by decide)
    ·exact h
   have hq:k / 32 < q.length:=by omega
   have hz:q[k / 32] / 2 ^ (k % 32) % 2=0:=by rw[ZyV hd hq,hv,ZEd,←ZD8,Nat.mul_right_comm,Nat.mul_div_cancel _ (ZEg k)];omega
   have hx32:=hd.get hq;rw[ZwQ _ _ hge (by omega),ZnE,ZnC,Zzy,Zzx,ZDA,ZnG,ZnG,ZnG,Zv6 hq,ZnE,ZnC,ZnG,ZnG,ZnG,ZAb (by omega),ZxB hx32 (ZD3 (ZEc (by decide) (show k % 32≤31 by omega)) (by decide)),ZzA hz,Zvs,ZnP];refine⟨by decide,ZnH (by omega),Zqm ⟨by omega,by omega⟩,by decide,decide_eq_true (by omega),Zqm ⟨by omega,by omega⟩, ?_⟩;have hsum:q[k / 32]+2 ^ (k % 32) < Bw:=by
    have hB:Bw=2 ^ (k % 32)*(2*2 ^ (31 - k % 32)):=by rw[show 2*2 ^ (31 - k % 32)=2 ^ (31 - k % 32+1) by rw[ZEd,ZD9],←Nat.pow_add,show k % 32+(31 - k % 32+1)=32 by omega]
    rw[←ZzA hz];exact Nat.or_lt_two_pow (n:=32) hx32 (ZD3 (ZEc (by decide) (show k % 32≤31 by omega)) (by decide))
   refine nx (2*r+d - b) (q.set (k / 32) (q[k / 32]+2 ^ (k % 32))) ⟨?_,hd.set _ hsum,by rw[List.length_set,hl], ?_⟩
   ·rw[hx,show 2*X+d=(2*r+d - b)+b*(2*(X / b)+1) by rw[ZD7,ZEa];omega,ZDV,Nat.mod_eq_of_lt (by omega)]
   ·have hvs:=Zvv q (k / 32) (q[k / 32]+2 ^ (k % 32)) hq;have hp:Bw ^ (k / 32)*2 ^ (k % 32)=2 ^ k:=by rw[show Bw=2 ^ 32 from rfl,←Nat.pow_mul,←Nat.pow_add,ZDW]
    rw[ZD7,hp]at hvs;have e1:(2*X+d) / b=2*(X / b)+1:=by rw[show 2*X+d=(2*r+d - b)+b*(2*(X / b)+1) by rw[ZD7,ZEa];omega,ZDU _ _ (ZEb hb0),ZDX (by omega),Nat.zero_add]
    rw[hx,e1];rw[hv,ZEd]at hvs;have e2:X / b*(2 ^ k*2)=2*(X / b)*2 ^ k:=by rw[ZD9 (2 ^ k) 2,←ZD8,ZD9 (X / b) 2]
    rw[Nat.add_mul,Nat.one_mul];omega
  ·have hlt:2*r+d < b:=by
    rcases ZD4 (2*r+d) b with h |h
    ·exact h
    ·rcases ZD4 b (2*r+d)with h' |h'
     ·rw[Zup h']at hc;exact absurd (of_decide_eq_false hc) (by decide)
     ·rw[show 2*r+d=b by omega,ZtC]at hc;exact absurd (of_decide_eq_false hc) (by decide)
   have e0:2*X+d=(2*r+d)+b*(2*(X / b)):=by rw[ZEa];omega
   refine nx (2*r+d) q ⟨?_,hd,hl, ?_⟩
   ·rw[hx,e0,ZDV,Nat.mod_eq_of_lt hlt]
   ·rw[hx,e0,ZDU _ _ (ZEb hb0),ZDX hlt,Nat.zero_add,hv,ZEd,ZD9 (2 ^ k) 2,←ZD8,ZD9 (X / b) 2]
 ·rintro rec ⟨r,q⟩ ⟨hr,hd,hl,hv⟩;dsimp only at hr hd hl hv;rw[ZEe,Nat.div_one]at hr hv;unfold Zrt Zp2;dsimp only;rw[ZnW];refine⟨fun h=>by have:=of_decide_eq_true h;omega,fun _=> ?_⟩;rw[ZnC,hr];exact⟨q,rfl,hd,hl,by rw[hv,Nat.mul_one]⟩
 ·rintro y ⟨o,rfl,hd,hl,hv⟩;dsimp only;unfold Zsh;rw[Zwc hd (by omega),ZnE,ZnC,ZnC,hv]
end Go.Proofs
namespace Go.Proofs
open Go Eng
theorem Zxh (n:Int):Rat.divInt n 1=(n:Rat):=by have h:=Rat.num_divInt_den (n:Rat);rw[Rat.num_intCast,Rat.den_intCast]at h;exact h
end Go.Proofs
namespace Go.Proofs
open Go Eng
theorem Zwk (z:Int) (h1: -9223372036854775808≤z) (h2:z≤9223372036854775807):Zok z=some (bg z):=by
 have key:∀(b:Bool) (n:Nat),n < 18446744073709551616→ZnQ b [IntKind.wrap .u32 (n:Int),IntKind.wrap .u32 (shrK .u64 (n:Int) 32)]=some (bg (if b then -(n:Int)else n)):=fun b n h=>by
  have e:([IntKind.wrap .u32 (n:Int),IntKind.wrap .u32 (shrK .u64 (n:Int) 32)]:List Int)=iL [n % 4294967296,n / 4294967296]:=by rw[show (32:Int)=((32:Nat):Int)from rfl,ZvH 32 (by omega),ZsB,ZsZ (by omega)];rfl
  have hd:Dg [n % 4294967296,n / 4294967296]:=fun d hd=>by
   simp only[ZDO,List.mem_singleton,ZDQ,or_false]at hd;rcases hd with rfl |rfl
   ·exact ZD6 _ (by decide)
   ·simp only[Bw];omega
  have hv:val [n % 4294967296,n / 4294967296]=n:=by simp only[val,Nat.mul_zero,Nat.add_zero];exact Nat.mod_add_div n Bw
  rw[e,Zwb b hd (by simp),hv]
 unfold Zok ZpG;have h32:decide (0≤(32:Int))=true:=rfl
 by_cases hz:z < 0
 ·have e:IntKind.wrap .u64 (0 - IntKind.wrap .u64 z)=((z.natAbs:Nat):Int):=by rw[IntKind.wrap_u64,IntKind.wrap_u64];omega
  rw[decide_eq_true hz,cond_true,h32,chk_true,e,key true _ (by omega),ZEh,if_pos rfl,show -((z.natAbs:Nat):Int)=z by omega]
 ·have e:IntKind.wrap .u64 z=((z.natAbs:Nat):Int):=by rw[IntKind.wrap_u64];omega
  rw[decide_eq_false hz,cond_false,h32,chk_true,e,key false _ (by omega),ZEh,if_neg (by decide),show ((z.natAbs:Nat):Int)=z by omega]
theorem ZAC:bg 0=⟨false,[]⟩:=by unfold bg;rw[show (0:Int).natAbs=0 from rfl,Zr8];rfl
theorem Zxe (x y:Int) (hy:y≠0) (hx1:Wl 50000 x) (hy1:Wl 50000 y):ZoP (bg x) (bg y)=some (fOf (Rat.divInt x y)):=by
 unfold ZoP
 by_cases hx:x=0
 ·subst hx;rw[Rat.zero_divInt,ZoO,ZnP,show (0:Int).natAbs=0 from rfl,Zr8,Zwk 1 (by decide) (by decide)];show some (ZnA.mk ⟨false,[]⟩ (bg 1))=some (fOf 0);rw[←ZAC];rfl
 ·have hx0:0 < x.natAbs:=by omega
  have hy0:0 < y.natAbs:=by omega
  have hg0:ZDZ x.natAbs y.natAbs≠0:=fun e=>by have:=Nat.gcd_pos_of_pos_right x.natAbs hy0;omega
  have hgl:=Zyu (x:=x.natAbs) hy0 hy1;have hxl:=Zx3 (ZDZ x.natAbs y.natAbs) hx1;have hyl:=Zx3 (ZDZ x.natAbs y.natAbs) hy1;have h:=Zwz x y hy hx1 hy1;unfold Zqi at h;rw[ZoO,ZoO,Zw1 _ _ hx1 hy1,ZEh,ZwA _ _ hg0 hx1 hgl,ZEh]at h;dsimp only at h;rw[ZwA _ _ hg0 hy1 hgl,ZEh]at h;dsimp only at h;rw[Zs1 _ _ (by omega),ZEh,Zs1 _ _ (by omega),ZEh]at h;have hlen:=ZqB (n:=x.natAbs) (by omega);rw[←h,ZoO,ZoO,ZnP,beq_eq_false_iff_ne.2 (by omega),cond_false,ZyP _ _ (by omega) (by omega) hx1 hy1,ZEh,ZyR _ _ hg0 hx1 hgl,ZEh];dsimp only;rw[ZyR _ _ hg0 hy1 hgl,ZEh];dsimp only;rw[Zwb _ (Zs0 _) (by omega),ZEh,Zwb _ (Zs0 _) (by omega),ZEh,ZqK,ZqK]
theorem Zzg (x y:Int) (hy:y≠0) (hx1:Wl 256 x) (hy1:Wl 256 y):Zp5 (bg x) (bg y)=some (fOf (Rat.divInt x y),0):=by unfold Zp5 Zqr;rw[Zuy,Zvb x hx1,ZEh,ZBd,cond_false,Zuy,Zvb y hy1,ZEh,ZBd,cond_false,ZwZ hy,cond_false,Zxe x y hy (ZD2 hx1 (by decide)) (ZD2 hy1 (by decide)),ZEh]
theorem ZBg (x y:Int) (hy:y≠0) (h1: -9223372036854775808≤x) (h2:x≤9223372036854775807) (h3: -9223372036854775808≤y) (h4:y≤9223372036854775807):ZqX x y=some (fOf (Rat.divInt x y),0):=by unfold ZqX;rw[Zwk x h1 h2,ZEh,Zwk y h3 h4,ZEh,Zzg x y hy (ZCJ h1 h2) (ZCJ h3 h4),ZEh]
theorem ZwR (x y:Int) (hy:y≠0) (h1: -9223372036854775808≤x) (h2:x≤9223372036854775807) (h3: -9223372036854775808≤y) (h4:y≤9223372036854775807):Zoo x y=some (fOf (Rat.divInt x y)):=by unfold Zoo;rw[ZBg x y hy h1 h2 h3 h4,ZEh]
theorem Zwu (x:Int) (h1: -9223372036854775808≤x) (h2:x≤9223372036854775807):ZnN x=some (fOf (x:Rat)):=by unfold ZnN;rw[ZwR x 1 (by decide) h1 h2 (by decide) (by decide),ZEh,Zxh]
theorem ZA1 {a b:Nat} (h:wd a=wd b):a=b:=by rw[←ZqK a,←ZqK b,h]
theorem Zw9 (x y:Int) (hx:Wl 100000 x) (hy:Wl 100000 y):ZoH (bg x) (bg y)=some (decide (x=y)):=by
 unfold Wl at hx hy;refine ZpW ?_;unfold ZoH ZpE;rw[ZuJ,ZuJ,ZoO,ZoO,ZnP,ZnP]
 by_cases hs:decide (x < 0)=decide (y < 0)
 ·rw[hs,beq_self_eq_true,ZBd,cond_false]
  by_cases hl:(wd x.natAbs).length=(wd y.natAbs).length
  ·rw[hl,bne_self_eq_false,cond_false,ZnE];refine ZnS (ZrW Zuq (wd y.natAbs).length (by omega) (fun i (_:Unit)=>(iL (wd x.natAbs),((wd y.natAbs).length:Int),i,bg y)) (fun i _=>(wd x.natAbs).take i=(wd y.natAbs).take i)
    (Q:=fun r=>r= .ret false∧wd x.natAbs≠wd y.natAbs∨r= .brk ()∧wd x.natAbs=wd y.natAbs) () (by rw[List.take_zero,List.take_zero]) ?_ ?_) ?_
   ·rintro rec i ⟨⟩ hi hP ih;have hi2:i < (wd x.natAbs).length:=by omega
    unfold ZqC Zpa;dsimp only;rw[ZnW];refine⟨fun _=> ?_,fun h=>by have:=of_decide_eq_false h;omega⟩;rw[ZoO,Zr7 hi2,ZnE,ZnC,Zr7 hi,ZnE,ZnC,ZnW];refine⟨fun h=> ?_,fun h=> ?_⟩
    ·rw[ZnC];refine .inl ⟨rfl,fun e=> ?_⟩;have h1:(wd y.natAbs)[i]=(wd x.natAbs)[i]:=by simp only[e]
     rw[h1,bne_self_eq_false]at h;exact absurd h (by decide)
    ·rw[ZnG];refine⟨ZnH (by omega),ih () ?_⟩;rw[bne_eq_false_iff_eq]at h;have h1:(wd y.natAbs)[i]=(wd x.natAbs)[i]:=by omega
     rw[ZDT hi2,ZDT hi,hP,h1]
   ·rintro rec ⟨⟩ hP;unfold ZqC Zpa;dsimp only;rw[ZnW];refine⟨fun h=>by have:=of_decide_eq_true h;omega,fun _=> ?_⟩;rw[ZnC];rw[ZDR,←hl,ZDR]at hP;exact .inr ⟨rfl,hP⟩
   ·rintro r (⟨rfl,h⟩ |⟨rfl,h⟩)
    ·exact ZnC.2 (decide_eq_false (fun e=>h (by rw[e]))).symm
    ·unfold Zq3;have h1:=ZA1 h;refine ZnC.2 (decide_eq_true ?_).symm
     by_cases hy0:y < 0
     ·have hx0:x < 0:=by rw[decide_eq_true hy0]at hs;exact of_decide_eq_true hs
      omega
     ·have hx0:¬x < 0:=by rw[decide_eq_false hy0]at hs;exact of_decide_eq_false hs
      omega
  ·have:(((wd x.natAbs).length:Int) != ((wd y.natAbs).length:Int))=true:=by rw[bne_iff_ne];omega
   rw[this,cond_true,ZnC];exact(decide_eq_false (fun e=>hl (by rw[e]))).symm
 ·rw[beq_eq_false_iff_ne.2 hs,Bool.not_false,cond_true,cond_true,ZnC];exact(decide_eq_false (fun e=>hs (by rw[e]))).symm
theorem ZvA (p q:Rat) (hp:Wq 256 p) (hq:Wq 256 q):ZnY (fOf p) (fOf q)=some (decide (p=q)):=by
 have m:∀{x:Int},Wl 256 x→Wl 100000 x:=fun h=>ZD2 h (by decide)
 unfold ZnY Zqq fOf;dsimp only;rw[Zw9 _ _ (m hp.1) (m hq.1),ZEh]
 by_cases h1:p.num=q.num
 ·rw[decide_eq_true h1,cond_true,Zw9 _ _ (m hp.2) (m hq.2),ZEh];congr 1
  by_cases h2:p.den=q.den
  ·rw[decide_eq_true (by omega),decide_eq_true (Rat.ext h1 h2)]
  ·rw[decide_eq_false (by omega),decide_eq_false (fun e=>h2 (by rw[e]))]
 ·rw[decide_eq_false h1,cond_false,decide_eq_false (fun e=>h1 (by rw[e]))]
end Go.Proofs
namespace Go.Proofs
open Go Eng
theorem ZAk (a b:Nat) (ha:(wd a).length≤100000) (hb:(wd b).length≤100000):Zqv (iL (wd a)) (iL (wd b))=some (iL (wd (a*b))):=by
 refine ZpW ?_;unfold Zqv;rw[ZnP,ZnP,ZnG,ZnG,ZnE,←ZDy,ZDA,ZwW];refine⟨ZnH (by omega),ZvM (by omega), ?_⟩;generalize hm:(wd a).length=m at ha⊢
 generalize hn:(wd b).length=n at hb⊢
 refine ZnS (ZrW Zu1 m (by omega) (fun i (s:List Nat)=>(iL (wd a),iL (wd b),i,iL s)) (fun i s=>s.length=m+n∧Dg s∧val s=val ((wd a).take i)*b∧∀k,i+n≤k→k < m+n→s[k]? =some 0)
  (Q:=fun y=>∃(o:List Nat),y=iL o∧Dg o∧o.length=m+n∧val o=a*b) (List.replicate (m+n) 0) ⟨by simp,ZyS _,by rw[ZxQ];simp[val],fun k _ h=>by rw[List.getElem?_replicate,if_pos h]⟩ ?_ ?_) ?_
 ·rintro rec i s hlt ⟨hl,hd,hv,hz⟩ ih;have hi:i < (wd a).length:=by omega
  have h1:=(Zs0 a).get hi;unfold Zrq Zp1;dsimp only;rw[ZnW,ZnP,hm];refine⟨fun _=> ?_,fun h=>by simp only[decide_eq_false_iff_not]at h;omega⟩;rw[ZnE];generalize ex:(wd a)[i]=x at h1;refine ZnS (ZrW Zu0 n (by omega) (fun j (t:Nat×List Nat)=>(iL (wd a),iL (wd b),(i:Int),(t.1:Int),j,iL t.2)) (fun j t=>t.1 < Bw∧t.2.length=m+n∧Dg t.2∧val t.2+Bw ^ (i+j)*t.1=val s+Bw ^ i*(x*val ((wd b).take j))∧∀k,i+n≤k→k < m+n→t.2[k]? =some 0)
   (Q:=fun y=>∃(c:Nat) (o:List Nat),y=(iL (wd a),iL (wd b),(i:Int),(c:Int),iL o)∧c < Bw∧o.length=m+n∧Dg o∧val o+Bw ^ (i+n)*c=val s+Bw ^ i*(x*b)∧∀k,i+n≤k→k < m+n→o[k]? =some 0) (0,s) ⟨by simp only[Bw];omega,hl,hd,by simp[val],hz⟩ ?_ ?_) ?_
  ·rintro rec2 j ⟨c,o⟩ hj ⟨hc,hol,hod,hov,hoz⟩ ih2;dsimp only at hc hol hod hov hoz ih2;have hj2:j < (wd b).length:=by omega
   have h2:=(Zs0 b).get hj2;have hij:i+j < o.length:=by omega
   have h3:=hod.get hij;unfold Zrp Zp0;dsimp only;rw[ZnW,ZnP,hn];refine⟨fun _=> ?_,fun h=>by simp only[decide_eq_false_iff_not]at h;omega⟩;rw[Zr7 hi,ex,ZnE,ZnC,Zr7 hj2,ZnE,ZnC,ZnG,ZnG,←ZDy,ZDA,Zv6 hij,ZnE,ZnC,ZnG,ZnG,ZnG,ZnG];generalize ey:(wd b)[j]=y at h2;generalize ee:o[i+j]=e at h3;rw[ZBi hc h1 h2 h3,ZsB,show (32:Int)=((32:Nat):Int)from rfl,ZvH 32 (by omega),ZnP,Zvs];refine⟨ZnH (by omega),Zqm ⟨by omega,by omega⟩,ZnH (by omega),Zqm ⟨by omega,by omega⟩,by decide,ZnH (by omega), ?_⟩;refine ih2 ((c+x*y+e) / Bw,o.set (i+j) ((c+x*y+e) % Bw)) ⟨ZzC hc h1 h2 h3,by simp[hol],hod.set _ (ZD6 _ (by decide)), ?_,fun k hk hk2=> ?_⟩
   ·dsimp only;have q1:=Zvv o (i+j) ((c+x*y+e) % Bw) hij;rw[ee]at q1;have q2:Bw ^ (i+j)*((c+x*y+e) % Bw+Bw*((c+x*y+e) / Bw))=Bw ^ (i+j)*(c+x*y+e):=by rw[Nat.mod_add_div]
    rw[ZD7,ZD7,ZD7]at q2;rw[←Nat.add_assoc,ZEd,ZD8,Zn0 hj2,ey,ZD7,ZD7];have q3:Bw ^ i*(x*(Bw ^ j*y))=Bw ^ (i+j)*(x*y):=by rw[Nat.pow_add,ZD8,ZEa x]
    omega
   ·dsimp only;rw[List.getElem?_set_ne (by omega)];exact hoz k hk hk2
  ·rintro rec2 ⟨c,o⟩ ⟨hc,hol,hod,hov,hoz⟩;dsimp only at hc hol hod hov hoz;unfold Zrp Zp0;dsimp only;rw[ZnW,ZnP,hn];refine⟨fun h=>by have:=of_decide_eq_true h;omega,fun _=> ?_⟩;rw[ZnC];rw[ZDS (by omega),ZqK]at hov;exact⟨c,o,rfl,hc,hol,hod,hov,hoz⟩
  ·rintro y ⟨c,o,rfl,hc,hol,hod,hov,hoz⟩;dsimp only;unfold Zsb;rw[ZnP,hn,ZnG,ZnG,ZnG,←ZDy,ZDA,ZsZ hc,Zvs,ZnP];refine⟨ZnH (by omega),Zqm ⟨by omega,by omega⟩,ZnH (by omega), ?_⟩;have hp:i+n < o.length:=by omega
   have h0:o[i+n]=0:=by have:=hoz (i+n) (ZD1 _) (by omega);rw[ZDD hp]at this;exact Option.some.inj this
   have q1:=Zvv o (i+n) c hp;rw[h0,Nat.mul_zero,Nat.add_zero]at q1;refine ih (o.set (i+n) c) ⟨by simp[hol],hod.set _ hc, ?_,fun k hk hk2=> ?_⟩
   ·rw[q1,hov,hv,Zn0 hi,ex,Nat.add_mul,ZD8]
   ·rw[List.getElem?_set_ne (by omega)];exact hoz k (by omega) hk2
 ·rintro rec s ⟨hl,hd,hv,hz⟩;unfold Zrq Zp1;dsimp only;rw[ZnW,ZnP,hm];refine⟨fun h=>by have:=of_decide_eq_true h;omega,fun _=> ?_⟩;rw[ZnC];rw[ZDS (by omega),ZqK]at hv;exact⟨s,rfl,hd,hl,hv⟩
 ·rintro y ⟨o,rfl,hd,hl,hv⟩;unfold Zsa;rw[Zwc hd (by omega),ZnE,ZnC,ZnC,hv]
theorem ZAG (a b:Nat) (ha:(wd a).length≤100000) (hb:(wd b).length≤100000):∃o:List Nat,Zpn (iL (wd a)) (iL (wd b))=some (iL o)∧Dg o∧o.length≤100001∧val o=a+b:=by
 obtain⟨m,hma,hmb,hm2,hmx⟩:∃m:Nat,(wd a).length≤m∧(wd b).length≤m∧m≤100000∧∀i,i < m→i < (wd a).length∨i < (wd b).length:=by
  by_cases h:(wd a).length≤(wd b).length
  ·exact⟨(wd b).length,h,ZD1 _,hb,fun i hi=> .inr hi⟩
  ·exact⟨(wd a).length,ZD1 _,by omega,ha,fun i hi=> .inl hi⟩
 suffices h:wp (Zpn (iL (wd a)) (iL (wd b))) (fun x=>∃o:List Nat,x=iL o∧Dg o∧o.length≤100001∧val o=a+b) by obtain⟨x,hx,o,rfl,h⟩:=h;exact⟨o,hx,h⟩
 unfold Zpn;rw[ZnE];refine ZnS (ZrW Zu4 m (by omega) (fun i (s:Nat×List Nat)=>(iL (wd a),iL (wd b),(s.1:Int),i,iL s.2)) (fun i s=>s.1≤1∧s.2.length=i∧Dg s.2∧val s.2+Bw ^ i*s.1=val ((wd a).take i)+val ((wd b).take i))
  (Q:=fun y=>∃(c:Nat) (o:List Nat),y=((c:Int),iL o)∧c≤1∧Dg o∧o.length=m∧val o+Bw ^ m*c=a+b) (0,[]) ⟨by simp,rfl,Zv8,by simp[val]⟩ ?_ ?_) ?_
 ·rintro rec i ⟨c,o⟩ hlt ⟨hc,hl,hd,hv⟩ ih;dsimp only at hc hl hd hv ih;have h1:=Zwj (Zs0 a) i;have h2:=Zwj (Zs0 b) i;have j3:∀x y:Nat,(wd a).getD i 0=x→(wd b).getD i 0=y→wp (Zpw (fun a b c i out=>rec (a,b,c,i,out)) (iL (wd a)) (iL (wd b)) ((c+x+y:Nat):Int) (i:Int) (iL o)) (fun y=>∃(c:Nat) (o:List Nat),y=((c:Int),iL o)∧c≤1∧Dg o∧o.length=m∧val o+Bw ^ m*c=a+b):=fun x y ex ey=>by
   rw[ex]at h1;rw[ey]at h2;unfold Zpw;rw[ZnG,ZnG,ZnG,ZsB,show (32:Int)=((32:Nat):Int)from rfl,ZvH 32 (by omega),ZnP];refine⟨ZsT (by simp only[ZDL];omega),by decide,ZnH (by omega), ?_⟩;have:=ih ((c+x+y) / Bw,o++[(c+x+y) % Bw]) ⟨by simp only[Bw]at h1 h2⊢;omega,by simp[hl],hd.app (ZvE (ZD6 _ (by decide))), ?_⟩
   ·rw[ZwX]at this;exact this
   ·dsimp only;rw[Zs8,hl,ZEd,ZtF,ZtF,ex,ey,Nat.add_assoc,ZD8,←ZD7,Nat.mod_add_div,ZD7,ZD7];omega
  have j2:∀x:Nat,(wd a).getD i 0=x→wp (Zpx (fun a b c i out=>rec (a,b,c,i,out)) (iL (wd a)) (iL (wd b)) ((c+x:Nat):Int) (i:Int) (iL o)) (fun y=>∃(c:Nat) (o:List Nat),y=((c:Int),iL o)∧c≤1∧Dg o∧o.length=m∧val o+Bw ^ m*c=a+b):=fun x ex=>by
   have hx:=h1;rw[ex]at hx;unfold Zpx;rw[ZnP,ZnW];refine⟨fun h=> ?_,fun h=> ?_⟩
   ·have hib:i < (wd b).length:=by have:=of_decide_eq_true h;omega
    have ey:(wd b).getD i 0=(wd b)[i]:=by rw[ZDC,ZDD hib];rfl
    have hy:=(Zs0 b).get hib;rw[Zr7 hib,ZnE,ZnC,Zn6 (by simp only[Bw]at hy;omega),←ZDy,Zn6 (by simp only[Bw]at hx hy;omega)];exact j3 x _ ex ey
   ·have hib:¬i < (wd b).length:=by have:=of_decide_eq_false h;omega
    exact j3 x 0 ex (by rw[ZDC,ZDE (by omega)];rfl)
  have j1:wp (ZoS (fun a b c i out=>rec (a,b,c,i,out)) (iL (wd a)) (iL (wd b)) (c:Int) (i:Int) true (iL o)) (fun y=>∃(c:Nat) (o:List Nat),y=((c:Int),iL o)∧c≤1∧Dg o∧o.length=m∧val o+Bw ^ m*c=a+b):=by
   unfold ZoS;rw[cond_true,ZnP,ZnW];refine⟨fun h=> ?_,fun h=> ?_⟩
   ·have hib:i < (wd a).length:=by have:=of_decide_eq_true h;omega
    have ey:(wd a).getD i 0=(wd a)[i]:=by rw[ZDC,ZDD hib];rfl
    have hy:=(Zs0 a).get hib;rw[Zr7 hib,ZnE,ZnC,Zn6 (by simp only[Bw]at hy;omega),←ZDy,Zn6 (by simp only[Bw]at hy;omega)];exact j2 _ ey
   ·have hib:¬i < (wd a).length:=by have:=of_decide_eq_false h;omega
    exact j2 0 (by rw[ZDC,ZDE (by omega)];rfl)
  unfold Zrv Zp4;dsimp only;rw[ZnP,ZnP,ZnW];refine⟨fun _=>j1,fun h=> ?_⟩;have hib:¬i < (wd a).length:=by have:=of_decide_eq_false h;omega
  rw[decide_eq_true (by rcases hmx i hlt with h |h<;>omega)];exact j1
 ·rintro rec ⟨c,o⟩ ⟨hc,hl,hd,hv⟩;dsimp only at hc hl hd hv;unfold Zrv Zp4;dsimp only;rw[ZnP,ZnP,decide_eq_false (by omega),cond_false,decide_eq_false (by omega)];unfold ZoS;rw[cond_false,ZnC];rw[ZDS hma,ZDS hmb,ZqK,ZqK]at hv;exact⟨c,o,rfl,hc,hd,hl,hv⟩
 ·rintro y ⟨c,o,rfl,hc,hd,hl,hv⟩;dsimp only;unfold Zsj;have e:iL o++[(c:Int)]=iL (o++[c]):=by rw[ZwX];rfl
  rw[ZsZ (by omega),ZnG,ZnP,e,ZnC];exact⟨ZsT (by simp only[ZDL];omega),_,rfl,hd.app (ZvE (by unfold Bw;omega)),by simp;omega,by rw[Zs8,hl,hv]⟩
end Go.Proofs
namespace Go.Proofs
open Go Eng
theorem ZvY (x y:Int) (hx:Wl 50000 x) (hy:Wl 50000 y):ZnK (bg x) (bg y)=some (bg (x*y)):=by unfold ZnK;have:=Zxv hx hy;rw[ZoO,ZoO,ZAk _ _ (by omega) (by omega),ZEh,Zwb _ (Zs0 _) (by omega),ZqK,ZEh,ZyY]
theorem Zyb (x y:Int) (hx:Wl 50000 x) (hy:Wl 50000 y):ZoJ (bg x) (bg y)=some (bg (x+y)):=by
 unfold Wl at hx hy;unfold ZoJ;have h1:=Zx4 hx hy;rw[ZoO,ZoO,ZuJ,ZuJ];have opp:decide (x < 0)≠decide (y < 0)→Zn3 (iL (wd x.natAbs)) (iL (wd y.natAbs))=some (Zxd x.natAbs y.natAbs):=fun _=>Zw2 _ _ (by omega) (by omega)
 by_cases hs:decide (x < 0)=decide (y < 0)
 ·obtain⟨o,ho,hd,hl,hv⟩:=ZAG x.natAbs y.natAbs (by omega) (by omega);rw[hs,beq_self_eq_true,cond_true,ho,ZEh,Zwb _ hd (by omega),hv,ZEh];congr 2
  by_cases hy0:y < 0
  ·have hx0:x < 0:=by rw[decide_eq_true hy0]at hs;exact of_decide_eq_true hs
   rw[decide_eq_true hy0,if_pos rfl];omega
  ·have hx0:¬x < 0:=by rw[decide_eq_false hy0]at hs;exact of_decide_eq_false hs
   rw[decide_eq_false hy0,if_neg (by decide)];omega
 ·rw[beq_eq_false_iff_ne.2 hs,cond_false,opp hs,ZEh];rcases ZD4 x.natAbs y.natAbs with hlt |hge
  ·have:=Zrm (Nat.sub_le y.natAbs x.natAbs);rw[Zuw hlt,decide_eq_false (by omega),cond_false,ZwQ _ _ (by omega) (by omega),ZEh,Zwb _ (Zs0 _) (by omega),ZqK,ZEh];congr 2
   by_cases hy0:y < 0
   ·have hx0:¬x < 0:=fun h=>hs (by rw[decide_eq_true hy0,decide_eq_true h])
    rw[decide_eq_true hy0,if_pos rfl];omega
   ·have hx0:x < 0:=Decidable.byContradiction fun h=>hs (by rw[decide_eq_false hy0,decide_eq_false h])
    rw[decide_eq_false hy0,if_neg (by decide)];omega
  ·have hn:Zxd x.natAbs y.natAbs≥0:=by
    rcases ZD4 y.natAbs x.natAbs with h |h
    ·rw[Zup h];decide
    ·rw[show x.natAbs=y.natAbs by omega,ZtC];decide
   have:=Zrm (Nat.sub_le x.natAbs y.natAbs);rw[decide_eq_true hn,cond_true,ZwQ _ _ hge (by omega),ZEh,Zwb _ (Zs0 _) (by omega),ZqK,ZEh];congr 2
   by_cases hx0:x < 0
   ·have hy0:¬y < 0:=fun h=>hs (by rw[decide_eq_true hx0,decide_eq_true h])
    rw[decide_eq_true hx0,if_pos rfl];omega
   ·have hy0:y < 0:=Decidable.byContradiction fun h=>hs (by rw[decide_eq_false hx0,decide_eq_false h])
    rw[decide_eq_false hx0,if_neg (by decide)];omega
theorem ZyH (z:Int) (hz:Wl 100000 z):ZpO (bg z)=some (bg (-z)):=by
 unfold Wl at hz;unfold ZpO;rw[ZuJ,ZoO,Zwb _ (Zs0 _) (by omega),ZqK,ZEh];congr 2
 by_cases h:z < 0
 ·rw[decide_eq_true h,if_neg (by decide)];omega
 ·rw[decide_eq_false h,if_pos (by decide)];omega
theorem Zwo (q:Rat) (h:Wq 256 q):Zoh (fOf q)=some true:=by
 have hn:=h.1;have hd:=h.2;have hd0:=q.den_nz;unfold Zoh ZoB fOf;dsimp only;rw[Zuy,Zvb _ h.1,ZEh,ZBd,cond_false,Zuy,Zvb _ h.2,ZEh,ZBd,cond_false,ZuJ,decide_eq_false (by omega),cond_false,ZwZ (by omega),cond_false,ZoO,ZoO,ZnP];unfold Wl at hn hd;have h1:(wd 1).length≤1:=Zuz (by decide);have hc:ZDZ q.num.natAbs (q.den:Int).natAbs=1:=q.reduced
 by_cases h0:q.num=0
 ·rw[h0]at hc;have e:(q.den:Int).natAbs=1:=by rwa [show (0:Int).natAbs=0 from rfl,Nat.gcd_zero_left]at hc
  rw[h0,show (0:Int).natAbs=0 from rfl,Zr8,e,←ZwS,Zw2 1 1 (by omega) (by omega),ZtC];rfl
 ·have hl:=ZqB (n:=q.num.natAbs) (by omega);rw[beq_eq_false_iff_ne.2 (by omega),cond_false,ZyP _ _ (by omega) (by omega) (by omega) (by omega),hc,ZEh,←ZwS,Zw2 1 1 (by omega) (by omega),ZtC];rfl
theorem Zyi (x y:Int) (hy:y≠0) (hx1:Wl 50000 x) (hy1:Wl 50000 y) (hq:Wq 256 (Rat.divInt x y)):Zps (bg x) (bg y)=some (fOf (Rat.divInt x y),0):=by have h1:=hq.1;have h2:=hq.2;unfold Wl at h1 h2;unfold Zps ZpT;rw[Zxe x y hy hx1 hy1,ZEh];unfold fOf;rw[ZoO,ZoO,ZnP,ZnP,decide_eq_false (by omega),cond_false,decide_eq_false (by omega),cond_false]
theorem ZAH {a b:Rat} {k l:Nat} (ha:Sz k a) (hb:Sz l b) (hk:k+l+1≤8192):Zqy (fOf a) (fOf b)=some (fOf (a+b),0):=by
 have h1:=a.den_nz;have h2:=b.den_nz;have qa:=ha.wq (by omega);have qb:=hb.wq (by omega);have w:∀{x y:Int},Wl 256 x→Wl 256 y→Wl 512 (x*y):=fun hx hy=>by unfold Wl;rw[Int.natAbs_mul];exact Zxv hx hy
 have m:∀{n:Nat} {x:Int},Wl n x→n≤50000→Wl 50000 x:=fun h h'=>ZD2 h h'
 have w1:=w qa.1 qb.2;have w2:=w qb.1 qa.2;have w3:=w qa.2 qb.2;have w4:Wl 513 (a.num*(b.den:Int)+b.num*(a.den:Int)):=ZD2 (Zrm (Int.natAbs_add_le _ _)) (Zx4 w1 w2);have hd:(a.den:Int)*(b.den:Int)≠0:=Int.mul_ne_zero (by omega) (by omega);unfold Zqy ZqR;rw[Zwo a qa,ZEh,ZBd,cond_false,Zwo b qb,ZEh,ZBd,cond_false];show ((ZnK (bg a.num) (bg (b.den:Int))).bind fun q=>(ZnK (bg b.num) (bg (a.den:Int))).bind fun q_1=>(ZoJ q q_1).bind fun q_2=>(ZnK (bg (a.den:Int)) (bg (b.den:Int))).bind _)=_;rw[ZvY _ _ (m qa.1 (by omega)) (m qb.2 (by omega)),ZEh,ZvY _ _ (m qb.1 (by omega)) (m qa.2 (by omega)),ZEh,Zyb _ _ (m w1 (by omega)) (m w2 (by omega)),ZEh,ZvY _ _ (m qa.2 (by omega)) (m qb.2 (by omega)),ZEh];have hw:Wq 256 (Rat.divInt (a.num*(b.den:Int)+b.num*(a.den:Int)) ((a.den:Int)*(b.den:Int))):=by rw[ZwE];exact(ha.add hb).wq hk
 rw[Zyi _ _ hd (m w4 (by omega)) (m w3 (by omega)) hw,ZwE,ZEh]
theorem Zxt {a b:Rat} {k l:Nat} (ha:Sz k a) (hb:Sz l b) (hk:k+l+1≤8192):ZoU (fOf a) (fOf b)=some (fOf (a+b)):=by unfold ZoU;rw[ZAH ha hb hk];rfl
theorem ZAz {a b:Rat} (qa:Wq 256 a) (qb:Wq 256 b):Zqx (fOf a) (fOf b)=some (ZxM a b):=by
 have w:∀{x y:Int},Wl 256 x→Wl 256 y→Wl 50000 (x*y):=fun hx hy=>by unfold Wl;rw[Int.natAbs_mul];exact ZD2 (Zxv hx hy) (by decide)
 have m:∀{x:Int},Wl 256 x→Wl 50000 x:=fun h=>ZD2 h (by decide)
 unfold Zqx ZqQ;rw[Zwo a qa,ZEh,ZBd,cond_false,Zwo b qb,ZEh,ZBd,cond_false];show ((ZnK (bg a.num) (bg (b.den:Int))).bind fun q=>(ZnK (bg b.num) (bg (a.den:Int))).bind _)=_;rw[ZvY _ _ (m qa.1) (m qb.2),ZEh,ZvY _ _ (m qb.1) (m qa.2),ZEh,ZyH _ (ZD2 (w qb.1 qa.2) (by decide)),ZEh];have w2:Wl 50000 (-(b.num*(a.den:Int))):=by unfold Wl;rw[ZDx];exact w qb.1 qa.2
 rw[Zyb _ _ (w qa.1 qb.2) w2,ZEh,ZuJ,ZoO,ZnP];unfold ZxM;have h1:=ZwM a b;have h2:=ZwM b a;generalize a.num*(b.den:Int)=x at*
 generalize b.num*(a.den:Int)=y at*
 by_cases hl:a < b
 ·have hlt:=h1.1 hl;have:=ZqB (n:=(x+ -y).natAbs) (by omega);rw[if_pos hl,beq_eq_false_iff_ne.2 (by omega),cond_false,decide_eq_true (by omega),cond_true]
 ·have hn:¬x < y:=fun h=>hl (h1.2 h)
  rw[if_neg hl]
  by_cases hg:b < a
  ·have hlt:=h2.1 hg;have:=ZqB (n:=(x+ -y).natAbs) (by omega);rw[if_pos hg,beq_eq_false_iff_ne.2 (by omega),cond_false,decide_eq_false (by omega),cond_false]
  ·have hn2:¬y < x:=fun h=>hg (h2.2 h)
   rw[if_neg hg,show x+ -y=0 by omega,show (0:Int).natAbs=0 from rfl,Zr8];rfl
theorem ZyI {a b:Rat} (qa:Wq 256 a) (qb:Wq 256 b):ZpX (fOf a) (fOf b)=some (decide (a < b)):=by
 unfold ZpX;rw[ZAz qa qb,ZEh];unfold ZxM
 by_cases h:a < b
 ·rw[if_pos h,decide_eq_true h];rfl
 ·rw[if_neg h,decide_eq_false h];split<;>rfl
end Go.Proofs
namespace Go.Proofs
open Go Eng
def gR (l:List Rat) (i:Nat):Rat:=l.getD i 0
def xOf (u v:Rat):Rat:=if v < u then v else u
theorem Zz5 (u v c:Rat):xOf (u+c) (v+c)=xOf u v+c:=by unfold xOf;split<;>split<;>grind
theorem ZAX (u v:Rat):xOf u v=u∨xOf u v=v:=by
 unfold xOf;split
 ·exact .inr rfl
 ·exact .inl rfl
def Zmn (l:List Rat) (i:Nat) (x:Rat) (r:Nat):Prop:=
 i≤r∧r≤l.length∧(∀j,i≤j→j < r→gR l j≤x)∧(r < l.length→x < gR l r)
theorem Zmn.det {l:List Rat} {i:Nat} {x:Rat} {r s:Nat} (h:Zmn l i x r) (k:Zmn l i x s):r=s:=by
 obtain⟨h1,h2,h3,h4⟩:=h;obtain⟨k1,k2,k3,k4⟩:=k;rcases Nat.lt_trichotomy r s with c |c |c
 ·have a:=k3 r h1 c;have b:=h4 (by omega);grind
 ·exact c
 ·have a:=h3 s k1 c;have b:=k4 (by omega);grind
def stp (la lb i k:Nat) (m:Int):Int:=max (max m ((i:Int)*lb - (k:Int)*la)) ((k:Int)*la - (i:Int)*lb)
inductive DistR (a b:List Rat):Nat→Nat→Int→Int→Prop
 |done {i k m}:¬(i < a.length∧k < b.length)→DistR a b i k m m
 |go {i k m r i' k'}:i < a.length→k < b.length→Zmn a i (xOf (gR a i) (gR b k)) i'→Zmn b k (xOf (gR a i) (gR b k)) k'→
   DistR a b i' k' (stp a.length b.length i' k' m) r→DistR a b i k m r
theorem DistR.det {a b:List Rat} {i k:Nat} {m r s:Int} (h:DistR a b i k m r) (g:DistR a b i k m s):r=s:=by
 induction h with
 |done c=>
  cases g with
  |done _=>rfl
  |go h1 h2 _ _ _=>exact absurd ⟨h1,h2⟩ c
 |go h1 h2 u1 u2 _ ih=>
  cases g with
  |done c=>exact absurd ⟨h1,h2⟩ c
  |go _ _ v1 v2 g=>
   have e1:=u1.det v1;have e2:=u2.det v2;subst e1 e2;exact ih g
theorem ZA5 {la lb i k:Nat} {m:Int} (hi:i≤la) (hk:k≤lb) (hm:m≤(la*lb:Nat)):stp la lb i k m≤(la*lb:Nat):=by
 have e1:(i:Int)*lb=((i*lb:Nat):Int):=by rw[ZDz]
 have e2:(k:Int)*la=((k*la:Nat):Int):=by rw[ZDz]
 have h1:i*lb≤la*lb:=Nat.mul_le_mul_right _ hi;have h2:k*la≤la*lb:=by rw[ZD9 la lb];exact Nat.mul_le_mul_right _ hk
 unfold stp;rw[e1,e2];omega
theorem ZBk {la lb i k:Nat} {m:Int}:m≤stp la lb i k m:=by unfold stp;omega
theorem DistR.bound {a b:List Rat} {i k:Nat} {m r:Int} (h:DistR a b i k m r) (hm0:0≤m) (hm:m≤(a.length*b.length:Nat)):0≤r∧r≤(a.length*b.length:Nat):=by
 induction h with
 |done _=>exact⟨hm0,hm⟩
 |go h1 h2 u1 u2 _ ih=>exact ih (Int.le_trans hm0 ZBk) (ZA5 u1.2.1 u2.2.1 hm)
theorem Zww {l:List Rat} {c:Rat} {i:Nat} (h:i < l.length):gR (l.map (· +c)) i=gR l i+c:=by unfold gR;rw[ZDC,ZDC,List.getElem?_map,ZDD h];rfl
theorem Zmn.add {l:List Rat} {i:Nat} {x c:Rat} {r:Nat} (h:Zmn l i x r):Zmn (l.map (· +c)) i (x+c) r:=by
 obtain⟨h1,h2,h3,h4⟩:=h;refine⟨h1,by rw[ZDK];exact h2,fun j hj1 hj2=> ?_,fun hr=> ?_⟩
 ·rw[Zww (by omega)];have:=h3 j hj1 hj2;grind
 ·rw[ZDK]at hr;rw[Zww hr];have:=h4 hr;grind
theorem DistR.add {a b:List Rat} {i k:Nat} {m r:Int} (c:Rat) (h:DistR a b i k m r):DistR (a.map (· +c)) (b.map (· +c)) i k m r:=by
 induction h with
 |done g=>exact .done (by rw[ZDK,ZDK];exact g)
 |go h1 h2 u1 u2 _ ih=>
  have u1:=u1.add (c:=c);have u2:=u2.add (c:=c);rw[←Zz5,←Zww h1,←Zww h2]at u1 u2;refine .go (by rw[ZDK];exact h1) (by rw[ZDK];exact h2) u1 u2 ?_;rw[ZDK,ZDK];exact ih
def rk (n p q:Nat):Nat:=max ((n*p+(q - 1)) / q) 1 - 1
theorem ZA9 {n p q:Nat} (hq:0 < q) (hn:0 < n) (h:p≤q):rk n p q < n:=by
 have h1:n*p≤n*q:=Nat.mul_le_mul_left _ h;have h2:(n*p+(q - 1)) / q≤n:=by apply Nat.le_of_lt_succ;rw[Nat.div_lt_iff_lt_mul hq,Nat.succ_mul];omega
 unfold rk;omega
def Asc (l:List Rat):Prop:=∀i j,i≤j→j < l.length→gR l i≤gR l j
theorem ZvD {l:List Rat} {i:Nat} (h:i < l.length):gR l i=l[i]:=by unfold gR;rw[ZDC,ZDD h];rfl
theorem Asc.add {l:List Rat} (c:Rat) (h:Asc l):Asc (l.map (· +c)):=fun i j hij hj=>by rw[ZDK]at hj;rw[Zww hj,Zww (by omega)];have:=h i j hij hj;grind
theorem ZBN {l:List Rat} (h:Asc l) {r:Nat} (hr:r < l.length):r+1≤l.countP (fun y=> !decide (gR l r < y)):=by
 have e:l=l.take (r+1)++l.drop (r+1):=(List.take_append_drop _ _).symm;have h1:(l.take (r+1)).countP (fun y=> !decide (gR l r < y))=(l.take (r+1)).length:=by rw[List.countP_eq_length];intro y hy;obtain⟨i,hi,rfl⟩:=List.getElem_of_mem hy;rw[ZDM]at hi;have:=h i r (by omega) hr;rw[ZvD (i:=i) (by omega)]at this;rw[List.getElem_take];simp only[Bool.not_eq_true',decide_eq_false_iff_not];grind
 rw[ZDM]at h1;have h2:l.countP (fun y=> !decide (gR l r < y))=(l.take (r+1)).countP (fun y=> !decide (gR l r < y))+(l.drop (r+1)).countP (fun y=> !decide (gR l r < y)):=by rw[←List.countP_append,←e]
 omega
theorem ZAF {l:List Rat} {f:Rat} {i:Nat} (hi:i≤l.length) (h:Asc l) (h1:∀j,i≤j→j < l.length→f < gR l j) (h2:0 < i→gR l (i - 1)≤f):Asc (l.take i++f::l.drop i):=by
 have hl:(l.take i++f::l.drop i).length=l.length+1:=by rw[ZDI,List.length_cons,ZDM,ZDJ];omega
 have hg:∀j,j < l.length+1→gR (l.take i++f::l.drop i) j=if j < i then gR l j else if j=i then f else gR l (j - 1):=by
  intro j hj;have ht:(l.take i).length=i:=by rw[ZDM];omega
  unfold gR;rw[ZDC,List.getElem?_append,ht];split
  ·rename_i c;rw[List.getElem?_take,if_pos c,ZDC]
  ·rename_i c;split
   ·rename_i d;rw[d,Nat.sub_self];rfl
   ·rename_i d;rw[show j - i=(j - 1 - i)+1 from by omega,List.getElem?_cons_succ,List.getElem?_drop,ZDC,show i+(j - 1 - i)=j - 1 from by omega]
 intro j k hjk hk;rw[hl]at hk;rw[hg j (by omega),hg k hk];have hb:∀j,j < i→gR l j≤f:=fun j hj=>by have a:=h j (i - 1) (by omega) (by omega);have b:=h2 (by omega);grind
 split
 ·rename_i c;split
  ·exact h j k hjk (by omega)
  ·split
   ·exact hb j c
   ·exact h j (k - 1) (by omega) (by omega)
 ·rename_i c;rw[if_neg (show ¬k < i from by omega)];split
  ·rename_i d;split
   ·exact Rat.le_refl
   ·have:=h1 (k - 1) (by omega) (by omega);grind
  ·rename_i d;rw[if_neg (show ¬k=i from by omega)];exact h (j - 1) (k - 1) (by omega) (by omega)
end Go.Proofs
namespace Go.Proofs
open Go Eng
theorem Zxp (a b:Rat):ZxM a b≤0↔a≤b:=by
 unfold ZxM;split
 ·grind
 ·split
  ·grind
  ·grind
theorem ZwL (a b:Rat):ZxM a b < 0↔a < b:=by
 unfold ZxM;split
 ·grind
 ·split
  ·grind
  ·grind
theorem Zyv {l:List Rat} (hl:∀q∈l,Sz 40 q) (hn:l.length≤1000) {x:Rat} (hx:Sz 40 x) {i:Nat} (hi:i≤l.length):
  wp (ZsI (l.map fOf) (i:Int) (fOf x)) (fun r=>∃k:Nat,r=(k:Int)∧Zmn l i x k):=by
 unfold ZsI;rw[ZnE];refine ZnS (Zud ZvZ (fun k:Nat=>(l.map fOf,(k:Int),fOf x)) (fun k=>i≤k∧k≤l.length∧∀j,i≤j→j < k→gR l j≤x) (fun k=>l.length - k) (Q:=fun r=>∃k:Nat,r=(k:Int)∧Zmn l i x k) i ⟨ZD1 _,hi,fun j h1 h2=>by omega⟩ (by omega) ?_) ?_
 ·rintro rec k ⟨h1,h2,h3⟩ ih;unfold ZuR ZtU Ztc;dsimp only;rw[ZDK]
  by_cases hk:k < l.length
  ·have hq:l[k]∈l:=ZDH hk;rw[decide_eq_true (show (k:Int) < (l.length:Int) by omega),cond_true,Zvl (by simpa using hk),ZnE,ZnC,ZDG,ZxI ((hl _ hq).wq (by omega)) (hx.wq (by omega)),ZnE,ZnC]
   by_cases hc:ZxM l[k] x≤0
   ·rw[decide_eq_true hc,cond_true,ZnG];refine⟨ZnH (by omega),ih (k+1) ⟨by omega,by omega,fun j h4 h5=> ?_⟩ (by omega)⟩
    by_cases hj:j=k
    ·rw[hj,ZvD hk];exact(Zxp _ _).1 hc
    ·exact h3 j h4 (by omega)
   ·rw[decide_eq_false hc,cond_false,ZnC];refine⟨k,rfl,h1,h2,h3,fun _=> ?_⟩;rw[ZvD hk];rw[Zxp]at hc;grind
  ·rw[decide_eq_false (show ¬(k:Int) < (l.length:Int) by omega),cond_false,cond_false,ZnC];exact⟨k,rfl,h1,h2,h3,fun h=>absurd h hk⟩
 ·intro r h;unfold Zuj;rw[ZnC];exact h
theorem ZA6 (la lb i k:Nat) (m:Int):(if ((k:Int)*la - (i:Int)*lb) > (if ((i:Int)*lb - (k:Int)*la) > m then ((i:Int)*lb - (k:Int)*la)else m)then ((k:Int)*la - (i:Int)*lb)else (if ((i:Int)*lb - (k:Int)*la) > m then ((i:Int)*lb - (k:Int)*la)else m))=stp la lb i k m:=by unfold stp;split<;>split<;>omega
theorem Zmn.grows {l:List Rat} {i:Nat} {x:Rat} {r:Nat} (h:Zmn l i x r) (hi:i < l.length) (hx:gR l i≤x):i < r:=by
 obtain⟨h1,h2,h3,h4⟩:=h;rcases Nat.lt_or_eq_of_le h1 with h |h
 ·exact h
 ·have:=h4 (by omega);rw[←h]at this;grind
theorem Zx0 {a b:List Rat} (ha:∀q∈a,Sz 40 q) (hb:∀q∈b,Sz 40 q) (hna:a.length≤1000) (hnb:b.length≤1000) (ha0:a.length≠0) (hb0:b.length≠0):
  ∃r,Zot (a.map fOf) (b.map fOf)=some (fOf (Rat.divInt r ((a.length*b.length:Nat):Int)),0)∧DistR a b 0 0 0 r:=by
 suffices h:wp (Zot (a.map fOf) (b.map fOf)) (fun x=>∃r,x=(fOf (Rat.divInt r ((a.length*b.length:Nat):Int)),0)∧DistR a b 0 0 0 r) by obtain⟨x,hx,r,rfl,hr⟩:=h;exact⟨r,hx,hr⟩
 have hlb:∀i k:Nat,i≤a.length→k≤b.length→(0≤(i:Int)*(b.length:Int)∧(i:Int)*(b.length:Int)≤1000000)∧(0≤(k:Int)*(a.length:Int)∧(k:Int)*(a.length:Int)≤1000000):=by
  intro i k hi hk;have e1:(i:Int)*(b.length:Int)=((i*b.length:Nat):Int):=by rw[ZDz]
  have e2:(k:Int)*(a.length:Int)=((k*a.length:Nat):Int):=by rw[ZDz]
  have h1:i*b.length≤1000*1000:=Nat.mul_le_mul (by omega) hnb;have h2:k*a.length≤1000*1000:=Nat.mul_le_mul (by omega) hna;rw[e1,e2];omega
 unfold Zot;rw[ZDK,ZDK,show ((a.length:Int) == 0)=false from beq_eq_false_iff_ne.2 (by omega),show ((b.length:Int) == 0)=false from beq_eq_false_iff_ne.2 (by omega),cond_false];unfold ZrI;rw[cond_false,ZnE];refine ZnS (Zud Zvy (fun s:Nat×Nat×Int=>(a.map fOf,b.map fOf,s.2.2,(s.1:Int),(s.2.1:Int),false,false,[],[]))
  (fun s=>s.1≤a.length∧s.2.1≤b.length∧∀r,DistR a b s.1 s.2.1 s.2.2 r→DistR a b 0 0 0 r) (fun s=>(a.length - s.1)+(b.length - s.2.1))
  (Q:=fun x=>∃r,x=(a.map fOf,b.map fOf,r,false,false,[],[])∧DistR a b 0 0 0 r) (0,0,0) ⟨Nat.zero_le _,Nat.zero_le _,fun r h=>h⟩ (by dsimp only;omega) ?_) ?_
 ·rintro rec ⟨i,k,m⟩ ⟨h1,h2,h3⟩ ih;dsimp only at h1 h2 h3 ih⊢
  unfold Zub ZsJ ZrH;dsimp only;rw[ZDK,ZDK];have j3:∀x:Rat,Sz 40 x→i < a.length→k < b.length→x=xOf (gR a i) (gR b k)→wp (Zqz (fun a b most i k t4 t4_1 t4_2 t4_3=>rec (a,b,most,i,k,t4,t4_1,t4_2,t4_3)) (a.map fOf) (b.map fOf) m (i:Int) (k:Int) false false (fOf x) [] []) (fun x=>∃r,x=(a.map fOf,b.map fOf,r,false,false,[],[])∧DistR a b 0 0 0 r):=by
   intro x hx hi hk ex;unfold Zqz;rw[ZnE];refine ZnS (Zyv ha hna hx h1) ?_;rintro _ ⟨i',rfl,hi'⟩;rw[ZnE];refine ZnS (Zyv hb hnb hx h2) ?_;rintro _ ⟨k',rfl,hk'⟩;rw[ZDK,ZDK,ZA6];have hb':=hlb i' k' hi'.2.1 hk'.2.1;rw[ZnG,ZnG,ZnG,ZnG,ZnG,ZnG];refine⟨ZnH (by omega),ZnH (by omega),ZnH (by omega),ZnH (by omega),ZnH (by omega),ZnH (by omega), ?_⟩;refine ih (i',k',stp a.length b.length i' k' m) ⟨hi'.2.1,hk'.2.1,fun r hr=>h3 r ?_⟩ ?_
   ·rw[ex]at hi' hk';exact .go hi hk hi' hk' hr
   ·dsimp only;have q1:=hi'.1;have q2:=hk'.1;have q3:=hi'.2.1;have q4:=hk'.2.1;rcases ZAX (gR a i) (gR b k)with e |e
    ·have:=hi'.grows hi (by rw[ex,e];exact Rat.le_refl);omega
    ·have:=hk'.grows hk (by rw[ex,e];exact Rat.le_refl);omega
  by_cases hi:i < a.length
  ·rw[decide_eq_true (show (i:Int) < (a.length:Int) by omega),cond_true]
   by_cases hk:k < b.length
   ·have hqa:a[i]∈a:=ZDH hi;have hqb:b[k]∈b:=ZDH hk;rw[decide_eq_true (show (k:Int) < (b.length:Int) by omega),cond_true,Zvl (by simpa using hi),Zvl (by simpa using hk),ZnE,ZnC,ZnE,ZnC,ZDG,ZDG,ZxI ((hb _ hqb).wq (by omega)) ((ha _ hqa).wq (by omega)),ZnE,ZnC]
    by_cases hc:ZxM b[k] a[i] < 0
    ·rw[decide_eq_true hc,cond_true,ZnE,ZnC];exact j3 _ (hb _ hqb) hi hk (by rw[ZvD hi,ZvD hk];unfold xOf;rw[if_pos ((ZwL _ _).1 hc)])
    ·rw[decide_eq_false hc,cond_false];exact j3 _ (ha _ hqa) hi hk (by rw[ZvD hi,ZvD hk];unfold xOf;rw[if_neg (fun h=>hc ((ZwL _ _).2 h))])
   ·rw[decide_eq_false (show ¬(k:Int) < (b.length:Int) by omega),cond_false,ZnC];exact⟨m,rfl,h3 m (.done (fun h=>hk h.2))⟩
  ·rw[decide_eq_false (show ¬(i:Int) < (a.length:Int) by omega),cond_false,cond_false,ZnC];exact⟨m,rfl,h3 m (.done (fun h=>hi h.1))⟩
 ·rintro _ ⟨r,rfl,hr⟩;have hbd:=hr.bound (Int.le_refl 0) (by omega);have hm:a.length*b.length≤1000*1000:=Nat.mul_le_mul hna hnb;have hp:0 < a.length*b.length:=Nat.mul_pos (by omega) (by omega);unfold Zs7;dsimp only;rw[ZDK,ZDK,←ZDz,ZnG,Zyd _ _ (by omega) (by omega) (by omega) (by omega) (by omega),ZnE,ZnC,ZnC];exact⟨ZnH (by omega),r,rfl,hr⟩
end Go.Proofs
namespace Go.Proofs
open Go Eng
theorem Zwp {x y:Int} (hy:y≠0) (h1:x.natAbs < 16) (h2:y.natAbs < 16):Sz 4 (Rat.divInt x y):=Zwq (k:=4) hy h1 h2
theorem ZAx {d:ZnB} (hd:ZtE d):wp (Zpy d) (fun r=>(∃q,r.1=fOf q∧Sz 4 q)∧ZtE r.2):=by
 unfold Zpy;rw[ZnE];refine ZnS (Zv2 hd (by omega)) fun⟨q,d1⟩ ⟨hq,hd1⟩=> ?_
 dsimp only at hq hd1⊢
 rw[ZnG,ZnE];refine⟨ZnH (by omega),ZnS (Zv2 hd1 (by omega)) fun⟨q1,d2⟩ ⟨hq1,hd2⟩=> ?_⟩;dsimp only at hq1 hd2⊢
 rw[ZnG,ZwR _ _ (by omega) (by omega) (by omega) (by omega) (by omega),ZnE,ZnC,ZnC];exact⟨ZnH (by omega),⟨_,rfl,Zwp (by omega) (by omega) (by omega)⟩,hd2⟩
theorem ZBc {l:List Rat} {f:Rat} (hf:Sz 40 f) (hl:∀q∈l,Sz 40 q) (hn:l.length≤1000) (k:Int) (d:ZnB):
  wp (Zon big k (l.length:Int) d (l.map fOf) (fOf f)) (fun x=>∃i:Nat,x=(k,(i:Int),d,l.map fOf,fOf f)∧i≤l.length∧(∀j,i≤j→j < l.length→f < gR l j)∧(0 < i→gR l (i - 1)≤f)):=by
 refine Zud Zur (fun i:Nat=>(k,(i:Int),d,l.map fOf,fOf f)) (fun i=>i≤l.length∧∀j,i≤j→j < l.length→f < gR l j) (fun i=>i)
  (Q:=fun x=>∃i:Nat,x=(k,(i:Int),d,l.map fOf,fOf f)∧i≤l.length∧(∀j,i≤j→j < l.length→f < gR l j)∧(0 < i→gR l (i - 1)≤f)) l.length ⟨ZD1 _,fun j h1 h2=>by omega⟩ (by omega) ?_
 rintro rec i ⟨h1,h2⟩ ih;unfold ZsF ZqD ZpH;dsimp only
 by_cases hi:0 < i
 ·have hlt:i - 1 < l.length:=by omega
  have hq:l[i - 1]∈l:=ZDH hlt;have et:((i:Int) - 1).toNat=i - 1:=by omega
  have eg:(l.map fOf)[i - 1]? =some (fOf l[i - 1]):=by rw[List.getElem?_map,ZDD hlt];rfl
  rw[decide_eq_true (show (i:Int) > 0 by omega),cond_true,ZnG,ZnG,et,eg,ZnE,ZnC,ZyI (hf.wq (by omega)) ((hl _ hq).wq (by omega)),ZnE,ZnC];refine⟨ZnH (by omega),Zqm ⟨by omega,by rw[ZDK];omega⟩, ?_⟩
  by_cases hc:f < l[i - 1]
  ·rw[decide_eq_true hc,cond_true,ZnG];have:=ih (i - 1) ⟨by omega,fun j h3 h4=>by
    by_cases hj:j=i - 1
    ·rw[hj,ZvD hlt];exact hc
    ·exact h2 j (by omega) h4⟩ (by omega)
   rw[show ((i - 1:Nat):Int)=(i:Int) - 1 by omega]at this;exact⟨ZnH (by omega),this⟩
  ·rw[decide_eq_false hc,cond_false,ZnC];refine⟨i,rfl,h1,h2,fun _=> ?_⟩;rw[ZvD hlt];grind
 ·rw[decide_eq_false (show ¬(i:Int) > 0 by omega),cond_false,cond_false,ZnC];exact⟨i,rfl,h1,h2,fun h=>absurd h hi⟩
theorem ZwG {d:ZnB} (hd:ZtE d) (m:Nat) (hm:m≤20):
  wp (ZoI d (m:Int)) (fun r=>(∃l:List Rat,r.1=l.map fOf∧l.length≤m∧Asc l∧∀q∈l,Sz 4 q)∧ZtE r.2):=by
 unfold ZoI;rw[ZnG,ZnE];refine⟨ZnH (by omega),ZnS (Zv2 hd (by omega)) fun⟨k,d1⟩ ⟨hk,hd1⟩=> ?_⟩;dsimp only at hk hd1⊢
 rw[ZnE];refine ZnS (Zud Zus (fun(s:Int×ZnB×List Rat)=>(s.1,s.2.1,s.2.2.map fOf))
  (fun s=>(0≤s.1∧s.1+s.2.2.length≤m)∧ZtE s.2.1∧Asc s.2.2∧∀q∈s.2.2,Sz 4 q) (fun s=>s.1.toNat)
  (Q:=fun x=>(∃l:List Rat,x.2=l.map fOf∧l.length≤m∧Asc l∧∀q∈l,Sz 4 q)∧ZtE x.1) (k,d1,[]) ⟨by simp;omega,hd1,fun i j h1 h2=>absurd h2 (by simp),fun p hp=>absurd hp (by simp)⟩ (by dsimp only;omega) ?_) ?_
 ·rintro rec ⟨k,d,l⟩ ⟨⟨h0,h1⟩,hd,ha,hl⟩ ih;dsimp only at h0 h1 hd ha hl ih;unfold ZsH ZqE;dsimp only
  by_cases hk:k > 0
  ·rw[decide_eq_true hk,cond_true,ZnE];refine ZnS (ZAx hd) ?_;rintro⟨f0,d2⟩ ⟨⟨f,hf,hs⟩,hd2⟩;dsimp only at hf hd2⊢
   subst hf;rw[ZDK,ZnE];refine ZnS (ZBc (hs.mono (by omega)) (fun q hq=>(hl q hq).mono (by omega)) (by omega) k d2) ?_;rintro _ ⟨i,rfl,hi,h3,h4⟩;unfold Zq6;dsimp only;have e1:((i:Int)).toNat - 0=i:=by omega
   have e2:(((l.map fOf).length:Int)).toNat - ((i:Int)).toNat=l.length - i:=by rw[ZDK];omega
   have e3:((l.map fOf).drop 0).take i++[fOf f]++((l.map fOf).drop i).take (l.length - i)=(l.take i++f::l.drop i).map fOf:=by rw[List.drop_zero,←List.map_take,←List.map_drop,ZDS (l:=(l.drop i).map fOf) (by rw[ZDK,ZDJ];omega),List.map_append,List.map_cons,List.append_assoc,List.singleton_append]
   rw[e1,e2,ZDA,e3];have hlen:(l.take i++f::l.drop i).length=l.length+1:=by rw[ZDI,List.length_cons,ZDM,ZDJ];omega
   have:=ih (k - 1,d2,l.take i++f::l.drop i) ⟨⟨by omega,by dsimp only;rw[hlen];omega⟩,hd2,ZAF hi ha h3 h4,fun q hq=>by
    rcases ZDN.1 hq with hq |hq
    ·exact hl q (List.mem_of_mem_take hq)
    ·rcases ZDO.1 hq with hq |hq
     ·rw[hq];exact hs
     ·exact hl q (List.mem_of_mem_drop hq)⟩ (by dsimp only;omega)
   rw[ZnG,ZnG,ZnG,ZnG,ZnG,ZnG];refine⟨?_, ?_, ?_, ?_, ?_,ZnH (by omega),this⟩
   ·rw[ZDK];simp[Zb9];omega
   ·refine ZsT ?_;simp only[ZDM,ZDJ,ZDK];omega
   ·refine ZsT ?_;simp only[ZDM,ZDJ,ZDK,ZDL];omega
   ·rw[ZDK];simp[Zb9];omega
   ·refine ZsT ?_;simp only[ZDI,ZDM,ZDJ,ZDK,ZDL];omega
  ·rw[decide_eq_false hk,cond_false,ZnC];exact⟨⟨l,rfl,by omega,ha,hl⟩,hd⟩
 ·rintro⟨d3,l3⟩ ⟨⟨l,h1,h2,h3,h4⟩,h5⟩;unfold Zq5;dsimp only at h1 h5⊢
  rw[ZnC];exact⟨⟨l,h1,h2,h3,h4⟩,h5⟩
theorem ZyC:((List.range 10).all fun a=>(List.range 21).all fun p=>decide (ZsK (a:Int) (p:Int)=some (0,((a*p:Nat):Int))))=true:=by kernel_rfl
theorem ZyD {a p:Nat} (ha:a < 10) (hp:p < 21):ZsK (a:Int) (p:Int)=some (0,((a*p:Nat):Int)):=
 of_decide_eq_true (ZDB.1 (ZDB.1 ZyC a (ZDP.2 ha)) p (ZDP.2 hp))
theorem Zva {n:Nat} (h:n < 1000000):IntKind.wrap .u64 (n:Int)=n∧IntKind.wrap .i64 (n:Int)=n:=by refine⟨Zlj _ _ ?_ ?_,Zlj _ _ ?_ ?_⟩<;>simp[IntKind.min,IntKind.max,IntKind.signed,IntKind.bits]<;>omega
theorem ZyQ {n y:Nat} (hn:n < 1000000) (hy:0 < y) (hy2:y < 1000000):ZsM 0 (n:Int) (y:Int)=some (((n / y:Nat):Int),((n % y:Nat):Int)):=by have h1:n / y≤n:=ZDY _ _;unfold ZsM;rw[show (((y:Int) == 0)=false)from beq_eq_false_iff_ne.2 (by omega),cond_false,decide_eq_false (show ¬(y:Int)≤0 by omega),cond_false,show (((0:Int) == 0)=true)from rfl,cond_true,show decide ((y:Int)≠0)=true from decide_eq_true (by omega)];rw[show Int.tdiv (n:Int) (y:Int)=((n / y:Nat):Int)from rfl,show Int.tmod (n:Int) (y:Int)=((n % y:Nat):Int)from rfl,(Zva (n:=n / y) (by omega)).1];rfl
theorem ZxP {q:Rat} (h:Sz 40 q):(fOf q).Num.Words.length≤2∧(fOf q).Den.Words.length≤2:=by
 have h1:=Zxm (n:=q.num.natAbs) h.1 2 (by omega);have h2:=Zxm (n:=q.den) h.2 2 (by omega);constructor
 ·show (iL (wd q.num.natAbs)).length≤2;rw[ZnP];exact h1
 ·show (iL (wd ((q.den:Int)).natAbs)).length≤2;rw[ZnP,Int.natAbs_natCast];exact h2
theorem ZxU {l:List Rat} (hl:l.length < 10) (h0:0 < l.length) (hs:∀q∈l,Sz 40 q) {p n:Nat} (hn:0 < n) (hn2:n≤20) (hp:p≤n):
  Zp8 (l.map fOf) (p:Int) (n:Int)=some (fOf (gR l (rk l.length p n)),0):=by
 have hlt:=ZA9 hn h0 hp;have hq:l[rk l.length p n]∈l:=ZDH hlt;have hm:l.length*p≤9*20:=Nat.mul_le_mul (by omega) (by omega);have hdv:(l.length*p+(n - 1)) / n≤l.length*p+(n - 1):=ZDY _ _;unfold Zp8;rw[decide_eq_false (show ¬(n:Int) < 1 by omega),cond_false,decide_eq_false (show ¬(p:Int) < 0 by omega),cond_false,decide_eq_false (show ¬(p:Int) > (n:Int) by omega)];unfold Zr0;rw[cond_false,ZDK,show ((l.length:Int) == 0)=false from beq_eq_false_iff_ne.2 (by omega),cond_false,(Zva (n:=l.length) (by omega)).1,(Zva (n:=p) (by omega)).1,ZyD hl (by omega),ZEh];dsimp only;rw[show (n:Int) - 1=((n - 1:Nat):Int) by omega,(Zva (n:=n - 1) (by omega)).1,ZnH (by omega)];unfold chk;dsimp only;unfold ZtK;rw[show ((l.length*p:Nat):Int)+((n - 1:Nat):Int)+0=((l.length*p+(n - 1):Nat):Int) by omega,show (((l.length*p+(n - 1):Nat):Int) % 18446744073709551616)=((l.length*p+(n - 1):Nat):Int) by omega,show (((l.length*p+(n - 1):Nat):Int) / 18446744073709551616)=0 by omega];unfold chk;rw[show decide ((0:Int)≤0∧(0:Int)≤1)=true from rfl];dsimp only;rw[ZEh];dsimp only;rw[show IntKind.wrap .u64 (0+0)=0 from by decide,(Zva (n:=n) (by omega)).1,ZyQ (by omega) hn (by omega),ZEh];dsimp only;rw[(Zva (n:=(l.length*p+(n - 1)) / n) (by omega)).2];rw[show (if (1:Int) > (((l.length*p+(n - 1)) / n:Nat):Int)then (1:Int)else (((l.length*p+(n - 1)) / n:Nat):Int)) - 1=((rk l.length p n:Nat):Int)from by unfold rk;split<;>omega]
 rw[ZnH (by omega),Zvl (by rw[ZDK];exact hlt),ZEh,ZDG,ZvD hlt];unfold Zwr;have hw:=ZxP (hs _ hq);rw[ZsT (by omega),ZsT (by omega)];rfl
end Go.Proofs
namespace Go.Proofs
open Go Eng
def Zyh:ZnA:=⟨⟨false,[3]⟩,⟨false,[1]⟩⟩
def nil0:ZnA:=⟨⟨false,[]⟩,⟨false,[]⟩⟩
def Zxi:List ZnD:=[ZnD.mk false ([51]:Str),ZnD.mk true ([]:Str),ZnD.mk false ([120]:Str)]
theorem val0:ZoW (ZnD.mk false ([51]:Str))=some (Zyh,true):=by kernel_rfl
theorem val1:ZoW (ZnD.mk true ([]:Str))=some (fOf 0,false):=by unfold ZoW;dsimp only;rw[cond_true,Zyt];rfl
theorem val2:ZoW (ZnD.mk false ([120]:Str))=some (nil0,false):=by kernel_rfl
theorem ZCT:ZnU [Zyh]=some [Zyh]:=by kernel_rfl
theorem Zzf:ZoY (ZnO.mk ([]:Str) Zxi)=some [Zyh]:=by
 refine ZpW ?_;unfold ZoY;rw[ZnE];refine ZnS (Zud Zt9 (fun k:Nat=>(Zxi,(3:Int),(k:Int),if k=0 then []else [Zyh])) (fun k=>k≤3) (fun k=>3 - k) (Q:=fun x=>x=[Zyh]) 0 (by omega) (by omega) ?_) ?_
 ·intro rec k hk ih;unfold Zrf Zp9 ZqZ;dsimp only;have h:k=0∨k=1∨k=2∨k=3:=by omega
  rcases h with rfl |rfl |rfl |rfl
  ·rw[show decide (((0:Nat):Int) < 3)=true from rfl,cond_true,show idx Zxi ((0:Nat):Int)=some (ZnD.mk false ([51]:Str))from rfl,ZnE,ZnC,val0,ZnE,ZnC];dsimp only;rw[cond_true,ZnG,ZnG];exact⟨rfl,rfl,ih 1 (by omega) (by omega)⟩
  ·rw[show decide (((1:Nat):Int) < 3)=true from rfl,cond_true,show idx Zxi ((1:Nat):Int)=some (ZnD.mk true ([]:Str))from rfl,ZnE,ZnC,val1,ZnE,ZnC];dsimp only;rw[cond_false,ZnG];exact⟨rfl,ih 2 (by omega) (by omega)⟩
  ·rw[show decide (((2:Nat):Int) < 3)=true from rfl,cond_true,show idx Zxi ((2:Nat):Int)=some (ZnD.mk false ([120]:Str))from rfl,ZnE,ZnC,val2,ZnE,ZnC];dsimp only;rw[cond_false,ZnG];exact⟨rfl,ih 3 (by omega) (by omega)⟩
  ·rw[show decide (((3:Nat):Int) < 3)=false from rfl,cond_false,ZnC];rfl
 ·rintro x rfl;unfold Zr1;rw[ZCT,ZnE,ZnC,ZnC]
def l4:List Rat:=[1,2,3,4]
theorem Zzl:∀q∈l4,Sz 40 q:=by intro q hq;simp only[l4,ZDO,ZDQ,or_false]at hq;rcases hq with rfl |rfl |rfl |rfl<;>(unfold Sz;decide)
theorem ZCV:Zp8 (l4.map fOf) 1 2=some (fOf 2,0):=ZxU (l:=l4) (p:=1) (n:=2) (by decide) (by decide) Zzl (by decide) (by decide) (by decide)
def hlf:Rat:=Rat.divInt 1 2
theorem ZDg:Zot (([1,2]:List Rat).map fOf) (([2,3]:List Rat).map fOf)=some (fOf hlf,0):=by
 have h12:∀q∈([1,2]:List Rat),Sz 40 q:=fun q hq=>Zzl q (by
  simp only[ZDO,ZDQ,or_false]at hq;rcases hq with rfl |rfl<;>simp[l4])
 have h23:∀q∈([2,3]:List Rat),Sz 40 q:=fun q hq=>Zzl q (by
  simp only[ZDO,ZDQ,or_false]at hq;rcases hq with rfl |rfl<;>simp[l4])
 obtain⟨r,e,hr⟩:=Zx0 h12 h23 (by decide) (by decide) (by decide) (by decide);have z0:∀{l:List Rat} {x:Rat},gR l 0≤x→∀j,0≤j→j < 1→gR l j≤x:=fun h j _ h2=>by
  have:j=0:=by omega
  rw[this];exact h
 have z1:∀{l:List Rat} {x:Rat},gR l 1≤x→∀j,1≤j→j < 2→gR l j≤x:=fun h j _ h2=>by
  have:j=1:=by omega
  rw[this];exact h
 have u1:Zmn [1,2] 0 (xOf (gR [1,2] 0) (gR [2,3] 0)) 1:=⟨by decide,by decide,z0 (by decide),fun _=>by decide⟩;have u2:Zmn [2,3] 0 (xOf (gR [1,2] 0) (gR [2,3] 0)) 0:=⟨by decide,by decide,fun j _ h2=>absurd h2 (Nat.not_lt_zero j),fun _=>by decide⟩;have u3:Zmn [1,2] 1 (xOf (gR [1,2] 1) (gR [2,3] 0)) 2:=⟨by decide,by decide,z1 (by decide),fun h=>absurd h (by decide)⟩;have u4:Zmn [2,3] 0 (xOf (gR [1,2] 1) (gR [2,3] 0)) 1:=⟨by decide,by decide,z0 (by decide),fun _=>by decide⟩;have d:DistR [1,2] [2,3] 0 0 0 2:= .go (by decide) (by decide) u1 u2 (.go (by decide) (by decide) u3 u4 (.done (by decide)));have:=hr.det d;subst this;rw[e];exact congrArg (fun q=>some (fOf q,(0:Int))) (show Rat.divInt 2 4=hlf by unfold hlf;decide)
theorem Zx1:ZoC=some true:=by have sz2:Sz 40 2:=Zzl 2 (by simp[l4]);have szh:Sz 40 hlf:=(Zwp (x:=1) (y:=2) (by decide) (by decide) (by decide)).mono (by omega);have i1:ZnN 1=some (fOf 1):=Zwu 1 (by decide) (by decide);have i2:ZnN 2=some (fOf 2):=Zwu 2 (by decide) (by decide);have i3:ZnN 3=some (fOf 3):=Zwu 3 (by decide) (by decide);have i4:ZnN 4=some (fOf 4):=Zwu 4 (by decide) (by decide);have ih:Zoo 1 2=some (fOf hlf):=ZwR 1 2 (by decide) (by decide) (by decide) (by decide) (by decide);have r4:Zp8 [fOf 1,fOf 2,fOf 3,fOf 4] 1 2=some (fOf 2,0):=ZCV;have d4:Zot (([fOf 1,fOf 2,fOf 3,fOf 4].drop 0).take (((2:Int)).toNat - 0)) (([fOf 1,fOf 2,fOf 3,fOf 4].drop (((1:Int)).toNat)).take (((3:Int)).toNat - ((1:Int)).toNat))=some (fOf hlf,0):=ZDg;have n3:=Zzf;unfold Zxi at n3;unfold ZoC Zoc;rw[i1,ZEh,i2,ZEh,i3,ZEh,i4,ZEh,r4,ZEh];dsimp only;rw[d4,ZEh,ZEh];dsimp only;rw[show ((0:Int) == 0)=true from rfl,cond_true,cond_true,ZvA _ _ (sz2.wq (by omega)) (sz2.wq (by omega)),ZEh,decide_eq_true rfl,cond_true,ih,ZEh,ZvA _ _ (szh.wq (by omega)) (szh.wq (by omega)),ZEh,decide_eq_true rfl,cond_true,n3,ZEh];rfl
end Go.Proofs
namespace Go.Proofs
open Go Eng
theorem ZDh:Zq2 [48]=Zr5 false [] [1] false false [] []:=by kernel_rfl
theorem dec0:Zq2 [48]=some (fOf (Rat.divInt 0 1),true):=by
 rw[ZDh];unfold Zr5;have e0:iL (wd 0)=[]:=by kernel_rfl
 have e1:iL (wd 1)=[1]:=by kernel_rfl
 have l0:Nat.ble (wd 0).length 50000=true:=by kernel_rfl
 have l1:Nat.ble (wd 1).length 50000=true:=by kernel_rfl
 have w0:=Nat.le_of_ble_eq_true l0;have w1:=Nat.le_of_ble_eq_true l1;have h1:=Zs1 false 0 (by omega);have h2:=Zs1 false 1 (by omega);rw[e0]at h1;rw[e1]at h2;rw[h1,ZEh,h2,ZEh];have:=Zwz 0 1 (by decide) w0 w1;simp only[Bool.false_eq_true,if_false];rw[show ((0:Nat):Int)=0 from rfl,show ((1:Nat):Int)=1 from rfl,this,ZEh]
theorem can0:ZsC 4 [48]=some ([48],true):=by
 have h:ZsC 4 [48]=(Zth [48]).bind fun(a,b)=>some (a,b):=by kernel_rfl
 rw[h];unfold Zth;rw[dec0];show _=_
 kernel_rfl
theorem valZ:ZoW (ZnD.mk false [48])=some (fOf (Rat.divInt 0 1),true):=by
 unfold ZoW ZuY;rw[can0];dsimp only;rw[cond_false,ZEh];dsimp only;rw[ZBd,cond_false,dec0];show _=_
 kernel_rfl
def ZC0:List (Str×Int):=[([45,51], -3),([45,50], -2),([45,49], -1),([49],1),([50],2),([51],3),([52],4),([53],5),([54],6),([55],7),([56],8),([49,48],10)]
def ZAs:List (Str×Int):=[([45,49,46,53], -3),([49,46,53,48],3)]
def noT:List Str:=[[97],[98],[99],[100],[120],[],[49,46,50,46,51],[107,48],[107,49],[107,50],[107,51],[107,52],[107,53],[107,54],[107,55],[107,56],[107,57],[107,49,48],[107,49,49],[107,49,50],[107,49,51]]
def fx (n:Int) (d:Int):ZnA:=⟨⟨decide (n < 0),if n=0 then []else [(n.natAbs:Int)]⟩,⟨false,[d]⟩⟩
theorem ZAi:(ZC0.all fun p=>decide (ZoW (ZnD.mk false p.1)=some (fx p.2 1,true)))=true:=by kernel_rfl
theorem Zzp:(ZAs.all fun p=>decide (ZoW (ZnD.mk false p.1)=some (fx p.2 2,true)))=true:=by kernel_rfl
theorem ZBh:(noT.all fun s=>match ZoW (ZnD.mk false s)with |some (_,false)=>true |_=>false)=true:=by kernel_rfl
theorem ZBs:(ZC0.all fun p=>decide (fx p.2 1=fOf (Rat.divInt p.2 1))&&decide (p.2.natAbs < 16))=true:=by kernel_rfl
theorem ZAw:(ZAs.all fun p=>decide (fx p.2 2=fOf (Rat.divInt p.2 2))&&decide (p.2.natAbs < 16))=true:=by kernel_rfl
def Zxz:List Str:=[48]::(ZC0.map (·.1)++ZAs.map (·.1)++noT)
def ZwK (c:ZnD):Prop:=c=ZnD.mk true []∨∃s∈Zxz,c=ZnD.mk false s
theorem Zy8 {c:ZnD} (h:ZwK c):(∃q,ZoW c=some (fOf q,true)∧Sz 4 q)∨(∃f,ZoW c=some (f,false)):=by
 rcases h with rfl |⟨s,hs,rfl⟩
 ·refine .inr ⟨fOf 0, ?_⟩;unfold ZoW;dsimp only;rw[cond_true,Zyt];rfl
 ·rcases ZDO.1 hs with rfl |hs
  ·exact .inl ⟨_,valZ,Zwp (by decide) (by decide) (by decide)⟩
  ·rcases ZDN.1 hs with hs |hs
   ·rcases ZDN.1 hs with hs |hs
    ·obtain⟨p,hp,rfl⟩:=List.mem_map.1 hs;have h1:=of_decide_eq_true (ZDB.1 ZAi p hp);have h2:=ZDB.1 ZBs p hp;simp only[Bool.and_eq_true,decide_eq_true_eq]at h2;rw[h2.1]at h1;exact .inl ⟨_,h1,Zwp (by decide) h2.2 (by decide)⟩
    ·obtain⟨p,hp,rfl⟩:=List.mem_map.1 hs;have h1:=of_decide_eq_true (ZDB.1 Zzp p hp);have h2:=ZDB.1 ZAw p hp;simp only[Bool.and_eq_true,decide_eq_true_eq]at h2;rw[h2.1]at h1;exact .inl ⟨_,h1,Zwp (by decide) h2.2 (by decide)⟩
   ·have h1:=ZDB.1 ZBh s hs;split at h1;rotate_left;simp at h1;rename_i f hf;exact .inr ⟨f,hf⟩
open Classical in
noncomputable def nv (c:ZnD):Option Rat:=if h:∃q,ZoW c=some (fOf q,true)∧Sz 4 q then some h.choose else none
theorem ZyA {c:ZnD} {q:Rat} (h:nv c=some q):ZoW c=some (fOf q,true)∧Sz 4 q:=by unfold nv at h;split at h;rotate_left;simp at h;rename_i hx;obtain rfl:=Option.some.inj h;exact hx.choose_spec
theorem ZAh {c:ZnD} (hc:ZwK c) (h:nv c=none):∃f,ZoW c=some (f,false):=by
 unfold nv at h;split at h
 ·simp at h
 ·rename_i hx;exact(Zy8 hc).resolve_left hx
noncomputable def Zwa (l:List ZnD):List Rat:=l.filterMap nv
theorem Zw3 (l:List ZnD) (c:ZnD):Zwa (l++[c])=Zwa l++(nv c).toList:=by unfold Zwa;rw[List.filterMap_append];cases h:nv c<;>simp[h]
theorem ZxK {l:List ZnD}:∀q∈Zwa l,Sz 4 q:=by intro q hq;obtain⟨c,_,h⟩:=List.mem_filterMap.1 hq;exact(ZyA h).2
theorem ZxC {l:List ZnD} (hl:∀c∈l,ZwK c) (hn:l.length≤1000):
  wp (ZpP big l (l.length:Int) 0 []) (fun x=>x=(Zwa l).map fOf):=by
 refine Zwl Zt9 l (by omega) (fun i (out:List ZnA)=>(l,(l.length:Int),i,out)) (fun k out=>out=(Zwa (l.take k)).map fOf) [] (by simp[Zwa]) ?_ ?_
 ·rintro rec k out hk rfl ih;unfold Zrf Zp9 ZqZ;dsimp only;have hs:l.take (k+1)=l.take k++[l[k]]:=ZDT hk;have hlen:(Zwa (l.take k)).length≤1000:=ZD2 (List.length_filterMap_le _ _) (by rw[ZDM];omega);rw[decide_eq_true (show (k:Int) < (l.length:Int) by omega),cond_true,Zvl hk,ZnE,ZnC,ZnE];cases hv:nv l[k]with
  |some q=>
   rw[(ZyA hv).1,ZnC];dsimp only;rw[cond_true,ZnG,ZnG];refine⟨ZsT (by rw[ZDK,ZDL];omega),ZnH (by omega),ih _ ?_⟩;rw[hs,Zw3,hv];simp
  |none=>
   obtain⟨f,hf⟩:=ZAh (hl _ (ZDH hk)) hv;rw[hf,ZnC];dsimp only;rw[cond_false,ZnG];refine⟨ZnH (by omega),ih _ ?_⟩;rw[hs,Zw3,hv];simp
 ·rintro rec out rfl;unfold Zrf Zp9;dsimp only;rw[decide_eq_false (show ¬(l.length:Int) < (l.length:Int) by omega),cond_false,ZnC,ZDR]
theorem Zxl {d:ZnB} (hd:ZtE d) {l:List Str} (h0:1≤l.length) (h1:l.length≤1000):wp (Zn4 d l) (fun r=>r.1∈l∧ZtE r.2):=by
 unfold Zn4;rw[ZnE];refine ZnS (Zv2 hd (by omega)) fun⟨q,d1⟩ ⟨hq,hd1⟩=> ?_
 dsimp only at hq hd1⊢
 rw[ZnE,Zzw];refine⟨hq.1,by omega, ?_⟩;rw[ZnC];exact⟨ZDH _,hd1⟩
theorem Zxy:([([97]:Str),([98]:Str),([99]:Str),([49]:Str),([50]:Str),([51]:Str),([49,48]:Str),([120]:Str),([45,49,46,53]:Str),([50]:Str),[100],[],([49,46,50,46,51]:Str),([49,46,53,48]:Str)]:List Str).all (fun s=>Zxz.contains s)=true:=by kernel_rfl
theorem Zw7:(((List.range 12).map fun i:Nat=>Lib.itoa ((i:Int) - 3))++(List.range 14).map fun i:Nat=>([107]:Str)++Lib.itoa (i:Int)).all (fun s=>Zxz.contains s)=true:=by kernel_rfl
theorem Zwv {s:Str} (h:Zxz.contains s=true):ZwK (ZnD.mk false s):= .inr ⟨s,List.contains_iff_mem.1 h,rfl⟩
theorem ZAA {d:ZnB} (hd:ZtE d):wp (ZqY d) (fun r=>ZwK r.1∧ZtE r.2):=by
 unfold ZqY;rw[ZnE];refine ZnS (Zv2 hd (by omega)) fun⟨q,d1⟩ ⟨hq,hd1⟩=> ?_
 dsimp only at hq hd1⊢
 rw[ZnW];refine⟨fun _=> ?_,fun _=> ?_⟩
 ·rw[ZnC];exact⟨.inl rfl,hd1⟩
 ·rw[ZnE];refine ZnS (Zxl hd1 (by decide) (by decide)) fun⟨s,d2⟩ ⟨hs,hd2⟩=> ?_
  dsimp only at hs hd2⊢
  rw[ZnC];refine⟨Zwv (ZDB.1 Zxy s ?_),hd2⟩;simp only[ZDO,ZDQ,or_false]at hs⊢
  rcases hs with h |h |h |h |h |h |h |h |h |h<;>simp[h]
theorem Zym {n:Int} (h: -3≤n∧n≤8):Zxz.contains (Lib.itoa n)=true:=by refine ZDB.1 Zw7 _ (List.mem_append_left _ (List.mem_map.2 ⟨(n+3).toNat,ZDP.2 (by omega), ?_⟩));rw[show (((n+3).toNat:Nat):Int) - 3=n by omega]
theorem ZAo {n:Int} (h:0≤n∧n < 14):Zxz.contains (([107]:Str)++Lib.itoa n)=true:=by refine ZDB.1 Zw7 _ (List.mem_append_right _ (List.mem_map.2 ⟨n.toNat,ZDP.2 (by omega), ?_⟩));rw[show ((n.toNat:Nat):Int)=n by omega]
theorem ZyB {d:ZnB} (hd:ZtE d):wp (Zp6 d) (fun r=>ZwK r.1∧ZtE r.2):=by
 unfold Zp6;rw[ZnE];refine ZnS (Zv2 hd (by omega)) fun⟨q,d1⟩ ⟨hq,hd1⟩=> ?_
 dsimp only at hq hd1⊢
 rw[ZnW];refine⟨fun _=> ?_,fun _=> ?_⟩
 ·rw[ZnC];exact⟨.inl rfl,hd1⟩
 rw[ZnW];refine⟨fun _=> ?_,fun _=> ?_⟩
 ·rw[ZnE];refine ZnS (Zxl hd1 (by decide) (by decide)) fun⟨s,d2⟩ ⟨hs,hd2⟩=> ?_
  dsimp only at hs hd2⊢
  rw[ZnC];refine⟨Zwv (ZDB.1 Zxy s ?_),hd2⟩;simp only[ZDO,ZDQ,or_false]at hs⊢
  rcases hs with h |h |h |h<;>simp[h]
 ·rw[ZnE];refine ZnS (Zv2 hd1 (by omega)) fun⟨q,d2⟩ ⟨hq,hd2⟩=> ?_
  dsimp only at hq hd2⊢
  unfold Zs5;rw[ZnG,ZnE,ZnC,ZnC];exact⟨ZnH (by omega),Zwv (Zym (by omega)),hd2⟩
theorem abcd:([([97]:Str),([98]:Str),([99]:Str),([100]:Str)]:List Str).all (fun s=>Zxz.contains s)=true:=by kernel_rfl
theorem Zyn {n:Int} (h:0≤n∧n < 14):(Lib.itoa n).length≤2:=by
 have h1:((List.range 14).all fun i:Nat=>decide ((Lib.itoa (i:Int)).length≤2))=true:=by kernel_rfl
 have:=of_decide_eq_true (ZDB.1 h1 n.toNat (ZDP.2 (by omega)))
 rwa [show ((n.toNat:Nat):Int)=n by omega]at this
theorem ZyU {d:ZnB} (hd:ZtE d) (rows:Nat) (hr:rows≤14):
  wp (Zp7 d (rows:Int)) (fun r=>(r.1.Cells.length=rows∧∀c∈r.1.Cells,ZwK c)∧ZtE r.2):=by
 unfold Zp7;rw[ZnE];refine ZnS (Zxl hd (by decide) (by decide)) fun⟨nm,d1⟩ ⟨_,hd1⟩=> ?_
 dsimp only at hd1⊢
 rw[ZnE];refine ZnS (Zv2 hd1 (by omega)) fun⟨kind,d2⟩ ⟨_,hd2⟩=> ?_
 dsimp only at hd2⊢
 rw[ZnE];refine ZnS (ZrW ZuM rows (by omega) (fun i (t:ZnB×List ZnD)=>(kind,(rows:Int),i,t.1,([]:Str),nm,([]:List ZnD),t.2))
  (fun k t=>ZtE t.1∧t.2.length=k∧∀c∈t.2,ZwK c) (Q:=fun x=>ZtE x.1∧x.2.2.2.2.length=rows∧∀c∈x.2.2.2.2,ZwK c) (d2,[]) ⟨hd2,rfl,fun c hc=>absurd hc (by simp)⟩ ?_ ?_) ?_
 ·rintro rec k ⟨d,cs⟩ hk ⟨hd,hlen,hcs⟩ ih;dsimp only at hd hlen hcs ih;have next:∀(x:ZnD) (d':ZnB),ZwK x→ZtE d'→wp (Zol (fun kind t15 i d t4 c t4_1 c_1=>rec (kind,t15,i,d,t4,c,t4_1,c_1)) kind (rows:Int) (k:Int) d' [] nm x [] cs) (fun x=>ZtE x.1∧x.2.2.2.2.length=rows∧∀c∈x.2.2.2.2,ZwK c):=by
   intro x d' hx hd';unfold Zol;rw[ZnG,ZnG];refine⟨ZsT (by rw[ZDL];omega),ZnH (by omega),ih (d',cs++[x]) ⟨hd',by dsimp only;rw[ZDI,ZDL];omega,fun c hc=> ?_⟩⟩;rcases ZDN.1 hc with hc |hc
   ·exact hcs c hc
   ·obtain rfl:=List.mem_singleton.1 hc;exact hx
  unfold Zre ZpV;dsimp only;rw[decide_eq_true (show (k:Int) < (rows:Int) by omega),cond_true,ZnE];refine ZnS (ZAA hd) fun⟨x,d3⟩ ⟨hx,hd3⟩=> ?_
  dsimp only at hx hd3⊢
  rw[ZnW];refine⟨fun _=> ?_,fun _=> ?_⟩
  ·rw[ZnE];exact ZnS (ZyB hd3) fun⟨y,d4⟩ ⟨hy,hd4⟩=>next y d4 hy hd4
  rw[ZnW];refine⟨fun _=> ?_,fun _=> ?_⟩
  ·unfold Zs5;have:=Zyn (n:=(k:Int)) (by omega);rw[ZnE,ZnC,ZnG];exact⟨decide_eq_true (by rw[ZDL];unfold Zq;omega),next _ d3 (Zwv (ZAo (by omega))) hd3⟩
  rw[ZnW];refine⟨fun _=> ?_,fun _=> ?_⟩
  ·rw[ZnE];exact ZnS (Zxl hd3 (by decide) (by decide)) fun⟨s,d4⟩ ⟨hs,hd4⟩=>next _ d4 (Zwv (ZDB.1 abcd s hs)) hd4
  ·exact next x d3 hx hd3
 ·rintro rec ⟨d,cs⟩ ⟨hd,hlen,hcs⟩;unfold Zre ZpV;dsimp only at hd hlen hcs⊢
  rw[decide_eq_false (show ¬(rows:Int) < (rows:Int) by omega),cond_false,ZnC];exact⟨hd,hlen,hcs⟩
 ·rintro⟨d,_,_,_,cs⟩ ⟨h1,h2,h3⟩;unfold ZrO;dsimp only at h1 h2 h3⊢
  rw[ZnC];exact⟨⟨h2,h3⟩,h1⟩
end Go.Proofs
