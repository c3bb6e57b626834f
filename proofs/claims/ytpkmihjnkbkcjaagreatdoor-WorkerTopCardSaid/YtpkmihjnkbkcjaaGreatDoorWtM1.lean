/- Plain laws over the specs, part 1. -/
import Derived.Test.YtpkmihjnkbkcjaaGreatDoorWtM0
set_option linter.unusedVariables false
set_option linter.unusedSimpArgs false
set_option linter.unusedSectionVars false
open Bool renaming not_true→ZIE, not_false→ZFw
open Int renaming toNat_natCast→ZIG, natCast_add→ZIF
open List renaming getElem?_eq_getElem→ZII, length_set→ZIM, getD_eq_getElem?_getD→ZIH, getElem?_eq_none→ZIJ, length_singleton→ZIN, take_length→ZIO, take_of_length_le→ZIP, getElem?_eq_some_iff→ZIK, getElem_cons_drop→ZIL
open Nat renaming le_refl→ZIS, gcd→ZIR, le_trans→ZIT, mul_add→ZIU, pow_succ→ZIW, mul_assoc→ZIV, pow_zero→ZIX, div_le_self→ZIQ
open Option renaming bind_some→ZIY, some.inj→ZIZ
namespace Go.Proofs
open Go Eng
theorem ZA4 (a b:Nat) (ha:(wd a).length≤100000) (hb:(wd b).length≤100000):Zpx (iL (wd a)) (iL (wd b))=some (ZAT a b):=by
 refine ZuQ ?_;unfold Zpx;rw[ZoM,ZoM,ZoW];refine⟨fun h=> ?_,fun h=> ?_⟩
 ·have hne:(wd a).length≠(wd b).length:=fun e=>by rw[e]at h;simp at h
  rw[ZoW];refine⟨fun h=> ?_,fun h=> ?_⟩
  ·have h1:(wd a).length < (wd b).length:=by have:=of_decide_eq_true h;omega
   rw[Zok,ZxR (ZAU h1)]
  ·have h1:(wd b).length < (wd a).length:=by have:=of_decide_eq_false h;omega
   rw[Zok,Zxx (ZAU h1)]
 ·have hl:(wd a).length=(wd b).length:=by simp only[bne_eq_false_iff_eq]at h;omega
  rw[Zom,Zol];refine⟨Zoo (by omega), ?_⟩;refine Zow (ZAp Zx0 (wd a).length (by omega) (fun i (s:Unit)=>(iL (wd a),iL (wd b),i)) (fun k _=>(wd a).drop k=(wd b).drop k)
   (Q:=fun r=>r= .ret (ZAT a b)∨r= .brk ()∧a=b) () (by rw[List.drop_length,hl,List.drop_length]) ?_ ?_) ?_
  ·rintro rec k ⟨⟩ hk hP ih;have hk2:k < (wd b).length:=by omega
   unfold Zub Zsj;dsimp only;rw[ZoW];refine⟨fun _=> ?_,fun h=>by have:=of_decide_eq_false h;omega⟩;have ha:=ZyD hk;have hb:=ZyD hk2;rw[Zti]at ha hb;have la:val ((wd a).take k) < Bw ^ k:=by have:=ZwW ((Zv6 a).take k);rwa [List.length_take,Nat.min_eq_left (by omega)]at this
   have lb:val ((wd b).take k) < Bw ^ k:=by have:=ZwW ((Zv6 b).take k);rwa [List.length_take,Nat.min_eq_left (by omega)]at this
   rw[Zvd hk,Zol,Zok,Zvd hk2,Zol,Zok,ZoW];refine⟨fun hc=> ?_,fun hc=> ?_⟩
   ·have h1:(wd a)[k] < (wd b)[k]:=by have:=of_decide_eq_true hc;omega
    have:a < b:=by rw[ha,hb,hP];exact ZAW (A:=0) (B:=0) la (by omega)
    rw[Zok];exact .inl (by rw[ZxR this])
   ·rw[Zol,Zok,Zol,Zok,ZoW];refine⟨fun hc2=> ?_,fun hc2=> ?_⟩
    ·have h1:(wd b)[k] < (wd a)[k]:=by have:=of_decide_eq_true hc2;omega
     have:b < a:=by rw[ha,hb,hP];exact ZAW (A:=0) (B:=0) lb (by omega)
     rw[Zok];exact .inl (by rw[Zxx this])
    ·rw[Zom];refine⟨Zoo (by omega),ih () ?_⟩;have h1:(wd a)[k]=(wd b)[k]:=by have q1:=of_decide_eq_false hc;have q2:=of_decide_eq_false hc2;omega
     rw[←ZIL (h:=hk),←ZIL (h:=hk2),h1,hP]
  ·rintro rec ⟨⟩ hP;unfold Zub Zsj;dsimp only;rw[ZoW];refine⟨fun h=>by have:=of_decide_eq_true h;omega,fun _=> ?_⟩;rw[Zok];rw[List.drop_zero,List.drop_zero]at hP;exact .inr ⟨rfl,by rw[←Zti a,←Zti b,hP]⟩
  ·rintro r (rfl |⟨rfl,rfl⟩)
   ·exact Zok.2 rfl
   ·unfold Zu0;exact Zok.2 (Zw6 a).symm
theorem ZCp {a:Nat} (k:Nat) (hk:k≤32):shlK .u32 (a:Int) (k:Int)=((a*2 ^ k % 4294967296:Nat):Int):=by
 unfold shlK;rw[ZIG,show IntKind.bits .u32=32 from rfl,Nat.min_eq_left (by omega)];have e:(a:Int)*(2:Int) ^ k=((a*2 ^ k:Nat):Int):=by push_cast;rfl
 rw[e,Zwx]
theorem ZCV (a d:Nat) (hd:d≤1) (ha:(wd a).length≤100000):Zr6 (iL (wd a)) (d:Int)=some (iL (wd (2*a+d))):=by
 refine ZuQ ?_;unfold Zr6;rw[Zol];refine Zow (Zve ZxD (wd a).length (by omega) (fun i (s:Nat×List Nat)=>(iL (wd a),(s.1:Int),i,iL s.2)) (fun i s=>s.1≤1∧s.2.length=i∧Dg s.2∧val s.2+Bw ^ i*s.1=2*val ((wd a).take i)+d)
  (Q:=fun y=>∃(c:Nat) (o:List Nat),y=((c:Int),iL o)∧c≤1∧Dg o∧o.length=(wd a).length∧val o+Bw ^ (wd a).length*c=2*a+d) (d,[]) ⟨hd,rfl,Zzq,by simp[val]⟩ ?_ ?_) ?_
 ·rintro rec i ⟨c,o⟩ hi ⟨hc,hl,hod,hv⟩ ih;dsimp only at hc hl hod hv ih;have h1:=(Zv6 a).get hi;unfold ZtD ZrV;dsimp only;rw[ZoW,ZoM];refine⟨fun _=> ?_,fun h=>by have:=of_decide_eq_false h;omega⟩;rw[Zvd hi,Zol,Zok];generalize ex:(wd a)[i]=x at h1;have eor:orK .u32 (shlK .u32 (x:Int) 1) (c:Int)=((c+x*2 ^ 1 % Bw:Nat):Int):=by rw[show (1:Int)=((1:Nat):Int)from rfl,ZCp 1 (by omega),ZBN (Nat.mod_lt _ (by decide)) (by omega),Nat.or_comm];congr 1;exact ZA2 (by decide) (by omega) h1
  have esh:shrK .u32 (x:Int) 31=((x / 2 ^ 31:Nat):Int):=ZzV 31 (by omega);rw[eor,ZIY,esh,Zom,Zom,Zom,Zom,ZoM];have hx:c+x*2 ^ 1 % Bw < Bw:=by simp only[Bw]at h1⊢;omega
  refine⟨by decide,Zxb (by simp only[ZIN];omega),by decide,Zoo (by omega), ?_⟩;have:=ih (x / 2 ^ 31,o++[c+x*2 ^ 1 % Bw]) ⟨by simp only[Bw]at h1;dsimp only;omega,by simp[hl],hod.app (ZyJ hx), ?_⟩
  ·rw[ZAz]at this;exact this
  ·dsimp only;have q:c+x*2 ^ 1 % Bw+Bw*(x / 2 ^ 31)=c+2*x:=by simp only[Bw]at h1⊢;omega
   have q2:Bw ^ i*(c+x*2 ^ 1 % Bw+Bw*(x / 2 ^ 31))=Bw ^ i*(c+2*x):=by rw[q]
   have q3:Bw ^ i*(2*x)=2*(Bw ^ i*x):=Nat.mul_left_comm _ _ _;rw[ZIU,ZIU (Bw ^ i) c (2*x),q3]at q2;rw[Zv0,hl,Zpb hi,ex];generalize c+x*2 ^ 1 % Bw=dg at*
   generalize x / 2 ^ 31=cy at*
   rw[ZIW,ZIV];omega
 ·rintro rec ⟨c,o⟩ ⟨hc,hl,hod,hv⟩;dsimp only at hc hl hod hv;unfold ZtD ZrV;dsimp only;rw[ZoW,ZoM];refine⟨fun h=>by have:=of_decide_eq_true h;omega,fun _=> ?_⟩;rw[Zok];rw[ZIO,Zti]at hv;exact⟨c,o,rfl,hc,hod,hl,hv⟩
 ·rintro y ⟨c,o,rfl,hc,hod,hl,hv⟩;dsimp only;unfold Zt5;have e:iL o++[(c:Int)]=iL (o++[c]):=by rw[ZAz];rfl
  rw[Zom,ZoM,e,ZzK (hod.app (ZyJ (by simp only[Bw];omega))) (by simp;omega),Zol,Zok,Zok,Zv0,hl,hv];exact⟨Zxb (by simp only[ZIN];omega),rfl⟩
end Go.Proofs
namespace Go.Proofs
open Go Eng
theorem ZDZ (t:Int):shrK .i64 t 32=t / 4294967296:=by unfold shrK;rw[show min (32:Int).toNat (IntKind.bits .i64)=32 from by decide,Int.fdiv_eq_ediv_of_nonneg _ (by decide)];rfl
theorem ZAY (a b:Nat) (hab:b≤a) (ha:(wd a).length≤100000):ZqK (iL (wd a)) (iL (wd b))=some (iL (wd (a - b))):=by
 have hlb:(wd b).length≤(wd a).length:=ZvD hab;refine ZuQ ?_;unfold ZqK;rw[Zol];refine Zow (Zve ZxX (wd a).length (by omega) (fun i (s:Nat×List Nat)=>(iL (wd a),iL (wd b), -(s.1:Int),i,iL s.2)) (fun i s=>s.1≤1∧s.2.length=i∧Dg s.2∧val ((wd a).take i)+Bw ^ i*s.1=val s.2+val ((wd b).take i))
  (Q:=fun y=>∃(o:List Nat),y=iL o∧Dg o∧o.length=(wd a).length∧val o=a - b) (0,[]) ⟨by simp,rfl,Zzq,by simp[val]⟩ ?_ ?_) ?_
 ·rintro rec i ⟨c,o⟩ hi ⟨hc,hl,hd,hv⟩ ih;dsimp only at hc hl hd hv ih;have h1:=(Zv6 a).get hi;have h2:=ZzH (Zv6 b) i;have ey0:(wd b).getD i 0=(if i < (wd b).length then (wd b).getD i 0 else 0):=by
   by_cases h:i < (wd b).length
   ·rw[if_pos h]
   ·rw[if_neg h,ZIH,ZIJ (by omega)];rfl
  have fin:∀y:Nat,(wd b).getD i 0=y→wp (ZrB (fun a b c i out=>rec (a,b,c,i,out)) (iL (wd a)) (iL (wd b)) (-(c:Int)+((wd a)[i]:Int) - (y:Int)) (i:Int) (iL o)) (fun y=>∃(o:List Nat),y=iL o∧Dg o∧o.length=(wd a).length∧val o=a - b):=fun y ey=>by
   rw[ey]at h2;generalize ex:(wd a)[i]=x at h1;have ew:IntKind.wrap .u32 (-(c:Int)+(x:Int) - (y:Int))=(((x+4294967296 - y - c) % 4294967296:Nat):Int):=by simp only[Bw]at h1 h2;rw[IntKind.wrap_u32];omega
   have es:shrK .i64 (-(c:Int)+(x:Int) - (y:Int)) 32= -(((if x < y+c then 1 else 0):Nat):Int):=by simp only[Bw]at h1 h2;rw[ZDZ];split<;>omega
   unfold ZrB;rw[ew,es,Zom,Zom,Zom,ZoM];refine⟨Zxb (by simp only[ZIN];omega),by decide,Zoo (by omega), ?_⟩;have:=ih ((if x < y+c then 1 else 0),o++[(x+4294967296 - y - c) % 4294967296]) ⟨by dsimp only;split<;>omega,by simp[hl],hd.app (ZyJ (Nat.mod_lt _ (by decide))), ?_⟩
   ·rw[ZAz]at this;exact this
   ·dsimp only;rw[Zv0,hl,ZIW,Zpb hi,Zwy,ex,ey,ZIV];have e:x+Bw*(if x < y+c then 1 else 0)=(x+4294967296 - y - c) % 4294967296+y+c:=by simp only[Bw]at h1 h2⊢;split<;>omega
    have e2:Bw ^ i*(x+Bw*(if x < y+c then 1 else 0))=Bw ^ i*((x+4294967296 - y - c) % 4294967296+y+c):=by rw[e]
    rw[ZIU,ZIU,ZIU]at e2;omega
  unfold Zt6 Zsg;dsimp only;rw[ZoW,ZoM,ZoM];refine⟨fun _=> ?_,fun h=>by have:=of_decide_eq_false h;omega⟩;have wx:IntKind.wrap .i64 ((wd a)[i]:Int)=((wd a)[i]:Int):=wrap_i64 (by simp only[Bw]at h1;omega);rw[Zvd hi,Zol,Zok,wx,Zom,ZoW];refine⟨Zoo (by simp only[Bw]at h1;omega),fun h=> ?_,fun h=> ?_⟩
  ·have hib:i < (wd b).length:=by have:=of_decide_eq_true h;omega
   have hy:=(Zv6 b).get hib;have wy:IntKind.wrap .i64 ((wd b)[i]:Int)=((wd b)[i]:Int):=wrap_i64 (by simp only[Bw]at hy;omega);rw[Zvd hib,Zol,Zok,wy,Zom];refine⟨Zoo (by simp only[Bw]at h1 hy;omega),fin _ ?_⟩;rw[ZIH,ZII hib];rfl
  ·have hib:¬i < (wd b).length:=by have:=of_decide_eq_false h;omega
   have:=fin 0 (by rw[ey0,if_neg hib]);rw[Int.natCast_zero,Int.sub_zero]at this;exact this
 ·rintro rec ⟨c,o⟩ ⟨hc,hl,hd,hv⟩;unfold Zt6 Zsg;dsimp only at hc hl hd hv⊢
  rw[ZoW,ZoM];refine⟨fun h=>by have:=of_decide_eq_true h;omega,fun _=> ?_⟩;rw[Zok];rw[ZIO,ZIP (by omega),Zti,Zti]at hv;have:=ZwW hd;rw[hl]at this;have hc0:c=0:=by
   rcases Nat.eq_zero_or_pos c with h |h
   ·exact h
   ·have:c=1:=by omega
    rw[this,Nat.mul_one]at hv;omega
  rw[hc0,Nat.mul_zero]at hv;exact⟨o,rfl,hd,hl,by omega⟩
 ·rintro y ⟨o,rfl,hd,hl,hv⟩;unfold ZuR;rw[ZzK hd (by omega),Zol,Zok,Zok,hv]
end Go.Proofs
namespace Go.Proofs
open Go Eng
theorem ZAo (a:Nat) (ha:(wd a).length≤100000):Zqo (iL (wd a))=some (iL (wd (a / 2))):=by
 refine ZuQ ?_;unfold Zqo;rw[List.nil_append,Zom,Zol,ZoM];refine⟨Zxb (by rw[List.length_nil];omega), ?_⟩;refine Zow (Zve ZxP (wd a).length (by omega) (fun i (o:List Nat)=>(iL (wd a),((wd a).length:Int),i,iL (o++(wd a).drop o.length))) (fun i o=>o.length=i∧Dg o∧val o*2+(wd a).getD 0 0 % 2=val ((wd a).take i)+Bw ^ i*((wd a).getD i 0 % 2))
  (Q:=fun y=>∃(o:List Nat),y=iL o∧Dg o∧o.length=(wd a).length∧val o=a / 2) [] ⟨rfl,Zzq,by simp[val]⟩ ?_ ?_) ?_
 ·rintro rec i o hi ⟨hol,hod,hov⟩ ih;have h1:=(Zv6 a).get hi;have hyB:=ZzH (Zv6 a) (i+1);have hlen:(o++(wd a).drop o.length).length=(wd a).length:=by simp;omega
  have gx:(iL (o++(wd a).drop o.length))[i]? =some ((wd a)[i]:Int):=by rw[ZzB (by omega)];congr 2;rw[List.getElem_append_right (by omega)];simp[hol]
  have fin:∀z:Nat,z=(wd a)[i] / 2+(wd a).getD (i+1) 0*2 ^ 31 % Bw→wp (Zrn (fun a t9 i out=>rec (a,t9,i,out)) (iL (wd a)) ((wd a).length:Int) (i:Int) (iL ((o++(wd a).drop o.length).set i z))) (fun y=>∃(o:List Nat),y=iL o∧Dg o∧o.length=(wd a).length∧val o=a / 2):=fun z hz=>by
   unfold Zrn;have es:(o++(wd a).drop o.length).set i z=(o++[z])++(wd a).drop (o++[z]).length:=by rw[List.set_append_right _ _ (by omega),hol,Nat.sub_self,←ZIL (h:=hi),List.set_cons_zero];simp[hol]
   have eg:(wd a).getD i 0=(wd a)[i]:=by rw[ZIH,ZII hi];rfl
   rw[eg]at hov;rw[Zom,es];generalize ex:(wd a)[i]=x at*
   generalize ey:(wd a).getD (i+1) 0=y at*
   have hzB:z < Bw:=by simp only[Bw]at h1 hz⊢;omega
   refine⟨Zoo (by omega),ih (o++[z]) ⟨by simp[hol],hod.app (ZyJ hzB), ?_⟩⟩;have hd1:z*2+x % 2=x+Bw*(y % 2):=by simp only[Bw]at h1 hz⊢;omega
   have q1:Bw ^ i*(z*2+x % 2)=Bw ^ i*(x+Bw*(y % 2)):=by rw[hd1]
   rw[ZIU,ZIU]at q1;rw[Zv0,hol,Zpb hi,ex,ZIW,Nat.add_mul,ZIV,ZIV];omega
  unfold ZtP Zsb;dsimp only;rw[ZoW];refine⟨fun _=> ?_,fun h=>by have:=of_decide_eq_false h;omega⟩;have esh:shrK .u32 ((wd a)[i]:Int) 1=(((wd a)[i] / 2:Nat):Int):=ZzV 1 (by omega);rw[ZIG,gx,Zom,Zol,Zok,Zom,Zom,Zom,esh,ZyI,ZoM,ZoM,hlen,ZoW];refine⟨ZpA ⟨by omega,by omega⟩,by decide,ZpA ⟨by omega,by omega⟩,Zoo (by omega),fun h=> ?_,fun h=> ?_⟩
  ·have hi2:i+1 < (wd a).length:=by have:=of_decide_eq_true h;omega
   have gz:(iL ((o++(wd a).drop o.length).set i ((wd a)[i] / 2)))[i]? =some (((wd a)[i] / 2:Nat):Int):=by rw[ZzB (by rw[ZIM];omega),List.getElem_set_self]
   have e1:(i:Int)+1=((i+1:Nat):Int):=rfl;have eg:(wd a).getD (i+1) 0=(wd a)[i+1]:=by rw[ZIH,ZII hi2];rfl
   have eor:orK .u32 (((wd a)[i] / 2:Nat):Int) (shlK .u32 ((wd a)[i+1]:Int) 31)=(((wd a)[i] / 2+(wd a).getD (i+1) 0*2 ^ 31 % Bw:Nat):Int):=by rw[eg,show (31:Int)=((31:Nat):Int)from rfl,ZCp 31 (by omega),ZBN (by simp only[Bw]at h1;omega) (Nat.mod_lt _ (by decide))];congr 1;exact ZA2 (by decide) (by simp only[Bw]at h1;omega) ((Zv6 a).get hi2)
   rw[e1,Zvd hi2,gz,Zom,Zol,Zok,Zom,Zol,Zok,Zom,Zom,eor,ZoM,ZIM,hlen,ZyI,List.set_set];exact⟨ZpA ⟨by omega,by omega⟩,Zoo (by omega),by decide,ZpA ⟨by omega,by omega⟩,fin _ rfl⟩
  ·have hi2:¬i+1 < (wd a).length:=by have:=of_decide_eq_false h;omega
   refine fin _ ?_;rw[ZIH,ZIJ (by omega)];simp
 ·rintro rec o ⟨hol,hod,hov⟩;unfold ZtP Zsb;dsimp only;rw[ZoW];refine⟨fun h=>by have:=of_decide_eq_true h;omega,fun _=> ?_⟩;rw[Zok];have eg:(wd a).getD (wd a).length 0=0:=by rw[ZIH,ZIJ (by omega)];rfl
  rw[eg,Nat.zero_mod,Nat.mul_zero,Nat.add_zero,ZIO,Zti]at hov;refine⟨o,by rw[hol,List.drop_length,List.append_nil],hod,hol, ?_⟩;omega
 ·rintro y ⟨o,rfl,hd,hl,hv⟩;unfold ZuA;rw[ZzK hd (by omega),Zol,Zok,Zok,hv]
end Go.Proofs
namespace Go.Proofs
open Go Eng
theorem ZBg {a:Nat} (h:a≠0):idx (iL (wd a)) 0=some ((a % Bw:Nat):Int):=by rw[Zzy h];rfl
theorem ZAA {a:Nat}:(andK .u32 ((a % Bw:Nat):Int) 1 == 0)=decide (a % 2=0):=by
 rw[show (1:Int)=((1:Nat):Int)from rfl,ZBD (Nat.mod_lt _ (by decide)) (by decide),Nat.and_one_is_mod];have e:a % Bw % 2=a % 2:=by simp only[Bw];omega
 rw[e]
 by_cases h:a % 2=0
 ·rw[h];rfl
 ·rw[decide_eq_false h];exact beq_eq_false_iff_ne.2 (by omega)
theorem ZBO (P:Nat→Prop) {f:Nat→List Int×List Int×Int→Option (List Int×List Int×Int)} (y:List Int) (k:Int)
  (hf:∀n x,x≠0→(wd x).length≤100000→f (n+1) (iL (wd x),y,k)=if x % 2=0 then f n (iL (wd (x / 2)),y,k)else some (iL (wd x),y,k))
  (hP:∀x,P (2*x)→P x):∀(n x:Nat),x≠0→(wd x).length≤100000→P x→(∀m,x < 2 ^ m→m≤n→∃z,f n (iL (wd x),y,k)=some (iL (wd z),y,k)∧z % 2=1∧z≤x∧P z)
 |0,x,hx,hl,hp,m,hm,hmn=>by
  have:m=0:=by omega
  subst this;rw[ZIX]at hm;omega
 |n+1,x,hx,hl,hp,m,hm,hmn=>by
  rw[hf n x hx hl]
  by_cases h:x % 2=0
  ·rw[if_pos h];cases m with
   |zero=>rw[ZIX]at hm;omega
   |succ m=>
    obtain⟨z,h1,h2,h3,h4⟩:=ZBO P y k hf hP n (x / 2) (by omega) (ZIT (ZvD (ZIQ x 2)) hl) (hP _ (by rwa [show 2*(x / 2)=x by omega])) m (by rw[ZIW]at hm;omega) (by omega);exact⟨z,h1,h2,by omega,h4⟩
  ·rw[if_neg h];exact⟨x,rfl,by omega,ZIS _,hp⟩
end Go.Proofs
namespace Go.Proofs
open Go Eng
theorem Zxy (x:Nat):x < 2 ^ (x.log2+1):=Nat.lt_log2_self
theorem ZyW {x n:Nat} (h:(wd x).length≤n):x.log2≤32*n:=by
 rcases Nat.eq_zero_or_pos x with rfl |hp
 ·rw[Nat.log2_zero];omega
 ·have h1:=Nat.log2_self_le (n:=x) (by omega);have h2:=Nat.lt_of_lt_of_le (ZwV x) (Nat.pow_le_pow_right (n:=Bw) (by decide) h);rw[show Bw=2 ^ 32 from rfl,←Nat.pow_mul]at h2;exact Nat.le_of_lt ((Nat.pow_lt_pow_iff_right (a:=2) (by decide)).1 (Nat.lt_of_le_of_lt h1 h2))
theorem ZCC {x b:Nat} (hb:b % 2=1):ZIR (2*x) b=ZIR x b:=by
 have hc:Nat.Coprime 2 b:=by unfold Nat.Coprime;rw[Nat.gcd_rec,hb,Nat.gcd_one_left]
 exact Nat.Coprime.gcd_mul_left_cancel x hc
theorem ZH1 (y:List Int) (k:Int) {x:Nat} (b:Nat) (hb:b % 2=1) (hx:x≠0) (hl:(wd x).length≤100000):∃z,Zpn big (iL (wd x)) y k=some (iL (wd z),y,k)∧z % 2=1∧z≤x∧ZIR z b=ZIR x b:=by
 have hm:=ZyW hl;refine ZBO (fun z=>ZIR z b=ZIR x b) (f:=fun n t=>Zpn n t.1 t.2.1 t.2.2) y k (fun n x hx hl=> ?_) (fun z h=>by rwa [ZCC hb]at h) big x hx hl rfl (x.log2+1) (Zxy x) (Nat.le_of_lt (ZAE (by omega)));show Zq5 (Zpn n) (iL (wd x)) y k=_;unfold Zq5;rw[ZBg hx,ZIY,ZAA]
 by_cases h:x % 2=0
 ·rw[decide_eq_true h,cond_true,if_pos h,ZAo x hl,ZIY]
 ·rw[decide_eq_false h,cond_false,if_neg h]
end Go.Proofs
namespace Go.Proofs
open Go Eng
theorem ZDE (y:List Int) (k:Int) {x:Nat} (ho:x % 2=1):Zpn big (iL (wd x)) y k=some (iL (wd x),y,k):=by obtain⟨n,hn⟩:=ZA5 1 (by decide);rw[hn];show Zq5 (Zpn n) (iL (wd x)) y k=_;unfold Zq5;rw[ZBg (by omega),ZIY,ZAA,decide_eq_false (by omega),cond_false]
theorem ZH0 (w:List Int) (k:Int) {y:Nat} (b:Nat) (hb:b % 2=1) (hy:y≠0) (hl:(wd y).length≤100000):∃z,Zpm big w (iL (wd y)) k=some (w,iL (wd z),k)∧z % 2=1∧(z≤y∧(y % 2=0→z≤y / 2))∧ZIR z b=ZIR y b:=by
 have hm:=ZyW hl;have step:∀n x,x≠0→(wd x).length≤100000→Zpm (n+1) w (iL (wd x)) k=if x % 2=0 then Zpm n w (iL (wd (x / 2))) k else some (w,iL (wd x),k):=fun n x hx hl=>by
  show Zt9 (Zpm n) w (iL (wd x)) k=_;unfold Zt9;rw[ZBg hx,ZIY,ZAA]
  by_cases h:x % 2=0
  ·rw[decide_eq_true h,cond_true,if_pos h,ZAo x hl,ZIY]
  ·rw[decide_eq_false h,cond_false,if_neg h]
 have key:∀(n x m:Nat),x≠0→(wd x).length≤100000→x < 2 ^ m→m≤n→∃z,Zpm n w (iL (wd x)) k=some (w,iL (wd z),k)∧z % 2=1∧(z≤x∧(x % 2=0→z≤x / 2))∧ZIR z b=ZIR x b:=by
  intro n
  induction n with
  |zero=>
   intro x m hx hl hm hmn;have:m=0:=by omega
   subst this;rw[ZIX]at hm;omega
  |succ n ih=>
   intro x m hx hl hm hmn;rw[step n x hx hl]
   by_cases h:x % 2=0
   ·rw[if_pos h];cases m with
    |zero=>rw[ZIX]at hm;omega
    |succ m=>
     obtain⟨z,h1,h2,h3,h4⟩:=ih (x / 2) m (by omega) (ZIT (ZvD (ZIQ x 2)) hl) (by rw[ZIW]at hm;omega) (by omega);refine⟨z,h1,h2,⟨by omega,fun _=>h3.1⟩, ?_⟩;rw[h4,←ZCC hb,show 2*(x / 2)=x by omega]
   ·rw[if_neg h];exact⟨x,rfl,by omega,⟨ZIS _,fun h'=>absurd h' h⟩,rfl⟩
 exact key big y (y.log2+1) hy hl (Zxy y) (Nat.le_of_lt (ZAE (by omega)))
end Go.Proofs
namespace Go.Proofs
open Go Eng
theorem ZDb (k:Int):∀(n x y p q:Nat),x % 2=1→(wd x).length≤100000→(wd y).length≤100000→x < 2 ^ p→y < 2 ^ q→p+q+y % 2 < n→ZoD n (iL (wd x)) (iL (wd y)) k=some (iL (wd (ZIR x y)),k)
 |0,x,y,p,q,_,_,_,_,_,h=>absurd h (by omega)
 |n+1,x,y,p,q,ho,hxl,hyl,hp,hq,hn=>by
  show Zq6 (ZoD n) _ _ _=_;unfold Zq6;rw[ZoM]
  by_cases h0:y=0
  ·subst h0;rw[ZvC,Nat.gcd_zero_right];rfl
  ·have hl:=Zto h0;obtain⟨z,hz,hz1,hz2,hz3⟩:=ZH0 (iL (wd x)) k x ho h0 hyl;rw[decide_eq_true (by omega),cond_true,ZDE _ _ ho,ZIY];dsimp only;unfold ZuX;rw[hz,ZIY];dsimp only;have hzl:=ZIT (ZvD hz2.1) hyl;unfold ZuW;rw[ZA4 x z hxl hzl,ZIY];obtain⟨q',hq',hq2⟩:∃q',z < 2 ^ q'∧q'+1≤q+y % 2:=by
    by_cases he:y % 2=0
    ·cases q with
     |zero=>rw[ZIX]at hq;omega
     |succ q=>
      refine⟨q, ?_,by omega⟩;have:=hz2.2 he;rw[ZIW]at hq;omega
    ·exact⟨q,by omega,by omega⟩
   unfold Zs8;have eg:ZIR x y=ZIR x z:=by rw[Nat.gcd_comm x y,←hz3,Nat.gcd_comm]
   rw[eg]
   by_cases hc:z < x
   ·rw[Zxx hc,show decide ((1:Int) > 0)=true from rfl,cond_true,ZAY x z (by omega) hxl,ZIY,ZDb k n z (x - z) q' p hz1 hzl (ZIT (ZvD (Nat.sub_le x z)) hxl) hq' (by omega) (by omega),Nat.gcd_sub_self_right (by omega),Nat.gcd_comm]
   ·have hnc:decide (ZAT x z > 0)=false:=by refine decide_eq_false ?_;unfold ZAT;rw[if_neg hc];split<;>decide
    rw[hnc,cond_false,ZAY z x (by omega) hzl,ZIY,ZDb k n x (z - x) p q' ho hxl (ZIT (ZvD (Nat.sub_le z x)) hzl) hp (by omega) (by omega),Nat.gcd_sub_self_right (by omega)]
end Go.Proofs
namespace Go.Proofs
open Go Eng
theorem ZFJ:∀(n x y j m:Nat),x≠0→y≠0→(wd x).length≤100000→(wd y).length≤100000→x < 2 ^ m→m≤n→j+m≤1000000000→
  ∃x' y' t:Nat,ZqH n (iL (wd x)) (iL (wd y)) (j:Int)=some (iL (wd x'),iL (wd y'),((j+t:Nat):Int))∧(x' % 2=1∨y' % 2=1)∧ZIR x y=2 ^ t*ZIR x' y'∧x'≠0∧y'≠0∧x'≤x∧y'≤y∧t≤m
 |0,x,y,j,m,hx,hy,hxl,hyl,hm,hmn,hj=>by
  have:m=0:=by omega
  subst this;rw[ZIX]at hm;omega
 |n+1,x,y,j,m,hx,hy,hxl,hyl,hm,hmn,hj=>by
  show ∃x' y' t:Nat,Zua (ZqH n) _ _ _=_∧_;unfold Zua Zs9;rw[ZBg hx,ZIY,ZAA]
  by_cases h1:x % 2=0
  ·rw[decide_eq_true h1,cond_true,ZBg hy,ZIY,ZAA]
   by_cases h2:y % 2=0
   ·cases m with
    |zero=>rw[ZIX]at hm;omega
    |succ m=>
     rw[decide_eq_true h2,cond_true,ZAo x hxl,ZIY,ZAo y hyl,ZIY,Zoo (by omega),chk_true];obtain⟨x',y',t,q1,q2,q3,q4,q5,q6,q7,q8⟩:=ZFJ n (x / 2) (y / 2) (j+1) m (by omega) (by omega) (ZIT (ZvD (ZIQ x 2)) hxl) (ZIT (ZvD (ZIQ y 2)) hyl) (by rw[ZIW]at hm;omega) (by omega) (by omega);refine⟨x',y',t+1, ?_,q2, ?_,q4,q5,by omega,by omega,by omega⟩
     ·rw[show (j:Int)+1=((j+1:Nat):Int)from rfl,q1,show j+1+t=j+(t+1) by omega]
     ·have:=Nat.gcd_mul_left 2 (x / 2) (y / 2);rw[show 2*(x / 2)=x by omega,show 2*(y / 2)=y by omega]at this;rw[this,q3,ZIW,Nat.mul_comm (2 ^ t) 2,ZIV]
   ·rw[decide_eq_false h2,cond_false];exact⟨x,y,0,rfl,.inr (by omega),by rw[ZIX,Nat.one_mul],hx,hy,ZIS _,ZIS _,Nat.zero_le _⟩
  ·rw[decide_eq_false h1,cond_false,cond_false];exact⟨x,y,0,rfl,.inl (by omega),by rw[ZIX,Nat.one_mul],hx,hy,ZIS _,ZIS _,Nat.zero_le _⟩
theorem ZFI:∀(k n a:Nat),k < n→k≤1000000000→(wd (2 ^ k*a)).length≤100000→ZqG n (iL (wd a)) (k:Int)=some (iL (wd (2 ^ k*a)))
 |k,0,a,h,_,_=>absurd h (by omega)
 |0,n+1,a,_,_,_=>by show Zq4 (ZqG n) _ _=_;unfold Zq4;rw[ZIX,Nat.one_mul];rfl
 |k+1,n+1,a,h,hk,hl=>by
  show Zq4 (ZqG n) _ _=_;unfold Zq4;have e:2 ^ (k+1)*a=2 ^ k*(2*a+0):=by rw[ZIW,ZIV,Nat.add_zero]
  have ha:(wd a).length≤100000:=ZIT (ZvD (Nat.le_mul_of_pos_left a (Nat.two_pow_pos _))) hl;rw[e]at hl;have ht:=ZCV a 0 (by omega) ha;rw[Int.natCast_zero]at ht;rw[decide_eq_true (by omega),cond_true,ht,ZIY,show ((k+1:Nat):Int) - 1=(k:Int) by omega,Zoo (by omega),chk_true,ZFI k n (2*a+0) (by omega) (by omega) hl,e]
theorem ZEn (a b:Nat) (ha0:a≠0) (hb0:b≠0) (ha:(wd a).length≤50000) (hb:(wd b).length≤50000):ZsQ (iL (wd a)) (iL (wd b))=some (iL (wd (ZIR a b))):=by
 have hla:=ZyW ha;have hlb:=ZyW hb;obtain⟨x,y,t,q1,q2,q3,q4,q5,q6,q7,q8⟩:=ZFJ big a b 0 (a.log2+1) ha0 hb0 (by omega) (by omega) (Zxy a) (Nat.le_of_lt (ZAE (by omega))) (by omega);rw[Int.natCast_zero,Nat.zero_add]at q1;have hxl:=ZIT (ZvD q6) ha;have hyl:=ZIT (ZvD q7) hb;have hlx:=ZyW hxl;have hly:=ZyW hyl;have main:ZoD big (iL (wd x)) (iL (wd y)) (t:Int)=some (iL (wd (ZIR x y)),(t:Int)):=by
  by_cases hx:x % 2=1
  ·exact ZDb _ big x y _ _ hx (by omega) (by omega) (Zxy x) (Zxy y) (ZAE (by omega))
  ·have hy:y % 2=1:=by omega
   obtain⟨z,z1,z2,z3,z4⟩:=ZH1 (iL (wd y)) (t:Int) y hy q4 (by omega);have hzl:=ZIT (ZvD z3) hxl;have hlz:=ZyW hzl;have e:=ZDb (t:Int) big z y _ _ z2 (by omega) (by omega) (Zxy z) (Zxy y) (ZAE (by omega));rw[z4]at e;rw[←e];obtain⟨n,hn⟩:∃n,big=n+1:=⟨36893488147419103231,by rw[big_eq]⟩;have s1:∀u,ZoD big (iL (wd u)) (iL (wd y)) (t:Int)=Zq6 (ZoD n) (iL (wd u)) (iL (wd y)) (t:Int):=fun u=>by rw[hn];rfl
   rw[s1,s1];unfold Zq6;have hl:=Zto q5;rw[ZoM,decide_eq_true (by omega),cond_true,cond_true,z1,ZDE _ _ z2]
 have hg:(wd (2 ^ t*ZIR x y)).length≤100000:=by rw[←q3];exact ZIT (ZFe (by omega) hb) (by omega)
 unfold ZsQ;rw[q1,ZIY];dsimp only;unfold ZuY ZuV ZuU;rw[main,ZIY];dsimp only;rw[ZFI t big _ (ZAE (by omega)) (by omega) hg,ZIY,q3]
end Go.Proofs
namespace Go.Proofs
open Go Eng
end Go.Proofs
namespace Go.Proofs
open Go Eng
end Go.Proofs
namespace Go.Proofs
open Go Eng
end Go.Proofs
namespace Go.Proofs
open Go Eng
end Go.Proofs
namespace Go.Proofs
open Go Eng
theorem ZFh {a b:Nat} (h:wd a=wd b):a=b:=by rw[←Zti a,←Zti b,h]
theorem ZAR (x y:Int) (hx:Wl 100000 x) (hy:Wl 100000 y):Zrl (bg x) (bg y)=some (decide (x=y)):=by
 unfold Wl at hx hy;refine ZuQ ?_;unfold Zrl ZrU;rw[ZxO,ZxO,ZrY,ZrY,ZoM,ZoM]
 by_cases hs:decide (x < 0)=decide (y < 0)
 ·rw[hs,beq_self_eq_true,ZIE,cond_false]
  by_cases hl:(wd x.natAbs).length=(wd y.natAbs).length
  ·rw[hl,bne_self_eq_false,cond_false,Zol];refine Zow (Zve Zxp (wd y.natAbs).length (by omega) (fun i (_:Unit)=>(iL (wd x.natAbs),((wd y.natAbs).length:Int),i,bg y)) (fun i _=>(wd x.natAbs).take i=(wd y.natAbs).take i)
    (Q:=fun r=>r= .ret false∧wd x.natAbs≠wd y.natAbs∨r= .brk ()∧wd x.natAbs=wd y.natAbs) () (by rw[List.take_zero,List.take_zero]) ?_ ?_) ?_
   ·rintro rec i ⟨⟩ hi hP ih;have hi2:i < (wd x.natAbs).length:=by omega
    unfold ZsY Zra;dsimp only;rw[ZoW];refine⟨fun _=> ?_,fun h=>by have:=of_decide_eq_false h;omega⟩;rw[ZrY,Zvd hi2,Zol,Zok,Zvd hi,Zol,Zok,ZoW];refine⟨fun h=> ?_,fun h=> ?_⟩
    ·rw[Zok];refine .inl ⟨rfl,fun e=> ?_⟩;have h1:(wd y.natAbs)[i]=(wd x.natAbs)[i]:=by simp only[e]
     rw[h1,bne_self_eq_false]at h;exact absurd h (by decide)
    ·rw[Zom];refine⟨Zoo (by omega),ih () ?_⟩;rw[bne_eq_false_iff_eq]at h;have h1:(wd y.natAbs)[i]=(wd x.natAbs)[i]:=by omega
     rw[List.take_succ_eq_append_getElem hi2,List.take_succ_eq_append_getElem hi,hP,h1]
   ·rintro rec ⟨⟩ hP;unfold ZsY Zra;dsimp only;rw[ZoW];refine⟨fun h=>by have:=of_decide_eq_true h;omega,fun _=> ?_⟩;rw[Zok];rw[ZIO,←hl,ZIO]at hP;exact .inr ⟨rfl,hP⟩
   ·rintro r (⟨rfl,h⟩ |⟨rfl,h⟩)
    ·exact Zok.2 (decide_eq_false (fun e=>h (by rw[e]))).symm
    ·unfold ZtC;have h1:=ZFh h;refine Zok.2 (decide_eq_true ?_).symm
     by_cases hy0:y < 0
     ·have hx0:x < 0:=by rw[decide_eq_true hy0]at hs;exact of_decide_eq_true hs
      omega
     ·have hx0:¬x < 0:=by rw[decide_eq_false hy0]at hs;exact of_decide_eq_false hs
      omega
  ·have:(((wd x.natAbs).length:Int) != ((wd y.natAbs).length:Int))=true:=by rw[bne_iff_ne];omega
   rw[this,cond_true,Zok];exact(decide_eq_false (fun e=>hl (by rw[e]))).symm
 ·rw[beq_eq_false_iff_ne.2 hs,ZFw,cond_true,cond_true,Zok];exact(decide_eq_false (fun e=>hs (by rw[e]))).symm
theorem ZBd (p q:Rat) (hp:Wq 256 p) (hq:Wq 256 q):Zpk (fOf p) (fOf q)=some (decide (p=q)):=by
 have m:∀{x:Int},Wl 256 x→Wl 100000 x:=fun h=>ZIT h (by decide)
 unfold Zpk ZsK fOf;dsimp only;rw[ZAR _ _ (m hp.1) (m hq.1),ZIY]
 by_cases h1:p.num=q.num
 ·rw[decide_eq_true h1,cond_true,ZAR _ _ (m hp.2) (m hq.2),ZIY];congr 1
  by_cases h2:p.den=q.den
  ·rw[decide_eq_true (by omega),decide_eq_true (Rat.ext h1 h2)]
  ·rw[decide_eq_false (by omega),decide_eq_false (fun e=>h2 (by rw[e]))]
 ·rw[decide_eq_false h1,cond_false,decide_eq_false (fun e=>h1 (by rw[e]))]
end Go.Proofs
namespace Go.Proofs
open Go Eng
theorem ZEe (a b:Nat) (ha:(wd a).length≤100000) (hb:(wd b).length≤100000):Zun (iL (wd a)) (iL (wd b))=some (iL (wd (a*b))):=by
 refine ZuQ ?_;unfold Zun;rw[ZoM,ZoM,Zom,Zom,Zol,←ZIF,ZIG,ZAV];refine⟨Zoo (by omega),Zzv (by omega), ?_⟩;generalize hm:(wd a).length=m at ha⊢
 generalize hn:(wd b).length=n at hb⊢
 refine Zow (Zve ZxZ m (by omega) (fun i (s:List Nat)=>(iL (wd a),iL (wd b),i,iL s)) (fun i s=>s.length=m+n∧Dg s∧val s=val ((wd a).take i)*b∧∀k,i+n≤k→k < m+n→s[k]? =some 0)
  (Q:=fun y=>∃(o:List Nat),y=iL o∧Dg o∧o.length=m+n∧val o=a*b) (List.replicate (m+n) 0) ⟨by simp,ZDH _,by rw[ZCh];simp[val],fun k _ h=>by rw[List.getElem?_replicate,if_pos h]⟩ ?_ ?_) ?_
 ·rintro rec i s hlt ⟨hl,hd,hv,hz⟩ ih;have hi:i < (wd a).length:=by omega
  have h1:=(Zv6 a).get hi;unfold Zt8 Zsi;dsimp only;rw[ZoW,ZoM,hm];refine⟨fun _=> ?_,fun h=>by simp only[decide_eq_false_iff_not]at h;omega⟩;rw[Zol];generalize ex:(wd a)[i]=x at h1;refine Zow (Zve ZxY n (by omega) (fun j (t:Nat×List Nat)=>(iL (wd a),iL (wd b),(i:Int),(t.1:Int),j,iL t.2)) (fun j t=>t.1 < Bw∧t.2.length=m+n∧Dg t.2∧val t.2+Bw ^ (i+j)*t.1=val s+Bw ^ i*(x*val ((wd b).take j))∧∀k,i+n≤k→k < m+n→t.2[k]? =some 0)
   (Q:=fun y=>∃(c:Nat) (o:List Nat),y=(iL (wd a),iL (wd b),(i:Int),(c:Int),iL o)∧c < Bw∧o.length=m+n∧Dg o∧val o+Bw ^ (i+n)*c=val s+Bw ^ i*(x*b)∧∀k,i+n≤k→k < m+n→o[k]? =some 0) (0,s) ⟨by simp only[Bw];omega,hl,hd,by simp[val],hz⟩ ?_ ?_) ?_
  ·rintro rec2 j ⟨c,o⟩ hj ⟨hc,hol,hod,hov,hoz⟩ ih2;dsimp only at hc hol hod hov hoz ih2;have hj2:j < (wd b).length:=by omega
   have h2:=(Zv6 b).get hj2;have hij:i+j < o.length:=by omega
   have h3:=hod.get hij;unfold Zt7 Zsh;dsimp only;rw[ZoW,ZoM,hn];refine⟨fun _=> ?_,fun h=>by simp only[decide_eq_false_iff_not]at h;omega⟩;rw[Zvd hi,ex,Zol,Zok,Zvd hj2,Zol,Zok,Zom,Zom,←ZIF,ZIG,ZzB hij,Zol,Zok,Zom,Zom,Zom,Zom];generalize ey:(wd b)[j]=y at h2;generalize ee:o[i+j]=e at h3;rw[ZFF hc h1 h2 h3,Zwx,show (32:Int)=((32:Nat):Int)from rfl,ZzF 32 (by omega),ZoM,ZyI];refine⟨Zoo (by omega),ZpA ⟨by omega,by omega⟩,Zoo (by omega),ZpA ⟨by omega,by omega⟩,by decide,Zoo (by omega), ?_⟩;refine ih2 ((c+x*y+e) / Bw,o.set (i+j) ((c+x*y+e) % Bw)) ⟨ZDD hc h1 h2 h3,by simp[hol],hod.set _ (Nat.mod_lt _ (by decide)), ?_,fun k hk hk2=> ?_⟩
   ·dsimp only;have q1:=ZyP o (i+j) ((c+x*y+e) % Bw) hij;rw[ee]at q1;have q2:Bw ^ (i+j)*((c+x*y+e) % Bw+Bw*((c+x*y+e) / Bw))=Bw ^ (i+j)*(c+x*y+e):=by rw[Nat.mod_add_div]
    rw[ZIU,ZIU,ZIU]at q2;rw[←Nat.add_assoc,ZIW,ZIV,Zpb hj2,ey,ZIU,ZIU];have q3:Bw ^ i*(x*(Bw ^ j*y))=Bw ^ (i+j)*(x*y):=by rw[Nat.pow_add,ZIV,Nat.mul_left_comm x]
    omega
   ·dsimp only;rw[List.getElem?_set_ne (by omega)];exact hoz k hk hk2
  ·rintro rec2 ⟨c,o⟩ ⟨hc,hol,hod,hov,hoz⟩;dsimp only at hc hol hod hov hoz;unfold Zt7 Zsh;dsimp only;rw[ZoW,ZoM,hn];refine⟨fun h=>by have:=of_decide_eq_true h;omega,fun _=> ?_⟩;rw[Zok];rw[ZIP (by omega),Zti]at hov;exact⟨c,o,rfl,hc,hol,hod,hov,hoz⟩
  ·rintro y ⟨c,o,rfl,hc,hol,hod,hov,hoz⟩;dsimp only;unfold ZuT;rw[ZoM,hn,Zom,Zom,Zom,←ZIF,ZIG,ZwU hc,ZyI,ZoM];refine⟨Zoo (by omega),ZpA ⟨by omega,by omega⟩,Zoo (by omega), ?_⟩;have hp:i+n < o.length:=by omega
   have h0:o[i+n]=0:=by have:=hoz (i+n) (ZIS _) (by omega);rw[ZII hp]at this;exact ZIZ this
   have q1:=ZyP o (i+n) c hp;rw[h0,Nat.mul_zero,Nat.add_zero]at q1;refine ih (o.set (i+n) c) ⟨by simp[hol],hod.set _ hc, ?_,fun k hk hk2=> ?_⟩
   ·rw[q1,hov,hv,Zpb hi,ex,Nat.add_mul,ZIV]
   ·rw[List.getElem?_set_ne (by omega)];exact hoz k (by omega) hk2
 ·rintro rec s ⟨hl,hd,hv,hz⟩;unfold Zt8 Zsi;dsimp only;rw[ZoW,ZoM,hm];refine⟨fun h=>by have:=of_decide_eq_true h;omega,fun _=> ?_⟩;rw[Zok];rw[ZIP (by omega),Zti]at hv;exact⟨s,rfl,hd,hl,hv⟩
 ·rintro y ⟨o,rfl,hd,hl,hv⟩;unfold ZuS;rw[ZzK hd (by omega),Zol,Zok,Zok,hv]
theorem ZEw (a b:Nat) (ha:(wd a).length≤100000) (hb:(wd b).length≤100000):∃o:List Nat,ZsR (iL (wd a)) (iL (wd b))=some (iL o)∧Dg o∧o.length≤100001∧val o=a+b:=by
 obtain⟨m,hma,hmb,hm2,hmx⟩:∃m:Nat,(wd a).length≤m∧(wd b).length≤m∧m≤100000∧∀i,i < m→i < (wd a).length∨i < (wd b).length:=by
  by_cases h:(wd a).length≤(wd b).length
  ·exact⟨(wd b).length,h,ZIS _,hb,fun i hi=> .inr hi⟩
  ·exact⟨(wd a).length,ZIS _,by omega,ha,fun i hi=> .inl hi⟩
 suffices h:wp (ZsR (iL (wd a)) (iL (wd b))) (fun x=>∃o:List Nat,x=iL o∧Dg o∧o.length≤100001∧val o=a+b) by obtain⟨x,hx,o,rfl,h⟩:=h;exact⟨o,hx,h⟩
 unfold ZsR;rw[Zol];refine Zow (Zve Zx1 m (by omega) (fun i (s:Nat×List Nat)=>(iL (wd a),iL (wd b),(s.1:Int),i,iL s.2)) (fun i s=>s.1≤1∧s.2.length=i∧Dg s.2∧val s.2+Bw ^ i*s.1=val ((wd a).take i)+val ((wd b).take i))
  (Q:=fun y=>∃(c:Nat) (o:List Nat),y=((c:Int),iL o)∧c≤1∧Dg o∧o.length=m∧val o+Bw ^ m*c=a+b) (0,[]) ⟨by simp,rfl,Zzq,by simp[val]⟩ ?_ ?_) ?_
 ·rintro rec i ⟨c,o⟩ hlt ⟨hc,hl,hd,hv⟩ ih;dsimp only at hc hl hd hv ih;have h1:=ZzH (Zv6 a) i;have h2:=ZzH (Zv6 b) i;have j3:∀x y:Nat,(wd a).getD i 0=x→(wd b).getD i 0=y→wp (ZrE (fun a b c i out=>rec (a,b,c,i,out)) (iL (wd a)) (iL (wd b)) ((c+x+y:Nat):Int) (i:Int) (iL o)) (fun y=>∃(c:Nat) (o:List Nat),y=((c:Int),iL o)∧c≤1∧Dg o∧o.length=m∧val o+Bw ^ m*c=a+b):=fun x y ex ey=>by
   rw[ex]at h1;rw[ey]at h2;unfold ZrE;rw[Zom,Zom,Zom,Zwx,show (32:Int)=((32:Nat):Int)from rfl,ZzF 32 (by omega),ZoM];refine⟨Zxb (by simp only[ZIN];omega),by decide,Zoo (by omega), ?_⟩;have:=ih ((c+x+y) / Bw,o++[(c+x+y) % Bw]) ⟨by simp only[Bw]at h1 h2⊢;omega,by simp[hl],hd.app (ZyJ (Nat.mod_lt _ (by decide))), ?_⟩
   ·rw[ZAz]at this;exact this
   ·dsimp only;rw[Zv0,hl,ZIW,Zwy,Zwy,ex,ey,Nat.add_assoc,ZIV,←ZIU,Nat.mod_add_div,ZIU,ZIU];omega
  have j2:∀x:Nat,(wd a).getD i 0=x→wp (ZrF (fun a b c i out=>rec (a,b,c,i,out)) (iL (wd a)) (iL (wd b)) ((c+x:Nat):Int) (i:Int) (iL o)) (fun y=>∃(c:Nat) (o:List Nat),y=((c:Int),iL o)∧c≤1∧Dg o∧o.length=m∧val o+Bw ^ m*c=a+b):=fun x ex=>by
   have hx:=h1;rw[ex]at hx;unfold ZrF;rw[ZoM,ZoW];refine⟨fun h=> ?_,fun h=> ?_⟩
   ·have hib:i < (wd b).length:=by have:=of_decide_eq_true h;omega
    have ey:(wd b).getD i 0=(wd b)[i]:=by rw[ZIH,ZII hib];rfl
    have hy:=(Zv6 b).get hib;rw[Zvd hib,Zol,Zok,Zph (by simp only[Bw]at hy;omega),←ZIF,Zph (by simp only[Bw]at hx hy;omega)];exact j3 x _ ex ey
   ·have hib:¬i < (wd b).length:=by have:=of_decide_eq_false h;omega
    exact j3 x 0 ex (by rw[ZIH,ZIJ (by omega)];rfl)
  have j1:wp (ZqI (fun a b c i out=>rec (a,b,c,i,out)) (iL (wd a)) (iL (wd b)) (c:Int) (i:Int) true (iL o)) (fun y=>∃(c:Nat) (o:List Nat),y=((c:Int),iL o)∧c≤1∧Dg o∧o.length=m∧val o+Bw ^ m*c=a+b):=by
   unfold ZqI;rw[cond_true,ZoM,ZoW];refine⟨fun h=> ?_,fun h=> ?_⟩
   ·have hib:i < (wd a).length:=by have:=of_decide_eq_true h;omega
    have ey:(wd a).getD i 0=(wd a)[i]:=by rw[ZIH,ZII hib];rfl
    have hy:=(Zv6 a).get hib;rw[Zvd hib,Zol,Zok,Zph (by simp only[Bw]at hy;omega),←ZIF,Zph (by simp only[Bw]at hy;omega)];exact j2 _ ey
   ·have hib:¬i < (wd a).length:=by have:=of_decide_eq_false h;omega
    exact j2 0 (by rw[ZIH,ZIJ (by omega)];rfl)
  unfold Zuc Zsk;dsimp only;rw[ZoM,ZoM,ZoW];refine⟨fun _=>j1,fun h=> ?_⟩;have hib:¬i < (wd a).length:=by have:=of_decide_eq_false h;omega
  rw[decide_eq_true (by rcases hmx i hlt with h |h<;>omega)];exact j1
 ·rintro rec ⟨c,o⟩ ⟨hc,hl,hd,hv⟩;dsimp only at hc hl hd hv;unfold Zuc Zsk;dsimp only;rw[ZoM,ZoM,decide_eq_false (by omega),cond_false,decide_eq_false (by omega)];unfold ZqI;rw[cond_false,Zok];rw[ZIP hma,ZIP hmb,Zti,Zti]at hv;exact⟨c,o,rfl,hc,hd,hl,hv⟩
 ·rintro y ⟨c,o,rfl,hc,hd,hl,hv⟩;dsimp only;unfold Zu1;have e:iL o++[(c:Int)]=iL (o++[c]):=by rw[ZAz];rfl
  rw[ZwU (by omega),Zom,ZoM,e,Zok];exact⟨Zxb (by simp only[ZIN];omega),_,rfl,hd.app (ZyJ (by unfold Bw;omega)),by simp;omega,by rw[Zv0,hl,hv]⟩
end Go.Proofs
namespace Go.Proofs
open Go Eng
theorem ZBc (x y:Int) (hx:Wl 50000 x) (hy:Wl 50000 y):Zqb (bg x) (bg y)=some (bg (x*y)):=by unfold Zqb;have:=ZBF hx hy;rw[ZrY,ZrY,ZEe _ _ (by omega) (by omega),ZIY,ZAF _ (Zv6 _) (by omega),Zti,ZIY,ZCF]
theorem ZC2 (x y:Int) (hx:Wl 50000 x) (hy:Wl 50000 y):ZtQ (bg x) (bg y)=some (bg (x+y)):=by
 unfold Wl at hx hy;unfold ZtQ;have h1:=ZDw hx hy;rw[ZrY,ZrY,ZxO,ZxO];have opp:decide (x < 0)≠decide (y < 0)→Zpx (iL (wd x.natAbs)) (iL (wd y.natAbs))=some (ZAT x.natAbs y.natAbs):=fun _=>ZA4 _ _ (by omega) (by omega)
 by_cases hs:decide (x < 0)=decide (y < 0)
 ·obtain⟨o,ho,hd,hl,hv⟩:=ZEw x.natAbs y.natAbs (by omega) (by omega);rw[hs,beq_self_eq_true,cond_true,ho,ZIY,ZAF _ hd (by omega),hv,ZIY];congr 2
  by_cases hy0:y < 0
  ·have hx0:x < 0:=by rw[decide_eq_true hy0]at hs;exact of_decide_eq_true hs
   rw[decide_eq_true hy0,if_pos rfl];omega
  ·have hx0:¬x < 0:=by rw[decide_eq_false hy0]at hs;exact of_decide_eq_false hs
   rw[decide_eq_false hy0,if_neg (by decide)];omega
 ·rw[beq_eq_false_iff_ne.2 hs,cond_false,opp hs,ZIY];rcases Nat.lt_or_ge x.natAbs y.natAbs with hlt |hge
  ·have:=ZvD (Nat.sub_le y.natAbs x.natAbs);rw[ZxR hlt,decide_eq_false (by omega),cond_false,ZAY _ _ (by omega) (by omega),ZIY,ZAF _ (Zv6 _) (by omega),Zti,ZIY];congr 2
   by_cases hy0:y < 0
   ·have hx0:¬x < 0:=fun h=>hs (by rw[decide_eq_true hy0,decide_eq_true h])
    rw[decide_eq_true hy0,if_pos rfl];omega
   ·have hx0:x < 0:=Decidable.byContradiction fun h=>hs (by rw[decide_eq_false hy0,decide_eq_false h])
    rw[decide_eq_false hy0,if_neg (by decide)];omega
  ·have hn:ZAT x.natAbs y.natAbs≥0:=by
    rcases Nat.lt_or_ge y.natAbs x.natAbs with h |h
    ·rw[Zxx h];decide
    ·rw[show x.natAbs=y.natAbs by omega,Zw6];decide
   have:=ZvD (Nat.sub_le x.natAbs y.natAbs);rw[decide_eq_true hn,cond_true,ZAY _ _ hge (by omega),ZIY,ZAF _ (Zv6 _) (by omega),Zti,ZIY];congr 2
   by_cases hx0:x < 0
   ·have hy0:¬y < 0:=fun h=>hs (by rw[decide_eq_true hx0,decide_eq_true h])
    rw[decide_eq_true hx0,if_pos rfl];omega
   ·have hy0:y < 0:=Decidable.byContradiction fun h=>hs (by rw[decide_eq_false hx0,decide_eq_false h])
    rw[decide_eq_false hx0,if_neg (by decide)];omega
theorem ZCv (z:Int) (hz:Wl 100000 z):Ztp (bg z)=some (bg (-z)):=by
 unfold Wl at hz;unfold Ztp;rw[ZxO,ZrY,ZAF _ (Zv6 _) (by omega),Zti,ZIY];congr 2
 by_cases h:z < 0
 ·rw[decide_eq_true h,if_neg (by decide)];omega
 ·rw[decide_eq_false h,if_pos (by decide)];omega
theorem ZBa (q:Rat) (h:Wq 256 q):Zr7 (fOf q)=some true:=by
 have hn:=h.1;have hd:=h.2;have hd0:=q.den_nz;unfold Zr7 Zp9 fOf;dsimp only;rw[Zzz,ZzE _ h.1,ZIY,ZIE,cond_false,Zzz,ZzE _ h.2,ZIY,ZIE,cond_false,ZxO,decide_eq_false (by omega),cond_false,ZCD (by omega),cond_false,ZrY,ZrY,ZoM];unfold Wl at hn hd;have h1:(wd 1).length≤1:=Zx7 (by decide);have hc:ZIR q.num.natAbs (q.den:Int).natAbs=1:=q.reduced
 by_cases h0:q.num=0
 ·rw[h0]at hc;have e:(q.den:Int).natAbs=1:=by rwa [show (0:Int).natAbs=0 from rfl,Nat.gcd_zero_left]at hc
  rw[h0,show (0:Int).natAbs=0 from rfl,ZvC,e,←ZAs,ZA4 1 1 (by omega) (by omega),Zw6];rfl
 ·have hl:=Zto (n:=q.num.natAbs) (by omega);rw[beq_eq_false_iff_ne.2 (by omega),cond_false,ZEn _ _ (by omega) (by omega) (by omega) (by omega),hc,ZIY,←ZAs,ZA4 1 1 (by omega) (by omega),Zw6];rfl
theorem ZEq {a b:Rat} (qa:Wq 256 a) (qb:Wq 256 b):Zuo (fOf a) (fOf b)=some (ZA1 a b):=by
 have w:∀{x y:Int},Wl 256 x→Wl 256 y→Wl 50000 (x*y):=fun hx hy=>by unfold Wl;rw[Int.natAbs_mul];exact ZIT (ZBF hx hy) (by decide)
 have m:∀{x:Int},Wl 256 x→Wl 50000 x:=fun h=>ZIT h (by decide)
 unfold Zuo Ztc;rw[ZBa a qa,ZIY,ZIE,cond_false,ZBa b qb,ZIY,ZIE,cond_false];show ((Zqb (bg a.num) (bg (b.den:Int))).bind fun q=>(Zqb (bg b.num) (bg (a.den:Int))).bind _)=_;rw[ZBc _ _ (m qa.1) (m qb.2),ZIY,ZBc _ _ (m qb.1) (m qa.2),ZIY,ZCv _ (ZIT (w qb.1 qa.2) (by decide)),ZIY];have w2:Wl 50000 (-(b.num*(a.den:Int))):=by unfold Wl;rw[Int.natAbs_neg];exact w qb.1 qa.2
 rw[ZC2 _ _ (w qa.1 qb.2) w2,ZIY,ZxO,ZrY,ZoM];unfold ZA1;have h1:=ZAm a b;have h2:=ZAm b a;generalize a.num*(b.den:Int)=x at*
 generalize b.num*(a.den:Int)=y at*
 by_cases hl:a < b
 ·have hlt:=h1.1 hl;have:=Zto (n:=(x+ -y).natAbs) (by omega);rw[if_pos hl,beq_eq_false_iff_ne.2 (by omega),cond_false,decide_eq_true (by omega),cond_true]
 ·have hn:¬x < y:=fun h=>hl (h1.2 h)
  rw[if_neg hl]
  by_cases hg:b < a
  ·have hlt:=h2.1 hg;have:=Zto (n:=(x+ -y).natAbs) (by omega);rw[if_pos hg,beq_eq_false_iff_ne.2 (by omega),cond_false,decide_eq_false (by omega),cond_false]
  ·have hn2:¬y < x:=fun h=>hg (h2.2 h)
   rw[if_neg hg,show x+ -y=0 by omega,show (0:Int).natAbs=0 from rfl,ZvC];rfl
theorem ZBh {a b:Rat} (qa:Wq 256 a) (qb:Wq 256 b):Zrb (fOf a) (fOf b)=some (decide (a < b)):=by
 unfold Zrb;rw[ZEq qa qb,ZIY];unfold ZA1
 by_cases h:a < b
 ·rw[if_pos h,decide_eq_true h];rfl
 ·rw[if_neg h,decide_eq_false h];split<;>rfl
end Go.Proofs
namespace Go.Proofs
open Go Eng
theorem Sz.sub {a b:Rat} {k l:Nat} (ha:Sz k a) (hb:Sz l b):Sz (k+l+1) (a - b):=by rw[Rat.sub_eq_add_neg];exact ha.add hb.neg
end Go.Proofs
namespace Go.Proofs
open Go Eng
section
variable {α:Type} (lt:α→α→Bool)
def ZDF (x:α):List α→List α
 | []=>[x]
 |p::r=>if lt x p then p::ZDF x r else x::p::r
def ZBr (x:α) (A:List α):List α:=(ZDF lt x A.reverse).reverse
def ZyX (l:List α):List α:=l.foldl (fun s x=>ZBr lt x s) []
variable {lt}
theorem ZDc (x:α):ZBr lt x []=[x]:=rfl
theorem ZCz (x p:α) (A:List α):ZBr lt x (A++[p])=if lt x p then ZBr lt x A++[p]else A++[p,x]:=by unfold ZBr;rw[List.reverse_append,List.reverse_singleton,List.singleton_append,ZDF];split;rotate_left;simp;rw[List.reverse_cons]
theorem ZAy (x:α):∀l:List α,(ZDF lt x l).Perm (x::l)
 | []=> .refl _
 |p::r=>by
  unfold ZDF;split
  ·exact((ZAy x r).cons p).trans (.swap _ _ _)
  ·exact .refl _
theorem ZBk (x:α) (A:List α):(ZBr lt x A).Perm (A++[x]):=by unfold ZBr;refine(List.reverse_perm _).trans ((ZAy x _).trans ?_);refine(List.Perm.cons x (List.reverse_perm A)).trans ?_;exact(List.perm_append_singleton x A).symm
theorem ZB8 (l:List α) (x:α):ZyX lt (l++[x])=ZBr lt x (ZyX lt l):=by simp[ZyX]
theorem Zz2 (l:List α):(ZyX lt l).Perm l:=by
 have key:∀(l s:List α),(l.foldl (fun s x=>ZBr lt x s) s).Perm (s++l):=by
  intro l
  induction l with
  |nil=>intro s;simp
  |cons x l ih=>
   intro s;refine(ih _).trans ?_;refine((ZBk x s).append_right l).trans ?_;simp
 simpa[ZyX]using key l []
theorem ZAw (l:List α):(ZyX lt l).length=l.length:=(Zz2 l).length_eq
theorem ZAx (P:α→Prop) (le:α→α→Prop) (hlt:∀x p,P x→P p→lt x p=true→le x p) (hnlt:∀x p,P x→P p→lt x p=false→le p x) (htr:∀a b c,P a→P b→P c→le a b→le b c→le a c)
  (x:α) (hx:P x):∀l:List α,(∀y∈l,P y)→l.Pairwise (fun a b=>le b a)→(ZDF lt x l).Pairwise (fun a b=>le b a)
 | [],_,_=>by simp[ZDF]
 |p::r,hP,h=>by
  have hp:=hP p (by simp);have hr:=List.pairwise_cons.1 h;unfold ZDF;cases hc:lt x p with
  |true=>
   rw[if_pos rfl,List.pairwise_cons];refine⟨fun y hy=> ?_,ZAx P le hlt hnlt htr x hx r (fun y hy=>hP y (by simp[hy])) hr.2⟩;rcases List.mem_cons.1 ((ZAy x r).mem_iff.1 hy)with rfl |hy
   ·exact hlt _ _ hx hp hc
   ·exact hr.1 y hy
  |false=>
   rw[if_neg (by simp),List.pairwise_cons];refine⟨fun y hy=> ?_,h⟩;have hxp:=hnlt x p hx hp hc;rcases List.mem_cons.1 hy with rfl |hy
   ·exact hxp
   ·exact htr _ _ _ (hP y (by simp[hy])) hp hx (hr.1 y hy) hxp
theorem ZBj (P:α→Prop) (le:α→α→Prop) (hlt:∀x p,P x→P p→lt x p=true→le x p) (hnlt:∀x p,P x→P p→lt x p=false→le p x) (htr:∀a b c,P a→P b→P c→le a b→le b c→le a c)
  (l:List α) (hl:∀y∈l,P y):(ZyX lt l).Pairwise le:=by
 have key:∀(l s:List α),(∀y∈l,P y)→(∀y∈s,P y)→s.Pairwise le→(l.foldl (fun s x=>ZBr lt x s) s).Pairwise le:=by
  intro l
  induction l with
  |nil=>intro s _ _ h;exact h
  |cons x l ih=>
   intro s hl hs h;refine ih _ (fun y hy=>hl y (by simp[hy])) (fun y hy=> ?_) ?_
   ·rcases List.mem_append.1 ((ZBk x s).mem_iff.1 hy)with hy |hy
    ·exact hs y hy
    ·simp only[List.mem_singleton]at hy;subst hy;exact hl _ (by simp)
   ·unfold ZBr;rw[List.pairwise_reverse];exact ZAx P le hlt hnlt htr x (hl x (by simp)) s.reverse (fun y hy=>hs y (List.mem_reverse.1 hy)) (by rw[List.pairwise_reverse];exact h)
 exact key l [] hl (by simp) (by simp)
end
theorem ZCq {α:Type} (A C:List α) (p x:α):((A++p::x::C).set (A.length+1) p).set A.length x=A++x::p::C:=by
 induction A with
 |nil=>rfl
 |cons a A ih=>simp only[List.cons_append,List.length_cons,List.set_cons_succ,ih]
end Go.Proofs
namespace Go.Proofs
open Go Eng
theorem ZEi {a b:List Nat} (h:iL a=iL b):a=b:=by unfold iL at h;exact List.map_inj_right (fun x y h=>by omega) |>.1 h
theorem ZDI {x y:Int} (h:bg x=bg y):x=y:=by
 have h1:(bg x).Neg=(bg y).Neg:=by rw[h]
 have h2:(bg x).Words=(bg y).Words:=by rw[h]
 rw[ZxO,ZxO,decide_eq_decide]at h1;rw[ZrY,ZrY]at h2;have h3:=ZEi h2;have h4:x.natAbs=y.natAbs:=by rw[←Zti x.natAbs,←Zti y.natAbs,h3]
 omega
theorem ZDg {p q:Rat} (h:fOf p=fOf q):p=q:=by
 unfold fOf at h;injection h with h1 h2
 have h3:=ZDI h1;have h4:=ZDI h2;exact Rat.ext h3 (by omega)
def ZE6 (x y:Int):Int:=if x < y then -1 else if x > y then 1 else 0
theorem ZzU (x y:Int):Zrj x y=some (ZE6 x y):=by
 unfold Zrj Zwt ZE6;rw[ZIY,ZIY,bne_self_eq_false,bne_self_eq_false,cond_false,cond_false]
 by_cases h1:x < y
 ·rw[decide_eq_true h1,if_pos h1];rfl
 ·rw[decide_eq_false h1,if_neg h1,cond_false]
  by_cases h2:x > y
  ·rw[decide_eq_true h2,if_pos h2];rfl
  ·rw[decide_eq_false h2,if_neg h2];rfl
theorem ZDB (a b:Int):Zwv [a,b]=some (if a≠0 then a else b):=by
 obtain⟨n,hn⟩:=ZA5 3 (by omega);have e0:idx [a,b] 0=some a:=rfl;have e1:idx [a,b] 1=some b:=rfl;have l:((([a,b]:List Int).length:Nat):Int)=2:=rfl;have s1:∀rec,Zs5 rec 0 [a,b] 2 0=if a≠0 then some (.ret a)else rec 0 [a,b] 2 1:=by
  intro rec;unfold Zs5;rw[e0,show decide ((0:Int) < 2)=true from rfl,cond_true,ZIY]
  by_cases h:a=0
  ·rw[if_neg (by simp[h]),show (a != 0)=false by simp[h],cond_false];rfl
  ·rw[if_pos h,show (a != 0)=true by simpa using h,cond_true]
 have s2:∀rec,Zs5 rec 0 [a,b] 2 1=if b≠0 then some (.ret b)else rec 0 [a,b] 2 2:=by
  intro rec;unfold Zs5;rw[e1,show decide ((1:Int) < 2)=true from rfl,cond_true,ZIY]
  by_cases h:b=0
  ·rw[if_neg (by simp[h]),show (b != 0)=false by simp[h],cond_false];rfl
  ·rw[if_pos h,show (b != 0)=true by simpa using h,cond_true]
 have s3:∀rec,Zs5 rec 0 [a,b] 2 2=some (.brk 0):=fun rec=>rfl
 have u:∀m t i,Zwu (m+1) 0 [a,b] t i=Zs5 (Zwu m) 0 [a,b] t i:=fun _ _ _=>rfl
 unfold Zwv Zyh;rw[hn,l,u (n+2),s1]
 by_cases h:a=0
 ·rw[if_neg (by simp[h]),if_neg (by simp[h]),u (n+1),s2]
  by_cases h2:b=0
  ·rw[if_neg (by simp[h2]),u n,s3,h2];rfl
  ·rw[if_pos h2];rfl
 ·rw[if_pos h,if_pos h];rfl
noncomputable def qOf (f:Zor):Rat:= @dite _ (∃q,f=fOf q) (Classical.propDecidable _) (fun h=>h.choose) (fun _=>0)
theorem Zzg (q:Rat):qOf (fOf q)=q:=by have h:∃p,fOf q=fOf p:=⟨q,rfl⟩;unfold qOf;rw[dif_pos h];exact(ZDg h.choose_spec).symm
def ZAK (a b:Zov):Int:=if a.Table < b.Table then -1 else if b.Table < a.Table then 1 else if a.Column < b.Column then -1 else if b.Column < a.Column then 1 else 0
theorem ZCx (a b:Zov):ZxF a b=some (decide (ZAK a b < 0)):=by
 unfold ZxF;rw[ZzU,ZIY,ZzU,ZIY,ZDB,ZIY];have h:((if ZE6 a.Table b.Table≠0 then ZE6 a.Table b.Table else ZE6 a.Column b.Column) < 0)↔ZAK a b < 0:=by
  unfold ZAK ZE6
  repeat' split
  all_goals omega
 rw[decide_eq_decide.2 h]
theorem ZBM (a b:Zov):ZAK b a= - ZAK a b:=by
 unfold ZAK
 repeat' split
 all_goals omega
theorem ZD4 (a b:Zov):Zxd a b=some (ZAK a b):=by
 have hn:=ZBM a b;have hr:ZAK a b= -1∨ZAK a b=0∨ZAK a b=1:=by
  unfold ZAK
  repeat' split
  all_goals omega
 unfold Zxd;rw[ZCx,ZIY]
 by_cases h:ZAK a b < 0
 ·rw[decide_eq_true h,cond_true];congr 1;omega
 ·rw[decide_eq_false h,cond_false,ZCx,ZIY]
  by_cases h2:ZAK b a < 0
  ·rw[decide_eq_true h2,cond_true];congr 1;omega
  ·rw[decide_eq_false h2,cond_false];congr 1;omega
theorem ZFq {a b:Zov} (h:ZAK a b=0):a=b:=by
 obtain⟨t,c⟩:=a;obtain⟨t',c'⟩:=b;unfold ZAK at h;dsimp only at h;have:t=t'∧c=c':=by
  repeat' split at h
  all_goals omega
 rw[this.1,this.2]
theorem ZBZ {a b c:Zov} (h1:ZAK a b < 0) (h2:ZAK b c < 0):ZAK a c < 0:=by
 unfold ZAK at*
 repeat' split at h1
 all_goals first |omega |skip
 all_goals (repeat' split at h2)
 all_goals first |omega |skip
 all_goals (repeat' split)
 all_goals omega
abbrev En1:=ZoL
noncomputable def Zxe (a b:En1):Int:=if ZA1 (qOf b.Score) (qOf a.Score)≠0 then ZA1 (qOf b.Score) (qOf a.Score)else ZAK a.Ref b.Ref
noncomputable def ltE (a b:En1):Bool:=decide (Zxe a b < 0)
class Gdm (x:En1):Prop where
 ok:∃q,x.Score=fOf q∧Sz 400 q
class Gds (d:List En1):Prop where
 all:∀e∈d,Gdm e
instance {d:List En1} [Gds d] {i:Nat} {h:i < d.length}:Gdm (d[i]'h):=Gds.all _ (List.getElem_mem h)
theorem Gds.at {d:List En1} [Gds d] {i:Nat} {p:En1} (h:d[i]? =some p):Gdm p:=Gds.all _ (List.mem_of_getElem? h)
theorem Gds.perm {D d:List En1} [Gds D] (h:d.Perm D):Gds d:=⟨fun e he=>Gds.all _ (h.mem_iff.1 he)⟩
theorem Zv5 (a b:En1) [ha:Gdm a] [hb:Gdm b]:Zo9 a b=some (Zxe a b):=by obtain⟨p,ep,hp⟩:=ha.ok;obtain⟨q,eq,hq⟩:=hb.ok;unfold Zxe Zo9 Zw3;rw[ep,eq,ZGb (hq.wq (by omega)) (hp.wq (by omega)),ZIY,ZIY,ZD4,ZIY,ZDB,ZIY,Zzg,Zzg]
theorem ZA0 (a b:Rat):ZA1 b a= - ZA1 a b:=by unfold ZA1;split<;>split<;>grind
theorem Zzu (a b:En1):Zxe b a= - Zxe a b:=by have h:=ZA0 (qOf a.Score) (qOf b.Score);have h2:=ZBM a.Ref b.Ref;unfold Zxe;split<;>split<;>omega
theorem ZBu (a b:Rat):ZA1 a b < 0↔a < b:=by
 unfold ZA1;split
 ·rename_i h;exact⟨fun _=>h,fun _=>by decide⟩
 ·split
  ·rename_i h1 h2;exact⟨fun h=>by omega,fun h=>absurd h h1⟩
  ·rename_i h1 h2;exact⟨fun h=>by omega,fun h=>absurd h h1⟩
theorem ZCr {a b:Rat} (h:ZA1 a b=0):a=b:=by
 unfold ZA1 at h;split at h
 ·omega
 ·split at h
  ·omega
  ·rename_i h1 h2;exact Rat.le_antisymm (Rat.not_lt.1 h2) (Rat.not_lt.1 h1)
theorem ZB5 {a b c:En1} (h1:Zxe a b < 0) (h2:Zxe b c < 0):Zxe a c < 0:=by
 unfold Zxe at*
 by_cases e1:ZA1 (qOf b.Score) (qOf a.Score)=0
 ·rw[if_neg (by simp[e1])]at h1;have e1':=ZCr e1
  by_cases e2:ZA1 (qOf c.Score) (qOf b.Score)=0
  ·rw[if_neg (by simp[e2])]at h2;rw[←e1',if_neg (by simp[e2])];exact ZBZ h1 h2
  ·rw[if_pos e2]at h2;rw[←e1',if_pos e2];exact h2
 ·rw[if_pos e1]at h1
  by_cases e2:ZA1 (qOf c.Score) (qOf b.Score)=0
  ·rw[ZCr e2,if_pos e1];exact h1
  ·rw[if_pos e2]at h2;rw[ZBu]at h1 h2;have h3:qOf c.Score < qOf a.Score:=by grind
   have h4:=(ZBu _ _).2 h3;rw[if_pos (by omega)];exact h4
theorem ZFz {a b:En1} (h:Zxe a b=0):qOf b.Score=qOf a.Score∧a.Ref=b.Ref:=by
 unfold Zxe at h
 by_cases e1:ZA1 (qOf b.Score) (qOf a.Score)=0
 ·rw[if_neg (by simp[e1])]at h;exact⟨ZCr e1,ZFq h⟩
 ·rw[if_pos e1]at h;exact absurd h e1
theorem ZDA {a b c:En1} (h:Zxe a b=0):Zxe a c=Zxe b c:=by obtain⟨h1,h2⟩:=ZFz h;unfold Zxe;rw[h1,h2]
end Go.Proofs
namespace Go.Proofs
open Go Eng
def sw (d:List En1) (i j:Nat) (hi:i < d.length) (hj:j < d.length):List En1:=(d.set i d[j]).set j d[i]
theorem ZCj {d:List En1} {i j:Nat} (hi:i < d.length) (hj:j < d.length):(sw d i j hi hj).Perm d:=List.set_set_perm hi hj
theorem ZzM {d:List En1} {i j:Nat} (hi:i < d.length) (hj:j < d.length):(sw d i j hi hj).length=d.length:=by unfold sw;rw[ZIM,ZIM]
theorem Zxr {d:List En1} {i j:Nat} (hi:i < d.length) (hj:j < d.length) (k:Nat) (hk:k < d.length):(sw d i j hi hj)[k]? =if k=j then some d[i]else if k=i then some d[j]else d[k]? :=by
 unfold sw;rw[List.getElem?_set,List.getElem?_set,ZIM]
 by_cases h1:j=k
 ·rw[if_pos h1,if_pos (by omega),if_pos h1.symm]
 ·rw[if_neg h1]
  by_cases h2:i=k
  ·rw[if_pos h2,if_pos (by omega),if_neg (show ¬k=j by omega),if_pos h2.symm]
  ·rw[if_neg h2,if_neg (show ¬k=j by omega),if_neg (show ¬k=i by omega)]
def Rg (a b:Nat) (D d:List En1):Prop:=d.Perm D∧∀k,k < a∨b≤k→d[k]? =D[k]?
theorem Rg.refl (a b:Nat) (D:List En1):Rg a b D D:=⟨.refl _,fun _ _=>rfl⟩
theorem Rg.trans {a b:Nat} {D d e:List En1} (h1:Rg a b D d) (h2:Rg a b d e):Rg a b D e:=⟨h2.1.trans h1.1,fun k hk=>(h2.2 k hk).trans (h1.2 k hk)⟩
theorem Rg.mono {a b a' b':Nat} {D d:List En1} (h:Rg a b D d) (ha:a'≤a) (hb:b≤b'):Rg a' b' D d:=⟨h.1,fun k hk=>h.2 k (by omega)⟩
theorem Rg.len {a b:Nat} {D d:List En1} (h:Rg a b D d):d.length=D.length:=h.1.length_eq
theorem ZzL {d:List En1} {i j a b:Nat} (hi:i < d.length) (hj:j < d.length) (ai:a≤i) (ib:i < b) (aj:a≤j) (jb:j < b):Rg a b d (sw d i j hi hj):=by
 refine⟨ZCj hi hj,fun k hk=> ?_⟩
 by_cases h:k < d.length
 ·rw[Zxr hi hj k h,if_neg (by omega),if_neg (by omega)]
 ·rw[ZIJ (by rw[ZzM];omega),ZIJ (by omega)]
instance {d:List En1} [Gds d] {i j:Nat} {hi:i < d.length} {hj:j < d.length}:Gds (sw d i j hi hj):=Gds.perm (ZCj hi hj)
theorem Rg.gds {a b:Nat} {D d:List En1} [Gds D] (h:Rg a b D d):Gds d:=Gds.perm h.1
theorem ZBY {D:List En1} [Gds D] {a b:Nat} (hn:D.length≤1000000) (hab:a≤b) (hb:b≤D.length):
  wp (ZpY D (a:Int) (b:Int)) (fun d=>Rg a b D d):=by
 have Ze:wp (Zqf D (a:Int) (b:Int)) (fun d=>Rg a b D d):=by
  unfold Zqf;rw[Zom,Zol];refine⟨Zoo (by omega),Zow (Zrk ZvS (fun s:Nat×Int×List En1=>((s.1:Int),s.2.1,s.2.2)) (fun s=>a≤s.1∧s.2.1 < (b:Int)∧ -1≤s.2.1∧Rg a b D s.2.2) (fun s=>(s.2.1+1 - s.1).toNat)
   (Q:=fun d=>Rg a b D d) (a,(b:Int) - 1,D) ⟨ZIS _,by dsimp only;omega,by dsimp only;omega,.refl _ _ _⟩ (by dsimp only;omega) ?_) ?_⟩
  ·rintro rec ⟨i,j,d⟩ ⟨h1,h2,h3,h4⟩ ih;dsimp only at h1 h2 h3 h4 ih;have hl:=h4.len;haveI:=h4.gds;unfold ZsU ZqL;dsimp only
   by_cases hc:(i:Int) < j
   ·obtain⟨j,rfl⟩:=Int.eq_ofNat_of_zero_le (show 0≤j by omega);have hi:i < d.length:=by omega
    have hj:j < d.length:=by omega
    rw[decide_eq_true hc,cond_true,Zom,ZIG,ZIG,ZII hj,Zol,Zok,Zom,ZII hi,Zol,Zok,Zom,Zom,Zom,Zom];refine⟨ZoU hj,ZoU hi,ZoU hi,ZpA ⟨by omega,by rw[ZIM];omega⟩,Zoo (by omega),Zoo (by omega), ?_⟩;have:=ih (i+1,(j:Int) - 1,sw d i j hi hj) ⟨by dsimp only;omega,by dsimp only;omega,by dsimp only;omega,h4.trans (ZzL hi hj (by omega) (by omega) (by omega) (by omega))⟩ (by dsimp only;omega);exact this
   ·rw[decide_eq_false hc,cond_false,Zok];exact h4
  ·intro d hd;unfold Zq7;rw[Zok];exact hd
 unfold ZpY;rw[Zol];refine Zow Ze fun d hd=> ?_
 rw[Zom,Zok];exact⟨by rw[hd.len];simp,hd⟩
end Go.Proofs
namespace Go.Proofs
open Go Eng
def Lo (a:Nat) (d:List En1) (p:En1) (i:Nat):Prop:=∀k x,a+1≤k→k < i→d[k]? =some x→Zxe x p < 0
def Hi (b:Nat) (d:List En1) (p:En1) (j:Nat):Prop:=∀k x,j < k→k < b→d[k]? =some x→¬Zxe x p < 0
theorem ZFk {d:List En1} [Gds d] {p:En1} {a b:Nat} (h0:d[a]? =some p) (hn:d.length≤1000) {i j:Nat} (hi:a+1≤i) (hij:i≤j+1) (hjb:j < b) (hj:b≤d.length) (hA:Lo a d p i):
  wp (ZoS big (a:Int) (i:Int) (j:Int) d) (fun x=>∃i':Nat,x=((a:Int),(i':Int),(j:Int),d)∧i≤i'∧i'≤j+1∧Lo a d p i'∧∀h:i'≤j,¬Zxe (d[i']'(by omega)) p < 0):=by
 haveI:Gdm p:=Gds.at h0;have hp:d[a]'(by omega)=p:=(ZIK.1 h0).2;refine Zrk Zwi (fun i:Nat=>((a:Int),(i:Int),(j:Int),d)) (fun i'=>i≤i'∧i'≤j+1∧Lo a d p i') (fun i'=>j+1 - i')
  (Q:=fun x=>∃i':Nat,x=((a:Int),(i':Int),(j:Int),d)∧i≤i'∧i'≤j+1∧Lo a d p i'∧∀h:i'≤j,¬Zxe (d[i']'(by omega)) p < 0) i ⟨ZIS _,hij,hA⟩ (by omega) ?_
 rintro rec i' ⟨h1,h2,h3⟩ ih;unfold ZtA Zrh Zqj;dsimp only
 by_cases hc:i'≤j
 ·have hi':i' < d.length:=by omega
  rw[decide_eq_true (show (i':Int)≤(j:Int) by omega),cond_true,Zom,ZIG,ZII hi',Zol,Zok,Zom,ZIG,h0,Zol,Zok,Zv5,Zol,Zok];refine⟨ZoU hi',ZpA ⟨by omega,by omega⟩, ?_⟩
  by_cases ho:Zxe d[i'] p < 0
  ·rw[decide_eq_true ho,cond_true,Zom];refine⟨Zoo (by omega),ih (i'+1) ⟨by omega,by omega,fun k x hk1 hk2 hx=> ?_⟩ (by omega)⟩
   by_cases e:k=i'
   ·subst e;rw[ZII hi']at hx;rw[←ZIZ hx];exact ho
   ·exact h3 k x hk1 (by omega) hx
  ·rw[decide_eq_false ho,cond_false,Zok];exact⟨i',rfl,h1,h2,h3,fun _=>ho⟩
 ·rw[decide_eq_false (show ¬(i':Int)≤(j:Int) by omega),cond_false,cond_false,Zok];exact⟨i',rfl,h1,h2,h3,fun h=>absurd h hc⟩
theorem ZFj {d:List En1} [Gds d] {p:En1} {a b:Nat} (h0:d[a]? =some p) (hn:d.length≤1000) {i j:Nat} (hi:a+1≤i) (hij:i≤j+1) (hjb:j < b) (hj:b≤d.length) (hA:Lo a d p i):
  wp (ZoQ big (a:Int) (i:Int) (j:Int) d) (fun x=>∃i':Nat,x=((a:Int),(i':Int),(j:Int),d)∧i≤i'∧i'≤j+1∧Lo a d p i'∧∀h:i'≤j,¬Zxe (d[i']'(by omega)) p < 0):=by
 haveI:Gdm p:=Gds.at h0;have hp:d[a]'(by omega)=p:=(ZIK.1 h0).2;refine Zrk Zwf (fun i:Nat=>((a:Int),(i:Int),(j:Int),d)) (fun i'=>i≤i'∧i'≤j+1∧Lo a d p i') (fun i'=>j+1 - i')
  (Q:=fun x=>∃i':Nat,x=((a:Int),(i':Int),(j:Int),d)∧i≤i'∧i'≤j+1∧Lo a d p i'∧∀h:i'≤j,¬Zxe (d[i']'(by omega)) p < 0) i ⟨ZIS _,hij,hA⟩ (by omega) ?_
 rintro rec i' ⟨h1,h2,h3⟩ ih;unfold Ztu Zre Zqh;dsimp only
 by_cases hc:i'≤j
 ·have hi':i' < d.length:=by omega
  rw[decide_eq_true (show (i':Int)≤(j:Int) by omega),cond_true,Zom,ZIG,ZII hi',Zol,Zok,Zom,ZIG,h0,Zol,Zok,Zv5,Zol,Zok];refine⟨ZoU hi',ZpA ⟨by omega,by omega⟩, ?_⟩
  by_cases ho:Zxe d[i'] p < 0
  ·rw[decide_eq_true ho,cond_true,Zom];refine⟨Zoo (by omega),ih (i'+1) ⟨by omega,by omega,fun k x hk1 hk2 hx=> ?_⟩ (by omega)⟩
   by_cases e:k=i'
   ·subst e;rw[ZII hi']at hx;rw[←ZIZ hx];exact ho
   ·exact h3 k x hk1 (by omega) hx
  ·rw[decide_eq_false ho,cond_false,Zok];exact⟨i',rfl,h1,h2,h3,fun _=>ho⟩
 ·rw[decide_eq_false (show ¬(i':Int)≤(j:Int) by omega),cond_false,cond_false,Zok];exact⟨i',rfl,h1,h2,h3,fun h=>absurd h hc⟩
theorem ZDj {d:List En1} [Gds d] {p:En1} {a b:Nat} (h0:d[a]? =some p) (hn:d.length≤1000) {i j:Nat} (hi:a+1≤i) (hij:i≤j+1) (hjb:j < b) (hj:b≤d.length) (hB:Hi b d p j):
  wp (ZoR big (a:Int) (i:Int) (j:Int) d) (fun x=>∃j':Nat,x=((a:Int),(i:Int),(j':Int),d)∧j'≤j∧i≤j'+1∧Hi b d p j'∧∀h:i≤j',∀hl:j' < d.length,Zxe d[j'] p < 0):=by
 haveI:Gdm p:=Gds.at h0;refine Zrk Zwh (fun j:Nat=>((a:Int),(i:Int),(j:Int),d)) (fun j'=>j'≤j∧i≤j'+1∧Hi b d p j') (fun j'=>j')
  (Q:=fun x=>∃j':Nat,x=((a:Int),(i:Int),(j':Int),d)∧j'≤j∧i≤j'+1∧Hi b d p j'∧∀h:i≤j',∀hl:j' < d.length,Zxe d[j'] p < 0) j ⟨ZIS _,hij,hB⟩ (by omega) ?_
 rintro rec j' ⟨h1,h2,h3⟩ ih;unfold Zty Zrg Zqi;dsimp only
 by_cases hc:i≤j'
 ·have hj':j' < d.length:=by omega
  rw[decide_eq_true (show (i:Int)≤(j':Int) by omega),cond_true,Zom,ZIG,ZII hj',Zol,Zok,Zom,ZIG,h0,Zol,Zok,Zv5,Zol,Zok];refine⟨ZoU hj',ZpA ⟨by omega,by omega⟩, ?_⟩
  by_cases ho:Zxe d[j'] p < 0
  ·rw[decide_eq_true ho,ZIE,cond_false,Zok];exact⟨j',rfl,h1,h2,h3,fun _ _=>ho⟩
  ·rw[decide_eq_false ho,ZFw,cond_true,Zom,show (j':Int) - 1=((j' - 1:Nat):Int) by omega];refine⟨Zoo (by omega),ih (j' - 1) ⟨by omega,by omega,fun k x hk hkb hx=> ?_⟩ (by omega)⟩
   by_cases e:k=j'
   ·subst e;rw[ZII hj']at hx;rw[←ZIZ hx];exact ho
   ·exact h3 k x (by omega) hkb hx
 ·rw[decide_eq_false (show ¬(i:Int)≤(j':Int) by omega),cond_false,cond_false,Zok];exact⟨j',rfl,h1,h2,h3,fun h=>absurd h hc⟩
theorem ZDi {d:List En1} [Gds d] {p:En1} {a b:Nat} (h0:d[a]? =some p) (hn:d.length≤1000) {i j:Nat} (hi:a+1≤i) (hij:i≤j+1) (hjb:j < b) (hj:b≤d.length) (hB:Hi b d p j):
  wp (ZoP big (a:Int) (i:Int) (j:Int) d) (fun x=>∃j':Nat,x=((a:Int),(i:Int),(j':Int),d)∧j'≤j∧i≤j'+1∧Hi b d p j'∧∀h:i≤j',∀hl:j' < d.length,Zxe d[j'] p < 0):=by
 haveI:Gdm p:=Gds.at h0;refine Zrk Zwe (fun j:Nat=>((a:Int),(i:Int),(j:Int),d)) (fun j'=>j'≤j∧i≤j'+1∧Hi b d p j') (fun j'=>j')
  (Q:=fun x=>∃j':Nat,x=((a:Int),(i:Int),(j':Int),d)∧j'≤j∧i≤j'+1∧Hi b d p j'∧∀h:i≤j',∀hl:j' < d.length,Zxe d[j'] p < 0) j ⟨ZIS _,hij,hB⟩ (by omega) ?_
 rintro rec j' ⟨h1,h2,h3⟩ ih;unfold Zts Zrd Zqg;dsimp only
 by_cases hc:i≤j'
 ·have hj':j' < d.length:=by omega
  rw[decide_eq_true (show (i:Int)≤(j':Int) by omega),cond_true,Zom,ZIG,ZII hj',Zol,Zok,Zom,ZIG,h0,Zol,Zok,Zv5,Zol,Zok];refine⟨ZoU hj',ZpA ⟨by omega,by omega⟩, ?_⟩
  by_cases ho:Zxe d[j'] p < 0
  ·rw[decide_eq_true ho,ZIE,cond_false,Zok];exact⟨j',rfl,h1,h2,h3,fun _ _=>ho⟩
  ·rw[decide_eq_false ho,ZFw,cond_true,Zom,show (j':Int) - 1=((j' - 1:Nat):Int) by omega];refine⟨Zoo (by omega),ih (j' - 1) ⟨by omega,by omega,fun k x hk hkb hx=> ?_⟩ (by omega)⟩
   by_cases e:k=j'
   ·subst e;rw[ZII hj']at hx;rw[←ZIZ hx];exact ho
   ·exact h3 k x (by omega) hkb hx
 ·rw[decide_eq_false (show ¬(i:Int)≤(j':Int) by omega),cond_false,cond_false,Zok];exact⟨j',rfl,h1,h2,h3,fun h=>absurd h hc⟩
theorem ZBK {d:List En1} {p:En1} {a b i j:Nat} (h0:d[a]? =some p) (hi:a+1≤i) (hij:i < j) (hj:j < d.length) (hA:Lo a d p i) (hB:Hi b d p j) (h1:¬Zxe (d[i]'(by omega)) p < 0) (h2:Zxe d[j] p < 0):
  (sw d i j (by omega) hj)[a]? =some p∧Lo a (sw d i j (by omega) hj) p (i+1)∧Hi b (sw d i j (by omega) hj) p (j - 1):=by
 have hi':i < d.length:=by omega
 refine⟨?_,fun k x hk1 hk2 hx=> ?_,fun k x hk hkb hx=> ?_⟩
 ·rw[Zxr hi' hj a (by omega),if_neg (by omega),if_neg (by omega),h0]
 ·rw[Zxr hi' hj k (by omega),if_neg (by omega)]at hx
  by_cases e:k=i
  ·rw[if_pos e]at hx;rw[←ZIZ hx];exact h2
  ·rw[if_neg e]at hx;exact hA k x hk1 (by omega) hx
 ·have hkl:k < d.length:=by
   have:=(ZIK.1 hx).1
   rwa [ZzM]at this
  rw[Zxr hi' hj k hkl]at hx
  by_cases e:k=j
  ·rw[if_pos e]at hx;rw[←ZIZ hx];exact h1
  ·rw[if_neg e,if_neg (by omega)]at hx;exact hB k x (by omega) hkb hx
end Go.Proofs
namespace Go.Proofs
open Go Eng
def Pt2 (a b:Nat) (D:List En1) (x:Int×Bool×List En1):Prop:=∃m:Nat,x.1=(m:Int)∧a≤m∧m < b∧Rg a b D x.2.2∧∃p,x.2.2[m]? =some p∧(∀k y,a≤k→k < m→x.2.2[k]? =some y→Zxe y p < 0)∧(∀k y,m < k→k < b→x.2.2[k]? =some y→¬Zxe y p < 0)
theorem ZDz {D d:List En1} {p:En1} {a b j:Nat} (h0:d[a]? =some p) (haj:a≤j) (hjb:j < b) (hb:b≤d.length) (hA:Lo a d p (j+1)) (hB:Hi b d p j) (hp:Rg a b D d) (f:Bool):Pt2 a b D ((j:Int),f,sw d j a (by omega) (by omega)):=by
 have hj:j < d.length:=by omega
 have ha:a < d.length:=by omega
 have hp0:d[a]=p:=(ZIK.1 h0).2;refine⟨j,rfl,haj,hjb,hp.trans (ZzL hj ha haj hjb (ZIS _) (by omega)),p, ?_,fun k y h1 h2 hy=> ?_,fun k y h1 h2 hy=> ?_⟩
 ·dsimp only;rw[Zxr hj ha j hj]
  by_cases e:j=a
  ·subst e;rw[if_pos rfl,hp0]
  ·rw[if_neg e,if_pos rfl,hp0]
 ·dsimp only at hy;rw[Zxr hj ha k (by omega)]at hy
  by_cases e:k=a
  ·rw[if_pos e]at hy;exact hA j y (by omega) (by omega) (by rw[ZII hj];exact hy)
  ·rw[if_neg e,if_neg (by omega)]at hy;exact hA k y (by omega) (by omega) hy
 ·dsimp only at hy;rw[Zxr hj ha k (by omega),if_neg (by omega),if_neg (by omega)]at hy;exact hB k y h1 h2 hy
theorem ZCs {D:List En1} [Gds D] (hn:D.length≤1000) {a b:Nat} {d0:List En1} [Gds d0] {p:En1} {i0 j0:Nat} (h0:d0[a]? =some p) (hi:a+1≤i0) (hij:i0≤j0+1) (hj:j0 < b) (hb:b≤D.length) (hA:Lo a d0 p i0) (hB:Hi b d0 p j0) (hp:Rg a b D d0):
  wp (ZoE big (a:Int) (i0:Int) (j0:Int) d0) (fun x=>∃(j:Nat) (d:List En1),x=((a:Int),(j:Int),d)∧d[a]? =some p∧a≤j∧j < b∧Lo a d p (j+1)∧Hi b d p j∧Rg a b D d):=by
 refine Zrk Zwg (fun s:Nat×Nat×List En1=>((a:Int),(s.1:Int),(s.2.1:Int),s.2.2)) (fun s=>s.2.2[a]? =some p∧a+1≤s.1∧s.1≤s.2.1+1∧s.2.1 < b∧Lo a s.2.2 p s.1∧Hi b s.2.2 p s.2.1∧Rg a b D s.2.2) (fun s=>s.2.1)
  (Q:=fun x=>∃(j:Nat) (d:List En1),x=((a:Int),(j:Int),d)∧d[a]? =some p∧a≤j∧j < b∧Lo a d p (j+1)∧Hi b d p j∧Rg a b D d) (i0,j0,d0) ⟨h0,hi,hij,hj,hA,hB,hp⟩ (by dsimp only;omega) ?_
 rintro rec ⟨i,j,d⟩ ⟨h0,hi,hij,hj,hA,hB,hp⟩ ih;dsimp only at h0 hi hij hj hA hB hp ih;have hl:=hp.len;haveI:=hp.gds;have hdn:d.length≤1000:=by omega
 have hbd:b≤d.length:=by omega
 unfold Ztw Zrf ZrK ZrJ;dsimp only;rw[Zol];refine Zow (ZFj h0 hdn hi hij hj hbd hA) ?_;rintro _ ⟨i',rfl,h1,h2,h3,h4⟩;dsimp only;rw[Zol];refine Zow (ZDi h0 hdn (by omega) h2 hj hbd hB) ?_;rintro _ ⟨j',rfl,h5,h6,h7,h8⟩;dsimp only
 by_cases hc:i'≤j'
 ·have hi':i' < d.length:=by omega
  have hj':j' < d.length:=by omega
  have g1:=h4 (by omega);have g2:=h8 hc hj';have hlt:i' < j':=by
   rcases Nat.lt_or_eq_of_le hc with h |h
   ·exact h
   ·subst h;exact absurd g2 g1
  obtain⟨s0,sA,sB⟩:=ZBK h0 (by omega) hlt hj' h3 h7 g1 g2;rw[decide_eq_false (show ¬(i':Int) > (j':Int) by omega),cond_false,Zom,ZIG,ZIG,ZII hj',Zol,Zok,Zom,ZII hi',Zol,Zok,Zom,Zom,Zom,Zom];refine⟨ZoU hj',ZoU hi',ZoU hi',ZpA ⟨by omega,by rw[ZIM];omega⟩,Zoo (by omega),Zoo (by omega), ?_⟩;have:=ih (i'+1,j' - 1,sw d i' j' hi' hj') ⟨s0,by dsimp only;omega,by dsimp only;omega,by dsimp only;omega,sA,sB,hp.trans (ZzL hi' hj' (by omega) (by omega) (by omega) (by omega))⟩ (by dsimp only;omega);rw[show (((i'+1:Nat)):Int)=(i':Int)+1 by omega,show ((j' - 1:Nat):Int)=(j':Int) - 1 by omega]at this;exact this
 ·rw[decide_eq_true (show (i':Int) > (j':Int) by omega),cond_true,Zok];exact⟨j',d,rfl,h0,by omega,by omega,by rw[show j'+1=i' by omega];exact h3,h7,hp⟩
theorem ZBe {D:List En1} [Gds D] (hn:D.length≤1000) {a b pv:Nat} (hb:b≤D.length) (h1:a≤pv) (h2:pv < b):
  wp (Zqt D (a:Int) (b:Int) (pv:Int)) (Pt2 a b D):=by
 have hpv:pv < D.length:=by omega
 have h00:a < D.length:=by omega
 have Ze:wp (ZqU D (a:Int) (b:Int) (pv:Int)) (Pt2 a b D):=by
  unfold ZqU;simp only[Zom,ZIG];rw[ZII hpv,ZII h00];simp only[Zol,Zok,Zom];have hd0:(D.set a D[pv]).set pv D[a]=sw D a pv h00 hpv:=rfl;rw[hd0];have hlen:=ZzM (d:=D) h00 hpv;have hg0:∃p,(sw D a pv h00 hpv)[a]? =some p:=⟨_,ZII (by omega)⟩;obtain⟨p,hg0⟩:=hg0;have hperm:=ZzL (d:=D) h00 hpv (ZIS a) (show a < b by omega) h1 h2;generalize sw D a pv h00 hpv=d at hlen hg0 hperm;haveI:Gds d:=hperm.gds;refine⟨ZpA ⟨by omega,by omega⟩,ZpA ⟨by omega,by omega⟩,ZpA ⟨by omega,by omega⟩,ZpA ⟨by omega,by rw[ZIM];omega⟩,Zoo (by omega),Zoo (by omega), ?_⟩;have hdn:d.length≤1000:=by omega
  have hbd:b≤d.length:=by omega
  have hA:Lo a d p (a+1):=fun k x h1 h2=>by omega
  have hB:Hi b d p (b - 1):=fun k x hk hkb hx=>by omega
  have:=ZFk hg0 hdn (i:=a+1) (j:=b - 1) (by omega) (by omega) (by omega) hbd hA;rw[show ((b - 1:Nat):Int)=(b:Int) - 1 by omega,show ((a+1:Nat):Int)=(a:Int)+1 by omega]at this;refine Zow this ?_;rintro _ ⟨i',rfl,q1,q2,q3,q4⟩;dsimp only;unfold ZrM;rw[Zol];have:=ZDj hg0 hdn (i:=i') (j:=b - 1) (by omega) (by omega) (by omega) hbd hB;rw[show ((b - 1:Nat):Int)=(b:Int) - 1 by omega]at this;refine Zow this ?_;rintro _ ⟨j',rfl,q5,q6,q7,q8⟩;dsimp only;unfold ZrL
  by_cases hc:i'≤j'
  ·have hi':i' < d.length:=by omega
   have hj':j' < d.length:=by omega
   have g1:=q4 (by omega);have g2:=q8 hc hj';have hlt:i' < j':=by
    rcases Nat.lt_or_eq_of_le hc with h |h
    ·exact h
    ·subst h;exact absurd g2 g1
   obtain⟨s0,sA,sB⟩:=ZBK hg0 (by omega) hlt hj' q3 q7 g1 g2;rw[decide_eq_false (show ¬(i':Int) > (j':Int) by omega),cond_false,Zom,ZIG,ZIG,ZII hj',Zol,Zok,Zom,ZII hi',Zol,Zok,Zom,Zom,Zom,Zom,Zol];refine⟨ZoU hj',ZoU hi',ZoU hi',ZpA ⟨by omega,by rw[ZIM];omega⟩,Zoo (by omega),Zoo (by omega), ?_⟩;have:=ZCs (D:=D) hn (d0:=sw d i' j' hi' hj') (i0:=i'+1) (j0:=j' - 1) s0 (by omega) (by omega) (by omega) hb sA sB (hperm.trans (ZzL hi' hj' (by omega) (by omega) (by omega) (by omega)));rw[show (((i'+1:Nat)):Int)=(i':Int)+1 by omega,show ((j' - 1:Nat):Int)=(j':Int) - 1 by omega]at this;refine Zow this ?_;rintro _ ⟨j,d2,rfl,r0,r1,r2,r3,r4,r5⟩;unfold ZrI;dsimp only;have hl2:=r5.len;haveI:=r5.gds;have r00:a < d2.length:=by omega
   have rj:j < d2.length:=by omega
   rw[Zom,ZIG,ZII r00,Zol,Zok,Zom,ZIG,ZII rj,Zol,Zok,Zom,Zom,Zok];exact⟨ZoU r00,ZoU rj,ZoU rj,ZpA ⟨by omega,by rw[ZIM];omega⟩,ZDz r0 r1 r2 (by omega) r3 r4 r5 false⟩
  ·have hj':j' < d.length:=by omega
   have h0d:a < d.length:=by omega
   rw[decide_eq_true (show (i':Int) > (j':Int) by omega),cond_true,Zom,ZIG,ZII h0d,Zol,Zok,Zom,ZIG,ZII hj',Zol,Zok,Zom,Zom,Zok];exact⟨ZoU h0d,ZoU hj',ZoU hj',ZpA ⟨by omega,by rw[ZIM];omega⟩,ZDz hg0 (by omega) (by omega) hbd (by rw[show j'+1=i' by omega];exact q3) q7 hperm true⟩
 unfold Zqt;rw[Zol];refine Zow Ze fun x hx=> ?_
 obtain⟨m,e,h3,h4,h5,h6⟩:=hx;rw[Zom,Zok];exact⟨by rw[h5.len];simp,m,e,h3,h4,h5,h6⟩
end Go.Proofs
namespace Go.Proofs
open Go Eng
theorem ZAr {d:List En1} [Gds d] (P:Nat→Prop) (hP:∀k,P k→k < d.length) {a b:Nat} (ha:P a) (hb:P b) (s:Nat) (hs:s≤100):
  wp (Zpj d (a:Int) (b:Int) (s:Int)) (fun x=>∃a' b' s':Nat,x=((a':Int),(b':Int),d,(s':Int))∧P a'∧P b'∧s'≤s+1):=by
 unfold Zpj Ztj;have hal:=hP a ha;have hbl:=hP b hb;rw[Zol,Zom,ZIG,ZII hbl,Zol,Zok,Zom,ZIG,ZII hal,Zol,Zok,Zv5,Zol,Zok,ZoW];refine⟨ZoU hbl,ZoU hal,fun _=> ?_,fun _=> ?_⟩
 ·rw[Zom,Zok,Zom,Zok];exact⟨Zoo (by omega),by simp,b,a,s+1,rfl,hb,ha,ZIS _⟩
 ·rw[Zok,Zom,Zok];exact⟨by simp,a,b,s,rfl,ha,hb,by omega⟩
theorem ZBf {d:List En1} [Gds d] (P:Nat→Prop) (hP:∀k,P k→k < d.length) {a b c:Nat} (ha:P a) (hb:P b) (hc:P c) (s:Nat) (hs:s≤50):
  wp (Zp1 d (a:Int) (b:Int) (c:Int) (s:Int)) (fun x=>∃m s':Nat,x=((m:Int),d,(s':Int))∧P m∧s'≤s+3):=by
 unfold Zp1 Ztk;rw[Zol,Zol];refine Zow (ZAr P hP ha hb s (by omega)) ?_;rintro _ ⟨a1,b1,s1,rfl,q1,q2,q3⟩;dsimp only;rw[Zol];refine Zow (ZAr P hP q2 hc s1 (by omega)) ?_;rintro _ ⟨b2,c1,s2,rfl,q4,q5,q6⟩;dsimp only;rw[Zol];refine Zow (ZAr P hP q1 q4 s2 (by omega)) ?_;rintro _ ⟨a2,b3,s3,rfl,q7,q8,q9⟩;dsimp only;rw[Zok,Zom,Zok];exact⟨by simp,b3,s3,rfl,q8,by omega⟩
theorem Zzl {d:List En1} [Gds d] (P:Nat→Prop) (hP:∀k,P k→k < d.length) (hd:d.length≤1000000) {a:Nat} (h0:1≤a) (ha:P (a - 1)) (hb:P a) (hc:P (a+1)) (s:Nat) (hs:s≤50):
  wp (ZoJ d (a:Int) (s:Int)) (fun x=>∃m s':Nat,x=((m:Int),d,(s':Int))∧P m∧s'≤s+3):=by
 have:=hP _ hc;unfold ZoJ Zri;rw[Zol,Zom,Zom,Zol,show (a:Int) - 1=((a - 1:Nat):Int) by omega,show (a:Int)+1=((a+1:Nat):Int) by omega];refine⟨Zoo (by omega),Zoo (by omega),Zow (ZBf P hP ha hb hc s hs) ?_⟩;rintro _ ⟨m,s',rfl,h1,h2⟩;dsimp only;rw[Zok,Zom,Zok];exact⟨by simp,m,s',rfl,h1,h2⟩
theorem ZC3 {d:List En1} [Gds d] (hd:d.length≤1000000) {a b:Nat} (hb:b≤d.length) (hab:a+13≤b):
  wp (Zp4 d (a:Int) (b:Int)) (fun x=>∃(pv:Nat) (h:Int),x=((pv:Int),h,d)∧a≤pv∧pv < b):=by
 have Ze:wp (Zqw d (a:Int) (b:Int)) (fun x=>∃(pv:Nat) (h:Int),x=((pv:Int),h,d)∧a≤pv∧pv < b):=by
  have hPl:∀k,(a≤k∧k < b)→k < d.length:=fun k hk=>by omega
  unfold Zqw;have eq:Int.tdiv ((b:Int) - (a:Int)) 4=(((b - a) / 4:Nat):Int):=by rw[show (b:Int) - (a:Int)=((b - a:Nat):Int) by omega];rfl
  rw[eq];generalize hq:(b - a) / 4=q;have j2:∀(m s:Nat),a≤m→m < b→wp (Zpd (m:Int) d (s:Int)) (fun x=>∃(pv:Nat) (h:Int),x=((pv:Int),h,d)∧a≤pv∧pv < b):=by intro m s h1 h2;unfold Zpd;rw[ZoW];refine⟨fun _=>by rw[Zok];exact⟨m,1,rfl,h1,h2⟩,fun _=> ?_⟩;rw[ZoW];exact⟨fun _=>by rw[Zok];exact⟨m,2,rfl,h1,h2⟩,fun _=>by rw[Zok];exact⟨m,0,rfl,h1,h2⟩⟩
  have j1:∀(i j k s:Nat),s≤50→(a≤i∧i < b)→(a≤j∧j < b)→(a≤k∧k < b)→wp (Zpe (i:Int) (j:Int) (k:Int) d (s:Int)) (fun x=>∃(pv:Nat) (h:Int),x=((pv:Int),h,d)∧a≤pv∧pv < b):=by intro i j k s hs h1 h2 h3;unfold Zpe;rw[Zol];refine Zow (ZBf (fun k=>a≤k∧k < b) hPl h1 h2 h3 s hs) ?_;rintro _ ⟨m,s',rfl,h4,_⟩;exact j2 m s' h4.1 h4.2
  rw[show (q:Int)*1=((q:Nat):Int) by omega,show (q:Int)*2=((q*2:Nat):Int) by omega,show (q:Int)*3=((q*3:Nat):Int) by omega,
   show (a:Int)+((q:Nat):Int)=((a+q:Nat):Int) by omega,show (a:Int)+((q*2:Nat):Int)=((a+q*2:Nat):Int) by omega,show (a:Int)+((q*3:Nat):Int)=((a+q*3:Nat):Int) by omega]
  simp only[Zom];refine⟨Zoo (by omega),rfl,Zoo (by omega),Zoo (by omega),Zoo (by omega),rfl,Zoo (by omega),Zoo (by omega),Zoo (by omega),rfl,Zoo (by omega),Zoo (by omega),Zoo (by omega), ?_⟩;rw[decide_eq_true (show (b:Int) - (a:Int)≥8 by omega),cond_true,ZoW];refine⟨fun h50=> ?_,fun _=>j1 _ _ _ 0 (by omega) (by omega) (by omega) (by omega)⟩;have h50':(b:Int) - (a:Int)≥50:=of_decide_eq_true h50;rw[Zol];refine Zow (Zzl (fun k=>a≤k∧k < b) hPl hd (a:=a+q) (by omega) (by omega) (by omega) (by omega) 0 (by omega)) ?_;rintro _ ⟨i,s1,rfl,p1,t1⟩;dsimp only;rw[Zol];refine Zow (Zzl (fun k=>a≤k∧k < b) hPl hd (a:=a+q*2) (by omega) (by omega) (by omega) (by omega) s1 (by omega)) ?_;rintro _ ⟨j,s2,rfl,p2,t2⟩;dsimp only;rw[Zol];refine Zow (Zzl (fun k=>a≤k∧k < b) hPl hd (a:=a+q*3) (by omega) (by omega) (by omega) (by omega) s2 (by omega)) ?_;rintro _ ⟨k,s3,rfl,p3,t3⟩;dsimp only;exact j1 i j k s3 (by omega) p1 p2 p3
 unfold Zp4;rw[Zol];refine Zow Ze ?_;rintro _ ⟨pv,h,rfl,h1,h2⟩;rw[Zom,Zok];exact⟨by simp,pv,h,rfl,h1,h2⟩
end Go.Proofs
namespace Go.Proofs
open Go Eng
theorem ZGi (x:Int) {y:Nat} (hy:y < 1000000):∃z:Nat,andK .u64 x (y:Int)=(z:Int)∧z≤y:=by
 unfold andK;have h1:(BitVec.ofInt (IntKind.u64).bits x&&& BitVec.ofInt (IntKind.u64).bits (y:Int)).toNat≤y:=by rw[BitVec.toNat_and];refine ZIT Nat.and_le_right ?_;rw[BitVec.ofInt_natCast,BitVec.toNat_ofNat];exact Nat.mod_le _ _
 refine⟨_,wrap_u64 ⟨by omega,by omega⟩,h1⟩
theorem ZB3:((List.range 201).all fun n:Nat=>match ZtR (n:Int)with |some m=>decide (n=0∨(1≤m∧m≤2*(n:Int))) |none=>false)=true:=by kernel_rfl
theorem ZD9 {n:Nat} (h1:1≤n) (h2:n≤200):∃m:Nat,ZtR (n:Int)=some (m:Int)∧1≤m∧m≤2*n:=by have h:=List.all_eq_true.1 ZB3 n (List.mem_range.2 (by omega));split at h;rotate_left;simp at h;rename_i m hm;have h3:=(of_decide_eq_true h).resolve_left (by omega);refine⟨m.toNat, ?_,by omega,by omega⟩;rw[hm,Int.toNat_of_nonneg (by omega)]
theorem ZEc (r:Int):∃q r',ZsS r=some (q,r'):=by unfold ZsS;rw[show decide (0≤(13:Int))=true from rfl,show decide (0≤(7:Int))=true from rfl,show decide (0≤(17:Int))=true from rfl,chk_true,chk_true,chk_true];exact⟨_,_,rfl⟩
theorem ZDn {D:List En1} [Gds D] (hn:D.length≤200) {a b:Nat} (hab:a+8≤b) (hb:b≤D.length):
  wp (ZpQ D (a:Int) (b:Int)) (fun d=>Rg a b D d):=by
 have Ze:wp (Zp5 D (a:Int) (b:Int)) (fun d=>Rg a b D d):=by
  unfold Zp5;obtain⟨L,hL⟩:∃L:Nat,L=b - a:=⟨_,rfl⟩;rw[show (b:Int) - (a:Int)=(L:Int) by omega];have eq:Int.tdiv (L:Int) 4=((L / 4:Nat):Int):=rfl;obtain⟨md,hm,hm1,hm2⟩:=ZD9 (n:=L) (by omega) (by omega);rw[Zom,decide_eq_true (show (L:Int)≥8 by omega),cond_true,hm,Zol,Zok,eq,Zom,Zom,Zom,Zom,Zom,Zol];refine⟨Zoo (by omega),rfl,Zoo (by omega),Zoo (by omega),Zoo (by omega),Zoo (by omega), ?_⟩;refine Zow (Zrk ZvH (fun s:Nat×List En1×Int=>((a:Int),(L:Int),(md:Int),(s.1:Int),s.2.1,s.2.2)) (fun s=>a≤s.1∧Rg a b D s.2.1) (fun s=>a+L+5 - s.1)
   (Q:=fun d=>Rg a b D d) (a+L / 4*2 - 1,D,IntKind.wrap .u64 (L:Int)) ⟨by dsimp only;omega,.refl _ _ _⟩ (by dsimp only;omega) ?_ |> fun h=>by
    have e:((a+L / 4*2 - 1:Nat):Int)=(a:Int)+((L / 4:Nat):Int)*2 - 1:=by omega
    dsimp only at h;rw[e]at h;exact h) ?_
  ·rintro rec ⟨i,d,r⟩ ⟨h1,h2⟩ ih;dsimp only at h1 h2 ih;have hl:=h2.len;haveI:=h2.gds;unfold ZsJ ZqC;dsimp only;rw[eq];simp only[Zom];refine⟨rfl,Zoo (by omega),Zoo (by omega),Zoo (by omega),Zoo (by omega), ?_⟩
   by_cases hc:(i:Int)≤(a:Int)+((L / 4:Nat):Int)*2+1
   ·obtain⟨q,r',hr⟩:=ZEc r;obtain⟨z,hz,hz2⟩:=ZGi q (y:=md - 1) (by omega);have hw:IntKind.wrap .u64 ((md:Int) - 1)=((md - 1:Nat):Int):=by rw[wrap_u64 ⟨by omega,by omega⟩];omega
    rw[decide_eq_true hc,cond_true,hr,Zol,Zok];dsimp only;rw[hw,hz,wrap_i64 ⟨by omega,by omega⟩];have fin:∀o:Nat,o < L→wp (ZoZ (fun a1 l1 m1 i1 d1 r1=>rec (a1,l1,m1,i1,d1,r1)) (a:Int) (L:Int) (md:Int) (i:Int) (o:Int) d r') (fun d=>Rg a b D d):=by
     intro o ho;have ho':a+o < d.length:=by omega
     have hi':i < d.length:=by omega
     unfold ZoZ;rw[show (a:Int)+(o:Int)=((a+o:Nat):Int) by omega,Zom,Zom,Zom,ZIG,ZIG,ZII ho',Zol,Zok,Zom,ZII hi',Zol,Zok,Zom,Zom,Zom];refine⟨Zoo (by omega),Zoo (by omega),ZoU ho',ZoU hi',ZoU hi',ZpA ⟨by omega,by rw[ZIM];omega⟩,Zoo (by omega), ?_⟩;have:=ih (i+1,sw d i (a+o) hi' ho',r') ⟨by dsimp only;omega,h2.trans (ZzL hi' ho' (by omega) (by omega) (by omega) (by omega))⟩ (by dsimp only;omega);exact this
    by_cases hge:(z:Int)≥(L:Int)
    ·rw[decide_eq_true hge,cond_true,Zom,show (z:Int) - (L:Int)=((z - L:Nat):Int) by omega];exact⟨Zoo (by omega),fin (z - L) (by omega)⟩
    ·rw[decide_eq_false hge,cond_false];exact fin z (by omega)
   ·rw[decide_eq_false hc,cond_false,Zok];exact h2
  ·intro d hd;unfold ZqZ;rw[Zok];exact hd
 unfold ZpQ;rw[Zol];refine Zow Ze fun d hd=> ?_
 rw[Zom,Zok];exact⟨by rw[hd.len];simp,hd⟩
end Go.Proofs
namespace Go.Proofs
open Go Eng
def LoE (a:Nat) (d:List En1) (p:En1) (i:Nat):Prop:=∀k x,a≤k→k < i→d[k]? =some x→¬Zxe p x < 0
def HiE (b:Nat) (d:List En1) (p:En1) (j:Nat):Prop:=∀k x,j < k→k < b→d[k]? =some x→Zxe p x < 0
theorem ZFi {d:List En1} [Gds d] {p:En1} {a b:Nat} (h0:d[a]? =some p) (hn:d.length≤1000) {i j:Nat} (hi:a+1≤i) (hij:i≤j+1) (hjb:j < b) (hj:b≤d.length) (hA:LoE a d p i):
  wp (ZoC big (a:Int) (i:Int) (j:Int) d) (fun x=>∃i':Nat,x=((a:Int),(i':Int),(j:Int),d)∧i≤i'∧i'≤j+1∧LoE a d p i'∧∀h:i'≤j,Zxe p (d[i']'(by omega)) < 0):=by
 haveI:Gdm p:=Gds.at h0;refine Zrk Zvw (fun i:Nat=>((a:Int),(i:Int),(j:Int),d)) (fun i'=>i≤i'∧i'≤j+1∧LoE a d p i') (fun i'=>j+1 - i')
  (Q:=fun x=>∃i':Nat,x=((a:Int),(i':Int),(j:Int),d)∧i≤i'∧i'≤j+1∧LoE a d p i'∧∀h:i'≤j,Zxe p (d[i']'(by omega)) < 0) i ⟨ZIS _,hij,hA⟩ (by omega) ?_
 rintro rec i' ⟨h1,h2,h3⟩ ih;unfold Zsr Zqr Zpz;dsimp only
 by_cases hc:i'≤j
 ·have hi':i' < d.length:=by omega
  rw[decide_eq_true (show (i':Int)≤(j:Int) by omega),cond_true,Zom,ZIG,h0,Zol,Zok,Zom,ZIG,ZII hi',Zol,Zok,Zv5,Zol,Zok];refine⟨ZpA ⟨by omega,by omega⟩,ZoU hi', ?_⟩
  by_cases ho:Zxe p d[i'] < 0
  ·rw[decide_eq_true ho,ZIE,cond_false,Zok];exact⟨i',rfl,h1,h2,h3,fun _=>ho⟩
  ·rw[decide_eq_false ho,ZFw,cond_true,Zom];refine⟨Zoo (by omega),ih (i'+1) ⟨by omega,by omega,fun k x hk1 hk2 hx=> ?_⟩ (by omega)⟩
   by_cases e:k=i'
   ·subst e;rw[ZII hi']at hx;rw[←ZIZ hx];exact ho
   ·exact h3 k x hk1 (by omega) hx
 ·rw[decide_eq_false (show ¬(i':Int)≤(j:Int) by omega),cond_false,cond_false,Zok];exact⟨i',rfl,h1,h2,h3,fun h=>absurd h hc⟩
theorem ZDh {d:List En1} [Gds d] {p:En1} {a b:Nat} (h0:d[a]? =some p) (hn:d.length≤1000) {i j:Nat} (hi:a+1≤i) (hij:i≤j+1) (hjb:j < b) (hj:b≤d.length) (hB:HiE b d p j):
  wp (ZoB big (a:Int) (i:Int) (j:Int) d) (fun x=>∃j':Nat,x=((a:Int),(i:Int),(j':Int),d)∧j'≤j∧i≤j'+1∧HiE b d p j'∧∀h:i≤j',∀hl:j' < d.length,¬Zxe p d[j'] < 0):=by
 haveI:Gdm p:=Gds.at h0;refine Zrk Zvv (fun j:Nat=>((a:Int),(i:Int),(j:Int),d)) (fun j'=>j'≤j∧i≤j'+1∧HiE b d p j') (fun j'=>j')
  (Q:=fun x=>∃j':Nat,x=((a:Int),(i:Int),(j':Int),d)∧j'≤j∧i≤j'+1∧HiE b d p j'∧∀h:i≤j',∀hl:j' < d.length,¬Zxe p d[j'] < 0) j ⟨ZIS _,hij,hB⟩ (by omega) ?_
 rintro rec j' ⟨h1,h2,h3⟩ ih;unfold Zsp Zqq Zpy;dsimp only
 by_cases hc:i≤j'
 ·have hj':j' < d.length:=by omega
  rw[decide_eq_true (show (i:Int)≤(j':Int) by omega),cond_true,Zom,ZIG,h0,Zol,Zok,Zom,ZIG,ZII hj',Zol,Zok,Zv5,Zol,Zok];refine⟨ZpA ⟨by omega,by omega⟩,ZoU hj', ?_⟩
  by_cases ho:Zxe p d[j'] < 0
  ·rw[decide_eq_true ho,cond_true,Zom,show (j':Int) - 1=((j' - 1:Nat):Int) by omega];refine⟨Zoo (by omega),ih (j' - 1) ⟨by omega,by omega,fun k x hk hkb hx=> ?_⟩ (by omega)⟩
   by_cases e:k=j'
   ·subst e;rw[ZII hj']at hx;rw[←ZIZ hx];exact ho
   ·exact h3 k x (by omega) hkb hx
  ·rw[decide_eq_false ho,cond_false,Zok];exact⟨j',rfl,h1,h2,h3,fun _ _=>ho⟩
 ·rw[decide_eq_false (show ¬(i:Int)≤(j':Int) by omega),cond_false,cond_false,Zok];exact⟨j',rfl,h1,h2,h3,fun h=>absurd h hc⟩
def PtE (a b:Nat) (D:List En1) (x:Int×List En1):Prop:=∃m:Nat,x.1=(m:Int)∧a < m∧m≤b∧Rg a b D x.2∧∃p,x.2[a]? =some p∧LoE a x.2 p m∧(∀k y,m≤k→k < b→x.2[k]? =some y→Zxe p y < 0)
theorem ZB4 {D:List En1} [Gds D] (hn:D.length≤1000) {a b:Nat} {d0:List En1} [Gds d0] {p:En1} {i0 j0:Nat} (h0:d0[a]? =some p) (hi:a+1≤i0) (hij:i0≤j0+1) (hj:j0 < b) (hb:b≤D.length) (hA:LoE a d0 p i0) (hB:HiE b d0 p j0) (hp:Rg a b D d0):
  wp (Zoz big (a:Int) (i0:Int) (j0:Int) d0) (fun x=>PtE a b D x∧x.2[a]? =some p):=by
 refine Zrk Zvx (fun s:Nat×Nat×List En1=>((a:Int),(s.1:Int),(s.2.1:Int),s.2.2)) (fun s=>s.2.2[a]? =some p∧a+1≤s.1∧s.1≤s.2.1+1∧s.2.1 < b∧LoE a s.2.2 p s.1∧HiE b s.2.2 p s.2.1∧Rg a b D s.2.2) (fun s=>s.2.1)
  (Q:=fun x=>PtE a b D x∧x.2[a]? =some p) (i0,j0,d0) ⟨h0,hi,hij,hj,hA,hB,hp⟩ (by dsimp only;omega) ?_
 rintro rec ⟨i,j,d⟩ ⟨h0,hi,hij,hj,hA,hB,hp⟩ ih;dsimp only at h0 hi hij hj hA hB hp ih;have hl:=hp.len;haveI:=hp.gds;have hdn:d.length≤1000:=by omega
 have hbd:b≤d.length:=by omega
 unfold Zst Zqs ZqP ZqO;dsimp only;rw[Zol];refine Zow (ZFi h0 hdn hi hij hj hbd hA) ?_;rintro _ ⟨i',rfl,h1,h2,h3,h4⟩;dsimp only;rw[Zol];refine Zow (ZDh h0 hdn (by omega) h2 hj hbd hB) ?_;rintro _ ⟨j',rfl,h5,h6,h7,h8⟩;dsimp only
 by_cases hc:i'≤j'
 ·have hi':i' < d.length:=by omega
  have hj':j' < d.length:=by omega
  have g1:=h4 (by omega);have g2:=h8 hc hj';have hlt:i' < j':=by
   rcases Nat.lt_or_eq_of_le hc with h |h
   ·exact h
   ·subst h;exact absurd g1 g2
  rw[decide_eq_false (show ¬(i':Int) > (j':Int) by omega),cond_false,Zom,ZIG,ZIG,ZII hj',Zol,Zok,Zom,ZII hi',Zol,Zok,Zom,Zom,Zom,Zom];refine⟨ZoU hj',ZoU hi',ZoU hi',ZpA ⟨by omega,by rw[ZIM];omega⟩,Zoo (by omega),Zoo (by omega), ?_⟩;have s0:(sw d i' j' hi' hj')[a]? =some p:=by rw[Zxr hi' hj' a (by omega),if_neg (by omega),if_neg (by omega),h0]
  have sA:LoE a (sw d i' j' hi' hj') p (i'+1):=by
   intro k x hk1 hk2 hx;rw[Zxr hi' hj' k (by omega),if_neg (by omega)]at hx
   by_cases e:k=i'
   ·rw[if_pos e]at hx;rw[←ZIZ hx];exact g2
   ·rw[if_neg e]at hx;exact h3 k x hk1 (by omega) hx
  have sB:HiE b (sw d i' j' hi' hj') p (j' - 1):=by
   intro k x hk hkb hx;rw[Zxr hi' hj' k (by omega)]at hx
   by_cases e:k=j'
   ·rw[if_pos e]at hx;rw[←ZIZ hx];exact g1
   ·rw[if_neg e,if_neg (by omega)]at hx;exact h7 k x (by omega) hkb hx
  have:=ih (i'+1,j' - 1,sw d i' j' hi' hj') ⟨s0,by dsimp only;omega,by dsimp only;omega,by dsimp only;omega,sA,sB,hp.trans (ZzL hi' hj' (by omega) (by omega) (by omega) (by omega))⟩ (by dsimp only;omega);rw[show (((i'+1:Nat)):Int)=(i':Int)+1 by omega,show ((j' - 1:Nat):Int)=(j':Int) - 1 by omega]at this;exact this
 ·rw[decide_eq_true (show (i':Int) > (j':Int) by omega),cond_true,Zok];exact⟨⟨i',rfl,by omega,by omega,hp,p,h0,h3,fun k y hk hkb hy=>h7 k y (by omega) hkb hy⟩,h0⟩
theorem ZC4 {D:List En1} [Gds D] (hn:D.length≤1000) {a b pv:Nat} (hb:b≤D.length) (h1:a≤pv) (h2:pv < b):
  wp (ZpG D (a:Int) (b:Int) (pv:Int)) (fun x=>PtE a b D x∧x.2[a]? =D[pv]?):=by
 have hpv:pv < D.length:=by omega
 have h00:a < D.length:=by omega
 have Ze:wp (ZpZ D (a:Int) (b:Int) (pv:Int)) (fun x=>PtE a b D x∧x.2[a]? =D[pv]?):=by
  unfold ZpZ;simp only[Zom,ZIG];rw[ZII hpv,ZII h00];simp only[Zol,Zok,Zom];have hd0:(D.set a D[pv]).set pv D[a]=sw D a pv h00 hpv:=rfl;rw[hd0];have hlen:=ZzM (d:=D) h00 hpv;have hg0:(sw D a pv h00 hpv)[a]? =some D[pv]:=by
   rw[Zxr h00 hpv a h00]
   by_cases e:a=pv
   ·subst e;rw[if_pos rfl]
   ·rw[if_neg e,if_pos rfl]
  have hperm:=ZzL (d:=D) h00 hpv (ZIS a) (show a < b by omega) h1 h2;generalize sw D a pv h00 hpv=d at hlen hg0 hperm;haveI:Gds d:=hperm.gds;generalize D[pv]=p at hg0;refine⟨ZpA ⟨by omega,by omega⟩,ZpA ⟨by omega,by omega⟩,ZpA ⟨by omega,by omega⟩,ZpA ⟨by omega,by rw[ZIM];omega⟩,Zoo (by omega),Zoo (by omega), ?_⟩;have hA:LoE a d p (a+1):=fun k x h1 h2 hx=>by
   obtain rfl:k=a:=by omega
   rw[hg0]at hx;rw[←ZIZ hx];have:=Zzu p p;omega
  have hB:HiE b d p (b - 1):=fun k x hk hkb hx=>by omega
  have:=ZB4 (D:=D) hn (d0:=d) (i0:=a+1) (j0:=b - 1) hg0 (by omega) (by omega) (by omega) hb hA hB hperm;rw[show ((b - 1:Nat):Int)=(b:Int) - 1 by omega,show ((a+1:Nat):Int)=(a:Int)+1 by omega]at this;refine Zow this ?_;rintro⟨m,d'⟩ ⟨r1,r2⟩;unfold ZqN;dsimp only;rw[Zok];exact⟨r1,r2⟩
 unfold ZpG;rw[Zol];refine Zow Ze fun x hx=> ?_
 have hx2:=hx;obtain⟨⟨m,e,h3,h4,h5,h6⟩,h7⟩:=hx;rw[Zom,Zok];exact⟨by rw[h5.len];simp,hx2⟩
end Go.Proofs
namespace Go.Proofs
open Go Eng
def Le (a b:En1):Prop:=Zxe a b≤0
theorem Le.trans {a b c:En1} (h1:Le a b) (h2:Le b c):Le a c:=by
 unfold Le at*
 by_cases e:Zxe a b=0
 ·rw[ZDA e];exact h2
 ·by_cases e2:Zxe b c=0
  ·have h3:=ZDA (a:=b) (b:=c) (c:=a) e2;have n1:=Zzu a c;have n2:=Zzu a b;omega
  ·have:=ZB5 (show Zxe a b < 0 by omega) (show Zxe b c < 0 by omega);omega
theorem ZvW {a b:En1} (h:¬Zxe a b < 0):Le b a:=by have:=Zzu a b;unfold Le;omega
theorem Le.of_lt {a b:En1} (h:Zxe a b < 0):Le a b:=Int.le_of_lt h
theorem Le.rfl' (a:En1):Le a a:=by have:=Zzu a a;unfold Le;omega
def Hx (f lo hi:Nat) (d:List En1) (r:Option Nat):Prop:=∀k c x y,lo≤k→some k≠r→(c=2*k+1∨c=2*k+2)→c < hi→d[f+k]? =some x→d[f+c]? =some y→Le y x
def Gp (f lo hi:Nat) (d:List En1) (r:Nat):Prop:=∀q c x y,lo≤q→(r=2*q+1∨r=2*q+2)→(c=2*r+1∨c=2*r+2)→c < hi→d[f+q]? =some x→d[f+c]? =some y→Le y x
theorem ZCm {f lo hi r ch:Nat} {d:List En1} (hr:f+r < d.length) (hc:f+ch < d.length) (hlr:lo≤r) (hch:ch=2*r+1∨ch=2*r+2) (hchi:ch < hi) (h1:Hx f lo hi d (some r)) (h2:Gp f lo hi d r) (hlt:Zxe d[f+r] d[f+ch] < 0) (hbig:∀c y,(c=2*r+1∨c=2*r+2)→c < hi→d[f+c]? =some y→Le y d[f+ch]):
  Hx f lo hi (sw d (f+r) (f+ch) hr hc) (some ch)∧Gp f lo hi (sw d (f+r) (f+ch) hr hc) ch:=by
 have bound:∀k z,(sw d (f+r) (f+ch) hr hc)[f+k]? =some z→f+k < d.length:=fun k z hz=>by
  have:=(ZIK.1 hz).1
  rwa [ZzM]at this
 refine⟨fun k c x y hk hkr hcc hcl hx hy=> ?_,fun q c x y hq hqr hcc hcl hx hy=> ?_⟩
 ·have hkc:k≠ch:=fun e=>hkr (by rw[e])
  have bx:=bound k x hx;have bY:=bound c y hy;rw[Zxr hr hc _ bx,if_neg (by omega)]at hx;rw[Zxr hr hc _ bY]at hy
  by_cases e:k=r
  ·subst e;rw[if_pos rfl]at hx;obtain rfl:=ZIZ hx
   by_cases e2:c=ch
   ·subst e2;rw[if_pos rfl]at hy;rw[←ZIZ hy];exact .of_lt hlt
   ·rw[if_neg (by omega),if_neg (by omega)]at hy;exact hbig c y hcc hcl hy
  ·rw[if_neg (by omega)]at hx;rw[if_neg (show ¬f+c=f+ch by omega)]at hy
   by_cases e2:c=r
   ·subst e2;rw[if_pos rfl]at hy;rw[←ZIZ hy];exact h2 k ch x _ hk hcc hch hchi hx (ZII hc)
   ·rw[if_neg (by omega)]at hy;exact h1 k c x y hk (fun h=>e (ZIZ h)) hcc hcl hx hy
 ·obtain rfl:q=r:=by omega
  have bx:=bound q x hx;have bY:=bound c y hy;rw[Zxr hr hc _ bx,if_neg (by omega),if_pos rfl]at hx;rw[Zxr hr hc _ bY,if_neg (by omega),if_neg (by omega)]at hy;obtain rfl:=ZIZ hx;exact h1 ch c _ y (by omega) (fun h=>by have:=ZIZ h;omega) hcc hcl (ZII hc) hy
theorem ZCn {D:List En1} [Gds D] (hn:D.length≤1000) {f lo hi:Nat} (hhi:f+hi≤D.length) (hlo1:lo≤1000) (hH:Hx f lo hi D (some lo)):
  wp (Zo5 D (lo:Int) (hi:Int) (f:Int)) (fun d=>Rg f (f+hi) D d∧Hx f lo hi d none):=by
 have Ze:wp (Zq2 D (lo:Int) (hi:Int) (f:Int)) (fun d=>Rg f (f+hi) D d∧Hx f lo hi d none):=by
  unfold Zq2;rw[Zol];refine Zow (Q:=fun x=>∃d,(x= .ret d∨x= .brk d)∧Rg f (f+hi) D d∧Hx f lo hi d none) ?_ ?_
  ·by_cases hlo:lo < hi
   ·refine Zrk ZwC (fun s:Nat×List En1=>((hi:Int),(f:Int),(s.1:Int),s.2)) (fun s=>lo≤s.1∧s.1 < hi∧Rg f (f+hi) D s.2∧Hx f lo hi s.2 (some s.1)∧Gp f lo hi s.2 s.1) (fun s=>hi - s.1)
     (Q:=fun x=>∃d,(x= .ret d∨x= .brk d)∧Rg f (f+hi) D d∧Hx f lo hi d none) (lo,D) ⟨ZIS _,hlo,.refl _ _ _,hH,fun q c x y hq hqr=>by omega⟩ (by dsimp only;omega) ?_
    rintro rec ⟨r,d⟩ ⟨h1,h2,h3,h4,h5⟩ ih;dsimp only at h1 h2 h3 h4 h5 ih;have hl:=h3.len;haveI:=h3.gds;unfold ZtI Zpi;dsimp only;rw[Zom,Zom,show 2*(r:Int)+1=((2*r+1:Nat):Int) by omega];refine⟨Zoo (by omega),Zoo (by omega), ?_⟩;have step:∀ch:Nat,(ch=2*r+1∨ch=2*r+2)→ch < hi→(∀hc:f+ch < d.length,∀c y,(c=2*r+1∨c=2*r+2)→c < hi→d[f+c]? =some y→Le y d[f+ch])→
      wp (Zpw (fun a1 a2 a3 a4=>rec (a1,a2,a3,a4)) (hi:Int) (f:Int) (r:Int) (ch:Int) d) (fun x=>∃d,(x= .ret d∨x= .brk d)∧Rg f (f+hi) D d∧Hx f lo hi d none):=by
     intro ch hch hchi hbig;have hr:f+r < d.length:=by omega
     have hc:f+ch < d.length:=by omega
     unfold Zpw;rw[show (f:Int)+(r:Int)=((f+r:Nat):Int) by omega,show (f:Int)+(ch:Int)=((f+ch:Nat):Int) by omega,Zom,Zom,ZIG,ZIG,ZII hr,Zol,Zok,Zom,Zom,ZII hc,Zol,Zok,Zv5,Zol,Zok];refine⟨Zoo (by omega),ZoU hr,Zoo (by omega),ZoU hc, ?_⟩
     by_cases ho:Zxe d[f+r] d[f+ch] < 0
     ·rw[decide_eq_true ho,ZIE,cond_false];simp only[Zom,Zol,Zok];refine⟨Zoo (by omega),Zoo (by omega),Zoo (by omega),ZoU hc,Zoo (by omega),ZoU hr,ZoU hr,ZpA ⟨by omega,by rw[ZIM];omega⟩, ?_⟩;obtain⟨s1,s2⟩:=ZCm hr hc h1 hch hchi h4 h5 ho (hbig hc);exact ih (ch,sw d (f+r) (f+ch) hr hc) ⟨by dsimp only;omega,hchi,h3.trans (ZzL hr hc (by omega) (by omega) (by omega) (by omega)),s1,s2⟩ (by dsimp only;omega)
     ·rw[decide_eq_false ho,ZFw,cond_true,Zok];refine⟨d,.inl rfl,h3,fun k c x y hk _ hcc hcl hx hy=> ?_⟩
      by_cases e:k=r
      ·subst e;rw[ZII hr]at hx;rw[←ZIZ hx];exact(hbig hc c y hcc hcl hy).trans (ZvW ho)
      ·exact h4 k c x y hk (fun h=>e (ZIZ h)) hcc hcl hx hy
    by_cases hge:hi≤2*r+1
    ·rw[decide_eq_true (show ((2*r+1:Nat):Int)≥(hi:Int) by omega),cond_true,Zok];refine⟨d,.inr rfl,h3,fun k c x y hk _ hcc hcl hx hy=> ?_⟩
     by_cases e:k=r
     ·omega
     ·exact h4 k c x y hk (fun h=>e (ZIZ h)) hcc hcl hx hy
    ·rw[decide_eq_false (show ¬((2*r+1:Nat):Int)≥(hi:Int) by omega),cond_false,Zom,show ((2*r+1:Nat):Int)+1=((2*r+2:Nat):Int) by omega];refine⟨Zoo (by omega), ?_⟩;have hc1:f+(2*r+1) < d.length:=by omega
     unfold Zqp
     by_cases h22:2*r+2 < hi
     ·have hc2:f+(2*r+2) < d.length:=by omega
      rw[decide_eq_true (show ((2*r+2:Nat):Int) < (hi:Int) by omega),cond_true,show (f:Int)+((2*r+1:Nat):Int)=((f+(2*r+1):Nat):Int) by omega,show ((f+(2*r+1):Nat):Int)+1=((f+(2*r+2):Nat):Int) by omega,show ((2*r+1:Nat):Int)+1=((2*r+2:Nat):Int) by omega];rw[Zom,Zom,ZIG,ZIG,ZII hc1,Zol,Zok,Zom,Zom,Zom,ZII hc2,Zol,Zok,Zv5,Zol,Zok];refine⟨Zoo (by omega),ZoU hc1,Zoo (by omega),Zoo (by omega),ZoU hc2, ?_⟩
      by_cases ho:Zxe d[f+(2*r+1)] d[f+(2*r+2)] < 0
      ·rw[decide_eq_true ho,cond_true,Zom];refine⟨Zoo (by omega),step (2*r+2) (.inr rfl) h22 fun hc c y hcc hcl hy=> ?_⟩;rcases hcc with rfl |rfl
       ·rw[ZII hc1]at hy;rw[←ZIZ hy];exact .of_lt ho
       ·rw[ZII hc2]at hy;rw[←ZIZ hy];exact .rfl' _
      ·rw[decide_eq_false ho,cond_false];refine step (2*r+1) (.inl rfl) (by omega) fun hc c y hcc hcl hy=> ?_
       rcases hcc with rfl |rfl
       ·rw[ZII hc1]at hy;rw[←ZIZ hy];exact .rfl' _
       ·rw[ZII hc2]at hy;rw[←ZIZ hy];exact ZvW ho
     ·rw[decide_eq_false (show ¬((2*r+2:Nat):Int) < (hi:Int) by omega),cond_false,cond_false];refine step (2*r+1) (.inl rfl) (by omega) fun hc c y hcc hcl hy=> ?_
      obtain rfl:c=2*r+1:=by omega
      rw[ZII hc1]at hy;rw[←ZIZ hy];exact .rfl' _
   ·obtain⟨n,hbig⟩:=ZA5 1 (by omega);rw[hbig];show wp (Zpi _ (hi:Int) (f:Int) (lo:Int) D) _;unfold Zpi;rw[Zom,Zom,decide_eq_true (show 2*(lo:Int)+1≥(hi:Int) by omega),cond_true,Zok];exact⟨Zoo (by omega),Zoo (by omega),D,.inr rfl,.refl _ _ _,fun k c x y hk _ hcc hcl _ _=>by omega⟩
  ·rintro x ⟨d,rfl |rfl,h⟩
   ·dsimp only;rw[Zok];exact h
   ·unfold Zr0;dsimp only;rw[Zok];exact h
 unfold Zo5;rw[Zol];refine Zow Ze fun d hd=> ?_
 rw[Zom,Zok];exact⟨by rw[hd.1.len];simp,hd⟩
end Go.Proofs
