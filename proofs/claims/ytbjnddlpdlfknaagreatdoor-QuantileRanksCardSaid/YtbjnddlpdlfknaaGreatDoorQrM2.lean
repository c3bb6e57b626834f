/- Plain laws over the specs, part 2. -/
import Derived.Test.YtbjnddlpdlfknaaGreatDoorQrM1
import Derived.Test.YtbjnddlpdlfknaaGreatDoorQ
import Derived.Test.YtbjnddlpdlfknaaGreatDoorE4
import Derived.Test.YtbjnddlpdlfknaaGreatDoorQrU
set_option linter.unusedVariables false
set_option linter.unusedSimpArgs false
set_option linter.unusedSectionVars false
open Int renaming toNat_natCast→ZDn, natCast_nonneg→ZDm, eq_ofNat_of_zero_le→ZA9
open List renaming length_map→ZDt, getElem_mem→ZDs, getElem_map→ZDr, getElem?_eq_getElem→ZDq, eq_nil_of_length_eq_zero→ZDo, getElem?_cons_zero→ZDp
open Nat renaming zero_le→ZDx, lt_or_eq_of_le→ZDw, div_lt_iff_lt_mul→ZDu, le_of_lt_succ→ZDv
open Option renaming bind_some→ZDy
namespace Go.Proofs
open Go Eng
theorem ZBa {a b k:Nat} (hb:b < 2 ^ k):(a*2 ^ k)|||b=a*2 ^ k+b:=by rw[Nat.mul_comm,Nat.two_pow_add_eq_or_of_lt hb]
theorem ZA5 {a s:Nat} (h:a*2 ^ s < 18446744073709551616) (hs:s≤64):shlK .u64 (a:Int) (s:Int)=((a*2 ^ s:Nat):Int):=by
 unfold shlK;rw[show IntKind.bits .u64=64 from rfl,ZDn,Nat.min_eq_left hs,IntKind.wrap_u64];have:(a:Int)*(2:Int) ^ s=((a*2 ^ s:Nat):Int):=by norm_cast
 rw[this];omega
theorem ZyA {a s:Nat} (hs:s≤64):shlK .u64 (a:Int) (s:Int)=((a*2 ^ s % 18446744073709551616:Nat):Int):=by
 unfold shlK;rw[show IntKind.bits .u64=64 from rfl,ZDn,Nat.min_eq_left hs,IntKind.wrap_u64];have:(a:Int)*(2:Int) ^ s=((a*2 ^ s:Nat):Int):=by norm_cast
 rw[this];omega
theorem sm1 {u:Nat} (h:u≤9):u*4294967296 < 18446744073709551616:=by omega
theorem sm2 (u:Nat):(u:Int)*4294967296=((u*4294967296:Nat):Int):=by omega
theorem sm4 (u:Nat):(u:Int) - ((0:Nat):Int)=(u:Int):=by omega
theorem sm5 (u:Nat):((0:Nat):Int)*(u:Int)=((0:Nat):Int):=by omega
theorem Zyp {u B y' T:Nat} (s:Nat) (hun:u≤9) (hB2:B < 18446744073709551616) (hy1:9223372036854775808≤y') (hy2:y' < 18446744073709551616) (hT9:T < 10) (hTl:T*y'≤u*18446744073709551616+B) (hTg:u*18446744073709551616+B < (T+1)*y'):
  wp ((Zql big (y':Int) (s:Int) ((y' / 4294967296:Nat):Int) ((y' % 4294967296:Nat):Int) (u:Int) ((B / 4294967296:Nat):Int) ((B % 4294967296:Nat):Int) ((0:Nat):Int) (u:Int)).bind fun(x0,x1,x2,x3,x4,x5,x6,x7)=>Zsz x0 x1 x2 x3 x4 x5 x6 x7)
   (fun x=>x.1=(T:Int)):=by
 have hyn:2147483648≤y' / 4294967296∧y' / 4294967296 < 4294967296:=by omega
 have hUlt:u*4294967296+B / 4294967296 < 18446744073709551616:=by clear hy1 hy2 hTl hTg hyn;omega
 have hU:(u*18446744073709551616+B)=(u*4294967296+B / 4294967296)*4294967296+B % 4294967296:=by omega
 have l1:wp (Zql big (y':Int) (s:Int) ((y' / 4294967296:Nat):Int) ((y' % 4294967296:Nat):Int) (u:Int) ((B / 4294967296:Nat):Int) ((B % 4294967296:Nat):Int) ((0:Nat):Int) (u:Int)) (fun x=>x=((y':Int),(s:Int),((y' / 4294967296:Nat):Int),((y' % 4294967296:Nat):Int),(u:Int),((B / 4294967296:Nat):Int),((B % 4294967296:Nat):Int),((0:Nat):Int))):=by obtain⟨n,hn⟩:=ZxF 1 (by omega);rw[hn];show wp (Ztk _ _ _ _ _ _ _ _ _ _) _;unfold Ztk ZsB;rw[show decide (((0:Nat):Int)≥4294967296)=false from rfl,cond_false,ZwD,Nat.zero_mul,ZnH (by decide),show (4294967296*(u:Int))=((4294967296*u:Nat):Int) by omega,ZnH (a:=4294967296*u) (by omega),Zv2,ZnH (by omega),decide_eq_false (by omega),cond_false,ZnC]
 have hdm:=Nat.div_add_mod' (u*4294967296+B / 4294967296) (y' / 4294967296);have hml:=Nat.mod_lt (u*4294967296+B / 4294967296) (show 0 < y' / 4294967296 by omega);have hg:(u*4294967296+B / 4294967296) / (y' / 4294967296) < 21:=(ZDu (by omega)).2 (by
  obtain⟨e,_⟩:=hyn;clear hy1 hy2 hTl hTg hUlt hU l1 hdm hml;generalize y' / 4294967296=w at e⊢
  omega)
 have hTq:T≤(u*4294967296+B / 4294967296) / (y' / 4294967296):=by
  rw[Nat.le_div_iff_mul_le (by omega)];have h1:T*(y' / 4294967296*4294967296)≤T*y':=Nat.mul_le_mul_left _ (by omega);rw[←Nat.mul_assoc]at h1;have h2:=Nat.le_trans h1 hTl;clear hTl hTg hT9 hg hml hdm l1 hyn hy1 hy2 h1;generalize T*(y' / 4294967296)=z at h2⊢
  omega
 rw[hU]at hTl hTg;have l2:=ZAv (y':=y') (s:=s) (q1:=0) hyn.1 hyn.2 (Nat.mod_lt y' (by decide)) (Nat.mod_lt B (by decide)) (Nat.div_add_mod' y' 4294967296).symm hTl hTg (Nat.le_trans (ZDv hg) (by decide)) hdm (Nat.lt_trans hml hyn.2) hTq;rw[ZnD];refine ZnT l1 ?_;rintro _ rfl;dsimp only;unfold Zsz;rw[sm5,show IntKind.wrap .u64 ((0:Nat):Int)=((0:Nat):Int)from by decide,sm2,ZnH (sm1 hun),Zv2,ZnH hUlt,sm4,ZnH hUlt];clear hTl hTg l1 hU;generalize u*4294967296+B / 4294967296=U at*
 have etd:Int.tdiv (U:Int) ((y' / 4294967296:Nat):Int)=((U / (y' / 4294967296):Nat):Int):=rfl;have hle:U / (y' / 4294967296)*(y' / 4294967296)≤U:=Nat.div_mul_le_self _ _;have esub:(U:Int) - ((U / (y' / 4294967296)*(y' / 4294967296):Nat):Int)=((U % (y' / 4294967296):Nat):Int):=by
  have h3:=hdm;generalize U / (y' / 4294967296)*(y' / 4294967296)=z at h3⊢
  generalize U % (y' / 4294967296)=v at h3⊢
  rw[←h3,Int.natCast_add,Int.add_comm,Int.add_sub_cancel]
 rw[etd,ZnH (Nat.lt_trans hg (by decide)),ZwD,ZnH (Nat.lt_of_le_of_lt hle hUlt),esub,ZnH (Nat.lt_trans hml (by omega)),ZnF,ZnD];refine⟨decide_eq_true (by omega),ZnT l2 ?_⟩;rintro _ rfl;dsimp only;unfold Zub;rw[ZnF,ZnC];refine⟨decide_eq_true (by omega), ?_⟩;dsimp only;rw[show ((0:Nat):Int)*4294967296=((0:Nat):Int) by omega,show IntKind.wrap .u64 ((0:Nat):Int)=((0:Nat):Int)from by decide,Zv2,Nat.zero_add,ZnH (Nat.lt_trans hT9 (by decide))]
theorem ZyB {hi lo y s:Nat} (hlo:lo < 18446744073709551616) (hN:hi*18446744073709551616+lo < 10*y) (hs:s≤8) (hs2:y*2 ^ s < 18446744073709551616):
  (hi*18446744073709551616+lo)*2 ^ s=(hi*2 ^ s+lo / 2 ^ (64 - s))*18446744073709551616+lo*2 ^ s % 18446744073709551616∧(hi*18446744073709551616+lo)*2 ^ s < 10*(y*2 ^ s)∧hi*2 ^ s+lo / 2 ^ (64 - s)≤9∧lo / 2 ^ (64 - s) < 2 ^ s:=by
 have hp:2 ^ s*2 ^ (64 - s)=18446744073709551616:=by rw[←Nat.pow_add,show s+(64 - s)=64 by omega]
 have hpos:0 < 2 ^ s:=Nat.pow_pos (by decide);have hpos2:0 < 2 ^ (64 - s):=Nat.pow_pos (by decide);have hNs:(hi*18446744073709551616+lo)*2 ^ s < 10*(y*2 ^ s):=by rw[←Nat.mul_assoc];exact Nat.mul_lt_mul_of_pos_right hN hpos
 have hlt2:lo / 2 ^ (64 - s) < 2 ^ s:=by rw[ZDu hpos2,hp];exact hlo
 have hsplit:lo*2 ^ s=lo / 2 ^ (64 - s)*18446744073709551616+lo*2 ^ s % 18446744073709551616:=by
  have h1:lo*2 ^ s / 18446744073709551616=lo / 2 ^ (64 - s):=by rw[←hp,Nat.mul_comm lo,Nat.mul_div_mul_left _ _ hpos]
  have h2:=Nat.div_add_mod' (lo*2 ^ s) 18446744073709551616;rw[h1]at h2;exact h2.symm
 have hN':(hi*18446744073709551616+lo)*2 ^ s=(hi*2 ^ s+lo / 2 ^ (64 - s))*18446744073709551616+lo*2 ^ s % 18446744073709551616:=by rw[Nat.add_mul,Nat.mul_right_comm,Nat.add_mul,Nat.add_assoc,←hsplit]
 refine⟨hN',hNs, ?_,hlt2⟩;rw[hN']at hNs;generalize hi*2 ^ s+lo / 2 ^ (64 - s)=u at hNs⊢
 generalize lo*2 ^ s % 18446744073709551616=B at hNs;generalize y*2 ^ s=y' at hNs hs2;omega
theorem ZyS {hi lo y:Nat} (hlo:lo < 18446744073709551616) (hhi:1≤hi) (hN:hi*18446744073709551616+lo < 10*y) (hy:y < 9223372036854775808):
  ∃r,ZoT (hi:Int) (lo:Int) (y:Int)=some ((((hi*18446744073709551616+lo) / y:Nat):Int),r):=by
 obtain⟨s,hs,hl,hs1,hs2⟩:=ZBf (y:=y) (by omega) hy;obtain⟨hN',hNs,hun,hlt2⟩:=ZyB hlo hN hs hs2;have hpos:0 < 2 ^ s:=Nat.pow_pos (by decide);have hiB:hi*2 ^ s < 18446744073709551616:=by
  generalize hi*2 ^ s=z at hun⊢
  generalize lo / 2 ^ (64 - s)=w at hun;omega
 have hB2:lo*2 ^ s % 18446744073709551616 < 18446744073709551616:=Nat.mod_lt _ (by decide);have eL:shrK .u64 (lo:Int) (IntKind.wrap .u64 (64 - IntKind.wrap .u64 (s:Int)))=((lo / 2 ^ (64 - s):Nat):Int):=by rw[ZnH (by omega),show (64:Int) - (s:Int)=((64 - s:Nat):Int) by omega,ZnH (by omega),ZuI (64 - s) (by omega)]
 have ey:shlK .u64 (y:Int) (s:Int)=((y*2 ^ s:Nat):Int):=ZA5 hs2 (by omega);have ehi:shlK .u64 (hi:Int) (s:Int)=((hi*2 ^ s:Nat):Int):=ZA5 hiB (by omega);have elo:shlK .u64 (lo:Int) (s:Int)=((lo*2 ^ s % 18446744073709551616:Nat):Int):=ZyA (by omega);have eor:orK .u64 ((hi*2 ^ s:Nat):Int) ((lo / 2 ^ (64 - s):Nat):Int)=((hi*2 ^ s+lo / 2 ^ (64 - s):Nat):Int):=by rw[ZzF hiB (Nat.lt_of_le_of_lt (Nat.div_le_self _ _) hlo),ZBa hlt2]
 have e64:IntKind.wrap .u64 (64 - IntKind.wrap .u64 (s:Int))=((64 - s:Nat):Int):=by rw[ZnH (by omega),show (64:Int) - (s:Int)=((64 - s:Nat):Int) by omega,ZnH (by omega)]
 have hQ:((hi*2 ^ s+lo / 2 ^ (64 - s))*18446744073709551616+lo*2 ^ s % 18446744073709551616) / (y*2 ^ s)=(hi*18446744073709551616+lo) / y:=by rw[←hN',Nat.mul_div_mul_right _ _ hpos]
 have hT9:(hi*18446744073709551616+lo) / y < 10:=(ZDu (by omega)).2 hN;have hpos3:0 < y*2 ^ s:=Nat.lt_of_lt_of_le (by decide) hs1;have ht:=Zyp (u:=hi*2 ^ s+lo / 2 ^ (64 - s)) (B:=lo*2 ^ s % 18446744073709551616) (y':=y*2 ^ s) (T:=(hi*18446744073709551616+lo) / y) s hun hB2 hs1 hs2 hT9 (by rw[←hQ];exact Nat.div_mul_le_self _ _) (by rw[←hQ];exact Nat.lt_mul_of_div_lt (Nat.lt_succ_self _) hpos3);have hq1:Int.tdiv ((hi*2 ^ s+lo / 2 ^ (64 - s):Nat):Int) ((y*2 ^ s / 4294967296:Nat):Int)=((0:Nat):Int):=by
  show (((hi*2 ^ s+lo / 2 ^ (64 - s)) / (y*2 ^ s / 4294967296):Nat):Int)=_;rw[Nat.div_eq_of_lt];generalize hi*2 ^ s+lo / 2 ^ (64 - s)=u at hun⊢
  generalize y*2 ^ s=y' at hs1⊢
  omega
 have hyn:(((y*2 ^ s / 4294967296:Nat):Int))≠0:=by
  generalize y*2 ^ s=y' at hs1⊢
  omega
 have hu64:hi*2 ^ s+lo / 2 ^ (64 - s) < 18446744073709551616:=Nat.lt_of_le_of_lt hun (by decide)
 suffices h:wp (ZoT (hi:Int) (lo:Int) (y:Int)) (fun x=>x.1=(((hi*18446744073709551616+lo) / y:Nat):Int)) by obtain⟨⟨a,r⟩,hx,ha⟩:=h;dsimp only at ha;subst ha;exact⟨r,hx⟩
 have hyhi:¬(y:Int)≤(hi:Int):=by clear hN' hNs hun hQ ht hq1 hyn hu64 hs1 hs2 hiB eL ey ehi elo eor;omega
 have hy0:((y:Int) == 0)=false:=beq_eq_false_iff_ne.2 (by clear hN' hNs hun hQ ht hq1 hyn hu64 hs1 hs2 hiB eL ey ehi elo eor;omega);have hhi0:((hi:Int) == 0)=false:=beq_eq_false_iff_ne.2 (by clear hN' hNs hun hQ ht hq1 hyn hu64 hs1 hs2 hiB eL ey ehi elo eor;omega);unfold ZoT;rw[hy0,cond_false,decide_eq_false hyhi,cond_false,hhi0,cond_false,hl,ZnD,ZnC,ZnF,ZnF,ZnF,ZnF,ZnF,ZnF,ZnF,e64];rw[e64]at eL;rw[eL,ZnH (show s < 18446744073709551616 by omega),ey,ehi,elo,eor,Zzb,Zzb,ZwI hs2,ZwI hB2,hq1,show IntKind.wrap .u64 ((0:Nat):Int)=((0:Nat):Int)from by decide,ZwD,Nat.zero_mul,show IntKind.wrap .u64 ((0:Nat):Int)=((0:Nat):Int)from by decide,
  show ((hi*2 ^ s+lo / 2 ^ (64 - s):Nat):Int) - ((0:Nat):Int)=((hi*2 ^ s+lo / 2 ^ (64 - s):Nat):Int)from Int.sub_zero _,ZnH hu64]
 exact⟨decide_eq_true (ZDm _),rfl,decide_eq_true (ZDm _),decide_eq_true (ZDm _),decide_eq_true (ZDm _),rfl,decide_eq_true hyn,ht⟩
theorem Zzv {hi lo y:Nat} (hlo:lo < 18446744073709551616) (hN:hi*18446744073709551616+lo < 10*y) (hy:y < 9223372036854775808):
  ∃r,ZoT (hi:Int) (lo:Int) (y:Int)=some ((((hi*18446744073709551616+lo) / y:Nat):Int),r):=by
 rcases Nat.eq_zero_or_pos hi with rfl |h
 ·rw[Nat.zero_mul,Nat.zero_add]at hN⊢
  have h9:lo / y < 10:=by rw[ZDu (by omega)];omega
  unfold ZoT;rw[show ((y:Int) == 0)=false from beq_eq_false_iff_ne.2 (by omega),cond_false,decide_eq_false (show ¬(y:Int)≤((0:Nat):Int) by omega),cond_false,show (((0:Nat):Int) == 0)=true from rfl,cond_true,decide_eq_true (show (y:Int)≠0 by omega),chk_true,chk_true,
   show Int.tdiv (lo:Int) (y:Int)=((lo / y:Nat):Int)from rfl,ZnH (by omega)]
  exact⟨_,rfl⟩
 ·exact ZyS hlo h hN hy
theorem Zzg {l:List Rat} (hl:l.length < 10) (h0:0 < l.length) (hs:∀q∈l,Sz 40 q) {p n:Nat} (hn:0 < n) (hn2:n < 9223372036854775808) (hp:p≤n):
  Zoj (l.map fOf) (p:Int) (n:Int)=some (fOf (gR l (rk l.length p n)),0):=by
 have hlt:=Zze hn h0 hp;have hq:l[rk l.length p n]∈l:=ZDs hlt;have hm:l.length*p≤9*n:=Nat.mul_le_mul (by omega) hp;unfold Zoj;rw[decide_eq_false (show ¬(n:Int) < 1 by omega),cond_false,decide_eq_false (show ¬(p:Int) < 0 by omega),cond_false,decide_eq_false (show ¬(p:Int) > (n:Int) by omega)];unfold Zpk;rw[cond_false,ZDt,show ((l.length:Int) == 0)=false from beq_eq_false_iff_ne.2 (by omega),cond_false,ZnH (a:=l.length) (by omega),ZnH (a:=p) (by omega),Zzk (by omega) (by omega),ZDy];dsimp only;rw[show (n:Int) - 1=((n - 1:Nat):Int) by omega,ZnH (a:=n - 1) (by omega),ZnG (by omega),chk_true];generalize hM:l.length*p=M at*
 unfold ZsS;rw[show decide ((0:Int)≤0∧(0:Int)≤1)=true from rfl,chk_true,ZDy];dsimp only;have e1:((M % 18446744073709551616:Nat):Int)+((n - 1:Nat):Int)+0=((M % 18446744073709551616+(n - 1):Nat):Int):=by omega
 rw[e1,show (((M % 18446744073709551616+(n - 1):Nat):Int) % 18446744073709551616)=(((M % 18446744073709551616+(n - 1)) % 18446744073709551616:Nat):Int) by omega,
  show (((M % 18446744073709551616+(n - 1):Nat):Int) / 18446744073709551616)=(((M % 18446744073709551616+(n - 1)) / 18446744073709551616:Nat):Int) by omega,Zv2,ZnH (by omega),ZnH (a:=n) (by omega)]
 have hN:(M / 18446744073709551616+(M % 18446744073709551616+(n - 1)) / 18446744073709551616)*18446744073709551616+(M % 18446744073709551616+(n - 1)) % 18446744073709551616=M+(n - 1):=by omega
 obtain⟨r,hr⟩:=Zzv (hi:=M / 18446744073709551616+(M % 18446744073709551616+(n - 1)) / 18446744073709551616) (lo:=(M % 18446744073709551616+(n - 1)) % 18446744073709551616) (y:=n) (Nat.mod_lt _ (by decide)) (by omega) hn2;rw[hN]at hr;rw[hr,ZDy];dsimp only;have h10:(M+(n - 1)) / n < 10:=by rw[ZDu hn];omega
 have hrk:rk l.length p n=max ((M+(n - 1)) / n) 1 - 1:=by unfold rk;rw[hM]
 generalize (M+(n - 1)) / n=K at h10 hrk⊢
 rw[wrap_i64 (by omega)];rw[show (if (1:Int) > (K:Int)then (1:Int)else (K:Int)) - 1=((rk l.length p n:Nat):Int)from by split<;>omega]
 rw[ZnG (by omega),chk_true,ZsZ (by rw[ZDt];exact hlt),ZDy,ZDr,Zs0 hlt];unfold Zwe;have hw:=ZwX (hs _ hq);rw[Ztl (by omega),Ztl (by omega)];rfl
end Go.Proofs
namespace Go.Proofs
open Go Eng
theorem ZyR {a b c d:Int} (hb:0 < b) (hd:0 < d):Rat.divInt a b≤Rat.divInt c d↔a*d≤c*b:=by
 rw[Rat.divInt_eq_div,Rat.divInt_eq_div];have hB:(0:Rat) < (b:Rat):=by rw[show ((0:Rat))=(((0:Int)):Rat)from rfl];exact Rat.intCast_lt_intCast.2 hb
 have hD:(0:Rat) < (d:Rat):=by rw[show ((0:Rat))=(((0:Int)):Rat)from rfl];exact Rat.intCast_lt_intCast.2 hd
 have hBD:=Rat.mul_pos hB hD;have e1:(b:Rat)*((a:Rat) / (b:Rat))=a:=by grind
 have e2:(d:Rat)*((c:Rat) / (d:Rat))=c:=by grind
 have e3:a*d≤c*b↔(a:Rat)*(d:Rat)≤(c:Rat)*(b:Rat):=by rw[←Rat.intCast_mul,←Rat.intCast_mul,Rat.intCast_le_intCast]
 rw[e3];clear e3;generalize (a:Rat) / (b:Rat)=x at e1⊢
 generalize (c:Rat) / (d:Rat)=y at e2⊢
 generalize (a:Rat)=A at*
 generalize (b:Rat)=B at*
 generalize (c:Rat)=C at*
 generalize (d:Rat)=D at*
 subst e1 e2;have e:(y - x)*(B*D)=D*y*B - B*x*D:=by grind
 constructor
 ·intro h;have h1:0≤(y - x)*(B*D):=Rat.mul_nonneg (by grind) (by grind);rw[e]at h1;grind
 ·intro h;apply Rat.not_lt.1;intro hx;have h1:0 < (x - y)*(B*D):=Rat.mul_pos (by grind) hBD;have e':(x - y)*(B*D)=B*x*D - D*y*B:=by grind
  rw[e']at h1;grind
theorem Zzf {n p q i:Nat} (hq:0 < q) (h:i < rk n p q):(i+1)*q < p*n:=by
 unfold rk at h;have h2:i+2≤(n*p+(q - 1)) / q:=by omega
 rw[Nat.le_div_iff_mul_le hq]at h2;rw[Nat.mul_comm p n];have:(i+2)*q=(i+1)*q+q:=by rw[Nat.add_mul,Nat.add_mul];omega
 omega
theorem Zzd {l:List Rat} (hl:l.length < 10) (h0:0 < l.length) {p n:Nat} (hn:0 < n) (hn2:n < 9223372036854775808) (hp:p≤n):
  ZnX (l.map fOf) (p:Int) (n:Int)=some (fOf (gR l (rk l.length p n)),0):=by
 have hlt:=Zze hn h0 hp;refine Zqv ?_;unfold ZnX;rw[decide_eq_false (show ¬(n:Int) < 1 by omega),cond_false,decide_eq_false (show ¬(p:Int) < 0 by omega),cond_false,decide_eq_false (show ¬(p:Int) > (n:Int) by omega)];unfold Zon;rw[cond_false,ZDt,show ((l.length:Int) == 0)=false from beq_eq_false_iff_ne.2 (by omega),cond_false,ZnD];have hpq:Sz 63 (Rat.divInt (p:Int) (n:Int)):=Zwc (k:=63) (by omega) (by omega) (by omega);refine ZnT (Zra Zu2 (fun i:Nat=>(l.map fOf,(p:Int),(n:Int),l.map fOf,(l.length:Int),(i:Int),false,false,([]:List Int),([]:List Int))) (fun i=>i≤rk l.length p n) (fun i=>l.length - i)
  (Q:=fun x=>x= .ret (fOf (gR l (rk l.length p n)),0)) 0 (ZDx _) (by omega) ?_) ?_
 ·rintro rec i hi ih;have hil:i < l.length:=by omega
  unfold Zto Zri;dsimp only;have hsz:Sz 63 (Rat.divInt (((i+1:Nat):Int)) (l.length:Int)):=Zwc (k:=63) (by omega) (by omega) (by omega);have hcmp:Zxe (Rat.divInt (((i+1:Nat):Int)) (l.length:Int)) (Rat.divInt (p:Int) (n:Int))≥0↔p*l.length≤(i+1)*n:=by
   have h1:=ZvX (Rat.divInt (((i+1:Nat):Int)) (l.length:Int)) (Rat.divInt (p:Int) (n:Int));have h2:=ZyR (a:=(p:Int)) (b:=(n:Int)) (c:=((i+1:Nat):Int)) (d:=(l.length:Int)) (by omega) (by omega);rw[←Int.natCast_mul,←Int.natCast_mul]at h2;constructor
   ·intro h;have h3:¬Zxe (Rat.divInt (((i+1:Nat):Int)) (l.length:Int)) (Rat.divInt (p:Int) (n:Int)) < 0:=by omega
    rw[h1]at h3;have:=h2.1 (by grind);omega
   ·intro h;have h3:=h2.2 (by omega);have h4:¬Rat.divInt (((i+1:Nat):Int)) (l.length:Int) < Rat.divInt (p:Int) (n:Int):=by grind
    rw[←h1]at h4;omega
  rw[decide_eq_true (show (i:Int) < (l.length:Int) by omega),cond_true,ZsZ (by rw[ZDt];exact hil),ZnD,ZnC,ZnF,ZDr,←Zs0 hil,ZDt,show (i:Int)+1=((i+1:Nat):Int) by omega,Zwg _ _ (by omega) (by omega) (by omega) (by omega) (by omega),ZnD,ZnC,Zwg _ _ (by omega) (by omega) (by omega) (by omega) (by omega),ZnD,ZnC,
   ZyW (hsz.wq (by omega)) (hpq.wq (by omega)),ZnD,ZnC]
  refine⟨ZnG (by omega), ?_⟩
  by_cases hc:p*l.length≤(i+1)*n
  ·have e:i=rk l.length p n:=by
    rcases ZDw hi with h |h
    ·have:=Zzf hn h;omega
    ·exact h
   rw[decide_eq_true (hcmp.2 hc),cond_true,ZnC,e]
  ·have hne:i≠rk l.length p n:=by rintro rfl;exact hc (ZCW hn)
   rw[decide_eq_false (fun h=>hc (hcmp.1 h)),cond_false,ZnF];exact⟨ZnG (by omega),ih (i+1) (by omega) (by omega)⟩
 ·rintro _ rfl;dsimp only;rw[ZnC]
def Up (bs:List Rat):Prop:=∀i,1≤i→i < bs.length→gR bs (i - 1) < gR bs i
theorem Up.lt {bs:List Rat} (h:Up bs):∀(j i:Nat),i < j→j < bs.length→gR bs i < gR bs j:=by
 intro j
 induction j with
 |zero=>intro i h1;omega
 |succ j ih=>
  intro i h1 h2;have h3:=h (j+1) (by omega) h2;rw[Nat.add_sub_cancel]at h3;rcases ZDw (ZDv h1)with h4 |h4
  ·have:=ih i h4 (by omega);grind
  ·rw[h4];exact h3
theorem ZBp:((List.range 201).all fun s=>decide (IntKind.wrap .i64 (shrK .u64 (IntKind.wrap .u64 (s:Int)) 1)=((s / 2:Nat):Int)))=true:=by kernel_rfl
theorem Zzs {i j:Nat} (h:i+j≤200):IntKind.wrap .i64 (shrK .u64 (IntKind.wrap .u64 ((i:Int)+(j:Int))) 1)=(((i+j) / 2:Nat):Int):=by have:=of_decide_eq_true (List.all_eq_true.1 ZBp (i+j) (List.mem_range.2 (by omega)));rw[show (i:Int)+(j:Int)=((i+j:Nat):Int) by omega];exact this
theorem ZAz {bs:List Rat} (hb:∀q∈bs,Sz 40 q) (h3:bs.length≤100) (hup:Up bs) {x:Rat} (hx:Sz 40 x):
  wp (ZnJ (bs.map fOf) (fOf x)) (fun r=>∃k:Nat,r.1=(k:Int)∧(r.2=true→Zmn bs 0 x (k+1))∧(r.2=false→Zmn bs 0 x k)):=by
 unfold ZnJ;rw[ZDt,ZnD];refine ZnT (Zra Zpm (fun s:Nat×Nat=>(bs.map fOf,(bs.length:Int),(s.1:Int),(s.2:Int),fOf x)) (fun s=>s.1≤s.2∧s.2≤bs.length∧(∀k,k < s.1→gR bs k < x)∧(∀k,s.2≤k→k < bs.length→x≤gR bs k)) (fun s=>s.2 - s.1)
  (Q:=fun r=>∃k:Nat,r=(bs.map fOf,(bs.length:Int),(k:Int),fOf x)∧k≤bs.length∧(∀j,j < k→gR bs j < x)∧(∀j,k≤j→j < bs.length→x≤gR bs j)) (0,bs.length) ⟨ZDx _,Nat.le_refl _,fun k h=>by omega,fun k h1 h2=>by dsimp only at h1;omega⟩ (by dsimp only;omega) ?_) ?_
 ·rintro rec ⟨i,j⟩ ⟨h1,h2,h4,h5⟩ ih;dsimp only at h1 h2 h4 h5 ih;unfold Zoc ZnQ;dsimp only
  by_cases hij:i < j
  ·have hlt:(i+j) / 2 < bs.length:=by omega
   have hq:bs[(i+j) / 2]∈bs:=ZDs hlt;rw[decide_eq_true (show (i:Int) < (j:Int) by omega),cond_true,Zzs (by omega),ZnF,ZnF,ZsZ (by rw[ZDt];exact hlt),ZnD,ZnC,ZDr,Zxu ((hb _ hq).wq (by omega)) (hx.wq (by omega)),ZnD,ZnC];refine⟨ZnG (by omega),rfl, ?_⟩
   by_cases hc:Zxe bs[(i+j) / 2] x < 0
   ·rw[decide_eq_true hc,cond_true,ZnF];rw[ZvX,←Zs0 hlt]at hc;refine⟨ZnG (by omega),ih ((i+j) / 2+1,j) ⟨by dsimp only;omega,h2,fun k hk=> ?_,h5⟩ (by dsimp only;omega)⟩;dsimp only at hk;rcases ZDw (ZDv hk)with h |h
    ·have:=hup.lt _ _ h hlt;grind
    ·rw[h];exact hc
   ·rw[decide_eq_false hc,cond_false];rw[ZvX,←Zs0 hlt]at hc;refine ih (i,(i+j) / 2) ⟨by dsimp only;omega,by dsimp only;omega,h4,fun k hk hk2=> ?_⟩ (by dsimp only;omega);dsimp only at hk;rcases ZDw hk with h |h
    ·have:=hup.lt _ _ h hk2;grind
    ·rw[←h];grind
  ·rw[decide_eq_false (show ¬(i:Int) < (j:Int) by omega),cond_false,ZnC];exact⟨i,rfl,by omega,h4,fun k hk=>h5 k (by omega)⟩
 ·rintro _ ⟨k,rfl,hk,h4,h5⟩;unfold ZnR ZnL;dsimp only
  by_cases h:k < bs.length
  ·have hq:bs[k]∈bs:=ZDs h;have hge:=h5 k (Nat.le_refl _) h;rw[decide_eq_true (show (k:Int) < (bs.length:Int) by omega),cond_true,ZsZ (by rw[ZDt];exact h),ZnD,ZnC,ZDr,Zxu ((hb _ hq).wq (by omega)) (hx.wq (by omega)),ZnD,ZnC,ZnC];refine⟨k,rfl,fun he=> ?_,fun he=> ?_⟩
   ·have hle:gR bs k≤x:=by
     have h6:Zxe bs[k] x=0:=by simpa using he
     have h7:Zxe bs[k] x≤0:=by omega
     rw[Zxz,←Zs0 h]at h7;exact h7
    refine⟨ZDx _,by omega,fun j _ hj=> ?_,fun hj=> ?_⟩
    ·rcases ZDw (ZDv hj)with h8 |h8
     ·have:=h4 j h8;grind
     ·rw[h8];exact hle
    ·have:=hup.lt (k+1) k (Nat.lt_succ_self _) hj;grind
   ·have hne:¬gR bs k≤x:=by
     intro h6;have h7:gR bs k=x:=by grind
     have h8:Zxe bs[k] x=0:=by rw[←Zs0 h,h7];unfold Zxe;rw[if_neg (by grind),if_neg (by grind)]
     simp[h8]at he
    refine⟨ZDx _,by omega,fun j _ hj=> ?_,fun _=>by grind⟩;have:=h4 j hj;grind
  ·rw[decide_eq_false (show ¬(k:Int) < (bs.length:Int) by omega),cond_false,ZnC];refine⟨k,rfl,fun h=>by (cases h),fun _=>⟨ZDx _,hk,fun j _ hj=> ?_,fun hj=>absurd hj h⟩⟩;have:=h4 j hj;grind
end Go.Proofs
namespace Go.Proofs
open Go Eng
theorem ZBd {n:Nat} (h:n≤1000000):mkOk (n:Int) (n:Int) 8=true:=by unfold mkOk ZO;exact decide_eq_true ⟨by omega,by omega,by omega,by omega⟩
open Classical in
noncomputable def pl (bs:List Rat) (x:Rat):Nat:=if h:∃r,Zmn bs 0 x r then h.choose else 0
theorem ZCY {bs:List Rat} {x:Rat} {r:Nat} (h:Zmn bs 0 x r):pl bs x=r:=by unfold pl;rw[dif_pos ⟨r,h⟩];exact(Exists.choose_spec (⟨r,h⟩:∃r,Zmn bs 0 x r)).det h
noncomputable def ZzL (bs:List Rat) (o:List Int) (x:Rat):List Int:=o.set (pl bs x) (o.getD (pl bs x) 0+1)
noncomputable def Zxg (bs l:List Rat):List Int:=l.foldl (ZzL bs) (List.replicate (bs.length+1) 0)
theorem ZyU (bs l:List Rat) (x:Rat):Zxg bs (l++[x])=ZzL bs (Zxg bs l) x:=by unfold Zxg;rw[List.foldl_append];rfl
theorem Zzz (bs:List Rat) (o:List Int) (x:Rat):(ZzL bs o x).length=o.length:=by unfold ZzL;rw[List.length_set]
theorem ZxE (bs:List Rat):∀(l:List Rat) (o:List Int),(l.foldl (ZzL bs) o).length=o.length
 | [],_=>rfl
 |x::l,o=>by rw[List.foldl_cons,ZxE bs l,Zzz]
theorem ZyV (bs:List Rat):∀(l:List Rat) (o:List Int) (k:Nat),(∀v∈o,0≤v∧v≤(k:Int))→∀v∈l.foldl (ZzL bs) o,0≤v∧v≤((k+l.length:Nat):Int)
 | [],o,k,h=>h
 |x::l,o,k,h=>by
  rw[List.foldl_cons,List.length_cons,show k+(l.length+1)=(k+1)+l.length by omega];refine ZyV bs l _ (k+1) fun v hv=> ?_
  have hd:0≤o.getD (pl bs x) 0∧o.getD (pl bs x) 0≤(k:Int):=by
   rw[List.getD_eq_getElem?_getD];cases hg:o[pl bs x]? with
   |none=>simp
   |some w=>
    have:=h w (List.mem_of_getElem? hg);simpa using this
  unfold ZzL at hv;rcases List.mem_or_eq_of_mem_set hv with hv |rfl
  ·have:=h v hv;omega
  ·omega
theorem Zyy {bs:List Rat} {l:List Rat} {k:Nat} (hk:k < l.length) {r:Nat} (hr:Zmn bs 0 l[k] r) (hn:l.length≤1000):
  ∃h:r < (Zxg bs (l.take k)).length,inK .i64 ((Zxg bs (l.take k))[r]+1)=true∧(Zxg bs (l.take k)).set r ((Zxg bs (l.take k))[r]+1)=Zxg bs (l.take (k+1)):=by
 have hlen:(Zxg bs (l.take k)).length=bs.length+1:=by unfold Zxg;rw[ZxE,List.length_replicate]
 have hrl:r < (Zxg bs (l.take k)).length:=by rw[hlen];have:=hr.2.1;omega
 refine⟨hrl, ?_, ?_⟩
 ·have hb:=ZyV bs (l.take k) (List.replicate (bs.length+1) 0) 0 (fun v hv=>by rw[(List.mem_replicate.1 hv).2];omega) _ (ZDs hrl);rw[List.length_take]at hb;generalize hv:(Zxg bs (l.take k))[r]=v at hb⊢
  exact ZnG (by omega)
 ·rw[List.take_succ_eq_append_getElem hk,ZyU];unfold ZzL;rw[ZCY hr,List.getD_eq_getElem?_getD,ZDq hrl];rfl
theorem ZAZ (l:List ZnA) {bs:List Rat} (hb:∀q∈bs,Sz 40 q) (hn:bs.length≤1000) (hup:Up bs):wp (Zph big l (bs.map fOf) 1) (fun x=>x= .brk (l,bs.map fOf)):=by
 by_cases h0:1≤bs.length
 ·exact ZCQ l hb hn hup h0
 ·have:bs=[]:=ZDo (by omega);subst this;obtain⟨n,hn⟩:=ZxF 1 (by omega);rw[hn];exact⟨_,rfl,rfl⟩
theorem Zzu (l:List ZnA) {bs:List Rat} (hb:∀q∈bs,Sz 40 q) (hn:bs.length≤1000) (hup:¬Up bs):wp (Zph big l (bs.map fOf) 1) (fun x=>x= .ret ([],2)):=by
 have hx:∃j,1≤j∧j < bs.length∧¬gR bs (j - 1) < gR bs j:=by apply Classical.byContradiction;intro h;exact hup fun i h1 h2=>Classical.byContradiction fun h3=>h ⟨i,h1,h2,h3⟩
 obtain⟨j,hj1,hj2,hj3⟩:=hx;refine Zra Zuw (fun i:Nat=>(l,bs.map fOf,(i:Int))) (fun i=>1≤i∧i≤j) (fun i=>bs.length - i) (Q:=fun x=>x= .ret ([],2)) 1 ⟨by omega,hj1⟩ (by omega) ?_;rintro rec i ⟨h1,h2⟩ ih;unfold Zti ZrQ;dsimp only;have hi:i < bs.length:=by omega
 have q1:bs[i - 1]∈bs:=ZDs (by omega);have q2:bs[i]∈bs:=ZDs (by omega);rw[decide_eq_true (show (i:Int) < ((bs.map fOf).length:Int) by rw[ZDt];omega),cond_true,ZnF,show (i:Int) - 1=((i - 1:Nat):Int) by omega];refine⟨ZnG (by omega), ?_⟩;rw[ZsZ (by rw[ZDt];omega),ZnD,ZnC,ZsZ (by rw[ZDt];omega),ZnD,ZnC,ZDr,ZDr,
  Zxu ((hb _ q1).wq (by omega)) ((hb _ q2).wq (by omega)),ZnD,ZnC,Zn5]
 refine⟨fun _=>by rw[ZnC],fun hc=> ?_⟩;rw[ZnF];have hc2:Zxe bs[i - 1] bs[i] < 0:=by have:=of_decide_eq_false hc;omega
 rw[ZvX,←Zs0 hi,←Zs0 (show i - 1 < bs.length by omega)]at hc2;have hne:i≠j:=by rintro rfl;exact hj3 hc2
 exact⟨ZnG (by omega),ih (i+1) ⟨by omega,by omega⟩ (by omega)⟩
theorem Zyl {l bs:List Rat} (hl:∀q∈l,Sz 40 q) (hb:∀q∈bs,Sz 40 q) (hn:l.length≤1000) (hbn:bs.length≤64) (hup:Up bs):
  ZoS (l.map fOf) (bs.map fOf)=some (Zxg bs l,0):=by
 refine Zqv ?_;unfold ZoS;rw[decide_eq_false (show ¬((bs.map fOf).length:Int) > 64 by rw[ZDt];omega),cond_false,ZnD];refine ZnT (ZAZ _ hb (by omega) hup) ?_;rintro _ rfl;dsimp only;unfold Zua;rw[ZnF,ZnF,ZnD,ZDt,show ((bs.length:Int)+1)=((bs.length+1:Nat):Int) by omega,ZDn];refine⟨ZnG (by omega),ZBd (n:=bs.length+1) (Nat.le_trans (Nat.succ_le_succ hbn) (by decide)), ?_⟩;refine ZnT (Zw6 ZvT l (by omega) (fun i (o:List Int)=>(bs.map fOf,l.map fOf,((l.map fOf).length:Int),i,o))
  (fun k o=>o=Zxg bs (l.take k)) (Q:=fun x=>x=Zxg bs l) (List.replicate (bs.length+1) 0) rfl ?_ ?_) ?_
 ·rintro rec k o h rfl ih;have hq:l[k]∈l:=ZDs h;have j2:∀m:Nat,Zmn bs 0 l[k] m→wp (Zrf (fun bounds t36 t37 t38 out=>rec (bounds,t36,t37,t38,out)) (bs.map fOf) (m:Int) (l.map fOf) ((l.map fOf).length:Int) (k:Int) (Zxg bs (l.take k))) (fun x=>x=Zxg bs l):=by intro m hm;obtain⟨hlt,hin,he⟩:=Zyy h hm hn;unfold Zrf;rw[ZnF,ZDn,ZDq hlt,ZnD,ZnC,ZnF,ZnF,ZnF];exact⟨Zwv hlt,hin,Zwv hlt,ZnG (by omega),ih _ he⟩
  unfold Zth ZrP;dsimp only;rw[decide_eq_true (show (k:Int) < ((l.map fOf).length:Int) by rw[ZDt];omega),cond_true,ZsZ (by rw[ZDt];exact h),ZnD,ZnC,ZDr,ZnD];refine ZnT (ZAz hb (by omega) hup (hl _ hq)) ?_;rintro⟨k',ok⟩ ⟨m,hk',ht,hf⟩;dsimp only at hk' ht hf⊢
  subst hk';cases ok with
  |true=>
   have:=(ht rfl).2.1;rw[cond_true,ZnF];exact⟨ZnG (by omega),j2 (m+1) (ht rfl)⟩
  |false=>
   rw[cond_false];exact j2 m (hf rfl)
 ·rintro rec o rfl;unfold Zth ZrP;dsimp only;rw[decide_eq_false (show ¬(l.length:Int) < ((l.map fOf).length:Int) by rw[ZDt];omega),cond_false,ZnC,List.take_length]
 ·rintro _ rfl;unfold Zt9;rw[ZnC]
theorem ZAi (l:List ZnA) {bs:List Rat} (hb:∀q∈bs,Sz 40 q) (hn:bs.length≤1000) (hup:Up bs):wp (Zow big l (bs.map fOf) 1) (fun x=>x= .brk (l,bs.map fOf)):=by
 by_cases h0:1≤bs.length
 ·refine Zra ZsJ (fun i:Nat=>(l,bs.map fOf,(i:Int))) (fun i=>1≤i∧i≤bs.length) (fun i=>bs.length - i) (Q:=fun x=>x= .brk (l,bs.map fOf)) 1 ⟨by omega,h0⟩ (by omega) ?_;rintro rec i ⟨h1,h2⟩ ih;unfold ZqW Zpj;dsimp only
  by_cases hi:i < bs.length
  ·have q1:bs[i - 1]∈bs:=ZDs (by omega);have q2:bs[i]∈bs:=ZDs (by omega);have hlt:=hup i h1 hi;rw[Zs0 hi,Zs0 (by omega)]at hlt;rw[decide_eq_true (show (i:Int) < ((bs.map fOf).length:Int) by rw[ZDt];omega),cond_true,ZnF,show (i:Int) - 1=((i - 1:Nat):Int) by omega];refine⟨ZnG (by omega), ?_⟩;rw[ZsZ (by rw[ZDt];omega),ZnD,ZnC,ZsZ (by rw[ZDt];omega),ZnD,ZnC,ZDr,ZDr,
    ZwE ((hb _ q1).wq (by omega)) ((hb _ q2).wq (by omega)),ZnD,ZnC,decide_eq_true hlt,Bool.not_true,cond_false,ZnF]
   exact⟨ZnG (by omega),ih (i+1) ⟨by omega,by omega⟩ (by omega)⟩
  ·rw[decide_eq_false (show ¬(i:Int) < ((bs.map fOf).length:Int) by rw[ZDt];omega),cond_false,ZnC]
 ·have:bs=[]:=ZDo (by omega);subst this;obtain⟨n,hn⟩:=ZxF 1 (by omega);rw[hn];exact⟨_,rfl,rfl⟩
theorem ZyD (l:List ZnA) {bs:List Rat} (hb:∀q∈bs,Sz 40 q) (hn:bs.length≤1000) (hup:¬Up bs):wp (Zow big l (bs.map fOf) 1) (fun x=>x= .ret ([],2)):=by
 have hx:∃j,1≤j∧j < bs.length∧¬gR bs (j - 1) < gR bs j:=by apply Classical.byContradiction;intro h;exact hup fun i h1 h2=>Classical.byContradiction fun h3=>h ⟨i,h1,h2,h3⟩
 obtain⟨j,hj1,hj2,hj3⟩:=hx;refine Zra ZsJ (fun i:Nat=>(l,bs.map fOf,(i:Int))) (fun i=>1≤i∧i≤j) (fun i=>bs.length - i) (Q:=fun x=>x= .ret ([],2)) 1 ⟨by omega,hj1⟩ (by omega) ?_;rintro rec i ⟨h1,h2⟩ ih;unfold ZqW Zpj;dsimp only;have hi:i < bs.length:=by omega
 have q1:bs[i - 1]∈bs:=ZDs (by omega);have q2:bs[i]∈bs:=ZDs (by omega);rw[decide_eq_true (show (i:Int) < ((bs.map fOf).length:Int) by rw[ZDt];omega),cond_true,ZnF,show (i:Int) - 1=((i - 1:Nat):Int) by omega];refine⟨ZnG (by omega), ?_⟩;rw[ZsZ (by rw[ZDt];omega),ZnD,ZnC,ZsZ (by rw[ZDt];omega),ZnD,ZnC,ZDr,ZDr,
  ZwE ((hb _ q1).wq (by omega)) ((hb _ q2).wq (by omega)),ZnD,ZnC,Zn5]
 refine⟨fun _=>by rw[ZnC],fun hc=> ?_⟩;rw[ZnF];have hc2:bs[i - 1] < bs[i]:=by simpa using hc
 rw[←Zs0 hi,←Zs0 (show i - 1 < bs.length by omega)]at hc2;have hne:i≠j:=by rintro rfl;exact hj3 hc2
 exact⟨ZnG (by omega),ih (i+1) ⟨by omega,by omega⟩ (by omega)⟩
theorem ZyC {bs:List Rat} (hb:∀q∈bs,Sz 40 q) (h3:bs.length≤100) {x:Rat} (hx:Sz 40 x) (L:List ZnA) (n k:Int) (o:List Int):
  wp (Zov big (bs.map fOf) 0 L n k o (fOf x)) (fun r=>∃m:Nat,r=(bs.map fOf,(m:Int),L,n,k,o)∧Zmn bs 0 x m):=by
 refine Zra ZuK (fun i:Nat=>(bs.map fOf,(i:Int),L,n,k,o,fOf x)) (fun i=>i≤bs.length∧∀j,j < i→gR bs j≤x) (fun i=>bs.length - i)
  (Q:=fun r=>∃m:Nat,r=(bs.map fOf,(m:Int),L,n,k,o)∧Zmn bs 0 x m) 0 ⟨ZDx _,fun j h=>by omega⟩ (by omega) ?_
 rintro rec i ⟨h1,h2⟩ ih;unfold Zs2 ZqU ZpV;dsimp only
 by_cases hi:i < bs.length
 ·have hq:bs[i]∈bs:=ZDs hi;rw[decide_eq_true (show (i:Int) < ((bs.map fOf).length:Int) by rw[ZDt];omega),cond_true,ZsZ (by rw[ZDt];exact hi),ZnD,ZnC,ZDr,ZwE (hx.wq (by omega)) ((hb _ hq).wq (by omega)),ZnD,ZnC]
  by_cases hc:x < bs[i]
  ·rw[decide_eq_true hc,Bool.not_true,cond_false,ZnC];exact⟨i,rfl,ZDx _,h1,fun j _ hj=>h2 j hj,fun _=>by rw[Zs0 hi];exact hc⟩
  ·rw[decide_eq_false hc,Bool.not_false,cond_true,ZnF];refine⟨ZnG (by omega),ih (i+1) ⟨by omega,fun j hj=> ?_⟩ (by omega)⟩;rcases ZDw (ZDv hj)with h |h
   ·exact h2 j h
   ·rw[h,Zs0 hi];grind
 ·rw[decide_eq_false (show ¬(i:Int) < ((bs.map fOf).length:Int) by rw[ZDt];omega),cond_false,cond_false,ZnC];exact⟨i,rfl,ZDx _,h1,fun j _ hj=>h2 j hj,fun h=>absurd h hi⟩
theorem Zyh {l bs:List Rat} (hl:∀q∈l,Sz 40 q) (hb:∀q∈bs,Sz 40 q) (hn:l.length≤1000) (hbn:bs.length≤64) (hup:Up bs):
  Zn7 (l.map fOf) (bs.map fOf)=some (Zxg bs l,0):=by
 refine Zqv ?_;unfold Zn7;rw[decide_eq_false (show ¬((bs.map fOf).length:Int) > 64 by rw[ZDt];omega),cond_false,ZnD];refine ZnT (ZAi _ hb (by omega) hup) ?_;rintro _ rfl;dsimp only;unfold Zrl;rw[ZnF,ZnF,ZnD,ZDt,show ((bs.length:Int)+1)=((bs.length+1:Nat):Int) by omega,ZDn];refine⟨ZnG (by omega),ZBd (n:=bs.length+1) (Nat.le_trans (Nat.succ_le_succ hbn) (by decide)), ?_⟩;refine ZnT (Zw6 ZuL l (by omega) (fun i (o:List Int)=>(bs.map fOf,l.map fOf,((l.map fOf).length:Int),i,o))
  (fun k o=>o=Zxg bs (l.take k)) (Q:=fun x=>x=Zxg bs l) (List.replicate (bs.length+1) 0) rfl ?_ ?_) ?_
 ·rintro rec k o h rfl ih;have hq:l[k]∈l:=ZDs h;unfold ZqV Zpi;dsimp only;rw[decide_eq_true (show (k:Int) < ((l.map fOf).length:Int) by rw[ZDt];omega),cond_true,ZsZ (by rw[ZDt];exact h),ZnD,ZnC,ZDr,ZnD];refine ZnT (ZyC hb (by omega) (hl _ hq) _ _ _ _) ?_;rintro _ ⟨m,rfl,hm⟩;obtain⟨hlt,hin,he⟩:=Zyy h hm hn;unfold Zrk;dsimp only;rw[ZnF,ZDn,ZDq hlt,ZnD,ZnC,ZnF,ZnF,ZnF];exact⟨Zwv hlt,hin,Zwv hlt,ZnG (by omega),ih _ he⟩
 ·rintro rec o rfl;unfold ZqV Zpi;dsimp only;rw[decide_eq_false (show ¬(l.length:Int) < ((l.map fOf).length:Int) by rw[ZDt];omega),cond_false,ZnC,List.take_length]
 ·rintro _ rfl;unfold Zrj;rw[ZnC]
theorem ZxZ {l bs:List Rat} (hl:∀q∈l,Sz 40 q) (hb:∀q∈bs,Sz 40 q) (hn:l.length≤1000) (hbn:bs.length≤1000):
  ∃r,ZoS (l.map fOf) (bs.map fOf)=some r∧Zn7 (l.map fOf) (bs.map fOf)=some r∧r.1.length≤100:=by
 by_cases h64:bs.length≤64
 ·by_cases hup:Up bs
  ·exact⟨_,Zyl hl hb hn h64 hup,Zyh hl hb hn h64 hup,by unfold Zxg;dsimp only;rw[ZxE,List.length_replicate];omega⟩
  ·refine⟨([],2),Zqv ?_,Zqv ?_,by simp⟩
   ·unfold ZoS;rw[decide_eq_false (show ¬((bs.map fOf).length:Int) > 64 by rw[ZDt];omega),cond_false,ZnD];refine ZnT (Zzu _ hb (by omega) hup) ?_;rintro _ rfl;dsimp only;rw[ZnC]
   ·unfold Zn7;rw[decide_eq_false (show ¬((bs.map fOf).length:Int) > 64 by rw[ZDt];omega),cond_false,ZnD];refine ZnT (ZyD _ hb (by omega) hup) ?_;rintro _ rfl;dsimp only;rw[ZnC]
 ·refine⟨([],3), ?_, ?_,by simp⟩
  ·unfold ZoS;rw[decide_eq_true (show ((bs.map fOf).length:Int) > 64 by rw[ZDt];omega),cond_true]
  ·unfold Zn7;rw[decide_eq_true (show ((bs.map fOf).length:Int) > 64 by rw[ZDt];omega),cond_true]
end Go.Proofs
namespace Go.Proofs
open Go Eng
def I64 (n:Int):Prop:= -9223372036854775808≤n∧n≤9223372036854775807
def ZzH:ZnA:=ZnA.mk (ZnE.mk false ([]:(List Int))) (ZnE.mk false ([]:(List Int)))
theorem ZwU:Zn6 ZzH ZzH=some true:=by kernel_rfl
theorem ZyE {l:List Rat} (hl:l.length < 10) (hs:∀q∈l,Sz 40 q) {p q:Int} (hp:I64 p) (hq:I64 q):
  ∃r,Zoj (l.map fOf) p q=some r∧ZnX (l.map fOf) p q=some r∧Zn6 r.1 r.1=some true:=by
 obtain⟨hp1,hp2⟩:=hp;obtain⟨hq1,hq2⟩:=hq;have err:∀L:List ZnA,Zpk L p q true false false [] []=some (ZzH,2)∧Zon L p q true false false [] []=some (ZzH,2):=by intro L;unfold Zpk Zon;exact⟨rfl,rfl⟩
 by_cases h1:q < 1
 ·refine⟨(ZzH,2), ?_, ?_,ZwU⟩
  ·unfold Zoj;rw[decide_eq_true h1,cond_true,(err _).1]
  ·unfold ZnX;rw[decide_eq_true h1,cond_true,(err _).2]
 by_cases h2:p < 0
 ·refine⟨(ZzH,2), ?_, ?_,ZwU⟩
  ·unfold Zoj;rw[decide_eq_false h1,cond_false,decide_eq_true h2,cond_true,(err _).1]
  ·unfold ZnX;rw[decide_eq_false h1,cond_false,decide_eq_true h2,cond_true,(err _).2]
 by_cases h3:p > q
 ·refine⟨(ZzH,2), ?_, ?_,ZwU⟩
  ·unfold Zoj;rw[decide_eq_false h1,cond_false,decide_eq_false h2,cond_false,decide_eq_true h3,(err _).1]
  ·unfold ZnX;rw[decide_eq_false h1,cond_false,decide_eq_false h2,cond_false,decide_eq_true h3,(err _).2]
 by_cases h0:l.length=0
 ·have:l=[]:=ZDo h0;subst this;refine⟨(ZzH,5), ?_, ?_,ZwU⟩
  ·unfold Zoj;rw[decide_eq_false h1,cond_false,decide_eq_false h2,cond_false,decide_eq_false h3];rfl
  ·unfold ZnX;rw[decide_eq_false h1,cond_false,decide_eq_false h2,cond_false,decide_eq_false h3];rfl
 obtain⟨a,rfl⟩:=ZA9 (show 0≤p by omega);obtain⟨b,rfl⟩:=ZA9 (show 0≤q by omega);have hlt:=Zze (p:=a) (q:=b) (n:=l.length) (by omega) (by omega) (by omega);have hw:Wq 256 (gR l (rk l.length a b)):=by rw[Zs0 hlt];exact(hs _ (ZDs hlt)).wq (by omega)
 refine⟨_,Zzg hl (by omega) hs (by omega) (by omega) (by omega),Zzd hl (by omega) (by omega) (by omega) (by omega), ?_⟩;dsimp only;rw[Zw1 _ _ hw hw,decide_eq_true rfl]
theorem Zyi {l:List Rat} (hl:l.length < 10) (hs:∀q∈l,Sz 40 q) (n:Int) (bs:List ZnA) {P:List Zod} (hP:∀x∈P,I64 x.e0∧I64 x.e1) (hn:P.length≤1000):
  wp (ZnW big n (l.map fOf) (P.length:Int) 0 bs P) (fun x=>x= .brk (n,l.map fOf,bs)):=by
 refine Zw6 ZtX P (by omega) (fun i (_:Unit)=>(n,l.map fOf,(P.length:Int),i,bs,P)) (fun _ _=>True) (Q:=fun x=>x= .brk (n,l.map fOf,bs)) () trivial ?_ ?_
 ·rintro rec k _ hk _ ih;obtain⟨h0,h1⟩:=hP _ (ZDs hk);obtain⟨r,e1,e2,e3⟩:=ZyE hl hs h0 h1;unfold Zpg ZoC ZoM;dsimp only;rw[decide_eq_true (show (k:Int) < (P.length:Int) by omega),cond_true,ZnF,ZDn,ZDq hk,ZnD,ZnC,ZnF,ZnF,e1,ZnD,ZnC];rw[ZnF,ZnF,e2,ZnD,ZnC]
  try dsimp only
  rw[e3,ZnD,ZnC,Bool.not_true,cond_false,show (r.2 != r.2)=false by simp,cond_false,ZnF];exact⟨Zwv hk,rfl,rfl,rfl,rfl,ZnG (by omega),ih () trivial⟩
 ·rintro rec _ _;unfold Zpg ZoC;dsimp only;rw[decide_eq_false (show ¬(P.length:Int) < (P.length:Int) by omega),cond_false,ZnC]
theorem Zzx (a:List Int) (hn:a.length≤1000):wp (Zog big (a.length:Int) 0 a a) (fun x=>x= .brk ()):=by
 refine Zw6 ZtV a (by omega) (fun i (_:Unit)=>((a.length:Int),i,a,a)) (fun _ _=>True) (Q:=fun x=>x= .brk ()) () trivial ?_ ?_
 ·rintro rec k _ hk _ ih;unfold Zpe ZoA;dsimp only;rw[decide_eq_true (show (k:Int) < (a.length:Int) by omega),cond_true,ZnF,ZDn,ZDq hk,ZnD,ZnC,ZnF,ZnD,ZnC,show (a[k] != a[k])=false by simp,cond_false,ZnF];exact⟨Zwv hk,Zwv hk,ZnG (by omega),ih () trivial⟩
 ·rintro rec _ _;unfold Zpe ZoA;dsimp only;rw[decide_eq_false (show ¬(a.length:Int) < (a.length:Int) by omega),cond_false,ZnC]
theorem Zxt {l bs:List Rat} (hl:∀q∈l,Sz 40 q) (hb:∀q∈bs,Sz 40 q) (hn:l.length≤1000) (hbn:bs.length≤1000):
  wp ((ZoS (l.map fOf) (bs.map fOf)).bind fun(a,e)=>Zoi (l.map fOf) (bs.map fOf) e a) (fun x=>x=true):=by
 obtain⟨r,e1,e2,hr⟩:=ZxZ hl hb hn hbn;rw[e1,ZnD,ZnC];unfold Zoi ZoL;rw[e2,ZnD,ZnC];dsimp only;rw[show ((r.1.length:Int) != (r.1.length:Int))=false by simp,cond_false,show (r.2 != r.2)=false by simp,cond_false,ZnD];refine ZnT (Zzx r.1 (by omega)) ?_;rintro _ rfl;unfold ZpK;dsimp only;rw[Zy0,ZnD,ZnC,ZnC]
theorem ZAu (L:List ZnA) (m:Nat) (hm:m≤100):wp (Zoh big L (m:Int) 0 []) (fun x=>x=(L,((List.range m).map fun i:Nat=>((i:Int):Rat)).map fOf)):=by
 refine Zr3 ZtW m (by omega) (fun i (o:List ZnA)=>(L,(m:Int),i,o)) (fun k o=>o=((List.range k).map fun i:Nat=>((i:Int):Rat)).map fOf) [] rfl ?_ ?_
 ·rintro rec k o hk rfl ih;unfold Zpf ZoB;dsimp only;rw[decide_eq_true (show (k:Int) < (m:Int) by omega),cond_true,ZwF _ (by omega) (by omega),ZnD,ZnC,ZnF,ZnF];refine⟨Ztl (by simp only[ZDt,List.length_range,List.length_singleton];omega),ZnG (by omega),ih _ ?_⟩;rw[List.range_succ,List.map_append,List.map_append];rfl
 ·rintro rec o rfl;unfold Zpf ZoB;dsimp only;rw[decide_eq_false (show ¬(m:Int) < (m:Int) by omega),cond_false,ZnC]
theorem quantileRanks_law (t:List Int) (p q n:Int) (hp:I64 p) (hq:I64 q) (hn:I64 n):Zo0 t p q n=some true:=by
 refine Zqv ?_;unfold Zo0 ZrM;rw[ZnD,ZnC,Zn5];refine⟨fun _=>by rw[Zy0,ZnD,ZnC,ZnC],fun hl=> ?_⟩;simp only[Bool.not_eq_false',decide_eq_true_eq]at hl;unfold Zr4;rw[ZnD,ZnC,ZnD];refine ZnT (ZwP (d:=⟨t,0⟩) ⟨by simp,by simp,by simp only;omega⟩ 9 (by omega)) ?_;rintro⟨l',d'⟩ ⟨⟨a,hal,han,haa,has⟩,hd'⟩;dsimp only at hal hd'⊢
 subst hal;rw[ZnD];refine ZnT (ZwP hd' 4 (by omega)) ?_;rintro⟨l',d''⟩ ⟨⟨b,hbl,hbn,hba,hbs⟩,hd''⟩;dsimp only at hbl hd''⊢
 subst hbl;have ha:∀q∈a,Sz 40 q:=fun q hq=>(has q hq).mono (by omega)
 have hb:∀q∈b,Sz 40 q:=fun q hq=>(hbs q hq).mono (by omega)
 rw[ZnD];refine ZnT (Zxo p (m:=12) (by omega)) fun m1 hm1=> ?_
 rw[ZnF,ZnD];refine⟨ZnG (by omega),ZnT (Zxo q (m:=12) (by omega)) fun m2 hm2=> ?_⟩;rw[ZnF,ZnD];refine⟨ZnG (by omega),ZnT (Zxo p (m:=1000) (by omega)) fun m3 hm3=> ?_⟩;rw[ZnD];refine ZnT (Zyi (by omega) ha n _ (P:=[Zod.mk p q,Zod.mk (m1 - 1) (m2 - 1),Zod.mk m3 999]) (fun x hx=> ?_) (by simp)) ?_
 ·simp only[List.mem_cons,List.not_mem_nil,or_false]at hx;rcases hx with rfl |rfl |rfl
  ·exact⟨hp,hq⟩
  ·exact⟨⟨by dsimp only;omega,by dsimp only;omega⟩,⟨by dsimp only;omega,by dsimp only;omega⟩⟩
  ·exact⟨⟨by dsimp only;omega,by dsimp only;omega⟩,⟨by dsimp only;omega,by dsimp only;omega⟩⟩
 rintro _ rfl;dsimp only;unfold ZpM;rw[ZnD];refine ZnT (Zxo n (m:=6) (by omega)) fun m4 hm4=> ?_
 rw[Zn5];refine⟨fun _=> ?_,fun _=>Zxt ha hb (by omega) (by omega)⟩;have h6:I64 (Int.tdiv n 6):=by
  obtain⟨h1,h2⟩:=hn;unfold I64;rcases Int.le_total 0 n with h |h
  ·have:=Int.tdiv_eq_ediv_of_nonneg (b:=6) h;omega
  ·have e:Int.tdiv n 6= - ((-n) / 6):=by have h3:=Int.neg_tdiv (-n) 6;rw[Int.neg_neg,Int.tdiv_eq_ediv_of_nonneg (b:=6) (show 0≤ -n by omega)]at h3;exact h3
   omega
 rw[ZnF,ZnF,ZnD];refine⟨rfl,ZnG h6,ZnT (Zxo _ (m:=2) (by omega)) fun m5 hm5=> ?_⟩;obtain⟨c,rfl⟩:=ZA9 hm5.1;rw[ZnF,show (64:Int)+(c:Int)=((64+c:Nat):Int) by omega,ZnD];refine⟨ZnG (by omega),ZnT (ZAu _ (64+c) (by omega)) ?_⟩;rintro _ rfl;dsimp only;unfold ZpL;refine Zxt ha (fun x hx=> ?_) (by omega) (by rw[ZDt,List.length_range];omega);obtain⟨i,hi,rfl⟩:=List.mem_map.1 hx;have:=List.mem_range.1 hi;rw[←Zxs];exact Zwc (k:=40) (by decide) (by omega) (by decide)
end Go.Proofs
namespace Eng
open Go Go.Lib
theorem globOk_one {Pg:Program} {w:World} {n:String} {g:Nat} {t e:TypeId} {k:IntKind} {z:Int} (hn:Pg.globalNamed n=some g) (hty:(Pg.globals[g]?).map (·.type)=some t)
  (ht:Pg.underlying t=some (.slice e)) (he:Pg.underlying e=some (.int k)) (hce:Pg.cellsOf e=1) (hz:k.min≤z∧z≤k.max)
  (h:VarReads Pg w n (.slice [.lit (.int k z)] [])):Zej w (fun b=>b < w.heap.size) g [P.sl 1 [.int k z]]:=by
 obtain⟨g',t',cs,fuel,p,hg,hty',hvar,hd⟩:=h;obtain rfl:=Option.some.inj (hn.symm.trans hg);obtain rfl:=Option.some.inj (hty.symm.trans hty');rcases DataW.trod_slice ht hd with ⟨_,hx⟩ |⟨a,len,cap,elems,rest,m,_,hcs,hx,_,hl,hcap,hlen,hel,_,_⟩
 ·cases congrArg Prod.fst hx
 ·have e0:=congrArg Prod.fst hx;simp only[DataW.slice.injEq]at e0;obtain⟨e1,_⟩:=e0
  match elems,e1 with
  | [(d,q)],e1=>
   simp only[List.map_cons,List.map_nil,List.cons.injEq,and_true]at e1;subst e1;have hlen1:len=1:=by simpa using hlen.symm
   subst hlen1;obtain⟨ci,hci,htr⟩:=Option.bind_eq_some_iff.1 (hel 0 (by decide));obtain⟨z',hc,hxx,_⟩:=DataW.trod_int he htr;have hzz:z'=z:=by have:=congrArg Prod.fst hxx;simpa using this.symm
   subst hzz;subst hc;rw[hce,Nat.zero_mul]at hci;obtain⟨_,_,hc2⟩:=World.cells?_some hci;have h0:=hc2 0 (by decide);have hb:w.cell? a=some (.int k z'):=by simpa[Addr.add]using h0
   have hspot:a.spot=none:=by
    unfold World.cell? at hb;cases hs:a.spot with
    |none=>rfl
    |some s=>rw[hs]at hb;split at hb<;>simp at hb
   have ha:a=⟨a.block,a.off,none⟩:=by cases a;simp at hspot;subst hspot;rfl
   have hlt:a.block < w.heap.size:=ZjV (by rw[ha]at hb;exact hb);have hcs1:cs.size=1:=by have:=congrArg List.length hcs;simpa using this
   refine Zwl (t:=0) (fr:= #[]) (ZwY hn hvar) _ (by rw[hcs1];rfl) fun j v p hv hp=> ?_
   have hj:j=0:=by have:=(Array.getElem?_eq_some_iff.1 hv).1;omega
   subst hj;simp only[ZDp,Option.some.injEq]at hp;subst hp;rw[←Array.getElem?_toList,hcs]at hv;simp only[ZDp,Option.some.injEq]at hv;subst hv;refine⟨.sl (some a) 1 cap _ _ (fun _=> .int k z') rfl (by decide) hl (fun i hi=>rfl) (fun i hi=> ?_) (fun i x hx=> ?_),rfl⟩
   ·have hi0:i=0:=by omega
    subst hi0;refine⟨a.block,a.off,by rw[←ha],hlt,fun j v hv=> ?_⟩;have hj:=(Array.getElem?_eq_some_iff.1 hv).1;have hj0:j=0:=by have:(Value.int k z').cells.size=1:=rfl;omega
    subst hj0;have hvv:v= .int k z':=by have:(Value.int k z').cells[0]? =some (.int k z'):=rfl;exact Option.some.inj (hv.symm.trans this)
    subst hvv;rw[ha]at hb;simpa using hb
   ·have hi0:i=0:=by have:=(List.getElem?_eq_some_iff.1 hx).1;simp at this;omega
    subst hi0;simp only[ZDp,Option.some.injEq]at hx;subst hx;exact .int k z' hz.1 hz.2
end Eng
namespace Eng
open Go
inductive Zy2 (s:List UInt8):P→Prop
 |str:Zy2 s (.str s)
 |agg {cs:List P} {c:P} (h:c∈cs) (h':Zy2 s c):Zy2 s (.agg cs)
 |sl {sz:Nat} {es:List P} {e:P} (h:e∈es) (h':Zy2 s e):Zy2 s (.sl sz es)
inductive Zys (k:IntKind) (n:Int):P→Prop
 |int:Zys k n (.int k n)
 |agg {cs:List P} {c:P} (h:c∈cs) (h':Zys k n c):Zys k n (.agg cs)
 |sl {sz:Nat} {es:List P} {e:P} (h:e∈es) (h':Zys k n e):Zys k n (.sl sz es)
theorem RelP.ints {w:World} {S:Nat→Prop} {k:IntKind} {n:Int} {x:P} (hs:Zys k n x):∀{v:Value},RelP w S v x→k.min≤n∧n≤k.max:=by
 induction hs with
 |int=>intro v h;cases h;exact⟨by assumption,by assumption⟩
 |agg hm _ ih=>
  intro v h;cases h with
  |agg vs cs hl h1 h=>
   obtain⟨i,hi,he⟩:=List.mem_iff_getElem.1 hm;have hlt:i < vs.size:=by rw[hl];exact hi
   exact ih (h i vs[i] _ (Array.getElem?_eq_getElem hlt) (by rw[ZDq hi,he]))
 |sl hm _ ih=>
  intro v h;cases h with
  |sl a len cap sz es evs hl hmx hc hsz hcell h=>
   obtain⟨i,hi,he⟩:=List.mem_iff_getElem.1 hm;exact ih (h i _ (by rw[ZDq hi,he]))
end Eng
namespace Go.Proofs
open Go Eng
theorem ZyK {w:World} {S:Nat→Prop} {v:Value} {y:Int} (h:RelP w S v (U.encE (.int .i64) y)): -9223372036854775808≤y∧y≤9223372036854775807:=by have h':RelP w S v (P.int .i64 y):=h;have:=h'.ints (k:= .i64) (n:=y) .int;rw[show IntKind.min .i64= -9223372036854775808 from by decide,show IntKind.max .i64=9223372036854775807 from by decide]at this;exact this
end Go.Proofs
