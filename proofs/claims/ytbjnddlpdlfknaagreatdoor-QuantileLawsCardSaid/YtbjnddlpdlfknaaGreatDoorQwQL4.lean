/- The law of ranks, counts and distances. -/
import Derived.Test.YtbjnddlpdlfknaaGreatDoorQwQL3
import Derived.Test.YtbjnddlpdlfknaaGreatDoorQwQA
set_option linter.unusedVariables false
set_option linter.unusedSimpArgs false
set_option linter.unusedSectionVars false
open Int renaming natCast_mul→Zz9
open List renaming length_map→ZCi
open Option renaming bind_some→ZCj
namespace Go.Proofs
open Go Eng
def blw (x:Rat) (l:List Rat):Nat:=l.countP (fun y=> !decide (x < y))
theorem Zyy {l:List Rat} (hl:∀q∈l,Sz 40 q) (hn:l.length≤1000) {x:Rat} (hx:Sz 40 x) (n p e:Int) (b bs:List ZnA) (last:ZnA):
  wp (ZnX big (l.map fOf) n p e 0 (l.map fOf) ((l.map fOf).length:Int) 0 b bs last (fOf x)) (fun r=>r=(l.map fOf,n,p,e,(blw x l:Int),b,bs,last,fOf x)):=by
 refine Zxk Ztx (l.map fOf) (by rw[ZCi];omega) (fun i (t:Nat)=>(l.map fOf,n,p,e,(t:Int),l.map fOf,((l.map fOf).length:Int),i,b,bs,last,fOf x))
  (fun k t=>t+blw x (l.drop k)=blw x l) (Q:=fun r=>r=(l.map fOf,n,p,e,(blw x l:Int),b,bs,last,fOf x)) 0 (by simp) ?_ ?_
 ·intro rec k t h hP ih;rw[ZCi]at h;have hq:l[k]∈l:=List.getElem_mem h;have hd:l.drop k=l[k]::l.drop (k+1):=List.drop_eq_getElem_cons h;have hle:blw x l≤l.length:=List.countP_le_length;unfold blw at hP;rw[hd,List.countP_cons]at hP;unfold Zpk ZoC ZoH;dsimp only;rw[decide_eq_true (show (k:Int) < ((l.map fOf).length:Int) by rw[ZCi];omega),cond_true,Zu4 (by rw[ZCi];exact h),ZnD,ZnC,List.getElem_map,Zws (hx.wq (by omega)) ((hl _ hq).wq (by omega)),ZnD,ZnC]
  by_cases hc:x < l[k]
  ·rw[decide_eq_true hc,Bool.not_true,cond_false,ZnF];refine⟨ZnG (by omega),ih t ?_⟩;rw[decide_eq_true hc]at hP;simpa[blw]using hP
  ·rw[decide_eq_false hc,Bool.not_false,cond_true,ZnF,ZnF];rw[decide_eq_false hc]at hP;have hP':t+1+blw x (l.drop (k+1))=blw x l:=by
    have:t+(blw x (l.drop (k+1))+1)=blw x l:=by simpa[blw]using hP
    omega
   exact⟨ZnG (by omega),ZnG (by omega),ih (t+1) hP'⟩
 ·intro rec t hP;unfold Zpk ZoC;dsimp only;rw[decide_eq_false (show ¬((l.map fOf).length:Int) < ((l.map fOf).length:Int) by omega),cond_false,ZnC];rw[ZCi,List.drop_length]at hP;have:t=blw x l:=by simpa[blw]using hP
  rw[this]
theorem Zyk {l:List Rat} (hl:∀q∈l,Sz 40 q) (hlen:l.length < 10) (ha:Asc l) {n:Nat} (hn:0 < n) (hn2:n≤20) (b bs:List ZnA) (z:ZnA):
  wp (ZnM big (l.map fOf) (n:Int) 0 b bs z) (fun x=>x= .brk (l.map fOf,b,bs)):=by
 refine ZsG Zty (fun s:Nat×ZnA=>(l.map fOf,(n:Int),(s.1:Int),b,bs,s.2)) (fun s=>s.1≤n+1∧(0 < s.1→s.2=fOf (gR l (rk l.length (s.1 - 1) n)))) (fun s=>n+1 - s.1)
  (Q:=fun x=>x= .brk (l.map fOf,b,bs)) (0,z) ⟨Nat.zero_le _,fun h=>absurd h (Nat.lt_irrefl 0)⟩ (by dsimp only;omega) ?_
 rintro rec ⟨p,last⟩ ⟨h1,h2⟩ ih;dsimp only at h1 h2 ih;unfold Zq2 Zpl ZoI;dsimp only
 by_cases hp:p≤n
 ·rw[decide_eq_true (show (p:Int)≤(n:Int) by omega),cond_true]
  by_cases h0:0 < l.length
  ·have hr:=Zzl (p:=p) hn h0 hp;have hq:Sz 40 (gR l (rk l.length p n)):=by rw[Zvc hr];exact hl _ (List.getElem_mem hr)
   rw[decide_eq_true (show ((l.map fOf).length:Int) > 0 by rw[ZCi];omega),cond_true,ZxP hlen h0 hl hn hn2 hp,ZnD,ZnC];dsimp only;rw[ZnD];refine Zn5 (Zyy hl (by omega) hq _ _ _ _ _ _) ?_;rintro _ rfl;dsimp only;have hb1:rk l.length p n+1≤blw (gR l (rk l.length p n)) l:=Zvn ha hr;have hb2:blw (gR l (rk l.length p n)) l≤l.length:=List.countP_le_length;have hge:p*l.length≤(rk l.length p n+1)*n:=ZBS hn;have hge2:(rk l.length p n+1)*n≤blw (gR l (rk l.length p n)) l*n:=Nat.mul_le_mul_right _ hb1;have hge3:blw (gR l (rk l.length p n)) l*n≤9*20:=Nat.mul_le_mul (by omega) hn2;have hge4:p*l.length≤20*9:=Nat.mul_le_mul (by omega) (by omega);have j4:wp (ZnT (fun a n p b bounds last=>rec (a,n,p,b,bounds,last)) (l.map fOf) (n:Int) (p:Int) (decide (((blw (gR l (rk l.length p n)) l:Nat):Int)*(n:Int) < (p:Int)*((l.map fOf).length:Int))) b bs last (fOf (gR l (rk l.length p n)))) (fun x=>x= .brk (l.map fOf,b,bs)):=by unfold ZnT;rw[ZCi,←Zz9,←Zz9,decide_eq_false (by omega),cond_false,ZnF];exact⟨ZnG (by omega),ih (p+1,fOf (gR l (rk l.length p n))) ⟨by dsimp only;omega,fun _=>rfl⟩ (by dsimp only;omega)⟩
   have c1:inK .i64 (((blw (gR l (rk l.length p n)) l:Nat):Int)*(n:Int))=true:=by rw[←Zz9];exact ZnG (by omega)
   have c2:inK .i64 ((p:Int)*((l.map fOf).length:Int))=true:=by rw[ZCi,←Zz9];exact ZnG (by omega)
   unfold ZpG;rw[show ((0:Int) != 0)=false from rfl,cond_false]
   by_cases hp0:0 < p
   ·have hr':=Zzl (p:=p - 1) hn h0 (by omega);have hq':Sz 40 (gR l (rk l.length (p - 1) n)):=by rw[Zvc hr'];exact hl _ (List.getElem_mem hr')
    have hm:gR l (rk l.length (p - 1) n)≤gR l (rk l.length p n):=ha _ _ (Zzk (by omega)) hr;have e:Zor (fOf (gR l (rk l.length p n))) last=some false:=by rw[h2 hp0,Zws (hq.wq (by omega)) (hq'.wq (by omega)),decide_eq_false (by grind)]
    rw[decide_eq_true (show (p:Int) > 0 by omega),cond_true,e,ZnD,ZnC,cond_false,ZnF,ZnF];exact⟨c1,c2,j4⟩
   ·rw[decide_eq_false (show ¬(p:Int) > 0 by omega),cond_false,ZnF,ZnF];exact⟨c1,c2,j4⟩
  ·rw[decide_eq_false (show ¬((l.map fOf).length:Int) > 0 by rw[ZCi];omega),cond_false,ZnC]
 ·rw[decide_eq_false (show ¬(p:Int)≤(n:Int) by omega),cond_false,cond_false,ZnC]
theorem Zze (A b:List ZnA) (a1 a2 a3 a4:Nat) (hs:a1+a2+a3+a4≤1000):
  wp (Zoh big A 0 0 (([(a1:Int),(a2:Int),(a3:Int),(a4:Int)]:List Int).length:Int) 0 b [(a1:Int),(a2:Int),(a3:Int),(a4:Int)]) (fun x=>x=(A,0,((a1+a2+a3+a4:Nat):Int),b,[(a1:Int),(a2:Int),(a3:Int),(a4:Int)])):=by
 refine ZsG Ztw (fun s:Nat×Nat=>(A,(0:Int),(s.2:Int),(4:Int),(s.1:Int),b,[(a1:Int),(a2:Int),(a3:Int),(a4:Int)])) (fun s=>s.1≤4∧s.2=([a1,a2,a3,a4].take s.1).sum) (fun s=>4 - s.1)
  (Q:=fun x=>x=(A,0,((a1+a2+a3+a4:Nat):Int),b,[(a1:Int),(a2:Int),(a3:Int),(a4:Int)])) (0,0) ⟨by decide,rfl⟩ (by dsimp only;omega) ?_
 rintro rec ⟨i,s⟩ ⟨h1,h2⟩ ih;dsimp only at h1 h2 ih;unfold ZqZ Zpj;dsimp only;have hi:i=0∨i=1∨i=2∨i=3∨i=4:=by omega
 rcases hi with rfl |rfl |rfl |rfl |rfl
 ·rw[show decide (((0:Nat):Int) < 4)=true from rfl,cond_true,ZnF,ZnD,show ([(a1:Int),(a2:Int),(a3:Int),(a4:Int)])[(((0:Nat):Int)).toNat]? =some (a1:Int)from rfl,ZnC,ZnF,ZnF];simp at h2;exact⟨rfl,ZnG (by omega),rfl,ih (1,s+a1) ⟨by dsimp only;omega,by simp;omega⟩ (by dsimp only;omega)⟩
 ·rw[show decide (((1:Nat):Int) < 4)=true from rfl,cond_true,ZnF,ZnD,show ([(a1:Int),(a2:Int),(a3:Int),(a4:Int)])[(((1:Nat):Int)).toNat]? =some (a2:Int)from rfl,ZnC,ZnF,ZnF];simp at h2;exact⟨rfl,ZnG (by omega),rfl,ih (2,s+a2) ⟨by dsimp only;omega,by simp;omega⟩ (by dsimp only;omega)⟩
 ·rw[show decide (((2:Nat):Int) < 4)=true from rfl,cond_true,ZnF,ZnD,show ([(a1:Int),(a2:Int),(a3:Int),(a4:Int)])[(((2:Nat):Int)).toNat]? =some (a3:Int)from rfl,ZnC,ZnF,ZnF];simp at h2;exact⟨rfl,ZnG (by omega),rfl,ih (3,s+a3) ⟨by dsimp only;omega,by simp;omega⟩ (by dsimp only;omega)⟩
 ·rw[show decide (((3:Nat):Int) < 4)=true from rfl,cond_true,ZnF,ZnD,show ([(a1:Int),(a2:Int),(a3:Int),(a4:Int)])[(((3:Nat):Int)).toNat]? =some (a4:Int)from rfl,ZnC,ZnF,ZnF];simp at h2;exact⟨rfl,ZnG (by omega),rfl,ih (4,s+a4) ⟨by dsimp only;omega,by simp;omega⟩ (by dsimp only;omega)⟩
 ·rw[show decide (((4:Nat):Int) < 4)=false from rfl,cond_false,ZnC];simp at h2;rw[show s=a1+a2+a3+a4 by omega]
theorem Zzd {r:Int} {n:Nat} (h0:0≤r) (h1:r≤(n:Int)) (hn:0 < n) (h2:n≤100):Sz 40 (Rat.divInt r (n:Int)):=
 (Zwn (k:=7) (by omega) (by omega) (by omega)).mono (by omega)
theorem ZzB {r:Int} {n:Nat} (h1:r≤(n:Int)) (hn:0 < n):Zxg (Rat.divInt r (n:Int)) 1≤0:=by
 rw[ZwS,Rat.divInt_eq_div];have hp:(0:Rat) < ((n:Int):Rat):=by rw[show ((0:Rat))=(((0:Int)):Rat)from rfl];exact Rat.intCast_lt_intCast.2 (by omega)
 have hr:(r:Rat)≤((n:Int):Rat):=Rat.intCast_le_intCast.2 h1;have hne:((n:Int):Rat)≠0:=by grind
 have e:((n:Int):Rat)*((r:Rat) / ((n:Int):Rat))=r:=by grind
 generalize (r:Rat) / ((n:Int):Rat)=x at e;apply Rat.not_lt.1;intro hx;have h1:0≤(x - 1)*((n:Int):Rat):=Rat.mul_nonneg (by grind) (by grind);have h2:(x - 1)*((n:Int):Rat)=0:=by grind
 have h3:x - 1=0:=by grind
 grind
theorem Zzw:ZnI 1=some (fOf 1):=ZuP 1 (by decide) (by decide)
theorem ZwK {a b:List Rat} (ha:∀q∈a,Sz 40 q) (hb:∀q∈b,Sz 40 q) (hna:a.length≤9) (hnb:b.length≤9) (x:Bool) (hx:x=decide (b.length=0)∨x=true) (hx2:x=false→a.length≠0):
  Zoi (a.map fOf) x (b.map fOf)=some true:=by
 unfold Zoi;cases hxx:x with
 |true=>rw[cond_true,Zxl];rfl
 |false=>
  subst hxx;have hb0:b.length≠0:=by
   rcases hx with h |h
   ·simpa using h.symm
   ·cases h
  have ha0:=hx2 rfl;obtain⟨r1,e1,d1⟩:=ZwV ha hb (by omega) (by omega) ha0 hb0;obtain⟨r2,e2,d2⟩:=ZwV hb ha (by omega) (by omega) hb0 ha0;obtain⟨r3,e3,d3⟩:=ZwV ha ha (by omega) (by omega) ha0 ha0;have h12:r1=r2:=d1.det d2.sym;subst h12;have h3:r3=0:=d3.self rfl rfl (Int.le_refl 0);subst h3;have hp:0 < a.length*b.length:=Nat.mul_pos (by omega) (by omega);have hm:a.length*b.length≤9*9:=Nat.mul_le_mul hna hnb;have hbd:=d1.bound (Int.le_refl 0) (by omega);have hs:=Zzd hbd.1 hbd.2 hp (by omega);rw[cond_false,e1,ZCj];dsimp only;rw[e2,ZCj];dsimp only;rw[e3,ZCj];dsimp only;rw[show ((0:Int) == 0)=true from rfl,cond_true,cond_true,cond_true,Nat.mul_comm b.length a.length,Zv2 _ _ (hs.wq (by omega)) (hs.wq (by omega)),ZCj,decide_eq_true rfl,cond_true,ZxI,ZCj,Rat.zero_divInt,Zv2 _ _ (ZxM.wq (by omega)) (ZxM.wq (by omega)),ZCj,decide_eq_true rfl,cond_true,
   Zzw,ZCj,Zx3 (hs.wq (by omega)) (Sz.wq (k:=1) (by unfold Sz;decide) (by omega)),ZCj,decide_eq_true (ZzB hbd.2 hp),cond_true,Zxl]
  rfl
theorem quantileLaws_law (t:List Int) (q:Int):ZoY t q=some true:=by
 refine ZrO ?_;unfold ZoY Zrn;rw[ZnD,ZnC,Zob];refine⟨fun _=>by rw[Zxl,ZnD,ZnC,ZnC],fun hl=> ?_⟩;simp only[Bool.not_eq_false',decide_eq_true_eq]at hl;unfold ZrE;rw[ZnD,ZnC,ZnD];refine Zn5 (Zwf (d:=⟨t,0⟩) ⟨by simp,by simp,by simp only;omega⟩ 9 (by omega)) ?_;rintro⟨l',d'⟩ ⟨⟨a,hal,han,haa,has⟩,hd'⟩;dsimp only at hal hd'⊢
 subst hal;rw[ZnD];refine Zn5 (Zwf hd' 9 (by omega)) ?_;rintro⟨l',d''⟩ ⟨⟨b,hbl,hbn,hba,hbs⟩,hd''⟩;dsimp only at hbl hd''⊢
 subst hbl;have ha:∀q∈a,Sz 40 q:=fun q hq=>(has q hq).mono (by omega)
 have hb:∀q∈b,Sz 40 q:=fun q hq=>(hbs q hq).mono (by omega)
 rw[ZuP 0 (by decide) (by decide),ZnD,ZnC,ZuP 2 (by decide) (by decide),ZnD,ZnC,ZuP 5 (by decide) (by decide),ZnD,ZnC,ZnD];refine Zn5 (ZyH q (m:=20) (by omega)) fun m hm=> ?_
 obtain⟨n,rfl⟩:=Int.eq_ofNat_of_zero_le (show 0≤m by omega);rw[ZnF,show 1+(n:Int)=((1+n:Nat):Int) by omega,ZnD];refine⟨ZnG (by omega),Zn5 (Zyk ha (by omega) haa (by omega) (by omega) _ _ _) ?_⟩;rintro _ rfl;dsimp only;unfold ZpF;rw[ZnD];refine Zn5 (Zx2 (l:=a) ha (by omega)) ?_;rintro _ ⟨a1,a2,a3,a4,rfl,hs⟩;dsimp only;rw[ZnD];refine Zn5 (Zze _ _ a1 a2 a3 a4 (by omega)) ?_;rintro _ rfl;dsimp only;unfold ZpE Zoj;rw[ZCi,ZCi,hs,show ((0:Int) != 0)=false from rfl,cond_false,show (((a.length:Int)) != (a.length:Int))=false from by simp,cond_false,show (((([(a1:Int),(a2:Int),(a3:Int),(a4:Int)]:List Int).length:Int)) != 4)=false from rfl,cond_false,Zob];refine⟨fun h=>Zxm (ZwK ha hb han hbn true (.inr rfl) (fun h=>by cases h)) |>.2 rfl,fun h=>Zxm (ZwK ha hb han hbn _ (.inl ?_) (fun _=> ?_)) |>.2 rfl⟩
 ·by_cases h:b.length=0<;>simp[h]
 ·simpa using h
end Go.Proofs
