/- Plain laws over the specs, part 4. -/
import Derived.Test.YtcjejmbjlhlkhaaGreatDoorCtM3
import Derived.Test.YtcjejmbjlhlkhaaGreatDoorCtM2
import Derived.Test.YtcjejmbjlhlkhaaGreatDoorCtM0
set_option linter.all false
open Bool renaming not_true->Z3Q, not_false->ZYu
open Int renaming toNat_natCast->Z3R
open List renaming getElem?_eq_getElem->Z3X, length_append->Z31, length_singleton->Z34, getElem_mem->Z30, range->Z39, all_eq_true->Z3S, length_set->Z33, getElem?_append_right->Z3V, getElem?_drop->Z3W, take_append_drop->Z4a, mem_range->Z37, getElem?_eq_some_iff->Z3Y, length_cons->Z32, append_assoc->Z3T, length_take->Z35, mem_append->Z36, mem_singleton->Z38, getElem?_take->Z3Z, take_succ_eq_append_getElem->Z4b, getElem?_append_left->Z3U
open Nat renaming le_refl->Z4c
open Option renaming some.inj->Z4e, bind_some->Z4d
namespace Go.Proofs
open Go Eng
theorem ZLl {d:List En1} [Gds d] (P:Nat->Prop) (hP:∀k,P k->k < d.length) {a b:Nat} (ha:P a) (hb:P b) (s:Nat) (hs:s<=100):
  wp (ZoM d (a:Int) (b:Int) (s:Int)) (fun x=>∃a' b' s':Nat,x=((a':Int),(b':Int),d,(s':Int))/\P a'/\P b'/\s'<=s+1):=by
 unfold ZoM ZtU;have hal:=hP a ha;have hbl:=hP b hb;rw[ZnN,ZnO,Z3R,Z3X hbl,ZnN,ZnL,ZnO,Z3R,Z3X hal,ZnN,ZnL,ZA8,ZnN,ZnL,Zn1];refine⟨ZoP hbl,ZoP hal,fun _=> ?_,fun _=> ?_⟩
 ·rw[ZnO,ZnL,ZnO,ZnL];exact⟨ZnS (by omega),by simp,b,a,s+1,rfl,hb,ha,Z4c _⟩
 grind[ZnL,ZnO]
theorem ZNf {d:List En1} [Gds d] (P:Nat->Prop) (hP:∀k,P k->k < d.length) {a b c:Nat} (ha:P a) (hb:P b) (hc:P c) (s:Nat) (hs:s<=50):
  wp (Zpw d (a:Int) (b:Int) (c:Int) (s:Int)) (fun x=>∃m s':Nat,x=((m:Int),d,(s':Int))/\P m/\s'<=s+3):=by
 unfold Zpw ZtV;rw[ZnN,ZnN];refine ZnU (ZLl P hP ha hb s (by omega)) ?_;rintro _ ⟨a1,b1,s1,rfl,q1,q2,q3⟩;dsimp only;rw[ZnN];refine ZnU (ZLl P hP q2 hc s1 (by omega)) ?_;rintro _ ⟨b2,c1,s2,rfl,q4,q5,q6⟩;dsimp only;rw[ZnN];refine ZnU (ZLl P hP q1 q4 s2 (by omega)) ?_;grind[ZnL,ZnO]
theorem ZJl {d:List En1} [Gds d] (P:Nat->Prop) (hP:∀k,P k->k < d.length) (hd:d.length<=1000000) {a:Nat} (h0:1<=a) (ha:P (a - 1)) (hb:P a) (hc:P (a+1)) (s:Nat) (hs:s<=50):
  wp (Zoh d (a:Int) (s:Int)) (fun x=>∃m s':Nat,x=((m:Int),d,(s':Int))/\P m/\s'<=s+3):=by
 have:=hP _ hc;unfold Zoh ZrD;rw[ZnN,ZnO,ZnO,ZnN,show (a:Int) - 1=((a - 1:Nat):Int) by omega,show (a:Int)+1=((a+1:Nat):Int) by omega];refine⟨ZnS (by omega),ZnS (by omega),ZnU (ZNf P hP ha hb hc s hs) ?_⟩;grind[ZnL,ZnO]
theorem ZSo {d:List En1} [Gds d] (hd:d.length<=1000000) {a b:Nat} (hb:b<=d.length) (hab:a+13<=b):
  wp (ZpL d (a:Int) (b:Int)) (fun x=>∃(pv:Nat) (h:Int),x=((pv:Int),h,d)/\a<=pv/\pv < b):=by
 have Zd:wp (Zqh d (a:Int) (b:Int)) (fun x=>∃(pv:Nat) (h:Int),x=((pv:Int),h,d)/\a<=pv/\pv < b):=by
  have hPl:∀k,(a<=k/\k < b)->k < d.length:=fun k hk=>by omega
  unfold Zqh;have eq:Int.tdiv ((b:Int) - (a:Int)) 4=(((b - a) / 4:Nat):Int):=by grind
  rw[eq];generalize hq:(b - a) / 4=q;have j2:∀(m s:Nat),a<=m->m < b->wp (ZoN (m:Int) d (s:Int)) (fun x=>∃(pv:Nat) (h:Int),x=((pv:Int),h,d)/\a<=pv/\pv < b):=by grind[ZoN,ZnL]
  have j1:∀(i j k s:Nat),s<=50->(a<=i/\i < b)->(a<=j/\j < b)->(a<=k/\k < b)->wp (ZoO (i:Int) (j:Int) (k:Int) d (s:Int)) (fun x=>∃(pv:Nat) (h:Int),x=((pv:Int),h,d)/\a<=pv/\pv < b):=by intro i j k s hs h1 h2 h3;unfold ZoO;rw[ZnN];refine ZnU (ZNf (fun k=>a<=k/\k < b) hPl h1 h2 h3 s hs) ?_;simp_all
  rw[show (q:Int)*1=((q:Nat):Int) by omega,show (q:Int)*2=((q*2:Nat):Int) by omega,show (q:Int)*3=((q*3:Nat):Int) by omega,
   show (a:Int)+((q:Nat):Int)=((a+q:Nat):Int) by omega,show (a:Int)+((q*2:Nat):Int)=((a+q*2:Nat):Int) by omega,show (a:Int)+((q*3:Nat):Int)=((a+q*3:Nat):Int) by omega]
  simp only[ZnO];refine⟨ZnS (by omega),rfl,ZnS (by omega),ZnS (by omega),ZnS (by omega),rfl,ZnS (by omega),ZnS (by omega),ZnS (by omega),rfl,ZnS (by omega),ZnS (by omega),ZnS (by omega), ?_⟩;rw[decide_eq_true (show (b:Int) - (a:Int)>=8 by omega),cond_true,Zn1];refine⟨fun h50=> ?_,fun _=>j1 _ _ _ 0 (by omega) (by omega) (by omega) (by omega)⟩;have h50':(b:Int) - (a:Int)>=50:=of_decide_eq_true h50;rw[ZnN];refine ZnU (ZJl (fun k=>a<=k/\k < b) hPl hd (a:=a+q) (by omega) (by omega) (by omega) (by omega) 0 (by omega)) ?_;rintro _ ⟨i,s1,rfl,p1,t1⟩;dsimp only;rw[ZnN];refine ZnU (ZJl (fun k=>a<=k/\k < b) hPl hd (a:=a+q*2) (by omega) (by omega) (by omega) (by omega) s1 (by omega)) ?_;rintro _ ⟨j,s2,rfl,p2,t2⟩;dsimp only;rw[ZnN];refine ZnU (ZJl (fun k=>a<=k/\k < b) hPl hd (a:=a+q*3) (by omega) (by omega) (by omega) (by omega) s2 (by omega)) ?_;grind
 grind[ZpL,ZnN,ZnO,ZnL]
end Go.Proofs
namespace Go.Proofs
open Go Eng
theorem ZZh (x:Int) {y:Nat} (b:y < 1000000):∃z:Nat,andK .u64 x (y:Int)=(z:Int)/\z<=y:=by
 unfold andK;have a:(BitVec.ofInt (IntKind.u64).bits x&&& BitVec.ofInt (IntKind.u64).bits (y:Int)).toNat<=y:=by grind[Nat.and_le_right]
 grind[wrap_u64]
theorem ZPD:((Z39 201).all fun n:Nat=>match Zzd (n:Int)with |some m=>decide (n=0\/(1<=m/\m<=2*(n:Int))) |none=>false)=true:=by kernel_rfl
theorem ZUQ {n:Nat} (c:1<=n) (d:n<=200):∃m:Nat,Zzd (n:Int)=some (m:Int)/\1<=m/\m<=2*n:=by have h:=Z3S.1 ZPD n (Z37.2 (by omega));split at h;rotate_left;simp at h;rename_i m a;have b:=(of_decide_eq_true h).resolve_left (by omega);refine⟨m.toNat, ?_,by omega,by omega⟩;grind
theorem ZU2 (r:Int):∃q a,ZwW r=some (q,a):=by unfold ZwW;simp_all
theorem ZSV {D:List En1} [Gds D] (hn:D.length<=200) {a b:Nat} (hab:a+8<=b) (hb:b<=D.length):
  wp (Zpy D (a:Int) (b:Int)) (fun d=>Rg a b D d):=by
 have Zd:wp (ZpM D (a:Int) (b:Int)) (fun d=>Rg a b D d):=by
  unfold ZpM;obtain⟨L,hL⟩:∃L:Nat,L=b - a:=⟨_,rfl⟩;rw[show (b:Int) - (a:Int)=(L:Int) by omega];have eq:Int.tdiv (L:Int) 4=((L / 4:Nat):Int):=rfl;obtain⟨md,hm,hm1,hm2⟩:=ZUQ (n:=L) (by omega) (by omega);rw[ZnO,decide_eq_true (show (L:Int)>=8 by omega),cond_true,hm,ZnN,ZnL,eq,ZnO,ZnO,ZnO,ZnO,ZnO,ZnN];refine⟨ZnS (by omega),rfl,ZnS (by omega),ZnS (by omega),ZnS (by omega),ZnS (by omega), ?_⟩;refine ZnU (Zpm ZAs (fun s:Nat×List En1×Int=>((a:Int),(L:Int),(md:Int),(s.1:Int),s.2.1,s.2.2)) (fun s=>a<=s.1/\Rg a b D s.2.1) (fun s=>a+L+5 - s.1)
   (Q:=fun d=>Rg a b D d) (a+L / 4*2 - 1,D,IntKind.wrap .u64 (L:Int)) ⟨by omega,.refl _ _ _⟩ (by omega) ?_ |> fun h=>by
    have e:((a+L / 4*2 - 1:Nat):Int)=(a:Int)+((L / 4:Nat):Int)*2 - 1:=by omega
    dsimp only at h;rw[e]at h;exact h) ?_
  ·rintro rec ⟨i,d,r⟩ ⟨h1,h2⟩ ih;dsimp only at h1 h2 ih;have hl:=h2.len;haveI:=h2.gds;unfold ZtQ ZqF;dsimp only;rw[eq];simp only[ZnO];refine⟨rfl,ZnS (by omega),ZnS (by omega),ZnS (by omega),ZnS (by omega), ?_⟩
   by_cases hc:(i:Int)<=(a:Int)+((L / 4:Nat):Int)*2+1
   ·obtain⟨q,r',hr⟩:=ZU2 r;obtain⟨z,hz,hz2⟩:=ZZh q (y:=md - 1) (by omega);have hw:IntKind.wrap .u64 ((md:Int) - 1)=((md - 1:Nat):Int):=by grind[wrap_u64]
    rw[decide_eq_true hc,cond_true,hr,ZnN,ZnL];dsimp only;rw[hw,hz,wrap_i64 ⟨by omega,by omega⟩];have fin:∀o:Nat,o < L->wp (ZoG (fun a1 l1 m1 i1 d1 r1=>rec (a1,l1,m1,i1,d1,r1)) (a:Int) (L:Int) (md:Int) (i:Int) (o:Int) d r') (fun d=>Rg a b D d):=by
     intro o ho;have ho':a+o < d.length:=by omega
     have hi':i < d.length:=by omega
     unfold ZoG;rw[show (a:Int)+(o:Int)=((a+o:Nat):Int) by omega,ZnO,ZnO,ZnO,Z3R,Z3R,Z3X ho',ZnN,ZnL,ZnO,Z3X hi',ZnN,ZnL,ZnO,ZnO,ZnO];refine⟨ZnS (by omega),ZnS (by omega),ZoP ho',ZoP hi',ZoP hi',ZoI ⟨by omega,by grind⟩,ZnS (by omega), ?_⟩;have:=ih (i+1,sw d i (a+o) hi' ho',r') ⟨by omega,h2.trans (ZKa hi' ho' (by omega) (by omega) (by omega) (by omega))⟩ (by omega);exact this
    by_cases hge:(z:Int)>=(L:Int)
    ·rw[decide_eq_true hge,cond_true,ZnO,show (z:Int) - (L:Int)=((z - L:Nat):Int) by omega];grind[ZnS]
    grind
   grind[ZnL]
  grind[ZqZ,ZnL]
 unfold Zpy;rw[ZnN];refine ZnU Zd fun d hd=> ?_
 rw[ZnO,ZnL];exact⟨by rw[hd.len];simp,hd⟩
end Go.Proofs
namespace Go.Proofs
open Go Eng
def LoE (a:Nat) (d:List En1) (p:En1) (i:Nat):Prop:=∀k x,a<=k->k < i->d[k]? =some x->¬ZFK p x < 0
def HiE (b:Nat) (d:List En1) (p:En1) (j:Nat):Prop:=∀k x,j < k->k < b->d[k]? =some x->ZFK p x < 0
theorem ZX4 {d:List En1} [Gds d] {p:En1} {a b:Nat} (h0:d[a]? =some p) (hn:d.length<=1000) {i j:Nat} (hi:a+1<=i) (hij:i<=j+1) (hjb:j < b) (hj:b<=d.length) (hA:LoE a d p i):
  wp (Zof big (a:Int) (i:Int) (j:Int) d) (fun x=>∃i':Nat,x=((a:Int),(i':Int),(j:Int),d)/\i<=i'/\i'<=j+1/\LoE a d p i'/\∀h:i'<=j,ZFK p (d[i']'(by omega)) < 0):=by
 haveI:Gdm p:=Gds.at h0;refine Zpm ZzR (fun i:Nat=>((a:Int),(i:Int),(j:Int),d)) (fun i'=>i<=i'/\i'<=j+1/\LoE a d p i') (fun i'=>j+1 - i')
  (Q:=fun x=>∃i':Nat,x=((a:Int),(i':Int),(j:Int),d)/\i<=i'/\i'<=j+1/\LoE a d p i'/\∀h:i'<=j,ZFK p (d[i']'(by omega)) < 0) i ⟨Z4c _,hij,hA⟩ (by omega) ?_
 rintro rec i' ⟨h1,h2,h3⟩ ih;unfold Zth Zqr Zpk;dsimp only
 by_cases hc:i'<=j
 ·have hi':i' < d.length:=by omega
  rw[decide_eq_true (show (i':Int)<=(j:Int) by omega),cond_true,ZnO,Z3R,h0,ZnN,ZnL,ZnO,Z3R,Z3X hi',ZnN,ZnL,ZA8,ZnN,ZnL];refine⟨ZoI ⟨by omega,by omega⟩,ZoP hi', ?_⟩
  by_cases ho:ZFK p d[i'] < 0
  ·grind[ZnL]
  ·rw[decide_eq_false ho,ZYu,cond_true,ZnO];refine⟨ZnS (by omega),ih (i'+1) ⟨by omega,by omega,fun k x hk1 hk2 hx=> ?_⟩ (by omega)⟩
   by_cases e:k=i'
   ·simp_all
   ·exact h3 k x hk1 (by omega) hx
 grind[ZnL]
theorem ZSK {d:List En1} [Gds d] {p:En1} {a b:Nat} (h0:d[a]? =some p) (hn:d.length<=1000) {i j:Nat} (hi:a+1<=i) (hij:i<=j+1) (hjb:j < b) (hj:b<=d.length) (hB:HiE b d p j):
  wp (Zoe big (a:Int) (i:Int) (j:Int) d) (fun x=>∃j':Nat,x=((a:Int),(i:Int),(j':Int),d)/\j'<=j/\i<=j'+1/\HiE b d p j'/\∀h:i<=j',∀hl:j' < d.length,¬ZFK p d[j'] < 0):=by
 haveI:Gdm p:=Gds.at h0;refine Zpm ZzQ (fun j:Nat=>((a:Int),(i:Int),(j:Int),d)) (fun j'=>j'<=j/\i<=j'+1/\HiE b d p j') (fun j'=>j')
  (Q:=fun x=>∃j':Nat,x=((a:Int),(i:Int),(j':Int),d)/\j'<=j/\i<=j'+1/\HiE b d p j'/\∀h:i<=j',∀hl:j' < d.length,¬ZFK p d[j'] < 0) j ⟨Z4c _,hij,hB⟩ (by omega) ?_
 rintro rec j' ⟨h1,h2,h3⟩ ih;unfold Ztf Zqq Zpj;dsimp only
 by_cases hc:i<=j'
 ·have hj':j' < d.length:=by omega
  rw[decide_eq_true (show (i:Int)<=(j':Int) by omega),cond_true,ZnO,Z3R,h0,ZnN,ZnL,ZnO,Z3R,Z3X hj',ZnN,ZnL,ZA8,ZnN,ZnL];refine⟨ZoI ⟨by omega,by omega⟩,ZoP hj', ?_⟩
  by_cases ho:ZFK p d[j'] < 0
  ·rw[decide_eq_true ho,cond_true,ZnO,show (j':Int) - 1=((j' - 1:Nat):Int) by omega];refine⟨ZnS (by omega),ih (j' - 1) ⟨by omega,by omega,fun k x hk hkb hx=> ?_⟩ (by omega)⟩
   by_cases e:k=j'
   ·simp_all
   ·exact h3 k x (by omega) hkb hx
  grind[ZnL]
 grind[ZnL]
def PtE (a b:Nat) (D:List En1) (x:Int×List En1):Prop:=∃m:Nat,x.1=(m:Int)/\a < m/\m<=b/\Rg a b D x.2/\∃p,x.2[a]? =some p/\LoE a x.2 p m/\(∀k y,m<=k->k < b->x.2[k]? =some y->ZFK p y < 0)
theorem ZPF {D:List En1} [Gds D] (hn:D.length<=1000) {a b:Nat} {d0:List En1} [Gds d0] {p:En1} {i0 j0:Nat} (h0:d0[a]? =some p) (hi:a+1<=i0) (hij:i0<=j0+1) (hj:j0 < b) (hb:b<=D.length) (hA:LoE a d0 p i0) (hB:HiE b d0 p j0) (hp:Rg a b D d0):
  wp (Zn4 big (a:Int) (i0:Int) (j0:Int) d0) (fun x=>PtE a b D x/\x.2[a]? =some p):=by
 refine Zpm ZzS (fun s:Nat×Nat×List En1=>((a:Int),(s.1:Int),(s.2.1:Int),s.2.2)) (fun s=>s.2.2[a]? =some p/\a+1<=s.1/\s.1<=s.2.1+1/\s.2.1 < b/\LoE a s.2.2 p s.1/\HiE b s.2.2 p s.2.1/\Rg a b D s.2.2) (fun s=>s.2.1)
  (Q:=fun x=>PtE a b D x/\x.2[a]? =some p) (i0,j0,d0) ⟨h0,hi,hij,hj,hA,hB,hp⟩ (by grind) ?_
 rintro rec ⟨i,j,d⟩ ⟨h0,hi,hij,hj,hA,hB,hp⟩ ih;dsimp only at h0 hi hij hj hA hB hp ih;have hl:=hp.len;haveI:=hp.gds;have hdn:d.length<=1000:=by omega
 have hbd:b<=d.length:=by omega
 unfold Ztj Zqs ZqO ZqN;dsimp only;rw[ZnN];refine ZnU (ZX4 h0 hdn hi hij hj hbd hA) ?_;rintro _ ⟨i',rfl,h1,h2,h3,h4⟩;dsimp only;rw[ZnN];refine ZnU (ZSK h0 hdn (by omega) h2 hj hbd hB) ?_;rintro _ ⟨j',rfl,h5,h6,h7,h8⟩;dsimp only
 by_cases hc:i'<=j'
 ·have hi':i' < d.length:=by omega
  have hj':j' < d.length:=by omega
  have g1:=h4 (by omega);have g2:=h8 hc hj';have hlt:i' < j':=by
   grind
  rw[decide_eq_false (show ¬(i':Int) > (j':Int) by omega),cond_false,ZnO,Z3R,Z3R,Z3X hj',ZnN,ZnL,ZnO,Z3X hi',ZnN,ZnL,ZnO,ZnO,ZnO,ZnO];refine⟨ZoP hj',ZoP hi',ZoP hi',ZoI ⟨by omega,by grind⟩,ZnS (by omega),ZnS (by omega), ?_⟩;have s0:(sw d i' j' hi' hj')[a]? =some p:=by grind[ZFV]
  have sA:LoE a (sw d i' j' hi' hj') p (i'+1):=by
   intro k x hk1 hk2 hx;rw[ZFV hi' hj' k (by omega),if_neg (by omega)]at hx
   by_cases e:k=i'
   ·grind
   ·rw[if_neg e]at hx;exact h3 k x hk1 (by omega) hx
  have sB:HiE b (sw d i' j' hi' hj') p (j' - 1):=by
   intro k x hk hkb hx;rw[ZFV hi' hj' k (by omega)]at hx
   by_cases e:k=j'
   ·grind
   ·rw[if_neg e,if_neg (by omega)]at hx;exact h7 k x (by omega) hkb hx
  have:=ih (i'+1,j' - 1,sw d i' j' hi' hj') ⟨s0,by omega,by grind,by grind,sA,sB,hp.trans (ZKa hi' hj' (by omega) (by omega) (by omega) (by omega))⟩ (by grind);rw[show (((i'+1:Nat)):Int)=(i':Int)+1 by omega,show ((j' - 1:Nat):Int)=(j':Int) - 1 by omega]at this;exact this
 ·rw[decide_eq_true (show (i':Int) > (j':Int) by omega),cond_true,ZnL];exact⟨⟨i',rfl,by omega,by omega,hp,p,h0,h3,fun k y hk hkb hy=>h7 k y (by omega) hkb hy⟩,h0⟩
theorem ZSr {D:List En1} [Gds D] (hn:D.length<=1000) {a b pv:Nat} (hb:b<=D.length) (h1:a<=pv) (h2:pv < b):
  wp (Zpo D (a:Int) (b:Int) (pv:Int)) (fun x=>PtE a b D x/\x.2[a]? =D[pv]?):=by
 have hpv:pv < D.length:=by omega
 have h00:a < D.length:=by omega
 have Zd:wp (ZpF D (a:Int) (b:Int) (pv:Int)) (fun x=>PtE a b D x/\x.2[a]? =D[pv]?):=by
  unfold ZpF;simp only[ZnO,Z3R];rw[Z3X hpv,Z3X h00];simp only[ZnN,ZnL,ZnO];have hd0:(D.set a D[pv]).set pv D[a]=sw D a pv h00 hpv:=rfl;rw[hd0];have hlen:=ZKb (d:=D) h00 hpv;have hg0:(sw D a pv h00 hpv)[a]? =some D[pv]:=by
   grind
  have hperm:=ZKa (d:=D) h00 hpv (Z4c a) (show a < b by omega) h1 h2;generalize sw D a pv h00 hpv=d at hlen hg0 hperm;haveI:Gds d:=hperm.gds;generalize D[pv]=p at hg0;refine⟨ZoI ⟨by omega,by omega⟩,ZoI ⟨by omega,by omega⟩,ZoI ⟨by omega,by omega⟩,ZoI ⟨by omega,by simp_all⟩,ZnS (by omega),ZnS (by omega), ?_⟩;have hA:LoE a d p (a+1):=fun k x h1 h2 hx=>by
   grind[ZIa]
  have hB:HiE b d p (b - 1):=fun k x hk hkb hx=>by omega
  have:=ZPF (D:=D) hn (d0:=d) (i0:=a+1) (j0:=b - 1) hg0 (by omega) (by omega) (by omega) hb hA hB hperm;grind[ZqM,ZnL]
 unfold Zpo;rw[ZnN];refine ZnU Zd fun x hx=> ?_
 have hx2:=hx;obtain⟨⟨m,e,h3,h4,h5,h6⟩,h7⟩:=hx;rw[ZnO,ZnL];exact⟨by rw[h5.len];simp,hx2⟩
end Go.Proofs
namespace Go.Proofs
open Go Eng
def Le (a b:En1):Prop:=ZFK a b<=0
theorem Le.trans {a b c:En1} (d:Le a b) (f:Le b c):Le a c:=by
 unfold Le at*
 by_cases e:ZFK a b=0
 ·grind[ZTu]
 ·by_cases e2:ZFK b c=0
  ·grind[ZTu,ZIa]
  ·have:=ZPG (show ZFK a b < 0 by omega) (show ZFK b c < 0 by omega);omega
theorem ZCZ {a b:En1} (h:¬ZFK a b < 0):Le b a:=by grind[ZIa,Le]
theorem Le.of_lt {a b:En1} (h:ZFK a b < 0):Le a b:=Int.le_of_lt h
theorem Le.rfl' (a:En1):Le a a:=by grind[ZIa,Le]
def Hx (f lo hi:Nat) (d:List En1) (r:Option Nat):Prop:=∀k c x y,lo<=k->some k≠r->(c=2*k+1\/c=2*k+2)->c < hi->d[f+k]? =some x->d[f+c]? =some y->Le y x
def Gp (f lo hi:Nat) (d:List En1) (r:Nat):Prop:=∀q c x y,lo<=q->(r=2*q+1\/r=2*q+2)->(c=2*r+1\/c=2*r+2)->c < hi->d[f+q]? =some x->d[f+c]? =some y->Le y x
theorem ZQr {f lo hi r b:Nat} {d:List En1} (m:f+r < d.length) (l:f+b < d.length) (D:lo<=r) (t:b=2*r+1\/b=2*r+2) (o:b < hi) (A:Hx f lo hi d (some r)) (E:Gp f lo hi d r) (s:ZFK d[f+r] d[f+b] < 0) (w:∀c y,(c=2*r+1\/c=2*r+2)->c < hi->d[f+c]? =some y->Le y d[f+b]):
  Hx f lo hi (sw d (f+r) (f+b) m l) (some b)/\Gp f lo hi (sw d (f+r) (f+b) m l) b:=by
 have a:∀k z,(sw d (f+r) (f+b) m l)[f+k]? =some z->f+k < d.length:=fun k z G=>by
  grind[ZKb]
 refine⟨fun k c x y B p j n i g=> ?_,fun q c x y H C j n i g=> ?_⟩
 ·have F:k≠b:=fun e=>p (by rw[e])
  have u:=a k x i;have v:=a c y g;rw[ZFV m l _ u,if_neg (by omega)]at i;rw[ZFV m l _ v]at g
  by_cases e:k=r
  ·subst e;rw[if_pos rfl]at i;obtain rfl:=Z4e i
   by_cases e2:c=b
   ·subst e2;rw[if_pos rfl]at g;rw[<-Z4e g];exact .of_lt s
   grind
  ·rw[if_neg (by omega)]at i;rw[if_neg (show ¬f+c=f+b by omega)]at g
   by_cases e2:c=r
   ·subst e2;rw[if_pos rfl]at g;rw[<-Z4e g];exact E k b x _ B j t o i (Z3X l)
   ·rw[if_neg (by omega)]at g;exact A k c x y B (fun h=>e (Z4e h)) j n i g
 ·obtain rfl:q=r:=by omega
  have u:=a q x i;have v:=a c y g;rw[ZFV m l _ u,if_neg (by omega),if_pos rfl]at i;rw[ZFV m l _ v,if_neg (by omega),if_neg (by omega)]at g;obtain rfl:=Z4e i;exact A b c _ y (by omega) (fun h=>by grind) j n (Z3X l) g
theorem ZQs {D:List En1} [Gds D] (hn:D.length<=1000) {f lo hi:Nat} (hhi:f+hi<=D.length) (hlo1:lo<=1000) (hH:Hx f lo hi D (some lo)):
  wp (ZoA D (lo:Int) (hi:Int) (f:Int)) (fun d=>Rg f (f+hi) D d/\Hx f lo hi d none):=by
 have Zd:wp (ZqK D (lo:Int) (hi:Int) (f:Int)) (fun d=>Rg f (f+hi) D d/\Hx f lo hi d none):=by
  unfold ZqK;rw[ZnN];refine ZnU (Q:=fun x=>∃d,(x= .ret d\/x= .brk d)/\Rg f (f+hi) D d/\Hx f lo hi d none) ?_ ?_
  ·by_cases hlo:lo < hi
   ·refine Zpm ZB4 (fun s:Nat×List En1=>((hi:Int),(f:Int),(s.1:Int),s.2)) (fun s=>lo<=s.1/\s.1 < hi/\Rg f (f+hi) D s.2/\Hx f lo hi s.2 (some s.1)/\Gp f lo hi s.2 s.1) (fun s=>hi - s.1)
     (Q:=fun x=>∃d,(x= .ret d\/x= .brk d)/\Rg f (f+hi) D d/\Hx f lo hi d none) (lo,D) ⟨Z4c _,hlo,.refl _ _ _,hH,fun q c x y hq hqr=>by omega⟩ (by omega) ?_
    rintro rec ⟨r,d⟩ ⟨h1,h2,h3,h4,h5⟩ ih;dsimp only at h1 h2 h3 h4 h5 ih;have hl:=h3.len;haveI:=h3.gds;unfold Zvw ZoV;dsimp only;rw[ZnO,ZnO,show 2*(r:Int)+1=((2*r+1:Nat):Int) by omega];refine⟨ZnS (by omega),ZnS (by omega), ?_⟩;have step:∀ch:Nat,(ch=2*r+1\/ch=2*r+2)->ch < hi->(∀hc:f+ch < d.length,∀c y,(c=2*r+1\/c=2*r+2)->c < hi->d[f+c]? =some y->Le y d[f+ch])->
      wp (Zo3 (fun a1 a2 a3 a4=>rec (a1,a2,a3,a4)) (hi:Int) (f:Int) (r:Int) (ch:Int) d) (fun x=>∃d,(x= .ret d\/x= .brk d)/\Rg f (f+hi) D d/\Hx f lo hi d none):=by
     intro ch hch hchi hbig;have hr:f+r < d.length:=by omega
     have hc:f+ch < d.length:=by omega
     unfold Zo3;rw[show (f:Int)+(r:Int)=((f+r:Nat):Int) by omega,show (f:Int)+(ch:Int)=((f+ch:Nat):Int) by omega,ZnO,ZnO,Z3R,Z3R,Z3X hr,ZnN,ZnL,ZnO,ZnO,Z3X hc,ZnN,ZnL,ZA8,ZnN,ZnL];refine⟨ZnS (by omega),ZoP hr,ZnS (by omega),ZoP hc, ?_⟩
     by_cases ho:ZFK d[f+r] d[f+ch] < 0
     ·rw[decide_eq_true ho,Z3Q,cond_false];simp only[ZnO,ZnN,ZnL];refine⟨ZnS (by omega),ZnS (by omega),ZnS (by omega),ZoP hc,ZnS (by omega),ZoP hr,ZoP hr,ZoI ⟨by omega,by grind⟩, ?_⟩;obtain⟨s1,s2⟩:=ZQr hr hc h1 hch hchi h4 h5 ho (hbig hc);exact ih (ch,sw d (f+r) (f+ch) hr hc) ⟨by omega,hchi,h3.trans (ZKa hr hc (by omega) (by omega) (by omega) (by omega)),s1,s2⟩ (by omega)
     ·rw[decide_eq_false ho,ZYu,cond_true,ZnL];refine⟨d,.inl rfl,h3,fun k c x y hk _ hcc hcl hx hy=> ?_⟩
      by_cases e:k=r
      ·subst e;rw[Z3X hr]at hx;rw[<-Z4e hx];exact(hbig hc c y hcc hcl hy).trans (ZCZ ho)
      ·exact h4 k c x y hk (fun h=>e (Z4e h)) hcc hcl hx hy
    by_cases hge:hi<=2*r+1
    ·rw[decide_eq_true (show ((2*r+1:Nat):Int)>=(hi:Int) by omega),cond_true,ZnL];refine⟨d,.inr rfl,h3,fun k c x y hk _ hcc hcl hx hy=> ?_⟩
     by_cases e:k=r
     ·omega
     ·exact h4 k c x y hk (fun h=>e (Z4e h)) hcc hcl hx hy
    ·rw[decide_eq_false (show ¬((2*r+1:Nat):Int)>=(hi:Int) by omega),cond_false,ZnO,show ((2*r+1:Nat):Int)+1=((2*r+2:Nat):Int) by omega];refine⟨ZnS (by omega), ?_⟩;have hc1:f+(2*r+1) < d.length:=by omega
     unfold Zqd
     by_cases h22:2*r+2 < hi
     ·have hc2:f+(2*r+2) < d.length:=by omega
      rw[decide_eq_true (show ((2*r+2:Nat):Int) < (hi:Int) by omega),cond_true,show (f:Int)+((2*r+1:Nat):Int)=((f+(2*r+1):Nat):Int) by omega,show ((f+(2*r+1):Nat):Int)+1=((f+(2*r+2):Nat):Int) by omega,show ((2*r+1:Nat):Int)+1=((2*r+2:Nat):Int) by omega];rw[ZnO,ZnO,Z3R,Z3R,Z3X hc1,ZnN,ZnL,ZnO,ZnO,ZnO,Z3X hc2,ZnN,ZnL,ZA8,ZnN,ZnL];refine⟨ZnS (by omega),ZoP hc1,ZnS (by omega),ZnS (by omega),ZoP hc2, ?_⟩
      by_cases ho:ZFK d[f+(2*r+1)] d[f+(2*r+2)] < 0
      ·rw[decide_eq_true ho,cond_true,ZnO];refine⟨ZnS (by omega),step (2*r+2) (.inr rfl) h22 fun hc c y hcc hcl hy=> ?_⟩;rcases hcc with rfl |rfl
       ·rw[Z3X hc1]at hy;rw[<-Z4e hy];exact .of_lt ho
       ·rw[Z3X hc2]at hy;rw[<-Z4e hy];exact .rfl' _
      ·rw[decide_eq_false ho,cond_false];refine step (2*r+1) (.inl rfl) (by omega) fun hc c y hcc hcl hy=> ?_
       rcases hcc with rfl |rfl
       ·rw[Z3X hc1]at hy;rw[<-Z4e hy];exact .rfl' _
       grind[ZCZ]
     ·rw[decide_eq_false (show ¬((2*r+2:Nat):Int) < (hi:Int) by omega),cond_false,cond_false];refine step (2*r+1) (.inl rfl) (by omega) fun hc c y hcc hcl hy=> ?_
      obtain rfl:c=2*r+1:=by omega
      rw[Z3X hc1]at hy;rw[<-Z4e hy];exact .rfl' _
   ·obtain⟨n,hbig⟩:=ZKF 1 (by omega);rw[hbig];show wp (ZoV _ (hi:Int) (f:Int) (lo:Int) D) _;unfold ZoV;rw[ZnO,ZnO,decide_eq_true (show 2*(lo:Int)+1>=(hi:Int) by omega),cond_true,ZnL];exact⟨ZnS (by omega),ZnS (by omega),D,.inr rfl,.refl _ _ _,fun k c x y hk _ hcc hcl _ _=>by omega⟩
  grind[ZnL,Zsk]
 unfold ZoA;rw[ZnN];refine ZnU Zd fun d hd=> ?_
 rw[ZnO,ZnL];exact⟨by rw[hd.1.len];simp,hd⟩
end Go.Proofs
namespace Go.Proofs
open Go Eng
theorem Rg.mid {a b:Nat} {D d:List En1} (h:Rg a b D d) (c:a<=b):((d.drop a).take (b - a)).Perm ((D.drop a).take (b - a)):=by
 have e:d.take a=D.take a:=by
  refine List.ext_getElem? fun k=> ?_
  rw[Z3Z,Z3Z]
  by_cases hk:k < a
  ·rw[if_pos hk,if_pos hk,h.2 k (.inl hk)]
  grind
 have g:(d.drop a).drop (b - a)=(D.drop a).drop (b - a):=by
  refine List.ext_getElem? fun k=> ?_
  rw[Z3W,Z3W,Z3W,Z3W,h.2 _ (.inr (by omega))]
 have f:=h.1;grind[Z4a,List.perm_append_left_iff,List.perm_append_right_iff]
theorem ZQO {a b:Nat} {d:List En1} {x:En1}:x∈(d.drop a).take (b - a)<->∃k,a<=k/\k < b/\d[k]? =some x:=by
 rw[List.mem_iff_getElem?];constructor
 ·grind
 ·rintro⟨k,e,f,c⟩;refine⟨k - a, ?_⟩;grind
theorem Rg.mem {a b k:Nat} {D d:List En1} {x:En1} (h:Rg a b D d) (f:a<=k) (g:k < b) (e:d[k]? =some x):∃c,a<=c/\c < b/\D[c]? =some x:=
 ZQO.1 ((h.mid (by omega)).mem_iff.1 (ZQO.2 ⟨k,f,g,e⟩))
def Srt (a b:Nat) (d:List En1):Prop:=∀i j x y,a<=i->i < j->j < b->d[i]? =some x->d[j]? =some y->Le x y
theorem ZSC {f n:Nat} {d:List En1} (h:Hx f 0 n d none):∀(k:Nat) (x y:En1),k < n->d[f]? =some x->d[f+k]? =some y->Le y x:=by
 intro k
 induction k using Nat.strongRecOn with
 |ind k g=>
  intro x y e c a
  by_cases h0:k=0
  ·subst h0;rw[Nat.add_zero,c]at a;rw[<-Z4e a];exact .rfl' _
  ·have i:f+k < d.length:=(Z3Y.1 a).1;have b:d[f+(k - 1) / 2]? =some (d[f+(k - 1) / 2]'(by omega)):=Z3X (by omega);exact(h ((k - 1) / 2) k _ y (Nat.zero_le _) (by simp) (by omega) e b a).trans (g ((k - 1) / 2) (by omega) x _ (by omega) c b)
theorem ZVj {D:List En1} [Gds D] (hn:D.length<=1000) {a b:Nat} (hab:a+1<=b) (hb:b<=D.length):
  wp (Zqo D (a:Int) (b:Int)) (fun d=>Rg a b D d/\Srt a b d):=by
 have Zd:wp (ZqR D (a:Int) (b:Int)) (fun d=>Rg a b D d/\Srt a b d):=by
  obtain⟨n,rfl⟩:∃n,b=a+n:=⟨b - a,by omega⟩;unfold ZqR;rw[show ((a+n:Nat):Int) - (a:Int)=(n:Int) by omega,show (n:Int) - 1=((n - 1:Nat):Int) by omega,show Int.tdiv ((n - 1:Nat):Int) 2=(((n - 1) / 2:Nat):Int)from rfl,ZnO,ZnO,ZnO,ZnO,ZnN];refine⟨ZnS (by omega),ZnS (by omega),rfl,ZnS (by omega), ?_⟩;have l1:=Zpm ZB6 (fun s:Nat×List En1=>((a:Int),(0:Int),(n:Int),(s.1:Int) - 1,s.2)) (fun s=>s.1<=n/\Rg a (a+n) D s.2/\Hx a s.1 n s.2 none) (fun s=>s.1)
   (Q:=fun x=>∃d,x=((a:Int),(0:Int),(n:Int),d)/\Rg a (a+n) D d/\Hx a 0 n d none) ((n - 1) / 2+1,D) ⟨by omega,.refl _ _ _,fun k c x y hk _ hcc hcl _ _=>by omega⟩ (by omega) (by
   rintro rec ⟨t,d⟩ ⟨h1,h2,h3⟩ ih;dsimp only at h1 h2 h3 ih;have hl:=h2.len;haveI:=h2.gds;unfold ZvA ZrN;dsimp only
   by_cases ht:1<=t
   ·rw[decide_eq_true (show (t:Int) - 1>=0 by omega),cond_true,show (t:Int) - 1=((t - 1:Nat):Int) by omega,ZnN];refine ZnU (ZQs (D:=d) (by omega) (f:=a) (lo:=t - 1) (hi:=n) (by omega) (by omega) fun k c x y hk hkr hcc hcl hx hy=>h3 k c x y (by grind) (by simp) hcc hcl hx hy) ?_;rintro d' ⟨r1,r2⟩;rw[ZnO];refine⟨ZnS (by omega),ih (t - 1,d') ⟨by omega,h2.trans r1,r2⟩ (by omega)⟩
   grind[ZnL])
  dsimp only at l1;rw[show (((n - 1) / 2+1:Nat):Int) - 1=(((n - 1) / 2:Nat):Int) by omega]at l1;refine ZnU l1 ?_;rintro _ ⟨d1,rfl,g1,g2⟩;dsimp only;unfold Zsn;rw[ZnO,ZnN];refine⟨ZnS (by omega), ?_⟩;have l2:=Zpm ZB5 (fun s:Nat×List En1=>((a:Int),(0:Int),(s.1:Int) - 1,s.2)) (fun s=>s.1<=n/\Rg a (a+n) D s.2/\Hx a 0 s.1 s.2 none/\Srt (a+s.1) (a+n) s.2/\∀k j x y,k < s.1->s.1<=j->j < n->s.2[a+k]? =some x->s.2[a+j]? =some y->Le x y) (fun s=>s.1)
   (Q:=fun d=>Rg a (a+n) D d/\Srt a (a+n) d) (n,d1) ⟨Z4c _,g1,g2,fun i j x y h1 h2 h3=>by omega,fun k j x y h1 h2 h3=>by omega⟩ (by omega) (by
   rintro rec ⟨t,d⟩ ⟨h1,h2,h3,h4,h5⟩ ih;dsimp only at h1 h2 h3 h4 h5 ih;have hl:=h2.len;haveI:=h2.gds;unfold Zvy ZrM;dsimp only
   by_cases ht:1<=t
   ·have hi:a+(t - 1) < d.length:=by omega
    have h0:a < d.length:=by omega
    have hx0:d[a]? =some d[a]:=Z3X h0;rw[decide_eq_true (show (t:Int) - 1>=0 by omega),cond_true,show (t:Int) - 1=((t - 1:Nat):Int) by omega,show (a:Int)+((t - 1:Nat):Int)=((a+(t - 1):Nat):Int) by omega,ZnO,ZnO,ZnO,Z3R,Z3R,Z3X hi,ZnN,ZnL,ZnO,hx0,ZnN,ZnL,ZnO,ZnO,ZnN];refine⟨ZnS (by omega),ZnS (by omega),ZoP hi,ZoP h0,ZoP h0,ZoI ⟨by omega,by grind⟩, ?_⟩;have hsl:=ZKb h0 hi;have hsg:=ZFV h0 hi;have hsr:Rg a (a+n) d (sw d a (a+(t - 1)) h0 hi):=ZKa h0 hi (Z4c _) (by omega) (by omega) (by omega);have hsr2:Rg a (a+t) d (sw d a (a+(t - 1)) h0 hi):=ZKa h0 hi (Z4c _) (by omega) (by omega) (by omega);show wp (ZoA (sw d a (a+(t - 1)) h0 hi) ((0:Nat):Int) ((t - 1:Nat):Int) (a:Int)) _;refine ZnU (ZQs (D:=sw d a (a+(t - 1)) h0 hi) (by omega) (f:=a) (lo:=0) (hi:=t - 1) (by omega) (by omega) fun k c x y hk hkr hcc hcl hx hy=> ?_) ?_
    ·have hk0:k≠0:=fun e=>hkr (by rw[e])
     rw[hsg _ (by omega),if_neg (by omega),if_neg (by omega)]at hx;rw[hsg _ (by omega),if_neg (by omega),if_neg (by omega)]at hy;exact h3 k c x y hk (by simp) hcc (by omega) hx hy
    rintro d' ⟨r1,r2⟩;rw[ZnO];have hat:∀j,t - 1<=j->j < n->d'[a+j]? =if j=t - 1 then some d[a]else d[a+j]? :=by
     intro j hj hjn;rw[r1.2 (a+j) (.inr (by omega)),hsg _ (by omega)]
     grind
    have hold:∀k x,k < t - 1->d'[a+k]? =some x->∃k',k' < t/\d[a+k']? =some x:=by intro k x hk hx;obtain⟨k1,q1,q2,q3⟩:=r1.mem (by omega) (show a+k < a+(t - 1) by omega) hx;obtain⟨k2,q4,q5,q6⟩:=hsr2.mem q1 (by omega) q3;exact⟨k2 - a,by omega,by rw[show a+(k2 - a)=k2 by omega];omega⟩
    refine⟨ZnS (by omega),ih (t - 1,d') ⟨by omega,(h2.trans hsr).trans (r1.mono (Z4c _) (by omega)),r2,fun i j x y q1 q2 q3 hx hy=> ?_,fun k j x y q1 q2 q3 hx hy=> ?_⟩ (by omega)⟩
    ·dsimp only at q1;rw[show i=a+(i - a) by omega,hat (i - a) (by omega) (by omega)]at hx;rw[show j=a+(j - a) by omega,hat (j - a) (by omega) (by omega),if_neg (by omega)]at hy
     by_cases e:i - a=t - 1
     ·rw[if_pos e]at hx;rw[<-Z4e hx];exact h5 0 (j - a) _ y (by omega) (by omega) (by omega) hx0 hy
     ·rw[if_neg e]at hx;exact h4 (a+(i - a)) (a+(j - a)) x y (by omega) (by omega) (by omega) hx hy
    ·dsimp only at q1 q2;obtain⟨k',w1,w2⟩:=hold k x q1 hx;rw[hat j (by omega) q3]at hy
     by_cases e:j=t - 1
     ·grind[ZSC]
     ·rw[if_neg e]at hy;exact h5 k' j x y w1 (by omega) q3 w2 hy
   grind[ZnL])
  refine ZnU l2 ?_;grind[Zsm,ZnL]
 unfold Zqo;rw[ZnN];refine ZnU Zd fun d hd=> ?_
 rw[ZnO,ZnL];exact⟨by rw[hd.1.len];simp,hd⟩
end Go.Proofs
namespace Go.Proofs
open Go Eng
def Low (a b:Nat) (d:List En1):Prop:=a=0\/∀x,d[a - 1]? =some x->∀k y,a<=k->k < b->d[k]? =some y->Le x y
theorem Low.rg {a b:Nat} {D d:List En1} (h:Low a b D) (c:Rg a b D d):Low a b d:=by
 rcases h with h |h
 ·exact .inl h
 by_cases h0:a=0
 ·exact .inl h0
 refine .inr fun x e k y g i f=> ?_
 rw[c.2 (a - 1) (.inl (by omega))]at e;obtain⟨n,j,m,l⟩:=c.mem g i f;grind
def Ins (a i j:Nat) (d:List En1):Prop:=(∀p q x y,a<=p->p < q->q < i->p≠j->q≠j->d[p]? =some x->d[q]? =some y->Le x y)/\∀q x y,j < q->q < i->d[j]? =some x->d[q]? =some y->Le x y
theorem ZPs {D:List En1} [Gds D] (hn:D.length<=1000) {a b i:Nat} (hai:a+2<=i) (hib:i < b) (hb:b<=D.length) {j0:Int} (hlow:Low a b D) (hI:Ins a i (i - 1) D):
  wp (Zok big (a:Int) (b:Int) (i:Int) j0 ((i - 1:Nat):Int) D) (fun x=>∃d,x=((a:Int),(b:Int),(i:Int),j0,d)/\Rg a b D d/\Srt a i d):=by
 refine Zpm ZxR (fun s:Nat×List En1=>((a:Int),(b:Int),(i:Int),j0,(s.1:Int),s.2)) (fun s=>a<=s.1/\s.1 < i/\Rg a b D s.2/\Ins a i s.1 s.2) (fun s=>s.1)
  (Q:=fun x=>∃d,x=((a:Int),(b:Int),(i:Int),j0,d)/\Rg a b D d/\Srt a i d) (i - 1,D) ⟨by omega,by omega,.refl _ _ _,hI⟩ (by omega) ?_
 rintro rec ⟨j,d⟩ ⟨h1,h2,h3,h4,h5⟩ ih;dsimp only at h1 h2 h3 h4 h5 ih;have hl:=h3.len;haveI:=h3.gds;have hj:j < d.length:=by omega
 unfold Zsa ZpA;dsimp only;have done:(a < j->∀h:j - 1 < d.length,Le d[j - 1] d[j])->Srt a i d:=by
  intro hle p q x y q1 q2 q3 hx hy
  by_cases e1:p=j
  ·grind
  ·by_cases e2:q=j
   ·subst e2;have hjl:q - 1 < d.length:=by omega
    have hb1:=hle (by omega) hjl;rw[Z3X hj]at hy;rw[<-Z4e hy]
    by_cases e3:p=q - 1
    ·grind
    ·exact(h4 p (q - 1) x _ q1 (by omega) (by omega) e1 (by omega) hx (Z3X hjl)).trans hb1
   grind
 by_cases hc:1<=j
 ·have hj1:j - 1 < d.length:=by omega
  rw[decide_eq_true (show (j:Int)>=1 by omega),cond_true,show (j:Int) - 1=((j - 1:Nat):Int) by omega,ZnO,Z3R,Z3R,Z3X hj,ZnN,ZnL,ZnO,ZnO,Z3X hj1,ZnN,ZnL,ZA8,ZnN,ZnL];refine⟨ZoP hj,ZnS (by omega),ZoP hj1, ?_⟩
  by_cases ho:ZFK d[j] d[j - 1] < 0
  ·have haj:a < j:=by
    rcases Nat.lt_or_eq_of_le h1 with h |h
    ·omega
    ·exfalso;rcases(hlow.rg h3)with h0 |h0
     ·omega
     ·have:=h0 d[j - 1] (by grind) j d[j] (by omega) (by omega) (Z3X hj);grind[Le,ZIa]
   rw[decide_eq_true ho,Z3Q,cond_false];simp only[ZnO,ZnN,ZnL];refine⟨ZnS (by omega),ZnS (by omega),ZoP hj1,ZoP hj,ZoP hj,ZoI ⟨by omega,by grind⟩,ZnS (by omega), ?_⟩;have hg:=ZFV hj hj1;have hgb:∀k z,(sw d j (j - 1) hj hj1)[k]? =some z->k < d.length:=fun k z hz=>by
    grind[ZKb]
   refine ih (j - 1,sw d j (j - 1) hj hj1) ⟨by omega,by omega,h3.trans (ZKa hj hj1 (by omega) (by omega) (by omega) (by omega)),fun p q x y q1 q2 q3 e1 e2 hx hy=> ?_,fun q x y q2 q3 hx hy=> ?_⟩ (by omega)
   ·dsimp only at e1 e2 hx hy;rw[hg _ (hgb _ _ hx),if_neg e1]at hx;rw[hg _ (hgb _ _ hy),if_neg e2]at hy
    by_cases e3:p=j
    ·rw[if_pos e3]at hx;rw[if_neg (by omega)]at hy;rw[<-Z4e hx];exact h4 (j - 1) q _ y (by omega) (by omega) q3 (by omega) (by omega) (Z3X hj1) hy
    ·rw[if_neg e3]at hx
     by_cases e4:q=j
     ·rw[if_pos e4]at hy;rw[<-Z4e hy];exact h4 p (j - 1) x _ q1 (by omega) (by omega) e3 (by omega) hx (Z3X hj1)
     grind
   ·dsimp only at q2 hx hy;rw[hg _ hj1,if_pos rfl]at hx;rw[hg _ (hgb _ _ hy),if_neg (by omega)]at hy;rw[<-Z4e hx]
    by_cases e4:q=j
    ·rw[if_pos e4]at hy;rw[<-Z4e hy];exact .of_lt ho
    grind
  grind[ZnL,ZCZ]
 grind[ZnL]
theorem ZN0 {D:List En1} [Gds D] (hn:D.length<=1000) {a b i:Nat} (hai:a+1<=i) (hib:i+2<=b) (hb:b<=D.length) {j0:Int}:
  wp (Zoj big (a:Int) (b:Int) (i:Int) j0 ((i+1:Nat):Int) D) (fun x=>∃d,x=((a:Int),(b:Int),(i:Int),j0,d)/\Rg i b D d):=by
 refine Zpm ZxQ (fun s:Nat×List En1=>((a:Int),(b:Int),(i:Int),j0,(s.1:Int),s.2)) (fun s=>i+1<=s.1/\s.1<=b/\Rg i b D s.2) (fun s=>b - s.1)
  (Q:=fun x=>∃d,x=((a:Int),(b:Int),(i:Int),j0,d)/\Rg i b D d) (i+1,D) ⟨Z4c _,by omega,.refl _ _ _⟩ (by omega) ?_
 rintro rec ⟨j,d⟩ ⟨h1,h2,h3⟩ ih;dsimp only at h1 h2 h3 ih;have hl:=h3.len;haveI:=h3.gds;unfold Zr8 Zpz;dsimp only
 by_cases hc:j < b
 ·have hj:j < d.length:=by omega
  have hj1:j - 1 < d.length:=by omega
  rw[decide_eq_true (show (j:Int) < (b:Int) by omega),cond_true,show (j:Int) - 1=((j - 1:Nat):Int) by omega,ZnO,Z3R,Z3R,Z3X hj,ZnN,ZnL,ZnO,ZnO,Z3X hj1,ZnN,ZnL,ZA8,ZnN,ZnL];refine⟨ZoP hj,ZnS (by omega),ZoP hj1, ?_⟩
  by_cases ho:ZFK d[j] d[j - 1] < 0
  ·rw[decide_eq_true ho,Z3Q,cond_false];simp only[ZnO,ZnN,ZnL];refine⟨ZnS (by omega),ZnS (by omega),ZoP hj1,ZoP hj,ZoP hj,ZoI ⟨by omega,by grind⟩,ZnS (by omega), ?_⟩;exact ih (j+1,sw d j (j - 1) hj hj1) ⟨by omega,by omega,h3.trans (ZKa hj hj1 (by omega) (by omega) (by omega) (by omega))⟩ (by omega)
  grind[ZnL]
 grind[ZnL]
end Go.Proofs
namespace Go.Proofs
open Go Eng
theorem ZUD {d:List En1} [Gds d] (hn:d.length<=1000) {a b i:Nat} (hai:a+1<=i) (hib:i<=b) (hb:b<=d.length) {j0:Int} (hS:Srt a i d):
  wp (Zn5 big (a:Int) (b:Int) (i:Int) j0 d) (fun x=>∃i':Nat,x=((a:Int),(b:Int),(i':Int),j0,d)/\a+1<=i'/\i'<=b/\Srt a i' d/\∀h:i' < b,ZFK (d[i']'(by omega)) (d[i' - 1]'(by omega)) < 0):=by
 refine Zpm ZxS (fun i:Nat=>((a:Int),(b:Int),(i:Int),j0,d)) (fun i=>a+1<=i/\i<=b/\Srt a i d) (fun i=>b - i)
  (Q:=fun x=>∃i':Nat,x=((a:Int),(b:Int),(i':Int),j0,d)/\a+1<=i'/\i'<=b/\Srt a i' d/\∀h:i' < b,ZFK (d[i']'(by omega)) (d[i' - 1]'(by omega)) < 0) i ⟨hai,hib,hS⟩ (by omega) ?_
 rintro rec i ⟨h1,h2,h3⟩ ih;unfold Zsc ZpB ZoJ;dsimp only
 by_cases hc:i < b
 ·have hi:i < d.length:=by omega
  have hi1:i - 1 < d.length:=by omega
  rw[decide_eq_true (show (i:Int) < (b:Int) by omega),cond_true,show (i:Int) - 1=((i - 1:Nat):Int) by omega,ZnO,Z3R,Z3R,Z3X hi,ZnN,ZnL,ZnO,ZnO,Z3X hi1,ZnN,ZnL,ZA8,ZnN,ZnL];refine⟨ZoP hi,ZnS (by omega),ZoP hi1, ?_⟩
  by_cases ho:ZFK d[i] d[i - 1] < 0
  ·grind[ZnL]
  ·rw[decide_eq_false ho,ZYu,cond_true,ZnO];refine⟨ZnS (by omega),ih (i+1) ⟨by omega,by omega,fun p q x y q1 q2 q3 hx hy=> ?_⟩ (by omega)⟩
   by_cases e:q=i
   ·subst e;rw[Z3X hi]at hy;rw[<-Z4e hy]
    by_cases e2:p=q - 1
    ·grind[ZCZ]
    ·exact(h3 p (q - 1) x _ q1 (by omega) (by omega) hx (Z3X hi1)).trans (ZCZ ho)
   ·exact h3 p q x y q1 q2 (by omega) hx hy
 grind[ZnL]
theorem Srt.rg {a i b:Nat} {D d:List En1} (h:Srt a i D) (c:Rg i b D d):Srt a i d:=fun p q x y f g e j k=>h p q x y f g e (by rw[<-c.2 p (.inl (by omega))];omega) (by rw[<-c.2 q (.inl e)];omega)
theorem ZN6 {D:List En1} [Gds D] (hn:D.length<=1000) {a b:Nat} (hab:a+1<=b) (hb:b<=D.length) (hlow:Low a b D):
  wp (ZoQ D (a:Int) (b:Int)) (fun x=>Rg a b D x.2/\(x.1=true->Srt a b x.2)):=by
 have Zd:wp (ZoY D (a:Int) (b:Int)) (fun x=>Rg a b D x.2/\(x.1=true->Srt a b x.2)):=by
  unfold ZoY;rw[ZnO,ZnN,show (a:Int)+1=((a+1:Nat):Int) by omega];refine⟨ZnS (by omega), ?_⟩;refine ZnU (Q:=fun x=>(∃f d,x= .ret (f,d)/\Rg a b D d/\(f=true->Srt a b d))\/∃d,x= .brk d/\Rg a b D d) ?_ ?_
  ·refine Zpm ZxT (fun s:Nat×Nat×List En1=>((a:Int),(b:Int),(s.1:Int),(s.2.1:Int),s.2.2)) (fun s=>a+1<=s.1/\s.1<=b/\s.2.1<=5/\Rg a b D s.2.2/\Srt a s.1 s.2.2) (fun s=>5 - s.2.1)
    (Q:=fun x=>(∃f d,x= .ret (f,d)/\Rg a b D d/\(f=true->Srt a b d))\/∃d,x= .brk d/\Rg a b D d) (a+1,0,D) ⟨Z4c _,hab,Nat.zero_le _,.refl _ _ _,fun p q x y q1 q2 q3=>by omega⟩ (by omega) ?_
   rintro rec ⟨i,j,d⟩ ⟨h1,h2,h3,h4,h5⟩ ih;dsimp only at h1 h2 h3 h4 h5 ih;have hl:=h4.len;haveI:=h4.gds;unfold Zse ZpC;dsimp only
   by_cases hj:j < 5
   ·rw[decide_eq_true (show (j:Int) < 5 by omega),cond_true,ZnN];refine ZnU (ZUD (d:=d) (by omega) h1 h2 (by omega) h5) ?_;rintro _ ⟨i,rfl,g1,g2,g3,g4⟩;dsimp only;unfold ZpR
    by_cases e:i=b
    ·grind[ZnL]
    ·have hib:i < b:=by omega
     have ho:=g4 hib;have hi:i < d.length:=by omega
     have hi1:i - 1 < d.length:=by omega
     rw[show ((i:Int) == (b:Int))=false by grind,cond_false,ZnO,Zn1];refine⟨ZnS (by omega),fun _=> ?_,fun _=> ?_⟩
     ·grind[ZnL]
     ·
      have hg:=ZFV hi hi1;have hsr:Rg a b d (sw d i (i - 1) hi hi1):=ZKa hi hi1 (by omega) (by omega) (by omega) (by omega);have next:∀d',Rg a b D d'->Srt a i d'->wp (rec ((a:Int),(b:Int),(i:Int),(j:Int)+1,d')) (fun x=>(∃f d,x= .ret (f,d)/\Rg a b D d/\(f=true->Srt a b d))\/∃d,x= .brk d/\Rg a b D d):=fun d' q1 q2=>ih (i,j+1,d') ⟨g1,by omega,by grind,q1,q2⟩ (by grind)
      have j4:∀d',Rg a b D d'->Srt a i d'->wp (Zol (fun a1 a2 a3 a4 a5=>rec (a1,a2,a3,a4,a5)) (a:Int) (b:Int) (i:Int) (j:Int) (decide ((b:Int) - (i:Int)>=2)) d') (fun x=>(∃f d,x= .ret (f,d)/\Rg a b D d/\(f=true->Srt a b d))\/∃d,x= .brk d/\Rg a b D d):=by
       intro d' q1 q2;haveI:=q1.gds;unfold Zol ZpP
       by_cases hr:i+2<=b
       ·rw[decide_eq_true (show (b:Int) - (i:Int)>=2 by omega),cond_true,ZnO,ZnN,show (i:Int)+1=((i+1:Nat):Int) by omega];refine⟨ZnS (by omega),ZnU (ZN0 (D:=d') (by rw[q1.len];omega) g1 hr (by rw[q1.len];omega)) ?_⟩;rintro _ ⟨d2,rfl,w1⟩;dsimp only;rw[ZnO];exact⟨ZnS (by omega),next d2 (q1.trans (w1.mono (by omega) (Z4c _))) (q2.rg w1)⟩
       grind[ZnO,ZnS]
      rw[show (i:Int) - 1=((i - 1:Nat):Int) by omega];simp only[ZnO,Z3R];rw[Z3X hi1,Z3X hi];simp only[ZnN,ZnL,ZnO];refine⟨ZnS (by omega),ZnS (by omega),ZoP hi1,ZoP hi,ZoP hi,ZoI ⟨by omega,by grind⟩,ZnS (by omega), ?_⟩;show wp (bif decide ((i:Int) - (a:Int)>=2)then _ else _) _
      by_cases h2a:a+2<=i
      ·rw[decide_eq_true (show (i:Int) - (a:Int)>=2 by omega),cond_true];simp only[ZnO,ZnN];refine⟨ZnS (by omega), ?_⟩;have hI:Ins a i (i - 1) (sw d i (i - 1) hi hi1):=by refine⟨fun p q x y q1 q2 q3 e1 e2 hx hy=> ?_,fun q x y q2 q3=>by omega⟩;rw[hg _ (by omega),if_neg e1,if_neg (by omega)]at hx;rw[hg _ (by omega),if_neg e2,if_neg (by omega)]at hy;exact g3 p q x y q1 q2 q3 hx hy
       refine ZnU (ZPs (D:=sw d i (i - 1) hi hi1) (by grind[ZKb]) h2a hib (by grind[ZKb]) ((hlow.rg h4).rg hsr) hI) ?_;rintro _ ⟨d2,rfl,w1,w2⟩;dsimp only;unfold ZpQ;rw[ZnO];exact⟨ZnS (by omega),j4 d2 ((h4.trans hsr).trans w1) w2⟩
      ·rw[decide_eq_false (show ¬(i:Int) - (a:Int)>=2 by omega),cond_false,ZnO];exact⟨ZnS (by omega),j4 _ (h4.trans hsr) fun p q x y q1 q2 q3=>by omega⟩
   grind[ZnL]
  grind[ZnL,ZpO]
 unfold ZoQ;rw[ZnN];refine ZnU Zd fun x hx=> ?_
 rw[ZnO,ZnL];exact⟨by rw[hx.1.len];simp,hx⟩
end Go.Proofs
namespace Go.Proofs
open Go Eng
theorem ZPM (Pre:List En1) (b i0:Int) {A0 C0:List En1} {x:En1} (a:(Pre++(A0++x::C0)).length<=1000) (z:∀e∈A0,Gdm e) (D:Gdm x):
  wp (Zoi big (Pre.length:Int) b i0 ((Pre.length+A0.length:Nat):Int) (Pre++(A0++x::C0))) (fun y=>y=((Pre.length:Int),b,i0,Pre++(ZJ6 ltJ x A0++C0))):=by
 refine Zpm ZAr (fun(s:List En1×List En1)=>((Pre.length:Int),b,i0,((Pre.length+s.1.length:Nat):Int),Pre++(s.1++x::s.2))) (fun s=>ZJ6 ltJ x s.1++s.2=ZJ6 ltJ x A0++C0/\(Pre++(s.1++x::s.2)).length<=1000/\∀e∈s.1,Gdm e) (fun s=>s.1.length)
  (Q:=fun y=>y=((Pre.length:Int),b,i0,Pre++(ZJ6 ltJ x A0++C0))) (A0,C0) ⟨rfl,a,z⟩ (by grind) ?_
 rintro n ⟨A,C⟩ ⟨f,i,g⟩ j;dsimp only at f i g j|-
 unfold ZtO ZqE Zpr;dsimp only;rcases List.eq_nil_or_concat A with rfl |⟨A,p,rfl⟩
 ·grind[ZnL,ZMF]
 ·rw[List.concat_eq_append]at*
  simp only[Z31,Z32,List.length_nil]at i;have r:Pre++((A++[p])++x::C)=(Pre++A)++p::x::C:=by simp
  have B:(Pre++A).length=Pre.length+A.length:=Z31;have w:((Pre.length+(A++[p]).length:Nat):Int)=(((Pre++A).length+1:Nat):Int):=by grind
  have t:((Pre.length+(A++[p]).length:Nat):Int) - 1=((Pre++A).length:Int):=by omega
  have q:((Pre++A)++p::x::C)[(Pre++A).length+1]? =some x:=by rw[Z3V (by omega),show (Pre++A).length+1 - (Pre++A).length=1 by omega];rfl
  have u:((Pre++A)++p::x::C)[(Pre++A).length]? =some p:=by simp_all
  rw[Zn1];refine⟨fun _=> ?_,fun h=>by grind⟩;rw[t,w,r];simp only[Z3R,q,u,Z4d];have E:((Pre++A)++p::x::C).length=(Pre++A).length+2+C.length:=by grind
  have m:inR (((Pre++A).length+1:Nat):Int) (((Pre++A)++p::x::C).length:Int)=true:=ZoI ⟨by omega,by omega⟩;have o:inR ((Pre++A).length:Int) (((Pre++A)++p::x::C).length:Int)=true:=ZoI ⟨by omega,by omega⟩;have d:inR ((Pre++A).length:Int) ((((Pre++A)++p::x::C).set ((Pre++A).length+1) p).length:Int)=true:=by simp_all
  have v:inK .i64 ((Pre++A).length:Int)=true:=ZnS (by omega);rw[m,o,d,v];simp only[chk_true];haveI:Gdm p:=g p (by simp);rw[ZA8,ZnN,ZnL];rw[ZJm]at f;have c:ltJ x p=decide (ZFK x p < 0):=rfl;rw[Zn1];refine⟨fun k=> ?_,fun k=> ?_⟩
  ·rw[c,if_pos k]at f;rw[ZLj];have:=j (A,p::C) ⟨by simp_all,by grind,fun e l=>g e (List.mem_append_left _ l)⟩ (by simp);simp_all
  grind[ZnL]
theorem ZVf (Pre M Suf:List En1) (p:(Pre++(M++Suf)).length<=1000) (h:∀e∈M,Gdm e):
  ZoH (Pre++(M++Suf)) (Pre.length:Int) ((Pre.length+M.length:Nat):Int)=some (Pre++(ZtR ltJ M++Suf)):=by
 have g:Pre.length+M.length+Suf.length<=1000:=by grind
 have key:ZpK (Pre++(M++Suf)) (Pre.length:Int) ((Pre.length+M.length:Nat):Int)=some (Pre++(ZtR ltJ M++Suf)):=by
  refine Zps ?_;unfold ZpK ZqX;rw[ZnO,ZnN];refine⟨ZnS (by omega), ?_⟩;have c:∀(k f:Nat),k+1<=M.length->M.length - (k+1) < f->wp (ZoE f (Pre.length:Int) ((Pre.length+M.length:Nat):Int) ((Pre.length+(k+1):Nat):Int) (Pre++((ZtR ltJ (M.take (k+1))++M.drop (k+1))++Suf))) (fun y=>y=Pre++(ZtR ltJ M++Suf)):=by
   intro k f
   induction f generalizing k with
   |zero=>omega
   |succ f o=>
    intro m l;show wp (Zov _ _ _ _ _) _;unfold Zov ZqY;rw[Zn1];refine⟨fun d=> ?_,fun d=> ?_⟩
    ·simp only[decide_eq_true_eq]at d;have b:k+1 < M.length:=by omega
     have a:(ZtR ltJ (M.take (k+1))).length=k+1:=by grind[Zu9,Z35]
     have e:M.drop (k+1)=M[k+1]::M.drop (k+2):=List.drop_eq_getElem_cons b;rw[e];have:=ZPM Pre ((Pre.length+M.length:Nat):Int) ((Pre.length+(k+1):Nat):Int) (A0:=ZtR ltJ (M.take (k+1))) (C0:=M.drop (k+2)++Suf) (x:=M[k+1]) (by grind[Z32]) (fun e i=>h e (List.mem_of_mem_take ((Zt8 _).mem_iff.1 i))) (h _ (Z30 b));rw[a]at this;rw[ZnN,Z3T,List.cons_append];refine ZnU this ?_;rintro y rfl;dsimp only;rw[ZnO];refine⟨ZnS (by omega), ?_⟩;have q:ZJ6 ltJ M[k+1] (ZtR ltJ (M.take (k+1)))=ZtR ltJ (M.take (k+2)):=by rw[Z4b b,ZIz]
     grind
    grind[ZnL]
  by_cases h0:M.length=0
  ·have:M=[]:=List.eq_nil_of_length_eq_zero h0;subst this;obtain⟨n,j⟩:=ZKF 1 (by omega);rw[j];show wp (Zov _ _ _ _ _) _;unfold Zov;rw[List.length_nil,decide_eq_false (by omega),cond_false,ZnL,ZnL];rfl
  ·have:=c 0 big (by omega) (by grind[big_eq]);have e:ZtR ltJ (M.take (0+1))++M.drop (0+1)=M:=by
    cases M with
    |nil=>simp_all
    |cons x M=>rfl
   grind[ZnU,ZnL]
 unfold ZoH;rw[key,Z4d];have:(Pre++(ZtR ltJ M++Suf)).length=(Pre++(M++Suf)).length:=by grind[Zu9]
 simp_all
theorem ZQY (l:List En1):(ZtR ltJ l).Pairwise Le:=
 ZGK (fun _=>True) Le (fun x p _ _ h=>by grind[Le]) (fun x p _ _ h=>ZCZ (of_decide_eq_false h)) (fun a b c _ _ _ d e=>d.trans e) l fun _ _=>trivial
theorem ZYN {D:List En1} [Gds D] (hn:D.length<=1000) {a b:Nat} (hab:a<=b) (hb:b<=D.length):
  wp (ZoH D (a:Int) (b:Int)) (fun d=>Rg a b D d/\Srt a b d):=by
 have e:D=D.take a++((D.drop a).take (b - a)++(D.drop a).drop (b - a)):=by rw[Z4a,Z4a]
 have l1:(D.take a).length=a:=by grind
 have l2:((D.drop a).take (b - a)).length=b - a:=by rw[Z35,List.length_drop];omega
 generalize D.take a=Pre at e l1;generalize (D.drop a).take (b - a)=M at e l2;generalize (D.drop a).drop (b - a)=Suf at e;subst e;have h:=ZVf Pre M Suf hn fun e he=>Gds.all (d:=Pre++(M++Suf)) e (List.mem_append_right _ (List.mem_append_left _ he))
 rw[l1,show ((a+M.length:Nat):Int)=(b:Int) by omega]at h;rw[h,ZnL];have l3:(ZtR ltJ M).length=M.length:=Zu9 M;have hs:=ZQY M;refine⟨⟨((Zt8 M).append_right Suf).append_left Pre,fun k hk=> ?_⟩,fun i j x y q1 q2 q3 hx hy=> ?_⟩
 ·grind
 ·rw[Z3V (by omega),Z3U (by omega)]at hx hy;grind[List.pairwise_iff_getElem]
end Go.Proofs
namespace Go.Proofs
open Go Eng
theorem Low.sub {a b c:Nat} {d:List En1} (h:Low a b d) (i:c<=b):Low a c d:=by
 rcases h with h |h
 ·exact .inl h
 ·exact .inr fun x e k y g j f=>h x e k y g (by omega) f
theorem ZYw:∀(n:Nat) {D:List En1} [Gds D] (_:D.length<=200) {a0 b0:Nat} (_:a0<=b0) (_:b0<=D.length) (_:b0 - a0 < n) (_:Low a0 b0 D) {lim:Int} (_:0<=lim) (_:lim<=1000),
  wp (ZnT n D (a0:Int) (b0:Int) lim) (fun d=>Rg a0 b0 D d/\Srt a0 b0 d):=by
 intro n
 induction n with
 |zero=>omega
 |succ n IH=>
  intro D _ hn a0 b0 hab hb hfu hlow lim hl0 hl1;show wp ((Zqy (ZnT n) D (a0:Int) (b0:Int) lim).bind _) _;rw[ZnN];refine ZnU (Q:=fun d=>Rg a0 b0 D d/\Srt a0 b0 d) ?_ fun d hd=>by rw[ZnO,ZnL];exact⟨by rw[hd.1.len];simp,hd⟩
  unfold Zqy;rw[ZnN];refine ZnU (Zpm (ZCh (ZnT n)) (fun s:Nat×Nat×Int×Bool×Bool×List En1=>((s.1:Int),(s.2.1:Int),s.2.2.1,s.2.2.2.1,s.2.2.2.2.1,s.2.2.2.2.2))
   (fun s=>a0<=s.1/\s.1<=s.2.1/\s.2.1<=b0/\(0<=s.2.2.1/\s.2.2.1<=1000)/\Rg a0 b0 D s.2.2.2.2.2/\Low s.1 s.2.1 s.2.2.2.2.2/\∀d',Rg s.1 s.2.1 s.2.2.2.2.2 d'->Srt s.1 s.2.1 d'->Srt a0 b0 d') (fun s=>s.2.1 - s.1)
   (Q:=fun x=>∃d,x= .ret d/\Rg a0 b0 D d/\Srt a0 b0 d) (a0,b0,lim,true,true,D) ⟨Z4c _,hab,Z4c _,⟨hl0,hl1⟩,.refl _ _ _,hlow,fun d' _ h=>h⟩ (by grind) ?_) ?_
  ·rintro rec ⟨a,b,lim,wb,wq,d⟩ ⟨h1,h2,h3,⟨h4,h5⟩,h6,h7,h8⟩ ih;dsimp only at h1 h2 h3 h4 h5 h6 h7 h8 ih;have hl:=h6.len;haveI:=h6.gds;have up:∀d',Rg a b d d'->Rg a0 b0 D d':=fun d' h=>h6.trans (h.mono h1 h3)
   unfold Zv9 ZrX;dsimp only;rw[ZnO];refine⟨ZnS (by omega), ?_⟩
   by_cases h12:(b:Int) - (a:Int)<=12
   ·rw[decide_eq_true h12,cond_true,ZnN];refine ZnU (ZYN (D:=d) (by omega) h2 (by omega)) ?_;grind[ZnL]
   rw[decide_eq_false h12,cond_false,Zn1];refine⟨fun _=> ?_,fun hlim=> ?_⟩
   ·rw[ZnN];refine ZnU (ZVj (D:=d) (by omega) (a:=a) (b:=b) (by omega) (by omega)) ?_;grind[ZnL]
   have hlim':lim≠0:=by grind
   have j5:∀(pv:Nat) (L:Int) (len:Int) (d1:List En1) (f:Bool),a<=pv->pv < b->0<=L->L<=1000->len=((b - a:Nat):Int)->Rg a b d d1->
     (f=true->∃hp:pv < d1.length,∃ha:a - 1 < d1.length,0 < a/\¬ZFK d1[a - 1] d1[pv] < 0)->
     wp (Zpd (ZnT n) (fun a1 a2 a3 a4 a5 a6=>rec (a1,a2,a3,a4,a5,a6)) (a:Int) (b:Int) L wb wq len (pv:Int) f d1) (fun x=>∃d,x= .ret d/\Rg a0 b0 D d/\Srt a0 b0 d):=by
    intro pv L len d1 f p1 p2 L0 L1 hlen r1 hf;have hl1:=r1.len;haveI:=r1.gds;have hlow1:=h7.rg r1;unfold Zpd;cases f with
    |true=>
     obtain⟨hp,ha,ha0,hnl⟩:=hf rfl;rw[cond_true,ZnN];refine ZnU (ZSr (D:=d1) (by omega) (by omega) p1 p2) ?_;rintro⟨m',d2⟩ ⟨⟨m,e,m1,m2,r2,p,q1,q2,q3⟩,q4⟩;dsimp only at e r2 q1 q2 q3 q4|-
     subst e;have hpp:d1[pv]=p:=by rw[q1,Z3X hp]at q4;grind
     have hl2:=r2.len;haveI:=r2.gds;have hlow2:=hlow1.rg r2;have ha2:d2[a - 1]? =some d1[a - 1]:=by rw[r2.2 (a - 1) (.inl (by omega)),Z3X ha]
     have hpa:Le p d1[a - 1]:=hpp▸ZCZ hnl;have hall:∀k y,a<=k->k < b->d2[k]? =some y->Le d1[a - 1] y:=fun k y w1 w2 hy=>by
      rcases hlow2 with h |h
      ·omega
      ·exact h _ ha2 k y w1 w2 hy
     refine ih (m,b,L,wb,wq,d2) ⟨by omega,m2,h3,⟨L0,L1⟩,up d2 (r1.trans r2),.inr fun x hx k y w1 w2 hy=> ?_,fun d' s1 s2=> ?_⟩ (by grind)
     ·dsimp only at hx w1 hy;exact(ZCZ (q2 (m - 1) x (by omega) (by omega) hx)).trans (.of_lt (q3 k y w1 w2 hy))
     ·dsimp only at s1 s2;refine h8 d' ((r1.trans r2).trans (s1.mono (by omega) (Z4c _))) fun i j x y w1 w2 w3 hx hy=> ?_
      by_cases e1:i < m
      ·rw[s1.2 i (.inl e1)]at hx;have hxp:Le x p:=ZCZ (q2 i x w1 e1 hx)
       by_cases e2:j < m
       ·rw[s1.2 j (.inl e2)]at hy;exact(hxp.trans hpa).trans (hall j y (by omega) (by omega) hy)
       ·obtain⟨k',u1,u2,u3⟩:=s1.mem (by omega) w3 hy;exact hxp.trans (.of_lt (q3 k' y u1 u2 u3))
      ·exact s2 i j x y (by omega) w2 w3 hx hy
    |false=>
     rw[cond_false,ZnN];refine ZnU (ZM8 (D:=d1) (by omega) (by omega) p1 p2) ?_;rintro⟨m',ap,d2⟩ ⟨m,e,m1,m2,r2,p,q1,q2,q3⟩;dsimp only at e r2 q1 q2 q3|-
     subst e;have hl2:=r2.len;haveI:=r2.gds;have hlow2:=hlow1.rg r2;rw[hlen,ZnO,ZnO,ZnO,ZnO,show Int.tdiv ((b - a:Nat):Int) 8=(((b - a) / 8:Nat):Int)from rfl,Zn1];refine⟨ZnS (by omega),ZnS (by omega),rfl,ZnS (by omega),fun _=> ?_,fun _=> ?_⟩
     ·rw[ZnN];refine ZnU (IH (D:=d2) (by omega) (a0:=a) (b0:=m) m1 (by omega) (by omega) (hlow2.sub (by omega)) L0 L1) ?_;rintro d3 ⟨r3,r4⟩;have hl3:=r3.len;haveI:=r3.gds;rw[ZnO,show (m:Int)+1=((m+1:Nat):Int) by omega];have hpm:d3[m]? =some p:=by rw[r3.2 m (.inr (Z4c _))];omega
      have hhi:∀k y,m < k->k < b->d3[k]? =some y->Le p y:=fun k y w1 w2 hy=>by rw[r3.2 k (.inr (by omega))]at hy;exact ZCZ (q3 k y w1 w2 hy)
      have hlo:∀k y,a<=k->k < m->d3[k]? =some y->Le y p:=fun k y w1 w2 hy=>by obtain⟨k',u1,u2,u3⟩:=r3.mem w1 w2 hy;exact .of_lt (q2 k' y u1 u2 u3)
      refine⟨ZnS (by omega),ih (m+1,b,L,_,ap,d3) ⟨by omega,by grind,h3,⟨L0,L1⟩,up d3 ((r1.trans r2).trans (r3.mono (Z4c _) (by omega))),.inr fun x hx k y w1 w2 hy=> ?_,fun d' s1 s2=> ?_⟩ (by grind)⟩
      ·dsimp only at hx w1 hy;rw[show m+1 - 1=m by omega,hpm]at hx;rw[<-Z4e hx];exact hhi k y (by omega) w2 hy
      ·dsimp only at s1 s2;refine h8 d' (((r1.trans r2).trans (r3.mono (Z4c _) (by omega))).trans (s1.mono (by omega) (Z4c _))) fun i j x y w1 w2 w3 hx hy=> ?_
       by_cases e1:i < m
       ·rw[s1.2 i (.inl (by omega))]at hx
        by_cases e2:j < m
        ·rw[s1.2 j (.inl (by omega))]at hy;exact r4 i j x y w1 w2 e2 hx hy
        ·have hxp:=hlo i x w1 e1 hx
         by_cases e3:j=m
         ·subst e3;rw[s1.2 j (.inl (by omega)),hpm]at hy;grind
         ·obtain⟨k',u1,u2,u3⟩:=s1.mem (by omega) w3 hy;exact hxp.trans (hhi k' y (by omega) u2 u3)
       ·by_cases e3:i=m
        ·subst e3;rw[s1.2 i (.inl (by omega)),hpm]at hx;rw[<-Z4e hx];obtain⟨k',u1,u2,u3⟩:=s1.mem (by omega) w3 hy;exact hhi k' y (by omega) u2 u3
        ·exact s2 i j x y (by omega) w2 w3 hx hy
     ·rw[ZnO,ZnN,show (m:Int)+1=((m+1:Nat):Int) by omega];have hlowr:Low (m+1) b d2:= .inr fun x hx k y w1 w2 hy=>by rw[show m+1 - 1=m by omega,q1]at hx;rw[<-Z4e hx];exact ZCZ (q3 k y (by omega) w2 hy)
      refine⟨ZnS (by omega),ZnU (IH (D:=d2) (by omega) (a0:=m+1) (b0:=b) (by omega) (by omega) (by omega) hlowr L0 L1) ?_⟩;rintro d3 ⟨r3,r4⟩;have hl3:=r3.len;haveI:=r3.gds;have hpm:d3[m]? =some p:=by rw[r3.2 m (.inl (by omega))];omega
      have hhi:∀k y,m < k->k < b->d3[k]? =some y->Le p y:=fun k y w1 w2 hy=>by obtain⟨k',u1,u2,u3⟩:=r3.mem (by omega) w2 hy;exact ZCZ (q3 k' y (by omega) u2 u3)
      have hlo:∀k y,a<=k->k < m->d3[k]? =some y->Le y p:=fun k y w1 w2 hy=>by rw[r3.2 k (.inl (by omega))]at hy;exact .of_lt (q2 k y w1 w2 hy)
      have r23:Rg a b d2 d3:=r3.mono (by omega) (Z4c _);refine ih (a,m,L,_,ap,d3) ⟨h1,m1,by grind,⟨L0,L1⟩,up d3 ((r1.trans r2).trans r23),(hlow2.rg r23).sub (show m<=b by omega),fun d' s1 s2=> ?_⟩ (by grind);dsimp only at s1 s2;refine h8 d' (((r1.trans r2).trans r23).trans (s1.mono (Z4c _) (by omega))) fun i j x y w1 w2 w3 hx hy=> ?_
      by_cases e2:j < m
      ·exact s2 i j x y w1 w2 e2 hx hy
      ·rw[s1.2 j (.inr (by omega))]at hy
       by_cases e1:i < m
       ·obtain⟨k',u1,u2,u3⟩:=s1.mem w1 e1 hx;have hxp:=hlo k' x u1 u2 u3
        by_cases e3:j=m
        ·grind
        ·exact hxp.trans (hhi j y (by omega) w3 hy)
       ·rw[s1.2 i (.inr (by omega))]at hx
        by_cases e3:i=m
        ·subst e3;rw[hpm]at hx;rw[<-Z4e hx];exact hhi j y (by omega) w3 hy
        ·exact r4 i j x y (by omega) w2 w3 hx hy
   have j4:∀(pv:Nat) (L:Int) (len:Int) (d1:List En1),a<=pv->pv < b->0<=L->L<=1000->len=((b - a:Nat):Int)->Rg a b d d1->
     wp (Zpe (ZnT n) (fun a1 a2 a3 a4 a5 a6=>rec (a1,a2,a3,a4,a5,a6)) (a:Int) (b:Int) L wb wq len (pv:Int) d1) (fun x=>∃d,x= .ret d/\Rg a0 b0 D d/\Srt a0 b0 d):=by
    intro pv L len d1 p1 p2 L0 L1 hlen r1;have hl1:=r1.len;haveI:=r1.gds;have hp:pv < d1.length:=by omega
    unfold Zpe
    by_cases ha:0 < a
    ·have ha1:a - 1 < d1.length:=by omega
     rw[decide_eq_true (show (a:Int) > 0 by omega),cond_true,show (a:Int) - 1=((a - 1:Nat):Int) by omega,ZnO,ZnO,Z3R,Z3R,Z3X ha1,ZnN,ZnL,ZnO,Z3X hp,ZnN,ZnL,ZA8,ZnN,ZnL];refine⟨ZnS (by omega),ZoP ha1,ZoP hp,j5 pv L len d1 _ p1 p2 L0 L1 hlen r1 fun hf=>⟨hp,ha1,ha, ?_⟩⟩;grind
    ·rw[decide_eq_false (show ¬(a:Int) > 0 by omega),cond_false];exact j5 pv L len d1 false p1 p2 L0 L1 hlen r1 fun h=>by grind
   have j2:∀(pv:Nat) (h L:Int) (len:Int) (d1:List En1),a<=pv->pv < b->0<=L->L<=1000->len=((b - a:Nat):Int)->Rg a b d d1->
     wp (Zpf (ZnT n) (fun a1 a2 a3 a4 a5 a6=>rec (a1,a2,a3,a4,a5,a6)) (a:Int) (b:Int) L wb wq len (pv:Int) h d1) (fun x=>∃d,x= .ret d/\Rg a0 b0 D d/\Srt a0 b0 d):=by
    intro pv h L len d1 p1 p2 L0 L1 hlen r1;have hl1:=r1.len;haveI:=r1.gds;have j3:∀f:Bool,wp (ZoB (ZnT n) (fun a1 a2 a3 a4 a5 a6=>rec (a1,a2,a3,a4,a5,a6)) (a:Int) (b:Int) L wb wq len (pv:Int) f d1) (fun x=>∃d,x= .ret d/\Rg a0 b0 D d/\Srt a0 b0 d):=by
     intro f;unfold ZoB;cases f with
     |false=>rw[cond_false];exact j4 pv L len d1 p1 p2 L0 L1 hlen r1
     |true=>
      rw[cond_true,ZnN];refine ZnU (ZN6 (D:=d1) (by omega) (by omega) (by omega) (h7.rg r1)) ?_;rintro⟨q,d2⟩ ⟨w1,w2⟩;dsimp only at w1 w2|-
      cases q with
      |true=>
       rw[cond_true,ZnL];exact⟨d2,rfl,up d2 (r1.trans w1),h8 d2 (r1.trans w1) (w2 rfl)⟩
      |false=>rw[cond_false];exact j4 pv L len d2 p1 p2 L0 L1 hlen (r1.trans w1)
    unfold Zpf;rw[Zn1];refine⟨fun _=> ?_,fun _=>j3 _⟩;rw[Zn1];exact⟨fun _=>j3 _,fun _=>j3 _⟩
   have j1:∀(L:Int) (d1:List En1),0<=L->L<=1000->Rg a b d d1->
     wp (Zpg (ZnT n) (fun a1 a2 a3 a4 a5 a6=>rec (a1,a2,a3,a4,a5,a6)) (a:Int) (b:Int) L wb wq ((b:Int) - (a:Int)) d1) (fun x=>∃d,x= .ret d/\Rg a0 b0 D d/\Srt a0 b0 d):=by
    intro L d1 L0 L1 r1;have hl1:=r1.len;haveI:=r1.gds;unfold Zpg;rw[ZnN];refine ZnU (ZSo (d:=d1) (by omega) (a:=a) (b:=b) (by omega) (by omega)) ?_;rintro _ ⟨pv,h,rfl,p1,p2⟩;dsimp only;rw[Zn1];refine⟨fun _=> ?_,fun _=>j2 pv h L _ d1 p1 p2 L0 L1 (by omega) r1⟩;rw[ZnN];refine ZnU (ZPw (D:=d1) (by omega) h2 (by omega)) ?_;intro d2 r2;rw[ZnO,ZnO,ZnO,show (b:Int) - 1 - ((pv:Int) - (a:Int))=((b - 1 - (pv - a):Nat):Int) by omega];exact⟨ZnS (by omega),ZnS (by omega),ZnS (by omega),j2 _ 1 L _ d2 (by omega) (by omega) L0 L1 (by omega) (r1.trans r2)⟩
   rw[Zn1];refine⟨fun _=> ?_,fun _=>j1 lim d h4 h5 (.refl _ _ _)⟩;rw[ZnN];refine ZnU (ZSV (D:=d) (by omega) (a:=a) (b:=b) (by omega) (by omega)) ?_;intro d1 r1;rw[ZnO];exact⟨ZnS (by omega),j1 (lim - 1) d1 (by omega) (by omega) r1⟩
  grind[ZnL]
end Go.Proofs
namespace Go.Proofs
open Go Eng
theorem lens:((Z39 201).all fun n:Nat=>match ZzU (IntKind.wrap .u64 (n:Int))with |some m=>decide (0<=m/\m<=1000) |none=>false)=true:=by kernel_rfl
theorem ZR8 {D:List En1} [Gds D] (hl:D.length<=200):wp (Zpb D) (fun r=>r.Perm D/\r.Pairwise Le):=by have h2:=Z3S.1 lens D.length (Z37.2 (by omega));split at h2;rotate_left;simp at h2;rename_i m hm;obtain⟨h3,h4⟩:=of_decide_eq_true h2;have key:=ZYw big (D:=D) hl (a0:=0) (b0:=D.length) (Nat.zero_le _) (Z4c _) (by grind[big_eq]) (.inl rfl) h3 h4;unfold Zpb Zq0;rw[hm,Z4d,ZnN,ZnN];refine ZnU key ?_;rintro r ⟨hr,hs⟩;rw[ZnL,ZnO,ZnL];refine⟨by rw[hr.len];simp,hr.1,List.pairwise_iff_getElem.2 fun i j hi hj hij=> ?_⟩;have:=hr.len;exact hs i j _ _ (Nat.zero_le _) hij (by omega) (Z3X hi) (Z3X hj)
end Go.Proofs
namespace Go.Proofs
open Go Eng
noncomputable def ZY9 (b:List (Str×Rat)) (a:Int) (i j:Nat) (l:List (Rat×Rat)):Option ZnX:=if sqN l then none else if 0 < scR l then some ⟨⟨a,(i:Int)⟩,⟨a,(j:Int)⟩,fOf (scR l),ZKe (cR l) 0,(l.length:Int)⟩else none
noncomputable def ZPS (c:List (Str×Rat)) (d:Int) (i j:Nat) (a b:G_api_Column):Option ZnX:=if i=j then none else ZY9 c d i j (prs c (ZpJ a.Cells b.Cells))
noncomputable def ZNP (b:List (Str×Rat)) (t:G_api_Table) (i:Nat) (a:G_api_Column) (m:Nat):List ZnX:=(Z39 m).filterMap fun j=>(t.Columns[j]?).bind (ZPS b t.ID i j a)
noncomputable def ZNO (b:List (Str×Rat)) (t:G_api_Table) (n:Nat):List ZnX:=(Z39 n).flatMap fun i=>match t.Columns[i]? with |some a=>ZNP b t i a t.Columns.length |none=>[]
noncomputable def ZKU (a:List (Str×Rat)) (l:List G_api_Table):List ZnX:=l.flatMap fun t=>ZNO a t t.Columns.length
theorem ZM5 (b:List (Str×Rat)) (t:G_api_Table) (i:Nat) (a:G_api_Column) (m:Nat) (h:m < t.Columns.length):ZNP b t i a (m+1)=ZNP b t i a m++(ZPS b t.ID i m a t.Columns[m]).toList:=by grind[ZNP,List.range_succ]
theorem ZMs (b:List (Str×Rat)) (t:G_api_Table) (i:Nat) (a:G_api_Column) (m:Nat):(ZNP b t i a m).length<=m:=Nat.le_trans (List.length_filterMap_le _ _) (by simp_all)
theorem ZLg (a:List (Str×Rat)) (t:G_api_Table) (n:Nat) (h:n < t.Columns.length):ZNO a t (n+1)=ZNO a t n++ZNP a t n t.Columns[n] t.Columns.length:=by grind[ZNO,List.range_succ]
theorem ZK2 (a:List (Str×Rat)) (t:G_api_Table) (b:t.Columns.length<=4):∀n,n<=t.Columns.length->(ZNO a t n).length<=4*n
 |0,_=>by simp[ZNO]
 |n+1,h=>by have c:=ZK2 a t b n (by omega);grind[ZMs,ZLg]
theorem ZNu (a:List (Str×Rat)) (l:List G_api_Table) (t:G_api_Table):ZKU a (l++[t])=ZKU a l++ZNO a t t.Columns.length:=by grind[ZKU]
theorem ZJK (a:List (Str×Rat)):∀l:List G_api_Table,(∀t∈l,t.Columns.length<=4)->(ZKU a l).length<=16*l.length
 | [],_=>by simp[ZKU]
 |t::l,h=>by
  have b:=h t (by simp);have e:=ZK2 a t b t.Columns.length (Z4c _);have c:=ZJK a l fun x d=>h x (by grind)
  grind[ZKU]
theorem ZOV {c:List (Str×Rat)} {t:G_api_Table} {i m:Nat} {a:G_api_Column} {x:ZnX} (h:x∈ZNP c t i a m):∃j b,t.Columns[j]? =some b/\ZPS c t.ID i j a b=some x:=by
 obtain⟨j,_,d⟩:=List.mem_filterMap.1 h;grind
theorem ZOO {c:List (Str×Rat)} {t:G_api_Table} {n:Nat} {x:ZnX} (h:x∈ZNO c t n):∃i j a b,t.Columns[i]? =some a/\t.Columns[j]? =some b/\ZPS c t.ID i j a b=some x:=by
 obtain⟨i,_,hi⟩:=List.mem_flatMap.1 h;grind[ZOV]
theorem ZML {c:List (Str×Rat)} {l:List G_api_Table} {x:ZnX} (h:x∈ZKU c l):∃t∈l,∃i j a b,t.Columns[i]? =some a/\t.Columns[j]? =some b/\ZPS c t.ID i j a b=some x:=by obtain⟨t,d,e⟩:=List.mem_flatMap.1 h;grind[ZOO]
theorem ZPi {c:List (Str×Rat)} {d:Int} {i j:Nat} {a b:G_api_Column} {x:ZnX} (h:ZPS c d i j a b=some x):x.Key=⟨d,(i:Int)⟩/\x.Value=⟨d,(j:Int)⟩:=by
 grind[ZPS,ZY9]
theorem ZKq {c:List (Str×Rat)} (d:ZHB c) {f:Int} {i j:Nat} {a b:G_api_Column} (g:a.Cells.length<=8) {x:ZnX} (h:ZPS c f i j a b=some x):Gdm x:=by
 have m:=d.len;have l:=ZMy (A:=c) (B:=ZpJ a.Cells b.Cells);have e:=ZO4 d (ZKQ (V:=b.Cells) g);unfold ZPS ZY9 at h;split at h
 ·grind
 ·split at h
  ·grind
  ·rename_i k;split at h;rotate_left;cases h;obtain rfl:=Z4e h;exact⟨_,rfl,ZQw (by omega) e k⟩
structure ZOD (l:List G_api_Table):Prop where
 len:l.length<=4
 cols:∀t∈l,t.Columns.length<=4/\(∀c∈t.Columns,c.Cells.length<=8/\Ztd c.Cells)/\∀a∈t.Columns,∀b∈t.Columns,a.Cells.length=b.Cells.length
 ids:∀(i j:Nat) (hj:j < l.length) (h:i < j),(l[i]'(by omega)).ID < l[j].ID
theorem ZOc {c:List (Str×Rat)} (e:ZHB c) {l:List G_api_Table} (k:ZOD l):Gds (ZKU c l):=⟨fun x d=>by obtain⟨t,g,i,j,a,b,f,_,h⟩:=ZML d;exact ZKq e ((k.cols t g).2.1 a (List.mem_of_getElem? f)).1 h⟩
theorem ZVA {c:List (Str×Rat)} {l:List G_api_Table} (e:ZOD l) {x y:ZnX} (m:x∈ZKU c l) (D:y∈ZKU c l) (f:x.Key=y.Key) (k:x.Value=y.Value):x=y:=by
 obtain⟨t,n,i,j,a,b,F,G,h⟩:=ZML m;obtain⟨J,d,H,E,I,K,B,s,r⟩:=ZML D;obtain⟨o,C⟩:=ZPi h;obtain⟨v,z⟩:=ZPi r;rw[o,v]at f;rw[C,z]at k;simp only[Zph.mk.injEq]at f k;obtain⟨p,w,rfl⟩:=List.getElem_of_mem n;obtain⟨q,A,rfl⟩:=List.getElem_of_mem d;have u:p=q:=by
  rcases Nat.lt_trichotomy p q with g |g |g
  ·have:=e.ids p q A g;omega
  ·omega
  ·have:=e.ids q p w g;omega
 grind
theorem ZVz {d:List (Str×Rat)} {l:List G_api_Table} (q:ZOD l) {H:List En1} (h:H.Perm (ZKU d l)) (i:H.Pairwise Le):H=ZtR ltJ (ZKU d l):=by
 refine ZI9 (fun x=>x∈ZKU d l) Le (fun a b m n e f=> ?_) (fun y g=>h.mem_iff.1 g) (h.trans (Zt8 _).symm) i ?_
 ·have k:=ZIa a b;unfold Le at e f;obtain⟨_,j,o⟩:=ZTt (a:=a) (b:=b) (by omega);grind[ZVA]
 ·refine ZGK (fun _=>True) Le (fun x p _ _ h=> ?_) (fun x p _ _ h=> ?_) (fun a b c _ _ _ e f=> ?_) _ fun _ _=>trivial
  ·grind[ltJ,Le]
  ·grind[ltJ,ZIa,Le]
  ·exact e.trans f
theorem ZN5 {q:Rat} (a:Sz 800 q):ZE9 (fOf q)=some (decide (0 < q)):=by
 unfold ZE9;rw[ZMp (a.wq (by decide)),Z4d];congr 1;rw[decide_eq_decide];have:=ZO0 q 0;have b:=ZMv 0 q;simp_all
theorem ZY7 {d:List (Str×Rat)} (s:ZHB d) {t:G_api_Table} (q:t.Columns.length<=4/\(∀c∈t.Columns,c.Cells.length<=8/\Ztd c.Cells)/\∀a∈t.Columns,∀b∈t.Columns,a.Cells.length=b.Cells.length) (k g m:Int) (l:List G_api_Table) {i:Nat} (hi:i < t.Columns.length) {e:List ZnX} (v:e.length<=1000):
  wp (ZtW big k (ens d) (i:Int) l g m t.Columns (t.Columns.length:Int) (i:Int) t.Columns (t.Columns.length:Int) 0 e t t.Columns[i]) (fun x=>x=(k,ens d,l,g,m,t.Columns,(t.Columns.length:Int),(i:Int),e++ZNP d t i t.Columns[i] t.Columns.length,t)):=by
 have G:=q.1;have E:=s.len;have n:=Z30 hi;have w:=q.2.1 _ n;refine Zr6 ZIN t.Columns (by omega) (fun j (o:List ZnX)=>(k,ens d,(i:Int),l,g,m,t.Columns,(t.Columns.length:Int),(i:Int),t.Columns,(t.Columns.length:Int),j,o,t,t.Columns[i])) (fun j o=>o=e++ZNP d t i t.Columns[i] j) e (by simp[ZNP]) ?_ ?_
 ·rintro z j o u rfl f;have p:=Z30 u;have F:=q.2.1 _ p;have C:=ZMs d t i t.Columns[i] j;rw[ZM5 d t i _ j u,<-Z3T]at f;have h:∀x:ZnX,Zi5 ((e++ZNP d t i t.Columns[i] j).length+[x].length) 112=true:=fun x=>ZsS (by grind)
  unfold ZC9 ZAo ZBV ZyJ;dsimp only;rw[decide_eq_true (show (j:Int) < (t.Columns.length:Int) by omega),cond_true,Zqc u,Z4d];unfold ZPS at f
  by_cases hij:i=j
  ·grind[ZnO,ZnS]
  ·rw[if_neg hij]at f;have y:=ZKQ (V:=t.Columns[j].Cells) w.1;rw[show ((i:Int) == (j:Int))=false by grind,cond_false,ZK9 w.2 F.2 (by omega) (q.2.2 _ n _ p),Z4d,ZNt s y,Z4d];have D:=ZMy (A:=d) (B:=ZpJ t.Columns[i].Cells t.Columns[j].Cells);have r:=ZO4 s y;generalize prs d (ZpJ t.Columns[i].Cells t.Columns[j].Cells)=L at D r f;rw[ZPh (by omega) r,Z4d,ZM1 (by omega) r,Z4d];unfold ZY9 at f;unfold sqR
   by_cases hn:sqN L
   ·grind[ZnO,ZnS]
   ·rw[if_neg hn]at f;rw[if_neg hn];dsimp only;rw[cond_true,ZN5 (ZQw (by omega) r hn),Z4d]
    by_cases h0:0 < scR L
    ·rw[if_pos h0]at f;rw[decide_eq_true h0,cond_true,h,chk_true,ZnO];exact⟨ZnS (by omega),f _ rfl⟩
    grind[ZnO,ZnS]
 grind[ZC9,ZAo,ZnL]
theorem ZY8 {d:List (Str×Rat)} (r:ZHB d) {t:G_api_Table} (p:t.Columns.length<=4/\(∀c∈t.Columns,c.Cells.length<=8/\Ztd c.Cells)/\∀a∈t.Columns,∀b∈t.Columns,a.Cells.length=b.Cells.length) (k f g:Int) (l:List G_api_Table) {e:List ZnX} (j:e.length<=900):
  wp (Zwm big k (ens d) l f g t.Columns (t.Columns.length:Int) 0 e t) (fun x=>x=(k,ens d,l,f,g,e++ZNO d t t.Columns.length)):=by
 have h:=p.1;refine Zr6 ZIO t.Columns (by omega) (fun i (o:List ZnX)=>(k,ens d,l,f,g,t.Columns,(t.Columns.length:Int),i,o,t)) (fun i o=>o=e++ZNO d t i) e (by simp[ZNO]) ?_ ?_
 ·rintro m i o hi rfl q;have n:=ZK2 d t h i (by omega);rw[ZLg d t i hi,<-Z3T]at q;unfold ZDa ZAp ZEQ;grind[Zqc,ZnN,ZnU,ZY7,ZnO,ZnS]
 grind[ZDa,ZAp,ZnL]
theorem ZVy {l:List G_api_Table} (c:ZOD l) (d:Zzo l=some true) {key value:G_api_Column} (m:Ztd key.Cells) (p:Ztd value.Cells) (r:key.Cells.length<=8) (j:key.Cells.length=value.Cells.length) {k:Int} (w:0<=k) (y:k<=1024):
  Zsv l key value k=some ((ZtR ltJ (ZKU (ZpJ key.Cells value.Cells) l)).take k.toNat,0):=by
 have u:=c.len;have f:=ZKQ (V:=value.Cells) r;refine Zps ?_;unfold Zsv Zsx ZtX;rw[decide_eq_false (show ¬k < 0 by omega),cond_false,decide_eq_false (show ¬k > 1024 by omega),cond_false,d,Z4d,Z3Q,cond_false,show ((key.Cells.length:Int) != (value.Cells.length:Int))=false by simp_all,cond_false,decide_eq_false (show ¬(key.Cells.length:Int) > 4096 by omega),cond_false,ZK9 m p (by omega) j,Z4d,ZnN];generalize ZpJ key.Cells value.Cells=a at f;refine ZnU (Zr6 ZIP l (by omega) (fun i (o:List ZnX)=>(k,ens a,l,(l.length:Int),i,o)) (fun i o=>o=ZKU a (l.take i)) (Q:=fun x=>x=(k,ZKU a l)) [] rfl ?_ ?_) ?_
 ·rintro n i o hi rfl s;have b:=ZJK a (l.take i) fun t h=>(c.cols t (List.mem_of_mem_take h)).1
  rw[Z35]at b;rw[Z4b hi,ZNu]at s;unfold ZDb ZAq ZEP;dsimp only;rw[decide_eq_true (show (i:Int) < (l.length:Int) by omega),cond_true,Zqc hi,Z4d,ZnN];refine ZnU (ZY8 f (c.cols _ (Z30 hi)) k (l.length:Int) (i:Int) l (by omega)) ?_;grind[ZnO,ZnS]
 ·grind[ZDb,ZAq,ZnL]
 ·rintro _ rfl;dsimp only;have b:=ZJK a l fun t h=>(c.cols t h).1
  haveI:=ZOc f c;obtain⟨H,q,d,v⟩:=ZR8 (D:=ZKU a l) (by omega);have g:=d.length_eq;have e:=ZVz c d v;unfold ZEO ZxU Zzf;rw[q,Z4d,Zpc (by omega),chk_true,Z4d,g];grind[chk_true,ZnL,List.take_of_length_le]
end Go.Proofs
namespace Go.Proofs
open Go Eng
theorem ZJR {d:ZnJ} (c:Zsy d) {l:List Str} (a:1<=l.length) (b:l.length<=1000):wp (Zou d l) (fun r=>r.1∈l/\Zsy r.2):=by
 grind[Zou,ZnN,ZBE,ZI7,ZnL]
def ZId:List Str:=[[97],[98],[99],[49],[50],[51],[49,48],[120],[45,49,46,53],[100],[],[49,46,50,46,51],[49,46,53,48]]++((Z39 12).map fun i:Nat=>Lib.itoa ((i:Int) - 3))++((Z39 14).map fun i:Nat=>([107]:Str)++Lib.itoa (i:Int))++
 [[105,100],[110,97,109,101],[85,110,105,116,32,80,114,105,99,101],[99,105,116,121],[117,110,105,116],[112,114,105,99,101],[105,100,50],[116],[111,114,100,101,114,115],[115,97,109,101]]
theorem ZOg:(ZId.all fun s=>ZJZ s&&decide (s.length<=10))=true:=by kernel_rfl
theorem ZKp {s:Str} (h:s∈ZId):ZJZ s=true/\s.length<=10:=by grind[ZOg]
def ZK0 (c:G_api_Cell):Prop:=c.Text∈ZId/\(c.Null=true->c.Text=[])
theorem ZMb:ZK0 ⟨true,[]⟩:=⟨by decide+kernel,fun _=>rfl⟩
theorem ZIC {s:Str} (h:s∈ZId):ZK0 ⟨false,s⟩:=⟨h,fun h=>by grind⟩
theorem ZPq {l:List Str} (h:l.all (fun s=>ZId.contains s)=true) {s:Str} (a:s∈l):s∈ZId:=by simp_all
def ZTg (n:Nat) (c:G_api_Column):Prop:=c.Name∈ZId/\c.Cells.length=n/\∀x∈c.Cells,ZK0 x
theorem ZYL {n:Int} (h: -3<=n/\n<=8):Lib.itoa n∈ZId:=by
 have a:((Z39 12).all fun i:Nat=>ZId.contains (Lib.itoa ((i:Int) - 3)))=true:=by kernel_rfl
 have:=Z3S.1 a (n+3).toNat (Z37.2 (by omega));grind
theorem k_d {n:Int} (h:0<=n/\n < 14):([107]:Str)++Lib.itoa n∈ZId:=by
 grind[ZId,Lib.itoa]
theorem ZVD {d:ZnJ} (f:Zsy d):wp (ZxP d) (fun r=>ZK0 r.1/\Zsy r.2):=by
 unfold ZxP;rw[ZnN];refine ZnU (ZBE f (by omega)) fun⟨q,h⟩ ⟨e,a⟩=> ?_
 dsimp only at e a|-
 rw[Zn1];refine⟨fun _=> ?_,fun _=> ?_⟩
 ·grind[ZnL,ZMb]
 ·rw[ZnN];refine ZnU (ZJR a (by decide) (by decide)) fun⟨s,g⟩ ⟨c,b⟩=> ?_
  dsimp only at c b|-
  rw[ZnL];exact⟨ZIC (ZPq (by decide+kernel) c),b⟩
theorem ZNc {d:ZnJ} (f:Zsy d):wp (Ztz d) (fun r=>ZK0 r.1/\Zsy r.2):=by
 unfold Ztz;rw[ZnN];refine ZnU (ZBE f (by omega)) fun⟨q,h⟩ ⟨e,a⟩=> ?_
 dsimp only at e a|-
 rw[Zn1];refine⟨fun _=> ?_,fun _=> ?_⟩
 ·grind[ZnL,ZMb]
 rw[Zn1];refine⟨fun _=> ?_,fun _=> ?_⟩
 ·rw[ZnN];refine ZnU (ZJR a (by decide) (by decide)) fun⟨s,g⟩ ⟨c,b⟩=> ?_
  dsimp only at c b|-
  rw[ZnL];exact⟨ZIC (ZPq (by decide+kernel) c),b⟩
 grind[ZnN,ZnU,ZBE,ZC0,ZnO,ZnL,ZnS,ZIC,ZYL]
theorem ZPL {n:Int} (h:0<=n/\n < 14):(Lib.itoa n).length<=2:=by
 have a:((Z39 14).all fun i:Nat=>decide ((Lib.itoa (i:Int)).length<=2))=true:=by kernel_rfl
 have:=of_decide_eq_true (Z3S.1 a n.toNat (Z37.2 (by omega)))
 grind
theorem ZLF {d:ZnJ} (hd:Zsy d) (rows:Nat) (hr:rows<=14):
  wp (ZrW d (rows:Int)) (fun r=>ZTg rows r.1/\Zsy r.2):=by
 unfold ZrW;rw[ZnN];refine ZnU (ZJR hd (by decide) (by decide)) fun⟨nm,d1⟩ ⟨hnm0,hd1⟩=> ?_
 dsimp only at hd1 hnm0|-
 have hnm:nm∈ZId:=ZPq (by decide+kernel) hnm0;rw[ZnN];refine ZnU (ZBE hd1 (by omega)) fun⟨kind,d2⟩ ⟨_,hd2⟩=> ?_
 dsimp only at hd2|-
 rw[ZnN];refine ZnU (Zva ZGY rows (by omega) (fun i (t:ZnJ×List G_api_Cell)=>(kind,(rows:Int),i,t.1,([]:Str),nm,([]:List G_api_Cell),t.2))
  (fun k t=>Zsy t.1/\t.2.length=k/\∀c∈t.2,ZK0 c) (Q:=fun x=>x.2.2.1=nm/\Zsy x.1/\x.2.2.2.2.length=rows/\∀c∈x.2.2.2.2,ZK0 c) (d2,[]) ⟨hd2,rfl,fun c hc=>absurd hc (by simp)⟩ ?_ ?_) ?_
 ·rintro rec k ⟨d,cs⟩ hk ⟨hd,hlen,hcs⟩ ih;dsimp only at hd hlen hcs ih;have next:∀(x:G_api_Cell) (d':ZnJ),ZK0 x->Zsy d'->wp (ZqD (fun kind t15 i d t4 c t4_1 c_1=>rec (kind,t15,i,d,t4,c,t4_1,c_1)) kind (rows:Int) (k:Int) d' [] nm x [] cs) (fun x=>x.2.2.1=nm/\Zsy x.1/\x.2.2.2.2.length=rows/\∀c∈x.2.2.2.2,ZK0 c):=by
   intro x d' hx hd';unfold ZqD;rw[ZnO,ZnO];refine⟨ZsS (by grind),ZnS (by omega),ih (d',cs++[x]) ⟨hd',by simp_all,fun c hc=> ?_⟩⟩;grind
  unfold Zza Zvs;dsimp only;rw[decide_eq_true (show (k:Int) < (rows:Int) by omega),cond_true,ZnN];refine ZnU (ZVD hd) fun⟨x,d3⟩ ⟨hx,hd3⟩=> ?_
  dsimp only at hx hd3|-
  rw[Zn1];refine⟨fun _=> ?_,fun _=> ?_⟩
  ·grind[ZnN,ZnU,ZNc]
  rw[Zn1];refine⟨fun _=> ?_,fun _=> ?_⟩
  ·grind[ZC0,ZPL,ZnO,Zq,ZIC,k_d]
  rw[Zn1];refine⟨fun _=> ?_,fun _=> ?_⟩
  ·rw[ZnN];exact ZnU (ZJR hd3 (by decide) (by decide)) fun⟨s,d4⟩ ⟨hs,hd4⟩=>next _ d4 (ZIC (ZPq (by decide+kernel) hs)) hd4
  simp_all
 ·grind[Zza,Zvs,ZnL]
 ·rintro⟨d,_,nm',_,cs⟩ ⟨h0,h1,h2,h3⟩;unfold ZAN;dsimp only at h0 h1 h2 h3|-
  subst h0;rw[ZnL];exact⟨⟨hnm,h2,h3⟩,h1⟩
end Go.Proofs
namespace Go.Proofs
open Go Eng
structure ZKt (t:G_api_Table):Prop where
 id:0<=t.ID/\t.ID<=1000
 name:t.Name∈ZId
 cols:t.Columns.length<=3
 rows:∃n:Nat,n<=6/\∀c∈t.Columns,ZTg n c
theorem ZSS {x:G_api_Cell} (h:ZK0 x):ZJP x=true:=by
 unfold ZJP;rw[(ZKp h.1).1,Bool.true_and];cases hn:x.Null with
 |false=>rfl
 |true=>rw[h.2 hn];rfl
theorem ZUu {t:G_api_Table} (h:ZKt t):ZGl t=true:=by
 obtain⟨n,m,f⟩:=h.rows;have b:=h.cols;have d:=h.id;unfold ZGl;have g:t.Columns≠[]->ZyC t=(n:Int):=fun k=>by
  unfold ZyC;cases hcs:t.Columns with
  |nil=>simp_all
  |cons c l=>rw[<-(f c (by simp_all)).2.1]
 have j:0<=ZyC t/\ZyC t<=6:=by
  grind[ZyC]
 rw[decide_eq_true d.1,decide_eq_true (show t.ID<=1073741824 by omega),(ZKp h.name).1,decide_eq_true (show (t.Columns.length:Int)<=64 by omega),decide_eq_true (show ZyC t<=4096 by omega)];simp only[Bool.true_and,Z3S];intro c a;have e:=f c a;unfold ZRf;rw[(ZKp e.1).1,g (List.ne_nil_of_mem a),e.2.1,Bool.true_and,beq_self_eq_true,Bool.true_and,Z3S];exact fun x i=>ZSS (e.2.2 x i)
theorem ZPp {t:G_api_Table} (h:ZKt t):ZJ3 t:=by obtain⟨n,e,b⟩:=h.rows;refine⟨by have:=(ZKp h.name).2;omega,fun c a=>⟨by have:=(ZKp (b c a).1).2;omega,fun x d=>by have:=(ZKp ((b c a).2.2 x d).1).2;omega⟩⟩
theorem ZLk {t:G_api_Table} (h:ZKt t):Zqp t=some true:=by have:=h.cols;grind[ZM2,ZPp,ZUu]
theorem ZR2 {d:ZnJ} (C:Zsy d) {e:Int} (j:0<=e/\e<=1000):wp (ZwS d e) (fun r=>(ZKt r.1/\r.1.ID=e)/\Zsy r.2):=by
 unfold ZwS;rw[ZnN];refine ZnU (ZJR C (by decide) (by decide)) ?_;rintro⟨u,H⟩ ⟨b,g⟩;dsimp only at b g|-
 have o:u∈ZId:=ZPq (by decide+kernel) b;rw[ZnN];refine ZnU (ZBE g (n:=7) (by omega)) ?_;rintro⟨q,G⟩ ⟨E,i⟩;dsimp only at E i|-
 obtain⟨n,rfl⟩:∃n:Nat,q=(n:Int):=⟨q.toNat,by omega⟩;rw[ZnN];refine ZnU (ZBE i (n:=3) (by omega)) ?_;rintro⟨q,D⟩ ⟨t,h⟩;dsimp only at t h|-
 obtain⟨m,B⟩:∃m:Nat,1+q=(m:Int):=⟨(1+q).toNat,by omega⟩;rw[B,ZnO,ZnN];refine⟨ZnS (by omega),ZnU (Zpm ZHs (fun s:Nat×ZnJ×List G_api_Column=>((n:Int),(s.1:Int),s.2.1,(0:Int),([]:Str),e,u,([]:List G_api_Column),s.2.2))
  (fun s=>Zsy s.2.1/\s.2.2.length+s.1=m/\∀c∈s.2.2,ZTg n c) (fun s=>s.1)
  (Q:=fun x=>∃d f,x=(d,(0:Int),([]:Str),e,u,([]:List G_api_Column),f)/\Zsy d/\f.length<=3/\∀c∈f,ZTg n c) (m,D,[]) ⟨h,by simp,fun c l=>absurd l (by simp)⟩ (by omega) ?_) ?_⟩
 ·rintro A ⟨k,d,f⟩ ⟨p,w,v⟩ y;dsimp only at p w v y;unfold ZD7 ZzN;dsimp only
  by_cases hk:0 < k
  ·rw[decide_eq_true (show (k:Int) > 0 by omega),cond_true,ZnN];refine ZnU (ZLF p n (by omega)) ?_;rintro⟨c,z⟩ ⟨l,a⟩;dsimp only at l a|-
   rw[ZnO,ZnO,show (k:Int) - 1=((k - 1:Nat):Int) by omega];refine⟨ZsS (by grind),ZnS (by omega),y (k - 1,z,f++[c]) ⟨a,by grind,fun x F=> ?_⟩ (by omega)⟩;grind
  grind[ZnL]
 ·rintro _ ⟨d,f,rfl,p,w,v⟩;unfold ZBx ZxE;dsimp only;rw[ZnN];refine ZnU (ZBE p (n:=15) (by omega)) ?_;rintro⟨q,z⟩ ⟨_,a⟩;dsimp only at a|-
  rw[Zn1];refine⟨fun _=> ?_,fun _=> ?_⟩
  ·rw[ZnL];exact⟨⟨⟨j,o,by simp,0,by omega,fun c l=>absurd l (by simp)⟩,rfl⟩,a⟩
  ·rw[ZnL];exact⟨⟨⟨j,o,w,n,by omega,v⟩,rfl⟩,a⟩
theorem ZRe {t:G_api_Table} (h:ZKt t):ZvF t=some t:=by
 obtain⟨n,g,c⟩:=h.rows;have j:=h.cols;refine Zps ?_;unfold ZvF;rw[ZnN];refine ZnU (Zr6 ZGQ t.Columns (by omega) (fun i (a:List G_api_Column)=>(t.Columns,(t.Columns.length:Int),i,(0:Int),([]:Str),t.ID,t.Name,([]:List G_api_Column),a)) (fun k a=>a=t.Columns.take k)
  (Q:=fun x=>x=((0:Int),([]:Str),t.ID,t.Name,([]:List G_api_Column),t.Columns)) [] rfl ?_ ?_) ?_
 ·rintro d k a b rfl f;unfold ZyP Zvd;dsimp only;have e:=c _ (Z30 b);rw[decide_eq_true (show (k:Int) < (t.Columns.length:Int) by omega),cond_true,Zqc b,Z4d,ZnO,ZnO,ZnO];refine⟨ZsS (by rw[e.2.1];omega),ZsS (by grind),ZnS (by omega),f _ (Z4b b).symm⟩
 all_goals simp_all[ZyP,Zvd,ZnL,ZAy]
theorem ZPC {t:G_api_Table} (h:ZKt t) {l:List Int} (u:l.length<=3) (o:∀k∈l,0<=k/\k < (t.Columns.length:Int)):wp (ZwC t l) (fun r=>ZKt r.1/\r.1.ID=t.ID):=by
 obtain⟨n,p,f⟩:=h.rows;have d:=h.cols;unfold ZwC;rw[ZLk h,Z4d,Z3Q,cond_false,ZnN];refine ZnU (Zr6 ZFR l (by omega) (fun i (a:List G_api_Column)=>(l,l,(l.length:Int),i,t,(0:Int),([]:Str),t.ID,t.Name,([]:List G_api_Column),a)) (fun k a=>a.length=k/\∀c∈a,ZTg n c)
  (Q:=fun x=>∃a,x= .brk (l,(0:Int),([]:Str),t.ID,t.Name,([]:List G_api_Column),a)/\a.length<=3/\∀c∈a,ZTg n c) [] ⟨rfl,fun c f=>absurd f (by simp)⟩ ?_ ?_) ?_
 ·rintro m k a b ⟨g,j⟩ s;unfold Zw7 Zto ZuH;dsimp only;have q:=o _ (Z30 b);have e:(l[k]).toNat < t.Columns.length:=by omega
  rw[decide_eq_true (show (k:Int) < (l.length:Int) by omega),cond_true,Zqc b,Z4d,decide_eq_false (show ¬l[k] < 0 by omega),cond_false,decide_eq_false (show ¬l[k]>=(t.Columns.length:Int) by omega),cond_false,ZhT q.1 e,Z4d,ZnO,ZnO];grind[ZsS,Z34,ZnS]
 ·grind[Zw7,Zto,ZnL]
 ·rintro _ ⟨a,rfl,g,j⟩;dsimp only;unfold Zyp;rw[decide_eq_false (show ¬(l.length:Int) > 64 by omega),cond_false,ZnL];exact⟨⟨h.id,h.name,g,n,p,j⟩,rfl⟩
theorem ZQv {t:G_api_Table} (h:ZKt t) {l:List Int} (J:l.length<=6) (H:∀k∈l,0<=k/\k < ZyC t):wp (Zxs t l) (fun r=>ZKt r.1/\r.1.ID=t.ID):=by
 obtain⟨n,K,f⟩:=h.rows;have z:=h.cols;unfold Zxs;rw[ZLk h,Z4d,Z3Q,cond_false,ZnN];refine ZnU (Zr6 ZF6 l (by omega) (fun i (_:Unit)=>(l,l,(l.length:Int),i,t,(0:Int),([]:Str),([]:List G_api_Column))) (fun _ _=>True)
  (Q:=fun x=>x= .brk (l,t,(0:Int),([]:Str),([]:List G_api_Column))) () trivial ?_ ?_) ?_
 ·rintro q k _ m _ v;unfold ZxN Zt1 Zvp;dsimp only;have L:=H _ (Z30 m);rw[decide_eq_true (show (k:Int) < (l.length:Int) by omega),cond_true,Zqc m,Z4d,decide_eq_false (show ¬l[k] < 0 by omega),cond_false,ZOU,Z4d,decide_eq_false (show ¬l[k]>=ZyC t by omega),cond_false,ZnO];exact⟨ZnS (by omega),v () trivial⟩
 ·grind[ZxN,Zt1,ZnL]
 ·rintro _ rfl;dsimp only;unfold Zy2;rw[decide_eq_false (show ¬(l.length:Int) > 4096 by omega),cond_false,ZnN];have w:∀c∈t.Columns,∀k∈l,∃g:k.toNat < c.Cells.length,0<=k:=fun c e k s=>by
   have:=H k s;have M:ZyC t=(n:Int):=by
    unfold ZyC;cases hcs:t.Columns with
    |nil=>simp_all
    |cons c l=>rw[<-(f c (by simp_all)).2.1]
   have A:=(f c e).2.1;simp_all
  refine ZnU (Zr6 ZF5 t.Columns (by omega) (fun i (a:List G_api_Column)=>(l,t.Columns,(t.Columns.length:Int),i,(0:Int),([]:Str),t.ID,t.Name,([]:List G_api_Column),a)) (fun k a=>a.length=k/\∀c∈a,ZTg l.length c)
   (Q:=fun x=>∃a,x=((0:Int),([]:Str),t.ID,t.Name,([]:List G_api_Column),a)/\a.length<=3/\∀c∈a,ZTg l.length c) [] ⟨rfl,fun c f=>absurd f (by simp)⟩ ?_ ?_) ?_
  ·rintro q i a hi ⟨G,A⟩ v;unfold ZxM Zt0;dsimp only;obtain⟨c,b⟩:∃c,c=t.Columns[i]:=⟨_,rfl⟩;have e:c∈t.Columns:=b▸Z30 hi;have C:=f c e;rw[decide_eq_true (show (i:Int) < (t.Columns.length:Int) by omega),cond_true,Zqc hi,Z4d,<-b,ZnN];refine ZnU (Zr6 ZF4 l (by omega) (fun j (d:List G_api_Cell)=>(l,t.Columns,(t.Columns.length:Int),(i:Int),l,(l.length:Int),j,(0:Int),([]:Str),t.ID,t.Name,c,c.Name,([]:List G_api_Column),a,d)) (fun k d=>d.length=k/\∀x∈d,ZK0 x)
    (Q:=fun y=>∃d,y=(l,t.Columns,(t.Columns.length:Int),(i:Int),(0:Int),([]:Str),t.ID,t.Name,c.Name,([]:List G_api_Column),a,d)/\d.length=l.length/\∀x∈d,ZK0 x) [] ⟨rfl,fun c f=>absurd f (by simp)⟩ ?_ ?_) ?_
   ·rintro E j d D ⟨B,F⟩ u;unfold ZxL ZtZ;dsimp only;obtain⟨g,I⟩:=w c e _ (Z30 D);rw[decide_eq_true (show (j:Int) < (l.length:Int) by omega),cond_true,Zqc D,Z4d,ZhT I g,Z4d,ZnO,ZnO];refine⟨ZsS (by grind),ZnS (by omega),u _ ⟨by simp_all,fun x o=> ?_⟩⟩;rcases Z36.1 o with o |o
    ·simp_all
    ·rw[Z38.1 o];exact C.2.2 _ (Z30 _)
   ·grind[ZxL,ZtZ,ZnL]
   ·rintro _ ⟨d,rfl,B,F⟩;unfold Zy1;dsimp only;rw[ZnO,ZnO];refine⟨ZsS (by grind),ZnS (by omega),v _ ⟨by simp_all,fun y p=> ?_⟩⟩;rcases Z36.1 p with p |p
    ·simp_all
    ·rw[Z38.1 p];exact⟨C.1,B,F⟩
  ·grind[ZxM,Zt0,ZnL]
  ·rintro _ ⟨a,rfl,G,A⟩;dsimp only;unfold Zy0;rw[ZnL];exact⟨⟨h.id,h.name,G,l.length,J,A⟩,rfl⟩
end Go.Proofs
